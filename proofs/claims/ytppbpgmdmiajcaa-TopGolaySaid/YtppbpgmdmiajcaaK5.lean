/-
  sync.Once's Do, told by hand: not yet done and the lock free, it calls what it is given, and lays 'done'. No condition. sync.Once's Do in the small machine: its code, and that it is true to the model. ..
-/
import Derived.Test.YtppbpgmdmiajcaaK0
import Derived.Test.YtppbpgmdmiajcaaK2
import Derived.Test.YtppbpgmdmiajcaaProg
import Derived.Tactics
import Derived.Tactics2
import Derived.Defers
import Derived.Laws.Pointers
import Derived.Laws.LoneSync
import Derived.Laws.NewBlocks
import Derived.RegionTactic
import Derived.RegionCalls
import Derived.ChangeAlike
import Derived.Shelf.Slices.Cells
set_option linter.unusedVariables false
set_option linter.unusedSimpArgs false
set_option linter.unusedSectionVars false
set_option maxRecDepth 100000
namespace Go.Proofs.Ytppbpgmdmiajcaa
open Go.Am
set_option maxHeartbeats 1600000
theorem disable(w:World):(callFunc 85 #[]).run Try.prog w= .ok (.value (.tuple #[])) w:=run_call_mark0 Try.func85 (by kernel_rfl) (by kernel_rfl) (by kernel_rfl) .disable (by kernel_rfl) w
theorem enable(w:World):(callFunc 87 #[]).run Try.prog w= .ok (.value (.tuple #[])) w:=run_call_mark0 Try.func87 (by kernel_rfl) (by kernel_rfl) (by kernel_rfl) .enable (by kernel_rfl) w
theorem acquire(a:Addr)(w:World):(callFunc 88 #[.pointer (some a)]).run Try.prog w= .ok (.value (.tuple #[])) w:=run_call_marked Try.func88 (by kernel_rfl) (by kernel_rfl) (by kernel_rfl) .acquire (by kernel_rfl) a w
theorem releaseMerge(a:Addr)(w:World):(callFunc 90 #[.pointer (some a)]).run Try.prog w= .ok (.value (.tuple #[])) w:=run_call_marked Try.func90 (by kernel_rfl) (by kernel_rfl) (by kernel_rfl) .releaseMerge (by kernel_rfl) a w
theorem g53(a:Addr)(x:Value)(u:FrameMode)(w:World)(hc:w.cell? a=some x)(hz:w.frozen? a=false):
 CallsD Try.prog 78 #[.pointer (some a), .bool true] u w fun e u' w'=>u'=u∧(e= .returned (.tuple #[])∧w'=w.drew.setCell a (.int .u32 1)):=by
 have hc':w.drew.cell? a=some x:=by go_simp
 have hz':w.drew.frozen? a=false:=by go_simp
 have hst:=run_call_store (P:=Try.prog) Try.func82 (by kernel_rfl) (by kernel_rfl) (by kernel_rfl) (by kernel_rfl) (k:= .u32) (y:=1) hc' hz'
 go_enter_d Try.func78,Try.ntmps78
 go_wp2
 go_region_calls
 all_goals (go_end0;exact⟨rfl,rfl⟩)
theorem fv3(a:Addr)(u:FrameMode)(w:World)(hc:w.cell? a=some (.int .i32 1))(hz:w.frozen? a=false):
 CallsD Try.prog 77 #[.pointer (some a)] u w fun e u' w'=>u'=u∧(e= .returned (.tuple #[])∧w'=w.setCell a (.int .i32 0)):=by
 have hd:=disable
 have he:=enable
 have hr:=releaseMerge
 have hadd:=run_call_add (P:=Try.prog) Try.func91 (by kernel_rfl) (by kernel_rfl) (by kernel_rfl) .i32 (by kernel_rfl) (y:= -1) (s:=0) hc hz (by simp[go_sem];rfl)
 have hcv:=run_convert_to_unsafe (P:=Try.prog) (src:=117) (dst:=121) Try.underlying117 Try.underlying121 (by kernel_rfl) hc
 go_enter_d Try.func77,Try.ntmps77
 go_wp2
 go_end0
 go_wp2
 go_end0
 exact⟨rfl,rfl⟩
theorem gu1(a:Addr)(w:World)(hc:w.cell? a=some (.int .i32 0))(hz:w.frozen? a=false):
 Calls Try.prog 76 #[.pointer (some a)] w fun e w'=>e= .returned (.tuple #[])∧w'=w.setCell a (.int .i32 1):=by
 have hd:=disable
 have he:=enable
 have ha:=acquire
 have hcas:=run_call_cas_hit (P:=Try.prog) Try.func86 (by kernel_rfl) (by kernel_rfl) (by kernel_rfl) .i32 (by kernel_rfl) (y:=1) hc hz
 have hc':(w.setCell a (.int .i32 1)).cell? a=some (.int .i32 1):=World.cell?_setCell_same w a _ hc
 have hcv:=run_convert_to_unsafe (P:=Try.prog) (src:=117) (dst:=121) Try.underlying117 Try.underlying121 (by kernel_rfl) hc'
 go_enter Try.func76,Try.ntmps76
 go_wp2
 first|go_end0|(simp only[Exit.inBlock,Exit.then];refine bodyPost_ret (results_none rfl _ _ _) rfl ?_)|refine bodyPost_ret (results_none rfl _ _ _) rfl ?_
 go_wp2
 go_end0
 exact⟨rfl,rfl⟩
theorem fq8(b off:Nat)(k:FuncId)(cap:Array Value)(w:World)(R:World→Prop)
 (hk: ∀w:World,(callFunc k cap).run Try.prog w= .ok (.enter k cap) w)
 (h0:w.cell? ⟨b,off,none⟩=some (.int .u32 0)) (h1:w.cell? ⟨b,off+1,none⟩=some (.int .i32 0)) (f1:w.frozen? ⟨b,off+1,none⟩=false)
 (hc:Calls Try.prog k cap (w.setCell ⟨b,off+1,none⟩ (.int .i32 1)) fun e w'=>(∃v,e= .returned v)∧w'.cell? ⟨b,off,none⟩=some (.int .u32 0)∧w'.cell? ⟨b,off+1,none⟩=some (.int .i32 1)∧w'.frozen? ⟨b,off,none⟩=false∧w'.frozen? ⟨b,off+1,none⟩=false∧R w'):
 Calls Try.prog 67 #[.pointer (some ⟨b,off,none⟩), .func (.func k) #[] cap] w fun e w'=>e= .returned (.tuple #[])∧
  ∃w2,R w2∧w'=(w2.drew.setCell ⟨b,off,none⟩ (.int .u32 1)).setCell ⟨b,off+1,none⟩ (.int .i32 0):=by
 have hl:=run_call_load (P:=Try.prog) Try.func75 (by kernel_rfl) (by kernel_rfl) (by kernel_rfl) .u32 (by kernel_rfl) (w:=w.setCell ⟨b,off+1,none⟩ (.int .i32 1)) (a:=⟨b,off,none⟩) (x:=0) ((World.cell?_setCell_other _ ⟨b,off+1,none⟩ ⟨b,off,none⟩ _ (by simp)).trans h0)
 have hnot: ∀(x:Bool) (w:World),(Op.unary .not (.bool x)).run Try.prog w= .ok (.bool (!x)) w:=fun _ _=>rfl
 go_enter_defers Try.func67,Try.ntmps67
 go_wp2_with (go_at_call 76;refine(gu1 ⟨b,off+1,none⟩ _ (by go_simp) (by go_simp)).mono ?_;rintro e w' ⟨rfl,rfl⟩)
 go_wp2
 refine hc.mono ?_
 rintro e w' ⟨⟨v,rfl⟩,c0,c1,z0,z1,hR⟩
 go_wp2
 --two deferred calls,the last laid first
 refine leaves_cons (f:=78) (args:= #[.pointer (some ⟨b,off,none⟩), .bool true]) (by simp) (by simp[go_sem]) ?_
 refine(g53 ⟨b,off,none⟩ (.int .u32 0) .returning _ c0 z0).mono ?_
 rintro e u' w'' ⟨rfl,rfl,rfl⟩
 refine leaves_cons (f:=77) (args:= #[.pointer (some ⟨b,off+1,none⟩)]) (by simp[settle]) (by simp[go_sem]) ?_
 refine(fv3 ⟨b,off+1,none⟩ _ _ ?_ (by simp[z1])).mono ?_
 ·refine(World.cell?_setCell_other _ ⟨b,off,none⟩ ⟨b,off+1,none⟩ _ (by simp)).trans ?_
  rw[World.cell?_drew]
  exact c1
 rintro e u' w'' ⟨rfl,rfl,rfl⟩
 simp[Leaves,settle,results,Try.results67]
 exact⟨_,hR,rfl⟩
theorem hi5(b off:Nat)(k:FuncId)(cap:Array Value)(w:World)(R:World→Prop)
 (hk: ∀w:World,(callFunc k cap).run Try.prog w= .ok (.enter k cap) w)
 (h0:w.cell? ⟨b,off,none⟩=some (.int .u32 0)) (h1:w.cell? ⟨b,off+1,none⟩=some (.int .i32 0)) (f1:w.frozen? ⟨b,off+1,none⟩=false)
 (hc:Calls Try.prog k cap (w.setCell ⟨b,off+1,none⟩ (.int .i32 1)) fun e w'=>(∃v,e= .returned v)∧w'.cell? ⟨b,off,none⟩=some (.int .u32 0)∧w'.cell? ⟨b,off+1,none⟩=some (.int .i32 1)∧w'.frozen? ⟨b,off,none⟩=false∧w'.frozen? ⟨b,off+1,none⟩=false∧R w'):
 Calls Try.prog 45 #[.pointer (some ⟨b,off,none⟩), .func (.func k) #[] cap] w fun e w'=>e= .returned (.tuple #[])∧
  ∃w2,R w2∧w'=(w2.drew.setCell ⟨b,off,none⟩ (.int .u32 1)).setCell ⟨b,off+1,none⟩ (.int .i32 0):=by
 have hl:=run_call_load (P:=Try.prog) Try.func75 (by kernel_rfl) (by kernel_rfl) (by kernel_rfl) .u32 (by kernel_rfl) h0
 have hnot: ∀(x:Bool) (w:World),(Op.unary .not (.bool x)).run Try.prog w= .ok (.bool (!x)) w:=fun _ _=>rfl
 go_enter Try.func45,Try.ntmps45
 go_wp2_with (first|(go_at_call 67;refine(fq8 b off k cap _ R hk h0 h1 f1 hc).mono ?_;rintro e w' ⟨rfl,h⟩)|(go_at_call 66;go_in))
 go_end0
 exact⟨rfl,h⟩
end Go.Proofs.Ytppbpgmdmiajcaa
namespace Go.Am
open Go.RowKit (Below)
theorem mr0{T:Tab}{g:List ARes→List It→Fr→H→Res}{n0:Nat}{o:AOper}{l:List AOper}{fr:Fr}{h:H}{r:Fr×H}(hr:gf4 T g n0 (o::l) fr h=some r):
 ∃v h1,core T g n0 o fr h=some (v,h1)∧gf4 T g n0 l (fr.put o.dst v) h1=some r:=by
 simp only[gf4]at hr
 split at hr
 ·rename_i fr' h' hs
  unfold km6 at hs
  split at hs
  ·rename_i v h1 hc
   cases hs
   exact⟨_,_,hc,hr⟩
  ·cases hs
 ·cases hr
theorem hp3{T:Tab}{g:List ARes→List It→Fr→H→Res}{n0:Nat}{d:Option Nat}{op:AOp}{fr:Fr}{h:H}{r:Option Value×H}(hop:(∀f a,op≠ .call f a)∧ ∀x a,op≠ .calld x a)(hr:core T g n0 ⟨d,op,none,false⟩ fr h=some r):aop fr h op=some r:=by
 unfold core at hr
 simp only[gd]at hr
 cases op<;>simp_all [wb6]
theorem HR.set1{P:Program}{φ:Ren}{B:Nat→Prop}{h h':H}{w:World}(hh:HR φ B h w){o off:Nat}{k:IntKind}{n:Int}(hm:(φ o).mp=false)(hs:h.sts o off [.int k n]=some h'):
 HR φ B h' (w.setCell ⟨(φ o).blk,(φ o).sh+off,none⟩ (.int k n))∧h'.length=h.length∧Bel B w (w.setCell ⟨(φ o).blk,(φ o).sh+off,none⟩ (.int k n)):=by
 obtain⟨w',h1,h2,h3,h4⟩:=hh.stores (P:=P) hm hs (vs':=[.int k n]) (LR.cons (.int k n) (LR.nil _ _)) (by simp[Value.oneCell'])
 obtain⟨r,hr,ho,hfit,rfl⟩:=cr9 hs
 obtain⟨_,_,_,cur,g4,_,_⟩:=hh.own o r hr ho hm
 have hlt:off<r.cells.length:=by simp at hfit;omega
 obtain⟨u,hu,_⟩:=hh.cell hr hm (wu3 hlt)
 have hf:w.frozen? ⟨(φ o).blk,(φ o).sh+off,none⟩=false:=by simp[World.frozen?,g4]
 have h5:(storeCells ⟨(φ o).blk,(φ o).sh+off,none⟩ [Value.int k n]).run P w= .ok () (w.setCell ⟨(φ o).blk,(φ o).sh+off,none⟩ (.int k n)):=by
  simp[storeCells,Addr.add,run_store_int,stored,hf,hu]
 rw[h1]at h5
 cases h5
 exact⟨h2,h3,h4⟩
end Go.Am
namespace Go.Am
theorem ua5{fr:Fr}{h h1:H}{s:Nat}{v:Option Value}(hr:aop fr h (.ld false 1 (.tmp s))=some (v,h1)):
 ∃a:Addr,fr s=some (.pointer (some a))∧a.spot=none∧(∃u,h.ld1 a.block a.off=some u∧v=some u)∧h1=h:=by
 simp only[aop,ev]at hr
 split at hr
 ·rename_i a ha
  split at hr
  ·cases hr
  ·rename_i hs
   split at hr
   ·rename_i u hu
    cases hr
    exact⟨a,ha,by simpa using hs,⟨u,hu,rfl⟩,rfl⟩
   ·cases hr
 ·cases hr
theorem eq_inv{fr:Fr}{h h1:H}{s:Nat}{k:IntKind}{c:Int}{v:Option Value}(hr:aop fr h (.bin .eql (.tmp s) (.const (.int k c)))=some (v,h1)):
 ∃x:Int,fr s=some (.int k x)∧v=some (.bool (decide (x=c)))∧h1=h:=by
 simp only[aop,ev,closed,tc5,oo9]at hr
 split at hr
 ·rename_i a b ha hb
  cases hb
  split at hr
  ·rename_i u hu
   cases hr
   unfold abin at hu
   split at hu
   ·rename_i e1
    cases e1
    simp only at hu
    split at hu
    ·rename_i e2
     subst e2
     cases hu
     exact⟨_,ha,rfl,rfl⟩
    ·cases hu
   ·rename_i e1;cases e1
   ·cases hu
  ·cases hr
 ·cases hr
theorem pq1{fr:Fr}{h h1:H}{c a b:Nat}{t:Bool}{v:Option Value}(hr:aop fr h (.pick (.tmp c) (.tmp a) (.tmp b))=some (v,h1))(hc:fr c=some (.bool t))(hb:fr b=none):t=true∧(∃u,v=some u)∧h1=h:=by
 cases t with
 |true=>
  simp only[aop,ev,hc,oo9]at hr
  split at hr
  ·cases hr;exact⟨rfl,⟨_,rfl⟩,rfl⟩
  ·cases hr
 |false=>
  have:aop fr h (.pick (.tmp c) (.tmp a) (.tmp b))=none:=by simp[aop,ev,hc,hb]
  rw[this]at hr;cases hr
theorem mi5{fr:Fr}{h h1:H}{s off:Nat}{v:Option Value}(hr:aop fr h (.faddr off (.tmp s))=some (v,h1)):
 ∃a:Addr,fr s=some (.pointer (some a))∧a.spot=none∧v=some (.pointer (some ⟨a.block,a.off+off,none⟩))∧h1=h:=by
 simp only[aop,ev]at hr
 split at hr
 ·rename_i a ha
  split at hr
  ·cases hr
  ·rename_i hs
   cases hr
   exact⟨a,ha,by simpa using hs,rfl,rfl⟩
 ·cases hr
theorem m60{fr:Fr}{h h1:H}{s:Nat}{k:IntKind}{c:Int}{v:Option Value}(hr:aop fr h (.st 1 (.tmp s) (.const (.int k c)))=some (v,h1)):
 ∃a:Addr,fr s=some (.pointer (some a))∧a.spot=none∧h.sts a.block a.off [.int k c]=some h1∧v=none:=by
 simp only[aop,ev,closed,tc5,oo9]at hr
 split at hr
 ·rename_i a u ha hu
  cases hu
  split at hr
  ·cases hr
  ·rename_i hs
   simp only[Value.cells]at hr
   split at hr
   ·rename_i h2 h3
    cases hr
    exact⟨a,ha,by simp at hs;exact hs.1.1,h3,rfl⟩
   ·cases hr
 ·cases hr
theorem as2{T:Tab}{g:List ARes→List It→Fr→H→Res}{n0 s:Nat}{d:Option Nat}{fr:Fr}{h h1:H}{v:Option Value}(hr:core T g n0 ⟨d, .calld (.tmp s) [],none,false⟩ fr h=some (v,h1)):
 ∃k first cap u,fr s=some (.func (.func k) first cap)∧first.isEmpty=true∧enter T g k cap.toList h=some (u,h1)∧v=some u:=by
 unfold core at hr
 simp only[gd,evs,ev]at hr
 split at hr
 ·rename_i f first cap vs h1 h2
  cases h2
  split at hr
  ·rename_i he
   split at hr
   ·rename_i u h2 h3
    cases hr
    exact⟨f,first,cap,u,h1,he,by simpa using h3,rfl⟩
   ·cases hr
  ·cases hr
 ·cases hr
abbrev op0(d:Option Nat)(o:AOp):AOper:=⟨d,o,none,false⟩
def cDo:ACode:= .region [op0 (some 2) (.ld false 1 (.tmp 0)),op0 (some 3) (.bin .eql (.tmp 2) (.const (.int .u32 0))),op0 (some 3) (.pick (.tmp 3) (.tmp 0) (.tmp 99)),
 op0 (some 4) (.faddr 1 (.tmp 0)),op0 (some 5) (.ld false 1 (.tmp 4)),op0 (some 3) (.bin .eql (.tmp 5) (.const (.int .i32 0))),op0 (some 3) (.pick (.tmp 3) (.tmp 0) (.tmp 99)),
 op0 none (.st 1 (.tmp 4) (.const (.int .i32 1))),op0 (some 6) (.calld (.tmp 1) []),
 op0 (some 7) (.ld false 1 (.tmp 0)),op0 (some 3) (.bin .eql (.tmp 7) (.const (.int .u32 0))),op0 (some 3) (.pick (.tmp 3) (.tmp 0) (.tmp 99)),
 op0 (some 8) (.ld false 1 (.tmp 4)),op0 (some 3) (.bin .eql (.tmp 8) (.const (.int .i32 1))),op0 (some 3) (.pick (.tmp 3) (.tmp 0) (.tmp 99)),
 op0 none (.st 1 (.tmp 0) (.const (.int .u32 1))),op0 none (.st 1 (.tmp 4) (.const (.int .i32 0)))]
def FDo:AFun:=⟨cDo,2,10,[]⟩
end Go.Am
namespace Go.Proofs.Ytppbpgmdmiajcaa
open Go.Am Go.RowKit
theorem n60{φ:Ren}{B:Nat→Prop}{h:H}{w:World}(hH:HR φ B h w){o off:Nat}{k:IntKind}{n:Int}(hm:(φ o).mp=false)(hl:h.ld1 o off=some (.int k n)):w.cell? ⟨(φ o).blk,(φ o).sh+off,none⟩=some (.int k n):=by
 unfold H.ld1 at hl
 split at hl
 ·rename_i r hr
  obtain⟨u,h1,h2⟩:=hH.cell hr hm hl
  cases h2
  exact h1
 ·cases hl
theorem r92{φ:Ren}{B:Nat→Prop}{h h':H}{w:World}(hH:HR φ B h w){o off:Nat}{vs:List Value}(hm:(φ o).mp=false)(hs:h.sts o off vs=some h')(i:Nat):w.frozen? ⟨(φ o).blk,i,none⟩=false:=by
 obtain⟨r,hr,ho,_,_⟩:=cr9 hs
 obtain⟨_,_,_,cur,g4,_,_⟩:=hH.own o r hr ho hm
 simp[World.frozen?,g4]
theorem b73{T:Tab}{B:Nat→Prop}{g:List ARes→List It→Fr→H→Res}(hT: ∀f F,T f=some F→ga0 Try.prog f){k:FuncId}(ih:zb8 Try.prog B T g k){h0 h1 h2 h3 h4:H}{a:Addr}{first cap:Array Value}{u p' f':Value}
 (hfi:first.isEmpty=true) (l1:h0.ld1 a.block a.off=some (.int .u32 0)) (l5:h0.ld1 a.block (a.off+1)=some (.int .i32 0)) (s8:h0.sts a.block (a.off+1) [.int .i32 1]=some h1)
 (hen:enter T g k cap.toList h1=some (u,h2)) (l10:h2.ld1 a.block a.off=some (.int .u32 0)) (l13:h2.ld1 a.block (a.off+1)=some (.int .i32 1))
 (s16:h2.sts a.block a.off [.int .u32 1]=some h3) (s17:h3.sts a.block (a.off+1) [.int .i32 0]=some h4) {φ:Ren} {w:World}
 (hp:VR φ h0.length (.pointer (some a)) p') (hf:VR φ h0.length (.func (.func k) first cap) f') (hH:HR φ B h0 w):
 Calls Try.prog 45 [p',f'].toArray w fun e w'=> ∃φ' v',e= .returned v'∧VR φ' h4.length (.tuple #[]) v'∧HR φ' B h4 w'∧Ext φ h0.length φ'∧Bel B w w':=by
 obtain⟨hsp,hlt,hm,hpe⟩:=bq1 hp
 have hcap: ∃cap',f'= .func (.func k) #[] cap'∧LR φ h0.length cap.toList cap'.toList:=by
  cases hf with
  |func _ _ cs' hsz hh=>exact⟨cs',rfl,LR.of_arrays hsz hh⟩
 obtain⟨cap',rfl,hLcap⟩:=hcap
 subst hpe
 obtain⟨hH1,hl1,hb1⟩:=hH.set1 (P:=Try.prog) hm s8
 have hcall:=ih cap.toList cap'.toList h1 h2 u hen φ _ (by rw[hl1];exact hLcap) hH1
 have hk: ∀w:World,(callFunc k cap').run Try.prog w= .ok (.enter k cap') w:=fun w=>by
  have:=js6 (vs':=cap'.toList) hT hen w
  simpa using this
 have hcap2:cap'.toList.toArray=cap':=by simp
 rw[hcap2]at hcall
 refine(hi5 (φ a.block).blk ((φ a.block).sh+a.off) k cap' w (fun w'=> ∃φ',HR φ' B h2 w'∧Ext φ h0.length φ'∧Bel B w w') hk (n60 hH hm l1) (n60 hH hm l5) (r92 hH hm s8 _) (hcall.mono ?_)).mono ?_
 ·rintro e w' ⟨φ',v',rfl,hv',hH',hE',hB'⟩
  rw[hl1]at hE'
  have hφ:=hE' a.block hlt
  have hm':(φ' a.block).mp=false:=by rw[hφ];exact hm
  have c0:=n60 hH' hm' l10
  have c1:=n60 hH' hm' l13
  have z0:=fun i=>r92 hH' hm' s16 i
  rw[hφ]at c0 c1 z0
  exact⟨⟨v',rfl⟩,c0,c1,z0 _,z0 _,φ',hH',hE',hb1.trans hB'⟩
 ·rintro e w' ⟨rfl,w2,⟨φ',hH',hE',hB'⟩,rfl⟩
  have hd:HR φ' B h2 w2.drew:=hH'.drawn _
  have hm':(φ' a.block).mp=false:=by rw[hE' a.block hlt];exact hm
  obtain⟨g1,g2,g3⟩:=hd.set1 (P:=Try.prog) hm' s16
  obtain⟨k1,k2,k3⟩:=g1.set1 (P:=Try.prog) hm' s17
  have hφ:=hE' a.block hlt
  rw[hφ]at g1 g3 k1 k3
  have h0:Bel B w2 w2.drew:=⟨rfl,rfl,rfl,jj6 _,fun _ _=>rfl⟩
  exact⟨φ', .tuple #[],rfl, .tuple #[] #[] rfl (fun i hi=>absurd hi (by simp)),k1,hE',hB'.trans (h0.trans (g3.trans k3))⟩
theorem tr1{T:Tab}(hF:T 45=some FDo):PrimOK Try.prog T 45:=by
 refine⟨⟨_,_,Try.func45,rfl,by kernel_rfl⟩,fun F h=>by rw[hF]at h;cases h;rfl,fun hT B n ih vs vs' h h' v he φ w hv hH=> ?_⟩
 unfold enter at he
 rw[hF]at he
 simp only at he
 split at he
 ·rename_i hlen
  match n,ih,he with
  |0,_,he=>cases he
  |n+1,ih,he=>
  simp only[goN,gF,FDo,cDo]at he
  split at he
  ·rename_i fr' h2 hrun
   match n,ih,he,hrun with
   |0,_,he,_=>cases he
   |n+1,ih,he,hrun=>
   simp only[goN,gF,retv,ress]at he
   cases he
   match vs,vs',hlen,hv,hrun with
   | [p,f],[p',f'],_,hv,hrun=>
   have hp:=hv.2 0 p rfl
   have hf:=hv.2 1 f rfl
   simp only[rw5,ok0,hx3,exists_eq_left']at hp hf
   obtain⟨v1,h1,e1,hrun⟩:=mr0 hrun
   obtain⟨v2,h2,e2,hrun⟩:=mr0 hrun
   obtain⟨v3,h3,e3,hrun⟩:=mr0 hrun
   obtain⟨v4,h4,e4,hrun⟩:=mr0 hrun
   obtain⟨v5,h5,e5,hrun⟩:=mr0 hrun
   obtain⟨v6,h6,e6,hrun⟩:=mr0 hrun
   obtain⟨v7,h7,e7,hrun⟩:=mr0 hrun
   obtain⟨v8,h8,e8,hrun⟩:=mr0 hrun
   obtain⟨v9,h9,e9,hrun⟩:=mr0 hrun
   obtain⟨v10,h10,e10,hrun⟩:=mr0 hrun
   obtain⟨v11,h11,e11,hrun⟩:=mr0 hrun
   obtain⟨v12,h12,e12,hrun⟩:=mr0 hrun
   obtain⟨v13,h13,e13,hrun⟩:=mr0 hrun
   obtain⟨v14,h14,e14,hrun⟩:=mr0 hrun
   obtain⟨v15,h15,e15,hrun⟩:=mr0 hrun
   obtain⟨v16,h16,e16,hrun⟩:=mr0 hrun
   obtain⟨v17,h17,e17,hrun⟩:=mr0 hrun
   cases hrun
   obtain⟨a,fa,asp,⟨x1,l1,rfl⟩,rfl⟩:=ua5 (hp3 (by simp) e1)
   obtain⟨y1,fy1,rfl,rfl⟩:=eq_inv (hp3 (by simp) e2)
   obtain⟨t1,⟨z1,rfl⟩,rfl⟩:=pq1 (hp3 (by simp) e3) rfl rfl
   obtain⟨a4,fa4,_,rfl,rfl⟩:=mi5 (hp3 (by simp) e4)
   obtain⟨a5,fa5,_,⟨x5,l5,rfl⟩,rfl⟩:=ua5 (hp3 (by simp) e5)
   obtain⟨y6,fy6,rfl,rfl⟩:=eq_inv (hp3 (by simp) e6)
   obtain⟨t6,⟨z6,rfl⟩,rfl⟩:=pq1 (hp3 (by simp) e7) rfl rfl
   obtain⟨a8,fa8,_,s8,rfl⟩:=m60 (hp3 (by simp) e8)
   obtain⟨k,first,cap,u,fk,hfi,hen,rfl⟩:=as2 e9
   obtain⟨a10,fa10,_,⟨x10,l10,rfl⟩,rfl⟩:=ua5 (hp3 (by simp) e10)
   obtain⟨y11,fy11,rfl,rfl⟩:=eq_inv (hp3 (by simp) e11)
   obtain⟨t11,⟨z11,rfl⟩,rfl⟩:=pq1 (hp3 (by simp) e12) rfl rfl
   obtain⟨a13,fa13,_,⟨x13,l13,rfl⟩,rfl⟩:=ua5 (hp3 (by simp) e13)
   obtain⟨y14,fy14,rfl,rfl⟩:=eq_inv (hp3 (by simp) e14)
   obtain⟨t14,⟨z14,rfl⟩,rfl⟩:=pq1 (hp3 (by simp) e15) rfl rfl
   obtain⟨a16,fa16,_,s16,rfl⟩:=m60 (hp3 (by simp) e16)
   obtain⟨a17,fa17,_,s17,rfl⟩:=m60 (hp3 (by simp) e17)
   have q1:p= .pointer (some a):=pk4 fa
   have q4:p= .pointer (some a4):=pk4 fa4
   have q10:p= .pointer (some a10):=pk4 fa10
   have q16:p= .pointer (some a16):=pk4 fa16
   have q5:Value.pointer (some ⟨a4.block,a4.off+1,none⟩)= .pointer (some a5):=pk4 fa5
   have q8:Value.pointer (some ⟨a4.block,a4.off+1,none⟩)= .pointer (some a8):=pk4 fa8
   have q13:Value.pointer (some ⟨a4.block,a4.off+1,none⟩)= .pointer (some a13):=pk4 fa13
   have q17:Value.pointer (some ⟨a4.block,a4.off+1,none⟩)= .pointer (some a17):=pk4 fa17
   have qf:f= .func (.func k) first cap:=pk4 fk
   have r1:x1= .int .u32 y1:=pk4 fy1
   have r5:x5= .int .i32 y6:=pk4 fy6
   have r10:x10= .int .u32 y11:=pk4 fy11
   have r13:x13= .int .i32 y14:=pk4 fy14
   clear fa fa4 fa10 fa16 fa5 fa8 fa13 fa17 fk fy1 fy6 fy11 fy14 e1 e2 e3 e4 e5 e6 e7 e8 e9 e10 e11 e12 e13 e14 e15 e16 e17
   subst q1
   cases q4;cases q10;cases q16;cases q5;cases q8;cases q13;cases q17
   subst qf r1 r5 r10 r13
   simp only[jn8]at t1 t6 t11 t14
   subst t1 t6 t11 t14
   exact b73 hT (ih _ (by omega) k) hfi l1 l5 s8 hen l10 l13 s16 s17 hp hf hH
  ·cases he
 ·cases he
end Go.Proofs.Ytppbpgmdmiajcaa
namespace Go.Proofs.Ytppbpgmdmiajcaa
open Go.Am Go.Shelf Go.RowKit Go.Sort
def hd9:Go.Shelf.Ren:=⟨fun n=>match n with|23=>25|_=>0,fun t=>match t with|0=>0|3=>3|4=>4|22=>22|_=>0,fun g=>g⟩
theorem c66:Lays2.n23 Try.prog hd9 where
 mixed:=by kernel_rfl
 f23:=by kernel_rfl
 t0:=by kernel_rfl
 a0:=fun w=>by kernel_rfl
 z0:=fun w=>by kernel_rfl
 v0:=fun w=>by kernel_rfl
 t3:=by kernel_rfl
 a3:=fun w=>by kernel_rfl
 z3:=fun w=>by kernel_rfl
 v3:=fun w=>by kernel_rfl
 t4:=by kernel_rfl
 a4:=fun w=>by kernel_rfl
 z4:=fun w=>by kernel_rfl
 v4:=fun w=>by kernel_rfl
 t22:=by kernel_rfl
 a22:=fun w=>by kernel_rfl
 z22:=fun w=>by kernel_rfl
 v22:=fun w=>by kernel_rfl
 i3:=by kernel_rfl
theorem kb9(b off n c i j:Nat)(zs:List Int)(w:World)(hz:n≤zs.length)(hcap:n≤c)(hm:c≤9223372036854775807)(hij:i≤j)(hj:j≤n)(hc: ∀j,j<zs.length→w.cell? ⟨b,off+j,none⟩=some (.int .i64 (zs.getD j 0)))(hf: ∀j,j<n→w.frozen? ⟨b,off+j,none⟩=false):
 Calls Try.prog 25 #[.slice (some ⟨b,off,none⟩) n c, .int .i64 i, .int .i64 j] w fun e w'=>e= .returned (.slice (some ⟨b,off,none⟩) (n-(j-i)) c)∧ ∃q,w'=(w.drewN q).setCells b off (((zs.take n).take i++(zs.take n).drop j++List.replicate (j-i) 0).map (Value.int .i64)):=
 Any.slices_Delete_int_cells c66 b off n c i j zs w hz hcap hm hij hj hc hf
end Go.Proofs.Ytppbpgmdmiajcaa
namespace Go.Proofs.Ytppbpgmdmiajcaa
open Go.Am Go.RowKit
theorem lq5{w:World}{b o:Nat}{v:Value}{cur:Array Value}{e:TypeId}(h:w.heap[b]? =some (.cells cur e (0,0))):
 (w.setCell ⟨b,o,none⟩ v).heap[b]? =some (.cells (cur.setIfInBounds o v) e (0,0)):=by
 obtain⟨hlt,h'⟩:=un8.1 h
 show(w.heap.modify b _)[b]? =_
 rw[ra6 (by rw[Array.size_modify];exact hlt),Array.getElem_modify_self,h']
 rfl
theorem db7(b:Nat){e:TypeId}: ∀(vs:List Value) (o:Nat) (w:World) (cur:Array Value),w.heap[b]? =some (.cells cur e (0,0))→o+vs.length≤cur.size→
 ∃cur',(w.setCells b o vs).heap[b]? =some (.cells cur' e (0,0))∧cur'.size=cur.size∧(∀(j:Nat) (v:Value),vs[j]? =some v→cur'[o+j]? =some v)∧(∀i,i<o→cur'[i]? =cur[i]?)
 | [],o,w,cur,h,_=>⟨cur,h,rfl,fun j v hj=>by simp at hj,fun i _=>rfl⟩
 |v::vs,o,w,cur,h,hl=>by
  rw[q90]at hl
  obtain⟨cur',h1,h2,h3,h4⟩:=db7 b vs (o+1) (w.setCell ⟨b,o,none⟩ v) (cur.setIfInBounds o v) (lq5 h) (by rw[Array.size_setIfInBounds];omega)
  refine⟨cur',h1,by rw[h2,Array.size_setIfInBounds],fun j u hj=> ?_,fun i hi=> ?_⟩
  ·cases j with
   |zero=>
    rw[zy9,h4 o (by omega),Array.getElem?_setIfInBounds_self_of_lt (by omega)]
    simpa using hj
   |succ j=>
    have:=h3 j u (by simpa using hj)
    rw[←this];congr 1;omega
  ·rw[h4 i (by omega),gb7 (by omega)]
theorem zv9(b:Nat): ∀(vs:List Value) (o:Nat) (w:World),(w.setCells b o vs).heap.size=w.heap.size∧(w.setCells b o vs).os=w.os∧(w.setCells b o vs).tape=w.tape∧(w.setCells b o vs).output=w.output∧ ∀k,k≠b→(w.setCells b o vs).heap[k]? =w.heap[k]?
 | [],o,w=>⟨rfl,rfl,rfl,rfl,fun _ _=>rfl⟩
 |v::vs,o,w=>by
  obtain⟨h1,h2,h3,h4,h5⟩:=zv9 b vs (o+1) (w.setCell ⟨b,o,none⟩ v)
  refine⟨h1.trans (by show(w.heap.modify b _).size=_;rw[Array.size_modify]),h2,h3,h4,fun k hk=>(h5 k hk).trans (Below.heap_setCell w ⟨b,o,none⟩ v k hk)⟩
theorem z69{B:Nat→Prop}{φ:Go.Am.Ren}{h:H}{w:World}(hH:HR φ B h w){p:Addr}{l c:Nat}{s':Value}(hs:VR φ h.length (.slice (some p) l c) s'){r:Row}(hr:h.row p.block=some r)(hown:r.own=true)(hu:r.unit=1)
 {zs:List Int} (hz:zs.length=l) (hcells: ∀j,j<l→r.cells[p.off+j]? =some (.int .i64 (zs.getD j 0))) {I J:Nat} (hIJ:I<J) (hJ:J≤l) (hlc:l≤c):
 Calls Try.prog 25 [s', .int .i64 I, .int .i64 J].toArray w fun e w'=> ∃φ' v',e= .returned v'∧VR φ' (h.length+1) (.slice (some ⟨h.length,0,none⟩) (l-(J-I)) (l-(J-I))) v'∧HR φ' B (kill h p.block++[.row ⟨ints (zs.take I++zs.drop J),r.elem,1,true⟩]) w'∧Ext φ h.length φ'∧Bel B w w':=by
 obtain⟨hsp,hlt,hinv⟩:=wy5 hs
 obtain⟨c',q,hcc,hq,hcap,e2⟩:=hinv.resolve_left fun hh=>by omega
 obtain rfl:q=(φ p.block).sh+p.off:=by omega
 have hm:=lu8 hs
 obtain⟨g0,g2,g3,cur,g4,g5,g6⟩:=hH.own p.block r hr hown hm
 have hroom:c'≤9223372036854775807:=by rw[e2]at hs;exact eb2 hs g0
 have hcap:=hcap g0
 rw[g2,hu,mp4,←g5]at hcap
 have hcell: ∀j,j<zs.length→w.cell? ⟨(φ p.block).blk,(φ p.block).sh+p.off+j,none⟩=some (.int .i64 (zs.getD j 0)):=fun j hj=>by
  obtain⟨v,h1,h2⟩:=hH.cell hr hm (hcells j (by omega))
  cases h2
  rw[←h1,q61]
 have hfz: ∀j,j<l→w.frozen? ⟨(φ p.block).blk,(φ p.block).sh+p.off+j,none⟩=false:=fun j _=>by simp[World.frozen?,g4]
 rw[e2]
 refine(kb9 (φ p.block).blk ((φ p.block).sh+p.off) l c' I J zs w (by omega) (by omega) hroom (by omega) hJ hcell hfz).mono ?_
 rintro e w' ⟨rfl,n,rfl⟩
 rw[sp3 (show zs.length≤l by omega)]
 obtain⟨vals,hvals⟩: ∃vals,vals=(zs.take I++zs.drop J++List.replicate (J-I) 0).map (Value.int .i64):=⟨_,rfl⟩
 rw[←hvals]
 have hvl:vals.length=l:=by rw[hvals];simp;omega
 have g4':(w.drewN n).heap[(φ p.block).blk]? =some (.cells cur r.elem (0,0)):=g4
 obtain⟨cur',k1,k2,k3,k4⟩:=db7 (φ p.block).blk vals ((φ p.block).sh+p.off) (w.drewN n) cur g4' (by omega)
 obtain⟨m1,m2,m3,m4,m5⟩:=zv9 (φ p.block).blk vals ((φ p.block).sh+p.off) (w.drewN n)
 have hkl:(kill h p.block).length=h.length:=by simp[kill]
 have hK:=hH.kill p.block
 have hfree: ∀o r',H.row (kill h p.block) o=some r'→r'.own=true→(φ o).blk≠(φ p.block).blk:=by
  intro o r' hr' ho' he
  unfold kill at hr'
  rw[ro8]at hr'
  split at hr'
  ·cases hr'
  ·rename_i hne
   exact hne ⟨(hH.inj o p.block r' r hr' hr ho' hown he).symm,fz4 hr⟩
 have hpush:=hK.push (w':=(w.drewN n).setCells (φ p.block).blk ((φ p.block).sh+p.off) vals) ⟨ints (zs.take I++zs.drop J),r.elem,1,true⟩ (φ p.block).blk ((φ p.block).sh+p.off) cur' (by rw[k2];omega) rfl
  (by rw[m1];exact jj6 _) (fun k _ hk=>m5 k hk) g3 hfree k1 (fun c hc=>by
    obtain⟨z,_,rfl⟩:=vf1.1 hc;rfl) (fun i c hi=>by
    refine⟨c, ?_, ?_⟩
    ·refine k3 i c ?_
     rw[hvals,hm3,bu4 (by
      have:=(ck5.1 hi).1
      simpa [ints]using this)]
     exact hi
    ·obtain⟨z,_,rfl⟩:=vf1.1 (vf6 hi)
     exact .int _ _)
 rw[hkl]at hpush
 refine⟨_,_,rfl, ?_,hpush,Ext.with _ _ _,⟨m2,m3,m4,by rw[m1];exact jj6 _,fun k hk=>m5 k (fun e=>g3 (e▸hk))⟩⟩
 have:=VR.sl (φ:=φ.with h.length ⟨(φ p.block).blk,(φ p.block).sh+p.off,cur'.size,1,true⟩) (n:=h.length+1) h.length 0 (l-(J-I)) (l-(J-I)) c' ((φ p.block).sh+p.off) (by omega) (by rw[Ren.with_same];exact Ent.mp_le (by show _≤cur'.size;rw[k2];omega)) (by omega) (by rw[Ren.with_same];exact .inl rfl)
  (by rw[Ren.with_same];intro _;exact⟨by show(φ p.block).sh+p.off+c'*1≤cur'.size;rw[mp4,k2];exact hcap,hroom⟩)
 rw[Ren.with_same]at this
 exact this
abbrev e67:List Nat:=[0,1,2,3,4]
def rDel:ACode:= .region [op0 (some 6) (.iaddr 1 (.tmp 0) (.tmp 3)),op0 (some 7) (.ld false 1 (.tmp 6)),op0 (some 8) (.bin .add (.tmp 7) (.const (.int .i64 0))),op0 (some 3) (.bin .add (.tmp 3) (.const (.int .i64 1)))]
def bDel:ACode:= .seq (.region [op0 (some 5) (.bin .lss (.tmp 3) (.tmp 4))]) (.cond (.tmp 5) rDel (.exit 0))
def eDel:ACode:= .region [op0 (some 5) (.sl 1 (.tmp 0) none (some (.tmp 1))),op0 (some 6) (.sl 1 (.tmp 0) (some (.tmp 2)) none),op0 (some 7) (.app 3 1 8 (.tmp 5) (.tmp 6))]
def sDel:ACode:= .region [op0 (some 8) (.bin .add (.tmp 1) (.const (.int .i64 0))),op0 (some 3) (.bin .lss (.tmp 1) (.tmp 2)),op0 (some 3) (.pick (.tmp 3) (.tmp 0) (.tmp 99)),op0 (some 4) (.len (.tmp 0)),op0 (some 3) (.bin .leq (.tmp 4) (.const (.int .i64 1099511627776))),op0 (some 3) (.pick (.tmp 3) (.tmp 0) (.tmp 99)),op0 (some 8) (.iaddr 1 (.tmp 0) (.const (.int .i64 0))),op0 (some 3) (.mv (.const (.int .i64 0)))]
def cDel:ACode:= .seq sDel (.seq (.block 0 e67 (.loop e67 bDel)) (.seq eDel .ret))
def FDel:AFun:=⟨cDel,3,9,[.tmp 7]⟩
def k00(s vI vJ:Value)(k l:Nat):Fr:=Fr.of [(0,s),(1,vI),(2,vJ),(3, .int .i64 k),(4, .int .i64 l)]
theorem g73{T:Tab}{g:List ARes→List It→Fr→H→Res}{n0:Nat}{d:Nat}{op:AOp}{fr:Fr}{h h1:H}{v:Option Value}(hop:(∀f a,op≠ .call f a)∧ ∀x a,op≠ .calld x a)(he:aop fr h op=some (v,h1))(l:List AOper):
 gf4 T g n0 (op0 (some d) op::l) fr h=gf4 T g n0 l (fr.put (some d) v) h1:=by
 have hc:core T g n0 (op0 (some d) op) fr h=some (v,h1):=by
  unfold core
  simp only[gd]
  cases op<;>simp_all [wb6]
 simp only[gf4,km6,hc]
theorem m13{fr:Fr}{h h1:H}{x i:Nat}{s:Option Addr}{l c:Nat}{v:Option Value}{i':Int}(hr:aop fr h (.iaddr 1 (.tmp x) (.tmp i))=some (v,h1)){p:Addr}(hx:fr x=some (.slice s l c))(hi:fr i=some (.int .i64 i'))(h0:0≤i')(hl:i'<l)(hs:s=some p):
 p.spot=none∧v=some (.pointer (some ⟨p.block,p.off+i'.toNat*1,none⟩))∧h1=h:=by
 subst hs
 simp only[aop,ev,hx,hi]at hr
 rw[if_pos ⟨h0,hl⟩]at hr
 split at hr
 ·cases hr
 ·rename_i hsp
  cases hr
  exact⟨by simpa using hsp,rfl,rfl⟩
theorem g48{fr:Fr}{h h1:H}{x:Nat}{z:Int}{v:Option Value}(hr:aop fr h (.bin .add (.tmp x) (.const (.int .i64 z)))=some (v,h1)):
 ∃a:Int,fr x=some (.int .i64 a)∧v=some (.int .i64 (IntKind.wrap .i64 (a+z)))∧h1=h:=by
 simp only[aop,ev,closed,tc5,oo9]at hr
 split at hr
 ·rename_i a b ha hb
  cases hb
  split at hr
  ·rename_i u hu
   cases hr
   unfold abin at hu
   split at hu
   ·rename_i e1
    cases e1
    simp only at hu
    split at hu
    ·rename_i e2
     subst e2
     cases hu
     exact⟨_,ha,rfl,rfl⟩
    ·cases hu
   ·rename_i e1;cases e1
   ·cases hu
  ·cases hr
 ·cases hr
theorem ne9{T:Tab}{rs:List ARes}{K:List It}{p:Addr}{c l:Nat}{vI vJ:Value}(hl:l≤1099511627776){v:Value}{h h':H}: ∀(n k:Nat),k≤l→
 goN T n rs (.code bDel:: .lp e67 bDel:: .blk 0 e67::K) (k00 (.slice (some p) l c) vI vJ k l) h=some (v,h')→(∀j,j<k→ ∃z,h.ld1 p.block (p.off+j)=some (.int .i64 z))→
 ∃n',n'<n∧goN T n' rs K (k00 (.slice (some p) l c) vI vJ l l) h=some (v,h')∧ ∀j,j<l→ ∃z,h.ld1 p.block (p.off+j)=some (.int .i64 z):=by
 intro n
 induction n using Nat.strongRecOn with
 |ind n ih=>
  intro k hk hr hz
  match n,ih,hr with
  |0,_,hr=>cases hr
  |1,_,hr=>cases hr
  |2,_,hr=>
   exfalso
   simp only[goN,gF,bDel]at hr
   split at hr<;>cases hr
  |n+3,ih,hr=>
   simp only[goN,gF,bDel]at hr
   have e1: ∀g n0,gf4 T g n0 [op0 (some 5) (.bin .lss (.tmp 3) (.tmp 4))] (k00 (.slice (some p) l c) vI vJ k l) h=some ((k00 (.slice (some p) l c) vI vJ k l).put (some 5) (some (.bool (decide ((k:Int)<l)))),h):=fun g n0=>by
    rw[g73 (by simp) (v:=some (.bool (decide ((k:Int)<l)))) (h1:=h) rfl];rfl
   rw[e1]at hr
   simp only at hr
   have e2:ev ((k00 (.slice (some p) l c) vI vJ k l).put (some 5) (some (.bool (decide ((k:Int)<l))))) (.tmp 5)=some (.bool (decide ((k:Int)<l))):=rfl
   rw[e2]at hr
   simp only at hr
   by_cases hkl:k<l
   ·rw[ce5 (show(k:Int)<l by omega),if_pos rfl]at hr
    match n,ih,hr with
    |0,_,hr=>cases hr
    |n+1,ih,hr=>
    simp only[goN,gF,rDel]at hr
    split at hr
    ·rename_i fr' h2 hrun
     obtain⟨v1,h1,a1,hrun⟩:=mr0 hrun
     obtain⟨v2,h2',a2,hrun⟩:=mr0 hrun
     obtain⟨v3,h3,a3,hrun⟩:=mr0 hrun
     obtain⟨v4,h4,a4,hrun⟩:=mr0 hrun
     cases hrun
     obtain⟨hsp,rfl,rfl⟩:=m13 (hp3 (by simp) a1) (s:=some p) (l:=l) (c:=c) (i':=(k:Int)) rfl rfl (by omega) (by omega) rfl
     obtain⟨a,fa,_,⟨u,hu,rfl⟩,rfl⟩:=ua5 (hp3 (by simp) a2)
     have fa:some (Value.pointer (some ⟨p.block,p.off+(k:Int).toNat*1,none⟩))=some (.pointer (some a)):=fa
     cases fa
     obtain⟨z,hz1,rfl,rfl⟩:=g48 (hp3 (by simp) a3)
     have hz1:some u=some (.int .i64 z):=hz1
     cases hz1
     obtain⟨z4,hz4,rfl,rfl⟩:=g48 (hp3 (by simp) a4)
     have hz4:some (Value.int .i64 (k:Int))=some (.int .i64 z4):=hz4
     cases hz4
     match n,ih,hr with
     |0,_,hr=>cases hr
     |n+1,ih,hr=>
     simp only[goN,gF]at hr
     have hw:IntKind.wrap .i64 ((k:Int)+1)=((k+1:Nat):Int):=by rw[wrap64 (by omega) (by omega)];rfl
     rw[hw]at hr
     obtain⟨n',b1,b2,b3⟩:=ih n (by omega) (k+1) (by omega) hr fun j hj=>by
      by_cases e:j=k
      ·rw[e]
       refine⟨z, ?_⟩
       rw[←hu,ao0,mp4]
      ·exact hz j (by omega)
     exact⟨n',by omega,b2,b3⟩
    ·cases hr
   ·obtain rfl:k=l:=by omega
    rw[lx1 (show¬(k:Int)<k by omega),if_neg (by decide)]at hr
    match n,hr with
    |0,hr=>cases hr
    |n+1,hr=>
     simp only[goN,gF,gc2,oo9,Nat.reduceEqDiff,wj1,reduceIte]at hr
     exact⟨n,by omega,hr,hz⟩
theorem q66{T:Tab}{g:List ARes→List It→Fr→H→Res}{n0:Nat}{p:Addr}{l c:Nat}{ki kj:IntKind}{i j:Int}(hsp:p.spot=none)(hij:i<j){fr':Fr}{h h':H}
 (hr:gf4 T g n0 [op0 (some 5) (.sl 1 (.tmp 0) none (some (.tmp 1))),op0 (some 6) (.sl 1 (.tmp 0) (some (.tmp 2)) none),op0 (some 7) (.app 3 1 8 (.tmp 5) (.tmp 6))] (k00 (.slice (some p) l c) (.int ki i) (.int kj j) l l) h=some (fr',h')):
 ∃I J:Nat,i=(I:Int)∧j=(J:Int)∧J≤l∧l≤c∧ ∃r:Row,h.row p.block=some r∧r.own=true∧r.elem=3∧r.unit=1∧
  h'=kill h p.block++[.row ⟨(r.cells.drop p.off).take I++(r.cells.drop (p.off+J)).take (l-J),3,1,true⟩]∧fr' 7=some (.slice (some ⟨h.length,0,none⟩) (I+(l-J)) (I+(l-J))):=by
 obtain⟨v1,h1,a1,hr⟩:=mr0 hr
 obtain⟨v2,h2,a2,hr⟩:=mr0 hr
 obtain⟨v3,h3,a3,hr⟩:=mr0 hr
 cases hr
 have a1:=hp3 (by simp) a1
 have a2:=hp3 (by simp) a2
 have a3:=hp3 (by simp) a3
 have b1:aop (k00 (.slice (some p) l c) (.int ki i) (.int kj j) l l) h (.sl 1 (.tmp 0) none (some (.tmp 1)))=if 0≤(0:Int)∧0≤i∧i≤(c:Int)∧ss4 h 1 (some p)=true then some (some (.slice (if(c:Int)=0 then some p else(some p).map fun a=>⟨a.block,a.off+(0:Int).toNat*1,none⟩) (i-0).toNat ((c:Int)-0).toNat),h)else none:=rfl
 rw[b1]at a1
 split at a1
 ·rename_i c1
  cases a1
  have b2:aop ((k00 (.slice (some p) l c) (.int ki i) (.int kj j) l l).put (some 5) (some (.slice (if(c:Int)=0 then some p else(some p).map fun a=>⟨a.block,a.off+(0:Int).toNat*1,none⟩) (i-0).toNat ((c:Int)-0).toNat))) h (.sl 1 (.tmp 0) (some (.tmp 2)) none)=if 0≤j∧j≤(l:Int)∧(l:Int)≤(c:Int)∧ss4 h 1 (some p)=true then some (some (.slice (if(c:Int)=j then some p else(some p).map fun a=>⟨a.block,a.off+j.toNat*1,none⟩) ((l:Int)-j).toNat ((c:Int)-j).toNat),h)else none:=rfl
  rw[b2]at a2
  split at a2
  ·rename_i c2
   cases a2
   obtain⟨I,rfl⟩: ∃I:Nat,i=(I:Int):=⟨i.toNat,by omega⟩
   obtain⟨J,rfl⟩: ∃J:Nat,j=(J:Int):=⟨j.toNat,by omega⟩
   refine⟨I,J,rfl,rfl,by omega,by omega, ?_⟩
   have hc0: ¬(c:Int)=0:=by omega
   have b3: ∀(s6:Option Addr) (d:Nat),aapp 3 1 8 h (.slice (some ⟨p.block,p.off,none⟩) I c) (.slice s6 (l-J) d)=(match b38 h 1 (l-J) (.slice s6 (l-J) d)with|some news=>aput 3 1 8 h (some ⟨p.block,p.off,none⟩) I c (l-J) news|none=>none):=fun _ _=>rfl
   simp only[aop,ev,Fr.put]at a3
   have f5: ∀(x y:Value),(((k00 (.slice (some p) l c) (.int ki I) (.int kj J) l l).set 5 x).set 6 y) 5=some x:=fun _ _=>rfl
   have f6: ∀(x y:Value),(((k00 (.slice (some p) l c) (.int ki I) (.int kj J) l l).set 5 x).set 6 y) 6=some y:=fun _ _=>rfl
   rw[f5,f6]at a3
   simp only[if_neg hc0,eb5,Int.toNat_zero,v88,zy9,Int.sub_zero,ao0,show((l:Int)-(J:Int)).toNat=l-J by omega,b3]at a3
   have hsrc: ∀news,b38 h 1 (l-J) (.slice (if(c:Int)=(J:Int)then some p else some ⟨p.block,p.off+J*1,none⟩) (l-J) ((c:Int)-(J:Int)).toNat)=some news→ ∀r,h.row p.block=some r→news=(r.cells.drop (p.off+J)).take (l-J):=fun news hn r hrow=>by
    unfold b38 at hn
    simp only at hn
    by_cases hm:l-J=0
    ·rw[if_pos hm]at hn
     cases hn
     rw[hm,si3]
    ·rw[if_neg hm,if_pos (jj6 _),if_neg (show¬(c:Int)=(J:Int) by omega)]at hn
     simp only[Option.isNone_none,oo9,mp4,H.lds,hrow]at hn
     split at hn
     ·cases hn;rfl
     ·cases hn
   split at a3
   ·rename_i v' h'' he
    cases a3
    split at he
    ·rename_i news hn
     unfold aput at he
     simp only at he
     split at he
     ·rename_i r hrow
      split at he
      ·rename_i hcond
       simp only[b83,ui3,jn8]at hcond
       cases he
       refine⟨r,hrow,hcond.1.1.1.1.1.1,hcond.1.1.1.1.2,hcond.1.1.1.2, ?_,rfl⟩
       rw[hsrc news hn r hrow,mp4]
      ·cases he
     ·cases he
    ·cases he
   ·cases a3
  ·cases a2
 ·cases a1
theorem wq6{fr:Fr}{h h1:H}{x y:Nat}{v:Option Value}(hr:aop fr h (.bin .lss (.tmp x) (.tmp y))=some (v,h1)){u u':Value}(hx:fr x=some u)(hy:fr y=some u'):
 (∃k a b,u= .int k a∧u'= .int k b∧v=some (.bool (decide (a<b)))∧h1=h)∨ ∃a b,u= .string a∧u'= .string b:=by
 simp only[aop,ev,hx,hy]at hr
 split at hr
 ·rename_i w hw
  cases hr
  unfold abin at hw
  split at hw
  ·rename_i k a k' b
   simp only at hw
   split at hw
   ·rename_i e
    subst e
    cases hw
    exact .inl ⟨_,_,_,rfl,rfl,rfl,rfl⟩
   ·cases hw
  ·exact .inr ⟨_,_,rfl,rfl⟩
  ·cases hw
 ·cases hr
theorem xj2{fr:Fr}{h h1:H}{x:Nat}{v:Option Value}(hr:aop fr h (.len (.tmp x))=some (v,h1)): ∃sa l c,fr x=some (.slice sa l c)∧v=some (.int .i64 (l:Nat))∧h1=h:=by
 simp only[aop,ev]at hr
 split at hr
 ·rename_i sa l c hs
  cases hr
  exact⟨_,_,_,hs,rfl,rfl⟩
 ·cases hr
theorem e02{fr:Fr}{h h1:H}{x:Nat}{z:Int}{v:Option Value}(hr:aop fr h (.bin .leq (.tmp x) (.const (.int .i64 z)))=some (v,h1)){l:Int}(hx:fr x=some (.int .i64 l)):
 ∃t:Bool,v=some (.bool t)∧h1=h∧(t=true→l≤z):=by
 have:aop fr h (.bin .leq (.tmp x) (.const (.int .i64 z)))=some (some (.bool (decide (l≤z))),h):=by
  simp only[aop,ev,hx,closed,tc5,oo9,abin,aint]
 rw[this]at hr
 cases hr
 exact⟨_,rfl,rfl,fun e=>kb3 e⟩
theorem qa0{fr:Fr}{h h1:H}{x:Nat}{s:Option Addr}{l c:Nat}{v:Option Value}(hr:aop fr h (.iaddr 1 (.tmp x) (.const (.int .i64 0)))=some (v,h1))(hx:fr x=some (.slice s l c)):
 ∃p:Addr,s=some p∧p.spot=none∧0<l∧ ∃v',v=some v'∧h1=h:=by
 simp only[aop,ev,hx,closed,tc5,oo9]at hr
 split at hr
 ·rename_i a l' c' i e1 e2
  cases e1;cases e2
  split at hr
  ·rename_i hb
   split at hr
   ·cases hr
   ·rename_i hsp
    cases hr
    exact⟨_,rfl,by simpa using hsp,by omega,_,rfl,rfl⟩
  ·cases hr
 ·cases hr
theorem r66{fr:Fr}{h h1:H}{v:Option Value}(hr:aop fr h (.mv (.const (.int .i64 0)))=some (v,h1)):v=some (.int .i64 0)∧h1=h:=by
 simp only[aop,ev,closed,tc5,oo9]at hr
 cases hr
 exact⟨rfl,rfl⟩
theorem t09{T:Tab}{g:List ARes→List It→Fr→H→Res}{n0:Nat}{s i j:Value}{fr':Fr}{h h':H}
 (hr:gf4 T g n0 [op0 (some 8) (.bin .add (.tmp 1) (.const (.int .i64 0))),op0 (some 3) (.bin .lss (.tmp 1) (.tmp 2)),op0 (some 3) (.pick (.tmp 3) (.tmp 0) (.tmp 99)),op0 (some 4) (.len (.tmp 0)),op0 (some 3) (.bin .leq (.tmp 4) (.const (.int .i64 1099511627776))),op0 (some 3) (.pick (.tmp 3) (.tmp 0) (.tmp 99)),op0 (some 8) (.iaddr 1 (.tmp 0) (.const (.int .i64 0))),op0 (some 3) (.mv (.const (.int .i64 0)))] (Fr.args 0 [s,i,j]) h=some (fr',h')):
 ∃(p:Addr) (l c:Nat),s= .slice (some p) l c∧p.spot=none∧l≤1099511627776∧h'=h∧(∃a b,i= .int .i64 a∧j= .int .i64 b∧a<b)∧hy3 fr' e67=[(0,s),(1,i),(2,j),(3, .int .i64 (0:Nat)),(4, .int .i64 l)]:=by
 obtain⟨v0,h0,a0,hr⟩:=mr0 hr
 obtain⟨v1,h1,a1,hr⟩:=mr0 hr
 obtain⟨v2,h2,a2,hr⟩:=mr0 hr
 obtain⟨v3,h3,a3,hr⟩:=mr0 hr
 obtain⟨v4,h4,a4,hr⟩:=mr0 hr
 obtain⟨v5,h5,a5,hr⟩:=mr0 hr
 obtain⟨v6,h6,a6,hr⟩:=mr0 hr
 obtain⟨v7,h7,a7,hr⟩:=mr0 hr
 cases hr
 have a1:=hp3 (by simp) a1
 have a2:=hp3 (by simp) a2
 have a3:=hp3 (by simp) a3
 have a4:=hp3 (by simp) a4
 have a5:=hp3 (by simp) a5
 have a6:=hp3 (by simp) a6
 have a7:=hp3 (by simp) a7
 obtain⟨i0,hi0,rfl,rfl⟩:=g48 (hp3 (by simp) a0)
 have hi0:some i=some (.int .i64 i0):=hi0
 cases hi0
 have key: ∃t:Bool,v1=some (.bool t)∧h1=h0∧(t=true→ ∃a b,Value.int .i64 i0= .int .i64 a∧j= .int .i64 b∧a<b):=by
  rcases wq6 a1 (u:= .int .i64 i0) (u':=j) rfl rfl with⟨k,a,b,e,rfl,rfl,rfl⟩|⟨a,b,e,_⟩
  ·cases e
   exact⟨_,rfl,rfl,fun e=>⟨_,b,rfl,rfl,kb3 e⟩⟩
  ·cases e
 obtain⟨t,rfl,rfl,hkey⟩:=key
 obtain⟨ht,⟨u2,rfl⟩,rfl⟩:=pq1 a2 rfl rfl
 have hkey:=hkey ht
 obtain⟨sa,l,c,hs,rfl,rfl⟩:=xj2 a3
 have hs:some s=some (.slice sa l c):=hs
 cases hs
 obtain⟨t4,rfl,rfl,ht4⟩:=e02 a4 (l:=(l:Int)) rfl
 obtain⟨ht5,⟨u5,rfl⟩,rfl⟩:=pq1 a5 rfl rfl
 obtain⟨p,rfl,hsp,_,v6',rfl,rfl⟩:=qa0 a6 (s:=sa) (l:=l) (c:=c) rfl
 obtain⟨rfl,rfl⟩:=r66 a7
 have hl:=ht4 ht5
 exact⟨p,l,c,rfl,hsp,by omega,rfl,hkey,rfl⟩
theorem ar7{φ:Go.Am.Ren}{n:Nat}{k:IntKind}{a:Int}{v':Value}(h:VR φ n (.int k a) v'):v'= .int k a:=by cases h;rfl
open Classical in
theorem xb4{T:Tab}{B:Nat→Prop}{n:Nat}{s i j s' i' j':Value}{h h':H}{v:Value}{φ:Go.Am.Ren}{w:World}
 (he:goN T n [.tmp 7] [.code cDel] (Fr.args 0 [s,i,j]) h=some (v,h')) (hs:VR φ h.length s s') (hi:VR φ h.length i i') (hj:VR φ h.length j j') (hH:HR φ B h w):
 Calls Try.prog 25 [s',i',j'].toArray w fun e w'=> ∃φ' v',e= .returned v'∧VR φ' h'.length v v'∧HR φ' B h' w'∧Ext φ h.length φ'∧Bel B w w':=by
 rcases n with _|_|n
 ·cases he
 ·cases he
 simp only[goN,gF,cDel,sDel]at he
 split at he
 ·rename_i fr1 h1 hrun
  obtain⟨p,l,c,rfl,hsp,hl,rfl,hij,hkeep⟩:=t09 hrun
  rcases n with _|_|_|n
  ·cases he
  ·cases he
  ·cases he
  simp only[goN,gF]at he
  rw[hkeep]at he
  obtain⟨n',hn',he,hz⟩:=ne9 (vI:=i) (vJ:=j) hl n 0 (ms7 _) he (fun j hj=>absurd hj (Nat.not_lt_zero _))
  rcases n' with _|_|n'
  ·cases he
  ·cases he
  simp only[goN,gF,eDel]at he
  split at he
  ·rename_i fr2 h2 hrun2
   rcases n' with _|n'
   ·cases he
   simp only[goN,gF]at he
   obtain⟨a,b,rfl,rfl,hab⟩:=hij
   ·obtain⟨I,J,rfl,rfl,hJl,hlc,r,hrow,hown,helem,hunit,rfl,hf7⟩:=q66 hsp hab hrun2
    have hret:retv [.tmp 7] fr2 (kill h1 p.block++[.row ⟨(r.cells.drop p.off).take I++(r.cells.drop (p.off+J)).take (l-J),3,1,true⟩])=some (.slice (some ⟨h1.length,0,none⟩) (I+(l-J)) (I+(l-J)),kill h1 p.block++[.row ⟨(r.cells.drop p.off).take I++(r.cells.drop (p.off+J)).take (l-J),3,1,true⟩]):=by
     simp[retv,ress,res1,hf7]
    rw[hret]at he
    cases he
    rw[ar7 hi,ar7 hj]
    obtain⟨zs,hzl,hzs⟩: ∃zs:List Int,zs.length=l∧ ∀j,j<l→h1.ld1 p.block (p.off+j)=some (.int .i64 (zs.getD j 0)):=by
     classical
     refine⟨(List.range l).map fun j=>if e: ∃z,h1.ld1 p.block (p.off+j)=some (.int .i64 z)then Classical.choose e else 0,by simp,fun j hj=> ?_⟩
     have e:=hz j hj
     rw[os6,us5,iq9 hj,eb5,ns4,dif_pos e]
     exact jl7 e
    have hcells: ∀j,j<l→r.cells[p.off+j]? =some (.int .i64 (zs.getD j 0)):=fun j hj=>by
     have:=hzs j hj
     unfold H.ld1 at this
     rw[hrow]at this
     exact this
    have hrows:(r.cells.drop p.off).take I++(r.cells.drop (p.off+J)).take (l-J)=ints (zs.take I++zs.drop J):=by
     have e1:(r.cells.drop p.off).take l=ints zs:=by
      refine v63 fun j=> ?_
      unfold ints
      rw[td4,us5]
      by_cases hj:j<l
      ·rw[if_pos hj,s96,hcells j hj,os6,wu3 (by omega)];rfl
      ·rw[if_neg hj,pb5 (by omega)];rfl
     have e2:(r.cells.drop p.off).take I=ints (zs.take I):=by
      unfold ints at e1⊢
      rw[iw6,←e1,List.take_take,xp9 (by omega)]
     have e3:(r.cells.drop (p.off+J)).take (l-J)=ints (zs.drop J):=by
      unfold ints at e1⊢
      rw[gd3,←e1,List.drop_take,pb3]
     rw[e2,e3]
     unfold ints
     rw[hm3]
    have key:=z69 hH hs hrow hown hunit hzl hcells (I:=I) (J:=J) (by omega) hJl hlc
    rw[helem,show l-(J-I)=I+(l-J) by omega,←hrows]at key
    refine key.mono ?_
    rintro e w' ⟨φ',v',h1',h2',h3',h4',h5'⟩
    exact⟨φ',v',h1',by simpa [kill]using h2',h3',h4',h5'⟩
  ·cases he
 ·cases he
theorem a86{T:Tab}(hF:T 25=some FDel):PrimOK Try.prog T 25:=by
 refine⟨⟨_,_,Try.func25,rfl,by kernel_rfl⟩,fun F h=>by rw[hF]at h;cases h;rfl,fun hT B n ih vs vs' h h' v he φ w hv hH=> ?_⟩
 unfold enter at he
 rw[hF]at he
 simp only at he
 split at he
 ·rename_i hlen
  have hl2:=hv.1
  match vs,vs',hlen,hl2,hv,he with
  | [s,i,j],[s',i',j'],_,_,hv,he=>
    have h1:=hv.2 0 s rfl
    have h2:=hv.2 1 i rfl
    have h3:=hv.2 2 j rfl
    simp only[rw5,ok0,hx3,exists_eq_left']at h1 h2 h3
    exact xb4 he h1 h2 h3 hH
 ·cases he
end Go.Proofs.Ytppbpgmdmiajcaa
