/-
  sync.Once's Do, told by hand: not yet done and the lock free, it calls what it is given, and lays 'done'. No condition.
  sync.Once's Do in the small machine: its code, and that it is true to the model. No condition.
-/
import Derived.Test.YtppbpgmdmiajcaaGreatK0
import Derived.Test.YtppbpgmdmiajcaaGreatK2
import Derived.Test.YtppbpgmdmiajcaaGreatProg
import Derived.Tactics
import Derived.Tactics2
import Derived.Defers
import Derived.Laws.Pointers
import Derived.Laws.LoneSync
import Derived.Laws.NewBlocks
import Derived.RegionTactic
import Derived.RegionCalls
import Derived.ChangeAlike
set_option linter.unusedVariables false
set_option linter.unusedSimpArgs false
set_option linter.unusedSectionVars false
set_option maxRecDepth 100000
namespace Go.Proofs.YtppbpgmdmiajcaaGreat
open Go.Am
set_option maxHeartbeats 1600000
theorem disable(w:World):(callFunc 203 #[]).run Tryz.prog w= .ok (.value (.tuple #[])) w:=run_call_mark0 Tryz.func203 (by kernel_rfl) (by kernel_rfl) (by kernel_rfl) .disable (by kernel_rfl) w
theorem enable(w:World):(callFunc 205 #[]).run Tryz.prog w= .ok (.value (.tuple #[])) w:=run_call_mark0 Tryz.func205 (by kernel_rfl) (by kernel_rfl) (by kernel_rfl) .enable (by kernel_rfl) w
theorem acquire(a:Addr)(w:World):(callFunc 206 #[.pointer (some a)]).run Tryz.prog w= .ok (.value (.tuple #[])) w:=run_call_marked Tryz.func206 (by kernel_rfl) (by kernel_rfl) (by kernel_rfl) .acquire (by kernel_rfl) a w
theorem releaseMerge(a:Addr)(w:World):(callFunc 208 #[.pointer (some a)]).run Tryz.prog w= .ok (.value (.tuple #[])) w:=run_call_marked Tryz.func208 (by kernel_rfl) (by kernel_rfl) (by kernel_rfl) .releaseMerge (by kernel_rfl) a w
theorem g53(a:Addr)(x:Value)(u:FrameMode)(w:World)(hc:w.cell? a=some x)(hz:w.frozen? a=false):
 CallsD Tryz.prog 178 #[.pointer (some a), .bool true] u w fun e u' w'=>u'=u∧(e= .returned (.tuple #[])∧w'=w.drew.setCell a (.int .u32 1)):=by
 have hc':w.drew.cell? a=some x:=by go_simp
 have hz':w.drew.frozen? a=false:=by go_simp
 have hst:=run_call_store (P:=Tryz.prog) Tryz.func191 (by kernel_rfl) (by kernel_rfl) (by kernel_rfl) (by kernel_rfl) (k:= .u32) (y:=1) hc' hz'
 go_enter_d Tryz.func178,Tryz.ntmps178
 go_wp2
 go_region_calls
 all_goals (go_end0;exact⟨rfl,rfl⟩)
theorem fv3(a:Addr)(u:FrameMode)(w:World)(hc:w.cell? a=some (.int .i32 1))(hz:w.frozen? a=false):
 CallsD Tryz.prog 177 #[.pointer (some a)] u w fun e u' w'=>u'=u∧(e= .returned (.tuple #[])∧w'=w.setCell a (.int .i32 0)):=by
 have hd:=disable
 have he:=enable
 have hr:=releaseMerge
 have hadd:=run_call_add (P:=Tryz.prog) Tryz.func209 (by kernel_rfl) (by kernel_rfl) (by kernel_rfl) .i32 (by kernel_rfl) (y:= -1) (s:=0) hc hz (by simp[go_sem];rfl)
 have hcv:=run_convert_to_unsafe (P:=Tryz.prog) (src:=196) (dst:=200) Tryz.underlying196 Tryz.underlying200 (by kernel_rfl) hc
 go_enter_d Tryz.func177,Tryz.ntmps177
 go_wp2
 go_end0
 go_wp2
 go_end0
 exact⟨rfl,rfl⟩
theorem gu1(a:Addr)(w:World)(hc:w.cell? a=some (.int .i32 0))(hz:w.frozen? a=false):
 Calls Tryz.prog 176 #[.pointer (some a)] w fun e w'=>e= .returned (.tuple #[])∧w'=w.setCell a (.int .i32 1):=by
 have hd:=disable
 have he:=enable
 have ha:=acquire
 have hcas:=run_call_cas_hit (P:=Tryz.prog) Tryz.func204 (by kernel_rfl) (by kernel_rfl) (by kernel_rfl) .i32 (by kernel_rfl) (y:=1) hc hz
 have hc':(w.setCell a (.int .i32 1)).cell? a=some (.int .i32 1):=World.cell?_setCell_same w a _ hc
 have hcv:=run_convert_to_unsafe (P:=Tryz.prog) (src:=196) (dst:=200) Tryz.underlying196 Tryz.underlying200 (by kernel_rfl) hc'
 go_enter Tryz.func176,Tryz.ntmps176
 go_wp2
 first|go_end0|(simp only[Exit.inBlock,Exit.then];refine bodyPost_ret (results_none rfl _ _ _) rfl ?_)|refine bodyPost_ret (results_none rfl _ _ _) rfl ?_
 go_wp2
 go_end0
 exact⟨rfl,rfl⟩
theorem fq8(b off:Nat)(k:FuncId)(cap:Array Value)(w:World)(R:World→Prop)
 (hk: ∀w:World,(callFunc k cap).run Tryz.prog w= .ok (.enter k cap) w)
 (h0:w.cell? ⟨b,off,none⟩=some (.int .u32 0)) (h1:w.cell? ⟨b,off+1,none⟩=some (.int .i32 0)) (f1:w.frozen? ⟨b,off+1,none⟩=false)
 (hc:Calls Tryz.prog k cap (w.setCell ⟨b,off+1,none⟩ (.int .i32 1)) fun e w'=>(∃v,e= .returned v)∧w'.cell? ⟨b,off,none⟩=some (.int .u32 0)∧w'.cell? ⟨b,off+1,none⟩=some (.int .i32 1)∧w'.frozen? ⟨b,off,none⟩=false∧w'.frozen? ⟨b,off+1,none⟩=false∧R w'):
 Calls Tryz.prog 145 #[.pointer (some ⟨b,off,none⟩), .func (.func k) #[] cap] w fun e w'=>e= .returned (.tuple #[])∧
  ∃w2,R w2∧w'=(w2.drew.setCell ⟨b,off,none⟩ (.int .u32 1)).setCell ⟨b,off+1,none⟩ (.int .i32 0):=by
 have hl:=run_call_load (P:=Tryz.prog) Tryz.func175 (by kernel_rfl) (by kernel_rfl) (by kernel_rfl) .u32 (by kernel_rfl) (w:=w.setCell ⟨b,off+1,none⟩ (.int .i32 1)) (a:=⟨b,off,none⟩) (x:=0) ((World.cell?_setCell_other _ ⟨b,off+1,none⟩ ⟨b,off,none⟩ _ (by simp)).trans h0)
 have hnot: ∀(x:Bool) (w:World),(Op.unary .not (.bool x)).run Tryz.prog w= .ok (.bool (!x)) w:=fun _ _=>rfl
 go_enter_defers Tryz.func145,Tryz.ntmps145
 go_wp2_with (go_at_call 176;refine(gu1 ⟨b,off+1,none⟩ _ (by go_simp) (by go_simp)).mono ?_;rintro e w' ⟨rfl,rfl⟩)
 go_wp2
 refine hc.mono ?_
 rintro e w' ⟨⟨v,rfl⟩,c0,c1,z0,z1,hR⟩
 go_wp2
 --two deferred calls,the last laid first
 refine leaves_cons (f:=178) (args:= #[.pointer (some ⟨b,off,none⟩), .bool true]) (by simp) (by simp[go_sem]) ?_
 refine(g53 ⟨b,off,none⟩ (.int .u32 0) .returning _ c0 z0).mono ?_
 rintro e u' w'' ⟨rfl,rfl,rfl⟩
 refine leaves_cons (f:=177) (args:= #[.pointer (some ⟨b,off+1,none⟩)]) (by simp[settle]) (by simp[go_sem]) ?_
 refine(fv3 ⟨b,off+1,none⟩ _ _ ?_ (by simp[z1])).mono ?_
 ·refine(World.cell?_setCell_other _ ⟨b,off,none⟩ ⟨b,off+1,none⟩ _ (by simp)).trans ?_
  rw[World.cell?_drew]
  exact c1
 rintro e u' w'' ⟨rfl,rfl,rfl⟩
 simp[Leaves,settle,results,Tryz.results145]
 exact⟨_,hR,rfl⟩
theorem hi5(b off:Nat)(k:FuncId)(cap:Array Value)(w:World)(R:World→Prop)
 (hk: ∀w:World,(callFunc k cap).run Tryz.prog w= .ok (.enter k cap) w)
 (h0:w.cell? ⟨b,off,none⟩=some (.int .u32 0)) (h1:w.cell? ⟨b,off+1,none⟩=some (.int .i32 0)) (f1:w.frozen? ⟨b,off+1,none⟩=false)
 (hc:Calls Tryz.prog k cap (w.setCell ⟨b,off+1,none⟩ (.int .i32 1)) fun e w'=>(∃v,e= .returned v)∧w'.cell? ⟨b,off,none⟩=some (.int .u32 0)∧w'.cell? ⟨b,off+1,none⟩=some (.int .i32 1)∧w'.frozen? ⟨b,off,none⟩=false∧w'.frozen? ⟨b,off+1,none⟩=false∧R w'):
 Calls Tryz.prog 103 #[.pointer (some ⟨b,off,none⟩), .func (.func k) #[] cap] w fun e w'=>e= .returned (.tuple #[])∧
  ∃w2,R w2∧w'=(w2.drew.setCell ⟨b,off,none⟩ (.int .u32 1)).setCell ⟨b,off+1,none⟩ (.int .i32 0):=by
 have hl:=run_call_load (P:=Tryz.prog) Tryz.func175 (by kernel_rfl) (by kernel_rfl) (by kernel_rfl) .u32 (by kernel_rfl) h0
 have hnot: ∀(x:Bool) (w:World),(Op.unary .not (.bool x)).run Tryz.prog w= .ok (.bool (!x)) w:=fun _ _=>rfl
 go_enter Tryz.func103,Tryz.ntmps103
 go_wp2_with (first|(go_at_call 145;refine(fq8 b off k cap _ R hk h0 h1 f1 hc).mono ?_;rintro e w' ⟨rfl,h⟩)|(go_at_call 144;go_in))
 go_end0
 exact⟨rfl,h⟩
end Go.Proofs.YtppbpgmdmiajcaaGreat
namespace Go.Am
open Go.RowKit (Below)
theorem mr0{T:Tab}{g:List ARes→List It→Fr→H→Res}{n0:Nat}{o:AOper}{l:List AOper}{fr:Fr}{h:H}{r:Fr×H}(hr:gf4 T g n0 (o::l) fr h=some r):
 ∃v h1,core T g n0 o fr h=some (v,h1)∧gf4 T g n0 l (fr.put o.dst v) h1=some r:=by
 simp only[gf4]at hr
 split at hr
 ·rename_i fr' h' hs
  unfold km6 at hs
  split at hs
  ·rename_i v h1 hc
   cases hs
   exact⟨_,_,hc,hr⟩
  ·cases hs
 ·cases hr
theorem hp3{T:Tab}{g:List ARes→List It→Fr→H→Res}{n0:Nat}{d:Option Nat}{op:AOp}{fr:Fr}{h:H}{r:Option Value×H}(hop:(∀f a,op≠ .call f a)∧ ∀x a,op≠ .calld x a)(hr:core T g n0 ⟨d,op,none,false⟩ fr h=some r):aop fr h op=some r:=by
 unfold core at hr
 simp only[gd]at hr
 cases op<;>simp_all [wb6]
theorem HR.set1{P:Program}{φ:Ren}{B:Nat→Prop}{h h':H}{w:World}(hh:HR φ B h w){o off:Nat}{k:IntKind}{n:Int}(hm:(φ o).mp=false)(hs:h.sts o off [.int k n]=some h'):
 HR φ B h' (w.setCell ⟨(φ o).blk,(φ o).sh+off,none⟩ (.int k n))∧h'.length=h.length∧Bel B w (w.setCell ⟨(φ o).blk,(φ o).sh+off,none⟩ (.int k n)):=by
 obtain⟨w',h1,h2,h3,h4⟩:=hh.stores (P:=P) hm hs (vs':=[.int k n]) (LR.cons (.int k n) (LR.nil _ _)) (by simp[Value.oneCell'])
 obtain⟨r,hr,ho,hfit,rfl⟩:=cr9 hs
 obtain⟨_,_,_,cur,g4,_,_⟩:=hh.own o r hr ho hm
 have hlt:off<r.cells.length:=by simp at hfit;omega
 obtain⟨u,hu,_⟩:=hh.cell hr hm (wu3 hlt)
 have hf:w.frozen? ⟨(φ o).blk,(φ o).sh+off,none⟩=false:=by simp[World.frozen?,g4]
 have h5:(storeCells ⟨(φ o).blk,(φ o).sh+off,none⟩ [Value.int k n]).run P w= .ok () (w.setCell ⟨(φ o).blk,(φ o).sh+off,none⟩ (.int k n)):=by
  simp[storeCells,Addr.add,run_store_int,stored,hf,hu]
 rw[h1]at h5
 cases h5
 exact⟨h2,h3,h4⟩
end Go.Am
namespace Go.Am
theorem ua5{fr:Fr}{h h1:H}{s:Nat}{v:Option Value}(hr:aop fr h (.ld false 1 (.tmp s))=some (v,h1)):
 ∃a:Addr,fr s=some (.pointer (some a))∧a.spot=none∧(∃u,h.ld1 a.block a.off=some u∧v=some u)∧h1=h:=by
 simp only[aop,ev]at hr
 split at hr
 ·rename_i a ha
  split at hr
  ·cases hr
  ·rename_i hs
   split at hr
   ·rename_i u hu
    cases hr
    exact⟨a,ha,by simpa using hs,⟨u,hu,rfl⟩,rfl⟩
   ·cases hr
 ·cases hr
theorem eq_inv{fr:Fr}{h h1:H}{s:Nat}{k:IntKind}{c:Int}{v:Option Value}(hr:aop fr h (.bin .eql (.tmp s) (.const (.int k c)))=some (v,h1)):
 ∃x:Int,fr s=some (.int k x)∧v=some (.bool (decide (x=c)))∧h1=h:=by
 simp only[aop,ev,closed,tc5,oo9]at hr
 split at hr
 ·rename_i a b ha hb
  cases hb
  split at hr
  ·rename_i u hu
   cases hr
   unfold abin at hu
   split at hu
   ·rename_i e1
    cases e1
    simp only at hu
    split at hu
    ·rename_i e2
     subst e2
     cases hu
     exact⟨_,ha,rfl,rfl⟩
    ·cases hu
   ·rename_i e1;cases e1
   ·cases hu
  ·cases hr
 ·cases hr
theorem pq1{fr:Fr}{h h1:H}{c a b:Nat}{t:Bool}{v:Option Value}(hr:aop fr h (.pick (.tmp c) (.tmp a) (.tmp b))=some (v,h1))(hc:fr c=some (.bool t))(hb:fr b=none):t=true∧(∃u,v=some u)∧h1=h:=by
 cases t with
 |true=>
  simp only[aop,ev,hc,oo9]at hr
  split at hr
  ·cases hr;exact⟨rfl,⟨_,rfl⟩,rfl⟩
  ·cases hr
 |false=>
  have:aop fr h (.pick (.tmp c) (.tmp a) (.tmp b))=none:=by simp[aop,ev,hc,hb]
  rw[this]at hr;cases hr
theorem mi5{fr:Fr}{h h1:H}{s off:Nat}{v:Option Value}(hr:aop fr h (.faddr off (.tmp s))=some (v,h1)):
 ∃a:Addr,fr s=some (.pointer (some a))∧a.spot=none∧v=some (.pointer (some ⟨a.block,a.off+off,none⟩))∧h1=h:=by
 simp only[aop,ev]at hr
 split at hr
 ·rename_i a ha
  split at hr
  ·cases hr
  ·rename_i hs
   cases hr
   exact⟨a,ha,by simpa using hs,rfl,rfl⟩
 ·cases hr
theorem m60{fr:Fr}{h h1:H}{s:Nat}{k:IntKind}{c:Int}{v:Option Value}(hr:aop fr h (.st 1 (.tmp s) (.const (.int k c)))=some (v,h1)):
 ∃a:Addr,fr s=some (.pointer (some a))∧a.spot=none∧h.sts a.block a.off [.int k c]=some h1∧v=none:=by
 simp only[aop,ev,closed,tc5,oo9]at hr
 split at hr
 ·rename_i a u ha hu
  cases hu
  split at hr
  ·cases hr
  ·rename_i hs
   simp only[Value.cells]at hr
   split at hr
   ·rename_i h2 h3
    cases hr
    exact⟨a,ha,by simp at hs;exact hs.1.1,h3,rfl⟩
   ·cases hr
 ·cases hr
theorem as2{T:Tab}{g:List ARes→List It→Fr→H→Res}{n0 s:Nat}{d:Option Nat}{fr:Fr}{h h1:H}{v:Option Value}(hr:core T g n0 ⟨d, .calld (.tmp s) [],none,false⟩ fr h=some (v,h1)):
 ∃k first cap u,fr s=some (.func (.func k) first cap)∧first.isEmpty=true∧enter T g k cap.toList h=some (u,h1)∧v=some u:=by
 unfold core at hr
 simp only[gd,evs,ev]at hr
 split at hr
 ·rename_i f first cap vs h1 h2
  cases h2
  split at hr
  ·rename_i he
   split at hr
   ·rename_i u h2 h3
    cases hr
    exact⟨f,first,cap,u,h1,he,by simpa using h3,rfl⟩
   ·cases hr
  ·cases hr
 ·cases hr
abbrev op0(d:Option Nat)(o:AOp):AOper:=⟨d,o,none,false⟩
def cDo:ACode:= .region [op0 (some 2) (.ld false 1 (.tmp 0)),op0 (some 3) (.bin .eql (.tmp 2) (.const (.int .u32 0))),op0 (some 3) (.pick (.tmp 3) (.tmp 0) (.tmp 99)),
 op0 (some 4) (.faddr 1 (.tmp 0)),op0 (some 5) (.ld false 1 (.tmp 4)),op0 (some 3) (.bin .eql (.tmp 5) (.const (.int .i32 0))),op0 (some 3) (.pick (.tmp 3) (.tmp 0) (.tmp 99)),
 op0 none (.st 1 (.tmp 4) (.const (.int .i32 1))),op0 (some 6) (.calld (.tmp 1) []),
 op0 (some 7) (.ld false 1 (.tmp 0)),op0 (some 3) (.bin .eql (.tmp 7) (.const (.int .u32 0))),op0 (some 3) (.pick (.tmp 3) (.tmp 0) (.tmp 99)),
 op0 (some 8) (.ld false 1 (.tmp 4)),op0 (some 3) (.bin .eql (.tmp 8) (.const (.int .i32 1))),op0 (some 3) (.pick (.tmp 3) (.tmp 0) (.tmp 99)),
 op0 none (.st 1 (.tmp 0) (.const (.int .u32 1))),op0 none (.st 1 (.tmp 4) (.const (.int .i32 0)))]
def FDo:AFun:=⟨cDo,2,10,[]⟩
end Go.Am
namespace Go.Proofs.YtppbpgmdmiajcaaGreat
open Go.Am Go.RowKit
theorem n60{φ:Ren}{B:Nat→Prop}{h:H}{w:World}(hH:HR φ B h w){o off:Nat}{k:IntKind}{n:Int}(hm:(φ o).mp=false)(hl:h.ld1 o off=some (.int k n)):w.cell? ⟨(φ o).blk,(φ o).sh+off,none⟩=some (.int k n):=by
 unfold H.ld1 at hl
 split at hl
 ·rename_i r hr
  obtain⟨u,h1,h2⟩:=hH.cell hr hm hl
  cases h2
  exact h1
 ·cases hl
theorem r92{φ:Ren}{B:Nat→Prop}{h h':H}{w:World}(hH:HR φ B h w){o off:Nat}{vs:List Value}(hm:(φ o).mp=false)(hs:h.sts o off vs=some h')(i:Nat):w.frozen? ⟨(φ o).blk,i,none⟩=false:=by
 obtain⟨r,hr,ho,_,_⟩:=cr9 hs
 obtain⟨_,_,_,cur,g4,_,_⟩:=hH.own o r hr ho hm
 simp[World.frozen?,g4]
theorem b73{T:Tab}{B:Nat→Prop}{g:List ARes→List It→Fr→H→Res}(hT: ∀f F,T f=some F→f75 Tryz.prog f){k:FuncId}(ih:zb8 Tryz.prog B T g k){h0 h1 h2 h3 h4:H}{a:Addr}{first cap:Array Value}{u p' f':Value}
 (hfi:first.isEmpty=true) (l1:h0.ld1 a.block a.off=some (.int .u32 0)) (l5:h0.ld1 a.block (a.off+1)=some (.int .i32 0)) (s8:h0.sts a.block (a.off+1) [.int .i32 1]=some h1)
 (hen:enter T g k cap.toList h1=some (u,h2)) (l10:h2.ld1 a.block a.off=some (.int .u32 0)) (l13:h2.ld1 a.block (a.off+1)=some (.int .i32 1))
 (s16:h2.sts a.block a.off [.int .u32 1]=some h3) (s17:h3.sts a.block (a.off+1) [.int .i32 0]=some h4) {φ:Ren} {w:World}
 (hp:VR φ h0.length (.pointer (some a)) p') (hf:VR φ h0.length (.func (.func k) first cap) f') (hH:HR φ B h0 w):
 Calls Tryz.prog 103 [p',f'].toArray w fun e w'=> ∃φ' v',e= .returned v'∧VR φ' h4.length (.tuple #[]) v'∧HR φ' B h4 w'∧Ext φ h0.length φ'∧Bel B w w':=by
 obtain⟨hsp,hlt,hm,hpe⟩:=bq1 hp
 have hcap: ∃cap',f'= .func (.func k) #[] cap'∧LR φ h0.length cap.toList cap'.toList:=by
  cases hf with
  |func _ _ cs' hsz hh=>exact⟨cs',rfl,LR.of_arrays hsz hh⟩
 obtain⟨cap',rfl,hLcap⟩:=hcap
 subst hpe
 obtain⟨hH1,hl1,hb1⟩:=hH.set1 (P:=Tryz.prog) hm s8
 have hcall:=ih cap.toList cap'.toList h1 h2 u hen φ _ (by rw[hl1];exact hLcap) hH1
 have hk: ∀w:World,(callFunc k cap').run Tryz.prog w= .ok (.enter k cap') w:=fun w=>by
  have:=js6 (vs':=cap'.toList) hT hen w
  simpa using this
 have hcap2:cap'.toList.toArray=cap':=by simp
 rw[hcap2]at hcall
 refine(hi5 (φ a.block).blk ((φ a.block).sh+a.off) k cap' w (fun w'=> ∃φ',HR φ' B h2 w'∧Ext φ h0.length φ'∧Bel B w w') hk (n60 hH hm l1) (n60 hH hm l5) (r92 hH hm s8 _) (hcall.mono ?_)).mono ?_
 ·rintro e w' ⟨φ',v',rfl,hv',hH',hE',hB'⟩
  rw[hl1]at hE'
  have hφ:=hE' a.block hlt
  have hm':(φ' a.block).mp=false:=by rw[hφ];exact hm
  have c0:=n60 hH' hm' l10
  have c1:=n60 hH' hm' l13
  have z0:=fun i=>r92 hH' hm' s16 i
  rw[hφ]at c0 c1 z0
  exact⟨⟨v',rfl⟩,c0,c1,z0 _,z0 _,φ',hH',hE',hb1.trans hB'⟩
 ·rintro e w' ⟨rfl,w2,⟨φ',hH',hE',hB'⟩,rfl⟩
  have hd:HR φ' B h2 w2.drew:=hH'.drawn _
  have hm':(φ' a.block).mp=false:=by rw[hE' a.block hlt];exact hm
  obtain⟨g1,g2,g3⟩:=hd.set1 (P:=Tryz.prog) hm' s16
  obtain⟨k1,k2,k3⟩:=g1.set1 (P:=Tryz.prog) hm' s17
  have hφ:=hE' a.block hlt
  rw[hφ]at g1 g3 k1 k3
  have h0:Bel B w2 w2.drew:=⟨rfl,rfl,rfl,jj6 _,fun _ _=>rfl⟩
  exact⟨φ', .tuple #[],rfl, .tuple #[] #[] rfl (fun i hi=>absurd hi (by simp)),k1,hE',hB'.trans (h0.trans (g3.trans k3))⟩
theorem tr1{T:Tab}(hF:T 103=some FDo):PrimOK Tryz.prog T 103:=by
 refine⟨⟨_,_,Tryz.func103,rfl,by kernel_rfl⟩,fun F h=>by rw[hF]at h;cases h;rfl,fun hT B n ih vs vs' h h' v he φ w hv hH=> ?_⟩
 unfold enter at he
 rw[hF]at he
 simp only at he
 split at he
 ·rename_i hlen
  match n,ih,he with
  |0,_,he=>cases he
  |n+1,ih,he=>
  simp only[goN,gF,FDo,cDo]at he
  split at he
  ·rename_i fr' h2 hrun
   match n,ih,he,hrun with
   |0,_,he,_=>cases he
   |n+1,ih,he,hrun=>
   simp only[goN,gF,retv,ress]at he
   cases he
   match vs,vs',hlen,hv,hrun with
   | [p,f],[p',f'],_,hv,hrun=>
   have hp:=hv.2 0 p rfl
   have hf:=hv.2 1 f rfl
   simp only[rw5,List.getElem?_cons_succ,hx3,exists_eq_left']at hp hf
   obtain⟨v1,h1,e1,hrun⟩:=mr0 hrun
   obtain⟨v2,h2,e2,hrun⟩:=mr0 hrun
   obtain⟨v3,h3,e3,hrun⟩:=mr0 hrun
   obtain⟨v4,h4,e4,hrun⟩:=mr0 hrun
   obtain⟨v5,h5,e5,hrun⟩:=mr0 hrun
   obtain⟨v6,h6,e6,hrun⟩:=mr0 hrun
   obtain⟨v7,h7,e7,hrun⟩:=mr0 hrun
   obtain⟨v8,h8,e8,hrun⟩:=mr0 hrun
   obtain⟨v9,h9,e9,hrun⟩:=mr0 hrun
   obtain⟨v10,h10,e10,hrun⟩:=mr0 hrun
   obtain⟨v11,h11,e11,hrun⟩:=mr0 hrun
   obtain⟨v12,h12,e12,hrun⟩:=mr0 hrun
   obtain⟨v13,h13,e13,hrun⟩:=mr0 hrun
   obtain⟨v14,h14,e14,hrun⟩:=mr0 hrun
   obtain⟨v15,h15,e15,hrun⟩:=mr0 hrun
   obtain⟨v16,h16,e16,hrun⟩:=mr0 hrun
   obtain⟨v17,h17,e17,hrun⟩:=mr0 hrun
   cases hrun
   obtain⟨a,fa,asp,⟨x1,l1,rfl⟩,rfl⟩:=ua5 (hp3 (by simp) e1)
   obtain⟨y1,fy1,rfl,rfl⟩:=eq_inv (hp3 (by simp) e2)
   obtain⟨t1,⟨z1,rfl⟩,rfl⟩:=pq1 (hp3 (by simp) e3) rfl rfl
   obtain⟨a4,fa4,_,rfl,rfl⟩:=mi5 (hp3 (by simp) e4)
   obtain⟨a5,fa5,_,⟨x5,l5,rfl⟩,rfl⟩:=ua5 (hp3 (by simp) e5)
   obtain⟨y6,fy6,rfl,rfl⟩:=eq_inv (hp3 (by simp) e6)
   obtain⟨t6,⟨z6,rfl⟩,rfl⟩:=pq1 (hp3 (by simp) e7) rfl rfl
   obtain⟨a8,fa8,_,s8,rfl⟩:=m60 (hp3 (by simp) e8)
   obtain⟨k,first,cap,u,fk,hfi,hen,rfl⟩:=as2 e9
   obtain⟨a10,fa10,_,⟨x10,l10,rfl⟩,rfl⟩:=ua5 (hp3 (by simp) e10)
   obtain⟨y11,fy11,rfl,rfl⟩:=eq_inv (hp3 (by simp) e11)
   obtain⟨t11,⟨z11,rfl⟩,rfl⟩:=pq1 (hp3 (by simp) e12) rfl rfl
   obtain⟨a13,fa13,_,⟨x13,l13,rfl⟩,rfl⟩:=ua5 (hp3 (by simp) e13)
   obtain⟨y14,fy14,rfl,rfl⟩:=eq_inv (hp3 (by simp) e14)
   obtain⟨t14,⟨z14,rfl⟩,rfl⟩:=pq1 (hp3 (by simp) e15) rfl rfl
   obtain⟨a16,fa16,_,s16,rfl⟩:=m60 (hp3 (by simp) e16)
   obtain⟨a17,fa17,_,s17,rfl⟩:=m60 (hp3 (by simp) e17)
   have q1:p= .pointer (some a):=pk4 fa
   have q4:p= .pointer (some a4):=pk4 fa4
   have q10:p= .pointer (some a10):=pk4 fa10
   have q16:p= .pointer (some a16):=pk4 fa16
   have q5:Value.pointer (some ⟨a4.block,a4.off+1,none⟩)= .pointer (some a5):=pk4 fa5
   have q8:Value.pointer (some ⟨a4.block,a4.off+1,none⟩)= .pointer (some a8):=pk4 fa8
   have q13:Value.pointer (some ⟨a4.block,a4.off+1,none⟩)= .pointer (some a13):=pk4 fa13
   have q17:Value.pointer (some ⟨a4.block,a4.off+1,none⟩)= .pointer (some a17):=pk4 fa17
   have qf:f= .func (.func k) first cap:=pk4 fk
   have r1:x1= .int .u32 y1:=pk4 fy1
   have r5:x5= .int .i32 y6:=pk4 fy6
   have r10:x10= .int .u32 y11:=pk4 fy11
   have r13:x13= .int .i32 y14:=pk4 fy14
   clear fa fa4 fa10 fa16 fa5 fa8 fa13 fa17 fk fy1 fy6 fy11 fy14 e1 e2 e3 e4 e5 e6 e7 e8 e9 e10 e11 e12 e13 e14 e15 e16 e17
   subst q1
   cases q4;cases q10;cases q16;cases q5;cases q8;cases q13;cases q17
   subst qf r1 r5 r10 r13
   simp only[jn8]at t1 t6 t11 t14
   subst t1 t6 t11 t14
   exact b73 hT (ih _ (by omega) k) hfi l1 l5 s8 hen l10 l13 s16 s17 hp hf hH
  ·cases he
 ·cases he
end Go.Proofs.YtppbpgmdmiajcaaGreat
