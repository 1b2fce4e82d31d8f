/-
  The second machine's tables of this seat, written by a program of my own (vgen.py). No condition. Where a law's call begins: nothing in memory, or the rows of its arguments. No condition. A law's argu ..
-/
import Derived.Test.YtppbpgmdmiajcaaK0
import Derived.Test.YtppbpgmdmiajcaaK4
import Derived.Test.YtppbpgmdmiajcaaKCode
import Derived.WideShapes
import Derived.Deep.Matrix
set_option linter.unusedVariables false
set_option linter.unusedSimpArgs false
set_option linter.unusedSectionVars false
set_option maxRecDepth 100000
namespace Go.Proofs.Ytppbpgmdmiajcaa
open Go.Am Go.Vm
def ct:CT
 |22,0=>some (3,1)
 |23,0=>some (22,1)
 |24,2=>some (22,1)
 |25,2=>some (22,1)
 |89,3=>some (3,1)
 |89,5=>some (3,1)
 |89,6=>some (3,1)
 |90,3=>some (3,1)
 |90,5=>some (3,1)
 |90,6=>some (3,1)
 |_,_=>none
abbrev hNo:Hint:=⟨[],[],[],[]⟩
abbrev h12:Hint:=⟨[(8,3,1),(9,3,1)],[],[],[]⟩
abbrev h13:Hint:=⟨[(2,3,1)],[],[],[]⟩
abbrev h15:Hint:=⟨[],[8],[],[]⟩
abbrev h19:Hint:=⟨[(27,22,1)],[],[],[]⟩
abbrev h20:Hint:=⟨[(4,22,1),(11,22,1)],[],[],[]⟩
abbrev h26:Hint:=⟨[(2,3,1)],[],[],[]⟩
abbrev h40:Hint:=⟨[(5,3,1)],[71],[],[]⟩
abbrev h54:Hint:=⟨[(6,3,1),(7,3,1)],[],[],[]⟩
abbrev h55:Hint:=⟨[(6,3,1)],[],[],[]⟩
abbrev h56:Hint:=⟨[(3,3,1)],[],[],[]⟩
abbrev h72:Hint:=⟨[(6,3,1)],[],[],[]⟩
def vH:FuncId→Hint
 |12=>h12
 |13=>h13
 |15=>h15
 |19=>h19
 |20=>h20
 |26=>h26
 |40=>h40
 |54=>h54
 |55=>h55
 |56=>h56
 |72=>h72
 |_=>hNo
def vM:FuncId→List Go.Vm.Mode
 |6=>[.perm 1]
 |7=>[.perm 1, .perm 1]
 |8=>[.perm 1, .bor 0]
 |10=>[.perm 1, .bor 0]
 |11=>[.perm 1, .bor 1]
 |15=>[.perm 1, .perm 1]
 |19=>[.perm 1]
 |22=>[.perm 1, .bor 0]
 |23=>[.perm 1, .bor 0, .bor 0]
 |25=>[.own 3 1, .bor 0, .bor 0]
 |27=>[.perm 1]
 |33=>[.bor 0, .perm 1, .bor 1]
 |34=>[.perm 1]
 |35=>[.perm 1, .bor 1]
 |36=>[.perm 1]
 |38=>[.perm 1]
 |39=>[.perm 1]
 |62=>[.bor 0, .own 3 1, .bor 0]
 |64=>[.bor 0, .own 3 1, .bor 1, .bor 0]
 |_=>[]
@[push_cast] theorem vH3:vH 3=hNo:=rfl
@[push_cast] theorem vM3:vM 3=[]:=rfl
@[push_cast] theorem vH4:vH 4=hNo:=rfl
@[push_cast] theorem vM4:vM 4=[]:=rfl
@[push_cast] theorem vH5:vH 5=hNo:=rfl
@[push_cast] theorem vM5:vM 5=[]:=rfl
@[push_cast] theorem vH6:vH 6=hNo:=rfl
@[push_cast] theorem vM6:vM 6=[.perm 1]:=rfl
@[push_cast] theorem vH7:vH 7=hNo:=rfl
@[push_cast] theorem vM7:vM 7=[.perm 1, .perm 1]:=rfl
@[push_cast] theorem vH8:vH 8=hNo:=rfl
@[push_cast] theorem vM8:vM 8=[.perm 1, .bor 0]:=rfl
@[push_cast] theorem vH9:vH 9=hNo:=rfl
@[push_cast] theorem vM9:vM 9=[]:=rfl
@[push_cast] theorem vH10:vH 10=hNo:=rfl
@[push_cast] theorem vM10:vM 10=[.perm 1, .bor 0]:=rfl
@[push_cast] theorem vH11:vH 11=hNo:=rfl
@[push_cast] theorem vM11:vM 11=[.perm 1, .bor 1]:=rfl
@[push_cast] theorem vH12:vH 12=h12:=rfl
@[push_cast] theorem vM12:vM 12=[]:=rfl
@[push_cast] theorem vH13:vH 13=h13:=rfl
@[push_cast] theorem vM13:vM 13=[]:=rfl
@[push_cast] theorem vH14:vH 14=hNo:=rfl
@[push_cast] theorem vM14:vM 14=[]:=rfl
@[push_cast] theorem vH15:vH 15=h15:=rfl
@[push_cast] theorem vM15:vM 15=[.perm 1, .perm 1]:=rfl
@[push_cast] theorem vH16:vH 16=hNo:=rfl
@[push_cast] theorem vM16:vM 16=[]:=rfl
@[push_cast] theorem vH17:vH 17=hNo:=rfl
@[push_cast] theorem vM17:vM 17=[]:=rfl
@[push_cast] theorem vH18:vH 18=hNo:=rfl
@[push_cast] theorem vM18:vM 18=[]:=rfl
@[push_cast] theorem vH19:vH 19=h19:=rfl
@[push_cast] theorem vM19:vM 19=[.perm 1]:=rfl
@[push_cast] theorem vH20:vH 20=h20:=rfl
@[push_cast] theorem vM20:vM 20=[]:=rfl
@[push_cast] theorem vH21:vH 21=hNo:=rfl
@[push_cast] theorem vM21:vM 21=[]:=rfl
@[push_cast] theorem vH22:vH 22=hNo:=rfl
@[push_cast] theorem vM22:vM 22=[.perm 1, .bor 0]:=rfl
@[push_cast] theorem vH23:vH 23=hNo:=rfl
@[push_cast] theorem vM23:vM 23=[.perm 1, .bor 0, .bor 0]:=rfl
@[push_cast] theorem vH24:vH 24=hNo:=rfl
@[push_cast] theorem vM24:vM 24=[]:=rfl
@[push_cast] theorem vH26:vH 26=h26:=rfl
@[push_cast] theorem vM26:vM 26=[]:=rfl
@[push_cast] theorem vH27:vH 27=hNo:=rfl
@[push_cast] theorem vM27:vM 27=[.perm 1]:=rfl
@[push_cast] theorem vH28:vH 28=hNo:=rfl
@[push_cast] theorem vM28:vM 28=[]:=rfl
@[push_cast] theorem vH29:vH 29=hNo:=rfl
@[push_cast] theorem vM29:vM 29=[]:=rfl
@[push_cast] theorem vH30:vH 30=hNo:=rfl
@[push_cast] theorem vM30:vM 30=[]:=rfl
@[push_cast] theorem vH31:vH 31=hNo:=rfl
@[push_cast] theorem vM31:vM 31=[]:=rfl
@[push_cast] theorem vH32:vH 32=hNo:=rfl
@[push_cast] theorem vM32:vM 32=[]:=rfl
@[push_cast] theorem vH33:vH 33=hNo:=rfl
@[push_cast] theorem vM33:vM 33=[.bor 0, .perm 1, .bor 1]:=rfl
@[push_cast] theorem vH34:vH 34=hNo:=rfl
@[push_cast] theorem vM34:vM 34=[.perm 1]:=rfl
@[push_cast] theorem vH35:vH 35=hNo:=rfl
@[push_cast] theorem vM35:vM 35=[.perm 1, .bor 1]:=rfl
@[push_cast] theorem vH36:vH 36=hNo:=rfl
@[push_cast] theorem vM36:vM 36=[.perm 1]:=rfl
@[push_cast] theorem vH37:vH 37=hNo:=rfl
@[push_cast] theorem vM37:vM 37=[]:=rfl
@[push_cast] theorem vH38:vH 38=hNo:=rfl
@[push_cast] theorem vM38:vM 38=[.perm 1]:=rfl
@[push_cast] theorem vH39:vH 39=hNo:=rfl
@[push_cast] theorem vM39:vM 39=[.perm 1]:=rfl
@[push_cast] theorem vH40:vH 40=h40:=rfl
@[push_cast] theorem vM40:vM 40=[]:=rfl
@[push_cast] theorem vH41:vH 41=hNo:=rfl
@[push_cast] theorem vM41:vM 41=[]:=rfl
@[push_cast] theorem vH42:vH 42=hNo:=rfl
@[push_cast] theorem vM42:vM 42=[]:=rfl
@[push_cast] theorem vH43:vH 43=hNo:=rfl
@[push_cast] theorem vM43:vM 43=[]:=rfl
@[push_cast] theorem vH44:vH 44=hNo:=rfl
@[push_cast] theorem vM44:vM 44=[]:=rfl
@[push_cast] theorem vH46:vH 46=hNo:=rfl
@[push_cast] theorem vM46:vM 46=[]:=rfl
@[push_cast] theorem vH47:vH 47=hNo:=rfl
@[push_cast] theorem vM47:vM 47=[]:=rfl
@[push_cast] theorem vH48:vH 48=hNo:=rfl
@[push_cast] theorem vM48:vM 48=[]:=rfl
@[push_cast] theorem vH49:vH 49=hNo:=rfl
@[push_cast] theorem vM49:vM 49=[]:=rfl
@[push_cast] theorem vH50:vH 50=hNo:=rfl
@[push_cast] theorem vM50:vM 50=[]:=rfl
@[push_cast] theorem vH51:vH 51=hNo:=rfl
@[push_cast] theorem vM51:vM 51=[]:=rfl
@[push_cast] theorem vH53:vH 53=hNo:=rfl
@[push_cast] theorem vM53:vM 53=[]:=rfl
@[push_cast] theorem vH54:vH 54=h54:=rfl
@[push_cast] theorem vM54:vM 54=[]:=rfl
@[push_cast] theorem vH55:vH 55=h55:=rfl
@[push_cast] theorem vM55:vM 55=[]:=rfl
@[push_cast] theorem vH56:vH 56=h56:=rfl
@[push_cast] theorem vM56:vM 56=[]:=rfl
@[push_cast] theorem vH57:vH 57=hNo:=rfl
@[push_cast] theorem vM57:vM 57=[]:=rfl
@[push_cast] theorem vH58:vH 58=hNo:=rfl
@[push_cast] theorem vM58:vM 58=[]:=rfl
@[push_cast] theorem vH59:vH 59=hNo:=rfl
@[push_cast] theorem vM59:vM 59=[]:=rfl
@[push_cast] theorem vH60:vH 60=hNo:=rfl
@[push_cast] theorem vM60:vM 60=[]:=rfl
@[push_cast] theorem vH61:vH 61=hNo:=rfl
@[push_cast] theorem vM61:vM 61=[]:=rfl
@[push_cast] theorem vH62:vH 62=hNo:=rfl
@[push_cast] theorem vM62:vM 62=[.bor 0, .own 3 1, .bor 0]:=rfl
@[push_cast] theorem vH63:vH 63=hNo:=rfl
@[push_cast] theorem vM63:vM 63=[]:=rfl
@[push_cast] theorem vH64:vH 64=hNo:=rfl
@[push_cast] theorem vM64:vM 64=[.bor 0, .own 3 1, .bor 1, .bor 0]:=rfl
@[push_cast] theorem vH65:vH 65=hNo:=rfl
@[push_cast] theorem vM65:vM 65=[]:=rfl
@[push_cast] theorem vH68:vH 68=hNo:=rfl
@[push_cast] theorem vM68:vM 68=[]:=rfl
@[push_cast] theorem vH69:vH 69=hNo:=rfl
@[push_cast] theorem vM69:vM 69=[]:=rfl
@[push_cast] theorem vH70:vH 70=hNo:=rfl
@[push_cast] theorem vM70:vM 70=[]:=rfl
@[push_cast] theorem vH71:vH 71=hNo:=rfl
@[push_cast] theorem vM71:vM 71=[]:=rfl
@[push_cast] theorem vH72:vH 72=h72:=rfl
@[push_cast] theorem vM72:vM 72=[]:=rfl
@[push_cast] theorem vH73:vH 73=hNo:=rfl
@[push_cast] theorem vM73:vM 73=[]:=rfl
@[push_cast] theorem vH74:vH 74=hNo:=rfl
@[push_cast] theorem vM74:vM 74=[]:=rfl
@[push_cast] theorem vH79:vH 79=hNo:=rfl
@[push_cast] theorem vM79:vM 79=[]:=rfl
@[push_cast] theorem vH84:vH 84=hNo:=rfl
@[push_cast] theorem vM84:vM 84=[]:=rfl
attribute [push_cast] ct
end Go.Proofs.Ytppbpgmdmiajcaa
namespace Go.Am
open Go.RowKit (Below)
theorem HR.start(φ:Ren)(w:World):HR φ (old w) [] w where
 mpo:=fun o r h=>by simp[H.row]at h
 own:=fun o r h=>by simp[H.row]at h
 ro:=fun o r h=>by simp[H.row]at h
 one:=fun o r h=>by simp[H.row]at h
 inj:=fun o o' r r' h=>by simp[H.row]at h
 size:=fun k hk=>hk
def φ0:Ren:=fun _=>⟨0,0,0,0,false⟩
theorem ua3{n:Int}(h:(Lit.int .i64 n).wf=true): -9223372036854775808≤n∧n≤9223372036854775807:=by
 simp only[Lit.wf,b83,jn8]at h
 exact h
end Go.Am
namespace Go.Am
open Go.RowKit (Below)
def RoI(k:IntKind)(w:World)(a:Option Addr)(len cap:Nat)(zs:List Int):Prop:=
 (a=none∧len=0∧cap=0∧zs=[])∨
 ∃x,a=some x∧x.spot=none∧x.block<w.heap.size∧len≤cap∧zs.length=cap∧ ∀i,i<zs.length→w.cell? (x.add i)=some (.int k (zs.getD i 0))
theorem yk7{P:Program}{w:World}{base:Nat}{t e:TypeId}{x:Addr}{len cap:Nat}(ht:P.underlying t=some (.slice e))(h:Value.okWide P w .any base t (.slice (some x) len cap)):
 x.spot=none∧x.block<w.heap.size:=by
 simp only[Value.okWide,ht,Cell.okWide,Cell.ok,World.has]at h
 obtain⟨_,_,_,hs,row,cells,hsh,_⟩:=h
 refine⟨hs, ?_⟩
 unfold World.shape? at hsh
 by_cases hb:x.block<w.heap.size
 ·exact hb
 ·rw[Array.getElem?_eq_none (by omega)]at hsh;cases hsh
theorem ac6{x:Addr}(hx:x.spot=none)(i:Nat):x.add i=⟨x.block,x.off+i,none⟩:=by
 unfold Addr.add
 obtain⟨b,o,s⟩:=x
 simp only at hx
 subst hx
 split
 ·rename_i h;subst h;rfl
 ·rfl
theorem HR.pushRo{φ:Ren}{B:Nat→Prop}{h:H}{w:World}(hh:HR φ B h w)(r:Row)(b sh cap u:Nat)(hr:r.own=false)(hB:B b)(hone: ∀c∈r.cells,c.oneCell'=true)
 (hc: ∀(i:Nat) (c:Value),r.cells[i]? =some c→ ∃v,w.cell? ⟨b,sh+i,none⟩=some v∧VR φ h.length c v):
 HR (φ.with h.length ⟨b,sh,cap,u,false⟩) B (h++[.row r]) w:=by
 have hext:=Ext.with φ h.length ⟨b,sh,cap,u,false⟩
 have hlen:(h++[Ob.row r]).length=h.length+1:=by simp
 have hmono: ∀{c v},VR φ h.length c v→VR (φ.with h.length ⟨b,sh,cap,u,false⟩) (h++[Ob.row r]).length c v:=fun hv=>hv.mono hext (by omega)
 refine⟨fun o r' hr' ho hm=> ?_,fun o r' hr' ho hm=> ?_,fun o r' hr' ho=> ?_,fun o r' hr'=> ?_,fun o o' r1 r2 h1 h2 o1 o2 he=> ?_,hh.size⟩
 ·rcases v39 hr' with⟨hlt,hr'⟩|⟨rfl,rfl⟩
  ·rw[hext o hlt]at hm⊢
   obtain⟨h0,h2,es,ck,h3,h4⟩:=hh.mpo o r' hr' ho hm
   exact⟨h0,h2,es,ck,h3,h4.mono hext (by omega)⟩
  ·rw[hr]at ho;cases ho
 ·rcases v39 hr' with⟨hlt,hr'⟩|⟨rfl,rfl⟩
  ·rw[hext o hlt]at hm⊢
   obtain⟨h0,h2,h3,cur',h4,h5,h6⟩:=hh.own o r' hr' ho hm
   exact⟨h0,h2,h3,cur',h4,h5,fun i c hc=>let⟨v,h7,h8⟩:=h6 i c hc;⟨v,h7,hmono h8⟩⟩
  ·rw[hr]at ho;cases ho
 ·rcases v39 hr' with⟨hlt,hr'⟩|⟨rfl,rfl⟩
  ·rw[hext o hlt]
   obtain⟨hn,h1⟩:=hh.ro o r' hr' ho
   exact⟨hn,fun i c hc=>let⟨h0,v,h2,h3⟩:=h1 i c hc;⟨h0,v,h2,hmono h3⟩⟩
  ·rw[Ren.with_same]
   exact⟨rfl,fun i c hi=>let⟨v,h7,h8⟩:=hc i c hi;⟨hB,v,h7,hmono h8⟩⟩
 ·rcases v39 hr' with⟨hlt,hr'⟩|⟨rfl,rfl⟩
  ·exact hh.one o r' hr'
  ·exact hone
 ·rcases v39 h1 with⟨l1,k1⟩|⟨rfl,rfl⟩<;>rcases v39 h2 with⟨l2,k2⟩|⟨rfl,rfl⟩
  ·rw[hext o l1,hext o' l2]at he;exact hh.inj o o' r1 r2 k1 k2 o1 o2 he
  ·rw[hr]at o2;cases o2
  ·rw[hr]at o1;cases o1
  ·rfl
def RdK(k:IntKind)(h:H)(sa:Option Addr)(c:Nat)(zs:List Int):Prop:=
 (sa=none∧c=0∧zs=[])∨(zs.length≤c∧ ∃o off r,sa=some ⟨o,off,none⟩∧h.row o=some r∧(r.own=true→r.unit=1)∧ ∀i:Int,0≤i→i<zs.length→r.cells[off+i.toNat]? =some (.int k (gi zs i)))
theorem RdK.i64{h:H}{sa:Option Addr}{c:Nat}{zs:List Int}(hr:RdK .i64 h sa c zs):RdI h sa c zs:=hr
theorem q97{k:IntKind}{φ:Ren}{B:Nat→Prop}{h:H}{w:World}(hB:B=old w)(hh:HR φ B h w){a:Option Addr}{len cap:Nat}{zs:List Int}(hw:RoI k w a len cap zs)(e:TypeId):
 ∃φ' h' sa,Ext φ h.length φ'∧h<+:h'∧HR φ' B h' w∧VR φ' h'.length (.slice sa len cap) (.slice a len cap)∧RdK k h' sa cap (zs.take len)∧ss4 h' 1 sa=true∧(zs.take len).length=len:=by
 rcases hw with⟨rfl,rfl,rfl,rfl⟩|⟨x,rfl,hs,hb,hl,hz,hc⟩
 ·exact⟨φ,h,none,Ext.refl _ _,je0 _,hh, .snil, .inl ⟨rfl,rfl,rfl⟩,rfl,rfl⟩
 ·have hrow:H.row (h++[.row ⟨zs.map (.int k),e,1,false⟩]) h.length=some ⟨zs.map (.int k),e,1,false⟩:=cv8
  refine⟨φ.with h.length ⟨x.block,x.off,cap,1,false⟩,h++[.row ⟨zs.map (.int k),e,1,false⟩],some ⟨h.length,0,none⟩,Ext.with _ _ _,w63 _ _,hh.pushRo ⟨zs.map (.int k),e,1,false⟩ _ _ cap 1 rfl (by rw[hB];exact hb) ?_ ?_, ?_, .inr ⟨?_,h.length,0,_,rfl,hrow, ?_⟩, ?_, ?_⟩
  ·intro c hc'
   obtain⟨z,_,rfl⟩:=vf1.mp hc'
   rfl
  ·intro i c hi
   rw[us5]at hi
   obtain⟨z,hz1,rfl⟩:=km1.mp hi
   have hil:=(ck5.1 hz1).1
   have:=hc i hil
   rw[ac6 hs]at this
   refine⟨_,this, ?_⟩
   rw[os6,hz1]
   exact .int k z
  ·have hv:=VR.sl (φ:=φ.with h.length ⟨x.block,x.off,cap,1,false⟩) (n:=(h++[Ob.row ⟨zs.map (.int k),e,1,false⟩]).length) h.length 0 len cap cap x.off (by simp) (by rw[Ren.with_same];exact Ent.mp_ro rfl) (jj6 _) (.inl (by rw[Ren.with_same];rfl)) (by rw[Ren.with_same];intro h;cases h)
   rw[Ren.with_same]at hv
   have hx:x=⟨x.block,x.off,none⟩:=by obtain⟨b,o,s⟩:=x;simp only at hs;subst hs;rfl
   rw[hx]
   exact hv
  ·rw[vb8];omega
  ·refine⟨fun h=>by(cases h), ?_⟩
   intro i h0 hi
   rw[vb8]at hi
   show(zs.map (Value.int k))[0+i.toNat]? =_
   rw[e03,us5]
   have hg:(zs.take len)[i.toNat]? =some (gi (zs.take len) i):=lr6 h0 (by rw[vb8];omega)
   rw[td4,if_pos (by omega)]at hg
   rw[hg];rfl
  ·unfold ss4;simp only[hrow];rfl
  ·rw[vb8];omega
theorem RdK.mono{k:IntKind}{h h':H}{sa:Option Addr}{c:Nat}{zs:List Int}(hr:RdK k h sa c zs)(hp:h<+:h'):RdK k h' sa c zs:=by
 rcases hr with h1|⟨h1,o,off,r,h2,h3,h4⟩
 ·exact .inl h1
 ·exact .inr ⟨h1,o,off,r,h2,by rw[m20 hp (h42 h3)];exact h3,h4⟩
theorem r99{h h':H}{n:Nat}{sa:Option Addr}(hu:ss4 h n sa=true)(hp:h<+:h'):ss4 h' n sa=true:=by
 unfold ss4 at hu⊢
 split
 ·rfl
 ·rename_i a
  simp only at hu
  cases hr:h.row a.block with
  |none=>rw[hr]at hu;cases hu
  |some r=>rw[m20 hp (h42 hr),hr];rw[hr]at hu;exact hu
end Go.Am
namespace Go.Am
theorem RdI.src{h:H}{a:Option Addr}{c:Nat}{l:List Int}(hr:RdI h a c l):b38 h 1 l.length (.slice a l.length c)=some (ints l):=by
 unfold b38
 simp only[]
 by_cases h0:l.length=0
 ·rw[if_pos h0,List.length_eq_zero_iff.mp h0];rfl
 ·rw[if_neg h0,if_pos (jj6 _)]
  rcases hr with⟨_,_,rfl⟩|⟨h1,o,off,r,rfl,hrow,_,hc⟩
  ·exact absurd rfl h0
  ·simp only[cv9,oo9]
   unfold H.lds
   simp only[hrow]
   have hlast:=hc ((l.length-1:Nat):Int) (by omega) (by omega)
   have hb:off+(l.length-1)<r.cells.length:=by
    rw[ao0]at hlast
    exact(ck5.1 hlast).1
   rw[if_pos (by omega),mp4]
   congr 1
   refine v63 fun i=> ?_
   by_cases hi:i<l.length
   ·rw[td4,if_pos hi,s96]
    have h1:=hc (i:Int) (by omega) (by omega)
    have h2:=c25 (zs:=l) (i:=(i:Int)) (by omega) (by omega)
    rw[ao0]at h1 h2
    rw[h1,h2]
   ·rw[pb5 (by rw[vb8];omega),pb5 (by rw[iq5];omega)]
theorem wq4{h:H}{b:Ob}{r:Row}:H.row (kill (h++[b]) h.length++[.row r]) (h.length+1)=some r:=rr6 (by rw[q89,rl9])
theorem ym2{h h':H}{o:Nat}(hp:h<+:h')(ho:o<h.length):h'[o]? =h[o]? :=by
 obtain⟨t,rfl⟩:=hp
 exact bu4 ho
end Go.Am
namespace Go.Am
theorem cp5{h h':H}{o:Nat}{r:Row}(hr:h.row o=some r)(hp:h<+:h'):h'.row o=some r:=by rw[m20 hp (h42 hr)];exact hr
theorem ix6{h h':H}{o i:Nat}{v:Value}(hl:h.ld1 o i=some v)(hp:h<+:h'):h'.ld1 o i=some v:=by
 unfold H.ld1 at hl⊢
 split at hl
 ·rename_i r hr;rw[cp5 hr hp];exact hl
 ·cases hl
theorem s20{h:H}{o:Nat}{r:Row}(hr:h.row o=some r){off:Nat}{v:Value}(hv:r.cells[off]? =some v):h.ld1 o off=some v:=by rw[ng1 hr];exact hv
theorem Grown.one{h:H}{sa:Option Addr}{c lo:Nat}{zs:List Int}{y:Int}(hg:Grown h sa c zs lo)(hl:zs.length≤1000000)(hlo:lo≤h.length):
 ∃sa' h',aapp 3 1 8 (h++[.row ⟨[.int .i64 y],3,1,true⟩]) (.slice sa zs.length c) (.slice (some ⟨h.length,0,none⟩) 1 1)=some (.slice sa' (zs.length+1) (zs.length+1),h')∧
  Grown h' sa' (zs.length+1) (zs++[y]) lo∧h.length≤h'.length∧(∀o,o<lo→h'.row o=h.row o)∧(∀p:H,p.length≤lo→p<+:h→p<+:h'):=by
 have hg2:Grown (h++[.row ⟨[.int .i64 y],3,1,true⟩]) sa c zs lo:=hg.carry (fun o _ ho=>z45 ho)
 have hs:b38 (h++[.row ⟨[.int .i64 y],3,1,true⟩]) 1 ([y]:List Int).length (.slice (some ⟨h.length,0,none⟩) 1 1)=some (ints [y]):=by
  unfold b38 H.lds
  simp only[q90,fo5,cv8]
  rw[if_neg (by omega),if_pos (by omega)]
  simp only[cv9,oo9]
  rw[if_pos (by simp)]
  rfl
 obtain⟨sa',h',e1,e2,e3,e4,e5⟩:=hg2.app (ys:=[y]) (x:= .slice (some ⟨h.length,0,none⟩) 1 1) ⟨_,1,1,rfl,rfl⟩ hs (by simp) (by simp;omega) (by rw[rl9];omega)
 simp only[j82,q90,fo5,e03]at e1 e2
 refine⟨sa',h',e1,e2,by rw[rl9]at e3;omega,fun o ho=> ?_,fun p hp1 hp2=>e5 p hp1 (ym5 hp2)⟩
 rw[e4 o ho,z45 (by omega)]
theorem Grown.nil{h:H}{lo:Nat}:Grown h none 0 [] lo:= .inl ⟨rfl,rfl,rfl⟩
theorem RdI.nil{h:H}:RdI h none 0 []:= .inl ⟨rfl,rfl,rfl⟩
theorem RdI.ld{h:H}{o off c:Nat}{zs:List Int}(hr:RdI h (some ⟨o,off,none⟩) c zs){i:Int}(h0:0≤i)(hi:i<zs.length):h.ld1 o (off+i.toNat)=some (.int .i64 (gi zs i)):=by
 obtain⟨o',off',e,_,h1⟩:=hr.addr (by omega)
 cases e
 exact h1 i h0 hi
end Go.Am
namespace Go.Proofs.Ytppbpgmdmiajcaa
open Go.Am
def digs(p:Int):Nat→Int→List Int
 |0,_=>[]
 |n+1,a=>(a%p)::digs p n (a/p)
theorem hn5(p:Int): ∀(n:Nat) (a:Int),(digs p n a).length=n
 |0,_=>rfl
 |n+1,a=>by simp[digs,hn5 p n]
def numb(p:Int):List Int→Int
 | []=>0
 |d::r=>numb p r*p+d
theorem w96(p:Int)(zs:List Int)(o off c:Nat)(h:H)(hr:RdI h (some ⟨o,off,none⟩) c zs)(hp:0≤p)(hp2:p≤64)(hz: ∀z∈zs,0≤z∧z≤64)(hl2:zs.length≤1000): ∀(k:Nat) (a i:Int),i+1=(k:Int)→k≤zs.length→a=numb p (zs.drop k)→(∀j,j≤zs.length→0≤numb p (zs.drop j)∧numb p (zs.drop j)≤1000000)→
 ∀ks,goL T [.tmp 4] [0,1,5,6] c84L0 (.blk 0 [5]::ks) [(0, .slice (some ⟨o,off,none⟩) zs.length c),(1, .int .i64 p),(5, .int .i64 a),(6, .int .i64 i)] h=
   go T [.tmp 4] ks (Fr.of [(5, .int .i64 (numb p zs))]) h
 |0,a,i,hi,hk,ha,hb=>fun ks=>by
  rw[ur1 c84L0.eq_def]
  have:i= -1:=by omega
  subst this ha
  rw[sv4]
  simp(disch:=first|omega|(simp only[rl9,wi2,q89]<;>omega)|fail) only[push_cast,seval,qc6]
 |k+1,a,i,hi,hk,ha,hb=>fun ks=>by
  obtain rfl:i=(k:Int):=by omega
  have e1:=hr.ld (i:=(k:Int)) (by omega) (by omega)
  have hi1:0≤(k:Int)∧(k:Int)<(zs.length:Int):=by omega
  have hd:zs.drop k=gi zs k::zs.drop (k+1):=by
   rw[gw1 (by omega)]
   congr 1
   rw[h04 (by omega) (by omega)]
   simp
  have hgm:=hz _ (k18 hi1.1 hi1.2)
  have hb1:=hb (k+1) hk
  have hb2:=hb k (by omega)
  rw[←ha]at hb1
  have hn:numb p (zs.drop k)=a*p+gi zs k:=by rw[hd,numb,←ha]
  rw[hn]at hb2
  have hm:0≤a*p:=qc0 hb1.1 hp
  rw[←w96 p zs o off c h hr hp hp2 hz hl2 k (a*p+gi zs k) ((k:Int)-1) (by omega) (by omega) hn.symm hb ks]
  rw[ur1 c84L0.eq_def]
  simp(disch:=first|omega|(simp only[rl9,wi2,q89]<;>omega)|fail) only[push_cast,seval,nl3,wrap64,hi1,e1]
theorem ga4(p:Int)(zs:List Int)(sa:Option Addr)(c:Nat)(h:H)(hr:RdI h sa c zs)(hp:0≤p)(hp2:p≤64)(hz: ∀z∈zs,0≤z∧z≤64)(hl:1≤zs.length)(hl2:zs.length≤1000)
 (hb: ∀j,j≤zs.length→0≤numb p (zs.drop j)∧numb p (zs.drop j)≤1000000):
 call T 84 [.slice sa zs.length c, .int .i64 p] h=some (.int .i64 (numb p zs),h):=by
 obtain⟨o,off,rfl,_,_⟩:=hr.addr (by omega)
 rw[wn8 T84 rfl]
 unfold F84 c84
 simp(disch:=first|omega|(simp only[rl9,wi2,q89]<;>omega)|fail) only[push_cast,seval,wrap64]
 rw[w96 p zs o off c h hr hp hp2 hz hl2 zs.length 0 ((zs.length:Int)-1) (by omega) (jj6 _) (by rw[List.drop_length];rfl) hb]
 simp(disch:=first|omega|(simp only[rl9,wi2,q89]<;>omega)|fail) only[push_cast,seval]
abbrev fvL(q p m g:Int)(ms:Value):List Value:=[.int .i64 q, .int .i64 p, .int .i64 m, .int .i64 g,ms]
abbrev fv(q p m g:Int)(ms:Value):Value:= .agg (fvL q p m g ms).toArray
def axpy(p c:Int):List Int→List Int→List Int
 |a::l,y::ys=>((a+c*y)%p)::axpy p c l ys
 |l,_=>l
def conv(p:Int)(ys:List Int):List Int→List Int→List Int
 | [],l=>l
 |x::xs,l=>match axpy p x l ys with
  | []=>[]
  |a::r=>a::conv p ys xs r
def red(p:Int)(nm:List Int)(m:Nat):Nat→List Int→List Int
 |0,l=>l
 |n+1,l=>red p nm m n (l.take n++axpy p (gi l (n+m:Nat)) ((l.take (n+m)).drop n) nm)
def mulP(p:Int)(m:Nat)(mod:List Int)(a b:Int):Int:=numb p (red p ((mod.take m).map fun d=>p-d) m m (conv p (digs p m b) (digs p m a) (List.replicate (2*m) 0)))
def mulR(q p:Int)(m:Nat)(mod:List Int)(a b:Int):Int:=
 if 0≤a∧a<q then if 0≤b∧b<q then if m=1 then a*b%p else mulP p m mod a b else-1 else-1
theorem ly3(p c:Int): ∀(l ys:List Int),(axpy p c l ys).length=l.length
 | [],ys=>by cases ys<;>rfl
 |a::l,[]=>rfl
 |a::l,y::ys=>by simp[axpy,ly3 p c l ys]
def Dig(p:Int)(l:List Int):Prop:= ∀z∈l,0≤z∧z<p
theorem Dig.axpy{p c:Int}(hp:0<p): ∀{l:List Int} (ys:List Int),Dig p l→Dig p (axpy p c l ys)
 | [],ys,h=>by cases ys<;>exact h
 |a::l,[],h=>h
 |a::l,y::ys,h=>by
  intro z hz
  rw[Go.Proofs.Ytppbpgmdmiajcaa.axpy,r04]at hz
  rcases hz with rfl|hz
  ·exact⟨fc1 _ (by omega),do0 _ hp⟩
  ·exact Dig.axpy hp ys (fun z hz=>h z (iz7 _ hz)) z hz
theorem Dig.digs{p:Int}(hp:0<p): ∀(n:Nat) (a:Int),Dig p (digs p n a)
 |0,a=>fun z hz=>absurd hz (List.not_mem_nil)
 |n+1,a=>by
  intro z hz
  rw[Go.Proofs.Ytppbpgmdmiajcaa.digs,r04]at hz
  rcases hz with rfl|hz
  ·exact⟨fc1 _ (by omega),do0 _ hp⟩
  ·exact Dig.digs hp n _ z hz
theorem v52{p:Int}(hp:0<p): ∀{l:List Int},Dig p l→0≤numb p l∧numb p l<p^l.length
 | [],_=>by simp[numb]
 |d::r,h=>by
  have h1:=v52 hp (l:=r) (fun z hz=>h z (iz7 _ hz))
  have h2:=h d (rn8 ..)
  rw[numb,q90,pi7]
  have h3:0≤numb p r*p:=qc0 h1.1 (by omega)
  have h4:(numb p r+1)*p≤p^r.length*p:=Int.mul_le_mul_of_nonneg_right (by omega) (by omega)
  rw[Int.add_mul]at h4
  omega
theorem x04{p:Int}{l:List Int}(hp:0<p)(hd:Dig p l)(i:Int):0≤gi l i∧gi l i<p:=by
 unfold gi
 rw[os6]
 cases h:l[i.toNat]? with
 |none=>simp;omega
 |some v=>exact hd v (vf6 h)
theorem pd0{pre r:List Int}{a v:Int}{i:Nat}(hi:i=pre.length):(pre++a::r).set i v=pre++v::r:=by
 subst hi;rw[v62 _ _ (jj6 _)];simp
theorem z41{pre r:List Int}{a:Int}{i:Nat}(hi:i=pre.length):gi (pre++a::r) i=a:=by
 subst hi;unfold gi;simp[os6]
theorem ty5{l:List Int}(h:0<l.length): ∃a r,l=a::r:=by
 cases l with
 |nil=>simp at h
 |cons a r=>exact⟨a,r,rfl⟩
theorem gx6{zs:List Int}{i:Nat}(hi:i<zs.length):zs.drop i=gi zs i::zs.drop (i+1):=by
 rw[gw1 hi]
 congr 1
 rw[h04 (by omega) (by omega)]
 simp
section
variable {q p g0:Int} {m:Nat} {ms:Value} {h1:H} {B:Nat}
end
section
variable {q p g0:Int} {m:Nat} {om fm cm:Nat} {h1:H} {B:Nat} {mod:List Int}
end
theorem tv0{p:Int}(hp:1≤p){a b:Nat}(h:a≤b):p^a≤p^b:=by
 have hpos: ∀n:Nat,0≤p^n:=fun n=>by
  induction n with
  |zero=>simp
  |succ n ih=>rw[pi7];exact qc0 ih (by omega)
 induction h with
 |refl=>exact Int.le_refl _
 |step h ih=>
  rw[Nat.succ_eq_add_one,pi7]
  rename_i k
  have h2:=hs0 hp (hpos k)
  omega
structure FOk (q p:Int) (m:Nat) (mod:List Int):Prop where
 q2:2≤q
 q64:q≤64
 p2:2≤p
 p64:p≤64
 m1:1≤m
 m10:m≤10
 pm:p^m=q
 ml:mod.length=m+1
 dig:Dig p mod
def wj0(q p:Int)(m:Nat)(mod:List Int)(g:Int):Nat→Int→Nat→Bool
 |0,_,_=>true
 |n+1,a,s=>bif (a==0)||s.testBit a.toNat then false else wj0 q p m mod g n (mulR q p m mod a g) (s|||1<<<a.toNat)
def dvdN:Nat→Int→Int→Int→Option (Int×Int)
 |0,_,_,_=>none
 |n+1,q,p,m=>bif q%p==0 then dvdN n (q/p) p (m+1)else some (q,m)
def outN:Nat→Int→Int→Option (Int×Int)
 |0,_,_=>none
 |n+1,q,p=>bif decide (q<p)then none else bif q%p==0 then match dvdN 64 q p 0 with
   |some (q',m)=>some (bif q'==1 then(p,m)else(0,0))
   |none=>none
  else outN n q (p+1)
theorem ym3{h:H}{o off:Nat}{l l':List Value}{v:Value}{e u:Nat}(hr:h.row o=some ⟨l,e,u,true⟩)(hl:off<l.length)(he:l.set off v=l'):h.sts o off [v]=some (h.set o (.row ⟨l',e,u,true⟩)):=by
 unfold H.sts;rw[hr]
 simp only[ed0,q90,fo5,e03]
 rw[if_pos (by simp;omega)]
 congr 3
 unfold hu1
 rw[←he,List.set_eq_take_append_cons_drop,if_pos hl]
 simp
def fldN:Nat→Option (Int×Nat×Int×List Int)
 |2=>some (2,1,1,[0,1])
 |3=>some (3,1,2,[0,1])
 |4=>some (2,2,2,[1,1,1])
 |5=>some (5,1,2,[0,1])
 |7=>some (7,1,3,[0,1])
 |8=>some (2,3,2,[1,1,0,1])
 |9=>some (3,2,3,[2,1,1])
 |11=>some (11,1,2,[0,1])
 |13=>some (13,1,2,[0,1])
 |16=>some (2,4,2,[1,1,0,0,1])
 |17=>some (17,1,3,[0,1])
 |19=>some (19,1,2,[0,1])
 |23=>some (23,1,5,[0,1])
 |25=>some (5,2,5,[2,1,1])
 |27=>some (3,3,3,[1,2,0,1])
 |29=>some (29,1,2,[0,1])
 |31=>some (31,1,3,[0,1])
 |32=>some (2,5,2,[1,0,1,0,0,1])
 |37=>some (37,1,2,[0,1])
 |41=>some (41,1,6,[0,1])
 |43=>some (43,1,3,[0,1])
 |47=>some (47,1,5,[0,1])
 |49=>some (7,2,7,[3,1,1])
 |53=>some (53,1,2,[0,1])
 |59=>some (59,1,2,[0,1])
 |61=>some (61,1,2,[0,1])
 |64=>some (2,6,2,[1,1,0,0,0,0,1])
 |_=>none
def genN(q p:Int):Nat→Int→Option Int
 |0,_=>none
 |n+1,g=>bif wj0 q p 1 [0,1] g (q-1).toNat 1 0 then some g else genN q p n (g+1)
def lowN(q p:Int)(m:Nat):Nat→Int→Option (List Int)
 |0,_=>none
 |n+1,low=>bif wj0 q p m (digs p m low++[1]) p (q-1).toNat 1 0 then some (digs p m low++[1])else lowN q p m n (low+1)
def o66(n:Nat):Bool:=
 match fldN n with
 |none=>decide (outN 64 n 2=some (0,0))
 |some (p,m,g,mod)=>decide (outN 64 n 2=some (p,(m:Int)))&&(bif decide (m=1)then decide (genN n p (n-1) 1=some g)&&decide (mod=[0,1])else decide (lowN n p m n 0=some mod)&&decide (g=p))&&
   decide (p^m=(n:Int))&&decide (mod.length=m+1)&&(mod.all fun d=>decide (0≤d)&&decide (d<p))&&decide (2≤p)&&decide (p≤64)&&decide (1≤m)&&decide (m≤10)&&decide (1≤g)&&decide (g<n)
theorem wb4:((List.range 63).all fun n=>o66 (n+2))=true:=by kernel_rfl
theorem dp6{n:Nat}(h2:2≤n)(h64:n≤64):o66 n=true:=by
 have h:=p92.1 wb4 (n-2) (l16.2 (by omega))
 rw[show n-2+2=n by omega]at h
 exact h
theorem wd5{n:Nat}(h2:2≤n)(h64:n≤64)(hn:fldN n=none):outN 64 n 2=some (0,0):=by
 have h:=dp6 h2 h64
 unfold o66 at h
 rw[hn]at h
 simpa using h
theorem ug0{n:Nat}{x}(h:fldN n=some x):2≤n∧n≤64:=by
 unfold fldN at h
 split at h<;>first|(cases h;done)|omega
theorem hi9{n:Nat}{p g:Int}{m:Nat}{mod:List Int}(hn:fldN n=some (p,m,g,mod)):FOk n p m mod∧outN 64 n 2=some (p,(m:Int))∧1≤g∧g<n∧
 (if m=1 then genN n p (n-1) 1=some g∧mod=[0,1]else lowN n p m n 0=some mod∧g=p):=by
 obtain⟨h2,h64⟩:=ug0 hn
 have h:=dp6 h2 h64
 unfold o66 at h
 rw[hn]at h
 simp only[b83,jn8,p92]at h
 obtain⟨⟨⟨⟨⟨⟨⟨⟨⟨⟨a1,a2⟩,a3⟩,a4⟩,a5⟩,a6⟩,a7⟩,a8⟩,a9⟩,a10⟩,a11⟩:=h
 refine⟨⟨by omega,by omega,a6,a7,a8,a9,a3,a4,fun z hz=>a5 z hz⟩,a1,a10,a11, ?_⟩
 by_cases hm:m=1
 ·rw[if_pos hm]
  rw[ce5 hm,nj1]at a2
  simpa using a2
 ·rw[if_neg hm]
  rw[lx1 hm,ey2]at a2
  simpa using a2
theorem kw2(vs:List Value)(h:H):call T 84 vs h=call T 84 vs h:=by
 first
  |(unfold call enter;rw[T84,T84];rfl)
  |rfl
def n94:Nat→Int→Int→Option Int
 |0,_,_=>none
 |n+1,q,p=>bif q%p==0 then some p else n94 n q (p+1)
def prP(q:Int):Option (Int×Int):=match n94 64 q 2 with
 |some p=>match dvdN 64 q p 0 with
  |some (q',m)=>some (bif q'==1 then(p,m)else(0,0))
  |none=>none
 |none=>none
theorem o08:((List.range 63).all fun n=>decide (prP ((n+2:Nat):Int)=outN 64 ((n+2:Nat):Int) 2))=true:=by kernel_rfl
theorem oh8{q:Int}(hq:2≤q∧q≤64):prP q=outN 64 q 2:=by
 have h:=p92.1 o08 (q.toNat-2) (l16.2 (by omega))
 rw[show q.toNat-2+2=q.toNat by omega,jn8]at h
 rw[show((q.toNat:Nat):Int)=q by omega]at h
 exact h
theorem su4(p:Int)(hp:2≤p∧p≤64)(h:H): ∀(n:Nat) (q m q' m':Int),1≤q→q≤64→0≤m→m+n≤100→dvdN n q p m=some (q',m')→
 ∀ks,goL T [.tmp 2, .tmp 3] [0,2,3] c68L1 (.blk 2 [0,2,3]::ks) [(0, .int .i64 q),(2, .int .i64 p),(3, .int .i64 m)] h=go T [.tmp 2, .tmp 3] ks (Fr.of [(0, .int .i64 q'),(2, .int .i64 p),(3, .int .i64 m')]) h
 |0,q,m,q',m',h1,h2,h3,h4,he=>by cases he
 |n+1,q,m,q',m',h1,h2,h3,h4,he=>by
  rw[dvdN]at he
  have hp0: ¬p=0:=by omega
  have q1:q.tmod p=q%p:=dl5 (by omega)
  have q2:q.tdiv p=q/p:=zj0 (by omega)
  by_cases hz:q%p=0
  ·rw[show(q%p==0)=true by simpa using hz,nj1]at he
   have hd:1≤q/p:=by
    have:=Int.mul_ediv_add_emod q p
    rw[hz,Int.add_zero]at this
    by_cases h0:q/p≤0
    ·have:p*(q/p)≤p*0:=hs0 h0 (by omega)
     omega
    ·omega
   have hd2:q/p≤q:=Int.ediv_le_self _ (by omega)
   have ih:=su4 p hp h n (q/p) (m+1) q' m' hd (by omega) (by omega) (by omega) he
   intro ks
   rw[←ih ks,ur1 c68L1.eq_def]
   simp(disch:=first|omega|(simp only[rl9,wi2,q89]<;>omega)|fail) only[push_cast,seval,hp0,q1,q2,mr8 hz,wrap64]
  ·rw[show(q%p==0)=false by simpa using hz,ey2]at he
   cases he
   intro ks
   rw[ur1 c68L1.eq_def]
   simp(disch:=first|omega|(simp only[rl9,wi2,q89]<;>omega)|fail) only[push_cast,seval,hp0,q1,nb8 hz]
theorem gi8(q:Int)(hq:2≤q∧q≤64)(h:H): ∀(n:Nat) (p r:Int),2≤p→p≤1000→n94 n q p=some r→p+n≤1000→(2≤r∧q%r=0)∧
 ∀ks,goL T [.tmp 2, .tmp 3] [0,2,3] c68L0 (.blk 0 [0,2,3]::ks) [(0, .int .i64 q),(2, .int .i64 p),(3, .int .i64 0)] h=go T [.tmp 2, .tmp 3] ks (Fr.of [(0, .int .i64 q),(2, .int .i64 r),(3, .int .i64 0)]) h
 |0,p,r,h1,h2,he,h3=>by cases he
 |n+1,p,r,h1,h2,he,h3=>by
  rw[n94]at he
  have hp0: ¬p=0:=by omega
  have q1:q.tmod p=q%p:=dl5 (by omega)
  by_cases hz:q%p=0
  ·rw[show(q%p==0)=true by simpa using hz,nj1]at he
   cases he
   refine⟨⟨h1,hz⟩,fun ks=> ?_⟩
   rw[ur1 c68L0.eq_def]
   simp(disch:=first|omega|(simp only[rl9,wi2,q89]<;>omega)|fail) only[push_cast,seval,hp0,q1,mr8 hz]
  ·rw[show(q%p==0)=false by simpa using hz,ey2]at he
   obtain⟨hr,ih⟩:=gi8 q hq h n (p+1) r (by omega) (by omega) he (by omega)
   refine⟨hr,fun ks=> ?_⟩
   rw[←ih ks,ur1 c68L0.eq_def]
   simp(disch:=first|omega|(simp only[rl9,wi2,q89]<;>omega)|fail) only[push_cast,seval,hp0,q1,nb8 hz,wrap64]
theorem e46(q:Int)(hq:2≤q∧q≤64)(h:H)(r:Int×Int)(he:outN 64 q 2=some r):call T 68 [.int .i64 q] h=some (.tuple #[.int .i64 r.1, .int .i64 r.2],h):=by
 rw[←oh8 hq]at he
 unfold prP at he
 cases hf:n94 64 q 2 with
 |none=>rw[hf]at he;cases he
 |some p=>
  rw[hf]at he
  simp only at he
  cases hd:dvdN 64 q p 0 with
  |none=>rw[hd]at he;cases he
  |some x=>
   obtain⟨q',m'⟩:=x
   rw[hd]at he
   simp only[hx3]at he
   obtain⟨⟨hp2,hpd⟩,f1⟩:=gi8 q hq h 64 2 p (by omega) (by omega) hf (by omega)
   have hp64:p≤64:=by
    by_cases hl:q<p
    ·rw[Int.emod_eq_of_lt (by omega) hl]at hpd;omega
    ·omega
   have f2:=su4 p ⟨hp2,hp64⟩ h 64 q 0 q' m' (by omega) (by omega) (by omega) (by omega) hd
   rw[wn8 T68 rfl]
   unfold F68 c68
   simp(disch:=first|omega|(simp only[rl9,wi2,q89]<;>omega)|fail) only[push_cast,seval]
   rw[f1]
   simp(disch:=first|omega|(simp only[rl9,wi2,q89]<;>omega)|fail) only[push_cast,seval]
   rw[f2]
   by_cases ho:q'=1
   ·rw[show(q'==1)=true by simpa using ho,nj1]at he
    rw[←he]
    simp(disch:=first|omega|(simp only[rl9,wi2,q89]<;>omega)|fail) only[push_cast,seval,mr8 ho]
   ·rw[show(q'==1)=false by simpa using ho,ey2]at he
    rw[←he]
    simp(disch:=first|omega|(simp only[rl9,wi2,q89]<;>omega)|fail) only[push_cast,seval,nb8 ho]
theorem set_push{h:H}{x y:Ob}:(h++[x]).set h.length y=h++[y]:=by rw[v62 _ _ (jj6 _)];simp
theorem i56(p:Int)(m:Nat)(h:H)(hp:1≤p)(hm:m≤1000): ∀(k:Nat) (a i:Int) (done:List Int),i=(done.length:Int)→done.length+k=m→0≤a→a≤1000000→
 ∀ks,goL T [.tmp 6] [0,1,7,12,13] c70L0 (.blk 0 [7]::ks) [(0, .int .i64 a),(1, .int .i64 p),(7, .slice (some ⟨h.length,0,none⟩) m m),(12, .int .i64 m),(13, .int .i64 i)] (h++[.row ⟨ints (done++List.replicate k 0),3,1,true⟩])=
  go T [.tmp 6] ks (Fr.of [(7, .slice (some ⟨h.length,0,none⟩) m m)]) (h++[.row ⟨ints (done++digs p k a),3,1,true⟩])
 |0,a,i,done,hi,hk,ha,ha2=>fun ks=>by
  subst hi
  rw[ur1 c70L0.eq_def]
  have:(done.length:Int)=(m:Int):=by omega
  simp(disch:=first|omega|(simp only[rl9,wi2,q89]<;>omega)|fail) only[push_cast,seval,cw6,digs,List.replicate]
 |k+1,a,i,done,hi,hk,ha,ha2=>fun ks=>by
  subst hi
  have hr:H.row (h++[.row ⟨ints (done++List.replicate (k+1) 0),3,1,true⟩]) h.length=some ⟨ints (done++List.replicate (k+1) 0),3,1,true⟩:=cv8
  have es:=l45 hr (i:=(done.length:Int)) (v:=a%p) (by omega) (by simp;omega)
  have hset:(done++List.replicate (k+1) 0).set ((done.length:Int)).toNat (a%p)=done++[a%p]++List.replicate k 0:=by
   rw[lg2,pd0 (by omega)];simp
  rw[hset,set_push]at es
  have hd1:0≤a/p:=Int.ediv_nonneg ha (by omega)
  have hd2:a/p≤a:=Int.ediv_le_self _ ha
  have ih:=i56 p m h hp hm k (a/p) ((done.length:Int)+1) (done++[a%p]) (by simp) (by simp;omega) hd1 (by omega) ks
  have he:done++digs p (k+1) a=done++[a%p]++digs p k (a/p):=by simp[digs]
  have hp0: ¬p=0:=by omega
  have q1:a.tmod p=a%p:=dl5 ha
  have q2:a.tdiv p=a/p:=zj0 ha
  have hi1:0≤(done.length:Int)∧(done.length:Int)<(m:Int):=by omega
  rw[he,←ih,ur1 c70L0.eq_def]
  simp(disch:=first|omega|(simp only[rl9,wi2,q89]<;>omega)|fail) only[push_cast,seval,dec_lt,wrap64,hp0,q1,q2,hi1,es]
theorem xy9(a p:Int)(m:Nat)(h:H)(hp:1≤p)(hm:m≤1000)(ha:0≤a)(ha2:a≤1000000):
 call T 70 [.int .i64 a, .int .i64 p, .int .i64 m] h=some (.slice (some ⟨h.length,0,none⟩) m m,h++[.row ⟨ints (digs p m a),3,1,true⟩]):=by
 rw[wn8 T70 rfl]
 unfold F70 c70
 have c1:0≤(m:Int)∧(m:Int)≤(m:Int)∧(m:Int)≤1099511627776∧(m:Int)*8≤140737488355328:=by omega
 have ih:=i56 p m h hp hm m a 0 [] rfl (by simp) ha ha2
 simp only[m51]at ih
 simp(disch:=first|omega|(simp only[rl9,wi2,q89]<;>omega)|fail) only[push_cast,seval,c1,k78,ao0]
 rw[ih]
 simp(disch:=first|omega|(simp only[rl9,wi2,q89]<;>omega)|fail) only[push_cast,seval]
abbrev pfL(q p m:Int)(ms:Value)(g:Int)(es ls:Value):List Value:=[.int .i64 q, .int .i64 p, .int .i64 m,ms, .int .i64 g,es,ls]
abbrev pfR(q p m:Int)(ms:Value)(g:Int)(es ls:Value):Row:=⟨pfL q p m ms g es ls,90,0,true⟩
def negm(p:Int)(m:Nat)(mod:List Int):List Int:=(mod.take m).map fun d=>p-d
def vl3(p:Int)(m:Nat)(g:Int)(mod:List Int)(a:Int):Int:=
 if m=1 then a*g%p else numb p (axpy p (gi (digs p m a) (m-1:Nat)) (0::(digs p m a).take (m-1)) (negm p m mod))
section
variable {q p g:Int} {m:Nat} {mod:List Int} {om fm cm F:Nat} {es ls:Value} {h1:H}
theorem iv0(hf:FOk q p m mod)(hF:h1.row F=some (pfR q p m (.slice (some ⟨om,fm,none⟩) mod.length cm) g es ls))(hM:RdI h1 (some ⟨om,fm,none⟩) cm mod)(top:Int)(ht:0≤top∧top<p):
 ∀(n:Nat) (k:Int) (pre rest:List Int) (G:H),k=(pre.length:Int)→pre.length+n=m→rest.length=n→Dig p (pre++rest)→h1<+:G→G.row h1.length=some ⟨ints (pre++rest),3,1,true⟩→
 ∃G':H,h1<+:G'∧G'.row h1.length=some ⟨ints (pre++axpy p top rest ((negm p m mod).drop pre.length)),3,1,true⟩∧Dig p (pre++axpy p top rest ((negm p m mod).drop pre.length))∧
  ∀ks,goL T [.tmp 4] [0,5,6,55,56] c79L0 (.blk 0 [0,5]::ks) [(0, .pointer (some ⟨F,0,none⟩)),(5, .slice (some ⟨h1.length,0,none⟩) m m),(6, .int .i64 top),(55, .int .i64 m),(56, .int .i64 k)] G=
   go T [.tmp 4] ks (Fr.of [(0, .pointer (some ⟨F,0,none⟩)),(5, .slice (some ⟨h1.length,0,none⟩) m m)]) G'
 |0,k,pre,rest,G,hk,hn,hl,hd,hp1,hr=>by
  subst hk
  obtain rfl:=js1 hl
  have e2: ∀l,axpy p top [] l=[]:=fun l=>by cases l<;>rfl
  refine⟨G,hp1,by rw[e2];exact hr,by rw[e2];exact hd,fun ks=> ?_⟩
  rw[ur1 c79L0.eq_def]
  simp(disch:=first|omega|(simp only[rl9,wi2,q89]<;>omega)|fail) only[push_cast,seval,cw6]
 |n+1,k,pre,rest,G,hk,hn,hl,hd,hp1,hr=>by
  subst hk
  have hp:=hf.p2
  have hp64:=hf.p64
  have hm10:=hf.m10
  have hml:=hf.ml
  obtain⟨a,r,rfl⟩: ∃a r,rest=a::r:=ty5 (by omega)
  have b1:G.ld1 F 1=some (.int .i64 p):=s20 (cp5 hF hp1) rfl
  have b3:G.ld1 F 3=some (.slice (some ⟨om,fm,none⟩) mod.length cm):=s20 (cp5 hF hp1) rfl
  have em:=(hM.mono hp1).ld (i:=(pre.length:Int)) (by omega) (by omega)
  have ge:gi (pre++a::r) (pre.length:Int)=a:=z41 rfl
  have el:=i59 hr (i:=(pre.length:Int)) (by omega) (by simp;omega)
  rw[ge]at el
  have hlt:=h42 hr
  have hi2:0≤(pre.length:Int)∧(pre.length:Int)<(m:Int)+1:=by omega
  have hi3:0≤(pre.length:Int)∧(pre.length:Int)<(m:Int):=by omega
  have hmk:=x04 (p:=p) (by omega) hf.dig (pre.length:Int)
  have hxy:0≤top*(p-gi mod (pre.length:Int))∧top*(p-gi mod (pre.length:Int))≤4096:=by
   have:top*(p-gi mod (pre.length:Int))≤64*64:=ij6 (by omega) (by omega) (by omega) (by omega)
   exact⟨qc0 ht.1 (by omega),this⟩
  have ha:=hd a (by simp)
  obtain⟨v,hv⟩: ∃v,v=(a+top*(p-gi mod (pre.length:Int)))%p:=⟨_,rfl⟩
  have es':=l45 hr (i:=(pre.length:Int)) (v:=v) (by omega) (by simp;omega)
  have hset:(pre++a::r).set ((pre.length:Int)).toNat v=pre++[v]++r:=by rw[pd0 (by omega)];simp
  have q1:(a+top*(p-gi mod (pre.length:Int))).tmod p=v:=by rw[hv];exact dl5 (by omega)
  have hvd:0≤v∧v<p:=by rw[hv];exact⟨fc1 _ (by omega),do0 _ (by omega)⟩
  have hd':Dig p (pre++[v]++r):=by
   intro z hz
   simp only[eh9,bk2,r04,List.not_mem_nil,or_false]at hz
   rcases hz with hz|rfl|hz
   ·exact hd z (by simp[hz])
   ·exact hvd
   ·exact hd z (by simp[hz])
  have hrow':H.row (G.set h1.length (.row ⟨ints (pre++[v]++r),3,1,true⟩)) h1.length=some ⟨ints (pre++[v]++r),3,1,true⟩:=tr3 hlt
  obtain⟨G',p',r',d',ih⟩:=iv0 hf hF hM top ht n ((pre.length:Int)+1) (pre++[v]) r _ (by simp) (by simp;omega) (by simpa using hl) hd' (wc3 hp1 (jj6 _)) hrow'
  have hkl:pre.length<(negm p m mod).length:=by unfold negm;simp;omega
  have hgk:gi (negm p m mod) pre.length=p-gi mod (pre.length:Int):=by
   unfold gi negm
   rw[os6,os6,us5,td4,if_pos (by omega),wu3 (show((pre.length:Int)).toNat<mod.length by omega)]
   rfl
  have hpl:(pre++[v]).length=pre.length+1:=by simp
  have he:pre++axpy p top (a::r) ((negm p m mod).drop pre.length)=pre++[v]++axpy p top r ((negm p m mod).drop (pre++[v]).length):=by
   rw[gx6 hkl,hgk,axpy,hpl,hv];simp
  refine⟨G',p',by rw[he];exact r',by rw[he];exact d',fun ks=> ?_⟩
  rw[hset]at es'
  rw[←ih ks,ur1 c79L0.eq_def]
  have hp0: ¬p=0:=by omega
  rw[hml]at b3
  simp(disch:=first|omega|(simp only[rl9,wi2,q89]<;>omega)|fail) only[push_cast,seval,dec_lt,wrap64,b1,b3,em,el,hi2,hi3,hp0,q1,es']
theorem xr3(hf:FOk q p m mod)(h:H)(hF:h.row F=some (pfR q p m (.slice (some ⟨om,fm,none⟩) mod.length cm) g es ls))(hM:RdI h (some ⟨om,fm,none⟩) cm mod)(hg:0≤g∧g<q)(a:Int)(ha:0≤a∧a<q):
 ∃h':H,h<+:h'∧call T 79 [.pointer (some ⟨F,0,none⟩), .int .i64 a] h=some (.int .i64 (vl3 p m g mod a),h'):=by
 have hp:=hf.p2
 have hp64:=hf.p64
 have hq64:=hf.q64
 have hm1:=hf.m1
 have hm10:=hf.m10
 have hp0: ¬p=0:=by omega
 have b2:h.ld1 F 2=some (.int .i64 m):=s20 hF rfl
 have b1:h.ld1 F 1=some (.int .i64 p):=s20 hF rfl
 have b4:h.ld1 F 4=some (.int .i64 g):=s20 hF rfl
 by_cases hm:m=1
 ·refine⟨h,je0 _, ?_⟩
  have hmi:(m:Int)=1:=by omega
  have hab:a*g≤64*64:=ij6 (by omega) (by omega) (by omega) (by omega)
  have hab0:=qc0 ha.1 hg.1
  have q1:(a*g).tmod p=a*g%p:=dl5 hab0
  rw[vl3,if_pos hm,wn8 T79 rfl]
  unfold F79 c79
  simp(disch:=first|omega|(simp only[rl9,wi2,q89]<;>omega)|fail) only[push_cast,seval,b1,b2,b4,mr8 hmi,wrap64,hp0,q1]
 have hmi: ¬(m:Int)=1:=by omega
 obtain⟨ds,hds⟩: ∃ds,ds=digs p m a:=⟨_,rfl⟩
 have hdl:ds.length=m:=by rw[hds];exact hn5 _ _ _
 have hdd:Dig p ds:=by rw[hds];exact Dig.digs (by omega) _ _
 have ed:=xy9 a p m h (by omega) (by omega) ha.1 (by omega)
 rw[←hds]at ed
 obtain⟨h1,eh1⟩: ∃h1:H,h1=h++[.row ⟨ints ds,3,1,true⟩]:=⟨_,rfl⟩
 rw[←eh1]at ed
 have r1:h1.row h.length=some ⟨ints ds,3,1,true⟩:=by rw[eh1];exact cv8
 have p1:h<+:h1:=by rw[eh1];exact w63 _ _
 have b21:=ix6 b2 p1
 have b11:=ix6 b1 p1
 obtain⟨top,htop⟩: ∃t,t=gi ds (m-1:Nat):=⟨_,rfl⟩
 have ht:=x04 (p:=p) (by omega) hdd (m-1:Nat)
 rw[←htop]at ht
 have e1:=i59 r1 (i:=(m:Int)-1) (by omega) (by omega)
 have e1':gi ds ((m:Int)-1)=top:=by rw[htop,show((m-1:Nat):Int)=(m:Int)-1 by omega]
 rw[e1']at e1
 have hi1:0≤(m:Int)-1∧(m:Int)-1<(m:Int):=by omega
 --the copy
 obtain⟨d0,dr,hd0⟩: ∃d0 dr,ds=d0::dr:=ty5 (by omega)
 have hcp:acpy 1 h1 (.slice (some ⟨h.length,1,none⟩) (m-1) (m-1)) (.slice (some ⟨h.length,0,none⟩) (m-1) m)=some (.int .i64 ((m-1:Nat):Int),h++[.row ⟨ints (d0::ds.take (m-1)),3,1,true⟩]):=by
  unfold acpy b38
  simp only[Nat.min_self]
  rw[if_neg (by omega),if_pos (jj6 _)]
  simp only[cv9,oo9,mp4]
  rw[nz1 r1 (by omega),sv4]
  dsimp only
  rw[if_neg (by omega)]
  unfold H.sts
  rw[r1]
  simp only[ed0,iq5]
  rw[if_pos (by simp;omega),eh1,set_push]
  dsimp only
  congr 5
  unfold hu1 ints
  rw[hd0]
  simp only[nf9,List.take_succ_cons,si3,rs6,m51,q11,vb8,q90]
  rw[hd0,q90]at hdl
  rw[jx3 (by simp;omega)]
  simp
 obtain⟨h2,eh2⟩: ∃h2:H,h2=h++[.row ⟨ints (d0::ds.take (m-1)),3,1,true⟩]:=⟨_,rfl⟩
 rw[←eh2]at hcp
 have r2:h2.row h.length=some ⟨ints (d0::ds.take (m-1)),3,1,true⟩:=by rw[eh2];exact cv8
 have s2:=l45 r2 (i:=0) (v:=0) (by omega) (by simp only[q90];omega)
 rw[show(d0::ds.take (m-1)).set (0:Int).toNat 0=0::ds.take (m-1)from rfl,eh2,set_push,←eh2,show(0:Int).toNat=0 from rfl]at s2
 obtain⟨h3,eh3⟩: ∃h3:H,h3=h++[.row ⟨ints (0::ds.take (m-1)),3,1,true⟩]:=⟨_,rfl⟩
 rw[←eh3]at s2
 have r3:h3.row h.length=some ⟨ints ([]++(0::ds.take (m-1))),3,1,true⟩:=by rw[eh3];exact cv8
 have p3:h<+:h3:=by rw[eh3];exact w63 _ _
 have hd3:Dig p ([]++(0::ds.take (m-1))):=by
  intro z hz
  rw[m51,r04]at hz
  rcases hz with rfl|hz
  ·omega
  ·exact hdd z (tn5 hz)
 obtain⟨h4,p4,r4,d4,tl⟩:=iv0 hf hF hM top ht m 0 [] (0::ds.take (m-1)) h3 rfl (by simp) (by simp;omega) hd3 p3 r3
 simp only[m51,fo5,sv4]at r4 d4
 obtain⟨z,hz⟩: ∃z,z=axpy p top (0::ds.take (m-1)) (negm p m mod):=⟨_,rfl⟩
 rw[←hz]at r4 d4
 have hzl:z.length=m:=by rw[hz,ly3];simp;omega
 have rz:RdI h4 (some ⟨h.length,0,none⟩) m z:=by have:=RdI.ofRow r4 rfl;rw[hzl]at this;exact this
 have hb: ∀j,j≤z.length→0≤numb p (z.drop j)∧numb p (z.drop j)≤1000000:=by
  intro j hj
  have h1:=v52 (p:=p) (by omega) (l:=z.drop j) (fun x hx=>d4 x (lq8 hx))
  have h2:p^(z.drop j).length≤p^m:=tv0 (by omega) (by rw[h50];omega)
  rw[hf.pm]at h2
  omega
 have hnum:=ga4 p z (some ⟨h.length,0,none⟩) m h4 rz (by omega) hp64 (fun x hx=>by have:=d4 x hx;omega) (by omega) (by omega) hb
 rw[hzl,←kw2]at hnum
 have b14:=ix6 b1 p4
 have hu:ss4 h1 1 (some ⟨h.length,0,none⟩)=true:=by unfold ss4;simp only[r1];rfl
 have c1:0≤(1:Int)∧(1:Int)≤(m:Int)∧(m:Int)≤(m:Int):=by omega
 have c2:0≤(0:Int)∧0≤(m:Int)-1∧(m:Int)-1≤(m:Int):=by omega
 have c3:((m:Int)-1).toNat=m-1:=by omega
 rw[c3]at e1
 have c4:0≤(0:Int)∧(0:Int)<(m:Int):=by omega
 refine⟨h4,p4, ?_⟩
 rw[vl3,if_neg hm,←hds,←htop,←hz,wn8 T79 rfl]
 unfold F79 c79
 simp(disch:=first|omega|(simp only[rl9,wi2,q89]<;>omega)|fail) only[push_cast,seval,b1,b2,nb8 hmi,ed,b21,b11,wrap64,hi1,e1,hu,c1,c2,c3,Int.sub_zero,ao0,ite_self,hmi,hcp,c4.2,s2]
 rw[tl]
 simp(disch:=first|omega|(simp only[rl9,wi2,q89]<;>omega)|fail) only[push_cast,seval,b14,hnum]
end
theorem RdI.at{h h':H}{o off c:Nat}{zs:List Int}(hr:RdI h (some ⟨o,off,none⟩) c zs)(he:h'.row o=h.row o):RdI h' (some ⟨o,off,none⟩) c zs:=by
 rcases hr with⟨h1,_⟩|⟨h1,o',off',r,h2,h3,h4⟩
 ·cases h1
 ·cases h2
  exact .inr ⟨h1,o,off,r,rfl,by rw[he];exact h3,h4⟩
theorem sg3{h:H}{o o':Nat}{b:Ob}(hne:o≠o'):(h.set o b)[o']? =h[o']? :=b17 hne
theorem ax8{q p g:Int}{m:Nat}{mod:List Int}(hf:FOk q p m mod)(a:Int):0≤vl3 p m g mod a∧vl3 p m g mod a<q:=by
 have hp:=hf.p2
 have hm1:=hf.m1
 unfold vl3
 by_cases h1:m=1
 ·rw[if_pos h1]
  have:=hf.pm
  rw[h1,pi7,Int.pow_zero,Int.one_mul]at this
  rw[this]
  have:=hf.q2
  exact⟨fc1 _ (by omega),do0 _ (by omega)⟩
 ·rw[if_neg h1,←hf.pm]
  have hd:Dig p (0::(digs p m a).take (m-1)):=by
   intro z hz
   rw[r04]at hz
   rcases hz with rfl|hz
   ·omega
   ·exact Dig.digs (by omega) m a z (tn5 hz)
  have h2:=v52 (p:=p) (by omega) (Dig.axpy (c:=gi (digs p m a) (m-1:Nat)) (by omega) (negm p m mod) hd)
  have hl:(axpy p (gi (digs p m a) (m-1:Nat)) (0::(digs p m a).take (m-1)) (negm p m mod)).length=m:=by
   rw[ly3,q90,vb8,hn5];omega
  rw[hl]at h2
  exact h2
def ql6(p:Int)(m:Nat)(g:Int)(mod:List Int):Nat→Int→Int→List Int→List Int→Option (List Int×List Int×Int)
 |0,_,a,e,l=>some (e,l,a)
 |n+1,k,a,e,l=>bif (a==0)||decide (0≤gi l a)then none else ql6 p m g mod n (k+1) (vl3 p m g mod a) (e.set k.toNat a) (l.set a.toNat k)
section
variable {q p g:Int} {m:Nat} {mod:List Int} {om fm cm F n0:Nat} {h3:H}
theorem ze4(hq:2≤q∧q≤64)(pf:List Value)(hpf:pf[6]? =some (.slice (some ⟨n0+1,0,none⟩) q.toNat q.toNat))(hF:h3.row F=some ⟨pf,90,0,true⟩)(hFl:F<n0):
 ∀(n:Nat) (i:Int) (iN:Nat) (G:H),i=(iN:Int)→iN+n=q.toNat→(∀o,o≤n0→G[o]? =h3[o]?)→G.row (n0+1)=some ⟨ints (List.replicate iN (-1)++List.replicate n 0),3,1,true⟩→
 ∃G':H,(∀o,o≤n0→G'[o]? =h3[o]?)∧G'.row (n0+1)=some ⟨ints (List.replicate q.toNat (-1)),3,1,true⟩∧
  ∀ks,goL T [.tmp 2] [0,27,28] c69L0 (.blk 0 [0]::ks) [(0, .pointer (some ⟨F,0,none⟩)),(27, .int .i64 q),(28, .int .i64 i)] G=go T [.tmp 2] ks (Fr.of [(0, .pointer (some ⟨F,0,none⟩))]) G'
 |0,i,iN,G,hi,hn,hk,hr=>by
  subst hi
  refine⟨G,hk,by rw[hr,show iN=q.toNat by omega];simp,fun ks=> ?_⟩
  rw[ur1 c69L0.eq_def]
  simp(disch:=first|omega|(simp only[rl9,wi2,q89]<;>omega)|fail) only[push_cast,seval,cw6]
 |n+1,i,iN,G,hi,hn,hk,hr=>by
  subst hi
  have b6:G.ld1 F 6=some (.slice (some ⟨n0+1,0,none⟩) q.toNat q.toNat):=s20 (by rw[cp7 (hk F (by omega))];exact hF) hpf
  have es:=l45 hr (i:=(iN:Int)) (v:= -1) (by omega) (by simp;omega)
  have hset:(List.replicate iN (-1)++List.replicate (n+1) 0).set ((iN:Int)).toNat (-1:Int)=List.replicate (iN+1) (-1)++List.replicate n 0:=by
   rw[lg2,pd0 (by simp),List.replicate_succ' (n:=iN)];simp
  rw[hset]at es
  obtain⟨G1,eG1⟩: ∃G1:H,G1=G.set (n0+1) (.row ⟨ints (List.replicate (iN+1) (-1)++List.replicate n 0),3,1,true⟩):=⟨_,rfl⟩
  rw[←eG1]at es
  have r1:G1.row (n0+1)=some ⟨ints (List.replicate (iN+1) (-1)++List.replicate n 0),3,1,true⟩:=by rw[eG1];exact tr3 (h42 hr)
  obtain⟨G',k',r',ih⟩:=ze4 hq pf hpf hF hFl n ((iN:Int)+1) (iN+1) G1 (by omega) (by omega) (fun o ho=>by rw[eG1,sg3 (by omega)];exact hk o ho) r1
  refine⟨G',k',r',fun ks=> ?_⟩
  have hi1:0≤(iN:Int)∧(iN:Int)<((q.toNat:Nat):Int):=by omega
  have hi2:(iN:Int)<max q 0:=by omega
  rw[←ih ks,ur1 c69L0.eq_def]
  simp(disch:=first|omega|(simp only[rl9,wi2,q89]<;>omega)|fail) only[push_cast,seval,dec_lt,b6,hi1,hi2,es,wrap64]
theorem ok1(hf:FOk q p m mod)(hg:0≤g∧g<q)(hF:h3.row F=some (pfR q p m (.slice (some ⟨om,fm,none⟩) mod.length cm) g (.slice (some ⟨n0,0,none⟩) (q-1).toNat (q-1).toNat) (.slice (some ⟨n0+1,0,none⟩) q.toNat q.toNat)))(hFl:F<n0)
 (hM:RdI h3 (some ⟨om,fm,none⟩) cm mod) (hom:om<n0):
 ∀(n:Nat) (k a:Int) (e l:List Int) (G:H),k+n=q-1→0≤k→0≤a∧a<q→e.length=(q-1).toNat→l.length=q.toNat→(∀o,o<n0→G[o]? =h3[o]?)→n0+2≤G.length→G.row n0=some ⟨ints e,3,1,true⟩→G.row (n0+1)=some ⟨ints l,3,1,true⟩→
 ∃G':H,(∀o,o<n0→G'[o]? =h3[o]?)∧n0+2≤G'.length∧(∀e' l' a',ql6 p m g mod n k a e l=some (e',l',a')→G'.row n0=some ⟨ints e',3,1,true⟩∧G'.row (n0+1)=some ⟨ints l',3,1,true⟩∧e'.length=(q-1).toNat∧l'.length=q.toNat)∧
  ∀ks,goL T [.tmp 2] [0,4,42,43] c69L1 (.blk 2 [4]::ks) [(0, .pointer (some ⟨F,0,none⟩)),(4, .int .i64 a),(42, .int .i64 (q-1)),(43, .int .i64 k)] G=
   match ql6 p m g mod n k a e l with
   |none=>some (.bool false,G')
   |some (_,_,a')=>go T [.tmp 2] ks (Fr.of [(4, .int .i64 a')]) G'
 |0,k,a,e,l,G,hk,hk0,ha,hel,hll,hK,hGl,hrE,hrL=>by
  refine⟨G,hK,hGl,fun e' l' a' he=>by rw[ql6]at he;cases he;exact⟨hrE,hrL,hel,hll⟩,fun ks=> ?_⟩
  rw[ur1 c69L1.eq_def,ql6]
  simp(disch:=first|omega|(simp only[rl9,wi2,q89]<;>omega)|fail) only[push_cast,seval,cw6]
 |n+1,k,a,e,l,G,hk,hk0,ha,hel,hll,hK,hGl,hrE,hrL=>by
  have hq2:=hf.q2
  have hq64:=hf.q64
  have hkl:k<q-1:=by omega
  have rF:=(cp7 (hK F (by omega))).trans hF
  have b5:G.ld1 F 5=some (.slice (some ⟨n0,0,none⟩) (q-1).toNat (q-1).toNat):=s20 rF rfl
  have b6:G.ld1 F 6=some (.slice (some ⟨n0+1,0,none⟩) q.toNat q.toNat):=s20 rF rfl
  by_cases hz:a=0
  ·refine⟨G,hK,hGl,fun e' l' a' he=>(by rw[ql6,show(a==0)=true by simpa using hz,Bool.true_or,nj1]at he;cases he),fun ks=> ?_⟩
   rw[ur1 c69L1.eq_def,ql6,show(a==0)=true by simpa using hz,Bool.true_or,nj1]
   simp(disch:=first|omega|(simp only[rl9,wi2,q89]<;>omega)|fail) only[push_cast,seval,dec_lt,mr8 hz]
  have hzb:(a==0)=false:=by simpa using hz
  have hi1:0≤a∧a<((q.toNat:Nat):Int):=by omega
  have hi2:a<max q 0:=by omega
  have el:=i59 hrL (i:=a) (by omega) (by omega)
  by_cases hlg:0≤gi l a
  ·refine⟨G,hK,hGl,fun e' l' a' he=>(by rw[ql6,hzb,Bool.false_or,ce5 hlg,nj1]at he;cases he),fun ks=> ?_⟩
   rw[ur1 c69L1.eq_def,ql6,hzb,Bool.false_or,ce5 hlg,nj1]
   simp(disch:=first|omega|(simp only[rl9,wi2,q89]<;>omega)|fail) only[push_cast,seval,dec_lt,nb8 hz,b6,hi1,hi2,el,nl3 hlg]
  have hi3:0≤k∧k<(((q-1).toNat:Nat):Int):=by omega
  have hi4:k<max (q-1) 0:=by omega
  have s1:=l45 hrE (i:=k) (v:=a) (by omega) (by omega)
  obtain⟨G1,eG1⟩: ∃G1:H,G1=G.set n0 (.row ⟨ints (e.set k.toNat a),3,1,true⟩):=⟨_,rfl⟩
  rw[←eG1]at s1
  have r1L:G1.row (n0+1)=some ⟨ints l,3,1,true⟩:=by rw[eG1,jl1 (by omega)];exact hrL
  have r1E:G1.row n0=some ⟨ints (e.set k.toNat a),3,1,true⟩:=by rw[eG1];exact tr3 (h42 hrE)
  have s2:=l45 r1L (i:=a) (v:=k) (by omega) (by omega)
  obtain⟨G2,eG2⟩: ∃G2:H,G2=G1.set (n0+1) (.row ⟨ints (l.set a.toNat k),3,1,true⟩):=⟨_,rfl⟩
  rw[←eG2]at s2
  have r2E:G2.row n0=some ⟨ints (e.set k.toNat a),3,1,true⟩:=by rw[eG2,jl1 (by omega)];exact r1E
  have r2L:G2.row (n0+1)=some ⟨ints (l.set a.toNat k),3,1,true⟩:=by rw[eG2];exact tr3 (h42 r1L)
  have K2: ∀o,o<n0→G2[o]? =h3[o]? :=fun o ho=>by rw[eG2,sg3 (by omega),eG1,sg3 (by omega)];exact hK o ho
  have l2:G2.length=G.length:=by rw[eG2,eG1];simp
  obtain⟨G3,p3,et⟩:=xr3 hf G2 ((cp7 (K2 F (by omega))).trans hF) (RdI.at hM (cp7 (K2 om hom))) hg a ha
  have K3: ∀o,o<n0→G3[o]? =h3[o]? :=fun o ho=>by rw[ym2 p3 (by omega)];exact K2 o ho
  obtain⟨G4,K4,l4,R4,ih⟩:=ok1 hf hg hF hFl hM hom n (k+1) (vl3 p m g mod a) (e.set k.toNat a) (l.set a.toNat k) G3 (by omega) (by omega) (ax8 hf a) (by simpa using hel) (by simpa using hll) K3 (by have:=bt8 p3;omega) (cp5 r2E p3) (cp5 r2L p3)
  have hfe:ql6 p m g mod (n+1) k a e l=ql6 p m g mod n (k+1) (vl3 p m g mod a) (e.set k.toNat a) (l.set a.toNat k):=by
   rw[ql6,hzb,Bool.false_or,lx1 hlg,ey2]
  refine⟨G4,K4,l4,by rw[hfe];exact R4,fun ks=> ?_⟩
  rw[hfe,←ih ks,ur1 c69L1.eq_def]
  simp(disch:=first|omega|(simp only[rl9,wi2,q89]<;>omega)|fail) only[push_cast,seval,dec_lt,nb8 hz,b5,b6,hi1,hi2,hi3,hi4,el,qc6 (Int.not_le.1 hlg),s1,s2,et,wrap64]
end
structure But (F:Nat) (h h':H):Prop where
 len:h.length≤h'.length
 get: ∀o,o<h.length→o≠F→h'[o]? =h[o]?
theorem But.trans{F:Nat}{h h' h'':H}(a:But F h h')(b:But F h' h''):But F h h'':=
 ⟨md7 a.len b.len,fun o ho hne=>by rw[b.get o (by have:=a.len;omega) hne,a.get o ho hne]⟩
theorem But.ofPre{F:Nat}{h h':H}(p:h<+:h'):But F h h':=⟨bt8 p,fun o ho _=>ym2 p ho⟩
theorem But.set{F:Nat}{h:H}{x:Ob}:But F h (h.set F x):=⟨by simp,fun o ho hne=>sg3 (fun e=>hne e.symm)⟩
theorem But.pre{F:Nat}{h h' b:H}(a:But F h h')(hb:b<+:h)(hl:b.length≤F):b<+:h':=
 w09 (by have:=bt8 hb;have:=a.len;omega) (fun o ho=>by rw[a.get o (by have:=bt8 hb;omega) (by omega)];exact ym2 hb ho)
def a98(q p:Int)(m:Nat)(g:Int)(mod:List Int):Option (List Int×List Int×Int):=ql6 p m g mod (q-1).toNat 0 1 (List.replicate (q-1).toNat 0) (List.replicate q.toNat (-1))
def xe1(q p:Int)(m:Nat)(g:Int)(mod:List Int):Bool:=match a98 q p m g mod with
 |some (_,_,a)=>decide (a=1)
 |none=>false
structure PTab (h:H) (F:Nat) (q p:Int) (m:Nat) (ms:Value) (g:Int) (e l:List Int):Prop where
 ok: ∃E L,F<E∧F<L∧h.row F=some (pfR q p m ms g (.slice (some ⟨E,0,none⟩) (q-1).toNat (q-1).toNat) (.slice (some ⟨L,0,none⟩) q.toNat q.toNat))∧
  h.row E=some ⟨ints e,3,1,true⟩∧h.row L=some ⟨ints l,3,1,true⟩∧e.length=(q-1).toNat∧l.length=q.toNat
section
variable {q p g:Int} {m:Nat} {mod:List Int} {om fm cm F:Nat}
theorem yh6(hf:FOk q p m mod)(hg:0≤g∧g<q)(h:H){es ls:Value}(hF:h.row F=some (pfR q p m (.slice (some ⟨om,fm,none⟩) mod.length cm) g es ls))(hM:RdI h (some ⟨om,fm,none⟩) cm mod)(hom:om≠F):
 ∃h':H,But F h h'∧(∃es' ls',h'.row F=some (pfR q p m (.slice (some ⟨om,fm,none⟩) mod.length cm) g es' ls'))∧
  (∀e l a,a98 q p m g mod=some (e,l,a)→PTab h' F q p m (.slice (some ⟨om,fm,none⟩) mod.length cm) g e l)∧
  call T 69 [.pointer (some ⟨F,0,none⟩)] h=some (.bool (xe1 q p m g mod),h'):=by
 have hq2:=hf.q2
 have hq64:=hf.q64
 have hml:=hf.ml
 obtain⟨ms,hms⟩: ∃ms,ms=Value.slice (some ⟨om,fm,none⟩) mod.length cm:=⟨_,rfl⟩
 rw[←hms]at hF⊢
 have hFl:=h42 hF
 have hol:om<h.length:=by
  obtain⟨_,_,e,h1,_⟩:=hM.addr (by omega)
  cases e;exact h1
 have b0:h.ld1 F 0=some (.int .i64 q):=s20 hF rfl
 --exp
 obtain⟨h1,eh1⟩: ∃h1:H,h1=h++[.row ⟨ints (List.replicate (q-1).toNat 0),3,1,true⟩]:=⟨_,rfl⟩
 have p1:h<+:h1:=by rw[eh1];exact w63 _ _
 have r1:h1.row h.length=some ⟨ints (List.replicate (q-1).toNat 0),3,1,true⟩:=by rw[eh1];exact cv8
 have l1:h1.length=h.length+1:=by rw[eh1];simp
 obtain⟨xs,hxs⟩: ∃x,x=Value.slice (some ⟨h.length,0,none⟩) (q-1).toNat (q-1).toNat:=⟨_,rfl⟩
 have s1:=ym3 (off:=5) (v:=xs) (cp5 hF p1) (by simp) (l':=pfL q p m ms g xs ls) rfl
 obtain⟨h2,eh2⟩: ∃h2:H,h2=h1.set F (.row (pfR q p m ms g xs ls)):=⟨_,rfl⟩
 rw[←eh2]at s1
 have r2F:h2.row F=some (pfR q p m ms g xs ls):=by rw[eh2];exact tr3 (by omega)
 have l2:h2.length=h.length+1:=by rw[eh2];simp[l1]
 have b02:h2.ld1 F 0=some (.int .i64 q):=s20 r2F rfl
 --log
 obtain⟨h3,eh3⟩: ∃h3:H,h3=h2++[.row ⟨ints (List.replicate q.toNat 0),3,1,true⟩]:=⟨_,rfl⟩
 have p3:h2<+:h3:=by rw[eh3];exact w63 _ _
 have r3:h3.row (h.length+1)=some ⟨ints (List.replicate q.toNat 0),3,1,true⟩:=by rw[eh3,←l2];exact cv8
 obtain⟨ys,hys⟩: ∃y,y=Value.slice (some ⟨h.length+1,0,none⟩) q.toNat q.toNat:=⟨_,rfl⟩
 have s3:=ym3 (off:=6) (v:=ys) (cp5 r2F p3) (by simp) (l':=pfL q p m ms g xs ys) rfl
 obtain⟨h4,eh4⟩: ∃h4:H,h4=h3.set F (.row (pfR q p m ms g xs ys)):=⟨_,rfl⟩
 rw[←eh4]at s3
 have l3:h3.length=h.length+2:=by rw[eh3];simp[l2]
 have l4:h4.length=h.length+2:=by rw[eh4];simp[l3]
 have r4F:h4.row F=some (pfR q p m ms g xs ys):=by rw[eh4];exact tr3 (by omega)
 have r4E:h4.row h.length=some ⟨ints (List.replicate (q-1).toNat 0),3,1,true⟩:=by
  rw[eh4,jl1 (by omega)]
  refine cp5 ?_ p3
  rw[eh2,jl1 (by omega)];exact r1
 have r4L:h4.row (h.length+1)=some ⟨ints (List.replicate 0 (-1)++List.replicate q.toNat 0),3,1,true⟩:=by rw[eh4,jl1 (by omega)];exact r3
 have bt:But F h h4:=((But.ofPre p1).trans (by rw[eh2];exact But.set)).trans ((But.ofPre p3).trans (by rw[eh4];exact But.set))
 have b64:h4.ld1 F 6=some ys:=s20 r4F rfl
 obtain⟨h5,k5,r5L,lo⟩:=ze4 (n0:=h.length) (h3:=h4) (q:=q) ⟨hq2,hq64⟩ (pfL q p m ms g xs ys) (by rw[hys];rfl) r4F hFl q.toNat 0 0 h4 rfl (by omega) (fun _ _=>rfl) r4L
 have r5F:h5.row F=some (pfR q p m ms g xs ys):=(cp7 (k5 F (by omega))).trans r4F
 have r5E:h5.row h.length=some ⟨ints (List.replicate (q-1).toNat 0),3,1,true⟩:=(cp7 (k5 h.length (by omega))).trans r4E
 have b05:h5.ld1 F 0=some (.int .i64 q):=s20 r5F rfl
 have l5:h.length+2≤h5.length:=by have:=h42 r5L;omega
 have hM5:RdI h5 (some ⟨om,fm,none⟩) cm mod:=RdI.at hM ((cp7 (k5 om (by omega))).trans (cp7 (bt.get om hol hom)))
 rw[hxs,hys,hms]at r5F
 obtain⟨h6,k6,l6,R6,fo⟩:=ok1 (n0:=h.length) hf hg r5F hFl hM5 hol (q-1).toNat 0 1 (List.replicate (q-1).toNat 0) (List.replicate q.toNat (-1)) h5 (by omega) (by omega) (by omega) (by simp) (by simp) (fun _ _=>rfl) l5 r5E r5L
 have r6F:h6.row F=some (pfR q p m ms g xs ys):=by rw[cp7 (k6 F (by omega)),hxs,hys,hms];exact r5F
 refine⟨h6,⟨by omega,fun o ho hne=>by rw[k6 o ho,k5 o (by omega),bt.get o ho hne]⟩,⟨xs,ys,r6F⟩,fun e l a he=> ?_, ?_⟩
 ·obtain⟨q1,q2,q3,q4⟩:=R6 e l a he
  exact⟨h.length,h.length+1,by omega,by omega,by rw[r6F,hxs,hys],q1,q2,q3,q4⟩
 rw[wn8 T69 rfl]
 unfold F69 c69
 have c1:0≤q-1∧q-1≤q-1∧q-1≤1099511627776∧(q-1)*8≤140737488355328:=by omega
 have c2:0≤q∧q≤q∧q≤1099511627776∧q*8≤140737488355328:=by omega
 have c3:max q 0=q:=by omega
 subst hxs hys
 simp(disch:=first|omega|(simp only[rl9,wi2,q89]<;>omega)|fail) only[push_cast,seval,b0,wrap64,c1,k78,←eh1,s1,b02,c2,←eh3,l2,s3,b64,c3]
 rw[show((q.toNat:Nat):Int)=q by omega,lo]
 simp(disch:=first|omega|(simp only[rl9,wi2,q89]<;>omega)|fail) only[push_cast,seval,b05,wrap64]
 rw[fo]
 unfold xe1 a98
 cases hx:ql6 p m g mod (q-1).toNat 0 1 (List.replicate (q-1).toNat 0) (List.replicate q.toNat (-1))with
 |none=>rfl
 |some x=>
  obtain⟨e,l,a⟩:=x
  simp(disch:=first|omega|(simp only[rl9,wi2,q89]<;>omega)|fail) only[push_cast,seval]
end
def genB(q p:Int):Nat→Int→Option Int
 |0,_=>none
 |n+1,g=>bif xe1 q p 1 g [0,1]then some g else genB q p n (g+1)
def lowB(q p:Int)(m:Nat):Nat→Int→Option (List Int)
 |0,_=>none
 |n+1,low=>bif xe1 q p m p (digs p m low++[1])then some (digs p m low++[1])else lowB q p m n (low+1)
def v68(n:Nat):Bool:=
 match fldN n with
 |none=>true
 |some (p,m,g,mod)=>(bif decide (m=1)then decide (genB n p (n-1) 1=some g)else decide (lowB n p m n 0=some mod))&&xe1 n p m g mod
theorem tw0:((List.range 63).all fun n=>v68 (n+2))=true:=by kernel_rfl
theorem za4{n:Nat}(h2:2≤n)(h64:n≤64):v68 n=true:=by
 have h:=p92.1 tw0 (n-2) (l16.2 (by omega))
 rw[show n-2+2=n by omega]at h
 exact h
def tabs(n:Nat):List Int×List Int:=match fldN n with
 |some (p,m,g,mod)=>match a98 n p m g mod with
  |some (e,l,_)=>(e,l)
  |none=>([],[])
 |none=>([],[])
section
variable {q p:Int}
theorem bg3(hf:FOk q p 1 [0,1]){om fm cm F:Nat}(hom:om≠F): ∀(n:Nat) (g gen:Int) (G:H) (es ls:Value),1≤g→g+n≤q→genB q p n g=some gen→
 G.row F=some (pfR q p 1 (.slice (some ⟨om,fm,none⟩) 2 cm) g es ls)→RdI G (some ⟨om,fm,none⟩) cm [0,1]→
 ∃G':H,But F G G'∧(∀e l a,a98 q p 1 gen [0,1]=some (e,l,a)→PTab G' F q p 1 (.slice (some ⟨om,fm,none⟩) 2 cm) gen e l)∧
  ∀ks,goL T [.tmp 2] [5] c47L0 (.blk 0 [5]::ks) [(5, .pointer (some ⟨F,0,none⟩))] G=go T [.tmp 2] ks (Fr.of [(5, .pointer (some ⟨F,0,none⟩))]) G'
 |0,g,gen,G,es,ls,h1,h2,he,hr,hM=>by cases he
 |n+1,g,gen,G,es,ls,h1,h2,he,hr,hM=>by
  rw[genB]at he
  have hq64:=hf.q64
  obtain⟨G1,b1,⟨es1,ls1,r1⟩,T1,ef⟩:=yh6 hf (g:=g) (by omega) G hr hM hom
  rw[show((1:Nat):Int)=1 from rfl]at r1
  cases hx:xe1 q p 1 g [0,1]with
  |true=>
   rw[hx,nj1]at he
   cases he
   rw[hx]at ef
   refine⟨G1,b1,T1,fun ks=> ?_⟩
   rw[ur1 c47L0.eq_def]
   simp(disch:=first|omega|(simp only[rl9,wi2,q89]<;>omega)|fail) only[push_cast,seval,ef]
  |false=>
   rw[hx,ey2]at he
   rw[hx]at ef
   have b4:G1.ld1 F 4=some (.int .i64 g):=s20 r1 rfl
   have s1:=ym3 (off:=4) (v:= .int .i64 (g+1)) r1 (by simp) (l':=pfL q p 1 (.slice (some ⟨om,fm,none⟩) 2 cm) (g+1) es1 ls1) rfl
   obtain⟨G2,eG2⟩: ∃G2:H,G2=G1.set F (.row (pfR q p 1 (.slice (some ⟨om,fm,none⟩) 2 cm) (g+1) es1 ls1)):=⟨_,rfl⟩
   rw[←eG2]at s1
   have r2:G2.row F=some (pfR q p 1 (.slice (some ⟨om,fm,none⟩) 2 cm) (g+1) es1 ls1):=by rw[eG2];exact tr3 (h42 r1)
   have b2:But F G G2:=b1.trans (by rw[eG2];exact But.set)
   have hol:om<G.length:=by
    obtain⟨_,_,e,h1,_⟩:=hM.addr (by simp)
    cases e;exact h1
   obtain⟨G3,b3,T3,ih⟩:=bg3 hf hom n (g+1) gen G2 es1 ls1 (by omega) (by omega) he r2 (RdI.at hM (cp7 (b2.get om hol hom)))
   refine⟨G3,b2.trans b3,T3,fun ks=> ?_⟩
   rw[←ih ks,ur1 c47L0.eq_def]
   simp(disch:=first|omega|(simp only[rl9,wi2,q89]<;>omega)|fail) only[push_cast,seval,ef,b4,wrap64,s1]
theorem vm2{m:Nat}(hpq:0≤p∧p<q)(hf: ∀low,0≤low→FOk q p m (digs p m low++[1])){F:Nat}:
 ∀(n:Nat) (low:Int) (mod:List Int) (ms es ls:Value) (G:H),0≤low→low+n≤q→lowB q p m n low=some mod→G.row F=some (pfR q p m ms p es ls)→
 ∃(G':H) (om:Nat),But F G G'∧F<om∧RdI G' (some ⟨om,0,none⟩) (m+1) mod∧(∀e l a,a98 q p m p mod=some (e,l,a)→PTab G' F q p m (.slice (some ⟨om,0,none⟩) mod.length (m+1)) p e l)∧
  ∀ks,goL T [.tmp 2] [3,4,5,43,44] c47L1 (.blk 2 []::ks) [(3, .int .i64 p),(4, .int .i64 m),(5, .pointer (some ⟨F,0,none⟩)),(43, .int .i64 q),(44, .int .i64 low)] G=some (.pointer (some ⟨F,0,none⟩),G')
 |0,low,mod,ms,es,ls,G,h1,h2,he,hr=>by cases he
 |n+1,low,mod,ms,es,ls,G,h1,h2,he,hr=>by
  rw[lowB]at he
  have hfl:=hf low h1
  have hq64:=hfl.q64
  have hm10:=hfl.m10
  have hp2:=hfl.p2
  have hm1:=hfl.m1
  have hFl:=h42 hr
  have ed:=xy9 low p m G (by omega) (by omega) h1 (by omega)
  obtain⟨G1,eG1⟩: ∃G1:H,G1=G++[.row ⟨ints (digs p m low),3,1,true⟩]:=⟨_,rfl⟩
  rw[←eG1]at ed
  have l1:G1.length=G.length+1:=by rw[eG1];simp
  have gd:Grown G1 (some ⟨G.length,0,none⟩) m (digs p m low) G.length:= .inr ⟨G.length,rfl,jj6 _,(hn5 _ _ _).symm,by rw[eG1];exact cv8⟩
  obtain⟨sb,G2,ea,gb,hl2,hk2,hpp2⟩:=gd.one (y:=1) (by rw[hn5];omega) (by omega)
  rw[hn5]at ea gb
  have p2:G<+:G2:=hpp2 G (jj6 _) (by rw[eG1];exact w63 _ _)
  obtain⟨mo,hmo⟩: ∃mo,mo=digs p m low++[1]:=⟨_,rfl⟩
  have hml:mo.length=m+1:=by rw[hmo];simp[hn5]
  rw[←hmo]at gb he hfl
  have r2F:=cp5 hr p2
  have s1:=ym3 (off:=3) (v:= .slice sb (m+1) (m+1)) r2F (by simp) (l':=pfL q p m (.slice sb (m+1) (m+1)) p es ls) rfl
  obtain⟨G3,eG3⟩: ∃G3:H,G3=G2.set F (.row (pfR q p m (.slice sb (m+1) (m+1)) p es ls)):=⟨_,rfl⟩
  rw[←eG3]at s1
  have r3F:G3.row F=some (pfR q p m (.slice sb (m+1) (m+1)) p es ls):=by rw[eG3];exact tr3 (h42 r2F)
  have g3:Grown G3 sb (m+1) mo G.length:=gb.carry (fun o ho _=>by rw[eG3,jl1 (by omega)])
  have b3:But F G G3:=(But.ofPre p2).trans (by rw[eG3];exact But.set)
  obtain⟨om,rfl,hom,_,r3o⟩: ∃o,sb=some ⟨o,0,none⟩∧G.length≤o∧m+1=mo.length∧G3.row o=some ⟨ints mo,3,1,true⟩:=by
   rcases g3 with⟨_,h0,_⟩|h0
   ·omega
   ·exact h0
  have rm:RdI G3 (some ⟨om,0,none⟩) (m+1) mo:=g3.rd
  rw[←hml]at r3F
  obtain⟨G4,b4,⟨es4,ls4,r4⟩,T4,ef⟩:=yh6 hfl hpq G3 (cm:=mo.length) r3F (by rw[hml];exact rm) (by omega)
  have rm4:RdI G4 (some ⟨om,0,none⟩) (m+1) mo:=RdI.at rm (cp7 (b4.get om (h42 r3o) (by omega)))
  cases hx:xe1 q p m p mo with
  |true=>
   rw[hx,nj1]at he
   have he':mo=mod:=pk4 he
   rw[hx]at ef
   rw[←he']
   refine⟨G4,om,b3.trans b4,by omega,rm4,by rw[hml]at T4⊢;exact T4,fun ks=> ?_⟩
   rw[ur1 c47L1.eq_def]
   simp(disch:=first|omega|(simp only[rl9,wi2,q89]<;>omega)|fail) only[push_cast,seval,dec_lt,ed,ea,s1,ef]
  |false=>
   rw[hx,ey2]at he
   rw[hx]at ef
   obtain⟨G5,om5,b5,ho5,rm5,T5,ih⟩:=vm2 hpq hf n (low+1) mod _ es4 ls4 G4 (by omega) (by omega) he r4
   refine⟨G5,om5,(b3.trans b4).trans b5,ho5,rm5,T5,fun ks=> ?_⟩
   rw[←ih ks,ur1 c47L1.eq_def]
   simp(disch:=first|omega|(simp only[rl9,wi2,q89]<;>omega)|fail) only[push_cast,seval,dec_lt,ed,ea,s1,ef,wrap64]
end
structure PFld (h:H) (F:Nat) (q p:Int) (m:Nat) (g:Int) (mod:List Int):Prop where
 ok: ∃om fm cm,F<om∧RdI h (some ⟨om,fm,none⟩) cm mod∧PTab h F q p m (.slice (some ⟨om,fm,none⟩) mod.length cm) g (tabs q.toNat).1 (tabs q.toNat).2
theorem PFld.keep{h h':H}{F:Nat}{q p:Int}{m:Nat}{g:Int}{mod:List Int}(hp:PFld h F q p m g mod)(hk: ∀o,F≤o→o<h.length→h'.row o=h.row o):PFld h' F q p m g mod:=by
 obtain⟨om,fm,cm,ho,hM,⟨E,L,h1,h2,h3,h4,h5,h6,h7⟩⟩:=hp.ok
 refine⟨om,fm,cm,ho, ?_,⟨E,L,h1,h2, ?_, ?_, ?_,h6,h7⟩⟩
 ·rcases hM with⟨hx,_⟩|⟨q1,o',off',r,q2,q3,q4⟩
  ·cases hx
  ·cases q2;exact .inr ⟨q1,om,fm,r,rfl,by rw[hk om (by omega) (h42 q3)];exact q3,q4⟩
 ·rw[hk F (jj6 _) (h42 h3)];exact h3
 ·rw[hk E (by omega) (h42 h4)];exact h4
 ·rw[hk L (by omega) (h42 h5)];exact h5
theorem sq0(a b c d e f g x:Value):hu1 [a,b,c,d,e,f,g] 0 [x]=[x,b,c,d,e,f,g]:=rfl
theorem sq1(a b c d e f g x:Value):hu1 [a,b,c,d,e,f,g] 1 [x]=[a,x,c,d,e,f,g]:=rfl
theorem sq2(a b c d e f g x:Value):hu1 [a,b,c,d,e,f,g] 2 [x]=[a,b,x,d,e,f,g]:=rfl
theorem w69(q:Int)(hq:2≤q∧q≤64)(hn:fldN q.toNat=none)(h:H):call T 47 [.int .i64 q] h=some (.pointer none,h):=by
 have ho:=wd5 (n:=q.toNat) (by omega) (by omega) hn
 rw[show((q.toNat:Nat):Int)=q by omega]at ho
 have hp:=e46 q hq h _ ho
 rw[wn8 T47 rfl]
 unfold F47 c47
 simp(disch:=first|omega|(simp only[rl9,wi2,q89]<;>omega)|fail) only[push_cast,seval,hp]
theorem ak2(q:Int){p g:Int}{m:Nat}{mod:List Int}(hn:fldN q.toNat=some (p,m,g,mod))(h:H): ∃(h':H) (F:Nat),h<+:h'∧h.length≤F∧PFld h' F q p m g mod∧
 call T 47 [.int .i64 q] h=some (.pointer (some ⟨F,0,none⟩),h'):=by
 obtain⟨hq2,hq64⟩:=ug0 hn
 have hqq:((q.toNat:Nat):Int)=q:=by omega
 obtain⟨hf,ho,hg1,hg2,_⟩:=hi9 hn
 have hb:=za4 hq2 hq64
 unfold v68 at hb
 rw[hn]at hb
 simp only[b83]at hb
 obtain⟨hb1,hb2⟩:=hb
 rw[hqq]at hf ho hg2 hb1 hb2
 have hp:=e46 q (by omega) h _ ho
 have hp2:=hf.p2
 have hp0: ¬p=0:=by omega
 --the tables
 obtain⟨e,l,a,het⟩: ∃e l a,a98 q p m g mod=some (e,l,a):=by
  unfold xe1 at hb2
  cases hx:a98 q p m g mod with
  |none=>rw[hx]at hb2;cases hb2
  |some x=>exact⟨x.1,x.2.1,x.2.2,rfl⟩
 have htab:tabs q.toNat=(e,l):=by
  unfold tabs
  rw[hn]
  simp only
  rw[hqq,het]
 obtain⟨h1,eh1⟩: ∃h1:H,h1=h++[.row (pfR q p m (.slice none 0 0) 0 (.slice none 0 0) (.slice none 0 0))]:=⟨_,rfl⟩
 have r1:h1.row h.length=some (pfR q p m (.slice none 0 0) 0 (.slice none 0 0) (.slice none 0 0)):=by rw[eh1];exact cv8
 have p1:h<+:h1:=by rw[eh1];exact w63 _ _
 have l1:h1.length=h.length+1:=by rw[eh1];simp
 by_cases hm:m=1
 ·subst hm
  rw[show((1:Nat):Int)=1 from rfl]at hp r1 eh1
  simp only[decide_true,nj1,jn8]at hb1
  have hmod:mod=[0,1]:=by
   have:=(hi9 hn).2.2.2.2
   rw[if_pos rfl]at this
   exact this.2
  subst hmod
  obtain⟨h2,eh2⟩: ∃h2:H,h2=h1++[.row ⟨[.int .i64 0, .int .i64 1],3,1,true⟩]:=⟨_,rfl⟩
  have r2:h2.row h1.length=some ⟨ints [0,1],3,1,true⟩:=by rw[eh2];exact cv8
  have p2:h1<+:h2:=by rw[eh2];exact w63 _ _
  have s2:=ym3 (off:=3) (v:= .slice (some ⟨h1.length,0,none⟩) 2 2) (cp5 r1 p2) (by simp) (l':=pfL q p 1 (.slice (some ⟨h1.length,0,none⟩) 2 2) 0 (.slice none 0 0) (.slice none 0 0)) rfl
  obtain⟨h3,eh3⟩: ∃h3:H,h3=h2.set h.length (.row (pfR q p 1 (.slice (some ⟨h1.length,0,none⟩) 2 2) 0 (.slice none 0 0) (.slice none 0 0))):=⟨_,rfl⟩
  rw[←eh3]at s2
  have r3:h3.row h.length=some (pfR q p 1 (.slice (some ⟨h1.length,0,none⟩) 2 2) 0 (.slice none 0 0) (.slice none 0 0)):=by rw[eh3];exact tr3 (h42 (cp5 r1 p2))
  have s3:=ym3 (off:=4) (v:= .int .i64 1) r3 (by simp) (l':=pfL q p 1 (.slice (some ⟨h1.length,0,none⟩) 2 2) 1 (.slice none 0 0) (.slice none 0 0)) rfl
  obtain⟨h4,eh4⟩: ∃h4:H,h4=h3.set h.length (.row (pfR q p 1 (.slice (some ⟨h1.length,0,none⟩) 2 2) 1 (.slice none 0 0) (.slice none 0 0))):=⟨_,rfl⟩
  rw[←eh4]at s3
  have r4:h4.row h.length=some (pfR q p 1 (.slice (some ⟨h1.length,0,none⟩) 2 2) 1 (.slice none 0 0) (.slice none 0 0)):=by rw[eh4];exact tr3 (h42 r3)
  have r4o:h4.row h1.length=some ⟨ints [0,1],3,1,true⟩:=by rw[eh4,jl1 (by omega),eh3,jl1 (by omega)];exact r2
  have bt:But h.length h h4:=(But.ofPre (p1.trans p2)).trans (by rw[eh4];exact(But.trans (by rw[eh3];exact But.set) But.set))
  have hM:RdI h4 (some ⟨h1.length,0,none⟩) 2 [0,1]:=RdI.ofRow r4o rfl
  obtain⟨h5,b5,T5,gl⟩:=bg3 hf (om:=h1.length) (F:=h.length) (by omega) (q.toNat-1) 1 g h4 _ _ (by omega) (by omega) hb1 r4 hM
  have hT:=T5 e l a het
  refine⟨h5,h.length,(bt.trans b5).pre (je0 _) (jj6 _),jj6 _,⟨h1.length,0,2,by omega,RdI.at hM (cp7 (b5.get _ (h42 r4o) (by omega))),by rw[htab];exact hT⟩, ?_⟩
  rw[wn8 T47 rfl]
  unfold F47 c47
  simp(disch:=first|omega|(simp only[rl9,wi2,q89]<;>omega)|fail) only[push_cast,seval,hp,nb8 hp0,sq0,sq1,sq2,←eh1,←eh2,s2,s3]
  rw[gl]
  simp(disch:=first|omega|(simp only[rl9,wi2,q89]<;>omega)|fail) only[push_cast,seval]
 ·rw[lx1 hm,ey2,jn8]at hb1
  have hgp:g=p:=by
   have:=(hi9 hn).2.2.2.2
   rw[if_neg hm]at this
   exact this.2
  subst hgp
  have hmi: ¬((m:Int)=1):=by omega
  have s2:=ym3 (off:=4) (v:= .int .i64 g) r1 (by simp) (l':=pfL q g m (.slice none 0 0) g (.slice none 0 0) (.slice none 0 0)) rfl
  obtain⟨h3,eh3⟩: ∃h3:H,h3=h1.set h.length (.row (pfR q g m (.slice none 0 0) g (.slice none 0 0) (.slice none 0 0))):=⟨_,rfl⟩
  rw[←eh3]at s2
  have r3:h3.row h.length=some (pfR q g m (.slice none 0 0) g (.slice none 0 0) (.slice none 0 0)):=by rw[eh3];exact tr3 (h42 r1)
  have hff: ∀low,0≤low→FOk q g m (digs g m low++[1]):=fun low h0=>⟨hf.q2,hf.q64,hf.p2,hf.p64,hf.m1,hf.m10,hf.pm,by simp[hn5],fun z hz=>by
   rw[bk2]at hz
   rcases hz with hz|hz
   ·exact Dig.digs (by omega) _ _ z hz
   ·simp at hz;omega⟩
  have bt:But h.length h h3:=(But.ofPre p1).trans (by rw[eh3];exact But.set)
  obtain⟨h4,om,b4,ho4,rm4,T4,gl⟩:=vm2 ⟨by omega,by omega⟩ hff q.toNat 0 mod _ _ _ h3 (by omega) (by omega) hb1 r3
  refine⟨h4,h.length,(bt.trans b4).pre (je0 _) (jj6 _),jj6 _,⟨om,0,m+1,ho4,rm4,by rw[htab];exact T4 e l a het⟩, ?_⟩
  rw[wn8 T47 rfl]
  unfold F47 c47
  simp(disch:=first|omega|(simp only[rl9,wi2,q89]<;>omega)|fail) only[push_cast,seval,hp,nb8 hp0,nb8 hmi,sq0,sq1,sq2,←eh1,s2]
  rw[gl]
theorem y03(a b c:Value)(r:List Value): ∀(n i:Nat),i<n→(rep [a,b,c] n++r)[i*3]? =some a∧(rep [a,b,c] n++r)[i*3+1]? =some b
 |0,i,h=>by omega
 |n+1,0,h=>⟨rfl,rfl⟩
 |n+1,i+1,h=>by
  have:=y03 a b c r n i (by omega)
  have e1:(i+1)*3=i*3+1+1+1:=by omega
  rw[e1]
  exact this
theorem gr6(a b c:Value): ∀n:Nat,(rep [a,b,c] n).length=n*3
 |0=>rfl
 |n+1=>by rw[rep,j82,gr6 a b c n];simp;omega
theorem z_eq:bu3=rep [.int .u32 0, .int .i32 0, .int .u32 0] 65++List.replicate 65 (.pointer none):=by kernel_rfl
theorem no1(n:Nat)(hn:n<65):bu3[n*3]? =some (.int .u32 0)∧bu3[n*3+1]? =some (.int .i32 0)∧bu3.length=260:=by
 rw[z_eq]
 obtain⟨h1,h2⟩:=y03 (.int .u32 0) (.int .i32 0) (.int .u32 0) (List.replicate 65 (.pointer none)) 65 n hn
 exact⟨h1,h2,by rw[j82,gr6,jv4]⟩
theorem ye6{h:H}{o off:Nat}{l:List Value}{e u:Nat}{v:Value}(hr:h.row o=some ⟨l,e,u,true⟩)(hv:l[off]? =some v):h.ld1 o off=some v:=s20 hr hv
theorem yr0(q:Int)(hq:2≤q∧q≤64)(h2:H)(B S:Nat)(hBS:B≠S)(hB:h2.row B=some ⟨[.int .i64 q],3,0,true⟩)(hS:h2.row S=some ⟨bu3,85,0,true⟩):
 ∃h3:H,h3=h2.set S (.row ⟨bu3.set (q.toNat*3+1) (.int .i32 1),85,0,true⟩)∧ ∀(h4:H) (x:Option Addr),h3<+:h4→call T 47 [.int .i64 q] h3=some (.pointer x,h4)→
  ∃(h7:H) (Z:List Value),call T 45 [.pointer (some ⟨S,q.toNat*3,none⟩), .func (.func 46) #[] #[.pointer (some ⟨B,0,none⟩), .pointer (some ⟨S,0,none⟩)]] h2=some (.tuple #[],h7)∧
   h7.length=h4.length∧(∀o,o≠S→h7[o]? =h4[o]?)∧h7.row S=some ⟨Z,85,0,true⟩∧Z[195+q.toNat]? =some (.pointer x):=by
 obtain⟨z0,z1,zl⟩:=no1 q.toNat (by omega)
 generalize hz:bu3=z at*
 clear hz
 refine⟨_,rfl,fun h4 x p4 eb=> ?_⟩
 have l0:=ye6 hS z0
 have l1:=ye6 hS z1
 have s1:=ym3 (off:=q.toNat*3+1) (v:= .int .i32 1) hS (by omega) rfl
 obtain⟨h3,eh3⟩: ∃h3:H,h3=h2.set S (.row ⟨z.set (q.toNat*3+1) (.int .i32 1),85,0,true⟩):=⟨_,rfl⟩
 rw[←eh3]at s1 eb p4
 have hSl:=h42 hS
 have r3S:h3.row S=some ⟨z.set (q.toNat*3+1) (.int .i32 1),85,0,true⟩:=by rw[eh3];exact tr3 hSl
 have r3B:h3.row B=some ⟨[.int .i64 q],3,0,true⟩:=by rw[eh3,jl1 (fun e=>hBS e.symm)];exact hB
 have b3:h3.ld1 B 0=some (.int .i64 q):=ye6 r3B rfl
 have s2:=ym3 (off:=195+q.toNat) (v:= .pointer x) (cp5 r3S p4) (by simp;omega) rfl
 obtain⟨z2,hz2⟩: ∃z2,z2=(z.set (q.toNat*3+1) (.int .i32 1)).set (195+q.toNat) (.pointer x):=⟨_,rfl⟩
 rw[←hz2]at s2
 have z2l:z2.length=260:=by rw[hz2];simp[zl]
 obtain⟨h5,eh5⟩: ∃h5:H,h5=h4.set S (.row ⟨z2,85,0,true⟩):=⟨_,rfl⟩
 rw[←eh5]at s2
 have r5S:h5.row S=some ⟨z2,85,0,true⟩:=by rw[eh5];exact tr3 (h42 (cp5 r3S p4))
 have z20:z2[q.toNat*3]? =some (.int .u32 0):=by
  rw[hz2,b17 (by omega),b17 (by omega)];exact z0
 have z21:z2[q.toNat*3+1]? =some (.int .i32 1):=by
  rw[hz2,b17 (by omega),j13 (by omega)]
 have z2x:z2[195+q.toNat]? =some (.pointer x):=by
  rw[hz2,j13 (by simp;omega)]
 have l50:=ye6 r5S z20
 have l51:=ye6 r5S z21
 have s3:=ym3 (off:=q.toNat*3) (v:= .int .u32 1) r5S (by omega) rfl
 obtain⟨h6,eh6⟩: ∃h6:H,h6=h5.set S (.row ⟨z2.set (q.toNat*3) (.int .u32 1),85,0,true⟩):=⟨_,rfl⟩
 rw[←eh6]at s3
 have r6S:h6.row S=some ⟨z2.set (q.toNat*3) (.int .u32 1),85,0,true⟩:=by rw[eh6];exact tr3 (h42 r5S)
 have s4:=ym3 (off:=q.toNat*3+1) (v:= .int .i32 0) r6S (by simp;omega) rfl
 obtain⟨h7,eh7⟩: ∃h7:H,h7=h6.set S (.row ⟨(z2.set (q.toNat*3) (.int .u32 1)).set (q.toNat*3+1) (.int .i32 0),85,0,true⟩):=⟨_,rfl⟩
 rw[←eh7]at s4
 have hi1:0≤q∧q<((65:Nat):Int):=by omega
 have hi2:0≤q∧q<65:=by omega
 --the closure
 have ec:call T 46 [.pointer (some ⟨B,0,none⟩), .pointer (some ⟨S,0,none⟩)] h3=some (.tuple #[],h5):=by
  rw[wn8 T46 rfl]
  unfold F46 c46
  simp(disch:=first|omega|(simp only[rl9,wi2,q89]<;>omega)|fail) only[push_cast,seval,b3,eb,zy7 p4,hi2,s2]
 refine⟨h7,_, ?_,by rw[eh7,eh6,eh5];simp,fun o ho=> ?_,by rw[eh7];exact tr3 (h42 r6S), ?_⟩
 ·rw[wn8 T45 rfl]
  unfold FDo cDo
  simp(disch:=first|omega|(simp only[rl9,wi2,q89]<;>omega)|fail) only[push_cast,seval,l0,l1,s1,ec,l50,l51,s3,s4]
 ·rw[eh7,sg3 (fun e=>ho e.symm),eh6,sg3 (fun e=>ho e.symm),eh5,sg3 (fun e=>ho e.symm)]
 ·rw[b17 (by omega),b17 (by omega)];exact z2x
theorem e84(q:Int)(hn:fldN q.toNat=none)(h:H): ∃h':H,h<+:h'∧call T 29 [.int .i64 q] h=some (.tuple #[.pointer none, .int .i64 1],h'):=by
 obtain⟨h1,eh1⟩: ∃h1:H,h1=h++[.row ⟨[.int .i64 q],3,0,true⟩]:=⟨_,rfl⟩
 have r1:h1.row h.length=some ⟨[.int .i64 q],3,0,true⟩:=by rw[eh1];exact cv8
 have p1:h<+:h1:=by rw[eh1];exact w63 _ _
 have b1:=ye6 (off:=0) (v:= .int .i64 q) r1 rfl
 by_cases hq1:q<2
 ·refine⟨h1,p1, ?_⟩
  rw[wn8 T29 rfl]
  unfold F29 c29
  simp(disch:=first|omega|(simp only[rl9,wi2,q89]<;>omega)|fail) only[push_cast,seval,←eh1,b1,dec_lt hq1]
 by_cases hq2:64<q
 ·refine⟨h1,p1, ?_⟩
  rw[wn8 T29 rfl]
  unfold F29 c29
  simp(disch:=first|omega|(simp only[rl9,wi2,q89]<;>omega)|fail) only[push_cast,seval,←eh1,b1,cw6 (vk3.1 hq1),dec_lt hq2]
 have hq:2≤q∧q≤64:=by omega
 obtain⟨h2,eh2⟩: ∃h2:H,h2=h1++[.row ⟨bu3,85,0,true⟩]:=⟨_,rfl⟩
 have p2:h1<+:h2:=by rw[eh2];exact w63 _ _
 have r2:h2.row h1.length=some ⟨bu3,85,0,true⟩:=by rw[eh2];exact cv8
 have l1:h1.length=h.length+1:=by rw[eh1];simp
 obtain⟨h3,eh3,hrun⟩:=yr0 q hq h2 h.length h1.length (by omega) (cp5 r1 p2) r2
 obtain⟨h7,Z,ed,len7,k7,r7,z7⟩:=hrun h3 none (je0 _) (w69 q hq hn h3)
 have k7': ∀o,o<h1.length→h7[o]? =h1[o]? :=fun o ho=>by rw[k7 o (by omega),eh3,sg3 (by omega)];exact ym2 p2 ho
 have b2:=ix6 b1 p2
 have b7:h7.ld1 h.length 0=some (.int .i64 q):=ye6 (by rw[cp7 (k7' h.length (by omega))];exact r1) rfl
 have b7z:=ye6 r7 z7
 have hi2:0≤q∧q<65:=by omega
 have hl7:h1.length≤h7.length:=by rw[len7,eh3];simp;exact bt8 p2
 refine⟨h7,p1.trans (w09 hl7 k7'), ?_⟩
 rw[wn8 T29 rfl]
 unfold F29 c29
 simp(disch:=first|omega|(simp only[rl9,wi2,q89]<;>omega)|fail) only[push_cast,seval,←eh1,b1,cw6,←eh2,b2,hi2,ed,b7,b7z]
theorem e24(q:Int){p g:Int}{m:Nat}{mod:List Int}(hn:fldN q.toNat=some (p,m,g,mod))(h:H): ∃(h':H) (F:Nat),h<+:h'∧h.length≤F∧PFld h' F q p m g mod∧
 call T 29 [.int .i64 q] h=some (.tuple #[.pointer (some ⟨F,0,none⟩), .int .i64 0],h'):=by
 obtain⟨hq2,hq64⟩:=ug0 hn
 have hq:2≤q∧q≤64:=by omega
 obtain⟨h1,eh1⟩: ∃h1:H,h1=h++[.row ⟨[.int .i64 q],3,0,true⟩]:=⟨_,rfl⟩
 have r1:h1.row h.length=some ⟨[.int .i64 q],3,0,true⟩:=by rw[eh1];exact cv8
 have p1:h<+:h1:=by rw[eh1];exact w63 _ _
 have b1:=ye6 (off:=0) (v:= .int .i64 q) r1 rfl
 obtain⟨h2,eh2⟩: ∃h2:H,h2=h1++[.row ⟨bu3,85,0,true⟩]:=⟨_,rfl⟩
 have p2:h1<+:h2:=by rw[eh2];exact w63 _ _
 have r2:h2.row h1.length=some ⟨bu3,85,0,true⟩:=by rw[eh2];exact cv8
 have l1:h1.length=h.length+1:=by rw[eh1];simp
 obtain⟨h3,eh3,hrun⟩:=yr0 q hq h2 h.length h1.length (by omega) (cp5 r1 p2) r2
 obtain⟨h4,F,p4,hFl,hPF,eb⟩:=ak2 q hn h3
 obtain⟨h7,Z,ed,len7,k7,r7,z7⟩:=hrun h4 (some ⟨F,0,none⟩) p4 eb
 have l2:h2.length=h.length+2:=by rw[eh2];simp[l1]
 have l3:h3.length=h.length+2:=by rw[eh3];simp[l2]
 have k7': ∀o,o<h1.length→h7[o]? =h1[o]? :=fun o ho=>by
  rw[k7 o (by omega),ym2 p4 (by omega),eh3,sg3 (by omega)];exact ym2 p2 ho
 have b2:=ix6 b1 p2
 have b7:h7.ld1 h.length 0=some (.int .i64 q):=ye6 (by rw[cp7 (k7' h.length (by omega))];exact r1) rfl
 have b7z:=ye6 r7 z7
 have hi2:0≤q∧q<65:=by omega
 have hl7:h1.length≤h7.length:=by have:=bt8 p4;omega
 refine⟨h7,F,p1.trans (w09 hl7 k7'),by omega,hPF.keep (fun o ho hl=>cp7 (k7 o (by omega))), ?_⟩
 rw[wn8 T29 rfl]
 unfold F29 c29
 simp(disch:=first|omega|(simp only[rl9,wi2,q89]<;>omega)|fail) only[push_cast,seval,←eh1,b1,cw6,←eh2,b2,hi2,ed,b7,b7z]
def fE:Nat→Nat
 |2=>1
 |3=>129
 |4=>12417
 |5=>802945
 |7=>5437399233
 |8=>351215042689
 |9=>17942261559489
 |11=>108962231611310209
 |13=>528130703586913960065
 |16=>178086203705216420255121537
 |17=>7469972054853685843465900225
 |19=>51117137118817732502590154883201
 |23=>1207086427916563790381117712048146882881
 |25=>4296679298253731530926350344465262988325185
 |27=>27683632007463149621854882158786133120173510849
 |29=>89715812243899246029419422853925757204734979096705
 |31=>505605221232691293432177678203438885605117352412483777
 |32=>27808724541577916742700289517998963655941875844624957569
 |37=>31990165230988380045508509409514329167903399549472002670636056705
 |41=>196803355916697640844645143911777462269678895904315453181343275630346625
 |43=>3321900807795576089098097549222868942314588541243702741999572762779355746497
 |47=>37014835288415908718419972056108441944857760468399085769595186018324491242840101185
 |49=>128530077453093768876085316672720063505956351673680030674482110111078127274219255030209
 |53=>3602121195588004432410006517885224262510220814523301142795360849256216185153407993945964691585
 |59=>270951711388824705647634718687622551811723107360332763645300551177870649566628900357333032853137826791553
 |61=>1164162530822367343872202323236078872099065783920682470882800940302953240449962669651654715119434672229073025
 |64=>324948975432320371080866489111452917039159851672880359415289456819899054707732937472241880484391502374330200768641
 |_=>0
def fL:Nat→Nat
 |2=>0
 |3=>4096
 |4=>528384
 |5=>34344960
 |7=>211594518528
 |8=>22271587258368
 |9=>853571180707840
 |11=>5873569748152750080
 |13=>28862381954672620474368
 |16=>15072009285927600738305839104
 |17=>641428296504441872472814706688
 |19=>2971703673908048670609566042689536
 |23=>61002575878740797758556052345228196061184
 |25=>112218846857214744237616359444941385037799424
 |27=>1770301908688390524519687444532503270070340079616
 |29=>5327470521109204196063143671878030373354884279046144
 |31=>23208944618439905287274454518441023752193352319812075520
 |32=>1508315803883406269205986702105420928032254965126544232448
 |37=>1927099591673215374311082307204349858495420952548674591831439708160
 |41=>35517896703273586666149877416896236316072493915779626231776876054160711680
 |43=>152695369836916395283030424145595212849165003026280530570040278169659573121024
 |47=>2871650009675154084637761202718277526292298413880696712693369280921573131467963310080
 |49=>3753548570383623801084175760024803199156836227648943951560852271794289555882576632152064
 |53=>220544676043655077866277337447867632841115249763151128083848210675118928441550703987060033982464
 |59=>16899643013032953793008289850397817256633102912925032377747267387615061072757643228449870777890379802349568
 |61=>71614788332382989993668620795082232958302001517929830336684845480626721184788401132204757971703161274437734400
 |64=>36265302912251042761276606936058182247505748789568104052998051136038197467810438868035313606317156396572587524100096
 |_=>0
def fexp(q i:Int):Int:=((fE q.toNat>>>(6*i.toNat))%64:Nat)
def flog(q a:Int):Int:=bif a==0 then-1 else((fL q.toNat>>>(6*a.toNat))%64:Nat)
def ua8(n:Nat):Bool:=match fldN n with
 |none=>true
 |some (p,m,g,mod)=>decide (tabs n=((List.range (n-1)).map fun i:Nat=>fexp n i,(List.range n).map fun a:Nat=>flog n a))&&
  ((List.range (n-1)).all fun i=>decide (1≤fexp n i)&&decide (fexp n i<n)&&decide (flog n (fexp n i)=i))&&
  ((List.range (n-1)).all fun a=>decide (0≤flog n (a+1:Nat))&&decide (flog n (a+1:Nat)<n-1)&&decide (fexp n (flog n (a+1:Nat))=(a+1:Nat)))&&decide (flog n g=1%((n:Int)-1))&&decide (fexp n 0=1)
theorem fe1:((List.range 63).all fun n=>ua8 (n+2))=true:=by kernel_rfl
structure Tabs (q g:Int):Prop where
 tab:tabs q.toNat=((List.range (q-1).toNat).map fun i:Nat=>fexp q i,(List.range q.toNat).map fun a:Nat=>flog q a)
 er: ∀i,0≤i→i<q-1→1≤fexp q i∧fexp q i<q∧flog q (fexp q i)=i
 lr: ∀a,1≤a→a<q→0≤flog q a∧flog q a<q-1∧fexp q (flog q a)=a
 lg:flog q g=1%(q-1)
 e0:fexp q 0=1
theorem cb4{q p g:Int}{m:Nat}{mod:List Int}(hn:fldN q.toNat=some (p,m,g,mod)):Tabs q g:=by
 obtain⟨h2,h64⟩:=ug0 hn
 have h:=p92.1 fe1 (q.toNat-2) (l16.2 (by omega))
 rw[show q.toNat-2+2=q.toNat by omega]at h
 unfold ua8 at h
 rw[hn]at h
 simp only[b83,jn8,p92,l16]at h
 rw[show((q.toNat:Nat):Int)=q by omega]at h
 obtain⟨⟨⟨⟨h1,h2⟩,h3⟩,h4⟩,h5⟩:=h
 refine⟨by rw[h1,show q.toNat-1=(q-1).toNat by omega],fun i h0 hi=> ?_,fun a h0 ha=> ?_,h4,h5⟩
 ·have:=h2 i.toNat (by omega)
  rw[show((i.toNat:Nat):Int)=i by omega]at this
  exact⟨this.1.1,this.1.2,this.2⟩
 ·have:=h3 (a.toNat-1) (by omega)
  rw[show((a.toNat-1+1:Nat):Int)=a by omega]at this
  exact⟨this.1.1,this.1.2,this.2⟩
def fok(q a:Int):Bool:=decide (0≤a)&&decide (a<q)
def addN(p:Int):Nat→Int→Int→Int
 |0,_,_=>0
 |n+1,a,b=>(a%p+b%p)%p+p*addN p n (a/p) (b/p)
def negN(p:Int):Nat→Int→Int
 |0,_=>0
 |n+1,a=>(p-a%p)%p+p*negN p n (a/p)
def fch(q:Int):Int:=match fldN q.toNat with
 |some (p,_,_,_)=>p
 |none=>0
def fdg(q:Int):Nat:=match fldN q.toNat with
 |some (_,m,_,_)=>m
 |none=>0
def fadd(q a b:Int):Int:=bif fok q a&&fok q b then addN (fch q) (fdg q) a b else-1
def fneg(q a:Int):Int:=bif fok q a then negN (fch q) (fdg q) a else-1
def fsub(q a b:Int):Int:=fadd q a (fneg q b)
def fmul(q a b:Int):Int:=bif fok q a&&fok q b then bif (a==0)||(b==0)then 0 else fexp q ((flog q a+flog q b)%(q-1))else-1
def finv(q a:Int):Int:=bif fok q a&& !(a==0)then fexp q ((q-1-flog q a)%(q-1))else-1
structure PUse (h:H) (F:Nat) (q p:Int) (m:Nat) (g:Int) (mod:List Int) (E L om fm cm:Nat):Prop where
 q2:2≤q
 q64:q≤64
 f0:h.ld1 F 0=some (.int .i64 q)
 f1:h.ld1 F 1=some (.int .i64 p)
 f2:h.ld1 F 2=some (.int .i64 m)
 f3:h.ld1 F 3=some (.slice (some ⟨om,fm,none⟩) mod.length cm)
 f4:h.ld1 F 4=some (.int .i64 g)
 f5:h.ld1 F 5=some (.slice (some ⟨E,0,none⟩) (q-1).toNat (q-1).toNat)
 f6:h.ld1 F 6=some (.slice (some ⟨L,0,none⟩) q.toNat q.toNat)
 le: ∀i,0≤i→i<q-1→h.ld1 E i.toNat=some (.int .i64 (fexp q i))
 ll: ∀a,0≤a→a<q→h.ld1 L a.toNat=some (.int .i64 (flog q a))
 rm:RdI h (some ⟨om,fm,none⟩) cm mod
theorem gc0{q a:Int}:fok q a=true↔0≤a∧a<q:=by unfold fok;simp
theorem iy2{q a:Int}(h:0≤a∧a<q):fok q a=true:=gc0.2 h
theorem pj4(q a:Int):(fok q a=true∧0≤a∧a<q)∨fok q a=false:=by
 cases hx:fok q a with
 |false=>exact .inr rfl
 |true=>exact .inl ⟨rfl,gc0.1 hx⟩
section
variable {h:H} {F:Nat} {q p:Int} {m:Nat} {g:Int} {mod:List Int} {E L om fm cm:Nat}
theorem qy4(u:PUse h F q p m g mod E L om fm cm)(a:Int):call T 32 [.pointer (some ⟨F,0,none⟩), .int .i64 a] h=some (.bool (fok q a),h):=by
 have f0:=u.f0
 rw[wn8 T32 rfl]
 unfold F32 c32 fok
 by_cases h0:0≤a
 ·simp(disch:=first|omega|(simp only[rl9,wi2,q89]<;>omega)|fail) only[push_cast,seval,nl3 h0,f0]
 ·simp(disch:=first|omega|(simp only[rl9,wi2,q89]<;>omega)|fail) only[push_cast,seval,qc6 (Int.lt_of_not_ge h0)]
theorem lb9(hn:fldN q.toNat=some (p,m,g,mod))(u:PUse h F q p m g mod E L om fm cm)(a b:Int):call T 50 [.pointer (some ⟨F,0,none⟩), .int .i64 a, .int .i64 b] h=some (.int .i64 (fmul q a b),h):=by
 have f0:=u.f0
 have f5:=u.f5
 have f6:=u.f6
 have q2:=u.q2
 have q64:=u.q64
 have eh:=qy4 u a
 have ehb:=qy4 u b
 rw[wn8 T50 rfl,fmul]
 unfold F50 c50
 rcases pj4 q a with⟨ho,h0,h1⟩|ho
 rotate_left
 ·rw[ho]at eh⊢
  simp(disch:=first|omega|(simp only[rl9,wi2,q89]<;>omega)|fail) only[push_cast,seval,eh]
 rw[ho]at eh⊢
 rcases pj4 q b with⟨hob,h0b,h1b⟩|hob
 rotate_left
 ·rw[hob]at ehb⊢
  simp(disch:=first|omega|(simp only[rl9,wi2,q89]<;>omega)|fail) only[push_cast,seval,eh,ehb]
 rw[hob]at ehb⊢
 by_cases ha:a=0
 ·rw[show(a==0)=true by simpa using ha]
  simp(disch:=first|omega|(simp only[rl9,wi2,q89]<;>omega)|fail) only[push_cast,seval,eh,ehb,mr8 ha]
 rw[show(a==0)=false by simpa using ha]
 by_cases hb:b=0
 ·rw[show(b==0)=true by simpa using hb]
  simp(disch:=first|omega|(simp only[rl9,wi2,q89]<;>omega)|fail) only[push_cast,seval,eh,ehb,nb8 ha,mr8 hb]
 rw[show(b==0)=false by simpa using hb]
 have e1:=u.ll a h0 h1
 have e2:=u.ll b h0b h1b
 have t:=cb4 hn
 have l1:=t.lr a (by omega) h1
 have l2:=t.lr b (by omega) h1b
 obtain⟨k,hk⟩: ∃k,k=(flog q a+flog q b)%(q-1):=⟨_,rfl⟩
 have hk0:0≤k:=by rw[hk];exact fc1 _ (by omega)
 have hk1:k<q-1:=by rw[hk];exact do0 _ (by omega)
 have e3:=u.le k hk0 hk1
 have q1:(flog q a+flog q b).tmod (q-1)=k:=by rw[hk];exact dl5 (by omega)
 have hi1:0≤a∧a<((q.toNat:Nat):Int):=by omega
 have hi2:a<max q 0:=by omega
 have hi1b:0≤b∧b<((q.toNat:Nat):Int):=by omega
 have hi2b:b<max q 0:=by omega
 have hi3:0≤k∧k<(((q-1).toNat:Nat):Int):=by omega
 have hi4:k<max (q-1) 0:=by omega
 have hq0: ¬q-1=0:=by omega
 rw[←hk]
 simp(disch:=first|omega|(simp only[rl9,wi2,q89]<;>omega)|fail) only[push_cast,seval,eh,ehb,nb8 ha,nb8 hb,f0,f5,f6,hi1,hi2,hi1b,hi2b,e1,e2,wrap64,hq0,q1,hi3,hi4,e3]
theorem im8(hn:fldN q.toNat=some (p,m,g,mod))(u:PUse h F q p m g mod E L om fm cm)(a:Int):call T 63 [.pointer (some ⟨F,0,none⟩), .int .i64 a] h=some (.int .i64 (finv q a),h):=by
 have f0:=u.f0
 have f5:=u.f5
 have f6:=u.f6
 have q2:=u.q2
 have q64:=u.q64
 have eh:=qy4 u a
 rw[wn8 T63 rfl,finv]
 unfold F63 c63
 rcases pj4 q a with⟨ho,h0,h1⟩|ho
 rotate_left
 ·rw[ho]at eh⊢
  simp(disch:=first|omega|(simp only[rl9,wi2,q89]<;>omega)|fail) only[push_cast,seval,eh]
 rw[ho]at eh⊢
 by_cases ha:a=0
 ·rw[show(a==0)=true by simpa using ha]
  simp(disch:=first|omega|(simp only[rl9,wi2,q89]<;>omega)|fail) only[push_cast,seval,eh,mr8 ha]
 rw[show(a==0)=false by simpa using ha]
 have e1:=u.ll a h0 h1
 have t:=cb4 hn
 have l1:=t.lr a (by omega) h1
 obtain⟨k,hk⟩: ∃k,k=(q-1-flog q a)%(q-1):=⟨_,rfl⟩
 have hk0:0≤k:=by rw[hk];exact fc1 _ (by omega)
 have hk1:k<q-1:=by rw[hk];exact do0 _ (by omega)
 have e3:=u.le k hk0 hk1
 have q1:(q-1-flog q a).tmod (q-1)=k:=by rw[hk];exact dl5 (by omega)
 have hi1:0≤a∧a<((q.toNat:Nat):Int):=by omega
 have hi2:a<max q 0:=by omega
 have hi3:0≤k∧k<(((q-1).toNat:Nat):Int):=by omega
 have hi4:k<max (q-1) 0:=by omega
 have hq0: ¬q-1=0:=by omega
 rw[←hk]
 simp(disch:=first|omega|(simp only[rl9,wi2,q89]<;>omega)|fail) only[push_cast,seval,eh,nb8 ha,f0,f5,f6,hi1,hi2,e1,wrap64,hq0,q1,hi3,hi4,e3]
end
theorem y65{q p g:Int}{m:Nat}{mod:List Int}(hn:fldN q.toNat=some (p,m,g,mod)):fch q=p∧fdg q=m:=by
 unfold fch fdg;rw[hn];exact⟨rfl,rfl⟩
section
variable {h:H} {F:Nat} {q p:Int} {m:Nat} {g:Int} {mod:List Int} {E L om fm cm:Nat}
theorem kq3{p:Int}(hp:0<p): ∀(n:Nat) (a b:Int),0≤addN p n a b∧addN p n a b<p^n
 |0,a,b=>by simp[addN]
 |n+1,a,b=>by
  have h1:=kq3 hp n (a/p) (b/p)
  have h2:=fc1 (a%p+b%p) (show p≠0 by omega)
  have h3:=do0 (a%p+b%p) hp
  have h4:0≤p*addN p n (a/p) (b/p):=qc0 (by omega) h1.1
  have h5:p*(addN p n (a/p) (b/p)+1)≤p*p^n:=hs0 (by omega) (by omega)
  rw[addN,pi7,pc1 (p^n) p]
  rw[Int.mul_add,Int.mul_one]at h5
  omega
theorem ul1{p:Int}(hp:0<p): ∀(n:Nat) (a:Int),0≤negN p n a∧negN p n a<p^n
 |0,a=>by simp[negN]
 |n+1,a=>by
  have h1:=ul1 hp n (a/p)
  have h2:=fc1 (p-a%p) (show p≠0 by omega)
  have h3:=do0 (p-a%p) hp
  have h4:0≤p*negN p n (a/p):=qc0 (by omega) h1.1
  have h5:p*(negN p n (a/p)+1)≤p*p^n:=hs0 (by omega) (by omega)
  rw[negN,pi7,pc1 (p^n) p]
  rw[Int.mul_add,Int.mul_one]at h5
  omega
theorem bv8(u:PUse h F q p m g mod E L om fm cm)(hf:FOk q p m mod): ∀(n:Nat) (a b s w i:Int),i+n=m→0≤i→0≤a→a≤64→0≤b→b≤64→0≤s→s+4096*n≤100000→1≤w→w*p^n≤64→
 ∀ks,goL T [.tmp 6] [0,1,2,7,8,22,23] c49L0 (.blk 0 [7]::ks) [(0, .pointer (some ⟨F,0,none⟩)),(1, .int .i64 a),(2, .int .i64 b),(7, .int .i64 s),(8, .int .i64 w),(22, .int .i64 m),(23, .int .i64 i)] h=
  go T [.tmp 6] ks (Fr.of [(7, .int .i64 (s+w*addN p n a b))]) h
 |0,a,b,s,w,i,hi,hi0,ha,ha2,hb,hb2,hs,hs2,hw,hw2=>fun ks=>by
  rw[ur1 c49L0.eq_def]
  simp(disch:=first|omega|(simp only[rl9,wi2,q89]<;>omega)|fail) only[push_cast,seval,cw6,addN,Int.mul_zero,Int.add_zero]
 |n+1,a,b,s,w,i,hi,hi0,ha,ha2,hb,hb2,hs,hs2,hw,hw2=>fun ks=>by
  have f1:=u.f1
  have hp:=hf.p2
  have hp64:=hf.p64
  have hm:=hf.m10
  have hp0: ¬p=0:=by omega
  have a1:=fc1 a hp0
  have a2:=do0 a (show 0<p by omega)
  have b1:=fc1 b hp0
  have b2:=do0 b (show 0<p by omega)
  have a3:0≤a/p:=Int.ediv_nonneg ha (by omega)
  have a4:a/p≤a:=Int.ediv_le_self _ ha
  have b3:0≤b/p:=Int.ediv_nonneg hb (by omega)
  have b4:b/p≤b:=Int.ediv_le_self _ hb
  obtain⟨d,hd⟩: ∃d,d=(a%p+b%p)%p:=⟨_,rfl⟩
  have d1:0≤d:=by rw[hd];exact fc1 _ hp0
  have d2:d<p:=by rw[hd];exact do0 _ (by omega)
  have q1:a.tmod p=a%p:=dl5 ha
  have q2:b.tmod p=b%p:=dl5 hb
  have q3:(a%p+b%p).tmod p=d:=by rw[hd];exact dl5 (by omega)
  have q4:a.tdiv p=a/p:=zj0 ha
  have q5:b.tdiv p=b/p:=zj0 hb
  have hpn:1≤p^n:=by have:=tv0 (p:=p) (by omega) (ms7 n);simpa using this
  have w1:w*p*p^n≤64:=by rw[pi7]at hw2;rw[Int.mul_assoc,pc1 p];exact hw2
  have hwp:0≤w*p:=qc0 (by omega) (by omega)
  have w2:w*p*1≤w*p*p^n:=hs0 hpn hwp
  have w3:1*1≤w*p:=ij6 hw (by omega) (by omega) (by omega)
  have w4:w*1≤w*p:=hs0 (by omega) (by omega)
  have dw:d*w≤64*64:=ij6 (by omega) (by omega) (by omega) (by omega)
  have dw0:0≤d*w:=qc0 d1 (by omega)
  have e1:s+w*addN p (n+1) a b=s+d*w+w*p*addN p n (a/p) (b/p):=by
   rw[addN,←hd,Int.mul_add,pc1 w d,Int.mul_assoc];omega
  have ih:=bv8 u hf n (a/p) (b/p) (s+d*w) (w*p) (i+1) (by omega) (by omega) a3 (by omega) b3 (by omega) (by omega) (by omega) (by omega) w1 ks
  rw[e1,←ih,ur1 c49L0.eq_def]
  simp(disch:=first|omega|(simp only[rl9,wi2,q89]<;>omega)|fail) only[push_cast,seval,dec_lt,f1,hp0,q1,q2,q3,q4,q5,wrap64]
theorem gl5(hn:fldN q.toNat=some (p,m,g,mod))(u:PUse h F q p m g mod E L om fm cm)(hf:FOk q p m mod)(a b:Int):call T 49 [.pointer (some ⟨F,0,none⟩), .int .i64 a, .int .i64 b] h=some (.int .i64 (fadd q a b),h):=by
 have f2:=u.f2
 have q64:=u.q64
 have hm:=hf.m10
 have eh:=qy4 u a
 have ehb:=qy4 u b
 obtain⟨hc,hd⟩:=y65 hn
 rw[wn8 T49 rfl,fadd,hc,hd]
 unfold F49 c49
 rcases pj4 q a with⟨ho,h0,h1⟩|ho
 rotate_left
 ·rw[ho]at eh⊢
  simp(disch:=first|omega|(simp only[rl9,wi2,q89]<;>omega)|fail) only[push_cast,seval,eh]
 rw[ho]at eh⊢
 rcases pj4 q b with⟨hob,h0b,h1b⟩|hob
 rotate_left
 ·rw[hob]at ehb⊢
  simp(disch:=first|omega|(simp only[rl9,wi2,q89]<;>omega)|fail) only[push_cast,seval,eh,ehb]
 rw[hob]at ehb⊢
 have lo:=bv8 u hf m a b 0 1 0 (by omega) (by omega) h0 (by omega) h0b (by omega) (by omega) (by omega) (by omega) (by rw[Int.one_mul,hf.pm];exact q64)
 rw[Int.zero_add,Int.one_mul]at lo
 simp(disch:=first|omega|(simp only[rl9,wi2,q89]<;>omega)|fail) only[push_cast,seval,eh,ehb,f2]
 rw[lo]
 simp(disch:=first|omega|(simp only[rl9,wi2,q89]<;>omega)|fail) only[push_cast,seval]
theorem eb0(u:PUse h F q p m g mod E L om fm cm)(hf:FOk q p m mod): ∀(n:Nat) (a s w i:Int),i+n=m→0≤i→0≤a→a≤64→0≤s→s+4096*n≤100000→1≤w→w*p^n≤64→
 ∀ks,goL T [.tmp 4] [0,1,5,6,14,15] c42L0 (.blk 0 [5]::ks) [(0, .pointer (some ⟨F,0,none⟩)),(1, .int .i64 a),(5, .int .i64 s),(6, .int .i64 w),(14, .int .i64 m),(15, .int .i64 i)] h=
  go T [.tmp 4] ks (Fr.of [(5, .int .i64 (s+w*negN p n a))]) h
 |0,a,s,w,i,hi,hi0,ha,ha2,hs,hs2,hw,hw2=>fun ks=>by
  rw[ur1 c42L0.eq_def]
  simp(disch:=first|omega|(simp only[rl9,wi2,q89]<;>omega)|fail) only[push_cast,seval,cw6,negN,Int.mul_zero,Int.add_zero]
 |n+1,a,s,w,i,hi,hi0,ha,ha2,hs,hs2,hw,hw2=>fun ks=>by
  have f1:=u.f1
  have hp:=hf.p2
  have hp64:=hf.p64
  have hm:=hf.m10
  have hp0: ¬p=0:=by omega
  have a1:=fc1 a hp0
  have a2:=do0 a (show 0<p by omega)
  have a3:0≤a/p:=Int.ediv_nonneg ha (by omega)
  have a4:a/p≤a:=Int.ediv_le_self _ ha
  obtain⟨d,hd⟩: ∃d,d=(p-a%p)%p:=⟨_,rfl⟩
  have d1:0≤d:=by rw[hd];exact fc1 _ hp0
  have d2:d<p:=by rw[hd];exact do0 _ (by omega)
  have q1:a.tmod p=a%p:=dl5 ha
  have q3:(p-a%p).tmod p=d:=by rw[hd];exact dl5 (by omega)
  have q4:a.tdiv p=a/p:=zj0 ha
  have hpn:1≤p^n:=by have:=tv0 (p:=p) (by omega) (ms7 n);simpa using this
  have w1:w*p*p^n≤64:=by rw[pi7]at hw2;rw[Int.mul_assoc,pc1 p];exact hw2
  have hwp:0≤w*p:=qc0 (by omega) (by omega)
  have w2:w*p*1≤w*p*p^n:=hs0 hpn hwp
  have w3:1*1≤w*p:=ij6 hw (by omega) (by omega) (by omega)
  have w4:w*1≤w*p:=hs0 (by omega) (by omega)
  have dw:d*w≤64*64:=ij6 (by omega) (by omega) (by omega) (by omega)
  have dw0:0≤d*w:=qc0 d1 (by omega)
  have e1:s+w*negN p (n+1) a=s+d*w+w*p*negN p n (a/p):=by
   rw[negN,←hd,Int.mul_add,pc1 w d,Int.mul_assoc];omega
  have ih:=eb0 u hf n (a/p) (s+d*w) (w*p) (i+1) (by omega) (by omega) a3 (by omega) (by omega) (by omega) (by omega) w1 ks
  rw[e1,←ih,ur1 c42L0.eq_def]
  simp(disch:=first|omega|(simp only[rl9,wi2,q89]<;>omega)|fail) only[push_cast,seval,dec_lt,f1,hp0,q1,q3,q4,wrap64]
theorem kb1(hn:fldN q.toNat=some (p,m,g,mod))(u:PUse h F q p m g mod E L om fm cm)(hf:FOk q p m mod)(a:Int):call T 42 [.pointer (some ⟨F,0,none⟩), .int .i64 a] h=some (.int .i64 (fneg q a),h):=by
 have f2:=u.f2
 have q64:=u.q64
 have hm:=hf.m10
 have eh:=qy4 u a
 obtain⟨hc,hd⟩:=y65 hn
 rw[wn8 T42 rfl,fneg,hc,hd]
 unfold F42 c42
 rcases pj4 q a with⟨ho,h0,h1⟩|ho
 rotate_left
 ·rw[ho]at eh⊢
  simp(disch:=first|omega|(simp only[rl9,wi2,q89]<;>omega)|fail) only[push_cast,seval,eh]
 rw[ho]at eh⊢
 have lo:=eb0 u hf m a 0 1 0 (by omega) (by omega) h0 (by omega) (by omega) (by omega) (by omega) (by rw[Int.one_mul,hf.pm];exact q64)
 rw[Int.zero_add,Int.one_mul]at lo
 simp(disch:=first|omega|(simp only[rl9,wi2,q89]<;>omega)|fail) only[push_cast,seval,eh,f2]
 rw[lo]
 simp(disch:=first|omega|(simp only[rl9,wi2,q89]<;>omega)|fail) only[push_cast,seval]
theorem eb1(hn:fldN q.toNat=some (p,m,g,mod))(u:PUse h F q p m g mod E L om fm cm)(hf:FOk q p m mod)(a b:Int):call T 57 [.pointer (some ⟨F,0,none⟩), .int .i64 a, .int .i64 b] h=some (.int .i64 (fsub q a b),h):=by
 have e1:=kb1 hn u hf b
 have e2:=gl5 hn u hf a (fneg q b)
 rw[wn8 T57 rfl,fsub]
 unfold F57 c57
 simp(disch:=first|omega|(simp only[rl9,wi2,q89]<;>omega)|fail) only[push_cast,seval,e1,e2]
end
section
variable {h:H} {F:Nat} {q p:Int} {m:Nat} {g:Int} {mod:List Int} {E L om fm cm:Nat}
end
section
variable {h:H} {F:Nat} {q p:Int} {m:Nat} {g:Int} {mod:List Int} {E L om fm cm:Nat}
end
end Go.Proofs.Ytppbpgmdmiajcaa
namespace Go.Am
open Go.RowKit (Below)
def RoIn(w:World)(A:Option Addr)(C:Nat)(l:List Int):Prop:=
 (A=none∧l=[]∧C=0)∨ ∃a,A=some a∧l.length≤C∧(C=0∨(a.spot=none∧a.block<w.heap.size∧ ∃Z:List Int,Z.length=C∧l=Z.take l.length∧ ∀c,c<C→w.cell? (a.add c)=some (.int .i64 (Z.getD c 0))))
def RoL(w:World)(a:Option Addr)(len cap:Nat)(ll:List (List Int)):Prop:=
 ll.length=len∧((a=none∧len=0∧cap=0)∨ ∃x,a=some x∧x.spot=none∧x.block<w.heap.size∧len≤cap∧ ∀(r:Nat) (l:List Int),ll[r]? =some l→ ∃A C,w.cell? (x.add r)=some (.slice A l.length C)∧RoIn w A C l)
section
variable {φ:Ren} {B:Nat→Prop} {h:H} {w:World}
end
end Go.Am
namespace Go.Am
end Go.Am
namespace Go.Am
inductive Tr where
 |v (x:Value)
 |sl (e u:Nat) (cs:List Tr)
 |pt (e:Nat) (cs:List Tr)
section
variable {hF G G':H} {L M:List (Value×Tr)}
end
end Go.Am
namespace Go.Am
def il(zs:List Int):Tr:= .sl 3 1 (zs.map fun z=> .v (.int .i64 z))
section
variable {hF G G':H} {L M:List (Value×Tr)}
end
section
variable {hF G G':H} {L M:List (Value×Tr)}
def ll(e:Nat)(m:List (List Int)):Tr:= .sl e 1 (m.map il)
end
end Go.Am
namespace Go.Am
section
variable {hF G G':H} {L M:List (Value×Tr)}
end
end Go.Am
namespace Go.Am
section
variable {hF G G':H} {L M:List (Value×Tr)}
end
end Go.Am
namespace Go.Proofs.Ytppbpgmdmiajcaa
open Go.Am Go.Vm
def nlT{α:Type}:List α→Nat
 | []=>2
 |_::_=>0
theorem b99{α β:Type}(f:α→β): ∀l:List α,nlT (l.map f)=nlT l
 | []=>rfl
 |_::_=>rfl
section
variable {h:H} {sa:Option Addr} {c:Nat} {l:List Int}
theorem v84(hr:RdI h sa c l)(hl:l.length≤1000000): ∃(s':Option Addr) (c':Nat) (h':H),h<+:h'∧Grown h' s' c' l h.length∧call T 26 [.slice sa l.length c] h=some (.slice s' l.length c',h'):=by
 cases sa with
 |none=>
  have hl0:l=[]∧c=0:=by
   rcases hr with⟨_,h1,h2⟩|⟨_,o,off,r,h1,_⟩
   ·exact⟨h2,h1⟩
   ·cases h1
  obtain⟨rfl,rfl⟩:=hl0
  refine⟨none,0,h,je0 _, .nil, ?_⟩
  rw[wn8 T26 rfl]
  unfold F26 c26
  simp(disch:=first|omega|(simp only[rl9,wi2,q89]<;>omega)|fail) only[push_cast,seval]
 |some x=>
  obtain⟨o,off,rfl⟩: ∃o off,x=⟨o,off,none⟩:=by
   rcases hr with⟨h1,_⟩|⟨_,o,off,r,h1,_⟩
   ·cases h1
   ·cases h1;exact⟨o,off,rfl⟩
  have hs:=(hr.mono (w63 h [.row ⟨[],3,1,true⟩])).src
  have e:aapp 3 1 8 (h++[.row ⟨[],3,1,true⟩]) (.slice (some ⟨h.length,0,none⟩) 0 0) (.slice (some ⟨o,off,none⟩) l.length c)=some (.slice (some ⟨h.length+1,0,none⟩) l.length l.length,kill (h++[.row ⟨[],3,1,true⟩]) h.length++[.row ⟨ints l,3,1,true⟩]):=by
   unfold aapp aput
   simp only[hs,cv8]
   rw[if_pos (by simp[few];omega),rl9,e03]
   rfl
  refine⟨some ⟨h.length+1,0,none⟩,l.length,kill (h++[.row ⟨[],3,1,true⟩]) h.length++[.row ⟨ints l,3,1,true⟩],ym5 (uw3 (w63 _ _) (jj6 _)), .inr ⟨h.length+1,rfl,by omega,rfl,wq4⟩, ?_⟩
  rw[wn8 T26 rfl]
  unfold F26 c26
  simp(disch:=first|omega|(simp only[rl9,wi2,q89]<;>omega)|fail) only[push_cast,seval,e]
end
theorem da9{h:H}{Z:Nat→Prop}: ∀{zs:List Int} {l:List Value},RdL h Z (ivs zs) l→l=ints zs
 | [],l,hr=>by rw[show ivs []=[]from rfl,RdL]at hr;exact hr
 |z::zs,l,hr=>by
  rw[show ivs (z::zs)= .v (.int .i64 z)::ivs zs from rfl,RdL]at hr
  obtain⟨w,l',rfl,h1,h2⟩:=hr
  rw[Rd]at h1
  rw[h1,da9 h2];rfl
theorem nl4{h:H}{Z:Nat→Prop}{nl e:Nat}{zs:List Int}{w:Value}(hr:Rd h Z (.sl nl e 1 (ivs zs)) w): ∃sa c,w= .slice sa zs.length c∧RdI h sa c zs:=by
 rw[Rd]at hr
 rcases hr with⟨h0,_,_,rfl⟩|⟨o,off,n,c,r,rfl,h1,h2,h3,h4,h5,h6,h7,h8⟩
 ·have:zs=[]:=by cases zs with
   |nil=>rfl
   |cons=>cases h0
  subst this
  exact⟨none,0,rfl, .nil⟩
 ·rw[gf1,mp4]at h5
  subst h5
  have h9:=da9 h8
  rw[gf1]at h9
  refine⟨_,c,rfl, .inr ⟨h6,o,off,r,rfl,h2,h3,fun i h0 hi=> ?_⟩⟩
  have h10:=c25 h0 hi
  rw[←h9,td4,if_pos (by omega),s96]at h10
  exact h10
theorem p27: ∀zs:List Int,eraL (zs.map fun z=>AT.v (.int .i64 z))=ivs zs
 | []=>rfl
 |z::zs=>by rw[nf9,eraL,p27 zs,AT.era];rfl
theorem we9: ∀zs:List Int,fpL (zs.map fun z=>AT.v (.int .i64 z))=[]
 | []=>rfl
 |z::zs=>by rw[nf9,fpL,we9 zs,v_fp];rfl
theorem fs7{h:H}{Z:Nat→Prop}: ∀zs:List Int,okL h Z (zs.map fun z=>AT.v (.int .i64 z))
 | []=>by rw[gw5,okL];trivial
 |z::zs=>by rw[nf9,okL,ok];exact⟨trivial,fs7 zs⟩
theorem pr1{h:H}{Z:Nat→Prop}{sa:Option Addr}{c lo:Nat}{zs:List Int}(g:Grown h sa c zs lo): ∃a:AT,a.val= .slice sa zs.length c∧a.era= .sl (nlT zs) 3 1 (ivs zs)∧(a.fp=[]∨ ∃o,a.fp=[o]∧lo≤o∧o<h.length)∧ok h Z a:=by
 rcases g with⟨rfl,rfl,rfl⟩|⟨o,rfl,h1,rfl,h2⟩
 ·exact⟨.nil 2 3 1,rfl,rfl, .inl (uu7 _ _ _),by rw[ok];exact⟨by decide,by decide⟩⟩
 ·refine⟨.sl o 0 zs.length zs.length (nlT zs) 3 1 (zs.map fun z=>AT.v (.int .i64 z)),rfl,by rw[AT.era,p27], .inr ⟨o,by rw[AT.fp,we9],h1,h42 h2⟩, ?_⟩
  rw[ok]
  refine⟨_,h2,rfl,rfl,rfl,by decide,by simp,jj6 _,⟨fun hn=> ?_, ?_⟩, ?_,fs7 zs⟩
  ·cases zs<;>cases hn
  ·simp[ints]
  ·show((ints zs).drop 0).take _=_
   rw[sv4,sp3 (by simp[ints]),uk6]
   rfl
open Classical in
noncomputable def h90:List AV→Rts→Option VRes
 | [.fz b (.sl nl 0 1 cs)],[]=>if∃zs:List Int,cs=ivs zs∧zs.length≤1000000 then some (.own 0 [],[.sl (nlT cs) 3 1 cs],[])else none
 |_,_=>none
theorem ol3{b:Bool}{nl:Nat}{zs:List Int}(hz:zs.length≤1000000):h90 [.fz b (.sl nl 0 1 (ivs zs))] []=some (.own 0 [],[.sl (nlT zs) 3 1 (ivs zs)],[]):=by
 unfold h90
 simp only[]
 rw[if_pos ⟨zs,rfl,hz⟩]
 unfold ivs
 rw[b99]
theorem x66{xs0:List AV}{C:Rts}{r:VRes}(he:h90 xs0 C=some r):VOK T 26 xs0 C r:=by
 unfold h90 at he
 split at he
 ·rename_i b nl cs
  split at he
  ·rename_i hz
   obtain⟨zs,rfl,hz⟩:=hz
   cases he
   intro h Ac Z Zp ws i hC hv hk
   obtain rfl:Ac=[]:=by cases Ac with
    |nil=>rfl
    |cons=>cases hC
   rw[Vm.VRL]at hv
   obtain⟨w,ws',rfl,h1,h2⟩:=hv
   rw[Vm.VRL]at h2
   subst h2
   rw[Vm.VR]at h1
   obtain⟨sa,c,rfl,hr⟩:=nl4 h1
   obtain⟨s',c',h',p,g,e⟩:=v84 hr hz
   obtain⟨a,a1,a2,a3,a4⟩:=pr1 (Z:=Zp) g
   have hnew: ∀o∈a.fp,h.length≤o∧o<h'.length:=fun o ho=>by
    rcases a3 with a3|⟨x,a3,a5⟩
    ·rw[a3]at ho;cases ho
    ·rw[a3]at ho
     rw[q05.1 ho];exact a5
   have hfp:fpL ([]++[a])=a.fp:=by simp[fpL]
   refine⟨_,h',[],[a],Z,Zp,e,⟨?_,rfl,⟨by rw[m51,okL,okL];exact⟨a4,trivial⟩,fun x=> ?_,fun o ho=> ?_,fun o ho hz=> ?_,fun o ho=> ?_,i.zp⟩,⟨p.length_le,fun o ho _=>cb1 p ho,fun o ho=> .inr ?_,fun o ho=>ho,fun o ho=> .inl ho⟩, ?_,rfl,fun i a k h1=>by simp at h1⟩⟩
   ·rw[nf9,gw5,a2]
    unfold ivs
    rw[b99]
   ·rw[hfp]
    rcases a3 with a3|⟨x,a3,a5⟩
    ·rw[a3];simp
    ·rw[a3,List.count_singleton];split<;>omega
   ·rw[hfp]at ho;exact(hnew o ho).2
   ·rw[hfp]at ho;have:=i.zlt o hz;have:=hnew o ho;omega
   ·have:=i.zlt o ho;have:=p.length_le;omega
   ·rw[hfp]at ho;exact(hnew o ho).1
   ·rw[Vm.VR]
    refine⟨by simp,fun b hb _=> ?_⟩
    have hb:some a=some b:=hb
    cases hb
    exact a1
  ·cases he
 ·cases he
end Go.Proofs.Ytppbpgmdmiajcaa
