/-
  The second machine's tables of this seat, written by a program of my own (vgen.py). No condition. Where a law's call begins: nothing in memory, or the rows of its arguments. No condition. A law's arguments that are slices of integers, as rows that are only read. Conditions: those of each theorem. Slices of slices of integers. Conditions: those of each theorem. One number put behind a growing list  ..
-/
import Derived.Test.YtlhmdmedagjmnaaK3
import Derived.Test.YtlhmdmedagjmnaaKCode
import Derived.WideShapes
import Derived.Deep.Matrix
set_option linter.unusedVariables false
set_option linter.unusedSimpArgs false
set_option linter.unusedSectionVars false
set_option maxRecDepth 100000
namespace Go.Proofs.Ytlhmdmedagjmnaa
open Go.Am Go.Vm
def ct:CT
 |22,0=>some (34,1)
 |23,2=>some (34,1)
 |24,2=>some (34,1)
 |34,0=>some (3,1)
 |57,4=>some (3,1)
 |58,4=>some (3,1)
 |68,0=>some (4,1)
 |105,0=>some (107,2)
 |136,3=>some (3,1)
 |136,5=>some (3,1)
 |136,6=>some (3,1)
 |137,3=>some (3,1)
 |137,5=>some (3,1)
 |137,6=>some (3,1)
 |_,_=>none
abbrev hNo:Hint:=⟨[],[],[],[]⟩
abbrev h5:Hint:=⟨[(18,34,1),(22,3,1)],[],[],[]⟩
abbrev h7:Hint:=⟨[(16,3,1)],[],[],[]⟩
abbrev h10:Hint:=⟨[(7,34,1)],[],[],[]⟩
abbrev h16:Hint:=⟨[(10,34,1),(11,34,1)],[],[],[]⟩
abbrev h18:Hint:=⟨[(27,34,1)],[],[],[]⟩
abbrev h22:Hint:=⟨[(8,3,1),(9,3,1)],[],[],[]⟩
abbrev h24:Hint:=⟨[(6,34,1)],[],[],[]⟩
abbrev h26:Hint:=⟨[(13,34,1),(14,3,1)],[],[],[]⟩
abbrev h29:Hint:=⟨[(11,34,1)],[],[],[]⟩
abbrev h33:Hint:=⟨[(10,34,1),(12,34,1)],[],[],[]⟩
abbrev h34:Hint:=⟨[(10,34,1),(13,34,1)],[],[],[]⟩
abbrev h36:Hint:=⟨[(10,34,1),(12,34,1),(15,34,1),(17,3,1),(22,34,1)],[],[],[]⟩
abbrev h37:Hint:=⟨[(10,34,1),(16,34,1),(19,3,1),(24,34,1)],[],[],[]⟩
abbrev h45:Hint:=⟨[(5,3,1)],[71],[],[]⟩
abbrev h46:Hint:=⟨[(4,34,1),(5,3,1),(6,34,1),(7,3,1)],[],[],[]⟩
abbrev h49:Hint:=⟨[(4,34,1),(11,34,1)],[],[],[]⟩
abbrev h53:Hint:=⟨[(6,3,1),(9,3,1)],[],[],[]⟩
abbrev h54:Hint:=⟨[(6,34,1),(11,34,1)],[],[],[]⟩
abbrev h67:Hint:=⟨[(6,3,1),(7,3,1)],[],[],[]⟩
abbrev h69:Hint:=⟨[(2,3,1)],[],[],[]⟩
abbrev h74:Hint:=⟨[(2,3,1)],[],[],[]⟩
abbrev h77:Hint:=⟨[(6,34,1),(9,34,1)],[],[],[]⟩
abbrev h78:Hint:=⟨[(4,107,2),(5,107,2)],[],[],[]⟩
abbrev h90:Hint:=⟨[(8,3,1),(9,3,1)],[],[],[]⟩
abbrev h104:Hint:=⟨[(13,3,1)],[83],[],[]⟩
def vH:FuncId→Hint
 |5=>h5
 |7=>h7
 |10=>h10
 |16=>h16
 |18=>h18
 |22=>h22
 |24=>h24
 |26=>h26
 |29=>h29
 |33=>h33
 |34=>h34
 |36=>h36
 |37=>h37
 |45=>h45
 |46=>h46
 |49=>h49
 |53=>h53
 |54=>h54
 |67=>h67
 |69=>h69
 |74=>h74
 |77=>h77
 |78=>h78
 |90=>h90
 |104=>h104
 |_=>hNo
def vM:FuncId→List Go.Vm.Mode
 |3=>[.perm 1, .perm 1]
 |9=>[.perm 1]
 |10=>[.perm 1, .perm 1]
 |11=>[.perm 1, .perm 1]
 |12=>[.perm 1]
 |13=>[.perm 1, .perm 1]
 |14=>[.perm 1, .bor 0, .perm 1, .bor 0]
 |18=>[.perm 1]
 |19=>[.perm 1]
 |20=>[.perm 1, .perm 1]
 |44=>[.perm 1, .perm 1]
 |47=>[.perm 1]
 |48=>[.perm 1]
 |70=>[.own 3 1, .bor 0]
 |87=>[.bor 0, .own 3 1, .bor 0]
 |89=>[.bor 0, .own 3 1, .bor 1, .bor 0]
 |_=>[]
@[push_cast] theorem vH7:vH 7=h7:=rfl
@[push_cast] theorem vM7:vM 7=[]:=rfl
@[push_cast] theorem vH17:vH 17=hNo:=rfl
@[push_cast] theorem vM17:vM 17=[]:=rfl
@[push_cast] theorem vH38:vH 38=hNo:=rfl
@[push_cast] theorem vM38:vM 38=[]:=rfl
@[push_cast] theorem vH39:vH 39=hNo:=rfl
@[push_cast] theorem vM39:vM 39=[]:=rfl
@[push_cast] theorem vH40:vH 40=hNo:=rfl
@[push_cast] theorem vM40:vM 40=[]:=rfl
@[push_cast] theorem vH41:vH 41=hNo:=rfl
@[push_cast] theorem vM41:vM 41=[]:=rfl
@[push_cast] theorem vH42:vH 42=hNo:=rfl
@[push_cast] theorem vM42:vM 42=[]:=rfl
@[push_cast] theorem vH80:vH 80=hNo:=rfl
@[push_cast] theorem vM80:vM 80=[]:=rfl
@[push_cast] theorem vH81:vH 81=hNo:=rfl
@[push_cast] theorem vM81:vM 81=[]:=rfl
attribute [push_cast] ct
end Go.Proofs.Ytlhmdmedagjmnaa
namespace Go.Am
open Go.RowKit (Below)
theorem HR.start(φ:Ren)(w:World):HR φ w.heap.size [] w where
 own:=fun o r h=>by simp[H.row]at h
 ro:=fun o r h=>by simp[H.row]at h
 one:=fun o r h=>by simp[H.row]at h
 inj:=fun o o' r r' h=>by simp[H.row]at h
 size:=Nat.le_refl _
def φ0:Ren:=fun _=>⟨0,0,0,0,false⟩
theorem t86{n:Int}(h:(Lit.int .i64 n).wf=true): -9223372036854775808≤n∧n≤9223372036854775807:=by
 simp only[Lit.wf,Bool.and_eq_true,decide_eq_true_eq]at h
 exact h
end Go.Am
namespace Go.Am
open Go.RowKit (Below)
def RoI(k:IntKind)(w:World)(a:Option Addr)(len cap:Nat)(zs:List Int):Prop:=
 (a=none∧len=0∧cap=0∧zs=[])∨
 ∃x,a=some x∧x.spot=none∧x.block<w.heap.size∧len≤cap∧zs.length=cap∧ ∀i,i<zs.length→w.cell? (x.add i)=some (.int k (zs.getD i 0))
theorem yk7{P:Program}{w:World}{base:Nat}{t e:TypeId}{x:Addr}{len cap:Nat}(ht:P.underlying t=some (.slice e))(h:Value.okWide P w .any base t (.slice (some x) len cap)):
 x.spot=none∧x.block<w.heap.size:=by
 simp only[Value.okWide,ht,Cell.okWide,Cell.ok,World.has]at h
 obtain⟨_,_,_,hs,row,cells,hsh,_⟩:=h
 refine⟨hs, ?_⟩
 unfold World.shape? at hsh
 by_cases hb:x.block<w.heap.size
 ·exact hb
 ·rw[Array.getElem?_eq_none (by omega)]at hsh;cases hsh
theorem ac6{x:Addr}(hx:x.spot=none)(i:Nat):x.add i=⟨x.block,x.off+i,none⟩:=by
 unfold Addr.add
 obtain⟨b,o,s⟩:=x
 simp only at hx
 subst hx
 split
 ·rename_i h;subst h;rfl
 ·rfl
theorem HR.pushRo{φ:Ren}{B:Nat}{h:H}{w:World}(hh:HR φ B h w)(r:Row)(b sh cap u:Nat)(hr:r.own=false)(hB:b<B)(hone: ∀c∈r.cells,c.oneCell'=true)
 (hc: ∀(i:Nat) (c:Value),r.cells[i]? =some c→ ∃v,w.cell? ⟨b,sh+i,none⟩=some v∧VR φ h.length c v):
 HR (φ.with h.length ⟨b,sh,cap,u,false⟩) B (h++[.row r]) w:=by
 have hext:=Ext.with φ h.length ⟨b,sh,cap,u,false⟩
 have hlen:(h++[Ob.row r]).length=h.length+1:=by simp
 have hmono: ∀{c v},VR φ h.length c v→VR (φ.with h.length ⟨b,sh,cap,u,false⟩) (h++[Ob.row r]).length c v:=fun hv=>hv.mono hext (by omega)
 refine⟨fun o r' hr' ho=> ?_,fun o r' hr' ho=> ?_,fun o r' hr'=> ?_,fun o o' r1 r2 h1 h2 o1 o2 he=> ?_,hh.size⟩
 ·rcases v39 hr' with⟨hlt,hr'⟩|⟨rfl,rfl⟩
  ·rw[hext o hlt]
   obtain⟨h0,h2,h3,cur',h4,h5,h6⟩:=hh.own o r' hr' ho
   exact⟨h0,h2,h3,cur',h4,h5,fun i c hc=>let⟨v,h7,h8⟩:=h6 i c hc;⟨v,h7,hmono h8⟩⟩
  ·rw[hr]at ho;cases ho
 ·rcases v39 hr' with⟨hlt,hr'⟩|⟨rfl,rfl⟩
  ·rw[hext o hlt]
   obtain⟨hn,h0,h1⟩:=hh.ro o r' hr' ho
   exact⟨hn,h0,fun i c hc=>let⟨v,h2,h3⟩:=h1 i c hc;⟨v,h2,hmono h3⟩⟩
  ·rw[Ren.with_same]
   exact⟨rfl,hB,fun i c hi=>let⟨v,h7,h8⟩:=hc i c hi;⟨v,h7,hmono h8⟩⟩
 ·rcases v39 hr' with⟨hlt,hr'⟩|⟨rfl,rfl⟩
  ·exact hh.one o r' hr'
  ·exact hone
 ·rcases v39 h1 with⟨l1,k1⟩|⟨rfl,rfl⟩<;>rcases v39 h2 with⟨l2,k2⟩|⟨rfl,rfl⟩
  ·rw[hext o l1,hext o' l2]at he;exact hh.inj o o' r1 r2 k1 k2 o1 o2 he
  ·rw[hr]at o2;cases o2
  ·rw[hr]at o1;cases o1
  ·rfl
def RdK(k:IntKind)(h:H)(sa:Option Addr)(c:Nat)(zs:List Int):Prop:=
 (sa=none∧c=0∧zs=[])∨(zs.length≤c∧ ∃o off r,sa=some ⟨o,off,none⟩∧h.row o=some r∧(r.own=true→r.unit=1)∧ ∀i:Int,0≤i→i<zs.length→r.cells[off+i.toNat]? =some (.int k (gi zs i)))
theorem RdK.i64{h:H}{sa:Option Addr}{c:Nat}{zs:List Int}(hr:RdK .i64 h sa c zs):RdI h sa c zs:=hr
theorem q97{k:IntKind}{φ:Ren}{B:Nat}{h:H}{w:World}(hB:B=w.heap.size)(hh:HR φ B h w){a:Option Addr}{len cap:Nat}{zs:List Int}(hw:RoI k w a len cap zs)(e:TypeId):
 ∃φ' h' sa,Ext φ h.length φ'∧h<+:h'∧HR φ' B h' w∧VR φ' h'.length (.slice sa len cap) (.slice a len cap)∧RdK k h' sa cap (zs.take len)∧ss4 h' 1 sa=true∧(zs.take len).length=len:=by
 rcases hw with⟨rfl,rfl,rfl,rfl⟩|⟨x,rfl,hs,hb,hl,hz,hc⟩
 ·exact⟨φ,h,none,Ext.refl _ _,List.prefix_refl _,hh, .snil, .inl ⟨rfl,rfl,rfl⟩,rfl,rfl⟩
 ·have hrow:H.row (h++[.row ⟨zs.map (.int k),e,1,false⟩]) h.length=some ⟨zs.map (.int k),e,1,false⟩:=cv8
  refine⟨φ.with h.length ⟨x.block,x.off,cap,1,false⟩,h++[.row ⟨zs.map (.int k),e,1,false⟩],some ⟨h.length,0,none⟩,Ext.with _ _ _,List.prefix_append _ _,hh.pushRo ⟨zs.map (.int k),e,1,false⟩ _ _ cap 1 rfl (by omega) ?_ ?_, ?_, .inr ⟨?_,h.length,0,_,rfl,hrow, ?_⟩, ?_, ?_⟩
  ·intro c hc'
   obtain⟨z,_,rfl⟩:=List.mem_map.mp hc'
   rfl
  ·intro i c hi
   rw[List.getElem?_map]at hi
   obtain⟨z,hz1,rfl⟩:=Option.map_eq_some_iff.mp hi
   have hil:=(List.getElem?_eq_some_iff.1 hz1).1
   have:=hc i hil
   rw[ac6 hs]at this
   refine⟨_,this, ?_⟩
   rw[List.getD_eq_getElem?_getD,hz1]
   exact .int k z
  ·have hv:=VR.sl (φ:=φ.with h.length ⟨x.block,x.off,cap,1,false⟩) (n:=(h++[Ob.row ⟨zs.map (.int k),e,1,false⟩]).length) h.length 0 len cap cap x.off (by simp) (Nat.le_refl _) (.inl (by rw[Ren.with_same];rfl)) (by rw[Ren.with_same];intro h;cases h)
   rw[Ren.with_same]at hv
   have hx:x=⟨x.block,x.off,none⟩:=by obtain⟨b,o,s⟩:=x;simp only at hs;subst hs;rfl
   rw[hx]
   exact hv
  ·rw[List.length_take];omega
  ·refine⟨fun h=>by(cases h), ?_⟩
   intro i h0 hi
   rw[List.length_take]at hi
   show(zs.map (Value.int k))[0+i.toNat]? =_
   rw[Nat.zero_add,List.getElem?_map]
   have hg:(zs.take len)[i.toNat]? =some (gi (zs.take len) i):=lr6 h0 (by rw[List.length_take];omega)
   rw[List.getElem?_take,if_pos (by omega)]at hg
   rw[hg];rfl
  ·unfold ss4;simp only[hrow];rfl
  ·rw[List.length_take];omega
end Go.Am
namespace Go.Am
end Go.Am
namespace Go.Am
end Go.Am
namespace Go.Proofs.Ytlhmdmedagjmnaa
open Go.Am
def digs(p:Int):Nat→Int→List Int
 |0,_=>[]
 |n+1,a=>(a%p)::digs p n (a/p)
def numb(p:Int):List Int→Int
 | []=>0
 |d::r=>numb p r*p+d
end Go.Proofs.Ytlhmdmedagjmnaa
namespace Go.Proofs.Ytlhmdmedagjmnaa
open Go.Am
def axpy(p c:Int):List Int→List Int→List Int
 |a::l,y::ys=>((a+c*y)%p)::axpy p c l ys
 |l,_=>l
def conv(p:Int)(ys:List Int):List Int→List Int→List Int
 | [],l=>l
 |x::xs,l=>match axpy p x l ys with
  | []=>[]
  |a::r=>a::conv p ys xs r
def red(p:Int)(nm:List Int)(m:Nat):Nat→List Int→List Int
 |0,l=>l
 |n+1,l=>red p nm m n (l.take n++axpy p (gi l (n+m:Nat)) ((l.take (n+m)).drop n) nm)
def mulP(p:Int)(m:Nat)(mod:List Int)(a b:Int):Int:=numb p (red p ((mod.take m).map fun d=>p-d) m m (conv p (digs p m b) (digs p m a) (List.replicate (2*m) 0)))
def mulR(q p:Int)(m:Nat)(mod:List Int)(a b:Int):Int:=
 if 0≤a∧a<q then if 0≤b∧b<q then if m=1 then a*b%p else mulP p m mod a b else-1 else-1
def Dig(p:Int)(l:List Int):Prop:= ∀z∈l,0≤z∧z<p
end Go.Proofs.Ytlhmdmedagjmnaa
namespace Go.Proofs.Ytlhmdmedagjmnaa
open Go.Am
section
variable {q p g0:Int} {m:Nat} {ms:Value} {h1:H} {B:Nat}
end
end Go.Proofs.Ytlhmdmedagjmnaa
namespace Go.Proofs.Ytlhmdmedagjmnaa
open Go.Am
section
variable {q p g0:Int} {m:Nat} {om fm cm:Nat} {h1:H} {B:Nat} {mod:List Int}
end
end Go.Proofs.Ytlhmdmedagjmnaa
namespace Go.Proofs.Ytlhmdmedagjmnaa
open Go.Am
end Go.Proofs.Ytlhmdmedagjmnaa
namespace Go.Proofs.Ytlhmdmedagjmnaa
open Go.Am
structure FOk (q p:Int) (m:Nat) (mod:List Int):Prop where
 q2:2≤q
 q64:q≤64
 p2:2≤p
 p64:p≤64
 m1:1≤m
 m10:m≤10
 pm:p^m=q
 ml:mod.length=m+1
 dig:Dig p mod
def wj0(q p:Int)(m:Nat)(mod:List Int)(g:Int):Nat→Int→Nat→Bool
 |0,_,_=>true
 |n+1,a,s=>bif (a==0)||s.testBit a.toNat then false else wj0 q p m mod g n (mulR q p m mod a g) (s|||1<<<a.toNat)
def dvdN:Nat→Int→Int→Int→Option (Int×Int)
 |0,_,_,_=>none
 |n+1,q,p,m=>bif q%p==0 then dvdN n (q/p) p (m+1)else some (q,m)
def outN:Nat→Int→Int→Option (Int×Int)
 |0,_,_=>none
 |n+1,q,p=>bif decide (q<p)then none else bif q%p==0 then match dvdN 64 q p 0 with
   |some (q',m)=>some (bif q'==1 then(p,m)else(0,0))
   |none=>none
  else outN n q (p+1)
end Go.Proofs.Ytlhmdmedagjmnaa
namespace Go.Proofs.Ytlhmdmedagjmnaa
open Go.Am
def fldN:Nat→Option (Int×Nat×Int×List Int)
 |2=>some (2,1,1,[0,1])
 |3=>some (3,1,2,[0,1])
 |4=>some (2,2,2,[1,1,1])
 |5=>some (5,1,2,[0,1])
 |7=>some (7,1,3,[0,1])
 |8=>some (2,3,2,[1,1,0,1])
 |9=>some (3,2,3,[2,1,1])
 |11=>some (11,1,2,[0,1])
 |13=>some (13,1,2,[0,1])
 |16=>some (2,4,2,[1,1,0,0,1])
 |17=>some (17,1,3,[0,1])
 |19=>some (19,1,2,[0,1])
 |23=>some (23,1,5,[0,1])
 |25=>some (5,2,5,[2,1,1])
 |27=>some (3,3,3,[1,2,0,1])
 |29=>some (29,1,2,[0,1])
 |31=>some (31,1,3,[0,1])
 |32=>some (2,5,2,[1,0,1,0,0,1])
 |37=>some (37,1,2,[0,1])
 |41=>some (41,1,6,[0,1])
 |43=>some (43,1,3,[0,1])
 |47=>some (47,1,5,[0,1])
 |49=>some (7,2,7,[3,1,1])
 |53=>some (53,1,2,[0,1])
 |59=>some (59,1,2,[0,1])
 |61=>some (61,1,2,[0,1])
 |64=>some (2,6,2,[1,1,0,0,0,0,1])
 |_=>none
def genN(q p:Int):Nat→Int→Option Int
 |0,_=>none
 |n+1,g=>bif wj0 q p 1 [0,1] g (q-1).toNat 1 0 then some g else genN q p n (g+1)
def lowN(q p:Int)(m:Nat):Nat→Int→Option (List Int)
 |0,_=>none
 |n+1,low=>bif wj0 q p m (digs p m low++[1]) p (q-1).toNat 1 0 then some (digs p m low++[1])else lowN q p m n (low+1)
def o66(n:Nat):Bool:=
 match fldN n with
 |none=>decide (outN 64 n 2=some (0,0))
 |some (p,m,g,mod)=>decide (outN 64 n 2=some (p,(m:Int)))&&(bif decide (m=1)then decide (genN n p (n-1) 1=some g)&&decide (mod=[0,1])else decide (lowN n p m n 0=some mod)&&decide (g=p))&&
   decide (p^m=(n:Int))&&decide (mod.length=m+1)&&(mod.all fun d=>decide (0≤d)&&decide (d<p))&&decide (2≤p)&&decide (p≤64)&&decide (1≤m)&&decide (m≤10)&&decide (1≤g)&&decide (g<n)
theorem wb4:((List.range 63).all fun n=>o66 (n+2))=true:=by kernel_rfl
theorem dp6{n:Nat}(h2:2≤n)(h64:n≤64):o66 n=true:=by
 have h:=List.all_eq_true.1 wb4 (n-2) (List.mem_range.2 (by omega))
 rw[show n-2+2=n by omega]at h
 exact h
theorem ug0{n:Nat}{x}(h:fldN n=some x):2≤n∧n≤64:=by
 unfold fldN at h
 split at h<;>first|(cases h;done)|omega
theorem hi9{n:Nat}{p g:Int}{m:Nat}{mod:List Int}(hn:fldN n=some (p,m,g,mod)):FOk n p m mod∧outN 64 n 2=some (p,(m:Int))∧1≤g∧g<n∧
 (if m=1 then genN n p (n-1) 1=some g∧mod=[0,1]else lowN n p m n 0=some mod∧g=p):=by
 obtain⟨h2,h64⟩:=ug0 hn
 have h:=dp6 h2 h64
 unfold o66 at h
 rw[hn]at h
 simp only[Bool.and_eq_true,decide_eq_true_eq,List.all_eq_true]at h
 obtain⟨⟨⟨⟨⟨⟨⟨⟨⟨⟨a1,a2⟩,a3⟩,a4⟩,a5⟩,a6⟩,a7⟩,a8⟩,a9⟩,a10⟩,a11⟩:=h
 refine⟨⟨by omega,by omega,a6,a7,a8,a9,a3,a4,fun z hz=>a5 z hz⟩,a1,a10,a11, ?_⟩
 by_cases hm:m=1
 ·rw[if_pos hm]
  rw[decide_eq_true hm,cond_true]at a2
  simpa using a2
 ·rw[if_neg hm]
  rw[decide_eq_false hm,cond_false]at a2
  simpa using a2
end Go.Proofs.Ytlhmdmedagjmnaa
namespace Go.Proofs.Ytlhmdmedagjmnaa
open Go.Am
end Go.Proofs.Ytlhmdmedagjmnaa
namespace Go.Proofs.Ytlhmdmedagjmnaa
open Go.Am
end Go.Proofs.Ytlhmdmedagjmnaa
namespace Go.Proofs.Ytlhmdmedagjmnaa
open Go.Am
end Go.Proofs.Ytlhmdmedagjmnaa
namespace Go.Proofs.Ytlhmdmedagjmnaa
open Go.Am
def negm(p:Int)(m:Nat)(mod:List Int):List Int:=(mod.take m).map fun d=>p-d
def vl3(p:Int)(m:Nat)(g:Int)(mod:List Int)(a:Int):Int:=
 if m=1 then a*g%p else numb p (axpy p (gi (digs p m a) (m-1:Nat)) (0::(digs p m a).take (m-1)) (negm p m mod))
section
variable {q p g:Int} {m:Nat} {mod:List Int} {om fm cm F:Nat} {es ls:Value} {h1:H}
end
end Go.Proofs.Ytlhmdmedagjmnaa
namespace Go.Proofs.Ytlhmdmedagjmnaa
open Go.Am
def ql6(p:Int)(m:Nat)(g:Int)(mod:List Int):Nat→Int→Int→List Int→List Int→Option (List Int×List Int×Int)
 |0,_,a,e,l=>some (e,l,a)
 |n+1,k,a,e,l=>bif (a==0)||decide (0≤gi l a)then none else ql6 p m g mod n (k+1) (vl3 p m g mod a) (e.set k.toNat a) (l.set a.toNat k)
section
variable {q p g:Int} {m:Nat} {mod:List Int} {om fm cm F n0:Nat} {h3:H}
end
end Go.Proofs.Ytlhmdmedagjmnaa
namespace Go.Proofs.Ytlhmdmedagjmnaa
open Go.Am
def a98(q p:Int)(m:Nat)(g:Int)(mod:List Int):Option (List Int×List Int×Int):=ql6 p m g mod (q-1).toNat 0 1 (List.replicate (q-1).toNat 0) (List.replicate q.toNat (-1))
section
variable {q p g:Int} {m:Nat} {mod:List Int} {om fm cm F:Nat}
end
end Go.Proofs.Ytlhmdmedagjmnaa
namespace Go.Proofs.Ytlhmdmedagjmnaa
open Go.Am
def tabs(n:Nat):List Int×List Int:=match fldN n with
 |some (p,m,g,mod)=>match a98 n p m g mod with
  |some (e,l,_)=>(e,l)
  |none=>([],[])
 |none=>([],[])
section
variable {q p:Int}
end
end Go.Proofs.Ytlhmdmedagjmnaa
namespace Go.Proofs.Ytlhmdmedagjmnaa
open Go.Am
end Go.Proofs.Ytlhmdmedagjmnaa
namespace Go.Proofs.Ytlhmdmedagjmnaa
open Go.Am
end Go.Proofs.Ytlhmdmedagjmnaa
namespace Go.Proofs.Ytlhmdmedagjmnaa
open Go.Am
end Go.Proofs.Ytlhmdmedagjmnaa
namespace Go.Proofs.Ytlhmdmedagjmnaa
open Go.Am
def fE:Nat→Nat
 |2=>1
 |3=>129
 |4=>12417
 |5=>802945
 |7=>5437399233
 |8=>351215042689
 |9=>17942261559489
 |11=>108962231611310209
 |13=>528130703586913960065
 |16=>178086203705216420255121537
 |17=>7469972054853685843465900225
 |19=>51117137118817732502590154883201
 |23=>1207086427916563790381117712048146882881
 |25=>4296679298253731530926350344465262988325185
 |27=>27683632007463149621854882158786133120173510849
 |29=>89715812243899246029419422853925757204734979096705
 |31=>505605221232691293432177678203438885605117352412483777
 |32=>27808724541577916742700289517998963655941875844624957569
 |37=>31990165230988380045508509409514329167903399549472002670636056705
 |41=>196803355916697640844645143911777462269678895904315453181343275630346625
 |43=>3321900807795576089098097549222868942314588541243702741999572762779355746497
 |47=>37014835288415908718419972056108441944857760468399085769595186018324491242840101185
 |49=>128530077453093768876085316672720063505956351673680030674482110111078127274219255030209
 |53=>3602121195588004432410006517885224262510220814523301142795360849256216185153407993945964691585
 |59=>270951711388824705647634718687622551811723107360332763645300551177870649566628900357333032853137826791553
 |61=>1164162530822367343872202323236078872099065783920682470882800940302953240449962669651654715119434672229073025
 |64=>324948975432320371080866489111452917039159851672880359415289456819899054707732937472241880484391502374330200768641
 |_=>0
def fL:Nat→Nat
 |2=>0
 |3=>4096
 |4=>528384
 |5=>34344960
 |7=>211594518528
 |8=>22271587258368
 |9=>853571180707840
 |11=>5873569748152750080
 |13=>28862381954672620474368
 |16=>15072009285927600738305839104
 |17=>641428296504441872472814706688
 |19=>2971703673908048670609566042689536
 |23=>61002575878740797758556052345228196061184
 |25=>112218846857214744237616359444941385037799424
 |27=>1770301908688390524519687444532503270070340079616
 |29=>5327470521109204196063143671878030373354884279046144
 |31=>23208944618439905287274454518441023752193352319812075520
 |32=>1508315803883406269205986702105420928032254965126544232448
 |37=>1927099591673215374311082307204349858495420952548674591831439708160
 |41=>35517896703273586666149877416896236316072493915779626231776876054160711680
 |43=>152695369836916395283030424145595212849165003026280530570040278169659573121024
 |47=>2871650009675154084637761202718277526292298413880696712693369280921573131467963310080
 |49=>3753548570383623801084175760024803199156836227648943951560852271794289555882576632152064
 |53=>220544676043655077866277337447867632841115249763151128083848210675118928441550703987060033982464
 |59=>16899643013032953793008289850397817256633102912925032377747267387615061072757643228449870777890379802349568
 |61=>71614788332382989993668620795082232958302001517929830336684845480626721184788401132204757971703161274437734400
 |64=>36265302912251042761276606936058182247505748789568104052998051136038197467810438868035313606317156396572587524100096
 |_=>0
def fexp(q i:Int):Int:=((fE q.toNat>>>(6*i.toNat))%64:Nat)
def flog(q a:Int):Int:=bif a==0 then-1 else((fL q.toNat>>>(6*a.toNat))%64:Nat)
def t34(n:Nat):Bool:=match fldN n with
 |none=>true
 |some (p,m,g,mod)=>decide (tabs n=((List.range (n-1)).map fun i:Nat=>fexp n i,(List.range n).map fun a:Nat=>flog n a))&&
  ((List.range (n-1)).all fun i=>decide (1≤fexp n i)&&decide (fexp n i<n)&&decide (flog n (fexp n i)=i))&&
  ((List.range (n-1)).all fun a=>decide (0≤flog n (a+1:Nat))&&decide (flog n (a+1:Nat)<n-1)&&decide (fexp n (flog n (a+1:Nat))=(a+1:Nat)))&&decide (flog n g=1%((n:Int)-1))&&decide (fexp n 0=1)
theorem fe1:((List.range 63).all fun n=>t34 (n+2))=true:=by kernel_rfl
structure Tabs (q g:Int):Prop where
 tab:tabs q.toNat=((List.range (q-1).toNat).map fun i:Nat=>fexp q i,(List.range q.toNat).map fun a:Nat=>flog q a)
 er: ∀i,0≤i→i<q-1→1≤fexp q i∧fexp q i<q∧flog q (fexp q i)=i
 lr: ∀a,1≤a→a<q→0≤flog q a∧flog q a<q-1∧fexp q (flog q a)=a
 lg:flog q g=1%(q-1)
 e0:fexp q 0=1
theorem cb4{q p g:Int}{m:Nat}{mod:List Int}(hn:fldN q.toNat=some (p,m,g,mod)):Tabs q g:=by
 obtain⟨h2,h64⟩:=ug0 hn
 have h:=List.all_eq_true.1 fe1 (q.toNat-2) (List.mem_range.2 (by omega))
 rw[show q.toNat-2+2=q.toNat by omega]at h
 unfold t34 at h
 rw[hn]at h
 simp only[Bool.and_eq_true,decide_eq_true_eq,List.all_eq_true,List.mem_range]at h
 rw[show((q.toNat:Nat):Int)=q by omega]at h
 obtain⟨⟨⟨⟨h1,h2⟩,h3⟩,h4⟩,h5⟩:=h
 refine⟨by rw[h1,show q.toNat-1=(q-1).toNat by omega],fun i h0 hi=> ?_,fun a h0 ha=> ?_,h4,h5⟩
 ·have:=h2 i.toNat (by omega)
  rw[show((i.toNat:Nat):Int)=i by omega]at this
  exact⟨this.1.1,this.1.2,this.2⟩
 ·have:=h3 (a.toNat-1) (by omega)
  rw[show((a.toNat-1+1:Nat):Int)=a by omega]at this
  exact⟨this.1.1,this.1.2,this.2⟩
def fok(q a:Int):Bool:=decide (0≤a)&&decide (a<q)
def addN(p:Int):Nat→Int→Int→Int
 |0,_,_=>0
 |n+1,a,b=>(a%p+b%p)%p+p*addN p n (a/p) (b/p)
def negN(p:Int):Nat→Int→Int
 |0,_=>0
 |n+1,a=>(p-a%p)%p+p*negN p n (a/p)
def fch(q:Int):Int:=match fldN q.toNat with
 |some (p,_,_,_)=>p
 |none=>0
def fdg(q:Int):Nat:=match fldN q.toNat with
 |some (_,m,_,_)=>m
 |none=>0
def fadd(q a b:Int):Int:=bif fok q a&&fok q b then addN (fch q) (fdg q) a b else-1
def fneg(q a:Int):Int:=bif fok q a then negN (fch q) (fdg q) a else-1
def fmul(q a b:Int):Int:=bif fok q a&&fok q b then bif (a==0)||(b==0)then 0 else fexp q ((flog q a+flog q b)%(q-1))else-1
end Go.Proofs.Ytlhmdmedagjmnaa
namespace Go.Proofs.Ytlhmdmedagjmnaa
open Go.Am
theorem gc0{q a:Int}:fok q a=true↔0≤a∧a<q:=by unfold fok;simp
theorem iy2{q a:Int}(h:0≤a∧a<q):fok q a=true:=gc0.2 h
section
variable {h:H} {F:Nat} {q p:Int} {m:Nat} {g:Int} {mod:List Int} {E L om fm cm:Nat}
end
end Go.Proofs.Ytlhmdmedagjmnaa
namespace Go.Proofs.Ytlhmdmedagjmnaa
open Go.Am
theorem y65{q p g:Int}{m:Nat}{mod:List Int}(hn:fldN q.toNat=some (p,m,g,mod)):fch q=p∧fdg q=m:=by
 unfold fch fdg;rw[hn];exact⟨rfl,rfl⟩
section
variable {h:H} {F:Nat} {q p:Int} {m:Nat} {g:Int} {mod:List Int} {E L om fm cm:Nat}
theorem kq3{p:Int}(hp:0<p): ∀(n:Nat) (a b:Int),0≤addN p n a b∧addN p n a b<p^n
 |0,a,b=>by simp[addN]
 |n+1,a,b=>by
  have h1:=kq3 hp n (a/p) (b/p)
  have h2:=Int.emod_nonneg (a%p+b%p) (show p≠0 by omega)
  have h3:=Int.emod_lt_of_pos (a%p+b%p) hp
  have h4:0≤p*addN p n (a/p) (b/p):=Int.mul_nonneg (by omega) h1.1
  have h5:p*(addN p n (a/p) (b/p)+1)≤p*p^n:=Int.mul_le_mul_of_nonneg_left (by omega) (by omega)
  rw[addN,Int.pow_succ,Int.mul_comm (p^n) p]
  rw[Int.mul_add,Int.mul_one]at h5
  omega
theorem ul1{p:Int}(hp:0<p): ∀(n:Nat) (a:Int),0≤negN p n a∧negN p n a<p^n
 |0,a=>by simp[negN]
 |n+1,a=>by
  have h1:=ul1 hp n (a/p)
  have h2:=Int.emod_nonneg (p-a%p) (show p≠0 by omega)
  have h3:=Int.emod_lt_of_pos (p-a%p) hp
  have h4:0≤p*negN p n (a/p):=Int.mul_nonneg (by omega) h1.1
  have h5:p*(negN p n (a/p)+1)≤p*p^n:=Int.mul_le_mul_of_nonneg_left (by omega) (by omega)
  rw[negN,Int.pow_succ,Int.mul_comm (p^n) p]
  rw[Int.mul_add,Int.mul_one]at h5
  omega
end
end Go.Proofs.Ytlhmdmedagjmnaa
namespace Go.Proofs.Ytlhmdmedagjmnaa
open Go.Am
section
variable {h:H} {F:Nat} {q p:Int} {m:Nat} {g:Int} {mod:List Int} {E L om fm cm:Nat}
end
section
variable {h:H} {F:Nat} {q p:Int} {m:Nat} {g:Int} {mod:List Int} {E L om fm cm:Nat}
end
end Go.Proofs.Ytlhmdmedagjmnaa
namespace Go.Am
open Go.RowKit (Below)
def RoIn(w:World)(A:Option Addr)(C:Nat)(l:List Int):Prop:=
 (A=none∧l=[]∧C=0)∨ ∃a,A=some a∧l.length≤C∧(C=0∨(a.spot=none∧a.block<w.heap.size∧ ∃Z:List Int,Z.length=C∧l=Z.take l.length∧ ∀c,c<C→w.cell? (a.add c)=some (.int .i64 (Z.getD c 0))))
def RoL(w:World)(a:Option Addr)(len cap:Nat)(ll:List (List Int)):Prop:=
 ll.length=len∧((a=none∧len=0∧cap=0)∨ ∃x,a=some x∧x.spot=none∧x.block<w.heap.size∧len≤cap∧ ∀(r:Nat) (l:List Int),ll[r]? =some l→ ∃A C,w.cell? (x.add r)=some (.slice A l.length C)∧RoIn w A C l)
section
variable {φ:Ren} {B:Nat} {h:H} {w:World}
end
end Go.Am
namespace Go.Am
end Go.Am
namespace Go.Am
inductive Tr where
 |v (x:Value)
 |sl (e u:Nat) (cs:List Tr)
 |pt (e:Nat) (cs:List Tr)
section
variable {hF G G':H} {L M:List (Value×Tr)}
end
end Go.Am
namespace Go.Am
def il(zs:List Int):Tr:= .sl 3 1 (zs.map fun z=> .v (.int .i64 z))
section
variable {hF G G':H} {L M:List (Value×Tr)}
end
section
variable {hF G G':H} {L M:List (Value×Tr)}
def ll(e:Nat)(m:List (List Int)):Tr:= .sl e 1 (m.map il)
end
end Go.Am
namespace Go.Am
section
variable {hF G G':H} {L M:List (Value×Tr)}
end
end Go.Am
namespace Go.Am
section
variable {hF G G':H} {L M:List (Value×Tr)}
end
end Go.Am
namespace Go.Proofs.Ytlhmdmedagjmnaa
open Go.Am Go.Vm
def nlT{α:Type}:List α→Nat
 | []=>2
 |_::_=>0
section
variable {h:H} {sa:Option Addr} {c:Nat} {l:List Int}
end
theorem p27: ∀zs:List Int,eraL (zs.map fun z=>AT.v (.int .i64 z))=ivs zs
 | []=>rfl
 |z::zs=>by rw[List.map_cons,eraL,p27 zs,AT.era];rfl
theorem we9: ∀zs:List Int,fpL (zs.map fun z=>AT.v (.int .i64 z))=[]
 | []=>rfl
 |z::zs=>by rw[List.map_cons,fpL,we9 zs,v_fp];rfl
theorem fs7{h:H}{Z:Nat→Prop}: ∀zs:List Int,okL h Z (zs.map fun z=>AT.v (.int .i64 z))
 | []=>by rw[List.map_nil,okL];trivial
 |z::zs=>by rw[List.map_cons,okL,ok];exact⟨trivial,fs7 zs⟩
theorem pr1{h:H}{Z:Nat→Prop}{sa:Option Addr}{c lo:Nat}{zs:List Int}(g:Grown h sa c zs lo): ∃a:AT,a.val= .slice sa zs.length c∧a.era= .sl (nlT zs) 3 1 (ivs zs)∧(a.fp=[]∨ ∃o,a.fp=[o]∧lo≤o∧o<h.length)∧ok h Z a:=by
 rcases g with⟨rfl,rfl,rfl⟩|⟨o,rfl,h1,rfl,h2⟩
 ·exact⟨.nil 2 3 1,rfl,rfl, .inl (uu7 _ _ _),by rw[ok];exact⟨by decide,by decide⟩⟩
 ·refine⟨.sl o 0 zs.length zs.length (nlT zs) 3 1 (zs.map fun z=>AT.v (.int .i64 z)),rfl,by rw[AT.era,p27], .inr ⟨o,by rw[AT.fp,we9],h1,h42 h2⟩, ?_⟩
  rw[ok]
  refine⟨_,h2,rfl,rfl,rfl,by decide,by simp,Nat.le_refl _,⟨fun hn=> ?_, ?_⟩, ?_,fs7 zs⟩
  ·cases zs<;>cases hn
  ·simp[ints]
  ·show((ints zs).drop 0).take _=_
   rw[List.drop_zero,List.take_of_length_le (by simp[ints]),List.map_map]
   rfl
end Go.Proofs.Ytlhmdmedagjmnaa
