/-
  A law's arguments that are slices of slices of integers, as rows that are only read. Conditions: those of each theorem. Own rows of numbers: made, written, read. No condition. What is owned in memory, ..
-/
import Derived.Test.YtodbgomfeacdhaaK5
import Derived.Deep.Matrix
set_option linter.unusedVariables false
set_option linter.unusedSimpArgs false
set_option linter.unusedSectionVars false
set_option maxRecDepth 100000
namespace Go.Am
open Go.RowKit (Below)
def RoIn(w:World)(A:Option Addr)(C:Nat)(l:List Int):Prop:=
 (A=none∧l=[]∧C=0)∨ ∃a,A=some a∧l.length≤C∧(C=0∨(a.spot=none∧a.block<w.heap.size∧ ∃Z:List Int,Z.length=C∧l=Z.take l.length∧ ∀c,c<C→w.cell? (a.add c)=some (.int .i64 (Z.getD c 0))))
def RoL(w:World)(a:Option Addr)(len cap:Nat)(ll:List (List Int)):Prop:=
 ll.length=len∧((a=none∧len=0∧cap=0)∨ ∃x,a=some x∧x.spot=none∧x.block<w.heap.size∧len≤cap∧ ∀(r:Nat) (l:List Int),ll[r]? =some l→ ∃A C,w.cell? (x.add r)=some (.slice A l.length C)∧RoIn w A C l)
theorem RoL.of{w:World}{x:Addr}{len cap:Nat}{A:Nat→Option Addr}{L C:Nat→Nat}{Z:Nat→List Int}(h1:x.spot=none)(h2:x.block<w.heap.size)(hl:len≤cap)
 (hr: ∀r,r<cap→w.cell? (x.add r)=some (.slice (A r) (L r) (C r))∧L r≤C r∧C r≤maxLen∧(Z r).length=C r∧(∀n∈Z r,(Lit.int .i64 n).wf=true)∧(A r=none→C r=0)∧ ∀a',A r=some a'→0≤a'.block∧ ∀c,c<C r→w.cell? (a'.add c)=some (.int .i64 ((Z r).getD c 0))):
 RoL w (some x) len cap ((List.range len).map fun r=>(Z r).take (L r)):=by
 refine⟨by simp, .inr ⟨x,rfl,h1,h2,hl,fun r l hrl=> ?_⟩⟩
 rw[List.getElem?_map]at hrl
 obtain⟨r',hr',rfl⟩:=Option.map_eq_some_iff.1 hrl
 have hrr:r'=r∧r<len:=by
  obtain⟨hlt,he⟩:=List.getElem?_eq_some_iff.1 hr'
  simp at hlt he
  exact⟨he.symm,hlt⟩
 obtain⟨rfl,hlt⟩:=hrr
 obtain⟨q1,q2,q3,q4,q5,q6,q7⟩:=hr r' (by omega)
 have hll:((Z r').take (L r')).length=L r':=by rw[List.length_take];omega
 refine⟨A r',C r',by rw[hll];exact q1, ?_⟩
 cases hA:A r' with
 |none=>
  have:=q6 hA
  exact .inl ⟨rfl,List.eq_nil_of_length_eq_zero (by rw[hll];omega),this⟩
 |some a=>
  refine .inr ⟨a,rfl,by rw[hll];exact q2, ?_⟩
  obtain⟨_,q8⟩:=q7 a hA
  by_cases hC:C r'=0
  ·exact .inl hC
  ·have h0:=q8 0 (by omega)
   have ha:a.add 0=a:=by simp[Addr.add]
   rw[ha]at h0
   refine .inr ⟨World.cell?_spot h0, ?_,Z r',q4,by rw[hll],q8⟩
   unfold World.cell? at h0
   by_cases hb:a.block<w.heap.size
   ·exact hb
   ·rw[Array.getElem?_eq_none (by omega)]at h0;cases h0
section
variable {φ:Ren} {B:Nat→Prop} {h:H} {w:World}
theorem ja0(hB:B=old w)(hh:HR φ B h w){b:Nat}(hb:B b){A:Option Addr}{C:Nat}{l:List Int}(hr:RoIn w A C l)(e:TypeId):
 ∃φ' h' sa,Ext φ h.length φ'∧h<+:h'∧HR φ' B h' w∧VR φ' h'.length (.slice sa l.length C) (.slice A l.length C)∧RdI h' sa C l:=by
 rcases hr with⟨rfl,rfl,rfl⟩|⟨a,rfl,hl,hr⟩
 ·exact⟨φ,h,none,Ext.refl _ _,List.prefix_refl _,hh, .snil, .inl ⟨rfl,rfl,rfl⟩⟩
 ·rcases hr with rfl|⟨h1,h2,Z,hZ,hlZ,hc⟩
  ·obtain rfl:l=[]:=List.eq_nil_of_length_eq_zero (by omega)
   have hrow:H.row (h++[.row ⟨[],e,1,false⟩]) h.length=some ⟨[],e,1,false⟩:=cv8
   refine⟨φ.with h.length ⟨b,0,0,1,false⟩,h++[.row ⟨[],e,1,false⟩],some ⟨h.length,0,none⟩,Ext.with _ _ _,List.prefix_append _ _,hh.pushRo ⟨[],e,1,false⟩ b 0 0 1 rfl hb (fun c hc=>by cases hc) (fun i c hc=>by simp at hc), ?_, .inr ⟨Nat.le_refl _,h.length,0,_,rfl,hrow,fun h=>by(cases h),fun i h0 hi=>by simp at hi;omega⟩⟩
   exact .slz h.length 0 a (by simp) (by rw[Ren.with_same])
  ·have hro:RoI .i64 w (some a) l.length C Z:= .inr ⟨a,rfl,h1,h2,hl,hZ,fun i hi=>hc i (by omega)⟩
   obtain⟨φ',h',sa,k1,k2,k3,k4,k5,k6,k7⟩:=q97 hB hh hro e
   refine⟨φ',h',sa,k1,k2,k3,k4, ?_⟩
   rw[←hlZ]at k5
   exact k5.i64
theorem zl6(hB:B=old w){b:Nat}(hb:B b)(e:TypeId): ∀(ll:List (List Int)) (Ac:Nat→Option Addr×Nat) (φ:Ren) (h:H),HR φ B h w→(∀(r:Nat) (l:List Int),ll[r]? =some l→RoIn w (Ac r).1 (Ac r).2 l)→
 ∃(φ':Ren) (h':H) (vs:List Value),Ext φ h.length φ'∧h<+:h'∧HR φ' B h' w∧vs.length=ll.length∧ ∀(r:Nat) (l:List Int),ll[r]? =some l→ ∃sa,vs[r]? =some (.slice sa l.length (Ac r).2)∧VR φ' h'.length (.slice sa l.length (Ac r).2) (.slice (Ac r).1 l.length (Ac r).2)∧RdI h' sa (Ac r).2 l
 | [],Ac,φ,h,hh,hr=>⟨φ,h,[],Ext.refl _ _,List.prefix_refl _,hh,rfl,fun r l hl=>by simp at hl⟩
 |l::ll,Ac,φ,h,hh,hr=>by
  obtain⟨φ1,h1,sa,k1,k2,k3,k4,k5⟩:=ja0 hB hh hb (hr 0 l rfl) e
  obtain⟨φ2,h2,vs,j1,j2,j3,j4,j5⟩:=zl6 hB hb e ll (fun r=>Ac (r+1)) φ1 h1 k3 (fun r l hl=>hr (r+1) l (by simpa using hl))
  refine⟨φ2,h2, .slice sa l.length (Ac 0).2::vs,k1.trans j1 k2.length_le,k2.trans j2,j3,by simp[j4],fun r l' hl=> ?_⟩
  cases r with
  |zero=>
   simp at hl;subst hl
   exact⟨sa,rfl,k4.mono j1 j2.length_le,k5.mono j2⟩
  |succ r=>
   obtain⟨s,m1,m2⟩:=j5 r l' (by simpa using hl)
   exact⟨s,by simpa using m1,m2⟩
theorem du6(hB:B=old w)(hh:HR φ B h w){a:Option Addr}{len cap:Nat}{ll:List (List Int)}(hw:RoL w a len cap ll)(e1 e2:TypeId):
 ∃φ' h' sa,Ext φ h.length φ'∧h<+:h'∧HR φ' B h' w∧VR φ' h'.length (.slice sa len cap) (.slice a len cap)∧RdLL h' sa cap ll∧ss4 h' 1 sa=true:=by
 obtain⟨hlen,hw⟩:=hw
 rcases hw with⟨rfl,rfl,rfl⟩|⟨x,rfl,hs,hb,hl,hr⟩
 ·exact⟨φ,h,none,Ext.refl _ _,List.prefix_refl _,hh, .snil, .inl ⟨rfl,rfl,List.eq_nil_of_length_eq_zero hlen⟩,rfl⟩
 ·obtain⟨Ac,hAc⟩: ∃Ac:Nat→Option Addr×Nat,∀(r:Nat) (l:List Int),ll[r]? =some l→w.cell? (x.add r)=some (.slice (Ac r).1 l.length (Ac r).2)∧RoIn w (Ac r).1 (Ac r).2 l:=by
   have key: ∀r:Nat,∃p:Option Addr×Nat,∀l:List Int,ll[r]? =some l→w.cell? (x.add r)=some (.slice p.1 l.length p.2)∧RoIn w p.1 p.2 l:=by
    intro r
    cases hl':ll[r]? with
    |none=>exact⟨(none,0),fun l h=>by cases h⟩
    |some l=>
     obtain⟨A,C,q1,q2⟩:=hr r l hl'
     exact⟨(A,C),fun l2 h=>by cases h;exact⟨q1,q2⟩⟩
   exact⟨fun r=>Classical.choose (key r),fun r=>Classical.choose_spec (key r)⟩
  obtain⟨φ1,h1,vs,k1,k2,k3,k4,k5⟩:=zl6 hB (b:=x.block) (by rw[hB];exact hb) e1 ll Ac φ h hh (fun r l hl'=>(hAc r l hl').2)
  have hget: ∀(i:Nat) (c:Value),vs[i]? =some c→ ∃l sa,ll[i]? =some l∧c= .slice sa l.length (Ac i).2∧VR φ1 h1.length c (.slice (Ac i).1 l.length (Ac i).2)∧RdI h1 sa (Ac i).2 l:=by
   intro i c hc
   have hi:i<ll.length:=by rw[←k4];exact(List.getElem?_eq_some_iff.1 hc).1
   obtain⟨sa,m1,m2,m3⟩:=k5 i ll[i] (List.getElem?_eq_getElem hi)
   rw[hc]at m1;cases m1
   exact⟨_,sa,List.getElem?_eq_getElem hi,rfl,m2,m3⟩
  have hrow:H.row (h1++[.row ⟨vs,e2,1,false⟩]) h1.length=some ⟨vs,e2,1,false⟩:=cv8
  have hadd: ∀i,x.add i=⟨x.block,x.off+i,none⟩:=ac6 hs
  refine⟨φ1.with h1.length ⟨x.block,x.off,cap,1,false⟩,h1++[.row ⟨vs,e2,1,false⟩],some ⟨h1.length,0,none⟩,k1.trans (Ext.with _ _ _) k2.length_le,ym5 k2,k3.pushRo ⟨vs,e2,1,false⟩ x.block x.off cap 1 rfl (by rw[hB];exact hb) (fun c hc=> ?_) (fun i c hc=> ?_), ?_, .inr ⟨h1.length,⟨vs,e2,1,false⟩,rfl,by omega,hrow,Nat.le_of_eq k4.symm,fun i l hl'=> ?_⟩, ?_⟩
  ·obtain⟨i,hi,he⟩:=List.getElem_of_mem hc
   obtain⟨l,sa,_,rfl,_⟩:=hget i c (by rw[List.getElem?_eq_getElem hi,he])
   rfl
  ·obtain⟨l,sa,m0,m1,m2,m3⟩:=hget i c hc
   have:=(hAc i l m0).1
   rw[hadd]at this
   exact⟨_,this,m2⟩
  ·have hv:=VR.sl (φ:=φ1.with h1.length ⟨x.block,x.off,cap,1,false⟩) (n:=(h1++[Ob.row ⟨vs,e2,1,false⟩]).length) h1.length 0 len cap cap x.off (by simp) (Nat.le_refl _) (.inl (by rw[Ren.with_same];rfl)) (by rw[Ren.with_same];intro h;cases h)
   rw[Ren.with_same]at hv
   have hx:x=⟨x.block,x.off,none⟩:=by obtain⟨b,o,s⟩:=x;simp only at hs;subst hs;rfl
   rw[hx]
   exact hv
  ·obtain⟨sa,m1,m2,m3⟩:=k5 i l hl'
   exact⟨sa,(Ac i).2,m1,m3.mono (List.prefix_append _ _)⟩
  ·unfold ss4;simp only[hrow];rfl
end
end Go.Am
namespace Go.Am
end Go.Am
namespace Go.Am
inductive Tr where
 |v (x:Value)
 |sl (e u:Nat) (cs:List Tr)
 |pt (e:Nat) (cs:List Tr)
section
variable {hF G G':H} {L M:List (Value×Tr)}
end
end Go.Am
namespace Go.Am
def il(zs:List Int):Tr:= .sl 3 1 (zs.map fun z=> .v (.int .i64 z))
section
variable {hF G G':H} {L M:List (Value×Tr)}
end
section
variable {hF G G':H} {L M:List (Value×Tr)}
def ll(e:Nat)(m:List (List Int)):Tr:= .sl e 1 (m.map il)
end
end Go.Am
namespace Go.Am
section
variable {hF G G':H} {L M:List (Value×Tr)}
end
end Go.Am
namespace Go.Am
section
variable {hF G G':H} {L M:List (Value×Tr)}
end
end Go.Am
namespace Go.Proofs.Ytodbgomfeacdhaa
open Go.Am Go.Vm
def nlT{α:Type}:List α→Nat
 | []=>2
 |_::_=>0
theorem b99{α β:Type}(f:α→β): ∀l:List α,nlT (l.map f)=nlT l
 | []=>rfl
 |_::_=>rfl
section
variable {h:H} {sa:Option Addr} {c:Nat} {l:List Int}
theorem v84(hr:RdI h sa c l)(hl:l.length≤1000000): ∃(s':Option Addr) (c':Nat) (h':H),h<+:h'∧Grown h' s' c' l h.length∧call T 92 [.slice sa l.length c] h=some (.slice s' l.length c',h'):=by
 cases sa with
 |none=>
  have hl0:l=[]∧c=0:=by
   rcases hr with⟨_,h1,h2⟩|⟨_,o,off,r,h1,_⟩
   ·exact⟨h2,h1⟩
   ·cases h1
  obtain⟨rfl,rfl⟩:=hl0
  refine⟨none,0,h,List.prefix_refl _, .nil, ?_⟩
  rw[wn8 T92 rfl]
  unfold F92 c92
  simp(disch:=first|omega|(simp only[rl9,wi2,q89]<;>omega)|fail) only[push_cast,seval]
 |some x=>
  obtain⟨o,off,rfl⟩: ∃o off,x=⟨o,off,none⟩:=by
   rcases hr with⟨h1,_⟩|⟨_,o,off,r,h1,_⟩
   ·cases h1
   ·cases h1;exact⟨o,off,rfl⟩
  have hs:=(hr.mono (List.prefix_append h [.row ⟨[],3,1,true⟩])).src
  have e:aapp 3 1 8 (h++[.row ⟨[],3,1,true⟩]) (.slice (some ⟨h.length,0,none⟩) 0 0) (.slice (some ⟨o,off,none⟩) l.length c)=some (.slice (some ⟨h.length+1,0,none⟩) l.length l.length,kill (h++[.row ⟨[],3,1,true⟩]) h.length++[.row ⟨ints l,3,1,true⟩]):=by
   unfold aapp aput
   simp only[hs,cv8]
   rw[if_pos (by simp[few];omega),rl9,Nat.zero_add]
   rfl
  refine⟨some ⟨h.length+1,0,none⟩,l.length,kill (h++[.row ⟨[],3,1,true⟩]) h.length++[.row ⟨ints l,3,1,true⟩],ym5 (uw3 (List.prefix_append _ _) (Nat.le_refl _)), .inr ⟨h.length+1,rfl,by omega,rfl,wq4⟩, ?_⟩
  rw[wn8 T92 rfl]
  unfold F92 c92
  simp(disch:=first|omega|(simp only[rl9,wi2,q89]<;>omega)|fail) only[push_cast,seval,e]
end
theorem da9{h:H}{Z:Nat→Prop}: ∀{zs:List Int} {l:List Value},RdL h Z (ivs zs) l→l=ints zs
 | [],l,hr=>by rw[show ivs []=[]from rfl,RdL]at hr;exact hr
 |z::zs,l,hr=>by
  rw[show ivs (z::zs)= .v (.int .i64 z)::ivs zs from rfl,RdL]at hr
  obtain⟨w,l',rfl,h1,h2⟩:=hr
  rw[Rd]at h1
  rw[h1,da9 h2];rfl
theorem nl4{h:H}{Z:Nat→Prop}{nl e:Nat}{zs:List Int}{w:Value}(hr:Rd h Z (.sl nl e 1 (ivs zs)) w): ∃sa c,w= .slice sa zs.length c∧RdI h sa c zs:=by
 rw[Rd]at hr
 rcases hr with⟨h0,_,_,rfl⟩|⟨o,off,n,c,r,rfl,h1,h2,h3,h4,h5,h6,h7,h8⟩
 ·have:zs=[]:=by cases zs with
   |nil=>rfl
   |cons=>cases h0
  subst this
  exact⟨none,0,rfl, .nil⟩
 ·rw[gf1,Nat.mul_one]at h5
  subst h5
  have h9:=da9 h8
  rw[gf1]at h9
  refine⟨_,c,rfl, .inr ⟨h6,o,off,r,rfl,h2,h3,fun i h0 hi=> ?_⟩⟩
  have h10:=c13 h0 hi
  rw[←h9,List.getElem?_take,if_pos (by omega),List.getElem?_drop]at h10
  exact h10
theorem p27: ∀zs:List Int,eraL (zs.map fun z=>AT.v (.int .i64 z))=ivs zs
 | []=>rfl
 |z::zs=>by rw[List.map_cons,eraL,p27 zs,AT.era];rfl
theorem we9: ∀zs:List Int,fpL (zs.map fun z=>AT.v (.int .i64 z))=[]
 | []=>rfl
 |z::zs=>by rw[List.map_cons,fpL,we9 zs,v_fp];rfl
theorem fs7{h:H}{Z:Nat→Prop}: ∀zs:List Int,okL h Z (zs.map fun z=>AT.v (.int .i64 z))
 | []=>by rw[List.map_nil,okL];trivial
 |z::zs=>by rw[List.map_cons,okL,ok];exact⟨trivial,fs7 zs⟩
theorem pr1{h:H}{Z:Nat→Prop}{sa:Option Addr}{c lo:Nat}{zs:List Int}(g:Grown h sa c zs lo): ∃a:AT,a.val= .slice sa zs.length c∧a.era= .sl (nlT zs) 3 1 (ivs zs)∧(a.fp=[]∨ ∃o,a.fp=[o]∧lo≤o∧o<h.length)∧ok h Z a:=by
 rcases g with⟨rfl,rfl,rfl⟩|⟨o,rfl,h1,rfl,h2⟩
 ·exact⟨.nil 2 3 1,rfl,rfl, .inl (uu7 _ _ _),by rw[ok];exact⟨by decide,by decide⟩⟩
 ·refine⟨.sl o 0 zs.length zs.length (nlT zs) 3 1 (zs.map fun z=>AT.v (.int .i64 z)),rfl,by rw[AT.era,p27], .inr ⟨o,by rw[AT.fp,we9],h1,h44 h2⟩, ?_⟩
  rw[ok]
  refine⟨_,h2,rfl,rfl,rfl,by decide,by simp,Nat.le_refl _,⟨fun hn=> ?_, ?_⟩, ?_,fs7 zs⟩
  ·cases zs<;>cases hn
  ·simp[ints]
  ·show((ints zs).drop 0).take _=_
   rw[List.drop_zero,List.take_of_length_le (by simp[ints]),List.map_map]
   rfl
open Classical in
noncomputable def h90:List AV→Rts→Option VRes
 | [.fz b (.sl nl 0 1 cs)],[]=>if∃zs:List Int,cs=ivs zs∧zs.length≤1000000 then some (.own 0 [],[.sl (nlT cs) 3 1 cs],[])else none
 |_,_=>none
theorem ol3{b:Bool}{nl:Nat}{zs:List Int}(hz:zs.length≤1000000):h90 [.fz b (.sl nl 0 1 (ivs zs))] []=some (.own 0 [],[.sl (nlT zs) 3 1 (ivs zs)],[]):=by
 unfold h90
 simp only[]
 rw[if_pos ⟨zs,rfl,hz⟩]
 unfold ivs
 rw[b99]
theorem x66{xs0:List AV}{C:Rts}{r:VRes}(he:h90 xs0 C=some r):VOK T 92 xs0 C r:=by
 unfold h90 at he
 split at he
 ·rename_i b nl cs
  split at he
  ·rename_i hz
   obtain⟨zs,rfl,hz⟩:=hz
   cases he
   intro h Ac Z Zp ws i hC hv hk
   obtain rfl:Ac=[]:=by cases Ac with
    |nil=>rfl
    |cons=>cases hC
   rw[Vm.VRL]at hv
   obtain⟨w,ws',rfl,h1,h2⟩:=hv
   rw[Vm.VRL]at h2
   subst h2
   rw[Vm.VR]at h1
   obtain⟨sa,c,rfl,hr⟩:=nl4 h1
   obtain⟨s',c',h',p,g,e⟩:=v84 hr hz
   obtain⟨a,a1,a2,a3,a4⟩:=pr1 (Z:=Zp) g
   have hnew: ∀o∈a.fp,h.length≤o∧o<h'.length:=fun o ho=>by
    rcases a3 with a3|⟨x,a3,a5⟩
    ·rw[a3]at ho;cases ho
    ·rw[a3]at ho
     rw[List.mem_singleton.1 ho];exact a5
   have hfp:fpL ([]++[a])=a.fp:=by simp[fpL]
   refine⟨_,h',[],[a],Z,Zp,e,⟨?_,rfl,⟨by rw[List.nil_append,okL,okL];exact⟨a4,trivial⟩,fun x=> ?_,fun o ho=> ?_,fun o ho hz=> ?_,fun o ho=> ?_,i.zp⟩,⟨p.length_le,fun o ho _=>cb1 p ho,fun o ho=> .inr ?_,fun o ho=>ho,fun o ho=> .inl ho⟩, ?_,rfl,fun i a k h1=>by simp at h1⟩⟩
   ·rw[List.map_cons,List.map_nil,a2]
    unfold ivs
    rw[b99]
   ·rw[hfp]
    rcases a3 with a3|⟨x,a3,a5⟩
    ·rw[a3];simp
    ·rw[a3,List.count_singleton];split<;>omega
   ·rw[hfp]at ho;exact(hnew o ho).2
   ·rw[hfp]at ho;have:=i.zlt o hz;have:=hnew o ho;omega
   ·have:=i.zlt o ho;have:=p.length_le;omega
   ·rw[hfp]at ho;exact(hnew o ho).1
   ·rw[Vm.VR]
    refine⟨by simp,fun b hb _=> ?_⟩
    have hb:some a=some b:=hb
    cases hb
    exact a1
  ·cases he
 ·cases he
end Go.Proofs.Ytodbgomfeacdhaa
