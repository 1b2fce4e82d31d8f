/-
  slices.Clone in the first machine, for the second: whether it is nil may not be known. Condition: not too long.
-/
import Derived.Test.YtoglhlonhmmieaaGreatK5
set_option linter.unusedVariables false
set_option linter.unusedSimpArgs false
set_option linter.unusedSectionVars false
set_option maxRecDepth 100000
namespace Go.Proofs.YtoglhlonhmmieaaGreat
open Go.Am Go.Vm
def nlT{α:Type}:List α→Nat
 | []=>2
 |_::_=>0
theorem b99{α β:Type}(f:α→β): ∀l:List α,nlT (l.map f)=nlT l
 | []=>rfl
 |_::_=>rfl
section
variable {h:H} {sa:Option Addr} {c:Nat} {l:List Int}
theorem v84(hr:RdI h sa c l)(hl:l.length≤1000000): ∃(s':Option Addr) (c':Nat) (h':H),h<+:h'∧Grown h' s' c' l h.length∧call T 63 [.slice sa l.length c] h=some (.slice s' l.length c',h'):=by
 cases sa with
 |none=>
  have hl0:l=[]∧c=0:=by
   rcases hr with⟨_,h1,h2⟩|⟨_,o,off,r,h1,_⟩
   ·exact⟨h2,h1⟩
   ·cases h1
  obtain⟨rfl,rfl⟩:=hl0
  refine⟨none,0,h,List.prefix_refl _, .nil, ?_⟩
  rw[wn8 T63 rfl]
  unfold F63 c63
  simp(disch:=first|omega|(simp only[rl9,wi2,q89]<;>omega)|fail) only[push_cast,seval]
 |some x=>
  obtain⟨o,off,rfl⟩: ∃o off,x=⟨o,off,none⟩:=by
   rcases hr with⟨h1,_⟩|⟨_,o,off,r,h1,_⟩
   ·cases h1
   ·cases h1;exact⟨o,off,rfl⟩
  have hs:=(hr.mono (List.prefix_append h [.row ⟨[],3,1,true⟩])).src
  have e:aapp 3 1 8 (h++[.row ⟨[],3,1,true⟩]) (.slice (some ⟨h.length,0,none⟩) 0 0) (.slice (some ⟨o,off,none⟩) l.length c)=some (.slice (some ⟨h.length+1,0,none⟩) l.length l.length,kill (h++[.row ⟨[],3,1,true⟩]) h.length++[.row ⟨ints l,3,1,true⟩]):=by
   unfold aapp aput
   simp only[hs,cv8]
   rw[if_pos (by simp[few];omega),rl9,Nat.zero_add]
   rfl
  refine⟨some ⟨h.length+1,0,none⟩,l.length,kill (h++[.row ⟨[],3,1,true⟩]) h.length++[.row ⟨ints l,3,1,true⟩],ym5 (uw3 (List.prefix_append _ _) (Nat.le_refl _)), .inr ⟨h.length+1,rfl,by omega,rfl,wq4⟩, ?_⟩
  rw[wn8 T63 rfl]
  unfold F63 c63
  simp(disch:=first|omega|(simp only[rl9,wi2,q89]<;>omega)|fail) only[push_cast,seval,e]
end
theorem da9{h:H}{Z:Nat→Prop}: ∀{zs:List Int} {l:List Value},RdL h Z (ivs zs) l→l=ints zs
 | [],l,hr=>by rw[show ivs []=[]from rfl,RdL]at hr;exact hr
 |z::zs,l,hr=>by
  rw[show ivs (z::zs)= .v (.int .i64 z)::ivs zs from rfl,RdL]at hr
  obtain⟨w,l',rfl,h1,h2⟩:=hr
  rw[Rd]at h1
  rw[h1,da9 h2];rfl
theorem nl4{h:H}{Z:Nat→Prop}{nl e:Nat}{zs:List Int}{w:Value}(hr:Rd h Z (.sl nl e 1 (ivs zs)) w): ∃sa c,w= .slice sa zs.length c∧RdI h sa c zs:=by
 rw[Rd]at hr
 rcases hr with⟨h0,_,_,rfl⟩|⟨o,off,n,c,r,rfl,h1,h2,h3,h4,h5,h6,h7,h8⟩
 ·have:zs=[]:=by cases zs with
   |nil=>rfl
   |cons=>cases h0
  subst this
  exact⟨none,0,rfl, .nil⟩
 ·rw[gf1,Nat.mul_one]at h5
  subst h5
  have h9:=da9 h8
  rw[gf1]at h9
  refine⟨_,c,rfl, .inr ⟨h6,o,off,r,rfl,h2,h3,fun i h0 hi=> ?_⟩⟩
  have h10:=c88 h0 hi
  rw[←h9,List.getElem?_take,if_pos (by omega),List.getElem?_drop]at h10
  exact h10
theorem p27: ∀zs:List Int,eraL (zs.map fun z=>AT.v (.int .i64 z))=ivs zs
 | []=>rfl
 |z::zs=>by rw[List.map_cons,eraL,p27 zs,AT.era];rfl
theorem we9: ∀zs:List Int,fpL (zs.map fun z=>AT.v (.int .i64 z))=[]
 | []=>rfl
 |z::zs=>by rw[List.map_cons,fpL,we9 zs,v_fp];rfl
theorem fs7{h:H}{Z:Nat→Prop}: ∀zs:List Int,okL h Z (zs.map fun z=>AT.v (.int .i64 z))
 | []=>by rw[List.map_nil,okL];trivial
 |z::zs=>by rw[List.map_cons,okL,ok];exact⟨trivial,fs7 zs⟩
theorem pr1{h:H}{Z:Nat→Prop}{sa:Option Addr}{c lo:Nat}{zs:List Int}(g:Grown h sa c zs lo): ∃a:AT,a.val= .slice sa zs.length c∧a.era= .sl (nlT zs) 3 1 (ivs zs)∧(a.fp=[]∨ ∃o,a.fp=[o]∧lo≤o∧o<h.length)∧ok h Z a:=by
 rcases g with⟨rfl,rfl,rfl⟩|⟨o,rfl,h1,rfl,h2⟩
 ·exact⟨.nil 2 3 1,rfl,rfl, .inl (uu7 _ _ _),by rw[ok];exact⟨by decide,by decide⟩⟩
 ·refine⟨.sl o 0 zs.length zs.length (nlT zs) 3 1 (zs.map fun z=>AT.v (.int .i64 z)),rfl,by rw[AT.era,p27], .inr ⟨o,by rw[AT.fp,we9],h1,h44 h2⟩, ?_⟩
  rw[ok]
  refine⟨_,h2,rfl,rfl,rfl,by decide,by simp,Nat.le_refl _,⟨fun hn=> ?_, ?_⟩, ?_,fs7 zs⟩
  ·cases zs<;>cases hn
  ·simp[ints]
  ·show((ints zs).drop 0).take _=_
   rw[List.drop_zero,List.take_of_length_le (by simp[ints]),List.map_map]
   rfl
open Classical in
noncomputable def h90:List AV→Rts→Option VRes
 | [.fz b (.sl nl 0 1 cs)],[]=>if∃zs:List Int,cs=ivs zs∧zs.length≤1000000 then some (.own 0 [],[.sl (nlT cs) 3 1 cs],[])else none
 |_,_=>none
theorem ol3{b:Bool}{nl:Nat}{zs:List Int}(hz:zs.length≤1000000):h90 [.fz b (.sl nl 0 1 (ivs zs))] []=some (.own 0 [],[.sl (nlT zs) 3 1 (ivs zs)],[]):=by
 unfold h90
 simp only[]
 rw[if_pos ⟨zs,rfl,hz⟩]
 unfold ivs
 rw[b99]
theorem x66{xs0:List AV}{C:Rts}{r:VRes}(he:h90 xs0 C=some r):VOK T 63 xs0 C r:=by
 unfold h90 at he
 split at he
 ·rename_i b nl cs
  split at he
  ·rename_i hz
   obtain⟨zs,rfl,hz⟩:=hz
   cases he
   intro h Ac Z Zp ws i hC hv hk
   obtain rfl:Ac=[]:=by cases Ac with
    |nil=>rfl
    |cons=>cases hC
   rw[Vm.VRL]at hv
   obtain⟨w,ws',rfl,h1,h2⟩:=hv
   rw[Vm.VRL]at h2
   subst h2
   rw[Vm.VR]at h1
   obtain⟨sa,c,rfl,hr⟩:=nl4 h1
   obtain⟨s',c',h',p,g,e⟩:=v84 hr hz
   obtain⟨a,a1,a2,a3,a4⟩:=pr1 (Z:=Zp) g
   have hnew: ∀o∈a.fp,h.length≤o∧o<h'.length:=fun o ho=>by
    rcases a3 with a3|⟨x,a3,a5⟩
    ·rw[a3]at ho;cases ho
    ·rw[a3]at ho
     rw[List.mem_singleton.1 ho];exact a5
   have hfp:fpL ([]++[a])=a.fp:=by simp[fpL]
   refine⟨_,h',[],[a],Z,Zp,e,⟨?_,rfl,⟨by rw[List.nil_append,okL,okL];exact⟨a4,trivial⟩,fun x=> ?_,fun o ho=> ?_,fun o ho hz=> ?_,fun o ho=> ?_,i.zp⟩,⟨p.length_le,fun o ho _=>cb1 p ho,fun o ho=> .inr ?_,fun o ho=>ho,fun o ho=> .inl ho⟩, ?_,rfl,fun i a k h1=>by simp at h1⟩⟩
   ·rw[List.map_cons,List.map_nil,a2]
    unfold ivs
    rw[b99]
   ·rw[hfp]
    rcases a3 with a3|⟨x,a3,a5⟩
    ·rw[a3];simp
    ·rw[a3,List.count_singleton];split<;>omega
   ·rw[hfp]at ho;exact(hnew o ho).2
   ·rw[hfp]at ho;have:=i.zlt o hz;have:=hnew o ho;omega
   ·have:=i.zlt o ho;have:=p.length_le;omega
   ·rw[hfp]at ho;exact(hnew o ho).1
   ·rw[Vm.VR]
    refine⟨by simp,fun b hb _=> ?_⟩
    have hb:some a=some b:=hb
    cases hb
    exact a1
  ·cases he
 ·cases he
end Go.Proofs.YtoglhlonhmmieaaGreat
