/-
  How many words can stand apart, in plain Lean: of more words than others span them some are told by the rest; what rows make 0; rows turned. No condition. matrix.Reduce, Rank called, in the second machine. Conditions: rows that fit. slices.Index, Contains, in the second machine. Condition: a list that fits. matrix.Null, in the second machine. Conditions: rows that fit. The one form is told by what ..
-/
import Derived.Test.YtlhmdmedagjmnaaK8
import Derived.Test.YtlhmdmedagjmnaaK5
import Derived.Deep.SlicePairs
import Derived.WideShapes
import Derived.Deep.Matrix
import Derived.ChangeArms
set_option linter.unusedVariables false
set_option linter.unusedSimpArgs false
set_option linter.unusedSectionVars false
set_option maxRecDepth 100000
namespace Go.Alg
section
variable {K:Type} [FK K]
theorem y46{α β:Type}(f:α×β→K): ∀(l:List α) (l':List β),l.length=l'.length→ ∀l2 l2',sumL ((l++l2).zip (l'++l2')) f=sumL (l.zip l') f+sumL (l2.zip l2') f:=fun l l' h l2 l2'=>by
 rw[List.zip_append h,up0]
theorem uj4{α β γ:Type}(g:β→γ)(f:α×γ→K): ∀(l:List α) (l':List β),sumL (l.zip (l'.map g)) f=sumL (l.zip l') (fun p=>f (p.1,g p.2))
 | [],_=>rfl
 |_::_,[]=>rfl
 |a::l,b::l'=>by rw[List.map_cons,List.zip_cons_cons,List.zip_cons_cons,gb6,gb6,uj4 g f l l']
theorem hom: ∀(r:Nat) (S:List (Nat→K)),r<S.length→ ∃y:List K,y.length=S.length∧(∃a∈y,a≠0)∧ ∀j,j<r→sumL (y.zip S) (fun p=>p.1*p.2 j)=0
 |0,S,h=>by
  refine⟨List.replicate S.length 1,List.length_replicate,⟨1,List.mem_replicate.2 ⟨by omega,rfl⟩,ki7⟩,fun j hj=>absurd hj (Nat.not_lt_zero j)⟩
 |r+1,S,h=>by
  by_cases hs: ∃s∈S,s r≠0
  ·obtain⟨s,hs,hne⟩:=hs
   obtain⟨S1,S2,rfl⟩:=List.append_of_mem hs
   have hl:r<((S1++S2).map (fun(t:Nat→K) j=>t j-t r*FK.inv (s r)*s j)).length:=by
    simp only[List.length_map,List.length_append,List.length_cons]at h⊢;omega
   obtain⟨y,y1,⟨a,y2,y3⟩,y4⟩:=hom r _ hl
   rw[List.length_map,List.length_append]at y1
   have hsp:y=y.take S1.length++y.drop S1.length:=(List.take_append_drop _ _).symm
   have h1:(y.take S1.length).length=S1.length:=by rw[List.length_take];omega
   have h2:(y.drop S1.length).length=S2.length:=by rw[List.length_drop];omega
   generalize y.take S1.length=u at hsp h1
   generalize y.drop S1.length=w at hsp h2
   subst hsp
   have hsum: ∀(c:K) j,sumL ((u++c::w).zip (S1++s::S2)) (fun p=>p.1*p.2 j)=sumL ((u++w).zip (S1++S2)) (fun p=>p.1*p.2 j)+c*s j:=fun c j=>by
    rw[y46 _ _ _ h1,y46 _ _ _ h1,List.zip_cons_cons,gb6,FK.add_assoc,FK.add_comm (sumL (w.zip S2) _)]
   refine⟨u++ -(sumL ((u++w).zip (S1++S2)) (fun p=>p.1*p.2 r)*FK.inv (s r))::w, ?_,⟨a, ?_,y3⟩,fun j hj=> ?_⟩
   ·simp only[List.length_append,List.length_cons,h1,h2]
   ·simp only[List.mem_append,List.mem_cons]at y2⊢
    rcases y2 with y2|y2
    ·exact .inl y2
    ·exact .inr (.inr y2)
   ·rw[hsum]
    by_cases hjr:j=r
    ·subst hjr
     rw[neg_mul,FK.mul_assoc,inv_mul hne,FK.mul_one,FK.add_neg]
    ·have h3:=y4 j (by omega)
     rw[uj4]at h3
     have h4:sumL ((u++w).zip (S1++S2)) (fun p=>p.1*(p.2 j-p.2 r*FK.inv (s r)*s j))=sumL ((u++w).zip (S1++S2)) (fun p=>p.1*p.2 j)-sumL ((u++w).zip (S1++S2)) (fun p=>p.1*p.2 r)*FK.inv (s r)*s j:=by
      rw[←ue3,←ue3,←b15]
      refine ox7 fun p _=> ?_
      rw[mul_sub,←FK.mul_assoc,←FK.mul_assoc]
     have h3:sumL ((u++w).zip (S1++S2)) (fun p=>p.1*(p.2 j-p.2 r*FK.inv (s r)*s j))=0:=h3
     rw[h4]at h3
     rw[neg_mul,←sub_eq,h3]
  ·obtain⟨y,y1,y2,y3⟩:=hom r S (by omega)
   refine⟨y,y1,y2,fun j hj=> ?_⟩
   by_cases hjr:j=r
   ·subst hjr
    refine tx6 fun p hp=> ?_
    have:p.2 j=0:=Classical.byContradiction fun hne=>hs ⟨p.2,(List.of_mem_zip hp).2,hne⟩
    rw[this,mul_zero]
   ·exact y3 j (by omega)
def wu9(S:List (Nat→K)):Prop:= ∀y:List K,y.length=S.length→(∀k,sumL (y.zip S) (fun p=>p.1*p.2 k)=0)→ ∀a∈y,a=0
theorem tw1{R:List (Nat→K)}{w:Nat→K}(h:Span R w): ∃c:Nat→K,w=fun k=>sumN R.length fun j=>c j*(R.getD j fun _=>0) k:=by
 refine h.lin (P:=fun w=> ∃c:Nat→K,w=fun k=>sumN R.length fun j=>c j*(R.getD j fun _=>0) k) ?_ ?_ ?_
 ·exact⟨fun _=>0,by funext k;exact(ja4 fun j _=>zero_mul _).symm⟩
 ·rintro _ _ c ⟨c1,rfl⟩ ⟨c2,rfl⟩
  refine⟨fun j=>c1 j+c*c2 j, ?_⟩
  funext k
  show sumN _ _+c*sumN _ _=_
  unfold sumN
  rw[←ro9,←jl9]
  refine ox7 fun j _=> ?_
  rw[add_mul,FK.mul_assoc]
 ·intro r hr
  obtain⟨i,hi,rfl⟩:=List.getElem_of_mem hr
  refine⟨fun j=>if j=i then 1 else 0, ?_⟩
  funext k
  rw[xq2 hi fun j hj hne=>by show(if j=i then(1:K)else 0)*_=0;rw[if_neg hne,zero_mul]]
  show _=(if i=i then(1:K)else 0)*_
  rw[if_pos rfl,one_mul,List.getD_eq_getElem?_getD,List.getElem?_eq_getElem hi];rfl
theorem c99{R S:List (Nat→K)}(hS: ∀s∈S,Span R s)(hi:wu9 S):S.length≤R.length:=by
 refine Classical.byContradiction fun hlt=> ?_
 have hc: ∀s:{s//s∈S},∃c:Nat→K,s.1=fun k=>sumN R.length fun j=>c j*(R.getD j fun _=>0) k:=fun s=>tw1 (hS s.1 s.2)
 obtain⟨C,hC⟩:=Classical.axiomOfChoice hc
 obtain⟨y,y1,⟨a,y2,y3⟩,y4⟩:=hom R.length (S.attach.map C) (by rw[List.length_map,List.length_attach];omega)
 rw[List.length_map,List.length_attach]at y1
 refine y3 (hi y y1 (fun k=> ?_) a y2)
 have h1:sumL (y.zip S) (fun p=>p.1*p.2 k)=sumL (y.zip S.attach) (fun p=>p.1*p.2.1 k):=by
  have h0:S=S.attach.map Subtype.val:=(List.attach_map_subtype_val S).symm
  conv=>lhs;rw[h0]
  rw[uj4]
 rw[h1]
 have h2: ∀p∈y.zip S.attach,p.1*p.2.1 k=sumN R.length fun j=>p.1*(C p.2 j*(R.getD j fun _=>0) k):=fun p _=>by
  have:=congrFun (hC p.2) k
  rw[this]
  unfold sumN
  rw[ro9]
 rw[ox7 h2]
 unfold sumN
 rw[j53]
 refine tx6 fun j hj=> ?_
 have h3:=y4 j (List.mem_range.1 hj)
 rw[uj4]at h3
 have h4:sumL (y.zip S.attach) (fun p=>p.1*(C p.2 j*(R.getD j fun _=>0) k))=sumL (y.zip S.attach) (fun p=>p.1*C p.2 j)*(R.getD j fun _=>0) k:=by
  rw[←ue3]
  exact ox7 fun p _=>(FK.mul_assoc _ _ _).symm
 have h3:sumL (y.zip S.attach) (fun p=>p.1*C p.2 j)=0:=h3
 rw[h4,h3,zero_mul]
theorem nu5{α β:Type}(f:α×β→K)(da:α)(db:β): ∀(l:List α) (l':List β),l.length=l'.length→sumL (l.zip l') f=sumN l.length fun i=>f (l.getD i da,l'.getD i db)
 | [],_,_=>rfl
 |a::l,b::l',h=>by
  rw[List.zip_cons_cons,gb6,List.length_cons,c71,nu5 f da db l l' (by simpa using h)];rfl
theorem wx6{S:List (Nat→K)}(P:Nat→Nat)(h: ∀i j,i<S.length→j<S.length→(S.getD i fun _=>0) (P j)=if i=j then 1 else 0):wu9 S:=by
 intro y hy h0 a ha
 obtain⟨j,hj,rfl⟩:=List.getElem_of_mem ha
 have h1:=h0 (P j)
 rw[nu5 _ 0 (fun _=>0) y S hy,xq2 hj (fun i hi hne=>by show y.getD i 0*(S.getD i fun _=>0) (P j)=0;rw[h i j (by omega) (by omega),if_neg hne,mul_zero])]at h1
 have h1:y.getD j 0*(S.getD j fun _=>0) (P j)=0:=h1
 rw[h j j (by omega) (by omega),if_pos rfl,FK.mul_one,List.getD_eq_getElem?_getD,List.getElem?_eq_getElem hj]at h1
 exact h1
theorem Rref.indep{n:Nat}{A:List (Nat×(Nat→K))}(h:Rref n A):wu9 (rowsOf A):=by
 have hl:(rowsOf A).length=A.length:=by unfold rowsOf;rw[List.length_map]
 refine wx6 (fun j=>(A.getD j (0,fun _=>0)).1) fun i j hi hj=> ?_
 rw[hl]at hi hj
 have h1:(rowsOf A).getD i (fun _=>0)=A[i].2:=by unfold rowsOf;rw[List.getD_eq_getElem?_getD,List.getElem?_map,List.getElem?_eq_getElem hi];rfl
 have h2:A.getD j (0,fun _=>0)=A[j]:=by rw[List.getD_eq_getElem?_getD,List.getElem?_eq_getElem hj];rfl
 rw[h1,h2]
 by_cases he:i=j
 ·subst he;rw[if_pos rfl];exact h.one _ (List.getElem_mem hi)
 ·rw[if_neg he]
  refine h.zero _ (List.getElem_mem hi) _ (List.getElem_mem hj) fun e=> ?_
  have:=List.pairwise_iff_getElem.1 h.nodup
  rcases Nat.lt_or_gt_of_ne he with hlt|hlt
  ·exact this i j hi hj hlt e
  ·exact this j i hj hi hlt e.symm
theorem Rref.le{n:Nat}{A:List (Nat×(Nat→K))}(h:Rref n A){R:List (Nat→K)}(hs: ∀w,Span (rowsOf A) w→Span R w):A.length≤R.length:=by
 have:=c99 (S:=rowsOf A) (R:=R) (fun s hs'=>hs s (.mem hs')) h.indep
 unfold rowsOf at this
 rwa [List.length_map]at this
theorem Rref.ge{n:Nat}{A:List (Nat×(Nat→K))}(h:Rref n A){S:List (Nat→K)}(hi:wu9 S)(hs: ∀w∈S,Span (rowsOf A) w):S.length≤A.length:=by
 have:=c99 hs hi
 unfold rowsOf at this
 rwa [List.length_map]at this
theorem Rref.same{n:Nat}{A B:List (Nat×(Nat→K))}(h:Rref n A)(g:Rref n B)(hs: ∀w,Span (rowsOf A) w→Span (rowsOf B) w)(hl:B.length≤A.length):A=B:=by
 refine h.uniq g fun w=>⟨hs w,fun hw=> ?_⟩
 refine Classical.byContradiction fun hno=> ?_
 --w and A's rows stand apart
 have hi:wu9 (w::rowsOf A):=by
  intro y hy h0 a ha
  cases y with
  |nil=>cases ha
  |cons c y=>
   have hy':y.length=(rowsOf A).length:=by simpa using hy
   have hc:c=0:=Classical.byContradiction fun hne=>hno (by
    have h1:w=fun k=>sumL (y.zip (rowsOf A)) fun p=>(-(FK.inv c)*p.1)*p.2 k:=by
     funext k
     have h2:=h0 k
     rw[List.zip_cons_cons,gb6]at h2
     have h3:c*w k= -(sumL (y.zip (rowsOf A)) fun p=>p.1*p.2 k):=by
      rw[FK.add_comm]at h2;exact ut3 h2
     have h4:sumL (y.zip (rowsOf A)) (fun p=>(-(FK.inv c)*p.1)*p.2 k)=FK.inv c* -(sumL (y.zip (rowsOf A)) fun p=>p.1*p.2 k):=by
      rw[mul_neg,←neg_mul,←ro9]
      exact ox7 fun p _=>FK.mul_assoc _ _ _
     rw[h4,←h3,←FK.mul_assoc,inv_mul hne,one_mul]
    rw[h1]
    exact Span.sum (f:=fun p:K×(Nat→K)=>p.2) fun p hp=> .mem (List.of_mem_zip hp).2)
   rcases List.mem_cons.1 ha with rfl|ha
   ·exact hc
   ·refine h.indep y hy' (fun k=> ?_) a ha
    have:=h0 k
    rwa [List.zip_cons_cons,gb6,hc,zero_mul,zero_add]at this
 have:=g.ge hi fun s hs'=>by
  rcases List.mem_cons.1 hs' with rfl|hs'
  ·exact hw
  ·exact hs s (.mem hs')
 simp only[List.length_cons,rowsOf,List.length_map]at this
 omega
end
section
variable {K:Type} [FK K] {n:Nat}
def dotF(n:Nat)(u w:Nat→K):K:=sumN n fun k=>u k*w k
theorem sc2(u w:Nat→K):dotF n u w=dotF n w u:=rc1 fun k _=>FK.mul_comm _ _
theorem xs8(c:K)(u r w:Nat→K):dotF n (axp c u r) w=dotF n u w+c*dotF n r w:=by
 unfold dotF sumN
 rw[←ro9,←jl9]
 refine ox7 fun k _=> ?_
 show(u k+c*r k)*w k=_
 rw[add_mul,FK.mul_assoc]
theorem mj9(w:Nat→K):dotF n (fun _=>0) w=0:=ja4 fun _ _=>zero_mul _
theorem fz3{R:List (Nat→K)}{w:Nat→K}(h: ∀r∈R,dotF n r w=0){u:Nat→K}(hu:Span R u):dotF n u w=0:=
 hu.lin (P:=fun u=>dotF n u w=0) (mj9 w) (fun u r c h1 h2=>by rw[xs8,h1,h2,mul_zero,FK.add_zero]) h
theorem ui3{R:List (Nat→K)}{u:Nat→K}(h: ∀r∈R,dotF n u r=0){w:Nat→K}(hw:Span R w):dotF n u w=0:=by
 rw[sc2];exact fz3 (fun r hr=>by rw[sc2];exact h r hr) hw
def sk9(n:Nat)(A:List (Nat×List K)):List Nat:=(List.range n).filter fun c=> !(A.any fun a=>a.1==c)
theorem c70(n:Nat)(A:List (Nat×List K)): ∀d c,ez9 n A d c=((List.range' c d).filter fun c=> !(A.any fun a=>a.1==c)).map fun c=>xRow n c A
 |0,_=>rfl
 |d+1,c=>by
  rw[ez9,List.range'_succ,List.filter_cons,c70 n A d (c+1)]
  cases (A.any fun a=>a.1==c)<;>rfl
theorem pv1(n:Nat)(A:List (Nat×List K)):ez9 n A n 0=(sk9 n A).map fun c=>xRow n c A:=by
 rw[c70];unfold sk9;rw[List.range_eq_range']
omit [FK K] in
theorem oz8{A:List (Nat×List K)}{c:Nat}:c∈sk9 n A↔c<n∧ ∀a∈A,a.1≠c:=by
 unfold sk9
 rw[List.mem_filter,List.mem_range]
 simp
omit [FK K] in
theorem a89(A:List (Nat×List K)):(sk9 n A).Nodup:=List.Pairwise.filter _ List.nodup_range
omit [FK K] in
theorem ir1{A:List (Nat×List K)}(hn:A.Pairwise fun a b=>a.1≠b.1)(hlt: ∀a∈A,a.1<n):(sk9 n A).length+A.length=n:=by
 have h1: ∀l:List Nat,(l.filter fun c=> !(A.any fun a=>a.1==c)).length+(l.filter fun c=>A.any fun a=>a.1==c).length=l.length:=by
  intro l
  induction l with
  |nil=>rfl
  |cons c l ih=>
   rw[List.filter_cons,List.filter_cons]
   cases (A.any fun a=>a.1==c)<;>simp<;>omega
 have h2:=h1 (List.range n)
 rw[List.length_range]at h2
 have h3:((List.range n).filter fun c=>A.any fun a=>a.1==c).Perm (A.map Prod.fst):=by
  refine(List.perm_ext_iff_of_nodup (List.Pairwise.filter _ List.nodup_range) ?_).2 fun c=> ?_
  ·exact List.pairwise_map.2 hn
  ·rw[List.mem_filter,List.mem_range,List.mem_map,List.any_eq_true]
   constructor
   ·rintro⟨_,a,ha,he⟩;exact⟨a,ha,by simpa using he⟩
   ·rintro⟨a,ha,rfl⟩;exact⟨hlt a ha,a,ha,by simp⟩
 have h4:=h3.length_eq
 rw[List.length_map]at h4
 unfold sk9
 omega
theorem a42{c:Nat}: ∀(A:List (Nat×List K)) (x:List K),A.Pairwise (fun a b=>a.1≠b.1)→(∀a∈A,a.1<x.length)→ ∀k,wf (setN c A x) k=if(∃a∈A,a.1=k)then sumL A (fun a=>if a.1=k then-(wf a.2 c)else 0)else wf x k
 | [],x,_,_,k=>by rw[if_neg (by rintro⟨a,h,_⟩;cases h)];rfl
 |a::A,x,hn,hl,k=>by
  rw[List.pairwise_cons]at hn
  rw[setN,a42 A _ hn.2 (fun b hb=>by rw[List.length_set];exact hl b (by simp[hb])) k,wf_set (hl a (by simp)),gb6]
  by_cases he:a.1=k
  ·have hno: ¬ ∃b∈A,b.1=k:=fun⟨b,hb,e⟩=>hn.1 b hb (by rw[he,e])
   rw[if_neg hno,if_pos he.symm,if_pos ⟨a,by simp,he⟩,if_pos he,tx6 fun b hb=>if_neg fun e=>hno ⟨b,hb,e⟩,FK.add_zero]
  ·have h1:(if k=a.1 then-(wf a.2 c)else wf x k)=wf x k:=if_neg fun e=>he e.symm
   have h2:(if a.1=k then-(wf a.2 c)else 0)=0:=if_neg he
   rw[h1,h2,zero_add]
   by_cases hex: ∃b∈A,b.1=k
   ·obtain⟨b,hb,e⟩:=hex
    rw[if_pos ⟨b,hb,e⟩,if_pos ⟨b,by simp[hb],e⟩]
   ·rw[if_neg hex,if_neg]
    rintro⟨b,hb,e⟩
    rcases List.mem_cons.1 hb with rfl|hb
    ·exact he e
    ·exact hex ⟨b,hb,e⟩
section
variable {A:List (Nat×List K)} (hr:Rref n (toF A))
include hr
theorem f54:A.Pairwise fun a b=>a.1≠b.1:=by
 have:=hr.nodup
 unfold toF at this
 rwa [List.pairwise_map]at this
theorem a68: ∀a∈A,a.1<n:=fun a ha=>hr.lt (a.1,wf a.2) (xe5.2 ⟨a,ha,rfl⟩)
theorem up3{c:Nat}(hc:c∈sk9 n A)(k:Nat):wf (xRow n c A) k=if(∃a∈A,a.1=k)then sumL A (fun a=>if a.1=k then-(wf a.2 c)else 0)else if k=c then 1 else 0:=by
 have hcn:=(oz8.1 hc).1
 unfold xRow
 rw[a42 A _ (f54 hr) (fun a ha=>by rw[List.length_set,List.length_replicate];exact a68 hr a ha) k,wf_set (by rw[List.length_replicate];exact hcn)]
 congr 2
 unfold wf
 rw[List.getD_eq_getElem?_getD,List.getElem?_replicate]
 split<;>rfl
theorem st6{c k:Nat}(hc:c∈sk9 n A)(hk:k∈sk9 n A):wf (xRow n c A) k=if k=c then 1 else 0:=by
 rw[up3 hr hc,if_neg]
 rintro⟨a,ha,e⟩
 exact(oz8.1 hk).2 a ha e
theorem z98{c:Nat}(hc:c∈sk9 n A){a:Nat×List K}(ha:a∈A):wf (xRow n c A) a.1= -(wf a.2 c):=by
 rw[up3 hr hc,if_pos ⟨a,ha,rfl⟩]
 have: ∀{B:List (Nat×List K)},B.Pairwise (fun a b=>a.1≠b.1)→a∈B→sumL B (fun b=>if b.1=a.1 then-(wf b.2 c)else 0)= -(wf a.2 c):=by
  intro B hB hb
  induction B with
  |nil=>cases hb
  |cons b B ih=>
   rw[List.pairwise_cons]at hB
   rw[gb6]
   rcases List.mem_cons.1 hb with rfl|hb
   ·rw[if_pos rfl,tx6 fun b hb=>if_neg fun e=>hB.1 b hb e.symm,FK.add_zero]
   ·have:(if b.1=a.1 then-(wf b.2 c)else 0)=0:=if_neg (hB.1 a hb)
    rw[this,zero_add,ih hB.2 hb]
 exact this (f54 hr) ha
theorem uz6{a:Nat×List K}(ha:a∈A)(w:Nat→K):dotF n (wf a.2) w=w a.1+sumL (sk9 n A) fun c=>wf a.2 c*w c:=by
 have hp:((List.range n).filter fun c=>A.any fun a=>a.1==c).Perm (A.map Prod.fst):=by
  refine(List.perm_ext_iff_of_nodup (List.Pairwise.filter _ List.nodup_range) ?_).2 fun c=> ?_
  ·exact List.pairwise_map.2 (f54 hr)
  ·rw[List.mem_filter,List.mem_range,List.mem_map,List.any_eq_true]
   constructor
   ·rintro⟨_,a,ha,he⟩;exact⟨a,ha,by simpa using he⟩
   ·rintro⟨a,ha,rfl⟩;exact⟨a68 hr a ha,a,ha,by simp⟩
 have hsplit: ∀(l:List Nat) (f:Nat→K),sumL l f=sumL (l.filter fun c=>A.any fun a=>a.1==c) f+sumL (l.filter fun c=> !(A.any fun a=>a.1==c)) f:=by
  intro l f
  induction l with
  |nil=>exact(FK.add_zero _).symm
  |cons c l ih=>
   rw[List.filter_cons,List.filter_cons,gb6,ih]
   cases (A.any fun a=>a.1==c)with
   |true=>simp only[if_true,Bool.not_true,Bool.false_eq_true,if_false,gb6];rw[FK.add_assoc]
   |false=>simp only[if_true,Bool.not_false,Bool.false_eq_true,if_false,gb6];rw[←FK.add_assoc,FK.add_comm (f c),FK.add_assoc]
 unfold dotF sumN sk9
 rw[hsplit]
 congr 1
 rw[j94 (s:=a.1) (List.Pairwise.filter _ List.nodup_range)]
 ·have:=hr.one (a.1,wf a.2) (xe5.2 ⟨a,ha,rfl⟩)
  have:wf a.2 a.1=1:=this
  rw[this,one_mul]
 ·rw[List.mem_filter,List.mem_range,List.any_eq_true];exact⟨a68 hr a ha,a,ha,by simp⟩
 ·intro c hc hne
  rw[List.mem_filter,List.any_eq_true]at hc
  obtain⟨_,b,hb,he⟩:=hc
  have he:b.1=c:=by simpa using he
  have:=hr.zero (a.1,wf a.2) (xe5.2 ⟨a,ha,rfl⟩) (b.1,wf b.2) (xe5.2 ⟨b,hb,rfl⟩) (fun e=>hne (by rw[←he];exact e.symm))
  have:wf a.2 b.1=0:=this
  rw[←he,this,zero_mul]
theorem dn9{w:Nat→K}:Span ((ez9 n A n 0).map wf) w↔(∀k,n≤k→w k=0)∧ ∀a∈A,dotF n (wf a.2) w=0:=by
 have hx: ∀x∈(ez9 n A n 0).map wf,∃c∈sk9 n A,x=wf (xRow n c A):=fun x hx=>by
  rw[pv1,List.map_map]at hx
  obtain⟨c,hc,rfl⟩:=List.mem_map.1 hx
  exact⟨c,hc,rfl⟩
 constructor
 ·intro h
  refine⟨fun k hk=> ?_,fun a ha=>ui3 (fun r hr'=> ?_) h⟩
  ·refine h.lin (P:=fun w=>w k=0) rfl (fun u r c h1 h2=> ?_) fun r hr'=> ?_
   ·show u k+c*r k=0
    rw[h1,h2,mul_zero,FK.add_zero]
   ·obtain⟨c,hc,rfl⟩:=hx r hr'
    exact ez8 (by rw[x22];exact hk)
  ·obtain⟨c,hc,rfl⟩:=hx r hr'
   rw[uz6 hr ha,z98 hr hc ha,j94 (s:=c) (a89 A) hc fun k hk hne=>by rw[st6 hr hc hk,if_neg hne,mul_zero],st6 hr hc hc,if_pos rfl,FK.mul_one,neg_add]
 ·rintro⟨h1,h2⟩
  have h3:w=fun k=>sumL (sk9 n A) fun c=>w c*wf (xRow n c A) k:=by
   funext k
   by_cases hkn:n≤k
   ·rw[h1 k hkn,tx6 fun c hc=>by rw[ez8 (by rw[x22];exact hkn),mul_zero]]
   ·by_cases hex: ∃a∈A,a.1=k
    ·obtain⟨a,ha,rfl⟩:=hex
     have h4:=h2 a ha
     rw[uz6 hr ha,FK.add_comm]at h4
     rw[ut3 h4,←eq0]
     refine ox7 fun c hc=> ?_
     rw[z98 hr hc ha,mul_neg,FK.mul_comm]
    ·have hk:k∈sk9 n A:=oz8.2 ⟨by omega,fun a ha e=>hex ⟨a,ha,e⟩⟩
     rw[j94 (s:=k) (a89 A) hk fun c hc hne=>by rw[st6 hr hc hk,if_neg fun e=>hne e.symm,mul_zero],st6 hr hk hk,if_pos rfl,FK.mul_one]
  rw[h3]
  refine Span.sum fun c hc=> .mem ?_
  rw[pv1,List.map_map]
  exact List.mem_map.2 ⟨c,hc,rfl⟩
theorem hs0:wu9 ((ez9 n A n 0).map wf):=by
 rw[pv1,List.map_map]
 refine wx6 (fun j=>(sk9 n A).getD j 0) fun i j hi hj=> ?_
 rw[List.length_map]at hi hj
 have h1:(((sk9 n A).map (wf∘fun c=>xRow n c A)).getD i fun _=>0)=wf (xRow n (sk9 n A)[i] A):=by
  rw[List.getD_eq_getElem?_getD,List.getElem?_map,List.getElem?_eq_getElem hi];rfl
 have h2:(sk9 n A).getD j 0=(sk9 n A)[j]:=by rw[List.getD_eq_getElem?_getD,List.getElem?_eq_getElem hj];rfl
 rw[h1,h2,st6 hr (List.getElem_mem hi) (List.getElem_mem hj)]
 by_cases he:i=j
 ·subst he;rw[if_pos rfl,if_pos rfl]
 ·rw[if_neg he,if_neg fun e=>he ((List.getElem_inj (a89 A)).1 e).symm]
end
theorem sw1{M:List (List K)}(hM: ∀m∈M,m.length=n):Rref n (toF (zt5 n M))∧(∀a∈zt5 n M,a.2.length=n)∧(∀w,Span (rowsOf (toF (zt5 n M))) w↔(∀k,n≤k→w k=0)∧ ∀m∈M,dotF n (wf m) w=0)∧(zt5 n M).length+(redR M).length=n:=by
 obtain⟨r1,r2,r3⟩:=bi2 hM
 obtain⟨s1,s2,s3⟩:=bi2 (sg4 n (redR M) n 0)
 refine⟨s1,s2,fun w=> ?_, ?_⟩
 ·unfold zt5
  rw[s3,dn9 r1]
  refine and_congr_right fun _=>⟨fun h m hm=> ?_,fun h a ha=> ?_⟩
  ·refine fz3 (fun r hr=> ?_) ((r3 _).2 (.mem (List.mem_map.2 ⟨m,hm,rfl⟩)))
   obtain⟨a,ha,rfl⟩:=he1.1 hr
   exact h a ha
  ·refine fz3 (fun r hr=> ?_) ((r3 _).1 (.mem (he1.2 ⟨a,ha,rfl⟩)))
   obtain⟨m,hm,rfl⟩:=List.mem_map.1 hr
   exact h m hm
 ·have h1:=s1.le fun w hw=>(s3 w).1 hw
  have h2:=s1.ge (hs0 r1) fun w hw=>(s3 w).2 (.mem hw)
  have h3:=ir1 (f54 r1) (a68 r1)
  have hn:zt5 n M=redR (ez9 n (redR M) n 0):=rfl
  rw[←hn]at h1 h2
  rw[pv1,List.length_map,List.length_map]at h1 h2
  unfold toF at h1 h2
  rw[List.length_map]at h1 h2
  omega
theorem ew4{M:List (List K)}(hM: ∀m∈M,m.length=n):(redR M).length≤M.length:=by
 obtain⟨r1,r2,r3⟩:=bi2 hM
 have:=r1.le fun w hw=>(r3 w).1 hw
 unfold toF at this
 simpa using this
def f05(n k:Nat):List K:=(List.replicate n 0).set k 1
theorem sm5(n k:Nat):(f05 n k:List K).length=n:=by unfold f05;simp
theorem ez3{n k:Nat}(hk:k<n)(i:Nat):wf (f05 n k:List K) i=if i=k then 1 else 0:=by
 unfold f05
 rw[wf_set (by simpa using hk)]
 congr 1
 unfold wf
 rw[List.getD_eq_getElem?_getD,List.getElem?_replicate]
 split<;>rfl
end
end Go.Alg
namespace Go.Proofs.Ytlhmdmedagjmnaa
open Go.Am Go.Vm Go.Alg
section
variable {q:Int} {b:Bool} {nl nr:Nat}
theorem e58(he:matE q []=0):o24 W 45 [.x (.int .i64 q), .fz b (.sl nl 0 1 [])] []=some (.tup [.x (.slice none 0 0), .own 0 [], .x (.int .i64 0)],[.sl 1 3 1 []],[]):=by
 have e1:=fun b nl=>or9 (q:=q) (M:=[]) (b:=b) (nl:=nl) (nr:=0)
 simp only[em1,he]at e1
 rw[o10 rfl T45 rfl]
 unfold F45 c45
 simp(disch:=first|omega|fail) only[push_cast,seval,ui5,lu7,y81,bj9,wrap64,dec_lt,cw6,nl3,qc6,mr8,nb8,if_pos,if_neg,e1]
theorem ru4 [IsFld q]{N:List (List (El q))}{n:Nat}(hr: ∀r∈N,r.length=n): ∀r∈N.map vs,r.length=n:=fun c hc=>by
 obtain⟨r,hr',rfl⟩:=List.mem_map.1 hc
 rw[fi2,hr r hr']
theorem sy6 [IsFld q]{N:List (List (El q))}{n:Nat}(hl:N.length≤64)(hr: ∀r∈N,r.length=n)(h0:0<n)(hn:n≤64):matE q (N.map vs)=0:=by
 obtain⟨d,hd⟩:=gh1 (q:=q)
 unfold matE
 rw[hd]
 show(if 64<(N.map vs).length then 4 else _)=(0:Int)
 rw[if_neg (by rw[List.length_map];omega),kn4]
 have: ∀L:List (List (El q)),(∀r∈L,r∈N)→wb9 q (nth N 0).length (L.map vs)=0:=by
  intro L
  induction L with
  |nil=>intro _;rfl
  |cons r L ih=>
   intro h
   have h1:r∈N:=h r (by simp)
   have h2:(nth N 0).length=n:=by
    cases N with
    |nil=>cases h1
    |cons a N=>exact hr a (by simp)
   rw[List.map_cons,wb9,if_pos,ih fun x hx=>h x (by simp[hx])]
   unfold rowE
   rw[fi2,hr r h1,h2,if_neg (by omega),if_neg (by omega),if_neg]
   intro h3
   obtain⟨z,hz,h4⟩:=List.any_eq_true.1 h3
   obtain⟨x,hx,rfl⟩:=List.mem_map.1 hz
   rw[x.ok]at h4
   cases h4
 exact this N fun r h=>h
theorem lq3 [IsFld q]{N:List (List (El q))}{n:Nat}(h0:0<N.length)(hl:N.length≤64)(hr: ∀r∈N,r.length=n)(hn0:0<n)(hn:n≤64):
 o24 W 45 [.x (.int .i64 q), .fz b (.sl nl 0 1 (lvs nr (N.map vs)))] []=some (.tup [.own 0 [], .own 1 [], .x (.int .i64 0)],[.sl 0 34 1 (lls 2 (pvR (redR N))), .sl 1 3 1 (ivs (pvP (redR N)))],[]):=by
 have he:=sy6 hl hr hn0 hn
 have hrv:=ru4 hr
 have e1:=fun b nl nr=>or9 (q:=q) (M:=N.map vs) (b:=b) (nl:=nl) (nr:=nr)
 simp only[he]at e1
 have e2:=fun b nl nr=>y80 (b:=b) (nl:=nl) (nr:=nr) (M:=N.map vs) (fun r hr'=>by have:=hrv r hr';omega) (by rw[List.length_map];omega)
 obtain⟨M',P',c',I,hd,e3⟩:=x17 (M0:=N) (n:=n) (R:=N.length) rfl h0 (by omega) (by omega) n 0 N [] (by omega) (RedI.start hr)
 have hout:=I.end' hd hr
 have hpl:=I.pl
 have hfst:=t15 hpl
 have hsnd:=hn3 hpl
 rw[hout]at hfst hsnd
 have hP:pn P'=pvP (redR N):=by rw[←hfst];unfold pn pvP;rw[List.map_map];rfl
 have hPl:P'.length=(redR N).length:=by rw[←hfst,List.length_map]
 have hR:(M'.map vs).take (redR N).length=pvR (redR N):=by
  rw[←hPl,←List.map_take,←hsnd];unfold pvR;rw[List.map_map];rfl
 have hMl:M'.length=N.length:=I.len
 rw[hP]at e3
 have hpl2:=ga8 (redR N)
 have hnil:ivs (pn [])=[]:=rfl
 rw[hnil]at e3
 simp only[Int.natCast_zero]at e3
 have htk:(lls 2 (M'.map vs)).take (redR N).length=lls 2 (pvR (redR N)):=by rw[mm0,hR]
 rw[o10 rfl T45 rfl]
 unfold F45 c45
 simp(disch:=first|omega|fail) only[push_cast,seval,ui5,lu7,y81,bj9,wrap64,dec_lt,cw6,nl3,qc6,mr8,nb8,if_pos,if_neg,e1,e2]
 rw[e3]
 simp(disch:=first|omega|fail) only[push_cast,seval,ui5,lu7,y81,bj9,wrap64,dec_lt,cw6,nl3,qc6,mr8,nb8,if_pos,if_neg,hpl2,htk]
end
end Go.Proofs.Ytlhmdmedagjmnaa
namespace Go.Proofs.Ytlhmdmedagjmnaa
open Go.Am Go.Vm Go.Alg
section
variable {l:List Int} {nl:Nat} {b:Bool} {x:Int}
theorem a02(hl:l.length≤9223372036854775807): ∀(n i:Nat),i+n=l.length→ ∀ks,
 vgoL W ⟨hNo,[.tmp 4],0⟩ [0,1,7,8] c102L0 (.blk 0 []::ks) [(0, .fz b (.sl nl 0 1 (ivs l))),(1, .x (.int .i64 x)),(7, .x (.int .i64 l.length)),(8, .x (.int .i64 i))] []=
  if fidx (fun y=>decide (x=y)) i (l.drop i)= -1 then vgo W ⟨hNo,[.tmp 4],0⟩ ks (VFr.of []) []else some (.x (.int .i64 (fidx (fun y=>decide (x=y)) i (l.drop i))),[],[])
 |0,i,hi,ks=>by
  rw[oh9 (by omega),fidx,if_pos rfl,sb5 c102L0.eq_def]
  simp(disch:=first|omega|fail) only[push_cast,seval,ui5,lu7,y81,bj9,wrap64,dec_lt,cw6,nl3,qc6,mr8,nb8,if_pos,if_neg]
 |n+1,i,hi,ks=>by
  have ih:=a02 hl n (i+1) (by omega) ks
  obtain⟨a,ha⟩:=ge6 (l:=l) (i:=i) (by omega)
  have h1:=iat ha
  rw[i62 ha,fidx]
  rw[Int.natCast_add,Int.natCast_one]at ih
  by_cases hp:x=a
  ·rw[if_pos (decide_eq_true hp),if_neg (by omega),sb5 c102L0.eq_def]
   simp(disch:=first|omega|fail) only[push_cast,seval,ui5,lu7,y81,bj9,wrap64,dec_lt,cw6,nl3,qc6,mr8,nb8,if_pos,if_neg,h1,mr8 hp]
  ·simp only[decide_eq_false hp,Bool.false_eq_true,if_false]
   rw[←ih,sb5 c102L0.eq_def]
   simp(disch:=first|omega|fail) only[push_cast,seval,ui5,lu7,y81,bj9,wrap64,dec_lt,cw6,nl3,qc6,mr8,nb8,if_pos,if_neg,h1,nb8 hp]
theorem bd9(hl:l.length≤9223372036854775807):
 o24 W 102 [.fz b (.sl nl 0 1 (ivs l)), .x (.int .i64 x)] []=some (.x (.int .i64 (fidx (fun y=>decide (x=y)) 0 l)),[],[]):=by
 have e:=fun ks=>a02 (nl:=nl) (b:=b) (x:=x) hl l.length 0 (by omega) ks
 simp only[Int.natCast_zero,List.take_zero,List.drop_zero,rp2,lz6,x25,List.map_nil,List.length_nil]at e
 rw[o10 rfl T102 rfl]
 unfold F102 c102
 simp(disch:=first|omega|fail) only[push_cast,seval,ui5,lu7,y81,bj9,wrap64,dec_lt,cw6,nl3,qc6,mr8,nb8,if_pos,if_neg]
 rw[e]
 by_cases h:fidx (fun y=>decide (x=y)) 0 l= -1
 ·rw[if_pos h,h]
  simp(disch:=first|omega|fail) only[push_cast,seval,ui5,lu7,y81,bj9,wrap64,dec_lt,cw6,nl3,qc6,mr8,nb8,if_pos,if_neg]
 ·rw[if_neg h]
theorem o94(hl:l.length≤9223372036854775807):
 o24 W 61 [.fz b (.sl nl 0 1 (ivs l)), .x (.int .i64 x)] []=some (.x (.bool (l.any fun y=>decide (x=y))),[],[]):=by
 have e:=fun b nl=>bd9 (nl:=nl) (b:=b) (x:=x) hl
 rw[o10 rfl T61 rfl]
 unfold F61 c61
 rw[←tl6 _ 0 l]
 simp(disch:=first|omega|fail) only[push_cast,seval,ui5,lu7,y81,bj9,wrap64,dec_lt,cw6,nl3,qc6,mr8,nb8,if_pos,if_neg,e]
end
end Go.Proofs.Ytlhmdmedagjmnaa
namespace Go.Proofs.Ytlhmdmedagjmnaa
open Go.Am Go.Vm Go.Alg
section
variable {q:Int} {b:Bool} {nl nr n6 n7:Nat}
section
variable [IsFld q] {A:List (Nat×List (El q))} {N:Nat} {K:List (List Int)}
theorem up4(hA: ∀a∈A,a.2.length=N∧a.1<N)(hAl:A.length≤1000)(hN:N≤900){c:Nat}(hc:c<N){T9:Tree}:
 ∀(n k:Nat) (x:List (El q)),k+n=A.length→x.length=N→ ∀ks,
  vgoL W ⟨h49,[.tmp 4, .tmp 5],0⟩ [0,1,6,7,9,11,12,13,39,40,54,55,56] c49L0 (.blk 2 [0,1,6,7,9,11,13,39,40]::ks) [(0, .x (.int .i64 q)),(1, .fz b (.sl nl 0 1 (lvs nr K))),(6, .own 0 []),(7, .own 1 []),(9, .fz true (pF q)),(11, .own 2 []),(12, .x (.int .i64 c)),(13, .own 3 []),(39, .x (.int .i64 N)),(40, .x (.int .i64 c)),(54, .own 1 []),(55, .x (.int .i64 A.length)),(56, .x (.int .i64 k))] [.sl n6 34 1 (lls 2 (pvR A)), .sl n7 3 1 (ivs (pvP A)),T9, .sl 0 3 1 (ivs (vs x))]=
   vgo W ⟨h49,[.tmp 4, .tmp 5],0⟩ ks (VFr.of [(0, .x (.int .i64 q)),(1, .fz b (.sl nl 0 1 (lvs nr K))),(6, .own 0 []),(7, .own 1 []),(9, .fz true (pF q)),(11, .own 2 []),(13, .own 3 []),(39, .x (.int .i64 N)),(40, .x (.int .i64 c))]) [.sl n6 34 1 (lls 2 (pvR A)), .sl n7 3 1 (ivs (pvP A)),T9, .sl 0 3 1 (ivs (vs (setN c (A.drop k) x)))]
 |0,k,x,hk,hx,ks=>by
  have h1:=nu3 A
  rw[oh9 (by omega),setN,sb5 c49L0.eq_def]
  simp(disch:=first|omega|fail) only[push_cast,seval,ui5,lu7,y81,bj9,wrap64,dec_lt,cw6,nl3,qc6,mr8,nb8,if_pos,if_neg,h1]
 |n+1,k,x,hk,hx,ks=>by
  obtain⟨a,ha⟩:=ge6 (l:=A) (i:=k) (by omega)
  obtain⟨hal,hap⟩:=hA a (List.mem_of_getElem? ha)
  have ih:=up4 hA hAl hN hc (T9:=T9) n (k+1) (x.set a.1 (-wf a.2 c)) (by omega) (by rw[List.length_set];exact hx) ks
  have h1:=nu3 A
  have h2:=ga8 A
  have h3:=x08 ha
  have h4:=bx6 ha
  have h5:=iva (l:=a.2) (i:=c) (by omega)
  have hs:=g52 x a.1 (-wf a.2 c)
  rw[tg5]at hs
  rw[Int.natCast_add,Int.natCast_one]at ih
  rw[i62 ha,setN,←ih,sb5 c49L0.eq_def]
  simp(disch:=first|omega|fail) only[push_cast,seval,ui5,lu7,y81,bj9,wrap64,dec_lt,cw6,nl3,qc6,mr8,nb8,if_pos,if_neg,h1,h2,h3,h4,h5,hs]
theorem lu0{α:Type}(A:List (Nat×α))(c:Nat):((pvP A).any fun y=>decide ((c:Int)=y))=A.any fun a=>a.1==c:=by
 rw[←tc4]
 congr 1
 funext y
 exact decide_eq_decide.2 eq_comm
theorem xl7(hA: ∀a∈A,a.2.length=N∧a.1<N)(hAl:A.length≤1000)(hN:N≤900)(hK:0<K.length)(hK0:(nth K 0).length=N):
 ∀(d c:Nat) (L:List (List (El q))),c+d=N→L.length≤c→ ∀ks,
  vgoL W ⟨h49,[.tmp 4, .tmp 5],0⟩ [0,1,6,7,9,11,39,40] c49L1 (.blk 0 [0,11]::ks) [(0, .x (.int .i64 q)),(1, .fz b (.sl nl 0 1 (lvs nr K))),(6, .own 0 []),(7, .own 1 []),(9, .fz true (pF q)),(11, .own 2 []),(39, .x (.int .i64 N)),(40, .x (.int .i64 c))] [.sl n6 34 1 (lls 2 (pvR A)), .sl n7 3 1 (ivs (pvP A)), .sl 1 34 1 (lls 2 (L.map vs))]=
   vgo W ⟨h49,[.tmp 4, .tmp 5],0⟩ ks (VFr.of [(0, .x (.int .i64 q)),(11, .own 2 [])]) [.sl n6 34 1 (lls 2 (pvR A)), .sl n7 3 1 (ivs (pvP A)), .sl 1 34 1 (lls 2 ((L++ez9 N A d c).map vs))]
 |0,c,L,hc,hL,ks=>by
  rw[ez9,List.append_nil,sb5 c49L1.eq_def]
  simp(disch:=first|omega|fail) only[push_cast,seval,ui5,lu7,y81,bj9,wrap64,dec_lt,cw6,nl3,qc6,mr8,nb8,if_pos,if_neg]
 |d+1,c,L,hc,hL,ks=>by
  have IH:=xl7 hA hAl hN hK hK0 d (c+1)
  have h1:=nu3 A
  have h2:=ga8 A
  have e1:=fun b nl=>o94 (b:=b) (nl:=nl) (l:=pvP A) (x:=(c:Int)) (by omega)
  rw[lu0]at e1
  rw[ez9]
  by_cases hin:(A.any fun a=>a.1==c)=true
  ·rw[if_pos hin]
   rw[hin]at e1
   have ih:=IH L (by omega) (by omega) ks
   rw[Int.natCast_add,Int.natCast_one]at ih
   rw[←ih,sb5 c49L1.eq_def]
   simp(disch:=first|omega|fail) only[push_cast,seval,ui5,lu7,y81,bj9,wrap64,dec_lt,cw6,nl3,qc6,mr8,nb8,if_pos,if_neg,e1]
  ·rw[if_neg hin]
   have hin':(A.any fun a=>a.1==c)=false:=Bool.eq_false_iff.mpr hin
   rw[hin']at e1
   have ih:=IH (L++[xRow N c A]) (by omega) (by simp;omega) ks
   rw[List.append_assoc,List.singleton_append,List.map_append,Int.natCast_add,Int.natCast_one]at ih
   obtain⟨k0,hk0⟩:=ge6 (l:=K) (i:=0) hK
   have h3:=lat (nl:=nr) hk0
   have h4:=xr8 hk0
   rw[h4]at hK0
   have e:=fun T9 ks=>up4 (K:=K) (b:=b) (nl:=nl) (nr:=nr) (n6:=n6) (n7:=n7) (T9:=T9) hA hAl hN (c:=c) (by omega) A.length 0 ((List.replicate N (0:El q)).set c 1) (by omega) (by simp) ks
   have hz:(List.replicate N (0:Int)).set c 1=vs ((List.replicate N (0:El q)).set c 1):=by rw[←g52,←qj2];rfl
   simp only[Int.natCast_zero,List.take_zero,List.drop_zero,rp2,lz6,x25,List.map_nil,List.length_nil]at e
   have hx:setN c A ((List.replicate N (0:El q)).set c 1)=xRow N c A:=rfl
   rw[hx]at e
   rw[←ih,sb5 c49L1.eq_def]
   simp(disch:=first|omega|fail) only[push_cast,seval,ui5,lu7,y81,bj9,wrap64,dec_lt,cw6,nl3,qc6,mr8,nb8,if_pos,if_neg,e1,h2,h3,hK0,hz]
   rw[e]
   simp(disch:=first|omega|fail) only[push_cast,seval,ui5,lu7,y81,bj9,wrap64,dec_lt,cw6,nl3,qc6,mr8,nb8,if_pos,if_neg]
end
theorem ss9 [IsFld q]{N:List (List (El q))}{n:Nat}(h0:0<N.length)(hl:N.length≤64)(hr: ∀r∈N,r.length=n)(hn0:0<n)(hn:n≤64):
 o24 W 49 [.x (.int .i64 q), .fz b (.sl nl 0 1 (lvs nr (N.map vs)))] []=some (.tup [.own 0 [], .x (.int .i64 0)],[.sl (if ez9 n (redR N) n 0=[]then 1 else 0) 34 1 (lls 2 (pvR (zt5 n N)))],[]):=by
 have e1:=fun b nl nr=>lq3 (b:=b) (nl:=nl) (nr:=nr) h0 hl hr hn0 hn
 obtain⟨r1,r2,r3⟩:=bi2 hr
 have hAA: ∀a∈redR N,a.2.length=n∧a.1<n:=fun a ha=>⟨r2 a ha,r1.lt (a.1,wf a.2) (xe5.2 ⟨a,ha,rfl⟩)⟩
 have hAl:(redR N).length≤1000:=by have:=ew4 hr;omega
 obtain⟨k0,hk0⟩:=ge6 (l:=N) (i:=0) h0
 have h3:=mva (nl:=nr) hk0
 have hk0l:=hr k0 (List.mem_of_getElem? hk0)
 have e2:=fun n6 n7 ks=>xl7 (K:=N.map vs) (b:=b) (nl:=nl) (nr:=nr) (n6:=n6) (n7:=n7) hAA hAl (by omega) (by rw[List.length_map];exact h0) (by rw[kn4,xr8 hk0];exact hk0l) n 0 [] (by omega) (by simp) ks
 simp only[List.nil_append]at e2
 simp only[Int.natCast_zero,List.take_zero,List.drop_zero,rp2,lz6,x25,List.map_nil,List.length_nil]at e2
 have hnl:=to9 n (redR N) n 0
 rw[o10 rfl T49 rfl]
 unfold F49 c49
 simp(disch:=first|omega|fail) only[push_cast,seval,ui5,lu7,y81,bj9,wrap64,dec_lt,cw6,nl3,qc6,mr8,nb8,if_pos,if_neg,e1,h3,hk0l]
 rw[e2]
 by_cases hT:ez9 n (redR N) n 0=[]
 ·have e3:=fun b nl=>e58 (q:=q) (b:=b) (nl:=nl) (by have:=sy6 (q:=q) (N:=[]) (n:=n) (by simp) (by simp) hn0 hn;exact this)
  have h0:zt5 n N=[]:=by unfold zt5;rw[hT];rfl
  rw[if_pos hT,hT,h0,List.map_nil,x25]
  simp(disch:=first|omega|fail) only[push_cast,seval,ui5,lu7,y81,bj9,wrap64,dec_lt,cw6,nl3,qc6,mr8,nb8,if_pos,if_neg,e3]
  rfl
 ·have hT0:0<(ez9 n (redR N) n 0).length:=List.length_pos_iff.2 hT
  have e3:=fun b nl nr=>lq3 (b:=b) (nl:=nl) (nr:=nr) hT0 (by omega) (sg4 n (redR N) n 0) hn0 hn
  rw[if_neg hT]
  simp(disch:=first|omega|fail) only[push_cast,seval,ui5,lu7,y81,bj9,wrap64,dec_lt,cw6,nl3,qc6,mr8,nb8,if_pos,if_neg,e3]
  rfl
end
end Go.Proofs.Ytlhmdmedagjmnaa
namespace Go.Alg
section
variable {K:Type} [FK K] {n:Nat}
def p78(A:List (Nat×List K)):List (List K):=A.map Prod.snd
theorem z42(A:List (Nat×List K)):(p78 A).map wf=rowsOf (toF A):=by
 unfold p78 rowsOf toF;rw[List.map_map,List.map_map];rfl
theorem zu4{A:List (Nat×List K)}(h: ∀a∈A,a.2.length=n): ∀r∈p78 A,r.length=n:=fun r hr=>by
 obtain⟨a,ha,rfl⟩:=List.mem_map.1 hr
 exact h a ha
theorem ej4: ∀{A B:List (Nat×List K)},(∀a∈A,a.2.length=n)→(∀a∈B,a.2.length=n)→toF A=toF B→A=B
 | [],[],_,_,_=>rfl
 | [],b::B,_,_,h=>by cases h
 |a::A,[],_,_,h=>by cases h
 |a::A,b::B,hA,hB,h=>by
  unfold toF at h
  rw[List.map_cons,List.map_cons,List.cons.injEq,Prod.mk.injEq]at h
  have h1:a=b:=Prod.ext h.1.1 (ou9 (by rw[hA a (by simp),hB b (by simp)]) h.1.2)
  rw[h1,ej4 (fun c hc=>hA c (by simp[hc])) (fun c hc=>hB c (by simp[hc])) h.2]
theorem rp5{M N:List (List K)}(hM: ∀m∈M,m.length=n)(hN: ∀m∈N,m.length=n)(h: ∀w,Span (M.map wf) w↔Span (N.map wf) w):redR M=redR N:=by
 obtain⟨a1,a2,a3⟩:=bi2 hM
 obtain⟨b1,b2,b3⟩:=bi2 hN
 exact ej4 a2 b2 (a1.uniq b1 fun w=>by rw[a3,b3,h])
theorem jr2{A:List (Nat×List K)}(h:Rref n (toF A))(hl: ∀a∈A,a.2.length=n):redR (p78 A)=A:=by
 obtain⟨b1,b2,b3⟩:=bi2 (zu4 hl)
 exact ej4 b2 hl (b1.uniq h fun w=>by rw[b3,z42])
theorem gz7{M:List (List K)}(hM: ∀m∈M,m.length=n):redR (p78 (redR M))=redR M:=by
 obtain⟨a1,a2,_⟩:=bi2 hM
 exact jr2 a1 a2
theorem cx8{M:List (List K)}(hM: ∀m∈M,m.length=n):zt5 n (p78 (redR M))=zt5 n M:=by
 unfold zt5;rw[gz7 hM]
theorem tq6{M:List (List K)}(hM: ∀m∈M,m.length=n):redR (p78 (zt5 n M))=zt5 n M:=by
 obtain⟨a1,a2,_⟩:=sw1 hM
 exact jr2 a1 a2
theorem ch2{M:List (List K)}(hM: ∀m∈M,m.length=n){u w:Nat→K}(hu:Span (M.map wf) u)(hw:Span (rowsOf (toF (zt5 n M))) w):dotF n u w=0:=by
 have h:=(((sw1 hM).2.2.1 w).1 hw).2
 refine fz3 (fun r hr=> ?_) hu
 obtain⟨m,hm,rfl⟩:=List.mem_map.1 hr
 exact h m hm
theorem m63{M:List (List K)}(hM: ∀m∈M,m.length=n):zt5 n (p78 (zt5 n M))=redR M:=by
 obtain⟨a1,a2,a3⟩:=bi2 hM
 obtain⟨b1,b2,b3,b4⟩:=sw1 hM
 obtain⟨c1,c2,c3,c4⟩:=sw1 (zu4 b2)
 rw[tq6 hM]at c4
 refine(ej4 a2 c2 (a1.same c1 (fun w hw=>(c3 w).2 ⟨fun k hk=> ?_,fun m hm=> ?_⟩) (by unfold toF;simp only[List.length_map];omega))).symm
 ·refine hw.lin (P:=fun w=>w k=0) rfl (fun u r c h1 h2=> ?_) fun r hr=> ?_
  ·show u k+c*r k=0
   rw[h1,h2,mul_zero,FK.add_zero]
  ·obtain⟨a,ha,rfl⟩:=he1.1 hr
   exact ez8 (by rw[a2 a ha];exact hk)
 ·obtain⟨a,ha,rfl⟩:=List.mem_map.1 hm
  rw[sc2]
  exact ch2 hM ((a3 w).1 hw) (.mem (he1.2 ⟨a,ha,rfl⟩))
def pn7(n:Nat):List (Nat×List K):=(List.range n).map fun c=>(c,f05 n c)
theorem um4:Rref n (toF (pn7 n:List (Nat×List K))):=by
 have hm: ∀x∈toF (pn7 n:List (Nat×List K)),∃c,c<n∧x=(c,wf (f05 n c)):=fun x hx=>by
  obtain⟨a,ha,rfl⟩:=xe5.1 hx
  obtain⟨c,hc,rfl⟩:=List.mem_map.1 ha
  exact⟨c,List.mem_range.1 hc,rfl⟩
 refine⟨?_,fun x hx=> ?_,fun x hx k hk=> ?_,fun x hx=> ?_,fun x hx k hk=> ?_,fun x hx y hy h=> ?_⟩
 ·unfold toF pn7
  rw[List.map_map,List.pairwise_map]
  exact List.pairwise_lt_range
 ·obtain⟨c,hc,rfl⟩:=hm x hx
  show wf (f05 n c:List K) c=1
  rw[ez3 hc,if_pos rfl]
 ·obtain⟨c,hc,rfl⟩:=hm x hx
  show wf (f05 n c:List K) k=0
  have hk':k<c:=hk
  rw[ez3 hc,if_neg (by omega)]
 ·obtain⟨c,hc,rfl⟩:=hm x hx
  exact hc
 ·obtain⟨c,hc,rfl⟩:=hm x hx
  exact ez8 (by rw[sm5];exact hk)
 ·obtain⟨c,hc,rfl⟩:=hm x hx
  obtain⟨d,hd,rfl⟩:=hm y hy
  show wf (f05 n c:List K) d=0
  have h':c≠d:=h
  rw[ez3 hc,if_neg fun e=>h' e.symm]
theorem xt7{M:List (List K)}(h:redR M=[]):zt5 n M=pn7 n:=by
 have h1:ez9 n ([]:List (Nat×List K)) n 0=p78 (pn7 n):=by
  rw[pv1]
  unfold sk9 p78 pn7
  rw[List.map_map]
  have:(List.range n).filter (fun c=> !(([]:List (Nat×List K)).any fun a=>a.1==c))=List.range n:=by
   rw[List.filter_eq_self];intro c _;rfl
  rw[this]
  refine List.map_congr_left fun c _=> ?_
  show xRow n c []=f05 n c
  unfold xRow setN f05
  rfl
 unfold zt5
 rw[h,h1]
 exact jr2 um4 fun a ha=>by
  obtain⟨c,_,rfl⟩:=List.mem_map.1 ha
  exact sm5 n c
end
end Go.Alg
namespace Go.Proofs.Ytlhmdmedagjmnaa
open Go.Am Go.Vm Go.Alg
theorem lo1{q:Int}(A:List (Nat×List (El q))):pvR A=(p78 A).map vs:=by unfold pvR p78;rw[List.map_map];rfl
theorem ga9{q:Int}{A:List (Nat×List (El q))}:(p78 A).length=A.length:=by unfold p78;rw[List.length_map]
section
variable {q n:Int} {nl nr:Nat} {M:List (List Int)}
end
section
variable {q:Int} [IsFld q] {k nl nr:Nat} {N:List (List (El q))}
theorem z60{q n:Int}{M:List (List Int)}(h:gi9 q n M=0):matE q M=0:=by
 unfold gi9 at h
 split at h
 ·cases h
 ·split at h
  ·cases h
  ·split at h
   ·rename_i h2;exact h2
   ·rename_i h2;exact absurd h h2
theorem ob1(he:gi9 q k (N.map vs)=0)(h0:0<k)(hk:k≤64)(hl:N.length≤64)(hr: ∀r∈N,r.length=k):
 o24 W 18 [.agg [.x (.int .i64 q), .x (.int .i64 k), .fz true (.sl nl 0 1 (lvs nr (N.map vs)))]] []=some (.tup [.agg [.x (.int .i64 q), .x (.int .i64 k), .own 0 []], .x (.int .i64 0)],[.sl 2 34 1 (lls 2 (pvR (redR N)))],[]):=by
 have e1:=fun nl nr=>um1 (q:=q) (n:=k) (M:=N.map vs) (nl:=nl) (nr:=nr)
 simp only[he]at e1
 by_cases hN:N=[]
 ·subst hN
  have e1:=fun nl=>e1 nl 0
  have e2:=fun b nl=>e58 (b:=b) (nl:=nl) (z60 he)
  simp only[List.map_nil,em1]at e1
  rw[List.map_nil,em1,o10 rfl T18 rfl]
  unfold F18 c18
  simp(disch:=first|omega|fail) only[push_cast,seval,ui5,lu7,y81,bj9,wrap64,dec_lt,cw6,nl3,qc6,mr8,nb8,if_pos,if_neg,e1,e2]
  rfl
 ·have e2:=fun b nl nr=>lq3 (b:=b) (nl:=nl) (nr:=nr) (List.length_pos_iff.2 hN) hl hr h0 hk
  rw[o10 rfl T18 rfl]
  unfold F18 c18
  simp(disch:=first|omega|fail) only[push_cast,seval,ui5,lu7,y81,bj9,wrap64,dec_lt,cw6,nl3,qc6,mr8,nb8,if_pos,if_neg,e1,e2]
theorem r52(h0:0<k)(hk:k≤64){T:Tree}: ∀(d i:Nat),i+d=k→ ∀ks,
 vgoL W ⟨hNo,[(.cell 2 true 3), .tmp 3],0⟩ [1,2,23,24] c19L0 (.blk 0 [1,2]::ks) [(1, .own 0 []),(2, .own 1 []),(23, .x (.int .i64 k)),(24, .x (.int .i64 i))] [.pt 24 [.v (.int .i64 q), .v (.int .i64 k), .sl 2 34 1 (lls 2 ((p78 (pn7 k:List (Nat×List (El q)))).map vs|>.take i))],T]=
  vgo W ⟨hNo,[(.cell 2 true 3), .tmp 3],0⟩ ks (VFr.of [(1, .own 0 []),(2, .own 1 [])]) [.pt 24 [.v (.int .i64 q), .v (.int .i64 k), .sl 2 34 1 (lls 2 ((p78 (pn7 k:List (Nat×List (El q)))).map vs))],T]
 |0,i,hi,ks=>by
  rw[List.take_of_length_le (by rw[List.length_map,ga9];unfold pn7;simp;omega),sb5 c19L0.eq_def]
  simp(disch:=first|omega|fail) only[push_cast,seval,ui5,lu7,y81,bj9,wrap64,dec_lt,cw6,nl3,qc6,mr8,nb8,if_pos,if_neg]
 |d+1,i,hi,ks=>by
  have ih:=r52 h0 hk (T:=T) d (i+1) (by omega) ks
  have hg:((p78 (pn7 k:List (Nat×List (El q)))).map vs)[i]? =some (vs (f05 k i:List (El q))):=by
   unfold p78 pn7
   rw[List.map_map,List.map_map,List.getElem?_map,List.getElem?_range (by omega)];rfl
  have hu:(List.replicate k (0:Int)).set i 1=vs (f05 k i:List (El q)):=by unfold f05;rw[←g52,←qj2];rfl
  have hl:((p78 (pn7 k:List (Nat×List (El q)))).map vs).length=k:=by rw[List.length_map,ga9];unfold pn7;simp
  rw[Int.natCast_add,Int.natCast_one,List.take_add_one,hg,Option.toList_some]at ih
  rw[←ih,sb5 c19L0.eq_def]
  simp(disch:=first|omega|fail) only[push_cast,seval,ui5,lu7,y81,bj9,wrap64,dec_lt,cw6,nl3,qc6,mr8,nb8,if_pos,if_neg,hu,hl]
theorem x92(he:gi9 q k (N.map vs)=0)(h0:0<k)(hk:k≤64)(hl:N.length≤64)(hr: ∀r∈N,r.length=k):
 o24 W 19 [.agg [.x (.int .i64 q), .x (.int .i64 k), .fz true (.sl nl 0 1 (lvs nr (N.map vs)))]] []=some (.tup [.agg [.x (.int .i64 q), .x (.int .i64 k), .own 0 []], .x (.int .i64 0)],[.sl 2 34 1 (lls 2 (pvR (zt5 k N)))],[]):=by
 have e1:=fun nl nr=>ob1 (nl:=nl) (nr:=nr) he h0 hk hl hr
 have h1:=nu3 (redR N)
 by_cases hz:redR N=[]
 ·have e2:=fun T ks=>r52 (q:=q) (k:=k) h0 hk (T:=T) k 0 (by omega) ks
  rw[List.take_zero]at e2
  simp only[Int.natCast_zero]at e2
  rw[hz,show pvR ([]:List (Nat×List (El q)))=[]from rfl]at e1
  rw[lo1,xt7 hz,o10 rfl T19 rfl]
  unfold F19 c19
  simp(disch:=first|omega|fail) only[push_cast,seval,ui5,lu7,y81,bj9,wrap64,dec_lt,cw6,nl3,qc6,mr8,nb8,if_pos,if_neg,e1]
  rw[e2]
  simp(disch:=first|omega|fail) only[push_cast,seval,ui5,lu7,y81,bj9,wrap64,dec_lt,cw6,nl3,qc6,mr8,nb8,if_pos,if_neg]
 ·have hp:0<(redR N).length:=List.length_pos_iff.2 hz
  obtain⟨r1,r2,_⟩:=bi2 hr
  have hle:=ew4 hr
  have e2:=fun b nl nr=>ss9 (b:=b) (nl:=nl) (nr:=nr) (N:=p78 (redR N)) (n:=k) (by rw[ga9];exact hp) (by rw[ga9];omega) (zu4 r2) h0 hk
  rw[cx8 hr,←lo1]at e2
  rw[o10 rfl T19 rfl]
  unfold F19 c19
  simp(disch:=first|omega|fail) only[push_cast,seval,ui5,lu7,y81,bj9,wrap64,dec_lt,cw6,nl3,qc6,mr8,nb8,if_pos,if_neg,e1,h1,e2]
theorem vd8(hl:N.length≤500)(hr: ∀r∈N,r.length=k)(hk:k≤900){n:Int}:
 o24 W 12 [.agg [.x (.int .i64 q), .x (.int .i64 n), .fz true (.sl nl 0 1 (lvs nr (N.map vs)))]] []=some (.agg [.x (.int .i64 q), .x (.int .i64 n), .own 0 []],[.sl 2 34 1 (lls 2 (pvR (redR N)))],[]):=by
 obtain⟨p,m,g,t,u⟩:=k75 q
 have ht:=u.n
 have ho:=u.o
 have hfe:=u.e
 have e1:=fun b nl nr=>di6 (q:=q) (b:=b) (nl:=nl) (nr:=nr) hr hl (by omega)
 rw[hfe]at e1
 rw[o10 rfl T12 rfl]
 unfold F12 c12
 simp(disch:=first|omega|fail) only[push_cast,seval,ui5,lu7,y81,bj9,wrap64,dec_lt,cw6,nl3,qc6,mr8,nb8,if_pos,if_neg,hfe,ht,ho,e1]
theorem x85(hl:N.length≤500)(hr: ∀r∈N,r.length=k)(hk:k≤500):
 o24 W 47 [.agg [.x (.int .i64 q), .x (.int .i64 k), .fz true (.sl nl 0 1 (lvs nr (N.map vs)))]] []=some (.agg [.x (.int .i64 q), .x (.int .i64 k), .own 0 []],[.sl 2 34 1 (lls 2 (pvR (zt5 k N)))],[]):=by
 obtain⟨p,m,g,t,u⟩:=k75 q
 have ht:=u.n
 have ho:=u.o
 have hfe:=u.e
 have e1:=fun b nl nr=>zi7 (q:=q) (b:=b) (nl:=nl) (nr:=nr) hr hl hk
 rw[hfe]at e1
 rw[o10 rfl T47 rfl]
 unfold F47 c47
 simp(disch:=first|omega|fail) only[push_cast,seval,ui5,lu7,y81,bj9,wrap64,dec_lt,cw6,nl3,qc6,mr8,nb8,if_pos,if_neg,hfe,ht,ho,e1]
end
end Go.Proofs.Ytlhmdmedagjmnaa
namespace Go.Proofs.Ytlhmdmedagjmnaa
open Go.Am Go.Vm Go.Alg
section
variable {b b':Bool} {nl nl' nr nr':Nat}
theorem ft0{l k:List Int}(hl:l.length≤9223372036854775807)(hk:k.length=l.length): ∀(d i:Nat),i+d=l.length→ ∀ks,
 vgoL W ⟨hNo,[.tmp 4],0⟩ [0,1,5] c27L0 (.blk 0 []::ks) [(0, .fz b (.sl nl 0 1 (ivs l))),(1, .fz b' (.sl nl' 0 1 (ivs k))),(5, .x (.int .i64 i))] []=
  if l.drop i=k.drop i then vgo W ⟨hNo,[.tmp 4],0⟩ ks (VFr.of []) []else some (.x (.bool false),[],[])
 |0,i,hi,ks=>by
  rw[oh9 (by omega),oh9 (by omega),if_pos rfl,sb5 c27L0.eq_def]
  simp(disch:=first|omega|fail) only[push_cast,seval,ui5,lu7,y81,bj9,wrap64,dec_lt,cw6,nl3,qc6,mr8,nb8,if_pos,if_neg]
 |d+1,i,hi,ks=>by
  have ih:=ft0 hl hk d (i+1) (by omega) ks
  obtain⟨a,ha⟩:=ge6 (l:=l) (i:=i) (by omega)
  obtain⟨c,hc⟩:=ge6 (l:=k) (i:=i) (by omega)
  have h1:=iat ha
  have h2:=iat hc
  rw[i62 ha,i62 hc]
  rw[Int.natCast_add,Int.natCast_one]at ih
  by_cases h:a=c
  ·have hiff:(a::l.drop (i+1)=c::k.drop (i+1))=(l.drop (i+1)=k.drop (i+1)):=by rw[h];simp
   simp only[hiff]
   rw[←ih,sb5 c27L0.eq_def]
   simp(disch:=first|omega|fail) only[push_cast,seval,ui5,lu7,y81,bj9,wrap64,dec_lt,cw6,nl3,qc6,mr8,nb8,if_pos,if_neg,h1,h2,h]
  ·rw[if_neg (by intro e;exact h (List.cons.inj e).1),sb5 c27L0.eq_def]
   simp(disch:=first|omega|fail) only[push_cast,seval,ui5,lu7,y81,bj9,wrap64,dec_lt,cw6,nl3,qc6,mr8,nb8,if_pos,if_neg,h1,h2,nb8 h]
theorem nb2{l k:List Int}(hl:l.length≤9223372036854775807):o24 W 27 [.fz b (.sl nl 0 1 (ivs l)), .fz b' (.sl nl' 0 1 (ivs k))] []=some (.x (.bool (decide (l=k))),[],[]):=by
 by_cases hk:k.length=l.length
 ·have e:=fun ks=>ft0 (b:=b) (b':=b') (nl:=nl) (nl':=nl') hl hk l.length 0 (by omega) ks
  simp only[Int.natCast_zero,List.take_zero,List.drop_zero,rp2,lz6,x25,List.map_nil,List.length_nil]at e
  rw[o10 rfl T27 rfl]
  unfold F27 c27
  simp(disch:=first|omega|fail) only[push_cast,seval,ui5,lu7,y81,bj9,wrap64,dec_lt,cw6,nl3,qc6,mr8,nb8,if_pos,if_neg,hk]
  rw[e]
  by_cases h:l=k
  ·rw[if_pos h,decide_eq_true h]
   simp(disch:=first|omega|fail) only[push_cast,seval,ui5,lu7,y81,bj9,wrap64,dec_lt,cw6,nl3,qc6,mr8,nb8,if_pos,if_neg]
  ·rw[if_neg h,decide_eq_false h]
 ·have h: ¬l=k:=fun e=>hk (by rw[e])
  have h8: ¬(l.length:Int)=(k.length:Int):=by omega
  rw[decide_eq_false h,o10 rfl T27 rfl]
  unfold F27 c27
  simp(disch:=first|omega|fail) only[push_cast,seval,ui5,lu7,y81,bj9,wrap64,dec_lt,cw6,nl3,qc6,mr8,nb8,if_pos,if_neg,nb8 h8]
theorem h39{l k:List (List Int)}(hl:l.length≤9223372036854775807)(he: ∀r∈l,r.length≤9223372036854775807)(hk:k.length=l.length)(hx:50=50): ∀(d i:Nat),i+d=l.length→ ∀ks,
 vgoL W ⟨hNo,[.tmp 4],0⟩ [0,1,5] c50L0 (.blk 0 []::ks) [(0, .fz b (.sl nl 0 1 (lvs nr l))),(1, .fz b' (.sl nl' 0 1 (lvs nr' k))),(5, .x (.int .i64 i))] []=
  if l.drop i=k.drop i then vgo W ⟨hNo,[.tmp 4],0⟩ ks (VFr.of []) []else some (.x (.bool false),[],[])
 |0,i,hi,ks=>by
  rw[oh9 (by omega),oh9 (by omega),if_pos rfl,sb5 c50L0.eq_def]
  simp(disch:=first|omega|fail) only[push_cast,seval,ui5,lu7,y81,bj9,wrap64,dec_lt,cw6,nl3,qc6,mr8,nb8,if_pos,if_neg]
 |d+1,i,hi,ks=>by
  have ih:=h39 hl he hk hx d (i+1) (by omega) ks
  obtain⟨a,ha⟩:=ge6 (l:=l) (i:=i) (by omega)
  obtain⟨c,hc⟩:=ge6 (l:=k) (i:=i) (by omega)
  have h1:=lat (nl:=nr) ha
  have h2:=lat (nl:=nr') hc
  have e:=fun b b' nl nl'=>nb2 (b:=b) (b':=b') (nl:=nl) (nl':=nl') (l:=a) (k:=c) (he a (List.mem_of_getElem? ha))
  rw[i62 ha,i62 hc]
  rw[Int.natCast_add,Int.natCast_one]at ih
  by_cases h:a=c
  ·have hiff:(a::l.drop (i+1)=c::k.drop (i+1))=(l.drop (i+1)=k.drop (i+1)):=by rw[h];simp
   simp only[decide_eq_true h]at e
   simp only[hiff]
   rw[←ih,sb5 c50L0.eq_def]
   simp(disch:=first|omega|fail) only[push_cast,seval,ui5,lu7,y81,bj9,wrap64,dec_lt,cw6,nl3,qc6,mr8,nb8,if_pos,if_neg,h1,h2,e]
  ·simp only[decide_eq_false h]at e
   rw[if_neg (by intro e;exact h (List.cons.inj e).1),sb5 c50L0.eq_def]
   simp(disch:=first|omega|fail) only[push_cast,seval,ui5,lu7,y81,bj9,wrap64,dec_lt,cw6,nl3,qc6,mr8,nb8,if_pos,if_neg,h1,h2,e]
theorem us3{l k:List (List Int)}(hl:l.length≤9223372036854775807)(he: ∀r∈l,r.length≤9223372036854775807):o24 W 50 [.fz b (.sl nl 0 1 (lvs nr l)), .fz b' (.sl nl' 0 1 (lvs nr' k))] []=some (.x (.bool (decide (l=k))),[],[]):=by
 by_cases hk:k.length=l.length
 ·have e:=fun ks=>h39 (b:=b) (b':=b') (nl:=nl) (nl':=nl') (nr:=nr) (nr':=nr') hl he hk rfl l.length 0 (by omega) ks
  simp only[Int.natCast_zero,List.take_zero,List.drop_zero,rp2,lz6,x25,List.map_nil,List.length_nil]at e
  rw[o10 rfl T50 rfl]
  unfold F50 c50
  simp(disch:=first|omega|fail) only[push_cast,seval,ui5,lu7,y81,bj9,wrap64,dec_lt,cw6,nl3,qc6,mr8,nb8,if_pos,if_neg,hk]
  rw[e]
  by_cases h:l=k
  ·rw[if_pos h,decide_eq_true h]
   simp(disch:=first|omega|fail) only[push_cast,seval,ui5,lu7,y81,bj9,wrap64,dec_lt,cw6,nl3,qc6,mr8,nb8,if_pos,if_neg]
  ·rw[if_neg h,decide_eq_false h]
 ·have h: ¬l=k:=fun e=>hk (by rw[e])
  have h8: ¬(l.length:Int)=(k.length:Int):=by omega
  rw[decide_eq_false h,o10 rfl T50 rfl]
  unfold F50 c50
  simp(disch:=first|omega|fail) only[push_cast,seval,ui5,lu7,y81,bj9,wrap64,dec_lt,cw6,nl3,qc6,mr8,nb8,if_pos,if_neg,nb8 h8]
theorem ec0{l:List (List Int)}(hl:l.length≤9223372036854775807): ∀(d i:Nat) (n:Int),i+d=l.length→ ∃m:Int,∀(b:Bool) (nl nr:Nat) ks,
 vgoL W ⟨hNo,[.tmp 2],0⟩ [0,3,4] c8L0 (.blk 0 [3]::ks) [(0, .fz b (.sl nl 0 1 (lvs nr l))),(3, .x (.int .i64 n)),(4, .x (.int .i64 i))] []=vgo W ⟨hNo,[.tmp 2],0⟩ ks (VFr.of [(3, .x (.int .i64 m))]) []
 |0,i,n,hi=>by
  refine⟨n,fun b nl nr ks=> ?_⟩
  rw[sb5 c8L0.eq_def]
  simp(disch:=first|omega|fail) only[push_cast,seval,ui5,lu7,y81,bj9,wrap64,dec_lt,cw6,nl3,qc6,mr8,nb8,if_pos,if_neg]
 |d+1,i,n,hi=>by
  obtain⟨r,hr⟩:=ge6 (l:=l) (i:=i) (by omega)
  have h1:=fun nr=>lat (nl:=nr) hr
  by_cases hn:n≤6000
  ·obtain⟨m,hm⟩:=ec0 hl d (i+1) (IntKind.wrap .i64 (n+r.length)) (by omega)
   refine⟨m,fun b nl nr ks=> ?_⟩
   have ih:=hm b nl nr ks
   rw[Int.natCast_add,Int.natCast_one]at ih
   rw[←ih,sb5 c8L0.eq_def]
   simp(disch:=first|omega|fail) only[push_cast,seval,ui5,lu7,y81,bj9,wrap64,dec_lt,cw6,nl3,qc6,mr8,nb8,if_pos,if_neg,h1,nl3 hn]
  ·refine⟨n,fun b nl nr ks=> ?_⟩
   rw[sb5 c8L0.eq_def]
   simp(disch:=first|omega|fail) only[push_cast,seval,ui5,lu7,y81,bj9,wrap64,dec_lt,cw6,nl3,qc6,mr8,nb8,if_pos,if_neg,h1]
theorem tr6{l:List (List Int)}(hl:l.length≤9223372036854775807): ∃z:Bool,∀b nl nr,o24 W 8 [.fz b (.sl nl 0 1 (lvs nr l))] []=some (.x (.bool z),[],[]):=by
 obtain⟨m,e⟩:=ec0 hl l.length 0 l.length (by omega)
 simp only[Int.natCast_zero]at e
 refine⟨decide (6000<m),fun b nl nr=> ?_⟩
 rw[o10 rfl T8 rfl]
 unfold F8 c8
 simp(disch:=first|omega|fail) only[push_cast,seval,ui5,lu7,y81,bj9,wrap64,dec_lt,cw6,nl3,qc6,mr8,nb8,if_pos,if_neg]
 rw[e]
 simp(disch:=first|omega|fail) only[push_cast,seval,ui5,lu7,y81,bj9,wrap64,dec_lt,cw6,nl3,qc6,mr8,nb8,if_pos,if_neg]
section
variable {q:Int} [IsFld q]
end
end
end Go.Proofs.Ytlhmdmedagjmnaa
namespace Go.Proofs.Ytlhmdmedagjmnaa
open Go.Am Go.Vm Go.Alg
section
variable {q n q' n' e:Int} {nl nr nl' nr':Nat} {M M':List (List Int)}
theorem uh6(hl:M.length≤9223372036854775807)(hr: ∀r∈M,r.length≤9223372036854775807):
 o24 W 20 [.agg [.x (.int .i64 q), .x (.int .i64 n), .fz true (.sl nl 0 1 (lvs nr M))], .agg [.x (.int .i64 q'), .x (.int .i64 n'), .fz true (.sl nl' 0 1 (lvs nr' M'))]] []=some (.x (.bool (decide (q=q')&&(decide (n=n')&&decide (M=M')))),[],[]):=by
 have e1:=fun b b' nl nl' nr nr'=>us3 (b:=b) (b':=b') (nl:=nl) (nl':=nl') (nr:=nr) (nr':=nr') (l:=M) (k:=M') hl hr
 rw[o10 rfl T20 rfl]
 unfold F20 c20
 by_cases h1:q=q'
 ·by_cases h2:n=n'
  ·rw[decide_eq_true h1,decide_eq_true h2,Bool.true_and,Bool.true_and]
   simp(disch:=first|omega|fail) only[push_cast,seval,ui5,lu7,y81,bj9,wrap64,dec_lt,cw6,nl3,qc6,mr8,nb8,if_pos,if_neg,mr8 h1,mr8 h2,e1]
  ·rw[decide_eq_true h1,decide_eq_false h2,Bool.true_and,Bool.false_and]
   simp(disch:=first|omega|fail) only[push_cast,seval,ui5,lu7,y81,bj9,wrap64,dec_lt,cw6,nl3,qc6,mr8,nb8,if_pos,if_neg,mr8 h1,nb8 h2]
 ·rw[decide_eq_false h1,Bool.false_and]
  simp(disch:=first|omega|fail) only[push_cast,seval,ui5,lu7,y81,bj9,wrap64,dec_lt,cw6,nl3,qc6,mr8,nb8,if_pos,if_neg,nb8 h1]
theorem l61:o24 W 20 [.agg [.x (.int .i64 0), .x (.int .i64 0), .fz true (.sl 1 0 1 [])], .agg [.x (.int .i64 0), .x (.int .i64 0), .fz true (.sl 1 0 1 [])]] []=some (.x (.bool true),[],[]):=by
 have e1:=uh6 (q:=0) (n:=0) (q':=0) (n':=0) (nl:=1) (nr:=0) (nl':=1) (nr':=0) (M:=[]) (M':=[]) (by simp) (by simp)
 simpa only[em1,decide_true,Bool.and_true]using e1
theorem v05(he:e≠0):o24 W 14 [.agg [.x (.int .i64 0), .x (.int .i64 0), .fz true (.sl 1 0 1 [])], .x (.int .i64 e), .agg [.x (.int .i64 0), .x (.int .i64 0), .fz true (.sl 1 0 1 [])], .x (.int .i64 e)] []=some (.x (.bool true),[],[]):=by
 have e1:=l61
 rw[o10 rfl T14 rfl]
 unfold F14 c14
 simp(disch:=first|omega|fail) only[push_cast,seval,ui5,lu7,y81,bj9,wrap64,dec_lt,cw6,nl3,qc6,mr8,nb8,if_pos,if_neg,e1,nb8 he]
theorem p72(hl:M.length≤9223372036854775807)(hr: ∀r∈M,r.length≤9223372036854775807):o24 W 14 [.agg [.x (.int .i64 q), .x (.int .i64 n), .fz true (.sl nl 0 1 (lvs nr M))], .x (.int .i64 0), .agg [.x (.int .i64 q), .x (.int .i64 n), .fz true (.sl nl' 0 1 (lvs nr' M))], .x (.int .i64 0)] []=some (.x (.bool true),[],[]):=by
 have e1:=fun nl nr nl' nr'=>uh6 (q:=q) (n:=n) (q':=q) (n':=n) (M':=M) (nl:=nl) (nr:=nr) (nl':=nl') (nr':=nr') hl hr
 simp only[decide_true,Bool.and_true]at e1
 rw[o10 rfl T14 rfl]
 unfold F14 c14
 simp(disch:=first|omega|fail) only[push_cast,seval,ui5,lu7,y81,bj9,wrap64,dec_lt,cw6,nl3,qc6,mr8,nb8,if_pos,if_neg,e1]
end
section
variable {q:Int} [IsFld q] {k nl nr nl2:Nat} {b:Bool} {N:List (List (El q))} {M:List (List Int)} {w:List Int}
end
end Go.Proofs.Ytlhmdmedagjmnaa
namespace Go.Alg
section
variable {K:Type} [FK K] {n:Nat}
theorem f93{A X Y:List (List K)}(h: ∀w,Span (X.map wf) w↔Span (Y.map wf) w)(w:Nat→K):Span ((A++X).map wf) w↔Span ((A++Y).map wf) w:=by
 have key: ∀{X Y:List (List K)},(∀w,Span (X.map wf) w↔Span (Y.map wf) w)→Span ((A++X).map wf) w→Span ((A++Y).map wf) w:=by
  intro X Y h hs
  refine hs.trans fun r hr=> ?_
  rw[List.map_append]at hr⊢
  rcases List.mem_append.1 hr with hr|hr
  ·exact .mem (List.mem_append_left _ hr)
  ·exact((h r).1 (.mem hr)).mono fun x hx=>List.mem_append_right _ hx
 exact⟨key h,key fun w=>(h w).symm⟩
omit [FK K] in
theorem rl5{M N:List (List K)}(hM: ∀m∈M,m.length=n)(hN: ∀m∈N,m.length=n): ∀m∈M++N,m.length=n:=fun m hm=>(List.mem_append.1 hm).elim (hM m) (hN m)
theorem mr3{M:List (List K)}(hM: ∀m∈M,m.length=n)(w:Nat→K):Span ((p78 (redR M)).map wf) w↔Span (M.map wf) w:=by
 rw[z42];exact(bi2 hM).2.2 w
theorem rx4{M N:List (List K)}(hM: ∀m∈M,m.length=n)(hN: ∀m∈N,m.length=n):redR (p78 (redR M)++N)=redR (M++N):=by
 refine rp5 (n:=n) (rl5 (zu4 (bi2 hM).2.1) hN) (rl5 hM hN) fun w=> ?_
 have key: ∀{X Y:List (List K)},(∀w,Span (X.map wf) w↔Span (Y.map wf) w)→Span ((X++N).map wf) w→Span ((Y++N).map wf) w:=by
  intro X Y h hs
  refine hs.trans fun r hr=> ?_
  rw[List.map_append]at hr⊢
  rcases List.mem_append.1 hr with hr|hr
  ·exact((h r).1 (.mem hr)).mono fun x hx=>List.mem_append_left _ hx
  ·exact .mem (List.mem_append_right _ hr)
 exact⟨key (mr3 hM),key fun w=>(mr3 hM w).symm⟩
theorem gl4{M N:List (List K)}(hM: ∀m∈M,m.length=n)(hN: ∀m∈N,m.length=n):redR (M++p78 (redR N))=redR (M++N):=
 rp5 (n:=n) (rl5 hM (zu4 (bi2 hN).2.1)) (rl5 hM hN) (f93 (mr3 hN))
theorem c38{M:List (List K)}(hM: ∀m∈M,m.length=n)(h:(redR M).length=n):redR M=pn7 n:=by
 have h1:=(sw1 hM).2.2.2
 have h2:zt5 n M=[]:=List.eq_nil_of_length_eq_zero (by omega)
 have h3:=m63 hM
 rw[h2]at h3
 rw[←h3]
 exact xt7 (M:=[]) rfl
theorem a44{M N:List (List K)}(hM: ∀m∈M,m.length=n)(hN: ∀m∈N,m.length=n)(h:(redR M).length=n):redR (M++N)=redR M:=by
 have hA:=rl5 hM hN
 obtain⟨a1,a2,a3⟩:=bi2 hM
 obtain⟨b1,b2,b3⟩:=bi2 hA
 have h1:=a1.le (R:=rowsOf (toF (redR (M++N)))) fun w hw=>(b3 w).2 (((a3 w).1 hw).mono fun x hx=>by rw[List.map_append];exact List.mem_append_left _ hx)
 have h2:=b1.len
 have e1:(toF (redR M)).length=(redR M).length:=by simp[toF]
 have e2:(toF (redR (M++N))).length=(redR (M++N)).length:=by simp[toF]
 have e3:(rowsOf (toF (redR (M++N)))).length=(redR (M++N)).length:=by simp[rowsOf,toF]
 rw[c38 hM h,c38 hA (by omega)]
end
end Go.Alg
namespace Go.Proofs.Ytlhmdmedagjmnaa
open Go.Am Go.Vm Go.Alg
section
variable {q n q' n':Int} {nl nr nl' nr':Nat} {M M':List (List Int)}
def hv3(q n:Int)(M:List (List Int))(q' n':Int)(M':List (List Int)):Int:=if gi9 q n M=0 then(if gi9 q' n' M'=0 then(if q=q'∧n=n' then 0 else 3)else gi9 q' n' M')else gi9 q n M
theorem g77:o24 W 44 [.agg [.x (.int .i64 q), .x (.int .i64 n), .fz true (.sl nl 0 1 (lvs nr M))], .agg [.x (.int .i64 q'), .x (.int .i64 n'), .fz true (.sl nl' 0 1 (lvs nr' M'))]] []=some (.x (.int .i64 (hv3 q n M q' n' M')),[],[]):=by
 have e1:=um1 (q:=q) (n:=n) (M:=M) (nl:=nl) (nr:=nr)
 have e2:=um1 (q:=q') (n:=n') (M:=M') (nl:=nl') (nr:=nr')
 rw[o10 rfl T44 rfl]
 unfold F44 c44 hv3
 by_cases h1:gi9 q n M=0
 ·rw[if_pos h1]
  by_cases h2:gi9 q' n' M'=0
  ·rw[if_pos h2]
   by_cases h3:q=q'
   ·by_cases h4:n=n'
    ·rw[if_pos ⟨h3,h4⟩]
     simp(disch:=first|omega|fail) only[push_cast,seval,ui5,lu7,y81,bj9,wrap64,dec_lt,cw6,nl3,qc6,mr8,nb8,if_pos,if_neg,e1,e2,h1,h2,mr8 h3,mr8 h4]
    ·rw[if_neg fun h=>h4 h.2]
     simp(disch:=first|omega|fail) only[push_cast,seval,ui5,lu7,y81,bj9,wrap64,dec_lt,cw6,nl3,qc6,mr8,nb8,if_pos,if_neg,e1,e2,h1,h2,mr8 h3,nb8 h4]
   ·rw[if_neg fun h=>h3 h.1]
    simp(disch:=first|omega|fail) only[push_cast,seval,ui5,lu7,y81,bj9,wrap64,dec_lt,cw6,nl3,qc6,mr8,nb8,if_pos,if_neg,e1,e2,h1,h2,nb8 h3]
  ·rw[if_neg h2]
   simp(disch:=first|omega|fail) only[push_cast,seval,ui5,lu7,y81,bj9,wrap64,dec_lt,cw6,nl3,qc6,mr8,nb8,if_pos,if_neg,e1,e2,h1,nb8 h2]
 ·rw[if_neg h1]
  simp(disch:=first|omega|fail) only[push_cast,seval,ui5,lu7,y81,bj9,wrap64,dec_lt,cw6,nl3,qc6,mr8,nb8,if_pos,if_neg,e1,nb8 h1]
end
section
variable {q:Int} [IsFld q] {k nl nr nl' nr':Nat} {M B N:List (List (El q))}
theorem df0(M:List (List (El q)))(b:List (El q)):lls 2 (M.map vs)++[Tree.sl 2 3 1 (ivs (vs b))]=lls 2 ((M++[b]).map vs):=by
 rw[ng3,List.map_append];rfl
theorem be6(M N:List (List Int)):lls 2 M++lls 2 N=lls 2 (M++N):=by unfold lls;rw[List.map_append]
def jkN:Nat→Nat→List Tree→List Tree
 |0,_,L=>L
 |n+1,i,L=>jkN n (i+1) (L.set i .junk)
theorem e03(L:List (List Int)):(lls 2 L).all Vm.plain=L.isEmpty:=by
 cases L<;>rfl
theorem ij7(h0:0<k)(hk:k≤64)(h1: ∀r∈M,r.length=k)(h2: ∀r∈B,r.length=k)(hB:B.length≤64){X T1:Tree}: ∀(n i nl:Nat) (Lb:List Tree),i+n=B.length→Lb.length=B.length→(∀(j:Nat) b,i≤j→B[j]? =some b→Lb[j]? =some (.sl 2 3 1 (ivs (vs b))))→ ∀ks,
 vgoL W ⟨h10,[(.cell 4 true 3), .tmp 5],0⟩ [2,4,7,32,33,34] c10L0 (.blk 0 [2,4,7]::ks) [(2, .own 0 []),(4, .own 1 []),(7, .own 2 []),(32, .own 3 [2]),(33, .x (.int .i64 B.length)),(34, .x (.int .i64 i))] [.pt 24 [.v (.int .i64 q), .v (.int .i64 k),X],T1, .sl nl 34 1 (lls 2 ((p78 (redR (M++B.take i))).map vs)), .pt 24 [.v (.int .i64 q), .v (.int .i64 k), .sl 2 34 1 Lb]]=
  vgo W ⟨h10,[(.cell 4 true 3), .tmp 5],0⟩ ks (VFr.of [(2, .own 0 []),(4, .own 1 []),(7, .own 2 [])]) [.pt 24 [.v (.int .i64 q), .v (.int .i64 k),X],T1, .sl (if n=0 then nl else 0) 34 1 (lls 2 ((p78 (redR (M++B))).map vs)), .pt 24 [.v (.int .i64 q), .v (.int .i64 k), .sl 2 34 1 (jkN n i Lb)]]
 |0,i,nl,Lb,hi,hL,hb,ks=>by
  rw[List.take_of_length_le (by omega),if_pos rfl,jkN,sb5 c10L0.eq_def]
  simp(disch:=first|omega|fail) only[push_cast,seval,ui5,lu7,y81,bj9,wrap64,dec_lt,cw6,nl3,qc6,mr8,nb8,if_pos,if_neg]
 |n+1,i,nl,Lb,hi,hL,hb,ks=>by
  obtain⟨b,hbi⟩:=ge6 (l:=B) (i:=i) (by omega)
  have l1:=hb i b (Nat.le_refl _) hbi
  have hbl:=h2 b (List.mem_of_getElem? hbi)
  have htk:B.take (i+1)=B.take i++[b]:=by rw[List.take_add_one,hbi];rfl
  have hT: ∀r∈B.take i,r.length=k:=fun r hr=>h2 r (List.mem_of_mem_take hr)
  have hA:=rl5 h1 hT
  obtain⟨a1,a2,a3⟩:=bi2 hA
  have ha:=zu4 a2
  have hlen:(p78 (redR (M++B.take i))).length≤k:=by
   rw[ga9]
   have:=a1.len
   simpa [toF]using this
  have hone: ∀r∈[b],r.length=k:=fun r hr=>by rw[List.mem_singleton.1 hr];exact hbl
  have hred:redR (p78 (redR (M++B.take i))++[b])=redR (M++B.take (i+1)):=by rw[rx4 hA hone,htk,List.append_assoc]
  have ih:=ij7 h0 hk h1 h2 hB (X:=X) (T1:=T1) n (i+1) 0 (Lb.set i .junk) (by omega) (by rw[List.length_set,hL]) (fun j c hj hc=>by rw[List.getElem?_set_ne (by omega)];exact hb j c (by omega) hc) ks
  rw[show(if n=0 then 0 else 0)=0 by split<;>rfl,Int.natCast_add,Int.natCast_one]at ih
  rw[if_neg (by omega),jkN]
  have hfull:k=64→(p78 (redR (M++B.take i))).length=64→redR (p78 (redR (M++B.take i)))=redR (M++B.take (i+1)):=fun e1 e2=>by
   rw[gz7 hA,htk,←List.append_assoc,a44 hA hone (by rw[←ga9,e2,e1])]
  rw[←lo1 (redR (M++List.take (i+1) B))]at ih
  generalize hR:p78 (redR (M++B.take i))=R at*
  have hRm:(R.map vs).length=R.length:=List.length_map _
  by_cases h64:R.length=64
  ·have hmm:List.foldl (mm false) 65 [64]=64:=rfl
   have e1:=fun b nl nr=>lq3 (q:=q) (b:=b) (nl:=nl) (nr:=nr) (N:=R) (n:=k) (by omega) (by omega) ha h0 hk
   rw[hfull (by omega) h64]at e1
   have hll:(lls 2 ((R++[b]).map vs)).take 64=lls 2 (R.map vs):=by
    rw[mm0,List.map_append,List.take_append_of_le_length (by omega),List.take_of_length_le (by omega)]
   rw[←ih,sb5 c10L0.eq_def]
   simp(disch:=first|omega|fail) only[push_cast,seval,ui5,lu7,y81,bj9,wrap64,dec_lt,cw6,nl3,qc6,mr8,nb8,if_pos,if_neg,vbx,l1,hL,hRm,h64,df0,hmm,e1,hll]
  ·have e1:=fun bb nl nr=>lq3 (q:=q) (b:=bb) (nl:=nl) (nr:=nr) (N:=R++[b]) (n:=k) (by simp) (by simp;omega) (rl5 ha hone) h0 hk
   rw[hred]at e1
   have hmin: ¬(64:Int)<(R.length:Int)+1:=by omega
   have hmm:List.foldl (mm false) ((R.length:Int)+1) [64]=(R.length:Int)+1:=by
    show(if(64:Int)<(R.length:Int)+1 then _ else _)=_
    rw[if_neg hmin]
   have hft:List.take ((R.length:Int)+1-0).toNat (List.map vs (R++[b]))=List.map vs (R++[b]):=List.take_of_length_le (by simp)
   have hRl:((R++[b]).map vs).length=R.length+1:=by simp
   rw[←ih,sb5 c10L0.eq_def]
   simp(disch:=first|omega|fail) only[push_cast,seval,ui5,lu7,y81,bj9,wrap64,dec_lt,cw6,nl3,qc6,mr8,nb8,if_pos,if_neg,vbx,l1,hL,hRm,df0,hRl,hmm,hft,e1,cw6 (Int.not_lt.1 hmin)]
theorem i50{q n q' n':Int}{M M':List (List Int)}(h:hv3 q n M q' n' M'=0):gi9 q n M=0∧gi9 q' n' M'=0∧q=q'∧n=n':=by
 unfold hv3 at h
 split at h
 ·split at h
  ·split at h
   ·exact⟨‹_›, ‹_›, ‹_›⟩
   ·cases h
  ·exact absurd h ‹_›
 ·exact absurd h ‹_›
theorem g86(hM:gi9 q k (M.map vs)=0)(hN:gi9 q k (N.map vs)=0):hv3 q k (M.map vs) q k (N.map vs)=0:=by
 unfold hv3;rw[if_pos hM,if_pos hN,if_pos ⟨rfl,rfl⟩]
theorem w28{q n q' n':Int}{M M':List (List Int)}(he:hv3 q n M q' n' M'≠0):o24 W 10 [.agg [.x (.int .i64 q), .x (.int .i64 n), .fz true (.sl nl 0 1 (lvs nr M))], .agg [.x (.int .i64 q'), .x (.int .i64 n'), .fz true (.sl nl' 0 1 (lvs nr' M'))]] []=some (.tup [.agg [.x (.int .i64 0), .x (.int .i64 0), .x (.slice none 0 0)], .x (.int .i64 (hv3 q n M q' n' M'))],[],[]):=by
 have e1:=g77 (q:=q) (n:=n) (M:=M) (q':=q') (n':=n') (M':=M') (nl:=nl) (nr:=nr) (nl':=nl') (nr':=nr')
 rw[o10 rfl T10 rfl]
 unfold F10 c10
 simp(disch:=first|omega|fail) only[push_cast,seval,ui5,lu7,y81,bj9,wrap64,dec_lt,cw6,nl3,qc6,mr8,nb8,if_pos,if_neg,e1,nb8 he]
theorem de0(hM:gi9 q k (M.map vs)=0)(hN:gi9 q k (N.map vs)=0)(h0:0<k)(hk:k≤64)(hl:M.length≤64)(hl2:N.length≤64)(h1: ∀r∈M,r.length=k)(h2: ∀r∈N,r.length=k):
 o24 W 10 [.agg [.x (.int .i64 q), .x (.int .i64 k), .fz true (.sl nl 0 1 (lvs nr (M.map vs)))], .agg [.x (.int .i64 q), .x (.int .i64 k), .fz true (.sl nl' 0 1 (lvs nr' (N.map vs)))]] []=some (.tup [.agg [.x (.int .i64 q), .x (.int .i64 k), .own 0 []], .x (.int .i64 0)],[.sl 2 34 1 (lls 2 (pvR (redR (M++N))))],[]):=by
 have e1:=g77 (q:=q) (n:=k) (M:=M.map vs) (q':=q) (n':=k) (M':=N.map vs) (nl:=nl) (nr:=nr) (nl':=nl') (nr':=nr')
 rw[g86 hM hN]at e1
 have e2:=fun nl nr=>ob1 (nl:=nl) (nr:=nr) hM h0 hk hl h1
 have e3:=fun nl nr=>ob1 (nl:=nl) (nr:=nr) hN h0 hk hl2 h2
 have hB:=zu4 (bi2 h2).2.1
 have hBl:(p78 (redR N)).length≤64:=by rw[ga9];have:=ew4 h2;omega
 have hAl:(p78 (redR M)).length≤64:=by rw[ga9];have:=ew4 h1;omega
 have e4:=fun X T1 nl ks=>ij7 (q:=q) h0 hk h1 hB hBl (X:=X) (T1:=T1) (p78 (redR N)).length 0 nl (lls 2 ((p78 (redR N)).map vs)) (by omega) (by rw[qf0,List.length_map]) (fun j b _ hb=>th8 (by rw[List.getElem?_map,hb];rfl)) ks
 rw[List.take_zero,List.append_nil,gl4 h1 h2]at e4
 simp only[Int.natCast_zero]at e4
 rw[lo1]at e2 e3⊢
 have l1:(List.map vs (p78 (redR M))).length=(p78 (redR M)).length:=List.length_map _
 have l2:(List.map vs (p78 (redR N))).length=(p78 (redR N)).length:=List.length_map _
 generalize p78 (redR M)=A at*
 generalize p78 (redR N)=B at*
 rw[o10 rfl T10 rfl]
 unfold F10 c10
 cases hA0:(List.map vs A).isEmpty with
 |true=>
  simp(disch:=first|omega|fail) only[push_cast,seval,ui5,lu7,y81,bj9,wrap64,dec_lt,cw6,nl3,qc6,mr8,nb8,if_pos,if_neg,vbx,e1,e2,e3,l1,l2,e03,hA0]
  rw[e4]
  simp(disch:=first|omega|fail) only[push_cast,seval,ui5,lu7,y81,bj9,wrap64,dec_lt,cw6,nl3,qc6,mr8,nb8,if_pos,if_neg]
 |false=>
  simp(disch:=first|omega|fail) only[push_cast,seval,ui5,lu7,y81,bj9,wrap64,dec_lt,cw6,nl3,qc6,mr8,nb8,if_pos,if_neg,vbx,e1,e2,e3,l1,l2,e03,hA0]
  rw[e4]
  simp(disch:=first|omega|fail) only[push_cast,seval,ui5,lu7,y81,bj9,wrap64,dec_lt,cw6,nl3,qc6,mr8,nb8,if_pos,if_neg]
theorem h08{q n q' n':Int}{M M':List (List Int)}(he:hv3 q n M q' n' M'≠0):o24 W 11 [.agg [.x (.int .i64 q), .x (.int .i64 n), .fz true (.sl nl 0 1 (lvs nr M))], .agg [.x (.int .i64 q'), .x (.int .i64 n'), .fz true (.sl nl' 0 1 (lvs nr' M'))]] []=some (.tup [.agg [.x (.int .i64 0), .x (.int .i64 0), .x (.slice none 0 0)], .x (.int .i64 (hv3 q n M q' n' M'))],[],[]):=by
 have e1:=g77 (q:=q) (n:=n) (M:=M) (q':=q') (n':=n') (M':=M') (nl:=nl) (nr:=nr) (nl':=nl') (nr':=nr')
 rw[o10 rfl T11 rfl]
 unfold F11 c11
 simp(disch:=first|omega|fail) only[push_cast,seval,ui5,lu7,y81,bj9,wrap64,dec_lt,cw6,nl3,qc6,mr8,nb8,if_pos,if_neg,e1,nb8 he]
def p26(k:Nat)(M N:List (List (El q))):List (Nat×List (El q)):=zt5 k (p78 (zt5 k M)++p78 (zt5 k N))
theorem cb6(hM:gi9 q k (M.map vs)=0)(hN:gi9 q k (N.map vs)=0)(h0:0<k)(hk:k≤64)(hl:M.length≤64)(hl2:N.length≤64)(h1: ∀r∈M,r.length=k)(h2: ∀r∈N,r.length=k):
 o24 W 11 [.agg [.x (.int .i64 q), .x (.int .i64 k), .fz true (.sl nl 0 1 (lvs nr (M.map vs)))], .agg [.x (.int .i64 q), .x (.int .i64 k), .fz true (.sl nl' 0 1 (lvs nr' (N.map vs)))]] []=some (.tup [.agg [.x (.int .i64 q), .x (.int .i64 k), .own 0 []], .x (.int .i64 0)],[.sl 2 34 1 (lls 2 (pvR (p26 k M N)))],[]):=by
 have e1:=g77 (q:=q) (n:=k) (M:=M.map vs) (q':=q) (n':=k) (M':=N.map vs) (nl:=nl) (nr:=nr) (nl':=nl') (nr':=nr')
 rw[g86 hM hN]at e1
 have e2:=fun nl nr=>x92 (nl:=nl) (nr:=nr) hM h0 hk hl h1
 have e3:=fun nl nr=>x92 (nl:=nl) (nr:=nr) hN h0 hk hl2 h2
 obtain⟨a1,a2,a3,a4⟩:=sw1 h1
 obtain⟨b1,b2,b3,b4⟩:=sw1 h2
 have hA:=zu4 a2
 have hB:=zu4 b2
 have hAl:(p78 (zt5 k M)).length≤64:=by rw[ga9];omega
 have hBl:(p78 (zt5 k N)).length≤64:=by rw[ga9];omega
 have cA:=tc0 (q:=q) (k:=k) (N:=p78 (zt5 k M)) h0 hk hAl hA (sy6 hAl hA h0 hk)
 have cB:=tc0 (q:=q) (k:=k) (N:=p78 (zt5 k N)) h0 hk hBl hB (sy6 hBl hB h0 hk)
 have e4:=fun nl nr nl' nr'=>de0 (nl:=nl) (nr:=nr) (nl':=nl') (nr':=nr') cA cB h0 hk hAl hBl hA hB
 have hAB:=rl5 hA hB
 obtain⟨s1,s2,s3⟩:=bi2 hAB
 have hSl:(p78 (redR (p78 (zt5 k M)++p78 (zt5 k N)))).length≤64:=by
  rw[ga9]
  have:=s1.len
  have:(redR (p78 (zt5 k M)++p78 (zt5 k N))).length≤k:=by simpa [toF]using this
  omega
 have hS:=zu4 s2
 have cS:=tc0 (q:=q) (k:=k) h0 hk hSl hS (sy6 hSl hS h0 hk)
 have e5:=fun nl nr=>x92 (nl:=nl) (nr:=nr) cS h0 hk hSl hS
 rw[cx8 hAB]at e5
 simp only[lo1]at e2 e3 e4 e5
 rw[lo1]
 unfold p26
 rw[o10 rfl T11 rfl]
 unfold F11 c11
 simp(disch:=first|omega|fail) only[push_cast,seval,ui5,lu7,y81,bj9,wrap64,dec_lt,cw6,nl3,qc6,mr8,nb8,if_pos,if_neg,vbx,e1,e2,e3,e4,e5]
theorem xm3(hl:M.length≤64)(hl2:N.length≤64)(hk:k≤64)(h1: ∀r∈M,r.length=k)(h2: ∀r∈N,r.length=k):
 o24 W 13 [.agg [.x (.int .i64 q), .x (.int .i64 k), .fz true (.sl nl 0 1 (lvs nr (M.map vs)))], .agg [.x (.int .i64 q), .x (.int .i64 k), .fz true (.sl nl' 0 1 (lvs nr' (N.map vs)))]] []=some (.agg [.x (.int .i64 q), .x (.int .i64 k), .own 0 []],[.sl 2 34 1 (lls 2 (pvR (p26 k M N)))],[]):=by
 obtain⟨a1,a2,a3,a4⟩:=sw1 h1
 obtain⟨b1,b2,b3,b4⟩:=sw1 h2
 have hA:=zu4 a2
 have hB:=zu4 b2
 have hAl:(p78 (zt5 k M)).length≤64:=by rw[ga9];omega
 have hBl:(p78 (zt5 k N)).length≤64:=by rw[ga9];omega
 have e1:=fun nl nr=>x85 (nl:=nl) (nr:=nr) (q:=q) (show M.length≤500 by omega) h1 (by omega)
 have e2:=fun nl nr=>x85 (nl:=nl) (nr:=nr) (q:=q) (show N.length≤500 by omega) h2 (by omega)
 have e3:=fun nl nr=>x85 (nl:=nl) (nr:=nr) (N:=p78 (zt5 k M)++p78 (zt5 k N)) (by rw[List.length_append];omega) (rl5 hA hB) (by omega)
 simp only[lo1,List.map_append]at e1 e2 e3
 rw[lo1]
 have l1:(List.map vs (p78 (zt5 k M))).length=(p78 (zt5 k M)).length:=List.length_map _
 have l2:(List.map vs (p78 (zt5 k N))).length=(p78 (zt5 k N)).length:=List.length_map _
 unfold p26
 generalize p78 (zt5 k M)=A at*
 generalize p78 (zt5 k N)=B at*
 rw[o10 rfl T13 rfl]
 unfold F13 c13
 cases hA0:(List.map vs A).isEmpty with
 |true=>
  cases hB0:(List.map vs B).isEmpty with
  |true=>simp(disch:=first|omega|fail) only[push_cast,seval,ui5,lu7,y81,bj9,wrap64,dec_lt,cw6,nl3,qc6,mr8,nb8,if_pos,if_neg,vbx,e1,e2,l1,l2,be6,e3,e03,hA0,hB0]
  |false=>simp(disch:=first|omega|fail) only[push_cast,seval,ui5,lu7,y81,bj9,wrap64,dec_lt,cw6,nl3,qc6,mr8,nb8,if_pos,if_neg,vbx,e1,e2,l1,l2,be6,e3,e03,hA0,hB0]
 |false=>
  cases hB0:(List.map vs B).isEmpty with
  |true=>simp(disch:=first|omega|fail) only[push_cast,seval,ui5,lu7,y81,bj9,wrap64,dec_lt,cw6,nl3,qc6,mr8,nb8,if_pos,if_neg,vbx,e1,e2,l1,l2,be6,e3,e03,hA0,hB0]
  |false=>simp(disch:=first|omega|fail) only[push_cast,seval,ui5,lu7,y81,bj9,wrap64,dec_lt,cw6,nl3,qc6,mr8,nb8,if_pos,if_neg,vbx,e1,e2,l1,l2,be6,e3,e03,hA0,hB0]
end
end Go.Proofs.Ytlhmdmedagjmnaa
namespace Go.Proofs.Ytlhmdmedagjmnaa
open Go.Am Go.Vm Go.Alg
section
variable {q n q' n':Int} {nl nr nl' nr':Nat} {M M':List (List Int)}
theorem aa7{q:Int}{N:List (List (El q))}{n:Nat}(hr: ∀r∈N,r.length=n)(hn:n≤100000): ∀r∈N.map vs,r.length≤9223372036854775807:=fun c hc=>by
 obtain⟨r,hr',rfl⟩:=List.mem_map.1 hc
 rw[fi2,hr r hr'];omega
theorem fe5: ∀A B:List Tree,jj5 (A++B)=jj5 A++jj5 B
 | [],B=>rfl
 |a::A,B=>by rw[List.cons_append,jj5,jj5,fe5 A B];rfl
theorem uu0(n:Nat): ∀m:List (List Int),jj5 ((lvs n m).map fzT)=lvs n m
 | []=>rfl
 |l::m=>by
  have:=uu0 n m
  rw[show lvs n (l::m)= .sl n 0 1 (ivs l)::lvs n m from rfl,List.map_cons,jj5,this];rfl
theorem co7(n:Nat)(A B:List (List Int)):jj5 ((lvs n A).map fzT++(lvs n B).map fzT)=lvs n (A++B):=by
 rw[fe5,uu0,uu0];unfold lvs;rw[List.map_append]
theorem bc7(hl:M.length≤9223372036854775807)(hl':M'.length≤9223372036854775807):
 o24 W 3 [.agg [.x (.int .i64 q), .x (.int .i64 n), .fz true (.sl nl 0 1 (lvs 2 M))], .agg [.x (.int .i64 q'), .x (.int .i64 n'), .fz true (.sl nl' 0 1 (lvs 2 M'))]] []=some (.x (.bool true),[],[]):=by
 obtain⟨z1,w1⟩:=tr6 hl
 obtain⟨z2,w2⟩:=tr6 hl'
 cases z1 with
 |true=>
  rw[o10 rfl T3 rfl]
  unfold F3 c3
  simp(disch:=first|omega|fail) only[push_cast,seval,ui5,lu7,y81,bj9,wrap64,dec_lt,cw6,nl3,qc6,mr8,nb8,if_pos,if_neg,w1]
 |false=>
 cases z2 with
 |true=>
  rw[o10 rfl T3 rfl]
  unfold F3 c3
  simp(disch:=first|omega|fail) only[push_cast,seval,ui5,lu7,y81,bj9,wrap64,dec_lt,cw6,nl3,qc6,mr8,nb8,if_pos,if_neg,w1,w2]
 |false=>
 have e1:=fun nl nr=>hg6 (q:=q) (n:=n) (M:=M) (nl:=nl) (nr:=nr)
 have e2:=fun nl nr=>hg6 (q:=q') (n:=n') (M:=M') (nl:=nl) (nr:=nr)
 by_cases he:hv3 q n M q' n' M'=0
 ·obtain⟨h1,h2,rfl,rfl⟩:=i50 he
  obtain⟨k,rfl,h0,hk,hf,A,rfl,hAl,hA⟩:=hs4 h1
  obtain⟨k',hkk,_,_,_,B,rfl,hBl,hB⟩:=hs4 h2
  obtain rfl:k=k':=by omega
  have e3:=fun nl nr nl' nr'=>de0 (nl:=nl) (nr:=nr) (nl':=nl') (nr':=nr') h1 h2 h0 hk hAl hBl hA hB
  have e4:=fun nl nr nl' nr'=>cb6 (nl:=nl) (nr:=nr) (nl':=nl') (nr':=nr') h1 h2 h0 hk hAl hBl hA hB
  have e5:=fun nl nr nl' nr'=>xm3 (nl:=nl) (nr:=nr) (nl':=nl') (nr':=nr') (q:=q) hAl hBl hk hA hB
  have hAB:=rl5 hA hB
  have e6:=fun nl nr=>vd8 (nl:=nl) (nr:=nr) (N:=A++B) (n:=k) (by rw[List.length_append];omega) hAB (by omega)
  have s1:=bi2 hAB
  have s2:(redR (A++B)).length≤k:=by have:=s1.1.len;simpa [toF]using this
  obtain⟨a1,a2,a3,a4⟩:=sw1 hA
  obtain⟨b1,b2,b3,b4⟩:=sw1 hB
  have hm:=sw1 (rl5 (zu4 a2) (zu4 b2))
  have hml:(p26 k A B).length≤k:=by unfold p26;have:=hm.2.2.2;omega
  have e7:=fun nl nr nl' nr'=>p72 (q:=q) (n:=k) (M:=pvR (redR (A++B))) (nl:=nl) (nr:=nr) (nl':=nl') (nr':=nr') (by rw[nu3];omega) (by rw[lo1];exact aa7 (zu4 s1.2.1) (by omega))
  have e8:=fun nl nr nl' nr'=>p72 (q:=q) (n:=k) (M:=pvR (p26 k A B)) (nl:=nl) (nr:=nr) (nl':=nl') (nr':=nr') (by rw[nu3];omega) (by rw[lo1];exact aa7 (zu4 hm.2.1) (by omega))
  have l1:(List.map vs A).length=A.length:=List.length_map _
  have l2:(List.map vs B).length=B.length:=List.length_map _
  rw[List.map_append]at e6
  rw[o10 rfl T3 rfl]
  unfold F3 c3
  simp(disch:=first|omega|fail) only[push_cast,seval,ui5,lu7,y81,bj9,wrap64,dec_lt,cw6,nl3,qc6,mr8,nb8,if_pos,if_neg,vbx,w1,w2,e1,e2,h1,h2,e3,e4,l1,l2,e5,co7,e6,e7,e8]
 ·have e3:=fun nl nr nl' nr'=>w28 (nl:=nl) (nr:=nr) (nl':=nl') (nr':=nr') he
  have e4:=fun nl nr nl' nr'=>h08 (nl:=nl) (nr:=nr) (nl':=nl') (nr':=nr') he
  have e5:=v05 he
  have hE:=he
  unfold hv3 at hE e3 e4 e5
  rw[o10 rfl T3 rfl]
  unfold F3 c3
  by_cases h1:gi9 q n M=0
  ·simp only[if_pos h1]at hE e3 e4 e5
   by_cases h2:gi9 q' n' M'=0
   ·simp only[if_pos h2]at hE e3 e4 e5
    by_cases h3:q=q'
    ·by_cases h4:n=n'
     ·rw[if_pos ⟨h3,h4⟩]at hE;exact absurd rfl hE
     ·simp only[if_neg fun h:q=q'∧n=n'=>h4 h.2]at e3 e4 e5
      simp(disch:=first|omega|fail) only[push_cast,seval,ui5,lu7,y81,bj9,wrap64,dec_lt,cw6,nl3,qc6,mr8,nb8,if_pos,if_neg,w1,w2,e1,e2,h1,h2,mr8 h3,nb8 h4,e3,e4,e5]
    ·simp only[if_neg fun h:q=q'∧n=n'=>h3 h.1]at e3 e4 e5
     simp(disch:=first|omega|fail) only[push_cast,seval,ui5,lu7,y81,bj9,wrap64,dec_lt,cw6,nl3,qc6,mr8,nb8,if_pos,if_neg,w1,w2,e1,e2,h1,h2,nb8 h3,e3,e4,e5]
   ·simp only[if_neg h2]at hE e3 e4 e5
    simp(disch:=first|omega|fail) only[push_cast,seval,ui5,lu7,y81,bj9,wrap64,dec_lt,cw6,nl3,qc6,mr8,nb8,if_pos,if_neg,w1,w2,e1,e2,h1,nb8 h2,e3,e4,e5]
  ·simp only[if_neg h1]at hE e3 e4 e5
   simp(disch:=first|omega|fail) only[push_cast,seval,ui5,lu7,y81,bj9,wrap64,dec_lt,cw6,nl3,qc6,mr8,nb8,if_pos,if_neg,w1,w2,e1,e2,nb8 h1,e3,e4,e5]
end
end Go.Proofs.Ytlhmdmedagjmnaa
namespace Go.Proofs.Ytlhmdmedagjmnaa
open Go.Am Go.Vm Go.Alg
section
variable {h:H} {l:List AV} {ws:List Value}
theorem a23:Vm.VRL h [] (allZ h) (allZ h) [] []:=by rw[Vm.VRL]
theorem dp0(r:Vm.VRL h [] (allZ h) (allZ h) l ws)(v:Value):Vm.VRL h [] (allZ h) (allZ h) (.x v::l) (v::ws):=by
 rw[Vm.VRL];exact⟨v,ws,rfl,by rw[Vm.VR],r⟩
theorem ds5(r:Vm.VRL h [] (allZ h) (allZ h) l ws){sa:Option Addr}{c:Nat}{m:List (List Int)}(hr:RdLL h sa c m)(hu:ss4 h 1 sa=true):Vm.VRL h [] (allZ h) (allZ h) (.fz true (.sl 2 0 1 (lvs 2 m))::l) (.slice sa m.length c::ws):=by
 rw[Vm.VRL];exact⟨_,ws,rfl,by rw[Vm.VR];exact gl3 hr hu fun _ ho=>ho,r⟩
end
end Go.Proofs.Ytlhmdmedagjmnaa
namespace Go.Am
theorem n61{P:Program}{w:World}{base:Nat}{t:TypeId}{fs:Array Field}(ht:P.underlying t=some (.struct fs)){cs:Array Value}(h:Value.okWide P w .any base t (.agg cs)){ts:List TypeId}(hts:P.cellTypes P.depth t=some ts)(hl:cs.size=ts.length){i:Nat}{v:Value}(hv:cs[i]? =some v){u:TypeId}(hu:ts[i]? =some u):Cell.okWide P w .any base u v:=by
 simp only[Value.okWide,ht]at h
 obtain⟨cs',h1,h2,ts',h3,h4,h5⟩:=h
 cases h1
 rw[hts]at h3
 cases h3
 obtain⟨u',h6,h7⟩:=h5 i v hv
 have hi:i<ts.length:=by rw[←hl];exact(Array.getElem?_eq_some_iff.1 hv).1
 rw[Nat.mod_eq_of_lt hi,hu]at h6
 cases h6
 exact h7
theorem bm1{P:Program}{w:World}{base:Nat}{t e:TypeId}{x:Addr}{len cap:Nat}(ht:P.underlying t=some (.slice e))(h:Cell.okWide P w .any base t (.slice (some x) len cap)):x.spot=none∧x.block<w.heap.size:=
 yk7 (base:=base) ht (by simp only[Value.okWide,ht];exact h)
section
variable {φ:Ren} {n:Nat} {v v':Value}
theorem lr3{a b:Int}(h:VR φ n v v')(h1:v.oneCell'=true):VR φ n (.agg #[.int .i64 a, .int .i64 b,v]) (.agg #[.int .i64 a, .int .i64 b,v']):=by
 refine .agg _ _ rfl (fun i hi=> ?_) fun i hi hi'=> ?_
 ·match i,hi with
  |0,_=>rfl
  |1,_=>rfl
  |2,_=>exact h1
 ·match i,hi with
  |0,_=>exact .int .i64 a
  |1,_=>exact .int .i64 b
  |2,_=>exact h
end
end Go.Am
namespace Go.Am
open Go.Deep Go.WideShapes Go.ChangeShapes
def w2(W:World)(x:Addr)(i:Nat)(q:Int×Int):Prop:=W.cell? (x.add (i*2))=some (.int .i64 q.1)∧W.cell? (x.add (i*2+1))=some (.int .i64 q.2)
section
variable {H:Type} {enc:TypeId×Value→H} {P:Program} {W:World} {base:Nat} {held:Bool} {t i3 s2 s3:TypeId} {f0 f1 f2:Field} {v:Value} {d:DataW H} {p:List MemPlace}
theorem c97(ht:P.underlying t=some (.struct #[f0,f1,f2]))(h3:P.underlying i3=some (.int .i64))(h22:P.underlying s2=some (.slice s3))(h23:P.underlying s3=some (.slice i3))
 (F:f0.type=i3∧f0.offset=0∧f1.type=i3∧f1.offset=1∧f2.type=s2∧f2.offset=2) (C:P.cellsOf i3=1∧P.cellsOf s2=1∧P.cellsOf s3=1∧P.cellsOf t=3) (hts:P.cellTypes P.depth t=some [i3,i3,s2])
 (hval:Value.okWide P W .any base t v) (h:DataW.Trod enc P W 0 (fun _=>true) held t v d p):
 ∃a b A len cap z,v= .agg #[.int .i64 a, .int .i64 b, .slice A len cap]∧(Lit.int .i64 a).wf=true∧(Lit.int .i64 b).wf=true∧RoL W A len cap z∧len≤maxLen∧ ∀l∈z,l.length≤maxLen:=by
 obtain⟨cs,rfl,hsz⟩:=okWide_struct ht hval
 obtain⟨C1,C2,C3,C4⟩:=C
 obtain⟨F1,F2,F3,F4,F5,F6⟩:=F
 rw[C4]at hsz
 obtain⟨x0,x1,x2,rfl⟩: ∃x0 x1 x2,cs= #[x0,x1,x2]:=by
  obtain⟨l⟩:=cs
  match l,hsz with
  | [x0,x1,x2],_=>exact⟨_,_,_,rfl⟩
 obtain⟨fuel,hf⟩:=h
 obtain⟨xs,n,_,_,_,hxl,hfl⟩:=DataW.trod_struct ht hf
 have g0:=hfl 0 f0 rfl
 have g1:=hfl 1 f1 rfl
 have g2:=hfl 2 f2 rfl
 have hxl3:xs.length=3:=hxl
 obtain⟨y0,y1,y2,rfl⟩: ∃y0 y1 y2,xs=[y0,y1,y2]:=by
  match xs,hxl3 with
  | [y0,y1,y2],_=>exact⟨_,_,_,rfl⟩
 simp[F1,F2,F3,F4,F5,F6,C1,C2,Value.cells]at g0 g1 g2
 obtain⟨a,ha,_,wa⟩:=DataW.trod_int h3 g0
 obtain⟨b,hb,_,wb⟩:=DataW.trod_int h3 g1
 obtain rfl:x0= .int .i64 a:=by simpa using ha
 obtain rfl:x1= .int .i64 b:=by simpa using hb
 rcases open_int_rows h22 h23 h3 C3 C1 g2 with⟨hcs,_⟩|⟨x,l,c,Ad,Ln,Cp,Z,hcs,_,hl,hm,_,hrow⟩
 ·obtain rfl:x2= .slice none 0 0:=by simpa using hcs
  exact⟨a,b,none,0,0,[],rfl,wa,wb,⟨rfl, .inl ⟨rfl,rfl,rfl⟩⟩,Nat.zero_le _,fun _ h=>absurd h List.not_mem_nil⟩
 ·obtain rfl:x2= .slice (some x) l c:=by simpa using hcs
  have had:=bm1 h22 (n61 ht hval hts rfl (i:=2) rfl rfl)
  refine⟨a,b,some x,l,c,_,rfl,wa,wb,RoL.of had.1 had.2 hl hrow,Nat.le_trans hl hm,fun l' hl'=> ?_⟩
  obtain⟨r,hr,rfl⟩:=List.mem_map.1 hl'
  have:=List.mem_range.1 hr
  obtain⟨_,q1,q2,q3,_⟩:=hrow r (by omega)
  rw[List.length_take]
  omega
end
end Go.Am
namespace Go.Proofs.Ytlhmdmedagjmnaa
open Go.Am Go.Vm Go.Alg
section
variable {h:H} {l:List AV} {ws:List Value}
theorem wy9(r:Vm.VRL h [] (allZ h) (allZ h) l ws){q n:Int}{sa:Option Addr}{c:Nat}{m:List (List Int)}(hr:RdLL h sa c m)(hu:ss4 h 1 sa=true):
 Vm.VRL h [] (allZ h) (allZ h) (.agg [.x (.int .i64 q), .x (.int .i64 n), .fz true (.sl 2 0 1 (lvs 2 m))]::l) (.agg #[.int .i64 q, .int .i64 n, .slice sa m.length c]::ws):=by
 rw[Vm.VRL]
 refine⟨_,ws,rfl, ?_,r⟩
 rw[Vm.VR]
 exact⟨_,rfl,dp0 (dp0 (ds5 a23 hr hu) _) _⟩
end
end Go.Proofs.Ytlhmdmedagjmnaa
namespace Go.Proofs.Ytlhmdmedagjmnaa
open Go.Am Go.Vm Go.Alg
theorem ei6(h:H)(m0:Int)(_: -9223372036854775808≤m0)(_:m0≤9223372036854775807)(o0:Int)(_: -9223372036854775808≤o0)(_:o0≤9223372036854775807)(s0:Option Addr)(c0:Nat)(z0:List (List Int))(r0:RdLL h s0 c0 z0)(u0:ss4 h 1 s0=true)(_:z0.length≤9223372036854775807)(_: ∀l∈z0,l.length≤9223372036854775807)(m1:Int)(_: -9223372036854775808≤m1)(_:m1≤9223372036854775807)(o1:Int)(_: -9223372036854775808≤o1)(_:o1≤9223372036854775807)(s1:Option Addr)(c1:Nat)(z1:List (List Int))(r1:RdLL h s1 c1 z1)(u1:ss4 h 1 s1=true)(_:z1.length≤9223372036854775807)(_: ∀l∈z1,l.length≤9223372036854775807):
 ∃h',call T 3 [.agg #[.int .i64 m0, .int .i64 o0, .slice s0 z0.length c0], .agg #[.int .i64 m1, .int .i64 o1, .slice s1 z1.length c1]] h=some (.bool true,h'):=
 vlaw lw2 (wy9 (wy9 a23 r1 u1) r0 u0) (by apply bc7<;>assumption)
end Go.Proofs.Ytlhmdmedagjmnaa
