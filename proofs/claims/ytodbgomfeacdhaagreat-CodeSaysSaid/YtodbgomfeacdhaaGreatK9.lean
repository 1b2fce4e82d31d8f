/-
  How many words can stand apart, in plain Lean: of more words than others span them some are told by the rest; what rows make 0; rows turned. No condition. matrix.Reduce, Rank called, in the second mac ..
-/
import Derived.Test.YtodbgomfeacdhaaGreatK8
import Derived.Test.YtodbgomfeacdhaaGreatK6
import Derived.Deep.SlicePairs
import Derived.WideShapes
import Derived.Deep.Matrix
import Derived.ChangeArms
set_option linter.unusedVariables false
set_option linter.unusedSimpArgs false
set_option linter.unusedSectionVars false
set_option maxRecDepth 100000
namespace Go.Alg
section
variable {K:Type} [FK K]
theorem y46{α β:Type}(f:α×β→K): ∀(l:List α) (l':List β),l.length=l'.length→ ∀l2 l2',sumL ((l++l2).zip (l'++l2')) f=sumL (l.zip l') f+sumL (l2.zip l2') f:=fun l l' h l2 l2'=>by
 rw[List.zip_append h,up0]
theorem uj4{α β γ:Type}(g:β→γ)(f:α×γ→K): ∀(l:List α) (l':List β),sumL (l.zip (l'.map g)) f=sumL (l.zip l') (fun p=>f (p.1,g p.2))
 | [],_=>rfl
 |_::_,[]=>rfl
 |a::l,b::l'=>by rw[List.map_cons,List.zip_cons_cons,List.zip_cons_cons,gb6,gb6,uj4 g f l l']
theorem hom: ∀(r:Nat) (S:List (Nat→K)),r<S.length→ ∃y:List K,y.length=S.length∧(∃a∈y,a≠0)∧ ∀j,j<r→sumL (y.zip S) (fun p=>p.1*p.2 j)=0
 |0,S,h=>by
  refine⟨List.replicate S.length 1,List.length_replicate,⟨1,List.mem_replicate.2 ⟨by omega,rfl⟩,ki7⟩,fun j hj=>absurd hj (Nat.not_lt_zero j)⟩
 |r+1,S,h=>by
  by_cases hs: ∃s∈S,s r≠0
  ·obtain⟨s,hs,hne⟩:=hs
   obtain⟨S1,S2,rfl⟩:=List.append_of_mem hs
   have hl:r<((S1++S2).map (fun(t:Nat→K) j=>t j-t r*FK.inv (s r)*s j)).length:=by
    simp only[List.length_map,List.length_append,List.length_cons]at h⊢;omega
   obtain⟨y,y1,⟨a,y2,y3⟩,y4⟩:=hom r _ hl
   rw[List.length_map,List.length_append]at y1
   have hsp:y=y.take S1.length++y.drop S1.length:=(List.take_append_drop _ _).symm
   have h1:(y.take S1.length).length=S1.length:=by rw[List.length_take];omega
   have h2:(y.drop S1.length).length=S2.length:=by rw[List.length_drop];omega
   generalize y.take S1.length=u at hsp h1
   generalize y.drop S1.length=w at hsp h2
   subst hsp
   have hsum: ∀(c:K) j,sumL ((u++c::w).zip (S1++s::S2)) (fun p=>p.1*p.2 j)=sumL ((u++w).zip (S1++S2)) (fun p=>p.1*p.2 j)+c*s j:=fun c j=>by
    rw[y46 _ _ _ h1,y46 _ _ _ h1,List.zip_cons_cons,gb6,FK.add_assoc,FK.add_comm (sumL (w.zip S2) _)]
   refine⟨u++ -(sumL ((u++w).zip (S1++S2)) (fun p=>p.1*p.2 r)*FK.inv (s r))::w, ?_,⟨a, ?_,y3⟩,fun j hj=> ?_⟩
   ·simp only[List.length_append,List.length_cons,h1,h2]
   ·simp only[List.mem_append,List.mem_cons]at y2⊢
    rcases y2 with y2|y2
    ·exact .inl y2
    ·exact .inr (.inr y2)
   ·rw[hsum]
    by_cases hjr:j=r
    ·subst hjr
     rw[neg_mul,FK.mul_assoc,inv_mul hne,FK.mul_one,FK.add_neg]
    ·have h3:=y4 j (by omega)
     rw[uj4]at h3
     have h4:sumL ((u++w).zip (S1++S2)) (fun p=>p.1*(p.2 j-p.2 r*FK.inv (s r)*s j))=sumL ((u++w).zip (S1++S2)) (fun p=>p.1*p.2 j)-sumL ((u++w).zip (S1++S2)) (fun p=>p.1*p.2 r)*FK.inv (s r)*s j:=by
      rw[←ue3,←ue3,←b15]
      refine ox7 fun p _=> ?_
      rw[mul_sub,←FK.mul_assoc,←FK.mul_assoc]
     have h3:sumL ((u++w).zip (S1++S2)) (fun p=>p.1*(p.2 j-p.2 r*FK.inv (s r)*s j))=0:=h3
     rw[h4]at h3
     rw[neg_mul,←sub_eq,h3]
  ·obtain⟨y,y1,y2,y3⟩:=hom r S (by omega)
   refine⟨y,y1,y2,fun j hj=> ?_⟩
   by_cases hjr:j=r
   ·subst hjr
    refine tx6 fun p hp=> ?_
    have:p.2 j=0:=Classical.byContradiction fun hne=>hs ⟨p.2,(List.of_mem_zip hp).2,hne⟩
    rw[this,mul_zero]
   ·exact y3 j (by omega)
def wu9(S:List (Nat→K)):Prop:= ∀y:List K,y.length=S.length→(∀k,sumL (y.zip S) (fun p=>p.1*p.2 k)=0)→ ∀a∈y,a=0
theorem tw1{R:List (Nat→K)}{w:Nat→K}(h:Span R w): ∃c:Nat→K,w=fun k=>sumN R.length fun j=>c j*(R.getD j fun _=>0) k:=by
 refine h.lin (P:=fun w=> ∃c:Nat→K,w=fun k=>sumN R.length fun j=>c j*(R.getD j fun _=>0) k) ?_ ?_ ?_
 ·exact⟨fun _=>0,by funext k;exact(ja4 fun j _=>zero_mul _).symm⟩
 ·rintro _ _ c ⟨c1,rfl⟩ ⟨c2,rfl⟩
  refine⟨fun j=>c1 j+c*c2 j, ?_⟩
  funext k
  show sumN _ _+c*sumN _ _=_
  unfold sumN
  rw[←ro9,←jl9]
  refine ox7 fun j _=> ?_
  rw[add_mul,FK.mul_assoc]
 ·intro r hr
  obtain⟨i,hi,rfl⟩:=List.getElem_of_mem hr
  refine⟨fun j=>if j=i then 1 else 0, ?_⟩
  funext k
  rw[xq2 hi fun j hj hne=>by show(if j=i then(1:K)else 0)*_=0;rw[if_neg hne,zero_mul]]
  show _=(if i=i then(1:K)else 0)*_
  rw[if_pos rfl,one_mul,List.getD_eq_getElem?_getD,List.getElem?_eq_getElem hi];rfl
theorem c99{R S:List (Nat→K)}(hS: ∀s∈S,Span R s)(hi:wu9 S):S.length≤R.length:=by
 refine Classical.byContradiction fun hlt=> ?_
 have hc: ∀s:{s//s∈S},∃c:Nat→K,s.1=fun k=>sumN R.length fun j=>c j*(R.getD j fun _=>0) k:=fun s=>tw1 (hS s.1 s.2)
 obtain⟨C,hC⟩:=Classical.axiomOfChoice hc
 obtain⟨y,y1,⟨a,y2,y3⟩,y4⟩:=hom R.length (S.attach.map C) (by rw[List.length_map,List.length_attach];omega)
 rw[List.length_map,List.length_attach]at y1
 refine y3 (hi y y1 (fun k=> ?_) a y2)
 have h1:sumL (y.zip S) (fun p=>p.1*p.2 k)=sumL (y.zip S.attach) (fun p=>p.1*p.2.1 k):=by
  have h0:S=S.attach.map Subtype.val:=(List.attach_map_subtype_val S).symm
  conv=>lhs;rw[h0]
  rw[uj4]
 rw[h1]
 have h2: ∀p∈y.zip S.attach,p.1*p.2.1 k=sumN R.length fun j=>p.1*(C p.2 j*(R.getD j fun _=>0) k):=fun p _=>by
  have:=congrFun (hC p.2) k
  rw[this]
  unfold sumN
  rw[ro9]
 rw[ox7 h2]
 unfold sumN
 rw[j53]
 refine tx6 fun j hj=> ?_
 have h3:=y4 j (List.mem_range.1 hj)
 rw[uj4]at h3
 have h4:sumL (y.zip S.attach) (fun p=>p.1*(C p.2 j*(R.getD j fun _=>0) k))=sumL (y.zip S.attach) (fun p=>p.1*C p.2 j)*(R.getD j fun _=>0) k:=by
  rw[←ue3]
  exact ox7 fun p _=>(FK.mul_assoc _ _ _).symm
 have h3:sumL (y.zip S.attach) (fun p=>p.1*C p.2 j)=0:=h3
 rw[h4,h3,zero_mul]
theorem nu5{α β:Type}(f:α×β→K)(da:α)(db:β): ∀(l:List α) (l':List β),l.length=l'.length→sumL (l.zip l') f=sumN l.length fun i=>f (l.getD i da,l'.getD i db)
 | [],_,_=>rfl
 |a::l,b::l',h=>by
  rw[List.zip_cons_cons,gb6,List.length_cons,da0,nu5 f da db l l' (by simpa using h)];rfl
theorem wx6{S:List (Nat→K)}(P:Nat→Nat)(h: ∀i j,i<S.length→j<S.length→(S.getD i fun _=>0) (P j)=if i=j then 1 else 0):wu9 S:=by
 intro y hy h0 a ha
 obtain⟨j,hj,rfl⟩:=List.getElem_of_mem ha
 have h1:=h0 (P j)
 rw[nu5 _ 0 (fun _=>0) y S hy,xq2 hj (fun i hi hne=>by show y.getD i 0*(S.getD i fun _=>0) (P j)=0;rw[h i j (by omega) (by omega),if_neg hne,mul_zero])]at h1
 have h1:y.getD j 0*(S.getD j fun _=>0) (P j)=0:=h1
 rw[h j j (by omega) (by omega),if_pos rfl,FK.mul_one,List.getD_eq_getElem?_getD,List.getElem?_eq_getElem hj]at h1
 exact h1
theorem Rref.indep{n:Nat}{A:List (Nat×(Nat→K))}(h:Rref n A):wu9 (rowsOf A):=by
 have hl:(rowsOf A).length=A.length:=by unfold rowsOf;rw[List.length_map]
 refine wx6 (fun j=>(A.getD j (0,fun _=>0)).1) fun i j hi hj=> ?_
 rw[hl]at hi hj
 have h1:(rowsOf A).getD i (fun _=>0)=A[i].2:=by unfold rowsOf;rw[List.getD_eq_getElem?_getD,List.getElem?_map,List.getElem?_eq_getElem hi];rfl
 have h2:A.getD j (0,fun _=>0)=A[j]:=by rw[List.getD_eq_getElem?_getD,List.getElem?_eq_getElem hj];rfl
 rw[h1,h2]
 by_cases he:i=j
 ·subst he;rw[if_pos rfl];exact h.one _ (List.getElem_mem hi)
 ·rw[if_neg he]
  refine h.zero _ (List.getElem_mem hi) _ (List.getElem_mem hj) fun e=> ?_
  have:=List.pairwise_iff_getElem.1 h.nodup
  rcases Nat.lt_or_gt_of_ne he with hlt|hlt
  ·exact this i j hi hj hlt e
  ·exact this j i hj hi hlt e.symm
theorem Rref.le{n:Nat}{A:List (Nat×(Nat→K))}(h:Rref n A){R:List (Nat→K)}(hs: ∀w,Span (rowsOf A) w→Span R w):A.length≤R.length:=by
 have:=c99 (S:=rowsOf A) (R:=R) (fun s hs'=>hs s (.mem hs')) h.indep
 unfold rowsOf at this
 rwa [List.length_map]at this
theorem Rref.ge{n:Nat}{A:List (Nat×(Nat→K))}(h:Rref n A){S:List (Nat→K)}(hi:wu9 S)(hs: ∀w∈S,Span (rowsOf A) w):S.length≤A.length:=by
 have:=c99 hs hi
 unfold rowsOf at this
 rwa [List.length_map]at this
theorem Rref.same{n:Nat}{A B:List (Nat×(Nat→K))}(h:Rref n A)(g:Rref n B)(hs: ∀w,Span (rowsOf A) w→Span (rowsOf B) w)(hl:B.length≤A.length):A=B:=by
 refine h.uniq g fun w=>⟨hs w,fun hw=> ?_⟩
 refine Classical.byContradiction fun hno=> ?_
 --w and A's rows stand apart
 have hi:wu9 (w::rowsOf A):=by
  intro y hy h0 a ha
  cases y with
  |nil=>cases ha
  |cons c y=>
   have hy':y.length=(rowsOf A).length:=by simpa using hy
   have hc:c=0:=Classical.byContradiction fun hne=>hno (by
    have h1:w=fun k=>sumL (y.zip (rowsOf A)) fun p=>(-(FK.inv c)*p.1)*p.2 k:=by
     funext k
     have h2:=h0 k
     rw[List.zip_cons_cons,gb6]at h2
     have h3:c*w k= -(sumL (y.zip (rowsOf A)) fun p=>p.1*p.2 k):=by
      rw[FK.add_comm]at h2;exact ut3 h2
     have h4:sumL (y.zip (rowsOf A)) (fun p=>(-(FK.inv c)*p.1)*p.2 k)=FK.inv c* -(sumL (y.zip (rowsOf A)) fun p=>p.1*p.2 k):=by
      rw[mul_neg,←neg_mul,←ro9]
      exact ox7 fun p _=>FK.mul_assoc _ _ _
     rw[h4,←h3,←FK.mul_assoc,inv_mul hne,one_mul]
    rw[h1]
    exact Span.sum (f:=fun p:K×(Nat→K)=>p.2) fun p hp=> .mem (List.of_mem_zip hp).2)
   rcases List.mem_cons.1 ha with rfl|ha
   ·exact hc
   ·refine h.indep y hy' (fun k=> ?_) a ha
    have:=h0 k
    rwa [List.zip_cons_cons,gb6,hc,zero_mul,zero_add]at this
 have:=g.ge hi fun s hs'=>by
  rcases List.mem_cons.1 hs' with rfl|hs'
  ·exact hw
  ·exact hs s (.mem hs')
 simp only[List.length_cons,rowsOf,List.length_map]at this
 omega
end
section
variable {K:Type} [FK K] {n:Nat}
def dotF(n:Nat)(u w:Nat→K):K:=sumN n fun k=>u k*w k
theorem sc2(u w:Nat→K):dotF n u w=dotF n w u:=rc1 fun k _=>FK.mul_comm _ _
theorem xs8(c:K)(u r w:Nat→K):dotF n (axp c u r) w=dotF n u w+c*dotF n r w:=by
 unfold dotF sumN
 rw[←ro9,←jl9]
 refine ox7 fun k _=> ?_
 show(u k+c*r k)*w k=_
 rw[add_mul,FK.mul_assoc]
theorem mj9(w:Nat→K):dotF n (fun _=>0) w=0:=ja4 fun _ _=>zero_mul _
theorem fz3{R:List (Nat→K)}{w:Nat→K}(h: ∀r∈R,dotF n r w=0){u:Nat→K}(hu:Span R u):dotF n u w=0:=
 hu.lin (P:=fun u=>dotF n u w=0) (mj9 w) (fun u r c h1 h2=>by rw[xs8,h1,h2,mul_zero,FK.add_zero]) h
theorem ui3{R:List (Nat→K)}{u:Nat→K}(h: ∀r∈R,dotF n u r=0){w:Nat→K}(hw:Span R w):dotF n u w=0:=by
 rw[sc2];exact fz3 (fun r hr=>by rw[sc2];exact h r hr) hw
def sk9(n:Nat)(A:List (Nat×List K)):List Nat:=(List.range n).filter fun c=> !(A.any fun a=>a.1==c)
theorem c95(n:Nat)(A:List (Nat×List K)): ∀d c,ez9 n A d c=((List.range' c d).filter fun c=> !(A.any fun a=>a.1==c)).map fun c=>xRow n c A
 |0,_=>rfl
 |d+1,c=>by
  rw[ez9,List.range'_succ,List.filter_cons,c95 n A d (c+1)]
  cases (A.any fun a=>a.1==c)<;>rfl
theorem pv1(n:Nat)(A:List (Nat×List K)):ez9 n A n 0=(sk9 n A).map fun c=>xRow n c A:=by
 rw[c95];unfold sk9;rw[List.range_eq_range']
omit [FK K] in
theorem oz8{A:List (Nat×List K)}{c:Nat}:c∈sk9 n A↔c<n∧ ∀a∈A,a.1≠c:=by
 unfold sk9
 rw[List.mem_filter,List.mem_range]
 simp
omit [FK K] in
theorem a89(A:List (Nat×List K)):(sk9 n A).Nodup:=List.Pairwise.filter _ List.nodup_range
omit [FK K] in
theorem ir1{A:List (Nat×List K)}(hn:A.Pairwise fun a b=>a.1≠b.1)(hlt: ∀a∈A,a.1<n):(sk9 n A).length+A.length=n:=by
 have h1: ∀l:List Nat,(l.filter fun c=> !(A.any fun a=>a.1==c)).length+(l.filter fun c=>A.any fun a=>a.1==c).length=l.length:=by
  intro l
  induction l with
  |nil=>rfl
  |cons c l ih=>
   rw[List.filter_cons,List.filter_cons]
   cases (A.any fun a=>a.1==c)<;>simp<;>omega
 have h2:=h1 (List.range n)
 rw[List.length_range]at h2
 have h3:((List.range n).filter fun c=>A.any fun a=>a.1==c).Perm (A.map Prod.fst):=by
  refine(List.perm_ext_iff_of_nodup (List.Pairwise.filter _ List.nodup_range) ?_).2 fun c=> ?_
  ·exact List.pairwise_map.2 hn
  ·rw[List.mem_filter,List.mem_range,List.mem_map,List.any_eq_true]
   constructor
   ·rintro⟨_,a,ha,he⟩;exact⟨a,ha,by simpa using he⟩
   ·rintro⟨a,ha,rfl⟩;exact⟨hlt a ha,a,ha,by simp⟩
 have h4:=h3.length_eq
 rw[List.length_map]at h4
 unfold sk9
 omega
theorem a42{c:Nat}: ∀(A:List (Nat×List K)) (x:List K),A.Pairwise (fun a b=>a.1≠b.1)→(∀a∈A,a.1<x.length)→ ∀k,wf (setN c A x) k=if(∃a∈A,a.1=k)then sumL A (fun a=>if a.1=k then-(wf a.2 c)else 0)else wf x k
 | [],x,_,_,k=>by rw[if_neg (by rintro⟨a,h,_⟩;cases h)];rfl
 |a::A,x,hn,hl,k=>by
  rw[List.pairwise_cons]at hn
  rw[setN,a42 A _ hn.2 (fun b hb=>by rw[List.length_set];exact hl b (by simp[hb])) k,wf_set (hl a (by simp)),gb6]
  by_cases he:a.1=k
  ·have hno: ¬ ∃b∈A,b.1=k:=fun⟨b,hb,e⟩=>hn.1 b hb (by rw[he,e])
   rw[if_neg hno,if_pos he.symm,if_pos ⟨a,by simp,he⟩,if_pos he,tx6 fun b hb=>if_neg fun e=>hno ⟨b,hb,e⟩,FK.add_zero]
  ·have h1:(if k=a.1 then-(wf a.2 c)else wf x k)=wf x k:=if_neg fun e=>he e.symm
   have h2:(if a.1=k then-(wf a.2 c)else 0)=0:=if_neg he
   rw[h1,h2,zero_add]
   by_cases hex: ∃b∈A,b.1=k
   ·obtain⟨b,hb,e⟩:=hex
    rw[if_pos ⟨b,hb,e⟩,if_pos ⟨b,by simp[hb],e⟩]
   ·rw[if_neg hex,if_neg]
    rintro⟨b,hb,e⟩
    rcases List.mem_cons.1 hb with rfl|hb
    ·exact he e
    ·exact hex ⟨b,hb,e⟩
section
variable {A:List (Nat×List K)} (hr:Rref n (toF A))
include hr
theorem gb4:A.Pairwise fun a b=>a.1≠b.1:=by
 have:=hr.nodup
 unfold toF at this
 rwa [List.pairwise_map]at this
theorem a68: ∀a∈A,a.1<n:=fun a ha=>hr.lt (a.1,wf a.2) (xe5.2 ⟨a,ha,rfl⟩)
theorem up5{c:Nat}(hc:c∈sk9 n A)(k:Nat):wf (xRow n c A) k=if(∃a∈A,a.1=k)then sumL A (fun a=>if a.1=k then-(wf a.2 c)else 0)else if k=c then 1 else 0:=by
 have hcn:=(oz8.1 hc).1
 unfold xRow
 rw[a42 A _ (gb4 hr) (fun a ha=>by rw[List.length_set,List.length_replicate];exact a68 hr a ha) k,wf_set (by rw[List.length_replicate];exact hcn)]
 congr 2
 unfold wf
 rw[List.getD_eq_getElem?_getD,List.getElem?_replicate]
 split<;>rfl
theorem st6{c k:Nat}(hc:c∈sk9 n A)(hk:k∈sk9 n A):wf (xRow n c A) k=if k=c then 1 else 0:=by
 rw[up5 hr hc,if_neg]
 rintro⟨a,ha,e⟩
 exact(oz8.1 hk).2 a ha e
theorem z98{c:Nat}(hc:c∈sk9 n A){a:Nat×List K}(ha:a∈A):wf (xRow n c A) a.1= -(wf a.2 c):=by
 rw[up5 hr hc,if_pos ⟨a,ha,rfl⟩]
 have: ∀{B:List (Nat×List K)},B.Pairwise (fun a b=>a.1≠b.1)→a∈B→sumL B (fun b=>if b.1=a.1 then-(wf b.2 c)else 0)= -(wf a.2 c):=by
  intro B hB hb
  induction B with
  |nil=>cases hb
  |cons b B ih=>
   rw[List.pairwise_cons]at hB
   rw[gb6]
   rcases List.mem_cons.1 hb with rfl|hb
   ·rw[if_pos rfl,tx6 fun b hb=>if_neg fun e=>hB.1 b hb e.symm,FK.add_zero]
   ·have:(if b.1=a.1 then-(wf b.2 c)else 0)=0:=if_neg (hB.1 a hb)
    rw[this,zero_add,ih hB.2 hb]
 exact this (gb4 hr) ha
theorem uz6{a:Nat×List K}(ha:a∈A)(w:Nat→K):dotF n (wf a.2) w=w a.1+sumL (sk9 n A) fun c=>wf a.2 c*w c:=by
 have hp:((List.range n).filter fun c=>A.any fun a=>a.1==c).Perm (A.map Prod.fst):=by
  refine(List.perm_ext_iff_of_nodup (List.Pairwise.filter _ List.nodup_range) ?_).2 fun c=> ?_
  ·exact List.pairwise_map.2 (gb4 hr)
  ·rw[List.mem_filter,List.mem_range,List.mem_map,List.any_eq_true]
   constructor
   ·rintro⟨_,a,ha,he⟩;exact⟨a,ha,by simpa using he⟩
   ·rintro⟨a,ha,rfl⟩;exact⟨a68 hr a ha,a,ha,by simp⟩
 have hsplit: ∀(l:List Nat) (f:Nat→K),sumL l f=sumL (l.filter fun c=>A.any fun a=>a.1==c) f+sumL (l.filter fun c=> !(A.any fun a=>a.1==c)) f:=by
  intro l f
  induction l with
  |nil=>exact(FK.add_zero _).symm
  |cons c l ih=>
   rw[List.filter_cons,List.filter_cons,gb6,ih]
   cases (A.any fun a=>a.1==c)with
   |true=>simp only[if_true,Bool.not_true,Bool.false_eq_true,if_false,gb6];rw[FK.add_assoc]
   |false=>simp only[if_true,Bool.not_false,Bool.false_eq_true,if_false,gb6];rw[←FK.add_assoc,FK.add_comm (f c),FK.add_assoc]
 unfold dotF sumN sk9
 rw[hsplit]
 congr 1
 rw[j94 (s:=a.1) (List.Pairwise.filter _ List.nodup_range)]
 ·have:=hr.one (a.1,wf a.2) (xe5.2 ⟨a,ha,rfl⟩)
  have:wf a.2 a.1=1:=this
  rw[this,one_mul]
 ·rw[List.mem_filter,List.mem_range,List.any_eq_true];exact⟨a68 hr a ha,a,ha,by simp⟩
 ·intro c hc hne
  rw[List.mem_filter,List.any_eq_true]at hc
  obtain⟨_,b,hb,he⟩:=hc
  have he:b.1=c:=by simpa using he
  have:=hr.zero (a.1,wf a.2) (xe5.2 ⟨a,ha,rfl⟩) (b.1,wf b.2) (xe5.2 ⟨b,hb,rfl⟩) (fun e=>hne (by rw[←he];exact e.symm))
  have:wf a.2 b.1=0:=this
  rw[←he,this,zero_mul]
theorem dn9{w:Nat→K}:Span ((ez9 n A n 0).map wf) w↔(∀k,n≤k→w k=0)∧ ∀a∈A,dotF n (wf a.2) w=0:=by
 have hx: ∀x∈(ez9 n A n 0).map wf,∃c∈sk9 n A,x=wf (xRow n c A):=fun x hx=>by
  rw[pv1,List.map_map]at hx
  obtain⟨c,hc,rfl⟩:=List.mem_map.1 hx
  exact⟨c,hc,rfl⟩
 constructor
 ·intro h
  refine⟨fun k hk=> ?_,fun a ha=>ui3 (fun r hr'=> ?_) h⟩
  ·refine h.lin (P:=fun w=>w k=0) rfl (fun u r c h1 h2=> ?_) fun r hr'=> ?_
   ·show u k+c*r k=0
    rw[h1,h2,mul_zero,FK.add_zero]
   ·obtain⟨c,hc,rfl⟩:=hx r hr'
    exact ez8 (by rw[x22];exact hk)
  ·obtain⟨c,hc,rfl⟩:=hx r hr'
   rw[uz6 hr ha,z98 hr hc ha,j94 (s:=c) (a89 A) hc fun k hk hne=>by rw[st6 hr hc hk,if_neg hne,mul_zero],st6 hr hc hc,if_pos rfl,FK.mul_one,neg_add]
 ·rintro⟨h1,h2⟩
  have h3:w=fun k=>sumL (sk9 n A) fun c=>w c*wf (xRow n c A) k:=by
   funext k
   by_cases hkn:n≤k
   ·rw[h1 k hkn,tx6 fun c hc=>by rw[ez8 (by rw[x22];exact hkn),mul_zero]]
   ·by_cases hex: ∃a∈A,a.1=k
    ·obtain⟨a,ha,rfl⟩:=hex
     have h4:=h2 a ha
     rw[uz6 hr ha,FK.add_comm]at h4
     rw[ut3 h4,←eq0]
     refine ox7 fun c hc=> ?_
     rw[z98 hr hc ha,mul_neg,FK.mul_comm]
    ·have hk:k∈sk9 n A:=oz8.2 ⟨by omega,fun a ha e=>hex ⟨a,ha,e⟩⟩
     rw[j94 (s:=k) (a89 A) hk fun c hc hne=>by rw[st6 hr hc hk,if_neg fun e=>hne e.symm,mul_zero],st6 hr hk hk,if_pos rfl,FK.mul_one]
  rw[h3]
  refine Span.sum fun c hc=> .mem ?_
  rw[pv1,List.map_map]
  exact List.mem_map.2 ⟨c,hc,rfl⟩
theorem hs0:wu9 ((ez9 n A n 0).map wf):=by
 rw[pv1,List.map_map]
 refine wx6 (fun j=>(sk9 n A).getD j 0) fun i j hi hj=> ?_
 rw[List.length_map]at hi hj
 have h1:(((sk9 n A).map (wf∘fun c=>xRow n c A)).getD i fun _=>0)=wf (xRow n (sk9 n A)[i] A):=by
  rw[List.getD_eq_getElem?_getD,List.getElem?_map,List.getElem?_eq_getElem hi];rfl
 have h2:(sk9 n A).getD j 0=(sk9 n A)[j]:=by rw[List.getD_eq_getElem?_getD,List.getElem?_eq_getElem hj];rfl
 rw[h1,h2,st6 hr (List.getElem_mem hi) (List.getElem_mem hj)]
 by_cases he:i=j
 ·subst he;rw[if_pos rfl,if_pos rfl]
 ·rw[if_neg he,if_neg fun e=>he ((List.getElem_inj (a89 A)).1 e).symm]
end
theorem sw1{M:List (List K)}(hM: ∀m∈M,m.length=n):Rref n (toF (zt5 n M))∧(∀a∈zt5 n M,a.2.length=n)∧(∀w,Span (rowsOf (toF (zt5 n M))) w↔(∀k,n≤k→w k=0)∧ ∀m∈M,dotF n (wf m) w=0)∧(zt5 n M).length+(redR M).length=n:=by
 obtain⟨r1,r2,r3⟩:=bi2 hM
 obtain⟨s1,s2,s3⟩:=bi2 (sg4 n (redR M) n 0)
 refine⟨s1,s2,fun w=> ?_, ?_⟩
 ·unfold zt5
  rw[s3,dn9 r1]
  refine and_congr_right fun _=>⟨fun h m hm=> ?_,fun h a ha=> ?_⟩
  ·refine fz3 (fun r hr=> ?_) ((r3 _).2 (.mem (List.mem_map.2 ⟨m,hm,rfl⟩)))
   obtain⟨a,ha,rfl⟩:=he1.1 hr
   exact h a ha
  ·refine fz3 (fun r hr=> ?_) ((r3 _).1 (.mem (he1.2 ⟨a,ha,rfl⟩)))
   obtain⟨m,hm,rfl⟩:=List.mem_map.1 hr
   exact h m hm
 ·have h1:=s1.le fun w hw=>(s3 w).1 hw
  have h2:=s1.ge (hs0 r1) fun w hw=>(s3 w).2 (.mem hw)
  have h3:=ir1 (gb4 r1) (a68 r1)
  have hn:zt5 n M=redR (ez9 n (redR M) n 0):=rfl
  rw[←hn]at h1 h2
  rw[pv1,List.length_map,List.length_map]at h1 h2
  unfold toF at h1 h2
  rw[List.length_map]at h1 h2
  omega
theorem ew4{M:List (List K)}(hM: ∀m∈M,m.length=n):(redR M).length≤M.length:=by
 obtain⟨r1,r2,r3⟩:=bi2 hM
 have:=r1.le fun w hw=>(r3 w).1 hw
 unfold toF at this
 simpa using this
def f05(n k:Nat):List K:=(List.replicate n 0).set k 1
theorem sm5(n k:Nat):(f05 n k:List K).length=n:=by unfold f05;simp
theorem ez3{n k:Nat}(hk:k<n)(i:Nat):wf (f05 n k:List K) i=if i=k then 1 else 0:=by
 unfold f05
 rw[wf_set (by simpa using hk)]
 congr 1
 unfold wf
 rw[List.getD_eq_getElem?_getD,List.getElem?_replicate]
 split<;>rfl
end
end Go.Alg
namespace Go.Proofs.YtodbgomfeacdhaaGreat
open Go.Am Go.Vm Go.Alg
section
variable {q:Int} {b:Bool} {nl nr:Nat}
theorem e58(he:matE q []=0):o24 W 22 [.x (.int .i64 q), .fz b (.sl nl 0 1 [])] []=some (.tup [.x (.slice none 0 0), .own 0 [], .x (.int .i64 0)],[.sl 1 3 1 []],[]):=by
 have e1:=fun b nl=>or9 (q:=q) (M:=[]) (b:=b) (nl:=nl) (nr:=0)
 simp only[em1,he]at e1
 rw[o10 rfl T22 rfl]
 unfold F22 c22
 simp(disch:=first|omega|fail) only[push_cast,seval,vrl,if_pos,if_neg,e1]
theorem ru4 [IsFld q]{N:List (List (El q))}{n:Nat}(hr: ∀r∈N,r.length=n): ∀r∈N.map vs,r.length=n:=fun c hc=>by
 obtain⟨r,hr',rfl⟩:=List.mem_map.1 hc
 rw[fi2,hr r hr']
theorem sy6 [IsFld q]{N:List (List (El q))}{n:Nat}(hl:N.length≤64)(hr: ∀r∈N,r.length=n)(h0:0<n)(hn:n≤64):matE q (N.map vs)=0:=by
 obtain⟨d,hd⟩:=gh1 (q:=q)
 unfold matE
 rw[hd]
 show(if 64<(N.map vs).length then 4 else _)=(0:Int)
 rw[if_neg (by rw[List.length_map];omega),kn4]
 have: ∀L:List (List (El q)),(∀r∈L,r∈N)→wb9 q (nth N 0).length (L.map vs)=0:=by
  intro L
  induction L with
  |nil=>intro _;rfl
  |cons r L ih=>
   intro h
   have h1:r∈N:=h r (by simp)
   have h2:(nth N 0).length=n:=by
    cases N with
    |nil=>cases h1
    |cons a N=>exact hr a (by simp)
   rw[List.map_cons,wb9,if_pos,ih fun x hx=>h x (by simp[hx])]
   unfold rowE
   rw[fi2,hr r h1,h2,if_neg (by omega),if_neg (by omega),if_neg]
   intro h3
   obtain⟨z,hz,h4⟩:=List.any_eq_true.1 h3
   obtain⟨x,hx,rfl⟩:=List.mem_map.1 hz
   rw[x.ok]at h4
   cases h4
 exact this N fun r h=>h
theorem lq3 [IsFld q]{N:List (List (El q))}{n:Nat}(h0:0<N.length)(hl:N.length≤64)(hr: ∀r∈N,r.length=n)(hn0:0<n)(hn:n≤64):
 o24 W 22 [.x (.int .i64 q), .fz b (.sl nl 0 1 (lvs nr (N.map vs)))] []=some (.tup [.own 0 [], .own 1 [], .x (.int .i64 0)],[.sl 0 25 1 (lls 2 (pvR (redR N))), .sl 1 3 1 (ivs (pvP (redR N)))],[]):=by
 have he:=sy6 hl hr hn0 hn
 have hrv:=ru4 hr
 have e1:=fun b nl nr=>or9 (q:=q) (M:=N.map vs) (b:=b) (nl:=nl) (nr:=nr)
 simp only[he]at e1
 have e2:=fun b nl nr=>y80 (b:=b) (nl:=nl) (nr:=nr) (M:=N.map vs) (fun r hr'=>by have:=hrv r hr';omega) (by rw[List.length_map];omega)
 obtain⟨M',P',c',I,hd,e3⟩:=x17 (M0:=N) (n:=n) (R:=N.length) rfl h0 (by omega) (by omega) n 0 N [] (by omega) (RedI.start hr)
 have hout:=I.end' hd hr
 have hpl:=I.pl
 have hfst:=ua4 hpl
 have hsnd:=hn3 hpl
 rw[hout]at hfst hsnd
 have hP:pn P'=pvP (redR N):=by rw[←hfst];unfold pn pvP;rw[List.map_map];rfl
 have hPl:P'.length=(redR N).length:=by rw[←hfst,List.length_map]
 have hR:(M'.map vs).take (redR N).length=pvR (redR N):=by
  rw[←hPl,←List.map_take,←hsnd];unfold pvR;rw[List.map_map];rfl
 have hMl:M'.length=N.length:=I.len
 rw[hP]at e3
 have hpl2:=gb2 (redR N)
 have hnil:ivs (pn [])=[]:=rfl
 rw[hnil]at e3
 simp only[Int.natCast_zero]at e3
 have htk:(lls 2 (M'.map vs)).take (redR N).length=lls 2 (pvR (redR N)):=by rw[mm0,hR]
 rw[o10 rfl T22 rfl]
 unfold F22 c22
 simp(disch:=first|omega|fail) only[push_cast,seval,vrl,if_pos,if_neg,e1,e2]
 rw[e3]
 simp(disch:=first|omega|fail) only[push_cast,seval,vrl,if_pos,if_neg,hpl2,htk]
end
section
variable {l:List Int} {nl:Nat} {b:Bool} {x:Int}
theorem a02(hl:l.length≤9223372036854775807): ∀(n i:Nat),i+n=l.length→ ∀ks,
 vgoL W ⟨hNo,[.tmp 4],0⟩ [0,1,7,8] c84L0 (.blk 0 []::ks) [(0, .fz b (.sl nl 0 1 (ivs l))),(1, .x (.int .i64 x)),(7, .x (.int .i64 l.length)),(8, .x (.int .i64 i))] []=
  if fidx (fun y=>decide (x=y)) i (l.drop i)= -1 then vgo W ⟨hNo,[.tmp 4],0⟩ ks (VFr.of []) []else some (.x (.int .i64 (fidx (fun y=>decide (x=y)) i (l.drop i))),[],[])
 |0,i,hi,ks=>by
  rw[oh9 (by omega),fidx,if_pos rfl,sb5 c84L0.eq_def]
  simp(disch:=first|omega|fail) only[push_cast,seval,vrl,if_pos,if_neg]
 |n+1,i,hi,ks=>by
  have ih:=a02 hl n (i+1) (by omega) ks
  obtain⟨a,ha⟩:=ge6 (l:=l) (i:=i) (by omega)
  have h1:=iat ha
  rw[i62 ha,fidx]
  rw[Int.natCast_add,Int.natCast_one]at ih
  by_cases hp:x=a
  ·rw[if_pos (decide_eq_true hp),if_neg (by omega),sb5 c84L0.eq_def]
   simp(disch:=first|omega|fail) only[push_cast,seval,vrl,if_pos,if_neg,h1,mr8 hp]
  ·simp only[decide_eq_false hp,Bool.false_eq_true,if_false]
   rw[←ih,sb5 c84L0.eq_def]
   simp(disch:=first|omega|fail) only[push_cast,seval,vrl,if_pos,if_neg,h1,nb8 hp]
theorem bd9(hl:l.length≤9223372036854775807):
 o24 W 84 [.fz b (.sl nl 0 1 (ivs l)), .x (.int .i64 x)] []=some (.x (.int .i64 (fidx (fun y=>decide (x=y)) 0 l)),[],[]):=by
 have e:=fun ks=>a02 (nl:=nl) (b:=b) (x:=x) hl l.length 0 (by omega) ks
 simp only[Int.natCast_zero,List.take_zero,List.drop_zero,rp2,lz6,x25,List.map_nil,List.length_nil]at e
 rw[o10 rfl T84 rfl]
 unfold F84 c84
 simp(disch:=first|omega|fail) only[push_cast,seval,vrl,if_pos,if_neg]
 rw[e]
 by_cases h:fidx (fun y=>decide (x=y)) 0 l= -1
 ·rw[if_pos h,h]
  simp(disch:=first|omega|fail) only[push_cast,seval,vrl,if_pos,if_neg]
 ·rw[if_neg h]
theorem o94(hl:l.length≤9223372036854775807):
 o24 W 57 [.fz b (.sl nl 0 1 (ivs l)), .x (.int .i64 x)] []=some (.x (.bool (l.any fun y=>decide (x=y))),[],[]):=by
 have e:=fun b nl=>bd9 (nl:=nl) (b:=b) (x:=x) hl
 rw[o10 rfl T57 rfl]
 unfold F57 c57
 rw[←tl6 _ 0 l]
 simp(disch:=first|omega|fail) only[push_cast,seval,vrl,if_pos,if_neg,e]
end
section
variable {q:Int} {b:Bool} {nl nr n6 n7:Nat}
section
variable [IsFld q] {A:List (Nat×List (El q))} {N:Nat} {K:List (List Int)}
theorem up4(hA: ∀a∈A,a.2.length=N∧a.1<N)(hAl:A.length≤1000)(hN:N≤900){c:Nat}(hc:c<N){T9:Tree}:
 ∀(n k:Nat) (x:List (El q)),k+n=A.length→x.length=N→ ∀ks,
  vgoL W ⟨h23,[.tmp 4, .tmp 5],0⟩ [0,1,6,7,9,11,12,13,39,40,54,55,56] c23L0 (.blk 2 [0,1,6,7,9,11,13,39,40]::ks) [(0, .x (.int .i64 q)),(1, .fz b (.sl nl 0 1 (lvs nr K))),(6, .own 0 []),(7, .own 1 []),(9, .fz true (pF q)),(11, .own 2 []),(12, .x (.int .i64 c)),(13, .own 3 []),(39, .x (.int .i64 N)),(40, .x (.int .i64 c)),(54, .own 1 []),(55, .x (.int .i64 A.length)),(56, .x (.int .i64 k))] [.sl n6 25 1 (lls 2 (pvR A)), .sl n7 3 1 (ivs (pvP A)),T9, .sl 0 3 1 (ivs (vs x))]=
   vgo W ⟨h23,[.tmp 4, .tmp 5],0⟩ ks (VFr.of [(0, .x (.int .i64 q)),(1, .fz b (.sl nl 0 1 (lvs nr K))),(6, .own 0 []),(7, .own 1 []),(9, .fz true (pF q)),(11, .own 2 []),(13, .own 3 []),(39, .x (.int .i64 N)),(40, .x (.int .i64 c))]) [.sl n6 25 1 (lls 2 (pvR A)), .sl n7 3 1 (ivs (pvP A)),T9, .sl 0 3 1 (ivs (vs (setN c (A.drop k) x)))]
 |0,k,x,hk,hx,ks=>by
  have h1:=nu3 A
  rw[oh9 (by omega),setN,sb5 c23L0.eq_def]
  simp(disch:=first|omega|fail) only[push_cast,seval,vrl,if_pos,if_neg,h1]
 |n+1,k,x,hk,hx,ks=>by
  obtain⟨a,ha⟩:=ge6 (l:=A) (i:=k) (by omega)
  obtain⟨hal,hap⟩:=hA a (List.mem_of_getElem? ha)
  have ih:=up4 hA hAl hN hc (T9:=T9) n (k+1) (x.set a.1 (-wf a.2 c)) (by omega) (by rw[List.length_set];exact hx) ks
  have h1:=nu3 A
  have h2:=gb2 A
  have h3:=x08 ha
  have h4:=bx6 ha
  have h5:=iva (l:=a.2) (i:=c) (by omega)
  have hs:=g52 x a.1 (-wf a.2 c)
  rw[tg5]at hs
  rw[Int.natCast_add,Int.natCast_one]at ih
  rw[i62 ha,setN,←ih,sb5 c23L0.eq_def]
  simp(disch:=first|omega|fail) only[push_cast,seval,vrl,if_pos,if_neg,h1,h2,h3,h4,h5,hs]
theorem lu0{α:Type}(A:List (Nat×α))(c:Nat):((pvP A).any fun y=>decide ((c:Int)=y))=A.any fun a=>a.1==c:=by
 rw[←tc4]
 congr 1
 funext y
 exact decide_eq_decide.2 eq_comm
theorem xl7(hA: ∀a∈A,a.2.length=N∧a.1<N)(hAl:A.length≤1000)(hN:N≤900)(hK:0<K.length)(hK0:(nth K 0).length=N):
 ∀(d c:Nat) (L:List (List (El q))),c+d=N→L.length≤c→ ∀ks,
  vgoL W ⟨h23,[.tmp 4, .tmp 5],0⟩ [0,1,6,7,9,11,39,40] c23L1 (.blk 0 [0,11]::ks) [(0, .x (.int .i64 q)),(1, .fz b (.sl nl 0 1 (lvs nr K))),(6, .own 0 []),(7, .own 1 []),(9, .fz true (pF q)),(11, .own 2 []),(39, .x (.int .i64 N)),(40, .x (.int .i64 c))] [.sl n6 25 1 (lls 2 (pvR A)), .sl n7 3 1 (ivs (pvP A)), .sl 1 25 1 (lls 2 (L.map vs))]=
   vgo W ⟨h23,[.tmp 4, .tmp 5],0⟩ ks (VFr.of [(0, .x (.int .i64 q)),(11, .own 2 [])]) [.sl n6 25 1 (lls 2 (pvR A)), .sl n7 3 1 (ivs (pvP A)), .sl 1 25 1 (lls 2 ((L++ez9 N A d c).map vs))]
 |0,c,L,hc,hL,ks=>by
  rw[ez9,List.append_nil,sb5 c23L1.eq_def]
  simp(disch:=first|omega|fail) only[push_cast,seval,vrl,if_pos,if_neg]
 |d+1,c,L,hc,hL,ks=>by
  have IH:=xl7 hA hAl hN hK hK0 d (c+1)
  have h1:=nu3 A
  have h2:=gb2 A
  have e1:=fun b nl=>o94 (b:=b) (nl:=nl) (l:=pvP A) (x:=(c:Int)) (by omega)
  rw[lu0]at e1
  rw[ez9]
  by_cases hin:(A.any fun a=>a.1==c)=true
  ·rw[if_pos hin]
   rw[hin]at e1
   have ih:=IH L (by omega) (by omega) ks
   rw[Int.natCast_add,Int.natCast_one]at ih
   rw[←ih,sb5 c23L1.eq_def]
   simp(disch:=first|omega|fail) only[push_cast,seval,vrl,if_pos,if_neg,e1]
  ·rw[if_neg hin]
   have hin':(A.any fun a=>a.1==c)=false:=Bool.eq_false_iff.mpr hin
   rw[hin']at e1
   have ih:=IH (L++[xRow N c A]) (by omega) (by simp;omega) ks
   rw[List.append_assoc,List.singleton_append,List.map_append,Int.natCast_add,Int.natCast_one]at ih
   obtain⟨k0,hk0⟩:=ge6 (l:=K) (i:=0) hK
   have h3:=lat (nl:=nr) hk0
   have h4:=xr8 hk0
   rw[h4]at hK0
   have e:=fun T9 ks=>up4 (K:=K) (b:=b) (nl:=nl) (nr:=nr) (n6:=n6) (n7:=n7) (T9:=T9) hA hAl hN (c:=c) (by omega) A.length 0 ((List.replicate N (0:El q)).set c 1) (by omega) (by simp) ks
   have hz:(List.replicate N (0:Int)).set c 1=vs ((List.replicate N (0:El q)).set c 1):=by rw[←g52,←qj2];rfl
   simp only[Int.natCast_zero,List.take_zero,List.drop_zero,rp2,lz6,x25,List.map_nil,List.length_nil]at e
   have hx:setN c A ((List.replicate N (0:El q)).set c 1)=xRow N c A:=rfl
   rw[hx]at e
   rw[←ih,sb5 c23L1.eq_def]
   simp(disch:=first|omega|fail) only[push_cast,seval,vrl,if_pos,if_neg,e1,h2,h3,hK0,hz]
   rw[e]
   simp(disch:=first|omega|fail) only[push_cast,seval,vrl,if_pos,if_neg]
end
theorem ss9 [IsFld q]{N:List (List (El q))}{n:Nat}(h0:0<N.length)(hl:N.length≤64)(hr: ∀r∈N,r.length=n)(hn0:0<n)(hn:n≤64):
 o24 W 23 [.x (.int .i64 q), .fz b (.sl nl 0 1 (lvs nr (N.map vs)))] []=some (.tup [.own 0 [], .x (.int .i64 0)],[.sl (if ez9 n (redR N) n 0=[]then 1 else 0) 25 1 (lls 2 (pvR (zt5 n N)))],[]):=by
 have e1:=fun b nl nr=>lq3 (b:=b) (nl:=nl) (nr:=nr) h0 hl hr hn0 hn
 obtain⟨r1,r2,r3⟩:=bi2 hr
 have hAA: ∀a∈redR N,a.2.length=n∧a.1<n:=fun a ha=>⟨r2 a ha,r1.lt (a.1,wf a.2) (xe5.2 ⟨a,ha,rfl⟩)⟩
 have hAl:(redR N).length≤1000:=by have:=ew4 hr;omega
 obtain⟨k0,hk0⟩:=ge6 (l:=N) (i:=0) h0
 have h3:=mva (nl:=nr) hk0
 have hk0l:=hr k0 (List.mem_of_getElem? hk0)
 have e2:=fun n6 n7 ks=>xl7 (K:=N.map vs) (b:=b) (nl:=nl) (nr:=nr) (n6:=n6) (n7:=n7) hAA hAl (by omega) (by rw[List.length_map];exact h0) (by rw[kn4,xr8 hk0];exact hk0l) n 0 [] (by omega) (by simp) ks
 simp only[List.nil_append]at e2
 simp only[Int.natCast_zero,List.take_zero,List.drop_zero,rp2,lz6,x25,List.map_nil,List.length_nil]at e2
 have hnl:=to9 n (redR N) n 0
 rw[o10 rfl T23 rfl]
 unfold F23 c23
 simp(disch:=first|omega|fail) only[push_cast,seval,vrl,if_pos,if_neg,e1,h3,hk0l]
 rw[e2]
 by_cases hT:ez9 n (redR N) n 0=[]
 ·have e3:=fun b nl=>e58 (q:=q) (b:=b) (nl:=nl) (by have:=sy6 (q:=q) (N:=[]) (n:=n) (by simp) (by simp) hn0 hn;exact this)
  have h0:zt5 n N=[]:=by unfold zt5;rw[hT];rfl
  rw[if_pos hT,hT,h0,List.map_nil,x25]
  simp(disch:=first|omega|fail) only[push_cast,seval,vrl,if_pos,if_neg,e3]
  rfl
 ·have hT0:0<(ez9 n (redR N) n 0).length:=List.length_pos_iff.2 hT
  have e3:=fun b nl nr=>lq3 (b:=b) (nl:=nl) (nr:=nr) hT0 (by omega) (sg4 n (redR N) n 0) hn0 hn
  rw[if_neg hT]
  simp(disch:=first|omega|fail) only[push_cast,seval,vrl,if_pos,if_neg,e3]
  rfl
end
end Go.Proofs.YtodbgomfeacdhaaGreat
namespace Go.Alg
section
variable {K:Type} [FK K] {n:Nat}
def p78(A:List (Nat×List K)):List (List K):=A.map Prod.snd
theorem z42(A:List (Nat×List K)):(p78 A).map wf=rowsOf (toF A):=by
 unfold p78 rowsOf toF;rw[List.map_map,List.map_map];rfl
theorem zu4{A:List (Nat×List K)}(h: ∀a∈A,a.2.length=n): ∀r∈p78 A,r.length=n:=fun r hr=>by
 obtain⟨a,ha,rfl⟩:=List.mem_map.1 hr
 exact h a ha
theorem ej4: ∀{A B:List (Nat×List K)},(∀a∈A,a.2.length=n)→(∀a∈B,a.2.length=n)→toF A=toF B→A=B
 | [],[],_,_,_=>rfl
 | [],b::B,_,_,h=>by cases h
 |a::A,[],_,_,h=>by cases h
 |a::A,b::B,hA,hB,h=>by
  unfold toF at h
  rw[List.map_cons,List.map_cons,List.cons.injEq,Prod.mk.injEq]at h
  have h1:a=b:=Prod.ext h.1.1 (ou9 (by rw[hA a (by simp),hB b (by simp)]) h.1.2)
  rw[h1,ej4 (fun c hc=>hA c (by simp[hc])) (fun c hc=>hB c (by simp[hc])) h.2]
theorem rp5{M N:List (List K)}(hM: ∀m∈M,m.length=n)(hN: ∀m∈N,m.length=n)(h: ∀w,Span (M.map wf) w↔Span (N.map wf) w):redR M=redR N:=by
 obtain⟨a1,a2,a3⟩:=bi2 hM
 obtain⟨b1,b2,b3⟩:=bi2 hN
 exact ej4 a2 b2 (a1.uniq b1 fun w=>by rw[a3,b3,h])
theorem jr2{A:List (Nat×List K)}(h:Rref n (toF A))(hl: ∀a∈A,a.2.length=n):redR (p78 A)=A:=by
 obtain⟨b1,b2,b3⟩:=bi2 (zu4 hl)
 exact ej4 b2 hl (b1.uniq h fun w=>by rw[b3,z42])
theorem gz7{M:List (List K)}(hM: ∀m∈M,m.length=n):redR (p78 (redR M))=redR M:=by
 obtain⟨a1,a2,_⟩:=bi2 hM
 exact jr2 a1 a2
theorem cx8{M:List (List K)}(hM: ∀m∈M,m.length=n):zt5 n (p78 (redR M))=zt5 n M:=by
 unfold zt5;rw[gz7 hM]
theorem tq6{M:List (List K)}(hM: ∀m∈M,m.length=n):redR (p78 (zt5 n M))=zt5 n M:=by
 obtain⟨a1,a2,_⟩:=sw1 hM
 exact jr2 a1 a2
theorem ch2{M:List (List K)}(hM: ∀m∈M,m.length=n){u w:Nat→K}(hu:Span (M.map wf) u)(hw:Span (rowsOf (toF (zt5 n M))) w):dotF n u w=0:=by
 have h:=(((sw1 hM).2.2.1 w).1 hw).2
 refine fz3 (fun r hr=> ?_) hu
 obtain⟨m,hm,rfl⟩:=List.mem_map.1 hr
 exact h m hm
theorem m63{M:List (List K)}(hM: ∀m∈M,m.length=n):zt5 n (p78 (zt5 n M))=redR M:=by
 obtain⟨a1,a2,a3⟩:=bi2 hM
 obtain⟨b1,b2,b3,b4⟩:=sw1 hM
 obtain⟨c1,c2,c3,c4⟩:=sw1 (zu4 b2)
 rw[tq6 hM]at c4
 refine(ej4 a2 c2 (a1.same c1 (fun w hw=>(c3 w).2 ⟨fun k hk=> ?_,fun m hm=> ?_⟩) (by unfold toF;simp only[List.length_map];omega))).symm
 ·refine hw.lin (P:=fun w=>w k=0) rfl (fun u r c h1 h2=> ?_) fun r hr=> ?_
  ·show u k+c*r k=0
   rw[h1,h2,mul_zero,FK.add_zero]
  ·obtain⟨a,ha,rfl⟩:=he1.1 hr
   exact ez8 (by rw[a2 a ha];exact hk)
 ·obtain⟨a,ha,rfl⟩:=List.mem_map.1 hm
  rw[sc2]
  exact ch2 hM ((a3 w).1 hw) (.mem (he1.2 ⟨a,ha,rfl⟩))
def pn7(n:Nat):List (Nat×List K):=(List.range n).map fun c=>(c,f05 n c)
theorem um4:Rref n (toF (pn7 n:List (Nat×List K))):=by
 have hm: ∀x∈toF (pn7 n:List (Nat×List K)),∃c,c<n∧x=(c,wf (f05 n c)):=fun x hx=>by
  obtain⟨a,ha,rfl⟩:=xe5.1 hx
  obtain⟨c,hc,rfl⟩:=List.mem_map.1 ha
  exact⟨c,List.mem_range.1 hc,rfl⟩
 refine⟨?_,fun x hx=> ?_,fun x hx k hk=> ?_,fun x hx=> ?_,fun x hx k hk=> ?_,fun x hx y hy h=> ?_⟩
 ·unfold toF pn7
  rw[List.map_map,List.pairwise_map]
  exact List.pairwise_lt_range
 ·obtain⟨c,hc,rfl⟩:=hm x hx
  show wf (f05 n c:List K) c=1
  rw[ez3 hc,if_pos rfl]
 ·obtain⟨c,hc,rfl⟩:=hm x hx
  show wf (f05 n c:List K) k=0
  have hk':k<c:=hk
  rw[ez3 hc,if_neg (by omega)]
 ·obtain⟨c,hc,rfl⟩:=hm x hx
  exact hc
 ·obtain⟨c,hc,rfl⟩:=hm x hx
  exact ez8 (by rw[sm5];exact hk)
 ·obtain⟨c,hc,rfl⟩:=hm x hx
  obtain⟨d,hd,rfl⟩:=hm y hy
  show wf (f05 n c:List K) d=0
  have h':c≠d:=h
  rw[ez3 hc,if_neg fun e=>h' e.symm]
theorem xt7{M:List (List K)}(h:redR M=[]):zt5 n M=pn7 n:=by
 have h1:ez9 n ([]:List (Nat×List K)) n 0=p78 (pn7 n):=by
  rw[pv1]
  unfold sk9 p78 pn7
  rw[List.map_map]
  have:(List.range n).filter (fun c=> !(([]:List (Nat×List K)).any fun a=>a.1==c))=List.range n:=by
   rw[List.filter_eq_self];intro c _;rfl
  rw[this]
  refine List.map_congr_left fun c _=> ?_
  show xRow n c []=f05 n c
  unfold xRow setN f05
  rfl
 unfold zt5
 rw[h,h1]
 exact jr2 um4 fun a ha=>by
  obtain⟨c,_,rfl⟩:=List.mem_map.1 ha
  exact sm5 n c
end
end Go.Alg
namespace Go.Proofs.YtodbgomfeacdhaaGreat
open Go.Am Go.Vm Go.Alg
theorem lo1{q:Int}(A:List (Nat×List (El q))):pvR A=(p78 A).map vs:=by unfold pvR p78;rw[List.map_map];rfl
theorem gb3{q:Int}{A:List (Nat×List (El q))}:(p78 A).length=A.length:=by unfold p78;rw[List.length_map]
section
variable {q n:Int} {nl nr:Nat} {M:List (List Int)}
theorem so4(he: ¬gi9 q n M=0):o24 W 8 [.agg [.x (.int .i64 q), .x (.int .i64 n), .fz true (.sl nl 0 1 (lvs nr M))]] []=some (.tup [.agg [.x (.int .i64 0), .x (.int .i64 0), .x (.slice none 0 0)], .x (.int .i64 (gi9 q n M))],[],[]):=by
 have e1:=fun nl nr=>um1 (q:=q) (n:=n) (M:=M) (nl:=nl) (nr:=nr)
 rw[o10 rfl T8 rfl]
 unfold F8 c8
 simp(disch:=first|omega|fail) only[push_cast,seval,vrl,if_pos,if_neg,e1,nb8 he]
theorem cs1(he: ¬gi9 q n M=0):o24 W 9 [.agg [.x (.int .i64 q), .x (.int .i64 n), .fz true (.sl nl 0 1 (lvs nr M))]] []=some (.tup [.agg [.x (.int .i64 0), .x (.int .i64 0), .x (.slice none 0 0)], .x (.int .i64 (gi9 q n M))],[],[]):=by
 have e1:=fun nl nr=>so4 (q:=q) (n:=n) (M:=M) (nl:=nl) (nr:=nr) he
 rw[o10 rfl T9 rfl]
 unfold F9 c9
 simp(disch:=first|omega|fail) only[push_cast,seval,vrl,if_pos,if_neg,e1,nb8 he]
end
section
variable {q:Int} [IsFld q] {k nl nr:Nat} {N:List (List (El q))}
theorem z60{q n:Int}{M:List (List Int)}(h:gi9 q n M=0):matE q M=0:=by
 unfold gi9 at h
 split at h
 ·cases h
 ·split at h
  ·cases h
  ·split at h
   ·rename_i h2;exact h2
   ·rename_i h2;exact absurd h h2
theorem ob1(he:gi9 q k (N.map vs)=0)(h0:0<k)(hk:k≤64)(hl:N.length≤64)(hr: ∀r∈N,r.length=k):
 o24 W 8 [.agg [.x (.int .i64 q), .x (.int .i64 k), .fz true (.sl nl 0 1 (lvs nr (N.map vs)))]] []=some (.tup [.agg [.x (.int .i64 q), .x (.int .i64 k), .own 0 []], .x (.int .i64 0)],[.sl 2 25 1 (lls 2 (pvR (redR N)))],[]):=by
 have e1:=fun nl nr=>um1 (q:=q) (n:=k) (M:=N.map vs) (nl:=nl) (nr:=nr)
 simp only[he]at e1
 by_cases hN:N=[]
 ·subst hN
  have e1:=fun nl=>e1 nl 0
  have e2:=fun b nl=>e58 (b:=b) (nl:=nl) (z60 he)
  simp only[List.map_nil,em1]at e1
  rw[List.map_nil,em1,o10 rfl T8 rfl]
  unfold F8 c8
  simp(disch:=first|omega|fail) only[push_cast,seval,vrl,if_pos,if_neg,e1,e2]
  rfl
 ·have e2:=fun b nl nr=>lq3 (b:=b) (nl:=nl) (nr:=nr) (List.length_pos_iff.2 hN) hl hr h0 hk
  rw[o10 rfl T8 rfl]
  unfold F8 c8
  simp(disch:=first|omega|fail) only[push_cast,seval,vrl,if_pos,if_neg,e1,e2]
theorem r52(h0:0<k)(hk:k≤64){T:Tree}: ∀(d i:Nat),i+d=k→ ∀ks,
 vgoL W ⟨hNo,[(.cell 2 true 3), .tmp 3],0⟩ [1,2,23,24] c9L0 (.blk 0 [1,2]::ks) [(1, .own 0 []),(2, .own 1 []),(23, .x (.int .i64 k)),(24, .x (.int .i64 i))] [.pt 24 [.v (.int .i64 q), .v (.int .i64 k), .sl 2 25 1 (lls 2 ((p78 (pn7 k:List (Nat×List (El q)))).map vs|>.take i))],T]=
  vgo W ⟨hNo,[(.cell 2 true 3), .tmp 3],0⟩ ks (VFr.of [(1, .own 0 []),(2, .own 1 [])]) [.pt 24 [.v (.int .i64 q), .v (.int .i64 k), .sl 2 25 1 (lls 2 ((p78 (pn7 k:List (Nat×List (El q)))).map vs))],T]
 |0,i,hi,ks=>by
  rw[List.take_of_length_le (by rw[List.length_map,gb3];unfold pn7;simp;omega),sb5 c9L0.eq_def]
  simp(disch:=first|omega|fail) only[push_cast,seval,vrl,if_pos,if_neg]
 |d+1,i,hi,ks=>by
  have ih:=r52 h0 hk (T:=T) d (i+1) (by omega) ks
  have hg:((p78 (pn7 k:List (Nat×List (El q)))).map vs)[i]? =some (vs (f05 k i:List (El q))):=by
   unfold p78 pn7
   rw[List.map_map,List.map_map,List.getElem?_map,List.getElem?_range (by omega)];rfl
  have hu:(List.replicate k (0:Int)).set i 1=vs (f05 k i:List (El q)):=by unfold f05;rw[←g52,←qj2];rfl
  have hl:((p78 (pn7 k:List (Nat×List (El q)))).map vs).length=k:=by rw[List.length_map,gb3];unfold pn7;simp
  rw[Int.natCast_add,Int.natCast_one,List.take_add_one,hg,Option.toList_some]at ih
  rw[←ih,sb5 c9L0.eq_def]
  simp(disch:=first|omega|fail) only[push_cast,seval,vrl,if_pos,if_neg,hu,hl]
theorem x92(he:gi9 q k (N.map vs)=0)(h0:0<k)(hk:k≤64)(hl:N.length≤64)(hr: ∀r∈N,r.length=k):
 o24 W 9 [.agg [.x (.int .i64 q), .x (.int .i64 k), .fz true (.sl nl 0 1 (lvs nr (N.map vs)))]] []=some (.tup [.agg [.x (.int .i64 q), .x (.int .i64 k), .own 0 []], .x (.int .i64 0)],[.sl 2 25 1 (lls 2 (pvR (zt5 k N)))],[]):=by
 have e1:=fun nl nr=>ob1 (nl:=nl) (nr:=nr) he h0 hk hl hr
 have h1:=nu3 (redR N)
 by_cases hz:redR N=[]
 ·have e2:=fun T ks=>r52 (q:=q) (k:=k) h0 hk (T:=T) k 0 (by omega) ks
  rw[List.take_zero]at e2
  simp only[Int.natCast_zero]at e2
  rw[hz,show pvR ([]:List (Nat×List (El q)))=[]from rfl]at e1
  rw[lo1,xt7 hz,o10 rfl T9 rfl]
  unfold F9 c9
  simp(disch:=first|omega|fail) only[push_cast,seval,vrl,if_pos,if_neg,e1]
  rw[e2]
  simp(disch:=first|omega|fail) only[push_cast,seval,vrl,if_pos,if_neg]
 ·have hp:0<(redR N).length:=List.length_pos_iff.2 hz
  obtain⟨r1,r2,_⟩:=bi2 hr
  have hle:=ew4 hr
  have e2:=fun b nl nr=>ss9 (b:=b) (nl:=nl) (nr:=nr) (N:=p78 (redR N)) (n:=k) (by rw[gb3];exact hp) (by rw[gb3];omega) (zu4 r2) h0 hk
  rw[cx8 hr,←lo1]at e2
  rw[o10 rfl T9 rfl]
  unfold F9 c9
  simp(disch:=first|omega|fail) only[push_cast,seval,vrl,if_pos,if_neg,e1,h1,e2]
theorem vd8(hl:N.length≤500)(hr: ∀r∈N,r.length=k)(hk:k≤900){n:Int}:
 o24 W 6 [.agg [.x (.int .i64 q), .x (.int .i64 n), .fz true (.sl nl 0 1 (lvs nr (N.map vs)))]] []=some (.agg [.x (.int .i64 q), .x (.int .i64 n), .own 0 []],[.sl 2 25 1 (lls 2 (pvR (redR N)))],[]):=by
 obtain⟨p,m,g,t,u⟩:=k75 q
 have ht:=u.n
 have ho:=u.o
 have hfe:=u.e
 have e1:=fun b nl nr=>di6 (q:=q) (b:=b) (nl:=nl) (nr:=nr) hr hl (by omega)
 rw[hfe]at e1
 rw[o10 rfl T6 rfl]
 unfold F6 c6
 simp(disch:=first|omega|fail) only[push_cast,seval,vrl,if_pos,if_neg,hfe,ht,ho,e1]
theorem x85(hl:N.length≤500)(hr: ∀r∈N,r.length=k)(hk:k≤500):
 o24 W 7 [.agg [.x (.int .i64 q), .x (.int .i64 k), .fz true (.sl nl 0 1 (lvs nr (N.map vs)))]] []=some (.agg [.x (.int .i64 q), .x (.int .i64 k), .own 0 []],[.sl 2 25 1 (lls 2 (pvR (zt5 k N)))],[]):=by
 obtain⟨p,m,g,t,u⟩:=k75 q
 have ht:=u.n
 have ho:=u.o
 have hfe:=u.e
 have e1:=fun b nl nr=>zi7 (q:=q) (b:=b) (nl:=nl) (nr:=nr) hr hl hk
 rw[hfe]at e1
 rw[o10 rfl T7 rfl]
 unfold F7 c7
 simp(disch:=first|omega|fail) only[push_cast,seval,vrl,if_pos,if_neg,hfe,ht,ho,e1]
end
section
variable {b b':Bool} {nl nl' nr nr':Nat}
theorem ft0{l k:List Int}(hl:l.length≤9223372036854775807)(hk:k.length=l.length): ∀(d i:Nat),i+d=l.length→ ∀ks,
 vgoL W ⟨hNo,[.tmp 4],0⟩ [0,1,5] c69L0 (.blk 0 []::ks) [(0, .fz b (.sl nl 0 1 (ivs l))),(1, .fz b' (.sl nl' 0 1 (ivs k))),(5, .x (.int .i64 i))] []=
  if l.drop i=k.drop i then vgo W ⟨hNo,[.tmp 4],0⟩ ks (VFr.of []) []else some (.x (.bool false),[],[])
 |0,i,hi,ks=>by
  rw[oh9 (by omega),oh9 (by omega),if_pos rfl,sb5 c69L0.eq_def]
  simp(disch:=first|omega|fail) only[push_cast,seval,vrl,if_pos,if_neg]
 |d+1,i,hi,ks=>by
  have ih:=ft0 hl hk d (i+1) (by omega) ks
  obtain⟨a,ha⟩:=ge6 (l:=l) (i:=i) (by omega)
  obtain⟨c,hc⟩:=ge6 (l:=k) (i:=i) (by omega)
  have h1:=iat ha
  have h2:=iat hc
  rw[i62 ha,i62 hc]
  rw[Int.natCast_add,Int.natCast_one]at ih
  by_cases h:a=c
  ·have hiff:(a::l.drop (i+1)=c::k.drop (i+1))=(l.drop (i+1)=k.drop (i+1)):=by rw[h];simp
   simp only[hiff]
   rw[←ih,sb5 c69L0.eq_def]
   simp(disch:=first|omega|fail) only[push_cast,seval,vrl,if_pos,if_neg,h1,h2,h]
  ·rw[if_neg (by intro e;exact h (List.cons.inj e).1),sb5 c69L0.eq_def]
   simp(disch:=first|omega|fail) only[push_cast,seval,vrl,if_pos,if_neg,h1,h2,nb8 h]
theorem nb2{l k:List Int}(hl:l.length≤9223372036854775807):o24 W 69 [.fz b (.sl nl 0 1 (ivs l)), .fz b' (.sl nl' 0 1 (ivs k))] []=some (.x (.bool (decide (l=k))),[],[]):=by
 by_cases hk:k.length=l.length
 ·have e:=fun ks=>ft0 (b:=b) (b':=b') (nl:=nl) (nl':=nl') hl hk l.length 0 (by omega) ks
  simp only[Int.natCast_zero,List.take_zero,List.drop_zero,rp2,lz6,x25,List.map_nil,List.length_nil]at e
  rw[o10 rfl T69 rfl]
  unfold F69 c69
  simp(disch:=first|omega|fail) only[push_cast,seval,vrl,if_pos,if_neg,hk]
  rw[e]
  by_cases h:l=k
  ·rw[if_pos h,decide_eq_true h]
   simp(disch:=first|omega|fail) only[push_cast,seval,vrl,if_pos,if_neg]
  ·rw[if_neg h,decide_eq_false h]
 ·have h: ¬l=k:=fun e=>hk (by rw[e])
  have h8: ¬(l.length:Int)=(k.length:Int):=by omega
  rw[decide_eq_false h,o10 rfl T69 rfl]
  unfold F69 c69
  simp(disch:=first|omega|fail) only[push_cast,seval,vrl,if_pos,if_neg,nb8 h8]
theorem h39{l k:List (List Int)}(hl:l.length≤9223372036854775807)(he: ∀r∈l,r.length≤9223372036854775807)(hk:k.length=l.length)(hx:65=65): ∀(d i:Nat),i+d=l.length→ ∀ks,
 vgoL W ⟨hNo,[.tmp 4],0⟩ [0,1,5] c65L0 (.blk 0 []::ks) [(0, .fz b (.sl nl 0 1 (lvs nr l))),(1, .fz b' (.sl nl' 0 1 (lvs nr' k))),(5, .x (.int .i64 i))] []=
  if l.drop i=k.drop i then vgo W ⟨hNo,[.tmp 4],0⟩ ks (VFr.of []) []else some (.x (.bool false),[],[])
 |0,i,hi,ks=>by
  rw[oh9 (by omega),oh9 (by omega),if_pos rfl,sb5 c65L0.eq_def]
  simp(disch:=first|omega|fail) only[push_cast,seval,vrl,if_pos,if_neg]
 |d+1,i,hi,ks=>by
  have ih:=h39 hl he hk hx d (i+1) (by omega) ks
  obtain⟨a,ha⟩:=ge6 (l:=l) (i:=i) (by omega)
  obtain⟨c,hc⟩:=ge6 (l:=k) (i:=i) (by omega)
  have h1:=lat (nl:=nr) ha
  have h2:=lat (nl:=nr') hc
  have e:=fun b b' nl nl'=>nb2 (b:=b) (b':=b') (nl:=nl) (nl':=nl') (l:=a) (k:=c) (he a (List.mem_of_getElem? ha))
  rw[i62 ha,i62 hc]
  rw[Int.natCast_add,Int.natCast_one]at ih
  by_cases h:a=c
  ·have hiff:(a::l.drop (i+1)=c::k.drop (i+1))=(l.drop (i+1)=k.drop (i+1)):=by rw[h];simp
   simp only[decide_eq_true h]at e
   simp only[hiff]
   rw[←ih,sb5 c65L0.eq_def]
   simp(disch:=first|omega|fail) only[push_cast,seval,vrl,if_pos,if_neg,h1,h2,e]
  ·simp only[decide_eq_false h]at e
   rw[if_neg (by intro e;exact h (List.cons.inj e).1),sb5 c65L0.eq_def]
   simp(disch:=first|omega|fail) only[push_cast,seval,vrl,if_pos,if_neg,h1,h2,e]
theorem us3{l k:List (List Int)}(hl:l.length≤9223372036854775807)(he: ∀r∈l,r.length≤9223372036854775807):o24 W 65 [.fz b (.sl nl 0 1 (lvs nr l)), .fz b' (.sl nl' 0 1 (lvs nr' k))] []=some (.x (.bool (decide (l=k))),[],[]):=by
 by_cases hk:k.length=l.length
 ·have e:=fun ks=>h39 (b:=b) (b':=b') (nl:=nl) (nl':=nl') (nr:=nr) (nr':=nr') hl he hk rfl l.length 0 (by omega) ks
  simp only[Int.natCast_zero,List.take_zero,List.drop_zero,rp2,lz6,x25,List.map_nil,List.length_nil]at e
  rw[o10 rfl T65 rfl]
  unfold F65 c65
  simp(disch:=first|omega|fail) only[push_cast,seval,vrl,if_pos,if_neg,hk]
  rw[e]
  by_cases h:l=k
  ·rw[if_pos h,decide_eq_true h]
   simp(disch:=first|omega|fail) only[push_cast,seval,vrl,if_pos,if_neg]
  ·rw[if_neg h,decide_eq_false h]
 ·have h: ¬l=k:=fun e=>hk (by rw[e])
  have h8: ¬(l.length:Int)=(k.length:Int):=by omega
  rw[decide_eq_false h,o10 rfl T65 rfl]
  unfold F65 c65
  simp(disch:=first|omega|fail) only[push_cast,seval,vrl,if_pos,if_neg,nb8 h8]
theorem eb4{l k:List Int}{e f:Int}(hl:l.length≤9223372036854775807):o24 W 30 [.fz b (.sl nl 0 1 (ivs l)), .x (.int .i64 e), .fz b' (.sl nl' 0 1 (ivs k)), .x (.int .i64 f)] []=some (.x (.bool (if f=0 then decide (e=0)&&decide (l=k)else decide (e=f)&&decide (l.length=0))),[],[]):=by
 have h1:=fun b b' nl nl'=>nb2 (b:=b) (b':=b') (nl:=nl) (nl':=nl') (k:=k) hl
 by_cases hf:f=0
 ·rw[if_pos hf]
  by_cases h0:e=0
  ·rw[decide_eq_true h0,Bool.true_and,o10 rfl T30 rfl]
   unfold F30 c30
   simp(disch:=first|omega|fail) only[push_cast,seval,vrl,if_pos,if_neg,hf,h0,h1]
  ·rw[decide_eq_false h0,Bool.false_and,o10 rfl T30 rfl]
   unfold F30 c30
   simp(disch:=first|omega|fail) only[push_cast,seval,vrl,if_pos,if_neg,hf,nb8 h0]
 ·rw[if_neg hf]
  by_cases h0:e=f
  ·subst h0
   rw[decide_eq_true rfl,Bool.true_and,o10 rfl T30 rfl]
   unfold F30 c30
   by_cases hz:l.length=0
   ·rw[decide_eq_true hz]
    simp(disch:=first|omega|fail) only[push_cast,seval,vrl,if_pos,if_neg,nb8 hf,hz]
   ·rw[decide_eq_false hz]
    simp(disch:=first|omega|fail) only[push_cast,seval,vrl,if_pos,if_neg,nb8 hf]
  ·rw[decide_eq_false h0,Bool.false_and,o10 rfl T30 rfl]
   unfold F30 c30
   simp(disch:=first|omega|fail) only[push_cast,seval,vrl,if_pos,if_neg,nb8 hf,nb8 h0]
theorem ec0{l:List (List Int)}(hl:l.length≤9223372036854775807): ∀(d i:Nat) (n:Int),i+d=l.length→ ∃m:Int,∀(b:Bool) (nl nr:Nat) ks,
 vgoL W ⟨hNo,[.tmp 2],0⟩ [0,3,4] c4L0 (.blk 0 [3]::ks) [(0, .fz b (.sl nl 0 1 (lvs nr l))),(3, .x (.int .i64 n)),(4, .x (.int .i64 i))] []=vgo W ⟨hNo,[.tmp 2],0⟩ ks (VFr.of [(3, .x (.int .i64 m))]) []
 |0,i,n,hi=>by
  refine⟨n,fun b nl nr ks=> ?_⟩
  rw[sb5 c4L0.eq_def]
  simp(disch:=first|omega|fail) only[push_cast,seval,vrl,if_pos,if_neg]
 |d+1,i,n,hi=>by
  obtain⟨r,hr⟩:=ge6 (l:=l) (i:=i) (by omega)
  have h1:=fun nr=>lat (nl:=nr) hr
  by_cases hn:n≤6000
  ·obtain⟨m,hm⟩:=ec0 hl d (i+1) (IntKind.wrap .i64 (n+r.length)) (by omega)
   refine⟨m,fun b nl nr ks=> ?_⟩
   have ih:=hm b nl nr ks
   rw[Int.natCast_add,Int.natCast_one]at ih
   rw[←ih,sb5 c4L0.eq_def]
   simp(disch:=first|omega|fail) only[push_cast,seval,vrl,if_pos,if_neg,h1,nl5 hn]
  ·refine⟨n,fun b nl nr ks=> ?_⟩
   rw[sb5 c4L0.eq_def]
   simp(disch:=first|omega|fail) only[push_cast,seval,vrl,if_pos,if_neg,h1]
theorem tr6{l:List (List Int)}(hl:l.length≤9223372036854775807): ∃z:Bool,∀b nl nr,o24 W 4 [.fz b (.sl nl 0 1 (lvs nr l))] []=some (.x (.bool z),[],[]):=by
 obtain⟨m,e⟩:=ec0 hl l.length 0 l.length (by omega)
 simp only[Int.natCast_zero]at e
 refine⟨decide (6000<m),fun b nl nr=> ?_⟩
 rw[o10 rfl T4 rfl]
 unfold F4 c4
 simp(disch:=first|omega|fail) only[push_cast,seval,vrl,if_pos,if_neg]
 rw[e]
 simp(disch:=first|omega|fail) only[push_cast,seval,vrl,if_pos,if_neg]
section
variable {q:Int} [IsFld q]
theorem e85{p m g:Int}{t:Tree}(u:RFo q p m g t){l:List Int}(hl:l.length≤9223372036854775807): ∀(d i:Nat),i+d=l.length→ ∀ks,
 vgoL W ⟨hNo,[.tmp 4],0⟩ [1,2,5] c27L0 (.blk 0 []::ks) [(1, .fz b (.sl nl 0 1 (ivs l))),(2, .own 0 []),(5, .x (.int .i64 i))] [.pt 39 [.v (.int .i64 q), .v (.int .i64 p), .v (.int .i64 m), .v (.int .i64 g), .fz t]]=
  if((l.drop i).any fun v=> !fok q v)=true then some (.x (.bool false),[],[])else vgo W ⟨hNo,[.tmp 4],0⟩ ks (VFr.of []) [.pt 39 [.v (.int .i64 q), .v (.int .i64 p), .v (.int .i64 m), .v (.int .i64 g), .fz t]]
 |0,i,hi,ks=>by
  rw[oh9 (by omega),if_neg (by simp),sb5 c27L0.eq_def]
  simp(disch:=first|omega|fail) only[push_cast,seval,vrl,if_pos,if_neg]
 |d+1,i,hi,ks=>by
  have ih:=e85 u hl d (i+1) (by omega) ks
  obtain⟨a,ha⟩:=ge6 (l:=l) (i:=i) (by omega)
  have h1:=iat ha
  rw[Int.natCast_add,Int.natCast_one]at ih
  have ht:=u.n
  have ho:=u.o
  have vhas:=fun x:Int=>xb9 (q:=q) (x:=x)
  rw[u.e]at vhas
  rw[i62 ha,List.any_cons]
  cases h:fok q a with
  |true=>
   simp only[h,Bool.not_true,Bool.false_or]
   rw[←ih,sb5 c27L0.eq_def]
   simp(disch:=first|omega|fail) only[push_cast,seval,vrl,if_pos,if_neg,h1,vhas,ht,ho,h]
  |false=>
   simp only[h,Bool.not_false,Bool.true_or,if_true]
   rw[sb5 c27L0.eq_def]
   simp(disch:=first|omega|fail) only[push_cast,seval,vrl,if_pos,if_neg,h1,vhas,ht,ho,h]
theorem q18{l:List Int}(hl:l.length≤9223372036854775807):o24 W 27 [.agg (rFs q), .fz b (.sl nl 0 1 (ivs l))] []=some (.x (.bool (!(l.any fun v=> !fok q v))),[],[]):=by
 obtain⟨p,m,g,t,u⟩:=k75 q
 have e:=fun ks=>e85 (b:=b) (nl:=nl) u hl l.length 0 (by omega) ks
 simp only[Int.natCast_zero,List.take_zero,List.drop_zero,rp2,lz6,x25,List.map_nil,List.length_nil]at e
 have ht:=u.n
 rw[o10 rfl T27 rfl,u.e]
 unfold F27 c27
 simp(disch:=first|omega|fail) only[push_cast,seval,vrl,if_pos,if_neg,ht]
 rw[e]
 cases (l.any fun v=> !fok q v)with
 |true=>rw[if_pos rfl];rfl
 |false=>
  rw[if_neg (by decide)]
  simp(disch:=first|omega|fail) only[push_cast,seval,vrl,if_pos,if_neg]
end
end
section
variable {q n q' n' e:Int} {nl nr nl' nr':Nat} {M M':List (List Int)}
theorem uh6(hl:M.length≤9223372036854775807)(hr: ∀r∈M,r.length≤9223372036854775807):
 o24 W 26 [.agg [.x (.int .i64 q), .x (.int .i64 n), .fz true (.sl nl 0 1 (lvs nr M))], .agg [.x (.int .i64 q'), .x (.int .i64 n'), .fz true (.sl nl' 0 1 (lvs nr' M'))]] []=some (.x (.bool (decide (q=q')&&(decide (n=n')&&decide (M=M')))),[],[]):=by
 have e1:=fun b b' nl nl' nr nr'=>us3 (b:=b) (b':=b') (nl:=nl) (nl':=nl') (nr:=nr) (nr':=nr') (l:=M) (k:=M') hl hr
 rw[o10 rfl T26 rfl]
 unfold F26 c26
 by_cases h1:q=q'
 ·by_cases h2:n=n'
  ·rw[decide_eq_true h1,decide_eq_true h2,Bool.true_and,Bool.true_and]
   simp(disch:=first|omega|fail) only[push_cast,seval,vrl,if_pos,if_neg,mr8 h1,mr8 h2,e1]
  ·rw[decide_eq_true h1,decide_eq_false h2,Bool.true_and,Bool.false_and]
   simp(disch:=first|omega|fail) only[push_cast,seval,vrl,if_pos,if_neg,mr8 h1,nb8 h2]
 ·rw[decide_eq_false h1,Bool.false_and]
  simp(disch:=first|omega|fail) only[push_cast,seval,vrl,if_pos,if_neg,nb8 h1]
theorem l61:o24 W 26 [.agg [.x (.int .i64 0), .x (.int .i64 0), .fz true (.sl 1 0 1 [])], .agg [.x (.int .i64 0), .x (.int .i64 0), .fz true (.sl 1 0 1 [])]] []=some (.x (.bool true),[],[]):=by
 have e1:=uh6 (q:=0) (n:=0) (q':=0) (n':=0) (nl:=1) (nr:=0) (nl':=1) (nr':=0) (M:=[]) (M':=[]) (by simp) (by simp)
 simpa only[em1,decide_true,Bool.and_true]using e1
theorem v05(he:e≠0):o24 W 11 [.agg [.x (.int .i64 0), .x (.int .i64 0), .fz true (.sl 1 0 1 [])], .x (.int .i64 e), .agg [.x (.int .i64 0), .x (.int .i64 0), .fz true (.sl 1 0 1 [])], .x (.int .i64 e)] []=some (.x (.bool true),[],[]):=by
 have e1:=l61
 rw[o10 rfl T11 rfl]
 unfold F11 c11
 simp(disch:=first|omega|fail) only[push_cast,seval,vrl,if_pos,if_neg,e1,nb8 he]
theorem p72(hl:M.length≤9223372036854775807)(hr: ∀r∈M,r.length≤9223372036854775807):o24 W 11 [.agg [.x (.int .i64 q), .x (.int .i64 n), .fz true (.sl nl 0 1 (lvs nr M))], .x (.int .i64 0), .agg [.x (.int .i64 q), .x (.int .i64 n), .fz true (.sl nl' 0 1 (lvs nr' M))], .x (.int .i64 0)] []=some (.x (.bool true),[],[]):=by
 have e1:=fun nl nr nl' nr'=>uh6 (q:=q) (n:=n) (q':=q) (n':=n) (M':=M) (nl:=nl) (nr:=nr) (nl':=nl') (nr':=nr') hl hr
 simp only[decide_true,Bool.and_true]at e1
 rw[o10 rfl T11 rfl]
 unfold F11 c11
 simp(disch:=first|omega|fail) only[push_cast,seval,vrl,if_pos,if_neg,e1]
end
section
variable {q:Int} [IsFld q] {k nl nr nl2:Nat} {b:Bool} {N:List (List (El q))} {M:List (List Int)} {w:List Int}
def hk8(q:Int)(k:Nat)(w:List Int):Int:=if w.length≠k then 6 else if(w.any fun v=> !fok q v)=true then 2 else 0
theorem pu5{w:List Int}(h:hk8 q k w=0): ∃a:List (El q),w=vs a∧a.length=k:=by
 unfold hk8 at h
 split at h
 ·cases h
 ·rename_i h1
  split at h
  ·cases h
  ·rename_i h2
   obtain⟨a,rfl⟩:=n43 (q:=q) (l:=w) fun z hz=>by
    refine Classical.byContradiction fun h=>h2 (List.any_eq_true.2 ⟨z,hz, ?_⟩)
    rw[Bool.not_eq_true]at h
    rw[h];rfl
   exact⟨a,rfl,by rw[fi2]at h1;exact Classical.byContradiction h1⟩
theorem vf9(a:List (El q)):((vs a).any fun v=> !fok q v)=false:=List.any_eq_false.2 fun z hz=>by
 obtain⟨x,_,rfl⟩:=List.mem_map.1 hz
 rw[x.ok];decide
theorem op3{a:List (El q)}(h:a.length=k):hk8 q k (vs a)=0:=by
 unfold hk8
 rw[fi2,if_neg (by simpa using h),vf9,if_neg (by decide)]
theorem vcwf{e:Nat}(v:Int):o24 W 91 [.x (.int .i64 v), .fz b (.pt e [pF q])] []=some (.x (.bool (!fok q v)),[],[]):=by
 rw[o10 rfl T91 rfl]
 unfold F91 c91
 simp(disch:=first|omega|fail) only[push_cast,seval,vrl,if_pos,if_neg]
theorem gd1(hw:w.length≤9223372036854775807):o24 W 70 [.agg [.x (.int .i64 q), .x (.int .i64 k), .fz true (.sl nl 0 1 (lvs nr M))], .fz b (.sl nl2 0 1 (ivs w))] []=some (.x (.int .i64 (hk8 q k w)),[],[]):=by
 have hf:=fun bl nl b e=>eg0 (nl:=nl) (l:=w) (bl:=bl) (k:=91) (b:=b) (t:= .pt e [pF q]) vcwf rfl hw
 unfold hk8
 rw[o10 rfl T70 rfl]
 unfold F70 c70
 by_cases h1:w.length=k
 ·rw[if_neg (by simpa using h1)]
  cases hany:(w.any fun v=> !fok q v)with
  |true=>
   rw[hany]at hf
   rw[if_pos rfl]
   simp(disch:=first|omega|fail) only[push_cast,seval,vrl,if_pos,if_neg,h1,hf]
  |false=>
   rw[hany]at hf
   rw[if_neg (by decide)]
   simp(disch:=first|omega|fail) only[push_cast,seval,vrl,if_pos,if_neg,h1,hf]
 ·rw[if_pos h1]
  have h2: ¬(w.length:Int)=(k:Int):=by omega
  simp(disch:=first|omega|fail) only[push_cast,seval,vrl,if_pos,if_neg,nb8 h2]
def encL(k:Nat)(m:List (El q))(R:List (List (El q))):List (El q):=prow k m R 0 (List.replicate k 0)
theorem b87(m:List (El q))(R:List (List (El q))):(encL k m R).length=k:=by unfold encL;rw[kv3];simp
theorem h24{n:Int}{i:Nat}{m:List (El q)}{r:List (El q)}(hm:m.length≤1000)(hr:r.length=k)(hk:k≤1000){T:Tree}: ∀(d j:Nat) (x:List (El q)),j+d=k→x.length=k→ ∀ks,
 vgoL W ⟨hNo,[.tmp 6],0⟩ [0,4,7,9,15,16,17,26,27,28] c68L0 (.blk 2 [0,4,7,15,16,17]::ks) [(0, .fz true (pF q)),(4, .own 0 []),(7, .own 1 []),(9, .x (.int .i64 ((wf m i).v))),(15, .fz b (.sl nl2 0 1 (ivs (vs m)))),(16, .x (.int .i64 m.length)),(17, .x (.int .i64 i)),(26, .fz true (.sl nr 0 1 (ivs (vs r)))),(27, .x (.int .i64 k)),(28, .x (.int .i64 j))] [T, .sl 0 3 1 (ivs (vs x))]=
  vgo W ⟨hNo,[.tmp 6],0⟩ ks (VFr.of [(0, .fz true (pF q)),(4, .own 0 []),(7, .own 1 []),(15, .fz b (.sl nl2 0 1 (ivs (vs m)))),(16, .x (.int .i64 m.length)),(17, .x (.int .i64 i))]) [T, .sl 0 3 1 (ivs (vs (mac (wf m i) r d j x)))]
 |0,j,x,hj,hx,ks=>by
  rw[mac,sb5 c68L0.eq_def]
  simp(disch:=first|omega|fail) only[push_cast,seval,vrl,if_pos,if_neg]
 |d+1,j,x,hj,hx,ks=>by
  have ih:=h24 (n:=n) (i:=i) (m:=m) hm hr hk (T:=T) d (j+1) (x.set j (wf x j+wf m i*wf r j)) (by omega) (by rw[List.length_set];exact hx) ks
  have h2:=iva (l:=r) (i:=j) (by omega)
  have h3:=iva (l:=x) (i:=j) (by omega)
  rw[Int.natCast_add,Int.natCast_one,←g52,on0,ym6]at ih
  rw[mac,←ih,sb5 c68L0.eq_def]
  simp(disch:=first|omega|fail) only[push_cast,seval,vrl,if_pos,if_neg,h2,h3]
theorem ib4{n:Int}{m:List (El q)}{R:List (List (El q))}(hm:m.length=R.length)(hmk:m.length≤1000)(hR: ∀r∈R,r.length=k)(hk:k≤1000): ∀(d i:Nat) (x:List (El q)),i+d=m.length→x.length=k→ ∀ks,
 vgoL W ⟨hNo,[.tmp 6],0⟩ [0,4,7,15,16,17] c68L1 (.blk 0 [7]::ks) [(0, .fz true (pF q)),(4, .own 0 []),(7, .own 1 []),(15, .fz b (.sl nl2 0 1 (ivs (vs m)))),(16, .x (.int .i64 m.length)),(17, .x (.int .i64 i))] [.pt 24 [.v (.int .i64 q), .v (.int .i64 n), .fz (.sl nl 0 1 (lvs nr (R.map vs)))], .sl 0 3 1 (ivs (vs x))]=
  vgo W ⟨hNo,[.tmp 6],0⟩ ks (VFr.of [(7, .own 1 [])]) [.pt 24 [.v (.int .i64 q), .v (.int .i64 n), .fz (.sl nl 0 1 (lvs nr (R.map vs)))], .sl 0 3 1 (ivs (vs (prow k m (R.drop i) i x)))]
 |0,i,x,hi,hx,ks=>by
  rw[List.drop_eq_nil_of_le (by omega),prow,sb5 c68L1.eq_def]
  simp(disch:=first|omega|fail) only[push_cast,seval,vrl,if_pos,if_neg]
 |d+1,i,x,hi,hx,ks=>by
  obtain⟨r,hr⟩:=ge6 (l:=R) (i:=i) (by omega)
  have hrl:=hR r (List.mem_of_getElem? hr)
  have ih:=ib4 (n:=n) hm hmk hR hk d (i+1) (mac (wf m i) r k 0 x) (by omega) (by rw[ev4];exact hx) ks
  have e:=fun T ks=>h24 (n:=n) (b:=b) (nr:=nr) (nl2:=nl2) (i:=i) (m:=m) hmk hrl hk (T:=T) k 0 x (by omega) hx ks
  simp only[Int.natCast_zero,List.take_zero,List.drop_zero,rp2,lz6,x25,List.map_nil,List.length_nil]at e
  have h1:=iva (l:=m) (i:=i) (by omega)
  have h2:=mva (nl:=nr) hr
  rw[Int.natCast_add,Int.natCast_one]at ih
  rw[i62 hr,prow,←ih,sb5 c68L1.eq_def]
  simp(disch:=first|omega|fail) only[push_cast,seval,vrl,if_pos,if_neg,h1,h2,hrl]
  rw[e]
  simp(disch:=first|omega|fail) only[push_cast,seval,vrl,if_pos,if_neg]
theorem gm8{m:List (El q)}{R:List (List (El q))}(hm:m.length=R.length)(hmk:m.length≤1000)(hR: ∀r∈R,r.length=k)(hk:k≤1000):
 o24 W 68 [.fz true (pF q), .agg [.x (.int .i64 q), .x (.int .i64 k), .fz true (.sl nl 0 1 (lvs nr (R.map vs)))], .fz b (.sl nl2 0 1 (ivs (vs m)))] []=some (.own 0 [],[.sl 0 3 1 (ivs (vs (encL k m R)))],[]):=by
 have e:=fun ks=>ib4 (q:=q) (b:=b) (nl:=nl) (nr:=nr) (nl2:=nl2) (n:=k) hm hmk hR hk m.length 0 (List.replicate k 0) (by omega) (by simp) ks
 have hz:List.replicate k (0:Int)=vs (List.replicate k (0:El q)):=by rw[←qj2];rfl
 simp only[Int.natCast_zero,List.take_zero,List.drop_zero,rp2,lz6,x25,List.map_nil,List.length_nil]at e
 unfold encL
 rw[o10 rfl T68 rfl]
 unfold F68 c68
 simp(disch:=first|omega|fail) only[push_cast,seval,vrl,if_pos,if_neg,hz]
 rw[e]
 simp(disch:=first|omega|fail) only[push_cast,seval,vrl,if_pos,if_neg]
theorem nn3{e:Nat}(v:Int):o24 W 67 [.x (.int .i64 v), .fz b (.pt e [pF q])] []=some (.x (.bool (!fok q v)),[],[]):=by
 rw[o10 rfl T67 rfl]
 unfold F67 c67
 simp(disch:=first|omega|fail) only[push_cast,seval,vrl,if_pos,if_neg]
theorem wc4(he:gi9 q k (N.map vs)=0)(h0:0<k)(hk:k≤64)(hl:N.length≤64)(hr: ∀r∈N,r.length=k){m:List (El q)}(hm:m.length=(redR N).length):
 o24 W 29 [.agg [.x (.int .i64 q), .x (.int .i64 k), .fz true (.sl nl 0 1 (lvs nr (N.map vs)))], .fz b (.sl nl2 0 1 (ivs (vs m)))] []=some (.tup [.own 0 [], .x (.int .i64 0)],[.sl 0 3 1 (ivs (vs (encL k m (p78 (redR N)))))],[]):=by
 have e1:=fun nl nr=>ob1 (nl:=nl) (nr:=nr) he h0 hk hl hr
 obtain⟨r1,r2,_⟩:=bi2 hr
 have hle:=ew4 hr
 have hf:=fun bl nl b e=>eg0 (nl:=nl) (l:=vs m) (bl:=bl) (k:=67) (b:=b) (t:= .pt e [pF q]) nn3 rfl (by rw[fi2];omega)
 simp only[vf9]at hf
 have e2:=fun b nl nr nl2=>gm8 (q:=q) (b:=b) (nl:=nl) (nr:=nr) (nl2:=nl2) (m:=m) (R:=p78 (redR N)) (by rw[gb3,hm]) (by omega) (zu4 r2) (by omega)
 rw[←lo1]at e2
 have h1:=nu3 (redR N)
 rw[o10 rfl T29 rfl]
 unfold F29 c29
 simp(disch:=first|omega|fail) only[push_cast,seval,vrl,if_pos,if_neg,e1,h1,hm,hf,e2]
def synL(D:List (List (El q)))(w:List (El q)):List (El q):=D.map fun r=>sumN r.length fun j=>wf r j*wf w j
theorem js8(D:List (List (El q)))(w:List (El q)):(synL D w).length=D.length:=by simp[synL]
theorem ln6{T10:Tree}{n:Int}{D:List (List (El q))}{i:Nat}{r w:List (El q)}(hr:D[i]? =some r)(hrl:r.length=w.length)(hw:w.length≤1000)(hD:D.length≤1000): ∀(d j:Nat),j+d=r.length→ ∀ks,
 vgoL W ⟨h33,[.tmp 4, .tmp 5],0⟩ [1,8,10,13,36,37,38,42,43,44] c33L0 (.blk 2 [1,8,10,13,36,37,38]::ks) [(1, .fz b (.sl nl2 0 1 (ivs (vs w)))),(8, .fz true (pF q)),(10, .own 0 []),(13, .x (.int .i64 ((sumN j fun j=>wf r j*wf w j).v))),(36, .own 1 [2]),(37, .x (.int .i64 D.length)),(38, .x (.int .i64 i)),(42, .own 1 [2,i]),(43, .x (.int .i64 r.length)),(44, .x (.int .i64 j))] [T10, .pt 24 [.v (.int .i64 q), .v (.int .i64 n), .sl 2 25 1 (lls 2 (D.map vs))]]=
  vgo W ⟨h33,[.tmp 4, .tmp 5],0⟩ ks (VFr.of [(1, .fz b (.sl nl2 0 1 (ivs (vs w)))),(8, .fz true (pF q)),(10, .own 0 []),(13, .x (.int .i64 ((sumN r.length fun j=>wf r j*wf w j).v))),(36, .own 1 [2]),(37, .x (.int .i64 D.length)),(38, .x (.int .i64 i))]) [T10, .pt 24 [.v (.int .i64 q), .v (.int .i64 n), .sl 2 25 1 (lls 2 (D.map vs))]]
 |0,j,hj,ks=>by
  obtain rfl:j=r.length:=by omega
  rw[sb5 c33L0.eq_def]
  simp(disch:=first|omega|fail) only[push_cast,seval,vrl,if_pos,if_neg]
 |d+1,j,hj,ks=>by
  have ih:=ln6 (T10:=T10) (n:=n) hr hrl hw hD d (j+1) (by omega) ks
  have h0:=mla (nl:=2) hr
  have h1:=iva (l:=r) (i:=j) (by omega)
  have h2:=iva (l:=w) (i:=j) (by omega)
  rw[Int.natCast_add,Int.natCast_one,cp9,on0,ym6]at ih
  rw[←ih,sb5 c33L0.eq_def]
  simp(disch:=first|omega|fail) only[push_cast,seval,vrl,if_pos,if_neg,h0,h1,h2,hrl]
theorem mt1{n:Int}{D:List (List (El q))}{w:List (El q)}(hD: ∀r∈D,r.length=w.length)(hw:w.length≤1000)(hDl:D.length≤1000): ∀(d i:Nat),i+d=D.length→ ∀ks,
 vgoL W ⟨h33,[.tmp 4, .tmp 5],0⟩ [1,8,10,36,37,38] c33L1 (.blk 0 [10]::ks) [(1, .fz b (.sl nl2 0 1 (ivs (vs w)))),(8, .fz true (pF q)),(10, .own 0 []),(36, .own 1 [2]),(37, .x (.int .i64 D.length)),(38, .x (.int .i64 i))] [.sl 1 3 1 (ivs (vs ((synL D w).take i))), .pt 24 [.v (.int .i64 q), .v (.int .i64 n), .sl 2 25 1 (lls 2 (D.map vs))]]=
  vgo W ⟨h33,[.tmp 4, .tmp 5],0⟩ ks (VFr.of [(10, .own 0 [])]) [.sl 1 3 1 (ivs (vs (synL D w))), .pt 24 [.v (.int .i64 q), .v (.int .i64 n), .sl 2 25 1 (lls 2 (D.map vs))]]
 |0,i,hi,ks=>by
  rw[List.take_of_length_le (by rw[js8];omega),sb5 c33L1.eq_def]
  simp(disch:=first|omega|fail) only[push_cast,seval,vrl,if_pos,if_neg]
 |d+1,i,hi,ks=>by
  have ih:=mt1 (n:=n) hD hw hDl d (i+1) (by omega) ks
  obtain⟨r,hr⟩:=ge6 (l:=D) (i:=i) (by omega)
  have hrl:=hD r (List.mem_of_getElem? hr)
  have h0:=mla (nl:=2) hr
  have hs:=js8 D w
  have e:=fun T10 ks=>ln6 (b:=b) (nl2:=nl2) (T10:=T10) (n:=n) hr hrl hw hDl r.length 0 (by omega) ks
  rw[wr8,hc8]at e
  simp only[Int.natCast_zero,List.take_zero,List.drop_zero,rp2,lz6,x25,List.map_nil,List.length_nil]at e
  have hg:(synL D w)[i]? =some (sumN r.length fun j=>wf r j*wf w j):=by unfold synL;rw[List.getElem?_map,hr];rfl
  rw[Int.natCast_add,Int.natCast_one,List.take_add_one,hg,Option.toList_some,gq8,e55,rp2]at ih
  rw[←ih,sb5 c33L1.eq_def]
  simp(disch:=first|omega|fail) only[push_cast,seval,vrl,if_pos,if_neg,h0]
  rw[e]
  simp(disch:=first|omega|fail) only[push_cast,seval,vrl,if_pos,if_neg,hs]
theorem tq9(he:gi9 q k (N.map vs)=0)(h0:0<k)(hk:k≤64)(hl:N.length≤64)(hr: ∀r∈N,r.length=k){w:List (El q)}(hw:w.length=k):
 o24 W 33 [.agg [.x (.int .i64 q), .x (.int .i64 k), .fz true (.sl nl 0 1 (lvs nr (N.map vs)))], .fz b (.sl nl2 0 1 (ivs (vs w)))] []=some (.tup [.own 0 [], .x (.int .i64 0)],[.sl 1 3 1 (ivs (vs (synL (p78 (zt5 k N)) w)))],[]):=by
 have e1:=fun nl nr=>x92 (nl:=nl) (nr:=nr) he h0 hk hl hr
 obtain⟨n1,n2,_,n4⟩:=sw1 hr
 have e2:=fun nl nr b nl2=>gd1 (q:=q) (k:=k) (nl:=nl) (nr:=nr) (nl2:=nl2) (b:=b) (M:=N.map vs) (w:=vs w) (by rw[fi2];omega)
 simp only[op3 hw]at e2
 have e3:=fun ks=>mt1 (q:=q) (b:=b) (nl2:=nl2) (n:=k) (D:=p78 (zt5 k N)) (w:=w) (fun r hr=>by rw[zu4 n2 r hr,hw]) (by omega) (by rw[gb3];omega) (p78 (zt5 k N)).length 0 (by omega) ks
 rw[←lo1]at e3
 simp only[Int.natCast_zero,List.take_zero,List.drop_zero,rp2,lz6,x25,List.map_nil,List.length_nil]at e3
 have h1:=nu3 (zt5 k N)
 have h2:(p78 (zt5 k N)).length=(zt5 k N).length:=gb3
 rw[h2]at e3
 rw[o10 rfl T33 rfl]
 unfold F33 c33
 simp(disch:=first|omega|fail) only[push_cast,seval,vrl,if_pos,if_neg,e1,e2,h1]
 rw[e3]
 simp(disch:=first|omega|fail) only[push_cast,seval,vrl,if_pos,if_neg]
theorem aq6(v:Int):o24 W 73 [.x (.int .i64 v)] []=some (.x (.bool (!decide (v=0))),[],[]):=by
 rw[o10 rfl T73 rfl]
 unfold F73 c73
 simp(disch:=first|omega|fail) only[push_cast,seval,vrl,if_pos,if_neg]
end
end Go.Proofs.YtodbgomfeacdhaaGreat
namespace Go.Alg
section
variable {K:Type} [FK K] {n:Nat}
end
end Go.Alg
namespace Go.Proofs.YtodbgomfeacdhaaGreat
open Go.Am Go.Vm Go.Alg
section
variable {q n q' n':Int} {nl nr nl' nr':Nat} {M M':List (List Int)}
end
section
variable {q:Int} [IsFld q] {k nl nr nl' nr':Nat} {M B N:List (List (El q))}
theorem df0(M:List (List (El q)))(b:List (El q)):lls 2 (M.map vs)++[Tree.sl 2 3 1 (ivs (vs b))]=lls 2 ((M++[b]).map vs):=by
 rw[ng3,List.map_append];rfl
end
end Go.Proofs.YtodbgomfeacdhaaGreat
namespace Go.Proofs.YtodbgomfeacdhaaGreat
open Go.Am Go.Vm
section
variable {zs:List Int} {I J nl:Nat}
@[push_cast] theorem gi2:vM 79=[.own 3 1, .bor 0, .bor 0]:=rfl
@[push_cast] theorem xx2:vH 79=hNo:=rfl
theorem qj7(hl:zs.length≤1099511627776): ∀(d k:Nat),k+d=zs.length→ ∀ks,
 vgoL W ⟨hNo,[.tmp 7],1⟩ [0,1,2,3,4] bDel (.blk 0 [0,1,2,3,4]::ks) [(0, .own 0 []),(1, .x (.int .i64 I)),(2, .x (.int .i64 J)),(3, .x (.int .i64 k)),(4, .x (.int .i64 zs.length))] [.sl nl 3 1 (ivs zs)]=
  vgo W ⟨hNo,[.tmp 7],1⟩ ks (VFr.of [(0, .own 0 []),(1, .x (.int .i64 I)),(2, .x (.int .i64 J)),(3, .x (.int .i64 zs.length)),(4, .x (.int .i64 zs.length))]) [.sl nl 3 1 (ivs zs)]
 |0,k,hk,ks=>by
  obtain rfl:k=zs.length:=by omega
  rw[sb5 bDel.eq_def]
  unfold rDel
  simp(disch:=first|omega|fail) only[push_cast,seval,vrl,if_pos,if_neg]
 |d+1,k,hk,ks=>by
  have ih:=qj7 hl d (k+1) (by omega) ks
  obtain⟨a,ha⟩:=ge6 (l:=zs) (i:=k) (by omega)
  have h1:=iat ha
  rw[Int.natCast_add,Int.natCast_one]at ih
  rw[←ih,sb5 bDel.eq_def]
  unfold rDel
  simp(disch:=first|omega|fail) only[push_cast,seval,vrl,if_pos,if_neg,h1]
theorem bc7(hij:I<J)(hJ:J≤zs.length)(hl:zs.length≤1000000):
 o24 W 79 [.own 0 [], .x (.int .i64 I), .x (.int .i64 J)] [.sl nl 3 1 (ivs zs)]=some (.own 0 [],[.sl (if nl=0 then 0 else 2) 3 1 (ivs (zs.take I++zs.drop J))],[.junk]):=by
 have e:=fun ks=>qj7 (nl:=nl) (I:=I) (J:=J) (zs:=zs) (by omega) zs.length 0 (by omega) ks
 simp only[Int.natCast_zero,List.take_zero,List.drop_zero,rp2,lz6,x25,List.map_nil,List.length_nil]at e
 rw[o10 rfl T79 rfl]
 unfold FDel cDel sDel
 simp(disch:=first|omega|fail) only[push_cast,seval,vrl,if_pos,if_neg,dec_lt (show(I:Int)<J by omega)]
 rw[e]
 unfold eDel
 simp(disch:=first|omega|fail) only[push_cast,seval,vrl,if_pos,if_neg]
 rw[show((I:Int)-0).toNat=I by omega,show((zs.length:Int)-J).toNat=zs.length-J by omega,List.take_of_length_le (Nat.le_of_eq (List.length_drop)),Vm.tl5]
end
end Go.Proofs.YtodbgomfeacdhaaGreat
namespace Go.Alg
section
variable {K:Type} [FK K] {n a:Nat}
def cutF(a:Nat)(w:Nat→K):Nat→K:=fun i=>if i<a then w i else w (i+1)
def insF(a:Nat)(x:Nat→K):Nat→K:=fun i=>if i<a then x i else if i=a then 0 else x (i-1)
theorem a03(l:List K)(a:Nat):wf (l.eraseIdx a)=cutF a (wf l):=by
 funext i
 unfold wf cutF
 simp only[List.getD_eq_getElem?_getD,List.getElem?_eraseIdx]
 split<;>rfl
theorem dv7(x:Nat→K):cutF a (insF a x)=x:=by
 funext i
 unfold cutF insF
 by_cases h:i<a
 ·rw[if_pos h,if_pos h]
 ·rw[if_neg h,if_neg (by omega),if_neg (by omega)];rfl
theorem kk0{w:Nat→K}(h:w a=0):insF a (cutF a w)=w:=by
 funext i
 show(if i<a then(if i<a then w i else w (i+1))else if i=a then 0 else(if i-1<a then w (i-1)else w (i-1+1)))=w i
 by_cases h1:i<a
 ·rw[if_pos h1,if_pos h1]
 ·rw[if_neg h1]
  by_cases h2:i=a
  ·rw[if_pos h2,h2,h]
  ·rw[if_neg h2,if_neg (by omega),Nat.sub_add_cancel (by omega)]
theorem ty1(x:Nat→K):insF a x a=0:=by unfold insF;rw[if_neg (Nat.lt_irrefl _),if_pos rfl]
theorem ix1(c:K)(u w:Nat→K):cutF a (axp c u w)=axp c (cutF a u) (cutF a w):=by
 funext i
 by_cases h:i<a
 ·simp only[cutF,axp,if_pos h]
 ·simp only[cutF,axp,if_neg h]
theorem ea3:cutF a (fun _=>(0:K))=fun _=>0:=by funext i;unfold cutF;split<;>rfl
theorem k72(c:K)(u w:Nat→K):insF a (axp c u w)=axp c (insF a u) (insF a w):=by
 funext i
 by_cases h1:i<a
 ·simp only[insF,axp,if_pos h1]
 ·by_cases h2:i=a
  ·simp only[insF,axp,if_neg h1,if_pos h2,mul_zero,FK.add_zero]
  ·simp only[insF,axp,if_neg h1,if_neg h2]
theorem m48:insF a (fun _=>(0:K))=fun _=>0:=by
 funext i
 by_cases h1:i<a
 ·simp only[insF,if_pos h1]
 ·simp only[insF,if_neg h1,ite_self]
theorem jq8{f:Nat→K}: ∀{m:Nat},a≤m→sumN (m+1) f=sumN m (cutF a f)+f a
 |0,h=>by
  obtain rfl:a=0:=by omega
  rw[cp9];rfl
 |m+1,h=>by
  rw[cp9 (n:=m+1)]
  by_cases he:a=m+1
  ·subst he
   have e:sumN (m+1) (cutF (m+1) f)=sumN (m+1) f:=rc1 fun k hk=>by unfold cutF;rw[if_pos hk]
   rw[e]
  ·rw[jq8 (m:=m) (by omega),cp9 (n:=m) (f:=cutF a f)]
   have e:cutF a f m=f (m+1):=by unfold cutF;rw[if_neg (by omega)]
   rw[e]
   ac_rfl
theorem j24(h:a<n)(u x:Nat→K):dotF (n-1) (cutF a u) x=dotF n u (insF a x):=by
 obtain⟨m,rfl⟩: ∃m,n=m+1:=⟨n-1,by omega⟩
 unfold dotF
 rw[jq8 (a:=a) (by omega),ty1,mul_zero,FK.add_zero]
 refine rc1 fun k _=> ?_
 by_cases hk:k<a
 ·simp only[cutF,insF,if_pos hk]
 ·simp only[cutF,insF,if_neg hk,if_neg (show¬k+1<a by omega),if_neg (show¬k+1=a by omega),Nat.add_sub_cancel]
def rdL(a:Nat)(o:List K)(N:List (List K)):List (List K):=N.map fun r=>if wf r a=0 then r else dx9 (wf r a*FK.inv (wf o a)) r o
theorem p38{o:List K}{N:List (List K)}(ho:o.length=n)(hN: ∀r∈N,r.length=n): ∀r∈rdL a o N,r.length=n:=fun r hr=>by
 obtain⟨x,hx,rfl⟩:=List.mem_map.1 hr
 split
 ·exact hN x hx
 ·rw[wx1 (by rw[ho,hN x hx]),hN x hx]
theorem fo1{o:List K}{N:List (List K)}(ho:o.length=n)(hN: ∀r∈N,r.length=n)(h0:wf o a≠0): ∀r∈rdL a o N,wf r a=0:=fun r hr=>by
 obtain⟨x,hx,rfl⟩:=List.mem_map.1 hr
 split
 ·assumption
 ·rw[rq0 (by rw[ho,hN x hx]),FK.mul_assoc,inv_mul h0,FK.mul_one,sub_self]
theorem wd4{o:List K}{N:List (List K)}(ho:o.length=n)(hN: ∀r∈N,r.length=n): ∀r∈rdL a o N,Span ((o::N).map wf) (wf r):=fun r hr=>by
 obtain⟨x,hx,rfl⟩:=List.mem_map.1 hr
 have h1:Span ((o::N).map wf) (wf x):= .mem (List.mem_map.2 ⟨x,List.mem_cons_of_mem _ hx,rfl⟩)
 split
 ·exact h1
 ·rw[ub1 (by rw[ho,hN x hx])]
  exact h1.axp (.mem (List.mem_map.2 ⟨o,List.mem_cons_self,rfl⟩)) _
theorem oj1(c d e:K)(z r o:Nat→K):axp d (axp c z o) (axp e r o)=axp (c+d*e) (axp d z r) o:=by
 funext i
 show z i+c*o i+d*(r i+e*o i)=z i+d*r i+(c+d*e)*o i
 rw[FK.mul_add,add_mul,FK.mul_assoc d e,add4,←FK.add_assoc]
theorem ua6{o:List K}{N:List (List K)}(ho:o.length=n)(hN: ∀r∈N,r.length=n){w:Nat→K}(hw:Span ((o::N).map wf) w): ∃c z,Span ((rdL a o N).map wf) z∧w=axp c z (wf o):=by
 induction hw with
 |zero=>exact⟨0,_, .zero,by funext i;show(0:K)=0+0*_;rw[zero_mul,FK.add_zero]⟩
 | @step u r d _ hr ih=>
   obtain⟨c,z,hz,rfl⟩:=ih
   have key: ∃e r',Span ((rdL a o N).map wf) r'∧r=axp e r' (wf o):=by
    obtain⟨x,hx,rfl⟩:=List.mem_map.1 hr
    rcases List.mem_cons.1 hx with rfl|hx
    ·exact⟨1,_, .zero,by funext i;show wf x i=0+1*wf x i;rw[one_mul,zero_add]⟩
    ·have hm:Span ((rdL a o N).map wf) (wf (if wf x a=0 then x else dx9 (wf x a*FK.inv (wf o a)) x o)):= .mem (List.mem_map.2 ⟨_,List.mem_map.2 ⟨x,hx,rfl⟩,rfl⟩)
     split at hm
     ·exact⟨0,_,hm,by funext i;show wf x i=wf x i+0*_;rw[zero_mul,FK.add_zero]⟩
     ·refine⟨wf x a*FK.inv (wf o a),_,hm, ?_⟩
      rw[ub1 (by rw[ho,hN x hx])]
      funext i
      show wf x i=wf x i+ -(wf x a*FK.inv (wf o a))*wf o i+wf x a*FK.inv (wf o a)*wf o i
      rw[FK.add_assoc,←add_mul,neg_add,zero_mul,FK.add_zero]
   obtain⟨e,r',hr',rfl⟩:=key
   exact⟨c+d*e,axp d z r',hz.axp hr' d,oj1 c d e z r' (wf o)⟩
theorem up3{R:List (List K)}(h: ∀r∈R,wf r a=0){w:Nat→K}(hw:Span (R.map wf) w):w a=0:=
 hw.lin (P:=fun w=>w a=0) rfl (fun u r c h1 h2=>by show u a+c*r a=0;rw[h1,h2,mul_zero,FK.add_zero]) fun r hr=>by
  obtain⟨x,hx,rfl⟩:=List.mem_map.1 hr
  exact h x hx
def shL(a:Nat):Option (List K)→List (List K)→List (List K)
 |_,[]=>[]
 |none,r::N=>if wf r a=0 then r::shL a none N else shL a (some r) N
 |some o,r::N=>(if wf r a=0 then r else dx9 (wf r a*FK.inv (wf o a)) r o)::shL a (some o) N
theorem y40(o:List K): ∀N:List (List K),shL a (some o) N=rdL a o N
 | []=>rfl
 |r::N=>by rw[shL,y40 o N];rfl
theorem af6: ∀N:List (List K),(shL a none N=N∧ ∀r∈N,wf r a=0)∨ ∃A o B,N=A++o::B∧wf o a≠0∧shL a none N=rdL a o (A++B)
 | []=> .inl ⟨rfl,fun r hr=>by cases hr⟩
 |r::N=>by
  rw[shL]
  by_cases h:wf r a=0
  ·rw[if_pos h]
   rcases af6 N with⟨h1,h2⟩|⟨A,o,B,h1,h2,h3⟩
   ·exact .inl ⟨by rw[h1],fun x hx=>(List.mem_cons.1 hx).elim (fun e=>by rw[e,h]) (h2 x)⟩
   ·refine .inr ⟨r::A,o,B,by rw[h1];rfl,h2, ?_⟩
    rw[h3,List.cons_append]
    unfold rdL
    rw[List.map_cons,if_pos h]
  ·rw[if_neg h,y40]
   exact .inr ⟨[],r,N,rfl,h,rfl⟩
theorem li4{N:List (List K)}(hN: ∀r∈N,r.length=n): ∀r∈shL a none N,r.length=n:=by
 rcases af6 (a:=a) N with⟨h1,_⟩|⟨A,o,B,h1,h2,h3⟩
 ·rw[h1];exact hN
 ·rw[h3]
  exact p38 (hN o (by rw[h1];simp)) fun r hr=>hN r (by rw[h1];rcases List.mem_append.1 hr with h|h<;>simp[h])
theorem eb7{N:List (List K)}(hN: ∀r∈N,r.length=n)(w:Nat→K):Span ((shL a none N).map wf) w↔Span (N.map wf) w∧w a=0:=by
 rcases af6 (a:=a) N with⟨h1,h2⟩|⟨A,o,B,h1,h2,h3⟩
 ·rw[h1]
  exact⟨fun h=>⟨h,up3 h2 h⟩,fun h=>h.1⟩
 ·have ho:=hN o (by rw[h1];simp)
  have hAB: ∀r∈A++B,r.length=n:=fun r hr=>hN r (by rw[h1];rcases List.mem_append.1 hr with h|h<;>simp[h])
  have hsp: ∀w,Span (N.map wf) w↔Span ((o::(A++B)).map wf) w:=fun w=>by
   rw[h1]
   constructor<;>refine Span.mono fun r hr=> ?_
   ·obtain⟨x,hx,rfl⟩:=List.mem_map.1 hr
    refine List.mem_map.2 ⟨x, ?_,rfl⟩
    simp only[List.mem_append,List.mem_cons]at hx⊢
    rcases hx with h|h|h<;>simp[h]
   ·obtain⟨x,hx,rfl⟩:=List.mem_map.1 hr
    refine List.mem_map.2 ⟨x, ?_,rfl⟩
    simp only[List.mem_append,List.mem_cons]at hx⊢
    rcases hx with h|h|h<;>simp[h]
  rw[h3,hsp]
  constructor
  ·intro h
   refine⟨h.trans fun r hr=> ?_,up3 (fo1 ho hAB h2) h⟩
   obtain⟨x,hx,rfl⟩:=List.mem_map.1 hr
   exact wd4 ho hAB x hx
  ·rintro⟨h,h0⟩
   obtain⟨c,z,hz,rfl⟩:=ua6 (a:=a) ho hAB h
   have hz0:=up3 (fo1 ho hAB h2) hz
   have h0:z a+c*wf o a=0:=h0
   rw[hz0,zero_add]at h0
   obtain rfl:c=0:=(mul_eq_zero h0).resolve_right h2
   have:axp 0 z (wf o)=z:=by funext i;show z i+0*_=z i;rw[zero_mul,FK.add_zero]
   rw[this];exact hz
theorem jj1{R:List (List K)}(ha:a<n)(hR: ∀r∈R,r.length=n): ∀r∈R.map (fun r=>r.eraseIdx a),r.length=n-1:=fun r hr=>by
 obtain⟨x,hx,rfl⟩:=List.mem_map.1 hr
 rw[List.length_eraseIdx,hR x hx,if_pos ha]
theorem r36{R:List (List K)}{z:Nat→K}(h:Span (R.map wf) z):Span ((R.map fun r=>r.eraseIdx a).map wf) (cutF a z):=
 h.lin (P:=fun z=>Span ((R.map fun r=>r.eraseIdx a).map wf) (cutF a z)) (by rw[ea3];exact .zero) (fun u r c h1 h2=>by rw[ix1];exact h1.axp h2 c) fun r hr=>by
  obtain⟨x,hx,rfl⟩:=List.mem_map.1 hr
  rw[←a03]
  exact .mem (List.mem_map.2 ⟨_,List.mem_map.2 ⟨x,hx,rfl⟩,rfl⟩)
theorem iy6{N:List (List K)}(hN: ∀r∈N,r.length=n)(x:Nat→K):Span (((shL a none N).map fun r=>r.eraseIdx a).map wf) x↔Span (N.map wf) (insF a x):=by
 constructor
 ·intro h
  refine h.lin (P:=fun x=>Span (N.map wf) (insF a x)) (by rw[m48];exact .zero) (fun u r c h1 h2=>by rw[k72];exact h1.axp h2 c) fun r hr=> ?_
  obtain⟨y,hy,rfl⟩:=List.mem_map.1 hr
  obtain⟨s,hs,rfl⟩:=List.mem_map.1 hy
  obtain⟨h1,h2⟩:=(eb7 (a:=a) hN (wf s)).1 (.mem (List.mem_map.2 ⟨s,hs,rfl⟩))
  rw[a03,kk0 h2]
  exact h1
 ·intro h
  have:=r36 (a:=a) ((eb7 (a:=a) hN (insF a x)).2 ⟨h,ty1 x⟩)
  rwa [dv7]at this
theorem zt9{N:List (List K)}(ha:a<n)(hN: ∀r∈N,r.length=n):zt5 (n-1) ((p78 (zt5 n N)).map fun r=>r.eraseIdx a)=redR ((shL a none N).map fun r=>r.eraseIdx a):=by
 obtain⟨b1,b2,b3,_⟩:=sw1 hN
 have hX:=jj1 ha (zu4 b2)
 obtain⟨c1,c2,c3,_⟩:=sw1 hX
 obtain⟨d1,d2,d3,_⟩:=sw1 (zu4 b2)
 rw[←tq6 hX]
 refine rp5 (zu4 c2) (jj1 ha (li4 hN)) fun x=> ?_
 rw[z42,c3,iy6 hN,←(bi2 hN).2.2,←m63 hN,d3]
 constructor
 ·rintro⟨h1,h2⟩
  refine⟨fun k hk=> ?_,fun m hm=> ?_⟩
  ·unfold insF
   rw[if_neg (by omega),if_neg (by omega)]
   exact h1 _ (by omega)
  ·rw[←j24 ha,←a03]
   exact h2 _ (List.mem_map.2 ⟨m,hm,rfl⟩)
 ·rintro⟨h1,h2⟩
  refine⟨fun k hk=> ?_,fun m hm=> ?_⟩
  ·have:=h1 (k+1) (by omega)
   unfold insF at this
   rw[if_neg (by omega),if_neg (by omega)]at this
   exact this
  ·obtain⟨d,hd,rfl⟩:=List.mem_map.1 hm
   rw[a03,j24 ha]
   exact h2 d hd
def nsum(r:List K):K:=r.foldl (fun s v=>s-v) 0
def extL(r:List K):List K:=r++[nsum r]
theorem x19(r:List K):(extL r).length=r.length+1:=by unfold extL;simp
end
end Go.Alg
namespace Go.Proofs.YtodbgomfeacdhaaGreat
open Go.Am Go.Vm Go.Alg
section
variable {q:Int} [IsFld q] {n0:Int} {nl nr:Nat} {b:Bool} {t:Tree} {k:FuncId} {N:List (List (El q))} {g:List (El q)→List (El q)} {fg:List (El q)→Nat} {n':Nat}
theorem ll6(hk: ∀r∈N,∀bl nr,o24 W k [.fz bl (.sl nr 0 1 (ivs (vs r))), .fz b t] []=some (.own 0 [],[.sl (fg r) 3 1 (ivs (vs (g r)))],[]))(hM:vM k=[])(hl:N.length≤1000){T6:Tree}: ∀(d i:Nat),i+d=N.length→ ∀ks,
 vgoL W ⟨hNo,[(.cell 6 true 3), .tmp 7],0⟩ [2,6,8,16,17,18] c77L0 (.blk 0 [6,8]::ks) [(2, .fn k [.fz b t]),(6, .own 0 []),(8, .own 1 []),(16, .fz true (.sl nl 0 1 (lvs nr (N.map vs)))),(17, .x (.int .i64 N.length)),(18, .x (.int .i64 i))] [T6, .pt 24 [.v (.int .i64 q), .v (.int .i64 n'), .sl 2 25 1 (lls 2 (((N.map g).take i).map vs))]]=
  vgo W ⟨hNo,[(.cell 6 true 3), .tmp 7],0⟩ ks (VFr.of [(6, .own 0 []),(8, .own 1 [])]) [T6, .pt 24 [.v (.int .i64 q), .v (.int .i64 n'), .sl 2 25 1 (lls 2 ((N.map g).map vs))]]
 |0,i,hi,ks=>by
  rw[List.take_of_length_le (by simp;omega),sb5 c77L0.eq_def]
  simp(disch:=first|omega|fail) only[push_cast,seval,vrl,if_pos,if_neg]
 |d+1,i,hi,ks=>by
  have ih:=ll6 hk hM hl (T6:=T6) d (i+1) (by omega) ks
  obtain⟨r,hr⟩:=ge6 (l:=N) (i:=i) (by omega)
  have h0:=lat (nl:=nr) (show(N.map vs)[i]? =some (vs r) by rw[List.getElem?_map,hr];rfl)
  have hkr:=hk r (List.mem_of_getElem? hr)
  have hg:(N.map g)[i]? =some (g r):=by rw[List.getElem?_map,hr];rfl
  have hlt:(List.take i (List.map g N)).length=i:=by simp;omega
  rw[Int.natCast_add,Int.natCast_one,List.take_add_one,hg,Option.toList_some]at ih
  rw[←ih,sb5 c77L0.eq_def]
  simp(disch:=first|omega|fail) only[push_cast,seval,vrl,if_pos,if_neg,h0,hkr,hM,df0,List.length_map,hlt]
theorem zk5{r:List (El q)}{N':List (List (El q))}(hN:N=r::N')(hk: ∀r∈N,∀bl nr,o24 W k [.fz bl (.sl nr 0 1 (ivs (vs r))), .fz b t] []=some (.own 0 [],[.sl (fg r) 3 1 (ivs (vs (g r)))],[]))(hM:vM k=[])(hl:N.length≤1000){T6:Tree}(ks):
 vgoL W ⟨hNo,[(.cell 6 true 3), .tmp 7],0⟩ [2,6,8,16,17,18] c77L0 (.blk 0 [6,8]::ks) [(2, .fn k [.fz b t]),(6, .own 0 []),(8, .own 1 []),(16, .fz true (.sl nl 0 1 (lvs nr (N.map vs)))),(17, .x (.int .i64 N.length)),(18, .x (.int .i64 0))] [T6, .pt 24 [.v (.int .i64 q), .v (.int .i64 n'), .v (.slice none 0 0)]]=
  vgo W ⟨hNo,[(.cell 6 true 3), .tmp 7],0⟩ ks (VFr.of [(6, .own 0 []),(8, .own 1 [])]) [T6, .pt 24 [.v (.int .i64 q), .v (.int .i64 n'), .sl 2 25 1 (lls 2 ((N.map g).map vs))]]:=by
 have hln:N.length=N'.length+1:=by rw[hN];rfl
 have ih:=ll6 (nl:=nl) (nr:=nr) (n':=n') hk hM hl (T6:=T6) N'.length 1 (by omega) ks
 have h0:=lat (nl:=nr) (show(N.map vs)[0]? =some (vs r) by rw[hN];rfl)
 have hkr:=hk r (by rw[hN];simp)
 have hg:lls 2 (((N.map g).take 1).map vs)=[.sl 2 3 1 (ivs (vs (g r)))]:=by rw[hN];rfl
 rw[hg,Int.natCast_one]at ih
 rw[←ih,sb5 c77L0.eq_def]
 simp(disch:=first|omega|fail) only[push_cast,seval,vrl,if_pos,if_neg,h0,hkr,hM]
theorem iw4(hk: ∀r∈N,∀bl nr,o24 W k [.fz bl (.sl nr 0 1 (ivs (vs r))), .fz b t] []=some (.own 0 [],[.sl (fg r) 3 1 (ivs (vs (g r)))],[]))(hM:vM k=[])(hl:N.length≤64)(h0:0<n')(hn:n'≤64)(hg: ∀r∈N,(g r).length=n'):
 o24 W 77 [.agg [.x (.int .i64 q), .x (.int .i64 n0), .fz true (.sl nl 0 1 (lvs nr (N.map vs)))], .x (.int .i64 n'), .fn k [.fz b t]] []=some (.tup [.agg [.x (.int .i64 q), .x (.int .i64 n'), .own 0 []], .x (.int .i64 0)],[.sl 2 25 1 (lls 2 (pvR (redR (N.map g))))],[]):=by
 have hr: ∀r∈N.map g,r.length=n':=fun r hr=>by
  obtain⟨x,hx,rfl⟩:=List.mem_map.1 hr
  exact hg x hx
 have hgl:(N.map g).length≤64:=by simp;omega
 have hC:=tc0 (q:=q) h0 hn hgl hr (sy6 hgl hr h0 hn)
 have e1:=fun nl nr=>ob1 (nl:=nl) (nr:=nr) hC h0 hn hgl hr
 have l1:(N.map vs).length=N.length:=List.length_map _
 cases hN:N with
 |nil=>
  subst hN
  have e1:=fun nl=>e1 nl 0
  simp only[List.map_nil,em1]at e1
  rw[List.map_nil,em1,List.map_nil,o10 rfl T77 rfl]
  unfold F77 c77
  simp(disch:=first|omega|fail) only[push_cast,seval,vrl,if_pos,if_neg]
  rw[sb5 c77L0.eq_def]
  simp(disch:=first|omega|fail) only[push_cast,seval,vrl,if_pos,if_neg,e1]
 |cons r N'=>
  have e:=fun T6 ks=>zk5 (n':=n') (nl:=nl) (nr:=nr) (T6:=T6) hN hk hM (by omega) ks
  rw[←hN,o10 rfl T77 rfl]
  unfold F77 c77
  simp(disch:=first|omega|fail) only[push_cast,seval,vrl,if_pos,if_neg,l1]
  rw[e]
  simp(disch:=first|omega|fail) only[push_cast,seval,vrl,if_pos,if_neg,e1]
end
section
variable {q n:Int} {nl nr:Nat} {M:List (List Int)} {a:Int}
def atE(q n:Int)(M:List (List Int))(a:Int):Int:=if gi9 q n M=0 then(if 0≤a∧a<n then(if n=1 then 4 else 0)else 10)else gi9 q n M
theorem ls0:o24 W 76 [.agg [.x (.int .i64 q), .x (.int .i64 n), .fz true (.sl nl 0 1 (lvs nr M))], .x (.int .i64 a)] []=some (.x (.int .i64 (atE q n M a)),[],[]):=by
 have e1:=fun nl nr=>um1 (q:=q) (n:=n) (M:=M) (nl:=nl) (nr:=nr)
 unfold atE
 rw[o10 rfl T76 rfl]
 unfold F76 c76
 by_cases h1:gi9 q n M=0
 ·rw[if_pos h1]
  by_cases h2:0≤a
  ·by_cases h3:a<n
   ·rw[if_pos ⟨h2,h3⟩]
    by_cases h4:n=1
    ·rw[if_pos h4]
     simp(disch:=first|omega|fail) only[push_cast,seval,vrl,if_pos,if_neg,e1,h1,cw6 h2,qc6 h3,mr8 h4]
    ·rw[if_neg h4]
     simp(disch:=first|omega|fail) only[push_cast,seval,vrl,if_pos,if_neg,e1,h1,cw6 h2,qc6 h3,nb8 h4]
   ·rw[if_neg fun h=>h3 h.2]
    simp(disch:=first|omega|fail) only[push_cast,seval,vrl,if_pos,if_neg,e1,h1,cw6 h2,nl5 (Int.not_lt.1 h3)]
  ·rw[if_neg fun h=>h2 h.1]
   simp(disch:=first|omega|fail) only[push_cast,seval,vrl,if_pos,if_neg,e1,h1,dec_lt (Int.not_le.1 h2)]
 ·rw[if_neg h1]
  simp(disch:=first|omega|fail) only[push_cast,seval,vrl,if_pos,if_neg,e1,nb8 h1]
theorem fv1(he: ¬atE q n M a=0):o24 W 38 [.agg [.x (.int .i64 q), .x (.int .i64 n), .fz true (.sl nl 0 1 (lvs nr M))], .x (.int .i64 a)] []=some (.tup [.agg [.x (.int .i64 0), .x (.int .i64 0), .x (.slice none 0 0)], .x (.int .i64 (atE q n M a))],[],[]):=by
 have e1:=fun nl nr=>ls0 (q:=q) (n:=n) (M:=M) (nl:=nl) (nr:=nr) (a:=a)
 rw[o10 rfl T38 rfl]
 unfold F38 c38
 simp(disch:=first|omega|fail) only[push_cast,seval,vrl,if_pos,if_neg,e1,nb8 he]
theorem gt7(he: ¬atE q n M a=0):o24 W 39 [.agg [.x (.int .i64 q), .x (.int .i64 n), .fz true (.sl nl 0 1 (lvs nr M))], .x (.int .i64 a)] []=some (.tup [.agg [.x (.int .i64 0), .x (.int .i64 0), .x (.slice none 0 0)], .x (.int .i64 (atE q n M a))],[],[]):=by
 have e1:=fun nl nr=>ls0 (q:=q) (n:=n) (M:=M) (nl:=nl) (nr:=nr) (a:=a)
 rw[o10 rfl T39 rfl]
 unfold F39 c39
 simp(disch:=first|omega|fail) only[push_cast,seval,vrl,if_pos,if_neg,e1,nb8 he]
def extE(q n:Int)(M:List (List Int)):Int:=if gi9 q n M=0 then(if n=64 then 4 else 0)else gi9 q n M
theorem da4(he: ¬extE q n M=0):o24 W 40 [.agg [.x (.int .i64 q), .x (.int .i64 n), .fz true (.sl nl 0 1 (lvs nr M))]] []=some (.tup [.agg [.x (.int .i64 0), .x (.int .i64 0), .x (.slice none 0 0)], .x (.int .i64 (extE q n M))],[],[]):=by
 have e1:=fun nl nr=>um1 (q:=q) (n:=n) (M:=M) (nl:=nl) (nr:=nr)
 unfold extE at he⊢
 rw[o10 rfl T40 rfl]
 unfold F40 c40
 by_cases h1:gi9 q n M=0
 ·rw[if_pos h1]at he⊢
  by_cases h2:n=64
  ·rw[if_pos h2]
   simp(disch:=first|omega|fail) only[push_cast,seval,vrl,if_pos,if_neg,e1,h1,mr8 h2]
  ·rw[if_neg h2]at he;exact absurd rfl he
 ·rw[if_neg h1]
  simp(disch:=first|omega|fail) only[push_cast,seval,vrl,if_pos,if_neg,e1,nb8 h1]
end
section
variable {q:Int} [IsFld q] {k nl nr:Nat} {N:List (List (El q))} {a:Nat}
theorem ph9(r:List (El q))(a:Nat):(vs r).take a++(vs r).drop (a+1)=vs (r.eraseIdx a):=by
 unfold vs
 rw[List.eraseIdx_eq_take_drop_succ,List.map_append,List.map_take,List.map_drop]
theorem gm2{r:List (El q)}(h:0<r.length):nlT (vs r)=0:=by cases r with
 |nil=>cases h
 |cons x r=>rfl
theorem vcpf{r:List (El q)}(ha:a<r.length)(hl:r.length≤1000){bl b:Bool}{nr e:Nat}:
 o24 W 78 [.fz bl (.sl nr 0 1 (ivs (vs r))), .fz b (.pt e [.v (.int .i64 a)])] []=some (.own 0 [],[.sl 0 3 1 (ivs (vs (r.eraseIdx a)))],[]):=by
 have hv:=fi2 r
 have h1:nlT (vs r)=0:=gm2 (by omega)
 have e1:=fun b nl=>h18 (b:=b) (nl:=nl) (zs:=vs r) (by omega)
 have e2:=fun nl=>bc7 (nl:=nl) (zs:=vs r) (I:=a) (J:=a+1) (by omega) (by omega) (by omega)
 simp only[ph9,Int.natCast_add,Int.natCast_one]at e2
 rw[o10 rfl T78 rfl]
 unfold F78 c78
 simp(disch:=first|omega|fail) only[push_cast,seval,vrl,if_pos,if_neg,e1,h1,e2]
theorem b22(he:gi9 q k (N.map vs)=0)(h1:1<k)(hk:k≤64)(ha:a<k)(hl:N.length≤64)(hr: ∀r∈N,r.length=k):
 o24 W 38 [.agg [.x (.int .i64 q), .x (.int .i64 k), .fz true (.sl nl 0 1 (lvs nr (N.map vs)))], .x (.int .i64 a)] []=some (.tup [.agg [.x (.int .i64 q), .x (.int .i64 ((k:Int)-1)), .own 0 []], .x (.int .i64 0)],[.sl 2 25 1 (lls 2 (pvR (redR (N.map fun r=>r.eraseIdx a))))],[]):=by
 have e1:=fun nl nr=>ls0 (q:=q) (n:=k) (M:=N.map vs) (nl:=nl) (nr:=nr) (a:=a)
 unfold atE at e1
 simp only[he,if_true,if_pos (show 0≤(a:Int)∧(a:Int)<(k:Int) by omega),if_neg (show¬(k:Int)=1 by omega)]at e1
 have e2:=fun n0 nl nr b e=>iw4 (n0:=n0) (nl:=nl) (nr:=nr) (b:=b) (t:= .pt e [.v (.int .i64 a)]) (k:=78) (N:=N) (g:=fun r=>r.eraseIdx a) (fg:=fun _=>0) (n':=k-1) (fun r hr' bl nr=>vcpf (by rw[hr r hr'];exact ha) (by rw[hr r hr'];omega)) rfl hl (by omega) (by omega) (fun r hr'=>by rw[List.length_eraseIdx,hr r hr',if_pos ha])
 simp only[Int.natCast_sub (show 1≤k by omega),Int.natCast_one]at e2
 rw[o10 rfl T38 rfl]
 unfold F38 c38
 simp(disch:=first|omega|fail) only[push_cast,seval,vrl,if_pos,if_neg,e1,e2]
theorem bg7(he:gi9 q k (N.map vs)=0)(h1:1<k)(hk:k≤64)(ha:a<k)(hl:N.length≤64)(hr: ∀r∈N,r.length=k):
 o24 W 39 [.agg [.x (.int .i64 q), .x (.int .i64 k), .fz true (.sl nl 0 1 (lvs nr (N.map vs)))], .x (.int .i64 a)] []=some (.tup [.agg [.x (.int .i64 q), .x (.int .i64 ((k:Int)-1)), .own 0 []], .x (.int .i64 0)],[.sl 2 25 1 (lls 2 (pvR (redR ((shL a none N).map fun r=>r.eraseIdx a))))],[]):=by
 have e1:=fun nl nr=>ls0 (q:=q) (n:=k) (M:=N.map vs) (nl:=nl) (nr:=nr) (a:=a)
 unfold atE at e1
 simp only[he,if_true,if_pos (show 0≤(a:Int)∧(a:Int)<(k:Int) by omega),if_neg (show¬(k:Int)=1 by omega)]at e1
 have e2:=fun nl nr=>x92 (nl:=nl) (nr:=nr) he (by omega) hk hl hr
 obtain⟨b1,b2,b3,b4⟩:=sw1 hr
 have hD:(p78 (zt5 k N)).length≤64:=by rw[gb3];omega
 have hC:=tc0 (q:=q) (k:=k) (by omega) hk hD (zu4 b2) (sy6 hD (zu4 b2) (by omega) hk)
 have e3:=fun nl nr=>b22 (nl:=nl) (nr:=nr) hC h1 hk ha hD (zu4 b2)
 rw[←lo1]at e3
 have hX:=jj1 ha (zu4 b2)
 obtain⟨c1,c2,c3⟩:=bi2 hX
 have hR:=ew4 hX
 have hXl:(p78 (redR ((p78 (zt5 k N)).map fun r=>r.eraseIdx a))).length≤64:=by rw[gb3];simp at hR;omega
 have hC2:=tc0 (q:=q) (k:=k-1) (by omega) (by omega) hXl (zu4 c2) (sy6 hXl (zu4 c2) (by omega) (by omega))
 have e4:=fun nl nr=>x92 (nl:=nl) (nr:=nr) hC2 (by omega) (by omega) hXl (zu4 c2)
 rw[cx8 hX,zt9 ha hr,←lo1]at e4
 simp only[Int.natCast_sub (show 1≤k by omega),Int.natCast_one]at e4
 rw[o10 rfl T39 rfl]
 unfold F39 c39
 simp(disch:=first|omega|fail) only[push_cast,seval,vrl,if_pos,if_neg,e1,e2,e3,e4]
theorem uf8(r:List (El q)){i:Nat}(h:i<r.length):(r.take (i+1)).foldl (fun s v=>s-v) (0:El q)=(r.take i).foldl (fun s v=>s-v) 0-wf r i:=by
 rw[List.take_succ_eq_append_getElem h,List.foldl_append,i66 h];rfl
theorem qy8{r:List (El q)}(hl:r.length≤1000){bl b:Bool}{nr e:Nat}: ∀(d i:Nat),i+d=r.length→ ∀ks,
 vgoL W ⟨h81,[.tmp 3],0⟩ [0,1,4,7,8,9] c81L0 (.blk 0 [0,4]::ks) [(0, .fz bl (.sl nr 0 1 (ivs (vs r)))),(1, .fz b (.pt e [pF q])),(4, .x (.int .i64 (((r.take i).foldl (fun s v=>s-v) (0:El q)).v))),(7, .fz bl (.sl nr 0 1 (ivs (vs r)))),(8, .x (.int .i64 r.length)),(9, .x (.int .i64 i))] []=
  vgo W ⟨h81,[.tmp 3],0⟩ ks (VFr.of [(0, .fz bl (.sl nr 0 1 (ivs (vs r)))),(4, .x (.int .i64 ((nsum r).v)))]) []
 |0,i,hi,ks=>by
  rw[List.take_of_length_le (by omega),sb5 c81L0.eq_def]
  unfold nsum
  simp(disch:=first|omega|fail) only[push_cast,seval,vrl,if_pos,if_neg]
 |d+1,i,hi,ks=>by
  have ih:=qy8 hl (bl:=bl) (b:=b) (nr:=nr) (e:=e) d (i+1) (by omega) ks
  have h1:=iva (l:=r) (i:=i) (by omega)
  rw[Int.natCast_add,Int.natCast_one,uf8 r (by omega),bq9]at ih
  rw[←ih,sb5 c81L0.eq_def]
  simp(disch:=first|omega|fail) only[push_cast,seval,vrl,if_pos,if_neg,h1]
theorem vcxf{r:List (El q)}(h0:0<r.length)(hl:r.length≤1000){bl b:Bool}{nr e:Nat}:
 o24 W 81 [.fz bl (.sl nr 0 1 (ivs (vs r))), .fz b (.pt e [pF q])] []=some (.own 0 [],[.sl 0 3 1 (ivs (vs (extL r)))],[]):=by
 have e1:=fun ks=>qy8 hl (bl:=bl) (b:=b) (nr:=nr) (e:=e) r.length 0 (by omega) ks
 simp only[Int.natCast_zero,List.take_zero,List.drop_zero,rp2,lz6,x25,List.map_nil,List.length_nil]at e1
 rw[List.foldl_nil,hc8]at e1
 have hv:=fi2 r
 have h1:nlT (vs r)=0:=gm2 (by omega)
 have e2:=fun b nl=>h18 (b:=b) (nl:=nl) (zs:=vs r) (by omega)
 rw[o10 rfl T81 rfl]
 unfold F81 c81
 simp(disch:=first|omega|fail) only[push_cast,seval,vrl,if_pos,if_neg,hv]
 rw[e1]
 unfold extL
 rw[gq8,e55,rp2]
 simp(disch:=first|omega|fail) only[push_cast,seval,vrl,if_pos,if_neg,e2,h1]
theorem tw5(he:gi9 q k (N.map vs)=0)(h0:0<k)(hk:k<64)(hl:N.length≤64)(hr: ∀r∈N,r.length=k):
 o24 W 40 [.agg [.x (.int .i64 q), .x (.int .i64 k), .fz true (.sl nl 0 1 (lvs nr (N.map vs)))]] []=some (.tup [.agg [.x (.int .i64 q), .x (.int .i64 ((k:Int)+1)), .own 0 []], .x (.int .i64 0)],[.sl 2 25 1 (lls 2 (pvR (redR (N.map extL))))],[]):=by
 have e1:=fun nl nr=>um1 (q:=q) (n:=k) (M:=N.map vs) (nl:=nl) (nr:=nr)
 simp only[he]at e1
 have e2:=fun n0 nl nr b e=>iw4 (n0:=n0) (nl:=nl) (nr:=nr) (b:=b) (t:= .pt e [pF q]) (k:=81) (N:=N) (g:=extL) (fg:=fun _=>0) (n':=k+1) (fun r hr' bl nr=>vcxf (by rw[hr r hr'];exact h0) (by rw[hr r hr'];omega)) rfl hl (by omega) (by omega) (fun r hr'=>by rw[x19,hr r hr'])
 simp only[Int.natCast_add,Int.natCast_one]at e2
 rw[o10 rfl T40 rfl]
 unfold F40 c40
 simp(disch:=first|omega|fail) only[push_cast,seval,vrl,if_pos,if_neg,e1,nb8 (show¬(k:Int)=64 by omega),e2]
end
def wtW:List Int→Nat
 | []=>0
 |x::a=>(if x=0 then 0 else 1)+wtW a
def apW:List Int→List Int→Nat
 |x::a,y::c=>(if x=y then 0 else 1)+apW a c
 |_,_=>0
section
variable {a c:List Int} {b b':Bool} {nl nl':Nat}
theorem mu5(ha:a.length≤9223372036854775807): ∀(d i n:Nat),i+d=a.length→n≤i→ ∀ks,
 vgoL W ⟨hNo,[.tmp 2],0⟩ [3,6,7,8] c12L0 (.blk 0 [3]::ks) [(3, .x (.int .i64 n)),(6, .fz b (.sl nl 0 1 (ivs a))),(7, .x (.int .i64 a.length)),(8, .x (.int .i64 i))] []=vgo W ⟨hNo,[.tmp 2],0⟩ ks (VFr.of [(3, .x (.int .i64 (n+wtW (a.drop i):Nat)))]) []
 |0,i,n,hi,hn,ks=>by
  rw[oh9 (by omega),sb5 c12L0.eq_def]
  show _=vgo W ⟨hNo,[.tmp 2],0⟩ ks (VFr.of [(3, .x (.int .i64 (n+0:Nat)))]) []
  rw[Nat.add_zero]
  simp(disch:=first|omega|fail) only[push_cast,seval,vrl,if_pos,if_neg]
 |d+1,i,n,hi,hn,ks=>by
  obtain⟨x,hx⟩:=ge6 (l:=a) (i:=i) (by omega)
  have h1:=iat hx
  have ih:=mu5 ha d (i+1) (n+if x=0 then 0 else 1) (by omega) (by split<;>omega) ks
  rw[i62 hx,wtW]
  rw[Nat.add_assoc]at ih
  rw[←ih,sb5 c12L0.eq_def]
  by_cases h:x=0
  ·rw[if_pos h,Nat.add_zero,Int.natCast_add,Int.natCast_one]
   simp(disch:=first|omega|fail) only[push_cast,seval,vrl,if_pos,if_neg,h1,h]
  ·rw[if_neg h,Int.natCast_add,Int.natCast_one,Int.natCast_add,Int.natCast_one]
   simp(disch:=first|omega|fail) only[push_cast,seval,vrl,if_pos,if_neg,h1,nb8 h]
theorem fd2(ha:a.length≤9223372036854775807):o24 W 12 [.fz b (.sl nl 0 1 (ivs a))] []=some (.x (.int .i64 (wtW a)),[],[]):=by
 have e:=fun ks=>mu5 (b:=b) (nl:=nl) ha a.length 0 0 (by omega) (by omega) ks
 rw[List.drop_zero,Nat.zero_add]at e
 simp only[Int.natCast_zero]at e
 rw[o10 rfl T12 rfl]
 unfold F12 c12
 simp(disch:=first|omega|fail) only[push_cast,seval,vrl,if_pos,if_neg]
 rw[e]
 simp(disch:=first|omega|fail) only[push_cast,seval,vrl,if_pos,if_neg]
theorem gg3(ha:a.length≤9223372036854775807): ∀(d i n:Nat),i+d=a.length→n≤i→ ∀ks,
 vgoL W ⟨hNo,[.tmp 2],0⟩ [0,3,4] c13L0 (.blk 0 [3]::ks) [(0, .fz b (.sl nl 0 1 (ivs a))),(3, .x (.int .i64 n)),(4, .x (.int .i64 i))] []=vgo W ⟨hNo,[.tmp 2],0⟩ ks (VFr.of [(3, .x (.int .i64 (n+wtW (a.drop i):Nat)))]) []
 |0,i,n,hi,hn,ks=>by
  rw[oh9 (by omega),sb5 c13L0.eq_def]
  show _=vgo W ⟨hNo,[.tmp 2],0⟩ ks (VFr.of [(3, .x (.int .i64 (n+0:Nat)))]) []
  rw[Nat.add_zero]
  simp(disch:=first|omega|fail) only[push_cast,seval,vrl,if_pos,if_neg]
 |d+1,i,n,hi,hn,ks=>by
  obtain⟨x,hx⟩:=ge6 (l:=a) (i:=i) (by omega)
  have h1:=iat hx
  have ih:=gg3 ha d (i+1) (n+if x=0 then 0 else 1) (by omega) (by split<;>omega) ks
  rw[i62 hx,wtW]
  rw[Nat.add_assoc]at ih
  rw[←ih,sb5 c13L0.eq_def]
  by_cases h:x=0
  ·rw[if_pos h,Nat.add_zero,Int.natCast_add,Int.natCast_one]
   simp(disch:=first|omega|fail) only[push_cast,seval,vrl,if_pos,if_neg,h1,h]
  ·rw[if_neg h,Int.natCast_add,Int.natCast_one,Int.natCast_add,Int.natCast_one]
   simp(disch:=first|omega|fail) only[push_cast,seval,vrl,if_pos,if_neg,h1,nb8 h]
theorem ta9(ha:a.length≤9223372036854775807):o24 W 13 [.fz b (.sl nl 0 1 (ivs a))] []=some (.x (.int .i64 (wtW a)),[],[]):=by
 have e:=fun ks=>gg3 (b:=b) (nl:=nl) ha a.length 0 0 (by omega) (by omega) ks
 rw[List.drop_zero,Nat.zero_add]at e
 simp only[Int.natCast_zero]at e
 rw[o10 rfl T13 rfl]
 unfold F13 c13
 simp(disch:=first|omega|fail) only[push_cast,seval,vrl,if_pos,if_neg]
 rw[e]
 simp(disch:=first|omega|fail) only[push_cast,seval,vrl,if_pos,if_neg]
theorem vu0(hc:c.length=a.length)(ha:a.length≤9223372036854775807): ∀(d i n:Nat),i+d=a.length→n≤i→ ∀ks,
 vgoL W ⟨hNo,[.tmp 4],0⟩ [0,1,5,13,14] c14L0 (.blk 0 [5]::ks) [(0, .fz b (.sl nl 0 1 (ivs a))),(1, .fz b' (.sl nl' 0 1 (ivs c))),(5, .x (.int .i64 n)),(13, .x (.int .i64 a.length)),(14, .x (.int .i64 i))] []=
  vgo W ⟨hNo,[.tmp 4],0⟩ ks (VFr.of [(5, .x (.int .i64 (n+apW (a.drop i) (c.drop i):Nat)))]) []
 |0,i,n,hi,hn,ks=>by
  rw[oh9 (by omega),sb5 c14L0.eq_def]
  show _=vgo W ⟨hNo,[.tmp 4],0⟩ ks (VFr.of [(5, .x (.int .i64 (n+0:Nat)))]) []
  rw[Nat.add_zero]
  simp(disch:=first|omega|fail) only[push_cast,seval,vrl,if_pos,if_neg]
 |d+1,i,n,hi,hn,ks=>by
  obtain⟨x,hx⟩:=ge6 (l:=a) (i:=i) (by omega)
  obtain⟨y,hy⟩:=ge6 (l:=c) (i:=i) (by omega)
  have h1:=iat hx
  have h2:=iat hy
  have ih:=vu0 hc ha d (i+1) (n+if x=y then 0 else 1) (by omega) (by split<;>omega) ks
  rw[i62 hx,i62 hy,apW]
  rw[Nat.add_assoc]at ih
  rw[←ih,sb5 c14L0.eq_def]
  by_cases h:x=y
  ·rw[if_pos h,Nat.add_zero,Int.natCast_add,Int.natCast_one]
   simp(disch:=first|omega|fail) only[push_cast,seval,vrl,if_pos,if_neg,h1,h2,h]
  ·rw[if_neg h,Int.natCast_add,Int.natCast_one,Int.natCast_add,Int.natCast_one]
   simp(disch:=first|omega|fail) only[push_cast,seval,vrl,if_pos,if_neg,h1,h2,nb8 h]
def apE(a c:List Int):Int:=if a.length=c.length then(apW a c:Int)else-1
theorem w74(ha:a.length≤9223372036854775807)(hcl:c.length≤9223372036854775807):o24 W 14 [.fz b (.sl nl 0 1 (ivs a)), .fz b' (.sl nl' 0 1 (ivs c))] []=some (.x (.int .i64 (apE a c)),[],[]):=by
 unfold apE
 by_cases h:a.length=c.length
 ·rw[if_pos h]
  have e:=fun ks=>vu0 (b:=b) (nl:=nl) (b':=b') (nl':=nl') h.symm ha a.length 0 0 (by omega) (by omega) ks
  rw[List.drop_zero,List.drop_zero,Nat.zero_add]at e
  simp only[Int.natCast_zero]at e
  rw[o10 rfl T14 rfl]
  unfold F14 c14
  simp(disch:=first|omega|fail) only[push_cast,seval,vrl,if_pos,if_neg,h]
  rw[h]at e
  rw[e]
  simp(disch:=first|omega|fail) only[push_cast,seval,vrl,if_pos,if_neg]
 ·rw[if_neg h]
  have h': ¬(a.length:Int)=(c.length:Int):=by omega
  rw[o10 rfl T14 rfl]
  unfold F14 c14
  simp(disch:=first|omega|fail) only[push_cast,seval,vrl,if_pos,if_neg,nb8 h']
theorem mn8(hc:c.length=a.length)(ha:a.length≤9223372036854775807): ∀(d i n:Nat),i+d=a.length→n≤i→ ∀ks,
 vgoL W ⟨hNo,[.tmp 4],0⟩ [0,1,5,6] c15L0 (.blk 0 [5]::ks) [(0, .fz b (.sl nl 0 1 (ivs a))),(1, .fz b' (.sl nl' 0 1 (ivs c))),(5, .x (.int .i64 n)),(6, .x (.int .i64 i))] []=
  vgo W ⟨hNo,[.tmp 4],0⟩ ks (VFr.of [(5, .x (.int .i64 (n+apW (a.drop i) (c.drop i):Nat)))]) []
 |0,i,n,hi,hn,ks=>by
  rw[oh9 (by omega),sb5 c15L0.eq_def]
  show _=vgo W ⟨hNo,[.tmp 4],0⟩ ks (VFr.of [(5, .x (.int .i64 (n+0:Nat)))]) []
  rw[Nat.add_zero]
  simp(disch:=first|omega|fail) only[push_cast,seval,vrl,if_pos,if_neg]
 |d+1,i,n,hi,hn,ks=>by
  obtain⟨x,hx⟩:=ge6 (l:=a) (i:=i) (by omega)
  obtain⟨y,hy⟩:=ge6 (l:=c) (i:=i) (by omega)
  have h1:=iat hx
  have h2:=iat hy
  have ih:=mn8 hc ha d (i+1) (n+if x=y then 0 else 1) (by omega) (by split<;>omega) ks
  rw[i62 hx,i62 hy,apW]
  rw[Nat.add_assoc]at ih
  rw[←ih,sb5 c15L0.eq_def]
  by_cases h:x=y
  ·rw[if_pos h,Nat.add_zero,Int.natCast_add,Int.natCast_one]
   simp(disch:=first|omega|fail) only[push_cast,seval,vrl,if_pos,if_neg,h1,h2,h]
  ·rw[if_neg h,Int.natCast_add,Int.natCast_one,Int.natCast_add,Int.natCast_one]
   simp(disch:=first|omega|fail) only[push_cast,seval,vrl,if_pos,if_neg,h1,h2,nb8 h]
theorem vg3(ha:a.length≤9223372036854775807)(hcl:c.length≤9223372036854775807):o24 W 15 [.fz b (.sl nl 0 1 (ivs a)), .fz b' (.sl nl' 0 1 (ivs c))] []=some (.x (.int .i64 (apE a c)),[],[]):=by
 unfold apE
 by_cases h:a.length=c.length
 ·rw[if_pos h]
  have e:=fun ks=>mn8 (b:=b) (nl:=nl) (b':=b') (nl':=nl') h.symm ha a.length 0 0 (by omega) (by omega) ks
  rw[List.drop_zero,List.drop_zero,Nat.zero_add]at e
  simp only[Int.natCast_zero]at e
  rw[o10 rfl T15 rfl]
  unfold F15 c15
  simp(disch:=first|omega|fail) only[push_cast,seval,vrl,if_pos,if_neg,h]
  rw[e]
  simp(disch:=first|omega|fail) only[push_cast,seval,vrl,if_pos,if_neg]
 ·rw[if_neg h]
  have h': ¬(a.length:Int)=(c.length:Int):=by omega
  rw[o10 rfl T15 rfl]
  unfold F15 c15
  simp(disch:=first|omega|fail) only[push_cast,seval,vrl,if_pos,if_neg,nb8 h']
end
section
variable {q:Int} [IsFld q] {k nl nr nl2:Nat} {b:Bool}
theorem b00{K:Type} [FK K](w:List K)(d j:Nat)(x:List K)(h:j+d≤x.length):mac 0 w d j x=x:=ou9 (ev4 _ _ _ _ _) (by
 funext i
 rw[ga7 _ _ _ _ _ _ h,zero_mul,FK.add_zero]
 split<;>rfl)
theorem cl1{p m g:Int}{t:Tree}(u:RFo q p m g t){i:Nat}{ms r:List (El q)}{R:List (List (El q))}(hi:i<ms.length)(hne:wf ms i≠0)(hR:R[i]? =some r)(hm:ms.length≤1000)(hr:r.length=k)(hk:k≤1000): ∀(d j:Nat) (x:List (El q)),j+d=k→x.length=k→ ∀ks,
 vgoL W ⟨hNo,[.tmp 6],0⟩ [2,3,4,7,8,9] c28L0 (.blk 2 [2,3,4,7,8]::ks) [(2, .fz b (.sl nl2 0 1 (ivs (vs ms)))),(3, .own 0 []),(4, .own 1 []),(7, .own 2 []),(8, .x (.int .i64 i)),(9, .x (.int .i64 j))] [.pt 39 [.v (.int .i64 q), .v (.int .i64 p), .v (.int .i64 m), .v (.int .i64 g), .fz t], .pt 24 [.v (.int .i64 q), .v (.int .i64 k), .fz (.sl nl 0 1 (lvs nr (R.map vs)))], .sl 0 3 1 (ivs (vs x))]=
  vgo W ⟨hNo,[.tmp 6],0⟩ ks (VFr.of [(2, .fz b (.sl nl2 0 1 (ivs (vs ms)))),(3, .own 0 []),(4, .own 1 []),(7, .own 2 []),(8, .x (.int .i64 i))]) [.pt 39 [.v (.int .i64 q), .v (.int .i64 p), .v (.int .i64 m), .v (.int .i64 g), .fz t], .pt 24 [.v (.int .i64 q), .v (.int .i64 k), .fz (.sl nl 0 1 (lvs nr (R.map vs)))], .sl 0 3 1 (ivs (vs (mac (wf ms i) r d j x)))]
 |0,j,x,hj,hx,ks=>by
  rw[mac,sb5 c28L0.eq_def]
  simp(disch:=first|omega|fail) only[push_cast,seval,vrl,if_pos,if_neg]
 |d+1,j,x,hj,hx,ks=>by
  have ih:=cl1 u (i:=i) (ms:=ms) hi hne hR hm hr hk d (j+1) (x.set j (wf x j+wf ms i*wf r j)) (by omega) (by rw[List.length_set];exact hx) ks
  have h1:=iva (l:=ms) (i:=i) (by omega)
  have h2:=iva (l:=r) (i:=j) (by omega)
  have h3:=iva (l:=x) (i:=j) (by omega)
  have h4:=mva (nl:=nr) hR
  have hn0: ¬(wf ms i).v=0:=fun h=>hne (r57.1 h)
  have hRl:i<R.length:=(List.getElem?_eq_some_iff.1 hR).1
  rw[Int.natCast_add,Int.natCast_one,←g52,on0,ym6]at ih
  have ht:=u.n
  have ho:=u.o
  have vmul:=fun x y:Int=>n06 (q:=q) (x:=x) (y:=y)
  rw[u.e]at vmul
  have vadd:=fun x y:Int=>ze0 (q:=q) (x:=x) (y:=y)
  rw[u.e]at vadd
  rw[mac,←ih,sb5 c28L0.eq_def]
  simp(disch:=first|omega|fail) only[push_cast,seval,vrl,if_pos,if_neg,h1,h2,h3,h4,nb8 hn0,vmul,vadd,ht,ho]
theorem dy0{p m g:Int}{t:Tree}(u:RFo q p m g t){i:Nat}{ms r:List (El q)}{R:List (List (El q))}(hi:i<ms.length)(hR:R[i]? =some r)(hm:ms.length≤1000)(hr:r.length=k)(h0:0<k)(hk:k≤1000)(x:List (El q))(hx:x.length=k)(ks):
 vgoL W ⟨hNo,[.tmp 6],0⟩ [2,3,4,7,8,9] c28L0 (.blk 2 [2,3,4,7,8]::ks) [(2, .fz b (.sl nl2 0 1 (ivs (vs ms)))),(3, .own 0 []),(4, .own 1 []),(7, .own 2 []),(8, .x (.int .i64 i)),(9, .x (.int .i64 0))] [.pt 39 [.v (.int .i64 q), .v (.int .i64 p), .v (.int .i64 m), .v (.int .i64 g), .fz t], .pt 24 [.v (.int .i64 q), .v (.int .i64 k), .fz (.sl nl 0 1 (lvs nr (R.map vs)))], .sl 0 3 1 (ivs (vs x))]=
  vgo W ⟨hNo,[.tmp 6],0⟩ ks (VFr.of [(2, .fz b (.sl nl2 0 1 (ivs (vs ms)))),(3, .own 0 []),(4, .own 1 []),(7, .own 2 []),(8, .x (.int .i64 i))]) [.pt 39 [.v (.int .i64 q), .v (.int .i64 p), .v (.int .i64 m), .v (.int .i64 g), .fz t], .pt 24 [.v (.int .i64 q), .v (.int .i64 k), .fz (.sl nl 0 1 (lvs nr (R.map vs)))], .sl 0 3 1 (ivs (vs (mac (wf ms i) r k 0 x)))]:=by
 by_cases h:wf ms i=0
 ·have h1:=iva (l:=ms) (i:=i) (by omega)
  have hn0:(wf ms i).v=0:=r57.2 h
  rw[h,b00 _ _ _ _ (by omega),sb5 c28L0.eq_def]
  simp(disch:=first|omega|fail) only[push_cast,seval,vrl,if_pos,if_neg,h1,hn0]
 ·have:=cl1 (b:=b) (nl2:=nl2) (nl:=nl) (nr:=nr) u hi h hR hm hr hk k 0 x (by omega) hx ks
  simpa only[Int.natCast_zero]using this
theorem pb3{p m g:Int}{t:Tree}(u:RFo q p m g t){ms:List (El q)}{R:List (List (El q))}(hm:ms.length=R.length)(hmk:ms.length≤1000)(hR: ∀r∈R,r.length=k)(h0:0<k)(hk:k≤1000): ∀(d i:Nat) (x:List (El q)),i+d=ms.length→x.length=k→ ∀ks,
 vgoL W ⟨hNo,[.tmp 6],0⟩ [2,3,4,7,8] c28L1 (.blk 0 [7]::ks) [(2, .fz b (.sl nl2 0 1 (ivs (vs ms)))),(3, .own 0 []),(4, .own 1 []),(7, .own 2 []),(8, .x (.int .i64 i))] [.pt 39 [.v (.int .i64 q), .v (.int .i64 p), .v (.int .i64 m), .v (.int .i64 g), .fz t], .pt 24 [.v (.int .i64 q), .v (.int .i64 k), .fz (.sl nl 0 1 (lvs nr (R.map vs)))], .sl 0 3 1 (ivs (vs x))]=
  vgo W ⟨hNo,[.tmp 6],0⟩ ks (VFr.of [(7, .own 2 [])]) [.pt 39 [.v (.int .i64 q), .v (.int .i64 p), .v (.int .i64 m), .v (.int .i64 g), .fz t], .pt 24 [.v (.int .i64 q), .v (.int .i64 k), .fz (.sl nl 0 1 (lvs nr (R.map vs)))], .sl 0 3 1 (ivs (vs (prow k ms (R.drop i) i x)))]
 |0,i,x,hi,hx,ks=>by
  rw[List.drop_eq_nil_of_le (by omega),prow,sb5 c28L1.eq_def]
  simp(disch:=first|omega|fail) only[push_cast,seval,vrl,if_pos,if_neg]
 |d+1,i,x,hi,hx,ks=>by
  obtain⟨r,hr⟩:=ge6 (l:=R) (i:=i) (by omega)
  have hrl:=hR r (List.mem_of_getElem? hr)
  have ih:=pb3 u hm hmk hR h0 hk d (i+1) (mac (wf ms i) r k 0 x) (by omega) (by rw[ev4];exact hx) ks
  have e:=fun ks=>dy0 (b:=b) (nr:=nr) (nl:=nl) (nl2:=nl2) u (i:=i) (ms:=ms) (by omega) hr hmk hrl h0 hk x hx ks
  rw[Int.natCast_add,Int.natCast_one]at ih
  rw[i62 hr,prow,←ih,sb5 c28L1.eq_def]
  simp(disch:=first|omega|fail) only[push_cast,seval,vrl,if_pos,if_neg]
  rw[e]
  simp(disch:=first|omega|fail) only[push_cast,seval,vrl,if_pos,if_neg]
theorem i55{ms:List (El q)}{R:List (List (El q))}(hm:ms.length=R.length)(hmk:ms.length≤1000)(hR: ∀r∈R,r.length=k)(h0:0<k)(hk:k≤1000):
 o24 W 28 [.agg (rFs q), .agg [.x (.int .i64 q), .x (.int .i64 k), .fz true (.sl nl 0 1 (lvs nr (R.map vs)))], .fz b (.sl nl2 0 1 (ivs (vs ms)))] []=some (.own 0 [],[.sl 0 3 1 (ivs (vs (encL k ms R)))],[]):=by
 obtain⟨p,m,g,t,u⟩:=k75 q
 have ht:=u.n
 have e:=fun ks=>pb3 (q:=q) (b:=b) (nl:=nl) (nr:=nr) (nl2:=nl2) u hm hmk hR h0 hk ms.length 0 (List.replicate k 0) (by omega) (by simp) ks
 have hz:List.replicate k (0:Int)=vs (List.replicate k (0:El q)):=by rw[←qj2];rfl
 simp only[Int.natCast_zero,List.take_zero,List.drop_zero,rp2,lz6,x25,List.map_nil,List.length_nil]at e
 unfold encL
 rw[o10 rfl T28 rfl,u.e]
 unfold F28 c28
 simp(disch:=first|omega|fail) only[push_cast,seval,vrl,if_pos,if_neg,hz,ht]
 rw[e]
 simp(disch:=first|omega|fail) only[push_cast,seval,vrl,if_pos,if_neg]
theorem xa4{p m g:Int}{t:Tree}(u:RFo q p m g t){l:List Int}(hl:l.length≤9223372036854775807): ∀(d i:Nat),i+d=l.length→ ∀ks,
 vgoL W ⟨hNo,[.tmp 4],0⟩ [1,5,7] c31L0 (.blk 0 []::ks) [(1, .fz b (.sl nl 0 1 (ivs l))),(5, .own 0 []),(7, .x (.int .i64 i))] [.pt 39 [.v (.int .i64 q), .v (.int .i64 p), .v (.int .i64 m), .v (.int .i64 g), .fz t]]=
  if((l.drop i).any fun v=> !fok q v)=true then some (.x (.int .i64 2),[],[])else vgo W ⟨hNo,[.tmp 4],0⟩ ks (VFr.of []) [.pt 39 [.v (.int .i64 q), .v (.int .i64 p), .v (.int .i64 m), .v (.int .i64 g), .fz t]]
 |0,i,hi,ks=>by
  rw[oh9 (by omega),if_neg (by simp),sb5 c31L0.eq_def]
  simp(disch:=first|omega|fail) only[push_cast,seval,vrl,if_pos,if_neg]
 |d+1,i,hi,ks=>by
  have ih:=xa4 u hl d (i+1) (by omega) ks
  obtain⟨a,ha⟩:=ge6 (l:=l) (i:=i) (by omega)
  have h1:=iat ha
  rw[Int.natCast_add,Int.natCast_one]at ih
  have ht:=u.n
  have ho:=u.o
  have vhas:=fun x:Int=>xb9 (q:=q) (x:=x)
  rw[u.e]at vhas
  rw[i62 ha,List.any_cons]
  cases h:fok q a with
  |true=>
   simp only[h,Bool.not_true,Bool.false_or]
   rw[←ih,sb5 c31L0.eq_def]
   simp(disch:=first|omega|fail) only[push_cast,seval,vrl,if_pos,if_neg,h1,vhas,ht,ho,h]
  |false=>
   simp only[h,Bool.not_false,Bool.true_or,if_true]
   rw[sb5 c31L0.eq_def]
   simp(disch:=first|omega|fail) only[push_cast,seval,vrl,if_pos,if_neg,h1,vhas,ht,ho,h]
theorem mo8{M:List (List Int)}{w:List Int}(hl:w.length≤9223372036854775807):o24 W 31 [.agg [.x (.int .i64 q), .x (.int .i64 k), .fz true (.sl nl 0 1 (lvs nr M))], .fz b (.sl nl2 0 1 (ivs w))] []=some (.x (.int .i64 (hk8 q k w)),[],[]):=by
 obtain⟨p,m,g,t,u⟩:=k75 q
 have ht:=u.n
 have hfe:=u.e
 have e:=fun ks=>xa4 (b:=b) (nl:=nl2) u hl w.length 0 (by omega) ks
 simp only[Int.natCast_zero,List.take_zero,List.drop_zero,rp2,lz6,x25,List.map_nil,List.length_nil]at e
 unfold hk8
 rw[o10 rfl T31 rfl]
 unfold F31 c31
 by_cases h:w.length=k
 ·rw[if_neg (fun h2=>h2 h)]
  simp(disch:=first|omega|fail) only[push_cast,seval,vrl,if_pos,if_neg,hfe,ht,h]
  rw[e]
  cases hz:(w.any fun v=> !fok q v)with
  |true=>rw[if_pos rfl,if_pos rfl]
  |false=>
   rw[if_neg (by decide),if_neg (by decide)]
   simp(disch:=first|omega|fail) only[push_cast,seval,vrl,if_pos,if_neg]
 ·rw[if_pos h]
  simp(disch:=first|omega|fail) only[push_cast,seval,vrl,if_pos,if_neg,hfe,ht,nb8 (show¬(w.length:Int)=(k:Int) by omega)]
end
section
variable {q:Int} [IsFld q] {k nl nr:Nat} {b:Bool} {N:List (List (El q))} {a:Nat}
theorem us6{r:List (El q)}(ha:a<r.length)(hl:r.length≤1000):
 o24 W 74 [.fz b (.sl nl 0 1 (ivs (vs r))), .x (.int .i64 a)] []=some (.own 0 [],[.sl 0 3 1 (ivs (vs (r.eraseIdx a)))],[]):=by
 have hv:=fi2 r
 have e1:=fun b nl=>xr6 (b:=b) (nl:=nl) (l:=(vs r).take a) (by rw[List.length_take];omega)
 have h1:((vs r).take a).length=a:=by rw[List.length_take];omega
 have h2:((vs r).drop (a+1)).length=r.length-(a+1):=by rw[List.length_drop,hv]
 have h3:((vs r).drop (a+1)).take (r.length-(a+1))=(vs r).drop (a+1):=List.take_of_length_le (Nat.le_of_eq h2)
 rw[←ph9]
 rw[o10 rfl T74 rfl]
 unfold F74 c74
 simp(disch:=first|omega|fail) only[push_cast,seval,vrl,if_pos,if_neg,e1,h1,h2,h3,hv,show((a:Int)-0).toNat=a by omega,show((a:Int)+1).toNat=a+1 by omega,show((r.length:Int)-((a:Int)+1)).toNat=r.length-(a+1) by omega,Vm.tl5]
theorem o73{n:Int}(hl:N.length≤64)(hr: ∀r∈N,r.length=k)(ha:a<k)(hk:k≤64){T1:Tree}: ∀(d i:Nat),i+d=N.length→ ∀ks,
 vgoL W ⟨h35,[(.cell 4 true 3)],0⟩ [1,2,4,5,6] c35L0 (.blk 0 [2,4,5]::ks) [(1, .x (.int .i64 a)),(2, .own 0 []),(4, .own 1 []),(5, .own 2 []),(6, .x (.int .i64 i))] [.pt 24 [.v (.int .i64 q), .v (.int .i64 n), .fz (.sl nl 0 1 (lvs nr (N.map vs)))],T1, .sl 1 25 1 (lls 2 (((N.map fun r=>r.eraseIdx a).take i).map vs))]=
  vgo W ⟨h35,[(.cell 4 true 3)],0⟩ ks (VFr.of [(2, .own 0 []),(4, .own 1 []),(5, .own 2 [])]) [.pt 24 [.v (.int .i64 q), .v (.int .i64 n), .fz (.sl nl 0 1 (lvs nr (N.map vs)))],T1, .sl 1 25 1 (lls 2 ((N.map fun r=>r.eraseIdx a).map vs))]
 |0,i,hi,ks=>by
  rw[List.take_of_length_le (by simp;omega),sb5 c35L0.eq_def]
  simp(disch:=first|omega|fail) only[push_cast,seval,vrl,if_pos,if_neg]
 |d+1,i,hi,ks=>by
  have ih:=o73 (n:=n) hl hr ha hk (T1:=T1) d (i+1) (by omega) ks
  obtain⟨r,hr1⟩:=ge6 (l:=N) (i:=i) (by omega)
  have hrl:=hr r (List.mem_of_getElem? hr1)
  have h0:=mva (nl:=nr) hr1
  have e1:=fun b nl=>us6 (b:=b) (nl:=nl) (r:=r) (a:=a) (by omega) (by omega)
  have hg:(N.map fun r=>r.eraseIdx a)[i]? =some (r.eraseIdx a):=by rw[List.getElem?_map,hr1];rfl
  have hlt:(List.take i (N.map fun r=>r.eraseIdx a)).length=i:=by simp;omega
  rw[Int.natCast_add,Int.natCast_one,List.take_add_one,hg,Option.toList_some]at ih
  rw[←ih,sb5 c35L0.eq_def]
  simp(disch:=first|omega|fail) only[push_cast,seval,vrl,if_pos,if_neg,h0,e1,df0,List.length_map,hlt]
theorem x32(h1:1<k)(hk:k≤64)(ha:a<k)(hl:N.length≤64)(hr: ∀r∈N,r.length=k):
 o24 W 35 [.agg [.x (.int .i64 q), .x (.int .i64 k), .fz true (.sl nl 0 1 (lvs nr (N.map vs)))], .x (.int .i64 a)] []=some (.agg [.x (.int .i64 q), .x (.int .i64 ((k:Int)-1)), .own 0 []],[.sl 2 25 1 (lls 2 (pvR (redR (N.map fun r=>r.eraseIdx a))))],[]):=by
 have e:=fun T1 ks=>o73 (nl:=nl) (nr:=nr) (n:=k) hl hr ha hk (T1:=T1) N.length 0 (by omega) ks
 simp only[Int.natCast_zero,List.take_zero,List.drop_zero,rp2,lz6,x25,List.map_nil,List.length_nil]at e
 have e1:=fun nl nr n=>vd8 (q:=q) (nl:=nl) (nr:=nr) (N:=N.map fun r=>r.eraseIdx a) (k:=k-1) (n:=n) (by simp;omega) (jj1 ha hr) (by omega)
 rw[o10 rfl T35 rfl]
 unfold F35 c35
 simp(disch:=first|omega|fail) only[push_cast,seval,vrl,if_pos,if_neg]
 rw[e]
 simp(disch:=first|omega|fail) only[push_cast,seval,vrl,if_pos,if_neg,e1]
theorem y36{p m g:Int}{t:Tree}(u:RFo q p m g t){n:Nat}{i:Nat}{r:List (El q)}(hr:N[i]? =some r)(hrl:r.length=n)(hn:n≤64){T1 T3:Tree}: ∀(d j:Nat),j+d=n→ ∀ks,
 vgoL W ⟨h37,[(.cell 2 true 3)],0⟩ [1,2,3,5,6,7,8] c37L0 (.blk 2 [1,2,3,5,6,7]::ks) [(1, .own 0 []),(2, .own 1 []),(3, .own 2 []),(5, .own 3 []),(6, .x (.int .i64 i)),(7, .x (.int .i64 (((r.take j).foldl (fun s v=>s-v) (0:El q)).v))),(8, .x (.int .i64 j))] [.pt 24 [.v (.int .i64 q), .v (.int .i64 n), .fz (.sl nl 0 1 (lvs nr (N.map vs)))],T1, .pt 39 [.v (.int .i64 q), .v (.int .i64 p), .v (.int .i64 m), .v (.int .i64 g), .fz t],T3]=
  vgo W ⟨h37,[(.cell 2 true 3)],0⟩ ks (VFr.of [(1, .own 0 []),(2, .own 1 []),(3, .own 2 []),(5, .own 3 []),(6, .x (.int .i64 i)),(7, .x (.int .i64 ((nsum r).v)))]) [.pt 24 [.v (.int .i64 q), .v (.int .i64 n), .fz (.sl nl 0 1 (lvs nr (N.map vs)))],T1, .pt 39 [.v (.int .i64 q), .v (.int .i64 p), .v (.int .i64 m), .v (.int .i64 g), .fz t],T3]
 |0,j,hj,ks=>by
  rw[List.take_of_length_le (by omega),sb5 c37L0.eq_def]
  unfold nsum
  simp(disch:=first|omega|fail) only[push_cast,seval,vrl,if_pos,if_neg]
 |d+1,j,hj,ks=>by
  have ih:=y36 u hr hrl hn (T1:=T1) (T3:=T3) d (j+1) (by omega) ks
  have h1:=iva (l:=r) (i:=j) (by omega)
  have h0:=mva (nl:=nr) hr
  have hRl:i<N.length:=(List.getElem?_eq_some_iff.1 hr).1
  rw[Int.natCast_add,Int.natCast_one,uf8 r (by omega),bq9]at ih
  have ht:=u.n
  have ho:=u.o
  have vsub:=fun x y:Int=>br1 (q:=q) (x:=x) (y:=y)
  rw[u.e]at vsub
  rw[←ih,sb5 c37L0.eq_def]
  simp(disch:=first|omega|fail) only[push_cast,seval,vrl,if_pos,if_neg,h0,h1,vsub,ht,ho]
theorem b60{p m g:Int}{t:Tree}(u:RFo q p m g t)(hl:N.length≤64)(hr: ∀r∈N,r.length=k)(hk:k≤64){T1:Tree}: ∀(d i:Nat),i+d=N.length→ ∀ks,
 vgoL W ⟨h37,[(.cell 2 true 3)],0⟩ [1,2,3,5,6] c37L1 (.blk 0 [1,2,5]::ks) [(1, .own 0 []),(2, .own 1 []),(3, .own 2 []),(5, .own 3 []),(6, .x (.int .i64 i))] [.pt 24 [.v (.int .i64 q), .v (.int .i64 k), .fz (.sl nl 0 1 (lvs nr (N.map vs)))],T1, .pt 39 [.v (.int .i64 q), .v (.int .i64 p), .v (.int .i64 m), .v (.int .i64 g), .fz t], .sl 1 25 1 (lls 2 (((N.map extL).take i).map vs))]=
  vgo W ⟨h37,[(.cell 2 true 3)],0⟩ ks (VFr.of [(1, .own 0 []),(2, .own 1 []),(5, .own 3 [])]) [.pt 24 [.v (.int .i64 q), .v (.int .i64 k), .fz (.sl nl 0 1 (lvs nr (N.map vs)))],T1, .pt 39 [.v (.int .i64 q), .v (.int .i64 p), .v (.int .i64 m), .v (.int .i64 g), .fz t], .sl 1 25 1 (lls 2 ((N.map extL).map vs))]
 |0,i,hi,ks=>by
  rw[List.take_of_length_le (by simp;omega),sb5 c37L1.eq_def]
  simp(disch:=first|omega|fail) only[push_cast,seval,vrl,if_pos,if_neg]
 |d+1,i,hi,ks=>by
  have ih:=b60 u hl hr hk (T1:=T1) d (i+1) (by omega) ks
  obtain⟨r,hr1⟩:=ge6 (l:=N) (i:=i) (by omega)
  have hrl:=hr r (List.mem_of_getElem? hr1)
  have h0:=mva (nl:=nr) hr1
  have e:=fun T3 ks=>y36 (nl:=nl) (nr:=nr) u hr1 hrl hk (T1:=T1) (T3:=T3) k 0 (by omega) ks
  simp only[Int.natCast_zero,List.take_zero,List.drop_zero,rp2,lz6,x25,List.map_nil,List.length_nil]at e
  simp only[List.foldl_nil,hc8]at e
  have e1:=fun b nl=>xr6 (b:=b) (nl:=nl) (l:=vs r) (by rw[fi2];omega)
  have hv:=fi2 r
  have hg:(N.map extL)[i]? =some (extL r):=by rw[List.getElem?_map,hr1];rfl
  have hlt:(List.take i (N.map extL)).length=i:=by simp;omega
  have hx:ivs (vs r)++[Tree.v (.int .i64 (nsum r).v)]=ivs (vs (extL r)):=by unfold extL;rw[gq8,e55,rp2,Vm.nc5]
  rw[Int.natCast_add,Int.natCast_one,List.take_add_one,hg,Option.toList_some]at ih
  rw[←ih,sb5 c37L1.eq_def]
  simp(disch:=first|omega|fail) only[push_cast,seval,vrl,if_pos,if_neg]
  rw[e]
  simp(disch:=first|omega|fail) only[push_cast,seval,vrl,if_pos,if_neg,h0,e1,hv,Vm.nc5,show vs r++[(nsum r).v]=vs (extL r) by unfold extL;rw[gq8,e55,rp2],df0,List.length_map,hlt]
theorem ku2(h0:0<k)(hk:k<64)(hl:N.length≤64)(hr: ∀r∈N,r.length=k):
 o24 W 37 [.agg [.x (.int .i64 q), .x (.int .i64 k), .fz true (.sl nl 0 1 (lvs nr (N.map vs)))]] []=some (.agg [.x (.int .i64 q), .x (.int .i64 ((k:Int)+1)), .own 0 []],[.sl 2 25 1 (lls 2 (pvR (redR (N.map extL))))],[]):=by
 obtain⟨p,m,g,t,u⟩:=k75 q
 have ht:=u.n
 have ho:=u.o
 have hfe:=u.e
 have e:=fun T1 ks=>b60 (nl:=nl) (nr:=nr) u hl hr (by omega) (T1:=T1) N.length 0 (by omega) ks
 simp only[Int.natCast_zero,List.take_zero,List.drop_zero,rp2,lz6,x25,List.map_nil,List.length_nil]at e
 have e1:=fun nl nr n=>vd8 (q:=q) (nl:=nl) (nr:=nr) (N:=N.map extL) (k:=k+1) (n:=n) (by simp;omega) (fun r hr'=>by
  obtain⟨x,hx,rfl⟩:=List.mem_map.1 hr'
  rw[x19,hr x hx]) (by omega)
 rw[o10 rfl T37 rfl]
 unfold F37 c37
 simp(disch:=first|omega|fail) only[push_cast,seval,vrl,if_pos,if_neg,hfe,ht,ho]
 rw[e]
 simp(disch:=first|omega|fail) only[push_cast,seval,vrl,if_pos,if_neg,e1]
end
theorem yo9{R:Rts}{b:Bool}{nl e u:Nat}{c:Tree}{cs:List Tree}:wb3 R 0 (.fz b (.sl nl e u (c::cs)))=some false:=by
 rcases nl with _|_|nl<;>rfl
theorem n46{q:Int}{R:Rts}{b:Bool}{nl e u:Nat}{r:List (El q)}(h:0<r.length):wb3 R 0 (.fz b (.sl nl e u (ivs (vs r))))=some false:=by
 cases r with
 |nil=>cases h
 |cons x r=>exact yo9
section
variable {q:Int} [IsFld q] {k nl nr:Nat} {b:Bool} {N:List (List (El q))} {a:Nat}
theorem ue4{p m g:Int}{t:Tree}(u:RFo q p m g t){n:Int}{o:List (El q)}(hol:o.length=k)(h0:wf o a≠0)(hl:N.length≤64)(hr: ∀r∈N,r.length=k)(ha:a<k)(hk:k≤64){T1:Tree}: ∀(d i:Nat) (L:List (List (El q))),i+d=N.length→L.length≤i→ ∀ks,
 vgoL W ⟨h36,[(.cell 4 true 3)],0⟩ [1,2,4,5,7,8,9] c36L0 (.blk 0 [2,4,8]::ks) [(1, .x (.int .i64 a)),(2, .own 0 []),(4, .own 1 []),(5, .own 2 []),(7, .fz true (.sl nr 0 1 (ivs (vs o)))),(8, .own 3 []),(9, .x (.int .i64 i))] [.pt 24 [.v (.int .i64 q), .v (.int .i64 n), .fz (.sl nl 0 1 (lvs nr (N.map vs)))],T1, .pt 39 [.v (.int .i64 q), .v (.int .i64 p), .v (.int .i64 m), .v (.int .i64 g), .fz t], .sl 1 25 1 (lls 2 (L.map vs))]=
  vgo W ⟨h36,[(.cell 4 true 3)],0⟩ ks (VFr.of [(2, .own 0 []),(4, .own 1 []),(8, .own 3 [])]) [.pt 24 [.v (.int .i64 q), .v (.int .i64 n), .fz (.sl nl 0 1 (lvs nr (N.map vs)))],T1, .pt 39 [.v (.int .i64 q), .v (.int .i64 p), .v (.int .i64 m), .v (.int .i64 g), .fz t], .sl 1 25 1 (lls 2 ((L++(rdL a o (N.drop i)).map fun r=>r.eraseIdx a).map vs))]
 |0,i,L,hi,hL,ks=>by
  rw[List.drop_eq_nil_of_le (by omega),sb5 c36L0.eq_def]
  show _=vgo W ⟨h36,[(.cell 4 true 3)],0⟩ ks (VFr.of [(2, .own 0 []),(4, .own 1 []),(8, .own 3 [])]) [.pt 24 [.v (.int .i64 q), .v (.int .i64 n), .fz (.sl nl 0 1 (lvs nr (N.map vs)))],T1, .pt 39 [.v (.int .i64 q), .v (.int .i64 p), .v (.int .i64 m), .v (.int .i64 g), .fz t], .sl 1 25 1 (lls 2 ((L++[]).map vs))]
  rw[List.append_nil]
  simp(disch:=first|omega|fail) only[push_cast,seval,vrl,if_pos,if_neg]
 |d+1,i,L,hi,hL,ks=>by
  obtain⟨r,hr1⟩:=ge6 (l:=N) (i:=i) (by omega)
  have hrl:=hr r (List.mem_of_getElem? hr1)
  have h2:=mva (nl:=nr) hr1
  have h1:=iva (l:=r) (i:=a) (by omega)
  have hRl:i<N.length:=(List.getElem?_eq_some_iff.1 hr1).1
  rw[i62 hr1]
  by_cases hz:wf r a=0
  ·have ih:=ue4 u (n:=n) hol h0 hl hr ha hk (T1:=T1) d (i+1) (L++[r.eraseIdx a]) (by omega) (by simp;omega) ks
   have e1:=fun b nl=>us6 (b:=b) (nl:=nl) (r:=r) (a:=a) (by omega) (by omega)
   have hz0:(wf r a).v=0:=r57.2 hz
   rw[show rdL a o (r::N.drop (i+1))=r::rdL a o (N.drop (i+1)) by unfold rdL;rw[List.map_cons,if_pos hz],List.map_cons,List.append_cons]
   rw[Int.natCast_add,Int.natCast_one]at ih
   rw[←ih,sb5 c36L0.eq_def]
   simp(disch:=first|omega|fail) only[push_cast,seval,vrl,if_pos,if_neg,h1,h2,hz0,e1,df0,List.length_map]
  ·have hxl:(dx9 (wf r a*FK.inv (wf o a)) r o).length=k:=by rw[wx1 (by omega),hrl]
   have ih:=ue4 u (n:=n) hol h0 hl hr ha hk (T1:=T1) d (i+1) (L++[(dx9 (wf r a*FK.inv (wf o a)) r o).eraseIdx a]) (by omega) (by simp;omega) ks
   have e1:=fun b nl=>us6 (b:=b) (nl:=nl) (r:=dx9 (wf r a*FK.inv (wf o a)) r o) (a:=a) (by omega) (by omega)
   have h3:=iva (l:=o) (i:=a) (by omega)
   have hz0: ¬(wf r a).v=0:=fun h=>hz (r57.1 h)
   have hn:=fun(R:Rts) (nl e u:Nat)=>n46 (R:=R) (b:=true) (nl:=nl) (e:=e) (u:=u) (r:=o) (by omega)
   have hc:fmul q (wf r a).v (finv q (wf o a).v)=(wf r a*FK.inv (wf o a)).v:=by rw[ym6,rl7 h0]
   have e2:=fun b b' nl nl'=>el1 (q:=q) (b:=b) (b':=b') (nl:=nl) (nl':=nl') (c:=wf r a*FK.inv (wf o a)) (r:=r) (o:=o) (by omega) (by omega)
   rw[u.e]at e2
   rw[show rdL a o (r::N.drop (i+1))=dx9 (wf r a*FK.inv (wf o a)) r o::rdL a o (N.drop (i+1)) by unfold rdL;rw[List.map_cons,if_neg hz],List.map_cons,List.append_cons]
   rw[Int.natCast_add,Int.natCast_one]at ih
   have ht:=u.n
   have ho:=u.o
   have vmul:=fun x y:Int=>n06 (q:=q) (x:=x) (y:=y)
   rw[u.e]at vmul
   have vinv:=fun x:Int=>dy2 (q:=q) (x:=x)
   rw[u.e]at vinv
   rw[←ih,sb5 c36L0.eq_def]
   simp(disch:=first|omega|fail) only[push_cast,seval,vrl,if_pos,if_neg,h1,h2,h3,nb8 hz0,hn,vmul,vinv,hc,ht,ho,e2,e1,df0,List.length_map]
theorem un2{p m g:Int}{t:Tree}(u:RFo q p m g t){n:Int}(hl:N.length≤64)(hr: ∀r∈N,r.length=k)(ha:a<k)(hk:k≤64){T1:Tree}: ∀(d i:Nat) (L:List (List (El q))),i+d=N.length→L.length≤i→ ∀ks,
 vgoL W ⟨h36,[(.cell 4 true 3)],0⟩ [1,2,4,5,7,8,9] c36L0 (.blk 0 [2,4,8]::ks) [(1, .x (.int .i64 a)),(2, .own 0 []),(4, .own 1 []),(5, .own 2 []),(7, .x (.slice none 0 0)),(8, .own 3 []),(9, .x (.int .i64 i))] [.pt 24 [.v (.int .i64 q), .v (.int .i64 n), .fz (.sl nl 0 1 (lvs nr (N.map vs)))],T1, .pt 39 [.v (.int .i64 q), .v (.int .i64 p), .v (.int .i64 m), .v (.int .i64 g), .fz t], .sl 1 25 1 (lls 2 (L.map vs))]=
  vgo W ⟨h36,[(.cell 4 true 3)],0⟩ ks (VFr.of [(2, .own 0 []),(4, .own 1 []),(8, .own 3 [])]) [.pt 24 [.v (.int .i64 q), .v (.int .i64 n), .fz (.sl nl 0 1 (lvs nr (N.map vs)))],T1, .pt 39 [.v (.int .i64 q), .v (.int .i64 p), .v (.int .i64 m), .v (.int .i64 g), .fz t], .sl 1 25 1 (lls 2 ((L++(shL a none (N.drop i)).map fun r=>r.eraseIdx a).map vs))]
 |0,i,L,hi,hL,ks=>by
  rw[List.drop_eq_nil_of_le (by omega),sb5 c36L0.eq_def]
  show _=vgo W ⟨h36,[(.cell 4 true 3)],0⟩ ks (VFr.of [(2, .own 0 []),(4, .own 1 []),(8, .own 3 [])]) [.pt 24 [.v (.int .i64 q), .v (.int .i64 n), .fz (.sl nl 0 1 (lvs nr (N.map vs)))],T1, .pt 39 [.v (.int .i64 q), .v (.int .i64 p), .v (.int .i64 m), .v (.int .i64 g), .fz t], .sl 1 25 1 (lls 2 ((L++[]).map vs))]
  rw[List.append_nil]
  simp(disch:=first|omega|fail) only[push_cast,seval,vrl,if_pos,if_neg]
 |d+1,i,L,hi,hL,ks=>by
  obtain⟨r,hr1⟩:=ge6 (l:=N) (i:=i) (by omega)
  have hrl:=hr r (List.mem_of_getElem? hr1)
  have h2:=mva (nl:=nr) hr1
  have h1:=iva (l:=r) (i:=a) (by omega)
  have hRl:i<N.length:=(List.getElem?_eq_some_iff.1 hr1).1
  rw[i62 hr1,shL]
  by_cases hz:wf r a=0
  ·have ih:=un2 u (n:=n) hl hr ha hk (T1:=T1) d (i+1) (L++[r.eraseIdx a]) (by omega) (by simp;omega) ks
   have e1:=fun b nl=>us6 (b:=b) (nl:=nl) (r:=r) (a:=a) (by omega) (by omega)
   have hz0:(wf r a).v=0:=r57.2 hz
   rw[if_pos hz,List.map_cons,List.append_cons]
   rw[Int.natCast_add,Int.natCast_one]at ih
   rw[←ih,sb5 c36L0.eq_def]
   simp(disch:=first|omega|fail) only[push_cast,seval,vrl,if_pos,if_neg,h1,h2,hz0,e1,df0,List.length_map]
  ·have ih:=ue4 u (nl:=nl) (nr:=nr) (n:=n) hrl hz hl hr ha hk (T1:=T1) d (i+1) L (by omega) (by omega) ks
   have hz0: ¬(wf r a).v=0:=fun h=>hz (r57.1 h)
   rw[if_neg hz,y40]
   rw[Int.natCast_add,Int.natCast_one]at ih
   rw[←ih,sb5 c36L0.eq_def]
   simp(disch:=first|omega|fail) only[push_cast,seval,vrl,if_pos,if_neg,h1,h2,nb8 hz0]
theorem ev6(h1:1<k)(hk:k≤64)(ha:a<k)(hl:N.length≤64)(hr: ∀r∈N,r.length=k):
 o24 W 36 [.agg [.x (.int .i64 q), .x (.int .i64 k), .fz true (.sl nl 0 1 (lvs nr (N.map vs)))], .x (.int .i64 a)] []=some (.agg [.x (.int .i64 q), .x (.int .i64 ((k:Int)-1)), .own 0 []],[.sl 2 25 1 (lls 2 (pvR (redR ((shL a none N).map fun r=>r.eraseIdx a))))],[]):=by
 obtain⟨p,m,g,t,u⟩:=k75 q
 have ht:=u.n
 have ho:=u.o
 have hfe:=u.e
 have e:=fun T1 ks=>un2 (nl:=nl) (nr:=nr) u (n:=k) hl hr ha hk (T1:=T1) N.length 0 [] (by omega) (Nat.le_refl _) ks
 simp only[List.nil_append]at e
 simp only[Int.natCast_zero,List.take_zero,List.drop_zero,rp2,lz6,x25,List.map_nil,List.length_nil]at e
 have hs:(shL a none N).length≤N.length:=by
  rcases af6 (a:=a) N with⟨h1,_⟩|⟨A,o,B,h1,_,h3⟩
  ·rw[h1];exact Nat.le_refl _
  ·rw[h3,h1];unfold rdL;simp
 have e1:=fun nl nr n=>vd8 (q:=q) (nl:=nl) (nr:=nr) (N:=(shL a none N).map fun r=>r.eraseIdx a) (k:=k-1) (n:=n) (by simp;omega) (jj1 ha (li4 hr)) (by omega)
 rw[o10 rfl T36 rfl]
 unfold F36 c36
 simp(disch:=first|omega|fail) only[push_cast,seval,vrl,if_pos,if_neg,hfe,ht,ho]
 rw[e]
 simp(disch:=first|omega|fail) only[push_cast,seval,vrl,if_pos,if_neg,e1]
end
section
variable {b:Bool} {nl:Nat} {raw:List Int}
end
section
variable {k:FuncId} {p:Int→Bool} {l:List Int} {nl:Nat}
theorem ac4(hk: ∀v,o24 W k [.x (.int .i64 v)] []=some (.x (.bool (p v)),[],[]))(hM:vM k=[]){bl:Bool}(hl:l.length≤9223372036854775807): ∀(n i:Nat),i+n=l.length→ ∀ks,
 vgoL W ⟨hNo,[.tmp 4],0⟩ [0,1,7,8] c90L0 (.blk 0 []::ks) [(0, .fz bl (.sl nl 0 1 (ivs l))),(1, .fn k []),(7, .x (.int .i64 l.length)),(8, .x (.int .i64 i))] []=
  if fidx p i (l.drop i)= -1 then vgo W ⟨hNo,[.tmp 4],0⟩ ks (VFr.of []) []else some (.x (.int .i64 (fidx p i (l.drop i))),[],[])
 |0,i,hi,ks=>by
  rw[oh9 (by omega),fidx,if_pos rfl,sb5 c90L0.eq_def]
  simp(disch:=first|omega|fail) only[push_cast,seval,vrl,if_pos,if_neg]
 |n+1,i,hi,ks=>by
  have ih:=ac4 hk hM (bl:=bl) hl n (i+1) (by omega) ks
  obtain⟨a,ha⟩:=ge6 (l:=l) (i:=i) (by omega)
  have h1:=iat ha
  rw[i62 ha,fidx]
  rw[Int.natCast_add,Int.natCast_one]at ih
  have hka:=hk a
  cases hp:p a with
  |true=>
   rw[hp]at hka
   rw[if_pos rfl,if_neg (by omega),sb5 c90L0.eq_def]
   simp(disch:=first|omega|fail) only[push_cast,seval,vrl,if_pos,if_neg,h1,hka,hM]
  |false=>
   rw[hp]at hka
   simp only[Bool.false_eq_true,if_false]
   rw[←ih,sb5 c90L0.eq_def]
   simp(disch:=first|omega|fail) only[push_cast,seval,vrl,if_pos,if_neg,h1,hka,hM]
theorem rq1(hk: ∀v,o24 W k [.x (.int .i64 v)] []=some (.x (.bool (p v)),[],[]))(hM:vM k=[]){bl:Bool}(hl:l.length≤9223372036854775807):
 o24 W 62 [.fz bl (.sl nl 0 1 (ivs l)), .fn k []] []=some (.x (.bool (l.any p)),[],[]):=by
 have e:=fun nl ks=>ac4 (nl:=nl) hk hM (bl:=bl) hl l.length 0 (by omega) ks
 simp only[Int.natCast_zero,List.take_zero,List.drop_zero,rp2,lz6,x25,List.map_nil,List.length_nil]at e
 have e2: ∀bl2 nl,bl2=bl→o24 W 90 [.fz bl2 (.sl nl 0 1 (ivs l)), .fn k []] []=some (.x (.int .i64 (fidx p 0 l)),[],[]):=fun bl2 nl hb=>by
  subst hb
  rw[o10 rfl T90 rfl]
  unfold F90 c90
  simp(disch:=first|omega|fail) only[push_cast,seval,vrl,if_pos,if_neg]
  rw[e]
  by_cases h:fidx p 0 l= -1
  ·rw[if_pos h,h]
   simp(disch:=first|omega|fail) only[push_cast,seval,vrl,if_pos,if_neg]
  ·rw[if_neg h]
 have e3:=fun nl=>e2 bl nl rfl
 rw[o10 rfl T62 rfl]
 unfold F62 c62
 rw[←tl6 p 0 l]
 simp(disch:=first|omega|fail) only[push_cast,seval,vrl,if_pos,if_neg,e3]
end
section
variable {q:Int} [IsFld q] {k nl nr nl2:Nat} {b:Bool} {N:List (List (El q))}
theorem x79(he:gi9 q k (N.map vs)=0)(h0:0<k)(hk:k≤64)(hl:N.length≤64)(hr: ∀r∈N,r.length=k){w:List (El q)}(hw:w.length=k):
 o24 W 34 [.agg [.x (.int .i64 q), .x (.int .i64 k), .fz true (.sl nl 0 1 (lvs nr (N.map vs)))], .fz b (.sl nl2 0 1 (ivs (vs w)))] []=some (.tup [.x (.bool (!((vs (synL (p78 (zt5 k N)) w)).any fun v=> !decide (v=0)))), .x (.int .i64 0)],[],[]):=by
 have e1:=fun nl nr b nl2=>tq9 (nl:=nl) (nr:=nr) (b:=b) (nl2:=nl2) he h0 hk hl hr hw
 obtain⟨n1,n2,_,n4⟩:=sw1 hr
 have e2:=fun b nl=>rq1 (nl:=nl) (bl:=b) (l:=vs (synL (p78 (zt5 k N)) w)) (k:=73) aq6 rfl (by rw[fi2,js8,gb3];omega)
 rw[o10 rfl T34 rfl]
 unfold F34 c34
 simp(disch:=first|omega|fail) only[push_cast,seval,vrl,if_pos,if_neg,e1,e2]
end
section
variable {q n:Int} {nl nr nl2:Nat} {M:List (List Int)} {b:Bool} {w:List Int}
theorem zs6(he: ¬gi9 q n M=0):o24 W 29 [.agg [.x (.int .i64 q), .x (.int .i64 n), .fz true (.sl nl 0 1 (lvs nr M))], .fz b (.sl nl2 0 1 (ivs w))] []=some (.tup [.x (.slice none 0 0), .x (.int .i64 (gi9 q n M))],[],[]):=by
 have e1:=fun nl nr=>so4 (q:=q) (n:=n) (M:=M) (nl:=nl) (nr:=nr) he
 rw[o10 rfl T29 rfl]
 unfold F29 c29
 simp(disch:=first|omega|fail) only[push_cast,seval,vrl,if_pos,if_neg,e1,nb8 he]
theorem hq3(he: ¬gi9 q n M=0):o24 W 33 [.agg [.x (.int .i64 q), .x (.int .i64 n), .fz true (.sl nl 0 1 (lvs nr M))], .fz b (.sl nl2 0 1 (ivs w))] []=some (.tup [.own 0 [], .x (.int .i64 (gi9 q n M))],[.sl 1 3 1 []],[]):=by
 have e1:=fun nl nr=>cs1 (q:=q) (n:=n) (M:=M) (nl:=nl) (nr:=nr) he
 rw[o10 rfl T33 rfl]
 unfold F33 c33
 simp(disch:=first|omega|fail) only[push_cast,seval,vrl,if_pos,if_neg,e1,nb8 he]
theorem w22(he: ¬gi9 q n M=0):o24 W 34 [.agg [.x (.int .i64 q), .x (.int .i64 n), .fz true (.sl nl 0 1 (lvs nr M))], .fz b (.sl nl2 0 1 (ivs w))] []=some (.tup [.x (.bool false), .x (.int .i64 (gi9 q n M))],[],[]):=by
 have e1:=fun nl nr b nl2=>hq3 (q:=q) (n:=n) (M:=M) (nl:=nl) (nr:=nr) (b:=b) (nl2:=nl2) (w:=w) he
 rw[o10 rfl T34 rfl]
 unfold F34 c34
 simp(disch:=first|omega|fail) only[push_cast,seval,vrl,if_pos,if_neg,e1,nb8 he]
end
section
variable {q:Int} [IsFld q] {k nl nr nl2:Nat} {b:Bool} {N:List (List (El q))} {w:List Int}
theorem mi2(he:gi9 q k (N.map vs)=0)(h0:0<k)(hk:k≤64)(hl:N.length≤64)(hr: ∀r∈N,r.length=k)(hwl:w.length≤9223372036854775807)(hw: ¬hk8 q (redR N).length w=0):
 o24 W 29 [.agg [.x (.int .i64 q), .x (.int .i64 k), .fz true (.sl nl 0 1 (lvs nr (N.map vs)))], .fz b (.sl nl2 0 1 (ivs w))] []=some (.tup [.x (.slice none 0 0), .x (.int .i64 (hk8 q (redR N).length w))],[],[]):=by
 have e1:=fun nl nr=>ob1 (nl:=nl) (nr:=nr) he h0 hk hl hr
 have hle:=ew4 hr
 have h1:=nu3 (redR N)
 have hf:=fun bl nl b e=>eg0 (nl:=nl) (l:=w) (bl:=bl) (k:=67) (b:=b) (t:= .pt e [pF q]) nn3 rfl hwl
 unfold hk8 at hw⊢
 rw[o10 rfl T29 rfl]
 unfold F29 c29
 by_cases h:w.length=(redR N).length
 ·rw[if_neg (fun h2=>h2 h)]at hw⊢
  cases hz:(w.any fun v=> !fok q v)with
  |true=>
   rw[if_pos rfl]
   simp(disch:=first|omega|fail) only[push_cast,seval,vrl,if_pos,if_neg,e1,h1,h,hf,hz]
  |false=>rw[hz]at hw;exact absurd (if_neg (by decide)) hw
 ·rw[if_pos h]
  simp(disch:=first|omega|fail) only[push_cast,seval,vrl,if_pos,if_neg,e1,h1,nb8 (show¬(w.length:Int)=((redR N).length:Int) by omega)]
theorem ku4(he:gi9 q k (N.map vs)=0)(h0:0<k)(hk:k≤64)(hl:N.length≤64)(hr: ∀r∈N,r.length=k)(hwl:w.length≤9223372036854775807)(hw: ¬hk8 q k w=0):
 o24 W 33 [.agg [.x (.int .i64 q), .x (.int .i64 k), .fz true (.sl nl 0 1 (lvs nr (N.map vs)))], .fz b (.sl nl2 0 1 (ivs w))] []=some (.tup [.own 0 [], .x (.int .i64 (hk8 q k w))],[.sl 1 3 1 []],[]):=by
 have e1:=fun nl nr=>x92 (nl:=nl) (nr:=nr) he h0 hk hl hr
 have e2:=fun nl nr b nl2=>gd1 (q:=q) (k:=k) (nl:=nl) (nr:=nr) (nl2:=nl2) (b:=b) (M:=N.map vs) (w:=w) hwl
 rw[o10 rfl T33 rfl]
 unfold F33 c33
 simp(disch:=first|omega|fail) only[push_cast,seval,vrl,if_pos,if_neg,e1,e2,nb8 hw]
theorem ad0(he:gi9 q k (N.map vs)=0)(h0:0<k)(hk:k≤64)(hl:N.length≤64)(hr: ∀r∈N,r.length=k)(hwl:w.length≤9223372036854775807)(hw: ¬hk8 q k w=0):
 o24 W 34 [.agg [.x (.int .i64 q), .x (.int .i64 k), .fz true (.sl nl 0 1 (lvs nr (N.map vs)))], .fz b (.sl nl2 0 1 (ivs w))] []=some (.tup [.x (.bool false), .x (.int .i64 (hk8 q k w))],[],[]):=by
 have e1:=fun nl nr b nl2=>ku4 (nl:=nl) (nr:=nr) (b:=b) (nl2:=nl2) he h0 hk hl hr hwl hw
 rw[o10 rfl T34 rfl]
 unfold F34 c34
 simp(disch:=first|omega|fail) only[push_cast,seval,vrl,if_pos,if_neg,e1,nb8 hw]
theorem px7: ∀l:List Int,(!(l.any fun v=> !decide (v=0)))=decide ((wtW l:Int)=0)
 | []=>rfl
 |x::l=>by
  have ih:=px7 l
  rw[List.any_cons,wtW]
  by_cases h:x=0
  ·rw[if_pos h,decide_eq_true h,Bool.not_true,Bool.false_or,Nat.zero_add];exact ih
  ·rw[if_neg h,decide_eq_false h,Bool.not_false,Bool.true_or,decide_eq_false (by omega)];rfl
theorem g40{p m g:Int}{t:Tree}(u:RFo q p m g t){D:List (List (El q))}{a:List (El q)}(hD: ∀r∈D,r.length=a.length)(ha:a.length≤1000)(hDl:D.length≤1000){T0:Tree}: ∀(d i:Nat),i+d=D.length→ ∀ks,
 vgoL W ⟨h16,[.tmp 12],0⟩ [4,6,8,13,15,19,20] c16L0 (.blk 0 [4,6,15,19]::ks) [(4, .fz b (.sl nl2 0 1 (ivs (vs a)))),(6, .own 0 []),(8, .own 1 []),(13, .own 2 []),(15, .x (.int .i64 0)),(19, .own 3 []),(20, .x (.int .i64 i))] [T0, .pt 24 [.v (.int .i64 q), .v (.int .i64 k), .fz (.sl nl 0 1 (lvs nr (D.map vs)))], .pt 39 [.v (.int .i64 q), .v (.int .i64 p), .v (.int .i64 m), .v (.int .i64 g), .fz t], .sl 1 3 1 (ivs (vs ((synL D a).take i)))]=
  vgo W ⟨h16,[.tmp 12],0⟩ ks (VFr.of [(4, .fz b (.sl nl2 0 1 (ivs (vs a)))),(6, .own 0 []),(15, .x (.int .i64 0)),(19, .own 3 [])]) [T0, .pt 24 [.v (.int .i64 q), .v (.int .i64 k), .fz (.sl nl 0 1 (lvs nr (D.map vs)))], .pt 39 [.v (.int .i64 q), .v (.int .i64 p), .v (.int .i64 m), .v (.int .i64 g), .fz t], .sl 1 3 1 (ivs (vs (synL D a)))]
 |0,i,hi,ks=>by
  rw[List.take_of_length_le (by rw[js8];omega),sb5 c16L0.eq_def]
  simp(disch:=first|omega|fail) only[push_cast,seval,vrl,if_pos,if_neg]
 |d+1,i,hi,ks=>by
  have ih:=g40 u hD ha hDl (T0:=T0) d (i+1) (by omega) ks
  obtain⟨r,hr⟩:=ge6 (l:=D) (i:=i) (by omega)
  have hrl:=hD r (List.mem_of_getElem? hr)
  have hDi:i<D.length:=(List.getElem?_eq_some_iff.1 hr).1
  have h0:=mva (nl:=nr) hr
  have hs:=js8 D a
  have e:=fun b b' nl nl'=>af7 (b:=b) (b':=b') (nl:=nl) (nl':=nl') (x:=r) (o:=a) hrl.symm (by omega)
  rw[u.e]at e
  have ht:=u.n
  have ho:=u.o
  have hg:(synL D a)[i]? =some (sumN r.length fun j=>wf r j*wf a j):=by unfold synL;rw[List.getElem?_map,hr];rfl
  have hlt:(vs (List.take i (synL D a))).length=i:=by rw[fi2,List.length_take,hs];omega
  rw[Int.natCast_add,Int.natCast_one,List.take_add_one,hg,Option.toList_some,gq8,e55,rp2]at ih
  rw[←ih,sb5 c16L0.eq_def]
  simp(disch:=first|omega|fail) only[push_cast,seval,vrl,if_pos,if_neg,h0,e,ht,ho,hlt]
end
theorem um2{q n:Int}{nl nr nl2 nl3:Nat}{M:List (List Int)}{b b':Bool}{ms w:List Int}(he: ¬gi9 q n M=0):
 o24 W 16 [.agg [.x (.int .i64 q), .x (.int .i64 n), .fz true (.sl nl 0 1 (lvs nr M))], .agg [.x (.int .i64 0), .x (.int .i64 0), .fz true (.sl 1 0 1 [])], .agg [.x (.int .i64 0), .x (.int .i64 0), .fz true (.sl 1 0 1 [])], .fz b (.sl nl2 0 1 (ivs ms)), .fz b' (.sl nl3 0 1 (ivs w)), .x (.int .i64 (gi9 q n M))] []=some (.x (.bool true),[],[]):=by
 have e1:=fun nl nr b nl2=>zs6 (q:=q) (n:=n) (M:=M) (nl:=nl) (nr:=nr) (b:=b) (nl2:=nl2) (w:=ms) he
 have e2:=fun nl nr b nl2=>hq3 (q:=q) (n:=n) (M:=M) (nl:=nl) (nr:=nr) (b:=b) (nl2:=nl2) (w:=w) he
 have e3:=fun nl nr b nl2=>w22 (q:=q) (n:=n) (M:=M) (nl:=nl) (nr:=nr) (b:=b) (nl2:=nl2) (w:=w) he
 have e4:=fun b b' nl nl'=>eb4 (b:=b) (b':=b') (nl:=nl) (nl':=nl') (l:=[]) (k:=[]) (e:=gi9 q n M) (f:=gi9 q n M) (by simp)
 simp only[if_neg he,decide_true,Bool.and_true,List.length_nil,lz6]at e4
 cases hn:fldN q.toNat with
 |none=>
  have hf:=fg0 (q:=q) hn
  rw[o10 rfl T16 rfl]
  unfold F16 c16
  simp(disch:=first|omega|fail) only[push_cast,seval,vrl,if_pos,if_neg,hf,nb8 he,e1,e4]
  rw[sb5 c16L0.eq_def]
  simp(disch:=first|omega|fail) only[push_cast,seval,vrl,if_pos,if_neg,nb8 he,e2,e3,e4]
 |some x=>
  haveI:IsFld q:=⟨⟨x.1,x.2.1,x.2.2.1,x.2.2.2,hn⟩⟩
  obtain⟨p,m,g,t,u⟩:=k75 q
  have ht:=u.n
  have ho:=u.o
  have hfe:=u.e
  rw[o10 rfl T16 rfl]
  unfold F16 c16
  simp(disch:=first|omega|fail) only[push_cast,seval,vrl,if_pos,if_neg,hfe,ht,ho,nb8 he,e1,e4]
  rw[sb5 c16L0.eq_def]
  simp(disch:=first|omega|fail) only[push_cast,seval,vrl,if_pos,if_neg,nb8 he,e2,e3,e4]
set_option maxHeartbeats 1600000
theorem qt7{q:Int}{k nl nr nl2:Nat}{b:Bool}{w:List Int}{D:List (List Int)}{e:Int}(he: ¬e=0){T0 T2 T3:Tree}(ks):
 vgoL W ⟨h16,[.tmp 12],0⟩ [4,6,8,13,15,19,20] c16L0 (.blk 0 [4,6,15,19]::ks) [(4, .fz b (.sl nl2 0 1 (ivs w))),(6, .own 0 []),(8, .own 1 []),(13, .own 2 []),(15, .x (.int .i64 e)),(19, .own 3 []),(20, .x (.int .i64 0))] [T0, .pt 24 [.v (.int .i64 q), .v (.int .i64 k), .fz (.sl nl 0 1 (lvs nr D))],T2,T3]=
  vgo W ⟨h16,[.tmp 12],0⟩ ks (VFr.of [(4, .fz b (.sl nl2 0 1 (ivs w))),(6, .own 0 []),(15, .x (.int .i64 e)),(19, .own 3 [])]) [T0, .pt 24 [.v (.int .i64 q), .v (.int .i64 k), .fz (.sl nl 0 1 (lvs nr D))],T2,T3]:=by
 rw[sb5 c16L0.eq_def]
 by_cases h:(0:Int)<(D.length:Int)
 ·simp(disch:=first|omega|fail) only[push_cast,seval,vrl,if_pos,if_neg,decide_eq_true h,nb8 he]
 ·simp(disch:=first|omega|fail) only[push_cast,seval,vrl,if_pos,if_neg,decide_eq_false h,nb8 he]
section
variable {q:Int} [IsFld q] {k nl nr nl1 nr1 nl2 nr2 nl3 nl4:Nat} {b b':Bool} {N:List (List (El q))} {ms w:List Int}
theorem w63(he:gi9 q k (N.map vs)=0)(h0:0<k)(hk:k≤64)(hl:N.length≤64)(hr: ∀r∈N,r.length=k)(hml:ms.length≤9223372036854775807)(hwl:w.length≤9223372036854775807):
 o24 W 16 [.agg [.x (.int .i64 q), .x (.int .i64 k), .fz true (.sl nl 0 1 (lvs nr (N.map vs)))], .agg [.x (.int .i64 q), .x (.int .i64 k), .fz true (.sl nl1 0 1 (lvs nr1 (pvR (redR N))))], .agg [.x (.int .i64 q), .x (.int .i64 k), .fz true (.sl nl2 0 1 (lvs nr2 (pvR (zt5 k N))))], .fz b (.sl nl3 0 1 (ivs ms)), .fz b' (.sl nl4 0 1 (ivs w)), .x (.int .i64 0)] []=some (.x (.bool true),[],[]):=by
 obtain⟨p,m,g,t,u⟩:=k75 q
 have ht:=u.n
 have ho:=u.o
 have hfe:=u.e
 have hle:=ew4 hr
 obtain⟨r1,r2,_⟩:=bi2 hr
 obtain⟨n1,n2,_,n4⟩:=sw1 hr
 have hp1:=nu3 (redR N)
 have hp2:=nu3 (zt5 k N)
 have hlist0: ∀e:Int,¬e=0→ ∀b b' nl nl',o24 W 30 [.fz b (.sl nl 0 1 []), .x (.int .i64 e), .fz b' (.sl nl' 0 1 []), .x (.int .i64 e)] []=some (.x (.bool true),[],[]):=fun e h b b' nl nl'=>by
  have:=eb4 (b:=b) (b':=b') (nl:=nl) (nl':=nl') (l:=[]) (k:=[]) (e:=e) (f:=e) (by simp)
  simpa only[if_neg h,decide_true,Bool.and_true,List.length_nil,lz6]using this
 have hels:=fun b nl=>q18 (q:=q) (b:=b) (nl:=nl) (l:=ms) hml
 rw[hfe]at hels
 have hwm:=fun nl nr b nl2=>mo8 (q:=q) (k:=k) (nl:=nl) (nr:=nr) (b:=b) (nl2:=nl2) (M:=N.map vs) (w:=w) hwl
 by_cases hw:hk8 q k w=0
 ·obtain⟨a,rfl,hal⟩:=pu5 hw
  have hD: ∀r∈p78 (zt5 k N),r.length=a.length:=fun r hr'=>by rw[zu4 n2 r hr',hal]
  have e3:=fun T0 ks=>g40 (q:=q) (k:=k) (b:=b') (nl2:=nl4) (nl:=nl2) (nr:=nr2) u (D:=p78 (zt5 k N)) (a:=a) hD (by omega) (by rw[gb3];omega) (T0:=T0) (p78 (zt5 k N)).length 0 (by omega) ks
  rw[←lo1]at e3
  simp only[Int.natCast_zero,List.take_zero,List.drop_zero,rp2,lz6,x25,List.map_nil,List.length_nil]at e3
  have e4:=fun nl nr b nl2=>tq9 (nl:=nl) (nr:=nr) (b:=b) (nl2:=nl2) he h0 hk hl hr hal
  have e5:=fun nl nr b nl2=>x79 (nl:=nl) (nr:=nr) (b:=b) (nl2:=nl2) he h0 hk hl hr hal
  have e6:=fun b b' nl nl'=>eb4 (b:=b) (b':=b') (nl:=nl) (nl':=nl') (l:=vs (synL (p78 (zt5 k N)) a)) (k:=vs (synL (p78 (zt5 k N)) a)) (e:=0) (f:=0) (by rw[fi2,js8,gb3];omega)
  simp only[if_true,decide_true,Bool.and_true]at e6
  have e7:=fun b nl=>ta9 (b:=b) (nl:=nl) (a:=vs (synL (p78 (zt5 k N)) a)) (by rw[fi2,js8,gb3];omega)
  have hwt:=px7 (vs (synL (p78 (zt5 k N)) a))
  by_cases hm:hk8 q (redR N).length ms=0
  ·obtain⟨x,rfl,hxl⟩:=pu5 hm
   simp only[vf9,Bool.not_false]at hels
   have e1:=fun nl nr b nl2=>wc4 (nl:=nl) (nr:=nr) (b:=b) (nl2:=nl2) he h0 hk hl hr hxl
   have e2:=fun nl nr b nl2=>i55 (q:=q) (nl:=nl) (nr:=nr) (b:=b) (nl2:=nl2) (ms:=x) (R:=p78 (redR N)) (by rw[gb3,hxl]) (by omega) (zu4 r2) h0 (by omega)
   rw[←lo1,hfe]at e2
   have e8:=fun b b' nl nl'=>eb4 (b:=b) (b':=b') (nl:=nl) (nl':=nl') (l:=vs (encL k x (p78 (redR N)))) (k:=vs (encL k x (p78 (redR N)))) (e:=0) (f:=0) (by rw[fi2,b87];omega)
   simp only[if_true,decide_true,Bool.and_true]at e8
   rw[o10 rfl T16 rfl]
   unfold F16 c16
   simp(disch:=first|omega|fail) only[push_cast,seval,vrl,if_pos,if_neg,hfe,ht,ho,hp1,hxl,hels,e1,e2,e8,hwm,hw]
   rw[e3]
   simp(disch:=first|omega|fail) only[push_cast,seval,vrl,if_pos,if_neg,e4,e5,e6,e7,hwt,beq_self_eq_true]
  ·by_cases hq:ms.length=(redR N).length
   ·have hz:(ms.any fun v=> !fok q v)=true:=by
     cases hz:(ms.any fun v=> !fok q v)with
     |true=>rfl
     |false=>unfold hk8 at hm;rw[if_neg (fun h=>h hq),hz]at hm;exact absurd (if_neg (by decide)) hm
    simp only[hz,Bool.not_true]at hels
    have e1:=fun nl nr b nl2=>mi2 (nl:=nl) (nr:=nr) (b:=b) (nl2:=nl2) he h0 hk hl hr hml hm
    have hE:hk8 q (redR N).length ms=2:=by unfold hk8;rw[if_neg (fun h=>h hq),if_pos hz]
    rw[hE]at e1
    have e8:=hlist0 2 (by decide)
    rw[o10 rfl T16 rfl]
    unfold F16 c16
    simp(disch:=first|omega|fail) only[push_cast,seval,vrl,if_pos,if_neg,hfe,ht,ho,hp1,hq,hels,e1,e8,hwm,hw]
    rw[e3]
    simp(disch:=first|omega|fail) only[push_cast,seval,vrl,if_pos,if_neg,e4,e5,e6,e7,hwt,beq_self_eq_true]
   ·have e1:=fun nl nr b nl2=>mi2 (nl:=nl) (nr:=nr) (b:=b) (nl2:=nl2) he h0 hk hl hr hml hm
    have hE:hk8 q (redR N).length ms=6:=by unfold hk8;rw[if_pos hq]
    rw[hE]at e1
    have e8:=hlist0 6 (by decide)
    rw[o10 rfl T16 rfl]
    unfold F16 c16
    simp(disch:=first|omega|fail) only[push_cast,seval,vrl,if_pos,if_neg,hfe,ht,ho,hp1,nb8 (show¬(ms.length:Int)=((redR N).length:Int) by omega),e1,e8,hwm,hw]
    rw[e3]
    simp(disch:=first|omega|fail) only[push_cast,seval,vrl,if_pos,if_neg,e4,e5,e6,e7,hwt,beq_self_eq_true]
 ·have e4:=fun nl nr b nl2=>ku4 (nl:=nl) (nr:=nr) (b:=b) (nl2:=nl2) he h0 hk hl hr hwl hw
  have e5:=fun nl nr b nl2=>ad0 (nl:=nl) (nr:=nr) (b:=b) (nl2:=nl2) he h0 hk hl hr hwl hw
  have e6:=hlist0 (hk8 q k w) hw
  have e9:=fun T0 T2 T3 ks=>qt7 (q:=q) (k:=k) (b:=b') (nl2:=nl4) (nl:=nl2) (nr:=nr2) (w:=w) (D:=pvR (zt5 k N)) (T0:=T0) (T2:=T2) (T3:=T3) hw ks
  by_cases hm:hk8 q (redR N).length ms=0
  ·obtain⟨x,rfl,hxl⟩:=pu5 hm
   simp only[vf9,Bool.not_false]at hels
   have e1:=fun nl nr b nl2=>wc4 (nl:=nl) (nr:=nr) (b:=b) (nl2:=nl2) he h0 hk hl hr hxl
   have e2:=fun nl nr b nl2=>i55 (q:=q) (nl:=nl) (nr:=nr) (b:=b) (nl2:=nl2) (ms:=x) (R:=p78 (redR N)) (by rw[gb3,hxl]) (by omega) (zu4 r2) h0 (by omega)
   rw[←lo1,hfe]at e2
   have e8:=fun b b' nl nl'=>eb4 (b:=b) (b':=b') (nl:=nl) (nl':=nl') (l:=vs (encL k x (p78 (redR N)))) (k:=vs (encL k x (p78 (redR N)))) (e:=0) (f:=0) (by rw[fi2,b87];omega)
   simp only[if_true,decide_true,Bool.and_true]at e8
   rw[o10 rfl T16 rfl]
   unfold F16 c16
   simp(disch:=first|omega|fail) only[push_cast,seval,vrl,if_pos,if_neg,hfe,ht,ho,hp1,hxl,hels,e1,e2,e8,hwm]
   rw[e9]
   simp(disch:=first|omega|fail) only[push_cast,seval,vrl,if_pos,if_neg,nb8 hw,e4,e5,e6]
  ·by_cases hq:ms.length=(redR N).length
   ·have hz:(ms.any fun v=> !fok q v)=true:=by
     cases hz:(ms.any fun v=> !fok q v)with
     |true=>rfl
     |false=>unfold hk8 at hm;rw[if_neg (fun h=>h hq),hz]at hm;exact absurd (if_neg (by decide)) hm
    simp only[hz,Bool.not_true]at hels
    have e1:=fun nl nr b nl2=>mi2 (nl:=nl) (nr:=nr) (b:=b) (nl2:=nl2) he h0 hk hl hr hml hm
    have hE:hk8 q (redR N).length ms=2:=by unfold hk8;rw[if_neg (fun h=>h hq),if_pos hz]
    rw[hE]at e1
    have e8:=hlist0 2 (by decide)
    rw[o10 rfl T16 rfl]
    unfold F16 c16
    simp(disch:=first|omega|fail) only[push_cast,seval,vrl,if_pos,if_neg,hfe,ht,ho,hp1,hq,hels,e1,e8,hwm]
    rw[e9]
    simp(disch:=first|omega|fail) only[push_cast,seval,vrl,if_pos,if_neg,nb8 hw,e4,e5,e6]
   ·have e1:=fun nl nr b nl2=>mi2 (nl:=nl) (nr:=nr) (b:=b) (nl2:=nl2) he h0 hk hl hr hml hm
    have hE:hk8 q (redR N).length ms=6:=by unfold hk8;rw[if_pos hq]
    rw[hE]at e1
    have e8:=hlist0 6 (by decide)
    rw[o10 rfl T16 rfl]
    unfold F16 c16
    simp(disch:=first|omega|fail) only[push_cast,seval,vrl,if_pos,if_neg,hfe,ht,ho,hp1,nb8 (show¬(ms.length:Int)=((redR N).length:Int) by omega),e1,e8,hwm]
    rw[e9]
    simp(disch:=first|omega|fail) only[push_cast,seval,vrl,if_pos,if_neg,nb8 hw,e4,e5,e6]
end
section
variable {q n q' n':Int} {nl nr nl' nr':Nat} {M M':List (List Int)}
theorem aa7{q:Int}{N:List (List (El q))}{n:Nat}(hr: ∀r∈N,r.length=n)(hn:n≤100000): ∀r∈N.map vs,r.length≤9223372036854775807:=fun c hc=>by
 obtain⟨r,hr',rfl⟩:=List.mem_map.1 hc
 rw[fi2,hr r hr'];omega
end
set_option maxHeartbeats 1600000
theorem bc5{q n a:Int}{nl nr:Nat}{M:List (List Int)}(he: ¬gi9 q n M=0):
 o24 W 17 [.agg [.x (.int .i64 q), .x (.int .i64 n), .fz true (.sl nl 0 1 (lvs nr M))], .x (.int .i64 a), .x (.int .i64 (gi9 q n M))] []=some (.x (.bool true),[],[]):=by
 have ha:atE q n M a=gi9 q n M:=by unfold atE;rw[if_neg he]
 have hx:extE q n M=gi9 q n M:=by unfold extE;rw[if_neg he]
 have e1:=fun nl nr=>fv1 (q:=q) (n:=n) (M:=M) (nl:=nl) (nr:=nr) (a:=a) (by rw[ha];exact he)
 have e2:=fun nl nr=>gt7 (q:=q) (n:=n) (M:=M) (nl:=nl) (nr:=nr) (a:=a) (by rw[ha];exact he)
 have e3:=fun nl nr=>da4 (q:=q) (n:=n) (M:=M) (nl:=nl) (nr:=nr) (by rw[hx];exact he)
 rw[ha]at e1 e2
 rw[hx]at e3
 have e4:=v05 he
 rw[o10 rfl T17 rfl]
 unfold F17 c17
 simp(disch:=first|omega|fail) only[push_cast,seval,vrl,if_pos,if_neg,nb8 he,e1,e2,e3,e4]
section
variable {q:Int} [IsFld q] {k nl nr:Nat} {N:List (List (El q))} {a:Int}
theorem ka6{n':Nat}{X:List (List (El q))}(hX: ∀r∈X,r.length=n')(hl:X.length≤64)(hn:n'≤64):(pvR (redR X)).length≤9223372036854775807∧ ∀r∈pvR (redR X),r.length≤9223372036854775807:=by
 have h1:=ew4 hX
 obtain⟨_,r2,_⟩:=bi2 hX
 exact⟨by rw[nu3];omega,by rw[lo1];exact aa7 (zu4 r2) (by omega)⟩
theorem mz2(he:gi9 q k (N.map vs)=0)(h0:0<k)(hk:k≤64)(hl:N.length≤64)(hr: ∀r∈N,r.length=k):
 o24 W 17 [.agg [.x (.int .i64 q), .x (.int .i64 k), .fz true (.sl nl 0 1 (lvs nr (N.map vs)))], .x (.int .i64 a), .x (.int .i64 0)] []=some (.x (.bool true),[],[]):=by
 by_cases hin:0≤a∧a<(k:Int)
 ·obtain⟨a,rfl⟩: ∃a':Nat,a=(a':Int):=⟨a.toNat,by omega⟩
  by_cases h1:k=1
  ·have ha:atE q k (N.map vs) a=4:=by unfold atE;rw[if_pos he,if_pos hin,if_pos (by omega)]
   have e1:=fun nl nr=>fv1 (q:=q) (n:=k) (M:=N.map vs) (nl:=nl) (nr:=nr) (a:=a) (by rw[ha];decide)
   have e2:=fun nl nr=>gt7 (q:=q) (n:=k) (M:=N.map vs) (nl:=nl) (nr:=nr) (a:=a) (by rw[ha];decide)
   rw[ha]at e1 e2
   have e4:=v05 (e:=4) (by decide)
   by_cases h64:k=64
   ·exfalso;omega
   ·have e3:=fun nl nr=>tw5 (nl:=nl) (nr:=nr) he h0 (by omega) hl hr
    have e5:=fun nl nr=>ku2 (q:=q) (nl:=nl) (nr:=nr) h0 (by omega) hl hr
    have hq:=ka6 (q:=q) (X:=N.map extL) (n':=k+1) (fun r hr'=>by
     obtain⟨x,hx,rfl⟩:=List.mem_map.1 hr'
     rw[x19,hr x hx]) (by simp;omega) (by omega)
    have e6:=fun nl nr nl' nr'=>p72 (q:=q) (n:=(k:Int)+1) (M:=pvR (redR (N.map extL))) (nl:=nl) (nr:=nr) (nl':=nl') (nr':=nr') hq.1 hq.2
    rw[o10 rfl T17 rfl]
    unfold F17 c17
    simp(disch:=first|omega|fail) only[push_cast,seval,vrl,if_pos,if_neg,cw6 hin.1,qc6 hin.2,mr8 (show(k:Int)=1 by omega),e1,e2,e4,nb8 (show¬(k:Int)=64 by omega),e3,e5,e6]
  ·have e1:=fun nl nr=>b22 (nl:=nl) (nr:=nr) (a:=a) he (by omega) hk (by omega) hl hr
   have e2:=fun nl nr=>bg7 (nl:=nl) (nr:=nr) (a:=a) he (by omega) hk (by omega) hl hr
   have e7:=fun nl nr=>x32 (q:=q) (nl:=nl) (nr:=nr) (a:=a) (N:=N) (k:=k) (by omega) hk (by omega) hl hr
   have e8:=fun nl nr=>ev6 (q:=q) (nl:=nl) (nr:=nr) (a:=a) (N:=N) (k:=k) (by omega) hk (by omega) hl hr
   have hs:(shL a none N).length≤N.length:=by
    rcases af6 (a:=a) N with⟨h1,_⟩|⟨A,o,B,h1,_,h3⟩
    ·rw[h1];exact Nat.le_refl _
    ·rw[h3,h1];unfold rdL;simp
   have hp:=ka6 (q:=q) (X:=N.map fun r=>r.eraseIdx a) (n':=k-1) (jj1 (by omega) hr) (by simp;omega) (by omega)
   have hp2:=ka6 (q:=q) (X:=(shL a none N).map fun r=>r.eraseIdx a) (n':=k-1) (jj1 (by omega) (li4 hr)) (by simp;omega) (by omega)
   have e4:=fun nl nr nl' nr'=>p72 (q:=q) (n:=(k:Int)-1) (M:=pvR (redR (N.map fun r=>r.eraseIdx a))) (nl:=nl) (nr:=nr) (nl':=nl') (nr':=nr') hp.1 hp.2
   have e9:=fun nl nr nl' nr'=>p72 (q:=q) (n:=(k:Int)-1) (M:=pvR (redR ((shL a none N).map fun r=>r.eraseIdx a))) (nl:=nl) (nr:=nr) (nl':=nl') (nr':=nr') hp2.1 hp2.2
   by_cases h64:k=64
   ·have hx:extE q k (N.map vs)=4:=by unfold extE;rw[if_pos he,if_pos (by omega)]
    have e3:=fun nl nr=>da4 (q:=q) (n:=k) (M:=N.map vs) (nl:=nl) (nr:=nr) (by rw[hx];decide)
    rw[hx]at e3
    have e6:=v05 (e:=4) (by decide)
    rw[o10 rfl T17 rfl]
    unfold F17 c17
    simp(disch:=first|omega|fail) only[push_cast,seval,vrl,if_pos,if_neg,cw6 hin.1,qc6 hin.2,nb8 (show¬(k:Int)=1 by omega),e1,e2,e7,e8,e4,e9,mr8 (show(k:Int)=64 by omega),e3,e6]
   ·have e3:=fun nl nr=>tw5 (nl:=nl) (nr:=nr) he h0 (by omega) hl hr
    have e5:=fun nl nr=>ku2 (q:=q) (nl:=nl) (nr:=nr) h0 (by omega) hl hr
    have hq:=ka6 (q:=q) (X:=N.map extL) (n':=k+1) (fun r hr'=>by
     obtain⟨x,hx,rfl⟩:=List.mem_map.1 hr'
     rw[x19,hr x hx]) (by simp;omega) (by omega)
    have e6:=fun nl nr nl' nr'=>p72 (q:=q) (n:=(k:Int)+1) (M:=pvR (redR (N.map extL))) (nl:=nl) (nr:=nr) (nl':=nl') (nr':=nr') hq.1 hq.2
    rw[o10 rfl T17 rfl]
    unfold F17 c17
    simp(disch:=first|omega|fail) only[push_cast,seval,vrl,if_pos,if_neg,cw6 hin.1,qc6 hin.2,nb8 (show¬(k:Int)=1 by omega),e1,e2,e7,e8,e4,e9,nb8 (show¬(k:Int)=64 by omega),e3,e5,e6]
 ·have ha:atE q k (N.map vs) a=10:=by unfold atE;rw[if_pos he,if_neg hin]
  have e1:=fun nl nr=>fv1 (q:=q) (n:=k) (M:=N.map vs) (nl:=nl) (nr:=nr) (a:=a) (by rw[ha];decide)
  have e2:=fun nl nr=>gt7 (q:=q) (n:=k) (M:=N.map vs) (nl:=nl) (nr:=nr) (a:=a) (by rw[ha];decide)
  rw[ha]at e1 e2
  have e4:=v05 (e:=10) (by decide)
  by_cases hn:a<0
  ·by_cases h64:k=64
   ·have hx:extE q k (N.map vs)=4:=by unfold extE;rw[if_pos he,if_pos (by omega)]
    have e3:=fun nl nr=>da4 (q:=q) (n:=k) (M:=N.map vs) (nl:=nl) (nr:=nr) (by rw[hx];decide)
    rw[hx]at e3
    have e6:=v05 (e:=4) (by decide)
    rw[o10 rfl T17 rfl]
    unfold F17 c17
    simp(disch:=first|omega|fail) only[push_cast,seval,vrl,if_pos,if_neg,dec_lt hn,e1,e2,e4,mr8 (show(k:Int)=64 by omega),e3,e6]
   ·have e3:=fun nl nr=>tw5 (nl:=nl) (nr:=nr) he h0 (by omega) hl hr
    have e5:=fun nl nr=>ku2 (q:=q) (nl:=nl) (nr:=nr) h0 (by omega) hl hr
    have hq:=ka6 (q:=q) (X:=N.map extL) (n':=k+1) (fun r hr'=>by
     obtain⟨x,hx,rfl⟩:=List.mem_map.1 hr'
     rw[x19,hr x hx]) (by simp;omega) (by omega)
    have e6:=fun nl nr nl' nr'=>p72 (q:=q) (n:=(k:Int)+1) (M:=pvR (redR (N.map extL))) (nl:=nl) (nr:=nr) (nl':=nl') (nr':=nr') hq.1 hq.2
    rw[o10 rfl T17 rfl]
    unfold F17 c17
    simp(disch:=first|omega|fail) only[push_cast,seval,vrl,if_pos,if_neg,dec_lt hn,e1,e2,e4,nb8 (show¬(k:Int)=64 by omega),e3,e5,e6]
  ·by_cases h64:k=64
   ·have hx:extE q k (N.map vs)=4:=by unfold extE;rw[if_pos he,if_pos (by omega)]
    have e3:=fun nl nr=>da4 (q:=q) (n:=k) (M:=N.map vs) (nl:=nl) (nr:=nr) (by rw[hx];decide)
    rw[hx]at e3
    have e6:=v05 (e:=4) (by decide)
    rw[o10 rfl T17 rfl]
    unfold F17 c17
    simp(disch:=first|omega|fail) only[push_cast,seval,vrl,if_pos,if_neg,cw6 (Int.not_lt.1 hn),nl5 (show(k:Int)≤a by omega),e1,e2,e4,mr8 (show(k:Int)=64 by omega),e3,e6]
   ·have e3:=fun nl nr=>tw5 (nl:=nl) (nr:=nr) he h0 (by omega) hl hr
    have e5:=fun nl nr=>ku2 (q:=q) (nl:=nl) (nr:=nr) h0 (by omega) hl hr
    have hq:=ka6 (q:=q) (X:=N.map extL) (n':=k+1) (fun r hr'=>by
     obtain⟨x,hx,rfl⟩:=List.mem_map.1 hr'
     rw[x19,hr x hx]) (by simp;omega) (by omega)
    have e6:=fun nl nr nl' nr'=>p72 (q:=q) (n:=(k:Int)+1) (M:=pvR (redR (N.map extL))) (nl:=nl) (nr:=nr) (nl':=nl') (nr':=nr') hq.1 hq.2
    rw[o10 rfl T17 rfl]
    unfold F17 c17
    simp(disch:=first|omega|fail) only[push_cast,seval,vrl,if_pos,if_neg,cw6 (Int.not_lt.1 hn),nl5 (show(k:Int)≤a by omega),e1,e2,e4,nb8 (show¬(k:Int)=64 by omega),e3,e5,e6]
end
theorem u68{q n a:Int}{nl nl2 nl3:Nat}{M:List (List Int)}{b b':Bool}{ms w:List Int}(hl:M.length≤9223372036854775807)(hml:ms.length≤9223372036854775807)(hwl:w.length≤9223372036854775807):
 o24 W 3 [.agg [.x (.int .i64 q), .x (.int .i64 n), .fz true (.sl nl 0 1 (lvs 2 M))], .fz b (.sl nl2 0 1 (ivs ms)), .fz b' (.sl nl3 0 1 (ivs w)), .x (.int .i64 a)] []=some (.x (.bool true),[],[]):=by
 obtain⟨z1,w1⟩:=tr6 hl
 cases z1 with
 |true=>
  rw[o10 rfl T3 rfl]
  unfold F3 c3
  simp(disch:=first|omega|fail) only[push_cast,seval,vrl,if_pos,if_neg,w1]
 |false=>
 by_cases h200:200<IntKind.wrap .i64 ((ms.length:Int)+(w.length:Int))
 ·rw[o10 rfl T3 rfl]
  unfold F3 c3
  simp(disch:=first|omega|fail) only[push_cast,seval,vrl,if_pos,if_neg,w1,dec_lt h200]
 ·have h200':=cw6 (Int.not_lt.1 h200)
  have e1:=fun nl nr=>hg6 (q:=q) (n:=n) (M:=M) (nl:=nl) (nr:=nr)
  have e2:=fun nl nr=>um1 (q:=q) (n:=n) (M:=M) (nl:=nl) (nr:=nr)
  have f1:=fun b nl=>fd2 (b:=b) (nl:=nl) (a:=w) hwl
  have f2:=fun b nl=>ta9 (b:=b) (nl:=nl) (a:=w) hwl
  have f3:=fun b b' nl nl'=>w74 (b:=b) (b':=b') (nl:=nl) (nl':=nl') (a:=w) (c:=ms) hwl hml
  have f4:=fun b b' nl nl'=>vg3 (b:=b) (b':=b') (nl:=nl) (nl':=nl') (a:=w) (c:=ms) hwl hml
  by_cases he:gi9 q n M=0
  ·obtain⟨k,rfl,h0,hk,hf,N,rfl,hNl,hr⟩:=hs4 he
   have l1:(List.map vs N).length=N.length:=List.length_map _
   have e3:=fun nl nr=>ob1 (nl:=nl) (nr:=nr) he h0 hk hNl hr
   have e4:=fun nl nr=>x92 (nl:=nl) (nr:=nr) he h0 hk hNl hr
   have e5:=fun nl nr n=>vd8 (q:=q) (nl:=nl) (nr:=nr) (n:=n) (by omega) hr (by omega)
   have e6:=fun nl nr=>x85 (q:=q) (nl:=nl) (nr:=nr) (by omega) hr (by omega)
   have hp:=ka6 (q:=q) (X:=N) hr hNl hk
   obtain⟨n1,n2,_,n4⟩:=sw1 hr
   have e7:=fun nl nr nl' nr'=>p72 (q:=q) (n:=(k:Int)) (M:=pvR (redR N)) (nl:=nl) (nr:=nr) (nl':=nl') (nr':=nr') hp.1 hp.2
   have e8:=fun nl nr nl' nr'=>p72 (q:=q) (n:=(k:Int)) (M:=pvR (zt5 k N)) (nl:=nl) (nr:=nr) (nl':=nl') (nr':=nr') (by rw[nu3];omega) (by rw[lo1];exact aa7 (zu4 n2) (by omega))
   have e9:=fun nl nr nl1 nr1 nl2 nr2 nl3 nl4 b b'=>w63 (nl:=nl) (nr:=nr) (nl1:=nl1) (nr1:=nr1) (nl2:=nl2) (nr2:=nr2) (nl3:=nl3) (nl4:=nl4) (b:=b) (b':=b') he h0 hk hNl hr hml hwl
   have e10:=fun nl nr=>mz2 (nl:=nl) (nr:=nr) (a:=a) he h0 hk hNl hr
   rw[o10 rfl T3 rfl]
   unfold F3 c3
   simp(disch:=first|omega|fail) only[push_cast,seval,vrl,if_pos,if_neg,w1,h200',l1,e1,e2,he,e3,e4,e5,e6,e7,e8,f1,f2,f3,f4,e9,e10]
  ·have e3:=fun nl nr=>so4 (q:=q) (n:=n) (M:=M) (nl:=nl) (nr:=nr) he
   have e4:=fun nl nr=>cs1 (q:=q) (n:=n) (M:=M) (nl:=nl) (nr:=nr) he
   have e7:=v05 he
   have e9:=fun nl nr nl2 nl3 b b'=>um2 (nl:=nl) (nr:=nr) (nl2:=nl2) (nl3:=nl3) (b:=b) (b':=b') (ms:=ms) (w:=w) he
   have e10:=fun nl nr=>bc5 (nl:=nl) (nr:=nr) (a:=a) he
   rw[o10 rfl T3 rfl]
   unfold F3 c3
   simp(disch:=first|omega|fail) only[push_cast,seval,vrl,if_pos,if_neg,w1,h200',e1,e2,nb8 he,e3,e4,e7,f1,f2,f3,f4,e9,e10]
section
variable {h:H} {l:List AV} {ws:List Value}
theorem a23:Vm.VRL h [] (allZ h) (allZ h) [] []:=by rw[Vm.VRL]
theorem dp0(r:Vm.VRL h [] (allZ h) (allZ h) l ws)(v:Value):Vm.VRL h [] (allZ h) (allZ h) (.x v::l) (v::ws):=by
 rw[Vm.VRL];exact⟨v,ws,rfl,by rw[Vm.VR],r⟩
theorem qj4{sa:Option Addr}{c:Nat}{zs:List Int}(hr:RdI h sa c zs): ∀o,sa.map (·.block)=some o→allZ h o:=fun o ho=>by
 rcases hr with⟨rfl,_⟩|⟨_,o2,off,r2,rfl,h1,_⟩
 ·cases ho
 ·cases ho;exact h42 h1
theorem sk6(r:Vm.VRL h [] (allZ h) (allZ h) l ws){sa:Option Addr}{c:Nat}{zs:List Int}(hr:RdI h sa c zs):Vm.VRL h [] (allZ h) (allZ h) (.fz true (.sl 2 0 1 (ivs zs))::l) (.slice sa zs.length c::ws):=by
 rw[Vm.VRL];exact⟨_,ws,rfl,by rw[Vm.VR];exact pd9 hr (qj4 hr),r⟩
theorem ds5(r:Vm.VRL h [] (allZ h) (allZ h) l ws){sa:Option Addr}{c:Nat}{m:List (List Int)}(hr:RdLL h sa c m)(hu:ss4 h 1 sa=true):Vm.VRL h [] (allZ h) (allZ h) (.fz true (.sl 2 0 1 (lvs 2 m))::l) (.slice sa m.length c::ws):=by
 rw[Vm.VRL];exact⟨_,ws,rfl,by rw[Vm.VR];exact gl3 hr hu fun _ ho=>ho,r⟩
end
end Go.Proofs.YtodbgomfeacdhaaGreat
namespace Go.Am
theorem n61{P:Program}{w:World}{base:Nat}{t:TypeId}{fs:Array Field}(ht:P.underlying t=some (.struct fs)){cs:Array Value}(h:Value.okWide P w .any base t (.agg cs)){ts:List TypeId}(hts:P.cellTypes P.depth t=some ts)(hl:cs.size=ts.length){i:Nat}{v:Value}(hv:cs[i]? =some v){u:TypeId}(hu:ts[i]? =some u):Cell.okWide P w .any base u v:=by
 simp only[Value.okWide,ht]at h
 obtain⟨cs',h1,h2,ts',h3,h4,h5⟩:=h
 cases h1
 rw[hts]at h3
 cases h3
 obtain⟨u',h6,h7⟩:=h5 i v hv
 have hi:i<ts.length:=by rw[←hl];exact(Array.getElem?_eq_some_iff.1 hv).1
 rw[Nat.mod_eq_of_lt hi,hu]at h6
 cases h6
 exact h7
theorem bm1{P:Program}{w:World}{base:Nat}{t e:TypeId}{x:Addr}{len cap:Nat}(ht:P.underlying t=some (.slice e))(h:Cell.okWide P w .any base t (.slice (some x) len cap)):x.spot=none∧x.block<w.heap.size:=
 yk7 (base:=base) ht (by simp only[Value.okWide,ht];exact h)
section
variable {φ:Ren} {n:Nat} {v v':Value}
theorem lr3{a b:Int}(h:VR φ n v v')(h1:v.oneCell'=true):VR φ n (.agg #[.int .i64 a, .int .i64 b,v]) (.agg #[.int .i64 a, .int .i64 b,v']):=by
 refine .agg _ _ rfl (fun i hi=> ?_) fun i hi hi'=> ?_
 ·match i,hi with
  |0,_=>rfl
  |1,_=>rfl
  |2,_=>exact h1
 ·match i,hi with
  |0,_=>exact .int .i64 a
  |1,_=>exact .int .i64 b
  |2,_=>exact h
end
end Go.Am
namespace Go.Am
open Go.Deep Go.WideShapes Go.ChangeShapes
def w2(W:World)(x:Addr)(i:Nat)(q:Int×Int):Prop:=W.cell? (x.add (i*2))=some (.int .i64 q.1)∧W.cell? (x.add (i*2+1))=some (.int .i64 q.2)
section
variable {H:Type} {enc:TypeId×Value→H} {P:Program} {W:World} {base:Nat} {held:Bool} {t i3 s2 s3:TypeId} {f0 f1 f2:Field} {v:Value} {d:DataW H} {p:List MemPlace}
theorem c97(ht:P.underlying t=some (.struct #[f0,f1,f2]))(h3:P.underlying i3=some (.int .i64))(h22:P.underlying s2=some (.slice s3))(h23:P.underlying s3=some (.slice i3))
 (F:f0.type=i3∧f0.offset=0∧f1.type=i3∧f1.offset=1∧f2.type=s2∧f2.offset=2) (C:P.cellsOf i3=1∧P.cellsOf s2=1∧P.cellsOf s3=1∧P.cellsOf t=3) (hts:P.cellTypes P.depth t=some [i3,i3,s2])
 (hval:Value.okWide P W .any base t v) (h:DataW.Trod enc P W 0 (fun _=>true) held t v d p):
 ∃a b A len cap z,v= .agg #[.int .i64 a, .int .i64 b, .slice A len cap]∧(Lit.int .i64 a).wf=true∧(Lit.int .i64 b).wf=true∧RoL W A len cap z∧len≤maxLen∧ ∀l∈z,l.length≤maxLen:=by
 obtain⟨cs,rfl,hsz⟩:=okWide_struct ht hval
 obtain⟨C1,C2,C3,C4⟩:=C
 obtain⟨F1,F2,F3,F4,F5,F6⟩:=F
 rw[C4]at hsz
 obtain⟨x0,x1,x2,rfl⟩: ∃x0 x1 x2,cs= #[x0,x1,x2]:=by
  obtain⟨l⟩:=cs
  match l,hsz with
  | [x0,x1,x2],_=>exact⟨_,_,_,rfl⟩
 obtain⟨fuel,hf⟩:=h
 obtain⟨xs,n,_,_,_,hxl,hfl⟩:=DataW.trod_struct ht hf
 have g0:=hfl 0 f0 rfl
 have g1:=hfl 1 f1 rfl
 have g2:=hfl 2 f2 rfl
 have hxl3:xs.length=3:=hxl
 obtain⟨y0,y1,y2,rfl⟩: ∃y0 y1 y2,xs=[y0,y1,y2]:=by
  match xs,hxl3 with
  | [y0,y1,y2],_=>exact⟨_,_,_,rfl⟩
 simp[F1,F2,F3,F4,F5,F6,C1,C2,Value.cells]at g0 g1 g2
 obtain⟨a,ha,_,wa⟩:=DataW.trod_int h3 g0
 obtain⟨b,hb,_,wb⟩:=DataW.trod_int h3 g1
 obtain rfl:x0= .int .i64 a:=by simpa using ha
 obtain rfl:x1= .int .i64 b:=by simpa using hb
 rcases open_int_rows h22 h23 h3 C3 C1 g2 with⟨hcs,_⟩|⟨x,l,c,Ad,Ln,Cp,Z,hcs,_,hl,hm,_,hrow⟩
 ·obtain rfl:x2= .slice none 0 0:=by simpa using hcs
  exact⟨a,b,none,0,0,[],rfl,wa,wb,⟨rfl, .inl ⟨rfl,rfl,rfl⟩⟩,Nat.zero_le _,fun _ h=>absurd h List.not_mem_nil⟩
 ·obtain rfl:x2= .slice (some x) l c:=by simpa using hcs
  have had:=bm1 h22 (n61 ht hval hts rfl (i:=2) rfl rfl)
  refine⟨a,b,some x,l,c,_,rfl,wa,wb,RoL.of had.1 had.2 hl hrow,Nat.le_trans hl hm,fun l' hl'=> ?_⟩
  obtain⟨r,hr,rfl⟩:=List.mem_map.1 hl'
  have:=List.mem_range.1 hr
  obtain⟨_,q1,q2,q3,_⟩:=hrow r (by omega)
  rw[List.length_take]
  omega
end
end Go.Am
namespace Go.Proofs.YtodbgomfeacdhaaGreat
open Go.Am Go.Vm Go.Alg
section
variable {h:H} {l:List AV} {ws:List Value}
theorem wy9(r:Vm.VRL h [] (allZ h) (allZ h) l ws){q n:Int}{sa:Option Addr}{c:Nat}{m:List (List Int)}(hr:RdLL h sa c m)(hu:ss4 h 1 sa=true):
 Vm.VRL h [] (allZ h) (allZ h) (.agg [.x (.int .i64 q), .x (.int .i64 n), .fz true (.sl 2 0 1 (lvs 2 m))]::l) (.agg #[.int .i64 q, .int .i64 n, .slice sa m.length c]::ws):=by
 rw[Vm.VRL]
 refine⟨_,ws,rfl, ?_,r⟩
 rw[Vm.VR]
 exact⟨_,rfl,dp0 (dp0 (ds5 a23 hr hu) _) _⟩
end
end Go.Proofs.YtodbgomfeacdhaaGreat
