/-
  How many words can stand apart, in plain Lean: of more words than others span them some are told by the rest; what rows make 0; rows turned. No condition. What comes back of a word of values of a polynomial, few of which are wrong: there is but one message, and whatever pair of polynomials hangs on each other at all places tells it. Condition: a field. The one form is told by what rows span; a for ..
-/
import Derived.Test.YtlhmdmedagjmnaaGreatK8
set_option linter.unusedVariables false
set_option linter.unusedSimpArgs false
set_option linter.unusedSectionVars false
set_option maxRecDepth 100000
namespace Go.Alg
section
variable {K:Type} [FK K]
theorem y46{α β:Type}(f:α×β→K): ∀(l:List α) (l':List β),l.length=l'.length→ ∀l2 l2',sumL ((l++l2).zip (l'++l2')) f=sumL (l.zip l') f+sumL (l2.zip l2') f:=fun l l' h l2 l2'=>by
 rw[List.zip_append h,up0]
theorem uj4{α β γ:Type}(g:β→γ)(f:α×γ→K): ∀(l:List α) (l':List β),sumL (l.zip (l'.map g)) f=sumL (l.zip l') (fun p=>f (p.1,g p.2))
 | [],_=>rfl
 |_::_,[]=>rfl
 |a::l,b::l'=>by rw[List.map_cons,List.zip_cons_cons,List.zip_cons_cons,gb6,gb6,uj4 g f l l']
theorem hom: ∀(r:Nat) (S:List (Nat→K)),r<S.length→ ∃y:List K,y.length=S.length∧(∃a∈y,a≠0)∧ ∀j,j<r→sumL (y.zip S) (fun p=>p.1*p.2 j)=0
 |0,S,h=>by
  refine⟨List.replicate S.length 1,List.length_replicate,⟨1,List.mem_replicate.2 ⟨by omega,rfl⟩,ki8⟩,fun j hj=>absurd hj (Nat.not_lt_zero j)⟩
 |r+1,S,h=>by
  by_cases hs: ∃s∈S,s r≠0
  ·obtain⟨s,hs,hne⟩:=hs
   obtain⟨S1,S2,rfl⟩:=List.append_of_mem hs
   have hl:r<((S1++S2).map (fun(t:Nat→K) j=>t j-t r*FK.inv (s r)*s j)).length:=by
    simp only[List.length_map,List.length_append,List.length_cons]at h⊢;omega
   obtain⟨y,y1,⟨a,y2,y3⟩,y4⟩:=hom r _ hl
   rw[List.length_map,List.length_append]at y1
   have hsp:y=y.take S1.length++y.drop S1.length:=(List.take_append_drop _ _).symm
   have h1:(y.take S1.length).length=S1.length:=by rw[List.length_take];omega
   have h2:(y.drop S1.length).length=S2.length:=by rw[List.length_drop];omega
   generalize y.take S1.length=u at hsp h1
   generalize y.drop S1.length=w at hsp h2
   subst hsp
   have hsum: ∀(c:K) j,sumL ((u++c::w).zip (S1++s::S2)) (fun p=>p.1*p.2 j)=sumL ((u++w).zip (S1++S2)) (fun p=>p.1*p.2 j)+c*s j:=fun c j=>by
    rw[y46 _ _ _ h1,y46 _ _ _ h1,List.zip_cons_cons,gb6,FK.add_assoc,FK.add_comm (sumL (w.zip S2) _)]
   refine⟨u++ -(sumL ((u++w).zip (S1++S2)) (fun p=>p.1*p.2 r)*FK.inv (s r))::w, ?_,⟨a, ?_,y3⟩,fun j hj=> ?_⟩
   ·simp only[List.length_append,List.length_cons,h1,h2]
   ·simp only[List.mem_append,List.mem_cons]at y2⊢
    rcases y2 with y2|y2
    ·exact .inl y2
    ·exact .inr (.inr y2)
   ·rw[hsum]
    by_cases hjr:j=r
    ·subst hjr
     rw[neg_mul,FK.mul_assoc,inv_mul hne,FK.mul_one,FK.add_neg]
    ·have h3:=y4 j (by omega)
     rw[uj4]at h3
     have h4:sumL ((u++w).zip (S1++S2)) (fun p=>p.1*(p.2 j-p.2 r*FK.inv (s r)*s j))=sumL ((u++w).zip (S1++S2)) (fun p=>p.1*p.2 j)-sumL ((u++w).zip (S1++S2)) (fun p=>p.1*p.2 r)*FK.inv (s r)*s j:=by
      rw[←ue3,←ue3,←b15]
      refine ox7 fun p _=> ?_
      rw[mul_sub,←FK.mul_assoc,←FK.mul_assoc]
     have h3:sumL ((u++w).zip (S1++S2)) (fun p=>p.1*(p.2 j-p.2 r*FK.inv (s r)*s j))=0:=h3
     rw[h4]at h3
     rw[neg_mul,←sub_eq,h3]
  ·obtain⟨y,y1,y2,y3⟩:=hom r S (by omega)
   refine⟨y,y1,y2,fun j hj=> ?_⟩
   by_cases hjr:j=r
   ·subst hjr
    refine tx6 fun p hp=> ?_
    have:p.2 j=0:=Classical.byContradiction fun hne=>hs ⟨p.2,(List.of_mem_zip hp).2,hne⟩
    rw[this,mul_zero]
   ·exact y3 j (by omega)
def wu9(S:List (Nat→K)):Prop:= ∀y:List K,y.length=S.length→(∀k,sumL (y.zip S) (fun p=>p.1*p.2 k)=0)→ ∀a∈y,a=0
theorem tw1{R:List (Nat→K)}{w:Nat→K}(h:Span R w): ∃c:Nat→K,w=fun k=>sumN R.length fun j=>c j*(R.getD j fun _=>0) k:=by
 refine h.lin (P:=fun w=> ∃c:Nat→K,w=fun k=>sumN R.length fun j=>c j*(R.getD j fun _=>0) k) ?_ ?_ ?_
 ·exact⟨fun _=>0,by funext k;exact(ja4 fun j _=>zero_mul _).symm⟩
 ·rintro _ _ c ⟨c1,rfl⟩ ⟨c2,rfl⟩
  refine⟨fun j=>c1 j+c*c2 j, ?_⟩
  funext k
  show sumN _ _+c*sumN _ _=_
  unfold sumN
  rw[←ro9,←jl9]
  refine ox7 fun j _=> ?_
  rw[add_mul,FK.mul_assoc]
 ·intro r hr
  obtain⟨i,hi,rfl⟩:=List.getElem_of_mem hr
  refine⟨fun j=>if j=i then 1 else 0, ?_⟩
  funext k
  rw[xq2 hi fun j hj hne=>by show(if j=i then(1:K)else 0)*_=0;rw[if_neg hne,zero_mul]]
  show _=(if i=i then(1:K)else 0)*_
  rw[if_pos rfl,one_mul,List.getD_eq_getElem?_getD,List.getElem?_eq_getElem hi];rfl
theorem c83{R S:List (Nat→K)}(hS: ∀s∈S,Span R s)(hi:wu9 S):S.length≤R.length:=by
 refine Classical.byContradiction fun hlt=> ?_
 have hc: ∀s:{s//s∈S},∃c:Nat→K,s.1=fun k=>sumN R.length fun j=>c j*(R.getD j fun _=>0) k:=fun s=>tw1 (hS s.1 s.2)
 obtain⟨C,hC⟩:=Classical.axiomOfChoice hc
 obtain⟨y,y1,⟨a,y2,y3⟩,y4⟩:=hom R.length (S.attach.map C) (by rw[List.length_map,List.length_attach];omega)
 rw[List.length_map,List.length_attach]at y1
 refine y3 (hi y y1 (fun k=> ?_) a y2)
 have h1:sumL (y.zip S) (fun p=>p.1*p.2 k)=sumL (y.zip S.attach) (fun p=>p.1*p.2.1 k):=by
  have h0:S=S.attach.map Subtype.val:=(List.attach_map_subtype_val S).symm
  conv=>lhs;rw[h0]
  rw[uj4]
 rw[h1]
 have h2: ∀p∈y.zip S.attach,p.1*p.2.1 k=sumN R.length fun j=>p.1*(C p.2 j*(R.getD j fun _=>0) k):=fun p _=>by
  have:=congrFun (hC p.2) k
  rw[this]
  unfold sumN
  rw[ro9]
 rw[ox7 h2]
 unfold sumN
 rw[j53]
 refine tx6 fun j hj=> ?_
 have h3:=y4 j (List.mem_range.1 hj)
 rw[uj4]at h3
 have h4:sumL (y.zip S.attach) (fun p=>p.1*(C p.2 j*(R.getD j fun _=>0) k))=sumL (y.zip S.attach) (fun p=>p.1*C p.2 j)*(R.getD j fun _=>0) k:=by
  rw[←ue3]
  exact ox7 fun p _=>(FK.mul_assoc _ _ _).symm
 have h3:sumL (y.zip S.attach) (fun p=>p.1*C p.2 j)=0:=h3
 rw[h4,h3,zero_mul]
theorem nu5{α β:Type}(f:α×β→K)(da:α)(db:β): ∀(l:List α) (l':List β),l.length=l'.length→sumL (l.zip l') f=sumN l.length fun i=>f (l.getD i da,l'.getD i db)
 | [],_,_=>rfl
 |a::l,b::l',h=>by
  rw[List.zip_cons_cons,gb6,List.length_cons,c66,nu5 f da db l l' (by simpa using h)];rfl
theorem wx6{S:List (Nat→K)}(P:Nat→Nat)(h: ∀i j,i<S.length→j<S.length→(S.getD i fun _=>0) (P j)=if i=j then 1 else 0):wu9 S:=by
 intro y hy h0 a ha
 obtain⟨j,hj,rfl⟩:=List.getElem_of_mem ha
 have h1:=h0 (P j)
 rw[nu5 _ 0 (fun _=>0) y S hy,xq2 hj (fun i hi hne=>by show y.getD i 0*(S.getD i fun _=>0) (P j)=0;rw[h i j (by omega) (by omega),if_neg hne,mul_zero])]at h1
 have h1:y.getD j 0*(S.getD j fun _=>0) (P j)=0:=h1
 rw[h j j (by omega) (by omega),if_pos rfl,FK.mul_one,List.getD_eq_getElem?_getD,List.getElem?_eq_getElem hj]at h1
 exact h1
theorem Rref.indep{n:Nat}{A:List (Nat×(Nat→K))}(h:Rref n A):wu9 (rowsOf A):=by
 have hl:(rowsOf A).length=A.length:=by unfold rowsOf;rw[List.length_map]
 refine wx6 (fun j=>(A.getD j (0,fun _=>0)).1) fun i j hi hj=> ?_
 rw[hl]at hi hj
 have h1:(rowsOf A).getD i (fun _=>0)=A[i].2:=by unfold rowsOf;rw[List.getD_eq_getElem?_getD,List.getElem?_map,List.getElem?_eq_getElem hi];rfl
 have h2:A.getD j (0,fun _=>0)=A[j]:=by rw[List.getD_eq_getElem?_getD,List.getElem?_eq_getElem hj];rfl
 rw[h1,h2]
 by_cases he:i=j
 ·subst he;rw[if_pos rfl];exact h.one _ (List.getElem_mem hi)
 ·rw[if_neg he]
  refine h.zero _ (List.getElem_mem hi) _ (List.getElem_mem hj) fun e=> ?_
  have:=List.pairwise_iff_getElem.1 h.nodup
  rcases Nat.lt_or_gt_of_ne he with hlt|hlt
  ·exact this i j hi hj hlt e
  ·exact this j i hj hi hlt e.symm
theorem Rref.le{n:Nat}{A:List (Nat×(Nat→K))}(h:Rref n A){R:List (Nat→K)}(hs: ∀w,Span (rowsOf A) w→Span R w):A.length≤R.length:=by
 have:=c83 (S:=rowsOf A) (R:=R) (fun s hs'=>hs s (.mem hs')) h.indep
 unfold rowsOf at this
 rwa [List.length_map]at this
theorem Rref.ge{n:Nat}{A:List (Nat×(Nat→K))}(h:Rref n A){S:List (Nat→K)}(hi:wu9 S)(hs: ∀w∈S,Span (rowsOf A) w):S.length≤A.length:=by
 have:=c83 hs hi
 unfold rowsOf at this
 rwa [List.length_map]at this
end
section
variable {K:Type} [FK K] {n:Nat}
def dotF(n:Nat)(u w:Nat→K):K:=sumN n fun k=>u k*w k
theorem sc2(u w:Nat→K):dotF n u w=dotF n w u:=rc1 fun k _=>FK.mul_comm _ _
theorem xs8(c:K)(u r w:Nat→K):dotF n (axp c u r) w=dotF n u w+c*dotF n r w:=by
 unfold dotF sumN
 rw[←ro9,←jl9]
 refine ox7 fun k _=> ?_
 show(u k+c*r k)*w k=_
 rw[add_mul,FK.mul_assoc]
theorem mj9(w:Nat→K):dotF n (fun _=>0) w=0:=ja4 fun _ _=>zero_mul _
theorem fz3{R:List (Nat→K)}{w:Nat→K}(h: ∀r∈R,dotF n r w=0){u:Nat→K}(hu:Span R u):dotF n u w=0:=
 hu.lin (P:=fun u=>dotF n u w=0) (mj9 w) (fun u r c h1 h2=>by rw[xs8,h1,h2,mul_zero,FK.add_zero]) h
theorem ui3{R:List (Nat→K)}{u:Nat→K}(h: ∀r∈R,dotF n u r=0){w:Nat→K}(hw:Span R w):dotF n u w=0:=by
 rw[sc2];exact fz3 (fun r hr=>by rw[sc2];exact h r hr) hw
def sk9(n:Nat)(A:List (Nat×List K)):List Nat:=(List.range n).filter fun c=> !(A.any fun a=>a.1==c)
theorem c64(n:Nat)(A:List (Nat×List K)): ∀d c,ez9 n A d c=((List.range' c d).filter fun c=> !(A.any fun a=>a.1==c)).map fun c=>xRow n c A
 |0,_=>rfl
 |d+1,c=>by
  rw[ez9,List.range'_succ,List.filter_cons,c64 n A d (c+1)]
  cases (A.any fun a=>a.1==c)<;>rfl
theorem pv1(n:Nat)(A:List (Nat×List K)):ez9 n A n 0=(sk9 n A).map fun c=>xRow n c A:=by
 rw[c64];unfold sk9;rw[List.range_eq_range']
omit [FK K] in
theorem oz8{A:List (Nat×List K)}{c:Nat}:c∈sk9 n A↔c<n∧ ∀a∈A,a.1≠c:=by
 unfold sk9
 rw[List.mem_filter,List.mem_range]
 simp
omit [FK K] in
theorem a89(A:List (Nat×List K)):(sk9 n A).Nodup:=List.Pairwise.filter _ List.nodup_range
omit [FK K] in
theorem ir1{A:List (Nat×List K)}(hn:A.Pairwise fun a b=>a.1≠b.1)(hlt: ∀a∈A,a.1<n):(sk9 n A).length+A.length=n:=by
 have h1: ∀l:List Nat,(l.filter fun c=> !(A.any fun a=>a.1==c)).length+(l.filter fun c=>A.any fun a=>a.1==c).length=l.length:=by
  intro l
  induction l with
  |nil=>rfl
  |cons c l ih=>
   rw[List.filter_cons,List.filter_cons]
   cases (A.any fun a=>a.1==c)<;>simp<;>omega
 have h2:=h1 (List.range n)
 rw[List.length_range]at h2
 have h3:((List.range n).filter fun c=>A.any fun a=>a.1==c).Perm (A.map Prod.fst):=by
  refine(List.perm_ext_iff_of_nodup (List.Pairwise.filter _ List.nodup_range) ?_).2 fun c=> ?_
  ·exact List.pairwise_map.2 hn
  ·rw[List.mem_filter,List.mem_range,List.mem_map,List.any_eq_true]
   constructor
   ·rintro⟨_,a,ha,he⟩;exact⟨a,ha,by simpa using he⟩
   ·rintro⟨a,ha,rfl⟩;exact⟨hlt a ha,a,ha,by simp⟩
 have h4:=h3.length_eq
 rw[List.length_map]at h4
 unfold sk9
 omega
theorem a42{c:Nat}: ∀(A:List (Nat×List K)) (x:List K),A.Pairwise (fun a b=>a.1≠b.1)→(∀a∈A,a.1<x.length)→ ∀k,wf (setN c A x) k=if(∃a∈A,a.1=k)then sumL A (fun a=>if a.1=k then-(wf a.2 c)else 0)else wf x k
 | [],x,_,_,k=>by rw[if_neg (by rintro⟨a,h,_⟩;cases h)];rfl
 |a::A,x,hn,hl,k=>by
  rw[List.pairwise_cons]at hn
  rw[setN,a42 A _ hn.2 (fun b hb=>by rw[List.length_set];exact hl b (by simp[hb])) k,wf_set (hl a (by simp)),gb6]
  by_cases he:a.1=k
  ·have hno: ¬ ∃b∈A,b.1=k:=fun⟨b,hb,e⟩=>hn.1 b hb (by rw[he,e])
   rw[if_neg hno,if_pos he.symm,if_pos ⟨a,by simp,he⟩,if_pos he,tx6 fun b hb=>if_neg fun e=>hno ⟨b,hb,e⟩,FK.add_zero]
  ·have h1:(if k=a.1 then-(wf a.2 c)else wf x k)=wf x k:=if_neg fun e=>he e.symm
   have h2:(if a.1=k then-(wf a.2 c)else 0)=0:=if_neg he
   rw[h1,h2,zero_add]
   by_cases hex: ∃b∈A,b.1=k
   ·obtain⟨b,hb,e⟩:=hex
    rw[if_pos ⟨b,hb,e⟩,if_pos ⟨b,by simp[hb],e⟩]
   ·rw[if_neg hex,if_neg]
    rintro⟨b,hb,e⟩
    rcases List.mem_cons.1 hb with rfl|hb
    ·exact he e
    ·exact hex ⟨b,hb,e⟩
section
variable {A:List (Nat×List K)} (hr:Rref n (toF A))
include hr
theorem f50:A.Pairwise fun a b=>a.1≠b.1:=by
 have:=hr.nodup
 unfold toF at this
 rwa [List.pairwise_map]at this
theorem a68: ∀a∈A,a.1<n:=fun a ha=>hr.lt (a.1,wf a.2) (xe5.2 ⟨a,ha,rfl⟩)
theorem up3{c:Nat}(hc:c∈sk9 n A)(k:Nat):wf (xRow n c A) k=if(∃a∈A,a.1=k)then sumL A (fun a=>if a.1=k then-(wf a.2 c)else 0)else if k=c then 1 else 0:=by
 have hcn:=(oz8.1 hc).1
 unfold xRow
 rw[a42 A _ (f50 hr) (fun a ha=>by rw[List.length_set,List.length_replicate];exact a68 hr a ha) k,wf_set (by rw[List.length_replicate];exact hcn)]
 congr 2
 unfold wf
 rw[List.getD_eq_getElem?_getD,List.getElem?_replicate]
 split<;>rfl
theorem st6{c k:Nat}(hc:c∈sk9 n A)(hk:k∈sk9 n A):wf (xRow n c A) k=if k=c then 1 else 0:=by
 rw[up3 hr hc,if_neg]
 rintro⟨a,ha,e⟩
 exact(oz8.1 hk).2 a ha e
theorem z98{c:Nat}(hc:c∈sk9 n A){a:Nat×List K}(ha:a∈A):wf (xRow n c A) a.1= -(wf a.2 c):=by
 rw[up3 hr hc,if_pos ⟨a,ha,rfl⟩]
 have: ∀{B:List (Nat×List K)},B.Pairwise (fun a b=>a.1≠b.1)→a∈B→sumL B (fun b=>if b.1=a.1 then-(wf b.2 c)else 0)= -(wf a.2 c):=by
  intro B hB hb
  induction B with
  |nil=>cases hb
  |cons b B ih=>
   rw[List.pairwise_cons]at hB
   rw[gb6]
   rcases List.mem_cons.1 hb with rfl|hb
   ·rw[if_pos rfl,tx6 fun b hb=>if_neg fun e=>hB.1 b hb e.symm,FK.add_zero]
   ·have:(if b.1=a.1 then-(wf b.2 c)else 0)=0:=if_neg (hB.1 a hb)
    rw[this,zero_add,ih hB.2 hb]
 exact this (f50 hr) ha
theorem uz6{a:Nat×List K}(ha:a∈A)(w:Nat→K):dotF n (wf a.2) w=w a.1+sumL (sk9 n A) fun c=>wf a.2 c*w c:=by
 have hp:((List.range n).filter fun c=>A.any fun a=>a.1==c).Perm (A.map Prod.fst):=by
  refine(List.perm_ext_iff_of_nodup (List.Pairwise.filter _ List.nodup_range) ?_).2 fun c=> ?_
  ·exact List.pairwise_map.2 (f50 hr)
  ·rw[List.mem_filter,List.mem_range,List.mem_map,List.any_eq_true]
   constructor
   ·rintro⟨_,a,ha,he⟩;exact⟨a,ha,by simpa using he⟩
   ·rintro⟨a,ha,rfl⟩;exact⟨a68 hr a ha,a,ha,by simp⟩
 have hsplit: ∀(l:List Nat) (f:Nat→K),sumL l f=sumL (l.filter fun c=>A.any fun a=>a.1==c) f+sumL (l.filter fun c=> !(A.any fun a=>a.1==c)) f:=by
  intro l f
  induction l with
  |nil=>exact(FK.add_zero _).symm
  |cons c l ih=>
   rw[List.filter_cons,List.filter_cons,gb6,ih]
   cases (A.any fun a=>a.1==c)with
   |true=>simp only[if_true,Bool.not_true,Bool.false_eq_true,if_false,gb6];rw[FK.add_assoc]
   |false=>simp only[if_true,Bool.not_false,Bool.false_eq_true,if_false,gb6];rw[←FK.add_assoc,FK.add_comm (f c),FK.add_assoc]
 unfold dotF sumN sk9
 rw[hsplit]
 congr 1
 rw[j94 (s:=a.1) (List.Pairwise.filter _ List.nodup_range)]
 ·have:=hr.one (a.1,wf a.2) (xe5.2 ⟨a,ha,rfl⟩)
  have:wf a.2 a.1=1:=this
  rw[this,one_mul]
 ·rw[List.mem_filter,List.mem_range,List.any_eq_true];exact⟨a68 hr a ha,a,ha,by simp⟩
 ·intro c hc hne
  rw[List.mem_filter,List.any_eq_true]at hc
  obtain⟨_,b,hb,he⟩:=hc
  have he:b.1=c:=by simpa using he
  have:=hr.zero (a.1,wf a.2) (xe5.2 ⟨a,ha,rfl⟩) (b.1,wf b.2) (xe5.2 ⟨b,hb,rfl⟩) (fun e=>hne (by rw[←he];exact e.symm))
  have:wf a.2 b.1=0:=this
  rw[←he,this,zero_mul]
theorem dn9{w:Nat→K}:Span ((ez9 n A n 0).map wf) w↔(∀k,n≤k→w k=0)∧ ∀a∈A,dotF n (wf a.2) w=0:=by
 have hx: ∀x∈(ez9 n A n 0).map wf,∃c∈sk9 n A,x=wf (xRow n c A):=fun x hx=>by
  rw[pv1,List.map_map]at hx
  obtain⟨c,hc,rfl⟩:=List.mem_map.1 hx
  exact⟨c,hc,rfl⟩
 constructor
 ·intro h
  refine⟨fun k hk=> ?_,fun a ha=>ui3 (fun r hr'=> ?_) h⟩
  ·refine h.lin (P:=fun w=>w k=0) rfl (fun u r c h1 h2=> ?_) fun r hr'=> ?_
   ·show u k+c*r k=0
    rw[h1,h2,mul_zero,FK.add_zero]
   ·obtain⟨c,hc,rfl⟩:=hx r hr'
    exact e00 (by rw[x22];exact hk)
  ·obtain⟨c,hc,rfl⟩:=hx r hr'
   rw[uz6 hr ha,z98 hr hc ha,j94 (s:=c) (a89 A) hc fun k hk hne=>by rw[st6 hr hc hk,if_neg hne,mul_zero],st6 hr hc hc,if_pos rfl,FK.mul_one,neg_add]
 ·rintro⟨h1,h2⟩
  have h3:w=fun k=>sumL (sk9 n A) fun c=>w c*wf (xRow n c A) k:=by
   funext k
   by_cases hkn:n≤k
   ·rw[h1 k hkn,tx6 fun c hc=>by rw[e00 (by rw[x22];exact hkn),mul_zero]]
   ·by_cases hex: ∃a∈A,a.1=k
    ·obtain⟨a,ha,rfl⟩:=hex
     have h4:=h2 a ha
     rw[uz6 hr ha,FK.add_comm]at h4
     rw[ut3 h4,←eq0]
     refine ox7 fun c hc=> ?_
     rw[z98 hr hc ha,mul_neg,FK.mul_comm]
    ·have hk:k∈sk9 n A:=oz8.2 ⟨by omega,fun a ha e=>hex ⟨a,ha,e⟩⟩
     rw[j94 (s:=k) (a89 A) hk fun c hc hne=>by rw[st6 hr hc hk,if_neg fun e=>hne e.symm,mul_zero],st6 hr hk hk,if_pos rfl,FK.mul_one]
  rw[h3]
  refine Span.sum fun c hc=> .mem ?_
  rw[pv1,List.map_map]
  exact List.mem_map.2 ⟨c,hc,rfl⟩
theorem hs0:wu9 ((ez9 n A n 0).map wf):=by
 rw[pv1,List.map_map]
 refine wx6 (fun j=>(sk9 n A).getD j 0) fun i j hi hj=> ?_
 rw[List.length_map]at hi hj
 have h1:(((sk9 n A).map (wf∘fun c=>xRow n c A)).getD i fun _=>0)=wf (xRow n (sk9 n A)[i] A):=by
  rw[List.getD_eq_getElem?_getD,List.getElem?_map,List.getElem?_eq_getElem hi];rfl
 have h2:(sk9 n A).getD j 0=(sk9 n A)[j]:=by rw[List.getD_eq_getElem?_getD,List.getElem?_eq_getElem hj];rfl
 rw[h1,h2,st6 hr (List.getElem_mem hi) (List.getElem_mem hj)]
 by_cases he:i=j
 ·subst he;rw[if_pos rfl,if_pos rfl]
 ·rw[if_neg he,if_neg fun e=>he ((List.getElem_inj (a89 A)).1 e).symm]
end
theorem sw1{M:List (List K)}(hM: ∀m∈M,m.length=n):Rref n (toF (zt5 n M))∧(∀a∈zt5 n M,a.2.length=n)∧(∀w,Span (rowsOf (toF (zt5 n M))) w↔(∀k,n≤k→w k=0)∧ ∀m∈M,dotF n (wf m) w=0)∧(zt5 n M).length+(redR M).length=n:=by
 obtain⟨r1,r2,r3⟩:=bi2 hM
 obtain⟨s1,s2,s3⟩:=bi2 (sg4 n (redR M) n 0)
 refine⟨s1,s2,fun w=> ?_, ?_⟩
 ·unfold zt5
  rw[s3,dn9 r1]
  refine and_congr_right fun _=>⟨fun h m hm=> ?_,fun h a ha=> ?_⟩
  ·refine fz3 (fun r hr=> ?_) ((r3 _).2 (.mem (List.mem_map.2 ⟨m,hm,rfl⟩)))
   obtain⟨a,ha,rfl⟩:=he1.1 hr
   exact h a ha
  ·refine fz3 (fun r hr=> ?_) ((r3 _).1 (.mem (he1.2 ⟨a,ha,rfl⟩)))
   obtain⟨m,hm,rfl⟩:=List.mem_map.1 hr
   exact h m hm
 ·have h1:=s1.le fun w hw=>(s3 w).1 hw
  have h2:=s1.ge (hs0 r1) fun w hw=>(s3 w).2 (.mem hw)
  have h3:=ir1 (f50 r1) (a68 r1)
  have hn:zt5 n M=redR (ez9 n (redR M) n 0):=rfl
  rw[←hn]at h1 h2
  rw[pv1,List.length_map,List.length_map]at h1 h2
  unfold toF at h1 h2
  rw[List.length_map]at h1 h2
  omega
theorem n98(l:List K)(x:K)(k:Nat):wf (l++[x]) k=if k=l.length then x else wf l k:=by
 unfold wf
 rw[List.getD_eq_getElem?_getD,List.getD_eq_getElem?_getD]
 by_cases h:k<l.length
 ·rw[List.getElem?_append_left h,if_neg (by omega)]
 ·rw[List.getElem?_append_right (by omega)]
  by_cases he:k=l.length
  ·rw[if_pos he,he,Nat.sub_self];rfl
  ·rw[if_neg he,List.getElem?_eq_none (by simp;omega),List.getElem?_eq_none (by omega)]
end
end Go.Alg
namespace Go.Alg
section
variable {K:Type} [FK K]
def loc:List K→List K
 | []=>[1]
 |x::l=>mulK [-x,1] (loc l)
theorem mo3(x:K):Trm ([-x,1]:List K):=fun _=>ki8
theorem tt9(x y:K):ev [-x,1] y=y-x:=by
 rw[ev,ev,ev,mul_zero,FK.add_zero,FK.mul_one,FK.add_comm];rfl
theorem h42: ∀l:List K,Trm (loc l)
 | []=>py3 ki8
 |x::l=>ho6 _ _
theorem ru2: ∀l:List K,(loc l).length=l.length+1
 | []=>rfl
 |x::l=>by
  have ih:=ru2 l
  rw[loc,lk3 (mo3 x) (h42 l) (by simp) (fun e=>by rw[e]at ih;simp at ih),ih]
  simp;omega
theorem d45: ∀l:List K,wf (loc l) l.length=1
 | []=>rfl
 |x::l=>by
  rw[loc,zu9,List.length_cons,show l.length+1=1+l.length by omega,b30 (fun i hi=>e00 (by simp;omega)) (fun i hi=>e00 (by rw[ru2];omega)),d45 l]
  exact FK.mul_one _
theorem zb6{y:K}: ∀{l:List K},y∈l→ev (loc l) y=0
 |x::l,h=>by
  rw[loc,jo3,tt9]
  rcases List.mem_cons.1 h with rfl|h
  ·rw[sub_self,zero_mul]
  ·rw[zb6 h,mul_zero]
def badF(a:List K)(p:K×K):Bool:=decide (ev a p.1≠p.2)
def offK(a:List K)(P:List (K×K)):Nat:=(P.filter (badF a)).length
def errK(a:List K)(P:List (K×K)):List K:=(P.filter (badF a)).map Prod.fst
def okK(a:List K)(P:List (K×K)):List K:=(P.filter fun p=> !badF a p).map Prod.fst
theorem qd3(a:List K)(P:List (K×K)):(errK a P).length=offK a P:=by unfold errK offK;rw[List.length_map]
theorem wy1(a:List K): ∀P:List (K×K),(okK a P).length+offK a P=P.length
 | []=>rfl
 |p::P=>by
  have ih:=wy1 a P
  unfold okK offK at ih⊢
  rw[List.filter_cons,List.filter_cons]
  cases h:badF a p
  ·rw[if_pos (show(!false)=true from rfl),if_neg (by decide)]
   simp only[List.map_cons,List.length_cons]at ih⊢;omega
  ·rw[if_neg (by decide),if_pos rfl]
   simp only[List.length_cons]at ih⊢;omega
theorem zr2{a:List K}{p:K×K}:badF a p=false↔ev a p.1=p.2:=by unfold badF;simp
theorem sw0{a:List K}{P:List (K×K)}{x:K}(h:x∈okK a P): ∃y,(x,y)∈P∧ev a x=y:=by
 obtain⟨p,hp,rfl⟩:=List.mem_map.1 h
 obtain⟨h1,h2⟩:=List.mem_filter.1 hp
 exact⟨p.2,h1,zr2.1 (by simpa using h2)⟩
theorem ns1{a:List K}{P:List (K×K)}(hn:(P.map Prod.fst).Nodup):(okK a P).Nodup:=by
 unfold okK
 exact hn.sublist (List.Sublist.map _ List.filter_sublist)
theorem d59{a:List K}{P:List (K×K)}{p:K×K}(hp:p∈P)(h:ev a p.1≠p.2):p.1∈errK a P:=by
 refine List.mem_map.2 ⟨p,List.mem_filter.2 ⟨hp, ?_⟩,rfl⟩
 unfold badF
 exact decide_eq_true h
theorem kw9{a b:List K}(h:wf a=wf b):badF a=badF b:=by
 funext p
 unfold badF
 rw[ma4 h]
theorem tx3{a b:List K}(h:wf a=wf b)(P:List (K×K)):offK a P=offK b P:=by unfold offK;rw[kw9 h]
structure NearP (P:List (K×K)) (k:Nat) (a:List K):Prop where
 len:a.length=k
 off:2*offK a P+k≤P.length
structure Hang (P:List (K×K)) (k:Nat) (N E:List K):Prop where
 at': ∀p∈P,ev N p.1=p.2*ev E p.1
 n: ∀j,P.length+k≤2*j→wf N j=0
 e: ∀j,P.length<2*j+k→wf E j=0
theorem f70{P:List (K×K)}{k:Nat}{a N E:List K}(hn:(P.map Prod.fst).Nodup)(h:NearP P k a)(g:Hang P k N E):wf N=disc (wf a) (wf E):=by
 rw[←zu9]
 have hl:=wy1 a P
 have ho:=h.off
 refine yn1 (ns1 (a:=a) hn) (fun j hj=>g.n j (by omega)) (fun j hj=> ?_) fun x hx=> ?_
 ·rw[zu9]
  refine hr4 (n:=k) (m:=(P.length-k)/2+1) (fun i hi=>e00 (by rw[h.len];exact hi)) (fun i hi=>g.e i (by omega)) (by omega)
 ·obtain⟨y,h1,h2⟩:=sw0 hx
  rw[jo3,g.at' _ h1,h2]
theorem y98{P:List (K×K)}{k:Nat}{a:List K}(h:NearP P k a){l:List K}(hl:2*l.length+k≤P.length)(hs: ∀x∈errK a P,x∈l):Hang P k (mulK a (loc l)) (loc l):=by
 refine⟨fun p hp=> ?_,fun j hj=> ?_,fun j hj=>e00 (by rw[ru2];omega)⟩
 ·rw[jo3]
  by_cases he:ev a p.1=p.2
  ·rw[he]
  ·rw[zb6 (hs _ (d59 hp he)),mul_zero,mul_zero]
 ·rw[zu9]
  exact hr4 (n:=k) (m:=l.length+1) (fun i hi=>e00 (by rw[h.len];exact hi)) (fun i hi=>e00 (by rw[ru2];exact hi)) (by omega)
theorem pe7{f g h:Nat→K}{n m:Nat}(hf: ∀k,n≤k→f k=0)(hg: ∀k,n≤k→g k=0)(hh: ∀k,m≤k→h k=0)(hne:h≠fun _=>0)(e:disc f h=disc g h):f=g:=by
 refine Classical.byContradiction fun hfg=> ?_
 have hD:(fun k=>f k+ -g k)≠fun _=>0:=fun e=>hfg (funext fun k=>sub_eq_zero.1 (congrFun e k))
 obtain⟨i,j,_,_,_,_,h1⟩:=fq3 (n:=n) (m:=m) (fun k hk=>by rw[hf k hk,hg k hk,neg_zero,FK.add_zero]) hh hD hne
 apply h1
 rw[bf5,fh4,e,FK.add_neg]
theorem yh0(l:List K):wf (loc l)≠fun _=>0:=fun e=>ki8 (by rw[←d45 l,e])
theorem c08{P:List (K×K)}{k:Nat}{a b:List K}(hn:(P.map Prod.fst).Nodup)(h:NearP P k a)(g:NearP P k b):a=b:=by
 have h1:=f70 hn h (y98 g (l:=errK b P) (by rw[qd3];exact g.off) fun x hx=>hx)
 rw[zu9]at h1
 refine ou8 (by rw[h.len,g.len]) (pe7 (n:=k) (m:=(loc (errK b P)).length) (fun i hi=>e00 (by rw[h.len];exact hi)) (fun i hi=>e00 (by rw[g.len];exact hi)) (fun i hi=>e00 hi) (yh0 _) h1.symm)
open Classical in
noncomputable def recK (P:List (K×K)) (k:Nat):Option (List K):=if h: ∃a,NearP P k a then some (Classical.choose h)else none
theorem s93{P:List (K×K)}{k:Nat}{a:List K}(hn:(P.map Prod.fst).Nodup)(h:NearP P k a):recK P k=some a:=by
 unfold recK
 rw[dif_pos ⟨a,h⟩]
 exact congrArg some (c08 hn (Classical.choose_spec ⟨a,h⟩) h)
theorem z27{P:List (K×K)}{k:Nat}(h: ¬ ∃a,NearP P k a):recK P k=none:=by
 unfold recK
 rw[dif_neg h]
theorem vc6{P:List (K×K)}{k:Nat}{a:List K}(h:recK P k=some a):NearP P k a:=by
 unfold recK at h
 split at h
 ·rename_i hx
  have:=Classical.choose_spec hx
  cases h;exact this
 ·cases h
def qi3(a:List K)(k:Nat):List K:=ofF k (wf a)
theorem of2(a:List K)(k:Nat):(qi3 a k).length=k:=gh0 _ _
theorem yq4{a:List K}{k:Nat}(h: ∀j,k≤j→wf a j=0):wf (qi3 a k)=wf a:=ot8 h
theorem r63{a:List K}{k:Nat}(h:a.length=k):qi3 (xa4 a) k=a:=ou8 (by rw[of2,h]) (by rw[yq4 (by rw[vb5];exact fun j hj=>e00 (by omega)),vb5])
theorem n35{P:List (K×K)}{k:Nat}{Q:List K}(hn:(P.map Prod.fst).Nodup)(hl:Q.length≤k)(ho:2*offK Q P+k≤P.length):recK P k=some (qi3 Q k):=by
 have hw:wf (qi3 Q k)=wf Q:=yq4 fun j hj=>e00 (by omega)
 exact s93 hn ⟨of2 _ _,by rw[tx3 hw];exact ho⟩
theorem k38{P:List (K×K)}{k:Nat}{a N E Q R:List K}(hn:(P.map Prod.fst).Nodup)(h:recK P k=some a)(g:Hang P k N E)(hE:Trm E)(hE0:E≠[])(hd:IsDiv N E Q R):R=[]∧Q.length≤k∧2*offK Q P+k≤P.length∧qi3 Q k=a:=by
 have hN:=vc6 h
 have e:=f70 hn hN g
 obtain⟨h1,h2⟩:=hd.uniq hE (IsDiv.of_mul hE hE0 e)
 subst h1 h2
 refine⟨rfl,df7 fun j hj=>e00 (by rw[hN.len];exact hj), ?_,r63 hN.len⟩
 rw[tx3 (vb5 a)];exact hN.off
end
end Go.Alg
namespace Go.Alg
section
variable {K:Type} [FK K] {n:Nat}
end
end Go.Alg
namespace Go.Alg
section
variable {K:Type} [FK K]
theorem qc0{n:Nat}{M:List (List K)}{b x:List K}(hM: ∀m∈M,m.length=n)(hb:b.length=M.length)(hx: ∀i,i<M.length→sumN n (fun j=>wf (M.getD i []) j*wf x j)=wf b i): ∃y,solR n M b=some y:=by
 unfold solR
 split
 ·rename_i hno
  exfalso
  obtain⟨r1,r2,r3⟩:=bi2 (a86 (b:=b) hM)
  obtain⟨a,ha,h0⟩:=List.any_eq_true.1 hno
  have h0:a.1=n:=by simpa using h0
  have hsp:Span ((augL M b).map wf) (wf a.2):=(r3 _).1 (.mem (he1.2 ⟨a,ha,rfl⟩))
  have hone:wf a.2 n=1:=by
   have:=r1.one (a.1,wf a.2) (xe5.2 ⟨a,ha,rfl⟩)
   rw[h0]at this;exact this
  have hlow: ∀k,k<n→wf a.2 k=0:=fun k hk=>by
   have:=r1.before (a.1,wf a.2) (xe5.2 ⟨a,ha,rfl⟩) k (by show k<a.1;omega)
   exact this
  have key:sumN n (fun j=>wf a.2 j*wf x j)=wf a.2 n:=by
   refine hsp.lin (P:=fun w=>sumN n (fun j=>w j*wf x j)=w n) ?_ (fun u r c hu hr=> ?_) fun r hr=> ?_
   ·exact ja4 fun j _=>zero_mul _
   ·show sumN n (fun j=>(u j+c*r j)*wf x j)=u n+c*r n
    rw[←hu,←hr,←x18,←pv3]
    exact rc1 fun j _=>by rw[add_mul,FK.mul_assoc]
   ·obtain⟨m,hm,rfl⟩:=List.mem_map.1 hr
    obtain⟨i,hi,rfl⟩:=List.getElem_of_mem hm
    have hiM:i<M.length:=by unfold augL at hi;rw[List.length_zipWith]at hi;omega
    have haug:(augL M b)[i]=M[i]++[b[i]'(by omega)]:=by simp only[augL,List.getElem_zipWith]
    have hml:M[i].length=n:=hM _ (List.getElem_mem hiM)
    have h1:=hx i hiM
    rw[List.getD_eq_getElem?_getD,List.getElem?_eq_getElem hiM]at h1
    rw[haug,n98,hml,if_pos rfl,←i66 (l:=b) (by omega),←h1]
    refine rc1 fun j hj=> ?_
    rw[n98,hml,if_neg (by omega)];rfl
  rw[hone,ja4 fun j hj=>by rw[hlow j hj,zero_mul]]at key
  exact ki8 key.symm
 ·exact⟨_,rfl⟩
def ki6(t k:Nat)(p:K×K):List K:=ofF t (fun d=>p.2*pw p.1 d)++ofF (t+k) (fun d=> -pw p.1 d)
def eqR(t:Nat)(p:K×K):K:= -(p.2*pw p.1 t)
theorem up9(t k:Nat)(p:K×K):(ki6 t k p).length=t+(t+k):=by unfold ki6;rw[List.length_append,gh0,gh0]
theorem pj0(t k:Nat)(p:K×K)(s:Nat→K):sumN (t+(t+k)) (fun j=>wf (ki6 t k p) j*s j)=p.2*(sumN t fun d=>s d*pw p.1 d)+ -(sumN (t+k) fun d=>s (t+d)*pw p.1 d):=by
 rw[d17,←x18]
 congr 1
 ·refine rc1 fun j hj=> ?_
  unfold ki6
  rw[nz0,gh0,if_pos hj,b43,if_pos hj,FK.mul_assoc,FK.mul_comm (pw _ _)]
 ·rw[show-(sumN (t+k) fun d=>s (t+d)*pw p.1 d)=sumN (t+k) fun d=> -(s (t+d)*pw p.1 d)from(eq0 _ _).symm]
  refine rc1 fun j hj=> ?_
  unfold ki6
  rw[nz0,gh0,if_neg (by omega),b43,if_pos (by omega),Nat.add_sub_cancel_left,neg_mul,FK.mul_comm]
theorem hb5{P:List (K×K)}{t k:Nat}{s:List K}(ht:t=(P.length-k)/2)(hk:k≤P.length)(hs:s.length=t+(t+k))(h: ∀p∈P,sumN (t+(t+k)) (fun j=>wf (ki6 t k p) j*wf s j)=eqR t p):Hang P k (s.drop t) (s.take t++[1]):=by
 have hN: ∀p:K×K,ev (s.drop t) p.1=sumN (t+k) fun d=>wf s (t+d)*pw p.1 d:=fun p=>by
  rw[tf2 _ _ (t+k) (by rw[List.length_drop];omega)]
  refine rc1 fun d _=> ?_
  unfold wf
  rw[List.getD_eq_getElem?_getD,List.getD_eq_getElem?_getD,List.getElem?_drop]
 have hE: ∀p:K×K,ev (s.take t++[1]) p.1=(sumN t fun d=>wf s d*pw p.1 d)+pw p.1 t:=fun p=>by
  rw[tf2 _ _ (t+1) (by simp;omega),cp9]
  congr 1
  ·refine rc1 fun d hd=> ?_
   rw[nz0,if_pos (by simp;omega),g29,if_pos hd]
  ·rw[nz0,if_neg (by simp;omega),List.length_take,Nat.min_eq_left (by omega),Nat.sub_self]
   exact one_mul _
 refine⟨fun p hp=> ?_,fun j hj=>e00 (by rw[List.length_drop];omega),fun j hj=>e00 (by simp;omega)⟩
 have h1:=h p hp
 rw[pj0]at h1
 unfold eqR at h1
 rw[hN,hE,FK.mul_add]
 generalize (sumN t fun d=>wf s d*pw p.1 d)=A at h1⊢
 generalize (sumN (t+k) fun d=>wf s (t+d)*pw p.1 d)=B at h1⊢
 have h2:p.2*A+ -B+(p.2*pw p.1 t+B)= -(p.2*pw p.1 t)+(p.2*pw p.1 t+B):=by rw[h1]
 have h3:p.2*A+ -B+(p.2*pw p.1 t+B)=(p.2*A+p.2*pw p.1 t)+(-B+B):=by ac_rfl
 rw[h3,neg_add,FK.add_zero,←FK.add_assoc,neg_add,zero_add]at h2
 exact h2.symm
theorem xk7{P:List (K×K)}{t k:Nat}{N E:List K}(hNl:N.length≤t+k)(hEl:E.length≤t+1)(g:Hang P k N E)(hE:wf E t=1): ∀p∈P,sumN (t+(t+k)) (fun j=>wf (ki6 t k p) j*wf (ofF t (wf E)++ofF (t+k) (wf N)) j)=eqR t p:=fun p hp=>by
 rw[pj0]
 have h1:=g.at' p hp
 rw[tf2 N p.1 (t+k) hNl,tf2 E p.1 (t+1) hEl,cp9,hE,one_mul]at h1
 have e1:(sumN t fun d=>wf (ofF t (wf E)++ofF (t+k) (wf N)) d*pw p.1 d)=sumN t fun d=>wf E d*pw p.1 d:=rc1 fun d hd=>by rw[nz0,gh0,if_pos hd,b43,if_pos hd]
 have e2:(sumN (t+k) fun d=>wf (ofF t (wf E)++ofF (t+k) (wf N)) (t+d)*pw p.1 d)=sumN (t+k) fun d=>wf N d*pw p.1 d:=rc1 fun d hd=>by rw[nz0,gh0,if_neg (by omega),Nat.add_sub_cancel_left,b43,if_pos hd]
 rw[e1,e2,h1,FK.mul_add,tp9,←FK.add_assoc,FK.add_neg,zero_add]
 rfl
theorem bw9{P:List (K×K)}{k:Nat}{a:List K}(h:NearP P k a): ∃s:List K,∀p∈P,sumN ((P.length-k)/2+((P.length-k)/2+k)) (fun j=>wf (ki6 ((P.length-k)/2) k p) j*wf s j)=eqR ((P.length-k)/2) p:=by
 have ho:=h.off
 have g:=y98 h (l:=errK a P++List.replicate ((P.length-k)/2-offK a P) 0) (by rw[List.length_append,qd3,List.length_replicate];omega) fun x hx=>by simp[hx]
 have hl:(errK a P++List.replicate ((P.length-k)/2-offK a P) (0:K)).length=(P.length-k)/2:=by
  rw[List.length_append,qd3,List.length_replicate];omega
 refine⟨_,xk7 ?_ (by rw[ru2,hl];exact Nat.le_refl _) g ?_⟩
 ·have:=bx4 a (loc (errK a P++List.replicate ((P.length-k)/2-offK a P) (0:K)))
  rw[ru2,hl,h.len]at this;omega
 ·have:=d45 (errK a P++List.replicate ((P.length-k)/2-offK a P) (0:K))
  rw[hl]at this
  exact this
end
end Go.Alg
namespace Go.Proofs.YtlhmdmedagjmnaaGreat
open Go.Am Go.Vm Go.Alg
section
variable {raw:List Int} {b:Bool} {nl:Nat}
end
theorem ax8{q:Int}{L:List Int}(h: ∀z∈L,0≤z∧z<q)(hn:L.Nodup): ∃X:List (El q),L=vs X∧X.Nodup:=by
 obtain⟨X,rfl⟩:=n39 (q:=q) (l:=L) fun z hz=>iy2 (h z hz)
 refine⟨X,rfl, ?_⟩
 unfold vs at hn
 rw[List.nodup_iff_pairwise_ne,List.pairwise_map]at hn
 exact hn.imp fun h e=>h (by rw[e])
section
variable {a c:List Int} {b b':Bool} {nl nl':Nat}
end
end Go.Proofs.YtlhmdmedagjmnaaGreat
namespace Go.Proofs.YtlhmdmedagjmnaaGreat
open Go.Am Go.Vm Go.Alg
def rdL(q:Int)(all:List Int):Nat→Nat→Int
 |0,_=>0
 |n+1,i=>if fok q (gi all i)=true then(if(all.take i).any (fun y=>decide (gi all i=y))=true then 7 else rdL q all n (i+1))else 2
def rdE(q:Int)(xs:List Int)(k:Int):Int:=match fldN q.toNat with
 |none=>1
 |some _=>if xs.length<1∨64<xs.length then 4 else if rdL q xs xs.length 0=0 then(if k<1∨(xs.length:Int)<k then 6 else 0)else rdL q xs xs.length 0
theorem y76{q:Int}{xs:List Int}: ∀(n i:Nat),i+n=xs.length→rdL q xs n i=0→(∀z∈xs.take i,fok q z=true)→(xs.take i).Nodup→(∀z∈xs,fok q z=true)∧xs.Nodup
 |0,i,hi,_,h1,h2=>by
  rw[List.take_of_length_le (by omega)]at h1 h2
  exact⟨h1,h2⟩
 |n+1,i,hi,h,h1,h2=>by
  rw[rdL]at h
  split at h
  ·rename_i h3
   split at h
   ·cases h
   ·rename_i h4
    have hg:xs[i]? =some (gi xs i):=by
     have hlt:i<xs.length:=by omega
     rw[List.getElem?_eq_getElem hlt]
     unfold gi
     rw[Int.toNat_natCast,List.getD_eq_getElem?_getD,List.getElem?_eq_getElem hlt];rfl
    refine y76 n (i+1) (by omega) h (fun z hz=> ?_) ?_
    ·rw[List.take_add_one,hg,Option.toList_some]at hz
     rcases List.mem_append.1 hz with hz|hz
     ·exact h1 z hz
     ·rw[List.mem_singleton.1 hz];exact h3
    ·rw[List.take_add_one,hg,Option.toList_some,List.nodup_append]
     refine⟨h2,by simp,fun a ha c hc=> ?_⟩
     rw[List.mem_singleton.1 hc]
     rintro rfl
     exact h4 (List.any_eq_true.2 ⟨_,ha,by simp⟩)
  ·cases h
theorem pf7{q:Int}{xs:List Int}(h: ∀z∈xs,fok q z=true)(hn:xs.Nodup): ∀(n i:Nat),i+n=xs.length→rdL q xs n i=0
 |0,i,_=>rfl
 |n+1,i,hi=>by
  have hlt:i<xs.length:=by omega
  have hg:gi xs i=xs[i]:=by
   unfold gi
   rw[Int.toNat_natCast,List.getD_eq_getElem?_getD,List.getElem?_eq_getElem hlt];rfl
  rw[rdL,hg,if_pos (h _ (List.getElem_mem hlt)),if_neg fun h1=> ?_]
  ·exact pf7 h hn n (i+1) (by omega)
  ·obtain⟨y,hy,h2⟩:=List.any_eq_true.1 h1
   have h2:y=xs[i]:=by have:xs[i]=y:=by simpa using h2
                       exact this.symm
   obtain⟨j,hj,e⟩:=List.getElem_of_mem hy
   rw[List.length_take]at hj
   rw[List.getElem_take]at e
   have hp:=List.pairwise_iff_getElem.1 hn j i (by omega) hlt (by omega)
   exact hp (e.trans h2)
theorem z24{q:Int}{xs:List Int}{k:Int}(h:rdE q xs k=0):IsFld q∧ ∃X:List (El q),xs=vs X∧X.Nodup∧1≤X.length∧X.length≤64∧1≤k∧k≤X.length:=by
 unfold rdE at h
 split at h
 ·cases h
 ·rename_i x hn
  obtain⟨p0,m0,g0,mod⟩:=x
  split at h
  ·cases h
  ·split at h
   ·rename_i h1 h2
    split at h
    ·cases h
    ·rename_i h3
     obtain⟨h4,h5⟩:=y76 xs.length 0 (by omega) h2 (fun z hz=>by simp at hz) (by simp)
     obtain⟨X,hX,hX2⟩:=ax8 (q:=q) (L:=xs) (fun z hz=>gc0.1 (h4 z hz)) h5
     have hl:X.length=xs.length:=by rw[hX,fi2]
     exact⟨⟨⟨p0,m0,g0,mod,hn⟩⟩,X,hX,hX2,by omega,by omega,by omega,by omega⟩
   ·rename_i h1 h2;exact absurd h h2
theorem sn0{q:Int}{X:List (El q)}(hn:X.Nodup):(vs X).Nodup:=by
 unfold vs
 rw[List.nodup_iff_pairwise_ne,List.pairwise_map]
 exact hn.imp fun h e=>h (El.ext' e)
theorem la8{q:Int} [h:IsFld q]{X:List (El q)}(hn:X.Nodup)(h1:1≤X.length)(h2:X.length≤64){k:Int}(k1:1≤k)(k2:k≤X.length):rdE q (vs X) k=0:=by
 obtain⟨p,m,g,mod,hf⟩:=h.ok
 unfold rdE
 rw[hf]
 simp only
 rw[if_neg (by rw[fi2];omega),pf7 (fun z hz=>by
  obtain⟨x,_,rfl⟩:=List.mem_map.1 hz
  exact x.ok) (sn0 hn) _ _ (by omega),if_pos rfl,if_neg (by rw[fi2];omega)]
section
variable {q:Int} {b:Bool} {nl:Nat} {xs:List Int} {k:Int}
theorem cf6 [IsFld q](hl:xs.length≤1000000): ∀(n i:Nat),i+n=xs.length→ ∀ks,
 vgoL W ⟨hNo,[.tmp 6],0⟩ [1,2,7,27,28,29] c33L0 (.blk 0 [1,2]::ks) [(1, .fz b (.sl nl 0 1 (ivs xs))),(2, .x (.int .i64 k)),(7, .fz true (pF q)),(27, .fz b (.sl nl 0 1 (ivs xs))),(28, .x (.int .i64 xs.length)),(29, .x (.int .i64 i))] []=
  if rdL q xs n i=0 then vgo W ⟨hNo,[.tmp 6],0⟩ ks (VFr.of [(1, .fz b (.sl nl 0 1 (ivs xs))),(2, .x (.int .i64 k))]) []else some (.x (.int .i64 (rdL q xs n i)),[],[])
 |0,i,hi,ks=>by
  rw[rdL,if_pos rfl,sb5 c33L0.eq_def]
  simp(disch:=first|omega|fail) only[push_cast,seval,ui5,lu7,y81,bj9,wrap64,dec_lt,cw6,nl3,qc6,mr8,nb8,if_pos,if_neg]
 |n+1,i,hi,ks=>by
  have ih:=cf6 hl n (i+1) (by omega) ks
  have h1:=ui5 (zs:=xs) (i:=i) (by omega)
  have e1:=fun nl=>o94 (b:=b) (nl:=nl) (x:=gi xs i) (l:=xs.take i) (by rw[List.length_take];omega)
  rw[Int.natCast_add,Int.natCast_one]at ih
  cases hk:fok q (gi xs i)with
  |false=>
   have hrd:rdL q xs (n+1) i=2:=by rw[rdL,hk];rfl
   rw[hrd,if_neg (by decide),sb5 c33L0.eq_def]
   simp(disch:=first|omega|fail) only[push_cast,seval,ui5,lu7,y81,bj9,wrap64,dec_lt,cw6,nl3,qc6,mr8,nb8,if_pos,if_neg,h1,hk]
  |true=>
   cases hc:(xs.take i).any fun y=>decide (gi xs i=y)with
   |true=>
    rw[hc]at e1
    have hrd:rdL q xs (n+1) i=7:=by rw[rdL,hk,if_pos rfl,hc];rfl
    rw[hrd,if_neg (by decide),sb5 c33L0.eq_def]
    simp(disch:=first|omega|fail) only[push_cast,seval,ui5,lu7,y81,bj9,wrap64,dec_lt,cw6,nl3,qc6,mr8,nb8,if_pos,if_neg,h1,hk,e1,Int.sub_zero]
   |false=>
    rw[hc]at e1
    have hrd:rdL q xs (n+1) i=rdL q xs n (i+1):=by rw[rdL,hk,if_pos rfl,hc];rfl
    rw[hrd,←ih,sb5 c33L0.eq_def]
    simp(disch:=first|omega|fail) only[push_cast,seval,ui5,lu7,y81,bj9,wrap64,dec_lt,cw6,nl3,qc6,mr8,nb8,if_pos,if_neg,h1,hk,e1,Int.sub_zero]
theorem h24(hl:xs.length≤9223372036854775807):o24 W 33 [.x (.int .i64 q), .fz b (.sl nl 0 1 (ivs xs)), .x (.int .i64 k)] []=some (.x (.int .i64 (rdE q xs k)),[],[]):=by
 unfold rdE
 cases hn:fldN q.toNat with
 |none=>
  have e0:=uh0 hn
  rw[o10 rfl T33 rfl]
  unfold F33 c33
  simp(disch:=first|omega|fail) only[push_cast,seval,ui5,lu7,y81,bj9,wrap64,dec_lt,cw6,nl3,qc6,mr8,nb8,if_pos,if_neg,e0]
 |some x=>
  obtain⟨p0,m0,g0,mod⟩:=x
  haveI:IsFld q:=⟨⟨p0,m0,g0,mod,hn⟩⟩
  simp only
  by_cases h1:xs.length<1∨64<xs.length
  ·rw[if_pos h1,o10 rfl T33 rfl]
   unfold F33 c33
   by_cases h2:xs.length<1
   ·simp(disch:=first|omega|fail) only[push_cast,seval,ui5,lu7,y81,bj9,wrap64,dec_lt,cw6,nl3,qc6,mr8,nb8,if_pos,if_neg]
   ·simp(disch:=first|omega|fail) only[push_cast,seval,ui5,lu7,y81,bj9,wrap64,dec_lt,cw6,nl3,qc6,mr8,nb8,if_pos,if_neg]
  ·rw[if_neg h1]
   have e1:=fun ks=>cf6 (q:=q) (b:=b) (nl:=nl) (k:=k) (xs:=xs) (by omega) xs.length 0 (by omega) ks
   simp only[Int.natCast_zero,List.take_zero,List.drop_zero,rp2,lz6,x25,List.map_nil,List.length_nil]at e1
   by_cases h2:rdL q xs xs.length 0=0
   ·simp only[if_pos h2]at e1
    rw[if_pos h2,o10 rfl T33 rfl]
    unfold F33 c33
    simp(disch:=first|omega|fail) only[push_cast,seval,ui5,lu7,y81,bj9,wrap64,dec_lt,cw6,nl3,qc6,mr8,nb8,if_pos,if_neg]
    rw[e1]
    by_cases h3:k<1
    ·rw[if_pos (Or.inl h3)]
     simp(disch:=first|omega|fail) only[push_cast,seval,ui5,lu7,y81,bj9,wrap64,dec_lt,cw6,nl3,qc6,mr8,nb8,if_pos,if_neg]
    ·by_cases h4:(xs.length:Int)<k
     ·rw[if_pos (Or.inr h4)]
      simp(disch:=first|omega|fail) only[push_cast,seval,ui5,lu7,y81,bj9,wrap64,dec_lt,cw6,nl3,qc6,mr8,nb8,if_pos,if_neg]
     ·rw[if_neg (by omega)]
      simp(disch:=first|omega|fail) only[push_cast,seval,ui5,lu7,y81,bj9,wrap64,dec_lt,cw6,nl3,qc6,mr8,nb8,if_pos,if_neg]
   ·simp only[if_neg h2]at e1
    rw[if_neg h2,o10 rfl T33 rfl]
    unfold F33 c33
    simp(disch:=first|omega|fail) only[push_cast,seval,ui5,lu7,y81,bj9,wrap64,dec_lt,cw6,nl3,qc6,mr8,nb8,if_pos,if_neg]
    rw[e1]
end
def encT{q:Int}(f:El q→El q)(X:List (El q))(hq:IsFld q):Nat→Nat→List (El q)→List (El q)
 |0,_,z=>z
 |n+1,i,z=>encT f X hq n (i+1) (z.set i (f (wf X i)))
section
variable {q:Int} [hq:IsFld q]
theorem ks7(f:El q→El q)(X:List (El q)): ∀(n i:Nat) (z:List (El q)),(encT f X hq n i z).length=z.length
 |0,_,_=>rfl
 |n+1,i,z=>by rw[encT,ks7 f X n,List.length_set]
theorem ip1(f:El q→El q)(X:List (El q)): ∀(n i:Nat) (z:List (El q)),i+n≤z.length→ ∀j,wf (encT f X hq n i z) j=if i≤j∧j<i+n then f (wf X j)else wf z j
 |0,i,z,_,j=>by rw[encT,if_neg (by omega)]
 |n+1,i,z,h,j=>by
  rw[encT,ip1 f X n (i+1) _ (by rw[List.length_set];omega),wf_set (by omega)]
  by_cases h1:j=i
  ·subst h1
   rw[if_neg (by omega),if_pos rfl,if_pos (by omega)]
  ·rw[if_neg h1]
   by_cases h2:i+1≤j∧j<i+1+n
   ·rw[if_pos h2,if_pos (by omega)]
   ·rw[if_neg h2,if_neg (by omega)]
theorem n91(f:El q→El q)(X:List (El q)){z:List (El q)}(hz:z.length=X.length):encT f X hq X.length 0 z=X.map f:=by
 refine ou8 (by rw[ks7,hz,List.length_map]) (funext fun j=> ?_)
 rw[ip1 f X _ _ _ (by omega)]
 by_cases h:j<X.length
 ·rw[if_pos (by omega),i66 h,i66 (by simpa using h),List.getElem_map]
 ·rw[if_neg (by omega),e00 (by omega),e00 (by simp;omega)]
variable {b b':Bool} {nl nl':Nat} {X m:List (El q)}
theorem gc4(hX:X.length≤1000)(hm:m.length≤128): ∀(n i:Nat) (z:List (El q)),i+n=X.length→z.length=X.length→ ∀ks,
 vgoL W ⟨h40,[.tmp 6, .tmp 7],0⟩ [0,2,10,30,31,32] c40L0 (.blk 0 [10]::ks) [(0, .x (.int .i64 q)),(2, .fz b' (.sl nl' 0 1 (ivs (vs m)))),(10, .own 0 []),(30, .fz b (.sl nl 0 1 (ivs (vs X)))),(31, .x (.int .i64 X.length)),(32, .x (.int .i64 i))] [.sl 0 3 1 (ivs (vs z))]=
  vgo W ⟨h40,[.tmp 6, .tmp 7],0⟩ ks (VFr.of [(10, .own 0 [])]) [.sl 0 3 1 (ivs (vs (encT (fun x=>ev m x) X hq n i z)))]
 |0,i,z,hi,hz,ks=>by
  rw[encT,sb5 c40L0.eq_def]
  simp(disch:=first|omega|fail) only[push_cast,seval,ui5,lu7,y81,bj9,wrap64,dec_lt,cw6,nl3,qc6,mr8,nb8,if_pos,if_neg]
 |n+1,i,z,hi,hz,ks=>by
  have ih:=gc4 hX hm n (i+1) (z.set i (ev m (wf X i))) (by omega) (by rw[List.length_set];exact hz) ks
  have h1:=iva (l:=X) (i:=i) (by omega)
  have e1:=fun b nl=>yu6 (b:=b) (nl:=nl) (a:=m) (x:=wf X i) hm
  rw[Int.natCast_add,Int.natCast_one,←g52]at ih
  rw[encT,←ih,sb5 c40L0.eq_def]
  simp(disch:=first|omega|fail) only[push_cast,seval,ui5,lu7,y81,bj9,wrap64,dec_lt,cw6,nl3,qc6,mr8,nb8,if_pos,if_neg,h1,e1]
theorem su9(hn:X.Nodup)(h1:1≤m.length)(h2:m.length≤X.length)(h3:X.length≤64):
 o24 W 40 [.x (.int .i64 q), .fz b (.sl nl 0 1 (ivs (vs X))), .fz b' (.sl nl' 0 1 (ivs (vs m)))] []=some (.tup [.own 0 [], .x (.int .i64 0)],[.sl 0 3 1 (ivs (vs (X.map fun x=>ev m x)))],[]):=by
 have e1:=fun b nl=>h24 (q:=q) (b:=b) (nl:=nl) (xs:=vs X) (k:=m.length) (by rw[fi2];omega)
 simp only[la8 hn (by omega) h3 (show(1:Int)≤(m.length:Int) by omega) (by omega)]at e1
 have e2:=fun b nl=>bw7 (q:=q) (b:=b) (nl:=nl) (l:=vs m) (by rw[fi2];omega)
 simp only[i31 (show m.length≤128 by omega)]at e2
 have e3:=fun ks=>gc4 (b:=b) (nl:=nl) (b':=b') (nl':=nl') (X:=X) (m:=m) (by omega) (by omega) X.length 0 (List.replicate X.length 0) (by omega) (by simp) ks
 rw[n91 _ _ (by simp)]at e3
 have hz:List.replicate X.length (0:Int)=vs (List.replicate X.length (0:El q)):=by rw[←qj2];rfl
 simp only[Int.natCast_zero,List.take_zero,List.drop_zero,rp2,lz6,x25,List.map_nil,List.length_nil]at e3
 rw[o10 rfl T40 rfl]
 unfold F40 c40
 simp(disch:=first|omega|fail) only[push_cast,seval,ui5,lu7,y81,bj9,wrap64,dec_lt,cw6,nl3,qc6,mr8,nb8,if_pos,if_neg,e1,e2,hz]
 rw[e3]
 simp(disch:=first|omega|fail) only[push_cast,seval,ui5,lu7,y81,bj9,wrap64,dec_lt,cw6,nl3,qc6,mr8,nb8,if_pos,if_neg]
end
end Go.Proofs.YtlhmdmedagjmnaaGreat
namespace Go.Proofs.YtlhmdmedagjmnaaGreat
open Go.Am Go.Vm Go.Alg
section
variable {q:Int}
def oV:Option (El q)→Int
 |none=> -1
 |some x=>x.v
def ws(W:List (Option (El q))):List Int:=W.map oV
theorem u67(W:List (Option (El q))):(ws W).length=W.length:=by unfold ws;rw[List.length_map]
theorem qb7{W:List (Option (El q))}{i:Nat}{o:Option (El q)}(h:W[i]? =some o):(ws W)[i]? =some (oV o):=by
 unfold ws;rw[List.getElem?_map,h];rfl
def kh0:List (El q)→List (Option (El q))→List (El q×El q)
 |x::X,some y::W=>(x,y)::kh0 X W
 |x::X,none::W=>kh0 X W
 |_,_=>[]
theorem ga1: ∀(X:List (El q)) (W:List (Option (El q))),((kh0 X W).map Prod.fst).Sublist X
 |x::X,some y::W=>by rw[kh0];exact(ga1 X W).cons_cons x
 |x::X,none::W=>by rw[kh0];exact(ga1 X W).cons x
 | [],W=>by rw[kh0]<;>simp
 |x::X,[]=>by rw[kh0]<;>simp
theorem ah8(X:List (El q))(W:List (Option (El q))):(kh0 X W).length≤X.length:=by
 have:=(ga1 X W).length_le
 rw[List.length_map]at this;exact this
def wrdE(q:Int)(xs:List Int)(k:Int)(w:List Int):Int:=if rdE q xs k=0 then if w.length≠xs.length then 6 else if(w.any fun v=> !decide (v= -1)&& !fok q v)=true then 2 else 0 else rdE q xs k
theorem w34{w:List Int}(h:(w.any fun v=> !decide (v= -1)&& !fok q v)=false): ∃W:List (Option (El q)),w=ws W:=by
 induction w with
 |nil=>exact⟨[],rfl⟩
 |cons a w ih=>
  rw[List.any_cons,Bool.or_eq_false_iff]at h
  obtain⟨W,rfl⟩:=ih h.2
  by_cases ha:a= -1
  ·exact⟨none::W,by rw[ha];rfl⟩
  ·have h1:=h.1
   rw[decide_eq_false ha]at h1
   have hf:fok q a=true:=by simpa using h1
   obtain⟨h2,h3⟩:=gc0.1 hf
   exact⟨some ⟨a,h2,h3⟩::W,rfl⟩
theorem p09(W:List (Option (El q))):((ws W).any fun v=> !decide (v= -1)&& !fok q v)=false:=List.any_eq_false.2 fun z hz=>by
 obtain⟨o,_,rfl⟩:=List.mem_map.1 hz
 cases o with
 |none=>simp[oV]
 |some x=>show(!decide (x.v= -1)&& !fok q x.v)=_→False
          rw[x.ok];simp
end
section
variable {q:Int} {b b':Bool} {nl nl':Nat}
theorem cl4 [IsFld q]{e:Nat}(v:Int):o24 W 99 [.x (.int .i64 v), .fz b (.pt e [pF q])] []=some (.x (.bool (!decide (v= -1)&& !fok q v)),[],[]):=by
 rw[o10 rfl T99 rfl]
 unfold F99 c99
 by_cases h:v= -1
 ·simp(disch:=first|omega|fail) only[push_cast,seval,ui5,lu7,y81,bj9,wrap64,dec_lt,cw6,nl3,qc6,mr8,nb8,if_pos,if_neg,h]
 ·simp(disch:=first|omega|fail) only[push_cast,seval,ui5,lu7,y81,bj9,wrap64,dec_lt,cw6,nl3,qc6,mr8,nb8,if_pos,if_neg,nb8 h]
theorem hd9{xs w:List Int}{k:Int}(hx:xs.length≤9223372036854775807)(hw:w.length≤9223372036854775807):
 o24 W 35 [.x (.int .i64 q), .fz b (.sl nl 0 1 (ivs xs)), .x (.int .i64 k), .fz b' (.sl nl' 0 1 (ivs w))] []=some (.x (.int .i64 (wrdE q xs k w)),[],[]):=by
 have e1:=fun b nl=>h24 (q:=q) (b:=b) (nl:=nl) (k:=k) hx
 unfold wrdE
 by_cases h1:rdE q xs k=0
 ·simp only[if_pos h1]
  haveI:=(z24 h1).1
  by_cases h2:w.length=xs.length
  ·rw[if_neg (by omega)]
   have hf:=fun bl nl b e=>eg0 (nl:=nl) (l:=w) (bl:=bl) (k:=99) (b:=b) (t:= .pt e [pF q]) cl4 rfl (by omega)
   rw[o10 rfl T35 rfl]
   unfold F35 c35
   by_cases h3:(w.any fun v=> !decide (v= -1)&& !fok q v)=true
   ·rw[if_pos h3]
    rw[h3]at hf
    simp(disch:=first|omega|fail) only[push_cast,seval,ui5,lu7,y81,bj9,wrap64,dec_lt,cw6,nl3,qc6,mr8,nb8,if_pos,if_neg,e1,h1,h2,hf]
   ·rw[if_neg h3]
    rw[Bool.not_eq_true]at h3
    rw[h3]at hf
    simp(disch:=first|omega|fail) only[push_cast,seval,ui5,lu7,y81,bj9,wrap64,dec_lt,cw6,nl3,qc6,mr8,nb8,if_pos,if_neg,e1,h1,h2,hf]
  ·rw[if_pos h2]
   have h8: ¬(w.length:Int)=(xs.length:Int):=by omega
   rw[o10 rfl T35 rfl]
   unfold F35 c35
   simp(disch:=first|omega|fail) only[push_cast,seval,ui5,lu7,y81,bj9,wrap64,dec_lt,cw6,nl3,qc6,mr8,nb8,if_pos,if_neg,e1,h1,nb8 h8]
 ·simp only[if_neg h1]
  rw[o10 rfl T35 rfl]
  unfold F35 c35
  simp(disch:=first|omega|fail) only[push_cast,seval,ui5,lu7,y81,bj9,wrap64,dec_lt,cw6,nl3,qc6,mr8,nb8,if_pos,if_neg,e1,nb8 h1]
theorem ww2{X:List (El q)}{U:List (Option (El q))}(hl:U.length=X.length)(hX:X.length≤1000000): ∀(n i:Nat) (A:List (El q×El q)),i+n=X.length→A.length≤i→ ∀ks,
 vgoL W ⟨h170,[.tmp 4, .tmp 5],0⟩ [0,4,5,8,9,10] c170L0 (.blk 0 [4,5]::ks) [(0, .fz b (.sl nl 0 1 (ivs (vs X)))),(4, .own 0 []),(5, .own 1 []),(8, .fz b' (.sl nl' 0 1 (ivs (ws U)))),(9, .x (.int .i64 X.length)),(10, .x (.int .i64 i))] [.sl 1 3 1 (ivs (vs (A.map Prod.fst))), .sl 1 3 1 (ivs (vs (A.map Prod.snd)))]=
  vgo W ⟨h170,[.tmp 4, .tmp 5],0⟩ ks (VFr.of [(4, .own 0 []),(5, .own 1 [])]) [.sl 1 3 1 (ivs (vs ((A++kh0 (X.drop i) (U.drop i)).map Prod.fst))), .sl 1 3 1 (ivs (vs ((A++kh0 (X.drop i) (U.drop i)).map Prod.snd)))]
 |0,i,A,hi,hA,ks=>by
  rw[oh9 (by omega),oh9 (by omega),show kh0 ([]:List (El q)) []=[]from rfl,List.append_nil,sb5 c170L0.eq_def]
  simp(disch:=first|omega|fail) only[push_cast,seval,ui5,lu7,y81,bj9,wrap64,dec_lt,cw6,nl3,qc6,mr8,nb8,if_pos,if_neg]
 |n+1,i,A,hi,hA,ks=>by
  obtain⟨x,hx⟩:=ge6 (l:=X) (i:=i) (by omega)
  obtain⟨o,ho⟩:=ge6 (l:=U) (i:=i) (by omega)
  have h1:=iat (qb7 ho)
  have h2:=iat (show(vs X)[i]? =some x.v by unfold vs;rw[List.getElem?_map,hx];rfl)
  have hlt:i<X.length:=by omega
  have hwl:=u67 U
  rw[i62 hx,i62 ho]
  cases o with
  |none=>
   rw[show oV (none:Option (El q))= -1 from rfl]at h1
   have ih:=ww2 hl hX n (i+1) A (by omega) (by omega) ks
   rw[Int.natCast_add,Int.natCast_one]at ih
   rw[kh0,←ih,sb5 c170L0.eq_def]
   simp(disch:=first|omega|fail) only[push_cast,seval,ui5,lu7,y81,bj9,wrap64,dec_lt,cw6,nl3,qc6,mr8,nb8,if_pos,if_neg,h1,hwl]
  |some y=>
   rw[show oV (some y)=y.v from rfl]at h1
   have ih:=ww2 hl hX n (i+1) (A++[(x,y)]) (by omega) (by rw[List.length_append,List.length_singleton];omega) ks
   have hy: ¬y.v= -1:=by have:=y.lo;omega
   rw[Int.natCast_add,Int.natCast_one,List.append_assoc,List.singleton_append,List.map_append,List.map_append,gq8,gq8,show vs (List.map Prod.fst [(x,y)])=[x.v]from rfl,show vs (List.map Prod.snd [(x,y)])=[y.v]from rfl]at ih
   rw[kh0,←ih,sb5 c170L0.eq_def]
   simp(disch:=first|omega|fail) only[push_cast,seval,ui5,lu7,y81,bj9,wrap64,dec_lt,cw6,nl3,qc6,mr8,nb8,if_pos,if_neg,h1,h2,hwl,nb8 hy]
theorem jl7{X:List (El q)}{U:List (Option (El q))}(hl:U.length=X.length)(hX:X.length≤1000000):
 o24 W 170 [.fz b (.sl nl 0 1 (ivs (vs X))), .fz b' (.sl nl' 0 1 (ivs (ws U)))] []=some (.tup [.own 0 [], .own 1 []],[.sl 1 3 1 (ivs (vs ((kh0 X U).map Prod.fst))), .sl 1 3 1 (ivs (vs ((kh0 X U).map Prod.snd)))],[]):=by
 have e:=fun ks=>ww2 (b:=b) (nl:=nl) (b':=b') (nl':=nl') hl hX X.length 0 [] (by omega) (by simp) ks
 rw[List.drop_zero,List.drop_zero,List.nil_append]at e
 simp only[List.map_nil,rp2,lz6,Int.natCast_zero]at e
 have hwl:=u67 U
 rw[o10 rfl T170 rfl]
 unfold F170 c170
 simp(disch:=first|omega|fail) only[push_cast,seval,ui5,lu7,y81,bj9,wrap64,dec_lt,cw6,nl3,qc6,mr8,nb8,if_pos,if_neg,hwl,hl]
 rw[e]
 simp(disch:=first|omega|fail) only[push_cast,seval,ui5,lu7,y81,bj9,wrap64,dec_lt,cw6,nl3,qc6,mr8,nb8,if_pos,if_neg]
theorem di6 [IsFld q](a:List (El q))(p:El q×El q)(P:List (El q×El q)):offK a (p::P)=(if ev a p.1=p.2 then 0 else 1)+offK a P:=by
 unfold offK
 rw[List.filter_cons]
 by_cases h:ev a p.1=p.2
 ·rw[if_pos h,zr2.2 h,if_neg (by decide),Nat.zero_add]
 ·have hb:badF a p=true:=by unfold badF;simpa using h
  rw[if_neg h,hb,if_pos rfl,List.length_cons,Nat.add_comm]
theorem jm8 [IsFld q]{P:List (El q×El q)}{a:List (El q)}{k:Int}{b2:Bool}{nl2:Nat}(ha:a.length≤128)(hP:P.length≤1000): ∀(n i m:Nat),i+n=P.length→m≤i→ ∀ks,
 vgoL W ⟨hNo,[.tmp 10, .tmp 11],0⟩ [0,1,2,3,4,12,17,18] c200L0 (.blk 0 [1,4,12]::ks) [(0, .x (.int .i64 q)),(1, .fz b (.sl nl 0 1 (ivs (vs (P.map Prod.fst))))),(2, .fz b' (.sl nl' 0 1 (ivs (vs (P.map Prod.snd))))),(3, .fz b2 (.sl nl2 0 1 (ivs (vs a)))),(4, .x (.int .i64 k)),(12, .x (.int .i64 m)),(17, .x (.int .i64 P.length)),(18, .x (.int .i64 i))] []=
  vgo W ⟨hNo,[.tmp 10, .tmp 11],0⟩ ks (VFr.of [(1, .fz b (.sl nl 0 1 (ivs (vs (P.map Prod.fst))))),(4, .x (.int .i64 k)),(12, .x (.int .i64 (m+offK a (P.drop i):Nat)))]) []
 |0,i,m,hi,hm,ks=>by
  rw[oh9 (by omega),show offK a ([]:List (El q×El q))=0 from rfl,Nat.add_zero,sb5 c200L0.eq_def]
  simp(disch:=first|omega|fail) only[push_cast,seval,ui5,lu7,y81,bj9,wrap64,dec_lt,cw6,nl3,qc6,mr8,nb8,if_pos,if_neg]
 |n+1,i,m,hi,hm,ks=>by
  obtain⟨p,hp⟩:=ge6 (l:=P) (i:=i) (by omega)
  have h1:=iat (show(vs (P.map Prod.fst))[i]? =some p.1.v by unfold vs;rw[List.getElem?_map,List.getElem?_map,hp];rfl)
  have h2:=iat (show(vs (P.map Prod.snd))[i]? =some p.2.v by unfold vs;rw[List.getElem?_map,List.getElem?_map,hp];rfl)
  have e1:=fun b nl=>yu6 (b:=b) (nl:=nl) (x:=p.1) ha
  have hlt:i<P.length:=by omega
  have ih:=jm8 (k:=k) (b2:=b2) (nl2:=nl2) ha hP n (i+1) (m+if ev a p.1=p.2 then 0 else 1) (by omega) (by split<;>omega) ks
  rw[i62 hp,di6]
  rw[Nat.add_assoc]at ih
  rw[←ih,sb5 c200L0.eq_def]
  by_cases h:ev a p.1=p.2
  ·rw[if_pos h,Nat.add_zero,Int.natCast_add,Int.natCast_one]
   rw[h]at e1
   simp(disch:=first|omega|fail) only[push_cast,seval,ui5,lu7,y81,bj9,wrap64,dec_lt,cw6,nl3,qc6,mr8,nb8,if_pos,if_neg,h1,h2,e1]
  ·have hv: ¬(ev a p.1).v=p.2.v:=fun e=>h (El.ext' e)
   rw[if_neg h,Int.natCast_add,Int.natCast_one,Int.natCast_add,Int.natCast_one]
   simp(disch:=first|omega|fail) only[push_cast,seval,ui5,lu7,y81,bj9,wrap64,dec_lt,cw6,nl3,qc6,mr8,nb8,if_pos,if_neg,h1,h2,e1,nb8 hv]
theorem oq2 [IsFld q]{P:List (El q×El q)}{a:List (El q)}{k:Nat}{b2:Bool}{nl2:Nat}(ha:a.length≤128)(hP:P.length≤1000)(hk:k≤1000):
 o24 W 200 [.x (.int .i64 q), .fz b (.sl nl 0 1 (ivs (vs (P.map Prod.fst)))), .fz b' (.sl nl' 0 1 (ivs (vs (P.map Prod.snd)))), .fz b2 (.sl nl2 0 1 (ivs (vs a))), .x (.int .i64 k)] []=some (.tup [.x (.int .i64 (offK a P:Nat)), .x (.bool (decide (2*offK a P+k≤P.length)))],[],[]):=by
 have e:=fun ks=>jm8 (b:=b) (nl:=nl) (b':=b') (nl':=nl') (b2:=b2) (nl2:=nl2) (k:=k) ha hP P.length 0 0 (by omega) (by omega) ks
 rw[List.drop_zero,Nat.zero_add]at e
 simp only[Int.natCast_zero]at e
 have ho:offK a P≤P.length:=List.length_filter_le _ _
 have w1:IntKind.wrap .i64 (2*((offK a P:Nat):Int))=2*((offK a P:Nat):Int):=wrap64 (by omega) (by omega)
 have w2:IntKind.wrap .i64 ((P.length:Int)-(k:Int))=(P.length:Int)-(k:Int):=wrap64 (by omega) (by omega)
 have hd:decide (2*((offK a P:Nat):Int)≤(P.length:Int)-(k:Int))=decide (2*offK a P+k≤P.length):=decide_eq_decide.2 (by omega)
 rw[o10 rfl T200 rfl]
 unfold F200 c200
 simp(disch:=first|omega|fail) only[push_cast,seval,ui5,lu7,y81,bj9,wrap64,dec_lt,cw6,nl3,qc6,mr8,nb8,if_pos,if_neg,List.length_map]
 rw[e]
 simp(disch:=first|omega|fail) only[push_cast,seval,ui5,lu7,y81,bj9,wrap64,dec_lt,cw6,nl3,qc6,mr8,nb8,if_pos,if_neg,w1,w2,hd,List.length_map]
theorem om1 [IsFld q]{a:List (El q)}{k:Nat}(ha:a.length≤k)(hk:k≤1000):
 o24 W 201 [.fz b (.sl nl 0 1 (ivs (vs a))), .x (.int .i64 k)] []=some (.own 0 [],[.sl 0 3 1 (ivs (vs (qi3 a k)))],[]):=by
 have hf:vs (qi3 a k)=vs a++List.replicate (k-a.length) 0:=by
  rw[←hc8 (q:=q),qj2,←gq8]
  congr 1
  refine ou8 (by rw[of2];simp;omega) ?_
  rw[yq4 fun j hj=>e00 (by omega)]
  funext j
  rw[nz0,m13]
  split
  ·rfl
  ·exact e00 (by omega)
 have hs:setL (ivs (List.replicate k 0)) 0 (ivs ((vs a).take k))=ivs (vs a++List.replicate (k-a.length) 0):=by
  rw[List.take_of_length_le (by rw[fi2];exact ha)]
  have hl:(ivs (vs a)).length=a.length:=by rw[gf1,fi2]
  rw[dn3 (by rw[hl,gf1,List.length_replicate];omega),hl]
  unfold ivs
  rw[List.map_append,List.map_replicate,List.map_replicate,List.take_zero,List.nil_append,List.drop_replicate,Nat.zero_add]
 rw[hf,o10 rfl T201 rfl]
 unfold F201 c201
 simp(disch:=first|omega|fail) only[push_cast,seval,ui5,lu7,y81,bj9,wrap64,dec_lt,cw6,nl3,qc6,mr8,nb8,if_pos,if_neg,hs]
end
end Go.Proofs.YtlhmdmedagjmnaaGreat
namespace Go.Proofs.YtlhmdmedagjmnaaGreat
open Go.Am Go.Vm Go.Alg
section
variable {q p m g:Int} {t:Tree} {b b':Bool} {nl nl':Nat} {l:List Int}
theorem kl5 [IsFld q](u:RFo q p m g t)(hl:l.length≤1000000): ∀(n i:Nat),i+n=l.length→ ∀ks,
 vgoL W ⟨hNo,[.tmp 4],0⟩ [1,5,7] c37L0 (.blk 0 []::ks) [(1, .fz b (.sl nl 0 1 (ivs l))),(5, .own 0 []),(7, .x (.int .i64 i))] [.pt 52 [.v (.int .i64 q), .v (.int .i64 p), .v (.int .i64 m), .v (.int .i64 g), .fz t]]=if((l.drop i).any fun v=> !fok q v)=true then some (.x (.int .i64 2),[],[])else vgo W ⟨hNo,[.tmp 4],0⟩ ks (VFr.of []) [.pt 52 [.v (.int .i64 q), .v (.int .i64 p), .v (.int .i64 m), .v (.int .i64 g), .fz t]]
 |0,i,hi,ks=>by
  rw[oh9 (by omega),if_neg (by simp),sb5 c37L0.eq_def]
  simp(disch:=first|omega|fail) only[push_cast,seval,ui5,lu7,y81,bj9,wrap64,dec_lt,cw6,nl3,qc6,mr8,nb8,if_pos,if_neg]
 |n+1,i,hi,ks=>by
  have ih:=kl5 u hl n (i+1) (by omega) ks
  obtain⟨a,ha⟩:=ge6 (l:=l) (i:=i) (by omega)
  have h1:=iat ha
  have ht:=u.n
  have ho:=u.o
  have vhas:=fun x:Int=>xb9 (q:=q) (x:=x)
  rw[u.e]at vhas
  rw[Int.natCast_add,Int.natCast_one]at ih
  rw[i62 ha,List.any_cons]
  cases hf:fok q a with
  |true=>
   rw[Bool.not_true,Bool.false_or,←ih,sb5 c37L0.eq_def]
   simp(disch:=first|omega|fail) only[push_cast,seval,ui5,lu7,y81,bj9,wrap64,dec_lt,cw6,nl3,qc6,mr8,nb8,if_pos,if_neg,h1,ht,ho,vhas,hf]
  |false=>
   rw[Bool.not_false,Bool.true_or,if_pos rfl,sb5 c37L0.eq_def]
   simp(disch:=first|omega|fail) only[push_cast,seval,ui5,lu7,y81,bj9,wrap64,dec_lt,cw6,nl3,qc6,mr8,nb8,if_pos,if_neg,h1,ht,ho,vhas,hf]
theorem s15(hl:l.length≤1000000):o24 W 37 [.x (.int .i64 q), .fz b (.sl nl 0 1 (ivs l))] []=some (.x (.int .i64 (polE q l)),[],[]):=by
 unfold polE
 cases hn:fldN q.toNat with
 |none=>
  have e1:=fg0 hn
  rw[o10 rfl T37 rfl]
  unfold F37 c37
  simp(disch:=first|omega|fail) only[push_cast,seval,ui5,lu7,y81,bj9,wrap64,dec_lt,cw6,nl3,qc6,mr8,nb8,if_pos,if_neg,e1]
 |some x=>
  obtain⟨p0,m0,g0,mod⟩:=x
  haveI:IsFld q:=⟨⟨p0,m0,g0,mod,hn⟩⟩
  obtain⟨p,m,g,t,u⟩:=k75 q
  have ht:=u.n
  have e0:o24 W 38 [.x (.int .i64 q)] []=_:=uw8
  rw[u.e]at e0
  simp only
  by_cases h1:128<l.length
  ·rw[if_pos h1,o10 rfl T37 rfl]
   unfold F37 c37
   simp(disch:=first|omega|fail) only[push_cast,seval,ui5,lu7,y81,bj9,wrap64,dec_lt,cw6,nl3,qc6,mr8,nb8,if_pos,if_neg,e0,ht]
  ·have e:=fun ks=>kl5 (b:=b) (nl:=nl) u hl l.length 0 (by omega) ks
   rw[List.drop_zero]at e
   simp only[Int.natCast_zero]at e
   rw[if_neg h1,o10 rfl T37 rfl]
   unfold F37 c37
   simp(disch:=first|omega|fail) only[push_cast,seval,ui5,lu7,y81,bj9,wrap64,dec_lt,cw6,nl3,qc6,mr8,nb8,if_pos,if_neg,e0,ht]
   rw[e]
   by_cases h2:(l.any fun v=> !fok q v)=true
   ·rw[if_pos h2,if_pos h2]
   ·rw[if_neg h2,if_neg h2]
    simp(disch:=first|omega|fail) only[push_cast,seval,ui5,lu7,y81,bj9,wrap64,dec_lt,cw6,nl3,qc6,mr8,nb8,if_pos,if_neg]
theorem z44(x:Int)(l:List Int):(l.any fun y=>decide (y=x))=l.any fun y=>decide (x=y):=by
 congr 1
 funext y
 exact decide_eq_decide.2 eq_comm
variable {xs:List Int} {k:Int}
theorem sr3 [IsFld q](u:RFo q p m g t)(hl:xs.length≤1000000): ∀(n i:Nat),i+n=xs.length→ ∀ks,
 vgoL W ⟨hNo,[.tmp 6],0⟩ [1,2,7,9] c34L0 (.blk 0 [1,2]::ks) [(1, .fz b (.sl nl 0 1 (ivs xs))),(2, .x (.int .i64 k)),(7, .own 0 []),(9, .x (.int .i64 i))] [.pt 52 [.v (.int .i64 q), .v (.int .i64 p), .v (.int .i64 m), .v (.int .i64 g), .fz t]]=
  if rdL q xs n i=0 then vgo W ⟨hNo,[.tmp 6],0⟩ ks (VFr.of [(1, .fz b (.sl nl 0 1 (ivs xs))),(2, .x (.int .i64 k))]) [.pt 52 [.v (.int .i64 q), .v (.int .i64 p), .v (.int .i64 m), .v (.int .i64 g), .fz t]]else some (.x (.int .i64 (rdL q xs n i)),[],[])
 |0,i,hi,ks=>by
  rw[rdL,if_pos rfl,sb5 c34L0.eq_def]
  simp(disch:=first|omega|fail) only[push_cast,seval,ui5,lu7,y81,bj9,wrap64,dec_lt,cw6,nl3,qc6,mr8,nb8,if_pos,if_neg]
 |n+1,i,hi,ks=>by
  have ih:=sr3 u hl n (i+1) (by omega) ks
  have h1:=ui5 (zs:=xs) (i:=i) (by omega)
  have e1:=fun b nl=>cr7 (b:=b) (nl:=nl) (x:=gi xs i) (l:=xs.take i) (by rw[List.length_take];omega)
  rw[z44]at e1
  have ht:=u.n
  have ho:=u.o
  have vhas:=fun x:Int=>xb9 (q:=q) (x:=x)
  rw[u.e]at vhas
  rw[Int.natCast_add,Int.natCast_one]at ih
  cases hk:fok q (gi xs i)with
  |false=>
   have hrd:rdL q xs (n+1) i=2:=by rw[rdL,hk];rfl
   rw[hrd,if_neg (by decide),sb5 c34L0.eq_def]
   simp(disch:=first|omega|fail) only[push_cast,seval,ui5,lu7,y81,bj9,wrap64,dec_lt,cw6,nl3,qc6,mr8,nb8,if_pos,if_neg,h1,hk,ht,ho,vhas]
  |true=>
   cases hc:(xs.take i).any fun y=>decide (gi xs i=y)with
   |true=>
    rw[hc]at e1
    have hrd:rdL q xs (n+1) i=7:=by rw[rdL,hk,if_pos rfl,hc];rfl
    rw[hrd,if_neg (by decide),sb5 c34L0.eq_def]
    simp(disch:=first|omega|fail) only[push_cast,seval,ui5,lu7,y81,bj9,wrap64,dec_lt,cw6,nl3,qc6,mr8,nb8,if_pos,if_neg,h1,hk,e1,Int.sub_zero,ht,ho,vhas]
   |false=>
    rw[hc]at e1
    have hrd:rdL q xs (n+1) i=rdL q xs n (i+1):=by rw[rdL,hk,if_pos rfl,hc];rfl
    rw[hrd,←ih,sb5 c34L0.eq_def]
    simp(disch:=first|omega|fail) only[push_cast,seval,ui5,lu7,y81,bj9,wrap64,dec_lt,cw6,nl3,qc6,mr8,nb8,if_pos,if_neg,h1,hk,e1,Int.sub_zero,ht,ho,vhas]
theorem pw2(hl:xs.length≤9223372036854775807):o24 W 34 [.x (.int .i64 q), .fz b (.sl nl 0 1 (ivs xs)), .x (.int .i64 k)] []=some (.x (.int .i64 (rdE q xs k)),[],[]):=by
 unfold rdE
 cases hn:fldN q.toNat with
 |none=>
  have e0:=fg0 hn
  rw[o10 rfl T34 rfl]
  unfold F34 c34
  simp(disch:=first|omega|fail) only[push_cast,seval,ui5,lu7,y81,bj9,wrap64,dec_lt,cw6,nl3,qc6,mr8,nb8,if_pos,if_neg,e0]
 |some x=>
  obtain⟨p0,m0,g0,mod⟩:=x
  haveI:IsFld q:=⟨⟨p0,m0,g0,mod,hn⟩⟩
  obtain⟨p,m,g,t,u⟩:=k75 q
  have ht:=u.n
  have e0:o24 W 38 [.x (.int .i64 q)] []=_:=uw8
  rw[u.e]at e0
  simp only
  by_cases h1:xs.length<1∨64<xs.length
  ·rw[if_pos h1,o10 rfl T34 rfl]
   unfold F34 c34
   by_cases h2:xs.length<1
   ·simp(disch:=first|omega|fail) only[push_cast,seval,ui5,lu7,y81,bj9,wrap64,dec_lt,cw6,nl3,qc6,mr8,nb8,if_pos,if_neg,e0,ht]
   ·simp(disch:=first|omega|fail) only[push_cast,seval,ui5,lu7,y81,bj9,wrap64,dec_lt,cw6,nl3,qc6,mr8,nb8,if_pos,if_neg,e0,ht]
  ·rw[if_neg h1]
   have e1:=fun ks=>sr3 (q:=q) (b:=b) (nl:=nl) (k:=k) (xs:=xs) u (by omega) xs.length 0 (by omega) ks
   simp only[Int.natCast_zero]at e1
   by_cases h2:rdL q xs xs.length 0=0
   ·simp only[if_pos h2]at e1
    rw[if_pos h2,o10 rfl T34 rfl]
    unfold F34 c34
    simp(disch:=first|omega|fail) only[push_cast,seval,ui5,lu7,y81,bj9,wrap64,dec_lt,cw6,nl3,qc6,mr8,nb8,if_pos,if_neg,e0,ht]
    rw[e1]
    by_cases h3:k<1
    ·rw[if_pos (.inl h3)]
     simp(disch:=first|omega|fail) only[push_cast,seval,ui5,lu7,y81,bj9,wrap64,dec_lt,cw6,nl3,qc6,mr8,nb8,if_pos,if_neg,dec_lt h3]
    ·by_cases h4:(xs.length:Int)<k
     ·rw[if_pos (.inr h4)]
      simp(disch:=first|omega|fail) only[push_cast,seval,ui5,lu7,y81,bj9,wrap64,dec_lt,cw6,nl3,qc6,mr8,nb8,if_pos,if_neg,cw6 (Int.not_lt.1 h3),dec_lt h4]
     ·rw[if_neg (by omega)]
      simp(disch:=first|omega|fail) only[push_cast,seval,ui5,lu7,y81,bj9,wrap64,dec_lt,cw6,nl3,qc6,mr8,nb8,if_pos,if_neg,cw6 (Int.not_lt.1 h3),cw6 (Int.not_lt.1 h4)]
   ·simp only[if_neg h2]at e1
    rw[if_neg h2,o10 rfl T34 rfl]
    unfold F34 c34
    simp(disch:=first|omega|fail) only[push_cast,seval,ui5,lu7,y81,bj9,wrap64,dec_lt,cw6,nl3,qc6,mr8,nb8,if_pos,if_neg,e0,ht]
    rw[e1]
variable {w:List Int}
theorem sc8 [IsFld q](u:RFo q p m g t)(hl:w.length≤1000000): ∀(n i:Nat),i+n=w.length→ ∀ks,
 vgoL W ⟨hNo,[.tmp 8],0⟩ [3,10,12] c36L0 (.blk 0 []::ks) [(3, .fz b (.sl nl 0 1 (ivs w))),(10, .own 0 []),(12, .x (.int .i64 i))] [.pt 52 [.v (.int .i64 q), .v (.int .i64 p), .v (.int .i64 m), .v (.int .i64 g), .fz t]]=if((w.drop i).any fun v=> !decide (v= -1)&& !fok q v)=true then some (.x (.int .i64 2),[],[])else vgo W ⟨hNo,[.tmp 8],0⟩ ks (VFr.of []) [.pt 52 [.v (.int .i64 q), .v (.int .i64 p), .v (.int .i64 m), .v (.int .i64 g), .fz t]]
 |0,i,hi,ks=>by
  rw[oh9 (by omega),if_neg (by simp),sb5 c36L0.eq_def]
  simp(disch:=first|omega|fail) only[push_cast,seval,ui5,lu7,y81,bj9,wrap64,dec_lt,cw6,nl3,qc6,mr8,nb8,if_pos,if_neg]
 |n+1,i,hi,ks=>by
  have ih:=sc8 u hl n (i+1) (by omega) ks
  obtain⟨a,ha⟩:=ge6 (l:=w) (i:=i) (by omega)
  have h1:=iat ha
  have ht:=u.n
  have ho:=u.o
  have vhas:=fun x:Int=>xb9 (q:=q) (x:=x)
  rw[u.e]at vhas
  rw[Int.natCast_add,Int.natCast_one]at ih
  rw[i62 ha,List.any_cons]
  by_cases h0:a= -1
  ·rw[decide_eq_true h0,Bool.not_true,Bool.false_and,Bool.false_or,←ih,sb5 c36L0.eq_def]
   simp(disch:=first|omega|fail) only[push_cast,seval,ui5,lu7,y81,bj9,wrap64,dec_lt,cw6,nl3,qc6,mr8,nb8,if_pos,if_neg,h1,ht,ho,vhas,h0]
  ·rw[decide_eq_false h0,Bool.not_false,Bool.true_and]
   cases hf:fok q a with
   |true=>
    rw[Bool.not_true,Bool.false_or,←ih,sb5 c36L0.eq_def]
    simp(disch:=first|omega|fail) only[push_cast,seval,ui5,lu7,y81,bj9,wrap64,dec_lt,cw6,nl3,qc6,mr8,nb8,if_pos,if_neg,h1,ht,ho,vhas,hf,nb8 h0]
   |false=>
    rw[Bool.not_false,Bool.true_or,if_pos rfl,sb5 c36L0.eq_def]
    simp(disch:=first|omega|fail) only[push_cast,seval,ui5,lu7,y81,bj9,wrap64,dec_lt,cw6,nl3,qc6,mr8,nb8,if_pos,if_neg,h1,ht,ho,vhas,hf,nb8 h0]
theorem r73(hx:xs.length≤9223372036854775807)(hw:w.length≤9223372036854775807):
 o24 W 36 [.x (.int .i64 q), .fz b (.sl nl 0 1 (ivs xs)), .x (.int .i64 k), .fz b' (.sl nl' 0 1 (ivs w))] []=some (.x (.int .i64 (wrdE q xs k w)),[],[]):=by
 have e1:=fun b nl=>pw2 (q:=q) (b:=b) (nl:=nl) (k:=k) hx
 unfold wrdE
 by_cases h1:rdE q xs k=0
 ·simp only[if_pos h1]
  haveI:=(z24 h1).1
  obtain⟨_,X,hX,_,_,hX64,_⟩:=z24 h1
  have hxl:xs.length≤64:=by rw[hX,fi2];exact hX64
  obtain⟨p,m,g,t,u⟩:=k75 q
  have ht:=u.n
  have e0:o24 W 38 [.x (.int .i64 q)] []=_:=uw8
  rw[u.e]at e0
  by_cases h2:w.length=xs.length
  ·rw[if_neg (by omega)]
   have e:=fun ks=>sc8 (b:=b') (nl:=nl') u (w:=w) (by omega) w.length 0 (by omega) ks
   rw[List.drop_zero]at e
   simp only[Int.natCast_zero]at e
   rw[o10 rfl T36 rfl]
   unfold F36 c36
   simp(disch:=first|omega|fail) only[push_cast,seval,ui5,lu7,y81,bj9,wrap64,dec_lt,cw6,nl3,qc6,mr8,nb8,if_pos,if_neg,e1,h1,h2,e0,ht]
   rw[e]
   by_cases h3:(w.any fun v=> !decide (v= -1)&& !fok q v)=true
   ·rw[if_pos h3,if_pos h3]
   ·rw[if_neg h3,if_neg h3]
    simp(disch:=first|omega|fail) only[push_cast,seval,ui5,lu7,y81,bj9,wrap64,dec_lt,cw6,nl3,qc6,mr8,nb8,if_pos,if_neg]
  ·rw[if_pos h2]
   have h8: ¬(w.length:Int)=(xs.length:Int):=by omega
   rw[o10 rfl T36 rfl]
   unfold F36 c36
   simp(disch:=first|omega|fail) only[push_cast,seval,ui5,lu7,y81,bj9,wrap64,dec_lt,cw6,nl3,qc6,mr8,nb8,if_pos,if_neg,e1,h1,nb8 h8,e0,ht]
 ·simp only[if_neg h1]
  rw[o10 rfl T36 rfl]
  unfold F36 c36
  simp(disch:=first|omega|fail) only[push_cast,seval,ui5,lu7,y81,bj9,wrap64,dec_lt,cw6,nl3,qc6,mr8,nb8,if_pos,if_neg,e1,nb8 h1]
end
section
variable {q p m g:Int} [IsFld q] {t:Tree} {b b':Bool} {nl nl':Nat} {a:List (El q)} {x:El q}
theorem me6(u:RFo q p m g t)(hl:a.length≤1000): ∀(n:Nat) (v:El q),n≤a.length→ ∀ks,
 vgoL W ⟨hNo,[.tmp 6],0⟩ [1,2,3,7,8] c168L0 (.blk 0 [7]::ks) [(1, .fz b (.sl nl 0 1 (ivs (vs a)))),(2, .x (.int .i64 x.v)),(3, .own 0 []),(7, .x (.int .i64 v.v)),(8, .x (.int .i64 ((n:Int)-1)))] [.pt 52 [.v (.int .i64 q), .v (.int .i64 p), .v (.int .i64 m), .v (.int .i64 g), .fz t]]=
  vgo W ⟨hNo,[.tmp 6],0⟩ ks (VFr.of [(7, .x (.int .i64 ((evT a x n v).v)))]) [.pt 52 [.v (.int .i64 q), .v (.int .i64 p), .v (.int .i64 m), .v (.int .i64 g), .fz t]]
 |0,v,hn,ks=>by
  rw[evT,sb5 c168L0.eq_def]
  simp(disch:=first|omega|fail) only[push_cast,seval,ui5,lu7,y81,bj9,wrap64,dec_lt,cw6,nl3,qc6,mr8,nb8,if_pos,if_neg]
 |n+1,v,hn,ks=>by
  have ih:=me6 u hl n (v*x+wf a n) (by omega) ks
  have h1:=iva (l:=a) (i:=n) (by omega)
  have w1:((n+1:Nat):Int)-1=(n:Int):=by omega
  have ht:=u.n
  have ho:=u.o
  have vmul:=fun x y:Int=>n06 (q:=q) (x:=x) (y:=y)
  rw[u.e]at vmul
  have vadd:=fun x y:Int=>ze0 (q:=q) (x:=x) (y:=y)
  rw[u.e]at vadd
  rw[on0,ym6]at ih
  rw[evT,←ih,sb5 c168L0.eq_def,w1]
  simp(disch:=first|omega|fail) only[push_cast,seval,ui5,lu7,y81,bj9,wrap64,dec_lt,cw6,nl3,qc6,mr8,nb8,if_pos,if_neg,h1,ht,ho,vmul,vadd]
theorem h18(hl:a.length≤1000):o24 W 168 [.agg (rFs q), .fz b (.sl nl 0 1 (ivs (vs a))), .x (.int .i64 x.v)] []=some (.x (.int .i64 (ev a x).v),[],[]):=by
 obtain⟨p,m,g,t,u⟩:=k75 q
 have e:=fun ks=>me6 (b:=b) (nl:=nl) (x:=x) u hl a.length 0 (Nat.le_refl _) ks
 rw[gr6,hc8]at e
 have ht:=u.n
 rw[o10 rfl T168 rfl,u.e]
 unfold F168 c168
 simp(disch:=first|omega|fail) only[push_cast,seval,ui5,lu7,y81,bj9,wrap64,dec_lt,cw6,nl3,qc6,mr8,nb8,if_pos,if_neg,ht]
 rw[e]
 simp(disch:=first|omega|fail) only[push_cast,seval,ui5,lu7,y81,bj9,wrap64,dec_lt,cw6,nl3,qc6,mr8,nb8,if_pos,if_neg]
theorem xz0(hl:a.length≤1000):o24 W 103 [.agg (rFs q), .fz b (.sl nl 0 1 (ivs (vs a))), .x (.int .i64 x.v)] []=some (.x (.int .i64 (ev a x).v),[],[]):=by
 obtain⟨p,m,g,t,u⟩:=k75 q
 have e:=fun b nl=>h18 (b:=b) (nl:=nl) (x:=x) hl
 rw[u.e]at e
 have ht:=u.n
 have ho:=u.o
 rw[o10 rfl T103 rfl,u.e]
 unfold F103 c103
 simp(disch:=first|omega|fail) only[push_cast,seval,ui5,lu7,y81,bj9,wrap64,dec_lt,cw6,nl3,qc6,mr8,nb8,if_pos,if_neg,ht,ho,e]
end
end Go.Proofs.YtlhmdmedagjmnaaGreat
namespace Go.Proofs.YtlhmdmedagjmnaaGreat
open Go.Am Go.Vm Go.Alg
section
variable {q:Int} {b:Bool} {nl nr e:Nat} {M:List (List Int)}
theorem g07 [IsFld q](v:Int):o24 W 152 [.x (.int .i64 v), .fz b (.pt e [pF q])] []=some (.x (.bool (!fok q v)),[],[]):=by
 rw[o10 rfl T152 rfl]
 unfold F152 c152
 simp(disch:=first|omega|fail) only[push_cast,seval,ui5,lu7,y81,bj9,wrap64,dec_lt,cw6,nl3,qc6,mr8,nb8,if_pos,if_neg]
theorem bc0 [IsFld q](hMl:M.length≤64){n0:Nat}(hn0:n0=(nth M 0).length): ∀(d i:Nat),i+d=M.length→ ∀ks,
 vgoL W ⟨hNo,[.tmp 4],0⟩ [1,5,20,21,22] c82L0 (.blk 0 []::ks) [(1, .fz b (.sl nl 0 1 (lvs nr M))),(5, .own 0 []),(20, .fz b (.sl nl 0 1 (lvs nr M))),(21, .x (.int .i64 M.length)),(22, .x (.int .i64 i))] [.pt 101 [.fz (pF q)]]=
  if wb9 q n0 (M.drop i)=0 then vgo W ⟨hNo,[.tmp 4],0⟩ ks (VFr.of []) [.pt 101 [.fz (pF q)]]else some (.x (.int .i64 (wb9 q n0 (M.drop i))),[],[])
 |0,i,hi,ks=>by
  rw[oh9 (by omega),wb9,if_pos rfl,sb5 c82L0.eq_def]
  simp(disch:=first|omega|fail) only[push_cast,seval,ui5,lu7,y81,bj9,wrap64,dec_lt,cw6,nl3,qc6,mr8,nb8,if_pos,if_neg]
 |d+1,i,hi,ks=>by
  obtain⟨r,hr⟩:=ge6 (l:=M) (i:=i) (by omega)
  obtain⟨r0,hr0⟩:=ge6 (l:=M) (i:=0) (by omega)
  have hr0l:r0.length=n0:=by rw[hn0,xr8 hr0]
  have h0:=lat (nl:=nr) hr
  have h1:=lat (nl:=nr) hr0
  have ih:=bc0 hMl hn0 d (i+1) (by omega) ks
  rw[Int.natCast_add,Int.natCast_one]at ih
  rw[i62 hr]
  by_cases hne:r.length=n0
  ·by_cases hz:r.length=0
   ·have hrow:rowE q n0 r=3:=by unfold rowE;rw[if_pos (.inr hz)]
    rw[kj7 hrow (by decide),if_neg (by decide),sb5 c82L0.eq_def]
    simp(disch:=first|omega|fail) only[push_cast,seval,ui5,lu7,y81,bj9,wrap64,dec_lt,cw6,nl3,qc6,mr8,nb8,if_pos,if_neg,h0,h1,hr0l]
   ·by_cases h64:64<r.length
    ·have hrow:rowE q n0 r=4:=by unfold rowE;rw[if_neg (by omega),if_pos h64]
     rw[kj7 hrow (by decide),if_neg (by decide),sb5 c82L0.eq_def]
     simp(disch:=first|omega|fail) only[push_cast,seval,ui5,lu7,y81,bj9,wrap64,dec_lt,cw6,nl3,qc6,mr8,nb8,if_pos,if_neg,h0,h1,hr0l]
    ·have hf:=fun bl nl b e=>eg0 (nl:=nl) (l:=r) (bl:=bl) (k:=152) (b:=b) (t:= .pt e [pF q]) g07 rfl (by omega)
     cases hany:(r.any fun v=> !fok q v)with
     |true=>
      have hrow:rowE q n0 r=2:=by unfold rowE;rw[if_neg (by omega),if_neg h64,if_pos hany]
      rw[hany]at hf
      rw[kj7 hrow (by decide),if_neg (by decide),sb5 c82L0.eq_def]
      simp(disch:=first|omega|fail) only[push_cast,seval,ui5,lu7,y81,bj9,wrap64,dec_lt,cw6,nl3,qc6,mr8,nb8,if_pos,if_neg,h0,h1,hr0l,hf]
     |false=>
      have hrow:rowE q n0 r=0:=by unfold rowE;rw[if_neg (by omega),if_neg h64,if_neg (by rw[hany];decide)]
      rw[hany]at hf
      rw[qf5 hrow,←ih,sb5 c82L0.eq_def]
      simp(disch:=first|omega|fail) only[push_cast,seval,ui5,lu7,y81,bj9,wrap64,dec_lt,cw6,nl3,qc6,mr8,nb8,if_pos,if_neg,h0,h1,hr0l,hf]
  ·have hrow:rowE q n0 r=3:=by unfold rowE;rw[if_pos (.inl hne)]
   have hne': ¬(r.length:Int)=(n0:Int):=by omega
   rw[kj7 hrow (by decide),if_neg (by decide),sb5 c82L0.eq_def]
   simp(disch:=first|omega|fail) only[push_cast,seval,ui5,lu7,y81,bj9,wrap64,dec_lt,cw6,nl3,qc6,mr8,nb8,if_pos,if_neg,h0,h1,hr0l,nb8 hne']
theorem or9:o24 W 82 [.x (.int .i64 q), .fz b (.sl nl 0 1 (lvs nr M))] []=some (.x (.int .i64 (matE q M)),[],[]):=by
 unfold matE
 cases hn:fldN q.toNat with
 |none=>
  have e1:=uh0 hn
  rw[o10 rfl T82 rfl]
  unfold F82 c82
  simp(disch:=first|omega|fail) only[push_cast,seval,ui5,lu7,y81,bj9,wrap64,dec_lt,cw6,nl3,qc6,mr8,nb8,if_pos,if_neg,e1]
 |some x=>
  obtain⟨p0,m0,g0,mod⟩:=x
  haveI:IsFld q:=⟨⟨p0,m0,g0,mod,hn⟩⟩
  simp only
  by_cases h64:64<M.length
  ·rw[if_pos h64,o10 rfl T82 rfl]
   unfold F82 c82
   simp(disch:=first|omega|fail) only[push_cast,seval,ui5,lu7,y81,bj9,wrap64,dec_lt,cw6,nl3,qc6,mr8,nb8,if_pos,if_neg]
  ·have e:=fun ks=>bc0 (q:=q) (M:=M) (b:=b) (nl:=nl) (nr:=nr) (by omega) rfl M.length 0 (by omega) ks
   rw[if_neg h64,o10 rfl T82 rfl]
   simp only[Int.natCast_zero,List.take_zero,List.drop_zero,rp2,lz6,x25,List.map_nil,List.length_nil]at e
   unfold F82 c82
   simp(disch:=first|omega|fail) only[push_cast,seval,ui5,lu7,y81,bj9,wrap64,dec_lt,cw6,nl3,qc6,mr8,nb8,if_pos,if_neg]
   rw[e]
   by_cases hr:wb9 q (nth M 0).length M=0
   ·rw[if_pos hr,hr]
    simp(disch:=first|omega|fail) only[push_cast,seval,ui5,lu7,y81,bj9,wrap64,dec_lt,cw6,nl3,qc6,mr8,nb8,if_pos,if_neg]
   ·rw[if_neg hr]
end
end Go.Proofs.YtlhmdmedagjmnaaGreat
namespace Go.Proofs.YtlhmdmedagjmnaaGreat
open Go.Am Go.Vm Go.Alg
section
variable {q:Int} [IsFld q] {b b':Bool} {nl nl' nr:Nat} {c:El q}
theorem eh8{r:List (El q)}(hW:r.length≤100000): ∀(n j:Nat),j+n=r.length→ ∀ks,
 vgoL W ⟨hNo,[],1⟩ [0,1,2,8,9] c145L0 (.blk 0 []::ks) [(0, .fz b (pF q)),(1, .own 0 []),(2, .x (.int .i64 c.v)),(8, .x (.int .i64 r.length)),(9, .x (.int .i64 j))] [.sl nl 3 1 (ivs (vs ((xf5 c r).take j++r.drop j)))]=
  vgo W ⟨hNo,[],1⟩ ks (VFr.of []) [.sl nl 3 1 (ivs (vs (xf5 c r)))]
 |0,j,hj,ks=>by
  obtain rfl:j=r.length:=by omega
  unfold xf5
  rw[l44,sb5 c145L0.eq_def]
  simp(disch:=first|omega|fail) only[push_cast,seval,ui5,lu7,y81,bj9,wrap64,dec_lt,cw6,nl3,qc6,mr8,nb8,if_pos,if_neg]
 |n+1,j,hj,ks=>by
  have ih:=eh8 hW n (j+1) (by omega) ks
  obtain⟨a,ha⟩:=ge6 (l:=r) (i:=j) (by omega)
  have hcl:=mh9 (fun x=>x*c) r j
  have hat:=zw5 (f:=fun x=>x*c) (l:=r) (j:=j) (by omega)
  have hset:=fz1 (f:=fun x=>x*c) ha
  have hsc: ∀x:List (El q),xf5 c x=x.map fun x=>x*c:=fun _=>rfl
  rw[hsc,←hset]at ih
  rw[hsc]
  generalize hy:(r.map fun x=>x*c).take j++r.drop j=y at ih hcl hat hset
  have hwy:wf y j=a:=by
   unfold wf;rw[List.getD_eq_getElem?_getD,hat,ha];rfl
  have h1:=iva (l:=y) (i:=j) (by omega)
  rw[hwy]at h1
  have hs:=g52 y j (a*c)
  rw[ym6]at hs
  rw[Int.natCast_add,Int.natCast_one]at ih
  rw[←ih,sb5 c145L0.eq_def]
  simp(disch:=first|omega|fail) only[push_cast,seval,ui5,lu7,y81,bj9,wrap64,dec_lt,cw6,nl3,qc6,mr8,nb8,if_pos,if_neg,h1,hs]
theorem em7{r:List (El q)}(hW:r.length≤100000):
 o24 W 145 [.fz b (pF q), .own 0 [], .x (.int .i64 c.v)] [.sl nl 3 1 (ivs (vs r))]=some (.tup [],[],[.sl nl 3 1 (ivs (vs (xf5 c r)))]):=by
 have e:=fun ks=>eh8 (b:=b) (nl:=nl) (c:=c) (r:=r) hW r.length 0 (by omega) ks
 rw[List.take_zero,List.nil_append,List.drop_zero]at e
 simp only[Int.natCast_zero]at e
 rw[o10 rfl T145 rfl]
 unfold F145 c145
 simp(disch:=first|omega|fail) only[push_cast,seval,ui5,lu7,y81,bj9,wrap64,dec_lt,cw6,nl3,qc6,mr8,nb8,if_pos,if_neg]
 rw[e]
 simp(disch:=first|omega|fail) only[push_cast,seval,ui5,lu7,y81,bj9,wrap64,dec_lt,cw6,nl3,qc6,mr8,nb8,if_pos,if_neg]
theorem jh0{r o:List (El q)}(hl:o.length=r.length)(hW:r.length≤100000): ∀(n j:Nat),j+n=r.length→ ∀ks,
 vgoL W ⟨hNo,[],1⟩ [0,1,2,3,10,11] c147L0 (.blk 0 []::ks) [(0, .fz b (pF q)),(1, .own 0 []),(2, .fz b' (.sl nl' 0 1 (ivs (vs o)))),(3, .x (.int .i64 c.v)),(10, .x (.int .i64 r.length)),(11, .x (.int .i64 j))] [.sl nl 3 1 (ivs (vs ((dx9 c r o).take j++r.drop j)))]=
  vgo W ⟨hNo,[],1⟩ ks (VFr.of []) [.sl nl 3 1 (ivs (vs (dx9 c r o)))]
 |0,j,hj,ks=>by
  have hll:(dx9 c r o).length=r.length:=wx1 hl.symm
  rw[oh9 (by omega),List.append_nil,List.take_of_length_le (by omega),sb5 c147L0.eq_def]
  simp(disch:=first|omega|fail) only[push_cast,seval,ui5,lu7,y81,bj9,wrap64,dec_lt,cw6,nl3,qc6,mr8,nb8,if_pos,if_neg]
 |n+1,j,hj,ks=>by
  have ih:=jh0 hl hW n (j+1) (by omega) ks
  have hll:(dx9 c r o).length=r.length:=wx1 hl.symm
  have hy:((dx9 c r o).take j++r.drop j).set j (wf r j-c*wf o j)=(dx9 c r o).take (j+1)++r.drop (j+1):=by
   rw[List.take_succ_eq_append_getElem (by omega),←i66 (by omega),rq0 hl.symm,List.set_append_right _ _ (by rw[List.length_take];omega),List.length_take,Nat.min_eq_left (by omega),Nat.sub_self,List.drop_eq_getElem_cons (by omega:j<r.length),List.set_cons_zero,List.append_assoc];rfl
  have hyl:((dx9 c r o).take j++r.drop j).length=r.length:=by simp only[List.length_append,List.length_take,List.length_drop];omega
  have hyw:wf ((dx9 c r o).take j++r.drop j) j=wf r j:=by
   unfold wf
   rw[List.getD_eq_getElem?_getD,List.getD_eq_getElem?_getD,List.getElem?_append_right (by rw[List.length_take];omega),List.length_take,Nat.min_eq_left (by omega),Nat.sub_self,List.getElem?_drop,Nat.add_zero]
  rw[←hy]at ih
  generalize (dx9 c r o).take j++r.drop j=y at ih hyl hyw
  have h1:=iva (l:=y) (i:=j) (by omega)
  have h2:=iva (l:=o) (i:=j) (by omega)
  rw[hyw]at h1
  have hs:=g52 y j (wf r j-c*wf o j)
  rw[bq9,ym6]at hs
  rw[Int.natCast_add,Int.natCast_one]at ih
  rw[←ih,sb5 c147L0.eq_def]
  simp(disch:=first|omega|fail) only[push_cast,seval,ui5,lu7,y81,bj9,wrap64,dec_lt,cw6,nl3,qc6,mr8,nb8,if_pos,if_neg,h1,h2,hs]
theorem nq1{r o:List (El q)}(hl:o.length=r.length)(hW:r.length≤100000):
 o24 W 147 [.fz b (pF q), .own 0 [], .fz b' (.sl nl' 0 1 (ivs (vs o))), .x (.int .i64 c.v)] [.sl nl 3 1 (ivs (vs r))]=some (.tup [],[],[.sl nl 3 1 (ivs (vs (dx9 c r o)))]):=by
 have e:=fun ks=>jh0 (b:=b) (b':=b') (nl:=nl) (nl':=nl') (c:=c) hl hW r.length 0 (by omega) ks
 rw[List.take_zero,List.nil_append,List.drop_zero]at e
 simp only[Int.natCast_zero]at e
 rw[o10 rfl T147 rfl]
 unfold F147 c147
 simp(disch:=first|omega|fail) only[push_cast,seval,ui5,lu7,y81,bj9,wrap64,dec_lt,cw6,nl3,qc6,mr8,nb8,if_pos,if_neg]
 rw[e]
 simp(disch:=first|omega|fail) only[push_cast,seval,ui5,lu7,y81,bj9,wrap64,dec_lt,cw6,nl3,qc6,mr8,nb8,if_pos,if_neg]
end
theorem fc2(n:Nat):repT [Tree.sl 2 3 1 []] n=lls 2 (List.replicate n []):=by
 induction n with
 |zero=>rfl
 |succ n ih=>rw[repT,ih];rfl
theorem l52{M:List (List Int)}{i n:Nat}{r:List Int}(hr:M[i]? =some r):(M.take i++List.replicate (n+1) []).set i r=M.take (i+1)++List.replicate n []:=by
 have hi:=(List.getElem?_eq_some_iff.1 hr).1
 rw[List.set_append_right _ _ (by rw[List.length_take];omega),List.length_take,Nat.min_eq_left (by omega),Nat.sub_self,List.replicate_succ,List.set_cons_zero,List.take_add_one,hr,List.append_assoc];rfl
section
variable {b:Bool} {nl nr:Nat} {M:List (List Int)}
end
end Go.Proofs.YtlhmdmedagjmnaaGreat
namespace Go.Proofs.YtlhmdmedagjmnaaGreat
open Go.Am Go.Vm Go.Alg
theorem em1{α:Type}{l:List α}{i:Nat}{x:α}(h:l[i]? =some x):l.set i x=l:=by
 obtain⟨h1,h2⟩:=List.getElem?_eq_some_iff.1 h
 rw[←h2];exact List.set_getElem_self h1
section
variable {q:Int} [IsFld q] {T5:Tree} {M:List (List (El q))} {R n c at':Nat}
theorem aw7(P:List Nat)(c:Nat):pn P++[(c:Int)]=pn (P++[c]):=by unfold pn;rw[List.map_append];rfl
end
end Go.Proofs.YtlhmdmedagjmnaaGreat
namespace Go.Proofs.YtlhmdmedagjmnaaGreat
open Go.Am Go.Vm Go.Alg
section
variable {q:Int} [IsFld q] {n R:Nat}
end
end Go.Proofs.YtlhmdmedagjmnaaGreat
namespace Go.Proofs.YtlhmdmedagjmnaaGreat
open Go.Am Go.Vm Go.Alg
section
variable {q:Int} {b:Bool} {nl nr:Nat}
theorem sy6 [IsFld q]{N:List (List (El q))}{n:Nat}(hl:N.length≤64)(hr: ∀r∈N,r.length=n)(h0:0<n)(hn:n≤64):matE q (N.map vs)=0:=by
 obtain⟨d,hd⟩:=gh1 (q:=q)
 unfold matE
 rw[hd]
 show(if 64<(N.map vs).length then 4 else _)=(0:Int)
 rw[if_neg (by rw[List.length_map];omega),kn4]
 have: ∀L:List (List (El q)),(∀r∈L,r∈N)→wb9 q (nth N 0).length (L.map vs)=0:=by
  intro L
  induction L with
  |nil=>intro _;rfl
  |cons r L ih=>
   intro h
   have h1:r∈N:=h r (by simp)
   have h2:(nth N 0).length=n:=by
    cases N with
    |nil=>cases h1
    |cons a N=>exact hr a (by simp)
   rw[List.map_cons,wb9,if_pos,ih fun x hx=>h x (by simp[hx])]
   unfold rowE
   rw[fi2,hr r h1,h2,if_neg (by omega),if_neg (by omega),if_neg]
   intro h3
   obtain⟨z,hz,h4⟩:=List.any_eq_true.1 h3
   obtain⟨x,hx,rfl⟩:=List.mem_map.1 hz
   rw[x.ok]at h4
   cases h4
 exact this N fun r h=>h
end
end Go.Proofs.YtlhmdmedagjmnaaGreat
namespace Go.Proofs.YtlhmdmedagjmnaaGreat
open Go.Am Go.Vm Go.Alg
section
variable {q p m g:Int} [IsFld q] {t:Tree} {b:Bool} {nl nr n6 n7 n9:Nat} {M:List (List (El q))} {A:List (Nat×List (El q))} {w:Nat} {i8:Nat}
theorem m26(u:RFo q p m g t)(hA: ∀a∈A,a.2.length=w∧a.1<w)(hAl:A.length≤100000)(hW:w≤100000):
 ∀(n k:Nat) (r:List (El q)),k+n=A.length→r.length=w→ ∀ks,
  vgoL W ⟨h77,[.tmp 4, .tmp 5],0⟩ [1,2,6,7,8,9,10] c77L0 (.blk 2 [1,2,6,7,8,9]::ks) [(1, .fz b (.sl nl 0 1 (lvs nr (M.map vs)))),(2, .own 0 []),(6, .own 1 []),(7, .own 2 []),(8, .x (.int .i64 i8)),(9, .own 3 []),(10, .x (.int .i64 k))] [.pt 52 [.v (.int .i64 q), .v (.int .i64 p), .v (.int .i64 m), .v (.int .i64 g), .fz t], .sl n6 22 1 (lls 2 (pvR A)), .sl n7 3 1 (ivs (pvP A)), .sl (nl1 k) 3 1 (ivs (vs r))]=
   vgo W ⟨h77,[.tmp 4, .tmp 5],0⟩ ks (VFr.of [(1, .fz b (.sl nl 0 1 (lvs nr (M.map vs)))),(2, .own 0 []),(6, .own 1 []),(7, .own 2 []),(8, .x (.int .i64 i8)),(9, .own 3 [])]) [.pt 52 [.v (.int .i64 q), .v (.int .i64 p), .v (.int .i64 m), .v (.int .i64 g), .fz t], .sl n6 22 1 (lls 2 (pvR A)), .sl n7 3 1 (ivs (pvP A)), .sl (nl1 A.length) 3 1 (ivs (vs (uo6 (A.drop k) r)))]
 |0,k,r,hk,hr,ks=>by
  obtain rfl:k=A.length:=by omega
  have h1:=nu3 A
  rw[oh9 (by omega),sb5 c77L0.eq_def,uo6]
  simp(disch:=first|omega|fail) only[push_cast,seval,ui5,lu7,y81,bj9,wrap64,dec_lt,cw6,nl3,qc6,mr8,nb8,if_pos,if_neg,h1]
 |n+1,k,r,hk,hr,ks=>by
  obtain⟨a,ha⟩:=ge6 (l:=A) (i:=k) (by omega)
  obtain⟨hal,hap⟩:=hA a (List.mem_of_getElem? ha)
  have ih:=m26 u hA hAl hW n (k+1) (dx9 (wf r a.1) r a.2) (by omega) (by rw[wx1 (by rw[hr,hal]),hr]) ks
  have h1:=nu3 A
  have h2:=ga8 A
  have h3:=x08 ha
  have h4:=bx6 ha
  have h5:=iva (l:=r) (i:=a.1) (by omega)
  have hl:=fun b b' nl nl'=>el1 (b:=b) (b':=b') (nl:=nl) (nl':=nl') (c:=wf r a.1) (r:=r) (o:=a.2) (by omega) (by omega)
  rw[u.e]at hl
  have ht:=u.n
  have ho:=u.o
  rw[Int.natCast_add,Int.natCast_one]at ih
  rw[i62 ha,uo6,←ih,sb5 c77L0.eq_def]
  simp(disch:=first|omega|fail) only[push_cast,seval,ui5,lu7,y81,bj9,wrap64,dec_lt,cw6,nl3,qc6,mr8,nb8,if_pos,if_neg,h1,h2,h3,h4,h5,hl,ht,ho]
theorem hf5{T2 T6 T7:Tree}{r:List (El q)}(hrl:r.length=w)(hW:w≤100000): ∀(n i:Nat),i+n=w→ ∀ks,
 vgoL W ⟨h77,[.tmp 4, .tmp 5],0⟩ [1,2,6,7,8,9,11] c77L1 (.blk 4 [1,2,6,7,8,9,11]::ks) [(1, .fz b (.sl nl 0 1 (lvs nr (M.map vs)))),(2, .own 0 []),(6, .own 1 []),(7, .own 2 []),(8, .x (.int .i64 i8)),(9, .own 3 []),(11, .x (.int .i64 i))] [T2,T6,T7, .sl n9 3 1 (ivs (vs r))]=
  vgo W ⟨h77,[.tmp 4, .tmp 5],0⟩ ks (VFr.of [(1, .fz b (.sl nl 0 1 (lvs nr (M.map vs)))),(2, .own 0 []),(6, .own 1 []),(7, .own 2 []),(8, .x (.int .i64 i8)),(9, .own 3 []),(11, .x (.int .i64 (lv6 (r.drop i)+i:Nat)))]) [T2,T6,T7, .sl n9 3 1 (ivs (vs r))]
 |0,i,hi,ks=>by
  rw[oh9 (by omega),lv6,sb5 c77L1.eq_def]
  simp(disch:=first|omega|fail) only[push_cast,seval,ui5,lu7,y81,bj9,wrap64,dec_lt,cw6,nl3,qc6,mr8,nb8,if_pos,if_neg]
 |n+1,i,hi,ks=>by
  have ih:=hf5 (T2:=T2) (T6:=T6) (T7:=T7) hrl hW n (i+1) (by omega) ks
  obtain⟨a,ha⟩:=ge6 (l:=r) (i:=i) (by omega)
  have hwa:wf r i=a:=by
   obtain⟨h1,h2⟩:=List.getElem?_eq_some_iff.1 ha
   rw[i66 h1,h2]
  have h1:=iva (l:=r) (i:=i) (by omega)
  rw[hwa]at h1
  rw[Int.natCast_add,Int.natCast_one]at ih
  rw[i62 ha,lv6]
  by_cases h0:a=0
  ·rw[if_pos h0,show lv6 (r.drop (i+1))+1+i=lv6 (r.drop (i+1))+(i+1) by omega,←ih,sb5 c77L1.eq_def]
   have hv:=r57.2 h0
   simp(disch:=first|omega|fail) only[push_cast,seval,ui5,lu7,y81,bj9,wrap64,dec_lt,cw6,nl3,qc6,mr8,nb8,if_pos,if_neg,h1,hv]
  ·rw[if_neg h0,sb5 c77L1.eq_def]
   simp(disch:=first|omega|fail) only[push_cast,seval,ui5,lu7,y81,bj9,wrap64,dec_lt,cw6,nl3,qc6,mr8,nb8,if_pos,if_neg,h1,nb8 (fun h=>h0 (r57.1 h))]
theorem cc8(u:RFo q p m g t){T6 T7:Tree}{c:El q}{r:List (El q)}{at':Nat}(hrl:r.length=w)(hW:w≤100000): ∀(n j:Nat),j+n=w→ ∀ks,
 vgoL W ⟨h77,[.tmp 4, .tmp 5],0⟩ [1,2,6,7,8,9,11,12,13] c77L2 (.blk 6 [1,2,6,7,8,9,11]::ks) [(1, .fz b (.sl nl 0 1 (lvs nr (M.map vs)))),(2, .own 0 []),(6, .own 1 []),(7, .own 2 []),(8, .x (.int .i64 i8)),(9, .own 3 []),(11, .x (.int .i64 at')),(12, .x (.int .i64 c.v)),(13, .x (.int .i64 j))] [.pt 52 [.v (.int .i64 q), .v (.int .i64 p), .v (.int .i64 m), .v (.int .i64 g), .fz t],T6,T7, .sl n9 3 1 (ivs (vs ((xf5 c r).take j++r.drop j)))]=
  vgo W ⟨h77,[.tmp 4, .tmp 5],0⟩ ks (VFr.of [(1, .fz b (.sl nl 0 1 (lvs nr (M.map vs)))),(2, .own 0 []),(6, .own 1 []),(7, .own 2 []),(8, .x (.int .i64 i8)),(9, .own 3 []),(11, .x (.int .i64 at'))]) [.pt 52 [.v (.int .i64 q), .v (.int .i64 p), .v (.int .i64 m), .v (.int .i64 g), .fz t],T6,T7, .sl n9 3 1 (ivs (vs (xf5 c r)))]
 |0,j,hj,ks=>by
  obtain rfl:j=r.length:=by omega
  unfold xf5
  rw[l44,sb5 c77L2.eq_def]
  simp(disch:=first|omega|fail) only[push_cast,seval,ui5,lu7,y81,bj9,wrap64,dec_lt,cw6,nl3,qc6,mr8,nb8,if_pos,if_neg]
 |n+1,j,hj,ks=>by
  have ih:=cc8 u (T6:=T6) (T7:=T7) (c:=c) (at':=at') hrl hW n (j+1) (by omega) ks
  obtain⟨a,ha⟩:=ge6 (l:=r) (i:=j) (by omega)
  have hcl:=mh9 (fun x=>x*c) r j
  have hat:=zw5 (f:=fun x=>x*c) (l:=r) (j:=j) (by omega)
  have hset:=fz1 (f:=fun x=>x*c) ha
  have hsc: ∀x:List (El q),xf5 c x=x.map fun x=>x*c:=fun _=>rfl
  rw[hsc,←hset]at ih
  rw[hsc]
  generalize hy:(r.map fun x=>x*c).take j++r.drop j=y at ih hcl hat hset
  have hwy:wf y j=a:=by
   unfold wf;rw[List.getD_eq_getElem?_getD,hat,ha];rfl
  have h1:=iva (l:=y) (i:=j) (by omega)
  rw[hwy]at h1
  have ht:=u.n
  have ho:=u.o
  have vmul:=fun x y:Int=>n06 (q:=q) (x:=x) (y:=y)
  rw[u.e]at vmul
  have hs:=g52 y j (a*c)
  rw[ym6]at hs
  rw[Int.natCast_add,Int.natCast_one]at ih
  rw[←ih,sb5 c77L2.eq_def]
  simp(disch:=first|omega|fail) only[push_cast,seval,ui5,lu7,y81,bj9,wrap64,dec_lt,cw6,nl3,qc6,mr8,nb8,if_pos,if_neg,h1,vmul,ht,ho,hs]
theorem nc1(u:RFo q p m g t){T7:Tree}(hA: ∀a∈A,a.2.length=w∧a.1<w)(hAl:A.length≤100000)(hW:w≤100000){r:List (El q)}(hrl:r.length=w){at':Nat}(hat:at'<w): ∀(n k:Nat),k+n=A.length→ ∀ks,
 vgoL W ⟨h77,[.tmp 4, .tmp 5],0⟩ [1,2,6,7,8,9,11,14] c77L3 (.blk 8 [1,2,6,7,8,9,11]::ks) [(1, .fz b (.sl nl 0 1 (lvs nr (M.map vs)))),(2, .own 0 []),(6, .own 1 []),(7, .own 2 []),(8, .x (.int .i64 i8)),(9, .own 3 []),(11, .x (.int .i64 at')),(14, .x (.int .i64 k))] [.pt 52 [.v (.int .i64 q), .v (.int .i64 p), .v (.int .i64 m), .v (.int .i64 g), .fz t], .sl n6 22 1 (lls 2 (pvR ((A.map (updR at' r)).take k++A.drop k))),T7, .sl n9 3 1 (ivs (vs r))]=
  vgo W ⟨h77,[.tmp 4, .tmp 5],0⟩ ks (VFr.of [(1, .fz b (.sl nl 0 1 (lvs nr (M.map vs)))),(2, .own 0 []),(6, .own 1 []),(7, .own 2 []),(8, .x (.int .i64 i8)),(9, .own 3 []),(11, .x (.int .i64 at'))]) [.pt 52 [.v (.int .i64 q), .v (.int .i64 p), .v (.int .i64 m), .v (.int .i64 g), .fz t], .sl n6 22 1 (lls 2 (pvR (A.map (updR at' r)))),T7, .sl n9 3 1 (ivs (vs r))]
 |0,k,hk,ks=>by
  obtain rfl:k=A.length:=by omega
  have h1:=nu3 (A.map (updR at' r))
  rw[List.length_map]at h1
  rw[l44,sb5 c77L3.eq_def]
  simp(disch:=first|omega|fail) only[push_cast,seval,ui5,lu7,y81,bj9,wrap64,dec_lt,cw6,nl3,qc6,mr8,nb8,if_pos,if_neg,h1]
 |n+1,k,hk,ks=>by
  have ih:=nc1 u (T7:=T7) hA hAl hW hrl hat n (k+1) (by omega) ks
  obtain⟨a,ha⟩:=ge6 (l:=A) (i:=k) (by omega)
  obtain⟨hal,hap⟩:=hA a (List.mem_of_getElem? ha)
  have hcl:=mh9 (updR at' r) A k
  have hca:=zw5 (f:=updR at' r) (l:=A) (j:=k) (by omega)
  have hset:=fz1 (f:=updR at' r) ha
  rw[←hset]at ih
  generalize hy:(A.map (updR at' r)).take k++A.drop k=Y at ih hcl hca hset
  rw[ha]at hca
  have h0:=nu3 Y
  have h1:=x08 hca
  have h2:=iva (l:=a.2) (i:=at') (by omega)
  have hl:=fun b b' nl nl'=>el1 (b:=b) (b':=b') (nl:=nl) (nl':=nl') (c:=wf a.2 at') (r:=a.2) (o:=r) (by omega) (by omega)
  rw[u.e]at hl
  have hs:(pvR Y).set k (vs (dx9 (wf a.2 at') a.2 r))=pvR (Y.set k (updR at' r a)):=by rw[←lo1];rfl
  have ht:=u.n
  have ho:=u.o
  rw[Int.natCast_add,Int.natCast_one]at ih
  rw[←ih,sb5 c77L3.eq_def]
  simp(disch:=first|omega|fail) only[push_cast,seval,ui5,lu7,y81,bj9,wrap64,dec_lt,cw6,nl3,qc6,mr8,nb8,if_pos,if_neg,h0,h1,h2,hl,ht,ho,hs]
theorem on7{T2 T6 T9:Tree}(hAl:A.length≤100000){at':Nat}(hl:(lls 2 (pvR A)).length=A.length): ∀(n k:Nat),k+n=A.length→ ∀ks,
 vgoL W ⟨h77,[.tmp 4, .tmp 5],0⟩ [1,2,6,7,8,9,11,15] c77L4 (.blk 10 [1,2,6,7,8,9,11,15]::ks) [(1, .fz b (.sl nl 0 1 (lvs nr (M.map vs)))),(2, .own 0 []),(6, .own 1 []),(7, .own 2 []),(8, .x (.int .i64 i8)),(9, .own 3 []),(11, .x (.int .i64 at')),(15, .x (.int .i64 k))] [T2, .sl n6 22 1 (lls 2 (pvR A)), .sl n7 3 1 (ivs (pvP A)),T9]=
  vgo W ⟨h77,[.tmp 4, .tmp 5],0⟩ ks (VFr.of [(1, .fz b (.sl nl 0 1 (lvs nr (M.map vs)))),(2, .own 0 []),(6, .own 1 []),(7, .own 2 []),(8, .x (.int .i64 i8)),(9, .own 3 []),(11, .x (.int .i64 at')),(15, .x (.int .i64 (posR at' (A.drop k)+k:Nat)))]) [T2, .sl n6 22 1 (lls 2 (pvR A)), .sl n7 3 1 (ivs (pvP A)),T9]
 |0,k,hk,ks=>by
  have h1:=nu3 A
  rw[oh9 (by omega),posR,sb5 c77L4.eq_def]
  simp(disch:=first|omega|fail) only[push_cast,seval,ui5,lu7,y81,bj9,wrap64,dec_lt,cw6,nl3,qc6,mr8,nb8,if_pos,if_neg,h1]
 |n+1,k,hk,ks=>by
  have ih:=on7 (T2:=T2) (T6:=T6) (T9:=T9) hAl (at':=at') hl n (k+1) (by omega) ks
  obtain⟨a,ha⟩:=ge6 (l:=A) (i:=k) (by omega)
  have h1:=nu3 A
  have h2:=ga8 A
  have h4:=bx6 ha
  rw[Int.natCast_add,Int.natCast_one]at ih
  rw[i62 ha,posR]
  by_cases hlt:a.1<at'
  ·rw[if_pos hlt,show posR at' (A.drop (k+1))+1+k=posR at' (A.drop (k+1))+(k+1) by omega,←ih,sb5 c77L4.eq_def]
   simp(disch:=first|omega|fail) only[push_cast,seval,ui5,lu7,y81,bj9,wrap64,dec_lt,cw6,nl3,qc6,mr8,nb8,if_pos,if_neg,h1,h2,h4]
  ·rw[if_neg hlt,sb5 c77L4.eq_def]
   simp(disch:=first|omega|fail) only[push_cast,seval,ui5,lu7,y81,bj9,wrap64,dec_lt,cw6,nl3,qc6,mr8,nb8,if_pos,if_neg,h1,h2,h4]
theorem wv5(u:RFo q p m g t)(hMl: ∀r∈M,r.length=w)(hMn:M.length≤500)(hW:w≤1000): ∀(n i:Nat) (A:List (Nat×List (El q))),i+n=M.length→A.length≤i→(∀a∈A,a.2.length=w∧a.1<w)→ ∀ks,
 vgoL W ⟨h77,[.tmp 4, .tmp 5],0⟩ [1,2,6,7,8] c77L5 (.blk 0 [6,7]::ks) [(1, .fz b (.sl nl 0 1 (lvs nr (M.map vs)))),(2, .own 0 []),(6, .own 1 []),(7, .own 2 []),(8, .x (.int .i64 i))] [.pt 52 [.v (.int .i64 q), .v (.int .i64 p), .v (.int .i64 m), .v (.int .i64 g), .fz t], .sl (nl0 A.length) 22 1 (lls 2 (pvR A)), .sl (nl0 A.length) 3 1 (ivs (pvP A))]=
  vgo W ⟨h77,[.tmp 4, .tmp 5],0⟩ ks (VFr.of [(6, .own 1 []),(7, .own 2 [])]) [.pt 52 [.v (.int .i64 q), .v (.int .i64 p), .v (.int .i64 m), .v (.int .i64 g), .fz t], .sl (nl0 ((M.drop i).foldl vp4 A).length) 22 1 (lls 2 (pvR ((M.drop i).foldl vp4 A))), .sl (nl0 ((M.drop i).foldl vp4 A).length) 3 1 (ivs (pvP ((M.drop i).foldl vp4 A)))]
 |0,i,A,hi,hAi,hA,ks=>by
  rw[oh9 (by omega),List.foldl_nil,sb5 c77L5.eq_def]
  simp(disch:=first|omega|fail) only[push_cast,seval,ui5,lu7,y81,bj9,wrap64,dec_lt,cw6,nl3,qc6,mr8,nb8,if_pos,if_neg]
 |n+1,i,A,hi,hAi,hA,ks=>by
  have IH:=wv5 u hMl hMn hW n (i+1)
  obtain⟨r0,hr0⟩:=ge6 (l:=M) (i:=i) (by omega)
  have hr0l:=hMl r0 (List.mem_of_getElem? hr0)
  have h0:=mva (nl:=nr) hr0
  rw[i62 hr0,List.foldl_cons]
  have hcp:=fun b nl=>xr6 (b:=b) (nl:=nl) (l:=vs r0) (by rw[fi2];omega)
  have e2:=fun ks=>m26 (b:=b) (nl:=nl) (nr:=nr) (n6:=nl0 A.length) (n7:=nl0 A.length) (M:=M) (i8:=i) u hA (by omega) (by omega) A.length 0 r0 (by omega) hr0l ks
  rw[List.drop_zero]at e2
  obtain⟨r,hr⟩: ∃r,uo6 A r0=r:=⟨_,rfl⟩
  rw[hr]at e2
  have hrl:r.length=w:=by rw[←hr];exact m12 (n:=w) (fun a ha=>(hA a ha).1) A r0 (fun _ h=>h) hr0l
  have e3:=fun n9 T2 T6 T7 ks=>hf5 (b:=b) (nl:=nl) (nr:=nr) (n9:=n9) (M:=M) (i8:=i) (T2:=T2) (T6:=T6) (T7:=T7) hrl (by omega) w 0 (by omega) ks
  rw[List.drop_zero,Nat.add_zero]at e3
  obtain⟨at',hat⟩: ∃x,lv6 r=x:=⟨_,rfl⟩
  have hle:at'≤w:=by rw[←hat,←hrl];exact sb2 r
  rw[hat]at e3
  have hadd:=jp6 hr hat
  simp only[Int.natCast_zero,og7]at e2 e3
  have h2:=nu3 A
  have h3:=ga8 A
  by_cases hfull:at'=w
  ·rw[if_pos (by rw[hrl];exact hfull)]at hadd
   rw[hadd]
   have ih:=IH A (by omega) (by omega) hA ks
   rw[Int.natCast_add,Int.natCast_one]at ih
   rw[←ih,sb5 c77L5.eq_def]
   simp(disch:=first|omega|fail) only[push_cast,seval,ui5,lu7,y81,bj9,wrap64,dec_lt,cw6,nl3,qc6,mr8,nb8,if_pos,if_neg,h0,hcp]
   rw[e2]
   simp(disch:=first|omega|fail) only[push_cast,seval,ui5,lu7,y81,bj9,wrap64,dec_lt,cw6,nl3,qc6,mr8,nb8,if_pos,if_neg]
   rw[e3]
   simp(disch:=first|omega|fail) only[push_cast,seval,ui5,lu7,y81,bj9,wrap64,dec_lt,cw6,nl3,qc6,mr8,nb8,if_pos,if_neg]
  ·rw[if_neg (by rw[hrl];exact hfull)]at hadd
   have hne:wf r at'≠0:=by have:=aa0 (l:=r) (by rw[hat,hrl];omega);rwa [hat]at this
   have h1:=iva (l:=r) (i:=at') (by omega)
   obtain⟨c,hc⟩: ∃c,FK.inv (wf r at')=c:=⟨_,rfl⟩
   have hv:=rl7 hne
   rw[hc]at hv hadd
   have ht:=u.n
   have ho:=u.o
   have vinv:=fun x:Int=>dy2 (q:=q) (x:=x)
   rw[u.e]at vinv
   have e4:=fun n9 T6 T7 ks=>cc8 (b:=b) (nl:=nl) (nr:=nr) (n9:=n9) (M:=M) (i8:=i) (T6:=T6) (T7:=T7) (at':=at') u (c:=c) hrl (by omega) w 0 (by omega) ks
   rw[List.take_zero,List.nil_append,List.drop_zero]at e4
   obtain⟨s,hs⟩: ∃s,xf5 c r=s:=⟨_,rfl⟩
   have hsl:s.length=w:=by rw[←hs];unfold xf5;rw[List.length_map,hrl]
   rw[hs]at e4 hadd
   have e5:=fun n6 n9 T7 ks=>nc1 (b:=b) (nl:=nl) (nr:=nr) (n6:=n6) (n9:=n9) (M:=M) (i8:=i) (T7:=T7) u hA (by omega) (by omega) hsl (at':=at') (by omega) A.length 0 (by omega) ks
   rw[List.take_zero,List.drop_zero,List.nil_append]at e5
   obtain⟨A',hA'⟩: ∃A',A.map (updR at' s)=A':=⟨_,rfl⟩
   have hAl':A'.length=A.length:=by rw[←hA',List.length_map]
   have hpv:pvP A'=pvP A:=by rw[←hA',so2]
   have hA2: ∀a∈A',a.2.length=w∧a.1<w:=fun a ha=>by
    rw[←hA']at ha
    obtain⟨b,hb',rfl⟩:=List.mem_map.1 ha
    have:=hA b hb'
    exact⟨by show(dx9 _ _ _).length=w;rw[wx1 (by rw[this.1,hsl]),this.1],this.2⟩
   rw[hA']at e5 hadd
   have h2':=nu3 A'
   have e6:=fun n6 n7 T2 T9 ks=>on7 (b:=b) (nl:=nl) (nr:=nr) (n6:=n6) (n7:=n7) (M:=M) (i8:=i) (T2:=T2) (T6:=T2) (T9:=T9) (A:=A') (by omega) (at':=at') (by rw[qf0,h2']) A'.length 0 (by omega) ks
   rw[List.drop_zero,Nat.add_zero,hpv]at e6
   obtain⟨k,hk⟩: ∃k,posR at' A'=k:=⟨_,rfl⟩
   have hkl:k≤A'.length:=by rw[←hk];exact m85 _ _
   rw[hk]at e6
   rw[on6,hk]at hadd
   rw[hadd]
   have hnl:(A'.take k++(at',s)::A'.drop k).length=A'.length+1:=by
    simp only[List.length_append,List.length_cons,List.length_take,List.length_drop];omega
   have ih:=IH (A'.take k++(at',s)::A'.drop k) (by omega) (by rw[hnl];omega) (fun a ha=>by
    rcases List.mem_append.1 ha with h|h
    ·exact hA2 a (List.mem_of_mem_take h)
    ·rcases List.mem_cons.1 h with rfl|h
     ·exact⟨hsl,by show at'<w;omega⟩
     ·exact hA2 a (List.mem_of_mem_drop h)) ks
   rw[Int.natCast_add,Int.natCast_one]at ih
   rw[hnl]at ih
   simp only[Int.natCast_zero]at e4 e5 e6
   rw[←ih,sb5 c77L5.eq_def]
   simp(disch:=first|omega|fail) only[push_cast,seval,ui5,lu7,y81,bj9,wrap64,dec_lt,cw6,nl3,qc6,mr8,nb8,if_pos,if_neg,h0,hcp]
   rw[e2]
   simp(disch:=first|omega|fail) only[push_cast,seval,ui5,lu7,y81,bj9,wrap64,dec_lt,cw6,nl3,qc6,mr8,nb8,if_pos,if_neg]
   rw[e3]
   simp(disch:=first|omega|fail) only[push_cast,seval,ui5,lu7,y81,bj9,wrap64,dec_lt,cw6,nl3,qc6,mr8,nb8,if_pos,if_neg,h1,vinv,←hv,ht,ho]
   rw[e4]
   simp(disch:=first|omega|fail) only[push_cast,seval,ui5,lu7,y81,bj9,wrap64,dec_lt,cw6,nl3,qc6,mr8,nb8,if_pos,if_neg,h2,ht]
   rw[e5]
   simp(disch:=first|omega|fail) only[push_cast,seval,ui5,lu7,y81,bj9,wrap64,dec_lt,cw6,nl3,qc6,mr8,nb8,if_pos,if_neg]
   rw[e6]
   have hc1:=oz2 hkl
   have hj1:=ct5 hkl
   have hc2:=v40 (A:=A') (k:=k) (n:=A'.length-k) (by omega)
   have hc3:=xb6 (P:=pvP A) (k:=k) h3 (by omega)
   have hc4:=zo1 (P:=pvP A) (k:=k) h3 (by omega)
   have hi1:=np4 A' k at' s
   have hi2:=xk2 (k:=k) (p:=at') (r:=s) hpv
   have hmin':min k A.length=k:=by omega
   have hn1:((k:Int)+((A'.length:Int)-(k:Int))-(k:Int)).toNat=A'.length-k:=by omega
   have hmin:min k A'.length=k:=by omega
   simp(disch:=first|omega|fail) only[push_cast,seval,ui5,lu7,y81,bj9,wrap64,dec_lt,cw6,nl3,qc6,mr8,nb8,if_pos,if_neg,hc1,hj1,hc2,hc3,hc4,hi1,hi2,bo6,nl9,by7,av2,h2',nu3,ga8,hn1,hmin,hmin',Int.sub_zero]
theorem di7(hMl: ∀r∈M,r.length=w)(hMn:M.length≤500)(hW:w≤1000):
 o24 W 77 [.agg (rFs q), .fz b (.sl nl 0 1 (lvs nr (M.map vs)))] []=some (.tup [.own 0 [], .own 1 []],[.sl (nl0 (redR M).length) 22 1 (lls 2 (pvR (redR M))), .sl (nl0 (redR M).length) 3 1 (ivs (pvP (redR M)))],[]):=by
 obtain⟨p,m,g,t,u⟩:=k75 q
 have e:=fun ks=>wv5 (b:=b) (nl:=nl) (nr:=nr) u hMl hMn hW M.length 0 [] (by omega) (by simp) (fun a ha=>by cases ha) ks
 rw[List.drop_zero]at e
 have hp:pvP ([]:List (Nat×List (El q)))=[]:=rfl
 have hr:pvR ([]:List (Nat×List (El q)))=[]:=rfl
 rw[hp,hr]at e
 simp only[vt2,List.length_nil]at e
 simp only[Int.natCast_zero,List.take_zero,List.drop_zero,rp2,lz6,x25,List.map_nil,List.length_nil]at e
 have ht:=u.n
 rw[o10 rfl T77 rfl,u.e]
 unfold F77 c77
 simp(disch:=first|omega|fail) only[push_cast,seval,ui5,lu7,y81,bj9,wrap64,dec_lt,cw6,nl3,qc6,mr8,nb8,if_pos,if_neg,ht]
 rw[e]
 simp(disch:=first|omega|fail) only[push_cast,seval,ui5,lu7,y81,bj9,wrap64,dec_lt,cw6,nl3,qc6,mr8,nb8,if_pos,if_neg,redR]
end
end Go.Proofs.YtlhmdmedagjmnaaGreat
namespace Go.Proofs.YtlhmdmedagjmnaaGreat
open Go.Am Go.Vm Go.Alg
theorem b28{α:Type}{M:List (List α)}{b:List α}(h:b.length=M.length):(augL M b).length=M.length:=by unfold augL;rw[List.length_zipWith,h,Nat.min_self]
section
variable {q p m g:Int} [IsFld q] {t:Tree} {b b':Bool} {nl nl' nr n7 n8:Nat} {M:List (List (El q))} {A:List (Nat×List (El q))} {N:Nat}
end
end Go.Proofs.YtlhmdmedagjmnaaGreat
namespace Go.Proofs.YtlhmdmedagjmnaaGreat
open Go.Am Go.Vm Go.Alg
theorem vu3{q:Int}{M:List (List (El q))}{at' i:Nat}(hii:i≠at'):((((lls 2 (M.map vs)).set at' Tree.junk).set i Tree.junk).set at' (.sl 2 3 1 (ivs (vs (nth M i))))).set i (.sl 2 3 1 (ivs (vs (nth M at'))))=lls 2 ((swpM M at' i).map vs):=by
 have hsw:(swpM M at' i).map vs=((M.map vs).set at' (vs (nth M i))).set i (vs (nth M at')):=by unfold swpM;rw[List.map_set,List.map_set]
 rw[hsw,←y81,←y81]
 refine List.ext_getElem? fun k=> ?_
 simp only[List.getElem?_set,List.length_set]
 by_cases c1:i=k<;>by_cases c2:at'=k<;>simp[c1,c2]
theorem aw4{q:Int}{M:List (List (El q))}{i:Nat}:(lls 2 (M.map vs)).set i (.sl 2 3 1 (ivs (vs (nth M i))))=lls 2 ((swpM M i i).map vs):=by
 have hsw:(swpM M i i).map vs=((M.map vs).set i (vs (nth M i))).set i (vs (nth M i)):=by unfold swpM;rw[List.map_set,List.map_set]
 rw[y81,hsw,List.set_set]
section
variable {q:Int} [IsFld q] {b b':Bool} {nl nl' nr:Nat} {M:List (List (El q))} {y:List (El q)} {n R:Nat}
theorem gz1(hy:y.length=M.length)(hMl: ∀r∈M,r.length=n)(hn0:0<n)(hMn:M.length≤500)(hN:n≤900): ∀(d i:Nat),i+d=M.length→ ∀ks,
 vgoL W ⟨h198,[.tmp 6, .tmp 7],0⟩ [1,2,8,10,11,36,37] c198L0 (.blk 0 [8,10,11]::ks) [(1, .fz b (.sl nl 0 1 (lvs nr (M.map vs)))),(2, .fz b' (.sl nl' 0 1 (ivs (vs y)))),(8, .fz true (pF q)),(10, .x (.int .i64 n)),(11, .own 0 []),(36, .x (.int .i64 M.length)),(37, .x (.int .i64 i))] [.sl 0 22 1 (lls 2 (((augL M y).map vs).take i++List.replicate d []))]=
  vgo W ⟨h198,[.tmp 6, .tmp 7],0⟩ ks (VFr.of [(8, .fz true (pF q)),(10, .x (.int .i64 n)),(11, .own 0 [])]) [.sl 0 22 1 (lls 2 ((augL M y).map vs))]
 |0,i,hi,ks=>by
  have hl:=b28 hy
  rw[List.replicate_zero,List.append_nil,List.take_of_length_le (by rw[List.length_map];omega),sb5 c198L0.eq_def]
  simp(disch:=first|omega|fail) only[push_cast,seval,ui5,lu7,y81,bj9,wrap64,dec_lt,cw6,nl3,qc6,mr8,nb8,if_pos,if_neg]
 |d+1,i,hi,ks=>by
  obtain⟨r,hr⟩:=ge6 (l:=M) (i:=i) (by omega)
  obtain⟨x,hx⟩:=ge6 (l:=y) (i:=i) (by omega)
  have hrl:=hMl r (List.mem_of_getElem? hr)
  have hwx:wf y i=x:=by
   obtain⟨h1,h2⟩:=List.getElem?_eq_some_iff.1 hx
   rw[i66 h1,h2]
  have ih:=gz1 hy hMl hn0 hMn hN d (i+1) (by omega) ks
  have hg:((augL M y).map vs)[i]? =some (vs (r++[x])):=by
   rw[List.getElem?_map]
   have h:(augL M y)[i]? =some (r++[x]):=by unfold augL;rw[List.getElem?_zipWith,hr,hx]
   rw[h];rfl
  have hl:=b28 hy
  have hn:=l52 (n:=d) hg
  have hYl:(((augL M y).map vs).take i++List.replicate (d+1) []).length=M.length:=by
   simp only[List.length_append,List.length_take,List.length_map,List.length_replicate];omega
  rw[←hn]at ih
  generalize ((augL M y).map vs).take i++List.replicate (d+1) []=Y at ih hYl
  rw[Int.natCast_add,Int.natCast_one]at ih
  have h0:=mva (nl:=nr) hr
  have h1:=iva (l:=y) (i:=i) (by omega)
  rw[hwx]at h1
  have hcp:=fun b nl=>u27 (b:=b) (nl:=nl) (l:=vs r) (by rw[fi2];omega) (by rw[fi2];omega)
  have hv:vs r++[x.v]=vs (r++[x]):=by rw[gq8];rfl
  rw[←ih,sb5 c198L0.eq_def]
  simp(disch:=first|omega|fail) only[push_cast,seval,ui5,lu7,y81,bj9,wrap64,dec_lt,cw6,nl3,qc6,mr8,nb8,if_pos,if_neg,h0,h1,hcp,hYl,hv,y81]
theorem zw3{b b':Bool}{nl e:Nat}{r:List (El q)}{c:Nat}(hc:c<r.length)(hl:r.length≤1000):o24 W 210 [.fz b (.sl nl 0 1 (ivs (vs r))), .fz b' (.pt e [.v (.int .i64 c)])] []=some (.x (.bool (decide ((wf r c).v≠0))),[],[]):=by
 have h1:=iva (l:=r) (i:=c) hc
 rw[o10 rfl T210 rfl]
 unfold F210 c210
 simp(disch:=first|omega|fail) only[push_cast,seval,ui5,lu7,y81,bj9,wrap64,dec_lt,cw6,nl3,qc6,mr8,nb8,if_pos,if_neg,h1]
 by_cases h:(wf r c).v=0
 ·rw[decide_eq_true h,decide_eq_false (by simpa using h)];rfl
 ·rw[decide_eq_false h,decide_eq_true h];rfl
section
variable {T5:Tree} {c at' n0:Nat}
theorem gr3(hR:M.length=R)(hR2:R≤1000)(hn2:n≤1000)(hrow: ∀k,k<R→(nth M k).length=n)(hc:c<n)(hat:at'<R):
 ∀(d k:Nat),k+d=R→ ∀ks,
  vgoL W ⟨h198,[.tmp 6, .tmp 7],0⟩ [8,10,11,13,14,15,55,56,102,103] c198L1 (.blk 4 [8,10,11,13,14,55,56]::ks) [(8, .fz true (pF q)),(10, .x (.int .i64 n0)),(11, .own 0 []),(13, .own 1 []),(14, .own 2 []),(15, .x (.int .i64 at')),(55, .x (.int .i64 n0)),(56, .x (.int .i64 c)),(102, .x (.int .i64 R)),(103, .x (.int .i64 k))] [.sl 0 22 1 (lls 2 (((clrM M at' c).take k++M.drop k).map vs)),T5, .pt 3 [.v (.int .i64 c)]]=
   vgo W ⟨h198,[.tmp 6, .tmp 7],0⟩ ks (VFr.of [(8, .fz true (pF q)),(10, .x (.int .i64 n0)),(11, .own 0 []),(13, .own 1 []),(14, .own 2 []),(55, .x (.int .i64 n0)),(56, .x (.int .i64 c))]) [.sl 0 22 1 (lls 2 ((clrM M at' c).map vs)),T5, .pt 3 [.v (.int .i64 c)]]
 |0,k,hk,ks=>by
  have hcl:=wq1 M at' c
  rw[oh9 (by omega),List.append_nil,List.take_of_length_le (by omega),sb5 c198L1.eq_def]
  simp(disch:=first|omega|fail) only[push_cast,seval,ui5,lu7,y81,bj9,wrap64,dec_lt,cw6,nl3,qc6,mr8,nb8,if_pos,if_neg]
 |d+1,k,hk,ks=>by
  have ih:=gr3 hR hR2 hn2 hrow hc hat d (k+1) (by omega) ks
  have hcl:=wq1 M at' c
  have hck:=kc5 (M:=M) (at':=at') (c:=c) (k:=k) (by omega)
  have hY:((clrM M at' c).take k++M.drop k).length=R:=by simp only[List.length_append,List.length_take,List.length_drop];omega
  have hYk:((clrM M at' c).take k++M.drop k)[k]? =some (nth M k):=by
   rw[List.getElem?_append_right (by rw[List.length_take];omega),List.length_take,Nat.min_eq_left (by omega),Nat.sub_self,List.getElem?_drop,Nat.add_zero,gu3 (by omega)]
  have hYa:((clrM M at' c).take k++M.drop k)[at']? =some (nth M at'):=by
   by_cases h:at'<k
   ·rw[List.getElem?_append_left (by rw[List.length_take];omega),List.getElem?_take,if_pos h,kc5 (by omega),if_pos rfl]
   ·rw[List.getElem?_append_right (by rw[List.length_take];omega),List.length_take,Nat.min_eq_left (by omega),List.getElem?_drop,show k+(at'-k)=at' by omega,gu3 (by omega)]
  have hYn:((clrM M at' c).take k++M.drop k).set k (if k=at' then nth M k else dx9 (wf (nth M k) c) (nth M k) (nth M at'))=(clrM M at' c).take (k+1)++M.drop (k+1):=by
   rw[List.set_append_right _ _ (by rw[List.length_take];omega),List.length_take,Nat.min_eq_left (by omega),Nat.sub_self,List.drop_eq_getElem_cons (by omega:k<M.length),List.set_cons_zero,List.take_add_one,hck,List.append_assoc];rfl
  rw[←hYn]at ih
  generalize (clrM M at' c).take k++M.drop k=Y at ih hY hYk hYa
  rw[Int.natCast_add,Int.natCast_one]at ih
  have h1:=mla (nl:=2) hYk
  have h2:=mla (nl:=2) hYa
  have h3:=iva (l:=nth M k) (i:=c) (by rw[hrow k (by omega)];exact hc)
  have hsame:Y.set k (nth M k)=Y:=em1 hYk
  have hlk:=hrow k (by omega)
  have hla:=hrow at' hat
  by_cases hka:k=at'
  ·rw[if_pos hka,hsame]at ih
   rw[←ih,sb5 c198L1.eq_def]
   simp(disch:=first|omega|fail) only[push_cast,seval,ui5,lu7,y81,bj9,wrap64,dec_lt,cw6,nl3,qc6,mr8,nb8,if_pos,if_neg,h1,h2,h3,hY,hlk]
  ·rw[if_neg hka]at ih
   have hl:=fun b b' nl nl'=>nq1 (b:=b) (b':=b') (nl:=nl) (nl':=nl') (c:=wf (nth M k) c) (r:=nth M k) (o:=nth M at') (by rw[hrow k (by omega),hrow at' hat]) (by rw[hrow k (by omega)];omega)
   have hs:(lls 2 (Y.map vs)).set k (.sl 2 3 1 (ivs (vs (dx9 (wf (nth M k) c) (nth M k) (nth M at')))))=lls 2 ((Y.set k (dx9 (wf (nth M k) c) (nth M k) (nth M at'))).map vs):=by rw[y81,List.map_set]
   have hj:((lls 2 (Y.map vs)).set k Tree.junk)[k]? =some Tree.junk:=List.getElem?_set_self (by rw[qf0,List.length_map];omega)
   rw[←ih,sb5 c198L1.eq_def]
   simp(disch:=first|omega|fail) only[push_cast,seval,ui5,lu7,y81,bj9,wrap64,dec_lt,cw6,nl3,qc6,mr8,nb8,if_pos,if_neg,h1,h2,h3,hY,hlk,hl,hj,List.getElem?_set_ne,List.set_set,hs]
end
theorem wh0{M0:List (List (El q))}{n0:Nat}(hR:M0.length=R)(hR0:0<R)(hR2:R≤1000)(hn2:n≤1000)(hn0:n0<n):
 ∀(d c:Nat) (M:List (List (El q))) (P:List Nat),c+d=n0→RedI n M0 M P c→ ∃(M':List (List (El q))) (P':List Nat),RedI n M0 M' P' n0∧ ∀ks,
  vgoL W ⟨h198,[.tmp 6, .tmp 7],0⟩ [8,10,11,13,55,56] c198L2 (.blk 2 [10,11,13]::ks) [(8, .fz true (pF q)),(10, .x (.int .i64 n0)),(11, .own 0 []),(13, .own 1 []),(55, .x (.int .i64 n0)),(56, .x (.int .i64 c))] [.sl 0 22 1 (lls 2 (M.map vs)), .sl 1 3 1 (ivs (pn P))]=
   vgo W ⟨h198,[.tmp 6, .tmp 7],0⟩ ks (VFr.of [(10, .x (.int .i64 n0)),(11, .own 0 []),(13, .own 1 [])]) [.sl 0 22 1 (lls 2 (M'.map vs)), .sl 1 3 1 (ivs (pn P'))]
 |0,c,M,P,hd,I=>by
  obtain rfl:c=n0:=by omega
  refine⟨M,P,I,fun ks=> ?_⟩
  rw[sb5 c198L2.eq_def]
  simp(disch:=first|omega|fail) only[push_cast,seval,ui5,lu7,y81,bj9,wrap64,dec_lt,cw6,nl3,qc6,mr8,nb8,if_pos,if_neg]
 |d+1,c,M,P,hd,I=>by
  have hMl:M.length=R:=by rw[I.len,hR]
  have hpl:=I.pl
  have hpn:=im5 P
  have IH:=wh0 hR hR0 hR2 hn2 hn0 d (c+1)
  obtain⟨at',hat'⟩: ∃a,a=P.length:=⟨_,rfl⟩
  have hrow: ∀k,k<R→(nth M k).length=n:=fun k hk=>I.len_nth (by omega)
  obtain⟨m,hm⟩: ∃m,m=List.take (R-at') (List.drop at' (List.map vs M)):=⟨_,rfl⟩
  have hmm: ∀{j:Nat} {x:List Int},m[j]? =some x→at'+j<R∧x=vs (nth M (at'+j)):=fun{j x} h=>by
   have hj:=(List.getElem?_eq_some_iff.1 h).1
   rw[hm,List.length_take,List.length_drop,List.length_map]at hj
   rw[hm,List.getElem?_take,if_pos (by omega),List.getElem?_drop,List.getElem?_map,gu3 (by omega)]at h
   exact⟨by omega,(Option.some.inj h).symm⟩
  have hml:m.length=R-at':=by rw[hm,List.length_take,List.length_drop,List.length_map];omega
  have hk: ∀(bl b:Bool) (e:Nat),∀r∈m,o24 W 210 [.fz bl (.sl 2 0 1 (ivs r)), .fz b (.pt e [.v (.int .i64 c)])] []=some (.x (.bool (decide (gi r c≠0))),[],[]):=fun bl b e r hr=>by
   obtain⟨j,hj⟩:=List.getElem?_of_mem hr
   obtain⟨h2,rfl⟩:=hmm hj
   have:=hrow (at'+j) h2
   rw[zw3 (by omega) (by omega),v86];rfl
  have hix:=fun bl nl b e=>aj5 (bl:=bl) (nl:=nl) (nr:=2) (m:=m) (k:=210) (b:=b) (t:= .pt e [.v (.int .i64 c)]) (p:=fun r=>decide (gi r c≠0)) (hk bl b e) rfl (by omega)
  rcases nu4 (fun r=>decide (gi r c≠0)) 0 m with⟨f1,f2⟩|⟨j,x,f1,f2,f3⟩
  ·rw[f1,hm]at hix
   have I':=I.skip (by omega) (fun k h1 h2=>by
    have hmk:vs (nth M k)∈m:=by
     refine List.mem_of_getElem? (i:=k-at') ?_
     rw[hm,List.getElem?_take,if_pos (by omega),List.getElem?_drop,List.getElem?_map,gu3 (by omega),show at'+(k-at')=k by omega];rfl
    have:=f2 _ hmk
    rw[v86]at this
    have h3:(ge (nth M k) c).v=0:=by simpa using this
    exact r57.1 h3)
   obtain⟨M',P',r1,r3⟩:=IH M P (by omega) I'
   refine⟨M',P',r1,fun ks=> ?_⟩
   have ih:=r3 ks
   rw[Int.natCast_add,Int.natCast_one]at ih
   rw[←hat']at hpn
   have hnn:((M.length:Int)-(at':Int)).toNat=R-at':=by omega
   rw[←ih,sb5 c198L2.eq_def]
   simp(disch:=first|omega|fail) only[push_cast,seval,ui5,lu7,y81,bj9,wrap64,dec_lt,cw6,nl3,qc6,mr8,nb8,if_pos,if_neg,hpn,hnn,hix]
  ·have hj:=(List.getElem?_eq_some_iff.1 f2).1
   obtain⟨hR1,rfl⟩:=hmm f2
   rw[f1,Nat.zero_add,hm]at hix
   obtain⟨i,hi⟩: ∃i,i=at'+j:=⟨_,rfl⟩
   rw[←hi]at f3 hR1
   have hne:wf (nth M i) c≠0:=fun e=>by
    have h3:gi (vs (nth M i)) c≠0:=by simpa using f3
    rw[v86]at h3
    exact h3 (r57.2 e)
   have I':=qt5 I (by omega) (i:=i) (by omega) (by omega) hne
   rw[←hat']at I'
   have hscl:(sclM M at' i c).length=M.length:=np1
   have hsrow:=k39 (c:=c) (M:=M) (fun k hk=>hrow k (by omega)) (at':=at') (i:=i) (by omega) (by omega)
   have hin:=gr3 (n0:=n0) (T5:= .sl 1 3 1 (ivs (pn P))) (M:=sclM M at' i c) (R:=R) (n:=n) (c:=c) (at':=at') (by omega) hR2 hn2 (fun k hk=>hsrow k (by omega)) (by omega) (by omega) R 0 (by omega)
   obtain⟨M',P',r1,r3⟩:=IH (clrM (sclM M at' i c) at' c) (P++[c]) (by omega) I'
   refine⟨M',P',r1,fun ks=> ?_⟩
   have ih:=r3 ks
   rw[Int.natCast_add,Int.natCast_one]at ih
   rw[←hat']at hpn
   have hia:(at':Int)+(j:Int)=(i:Int):=by omega
   have hnn:((M.length:Int)-(at':Int)).toNat=R-at':=by omega
   have hla:=hrow i (by omega)
   have hlb:=hrow at' (by omega)
   have h2:=mla (nl:=2) (M:=M) (i:=i) (gu3 (by omega))
   have h3:=mla (nl:=2) (M:=M) (i:=at') (gu3 (by omega))
   have hswl:(swpM M at' i).length=M.length:=p58
   have h4:=mla (nl:=2) (M:=swpM M at' i) (i:=at') (r:=nth M i) (by rw[gu3 (by omega),fj6 (by omega) (by omega)])
   have h5:=iva (l:=nth M i) (i:=c) (by omega)
   have e2:=rl7 hne
   have hsc:=fun b nl=>em7 (b:=b) (nl:=nl) (c:=FK.inv (wf (nth M i) c)) (r:=nth M i) (by omega)
   have hs2:(lls 2 ((swpM M at' i).map vs)).set at' (.sl 2 3 1 (ivs (vs (xf5 (FK.inv (wf (nth M i) c)) (nth M i)))))=lls 2 ((sclM M at' i c).map vs):=by unfold sclM;rw[y81,List.map_set]
   have hL:(lls 2 (M.map vs)).length=R:=by rw[qf0,List.length_map];exact hMl
   simp only[e2]at hsc
   rw[List.take_zero,List.nil_append,List.drop_zero]at hin
   simp only[Int.natCast_zero]at hin
   have hpush:=aw7 P c
   have k3:((lls 2 ((swpM M at' i).map vs)).set at' Tree.junk)[at']? =some Tree.junk:=List.getElem?_set_self (by rw[qf0,List.length_map];omega)
   by_cases hii:i=at'
   ·have k1:((lls 2 (M.map vs)).set at' Tree.junk)[at']? =some Tree.junk:=List.getElem?_set_self (by omega)
    subst hii
    have k2:=aw4 (M:=M) (i:=i)
    rw[←ih,sb5 c198L2.eq_def]
    simp(disch:=first|omega|fail) only[push_cast,seval,ui5,lu7,y81,bj9,wrap64,dec_lt,cw6,nl3,qc6,mr8,nb8,if_pos,if_neg,hpn,hnn,hix,hia,h3,k1,List.set_set,k2,k3,h4,h5,hsc,hs2,hscl]
    rw[hMl,hin]
    simp(disch:=first|omega|fail) only[push_cast,seval,ui5,lu7,y81,bj9,wrap64,dec_lt,cw6,nl3,qc6,mr8,nb8,if_pos,if_neg,hpn,hpush]
   ·have k1:((lls 2 (M.map vs)).set at' Tree.junk)[i]? =some (.sl 2 3 1 (ivs (vs (nth M i)))):=by rw[List.getElem?_set_ne (by omega)];exact h2
    have k2:=vu3 (M:=M) hii
    rw[←ih,sb5 c198L2.eq_def]
    simp(disch:=first|omega|fail) only[push_cast,seval,ui5,lu7,y81,bj9,wrap64,dec_lt,cw6,nl3,qc6,mr8,nb8,if_pos,if_neg,hpn,hnn,hix,hia,h2,h3,k1,k2,k3,h4,h5,hsc,hs2,hscl,List.set_set]
    rw[hMl,hin]
    simp(disch:=first|omega|fail) only[push_cast,seval,ui5,lu7,y81,bj9,wrap64,dec_lt,cw6,nl3,qc6,mr8,nb8,if_pos,if_neg,hpn,hpush]
theorem rm1{P:List Nat}{n0:Nat}(hR:M.length=R)(hR2:R≤1000)(hrow: ∀k,k<R→(nth M k).length=n0+1)(hn2:n0≤1000)(hP:P.length≤R):
 ∀(d k:Nat),P.length+k+d=R→ ∀ks,
  vgoL W ⟨h198,[.tmp 6, .tmp 7],0⟩ [10,11,13,135,136,137] c198L3 (.blk 6 [10,11,13]::ks) [(10, .x (.int .i64 n0)),(11, .own 0 []),(13, .own 1 []),(135, .sub 0 [] 1 P.length (R-P.length)),(136, .x (.int .i64 ((R:Int)-(P.length:Int)))),(137, .x (.int .i64 k))] [.sl 0 22 1 (lls 2 (M.map vs)), .sl 1 3 1 (ivs (pn P))]=
   if((M.drop (P.length+k)).any fun r=> !decide ((wf r n0).v=0))=true then some (.tup [.x (.slice none 0 0), .x (.bool false)],[],[])else
   vgo W ⟨h198,[.tmp 6, .tmp 7],0⟩ ks (VFr.of [(10, .x (.int .i64 n0)),(11, .own 0 []),(13, .own 1 [])]) [.sl 0 22 1 (lls 2 (M.map vs)), .sl 1 3 1 (ivs (pn P))]
 |0,k,hk,ks=>by
  rw[oh9 (by omega),if_neg (by simp),sb5 c198L3.eq_def]
  simp(disch:=first|omega|fail) only[push_cast,seval,ui5,lu7,y81,bj9,wrap64,dec_lt,cw6,nl3,qc6,mr8,nb8,if_pos,if_neg]
 |d+1,k,hk,ks=>by
  have ih:=rm1 hR hR2 hrow hn2 hP d (k+1) (by omega) ks
  rw[Int.natCast_add,Int.natCast_one]at ih
  have h1:=mla (nl:=2) (M:=M) (i:=P.length+k) (gu3 (by omega))
  have h2:=iva (l:=nth M (P.length+k)) (i:=n0) (by rw[hrow _ (by omega)];omega)
  have h3:=hrow (P.length+k) (by omega)
  by_cases hz:(wf (nth M (P.length+k)) n0).v=0
  ·have hz0:=r57.1 hz
   rw[i62 (gu3 (by omega)),List.any_cons,decide_eq_true hz,Bool.not_true,Bool.false_or,show P.length+k+1=P.length+(k+1) by omega,←ih,sb5 c198L3.eq_def]
   simp(disch:=first|omega|fail) only[push_cast,seval,ui5,lu7,y81,bj9,wrap64,dec_lt,cw6,nl3,qc6,mr8,nb8,if_pos,if_neg,h1,h2,h3,mr8 hz]
  ·rw[i62 (gu3 (by omega)),List.any_cons,decide_eq_false hz,Bool.not_false,Bool.true_or,if_pos rfl,sb5 c198L3.eq_def]
   simp(disch:=first|omega|fail) only[push_cast,seval,ui5,lu7,y81,bj9,wrap64,dec_lt,cw6,nl3,qc6,mr8,nb8,if_pos,if_neg,h1,h2,h3,nb8 hz]
theorem wf6{α:Type}{M:List (List α)}{P:List Nat}{k p:Nat}(hp:P[k]? =some p)(hk:k<M.length):(outP M P)[k]? =some (p,nth M k):=by
 have h1:=(List.getElem?_eq_some_iff.1 hp).1
 unfold outP
 rw[List.getElem?_zip_eq_some]
 exact⟨hp,by rw[List.getElem?_take,if_pos h1,gu3 hk]⟩
theorem u44{P:List Nat}{n0:Nat}(hR:M.length=R)(hR2:R≤1000)(hrow: ∀k,k<R→(nth M k).length=n0+1)(hn2:n0≤1000)(hP:P.length≤R)(hPn: ∀p∈P,p<n0):
 ∀(d k:Nat) (x:List (El q)),k+d=P.length→x.length=n0→ ∀ks,
  vgoL W ⟨h198,[.tmp 6, .tmp 7],0⟩ [10,11,20,149,150,151] c198L4 (.blk 8 [20]::ks) [(10, .x (.int .i64 n0)),(11, .own 0 []),(20, .own 1 []),(149, .own 2 []),(150, .x (.int .i64 P.length)),(151, .x (.int .i64 k))] [.sl 0 22 1 (lls 2 (M.map vs)), .sl 0 3 1 (ivs (vs x)), .sl 1 3 1 (ivs (pn P))]=
   vgo W ⟨h198,[.tmp 6, .tmp 7],0⟩ ks (VFr.of [(20, .own 1 [])]) [.sl 0 22 1 (lls 2 (M.map vs)), .sl 0 3 1 (ivs (vs (setP n0 ((outP M P).drop k) x))), .sl 1 3 1 (ivs (pn P))]
 |0,k,x,hk,hx,ks=>by
  have hol:(outP M P).length=P.length:=by unfold outP;rw[List.length_zip,List.length_take];omega
  rw[oh9 (by omega),setP,sb5 c198L4.eq_def]
  simp(disch:=first|omega|fail) only[push_cast,seval,ui5,lu7,y81,bj9,wrap64,dec_lt,cw6,nl3,qc6,mr8,nb8,if_pos,if_neg]
 |d+1,k,x,hk,hx,ks=>by
  obtain⟨p,hp⟩:=ge6 (l:=P) (i:=k) (by omega)
  have hpn:=hPn p (List.mem_of_getElem? hp)
  have ho:=wf6 (M:=M) hp (by omega)
  have ih:=u44 hR hR2 hrow hn2 hP hPn d (k+1) (x.set p (wf (nth M k) n0)) (by omega) (by rw[List.length_set];exact hx) ks
  rw[Int.natCast_add,Int.natCast_one]at ih
  have h1:=mla (nl:=2) (M:=M) (i:=k) (gu3 (by omega))
  have h2:=iva (l:=nth M k) (i:=n0) (by rw[hrow k (by omega)];omega)
  have h3:(ivs (pn P))[k]? =some (.v (.int .i64 p)):=iat (by unfold pn;rw[List.getElem?_map,hp];rfl)
  have h4:=hrow k (by omega)
  have hs:=g52 x p (wf (nth M k) n0)
  have hpl:=im5 P
  rw[i62 ho,setP,←ih,sb5 c198L4.eq_def]
  simp(disch:=first|omega|fail) only[push_cast,seval,ui5,lu7,y81,bj9,wrap64,dec_lt,cw6,nl3,qc6,mr8,nb8,if_pos,if_neg,h1,h2,h3,h4,hs,hpl]
theorem ub4(hy:y.length=M.length)(hMl: ∀r∈M,r.length=n)(hM0:0<M.length)(hn0:0<n)(hMn:M.length≤500)(hN:n≤900):
 o24 W 198 [.x (.int .i64 q), .fz b (.sl nl 0 1 (lvs nr (M.map vs))), .fz b' (.sl nl' 0 1 (ivs (vs y)))] []=match solR n M y with
  |none=>some (.tup [.x (.slice none 0 0), .x (.bool false)],[],[])
  |some x=>some (.tup [.own 0 [], .x (.bool true)],[.sl 0 3 1 (ivs (vs x))],[]):=by
 have e1:=fun ks=>gz1 (b:=b) (b':=b') (nl:=nl) (nl':=nl') (nr:=nr) hy hMl hn0 hMn hN M.length 0 (by omega) ks
 rw[List.take_zero,List.nil_append]at e1
 simp only[Int.natCast_zero]at e1
 have haug:=b28 hy
 obtain⟨N',P,I,e2⟩:=wh0 (n:=n+1) (n0:=n) (M0:=augL M y) (R:=M.length) haug hM0 (by omega) (by omega) (by omega) n 0 (augL M y) [] (by omega) (RedI.start (a86 hMl))
 obtain⟨s1,s2⟩:=z55 hMl hy I
 have hNl:N'.length=M.length:=by rw[I.len,haug]
 have hrow: ∀k,k<M.length→(nth N' k).length=n+1:=fun k hk=>I.len_nth (by omega)
 have hpl:=I.pl
 have e3:=fun ks=>rm1 (M:=N') (P:=P) (n0:=n) hNl (by omega) hrow (by omega) (by omega) (M.length-P.length) 0 (by omega) ks
 have e4:=fun ks=>u44 (M:=N') (P:=P) (n0:=n) hNl (by omega) hrow (by omega) (by omega) (fun p hp=>I.lt p hp) P.length 0 (List.replicate n 0) (by omega) (by simp) ks
 rw[List.drop_zero]at e4
 simp only[Int.natCast_zero,Nat.add_zero]at e3 e4
 have hnil:ivs (pn [])=[]:=rfl
 rw[hnil]at e2
 simp only[Int.natCast_zero]at e2
 obtain⟨r0,hr0⟩:=ge6 (l:=M) (i:=0) hM0
 have h0:=mva (nl:=nr) hr0
 have hr0l:=hMl r0 (List.mem_of_getElem? hr0)
 have hz:=fc2 M.length
 have hz2:List.replicate n (0:Int)=vs (List.replicate n (0:El q)):=by rw[←qj2];rfl
 have hpnl:=im5 P
 have hsub:((M.length:Int)-(P.length:Int)).toNat=M.length-P.length:=by omega
 rw[o10 rfl T198 rfl]
 unfold F198 c198
 simp(disch:=first|omega|fail) only[push_cast,seval,ui5,lu7,y81,bj9,wrap64,dec_lt,cw6,nl3,qc6,mr8,nb8,if_pos,if_neg,h0,hr0l,hz]
 rw[e1]
 simp(disch:=first|omega|fail) only[push_cast,seval,ui5,lu7,y81,bj9,wrap64,dec_lt,cw6,nl3,qc6,mr8,nb8,if_pos,if_neg]
 rw[e2]
 simp(disch:=first|omega|fail) only[push_cast,seval,ui5,lu7,y81,bj9,wrap64,dec_lt,cw6,nl3,qc6,mr8,nb8,if_pos,if_neg,hpnl,hNl,hsub]
 rw[e3]
 have hiff:((N'.drop P.length).any fun r=> !decide ((wf r n).v=0))=true↔ ∃k,P.length≤k∧k<N'.length∧wf (nth N' k) n≠0:=by
  rw[List.any_eq_true]
  constructor
  ·rintro⟨r,hr,hne⟩
   obtain⟨i,hi⟩:=List.getElem?_of_mem hr
   rw[List.getElem?_drop]at hi
   refine⟨P.length+i,by omega,(List.getElem?_eq_some_iff.1 hi).1,fun e=> ?_⟩
   rw[xr8 hi]at e
   rw[decide_eq_true (r57.2 e)]at hne
   cases hne
  ·rintro⟨k,k1,k2,k3⟩
   refine⟨nth N' k,List.mem_of_getElem? (i:=k-P.length) (by rw[List.getElem?_drop,show P.length+(k-P.length)=k by omega,gu3 k2]), ?_⟩
   rw[decide_eq_false fun e=>k3 (r57.1 e)];rfl
 by_cases hex:((N'.drop P.length).any fun r=> !decide ((wf r n).v=0))=true
 ·rw[if_pos hex,s1 (hiff.1 hex)]
 ·rw[if_neg hex,s2 fun h=>hex (hiff.2 h)]
  simp(disch:=first|omega|fail) only[push_cast,seval,ui5,lu7,y81,bj9,wrap64,dec_lt,cw6,nl3,qc6,mr8,nb8,if_pos,if_neg,hz2,hpnl]
  rw[e4]
  simp(disch:=first|omega|fail) only[push_cast,seval,ui5,lu7,y81,bj9,wrap64,dec_lt,cw6,nl3,qc6,mr8,nb8,if_pos,if_neg]
end
end Go.Proofs.YtlhmdmedagjmnaaGreat
namespace Go.Proofs.YtlhmdmedagjmnaaGreat
open Go.Am Go.Vm Go.Alg
section
variable {q:Int} {b b':Bool} {nl nl' nr e:Nat}
theorem kd4 [IsFld q](v:Int):o24 W 197 [.x (.int .i64 v), .fz b (.pt e [pF q])] []=some (.x (.bool (!fok q v)),[],[]):=by
 rw[o10 rfl T197 rfl]
 unfold F197 c197
 simp(disch:=first|omega|fail) only[push_cast,seval,ui5,lu7,y81,bj9,wrap64,dec_lt,cw6,nl3,qc6,mr8,nb8,if_pos,if_neg]
theorem zx6 [IsFld q]{M:List (List (El q))}{y:List (El q)}{n:Nat}(hy:y.length=M.length)(h0:0<M.length)(hl:M.length≤64)(hr: ∀r∈M,r.length=n)(hn0:0<n)(hn:n≤64):
 o24 W 172 [.x (.int .i64 q), .fz b (.sl nl 0 1 (lvs nr (M.map vs))), .fz b' (.sl nl' 0 1 (ivs (vs y)))] []=match solR n M y with
  |none=>some (.tup [.x (.slice none 0 0), .x (.bool false), .x (.int .i64 0)],[],[])
  |some x=>some (.tup [.own 0 [], .x (.bool true), .x (.int .i64 0)],[.sl 0 3 1 (ivs (vs x))],[]):=by
 have h1:=sy6 hl hr hn0 hn
 have e1:=fun b nl nr=>or9 (q:=q) (M:=M.map vs) (b:=b) (nl:=nl) (nr:=nr)
 simp only[h1]at e1
 have hf:=fun bl nl b e=>eg0 (nl:=nl) (l:=vs y) (bl:=bl) (k:=197) (b:=b) (t:= .pt e [pF q]) kd4 rfl (by rw[fi2];omega)
 have hany:((vs y).any fun v=> !fok q v)=false:=List.any_eq_false.2 fun z hz=>by
  obtain⟨x,_,rfl⟩:=List.mem_map.1 hz
  rw[x.ok];decide
 simp only[hany]at hf
 have e2:=fun b nl nr b' nl'=>ub4 (b:=b) (nl:=nl) (nr:=nr) (b':=b') (nl':=nl') hy hr h0 hn0 (by omega) (by omega)
 rw[o10 rfl T172 rfl]
 unfold F172 c172
 cases hs:solR n M y with
 |none=>
  simp only[hs]at e2
  simp(disch:=first|omega|fail) only[push_cast,seval,ui5,lu7,y81,bj9,wrap64,dec_lt,cw6,nl3,qc6,mr8,nb8,if_pos,if_neg,e1,hf,e2,hy]
 |some x=>
  simp only[hs]at e2
  simp(disch:=first|omega|fail) only[push_cast,seval,ui5,lu7,y81,bj9,wrap64,dec_lt,cw6,nl3,qc6,mr8,nb8,if_pos,if_neg,e1,hf,e2,hy]
end
section
variable {α:Type} {n:Nat}
end
section
variable {q:Int} [IsFld q] {b b':Bool} {nl nl' nr:Nat} {M:List (List (El q))} {n:Nat}
end
section
variable {q:Int} {b b':Bool} {nl nl' nr e:Nat}
end
end Go.Proofs.YtlhmdmedagjmnaaGreat
namespace Go.Alg
section
variable {K:Type} [FK K]
theorem vp7{P:List (K×K)}{k:Nat}(h:P.length<k):recK P k=none:=z27 fun⟨a,ha⟩=>by have:=ha.off;omega
theorem wt4{P:List (K×K)}{k:Nat}{N E:List K}(hn:(P.map Prod.fst).Nodup)(g:Hang P k N E)(hE0:wf E≠fun _=>0):
 recK P k=if(remP (xa4 N) (xa4 E)=[]∧(quoP (xa4 N) (xa4 E)).length≤k)∧2*offK (quoP (xa4 N) (xa4 E)) P+k≤P.length then some (qi3 (quoP (xa4 N) (xa4 E)) k)else none:=by
 have hE1:xa4 E≠[]:=fun h=>hE0 (rj1.1 h)
 have hd:=h82 (a:=xa4 N) (t12 E) hE1
 have g':Hang P k (xa4 N) (xa4 E):=⟨fun p hp=>by rw[hd5,hd5];exact g.at' p hp,by rw[vb5];exact g.n,by rw[vb5];exact g.e⟩
 split
 ·rename_i h
  exact n35 hn h.1.2 h.2
 ·rename_i h
  cases hr:recK P k with
  |none=>rfl
  |some a=>
   obtain⟨h1,h2,h3,h4⟩:=k38 hn hr g' (t12 E) hE1 hd
   exact absurd ⟨⟨h1,h2⟩,h3⟩ h
theorem z57{n:Nat}{M:List (List K)}{b s:List K}(h:solR n M b=some s):s.length=n:=by
 unfold solR at h
 split at h
 ·cases h
 ·cases h
  rw[l94,List.length_replicate]
theorem oq8{P:List (K×K)}{k:Nat}(h:solR ((P.length-k)/2+((P.length-k)/2+k)) (P.map (ki6 ((P.length-k)/2) k)) (P.map (eqR ((P.length-k)/2)))=none):recK P k=none:=by
 refine z27 fun⟨a,ha⟩=> ?_
 obtain⟨s,hs⟩:=bw9 ha
 obtain⟨y,hy⟩:=qc0 (n:=(P.length-k)/2+((P.length-k)/2+k)) (M:=P.map (ki6 ((P.length-k)/2) k)) (b:=P.map (eqR ((P.length-k)/2))) (x:=s) (fun m hm=>by
  obtain⟨p,_,rfl⟩:=List.mem_map.1 hm
  exact up9 _ _ _) (by rw[List.length_map,List.length_map]) fun i hi=>by
   rw[List.length_map]at hi
   have h1:=hs P[i] (List.getElem_mem hi)
   rw[List.getD_eq_getElem?_getD,List.getElem?_map,List.getElem?_eq_getElem hi,i66 (by rw[List.length_map];exact hi),List.getElem_map]
   exact h1
 rw[h]at hy
 cases hy
theorem rr0{P:List (K×K)}{k:Nat}{s:List K}(hk:k≤P.length)(h:solR ((P.length-k)/2+((P.length-k)/2+k)) (P.map (ki6 ((P.length-k)/2) k)) (P.map (eqR ((P.length-k)/2)))=some s):Hang P k (s.drop ((P.length-k)/2)) (s.take ((P.length-k)/2)++[1]):=by
 refine hb5 rfl hk (z57 h) fun p hp=> ?_
 obtain⟨i,hi,rfl⟩:=List.getElem_of_mem hp
 have h1:=(l11 (n:=(P.length-k)/2+((P.length-k)/2+k)) (fun m hm=>by
  obtain⟨p,_,rfl⟩:=List.mem_map.1 hm
  exact up9 _ _ _) (by rw[List.length_map,List.length_map]) h).2
 have h2:=h1 i (by rw[List.length_map];exact hi)
 rw[List.getD_eq_getElem?_getD,List.getElem?_map,List.getElem?_eq_getElem hi,i66 (by rw[List.length_map];exact hi),List.getElem_map]at h2
 exact h2
theorem kc1(l:List K):wf (l++[1])≠fun _=>0:=fun e=>by
 have h:=congrFun e l.length
 rw[nz0,if_neg (by omega),Nat.sub_self]at h
 exact ki8 h
end
end Go.Alg
namespace Go.Proofs.YtlhmdmedagjmnaaGreat
open Go.Am Go.Vm Go.Alg
section
variable {q:Int} [h:IsFld q]
theorem mc5(x:El q): ∀n:Nat,(pw x n).v=powI q x.v n
 |0=>rfl
 |n+1=>by rw[pw,ym6,mc5 x n,powI]
theorem v_pw(x:El q)(n:Nat):fpow q x.v n=(pw x n).v:=by
 obtain⟨p,m,g,mod,hn⟩:=h.ok
 obtain⟨hf,t,_⟩:=jj8 hn
 rw[mc5]
 cases n with
 |zero=>
  rw[fpow,x.ok]
  show(bif !true||((x.v==0)&&decide (((0:Nat):Int)<0))then _ else _)=_
  rw[decide_eq_false (by omega),Bool.and_false];rfl
 |succ n=>exact(v22 t hf.q2 ⟨x.lo,x.hi⟩ (n+1) (by omega)).symm
theorem xe7{K:Type} [FK K](n:Nat)(f:Nat→K):ofF (n+1) f=ofF n f++[f n]:=by
 unfold ofF;rw[List.range_succ,List.map_append];rfl
end
theorem sk4{A:Bool→Nat→Bool→Nat→Nat→Prop}(h: ∀b nl b' nl',∃n,A b nl b' nl' n): ∃F:Bool→Nat→Bool→Nat→Nat,∀b nl b' nl',A b nl b' nl' (F b nl b' nl'):=
 ⟨fun b nl b' nl'=>Classical.choose (h b nl b' nl'),fun b nl b' nl'=>Classical.choose_spec (h b nl b' nl')⟩
section
variable {q:Int} [IsFld q] {b b':Bool} {nl nl':Nat} {P:List (El q×El q)} {k:Nat}
theorem up6{a:List (El q)}{b2:Bool}{nl2:Nat}(hal:a.length≤k)(hk:k≤100)(hP:P.length≤100):
 o24 W 174 [.x (.int .i64 q), .fz b (.sl nl 0 1 (ivs (vs (P.map Prod.fst)))), .fz b' (.sl nl' 0 1 (ivs (vs (P.map Prod.snd)))), .fz b2 (.sl nl2 0 1 (ivs (vs a))), .x (.int .i64 k)] []=
  if 2*offK a P+k≤P.length then some (.tup [.own 0 [], .x (.int .i64 (offK a P:Nat)), .x (.bool true), .x (.int .i64 0)],[.sl 0 3 1 (ivs (vs (qi3 a k)))],[])else some (.tup [.own 0 [], .x (.int .i64 0), .x (.bool false), .x (.int .i64 0)],[.sl 1 3 1 []],[]):=by
 have e1:=fun b nl b' nl' b2 nl2=>oq2 (b:=b) (nl:=nl) (b':=b') (nl':=nl') (b2:=b2) (nl2:=nl2) (P:=P) (a:=a) (k:=k) (by omega) (by omega) (by omega)
 have e2:=fun b nl=>om1 (b:=b) (nl:=nl) hal (by omega)
 rw[o10 rfl T174 rfl]
 unfold F174 c174
 by_cases h:2*offK a P+k≤P.length
 ·rw[decide_eq_true h]at e1
  rw[if_pos h]
  simp(disch:=first|omega|fail) only[push_cast,seval,ui5,lu7,y81,bj9,wrap64,dec_lt,cw6,nl3,qc6,mr8,nb8,if_pos,if_neg,e1,e2]
 ·rw[decide_eq_false h]at e1
  rw[if_neg h]
  simp(disch:=first|omega|fail) only[push_cast,seval,ui5,lu7,y81,bj9,wrap64,dec_lt,cw6,nl3,qc6,mr8,nb8,if_pos,if_neg,e1,e2]
theorem rg0{t:Nat}{i:Nat}{p:El q×El q}(hp:P[i]? =some p)(hP:P.length≤100)(ht:t≤100){L I:Int}{T2 T3:Tree}{n1 n2:Nat}: ∀(n d:Nat),d+n=t→ ∀ks,
 vgoL W ⟨h106,[.tmp 8, .tmp 9, .tmp 10, .tmp 11],0⟩ [0,2,13,14,15,17,18,19,20,21,58,59,62,63] c106L0 (.blk 2 [0,2,13,14,15,17,18,19,20,21,58,59]::ks) [(0, .x (.int .i64 q)),(2, .x (.int .i64 k)),(13, .own 0 []),(14, .own 1 []),(15, .fz true (pF q)),(17, .x (.int .i64 t)),(18, .own 2 []),(19, .own 3 []),(20, .x (.int .i64 i)),(21, .own 4 []),(58, .x (.int .i64 L)),(59, .x (.int .i64 I)),(62, .x (.int .i64 t)),(63, .x (.int .i64 d))] [.sl n1 3 1 (ivs (vs (P.map Prod.fst))), .sl n2 3 1 (ivs (vs (P.map Prod.snd))),T2,T3, .sl 1 3 1 (ivs (vs (ofF d fun j=>p.2*pw p.1 j)))]=
  vgo W ⟨h106,[.tmp 8, .tmp 9, .tmp 10, .tmp 11],0⟩ ks (VFr.of [(0, .x (.int .i64 q)),(2, .x (.int .i64 k)),(13, .own 0 []),(14, .own 1 []),(15, .fz true (pF q)),(17, .x (.int .i64 t)),(18, .own 2 []),(19, .own 3 []),(20, .x (.int .i64 i)),(21, .own 4 []),(58, .x (.int .i64 L)),(59, .x (.int .i64 I))]) [.sl n1 3 1 (ivs (vs (P.map Prod.fst))), .sl n2 3 1 (ivs (vs (P.map Prod.snd))),T2,T3, .sl 1 3 1 (ivs (vs (ofF t fun j=>p.2*pw p.1 j)))]
 |0,d,hd,ks=>by
  obtain rfl:d=t:=by omega
  rw[sb5 c106L0.eq_def]
  simp(disch:=first|omega|fail) only[push_cast,seval,ui5,lu7,y81,bj9,wrap64,dec_lt,cw6,nl3,qc6,mr8,nb8,if_pos,if_neg]
 |n+1,d,hd,ks=>by
  have ih:=rg0 hp hP ht (L:=L) (I:=I) (T2:=T2) (T3:=T3) (n1:=n1) (n2:=n2) n (d+1) (by omega) ks
  have h1:=iat (show(vs (P.map Prod.fst))[i]? =some p.1.v by unfold vs;rw[List.getElem?_map,List.getElem?_map,hp];rfl)
  have h2:=iat (show(vs (P.map Prod.snd))[i]? =some p.2.v by unfold vs;rw[List.getElem?_map,List.getElem?_map,hp];rfl)
  have hi:i<P.length:=(List.getElem?_eq_some_iff.1 hp).1
  have hpw:=v_pw p.1 d
  have hl:=gh0 d fun j=>p.2*pw p.1 j
  rw[Int.natCast_add,Int.natCast_one,xe7,gq8,show vs [p.2*pw p.1 d]=[fmul q p.2.v (pw p.1 d).v]from rfl]at ih
  rw[←ih,sb5 c106L0.eq_def]
  generalize ofF d (fun j=>p.2*pw p.1 j)=Z at*
  simp(disch:=first|omega|fail) only[push_cast,seval,ui5,lu7,y81,bj9,wrap64,dec_lt,cw6,nl3,qc6,mr8,nb8,if_pos,if_neg,h1,h2,hpw,hl,List.length_map]
theorem jy2{t:Nat}{i:Nat}{p:El q×El q}(hp:P[i]? =some p)(hP:P.length≤100)(ht:t≤100){m:Nat}(hm:m≤200){Y:List (El q)}(hY:Y.length≤100){L I:Int}{T2 T3:Tree}{n1 n2:Nat}: ∀(n d:Nat),d+n=m→ ∀ks,
 vgoL W ⟨h106,[.tmp 8, .tmp 9, .tmp 10, .tmp 11],0⟩ [0,2,13,14,15,17,18,19,20,21,58,59,85,86] c106L1 (.blk 4 [0,2,13,14,15,17,18,19,20,21,58,59]::ks) [(0, .x (.int .i64 q)),(2, .x (.int .i64 k)),(13, .own 0 []),(14, .own 1 []),(15, .fz true (pF q)),(17, .x (.int .i64 t)),(18, .own 2 []),(19, .own 3 []),(20, .x (.int .i64 i)),(21, .own 4 []),(58, .x (.int .i64 L)),(59, .x (.int .i64 I)),(85, .x (.int .i64 m)),(86, .x (.int .i64 d))] [.sl n1 3 1 (ivs (vs (P.map Prod.fst))), .sl n2 3 1 (ivs (vs (P.map Prod.snd))),T2,T3, .sl 1 3 1 (ivs (vs (Y++ofF d fun j=> -pw p.1 j)))]=
  vgo W ⟨h106,[.tmp 8, .tmp 9, .tmp 10, .tmp 11],0⟩ ks (VFr.of [(0, .x (.int .i64 q)),(2, .x (.int .i64 k)),(13, .own 0 []),(14, .own 1 []),(15, .fz true (pF q)),(17, .x (.int .i64 t)),(18, .own 2 []),(19, .own 3 []),(20, .x (.int .i64 i)),(21, .own 4 []),(58, .x (.int .i64 L)),(59, .x (.int .i64 I))]) [.sl n1 3 1 (ivs (vs (P.map Prod.fst))), .sl n2 3 1 (ivs (vs (P.map Prod.snd))),T2,T3, .sl 1 3 1 (ivs (vs (Y++ofF m fun j=> -pw p.1 j)))]
 |0,d,hd,ks=>by
  obtain rfl:d=m:=by omega
  rw[sb5 c106L1.eq_def]
  simp(disch:=first|omega|fail) only[push_cast,seval,ui5,lu7,y81,bj9,wrap64,dec_lt,cw6,nl3,qc6,mr8,nb8,if_pos,if_neg]
 |n+1,d,hd,ks=>by
  have ih:=jy2 hp hP ht hm hY (L:=L) (I:=I) (T2:=T2) (T3:=T3) (n1:=n1) (n2:=n2) n (d+1) (by omega) ks
  have h1:=iat (show(vs (P.map Prod.fst))[i]? =some p.1.v by unfold vs;rw[List.getElem?_map,List.getElem?_map,hp];rfl)
  have hi:i<P.length:=(List.getElem?_eq_some_iff.1 hp).1
  have hpw:=v_pw p.1 d
  have hl:=gh0 d fun j=> -pw p.1 j
  rw[Int.natCast_add,Int.natCast_one,xe7,←List.append_assoc,gq8,show vs [-pw p.1 d]=[fneg q (pw p.1 d).v]from rfl]at ih
  rw[←ih,sb5 c106L1.eq_def]
  have hl2:(Y++ofF d fun j=> -pw p.1 j).length=Y.length+d:=by rw[List.length_append,hl]
  generalize (Y++ofF d fun j=> -pw p.1 j)=Z at*
  simp(disch:=first|omega|fail) only[push_cast,seval,ui5,lu7,y81,bj9,wrap64,dec_lt,cw6,nl3,qc6,mr8,nb8,if_pos,if_neg,h1,hpw,hl2,List.length_map]
theorem lo3{t:Nat}(hP:P.length≤100)(ht:t≤100)(hk:k≤100){n1 n2:Nat}: ∀(n i:Nat),i+n=P.length→ ∀ks,
 vgoL W ⟨h106,[.tmp 8, .tmp 9, .tmp 10, .tmp 11],0⟩ [0,2,13,14,15,17,18,19,58,59] c106L2 (.blk 0 [0,2,13,14,17,18,19]::ks) [(0, .x (.int .i64 q)),(2, .x (.int .i64 k)),(13, .own 0 []),(14, .own 1 []),(15, .fz true (pF q)),(17, .x (.int .i64 t)),(18, .own 2 []),(19, .own 3 []),(58, .x (.int .i64 P.length)),(59, .x (.int .i64 i))] [.sl n1 3 1 (ivs (vs (P.map Prod.fst))), .sl n2 3 1 (ivs (vs (P.map Prod.snd))), .sl 1 22 1 (lls 2 (((P.take i).map (ki6 t k)).map vs)), .sl 1 3 1 (ivs (vs ((P.take i).map (eqR t))))]=
  vgo W ⟨h106,[.tmp 8, .tmp 9, .tmp 10, .tmp 11],0⟩ ks (VFr.of [(0, .x (.int .i64 q)),(2, .x (.int .i64 k)),(13, .own 0 []),(14, .own 1 []),(17, .x (.int .i64 t)),(18, .own 2 []),(19, .own 3 [])]) [.sl n1 3 1 (ivs (vs (P.map Prod.fst))), .sl n2 3 1 (ivs (vs (P.map Prod.snd))), .sl 1 22 1 (lls 2 ((P.map (ki6 t k)).map vs)), .sl 1 3 1 (ivs (vs (P.map (eqR t))))]
 |0,i,hi,ks=>by
  rw[List.take_of_length_le (by omega),sb5 c106L2.eq_def]
  simp(disch:=first|omega|fail) only[push_cast,seval,ui5,lu7,y81,bj9,wrap64,dec_lt,cw6,nl3,qc6,mr8,nb8,if_pos,if_neg]
 |n+1,i,hi,ks=>by
  have ih:=lo3 hP ht hk (n1:=n1) (n2:=n2) n (i+1) (by omega) ks
  obtain⟨p,hp⟩:=ge6 (l:=P) (i:=i) (by omega)
  have h1:=iat (show(vs (P.map Prod.fst))[i]? =some p.1.v by unfold vs;rw[List.getElem?_map,List.getElem?_map,hp];rfl)
  have h2:=iat (show(vs (P.map Prod.snd))[i]? =some p.2.v by unfold vs;rw[List.getElem?_map,List.getElem?_map,hp];rfl)
  have hpw:=v_pw p.1 t
  have e1:=fun L I T2 T3 n1 n2 ks=>rg0 (k:=k) hp hP ht (L:=L) (I:=I) (T2:=T2) (T3:=T3) (n1:=n1) (n2:=n2) t 0 (by omega) ks
  have e2:=fun L I T2 T3 n1 n2 ks=>jy2 (k:=k) hp hP ht (m:=t+k) (by omega) (Y:=ofF t fun j=>p.2*pw p.1 j) (by rw[gh0];exact ht) (L:=L) (I:=I) (T2:=T2) (T3:=T3) (n1:=n1) (n2:=n2) (t+k) 0 (by omega) ks
  rw[show(ofF t fun j=>p.2*pw p.1 j)++(ofF (t+k) fun j=> -pw p.1 j)=ki6 t k p from rfl,show ofF 0 (fun j=> -pw p.1 j)=[]from rfl,List.append_nil]at e2
  rw[show ofF 0 (fun j=>p.2*pw p.1 j)=[]from rfl]at e1
  simp only[Int.natCast_zero,rp2,lz6,Int.natCast_add]at e1 e2
  have w1:IntKind.wrap .i64 ((t:Int)+(k:Int))=(t:Int)+(k:Int):=wrap64 (by omega) (by omega)
  have hlt:i<P.length:=by omega
  have hl1:(List.map vs (List.map (ki6 t k) (List.take i P))).length=i:=by rw[List.length_map,List.length_map,List.length_take];omega
  have hl2:(List.map (eqR t) (List.take i P)).length=i:=by rw[List.length_map,List.length_take];omega
  rw[Int.natCast_add,Int.natCast_one,List.take_add_one,hp,Option.toList_some,List.map_append,List.map_append,List.map_append,gq8,show List.map vs (List.map (ki6 t k) [p])=[vs (ki6 t k p)]from rfl,show vs (List.map (eqR t) [p])=[fneg q (fmul q p.2.v (pw p.1 t).v)]from rfl]at ih
  rw[←ih,sb5 c106L2.eq_def]
  simp(disch:=first|omega|fail) only[push_cast,seval,ui5,lu7,y81,bj9,wrap64,dec_lt,cw6,nl3,qc6,mr8,nb8,if_pos,if_neg]
  rw[e1]
  simp(disch:=first|omega|fail) only[push_cast,seval,ui5,lu7,y81,bj9,wrap64,dec_lt,cw6,nl3,qc6,mr8,nb8,if_pos,if_neg,w1]
  rw[e2]
  simp(disch:=first|omega|fail) only[push_cast,seval,ui5,lu7,y81,bj9,wrap64,dec_lt,cw6,nl3,qc6,mr8,nb8,if_pos,if_neg,h1,h2,hpw,hl1,hl2,List.length_map]
theorem yx3{X:List (El q)}{U:List (Option (El q))}(hn:X.Nodup):((kh0 X U).map Prod.fst).Nodup:=hn.sublist (ga1 X U)
theorem y91{X:List (El q)}{U:List (Option (El q))}{k:Nat}(hn:X.Nodup)(hX1:1≤X.length)(hX:X.length≤64)(hU:U.length=X.length)(k1:1≤k)(k2:k≤X.length):wrdE q (vs X) k (ws U)=0:=by
 unfold wrdE
 rw[if_pos (la8 hn hX1 hX (by omega) (by omega)),if_neg (by rw[u67,fi2];omega),p09,if_neg (by decide)]
def yg9(P:List (El q×El q)):Option (List (El q))→Option VRes
 |some a=>some (.tup [.own 0 [], .x (.int .i64 (offK a P:Nat)), .x (.bool true), .x (.int .i64 0)],[.sl 0 3 1 (ivs (vs a))],[])
 |none=>some (.tup [.own 0 [], .x (.int .i64 0), .x (.bool false), .x (.int .i64 0)],[.sl 1 3 1 []],[])
theorem on4{X:List (El q)}{U:List (Option (El q))}{k:Nat}(hn:X.Nodup)(hX1:1≤X.length)(hX:X.length≤64)(hU:U.length=X.length)(k1:1≤k)(k2:k≤X.length):
 o24 W 106 [.x (.int .i64 q), .fz b (.sl nl 0 1 (ivs (vs X))), .x (.int .i64 k), .fz b' (.sl nl' 0 1 (ivs (ws U)))] []=yg9 (kh0 X U) (recK (kh0 X U) k):=by
 have e1:=fun b nl b' nl'=>hd9 (q:=q) (b:=b) (nl:=nl) (b':=b') (nl':=nl') (xs:=vs X) (w:=ws U) (k:=k) (by rw[fi2];omega) (by rw[u67];omega)
 simp only[y91 hn hX1 hX hU k1 k2]at e1
 have e2:=fun b nl b' nl'=>jl7 (b:=b) (nl:=nl) (b':=b') (nl':=nl') hU (by omega)
 have hPl:=ah8 X U
 have hPn:=yx3 (U:=U) hn
 generalize kh0 X U=P at*
 by_cases hlt:P.length<k
 ·rw[vp7 hlt]
  rw[o10 rfl T106 rfl]
  unfold F106 c106
  unfold yg9
  simp(disch:=first|omega|fail) only[push_cast,seval,ui5,lu7,y81,bj9,wrap64,dec_lt,cw6,nl3,qc6,mr8,nb8,if_pos,if_neg,e1,e2,List.length_map,hlt]
 ·obtain⟨t,ht⟩: ∃t,t=(P.length-k)/2:=⟨_,rfl⟩
  have hlt': ¬(P.length:Int)<(k:Int):=by omega
  have w1:IntKind.wrap .i64 ((P.length:Int)-(k:Int))=((P.length-k:Nat):Int):=by rw[wrap64 (by omega) (by omega)];omega
  have w2:IntKind.wrap .i64 (((P.length:Int)-(k:Int)).tdiv 2)=(t:Int):=by
   rw[Int.tdiv_eq_ediv_of_nonneg (by omega),wrap64 (by omega) (by omega)];omega
  have e3:=fun n1 n2 ks=>lo3 (k:=k) (P:=P) (t:=t) (by omega) (by omega) (by omega) (n1:=n1) (n2:=n2) P.length 0 (by omega) ks
  rw[List.take_zero]at e3
  simp only[List.map_nil,rp2,lz6,Int.natCast_zero,show lls 2 []=[]from rfl]at e3
  have e4:=fun b nl nr b' nl'=>zx6 (b:=b) (nl:=nl) (nr:=nr) (b':=b') (nl':=nl') (M:=P.map (ki6 t k)) (y:=P.map (eqR t)) (n:=t+(t+k)) (by rw[List.length_map,List.length_map]) (by rw[List.length_map];omega) (by rw[List.length_map];omega) (fun m hm=>by
   obtain⟨p,_,rfl⟩:=List.mem_map.1 hm
   exact up9 _ _ _) (by omega) (by omega)
  rw[o10 rfl T106 rfl]
  unfold F106 c106
  cases hs:solR (t+(t+k)) (P.map (ki6 t k)) (P.map (eqR t))with
  |none=>
   simp only[hs]at e4
   rw[oq8 (by rw[←ht];exact hs)]
   unfold yg9
   simp(disch:=first|omega|fail) only[push_cast,seval,ui5,lu7,y81,bj9,wrap64,dec_lt,cw6,nl3,qc6,mr8,nb8,if_pos,if_neg,e1,e2,List.length_map,cw6 (Int.not_lt.1 hlt'),w2]
   rw[e3]
   simp(disch:=first|omega|fail) only[push_cast,seval,ui5,lu7,y81,bj9,wrap64,dec_lt,cw6,nl3,qc6,mr8,nb8,if_pos,if_neg,e4]
  |some s=>
   simp only[hs]at e4
   have hsl:=z57 hs
   have hE0:=kc1 (s.take t)
   have g:=rr0 (P:=P) (k:=k) (s:=s) (by omega) (by rw[←ht];exact hs)
   rw[←ht]at g
   have e5:=fun b nl=>h19 (b:=b) (nl:=nl) (zs:=vs (s.take t)) (by rw[fi2,List.length_take];omega)
   have e6:=fun b nl b' nl'=>pl2 (b:=b) (nl:=nl) (b':=b') (nl':=nl') (a:=s.drop t) (c:=s.take t++[1]) (by rw[List.length_drop];omega) (by rw[List.length_append,List.length_take,List.length_singleton];omega) fun e=>hE0 (rj1.1 e)
   rw[wt4 hPn g hE0]
   have htk:(vs s).take t=vs (s.take t):=ee1 _ _
   have hdr:(vs s).drop t=vs (s.drop t):=by unfold vs;rw[List.map_drop]
   obtain⟨F,e6⟩:=sk4 e6
   simp(disch:=first|omega|fail) only[push_cast,seval,ui5,lu7,y81,bj9,wrap64,dec_lt,cw6,nl3,qc6,mr8,nb8,if_pos,if_neg,e1,e2,List.length_map,cw6 (Int.not_lt.1 hlt'),w2]
   rw[e3]
   have hc1:vs (s.take t++[1])=vs (s.take t)++[1]:=by rw[gq8];rfl
   have htk2:(vs (s.drop t)).take ((t:Int)+((t:Int)+(k:Int))-(t:Int)).toNat=vs (s.drop t):=List.take_of_length_le (by rw[fi2,List.length_drop];omega)
   rw[hc1]at e6
   generalize quoP (xa4 (s.drop t)) (xa4 (s.take t++[1]))=Q at*
   generalize remP (xa4 (s.drop t)) (xa4 (s.take t++[1]))=R at*
   by_cases h1:R=[]∧Q.length≤k
   ·have hR:R.length=0:=by rw[h1.1];rfl
    have hQ:=h1.2
    have e7:=fun b nl b' nl' b2 nl2=>up6 (b:=b) (nl:=nl) (b':=b') (nl':=nl') (b2:=b2) (nl2:=nl2) (P:=P) (a:=Q) (k:=k) hQ (by omega) (by omega)
    by_cases h2:2*offK Q P+k≤P.length
    ·rw[if_pos ⟨h1,h2⟩]
     simp only[if_pos h2]at e7
     have h3:offK (qi3 Q k) P=offK Q P:=tx3 (yq4 fun j hj=>e00 (by omega)) P
     unfold yg9
     simp(disch:=first|omega|fail) only[push_cast,seval,ui5,lu7,y81,bj9,wrap64,dec_lt,cw6,nl3,qc6,mr8,nb8,if_pos,if_neg,e4,Int.sub_zero,htk,hdr,htk2,e5,e6,hsl,hR,hQ,e7,h3]
    ·rw[if_neg fun h=>h2 h.2]
     simp only[if_neg h2]at e7
     unfold yg9
     simp(disch:=first|omega|fail) only[push_cast,seval,ui5,lu7,y81,bj9,wrap64,dec_lt,cw6,nl3,qc6,mr8,nb8,if_pos,if_neg,e4,Int.sub_zero,htk,hdr,htk2,e5,e6,hsl,hR,hQ,e7]
   ·rw[if_neg fun h=>h1 h.1]
    unfold yg9
    by_cases hR:R.length=0
    ·have hQ: ¬Q.length≤k:=fun h=>h1 ⟨List.eq_nil_of_length_eq_zero hR,h⟩
     have hQ':(k:Int)<(Q.length:Int):=by omega
     simp(disch:=first|omega|fail) only[push_cast,seval,ui5,lu7,y81,bj9,wrap64,dec_lt,cw6,nl3,qc6,mr8,nb8,if_pos,if_neg,e4,Int.sub_zero,htk,hdr,htk2,e5,e6,hsl,hR,dec_lt hQ']
    ·have hR':(0:Int)<(R.length:Int):=by omega
     simp(disch:=first|omega|fail) only[push_cast,seval,ui5,lu7,y81,bj9,wrap64,dec_lt,cw6,nl3,qc6,mr8,nb8,if_pos,if_neg,e4,Int.sub_zero,htk,hdr,htk2,e5,e6,hsl,dec_lt hR']
end
end Go.Proofs.YtlhmdmedagjmnaaGreat
namespace Go.Proofs.YtlhmdmedagjmnaaGreat
open Go.Am Go.Vm Go.Alg
section
variable {q p m g:Int} [IsFld q] {t:Tree} {b b' b2:Bool} {nl nl' nl2:Nat} {a:List (El q)} {X:List (El q)} {U:List (Option (El q))}
theorem fr6(u:RFo q p m g t)(hX:X.length≤1000)(ha:a.length≤1000): ∀(n i:Nat),i+n=X.length→ ∀ks,
 vgoL W ⟨h39,[.tmp 6],0⟩ [1,2,3,7,8] c39L0 (.blk 0 [7]::ks) [(1, .fz b (.sl nl 0 1 (ivs (vs X)))),(2, .fz b' (.sl nl' 0 1 (ivs (vs a)))),(3, .own 0 []),(7, .own 1 []),(8, .x (.int .i64 i))] [.pt 52 [.v (.int .i64 q), .v (.int .i64 p), .v (.int .i64 m), .v (.int .i64 g), .fz t], .sl 1 3 1 (ivs (vs ((X.take i).map fun x=>ev a x)))]=
  vgo W ⟨h39,[.tmp 6],0⟩ ks (VFr.of [(7, .own 1 [])]) [.pt 52 [.v (.int .i64 q), .v (.int .i64 p), .v (.int .i64 m), .v (.int .i64 g), .fz t], .sl 1 3 1 (ivs (vs (X.map fun x=>ev a x)))]
 |0,i,hi,ks=>by
  rw[List.take_of_length_le (by omega),sb5 c39L0.eq_def]
  simp(disch:=first|omega|fail) only[push_cast,seval,ui5,lu7,y81,bj9,wrap64,dec_lt,cw6,nl3,qc6,mr8,nb8,if_pos,if_neg]
 |n+1,i,hi,ks=>by
  have ih:=fr6 u hX ha n (i+1) (by omega) ks
  obtain⟨x,hx⟩:=ge6 (l:=X) (i:=i) (by omega)
  have h1:=iat (show(vs X)[i]? =some x.v by unfold vs;rw[List.getElem?_map,hx];rfl)
  have ht:=u.n
  have ho:=u.o
  have e1:=fun b nl=>xz0 (b:=b) (nl:=nl) (x:=x) ha
  rw[u.e]at e1
  have hl:((X.take i).map fun x=>ev a x).length=i:=by rw[List.length_map,List.length_take];omega
  rw[Int.natCast_add,Int.natCast_one,List.take_add_one,hx,Option.toList_some,List.map_append,gq8,show vs (List.map (fun x=>ev a x) [x])=[(ev a x).v]from rfl]at ih
  rw[←ih,sb5 c39L0.eq_def]
  simp(disch:=first|omega|fail) only[push_cast,seval,ui5,lu7,y81,bj9,wrap64,dec_lt,cw6,nl3,qc6,mr8,nb8,if_pos,if_neg,h1,ht,ho,e1,hl]
theorem to0(hX:X.length≤1000)(ha:a.length≤1000):o24 W 39 [.agg (rFs q), .fz b (.sl nl 0 1 (ivs (vs X))), .fz b' (.sl nl' 0 1 (ivs (vs a)))] []=some (.own 0 [],[.sl 1 3 1 (ivs (vs (X.map fun x=>ev a x)))],[]):=by
 obtain⟨p,m,g,t,u⟩:=k75 q
 have e:=fun ks=>fr6 (b:=b) (nl:=nl) (b':=b') (nl':=nl') u hX ha X.length 0 (by omega) ks
 rw[List.take_zero]at e
 simp only[List.map_nil,rp2,lz6,Int.natCast_zero]at e
 have ht:=u.n
 rw[o10 rfl T39 rfl,u.e]
 unfold F39 c39
 simp(disch:=first|omega|fail) only[push_cast,seval,ui5,lu7,y81,bj9,wrap64,dec_lt,cw6,nl3,qc6,mr8,nb8,if_pos,if_neg,ht]
 rw[e]
 simp(disch:=first|omega|fail) only[push_cast,seval,ui5,lu7,y81,bj9,wrap64,dec_lt,cw6,nl3,qc6,mr8,nb8,if_pos,if_neg]
theorem b65(u:RFo q p m g t)(ha:a.length≤1000)(hU:U.length=X.length)(hX:X.length≤1000): ∀(d i e n:Nat),i+d=X.length→e≤i→n≤i→ ∀ks,
 vgoL W ⟨hNo,[.tmp 8, .tmp 9],0⟩ [1,2,3,4,10,11,12] c180L0 (.blk 0 [10,11]::ks) [(1, .fz b (.sl nl 0 1 (ivs (vs X)))),(2, .fz b' (.sl nl' 0 1 (ivs (ws U)))),(3, .fz b2 (.sl nl2 0 1 (ivs (vs a)))),(4, .own 0 []),(10, .x (.int .i64 e)),(11, .x (.int .i64 n)),(12, .x (.int .i64 i))] [.pt 52 [.v (.int .i64 q), .v (.int .i64 p), .v (.int .i64 m), .v (.int .i64 g), .fz t]]=
  vgo W ⟨hNo,[.tmp 8, .tmp 9],0⟩ ks (VFr.of [(10, .x (.int .i64 (offK a (kh0 (X.drop i) (U.drop i))+e:Nat))),(11, .x (.int .i64 ((kh0 (X.drop i) (U.drop i)).length+n:Nat)))]) [.pt 52 [.v (.int .i64 q), .v (.int .i64 p), .v (.int .i64 m), .v (.int .i64 g), .fz t]]
 |0,i,e,n,hi,he,hn,ks=>by
  have hwl:=u67 U
  rw[oh9 (by omega),oh9 (by omega),show kh0 ([]:List (El q)) []=[]from rfl,show offK a []=0 from rfl,List.length_nil,Nat.zero_add,Nat.zero_add,sb5 c180L0.eq_def]
  simp(disch:=first|omega|fail) only[push_cast,seval,ui5,lu7,y81,bj9,wrap64,dec_lt,cw6,nl3,qc6,mr8,nb8,if_pos,if_neg,hwl]
 |d+1,i,e,n,hi,he,hn,ks=>by
  obtain⟨x,hx⟩:=ge6 (l:=X) (i:=i) (by omega)
  obtain⟨o,ho'⟩:=ge6 (l:=U) (i:=i) (by omega)
  have h1:=iat (qb7 ho')
  have h2:=iat (show(vs X)[i]? =some x.v by unfold vs;rw[List.getElem?_map,hx];rfl)
  have hwl:=u67 U
  have ht:=u.n
  have ho:=u.o
  rw[i62 hx,i62 ho']
  cases o with
  |none=>
   rw[show oV (none:Option (El q))= -1 from rfl]at h1
   have ih:=b65 u ha hU hX d (i+1) e n (by omega) (by omega) (by omega) ks
   rw[Int.natCast_add,Int.natCast_one]at ih
   rw[kh0,←ih,sb5 c180L0.eq_def]
   simp(disch:=first|omega|fail) only[push_cast,seval,ui5,lu7,y81,bj9,wrap64,dec_lt,cw6,nl3,qc6,mr8,nb8,if_pos,if_neg,h1,hwl,ht,ho]
  |some y=>
   rw[show oV (some y)=y.v from rfl]at h1
   have hy: ¬y.v= -1:=by have:=y.lo;omega
   have e1:=fun b nl=>xz0 (b:=b) (nl:=nl) (x:=x) ha
   rw[u.e]at e1
   have ih:=b65 u ha hU hX d (i+1) (e+if ev a x=y then 0 else 1) (n+1) (by omega) (by split<;>omega) (by omega) ks
   have c1:((i+1:Nat):Int)=(i:Int)+1:=by omega
   have c2:((n+1:Nat):Int)=(n:Int)+1:=by omega
   rw[c1,c2]at ih
   rw[kh0,di6,List.length_cons]
   rw[show offK a (kh0 (X.drop (i+1)) (U.drop (i+1)))+(e+if ev a x=y then 0 else 1)=(if ev a x=y then 0 else 1)+offK a (kh0 (X.drop (i+1)) (U.drop (i+1)))+e by omega,show(kh0 (X.drop (i+1)) (U.drop (i+1))).length+(n+1)=(kh0 (X.drop (i+1)) (U.drop (i+1))).length+1+n by omega]at ih
   rw[←ih,sb5 c180L0.eq_def]
   by_cases h:ev a x=y
   ·rw[if_pos h,Nat.add_zero]
    have hv:(ev a x).v=y.v:=by rw[h]
    simp(disch:=first|omega|fail) only[push_cast,seval,ui5,lu7,y81,bj9,wrap64,dec_lt,cw6,nl3,qc6,mr8,nb8,if_pos,if_neg,h1,h2,hwl,ht,ho,nb8 hy,e1,hv]
   ·rw[if_neg h,show((e+1:Nat):Int)=(e:Int)+1 by omega]
    have hv: ¬(ev a x).v=y.v:=fun e=>h (El.ext' e)
    simp(disch:=first|omega|fail) only[push_cast,seval,ui5,lu7,y81,bj9,wrap64,dec_lt,cw6,nl3,qc6,mr8,nb8,if_pos,if_neg,h1,h2,hwl,ht,ho,nb8 hy,e1,nb8 hv]
theorem zg2(ha:a.length≤1000)(hU:U.length=X.length)(hX:X.length≤1000):
 o24 W 180 [.agg (rFs q), .fz b (.sl nl 0 1 (ivs (vs X))), .fz b' (.sl nl' 0 1 (ivs (ws U))), .fz b2 (.sl nl2 0 1 (ivs (vs a)))] []=some (.tup [.x (.int .i64 (offK a (kh0 X U):Nat)), .x (.int .i64 ((kh0 X U).length:Nat))],[],[]):=by
 obtain⟨p,m,g,t,u⟩:=k75 q
 have e:=fun ks=>b65 (b:=b) (nl:=nl) (b':=b') (nl':=nl') (b2:=b2) (nl2:=nl2) u ha hU hX X.length 0 0 0 (by omega) (by omega) (by omega) ks
 rw[List.drop_zero,List.drop_zero]at e
 simp only[Int.natCast_zero,Nat.add_zero]at e
 have ht:=u.n
 rw[o10 rfl T180 rfl,u.e]
 unfold F180 c180
 simp(disch:=first|omega|fail) only[push_cast,seval,ui5,lu7,y81,bj9,wrap64,dec_lt,cw6,nl3,qc6,mr8,nb8,if_pos,if_neg,ht]
 rw[e]
 simp(disch:=first|omega|fail) only[push_cast,seval,ui5,lu7,y81,bj9,wrap64,dec_lt,cw6,nl3,qc6,mr8,nb8,if_pos,if_neg]
theorem g59(hl:a.length≤1000000): ∀(n:Nat),n≤a.length→ ∀ks,
 vgoL W ⟨hNo,[.tmp 2],0⟩ [0,3] c178L0 (.blk 0 [0,3]::ks) [(0, .fz b (.sl nl 0 1 (ivs (vs a)))),(3, .x (.int .i64 n))] []=vgo W ⟨hNo,[.tmp 2],0⟩ ks (VFr.of [(0, .fz b (.sl nl 0 1 (ivs (vs a)))),(3, .x (.int .i64 (tN a n:Nat)))]) []
 |0,hn,ks=>by
  rw[sb5 c178L0.eq_def,tN]
  simp(disch:=first|omega|fail) only[push_cast,seval,ui5,lu7,y81,bj9,wrap64,dec_lt,cw6,nl3,qc6,mr8,nb8,if_pos,if_neg]
 |n+1,hn,ks=>by
  have ih:=g59 hl n (by omega) ks
  have h1:=iva (l:=a) (i:=n) (by omega)
  have w1:IntKind.wrap .i64 (((n+1:Nat):Int)-1)=(n:Int):=by rw[wrap64 (by omega) (by omega)];omega
  rw[Int.natCast_add,Int.natCast_one]at w1
  rw[sb5 c178L0.eq_def,tN]
  by_cases h0:wf a n=0
  ·rw[if_pos h0,←ih]
   have h2:(wf a n).v=0:=r57.2 h0
   simp(disch:=first|omega|fail) only[push_cast,seval,ui5,lu7,y81,bj9,wrap64,dec_lt,cw6,nl3,qc6,mr8,nb8,if_pos,if_neg,w1,h1,h2]
  ·rw[if_neg h0]
   have h2: ¬(wf a n).v=0:=fun e=>h0 (r57.1 e)
   simp(disch:=first|omega|fail) only[push_cast,seval,ui5,lu7,y81,bj9,wrap64,dec_lt,cw6,nl3,qc6,mr8,nb8,if_pos,if_neg,w1,h1,nb8 h2]
theorem nf6(hl:a.length≤1000000):o24 W 178 [.fz b (.sl nl 0 1 (ivs (vs a)))] []=some (.own 0 [],[.sl 0 3 1 (ivs (vs (xa4 a)))],[]):=by
 have hle:=vv2 a a.length
 have e:=fun ks=>g59 (b:=b) (nl:=nl) hl a.length (Nat.le_refl _) ks
 have htk:(vs a).take (tN a a.length)=vs (xa4 a):=ee1 _ _
 have hlt:=tb1 a
 have e1:=fun b nl=>xr6 (b:=b) (nl:=nl) (l:=vs (xa4 a)) (by rw[fi2];omega)
 rw[o10 rfl T178 rfl]
 unfold F178 c178
 simp(disch:=first|omega|fail) only[push_cast,seval,ui5,lu7,y81,bj9,wrap64,dec_lt,cw6,nl3,qc6,mr8,nb8,if_pos,if_neg]
 rw[e]
 simp(disch:=first|omega|fail) only[push_cast,seval,ui5,lu7,y81,bj9,wrap64,dec_lt,cw6,nl3,qc6,mr8,nb8,if_pos,if_neg,htk,e1,Int.sub_zero]
end
section
variable {K:Type} [FK K]
def dpT(b:List K)(top:K):Nat→List K→List K→List K×List K
 |0,Q,R=>(Q,R)
 |n+1,Q,R=>if b.length≤R.length then dpT b top n (Q.set (R.length-b.length) (wf R (R.length-1)*top)) (xa4 (subR (wf R (R.length-1)*top) b (R.length-b.length) b.length 0 R))else(Q,R)
structure DpI (a b Q R:List K):Prop where
 eq: ∀j,wf a j=disc (wf Q) (wf b) j+wf R j
 low:b.length≤R.length→ ∀j,j<R.length-b.length+1→wf Q j=0
 trm:Trm R
theorem DpI.divI{a b Q R:List K}(h:DpI a b Q R)(hl:b.length≤R.length)(hb:0<b.length):DivI a b (R.length-b.length+1) Q R:=
 ⟨h.eq,fun j hj=>e00 (by omega),fun j hj=>h.low hl j hj⟩
theorem DpI.next{a b Q R:List K}(h:DpI a b Q R)(hl:b.length≤R.length)(hb:0<b.length)(hb0:wf b (b.length-1)≠0)(hQ:R.length-b.length<Q.length):
 DpI a b (Q.set (R.length-b.length) (wf R (R.length-1)*FK.inv (wf b (b.length-1)))) (xa4 (subR (wf R (R.length-1)*FK.inv (wf b (b.length-1))) b (R.length-b.length) b.length 0 R))∧
  (xa4 (subR (wf R (R.length-1)*FK.inv (wf b (b.length-1))) b (R.length-b.length) b.length 0 R)).length<R.length:=by
 have hk:R.length-b.length+b.length-1=R.length-1:=by omega
 have s:=DivI.step (Q':=Q.set (R.length-b.length) (wf R (R.length-1)*FK.inv (wf b (b.length-1)))) (R':=subR (wf R (R.length-1)*FK.inv (wf b (b.length-1))) b (R.length-b.length) b.length 0 R) hb hb0 (h.divI hl hb) (by rw[hk]) (fun j=>wf_set hQ j) (fn2 _ b _ R (by omega))
 have hlt:(xa4 (subR (wf R (R.length-1)*FK.inv (wf b (b.length-1))) b (R.length-b.length) b.length 0 R)).length≤R.length-1:=df7 fun k hk=>s.up k (by omega)
 refine⟨⟨fun j=>by rw[vb5];exact s.eq j,fun h2 j hj=>s.low j (by omega),t12 _⟩,by omega⟩
theorem s28{b R:List K}(hl:b.length≤R.length)(hb:0<b.length)(hb0:wf b (b.length-1)≠0):(xa4 (subR (wf R (R.length-1)*FK.inv (wf b (b.length-1))) b (R.length-b.length) b.length 0 R)).length<R.length:=by
 have:(xa4 (subR (wf R (R.length-1)*FK.inv (wf b (b.length-1))) b (R.length-b.length) b.length 0 R)).length≤R.length-1:=df7 fun k hk=>by
  rw[fn2 _ _ _ _ (by omega)]
  unfold shift
  by_cases he:k=R.length-1
  ·subst he
   rw[if_neg (by omega),show R.length-1-(R.length-b.length)=b.length-1 by omega,FK.mul_assoc,inv_mul hb0,FK.mul_one,sub_self]
  ·rw[e00 (l:=R) (k:=k) (by omega),if_neg (by omega),e00 (l:=b) (k:=k-(R.length-b.length)) (by omega),mul_zero,sub_zero]
 omega
theorem cl9{a b:List K}(hb:0<b.length)(hb0:wf b (b.length-1)≠0): ∀(n:Nat) (Q R:List K),R.length≤n→DpI a b Q R→(b.length≤R.length→R.length-b.length<Q.length)→IsDiv a b (xa4 (dpT b (FK.inv (wf b (b.length-1))) n Q R).1) (dpT b (FK.inv (wf b (b.length-1))) n Q R).2:=by
 have fin: ∀Q R:List K,DpI a b Q R→R.length<b.length→IsDiv a b (xa4 Q) R:=fun Q R h hl=>
  ⟨t12 _,h.trm,hl,fun k=>by rw[vb5];exact h.eq k⟩
 intro n
 induction n with
 |zero=>intro Q R hR h _;exact fin Q R h (by omega)
 |succ n IH=>
  intro Q R hR h hQ
  rw[dpT]
  by_cases hl:b.length≤R.length
  ·rw[if_pos hl]
   obtain⟨h1,h2⟩:=h.next hl hb hb0 (hQ hl)
   exact IH _ _ (by omega) h1 fun h3=>by rw[List.length_set];have:=hQ hl;omega
  ·rw[if_neg hl]
   exact fin Q R h (by omega)
theorem gf6(b:List K)(top:K): ∀(n:Nat) (Q R:List K),(dpT b top n Q R).1.length=Q.length∧(dpT b top n Q R).2.length≤R.length
 |0,Q,R=>⟨rfl,Nat.le_refl _⟩
 |n+1,Q,R=>by
  rw[dpT]
  split
  ·have h:=gf6 b top n (Q.set (R.length-b.length) (wf R (R.length-1)*top)) (xa4 (subR (wf R (R.length-1)*top) b (R.length-b.length) b.length 0 R))
   have h2:=tb1 (subR (wf R (R.length-1)*top) b (R.length-b.length) b.length 0 R)
   rw[xs2]at h2
   rw[List.length_set]at h
   exact⟨h.1,by omega⟩
  ·exact⟨rfl,Nat.le_refl _⟩
end
section
variable {q p m g:Int} [IsFld q] {t:Tree} {b b':Bool} {nl nl':Nat} {c:List (El q)} {top:El q}
theorem mf6(u:RFo q p m g t){k:Nat}{v:El q}(hc:c.length≤1000)(hk:k≤1000){nr n2 n8:Nat}{Q8:List Int}: ∀(n i:Nat) (R:List (El q)),i+n=c.length→k+c.length≤R.length→ ∀ks,
 vgoL W ⟨h179,[.tmp 6, .tmp 7],0⟩ [1,2,3,8,9,10,11,12] c179L0 (.blk 2 [1,2,3,8,9]::ks) [(1, .own 0 []),(2, .own 1 []),(3, .own 2 []),(8, .own 3 []),(9, .x (.int .i64 top.v)),(10, .x (.int .i64 k)),(11, .x (.int .i64 v.v)),(12, .x (.int .i64 i))] [.sl nr 3 1 (ivs (vs R)), .sl n2 3 1 (ivs (vs c)), .pt 52 [.v (.int .i64 q), .v (.int .i64 p), .v (.int .i64 m), .v (.int .i64 g), .fz t], .sl n8 3 1 (ivs Q8)]=
  vgo W ⟨h179,[.tmp 6, .tmp 7],0⟩ ks (VFr.of [(1, .own 0 []),(2, .own 1 []),(3, .own 2 []),(8, .own 3 []),(9, .x (.int .i64 top.v))]) [.sl nr 3 1 (ivs (vs (subR v c k n i R))), .sl n2 3 1 (ivs (vs c)), .pt 52 [.v (.int .i64 q), .v (.int .i64 p), .v (.int .i64 m), .v (.int .i64 g), .fz t], .sl n8 3 1 (ivs Q8)]
 |0,i,R,hi,hR,ks=>by
  rw[subR,sb5 c179L0.eq_def]
  simp(disch:=first|omega|fail) only[push_cast,seval,ui5,lu7,y81,bj9,wrap64,dec_lt,cw6,nl3,qc6,mr8,nb8,if_pos,if_neg]
 |n+1,i,R,hi,hR,ks=>by
  have ih:=mf6 u (v:=v) hc hk (nr:=nr) (n2:=n2) (n8:=n8) (Q8:=Q8) n (i+1) (R.set (k+i) (wf R (k+i)-v*wf c i)) (by omega) (by rw[List.length_set];exact hR) ks
  have h1:=iva (l:=c) (i:=i) (by omega)
  have h2:=iva (l:=R) (i:=k+i) (by omega)
  have w1:IntKind.wrap .i64 ((k:Int)+(i:Int))=((k+i:Nat):Int):=by rw[wrap64 (by omega) (by omega)];omega
  have ht:=u.n
  have ho:=u.o
  have vmul:=fun x y:Int=>n06 (q:=q) (x:=x) (y:=y)
  rw[u.e]at vmul
  have vsub:=fun x y:Int=>br1 (q:=q) (x:=x) (y:=y)
  rw[u.e]at vsub
  rw[Int.natCast_add,Int.natCast_one,←g52,bq9,ym6]at ih
  rw[subR,←ih,sb5 c179L0.eq_def]
  generalize hG:k+i=ki at*
  simp(disch:=first|omega|fail) only[push_cast,seval,ui5,lu7,y81,bj9,wrap64,dec_lt,cw6,nl3,qc6,mr8,nb8,if_pos,if_neg,h1,w1,h2,ht,ho,vmul,vsub]
theorem t07(u:RFo q p m g t)(hc:c.length≤900)(hc0:0<c.length)(hcl:wf c (c.length-1)≠0)(htop:top=FK.inv (wf c (c.length-1))){n2 n8:Nat}: ∀(n:Nat) (Q R:List (El q)),R.length≤n→R.length≤900→Q.length≤1000→(c.length≤R.length→R.length-c.length<Q.length)→ ∀ks,
 vgoL W ⟨h179,[.tmp 6, .tmp 7],0⟩ [1,2,3,8,9] c179L1 (.blk 0 [1,8]::ks) [(1, .own 0 []),(2, .own 1 []),(3, .own 2 []),(8, .own 3 []),(9, .x (.int .i64 top.v))] [.sl 0 3 1 (ivs (vs R)), .sl n2 3 1 (ivs (vs c)), .pt 52 [.v (.int .i64 q), .v (.int .i64 p), .v (.int .i64 m), .v (.int .i64 g), .fz t], .sl n8 3 1 (ivs (vs Q))]=
  vgo W ⟨h179,[.tmp 6, .tmp 7],0⟩ ks (VFr.of [(1, .own 0 []),(8, .own 3 [])]) [.sl 0 3 1 (ivs (vs (dpT c top n Q R).2)), .sl n2 3 1 (ivs (vs c)), .pt 52 [.v (.int .i64 q), .v (.int .i64 p), .v (.int .i64 m), .v (.int .i64 g), .fz t], .sl n8 3 1 (ivs (vs (dpT c top n Q R).1))]
 |0,Q,R,h1,h2,h3,h4,ks=>by
  rw[dpT,sb5 c179L1.eq_def]
  simp(disch:=first|omega|fail) only[push_cast,seval,ui5,lu7,y81,bj9,wrap64,dec_lt,cw6,nl3,qc6,mr8,nb8,if_pos,if_neg]
 |n+1,Q,R,h1,h2,h3,h4,ks=>by
  rw[dpT]
  by_cases hl:c.length≤R.length
  ·rw[if_pos hl]
   have hlt:=s28 hl hc0 hcl
   rw[←htop]at hlt
   have ih:=t07 u hc hc0 hcl htop (n2:=n2) (n8:=n8) n (Q.set (R.length-c.length) (wf R (R.length-1)*top)) (xa4 (subR (wf R (R.length-1)*top) c (R.length-c.length) c.length 0 R)) (by omega) (by omega) (by rw[List.length_set];exact h3) (fun h=>by rw[List.length_set];have:=h4 hl;omega) ks
   have hQ:=h4 hl
   have e:=fun n8 Q8 ks=>mf6 (c:=c) (top:=top) u (k:=R.length-c.length) (v:=wf R (R.length-1)*top) (by omega) (by omega) (nr:=0) (n2:=n2) (n8:=n8) (Q8:=Q8) c.length 0 R (by omega) (by omega) ks
   simp only[Int.natCast_zero]at e
   have e2:=fun b nl=>nf6 (b:=b) (nl:=nl) (a:=subR (wf R (R.length-1)*top) c (R.length-c.length) c.length 0 R) (by rw[xs2];omega)
   have hsl:=xs2 (wf R (R.length-1)*top) c (R.length-c.length) c.length 0 R
   have l1:=iva (l:=R) (i:=R.length-1) (by omega)
   have w1:IntKind.wrap .i64 ((R.length:Int)-1)=((R.length-1:Nat):Int):=by rw[wrap64 (by omega) (by omega)];omega
   have w2:IntKind.wrap .i64 ((R.length:Int)-(c.length:Int))=((R.length-c.length:Nat):Int):=by rw[wrap64 (by omega) (by omega)];omega
   have hm:=ym6 (wf R (R.length-1)) top
   have ht:=u.n
   have ho:=u.o
   have vmul:=fun x y:Int=>n06 (q:=q) (x:=x) (y:=y)
   rw[u.e]at vmul
   rw[←g52,hm]at ih
   rw[hm]at e
   rw[←ih,sb5 c179L1.eq_def]
   generalize subR (wf R (R.length-1)*top) c (R.length-c.length) c.length 0 R=S at*
   generalize hG:R.length-1=r1 at*
   generalize hG2:R.length-c.length=kc at*
   simp(disch:=first|omega|fail) only[push_cast,seval,ui5,lu7,y81,bj9,wrap64,dec_lt,cw6,nl3,qc6,mr8,nb8,if_pos,if_neg,l1,w1,w2,ht,ho,vmul]
   rw[e]
   simp(disch:=first|omega|fail) only[push_cast,seval,ui5,lu7,y81,bj9,wrap64,dec_lt,cw6,nl3,qc6,mr8,nb8,if_pos,if_neg,e2]
  ·rw[if_neg hl]
   rw[sb5 c179L1.eq_def]
   simp(disch:=first|omega|fail) only[push_cast,seval,ui5,lu7,y81,bj9,wrap64,dec_lt,cw6,nl3,qc6,mr8,nb8,if_pos,if_neg]
theorem jr0{a0:List (El q)}(hc:Trm c)(hc0:c≠[])(hal:a0.length≤500)(hcl:c.length≤500):
 o24 W 179 [.agg (rFs q), .fz b (.sl nl 0 1 (ivs (vs a0))), .fz b' (.sl nl' 0 1 (ivs (vs c)))] []=some (.tup [.own 0 [], .own 1 []],[.sl 0 3 1 (ivs (vs (quoP (xa4 a0) c))), .sl 0 3 1 (ivs (vs (remP (xa4 a0) c)))],[]):=by
 obtain⟨p,m,g,t,u⟩:=k75 q
 have h0:0<c.length:=List.length_pos_iff.2 hc0
 have hlast:wf c (c.length-1)≠0:=hc (by omega)
 have e1:=fun b nl=>nf6 (b:=b) (nl:=nl) (a:=a0) (by omega)
 have e2:=fun b nl=>nf6 (b:=b) (nl:=nl) (a:=c) (by omega)
 have ha:=t12 a0
 have hal2:=tb1 a0
 generalize xa4 a0=a at*
 simp only[ou7 hc]at e2
 have l1:=iva (l:=c) (i:=c.length-1) (by omega)
 have w1:IntKind.wrap .i64 ((c.length:Int)-1)=((c.length-1:Nat):Int):=by rw[wrap64 (by omega) (by omega)];omega
 have hinv:=rl7 hlast
 have ht:=u.n
 have ho:=u.o
 have vinv:=fun x:Int=>dy2 (q:=q) (x:=x)
 rw[u.e]at vinv
 obtain⟨k,hk⟩: ∃k,k=if c.length≤a.length then a.length-c.length+1 else 0:=⟨_,rfl⟩
 have hI:DpI a c (List.replicate k 0) a:=⟨fun j=>by rw[rb9,tt8,zero_add],fun _ j _=>m13 k j,ha⟩
 have hQ:c.length≤a.length→a.length-c.length<(List.replicate k (0:El q)).length:=fun h=>by rw[List.length_replicate,hk,if_pos h];omega
 obtain⟨d1,d2⟩:=div_eq hc (cl9 h0 hlast a.length (List.replicate k 0) a (Nat.le_refl _) hI hQ)
 have hkl:k≤600:=by rw[hk];split<;>omega
 have e3:=fun n2 n8 ks=>t07 (c:=c) u (by omega) h0 hlast rfl (n2:=n2) (n8:=n8) a.length (List.replicate k 0) a (Nat.le_refl _) (by omega) (by rw[List.length_replicate];omega) hQ ks
 have dl:=gf6 c (FK.inv (wf c (c.length-1))) a.length (List.replicate k 0) a
 rw[List.length_replicate]at dl
 have e4:=fun b nl=>nf6 (b:=b) (nl:=nl) (a:=(dpT c (FK.inv (wf c (c.length-1))) a.length (List.replicate k 0) a).1) (by omega)
 rw[←d1]at e4
 rw[←d2]at e3
 generalize dpT c (FK.inv (wf c (c.length-1))) a.length (List.replicate k 0) a=D at*
 have hz:List.replicate k (0:Int)=vs (List.replicate k (0:El q)):=by rw[←qj2];rfl
 rw[hinv]at e3
 rw[←hz]at e3
 rw[o10 rfl T179 rfl,u.e]
 unfold F179 c179
 by_cases hl:c.length≤a.length
 ·rw[if_pos hl]at hk
  have w3:IntKind.wrap .i64 ((a.length:Int)-(c.length:Int)+1)=((k:Nat):Int):=by rw[wrap64 (by omega) (by omega)];omega
  generalize hG:c.length-1=c1 at*
  simp(disch:=first|omega|fail) only[push_cast,seval,ui5,lu7,y81,bj9,wrap64,dec_lt,cw6,nl3,qc6,mr8,nb8,if_pos,if_neg,e1,e2,w1,l1,w3,ht,ho,vinv]
  rw[e3]
  simp(disch:=first|omega|fail) only[push_cast,seval,ui5,lu7,y81,bj9,wrap64,dec_lt,cw6,nl3,qc6,mr8,nb8,if_pos,if_neg,e4]
 ·rw[if_neg hl]at hk
  subst hk
  generalize hG:c.length-1=c1 at*
  simp only[List.replicate_zero,lz6]at e3
  simp(disch:=first|omega|fail) only[push_cast,seval,ui5,lu7,y81,bj9,wrap64,dec_lt,cw6,nl3,qc6,mr8,nb8,if_pos,if_neg,e1,e2,w1,l1,ht,ho,vinv]
  rw[e3]
  simp(disch:=first|omega|fail) only[push_cast,seval,ui5,lu7,y81,bj9,wrap64,dec_lt,cw6,nl3,qc6,mr8,nb8,if_pos,if_neg,e4]
end
end Go.Proofs.YtlhmdmedagjmnaaGreat
