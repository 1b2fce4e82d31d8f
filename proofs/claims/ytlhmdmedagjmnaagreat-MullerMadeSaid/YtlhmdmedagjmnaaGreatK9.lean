/-
  matrix.Reduce's outer loop, in the second machine. Conditions: a field of the table; rows of one length. (UNDER WAY: does not build yet.) How many words can stand apart, in plain Lean: of more words than others span them some are told by the rest; what rows make 0; rows turned. No condition. matrix.Reduce, Rank called, in the second machine. Conditions: rows that fit. slices.Index, Contains, in th ..
-/
import Derived.Test.YtlhmdmedagjmnaaGreatK8
import Derived.Test.YtlhmdmedagjmnaaGreatK7
set_option linter.unusedVariables false
set_option linter.unusedSimpArgs false
set_option linter.unusedSectionVars false
set_option maxRecDepth 100000
namespace Go.Proofs.YtlhmdmedagjmnaaGreat
open Go.Am Go.Vm Go.Alg
section
variable {q:Int} [IsFld q] {n R:Nat}
theorem x17{M0:List (List (El q))}(hR:M0.length=R)(hR0:0<R)(hR2:R≤1000)(hn2:n≤1000):
 ∀(d c:Nat) (M:List (List (El q))) (P:List Nat),c+d=n→RedI n M0 M P c→ ∃(M':List (List (El q))) (P':List Nat) (c':Nat),RedI n M0 M' P' c'∧(c'=n∨P'.length=M'.length)∧ ∀ks,
  vgoL W ⟨h79,[.tmp 4, .tmp 5, .tmp 6],0⟩ [1,5,8,10] c79L1 (.blk 0 [1,5]::ks) [(1, .own 0 []),(5, .own 1 []),(8, .fz true (pF q)),(10, .own 2 [])] [.sl 0 22 1 (lls 2 (M.map vs)), .sl 1 3 1 (ivs (pn P)), .pt 3 [.v (.int .i64 c)]]=
   vgo W ⟨h79,[.tmp 4, .tmp 5, .tmp 6],0⟩ ks (VFr.of [(1, .own 0 []),(5, .own 1 [])]) [.sl 0 22 1 (lls 2 (M'.map vs)), .sl 1 3 1 (ivs (pn P')), .pt 3 [.v (.int .i64 c')]]
 |0,c,M,P,hd,I=>by
  have hcn:c=n:=by omega
  have hMl:M.length=R:=by rw[I.len,hR]
  have h0:=mla (nl:=2) (M:=M) (i:=0) (gu3 (by omega))
  have h1:=I.len_nth (k:=0) (by omega)
  refine⟨M,P,c,I, .inl hcn,fun ks=> ?_⟩
  rw[sb5 c79L1.eq_def]
  simp(disch:=first|omega|fail) only[push_cast,seval,ui5,lu7,y81,bj9,wrap64,dec_lt,cw6,nl3,qc6,mr8,nb8,if_pos,if_neg,h0,h1]
 |d+1,c,M,P,hd,I=>by
  have hMl:M.length=R:=by rw[I.len,hR]
  have h0:=mla (nl:=2) (M:=M) (i:=0) (gu3 (by omega))
  have h1:=I.len_nth (k:=0) (by omega)
  have hpl:=I.pl
  have hpn:=im5 P
  by_cases hfull:P.length=M.length
  ·refine⟨M,P,c,I, .inr hfull,fun ks=> ?_⟩
   rw[sb5 c79L1.eq_def]
   simp(disch:=first|omega|fail) only[push_cast,seval,ui5,lu7,y81,bj9,wrap64,dec_lt,cw6,nl3,qc6,mr8,nb8,if_pos,if_neg,h0,h1,hpn]
  ·have IH:=x17 hR hR0 hR2 hn2 d (c+1)
   obtain⟨at',hat'⟩: ∃a,a=P.length:=⟨_,rfl⟩
   have hrow: ∀k,k<R→(nth M k).length=n:=fun k hk=>I.len_nth (by omega)
   obtain⟨m,hm⟩: ∃m,m=List.take (R-at') (List.drop at' (List.map vs M)):=⟨_,rfl⟩
   have hmm: ∀{j:Nat} {x:List Int},m[j]? =some x→at'+j<R∧x=vs (nth M (at'+j)):=fun{j x} h=>by
    have hj:=(List.getElem?_eq_some_iff.1 h).1
    rw[hm,List.length_take,List.length_drop,List.length_map]at hj
    rw[hm,List.getElem?_take,if_pos (by omega),List.getElem?_drop,List.getElem?_map,gu3 (by omega)]at h
    exact⟨by omega,(Option.some.inj h).symm⟩
   have hml:m.length=R-at':=by rw[hm,List.length_take,List.length_drop,List.length_map];omega
   have hk: ∀(bl b:Bool) (e:Nat),∀r∈m,o24 W 144 [.fz bl (.sl 2 0 1 (ivs r)), .fz b (.pt e [.v (.int .i64 c)])] []=some (.x (.bool (decide (gi r c≠0))),[],[]):=fun bl b e r hr=>by
    obtain⟨j,hj⟩:=List.getElem?_of_mem hr
    obtain⟨h2,rfl⟩:=hmm hj
    have:=hrow (at'+j) h2
    rw[rb5 (by omega) (by omega),v86];rfl
   have hix:=fun bl nl b e=>aj5 (bl:=bl) (nl:=nl) (nr:=2) (m:=m) (k:=144) (b:=b) (t:= .pt e [.v (.int .i64 c)]) (p:=fun r=>decide (gi r c≠0)) (hk bl b e) rfl (by omega)
   rcases nu4 (fun r=>decide (gi r c≠0)) 0 m with⟨f1,f2⟩|⟨j,x,f1,f2,f3⟩
   ·rw[f1,hm]at hix
    have I':=I.skip (by omega) (fun k h1 h2=>by
     have hmk:vs (nth M k)∈m:=by
      refine List.mem_of_getElem? (i:=k-at') ?_
      rw[hm,List.getElem?_take,if_pos (by omega),List.getElem?_drop,List.getElem?_map,gu3 (by omega),show at'+(k-at')=k by omega];rfl
     have:=f2 _ hmk
     rw[v86]at this
     have h3:(ge (nth M k) c).v=0:=by simpa using this
     exact r57.1 h3)
    obtain⟨M',P',c',r1,r2,r3⟩:=IH M P (by omega) I'
    refine⟨M',P',c',r1,r2,fun ks=> ?_⟩
    have ih:=r3 ks
    rw[Int.natCast_add,Int.natCast_one]at ih
    rw[←hat']at hpn
    have hnn:((M.length:Int)-(at':Int)).toNat=R-at':=by omega
    rw[←ih,sb5 c79L1.eq_def]
    simp(disch:=first|omega|fail) only[push_cast,seval,ui5,lu7,y81,bj9,wrap64,dec_lt,cw6,nl3,qc6,mr8,nb8,if_pos,if_neg,h0,h1,hpn,hnn,hix]
   ·--there is one
    have hj:=(List.getElem?_eq_some_iff.1 f2).1
    obtain⟨hR1,rfl⟩:=hmm f2
    rw[f1,Nat.zero_add,hm]at hix
    obtain⟨i,hi⟩: ∃i,i=at'+j:=⟨_,rfl⟩
    rw[←hi]at f3 hR1
    have hne:wf (nth M i) c≠0:=fun e=>by
     have h3:gi (vs (nth M i)) c≠0:=by simpa using f3
     rw[v86]at h3
     exact h3 (r57.2 e)
    have I':=qt5 I (by omega) (i:=i) (by omega) (by omega) hne
    rw[←hat']at I'
    have hscl:(sclM M at' i c).length=M.length:=np1
    have hsrow:=k39 (c:=c) (M:=M) (fun k hk=>hrow k (by omega)) (at':=at') (i:=i) (by omega) (by omega)
    have hin:=e53 (T5:= .sl 1 3 1 (ivs (pn P))) (M:=sclM M at' i c) (R:=R) (n:=n) (c:=c) (at':=at') (by omega) hR2 hn2 (fun k hk=>hsrow k (by omega)) (by omega) (by omega) R 0 (by omega)
    obtain⟨M',P',c',r1,r2,r3⟩:=IH (clrM (sclM M at' i c) at' c) (P++[c]) (by omega) I'
    refine⟨M',P',c',r1,r2,fun ks=> ?_⟩
    have ih:=r3 ks
    rw[Int.natCast_add,Int.natCast_one]at ih
    rw[←hat']at hpn
    have hia:(at':Int)+(j:Int)=(i:Int):=by omega
    have hnn:((M.length:Int)-(at':Int)).toNat=R-at':=by omega
    have hla:=hrow i (by omega)
    have hlb:=hrow at' (by omega)
    have h2:=mla (nl:=2) (M:=M) (i:=i) (gu3 (by omega))
    have h3:=mla (nl:=2) (M:=M) (i:=at') (gu3 (by omega))
    have hsw:(swpM M at' i).map vs=((M.map vs).set at' (vs (nth M i))).set i (vs (nth M at')):=by unfold swpM;rw[List.map_set,List.map_set]
    have hswl:(swpM M at' i).length=M.length:=p58
    have h4:=mla (nl:=2) (M:=swpM M at' i) (i:=at') (r:=nth M i) (by rw[gu3 (by omega),fj6 (by omega) (by omega)])
    have h5:=iva (l:=nth M i) (i:=c) (by omega)
    have e2:=rl7 hne
    have hsc:=fun b nl=>em7 (b:=b) (nl:=nl) (c:=FK.inv (wf (nth M i) c)) (r:=nth M i) (by omega)
    have hs2:(lls 2 ((swpM M at' i).map vs)).set at' (.sl 2 3 1 (ivs (vs (xf5 (FK.inv (wf (nth M i) c)) (nth M i)))))=lls 2 ((sclM M at' i c).map vs):=by unfold sclM;rw[y81,List.map_set]
    have hL:(lls 2 (M.map vs)).length=R:=by rw[qf0,List.length_map];exact hMl
    simp only[e2]at hsc
    rw[List.take_zero,List.nil_append,List.drop_zero]at hin
    simp only[Int.natCast_zero]at hin
    have hpush:=aw7 P c
    have k3:((lls 2 ((swpM M at' i).map vs)).set at' Tree.junk)[at']? =some Tree.junk:=List.getElem?_set_self (by rw[qf0,List.length_map];omega)
    by_cases hii:i=at'
    ·have k1:((lls 2 (M.map vs)).set at' Tree.junk)[at']? =some Tree.junk:=List.getElem?_set_self (by omega)
     subst hii
     have k2:(lls 2 (M.map vs)).set i (.sl 2 3 1 (ivs (vs (nth M i))))=lls 2 ((swpM M i i).map vs):=by
      rw[y81,hsw,List.set_set]
     rw[←ih,sb5 c79L1.eq_def]
     simp(disch:=first|omega|fail) only[push_cast,seval,ui5,lu7,y81,bj9,wrap64,dec_lt,cw6,nl3,qc6,mr8,nb8,if_pos,if_neg,h0,h1,hpn,hnn,hix,hia,h3,k1,List.set_set,k2,k3,h4,h5,hsc,hs2,hscl]
     rw[hMl,hin]
     simp(disch:=first|omega|fail) only[push_cast,seval,ui5,lu7,y81,bj9,wrap64,dec_lt,cw6,nl3,qc6,mr8,nb8,if_pos,if_neg,hpn,hpush]
    ·have k1:((lls 2 (M.map vs)).set at' Tree.junk)[i]? =some (.sl 2 3 1 (ivs (vs (nth M i)))):=by rw[List.getElem?_set_ne (by omega)];exact h2
     have k2:((((lls 2 (M.map vs)).set at' Tree.junk).set i Tree.junk).set at' (.sl 2 3 1 (ivs (vs (nth M i))))).set i (.sl 2 3 1 (ivs (vs (nth M at'))))=lls 2 ((swpM M at' i).map vs):=by
      rw[hsw,←y81,←y81]
      refine List.ext_getElem? fun k=> ?_
      simp only[List.getElem?_set,List.length_set]
      by_cases c1:i=k<;>by_cases c2:at'=k<;>simp[c1,c2]
     rw[←ih,sb5 c79L1.eq_def]
     simp(disch:=first|omega|fail) only[push_cast,seval,ui5,lu7,y81,bj9,wrap64,dec_lt,cw6,nl3,qc6,mr8,nb8,if_pos,if_neg,h0,h1,hpn,hnn,hix,hia,h2,h3,k1,k2,k3,h4,h5,hsc,hs2,hscl,List.set_set]
     rw[hMl,hin]
     simp(disch:=first|omega|fail) only[push_cast,seval,ui5,lu7,y81,bj9,wrap64,dec_lt,cw6,nl3,qc6,mr8,nb8,if_pos,if_neg,hpn,hpush]
end
end Go.Proofs.YtlhmdmedagjmnaaGreat
namespace Go.Alg
section
variable {K:Type} [FK K]
theorem y46{α β:Type}(f:α×β→K): ∀(l:List α) (l':List β),l.length=l'.length→ ∀l2 l2',sumL ((l++l2).zip (l'++l2')) f=sumL (l.zip l') f+sumL (l2.zip l2') f:=fun l l' h l2 l2'=>by
 rw[List.zip_append h,up0]
theorem uj4{α β γ:Type}(g:β→γ)(f:α×γ→K): ∀(l:List α) (l':List β),sumL (l.zip (l'.map g)) f=sumL (l.zip l') (fun p=>f (p.1,g p.2))
 | [],_=>rfl
 |_::_,[]=>rfl
 |a::l,b::l'=>by rw[List.map_cons,List.zip_cons_cons,List.zip_cons_cons,gb6,gb6,uj4 g f l l']
theorem hom: ∀(r:Nat) (S:List (Nat→K)),r<S.length→ ∃y:List K,y.length=S.length∧(∃a∈y,a≠0)∧ ∀j,j<r→sumL (y.zip S) (fun p=>p.1*p.2 j)=0
 |0,S,h=>by
  refine⟨List.replicate S.length 1,List.length_replicate,⟨1,List.mem_replicate.2 ⟨by omega,rfl⟩,ki7⟩,fun j hj=>absurd hj (Nat.not_lt_zero j)⟩
 |r+1,S,h=>by
  by_cases hs: ∃s∈S,s r≠0
  ·obtain⟨s,hs,hne⟩:=hs
   obtain⟨S1,S2,rfl⟩:=List.append_of_mem hs
   have hl:r<((S1++S2).map (fun(t:Nat→K) j=>t j-t r*FK.inv (s r)*s j)).length:=by
    simp only[List.length_map,List.length_append,List.length_cons]at h⊢;omega
   obtain⟨y,y1,⟨a,y2,y3⟩,y4⟩:=hom r _ hl
   rw[List.length_map,List.length_append]at y1
   have hsp:y=y.take S1.length++y.drop S1.length:=(List.take_append_drop _ _).symm
   have h1:(y.take S1.length).length=S1.length:=by rw[List.length_take];omega
   have h2:(y.drop S1.length).length=S2.length:=by rw[List.length_drop];omega
   generalize y.take S1.length=u at hsp h1
   generalize y.drop S1.length=w at hsp h2
   subst hsp
   have hsum: ∀(c:K) j,sumL ((u++c::w).zip (S1++s::S2)) (fun p=>p.1*p.2 j)=sumL ((u++w).zip (S1++S2)) (fun p=>p.1*p.2 j)+c*s j:=fun c j=>by
    rw[y46 _ _ _ h1,y46 _ _ _ h1,List.zip_cons_cons,gb6,FK.add_assoc,FK.add_comm (sumL (w.zip S2) _)]
   refine⟨u++ -(sumL ((u++w).zip (S1++S2)) (fun p=>p.1*p.2 r)*FK.inv (s r))::w, ?_,⟨a, ?_,y3⟩,fun j hj=> ?_⟩
   ·simp only[List.length_append,List.length_cons,h1,h2]
   ·simp only[List.mem_append,List.mem_cons]at y2⊢
    rcases y2 with y2|y2
    ·exact .inl y2
    ·exact .inr (.inr y2)
   ·rw[hsum]
    by_cases hjr:j=r
    ·subst hjr
     rw[neg_mul,FK.mul_assoc,inv_mul hne,FK.mul_one,FK.add_neg]
    ·have h3:=y4 j (by omega)
     rw[uj4]at h3
     have h4:sumL ((u++w).zip (S1++S2)) (fun p=>p.1*(p.2 j-p.2 r*FK.inv (s r)*s j))=sumL ((u++w).zip (S1++S2)) (fun p=>p.1*p.2 j)-sumL ((u++w).zip (S1++S2)) (fun p=>p.1*p.2 r)*FK.inv (s r)*s j:=by
      rw[←ue3,←ue3,←b17]
      refine ox7 fun p _=> ?_
      rw[mul_sub,←FK.mul_assoc,←FK.mul_assoc]
     have h3:sumL ((u++w).zip (S1++S2)) (fun p=>p.1*(p.2 j-p.2 r*FK.inv (s r)*s j))=0:=h3
     rw[h4]at h3
     rw[neg_mul,←sub_eq,h3]
  ·obtain⟨y,y1,y2,y3⟩:=hom r S (by omega)
   refine⟨y,y1,y2,fun j hj=> ?_⟩
   by_cases hjr:j=r
   ·subst hjr
    refine tx7 fun p hp=> ?_
    have:p.2 j=0:=Classical.byContradiction fun hne=>hs ⟨p.2,(List.of_mem_zip hp).2,hne⟩
    rw[this,mul_zero]
   ·exact y3 j (by omega)
def wu9(S:List (Nat→K)):Prop:= ∀y:List K,y.length=S.length→(∀k,sumL (y.zip S) (fun p=>p.1*p.2 k)=0)→ ∀a∈y,a=0
theorem tw1{R:List (Nat→K)}{w:Nat→K}(h:Span R w): ∃c:Nat→K,w=fun k=>sumN R.length fun j=>c j*(R.getD j fun _=>0) k:=by
 refine h.lin (P:=fun w=> ∃c:Nat→K,w=fun k=>sumN R.length fun j=>c j*(R.getD j fun _=>0) k) ?_ ?_ ?_
 ·exact⟨fun _=>0,by funext k;exact(ja4 fun j _=>zero_mul _).symm⟩
 ·rintro _ _ c ⟨c1,rfl⟩ ⟨c2,rfl⟩
  refine⟨fun j=>c1 j+c*c2 j, ?_⟩
  funext k
  show sumN _ _+c*sumN _ _=_
  unfold sumN
  rw[←ro9,←jl9]
  refine ox7 fun j _=> ?_
  rw[add_mul,FK.mul_assoc]
 ·intro r hr
  obtain⟨i,hi,rfl⟩:=List.getElem_of_mem hr
  refine⟨fun j=>if j=i then 1 else 0, ?_⟩
  funext k
  rw[xq2 hi fun j hj hne=>by show(if j=i then(1:K)else 0)*_=0;rw[if_neg hne,zero_mul]]
  show _=(if i=i then(1:K)else 0)*_
  rw[if_pos rfl,one_mul,List.getD_eq_getElem?_getD,List.getElem?_eq_getElem hi];rfl
theorem c86{R S:List (Nat→K)}(hS: ∀s∈S,Span R s)(hi:wu9 S):S.length≤R.length:=by
 refine Classical.byContradiction fun hlt=> ?_
 have hc: ∀s:{s//s∈S},∃c:Nat→K,s.1=fun k=>sumN R.length fun j=>c j*(R.getD j fun _=>0) k:=fun s=>tw1 (hS s.1 s.2)
 obtain⟨C,hC⟩:=Classical.axiomOfChoice hc
 obtain⟨y,y1,⟨a,y2,y3⟩,y4⟩:=hom R.length (S.attach.map C) (by rw[List.length_map,List.length_attach];omega)
 rw[List.length_map,List.length_attach]at y1
 refine y3 (hi y y1 (fun k=> ?_) a y2)
 have h1:sumL (y.zip S) (fun p=>p.1*p.2 k)=sumL (y.zip S.attach) (fun p=>p.1*p.2.1 k):=by
  have h0:S=S.attach.map Subtype.val:=(List.attach_map_subtype_val S).symm
  conv=>lhs;rw[h0]
  rw[uj4]
 rw[h1]
 have h2: ∀p∈y.zip S.attach,p.1*p.2.1 k=sumN R.length fun j=>p.1*(C p.2 j*(R.getD j fun _=>0) k):=fun p _=>by
  have:=congrFun (hC p.2) k
  rw[this]
  unfold sumN
  rw[ro9]
 rw[ox7 h2]
 unfold sumN
 rw[j53]
 refine tx7 fun j hj=> ?_
 have h3:=y4 j (List.mem_range.1 hj)
 rw[uj4]at h3
 have h4:sumL (y.zip S.attach) (fun p=>p.1*(C p.2 j*(R.getD j fun _=>0) k))=sumL (y.zip S.attach) (fun p=>p.1*C p.2 j)*(R.getD j fun _=>0) k:=by
  rw[←ue3]
  exact ox7 fun p _=>(FK.mul_assoc _ _ _).symm
 have h3:sumL (y.zip S.attach) (fun p=>p.1*C p.2 j)=0:=h3
 rw[h4,h3,zero_mul]
theorem nu5{α β:Type}(f:α×β→K)(da:α)(db:β): ∀(l:List α) (l':List β),l.length=l'.length→sumL (l.zip l') f=sumN l.length fun i=>f (l.getD i da,l'.getD i db)
 | [],_,_=>rfl
 |a::l,b::l',h=>by
  rw[List.zip_cons_cons,gb6,List.length_cons,c76,nu5 f da db l l' (by simpa using h)];rfl
theorem wx6{S:List (Nat→K)}(P:Nat→Nat)(h: ∀i j,i<S.length→j<S.length→(S.getD i fun _=>0) (P j)=if i=j then 1 else 0):wu9 S:=by
 intro y hy h0 a ha
 obtain⟨j,hj,rfl⟩:=List.getElem_of_mem ha
 have h1:=h0 (P j)
 rw[nu5 _ 0 (fun _=>0) y S hy,xq2 hj (fun i hi hne=>by show y.getD i 0*(S.getD i fun _=>0) (P j)=0;rw[h i j (by omega) (by omega),if_neg hne,mul_zero])]at h1
 have h1:y.getD j 0*(S.getD j fun _=>0) (P j)=0:=h1
 rw[h j j (by omega) (by omega),if_pos rfl,FK.mul_one,List.getD_eq_getElem?_getD,List.getElem?_eq_getElem hj]at h1
 exact h1
theorem Rref.indep{n:Nat}{A:List (Nat×(Nat→K))}(h:Rref n A):wu9 (rowsOf A):=by
 have hl:(rowsOf A).length=A.length:=by unfold rowsOf;rw[List.length_map]
 refine wx6 (fun j=>(A.getD j (0,fun _=>0)).1) fun i j hi hj=> ?_
 rw[hl]at hi hj
 have h1:(rowsOf A).getD i (fun _=>0)=A[i].2:=by unfold rowsOf;rw[List.getD_eq_getElem?_getD,List.getElem?_map,List.getElem?_eq_getElem hi];rfl
 have h2:A.getD j (0,fun _=>0)=A[j]:=by rw[List.getD_eq_getElem?_getD,List.getElem?_eq_getElem hj];rfl
 rw[h1,h2]
 by_cases he:i=j
 ·subst he;rw[if_pos rfl];exact h.one _ (List.getElem_mem hi)
 ·rw[if_neg he]
  refine h.zero _ (List.getElem_mem hi) _ (List.getElem_mem hj) fun e=> ?_
  have:=List.pairwise_iff_getElem.1 h.nodup
  rcases Nat.lt_or_gt_of_ne he with hlt|hlt
  ·exact this i j hi hj hlt e
  ·exact this j i hj hi hlt e.symm
theorem Rref.le{n:Nat}{A:List (Nat×(Nat→K))}(h:Rref n A){R:List (Nat→K)}(hs: ∀w,Span (rowsOf A) w→Span R w):A.length≤R.length:=by
 have:=c86 (S:=rowsOf A) (R:=R) (fun s hs'=>hs s (.mem hs')) h.indep
 unfold rowsOf at this
 rwa [List.length_map]at this
end
section
variable {K:Type} [FK K] {n:Nat}
section
variable {A:List (Nat×List K)} (hr:Rref n (toF A))
include hr
end
theorem ew4{M:List (List K)}(hM: ∀m∈M,m.length=n):(redR M).length≤M.length:=by
 obtain⟨r1,r2,r3⟩:=bi2 hM
 have:=r1.le fun w hw=>(r3 w).1 hw
 unfold toF at this
 simpa using this
end
end Go.Alg
namespace Go.Proofs.YtlhmdmedagjmnaaGreat
open Go.Am Go.Vm Go.Alg
section
variable {q:Int} {b:Bool} {nl nr:Nat}
theorem e58(he:matE q []=0):o24 W 79 [.x (.int .i64 q), .fz b (.sl nl 0 1 [])] []=some (.tup [.x (.slice none 0 0), .own 0 [], .x (.int .i64 0)],[.sl 1 3 1 []],[]):=by
 have e1:=fun b nl=>or9 (q:=q) (M:=[]) (b:=b) (nl:=nl) (nr:=0)
 simp only[em1,he]at e1
 rw[o10 rfl T79 rfl]
 unfold F79 c79
 simp(disch:=first|omega|fail) only[push_cast,seval,ui5,lu7,y81,bj9,wrap64,dec_lt,cw6,nl3,qc6,mr8,nb8,if_pos,if_neg,e1]
theorem ru4 [IsFld q]{N:List (List (El q))}{n:Nat}(hr: ∀r∈N,r.length=n): ∀r∈N.map vs,r.length=n:=fun c hc=>by
 obtain⟨r,hr',rfl⟩:=List.mem_map.1 hc
 rw[fi2,hr r hr']
theorem sy6 [IsFld q]{N:List (List (El q))}{n:Nat}(hl:N.length≤64)(hr: ∀r∈N,r.length=n)(h0:0<n)(hn:n≤64):matE q (N.map vs)=0:=by
 obtain⟨d,hd⟩:=gh1 (q:=q)
 unfold matE
 rw[hd]
 show(if 64<(N.map vs).length then 4 else _)=(0:Int)
 rw[if_neg (by rw[List.length_map];omega),kn4]
 have: ∀L:List (List (El q)),(∀r∈L,r∈N)→wb9 q (nth N 0).length (L.map vs)=0:=by
  intro L
  induction L with
  |nil=>intro _;rfl
  |cons r L ih=>
   intro h
   have h1:r∈N:=h r (by simp)
   have h2:(nth N 0).length=n:=by
    cases N with
    |nil=>cases h1
    |cons a N=>exact hr a (by simp)
   rw[List.map_cons,wb9,if_pos,ih fun x hx=>h x (by simp[hx])]
   unfold rowE
   rw[fi2,hr r h1,h2,if_neg (by omega),if_neg (by omega),if_neg]
   intro h3
   obtain⟨z,hz,h4⟩:=List.any_eq_true.1 h3
   obtain⟨x,hx,rfl⟩:=List.mem_map.1 hz
   rw[x.ok]at h4
   cases h4
 exact this N fun r h=>h
theorem lq3 [IsFld q]{N:List (List (El q))}{n:Nat}(h0:0<N.length)(hl:N.length≤64)(hr: ∀r∈N,r.length=n)(hn0:0<n)(hn:n≤64):
 o24 W 79 [.x (.int .i64 q), .fz b (.sl nl 0 1 (lvs nr (N.map vs)))] []=some (.tup [.own 0 [], .own 1 [], .x (.int .i64 0)],[.sl 0 22 1 (lls 2 (pvR (redR N))), .sl 1 3 1 (ivs (pvP (redR N)))],[]):=by
 have he:=sy6 hl hr hn0 hn
 have hrv:=ru4 hr
 have e1:=fun b nl nr=>or9 (q:=q) (M:=N.map vs) (b:=b) (nl:=nl) (nr:=nr)
 simp only[he]at e1
 have e2:=fun b nl nr=>y80 (b:=b) (nl:=nl) (nr:=nr) (M:=N.map vs) (fun r hr'=>by have:=hrv r hr';omega) (by rw[List.length_map];omega)
 obtain⟨M',P',c',I,hd,e3⟩:=x17 (M0:=N) (n:=n) (R:=N.length) rfl h0 (by omega) (by omega) n 0 N [] (by omega) (RedI.start hr)
 have hout:=I.end' hd hr
 have hpl:=I.pl
 have hfst:=t15 hpl
 have hsnd:=hn3 hpl
 rw[hout]at hfst hsnd
 have hP:pn P'=pvP (redR N):=by rw[←hfst];unfold pn pvP;rw[List.map_map];rfl
 have hPl:P'.length=(redR N).length:=by rw[←hfst,List.length_map]
 have hR:(M'.map vs).take (redR N).length=pvR (redR N):=by
  rw[←hPl,←List.map_take,←hsnd];unfold pvR;rw[List.map_map];rfl
 have hMl:M'.length=N.length:=I.len
 rw[hP]at e3
 have hpl2:=ga8 (redR N)
 have hnil:ivs (pn [])=[]:=rfl
 rw[hnil]at e3
 simp only[Int.natCast_zero]at e3
 have htk:(lls 2 (M'.map vs)).take (redR N).length=lls 2 (pvR (redR N)):=by rw[mm0,hR]
 rw[o10 rfl T79 rfl]
 unfold F79 c79
 simp(disch:=first|omega|fail) only[push_cast,seval,ui5,lu7,y81,bj9,wrap64,dec_lt,cw6,nl3,qc6,mr8,nb8,if_pos,if_neg,e1,e2]
 rw[e3]
 simp(disch:=first|omega|fail) only[push_cast,seval,ui5,lu7,y81,bj9,wrap64,dec_lt,cw6,nl3,qc6,mr8,nb8,if_pos,if_neg,hpl2,htk]
end
end Go.Proofs.YtlhmdmedagjmnaaGreat
namespace Go.Proofs.YtlhmdmedagjmnaaGreat
open Go.Am Go.Vm Go.Alg
section
variable {l:List Int} {nl:Nat} {b:Bool} {x:Int}
end
end Go.Proofs.YtlhmdmedagjmnaaGreat
namespace Go.Proofs.YtlhmdmedagjmnaaGreat
open Go.Am Go.Vm Go.Alg
section
variable {q:Int} {b:Bool} {nl nr n6 n7:Nat}
section
variable [IsFld q] {A:List (Nat×List (El q))} {N:Nat} {K:List (List Int)}
end
end
end Go.Proofs.YtlhmdmedagjmnaaGreat
namespace Go.Alg
section
variable {K:Type} [FK K] {n:Nat}
def p78(A:List (Nat×List K)):List (List K):=A.map Prod.snd
theorem zu4{A:List (Nat×List K)}(h: ∀a∈A,a.2.length=n): ∀r∈p78 A,r.length=n:=fun r hr=>by
 obtain⟨a,ha,rfl⟩:=List.mem_map.1 hr
 exact h a ha
end
end Go.Alg
namespace Go.Proofs.YtlhmdmedagjmnaaGreat
open Go.Am Go.Vm Go.Alg
theorem lo1{q:Int}(A:List (Nat×List (El q))):pvR A=(p78 A).map vs:=by unfold pvR p78;rw[List.map_map];rfl
section
variable {q n:Int} {nl nr:Nat} {M:List (List Int)}
end
section
variable {q:Int} [IsFld q] {k nl nr:Nat} {N:List (List (El q))}
theorem z60{q n:Int}{M:List (List Int)}(h:gi9 q n M=0):matE q M=0:=by
 unfold gi9 at h
 split at h
 ·cases h
 ·split at h
  ·cases h
  ·split at h
   ·rename_i h2;exact h2
   ·rename_i h2;exact absurd h h2
theorem ob1(he:gi9 q k (N.map vs)=0)(h0:0<k)(hk:k≤64)(hl:N.length≤64)(hr: ∀r∈N,r.length=k):
 o24 W 23 [.agg [.x (.int .i64 q), .x (.int .i64 k), .fz true (.sl nl 0 1 (lvs nr (N.map vs)))]] []=some (.tup [.agg [.x (.int .i64 q), .x (.int .i64 k), .own 0 []], .x (.int .i64 0)],[.sl 2 22 1 (lls 2 (pvR (redR N)))],[]):=by
 have e1:=fun nl nr=>um1 (q:=q) (n:=k) (M:=N.map vs) (nl:=nl) (nr:=nr)
 simp only[he]at e1
 by_cases hN:N=[]
 ·subst hN
  have e1:=fun nl=>e1 nl 0
  have e2:=fun b nl=>e58 (b:=b) (nl:=nl) (z60 he)
  simp only[List.map_nil,em1]at e1
  rw[List.map_nil,em1,o10 rfl T23 rfl]
  unfold F23 c23
  simp(disch:=first|omega|fail) only[push_cast,seval,ui5,lu7,y81,bj9,wrap64,dec_lt,cw6,nl3,qc6,mr8,nb8,if_pos,if_neg,e1,e2]
  rfl
 ·have e2:=fun b nl nr=>lq3 (b:=b) (nl:=nl) (nr:=nr) (List.length_pos_iff.2 hN) hl hr h0 hk
  rw[o10 rfl T23 rfl]
  unfold F23 c23
  simp(disch:=first|omega|fail) only[push_cast,seval,ui5,lu7,y81,bj9,wrap64,dec_lt,cw6,nl3,qc6,mr8,nb8,if_pos,if_neg,e1,e2]
theorem vd8(hl:N.length≤500)(hr: ∀r∈N,r.length=k)(hk:k≤900){n:Int}:
 o24 W 21 [.agg [.x (.int .i64 q), .x (.int .i64 n), .fz true (.sl nl 0 1 (lvs nr (N.map vs)))]] []=some (.agg [.x (.int .i64 q), .x (.int .i64 n), .own 0 []],[.sl 2 22 1 (lls 2 (pvR (redR N)))],[]):=by
 obtain⟨p,m,g,t,u⟩:=k75 q
 have ht:=u.n
 have ho:=u.o
 have hfe:=u.e
 have e1:=fun b nl nr=>di6 (q:=q) (b:=b) (nl:=nl) (nr:=nr) hr hl (by omega)
 rw[hfe]at e1
 rw[o10 rfl T21 rfl]
 unfold F21 c21
 simp(disch:=first|omega|fail) only[push_cast,seval,ui5,lu7,y81,bj9,wrap64,dec_lt,cw6,nl3,qc6,mr8,nb8,if_pos,if_neg,hfe,ht,ho,e1]
end
end Go.Proofs.YtlhmdmedagjmnaaGreat
namespace Go.Proofs.YtlhmdmedagjmnaaGreat
open Go.Am Go.Vm Go.Alg
section
variable {b b':Bool} {nl nl' nr nr':Nat}
theorem ft0{l k:List Int}(hl:l.length≤9223372036854775807)(hk:k.length=l.length): ∀(d i:Nat),i+d=l.length→ ∀ks,
 vgoL W ⟨hNo,[.tmp 4],0⟩ [0,1,5] c16L0 (.blk 0 []::ks) [(0, .fz b (.sl nl 0 1 (ivs l))),(1, .fz b' (.sl nl' 0 1 (ivs k))),(5, .x (.int .i64 i))] []=
  if l.drop i=k.drop i then vgo W ⟨hNo,[.tmp 4],0⟩ ks (VFr.of []) []else some (.x (.bool false),[],[])
 |0,i,hi,ks=>by
  rw[oh9 (by omega),oh9 (by omega),if_pos rfl,sb5 c16L0.eq_def]
  simp(disch:=first|omega|fail) only[push_cast,seval,ui5,lu7,y81,bj9,wrap64,dec_lt,cw6,nl3,qc6,mr8,nb8,if_pos,if_neg]
 |d+1,i,hi,ks=>by
  have ih:=ft0 hl hk d (i+1) (by omega) ks
  obtain⟨a,ha⟩:=ge6 (l:=l) (i:=i) (by omega)
  obtain⟨c,hc⟩:=ge6 (l:=k) (i:=i) (by omega)
  have h1:=iat ha
  have h2:=iat hc
  rw[i62 ha,i62 hc]
  rw[Int.natCast_add,Int.natCast_one]at ih
  by_cases h:a=c
  ·have hiff:(a::l.drop (i+1)=c::k.drop (i+1))=(l.drop (i+1)=k.drop (i+1)):=by rw[h];simp
   simp only[hiff]
   rw[←ih,sb5 c16L0.eq_def]
   simp(disch:=first|omega|fail) only[push_cast,seval,ui5,lu7,y81,bj9,wrap64,dec_lt,cw6,nl3,qc6,mr8,nb8,if_pos,if_neg,h1,h2,h]
  ·rw[if_neg (by intro e;exact h (List.cons.inj e).1),sb5 c16L0.eq_def]
   simp(disch:=first|omega|fail) only[push_cast,seval,ui5,lu7,y81,bj9,wrap64,dec_lt,cw6,nl3,qc6,mr8,nb8,if_pos,if_neg,h1,h2,nb8 h]
theorem nb2{l k:List Int}(hl:l.length≤9223372036854775807):o24 W 16 [.fz b (.sl nl 0 1 (ivs l)), .fz b' (.sl nl' 0 1 (ivs k))] []=some (.x (.bool (decide (l=k))),[],[]):=by
 by_cases hk:k.length=l.length
 ·have e:=fun ks=>ft0 (b:=b) (b':=b') (nl:=nl) (nl':=nl') hl hk l.length 0 (by omega) ks
  simp only[Int.natCast_zero,List.take_zero,List.drop_zero,rp2,lz6,x25,List.map_nil,List.length_nil]at e
  rw[o10 rfl T16 rfl]
  unfold F16 c16
  simp(disch:=first|omega|fail) only[push_cast,seval,ui5,lu7,y81,bj9,wrap64,dec_lt,cw6,nl3,qc6,mr8,nb8,if_pos,if_neg,hk]
  rw[e]
  by_cases h:l=k
  ·rw[if_pos h,decide_eq_true h]
   simp(disch:=first|omega|fail) only[push_cast,seval,ui5,lu7,y81,bj9,wrap64,dec_lt,cw6,nl3,qc6,mr8,nb8,if_pos,if_neg]
  ·rw[if_neg h,decide_eq_false h]
 ·have h: ¬l=k:=fun e=>hk (by rw[e])
  have h8: ¬(l.length:Int)=(k.length:Int):=by omega
  rw[decide_eq_false h,o10 rfl T16 rfl]
  unfold F16 c16
  simp(disch:=first|omega|fail) only[push_cast,seval,ui5,lu7,y81,bj9,wrap64,dec_lt,cw6,nl3,qc6,mr8,nb8,if_pos,if_neg,nb8 h8]
theorem h41{l k:List (List Int)}(hl:l.length≤9223372036854775807)(he: ∀r∈l,r.length≤9223372036854775807)(hk:k.length=l.length)(hx:116=116): ∀(d i:Nat),i+d=l.length→ ∀ks,
 vgoL W ⟨hNo,[.tmp 4],0⟩ [0,1,5] c116L0 (.blk 0 []::ks) [(0, .fz b (.sl nl 0 1 (lvs nr l))),(1, .fz b' (.sl nl' 0 1 (lvs nr' k))),(5, .x (.int .i64 i))] []=
  if l.drop i=k.drop i then vgo W ⟨hNo,[.tmp 4],0⟩ ks (VFr.of []) []else some (.x (.bool false),[],[])
 |0,i,hi,ks=>by
  rw[oh9 (by omega),oh9 (by omega),if_pos rfl,sb5 c116L0.eq_def]
  simp(disch:=first|omega|fail) only[push_cast,seval,ui5,lu7,y81,bj9,wrap64,dec_lt,cw6,nl3,qc6,mr8,nb8,if_pos,if_neg]
 |d+1,i,hi,ks=>by
  have ih:=h41 hl he hk hx d (i+1) (by omega) ks
  obtain⟨a,ha⟩:=ge6 (l:=l) (i:=i) (by omega)
  obtain⟨c,hc⟩:=ge6 (l:=k) (i:=i) (by omega)
  have h1:=lat (nl:=nr) ha
  have h2:=lat (nl:=nr') hc
  have e:=fun b b' nl nl'=>nb2 (b:=b) (b':=b') (nl:=nl) (nl':=nl') (l:=a) (k:=c) (he a (List.mem_of_getElem? ha))
  rw[i62 ha,i62 hc]
  rw[Int.natCast_add,Int.natCast_one]at ih
  by_cases h:a=c
  ·have hiff:(a::l.drop (i+1)=c::k.drop (i+1))=(l.drop (i+1)=k.drop (i+1)):=by rw[h];simp
   simp only[decide_eq_true h]at e
   simp only[hiff]
   rw[←ih,sb5 c116L0.eq_def]
   simp(disch:=first|omega|fail) only[push_cast,seval,ui5,lu7,y81,bj9,wrap64,dec_lt,cw6,nl3,qc6,mr8,nb8,if_pos,if_neg,h1,h2,e]
  ·simp only[decide_eq_false h]at e
   rw[if_neg (by intro e;exact h (List.cons.inj e).1),sb5 c116L0.eq_def]
   simp(disch:=first|omega|fail) only[push_cast,seval,ui5,lu7,y81,bj9,wrap64,dec_lt,cw6,nl3,qc6,mr8,nb8,if_pos,if_neg,h1,h2,e]
theorem us3{l k:List (List Int)}(hl:l.length≤9223372036854775807)(he: ∀r∈l,r.length≤9223372036854775807):o24 W 116 [.fz b (.sl nl 0 1 (lvs nr l)), .fz b' (.sl nl' 0 1 (lvs nr' k))] []=some (.x (.bool (decide (l=k))),[],[]):=by
 by_cases hk:k.length=l.length
 ·have e:=fun ks=>h41 (b:=b) (b':=b') (nl:=nl) (nl':=nl') (nr:=nr) (nr':=nr') hl he hk rfl l.length 0 (by omega) ks
  simp only[Int.natCast_zero,List.take_zero,List.drop_zero,rp2,lz6,x25,List.map_nil,List.length_nil]at e
  rw[o10 rfl T116 rfl]
  unfold F116 c116
  simp(disch:=first|omega|fail) only[push_cast,seval,ui5,lu7,y81,bj9,wrap64,dec_lt,cw6,nl3,qc6,mr8,nb8,if_pos,if_neg,hk]
  rw[e]
  by_cases h:l=k
  ·rw[if_pos h,decide_eq_true h]
   simp(disch:=first|omega|fail) only[push_cast,seval,ui5,lu7,y81,bj9,wrap64,dec_lt,cw6,nl3,qc6,mr8,nb8,if_pos,if_neg]
  ·rw[if_neg h,decide_eq_false h]
 ·have h: ¬l=k:=fun e=>hk (by rw[e])
  have h8: ¬(l.length:Int)=(k.length:Int):=by omega
  rw[decide_eq_false h,o10 rfl T116 rfl]
  unfold F116 c116
  simp(disch:=first|omega|fail) only[push_cast,seval,ui5,lu7,y81,bj9,wrap64,dec_lt,cw6,nl3,qc6,mr8,nb8,if_pos,if_neg,nb8 h8]
theorem ea2{l k:List Int}{e f:Int}(hl:l.length≤9223372036854775807):o24 W 41 [.fz b (.sl nl 0 1 (ivs l)), .x (.int .i64 e), .fz b' (.sl nl' 0 1 (ivs k)), .x (.int .i64 f)] []=some (.x (.bool (if f=0 then decide (e=0)&&decide (l=k)else decide (e=f)&&decide (l.length=0))),[],[]):=by
 have h1:=fun b b' nl nl'=>nb2 (b:=b) (b':=b') (nl:=nl) (nl':=nl') (k:=k) hl
 by_cases hf:f=0
 ·rw[if_pos hf]
  by_cases h0:e=0
  ·rw[decide_eq_true h0,Bool.true_and,o10 rfl T41 rfl]
   unfold F41 c41
   simp(disch:=first|omega|fail) only[push_cast,seval,ui5,lu7,y81,bj9,wrap64,dec_lt,cw6,nl3,qc6,mr8,nb8,if_pos,if_neg,hf,h0,h1]
  ·rw[decide_eq_false h0,Bool.false_and,o10 rfl T41 rfl]
   unfold F41 c41
   simp(disch:=first|omega|fail) only[push_cast,seval,ui5,lu7,y81,bj9,wrap64,dec_lt,cw6,nl3,qc6,mr8,nb8,if_pos,if_neg,hf,nb8 h0]
 ·rw[if_neg hf]
  by_cases h0:e=f
  ·subst h0
   rw[decide_eq_true rfl,Bool.true_and,o10 rfl T41 rfl]
   unfold F41 c41
   by_cases hz:l.length=0
   ·rw[decide_eq_true hz]
    simp(disch:=first|omega|fail) only[push_cast,seval,ui5,lu7,y81,bj9,wrap64,dec_lt,cw6,nl3,qc6,mr8,nb8,if_pos,if_neg,nb8 hf,hz]
   ·rw[decide_eq_false hz]
    simp(disch:=first|omega|fail) only[push_cast,seval,ui5,lu7,y81,bj9,wrap64,dec_lt,cw6,nl3,qc6,mr8,nb8,if_pos,if_neg,nb8 hf]
  ·rw[decide_eq_false h0,Bool.false_and,o10 rfl T41 rfl]
   unfold F41 c41
   simp(disch:=first|omega|fail) only[push_cast,seval,ui5,lu7,y81,bj9,wrap64,dec_lt,cw6,nl3,qc6,mr8,nb8,if_pos,if_neg,nb8 hf,nb8 h0]
section
variable {q:Int} [IsFld q]
end
end
end Go.Proofs.YtlhmdmedagjmnaaGreat
namespace Go.Proofs.YtlhmdmedagjmnaaGreat
open Go.Am Go.Vm Go.Alg
section
variable {q n q' n' e:Int} {nl nr nl' nr':Nat} {M M':List (List Int)}
theorem uh6(hl:M.length≤9223372036854775807)(hr: ∀r∈M,r.length≤9223372036854775807):
 o24 W 83 [.agg [.x (.int .i64 q), .x (.int .i64 n), .fz true (.sl nl 0 1 (lvs nr M))], .agg [.x (.int .i64 q'), .x (.int .i64 n'), .fz true (.sl nl' 0 1 (lvs nr' M'))]] []=some (.x (.bool (decide (q=q')&&(decide (n=n')&&decide (M=M')))),[],[]):=by
 have e1:=fun b b' nl nl' nr nr'=>us3 (b:=b) (b':=b') (nl:=nl) (nl':=nl') (nr:=nr) (nr':=nr') (l:=M) (k:=M') hl hr
 rw[o10 rfl T83 rfl]
 unfold F83 c83
 by_cases h1:q=q'
 ·by_cases h2:n=n'
  ·rw[decide_eq_true h1,decide_eq_true h2,Bool.true_and,Bool.true_and]
   simp(disch:=first|omega|fail) only[push_cast,seval,ui5,lu7,y81,bj9,wrap64,dec_lt,cw6,nl3,qc6,mr8,nb8,if_pos,if_neg,mr8 h1,mr8 h2,e1]
  ·rw[decide_eq_true h1,decide_eq_false h2,Bool.true_and,Bool.false_and]
   simp(disch:=first|omega|fail) only[push_cast,seval,ui5,lu7,y81,bj9,wrap64,dec_lt,cw6,nl3,qc6,mr8,nb8,if_pos,if_neg,mr8 h1,nb8 h2]
 ·rw[decide_eq_false h1,Bool.false_and]
  simp(disch:=first|omega|fail) only[push_cast,seval,ui5,lu7,y81,bj9,wrap64,dec_lt,cw6,nl3,qc6,mr8,nb8,if_pos,if_neg,nb8 h1]
theorem l61:o24 W 83 [.agg [.x (.int .i64 0), .x (.int .i64 0), .fz true (.sl 1 0 1 [])], .agg [.x (.int .i64 0), .x (.int .i64 0), .fz true (.sl 1 0 1 [])]] []=some (.x (.bool true),[],[]):=by
 have e1:=uh6 (q:=0) (n:=0) (q':=0) (n':=0) (nl:=1) (nr:=0) (nl':=1) (nr':=0) (M:=[]) (M':=[]) (by simp) (by simp)
 simpa only[em1,decide_true,Bool.and_true]using e1
theorem v05(he:e≠0):o24 W 26 [.agg [.x (.int .i64 0), .x (.int .i64 0), .fz true (.sl 1 0 1 [])], .x (.int .i64 e), .agg [.x (.int .i64 0), .x (.int .i64 0), .fz true (.sl 1 0 1 [])], .x (.int .i64 e)] []=some (.x (.bool true),[],[]):=by
 have e1:=l61
 rw[o10 rfl T26 rfl]
 unfold F26 c26
 simp(disch:=first|omega|fail) only[push_cast,seval,ui5,lu7,y81,bj9,wrap64,dec_lt,cw6,nl3,qc6,mr8,nb8,if_pos,if_neg,e1,nb8 he]
theorem p72(hl:M.length≤9223372036854775807)(hr: ∀r∈M,r.length≤9223372036854775807):o24 W 26 [.agg [.x (.int .i64 q), .x (.int .i64 n), .fz true (.sl nl 0 1 (lvs nr M))], .x (.int .i64 0), .agg [.x (.int .i64 q), .x (.int .i64 n), .fz true (.sl nl' 0 1 (lvs nr' M))], .x (.int .i64 0)] []=some (.x (.bool true),[],[]):=by
 have e1:=fun nl nr nl' nr'=>uh6 (q:=q) (n:=n) (q':=q) (n':=n) (M':=M) (nl:=nl) (nr:=nr) (nl':=nl') (nr':=nr') hl hr
 simp only[decide_true,Bool.and_true]at e1
 rw[o10 rfl T26 rfl]
 unfold F26 c26
 simp(disch:=first|omega|fail) only[push_cast,seval,ui5,lu7,y81,bj9,wrap64,dec_lt,cw6,nl3,qc6,mr8,nb8,if_pos,if_neg,e1]
end
section
variable {q:Int} [IsFld q] {k nl nr nl2:Nat} {b:Bool} {N:List (List (El q))} {M:List (List Int)} {w:List Int}
end
end Go.Proofs.YtlhmdmedagjmnaaGreat
namespace Go.Proofs.YtlhmdmedagjmnaaGreat
open Go.Am Go.Vm Go.Alg
theorem b03: ∃p m g mod,fldN (2:Int).toNat=some (p,m,g,mod):=⟨_,_,_,_,rfl⟩
instance two_isFld:IsFld 2:=⟨b03⟩
def wE(N:Nat)(f:Nat→Bool):List (El 2):=(List.range N).map fun x=>if f x then 1 else 0
theorem fy7(N:Nat)(f:Nat→Bool):(wE N f).length=N:=by simp[wE]
theorem op9(N:Nat)(f:Nat→Bool):vs (wE N f)=wU N f:=by
 unfold vs wE wU
 rw[List.map_map]
 refine List.map_congr_left fun x _=> ?_
 show(if f x then(1:El 2)else 0).v=bU (f x)
 cases f x<;>rfl
def ex1(r m:Nat):List (List (El 2)):=(monN r m).map fun s=>wE (2^m) (inM s)
theorem wu3(r m:Nat):(ex1 r m).length=(monN r m).length:=by simp[ex1]
theorem jj9{r m:Nat}: ∀x∈ex1 r m,x.length=2^m:=fun x hx=>by
 obtain⟨s,_,rfl⟩:=List.mem_map.1 hx
 exact fy7 _ _
theorem p82(r m:Nat):(ex1 r m).map vs=(monN r m).map fun s=>wU (2^m) (inM s):=by
 unfold ex1
 rw[List.map_map]
 exact List.map_congr_left fun s _=>op9 _ _
theorem yv5{r m:Nat}(hm:m≤5): ∀s∈monN r m,s<32:=fun s hs=>by
 have h1:=(lu9.1 hs).2
 have h2:=t87 hm
 omega
theorem du8:((List.range 6).all fun m=>(List.range (m+1)).all fun r=>decide ((monN r m).length≤32)&&decide (monN r m).Nodup)=true:=by kernel_rfl
theorem d04{r m:Nat}(hr:r≤m)(hm:m≤5):(monN r m).length≤32∧(monN r m).Nodup:=by
 have h:=List.all_eq_true.1 (List.all_eq_true.1 du8 m (List.mem_range.2 (by omega))) r (List.mem_range.2 (by omega))
 rw[Bool.and_eq_true]at h
 exact⟨of_decide_eq_true h.1,of_decide_eq_true h.2⟩
theorem o14{r m:Nat}:0<(monN r m).length:=List.length_pos_of_mem (lu9.2 ⟨Nat.zero_le _,Nat.two_pow_pos m⟩:0∈monN r m)
theorem vr8{α β:Type}(f:α→β){l:List α}{i:Nat}{x:α}(h:l[i]? =some x):(l.take (i+1)).map f=(l.take i).map f++[f x]:=by
 rw[List.take_add_one,h,List.map_append];rfl
theorem dt5{r m:Nat}(hr:r≤m)(hm:m≤5):gi9 2 ((2^m:Nat):Int) ((ex1 r m).map vs)=0:=by
 have h1:=(d04 hr hm).1
 have h2:=t87 hm
 have h3:=Nat.two_pow_pos m
 have hl:(ex1 r m).length≤64:=by rw[wu3];omega
 exact tc0 h3 (by omega) hl jj9 (sy6 hl jj9 h3 (by omega))
section
variable {l:List Nat} {m:Nat}
theorem sm5(hl: ∀s∈l,s<32)(hm:m≤5)(hll:l.length≤1000){N:Int}{T:Tree}: ∀(d i:Nat),i+d=l.length→0<i→ ∀ks,
 vgoL W ⟨hNo,[(.cell 4 true 3), .tmp 5],0⟩ [1,4,7,22,23,24] c72L0 (.blk 0 [4,7]::ks) [(1, .x (.int .i64 m)),(4, .own 0 []),(7, .own 1 []),(22, .own 2 []),(23, .x (.int .i64 l.length)),(24, .x (.int .i64 i))] [T, .pt 36 [.v (.int .i64 2), .v (.int .i64 N), .sl 2 22 1 (lls 2 ((l.take i).map fun s=>wU (2^m) (inM s)))], .sl 1 3 1 (ivs (pn l))]=
  vgo W ⟨hNo,[(.cell 4 true 3), .tmp 5],0⟩ ks (VFr.of [(4, .own 0 []),(7, .own 1 [])]) [T, .pt 36 [.v (.int .i64 2), .v (.int .i64 N), .sl 2 22 1 (lls 2 (l.map fun s=>wU (2^m) (inM s)))], .sl 1 3 1 (ivs (pn l))]
 |0,i,hi,h0,ks=>by
  rw[List.take_of_length_le (by omega),sb5 c72L0.eq_def]
  simp(disch:=first|omega|fail) only[push_cast,seval,ui5,lu7,y81,bj9,wrap64,dec_lt,cw6,nl3,qc6,mr8,nb8,if_pos,if_neg]
 |d+1,i,hi,h0,ks=>by
  have ih:=sm5 hl hm hll (N:=N) (T:=T) d (i+1) (by omega) (by omega) ks
  obtain⟨s,hs⟩:=ge6 (l:=l) (i:=i) (by omega)
  have h1:(ivs (pn l))[i]? =some (.v (.int .i64 s)):=iat (by unfold pn;rw[List.getElem?_map,hs];rfl)
  have e1:=h70 hm (hl s (List.mem_of_getElem? hs))
  have hpl:=im5 l
  rw[Int.natCast_add,Int.natCast_one,vr8 _ hs]at ih
  rw[←ih,sb5 c72L0.eq_def]
  simp(disch:=first|omega|fail) only[push_cast,seval,ui5,lu7,y81,bj9,wrap64,dec_lt,cw6,nl3,qc6,mr8,nb8,if_pos,if_neg,h1,e1,hpl]
theorem qg8{l':List Nat}{s:Nat}(hs:s<32)(hm:m≤5)(hll:l'.length≤1000){N:Int}{T:Tree}(ks):
 vgoL W ⟨hNo,[(.cell 4 true 3), .tmp 5],0⟩ [1,4,7,22,23,24] c72L0 (.blk 0 [4,7]::ks) [(1, .x (.int .i64 m)),(4, .own 0 []),(7, .own 1 []),(22, .own 2 []),(23, .x (.int .i64 (l'.length+1:Nat))),(24, .x (.int .i64 0))] [T, .pt 36 [.v (.int .i64 2), .v (.int .i64 N), .v (.slice none 0 0)], .sl 1 3 1 (ivs (pn (s::l')))]=
  vgoL W ⟨hNo,[(.cell 4 true 3), .tmp 5],0⟩ [1,4,7,22,23,24] c72L0 (.blk 0 [4,7]::ks) [(1, .x (.int .i64 m)),(4, .own 0 []),(7, .own 1 []),(22, .own 2 []),(23, .x (.int .i64 (l'.length+1:Nat))),(24, .x (.int .i64 1))] [T, .pt 36 [.v (.int .i64 2), .v (.int .i64 N), .sl 2 22 1 (lls 2 [wU (2^m) (inM s)])], .sl 1 3 1 (ivs (pn (s::l')))]:=by
 have h1:(ivs (pn (s::l')))[0]? =some (.v (.int .i64 s)):=rfl
 have e1:=h70 hm hs
 have hpl:=im5 (s::l')
 rw[List.length_cons]at hpl
 conv=>lhs;rw[sb5 c72L0.eq_def]
 simp(disch:=first|omega|fail) only[push_cast,seval,ui5,lu7,y81,bj9,wrap64,dec_lt,cw6,nl3,qc6,mr8,nb8,if_pos,if_neg,h1,e1,hpl]
 rfl
theorem ef7{r m:Int}(h:mulV r m=0): ∃r' m':Nat,r=(r':Int)∧m=(m':Int)∧1≤m'∧m'≤5∧r'≤m':=by
 unfold mulV at h
 split at h
 ·cases h
 ·split at h
  ·cases h
  ·exact⟨r.toNat,m.toNat,by omega,by omega,by omega,by omega,by omega⟩
theorem kk2{r m:Nat}(hr:r≤m)(h0:1≤m)(hm:m≤5):mulV r m=0:=by unfold mulV;rw[if_neg (by omega),if_neg (by omega)]
def rmuR(r m:Nat):List (List Int):=pvR (redR (ex1 r m))
theorem sf1{r m:Int}(he:mulV r m≠0):o24 W 72 [.x (.int .i64 r), .x (.int .i64 m)] []=some (.tup [.agg [.x (.int .i64 0), .x (.int .i64 0), .x (.slice none 0 0)], .x (.int .i64 (mulV r m))],[],[]):=by
 have e1:=d18 (r:=r) (m:=m)
 rw[o10 rfl T72 rfl]
 unfold F72 c72
 simp(disch:=first|omega|fail) only[push_cast,seval,ui5,lu7,y81,bj9,wrap64,dec_lt,cw6,nl3,qc6,mr8,nb8,if_pos,if_neg,e1,nb8 he]
theorem s79{r m:Nat}(hr:r≤m)(h0:1≤m)(hm:m≤5):o24 W 72 [.x (.int .i64 r), .x (.int .i64 m)] []=
 some (.tup [.agg [.x (.int .i64 2), .x (.int .i64 (2^m:Nat)), .own 0 []], .x (.int .i64 0)],[.sl 2 22 1 (lls 2 (rmuR r m))],[]):=by
 have e0:=d18 (r:=r) (m:=m)
 rw[kk2 hr h0 hm]at e0
 have hsh:=rz2 hm
 have e1:=ak3 (r:=r) (m:=m) (by omega) hm
 rw[s42]at e1
 have hc:=(d04 hr hm).1
 have e2:=fun nl nr=>ob1 (q:=2) (k:=2^m) (N:=ex1 r m) (nl:=nl) (nr:=nr) (dt5 hr hm) (Nat.two_pow_pos m) (by have:=t87 hm;omega) (by rw[wu3];omega) jj9
 rw[p82,show pvR (redR (ex1 r m))=rmuR r m from rfl]at e2
 have hlt:=yv5 (r:=r) hm
 have hp:=o14 (r:=r) (m:=m)
 generalize rmuR r m=MR at*
 generalize monN r m=L at*
 obtain⟨s,l',rfl⟩: ∃s l',L=s::l':=by
  cases L with
  |nil=>cases hp
  |cons s l'=>exact⟨s,l',rfl⟩
 rw[List.length_cons]at hc
 have e3:=fun N T ks=>qg8 (hlt s (List.mem_cons_self)) hm (l':=l') (by omega) (N:=N) (T:=T) ks
 have e4:=fun N T ks=>sm5 (l:=s::l') hlt hm (by rw[List.length_cons];omega) (N:=N) (T:=T) l'.length 1 (by rw[List.length_cons];omega) (by omega) ks
 rw[List.take_succ_cons,List.take_zero,List.map_cons,List.map_nil,List.length_cons]at e4
 have hpl:=im5 (s::l')
 rw[List.length_cons]at hpl
 simp only[Int.natCast_add,Int.natCast_one]at e3 e4
 simp only[List.map_cons]at e2
 generalize 2^m=K at*
 rw[o10 rfl T72 rfl]
 unfold F72 c72
 simp(disch:=first|omega|fail) only[push_cast,seval,ui5,lu7,y81,bj9,wrap64,dec_lt,cw6,nl3,qc6,mr8,nb8,if_pos,if_neg,hsh,e0,e1,hpl]
 rw[e3,e4]
 simp(disch:=first|omega|fail) only[push_cast,seval,ui5,lu7,y81,bj9,wrap64,dec_lt,cw6,nl3,qc6,mr8,nb8,if_pos,if_neg,e2]
end
theorem be6{l:List Nat}(hn:l.Nodup){i s:Nat}(hs:l[i]? =some s):(List.replicate l.length (0:Int)).set i 1=msgU l (fun t=>t==s):=by
 refine List.ext_getElem? fun j=> ?_
 by_cases hj:j<l.length
 ·unfold msgU
  rw[List.getElem?_set,List.getElem?_map,List.getElem?_eq_getElem hj]
  obtain⟨h1,h2⟩:=List.getElem?_eq_some_iff.1 hs
  by_cases he:i=j
  ·subst he
   rw[if_pos rfl,if_pos (by rw[List.length_replicate];exact hj)]
   show some 1=some (bU (l[i]==s))
   rw[h2,beq_self_eq_true];rfl
  ·rw[if_neg he,List.getElem?_replicate,if_pos hj]
   show some 0=some (bU (l[j]==s))
   have:(l[j]==s)=false:=by
    rw[beq_eq_false_iff_ne]
    intro h
    have hp:=List.pairwise_iff_getElem.1 hn
    rcases Nat.lt_or_gt_of_ne he with h3|h3
    ·exact hp i j h1 hj h3 (h2.trans h.symm)
    ·exact hp j i hj h1 h3 (h.trans h2.symm)
   rw[this];rfl
 ·rw[List.getElem?_eq_none (by rw[List.length_set,List.length_replicate];omega),List.getElem?_eq_none (by rw[pc0];omega)]
theorem e69{r m s:Nat}(hn:(monN r m).Nodup)(hs:s∈monN r m):cj7 r m (fun t=>t==s)=inM s:=by
 funext x
 unfold cj7
 rw[he5 (s:=s) hn hs fun a _ hne=>by show((a==s)&&inM a x)=false;rw[beq_eq_false_iff_ne.2 hne,Bool.false_and]]
 show((s==s)&&inM s x)=_
 rw[beq_self_eq_true,Bool.true_and]
section
variable {r m:Nat}
theorem dk7(hr:r≤m)(hm:m≤5){N:Int}{T:Tree}: ∀(d i:Nat),i+d=(monN r m).length→0<i→ ∀ks,
 vgoL W ⟨hNo,[(.cell 4 true 3)],0⟩ [0,1,4,5,6,7] c71L0 (.blk 0 [4,6]::ks) [(0, .x (.int .i64 r)),(1, .x (.int .i64 m)),(4, .own 0 []),(5, .own 1 []),(6, .own 2 []),(7, .x (.int .i64 i))] [T, .sl 1 3 1 (ivs (pn (monN r m))), .pt 36 [.v (.int .i64 2), .v (.int .i64 N), .sl 2 22 1 (lls 2 (((monN r m).take i).map fun s=>wU (2^m) (inM s)))]]=
  vgo W ⟨hNo,[(.cell 4 true 3)],0⟩ ks (VFr.of [(4, .own 0 []),(6, .own 2 [])]) [T, .sl 1 3 1 (ivs (pn (monN r m))), .pt 36 [.v (.int .i64 2), .v (.int .i64 N), .sl 2 22 1 (lls 2 ((monN r m).map fun s=>wU (2^m) (inM s)))]]
 |0,i,hi,h0,ks=>by
  have hpl:=im5 (monN r m)
  rw[List.take_of_length_le (by omega),sb5 c71L0.eq_def]
  simp(disch:=first|omega|fail) only[push_cast,seval,ui5,lu7,y81,bj9,wrap64,dec_lt,cw6,nl3,qc6,mr8,nb8,if_pos,if_neg,hpl]
 |d+1,i,hi,h0,ks=>by
  have ih:=dk7 hr hm (N:=N) (T:=T) d (i+1) (by omega) (by omega) ks
  obtain⟨hcl,hnd⟩:=d04 hr hm
  obtain⟨s,hs⟩:=ge6 (l:=monN r m) (i:=i) (by omega)
  have hu:=be6 hnd hs
  have e1:=fun b nl=>xq6 (r:=r) (m:=m) (by omega) hm (c:=fun t=>t==s) (b:=b) (nl:=nl)
  rw[e69 hnd (List.mem_of_getElem? hs)]at e1
  have hpl:=im5 (monN r m)
  rw[Int.natCast_add,Int.natCast_one,vr8 _ hs]at ih
  rw[←ih,sb5 c71L0.eq_def]
  simp(disch:=first|omega|fail) only[push_cast,seval,ui5,lu7,y81,bj9,wrap64,dec_lt,cw6,nl3,qc6,mr8,nb8,if_pos,if_neg,hu,e1,hpl]
theorem iq8(hr:r≤m)(hm:m≤5){N:Int}{T:Tree}(ks):
 vgoL W ⟨hNo,[(.cell 4 true 3)],0⟩ [0,1,4,5,6,7] c71L0 (.blk 0 [4,6]::ks) [(0, .x (.int .i64 r)),(1, .x (.int .i64 m)),(4, .own 0 []),(5, .own 1 []),(6, .own 2 []),(7, .x (.int .i64 0))] [T, .sl 1 3 1 (ivs (pn (monN r m))), .pt 36 [.v (.int .i64 2), .v (.int .i64 N), .v (.slice none 0 0)]]=
  vgoL W ⟨hNo,[(.cell 4 true 3)],0⟩ [0,1,4,5,6,7] c71L0 (.blk 0 [4,6]::ks) [(0, .x (.int .i64 r)),(1, .x (.int .i64 m)),(4, .own 0 []),(5, .own 1 []),(6, .own 2 []),(7, .x (.int .i64 1))] [T, .sl 1 3 1 (ivs (pn (monN r m))), .pt 36 [.v (.int .i64 2), .v (.int .i64 N), .sl 2 22 1 (lls 2 (((monN r m).take 1).map fun s=>wU (2^m) (inM s)))]]:=by
 obtain⟨hcl,hnd⟩:=d04 hr hm
 have hp:=o14 (r:=r) (m:=m)
 obtain⟨s,hs⟩:=ge6 (l:=monN r m) (i:=0) hp
 have hu:=be6 hnd hs
 have e1:=fun b nl=>xq6 (r:=r) (m:=m) (by omega) hm (c:=fun t=>t==s) (b:=b) (nl:=nl)
 rw[e69 hnd (List.mem_of_getElem? hs)]at e1
 have hpl:=im5 (monN r m)
 rw[vr8 _ hs,List.take_zero]
 conv=>lhs;rw[sb5 c71L0.eq_def]
 simp(disch:=first|omega|fail) only[push_cast,seval,ui5,lu7,y81,bj9,wrap64,dec_lt,cw6,nl3,qc6,mr8,nb8,if_pos,if_neg,hu,e1,hpl]
 rfl
theorem ms0(hr:r≤m)(h0:1≤m)(hm:m≤5):o24 W 71 [.x (.int .i64 r), .x (.int .i64 m)] []=
 some (.agg [.x (.int .i64 2), .x (.int .i64 (2^m:Nat)), .own 0 []],[.sl 2 22 1 (lls 2 (rmuR r m))],[]):=by
 have hsh:=rz2 hm
 have e1:=s68 (r:=r) (m:=m) (by omega) hm
 rw[s42]at e1
 have hc:=(d04 hr hm).1
 have e2:=fun nl nr n=>vd8 (q:=2) (k:=2^m) (N:=ex1 r m) (nl:=nl) (nr:=nr) (n:=n) (by rw[wu3];omega) jj9 (by have:=t87 hm;omega)
 rw[p82,show pvR (redR (ex1 r m))=rmuR r m from rfl]at e2
 have hp:=o14 (r:=r) (m:=m)
 have e3:=fun N T ks=>iq8 hr hm (N:=N) (T:=T) ks
 have e4:=fun N T ks=>dk7 hr hm (N:=N) (T:=T) ((monN r m).length-1) 1 (by omega) (by omega) ks
 generalize rmuR r m=MR at*
 simp only[Int.natCast_one]at e4
 generalize 2^m=K at*
 rw[o10 rfl T71 rfl]
 unfold F71 c71
 simp(disch:=first|omega|fail) only[push_cast,seval,ui5,lu7,y81,bj9,wrap64,dec_lt,cw6,nl3,qc6,mr8,nb8,if_pos,if_neg,hsh,e1]
 rw[e3,e4]
 simp(disch:=first|omega|fail) only[push_cast,seval,ui5,lu7,y81,bj9,wrap64,dec_lt,cw6,nl3,qc6,mr8,nb8,if_pos,if_neg,e2]
end
end Go.Proofs.YtlhmdmedagjmnaaGreat
namespace Go.Proofs.YtlhmdmedagjmnaaGreat
open Go.Am Go.Vm Go.Alg
def pkI(a n:Int):Int:=(if a<0 then-(a+1)else a).tmod n
theorem h59{a n:Int}(hn:0<n):0≤pkI a n∧pkI a n<n:=by
 unfold pkI
 split
 ·exact⟨Int.tmod_nonneg _ (by omega),Int.tmod_lt_of_pos _ hn⟩
 ·exact⟨Int.tmod_nonneg _ (by omega),Int.tmod_lt_of_pos _ hn⟩
def rwI(l:List Int)(i:Int):Int:=if l.length=0 then i else IntKind.wrap .i64 (gi l (i.tmod l.length)+IntKind.wrap .i64 (IntKind.wrap .i64 (i.tdiv l.length)*7919))
theorem ti9(x:Int): -9223372036854775808≤IntKind.wrap .i64 x∧IntKind.wrap .i64 x≤9223372036854775807:=by rw[IntKind.wrap_i64];omega
theorem bd0{l:List Int}{i:Int}(h0:0≤i)(h1:i≤9223372036854775807): -9223372036854775808≤rwI l i∧rwI l i≤9223372036854775807:=by
 unfold rwI
 split
 ·omega
 ·exact ti9 _
theorem cl0{l:List Int}{i:Int}(h0:0≤i)(h1:i<l.length):(ivs l)[i.toNat]? =some (.v (.int .i64 (gi l i))):=by
 have e:(ivs l)[i.toNat]? =some (.v (.int .i64 (gi l ((i.toNat:Nat):Int)))):=ui5 (by omega)
 rwa [Int.toNat_of_nonneg h0]at e
section
variable {b:Bool} {nl:Nat} {raw:List Int}
theorem s88{a n:Int}(h1: -9223372036854775808≤a)(h2:a≤9223372036854775807)(hn:0<n):o24 W 10 [.x (.int .i64 a), .x (.int .i64 n)] []=some (.x (.int .i64 (pkI a n)),[],[]):=by
 have hz: ¬n=0:=by omega
 rw[o10 rfl T10 rfl]
 unfold F10 c10 pkI
 by_cases h0:a<0
 ·rw[if_pos h0]
  simp(disch:=first|omega|fail) only[push_cast,seval,ui5,lu7,y81,bj9,wrap64,dec_lt,cw6,nl3,qc6,mr8,nb8,if_pos,if_neg,nb8 hz,hz]
  rw[show(0:Int)-(a+1)= -(a+1) by omega]
 ·rw[if_neg h0]
  simp(disch:=first|omega|fail) only[push_cast,seval,ui5,lu7,y81,bj9,wrap64,dec_lt,cw6,nl3,qc6,mr8,nb8,if_pos,if_neg,nb8 hz,hz]
theorem yc3{i:Int}(hi:0≤i)(hl:raw.length≤9223372036854775807):o24 W 14 [.fz b (.sl nl 0 1 (ivs raw)), .x (.int .i64 i)] []=some (.x (.int .i64 (rwI raw i)),[],[]):=by
 rw[o10 rfl T14 rfl]
 unfold F14 c14 rwI
 by_cases h0:raw.length=0
 ·rw[if_pos h0]
  have h0':(raw.length:Int)=0:=by omega
  simp(disch:=first|omega|fail) only[push_cast,seval,ui5,lu7,y81,bj9,wrap64,dec_lt,cw6,nl3,qc6,mr8,nb8,if_pos,if_neg,h0']
 ·rw[if_neg h0]
  have hz: ¬(raw.length:Int)=0:=by omega
  have b1:0≤i.tmod raw.length:=Int.tmod_nonneg _ hi
  have b2:i.tmod raw.length<raw.length:=Int.tmod_lt_of_pos _ (by omega)
  have e:=cl0 b1 b2
  simp(disch:=first|omega|fail) only[push_cast,seval,ui5,lu7,y81,bj9,wrap64,dec_lt,cw6,nl3,qc6,mr8,nb8,if_pos,if_neg,hz,nb8 hz,e]
end
end Go.Proofs.YtlhmdmedagjmnaaGreat
namespace Go.Proofs.YtlhmdmedagjmnaaGreat
open Go.Am Go.Vm Go.Alg
section
variable {k:FuncId} {p:Int→Bool} {l:List Int} {nl:Nat}
theorem ac4(hk: ∀v,o24 W k [.x (.int .i64 v)] []=some (.x (.bool (p v)),[],[]))(hM:vM k=[]){bl:Bool}(hl:l.length≤9223372036854775807): ∀(n i:Nat),i+n=l.length→ ∀ks,
 vgoL W ⟨hNo,[.tmp 4],0⟩ [0,1,7,8] c133L0 (.blk 0 []::ks) [(0, .fz bl (.sl nl 0 1 (ivs l))),(1, .fn k []),(7, .x (.int .i64 l.length)),(8, .x (.int .i64 i))] []=
  if fidx p i (l.drop i)= -1 then vgo W ⟨hNo,[.tmp 4],0⟩ ks (VFr.of []) []else some (.x (.int .i64 (fidx p i (l.drop i))),[],[])
 |0,i,hi,ks=>by
  rw[oh9 (by omega),fidx,if_pos rfl,sb5 c133L0.eq_def]
  simp(disch:=first|omega|fail) only[push_cast,seval,ui5,lu7,y81,bj9,wrap64,dec_lt,cw6,nl3,qc6,mr8,nb8,if_pos,if_neg]
 |n+1,i,hi,ks=>by
  have ih:=ac4 hk hM (bl:=bl) hl n (i+1) (by omega) ks
  obtain⟨a,ha⟩:=ge6 (l:=l) (i:=i) (by omega)
  have h1:=iat ha
  rw[i62 ha,fidx]
  rw[Int.natCast_add,Int.natCast_one]at ih
  have hka:=hk a
  cases hp:p a with
  |true=>
   rw[hp]at hka
   rw[if_pos rfl,if_neg (by omega),sb5 c133L0.eq_def]
   simp(disch:=first|omega|fail) only[push_cast,seval,ui5,lu7,y81,bj9,wrap64,dec_lt,cw6,nl3,qc6,mr8,nb8,if_pos,if_neg,h1,hka,hM]
  |false=>
   rw[hp]at hka
   simp only[Bool.false_eq_true,if_false]
   rw[←ih,sb5 c133L0.eq_def]
   simp(disch:=first|omega|fail) only[push_cast,seval,ui5,lu7,y81,bj9,wrap64,dec_lt,cw6,nl3,qc6,mr8,nb8,if_pos,if_neg,h1,hka,hM]
theorem rq1(hk: ∀v,o24 W k [.x (.int .i64 v)] []=some (.x (.bool (p v)),[],[]))(hM:vM k=[]){bl:Bool}(hl:l.length≤9223372036854775807):
 o24 W 61 [.fz bl (.sl nl 0 1 (ivs l)), .fn k []] []=some (.x (.bool (l.any p)),[],[]):=by
 have e:=fun nl ks=>ac4 (nl:=nl) hk hM (bl:=bl) hl l.length 0 (by omega) ks
 simp only[Int.natCast_zero,List.take_zero,List.drop_zero,rp2,lz6,x25,List.map_nil,List.length_nil]at e
 have e2: ∀bl2 nl,bl2=bl→o24 W 133 [.fz bl2 (.sl nl 0 1 (ivs l)), .fn k []] []=some (.x (.int .i64 (fidx p 0 l)),[],[]):=fun bl2 nl hb=>by
  subst hb
  rw[o10 rfl T133 rfl]
  unfold F133 c133
  simp(disch:=first|omega|fail) only[push_cast,seval,ui5,lu7,y81,bj9,wrap64,dec_lt,cw6,nl3,qc6,mr8,nb8,if_pos,if_neg]
  rw[e]
  by_cases h:fidx p 0 l= -1
  ·rw[if_pos h,h]
   simp(disch:=first|omega|fail) only[push_cast,seval,ui5,lu7,y81,bj9,wrap64,dec_lt,cw6,nl3,qc6,mr8,nb8,if_pos,if_neg]
  ·rw[if_neg h]
 have e3:=fun nl=>e2 bl nl rfl
 rw[o10 rfl T61 rfl]
 unfold F61 c61
 rw[←tl6 p 0 l]
 simp(disch:=first|omega|fail) only[push_cast,seval,ui5,lu7,y81,bj9,wrap64,dec_lt,cw6,nl3,qc6,mr8,nb8,if_pos,if_neg,e3]
end
section
variable {q:Int} [IsFld q] {k nl nr nl2:Nat} {b:Bool} {N:List (List (El q))}
end
end Go.Proofs.YtlhmdmedagjmnaaGreat
namespace Go.Proofs.YtlhmdmedagjmnaaGreat
open Go.Am Go.Vm Go.Alg
section
variable {q p m g:Int} [IsFld q] {t:Tree} {b b':Bool} {nl nl' nr n7 n8:Nat} {M:List (List (El q))} {A:List (Nat×List (El q))} {N:Nat}
end
end Go.Proofs.YtlhmdmedagjmnaaGreat
namespace Go.Proofs.YtlhmdmedagjmnaaGreat
open Go.Am Go.Vm Go.Alg
section
variable {q:Int} [IsFld q] {b b':Bool} {nl nl' nr:Nat} {M:List (List (El q))} {y:List (El q)} {n R:Nat}
section
variable {T5:Tree} {c at' n0:Nat}
end
end
end Go.Proofs.YtlhmdmedagjmnaaGreat
namespace Go.Proofs.YtlhmdmedagjmnaaGreat
open Go.Am Go.Vm Go.Alg
section
variable {q:Int} {b b':Bool} {nl nl' nr e:Nat}
end
section
variable {α:Type} {n:Nat}
end
section
variable {q:Int} [IsFld q] {b b':Bool} {nl nl' nr:Nat} {M:List (List (El q))} {n:Nat}
end
section
variable {q:Int} {b b':Bool} {nl nl' nr e:Nat}
end
end Go.Proofs.YtlhmdmedagjmnaaGreat
namespace Go.Proofs.YtlhmdmedagjmnaaGreat
open Go.Am Go.Vm Go.Alg
def fvs(nl:Nat)(m:List (List Int)):List Tree:=m.map fun l=> .fz (.sl nl 0 1 (ivs l))
@[push_cast] theorem lv3(nl:Nat)(m:List (List Int)):(fvs nl m).length=m.length:=by simp[fvs]
@[push_cast] theorem iz0(nl:Nat)(m:List (List Int)):jj5 (fvs nl m)=lvs nl m:=by
 rw[gz0]
 unfold fvs lvs
 rw[List.map_map]
 exact List.map_congr_left fun l _=>by show strip _=_;rw[strip]
@[push_cast] theorem s84(nl:Nat)(m:List (List Int))(l:List Int):fvs nl m++[.fz (.sl nl 0 1 (ivs l))]=fvs nl (m++[l]):=by unfold fvs;rw[List.map_append];rfl
section
variable {n:Int} {E:List (Int×Int)} {nl:Nat}
end
end Go.Proofs.YtlhmdmedagjmnaaGreat
namespace Go.Proofs.YtlhmdmedagjmnaaGreat
open Go.Am Go.Vm Go.Alg
section
variable {α β:Type} {to:Int}
end
section
variable {q:Int} [IsFld q] {n to:Int} {E:List (Int×Int)} {nl nl' nr nr' nlv:Nat} {b b':Bool}
end
end Go.Proofs.YtlhmdmedagjmnaaGreat
namespace Go.Proofs.YtlhmdmedagjmnaaGreat
open Go.Am Go.Vm Go.Alg
section
variable {q n to:Int} {E:List (Int×Int)} {nl nl' nr nr' nlv:Nat} {b b':Bool}
end
end Go.Proofs.YtlhmdmedagjmnaaGreat
namespace Go.Proofs.YtlhmdmedagjmnaaGreat
open Go.Am Go.Vm Go.Alg
section
variable {q n to:Int} {E:List (Int×Int)} {nl nl' nr nr' nlv:Nat} {b b':Bool}
end
end Go.Proofs.YtlhmdmedagjmnaaGreat
namespace Go.Proofs.YtlhmdmedagjmnaaGreat
open Go.Am Go.Vm Go.Alg
theorem nf4{L:List Int}{e:Int}(hL:L.length≤9223372036854775807)(he:e≠0→L=[])(b b':Bool)(nl nl':Nat):
 o24 W 41 [.fz b (.sl nl 0 1 (ivs L)), .x (.int .i64 e), .fz b' (.sl nl' 0 1 (ivs L)), .x (.int .i64 e)] []=some (.x (.bool true),[],[]):=by
 rw[ea2 hL]
 by_cases h:e=0
 ·rw[if_pos h,decide_eq_true h,decide_eq_true rfl];rfl
 ·rw[if_neg h,he h,decide_eq_true rfl];rfl
section
variable {q n to:Int} {E:List (Int×Int)} {nl nl' nr nr' nlv nlc:Nat} {b b':Bool}
end
end Go.Proofs.YtlhmdmedagjmnaaGreat
namespace Go.Proofs.YtlhmdmedagjmnaaGreat
open Go.Am Go.Vm Go.Alg
section
variable {N:Nat} {g:Nat→Bool}
theorem ng4(hN:N≤32)(f:Nat→Bool){b:Bool}{nl nl':Nat}: ∀(n i:Nat),i+n=N→ ∀ks,
 vgoL W ⟨hNo,[],1⟩ [0,1,6,7] c68L0 (.blk 0 []::ks) [(0, .own 0 []),(1, .fz b (.sl nl' 0 1 (ivs (wU N g)))),(6, .x (.int .i64 N)),(7, .x (.int .i64 i))] [.sl nl 3 1 (ivs (wU N fun x=>f x^^(decide (x<i)&&g x)))]=
  vgo W ⟨hNo,[],1⟩ ks (VFr.of []) [.sl nl 3 1 (ivs (wU N fun x=>f x^^g x))]
 |0,i,hi,ks=>by
  have hw:wU N (fun x=>f x^^(decide (x<i)&&g x))=wU N (fun x=>f x^^g x):=x70 fun x hx=>by rw[decide_eq_true (by omega),Bool.true_and]
  rw[hw,sb5 c68L0.eq_def]
  simp(disch:=first|omega|fail) only[push_cast,seval,ui5,lu7,y81,bj9,wrap64,dec_lt,cw6,nl3,qc6,mr8,nb8,if_pos,if_neg]
 |n+1,i,hi,ks=>by
  have ih:=ng4 hN f (b:=b) (nl:=nl) (nl':=nl') n (i+1) (by omega) ks
  have l1:=tv7 (N:=N) (x:=i) g (by omega)
  have l2:=tv7 (N:=N) (x:=i) (fun x=>f x^^(decide (x<i)&&g x)) (by omega)
  simp only[Nat.lt_irrefl,decide_false,Bool.false_and,Bool.xor_false]at l2
  have hw:=d29 (N:=N) (i:=i) (fun x=>f x^^(decide (x<i)&&g x)) (fun x=>f x^^(decide (x<i+1)&&g x)) (by omega) fun x hx hne=>by
   by_cases h:x<i
   ·rw[decide_eq_true h,decide_eq_true (show x<i+1 by omega)]
   ·rw[decide_eq_false h,decide_eq_false (show¬x<i+1 by omega)]
  simp only[Nat.lt_add_one,decide_true,Bool.true_and]at hw
  have hx:=py1 (f i) (g i)
  have hl1:=mv5 N g
  have hl2:=mv5 N fun x=>f x^^(decide (x<i)&&g x)
  rw[Int.natCast_add,Int.natCast_one]at ih
  rw[←ih,sb5 c68L0.eq_def]
  simp(disch:=first|omega|fail) only[push_cast,seval,ui5,lu7,y81,bj9,wrap64,dec_lt,cw6,nl3,qc6,mr8,nb8,if_pos,if_neg,l1,l2,hx,hw,hl1,hl2]
theorem yb2(hN:N≤32)(f:Nat→Bool){b:Bool}{nl nl':Nat}:
 o24 W 68 [.own 0 [], .fz b (.sl nl' 0 1 (ivs (wU N g)))] [.sl nl 3 1 (ivs (wU N f))]=some (.tup [],[],[.sl nl 3 1 (ivs (wU N fun x=>f x^^g x))]):=by
 have e:=fun ks=>ng4 (g:=g) hN f (b:=b) (nl:=nl) (nl':=nl') N 0 (by omega) ks
 rw[x70 (f:=fun x=>f x^^(decide (x<0)&&g x)) (g:=f) (fun x _=>by rw[decide_eq_false (by omega),Bool.false_and,Bool.xor_false])]at e
 simp only[Int.natCast_zero]at e
 have hl:=mv5 N f
 rw[o10 rfl T68 rfl]
 unfold F68 c68
 simp(disch:=first|omega|fail) only[push_cast,seval,ui5,lu7,y81,bj9,wrap64,dec_lt,cw6,nl3,qc6,mr8,nb8,if_pos,if_neg,hl]
 rw[e]
 simp(disch:=first|omega|fail) only[push_cast,seval,ui5,lu7,y81,bj9,wrap64,dec_lt,cw6,nl3,qc6,mr8,nb8,if_pos,if_neg]
end
theorem du9: ∀{l:List Nat} {w:List Int},l.Nodup→w.length=l.length→w.all bitU=true→ ∃c:Nat→Bool,w=msgU l c
 | [],[],_,_,_=>⟨fun _=>false,rfl⟩
 |s::l,v::w,hn,hl,hb=>by
  rw[List.nodup_cons]at hn
  rw[List.all_cons,Bool.and_eq_true]at hb
  rw[List.length_cons,List.length_cons]at hl
  obtain⟨c,rfl⟩:=du9 hn.2 (by omega) hb.2
  refine⟨fun t=>if t=s then decide (v=1)else c t, ?_⟩
  unfold msgU
  rw[List.map_cons]
  congr 1
  ·show v=bU (if s=s then decide (v=1)else c s)
   rw[if_pos rfl]
   have h1:=hb.1
   unfold bitU at h1
   rw[Bool.or_eq_true]at h1
   rcases h1 with h1|h1
   ·rw[of_decide_eq_true h1];rfl
   ·rw[of_decide_eq_true h1];rfl
  ·refine List.map_congr_left fun t ht=> ?_
   show bU (c t)=bU (if t=s then decide (v=1)else c t)
   rw[if_neg fun h=>hn.1 (by rw[←h];exact ht)]
 | [],_::_,_,hl,_=>by cases hl
 |_::_,[],_,hl,_=>by cases hl
theorem g91(l:List Nat)(c:Nat→Bool):(msgU l c).all bitU=true:=List.all_eq_true.2 fun v hv=>by
 obtain⟨s,_,rfl⟩:=List.mem_map.1 hv
 cases c s<;>rfl
section
variable {l:List Nat} {c:Nat→Bool} {m:Nat}
theorem t89(hl: ∀s∈l,s<32)(hm:m≤5)(hll:l.length≤1000){b:Bool}{nl:Nat}: ∀(d i:Nat),i+d=l.length→ ∀ks,
 vgoL W ⟨hNo,[.tmp 6, .tmp 7],0⟩ [1,2,10,32,33,34] c74L0 (.blk 0 [10]::ks) [(1, .x (.int .i64 m)),(2, .fz b (.sl nl 0 1 (ivs (msgU l c)))),(10, .own 0 []),(32, .own 1 []),(33, .x (.int .i64 l.length)),(34, .x (.int .i64 i))] [.sl 0 3 1 (ivs (wU (2^m) fun x=>xorL (l.take i) fun s=>c s&&inM s x)), .sl 1 3 1 (ivs (pn l))]=
  vgo W ⟨hNo,[.tmp 6, .tmp 7],0⟩ ks (VFr.of [(10, .own 0 [])]) [.sl 0 3 1 (ivs (wU (2^m) fun x=>xorL l fun s=>c s&&inM s x)), .sl 1 3 1 (ivs (pn l))]
 |0,i,hi,ks=>by
  rw[List.take_of_length_le (by omega),sb5 c74L0.eq_def]
  simp(disch:=first|omega|fail) only[push_cast,seval,ui5,lu7,y81,bj9,wrap64,dec_lt,cw6,nl3,qc6,mr8,nb8,if_pos,if_neg]
 |d+1,i,hi,ks=>by
  have ih:=t89 hl hm hll (b:=b) (nl:=nl) d (i+1) (by omega) ks
  obtain⟨s,hs⟩:=ge6 (l:=l) (i:=i) (by omega)
  have l1:(ivs (msgU l c))[i]? =some (.v (.int .i64 (bU (c s)))):=iat (by unfold msgU;rw[List.getElem?_map,hs];rfl)
  have l2:(ivs (pn l))[i]? =some (.v (.int .i64 s)):=iat (by unfold pn;rw[List.getElem?_map,hs];rfl)
  have e1:=h70 hm (hl s (List.mem_of_getElem? hs))
  have hN:=t87 hm
  have hx: ∀x,(xorL (l.take (i+1)) fun s=>c s&&inM s x)=((xorL (l.take i) fun s=>c s&&inM s x)^^(c s&&inM s x)):=fun x=>by
   rw[List.take_add_one,hs,Option.toList_some,vn3,ti0,rq8,Bool.xor_false]
  have hpl:=im5 l
  have hml:=pc0 l c
  simp only[hx]at ih
  rw[Int.natCast_add,Int.natCast_one]at ih
  cases hc:c s with
  |true=>
   rw[hc,show bU true=1 from rfl]at l1
   simp only[hc,Bool.true_and]at ih
   have e2:=fun b nl nl'=>yb2 (g:=inM s) hN (fun x=>xorL (l.take i) fun s=>c s&&inM s x) (b:=b) (nl:=nl) (nl':=nl')
   rw[←ih,sb5 c74L0.eq_def]
   simp(disch:=first|omega|fail) only[push_cast,seval,ui5,lu7,y81,bj9,wrap64,dec_lt,cw6,nl3,qc6,mr8,nb8,if_pos,if_neg,l1,l2,e1,e2,hpl,hml]
  |false=>
   rw[hc,show bU false=0 from rfl]at l1
   simp only[hc,Bool.false_and,Bool.xor_false]at ih
   rw[←ih,sb5 c74L0.eq_def]
   simp(disch:=first|omega|fail) only[push_cast,seval,ui5,lu7,y81,bj9,wrap64,dec_lt,cw6,nl3,qc6,mr8,nb8,if_pos,if_neg,l1,l2,hpl,hml]
end
theorem h24(v:Int):o24 W 136 [.x (.int .i64 v)] []=some (.x (.bool (!bitU v)),[],[]):=by
 have e:o24 W 63 [.x (.int .i64 v)] []=some (.x (.bool (bitU v)),[],[]):=by
  unfold bitU
  rw[o10 rfl T63 rfl]
  unfold F63 c63
  by_cases h:v=0
  ·simp(disch:=first|omega|fail) only[push_cast,seval,ui5,lu7,y81,bj9,wrap64,dec_lt,cw6,nl3,qc6,mr8,nb8,if_pos,if_neg,mr8 h]
  ·simp(disch:=first|omega|fail) only[push_cast,seval,ui5,lu7,y81,bj9,wrap64,dec_lt,cw6,nl3,qc6,mr8,nb8,if_pos,if_neg,nb8 h]
 rw[o10 rfl T136 rfl]
 unfold F136 c136
 simp(disch:=first|omega|fail) only[push_cast,seval,ui5,lu7,y81,bj9,wrap64,dec_lt,cw6,nl3,qc6,mr8,nb8,if_pos,if_neg,e]
def b10(r m:Int)(w:List Int):Int:=if mulV r m=0 then(if w.length=(monN r.toNat m.toNat).length then(if w.all bitU=true then 0 else 2)else 6)else mulV r m
section
variable {w:List Int} {b:Bool} {nl:Nat}
theorem pl4{r m:Int}(hw:w.length≤9223372036854775807)(he:b10 r m w≠0):o24 W 74 [.x (.int .i64 r), .x (.int .i64 m), .fz b (.sl nl 0 1 (ivs w))] []=some (.tup [.x (.slice none 0 0), .x (.int .i64 (b10 r m w))],[],[]):=by
 have e0:=d18 (r:=r) (m:=m)
 unfold b10 at he⊢
 by_cases h0:mulV r m=0
 ·rw[if_pos h0]at he⊢
  obtain⟨r',m',rfl,rfl,h1,h2,h3⟩:=ef7 h0
  rw[h0]at e0
  have e1:=ak3 (r:=r') (m:=m') (by omega) h2
  rw[s42]at e1
  have hpl:=im5 (monN r' m')
  simp only[Int.toNat_natCast]at he⊢
  have hf:=fun bl nl=>rq1 (nl:=nl) (l:=w) (bl:=bl) (k:=136) h24 rfl hw
  by_cases h4:w.length=(monN r' m').length
  ·rw[if_pos h4]at he⊢
   have h5: ¬w.all bitU=true:=fun h=>he (by rw[if_pos h])
   have h6:(w.any fun v=> !bitU v)=true:=by
    rw[List.any_eq_not_all_not]
    simpa using h5
   rw[h6]at hf
   rw[if_neg h5,o10 rfl T74 rfl]
   unfold F74 c74
   simp(disch:=first|omega|fail) only[push_cast,seval,ui5,lu7,y81,bj9,wrap64,dec_lt,cw6,nl3,qc6,mr8,nb8,if_pos,if_neg,e0,e1,hpl,h4,hf]
  ·have h7: ¬(w.length:Int)=((monN r' m').length:Int):=by omega
   rw[if_neg h4,o10 rfl T74 rfl]
   unfold F74 c74
   simp(disch:=first|omega|fail) only[push_cast,seval,ui5,lu7,y81,bj9,wrap64,dec_lt,cw6,nl3,qc6,mr8,nb8,if_pos,if_neg,e0,e1,hpl,nb8 h7]
 ·rw[if_neg h0,o10 rfl T74 rfl]
  unfold F74 c74
  simp(disch:=first|omega|fail) only[push_cast,seval,ui5,lu7,y81,bj9,wrap64,dec_lt,cw6,nl3,qc6,mr8,nb8,if_pos,if_neg,e0,nb8 h0]
theorem p95{r m:Nat}(hr:r≤m)(h1:1≤m)(hm:m≤5){c:Nat→Bool}:o24 W 74 [.x (.int .i64 r), .x (.int .i64 m), .fz b (.sl nl 0 1 (ivs (msgU (monN r m) c)))] []=some (.tup [.own 0 [], .x (.int .i64 0)],[.sl 0 3 1 (ivs (wU (2^m) (cj7 r m c)))],[]):=by
 have e0:=d18 (r:=r) (m:=m)
 rw[kk2 hr h1 hm]at e0
 have e1:=ak3 (r:=r) (m:=m) (by omega) hm
 rw[s42]at e1
 have hpl:=im5 (monN r m)
 have hml:=pc0 (monN r m) c
 have hc:=(d04 hr hm).1
 have hsh:=rz2 hm
 have hK:=t87 hm
 have hf:=fun bl nl=>rq1 (nl:=nl) (l:=msgU (monN r m) c) (bl:=bl) (k:=136) h24 rfl (by omega)
 have h6:((msgU (monN r m) c).any fun v=> !bitU v)=false:=by
  rw[List.any_eq_not_all_not]
  simpa using g91 (monN r m) c
 rw[h6]at hf
 have e:=fun ks=>t89 (c:=c) (yv5 (r:=r) hm) hm (by omega) (b:=b) (nl:=nl) (monN r m).length 0 (by omega) ks
 rw[List.take_zero,pk6 (f:=fun x=>xorL ([]:List Nat) fun s=>c s&&inM s x) (fun x _=>rfl)]at e
 simp only[Int.natCast_zero,List.take_zero,List.drop_zero,rp2,lz6,x25,List.map_nil,List.length_nil]at e
 rw[show cj7 r m c=(fun x=>xorL (monN r m) fun s=>c s&&inM s x)from rfl]
 generalize 2^m=K at*
 rw[o10 rfl T74 rfl]
 unfold F74 c74
 simp(disch:=first|omega|fail) only[push_cast,seval,ui5,lu7,y81,bj9,wrap64,dec_lt,cw6,nl3,qc6,mr8,nb8,if_pos,if_neg,e0,e1,hpl,hml,hf,hsh]
 rw[e]
 simp(disch:=first|omega|fail) only[push_cast,seval,ui5,lu7,y81,bj9,wrap64,dec_lt,cw6,nl3,qc6,mr8,nb8,if_pos,if_neg]
end
end Go.Proofs.YtlhmdmedagjmnaaGreat
namespace Go.Proofs.YtlhmdmedagjmnaaGreat
open Go.Am Go.Vm Go.Alg
theorem ze3{r m:Nat}(hr:r≤m)(hm:m≤5):(rmuR r m).length≤9223372036854775807:=by
 have h1:=(d04 hr hm).1
 have h2:=t87 hm
 have h3:=ew4 (jj9 (r:=r) (m:=m))
 have h4:=wu3 r m
 unfold rmuR
 rw[nu3]
 omega
theorem m54{r m:Nat}(hm:m≤5): ∀x∈rmuR r m,x.length≤9223372036854775807:=fun x hx=>by
 have h2:=t87 hm
 obtain⟨r1,r2,_⟩:=bi2 (jj9 (r:=r) (m:=m))
 unfold rmuR at hx
 rw[lo1]at hx
 obtain⟨y,hy,rfl⟩:=List.mem_map.1 hx
 have:=zu4 r2 y hy
 rw[fi2]
 omega
theorem bv2{b:Bool}{nl:Nat}{w:List Int}(hl:w.length≤9223372036854775807){r m:Int}:
 o24 W 17 [.x (.int .i64 r), .x (.int .i64 m), .fz b (.sl nl 0 1 (ivs w))] []=some (.x (.bool true),[],[]):=by
 have e0:=rp3 (r:=r) (m:=m)
 have e0':=d18 (r:=r) (m:=m)
 by_cases h100:100<w.length
 ·rw[o10 rfl T17 rfl]
  unfold F17 c17
  simp(disch:=first|omega|fail) only[push_cast,seval,ui5,lu7,y81,bj9,wrap64,dec_lt,cw6,nl3,qc6,mr8,nb8,if_pos,if_neg]
 ·by_cases h0:mulV r m=0
  ·obtain⟨r',m',rfl,rfl,h1,h2,h3⟩:=ef7 h0
   rw[h0]at e0 e0'
   have e1:=ms0 h3 h1 h2
   have e2:=s79 h3 h1 h2
   have e3:=fun nl nr nl' nr'=>p72 (q:=2) (n:=(2^m':Nat)) (M:=rmuR r' m') (nl:=nl) (nr:=nr) (nl':=nl') (nr':=nr') (ze3 h3 h2) (m54 h2)
   have e4:=s68 (r:=r') (m:=m') (by omega) h2
   rw[s42]at e4
   have hpl:=im5 (monN r' m')
   have hc:=(d04 h3 h2).1
   have e5:=fun b nl=>nu7 (l:=w) (b:=b) (nl:=nl) hl
   by_cases h4:w.length=(monN r' m').length
   ·by_cases h5:w.all bitU=true
    ·obtain⟨c,rfl⟩:=du9 (d04 h3 h2).2 h4 h5
     rw[h5]at e5
     have e6:=fun b nl=>xq6 (r:=r') (m:=m') (by omega) h2 (c:=c) (b:=b) (nl:=nl)
     have e7:=fun b nl=>p95 h3 h1 h2 (c:=c) (b:=b) (nl:=nl)
     have hwl:=mv5 (2^m') (cj7 r' m' c)
     have hK:=t87 h2
     have e8:=nf4 (L:=wU (2^m') (cj7 r' m' c)) (e:=0) (by omega) (fun h=>absurd rfl h)
     generalize wU (2^m') (cj7 r' m' c)=WD at*
     generalize 2^m'=K at*
     rw[o10 rfl T17 rfl]
     unfold F17 c17
     simp(disch:=first|omega|fail) only[push_cast,seval,ui5,lu7,y81,bj9,wrap64,dec_lt,cw6,nl3,qc6,mr8,nb8,if_pos,if_neg,e0,e0',e1,e2,e3,e4,h4,hpl,e5,e6,e7,e8]
    ·have he:b10 r' m' w=2:=by
      unfold b10
      rw[if_pos h0]
      simp only[Int.toNat_natCast]
      rw[if_pos h4,if_neg h5]
     rw[Bool.eq_false_iff.2 h5]at e5
     have e7:=fun b nl=>pl4 (r:=r') (m:=m') (w:=w) (b:=b) (nl:=nl) hl (by rw[he];decide)
     rw[he]at e7
     have e8:=nf4 (L:=[]) (e:=2) (by simp) (fun _=>rfl)
     simp only[lz6]at e8
     generalize 2^m'=K at*
     rw[o10 rfl T17 rfl]
     unfold F17 c17
     simp(disch:=first|omega|fail) only[push_cast,seval,ui5,lu7,y81,bj9,wrap64,dec_lt,cw6,nl3,qc6,mr8,nb8,if_pos,if_neg,e0,e0',e1,e2,e3,e4,h4,hpl,e5,e7,e8]
   ·have he:b10 r' m' w=6:=by
     unfold b10
     rw[if_pos h0]
     simp only[Int.toNat_natCast]
     rw[if_neg h4]
    have e7:=fun b nl=>pl4 (r:=r') (m:=m') (w:=w) (b:=b) (nl:=nl) hl (by rw[he];decide)
    rw[he]at e7
    have e8:=nf4 (L:=[]) (e:=6) (by simp) (fun _=>rfl)
    simp only[lz6]at e8
    have h6: ¬(w.length:Int)=((monN r' m').length:Int):=by omega
    generalize 2^m'=K at*
    rw[o10 rfl T17 rfl]
    unfold F17 c17
    simp(disch:=first|omega|fail) only[push_cast,seval,ui5,lu7,y81,bj9,wrap64,dec_lt,cw6,nl3,qc6,mr8,nb8,if_pos,if_neg,e0,e0',e1,e2,e3,e4,nb8 h6,hpl,e5,e7,e8]
  ·have he:b10 r m w=mulV r m:=by unfold b10;rw[if_neg h0]
   have e2:=sf1 h0
   have e3:=v05 h0
   have e7:=fun b nl=>pl4 (r:=r) (m:=m) (w:=w) (b:=b) (nl:=nl) hl (by rw[he];exact h0)
   rw[he]at e7
   have e8:=nf4 (L:=[]) (e:=mulV r m) (by simp) (fun _=>rfl)
   simp only[lz6]at e8
   rw[o10 rfl T17 rfl]
   unfold F17 c17
   simp(disch:=first|omega|fail) only[push_cast,seval,ui5,lu7,y81,bj9,wrap64,dec_lt,cw6,nl3,qc6,mr8,nb8,if_pos,if_neg,e0,e0',e2,e3,e7,e8,nb8 h0]
end Go.Proofs.YtlhmdmedagjmnaaGreat
namespace Go.Alg
section
variable {K:Type} [FK K]
end
end Go.Alg
namespace Go.Alg
section
variable {K:Type} [FK K]
def ev:List K→K→K
 | [],_=>0
 |a::l,x=>a+x*ev l x
def sd(x0:K):List K→List K×K
 | []=>([],0)
 | [a]=>([],a)
 |a::b::l=>((sd x0 (b::l)).2::(sd x0 (b::l)).1,a+x0*(sd x0 (b::l)).2)
theorem w89(x0:K): ∀l:List K,(sd x0 l).1.length=l.length-1
 | []=>rfl
 | [a]=>rfl
 |a::b::l=>by
  rw[sd]
  show(sd x0 (b::l)).1.length+1=_
  rw[w89 x0 (b::l)];simp
theorem n68(x0 y:K): ∀l:List K,ev l y=(y-x0)*ev (sd x0 l).1 y+(sd x0 l).2
 | []=>by rw[sd,ev,mul_zero,FK.add_zero]
 | [a]=>by
   show a+y*0=(y-x0)*0+a
   rw[mul_zero,mul_zero,FK.add_zero,zero_add]
 |a::b::l=>by
  rw[ev,n68 x0 y (b::l),sd]
  show a+y*((y-x0)*ev (sd x0 (b::l)).1 y+(sd x0 (b::l)).2)=(y-x0)*((sd x0 (b::l)).2+y*ev (sd x0 (b::l)).1 y)+(a+x0*(sd x0 (b::l)).2)
  generalize (sd x0 (b::l)).2=r
  generalize ev (sd x0 (b::l)).1 y=e
  rw[FK.mul_add,FK.mul_add,sub_mul y x0 r]
  have h1:y*((y-x0)*e)=(y-x0)*(y*e):=by ac_rfl
  rw[h1,sub_eq (y*r)]
  have h2:y*r+ -(x0*r)+(y-x0)*(y*e)+(a+x0*r)=a+((y-x0)*(y*e)+y*r)+(-(x0*r)+x0*r):=by ac_rfl
  rw[h2,neg_add,FK.add_zero]
theorem cz6(x0:K)(l:List K):(sd x0 l).2=ev l x0:=by
 have:=n68 x0 x0 l
 rw[sub_self,zero_mul,zero_add]at this
 exact this.symm
theorem rj2(x0:K): ∀l:List K,(∀c∈(sd x0 l).1,c=0)→(sd x0 l).2=0→ ∀c∈l,c=0
 | [],_,_,c,hc=>by cases hc
 | [a],_,h,c,hc=>by
   rw[List.mem_singleton.1 hc];exact h
 |a::b::l,h1,h2,c,hc=>by
  rw[sd]at h1 h2
  have hr:(sd x0 (b::l)).2=0:=h1 _ (by simp)
  have ih:=rj2 x0 (b::l) (fun c hc=>h1 c (by simp[hc])) hr
  rcases List.mem_cons.1 hc with rfl|hc
  ·rw[hr,mul_zero,FK.add_zero]at h2;exact h2
  ·exact ih c hc
theorem roots: ∀(xs:List K) (f:List K),xs.Nodup→f.length≤xs.length→(∀x∈xs,ev f x=0)→ ∀c∈f,c=0
 | [],f,_,hl,_=>by
   intro c hc
   rw[List.eq_nil_of_length_eq_zero (Nat.le_zero.1 hl)]at hc;cases hc
 |x0::xs,f,hn,hl,hx=>by
  rw[List.nodup_cons]at hn
  have h0:=hx x0 (by simp)
  rw[←cz6]at h0
  have hl2:=w89 x0 f
  rw[List.length_cons]at hl
  refine rj2 x0 f (roots xs _ hn.2 (by omega) fun y hy=> ?_) h0
  have h1:=n68 x0 y f
  rw[hx y (by simp[hy]),h0,FK.add_zero]at h1
  rcases mul_eq_zero h1.symm with h2|h2
  ·exact absurd (by rw[←sub_eq_zero.1 h2];exact hy) hn.1
  ·exact h2
end
end Go.Alg
namespace Go.Alg
section
variable {K:Type} [FK K]
end
end Go.Alg
namespace Go.Proofs.YtlhmdmedagjmnaaGreat
open Go.Am Go.Vm Go.Alg
section
variable {q:Int} {b:Bool} {nl:Nat} {l:List Int}
end
section
variable {q:Int} [IsFld q] {b:Bool} {nl:Nat} {a:List (El q)}
end
end Go.Proofs.YtlhmdmedagjmnaaGreat
namespace Go.Alg
section
variable {K:Type} [FK K]
end
end Go.Alg
namespace Go.Proofs.YtlhmdmedagjmnaaGreat
open Go.Am Go.Vm Go.Alg
section
variable {q:Int} {b b':Bool} {nl nl':Nat}
end
end Go.Proofs.YtlhmdmedagjmnaaGreat
namespace Go.Proofs.YtlhmdmedagjmnaaGreat
open Go.Am Go.Vm Go.Alg
section
variable {q:Int} {b b':Bool} {nl nl':Nat}
end
end Go.Proofs.YtlhmdmedagjmnaaGreat
namespace Go.Alg
section
variable {K:Type} [FK K]
open Classical in
end
end Go.Alg
namespace Go.Alg
section
variable {K:Type} [FK K]
end
end Go.Alg
namespace Go.Proofs.YtlhmdmedagjmnaaGreat
open Go.Am Go.Vm Go.Alg
section
variable {raw:List Int} {b:Bool} {nl:Nat}
end
def apN(a c:List Int):Nat:=((a.zip c).filter fun p=>decide (p.1≠p.2)).length
theorem pc5(x y:Int)(a c:List Int):apN (x::a) (y::c)=apN a c+if x=y then 0 else 1:=by
 unfold apN
 rw[List.zip_cons_cons,List.filter_cons]
 by_cases h:x=y
 ·rw[if_neg (by simp[h]),if_pos h];rfl
 ·rw[if_pos (by simp[h]),if_neg h];rfl
section
variable {a c:List Int} {b b':Bool} {nl nl':Nat}
end
end Go.Proofs.YtlhmdmedagjmnaaGreat
namespace Go.Proofs.YtlhmdmedagjmnaaGreat
open Go.Am Go.Vm Go.Alg
theorem pm5{r m:Nat}(hm:m≤5)(hr:r≤m)(w c:Nat→Bool)(he:2*offB m w (cj7 r m c)<2^(m-r)){s:Nat}(hs:s∈monN r m):ua6 r m w s=c s:=by
 have hsr:=(lu9.1 hs).1
 unfold ua6
 have hl:mq3 r m w (r-popT s)=fun x=>(w x^^cj7 r m c x)^^xorL (monN r m) fun t=>(decide (popT t≤popT s)&&c t)&&inM t x:=by
  funext y
  rw[kk1 hm hr w c he (r-popT s) (by omega) y,cj7,Bool.xor_assoc,←lq7]
  congr 1
  refine r85 fun t ht=> ?_
  by_cases h2:r<popT t+(r-popT s)
  ·rw[decide_eq_true h2,decide_eq_false (show¬popT t≤popT s by omega)];simp
  ·rw[decide_eq_false h2,decide_eq_true (show popT t≤popT s by omega)];simp
 rw[hl]
 exact bc5 hm hr _ c hs he
theorem az9{p p':Nat→Bool}{k:Nat}(h: ∀x,x≠k→p' x=p x): ∀l:List Nat,l.Nodup→(l.filter p').length≤(l.filter p).length+1
 | [],_=>by simp
 |a::l,hn=>by
  rw[List.nodup_cons]at hn
  rw[List.filter_cons,List.filter_cons]
  by_cases ha:a=k
  ·subst ha
   have hs:l.filter p'=l.filter p:=List.filter_congr fun x hx=>h x fun e=>hn.1 (e▸hx)
   rw[hs]
   split<;>split<;>(try simp only[List.length_cons])<;>omega
  ·rw[h a ha]
   have:=az9 h l hn.2
   split<;>(try simp only[List.length_cons])<;>omega
def dj5(f:Nat→Bool)(k x:Nat):Bool:=if x=k then !f x else f x
theorem qr7(m:Nat)(f g:Nat→Bool)(k:Nat):offB m g (dj5 f k)≤offB m g f+1:=by
 unfold offB
 exact az9 (k:=k) (fun x hx=>by unfold dj5;rw[if_neg hx]) _ List.nodup_range
theorem g84(m:Nat)(f:Nat→Bool):offB m f f=0:=by
 unfold offB
 rw[List.filter_eq_nil_iff.2 fun x _=>by rw[Bool.xor_self];decide];rfl
theorem wk3(f g:Nat→Bool): ∀l:List Nat,apN (l.map fun x=>bU (f x)) (l.map fun x=>bU (g x))=(l.filter fun x=>f x^^g x).length
 | []=>rfl
 |a::l=>by
  rw[List.map_cons,List.map_cons,pc5,wk3 f g l,List.filter_cons]
  cases f a<;>cases g a<;>simp[bU]
theorem yq4(m:Nat)(f g:Nat→Bool):apN (wU (2^m) f) (wU (2^m) g)=offB m f g:=wk3 f g _
def wd1(raw:List Int)(j:Int):Int:=if 1<pkI (rwI raw j) 4 then pkI (rwI raw j) 4-2 else pkI (rwI raw j) 4
def wdV(raw:List Int)(frm:Int)(n:Nat):List Int:=(List.range n).map fun i:Nat=>wd1 raw (frm+i)
theorem c31(raw:List Int)(frm:Int)(n:Nat):(wdV raw frm n).length=n:=by simp[wdV]
theorem ri0(raw:List Int)(frm:Int)(n:Nat):wdV raw frm (n+1)=wdV raw frm n++[wd1 raw (frm+n)]:=by unfold wdV;rw[List.range_succ,List.map_append];rfl
theorem uz0(raw:List Int)(j:Int):wd1 raw j=0∨wd1 raw j=1:=by
 have:=h59 (a:=rwI raw j) (n:=4) (by omega)
 unfold wd1
 split<;>omega
theorem nw6(raw:List Int)(frm:Int)(n:Nat):(wdV raw frm n).all bitU=true:=List.all_eq_true.2 fun z hz=>by
 obtain⟨i,_,rfl⟩:=List.mem_map.1 hz
 unfold bitU
 rcases uz0 raw (frm+(i:Int))with h|h<;>rw[h]<;>decide
section
variable {b b':Bool} {nl nl':Nat} {raw:List Int}
theorem g11(hrl:raw.length≤9223372036854775807){frm:Int}(hf0:0≤frm)(hf1:frm≤1000000){N:Nat}(hN:N≤1000): ∀(d i:Nat),i+d=N→ ∀ks,
 vgoL W ⟨h11,[.tmp 8],0⟩ [0,1,2,3,9,10] c11L0 (.blk 0 [9]::ks) [(0, .fz b (.sl nl 0 1 (ivs raw))),(1, .x (.int .i64 frm)),(2, .x (.int .i64 N)),(3, .x (.bool false)),(9, .own 0 []),(10, .x (.int .i64 i))] [.sl 1 3 1 (ivs (wdV raw frm i))]=
  vgo W ⟨h11,[.tmp 8],0⟩ ks (VFr.of [(9, .own 0 [])]) [.sl 1 3 1 (ivs (wdV raw frm N))]
 |0,i,hi,ks=>by
  obtain rfl:i=N:=by omega
  rw[sb5 c11L0.eq_def]
  simp(disch:=first|omega|fail) only[push_cast,seval,ui5,lu7,y81,bj9,wrap64,dec_lt,cw6,nl3,qc6,mr8,nb8,if_pos,if_neg]
 |d+1,i,hi,ks=>by
  have ih:=g11 hrl hf0 hf1 hN d (i+1) (by omega) ks
  have e1:=fun b nl=>yc3 (b:=b) (nl:=nl) (raw:=raw) (i:=frm+i) (by omega) hrl
  have hri:=bd0 (l:=raw) (i:=frm+i) (by omega) (by omega)
  have e2:=s88 (n:=4) hri.1 hri.2 (by omega)
  have hp:=h59 (a:=rwI raw (frm+i)) (n:=4) (by omega)
  have hl:=c31 raw frm i
  rw[Int.natCast_add,Int.natCast_one,ri0,wd1]at ih
  rw[←ih,sb5 c11L0.eq_def]
  by_cases h:1<pkI (rwI raw (frm+i)) 4
  ·rw[if_pos h]
   simp(disch:=first|omega|fail) only[push_cast,seval,ui5,lu7,y81,bj9,wrap64,dec_lt,cw6,nl3,qc6,mr8,nb8,if_pos,if_neg,e1,e2,hl,dec_lt h]
  ·rw[if_neg h]
   simp(disch:=first|omega|fail) only[push_cast,seval,ui5,lu7,y81,bj9,wrap64,dec_lt,cw6,nl3,qc6,mr8,nb8,if_pos,if_neg,e1,e2,hl,cw6 (Int.not_lt.1 h)]
theorem en9(hrl:raw.length≤9223372036854775807){frm:Int}(hf0:0≤frm)(hf1:frm≤1000000){N:Nat}(hN:N≤1000):o24 W 11 [.fz b (.sl nl 0 1 (ivs raw)), .x (.int .i64 frm), .x (.int .i64 N), .x (.bool false)] []=some (.own 0 [],[.sl 1 3 1 (ivs (wdV raw frm N))],[]):=by
 have e:=fun ks=>g11 (b:=b) (nl:=nl) hrl hf0 hf1 hN N 0 (by omega) ks
 rw[show wdV raw frm 0=[]from rfl]at e
 simp only[Int.natCast_zero,List.take_zero,List.drop_zero,rp2,lz6,x25,List.map_nil,List.length_nil]at e
 rw[o10 rfl T11 rfl]
 unfold F11 c11
 simp(disch:=first|omega|fail) only[push_cast,seval,ui5,lu7,y81,bj9,wrap64,dec_lt,cw6,nl3,qc6,mr8,nb8,if_pos,if_neg]
 rw[e]
 simp(disch:=first|omega|fail) only[push_cast,seval,ui5,lu7,y81,bj9,wrap64,dec_lt,cw6,nl3,qc6,mr8,nb8,if_pos,if_neg]
variable {a c:List Int}
theorem uo5(hc:c.length=a.length)(ha:a.length≤1000000): ∀(d i n:Nat),i+d=a.length→n≤i→ ∀ks,
 vgoL W ⟨hNo,[.tmp 4],0⟩ [0,1,5,6] c30L0 (.blk 0 [5]::ks) [(0, .fz b (.sl nl 0 1 (ivs a))),(1, .fz b' (.sl nl' 0 1 (ivs c))),(5, .x (.int .i64 n)),(6, .x (.int .i64 i))] []=
  vgo W ⟨hNo,[.tmp 4],0⟩ ks (VFr.of [(5, .x (.int .i64 (n+apN (a.drop i) (c.drop i):Nat)))]) []
 |0,i,n,hi,hn,ks=>by
  rw[oh9 (by omega),sb5 c30L0.eq_def]
  show _=vgo W ⟨hNo,[.tmp 4],0⟩ ks (VFr.of [(5, .x (.int .i64 (n+0:Nat)))]) []
  rw[Nat.add_zero]
  simp(disch:=first|omega|fail) only[push_cast,seval,ui5,lu7,y81,bj9,wrap64,dec_lt,cw6,nl3,qc6,mr8,nb8,if_pos,if_neg]
 |d+1,i,n,hi,hn,ks=>by
  obtain⟨x,hx⟩:=ge6 (l:=a) (i:=i) (by omega)
  obtain⟨y,hy⟩:=ge6 (l:=c) (i:=i) (by omega)
  have h1:=iat hx
  have h2:=iat hy
  have ih:=uo5 hc ha d (i+1) (n+if x=y then 0 else 1) (by omega) (by split<;>omega) ks
  rw[i62 hx,i62 hy,pc5]
  rw[Nat.add_assoc,Nat.add_comm (if x=y then 0 else 1)]at ih
  rw[←ih,sb5 c30L0.eq_def]
  by_cases h:x=y
  ·rw[if_pos h,Nat.add_zero,Int.natCast_add,Int.natCast_one]
   simp(disch:=first|omega|fail) only[push_cast,seval,ui5,lu7,y81,bj9,wrap64,dec_lt,cw6,nl3,qc6,mr8,nb8,if_pos,if_neg,h1,h2,h]
  ·rw[if_neg h,Int.natCast_add,Int.natCast_one,Int.natCast_add,Int.natCast_one]
   simp(disch:=first|omega|fail) only[push_cast,seval,ui5,lu7,y81,bj9,wrap64,dec_lt,cw6,nl3,qc6,mr8,nb8,if_pos,if_neg,h1,h2,nb8 h]
theorem ib2(h:a.length=c.length)(ha:a.length≤1000000):o24 W 30 [.fz b (.sl nl 0 1 (ivs a)), .fz b' (.sl nl' 0 1 (ivs c))] []=some (.x (.int .i64 (apN a c)),[],[]):=by
 have e:=fun ks=>uo5 (b:=b) (nl:=nl) (b':=b') (nl':=nl') h.symm ha a.length 0 0 (by omega) (by omega) ks
 rw[List.drop_zero,List.drop_zero,Nat.zero_add]at e
 simp only[Int.natCast_zero]at e
 rw[o10 rfl T30 rfl]
 unfold F30 c30
 simp(disch:=first|omega|fail) only[push_cast,seval,ui5,lu7,y81,bj9,wrap64,dec_lt,cw6,nl3,qc6,mr8,nb8,if_pos,if_neg,h]
 rw[e]
 simp(disch:=first|omega|fail) only[push_cast,seval,ui5,lu7,y81,bj9,wrap64,dec_lt,cw6,nl3,qc6,mr8,nb8,if_pos,if_neg]
end
theorem za0(l:List Nat)(c:Nat→Bool):msg l c=msgU l c:=rfl
theorem wl_U(N:Nat)(f:Nat→Bool):wl N f=wU N f:=rfl
section
variable {r m:Nat} {f c:Nat→Bool} {b:Bool} {nl:Nat}
theorem c85(hr:r≤5)(hm:m≤5):(monN r m).length≤1000:=by
 rw[←s42]
 have:=cs8 m (r+1)
 have:=Nat.mul_le_mul (show r+1≤6 by omega) (t87 hm)
 omega
theorem my9(hr:r≤m)(h1:1≤m)(hm:m≤5)(hf: ∀x,2^m≤x→f x=false)(he:2*offD r m f<2^(m-r)):
 o24 W 18 [.x (.int .i64 r), .x (.int .i64 m), .fz b (.sl nl 0 1 (ivs (wU (2^m) f)))] []=some (.x (.bool true),[],[]):=by
 have hN:=t87 hm
 have hz:mulV (r:Int) (m:Int)=0:=kk2 hr h1 hm
 have e0:=rp3 (r:=(r:Int)) (m:=(m:Int))
 rw[hz]at e0
 have hsh:=rz2 hm
 have hwl:=mv5 (2^m) f
 have e1:=fun b nl=>nu7 (l:=wU (2^m) f) (b:=b) (nl:=nl) (by omega)
 have hb:(wU (2^m) f).all bitU=true:=List.all_eq_true.2 fun z hz=>by
  obtain⟨x,_,rfl⟩:=List.mem_map.1 hz
  cases f x<;>rfl
 rw[hb]at e1
 have e2:=fun b nl=>fx5 (b:=b) (nl:=nl) hr hm h1 hf he
 simp only[decR,za0,wl_U]at e2
 have e3:=s68 (r:=r) (m:=m) (by omega) hm
 rw[s42]at e3
 have hll:=c85 (r:=r) (m:=m) (by omega) hm
 have hml:=pc0 (monN r m) (ua6 r m f)
 have hpl:=im5 (monN r m)
 have e4:=fun b nl=>nu7 (l:=msgU (monN r m) (ua6 r m f)) (b:=b) (nl:=nl) (by rw[pc0];omega)
 have hb2:(msgU (monN r m) (ua6 r m f)).all bitU=true:=List.all_eq_true.2 fun z hz=>by
  obtain⟨x,_,rfl⟩:=List.mem_map.1 hz
  cases ua6 r m f x<;>rfl
 rw[hb2]at e4
 have e5:=fun b nl=>xq6 (r:=r) (m:=m) (by omega) hm (c:=ua6 r m f) (b:=b) (nl:=nl)
 have e6:=fun b nl b' nl'=>ib2 (b:=b) (nl:=nl) (b':=b') (nl':=nl') (a:=wU (2^m) (cj7 r m (ua6 r m f))) (c:=wU (2^m) f) (by rw[mv5,mv5]) (by rw[mv5];omega)
 rw[yq4,show offB m (cj7 r m (ua6 r m f)) f=offD r m f from rfl]at e6
 obtain⟨K,hK⟩: ∃K,K=m-r:=⟨_,rfl⟩
 have hmr:(m:Int)-(r:Int)=(K:Int):=by omega
 have hs2:=rz2 (m:=K) (by omega)
 have hN2:=t87 (m:=K) (by omega)
 rw[←hK]at he
 have hwl2:=mv5 (2^m) (cj7 r m (ua6 r m f))
 generalize 2^m=N at*
 generalize 2^K=D at*
 generalize offD r m f=O at*
 generalize msgU (monN r m) (ua6 r m f)=Mg at*
 rw[o10 rfl T18 rfl]
 unfold F18 c18
 simp(disch:=first|omega|fail) only[push_cast,seval,ui5,lu7,y81,bj9,wrap64,dec_lt,cw6,nl3,qc6,mr8,nb8,if_pos,if_neg,e0,hsh,hwl,e1,e2,e3,hml,hpl,e4,e5,e6,hmr,hs2]
end
end Go.Proofs.YtlhmdmedagjmnaaGreat
namespace Go.Proofs.YtlhmdmedagjmnaaGreat
open Go.Am Go.Vm Go.Alg
section
variable {raw:List Int} {b:Bool} {nl:Nat}
theorem gl8(hrl:raw.length≤9223372036854775807){r m:Nat}(hr:r≤m)(hm:m≤5){er:Int}(er1: -9223372036854775808≤er)(er2:er≤9223372036854775807){g:Nat→Bool}{E:Nat}(hE:pkI er (((2^(m-r)+1)/2:Nat):Int)=(E:Int)){T:Tree}: ∀(d i:Nat) (f:Nat→Bool),i+d=E→(∀x,2^m≤x→f x=false)→offB m g f≤i→
 ∃f':Nat→Bool,(∀x,2^m≤x→f' x=false)∧offB m g f'≤E∧ ∀ks,
 vgoL W ⟨hNo,[.tmp 8],0⟩ [0,1,2,3,9,10,11] c3L0 (.blk 0 [1,2,9,10]::ks) [(0, .fz b (.sl nl 0 1 (ivs raw))),(1, .x (.int .i64 r)),(2, .x (.int .i64 m)),(3, .x (.int .i64 er)),(9, .own 0 []),(10, .own 1 []),(11, .x (.int .i64 i))] [T, .sl 0 3 1 (ivs (wU (2^m) f))]=
  vgo W ⟨hNo,[.tmp 8],0⟩ ks (VFr.of [(1, .x (.int .i64 r)),(2, .x (.int .i64 m)),(9, .own 0 []),(10, .own 1 [])]) [T, .sl 0 3 1 (ivs (wU (2^m) f'))]:=by
 obtain⟨K,hK⟩: ∃K,K=m-r:=⟨_,rfl⟩
 have hmr:(m:Int)-(r:Int)=(K:Int):=by omega
 have hs2:=rz2 (m:=K) (by omega)
 have hN2:=t87 (m:=K) (by omega)
 have hN:=t87 hm
 have hD0:0<2^K:=Nat.pow_pos (by decide)
 rw[←hK]at hE
 intro d
 induction d with
 |zero=>
  intro i f hi hf ho
  refine⟨f,hf,by omega,fun ks=> ?_⟩
  obtain rfl:i=E:=by omega
  generalize 2^K=D at*
  have hq:((D:Int)+1).tdiv 2=(((D+1)/2:Nat):Int):=by rw[Int.tdiv_eq_ediv_of_nonneg (by omega)];omega
  have hq2:0<(((D+1)/2:Nat):Int):=by omega
  have hq3:(((D+1)/2:Nat):Int)≤100:=by omega
  have e1:=s88 er1 er2 hq2
  rw[hE]at e1
  generalize (((D+1)/2:Nat):Int)=H at*
  rw[sb5 c3L0.eq_def]
  simp(disch:=first|omega|fail) only[push_cast,seval,ui5,lu7,y81,bj9,wrap64,dec_lt,cw6,nl3,qc6,mr8,nb8,if_pos,if_neg,hmr,hs2,hq,e1]
 |succ d IH=>
  intro i f hi hf ho
  have hM0:0<2^m:=Nat.pow_pos (by decide)
  have hri:=bd0 (l:=raw) (i:=50+(i:Int)) (by omega) (by have:=h59 (a:=er) (n:=(((2^K+1)/2:Nat):Int)) (by omega);omega)
  have hiE:(E:Int)≤100:=by have:=h59 (a:=er) (n:=(((2^K+1)/2:Nat):Int)) (by omega);omega
  have e2:=fun b nl=>yc3 (b:=b) (nl:=nl) (raw:=raw) (i:=50+(i:Int)) (by omega) hrl
  have e3:=s88 (a:=rwI raw (50+(i:Int))) (n:=((2^m:Nat):Int)) hri.1 hri.2 (by omega)
  have hk:=h59 (a:=rwI raw (50+(i:Int))) (n:=((2^m:Nat):Int)) (by omega)
  obtain⟨k,hkk⟩: ∃k:Nat,pkI (rwI raw (50+(i:Int))) ((2^m:Nat):Int)=(k:Int):=⟨(pkI (rwI raw (50+(i:Int))) ((2^m:Nat):Int)).toNat,by omega⟩
  rw[hkk]at e3 hk
  have hfo:=qr7 m f g k
  obtain⟨f',h1,h2,h3⟩:=IH (i+1) (dj5 f k) (by omega) (fun x hx=>by unfold dj5;rw[if_neg (by omega),hf x hx]) (by omega)
  refine⟨f',h1,h2,fun ks=> ?_⟩
  have ih:=h3 ks
  have l1:=tv7 (N:=2^m) (x:=k) f (by omega)
  have hw:=d29 (N:=2^m) (i:=k) f (dj5 f k) (by omega) fun x _ hx=>by unfold dj5;rw[if_neg hx]
  rw[show dj5 f k k= !f k by unfold dj5;rw[if_pos rfl]]at hw
  have hbu:=rq9 (f k)
  have hbr:=bf9 (f k)
  have hwl:=mv5 (2^m) f
  rw[Int.natCast_add,Int.natCast_one]at ih
  generalize 2^m=N at*
  generalize 2^K=D at*
  have hq:((D:Int)+1).tdiv 2=(((D+1)/2:Nat):Int):=by rw[Int.tdiv_eq_ediv_of_nonneg (by omega)];omega
  have hq2:0<(((D+1)/2:Nat):Int):=by omega
  have hq3:(((D+1)/2:Nat):Int)≤100:=by omega
  have e1:=s88 er1 er2 hq2
  rw[hE]at e1
  generalize (((D+1)/2:Nat):Int)=H at*
  rw[←ih,sb5 c3L0.eq_def]
  simp(disch:=first|omega|fail) only[push_cast,seval,ui5,lu7,y81,bj9,wrap64,dec_lt,cw6,nl3,qc6,mr8,nb8,if_pos,if_neg,hmr,hs2,hq,e1,e2,e3,l1,hbu,hw,hwl]
theorem oe5(hl:raw.length≤9223372036854775807){r m er:Int}(r1: -9223372036854775808≤r)(r2:r≤9223372036854775807)(m1: -9223372036854775808≤m)(m2:m≤9223372036854775807)(e1: -9223372036854775808≤er)(e2:er≤9223372036854775807):
 o24 W 3 [.fz b (.sl nl 0 1 (ivs raw)), .x (.int .i64 r), .x (.int .i64 m), .x (.int .i64 er)] []=some (.x (.bool true),[],[]):=by
 by_cases h256:256<raw.length
 ·rw[o10 rfl T3 rfl]
  unfold F3 c3
  simp(disch:=first|omega|fail) only[push_cast,seval,ui5,lu7,y81,bj9,wrap64,dec_lt,cw6,nl3,qc6,mr8,nb8,if_pos,if_neg]
 ·have p1:=s88 m1 m2 (show(0:Int)<5 by omega)
  have hp1:=h59 (a:=m) (n:=5) (by omega)
  obtain⟨M,hM⟩: ∃M:Nat,1+pkI m 5=(M:Int):=⟨(1+pkI m 5).toNat,by omega⟩
  have p2:=s88 r1 r2 (show(0:Int)<(M:Int)+1 by omega)
  have hp2:=h59 (a:=r) (n:=(M:Int)+1) (by omega)
  obtain⟨R,hR⟩: ∃R:Nat,pkI r ((M:Int)+1)=(R:Int):=⟨(pkI r ((M:Int)+1)).toNat,by omega⟩
  rw[hR]at p2 hp2
  have h3:R≤M:=by omega
  have h2:M≤5:=by omega
  have h1:1≤M:=by omega
  have a1:=s68 (r:=R) (m:=M) (by omega) h2
  rw[s42]at a1
  have hpl:=im5 (monN R M)
  have hll:=c85 (r:=R) (m:=M) (by omega) h2
  have a2:=fun b nl=>en9 (b:=b) (nl:=nl) (raw:=raw) hl (frm:=0) (by omega) (by omega) (N:=(monN R M).length) hll
  obtain⟨c,hc⟩:=du9 (d04 h3 h2).2 (c31 raw 0 (monN R M).length) (nw6 raw 0 (monN R M).length)
  rw[hc]at a2
  have a3:=fun b nl=>xq6 (r:=R) (m:=M) (by omega) h2 (c:=c) (b:=b) (nl:=nl)
  obtain⟨g,hg⟩: ∃g:Nat→Bool,g=fun x=>decide (x<2^M)&&cj7 R M c x:=⟨_,rfl⟩
  have hgw:wU (2^M) (cj7 R M c)=wU (2^M) g:=x70 fun x hx=>by rw[hg];simp[hx]
  rw[hgw]at a3
  have hgo: ∀f,offB M g f=offB M (cj7 R M c) f:=fun f=>by
   unfold offB
   refine congrArg List.length (List.filter_congr fun x hx=> ?_)
   rw[hg];simp[List.mem_range.1 hx]
  have hD0:0<2^(M-R):=Nat.pow_pos (by decide)
  have hpe:=h59 (a:=er) (n:=(((2^(M-R)+1)/2:Nat):Int)) (by omega)
  obtain⟨E,hE⟩: ∃E:Nat,pkI er (((2^(M-R)+1)/2:Nat):Int)=(E:Int):=⟨(pkI er (((2^(M-R)+1)/2:Nat):Int)).toNat,by omega⟩
  obtain⟨f',v1,v2,v3⟩:=gl8 (b:=b) (nl:=nl) hl h3 h2 e1 e2 (g:=g) hE (T:= .sl 1 3 1 (ivs (msgU (monN R M) c))) E 0 g (by omega) (fun x hx=>by rw[hg];simp;omega) (by rw[g84];exact Nat.le_refl _)
  rw[hgo,lk4]at v2
  have hlt:2*offB M f' (cj7 R M c)<2^(M-R):=by omega
  have hnear:2*offD R M f'<2^(M-R):=by
   have:=g74 h2 h3 f' c (by rw[lk4];exact hlt)
   rw[this,lk4];exact hlt
  have hmsg:msgU (monN R M) (ua6 R M f')=msgU (monN R M) c:=List.map_congr_left fun s hs=>by rw[pm5 h2 h3 f' c hlt hs]
  have a4:=fun b nl=>fx5 (b:=b) (nl:=nl) h3 h2 h1 v1 hnear
  simp only[decR,za0,wl_U,hmsg]at a4
  have a5:=fun b nl b' nl'=>nb2 (b:=b) (nl:=nl) (b':=b') (nl':=nl') (l:=msgU (monN R M) c) (k:=msgU (monN R M) c) (by rw[pc0];omega)
  rw[decide_eq_true (rfl:msgU (monN R M) c=msgU (monN R M) c)]at a5
  have a6:=fun b nl=>bv2 (b:=b) (nl:=nl) (w:=msgU (monN R M) c) (r:=(R:Int)) (m:=(M:Int)) (by rw[pc0];omega)
  have a7:=fun b nl=>my9 (b:=b) (nl:=nl) h3 h1 h2 v1 hnear
  simp only[Int.natCast_zero]at v3
  generalize msgU (monN R M) c=Mg at*
  generalize (monN R M).length=L at*
  rw[o10 rfl T3 rfl]
  unfold F3 c3
  simp(disch:=first|omega|fail) only[push_cast,seval,ui5,lu7,y81,bj9,wrap64,dec_lt,cw6,nl3,qc6,mr8,nb8,if_pos,if_neg,p1,hM,p2,a1,hpl,a2,a3]
  rw[v3]
  simp(disch:=first|omega|fail) only[push_cast,seval,ui5,lu7,y81,bj9,wrap64,dec_lt,cw6,nl3,qc6,mr8,nb8,if_pos,if_neg,a4,a5,a6,a7]
end
end Go.Proofs.YtlhmdmedagjmnaaGreat
namespace Go.Proofs.YtlhmdmedagjmnaaGreat
open Go.Am Go.Vm Go.Alg
section
variable {h:H} {l:List AV} {ws:List Value}
theorem a23:Vm.VRL h [] (allZ h) (allZ h) [] []:=by rw[Vm.VRL]
theorem dp0(r:Vm.VRL h [] (allZ h) (allZ h) l ws)(v:Value):Vm.VRL h [] (allZ h) (allZ h) (.x v::l) (v::ws):=by
 rw[Vm.VRL];exact⟨v,ws,rfl,by rw[Vm.VR],r⟩
theorem qj4{sa:Option Addr}{c:Nat}{zs:List Int}(hr:RdI h sa c zs): ∀o,sa.map (·.block)=some o→allZ h o:=fun o ho=>by
 rcases hr with⟨rfl,_⟩|⟨_,o2,off,r2,rfl,h1,_⟩
 ·cases ho
 ·cases ho;exact h42 h1
theorem sk6(r:Vm.VRL h [] (allZ h) (allZ h) l ws){sa:Option Addr}{c:Nat}{zs:List Int}(hr:RdI h sa c zs):Vm.VRL h [] (allZ h) (allZ h) (.fz true (.sl 2 0 1 (ivs zs))::l) (.slice sa zs.length c::ws):=by
 rw[Vm.VRL];exact⟨_,ws,rfl,by rw[Vm.VR];exact pd9 hr (qj4 hr),r⟩
end
end Go.Proofs.YtlhmdmedagjmnaaGreat
namespace Go.Proofs.YtlhmdmedagjmnaaGreat
open Go.Am Go.Vm Go.Alg
theorem l82(h:H)(s0:Option Addr)(c0:Nat)(z0:List Int)(r0:RdI h s0 c0 z0)(_:ss4 h 1 s0=true)(_:z0.length≤9223372036854775807)(a1:Int)(_: -9223372036854775808≤a1)(_:a1≤9223372036854775807)(a2:Int)(_: -9223372036854775808≤a2)(_:a2≤9223372036854775807)(a3:Int)(_: -9223372036854775808≤a3)(_:a3≤9223372036854775807):
 ∃h',call T 3 [.slice s0 z0.length c0, .int .i64 a1, .int .i64 a2, .int .i64 a3] h=some (.bool true,h'):=
 vlaw lw2 (sk6 (dp0 (dp0 (dp0 a23 _) _) _) r0) (by apply oe5<;>assumption)
end Go.Proofs.YtlhmdmedagjmnaaGreat
