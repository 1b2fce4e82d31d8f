/-
  Rows one by one into what there is: plain algebra. No condition. Two codes: their sum, what both have, in the second machine. Conditions: those of each theorem. The law of two codes answers true, in the second machine. Condition: arguments as Go has them. Raw numbers turned to elements, lists and matrices; sizes of fields; in the second machine. Conditions: those of each theorem. Codes out of raw  ..
-/
import Derived.Test.YtlhmdmedagjmnaaK7
set_option linter.unusedVariables false
set_option linter.unusedSimpArgs false
set_option linter.unusedSectionVars false
set_option maxRecDepth 100000
namespace Go.Alg
section
variable {K:Type} [FK K] {n:Nat}
theorem f90{A X Y:List (List K)}(h: ∀w,Span (X.map wf) w↔Span (Y.map wf) w)(w:Nat→K):Span ((A++X).map wf) w↔Span ((A++Y).map wf) w:=by
 have key: ∀{X Y:List (List K)},(∀w,Span (X.map wf) w↔Span (Y.map wf) w)→Span ((A++X).map wf) w→Span ((A++Y).map wf) w:=by
  intro X Y h hs
  refine hs.trans fun r hr=> ?_
  rw[List.map_append]at hr⊢
  rcases List.mem_append.1 hr with hr|hr
  ·exact .mem (List.mem_append_left _ hr)
  ·exact((h r).1 (.mem hr)).mono fun x hx=>List.mem_append_right _ hx
 exact⟨key h,key fun w=>(h w).symm⟩
omit [FK K] in
theorem rl5{M N:List (List K)}(hM: ∀m∈M,m.length=n)(hN: ∀m∈N,m.length=n): ∀m∈M++N,m.length=n:=fun m hm=>(List.mem_append.1 hm).elim (hM m) (hN m)
theorem mr3{M:List (List K)}(hM: ∀m∈M,m.length=n)(w:Nat→K):Span ((p78 (redR M)).map wf) w↔Span (M.map wf) w:=by
 rw[z42];exact(bi2 hM).2.2 w
theorem rx4{M N:List (List K)}(hM: ∀m∈M,m.length=n)(hN: ∀m∈N,m.length=n):redR (p78 (redR M)++N)=redR (M++N):=by
 refine rp5 (n:=n) (rl5 (zu4 (bi2 hM).2.1) hN) (rl5 hM hN) fun w=> ?_
 have key: ∀{X Y:List (List K)},(∀w,Span (X.map wf) w↔Span (Y.map wf) w)→Span ((X++N).map wf) w→Span ((Y++N).map wf) w:=by
  intro X Y h hs
  refine hs.trans fun r hr=> ?_
  rw[List.map_append]at hr⊢
  rcases List.mem_append.1 hr with hr|hr
  ·exact((h r).1 (.mem hr)).mono fun x hx=>List.mem_append_left _ hx
  ·exact .mem (List.mem_append_right _ hr)
 exact⟨key (mr3 hM),key fun w=>(mr3 hM w).symm⟩
theorem gl3{M N:List (List K)}(hM: ∀m∈M,m.length=n)(hN: ∀m∈N,m.length=n):redR (M++p78 (redR N))=redR (M++N):=
 rp5 (n:=n) (rl5 hM (zu4 (bi2 hN).2.1)) (rl5 hM hN) (f90 (mr3 hN))
theorem c38{M:List (List K)}(hM: ∀m∈M,m.length=n)(h:(redR M).length=n):redR M=pn7 n:=by
 have h1:=(sw1 hM).2.2.2
 have h2:zt5 n M=[]:=List.eq_nil_of_length_eq_zero (by omega)
 have h3:=m63 hM
 rw[h2]at h3
 rw[←h3]
 exact xt7 (M:=[]) rfl
theorem a44{M N:List (List K)}(hM: ∀m∈M,m.length=n)(hN: ∀m∈N,m.length=n)(h:(redR M).length=n):redR (M++N)=redR M:=by
 have hA:=rl5 hM hN
 obtain⟨a1,a2,a3⟩:=bi2 hM
 obtain⟨b1,b2,b3⟩:=bi2 hA
 have h1:=a1.le (R:=rowsOf (toF (redR (M++N)))) fun w hw=>(b3 w).2 (((a3 w).1 hw).mono fun x hx=>by rw[List.map_append];exact List.mem_append_left _ hx)
 have h2:=b1.len
 have e1:(toF (redR M)).length=(redR M).length:=by simp[toF]
 have e2:(toF (redR (M++N))).length=(redR (M++N)).length:=by simp[toF]
 have e3:(rowsOf (toF (redR (M++N)))).length=(redR (M++N)).length:=by simp[rowsOf,toF]
 rw[c38 hM h,c38 hA (by omega)]
theorem th7{A B:List (Nat→K)}{w:Nat→K}(h:Span (A++B) w): ∃a b,Span A a∧Span B b∧w=fun k=>a k+b k:=by
 refine h.lin (P:=fun w=> ∃a b,Span A a∧Span B b∧w=fun k=>a k+b k) ?_ ?_ ?_
 ·exact⟨fun _=>0,fun _=>0, .zero, .zero,by funext k;exact(FK.add_zero _).symm⟩
 ·rintro u r c ⟨a,b,h1,h2,rfl⟩ ⟨a',b',h3,h4,rfl⟩
  refine⟨Alg.axp c a a',Alg.axp c b b',h1.axp h3 c,h2.axp h4 c, ?_⟩
  funext k
  show a k+b k+c*(a' k+b' k)=a k+c*a' k+(b k+c*b' k)
  rw[FK.mul_add,add4]
 ·intro r hr
  rcases List.mem_append.1 hr with hr|hr
  ·exact⟨r,fun _=>0, .mem hr, .zero,by funext k;exact(FK.add_zero _).symm⟩
  ·exact⟨fun _=>0,r, .zero, .mem hr,by funext k;exact(zero_add _).symm⟩
def pr(n:Nat)(u v:Nat→K):Nat→K:=fun i=>if i<n then u i else v (i-n)
theorem fj4(n:Nat)(u v u' v':Nat→K)(c:K):Alg.axp c (pr n u v) (pr n u' v')=pr n (Alg.axp c u u') (Alg.axp c v v'):=by
 funext i
 unfold Alg.axp pr
 by_cases h:i<n
 ·simp only[if_pos h]
 ·simp only[if_neg h]
theorem ex7(n:Nat):pr n (fun _=>(0:K)) (fun _=>0)=fun _=>0:=by
 funext i;unfold pr;split<;>rfl
theorem dq5{A R:List (Nat→K)}{n:Nat}{f:(Nat→K)→Nat→K}(hf0:f (fun _=>0)=fun _=>0)(hf: ∀u v c,f (Alg.axp c u v)=Alg.axp c (f u) (f v))(hR: ∀u∈A,pr n u (f u)∈R){u:Nat→K}(h:Span A u):Span R (pr n u (f u)):=by
 refine h.lin (P:=fun u=>Span R (pr n u (f u))) ?_ (fun u r c h1 h2=> ?_) fun r hr=> .mem (hR r hr)
 ·rw[hf0,ex7];exact .zero
 ·rw[hf,←fj4];exact h1.axp h2 c
theorem zh9{A B S D:List (Nat→K)}{n:Nat}(hSi:wu9 S)(hDi:wu9 D)(hS: ∀s∈S,∃a b,Span A a∧Span B b∧s=fun k=>a k+b k)(hD: ∀d∈D,Span A d∧Span B d)(hz: ∀s∈S,∀k,n≤k→s k=0):S.length+D.length≤A.length+B.length:=by
 have hc: ∀s:{s//s∈S},∃a,Span A a∧ ∃b,Span B b∧s.1=fun k=>a k+b k:=fun s=>by
  obtain⟨a,b,h1,h2,h3⟩:=hS s.1 s.2
  exact⟨a,h1,b,h2,h3⟩
 obtain⟨F,hF⟩:=Classical.axiomOfChoice hc
 have hl:S.length+D.length=(S.attach.map (fun s=>pr n s.1 (F s))++D.map fun d=>pr n (fun _=>0) d).length:=by simp
 have hr:A.length+B.length=(A.map (fun u=>pr n u u)++B.map fun u=>pr n u fun _=>0).length:=by simp
 rw[hl,hr]
 have kA: ∀u,Span A u→Span (A.map (fun u=>pr n u u)++B.map fun u=>pr n u fun _=>0) (pr n u u):=fun u hu=>dq5 (f:=fun u=>u) rfl (fun _ _ _=>rfl) (fun x hx=>List.mem_append_left _ (List.mem_map.2 ⟨x,hx,rfl⟩)) hu
 have kB: ∀u,Span B u→Span (A.map (fun u=>pr n u u)++B.map fun u=>pr n u fun _=>0) (pr n u fun _=>0):=fun u hu=>dq5 (f:=fun _ _=>0) rfl (fun u v c=>by funext k;show(0:K)=0+c*0;rw[mul_zero,FK.add_zero]) (fun x hx=>List.mem_append_right _ (List.mem_map.2 ⟨x,hx,rfl⟩)) hu
 refine c82 (fun x hx=> ?_) ?_
 ·rcases List.mem_append.1 hx with hx|hx
  ·obtain⟨s,_,rfl⟩:=List.mem_map.1 hx
   obtain⟨h1,b,h2,h3⟩:=hF s
   have:=(kA _ h1).add (kB _ h2)
   have he:(fun i=>pr n (F s) (F s) i+pr n b (fun _=>0) i)=pr n s.1 (F s):=by
    funext i
    rw[h3]
    unfold pr
    by_cases h:i<n
    ·simp only[if_pos h]
    ·simp only[if_neg h];exact FK.add_zero _
   rw[he]at this
   exact this
  ·obtain⟨d,hd,rfl⟩:=List.mem_map.1 hx
   obtain⟨h1,h2⟩:=hD d hd
   have:=(kA _ h1).axp (kB _ h2) (-1)
   have he:Alg.axp (-1) (pr n d d) (pr n d fun _=>0)=pr n (fun _=>0) d:=by
    rw[fj4]
    congr 1
    ·funext k;show d k+ -1*d k=0;rw[neg_mul,one_mul,FK.add_neg]
    ·funext k;show d k+ -1*0=d k;rw[mul_zero,FK.add_zero]
   rw[he]at this
   exact this
 ·intro y hy h0
  have hsp:y=y.take S.length++y.drop S.length:=(List.take_append_drop _ _).symm
  have h1:(y.take S.length).length=S.length:=by rw[List.length_take,hy,←hl];omega
  have h2:(y.drop S.length).length=D.length:=by rw[List.length_drop,hy,←hl];omega
  generalize y.take S.length=u at hsp h1
  generalize y.drop S.length=w at hsp h2
  subst hsp
  have hk: ∀k,sumL ((u++w).zip (S.attach.map (fun s=>pr n s.1 (F s))++D.map fun d=>pr n (fun _=>0) d)) (fun p=>p.1*p.2 k)=sumL (u.zip S.attach) (fun p=>p.1*pr n p.2.1 (F p.2) k)+sumL (w.zip D) (fun p=>p.1*pr n (fun _=>0) p.2 k):=fun k=>by
   rw[List.zip_append (by simp[h1]),up0,uj4,uj4]
  have hu: ∀a∈u,a=0:=by
   refine hSi u h1 fun k=> ?_
   have hatt:sumL (u.zip S) (fun p=>p.1*p.2 k)=sumL (u.zip S.attach) (fun p=>p.1*p.2.1 k):=by
    have h0:S=S.attach.map Subtype.val:=(List.attach_map_subtype_val S).symm
    conv=>lhs;rw[h0]
    rw[uj4]
   rw[hatt]
   by_cases hkn:k<n
   ·have h3:=h0 k
    rw[hk]at h3
    have e2:sumL (w.zip D) (fun p=>p.1*pr n (fun _=>0) p.2 k)=0:=tx6 fun p _=>by unfold pr;rw[if_pos hkn,mul_zero]
    rw[e2,FK.add_zero]at h3
    rw[←h3]
    exact ox7 fun p _=>by unfold pr;rw[if_pos hkn]
   ·exact tx6 fun p _=>by rw[hz p.2.1 p.2.2 k (by omega),mul_zero]
  have hw: ∀a∈w,a=0:=by
   refine hDi w h2 fun k=> ?_
   have h3:=h0 (k+n)
   rw[hk]at h3
   have e1:sumL (u.zip S.attach) (fun p=>p.1*pr n p.2.1 (F p.2) (k+n))=0:=tx6 fun p hp=>by rw[hu p.1 (List.of_mem_zip hp).1,zero_mul]
   rw[e1,zero_add]at h3
   rw[←h3]
   exact ox7 fun p _=>by unfold pr;rw[if_neg (by omega),Nat.add_sub_cancel]
  intro a ha
  exact(List.mem_append.1 ha).elim (hu a) (hw a)
theorem xm9{M:List (List K)}(hM: ∀m∈M,m.length=n):(redR (p78 (zt5 n M))).length=(zt5 n M).length:=by rw[tq6 hM]
theorem yl2{M:List (List K)}(hM: ∀m∈M,m.length=n){w:Nat→K}(h:Span (M.map wf) w){k:Nat}(hk:n≤k):w k=0:=by
 refine h.lin (P:=fun w=>w k=0) rfl (fun u r c h1 h2=> ?_) fun r hr=> ?_
 ·show u k+c*r k=0
  rw[h1,h2,mul_zero,FK.add_zero]
 ·obtain⟨m,hm,rfl⟩:=List.mem_map.1 hr
  exact ez8 (by rw[hM m hm];exact hk)
theorem x88{M N:List (List K)}(hM: ∀m∈M,m.length=n)(hN: ∀m∈N,m.length=n):(redR (M++N)).length+(zt5 n (p78 (zt5 n M)++p78 (zt5 n N))).length≤(redR M).length+(redR N).length:=by
 obtain⟨a1,a2,a3⟩:=bi2 hM
 obtain⟨b1,b2,b3⟩:=bi2 hN
 obtain⟨s1,s2,s3⟩:=bi2 (rl5 hM hN)
 obtain⟨u1,u2,u3,u4⟩:=sw1 hM
 obtain⟨v1,v2,v3,v4⟩:=sw1 hN
 have hn:=rl5 (zu4 u2) (zu4 v2)
 obtain⟨d1,d2,d3,d4⟩:=sw1 hn
 have e: ∀A:List (Nat×List K),(rowsOf (toF A)).length=A.length:=fun A=>by simp[rowsOf,toF]
 have:=zh9 (A:=rowsOf (toF (redR M))) (B:=rowsOf (toF (redR N))) (S:=rowsOf (toF (redR (M++N)))) (D:=rowsOf (toF (zt5 n (p78 (zt5 n M)++p78 (zt5 n N))))) (n:=n) s1.indep d1.indep (fun s hs=> ?_) (fun d hd=> ?_) (fun s hs k hk=>yl2 (rl5 hM hN) ((s3 s).1 (.mem hs)) hk)
 ·rwa [e,e,e,e]at this
 ·have h1:=(s3 s).1 (.mem hs)
  rw[List.map_append]at h1
  obtain⟨a,b,h2,h3,h4⟩:=th7 h1
  exact⟨a,b,(a3 a).2 h2,(b3 b).2 h3,h4⟩
 ·obtain⟨h1,h2⟩:=(d3 d).1 (.mem hd)
  have key: ∀{X:List (List K)},(∀m∈X,m.length=n)→(∀m∈p78 (zt5 n X),dotF n (wf m) d=0)→Span (rowsOf (toF (redR X))) d:=fun{X} hX h=>by
   obtain⟨x1,x2,x3,x4⟩:=sw1 hX
   obtain⟨y1,y2,y3,y4⟩:=sw1 (zu4 x2)
   have:=(y3 d).2 ⟨h1,h⟩
   rwa [m63 hX]at this
  exact⟨key hM fun m hm=>h2 m (List.mem_append_left _ hm),key hN fun m hm=>h2 m (List.mem_append_right _ hm)⟩
theorem jk9{M N:List (List K)}(hM: ∀m∈M,m.length=n)(hN: ∀m∈N,m.length=n):(redR (M++N)).length+(zt5 n (p78 (zt5 n M)++p78 (zt5 n N))).length=(redR M).length+(redR N).length:=by
 obtain⟨u1,u2,u3,u4⟩:=sw1 hM
 obtain⟨v1,v2,v3,v4⟩:=sw1 hN
 have hu:=zu4 u2
 have hv:=zu4 v2
 have hn:=rl5 hu hv
 obtain⟨d1,d2,d3,d4⟩:=sw1 hn
 have h1:=x88 hM hN
 have h2:=x88 hu hv
 rw[m63 hM,m63 hN,xm9 hM,xm9 hN]at h2
 have h3:=(sw1 (rl5 (zu4 (bi2 hM).2.1) (zu4 (bi2 hN).2.1))).2.2.2
 rw[gl3 (zu4 (bi2 hM).2.1) hN,rx4 hM hN]at h3
 omega
end
end Go.Alg
namespace Go.Proofs.Ytlhmdmedagjmnaa
open Go.Am Go.Vm Go.Alg
section
variable {q n q' n':Int} {nl nr nl' nr':Nat} {M M':List (List Int)}
def hv3(q n:Int)(M:List (List Int))(q' n':Int)(M':List (List Int)):Int:=if gi9 q n M=0 then(if gi9 q' n' M'=0 then(if q=q'∧n=n' then 0 else 3)else gi9 q' n' M')else gi9 q n M
theorem g77:o24 W 44 [.agg [.x (.int .i64 q), .x (.int .i64 n), .fz true (.sl nl 0 1 (lvs nr M))], .agg [.x (.int .i64 q'), .x (.int .i64 n'), .fz true (.sl nl' 0 1 (lvs nr' M'))]] []=some (.x (.int .i64 (hv3 q n M q' n' M')),[],[]):=by
 have e1:=um1 (q:=q) (n:=n) (M:=M) (nl:=nl) (nr:=nr)
 have e2:=um1 (q:=q') (n:=n') (M:=M') (nl:=nl') (nr:=nr')
 rw[o10 rfl T44 rfl]
 unfold F44 c44 hv3
 by_cases h1:gi9 q n M=0
 ·rw[if_pos h1]
  by_cases h2:gi9 q' n' M'=0
  ·rw[if_pos h2]
   by_cases h3:q=q'
   ·by_cases h4:n=n'
    ·rw[if_pos ⟨h3,h4⟩]
     simp(disch:=first|omega|fail) only[push_cast,seval,ui5,lu7,y81,bj9,wrap64,dec_lt,cw6,nl3,qc6,mr8,nb8,if_pos,if_neg,e1,e2,h1,h2,mr8 h3,mr8 h4]
    ·rw[if_neg fun h=>h4 h.2]
     simp(disch:=first|omega|fail) only[push_cast,seval,ui5,lu7,y81,bj9,wrap64,dec_lt,cw6,nl3,qc6,mr8,nb8,if_pos,if_neg,e1,e2,h1,h2,mr8 h3,nb8 h4]
   ·rw[if_neg fun h=>h3 h.1]
    simp(disch:=first|omega|fail) only[push_cast,seval,ui5,lu7,y81,bj9,wrap64,dec_lt,cw6,nl3,qc6,mr8,nb8,if_pos,if_neg,e1,e2,h1,h2,nb8 h3]
  ·rw[if_neg h2]
   simp(disch:=first|omega|fail) only[push_cast,seval,ui5,lu7,y81,bj9,wrap64,dec_lt,cw6,nl3,qc6,mr8,nb8,if_pos,if_neg,e1,e2,h1,nb8 h2]
 ·rw[if_neg h1]
  simp(disch:=first|omega|fail) only[push_cast,seval,ui5,lu7,y81,bj9,wrap64,dec_lt,cw6,nl3,qc6,mr8,nb8,if_pos,if_neg,e1,nb8 h1]
end
section
variable {q:Int} [IsFld q] {k nl nr nl' nr':Nat} {M B N:List (List (El q))}
theorem df0(M:List (List (El q)))(b:List (El q)):lls 2 (M.map vs)++[Tree.sl 2 3 1 (ivs (vs b))]=lls 2 ((M++[b]).map vs):=by
 rw[ng3,List.map_append];rfl
def jkN:Nat→Nat→List Tree→List Tree
 |0,_,L=>L
 |n+1,i,L=>jkN n (i+1) (L.set i .junk)
theorem e03(L:List (List Int)):(lls 2 L).all Vm.plain=L.isEmpty:=by
 cases L<;>rfl
theorem ij7(h0:0<k)(hk:k≤64)(h1: ∀r∈M,r.length=k)(h2: ∀r∈B,r.length=k)(hB:B.length≤64){X T1:Tree}: ∀(n i nl:Nat) (Lb:List Tree),i+n=B.length→Lb.length=B.length→(∀(j:Nat) b,i≤j→B[j]? =some b→Lb[j]? =some (.sl 2 3 1 (ivs (vs b))))→ ∀ks,
 vgoL W ⟨h10,[(.cell 4 true 3), .tmp 5],0⟩ [2,4,7,32,33,34] c10L0 (.blk 0 [2,4,7]::ks) [(2, .own 0 []),(4, .own 1 []),(7, .own 2 []),(32, .own 3 [2]),(33, .x (.int .i64 B.length)),(34, .x (.int .i64 i))] [.pt 24 [.v (.int .i64 q), .v (.int .i64 k),X],T1, .sl nl 34 1 (lls 2 ((p78 (redR (M++B.take i))).map vs)), .pt 24 [.v (.int .i64 q), .v (.int .i64 k), .sl 2 34 1 Lb]]=
  vgo W ⟨h10,[(.cell 4 true 3), .tmp 5],0⟩ ks (VFr.of [(2, .own 0 []),(4, .own 1 []),(7, .own 2 [])]) [.pt 24 [.v (.int .i64 q), .v (.int .i64 k),X],T1, .sl (if n=0 then nl else 0) 34 1 (lls 2 ((p78 (redR (M++B))).map vs)), .pt 24 [.v (.int .i64 q), .v (.int .i64 k), .sl 2 34 1 (jkN n i Lb)]]
 |0,i,nl,Lb,hi,hL,hb,ks=>by
  rw[List.take_of_length_le (by omega),if_pos rfl,jkN,sb5 c10L0.eq_def]
  simp(disch:=first|omega|fail) only[push_cast,seval,ui5,lu7,y81,bj9,wrap64,dec_lt,cw6,nl3,qc6,mr8,nb8,if_pos,if_neg]
 |n+1,i,nl,Lb,hi,hL,hb,ks=>by
  obtain⟨b,hbi⟩:=ge6 (l:=B) (i:=i) (by omega)
  have l1:=hb i b (Nat.le_refl _) hbi
  have hbl:=h2 b (List.mem_of_getElem? hbi)
  have htk:B.take (i+1)=B.take i++[b]:=by rw[List.take_add_one,hbi];rfl
  have hT: ∀r∈B.take i,r.length=k:=fun r hr=>h2 r (List.mem_of_mem_take hr)
  have hA:=rl5 h1 hT
  obtain⟨a1,a2,a3⟩:=bi2 hA
  have ha:=zu4 a2
  have hlen:(p78 (redR (M++B.take i))).length≤k:=by
   rw[ga9]
   have:=a1.len
   simpa [toF]using this
  have hone: ∀r∈[b],r.length=k:=fun r hr=>by rw[List.mem_singleton.1 hr];exact hbl
  have hred:redR (p78 (redR (M++B.take i))++[b])=redR (M++B.take (i+1)):=by rw[rx4 hA hone,htk,List.append_assoc]
  have ih:=ij7 h0 hk h1 h2 hB (X:=X) (T1:=T1) n (i+1) 0 (Lb.set i .junk) (by omega) (by rw[List.length_set,hL]) (fun j c hj hc=>by rw[List.getElem?_set_ne (by omega)];exact hb j c (by omega) hc) ks
  rw[show(if n=0 then 0 else 0)=0 by split<;>rfl,Int.natCast_add,Int.natCast_one]at ih
  rw[if_neg (by omega),jkN]
  have hfull:k=64→(p78 (redR (M++B.take i))).length=64→redR (p78 (redR (M++B.take i)))=redR (M++B.take (i+1)):=fun e1 e2=>by
   rw[gz7 hA,htk,←List.append_assoc,a44 hA hone (by rw[←ga9,e2,e1])]
  rw[←lo1 (redR (M++List.take (i+1) B))]at ih
  generalize hR:p78 (redR (M++B.take i))=R at*
  have hRm:(R.map vs).length=R.length:=List.length_map _
  by_cases h64:R.length=64
  ·have hmm:List.foldl (mm false) 65 [64]=64:=rfl
   have e1:=fun b nl nr=>lq3 (q:=q) (b:=b) (nl:=nl) (nr:=nr) (N:=R) (n:=k) (by omega) (by omega) ha h0 hk
   rw[hfull (by omega) h64]at e1
   have hll:(lls 2 ((R++[b]).map vs)).take 64=lls 2 (R.map vs):=by
    rw[mm0,List.map_append,List.take_append_of_le_length (by omega),List.take_of_length_le (by omega)]
   rw[←ih,sb5 c10L0.eq_def]
   simp(disch:=first|omega|fail) only[push_cast,seval,ui5,lu7,y81,bj9,wrap64,dec_lt,cw6,nl3,qc6,mr8,nb8,if_pos,if_neg,vbx,l1,hL,hRm,h64,df0,hmm,e1,hll]
  ·have e1:=fun bb nl nr=>lq3 (q:=q) (b:=bb) (nl:=nl) (nr:=nr) (N:=R++[b]) (n:=k) (by simp) (by simp;omega) (rl5 ha hone) h0 hk
   rw[hred]at e1
   have hmin: ¬(64:Int)<(R.length:Int)+1:=by omega
   have hmm:List.foldl (mm false) ((R.length:Int)+1) [64]=(R.length:Int)+1:=by
    show(if(64:Int)<(R.length:Int)+1 then _ else _)=_
    rw[if_neg hmin]
   have hft:List.take ((R.length:Int)+1-0).toNat (List.map vs (R++[b]))=List.map vs (R++[b]):=List.take_of_length_le (by simp)
   have hRl:((R++[b]).map vs).length=R.length+1:=by simp
   rw[←ih,sb5 c10L0.eq_def]
   simp(disch:=first|omega|fail) only[push_cast,seval,ui5,lu7,y81,bj9,wrap64,dec_lt,cw6,nl3,qc6,mr8,nb8,if_pos,if_neg,vbx,l1,hL,hRm,df0,hRl,hmm,hft,e1,cw6 (Int.not_lt.1 hmin)]
theorem g86(hM:gi9 q k (M.map vs)=0)(hN:gi9 q k (N.map vs)=0):hv3 q k (M.map vs) q k (N.map vs)=0:=by
 unfold hv3;rw[if_pos hM,if_pos hN,if_pos ⟨rfl,rfl⟩]
theorem de0(hM:gi9 q k (M.map vs)=0)(hN:gi9 q k (N.map vs)=0)(h0:0<k)(hk:k≤64)(hl:M.length≤64)(hl2:N.length≤64)(h1: ∀r∈M,r.length=k)(h2: ∀r∈N,r.length=k):
 o24 W 10 [.agg [.x (.int .i64 q), .x (.int .i64 k), .fz true (.sl nl 0 1 (lvs nr (M.map vs)))], .agg [.x (.int .i64 q), .x (.int .i64 k), .fz true (.sl nl' 0 1 (lvs nr' (N.map vs)))]] []=some (.tup [.agg [.x (.int .i64 q), .x (.int .i64 k), .own 0 []], .x (.int .i64 0)],[.sl 2 34 1 (lls 2 (pvR (redR (M++N))))],[]):=by
 have e1:=g77 (q:=q) (n:=k) (M:=M.map vs) (q':=q) (n':=k) (M':=N.map vs) (nl:=nl) (nr:=nr) (nl':=nl') (nr':=nr')
 rw[g86 hM hN]at e1
 have e2:=fun nl nr=>ob1 (nl:=nl) (nr:=nr) hM h0 hk hl h1
 have e3:=fun nl nr=>ob1 (nl:=nl) (nr:=nr) hN h0 hk hl2 h2
 have hB:=zu4 (bi2 h2).2.1
 have hBl:(p78 (redR N)).length≤64:=by rw[ga9];have:=ew4 h2;omega
 have hAl:(p78 (redR M)).length≤64:=by rw[ga9];have:=ew4 h1;omega
 have e4:=fun X T1 nl ks=>ij7 (q:=q) h0 hk h1 hB hBl (X:=X) (T1:=T1) (p78 (redR N)).length 0 nl (lls 2 ((p78 (redR N)).map vs)) (by omega) (by rw[qf0,List.length_map]) (fun j b _ hb=>th8 (by rw[List.getElem?_map,hb];rfl)) ks
 rw[List.take_zero,List.append_nil,gl3 h1 h2]at e4
 simp only[Int.natCast_zero]at e4
 rw[lo1]at e2 e3⊢
 have l1:(List.map vs (p78 (redR M))).length=(p78 (redR M)).length:=List.length_map _
 have l2:(List.map vs (p78 (redR N))).length=(p78 (redR N)).length:=List.length_map _
 generalize p78 (redR M)=A at*
 generalize p78 (redR N)=B at*
 rw[o10 rfl T10 rfl]
 unfold F10 c10
 cases hA0:(List.map vs A).isEmpty with
 |true=>
  simp(disch:=first|omega|fail) only[push_cast,seval,ui5,lu7,y81,bj9,wrap64,dec_lt,cw6,nl3,qc6,mr8,nb8,if_pos,if_neg,vbx,e1,e2,e3,l1,l2,e03,hA0]
  rw[e4]
  simp(disch:=first|omega|fail) only[push_cast,seval,ui5,lu7,y81,bj9,wrap64,dec_lt,cw6,nl3,qc6,mr8,nb8,if_pos,if_neg]
 |false=>
  simp(disch:=first|omega|fail) only[push_cast,seval,ui5,lu7,y81,bj9,wrap64,dec_lt,cw6,nl3,qc6,mr8,nb8,if_pos,if_neg,vbx,e1,e2,e3,l1,l2,e03,hA0]
  rw[e4]
  simp(disch:=first|omega|fail) only[push_cast,seval,ui5,lu7,y81,bj9,wrap64,dec_lt,cw6,nl3,qc6,mr8,nb8,if_pos,if_neg]
def p26(k:Nat)(M N:List (List (El q))):List (Nat×List (El q)):=zt5 k (p78 (zt5 k M)++p78 (zt5 k N))
theorem cb6(hM:gi9 q k (M.map vs)=0)(hN:gi9 q k (N.map vs)=0)(h0:0<k)(hk:k≤64)(hl:M.length≤64)(hl2:N.length≤64)(h1: ∀r∈M,r.length=k)(h2: ∀r∈N,r.length=k):
 o24 W 11 [.agg [.x (.int .i64 q), .x (.int .i64 k), .fz true (.sl nl 0 1 (lvs nr (M.map vs)))], .agg [.x (.int .i64 q), .x (.int .i64 k), .fz true (.sl nl' 0 1 (lvs nr' (N.map vs)))]] []=some (.tup [.agg [.x (.int .i64 q), .x (.int .i64 k), .own 0 []], .x (.int .i64 0)],[.sl 2 34 1 (lls 2 (pvR (p26 k M N)))],[]):=by
 have e1:=g77 (q:=q) (n:=k) (M:=M.map vs) (q':=q) (n':=k) (M':=N.map vs) (nl:=nl) (nr:=nr) (nl':=nl') (nr':=nr')
 rw[g86 hM hN]at e1
 have e2:=fun nl nr=>x92 (nl:=nl) (nr:=nr) hM h0 hk hl h1
 have e3:=fun nl nr=>x92 (nl:=nl) (nr:=nr) hN h0 hk hl2 h2
 obtain⟨a1,a2,a3,a4⟩:=sw1 h1
 obtain⟨b1,b2,b3,b4⟩:=sw1 h2
 have hA:=zu4 a2
 have hB:=zu4 b2
 have hAl:(p78 (zt5 k M)).length≤64:=by rw[ga9];omega
 have hBl:(p78 (zt5 k N)).length≤64:=by rw[ga9];omega
 have cA:=tc0 (q:=q) (k:=k) (N:=p78 (zt5 k M)) h0 hk hAl hA (sy6 hAl hA h0 hk)
 have cB:=tc0 (q:=q) (k:=k) (N:=p78 (zt5 k N)) h0 hk hBl hB (sy6 hBl hB h0 hk)
 have e4:=fun nl nr nl' nr'=>de0 (nl:=nl) (nr:=nr) (nl':=nl') (nr':=nr') cA cB h0 hk hAl hBl hA hB
 have hAB:=rl5 hA hB
 obtain⟨s1,s2,s3⟩:=bi2 hAB
 have hSl:(p78 (redR (p78 (zt5 k M)++p78 (zt5 k N)))).length≤64:=by
  rw[ga9]
  have:=s1.len
  have:(redR (p78 (zt5 k M)++p78 (zt5 k N))).length≤k:=by simpa [toF]using this
  omega
 have hS:=zu4 s2
 have cS:=tc0 (q:=q) (k:=k) h0 hk hSl hS (sy6 hSl hS h0 hk)
 have e5:=fun nl nr=>x92 (nl:=nl) (nr:=nr) cS h0 hk hSl hS
 rw[cx8 hAB]at e5
 simp only[lo1]at e2 e3 e4 e5
 rw[lo1]
 unfold p26
 rw[o10 rfl T11 rfl]
 unfold F11 c11
 simp(disch:=first|omega|fail) only[push_cast,seval,ui5,lu7,y81,bj9,wrap64,dec_lt,cw6,nl3,qc6,mr8,nb8,if_pos,if_neg,vbx,e1,e2,e3,e4,e5]
end
end Go.Proofs.Ytlhmdmedagjmnaa
namespace Go.Proofs.Ytlhmdmedagjmnaa
open Go.Am Go.Vm Go.Alg
section
variable {q n q' n':Int} {nl nr nl' nr':Nat} {M M':List (List Int)}
theorem aa7{q:Int}{N:List (List (El q))}{n:Nat}(hr: ∀r∈N,r.length=n)(hn:n≤100000): ∀r∈N.map vs,r.length≤9223372036854775807:=fun c hc=>by
 obtain⟨r,hr',rfl⟩:=List.mem_map.1 hc
 rw[fi2,hr r hr'];omega
end
end Go.Proofs.Ytlhmdmedagjmnaa
namespace Go.Proofs.Ytlhmdmedagjmnaa
open Go.Am Go.Vm Go.Alg
def pkI(a n:Int):Int:=(if a<0 then-(a+1)else a).tmod n
theorem h58{a n:Int}(hn:0<n):0≤pkI a n∧pkI a n<n:=by
 unfold pkI
 split
 ·exact⟨Int.tmod_nonneg _ (by omega),Int.tmod_lt_of_pos _ hn⟩
 ·exact⟨Int.tmod_nonneg _ (by omega),Int.tmod_lt_of_pos _ hn⟩
def rwI(l:List Int)(i:Int):Int:=if l.length=0 then i else IntKind.wrap .i64 (gi l (i.tmod l.length)+IntKind.wrap .i64 (IntKind.wrap .i64 (i.tdiv l.length)*7919))
theorem ti9(x:Int): -9223372036854775808≤IntKind.wrap .i64 x∧IntKind.wrap .i64 x≤9223372036854775807:=by rw[IntKind.wrap_i64];omega
theorem bd0{l:List Int}{i:Int}(h0:0≤i)(h1:i≤9223372036854775807): -9223372036854775808≤rwI l i∧rwI l i≤9223372036854775807:=by
 unfold rwI
 split
 ·omega
 ·exact ti9 _
theorem cl0{l:List Int}{i:Int}(h0:0≤i)(h1:i<l.length):(ivs l)[i.toNat]? =some (.v (.int .i64 (gi l i))):=by
 have e:(ivs l)[i.toNat]? =some (.v (.int .i64 (gi l ((i.toNat:Nat):Int)))):=ui5 (by omega)
 rwa [Int.toNat_of_nonneg h0]at e
theorem o99{x:Int}(h0:0≤x){n:Int}(h:x<n): ∃k:Nat,x=(k:Int)∧(k:Int)<n:=⟨x.toNat,by omega,by omega⟩
section
variable {b:Bool} {nl:Nat} {raw:List Int}
theorem s88{a n:Int}(h1: -9223372036854775808≤a)(h2:a≤9223372036854775807)(hn:0<n):o24 W 17 [.x (.int .i64 a), .x (.int .i64 n)] []=some (.x (.int .i64 (pkI a n)),[],[]):=by
 have hz: ¬n=0:=by omega
 rw[o10 rfl T17 rfl]
 unfold F17 c17 pkI
 by_cases h0:a<0
 ·rw[if_pos h0]
  simp(disch:=first|omega|fail) only[push_cast,seval,ui5,lu7,y81,bj9,wrap64,dec_lt,cw6,nl3,qc6,mr8,nb8,if_pos,if_neg,nb8 hz,hz]
  rw[show(0:Int)-(a+1)= -(a+1) by omega]
 ·rw[if_neg h0]
  simp(disch:=first|omega|fail) only[push_cast,seval,ui5,lu7,y81,bj9,wrap64,dec_lt,cw6,nl3,qc6,mr8,nb8,if_pos,if_neg,nb8 hz,hz]
theorem yc3{i:Int}(hi:0≤i)(hl:raw.length≤9223372036854775807):o24 W 40 [.fz b (.sl nl 0 1 (ivs raw)), .x (.int .i64 i)] []=some (.x (.int .i64 (rwI raw i)),[],[]):=by
 rw[o10 rfl T40 rfl]
 unfold F40 c40 rwI
 by_cases h0:raw.length=0
 ·rw[if_pos h0]
  have h0':(raw.length:Int)=0:=by omega
  simp(disch:=first|omega|fail) only[push_cast,seval,ui5,lu7,y81,bj9,wrap64,dec_lt,cw6,nl3,qc6,mr8,nb8,if_pos,if_neg,h0']
 ·rw[if_neg h0]
  have hz: ¬(raw.length:Int)=0:=by omega
  have b1:0≤i.tmod raw.length:=Int.tmod_nonneg _ hi
  have b2:i.tmod raw.length<raw.length:=Int.tmod_lt_of_pos _ (by omega)
  have e:=cl0 b1 b2
  simp(disch:=first|omega|fail) only[push_cast,seval,ui5,lu7,y81,bj9,wrap64,dec_lt,cw6,nl3,qc6,mr8,nb8,if_pos,if_neg,hz,nb8 hz,e]
def numV(raw:List Int)(frm q:Int)(k:Nat):Int:=pkI (rwI raw (frm+k)) q
def tv7(raw:List Int)(frm q:Int)(n:Nat):List Int:=(List.range n).map (numV raw frm q)
theorem jd5(raw:List Int)(frm q:Int)(n:Nat):(tv7 raw frm q n).length=n:=by simp[tv7]
theorem ce6(raw:List Int)(frm q:Int)(n:Nat):tv7 raw frm q (n+1)=tv7 raw frm q n++[numV raw frm q n]:=by unfold tv7;rw[List.range_succ,List.map_append];rfl
theorem dm5{raw:List Int}{frm q:Int}{n:Nat}(hq:0<q): ∀z∈tv7 raw frm q n,fok q z=true:=fun z hz=>by
 obtain⟨k,_,rfl⟩:=List.mem_map.1 hz
 have:=h58 (a:=rwI raw (frm+k)) hq
 unfold numV fok
 rw[decide_eq_true this.1,decide_eq_true this.2];rfl
theorem m61{raw:List Int}{frm q:Int}{n:Nat}(hq:0<q): ∃l:List (El q),tv7 raw frm q n=vs l∧l.length=n:=by
 obtain⟨l,hl⟩:=n39 (dm5 (raw:=raw) (frm:=frm) (n:=n) hq)
 exact⟨l,hl,by rw[←fi2,←hl,jd5]⟩
theorem yq2(hrl:raw.length≤9223372036854775807){frm q:Int}(hf0:0≤frm)(hf1:frm≤1000000000)(hq0:0<q){N:Nat}(hN:N≤100000): ∀(d i:Nat),i+d=N→ ∀ks,
 vgoL W ⟨h22,[.tmp 8],0⟩ [0,1,2,3,9,10] c22L0 (.blk 0 [9]::ks) [(0, .fz b (.sl nl 0 1 (ivs raw))),(1, .x (.int .i64 frm)),(2, .x (.int .i64 q)),(3, .x (.int .i64 N)),(9, .own 0 []),(10, .x (.int .i64 i))] [.sl 1 3 1 (ivs (tv7 raw frm q i))]=
  vgo W ⟨h22,[.tmp 8],0⟩ ks (VFr.of [(9, .own 0 [])]) [.sl 1 3 1 (ivs (tv7 raw frm q N))]
 |0,i,hi,ks=>by
  obtain rfl:i=N:=by omega
  rw[sb5 c22L0.eq_def]
  simp(disch:=first|omega|fail) only[push_cast,seval,ui5,lu7,y81,bj9,wrap64,dec_lt,cw6,nl3,qc6,mr8,nb8,if_pos,if_neg]
 |d+1,i,hi,ks=>by
  have ih:=yq2 hrl hf0 hf1 hq0 hN d (i+1) (by omega) ks
  have e1:=fun b nl=>yc3 (b:=b) (nl:=nl) (raw:=raw) (i:=frm+i) (by omega) hrl
  have hri:=bd0 (l:=raw) (i:=frm+i) (by omega) (by omega)
  have e2:=s88 (n:=q) hri.1 hri.2 hq0
  have hl:=jd5 raw frm q i
  rw[Int.natCast_add,Int.natCast_one,ce6,numV]at ih
  rw[←ih,sb5 c22L0.eq_def]
  simp(disch:=first|omega|fail) only[push_cast,seval,ui5,lu7,y81,bj9,wrap64,dec_lt,cw6,nl3,qc6,mr8,nb8,if_pos,if_neg,e1,e2,hl]
theorem vv4(hrl:raw.length≤9223372036854775807){frm q:Int}(hf0:0≤frm)(hf1:frm≤1000000000)(hq0:0<q){N:Nat}(hN:N≤100000):o24 W 22 [.fz b (.sl nl 0 1 (ivs raw)), .x (.int .i64 frm), .x (.int .i64 q), .x (.int .i64 N)] []=some (.own 0 [],[.sl 1 3 1 (ivs (tv7 raw frm q N))],[]):=by
 have e:=fun ks=>yq2 (b:=b) (nl:=nl) hrl hf0 hf1 hq0 hN N 0 (by omega) ks
 rw[show tv7 raw frm q 0=[]from rfl]at e
 simp only[Int.natCast_zero,List.take_zero,List.drop_zero,rp2,lz6,x25,List.map_nil,List.length_nil]at e
 rw[o10 rfl T22 rfl]
 unfold F22 c22
 simp(disch:=first|omega|fail) only[push_cast,seval,ui5,lu7,y81,bj9,wrap64,dec_lt,cw6,nl3,qc6,mr8,nb8,if_pos,if_neg]
 rw[e]
 simp(disch:=first|omega|fail) only[push_cast,seval,ui5,lu7,y81,bj9,wrap64,dec_lt,cw6,nl3,qc6,mr8,nb8,if_pos,if_neg]
def i35(raw:List Int)(frm q:Int)(n m:Nat):List (List Int):=(List.range m).map fun i:Nat=>tv7 raw (frm+(i:Int)*(n:Int)) q n
theorem om4(raw:List Int)(frm q:Int)(n m:Nat):(i35 raw frm q n m).length=m:=by simp[i35]
theorem ot3(raw:List Int)(frm q:Int)(n m:Nat):i35 raw frm q n (m+1)=i35 raw frm q n m++[tv7 raw (frm+m*n) q n]:=by unfold i35;rw[List.range_succ,List.map_append];rfl
theorem fw6{raw:List Int}{frm q:Int}{n:Nat}(hq:0<q): ∀m,∃M:List (List (El q)),i35 raw frm q n m=M.map vs∧M.length=m∧ ∀r∈M,r.length=n
 |0=>⟨[],rfl,rfl,fun r hr=>by cases hr⟩
 |m+1=>by
  obtain⟨M,h1,h2,h3⟩:=fw6 (raw:=raw) (frm:=frm) (n:=n) hq m
  obtain⟨l,e1,e2⟩:=m61 (raw:=raw) (frm:=frm+m*n) (n:=n) hq
  refine⟨M++[l],by rw[ot3,h1,e1,List.map_append];rfl,by rw[List.length_append,h2];rfl,fun r hr=> ?_⟩
  rcases List.mem_append.1 hr with h|h
  ·exact h3 r h
  ·rw[List.mem_singleton.1 h,e2]
theorem hy2(hrl:raw.length≤9223372036854775807){frm q:Int}(hf0:0≤frm)(hf1:frm≤1000000)(hq0:0<q){n m:Nat}(hn:n≤200)(hm:m≤200): ∀(d i:Nat),i+d=m→ ∀ks,
 vgoL W ⟨h16,[.tmp 10],0⟩ [0,1,2,3,4,11,12] c16L0 (.blk 0 [11]::ks) [(0, .fz b (.sl nl 0 1 (ivs raw))),(1, .x (.int .i64 frm)),(2, .x (.int .i64 q)),(3, .x (.int .i64 m)),(4, .x (.int .i64 n)),(11, .own 0 []),(12, .x (.int .i64 i))] [.sl 1 34 1 (lls 2 (i35 raw frm q n i))]=
  vgo W ⟨h16,[.tmp 10],0⟩ ks (VFr.of [(11, .own 0 [])]) [.sl 1 34 1 (lls 2 (i35 raw frm q n m))]
 |0,i,hi,ks=>by
  obtain rfl:i=m:=by omega
  rw[sb5 c16L0.eq_def]
  simp(disch:=first|omega|fail) only[push_cast,seval,ui5,lu7,y81,bj9,wrap64,dec_lt,cw6,nl3,qc6,mr8,nb8,if_pos,if_neg]
 |d+1,i,hi,ks=>by
  have ih:=hy2 hrl hf0 hf1 hq0 hn hm d (i+1) (by omega) ks
  have hb:((i*n:Nat):Int)≤40000:=by have:=Nat.mul_le_mul (show i≤200 by omega) hn;omega
  rw[Int.natCast_mul]at hb
  have hb0:0≤(i:Int)*(n:Int):=Int.mul_nonneg (by omega) (by omega)
  have e1:=fun b nl=>vv4 (b:=b) (nl:=nl) (frm:=frm+i*n) (N:=n) hrl (by omega) (by omega) hq0 (by omega)
  have hl:=om4 raw frm q n i
  rw[Int.natCast_add,Int.natCast_one,ot3]at ih
  rw[←ih,sb5 c16L0.eq_def]
  simp(disch:=first|omega|fail) only[push_cast,seval,ui5,lu7,y81,bj9,wrap64,dec_lt,cw6,nl3,qc6,mr8,nb8,if_pos,if_neg,e1,hl]
theorem g25(hrl:raw.length≤9223372036854775807){frm q:Int}(hf0:0≤frm)(hf1:frm≤1000000)(hq0:0<q){n m:Nat}(hn:n≤200)(hm:m≤200):o24 W 16 [.fz b (.sl nl 0 1 (ivs raw)), .x (.int .i64 frm), .x (.int .i64 q), .x (.int .i64 m), .x (.int .i64 n)] []=some (.own 0 [],[.sl 1 34 1 (lls 2 (i35 raw frm q n m))],[]):=by
 have e:=fun ks=>hy2 (b:=b) (nl:=nl) hrl hf0 hf1 hq0 hn hm m 0 (by omega) ks
 rw[show i35 raw frm q n 0=[]from rfl]at e
 simp only[Int.natCast_zero,List.take_zero,List.drop_zero,rp2,lz6,x25,List.map_nil,List.length_nil]at e
 rw[o10 rfl T16 rfl]
 unfold F16 c16
 simp(disch:=first|omega|fail) only[push_cast,seval,ui5,lu7,y81,bj9,wrap64,dec_lt,cw6,nl3,qc6,mr8,nb8,if_pos,if_neg]
 rw[e]
 simp(disch:=first|omega|fail) only[push_cast,seval,ui5,lu7,y81,bj9,wrap64,dec_lt,cw6,nl3,qc6,mr8,nb8,if_pos,if_neg]
end
def szN:Nat→Nat→List Int
 |0,_=>[]
 |n+1,q=>bif (fldN q).isSome then(q:Int)::szN n (q+1)else szN n (q+1)
def szL:List Int:=szN 63 2
theorem ho6:(szL.all fun z=>decide (2≤z)&&decide (z≤64)&&(fldN z.toNat).isSome)=true:=by kernel_rfl
theorem x14{z:Int}(hz:z∈szL):2≤z∧z≤64∧IsFld z:=by
 have:=List.all_eq_true.1 ho6 z hz
 simp only[Bool.and_eq_true,decide_eq_true_eq]at this
 obtain⟨⟨h1,h2⟩,h3⟩:=this
 obtain⟨⟨p,m,g,mod⟩,hx⟩:=Option.isSome_iff_exists.1 h3
 exact⟨h1,h2,⟨p,m,g,mod,hx⟩⟩
end Go.Proofs.Ytlhmdmedagjmnaa
namespace Go.Proofs.Ytlhmdmedagjmnaa
open Go.Am Go.Vm Go.Alg
section
variable {k:FuncId} {p:Int→Bool} {l:List Int} {nl:Nat}
end
section
variable {q:Int} [IsFld q] {k nl nr nl2:Nat} {b:Bool} {N:List (List (El q))}
end
def fewQ(q:Int):Nat→Int→Bool
 |0,_=>true
 |d+1,n=>if 4096<n*q then false else fewQ q d (n*q)
theorem ev9{q:Int}(h1:0≤q)(h2:q≤64){k:Nat}(hk:k≤1000): ∀(d i:Nat) (n:Int),i+d=k→0≤n→n≤4096→ ∀ks,
 vgoL W ⟨hNo,[.tmp 4],0⟩ [0,1,5,6] c31L0 (.blk 0 []::ks) [(0, .x (.int .i64 q)),(1, .x (.int .i64 k)),(5, .x (.int .i64 n)),(6, .x (.int .i64 i))] []=if fewQ q d n=true then vgo W ⟨hNo,[.tmp 4],0⟩ ks (VFr.of []) []else some (.x (.bool false),[],[])
 |0,i,n,hi,hn,hn2,ks=>by
  rw[fewQ,if_pos rfl,sb5 c31L0.eq_def]
  simp(disch:=first|omega|fail) only[push_cast,seval,ui5,lu7,y81,bj9,wrap64,dec_lt,cw6,nl3,qc6,mr8,nb8,if_pos,if_neg]
 |d+1,i,n,hi,hn,hn2,ks=>by
  have hb0:0≤n*q:=Int.mul_nonneg hn h1
  have hb1:n*q≤4096*64:=Int.mul_le_mul hn2 h2 h1 (by decide)
  have hb2:n*q≤262144:=by omega
  rw[fewQ]
  by_cases h:4096<n*q
  ·rw[if_pos h,if_neg (by decide),sb5 c31L0.eq_def]
   simp(disch:=first|omega|fail) only[push_cast,seval,ui5,lu7,y81,bj9,wrap64,dec_lt,cw6,nl3,qc6,mr8,nb8,if_pos,if_neg,dec_lt h]
  ·have ih:=ev9 h1 h2 hk d (i+1) (n*q) (by omega) hb0 (by omega) ks
   rw[Int.natCast_add,Int.natCast_one]at ih
   rw[if_neg h,←ih,sb5 c31L0.eq_def]
   simp(disch:=first|omega|fail) only[push_cast,seval,ui5,lu7,y81,bj9,wrap64,dec_lt,cw6,nl3,qc6,mr8,nb8,if_pos,if_neg,cw6 (Int.not_lt.1 h)]
theorem os1{q:Int}(h1:0≤q)(h2:q≤64){k:Nat}(hk:k≤1000):o24 W 31 [.x (.int .i64 q), .x (.int .i64 k)] []=some (.x (.bool (fewQ q k 1)),[],[]):=by
 have e:=fun ks=>ev9 h1 h2 hk k 0 1 (by omega) (by decide) (by decide) ks
 simp only[Int.natCast_zero,List.take_zero,List.drop_zero,rp2,lz6,x25,List.map_nil,List.length_nil]at e
 rw[o10 rfl T31 rfl]
 unfold F31 c31
 simp(disch:=first|omega|fail) only[push_cast,seval,ui5,lu7,y81,bj9,wrap64,dec_lt,cw6,nl3,qc6,mr8,nb8,if_pos,if_neg]
 rw[e]
 cases hz:fewQ q k 1 with
 |true=>
  rw[if_pos rfl]
  simp(disch:=first|omega|fail) only[push_cast,seval,ui5,lu7,y81,bj9,wrap64,dec_lt,cw6,nl3,qc6,mr8,nb8,if_pos,if_neg]
 |false=>rw[if_neg (by decide)]
theorem b49{raw:List Int}{q n r:Int}(h1:0≤q)(h2:q≤64): ∀(d m:Nat),m+d=5→ ∃m':Nat,m'≤5∧ ∀(b:Bool) (nl:Nat) (T:Tree) ks,
 vgoL W ⟨hNo,[(.cell 8 true 3)],0⟩ [0,1,2,3,8,9] c15L0 (.blk 0 [0,1,2,3,8,9]::ks) [(0, .fz b (.sl nl 0 1 (ivs raw))),(1, .x (.int .i64 q)),(2, .x (.int .i64 n)),(3, .x (.int .i64 r)),(8, .own 0 []),(9, .x (.int .i64 m))] [T]=vgo W ⟨hNo,[(.cell 8 true 3)],0⟩ ks (VFr.of [(0, .fz b (.sl nl 0 1 (ivs raw))),(1, .x (.int .i64 q)),(2, .x (.int .i64 n)),(3, .x (.int .i64 r)),(8, .own 0 []),(9, .x (.int .i64 m'))]) [T]
 |0,m,hm=>by
  have e1:=os1 h1 h2 (k:=m+1) (by omega)
  rw[Int.natCast_add,Int.natCast_one]at e1
  refine⟨m,by omega,fun b nl T ks=> ?_⟩
  obtain rfl:m=5:=by omega
  rw[show((5:Nat):Int)+1=6 from rfl]at e1
  rw[sb5 c15L0.eq_def]
  cases hz:fewQ q (5+1) 1 with
  |true=>
   rw[hz]at e1
   simp(disch:=first|omega|fail) only[push_cast,seval,ui5,lu7,y81,bj9,wrap64,dec_lt,cw6,nl3,qc6,mr8,nb8,if_pos,if_neg,e1]
  |false=>
   rw[hz]at e1
   simp(disch:=first|omega|fail) only[push_cast,seval,ui5,lu7,y81,bj9,wrap64,dec_lt,cw6,nl3,qc6,mr8,nb8,if_pos,if_neg,e1]
 |d+1,m,hm=>by
  have e1:=os1 h1 h2 (k:=m+1) (by omega)
  rw[Int.natCast_add,Int.natCast_one]at e1
  obtain⟨m',hm',ih⟩:=b49 (raw:=raw) (n:=n) (r:=r) h1 h2 d (m+1) (by omega)
  cases hz:fewQ q (m+1) 1 with
  |true=>
   rw[hz]at e1
   refine⟨m',hm',fun b nl T ks=> ?_⟩
   have ih:=ih b nl T ks
   rw[Int.natCast_add,Int.natCast_one]at ih
   rw[←ih,sb5 c15L0.eq_def]
   simp(disch:=first|omega|fail) only[push_cast,seval,ui5,lu7,y81,bj9,wrap64,dec_lt,cw6,nl3,qc6,mr8,nb8,if_pos,if_neg,e1]
  |false=>
   rw[hz]at e1
   refine⟨m,by omega,fun b nl T ks=> ?_⟩
   rw[sb5 c15L0.eq_def]
   simp(disch:=first|omega|fail) only[push_cast,seval,ui5,lu7,y81,bj9,wrap64,dec_lt,cw6,nl3,qc6,mr8,nb8,if_pos,if_neg,e1]
theorem u07{z:Int}(h:szL.contains z=true):z∈szL:=by simpa using h
theorem ji4{i:Int}(h0:0≤i)(h1:i<6): ∃z,([.v (.int .i64 2), .v (.int .i64 2), .v (.int .i64 3), .v (.int .i64 4), .v (.int .i64 5), .v (.int .i64 8)]:List Tree)[i.toNat]? =some (.v (.int .i64 z))∧z∈szL:=by
 have:i=0∨i=1∨i=2∨i=3∨i=4∨i=5:=by omega
 rcases this with rfl|rfl|rfl|rfl|rfl|rfl
 ·exact⟨2,rfl,u07 (by kernel_rfl)⟩
 ·exact⟨2,rfl,u07 (by kernel_rfl)⟩
 ·exact⟨3,rfl,u07 (by kernel_rfl)⟩
 ·exact⟨4,rfl,u07 (by kernel_rfl)⟩
 ·exact⟨5,rfl,u07 (by kernel_rfl)⟩
 ·exact⟨8,rfl,u07 (by kernel_rfl)⟩
theorem lh4{raw:List Int}(hrl:raw.length≤9223372036854775807){q n r:Int}(q1: -9223372036854775808≤q)(q2:q≤9223372036854775807)(n1: -9223372036854775808≤n)(n2:n≤9223372036854775807)(r1: -9223372036854775808≤r)(r2:r≤9223372036854775807):
 ∃(z:Int) (n' m':Nat),z∈szL∧n'≤11∧m'≤5∧ ∀(b:Bool) (nl:Nat),o24 W 15 [.fz b (.sl nl 0 1 (ivs raw)), .x (.int .i64 q), .x (.int .i64 n), .x (.int .i64 r)] []=some (.agg [.x (.int .i64 z), .x (.int .i64 ((n'+1:Nat):Int)), .own 0 []],[.sl 2 34 1 (lls 2 (i35 raw 0 z (n'+1) m'))],[]):=by
 have p1:=s88 (n:=6) q1 q2 (by omega)
 obtain⟨z,hz,hzm⟩:=ji4 (h58 (a:=q) (n:=6) (by omega)).1 (h58 (a:=q) (n:=6) (by omega)).2
 have hq:=h58 (a:=q) (n:=6) (by omega)
 obtain⟨z1,z2,hfz⟩:=x14 hzm
 have p2:=s88 (n:=12) n1 n2 (by omega)
 obtain⟨n',hn,hn12⟩:=o99 (h58 (a:=n) (n:=12) (by omega)).1 (h58 (a:=n) (n:=12) (by omega)).2
 rw[hn]at p2
 obtain⟨m,hm,e⟩:=b49 (raw:=raw) (q:=z) (n:=1+(n':Int)) (r:=r) (by omega) (by omega) 5 0 rfl
 simp only[Int.natCast_zero]at e
 have p3:=s88 (n:=(m:Int)+1) r1 r2 (by omega)
 obtain⟨m',hm',hm6⟩:=o99 (h58 (a:=r) (n:=(m:Int)+1) (by omega)).1 (h58 (a:=r) (n:=(m:Int)+1) (by omega)).2
 rw[hm']at p3
 refine⟨z,n',m',hzm,by omega,by omega,fun b nl=> ?_⟩
 have a1:=fun b nl=>g25 (b:=b) (nl:=nl) hrl (frm:=0) (q:=z) (by omega) (by omega) (by omega) (n:=n'+1) (m:=m') (by omega) (by omega)
 simp only[Int.natCast_add,Int.natCast_one,Int.add_comm _ (1:Int)]at a1 p3
 rw[o10 rfl T15 rfl]
 unfold F15 c15
 simp(disch:=first|omega|fail) only[push_cast,seval,ui5,lu7,y81,bj9,wrap64,dec_lt,cw6,nl3,qc6,mr8,nb8,if_pos,if_neg,p1,hz,p2]
 rw[e]
 simp(disch:=first|omega|fail) only[push_cast,seval,ui5,lu7,y81,bj9,wrap64,dec_lt,cw6,nl3,qc6,mr8,nb8,if_pos,if_neg,p3,a1,Int.add_comm _ (1:Int)]
end Go.Proofs.Ytlhmdmedagjmnaa
namespace Go.Proofs.Ytlhmdmedagjmnaa
open Go.Am Go.Vm Go.Alg
theorem rr0{raw:List Int}{b:Bool}{nl:Nat}(hl:raw.length≤9223372036854775807){q n r s:Int}(q1: -9223372036854775808≤q)(q2:q≤9223372036854775807)(n1: -9223372036854775808≤n)(n2:n≤9223372036854775807)(r1: -9223372036854775808≤r)(r2:r≤9223372036854775807)(s1: -9223372036854775808≤s)(s2:s≤9223372036854775807):
 o24 W 4 [.fz b (.sl nl 0 1 (ivs raw)), .x (.int .i64 q), .x (.int .i64 n), .x (.int .i64 r), .x (.int .i64 s)] []=some (.x (.bool true),[],[]):=by
 by_cases h256:256<raw.length
 ·rw[o10 rfl T4 rfl]
  unfold F4 c4
  simp(disch:=first|omega|fail) only[push_cast,seval,ui5,lu7,y81,bj9,wrap64,dec_lt,cw6,nl3,qc6,mr8,nb8,if_pos,if_neg]
 ·obtain⟨z,n',m',hz,hn,hm,e0⟩:=lh4 hl q1 q2 n1 n2 r1 r2
  obtain⟨z1,z2,hfz⟩:=x14 hz
  haveI:=hfz
  obtain⟨A,hA,hAl,hAr⟩:=fw6 (raw:=raw) (frm:=0) (q:=z) (n:=n'+1) (by omega) m'
  rw[hA]at e0
  have p1:=s88 (n:=4) s1 s2 (by omega)
  have hp:=h58 (a:=s) (n:=4) (by omega)
  obtain⟨m2,hm2⟩: ∃m2:Nat,pkI s 4=(m2:Int):=⟨(pkI s 4).toNat,by omega⟩
  rw[hm2]at p1 hp
  obtain⟨B,hB,hBl,hBr⟩:=fw6 (raw:=raw) (frm:=31) (q:=z) (n:=n'+1) (by omega) m2
  have e00:=fun b nl=>g25 (b:=b) (nl:=nl) hl (frm:=31) (q:=z) (by omega) (by omega) (by omega) (n:=n'+1) (m:=m2) (by omega) (by omega)
  rw[hB]at e00
  obtain⟨k,hk⟩: ∃k,k=n'+1:=⟨_,rfl⟩
  rw[←hk]at e0 e00 hAr hBr
  have cA:=tc0 (q:=z) (k:=k) (by omega) (by omega) (by omega) hAr (sy6 (by omega) hAr (by omega) (by omega))
  have cB:=tc0 (q:=z) (k:=k) (by omega) (by omega) (by omega) hBr (sy6 (by omega) hBr (by omega) (by omega))
  obtain⟨a1,a2,a3,a4⟩:=sw1 hAr
  obtain⟨b1,b2,b3,b4⟩:=sw1 hBr
  have hAB:=rl5 hAr hBr
  obtain⟨t1,t2,t3⟩:=bi2 hAB
  have t4:=ew4 hAB
  rw[List.length_append]at t4
  have hN1:=zu4 a2
  have hN2:=zu4 b2
  have l1:(p78 (zt5 k A)).length≤64:=by rw[ga9];omega
  have l2:(p78 (zt5 k B)).length≤64:=by rw[ga9];omega
  have l3:(p78 (redR (A++B))).length≤64:=by rw[ga9];omega
  have cS:=tc0 (q:=z) (k:=k) (by omega) (by omega) l3 (zu4 t2) (sy6 l3 (zu4 t2) (by omega) (by omega))
  have cU:=tc0 (q:=z) (k:=k) (by omega) (by omega) l1 hN1 (sy6 l1 hN1 (by omega) (by omega))
  have cV:=tc0 (q:=z) (k:=k) (by omega) (by omega) l2 hN2 (sy6 l2 hN2 (by omega) (by omega))
  have e1:=fun nl nr nl' nr'=>de0 (nl:=nl) (nr:=nr) (nl':=nl') (nr':=nr') cA cB (by omega) (by omega) (by omega) (by omega) hAr hBr
  have e2:=fun nl nr nl' nr'=>cb6 (nl:=nl) (nr:=nr) (nl':=nl') (nr':=nr') cA cB (by omega) (by omega) (by omega) (by omega) hAr hBr
  have e3:=fun nl nr=>ob1 (nl:=nl) (nr:=nr) cA (by omega) (by omega) (by omega) hAr
  have e4:=fun nl nr=>ob1 (nl:=nl) (nr:=nr) cB (by omega) (by omega) (by omega) hBr
  have e5:=fun nl nr=>x92 (nl:=nl) (nr:=nr) cS (by omega) (by omega) l3 (zu4 t2)
  rw[cx8 hAB]at e5
  have e6:=fun nl nr=>x92 (nl:=nl) (nr:=nr) cA (by omega) (by omega) (by omega) hAr
  have e7:=fun nl nr=>x92 (nl:=nl) (nr:=nr) cB (by omega) (by omega) (by omega) hBr
  have e8:=fun nl nr nl' nr'=>cb6 (nl:=nl) (nr:=nr) (nl':=nl') (nr':=nr') cU cV (by omega) (by omega) l1 l2 hN1 hN2
  have hb:p26 k (p78 (zt5 k A)) (p78 (zt5 k B))=zt5 k (A++B):=by
   unfold p26
   rw[m63 hAr,m63 hBr]
   have h1:=zu4 (bi2 hAr).2.1
   have h2:=zu4 (bi2 hBr).2.1
   rw[←cx8 (rl5 h1 h2),gl3 h1 hBr,rx4 hAr hBr,cx8 hAB]
  rw[hb]at e8
  have hsum:=jk9 hAr hBr
  have hnl:=(sw1 hAB).2.2.2
  have e9:=fun nl nr nl' nr'=>uh6 (q:=z) (n:=k) (q':=z) (n':=k) (M:=pvR (zt5 k (A++B))) (M':=pvR (zt5 k (A++B))) (nl:=nl) (nr:=nr) (nl':=nl') (nr':=nr') (by rw[nu3];omega) (by
   rw[lo1]
   exact aa7 (zu4 (sw1 hAB).2.1) (by omega))
  simp only[decide_true,Bool.and_true]at e9
  have g1:(pvR (redR (A++B))).length=(redR (A++B)).length:=nu3 _
  have g2:(pvR (p26 k A B)).length=(p26 k A B).length:=nu3 _
  have g3:(pvR (redR A)).length=(redR A).length:=nu3 _
  have g4:(pvR (redR B)).length=(redR B).length:=nu3 _
  have r1:=ew4 hAr
  have r2:=ew4 hBr
  have hsum2:((redR (A++B)).length:Int)+((p26 k A B).length:Int)=((redR A).length:Int)+((redR B).length:Int):=by unfold p26;omega
  have hw:IntKind.wrap .i64 (((p78 (redR (A++B))).length:Int)+((p78 (p26 k A B)).length:Int))=IntKind.wrap .i64 (((p78 (redR A)).length:Int)+((p78 (redR B)).length:Int)):=by
   rw[ga9,ga9,ga9,ga9,hsum2]
  simp only[lo1]at e1 e2 e3 e4 e5 e6 e7 e8 e9
  rw[o10 rfl T4 rfl]
  unfold F4 c4
  simp(disch:=first|omega|fail) only[push_cast,seval,ui5,lu7,y81,bj9,wrap64,dec_lt,cw6,nl3,qc6,mr8,nb8,if_pos,if_neg,vbx,e0,e00,p1,e1,e2,e3,e4,e5,e6,e7,e8,e9,mr8 hw]
end Go.Proofs.Ytlhmdmedagjmnaa
namespace Go.Proofs.Ytlhmdmedagjmnaa
open Go.Am Go.Vm Go.Alg
section
variable {h:H} {l:List AV} {ws:List Value}
theorem a23:Vm.VRL h [] (allZ h) (allZ h) [] []:=by rw[Vm.VRL]
theorem dp0(r:Vm.VRL h [] (allZ h) (allZ h) l ws)(v:Value):Vm.VRL h [] (allZ h) (allZ h) (.x v::l) (v::ws):=by
 rw[Vm.VRL];exact⟨v,ws,rfl,by rw[Vm.VR],r⟩
theorem qj4{sa:Option Addr}{c:Nat}{zs:List Int}(hr:RdI h sa c zs): ∀o,sa.map (·.block)=some o→allZ h o:=fun o ho=>by
 rcases hr with⟨rfl,_⟩|⟨_,o2,off,r2,rfl,h1,_⟩
 ·cases ho
 ·cases ho;exact h42 h1
theorem sk6(r:Vm.VRL h [] (allZ h) (allZ h) l ws){sa:Option Addr}{c:Nat}{zs:List Int}(hr:RdI h sa c zs):Vm.VRL h [] (allZ h) (allZ h) (.fz true (.sl 2 0 1 (ivs zs))::l) (.slice sa zs.length c::ws):=by
 rw[Vm.VRL];exact⟨_,ws,rfl,by rw[Vm.VR];exact pd9 hr (qj4 hr),r⟩
end
end Go.Proofs.Ytlhmdmedagjmnaa
namespace Go.Proofs.Ytlhmdmedagjmnaa
open Go.Am Go.Vm Go.Alg
theorem kb7(h:H)(s0:Option Addr)(c0:Nat)(z0:List Int)(r0:RdI h s0 c0 z0)(_:ss4 h 1 s0=true)(_:z0.length≤9223372036854775807)(a1:Int)(_: -9223372036854775808≤a1)(_:a1≤9223372036854775807)(a2:Int)(_: -9223372036854775808≤a2)(_:a2≤9223372036854775807)(a3:Int)(_: -9223372036854775808≤a3)(_:a3≤9223372036854775807)(a4:Int)(_: -9223372036854775808≤a4)(_:a4≤9223372036854775807):
 ∃h',call T 4 [.slice s0 z0.length c0, .int .i64 a1, .int .i64 a2, .int .i64 a3, .int .i64 a4] h=some (.bool true,h'):=
 vlaw lw2 (sk6 (dp0 (dp0 (dp0 (dp0 a23 _) _) _) _) r0) (by apply rr0<;>assumption)
end Go.Proofs.Ytlhmdmedagjmnaa
