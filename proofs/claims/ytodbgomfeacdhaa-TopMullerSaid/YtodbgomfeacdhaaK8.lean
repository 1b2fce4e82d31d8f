/-
  Rows one by one into what there is: plain algebra. No condition. Two codes: their sum, what both have, in the second machine. Conditions: those of each theorem. slices.Delete in the second machine. Co ..
-/
import Derived.Test.YtodbgomfeacdhaaK7
import Derived.Test.YtodbgomfeacdhaaK6
import Derived.Test.YtodbgomfeacdhaaK0
set_option linter.unusedVariables false
set_option linter.unusedSimpArgs false
set_option linter.unusedSectionVars false
set_option maxRecDepth 100000
namespace Go.Alg
section
variable {K:Type} [FK K] {n:Nat}
theorem gb4{A X Y:List (List K)}(h: ∀w,Span (X.map wf) w↔Span (Y.map wf) w)(w:Nat→K):Span ((A++X).map wf) w↔Span ((A++Y).map wf) w:=by
 have key: ∀{X Y:List (List K)},(∀w,Span (X.map wf) w↔Span (Y.map wf) w)→Span ((A++X).map wf) w→Span ((A++Y).map wf) w:=by
  intro X Y h hs
  refine hs.trans fun r hr=> ?_
  rw[List.map_append]at hr⊢
  rcases List.mem_append.1 hr with hr|hr
  ·exact .mem (List.mem_append_left _ hr)
  ·exact((h r).1 (.mem hr)).mono fun x hx=>List.mem_append_right _ hx
 exact⟨key h,key fun w=>(h w).symm⟩
omit [FK K] in
theorem rl5{M N:List (List K)}(hM: ∀m∈M,m.length=n)(hN: ∀m∈N,m.length=n): ∀m∈M++N,m.length=n:=fun m hm=>(List.mem_append.1 hm).elim (hM m) (hN m)
theorem mr3{M:List (List K)}(hM: ∀m∈M,m.length=n)(w:Nat→K):Span ((p78 (redR M)).map wf) w↔Span (M.map wf) w:=by
 rw[z42];exact(bi2 hM).2.2 w
theorem rx4{M N:List (List K)}(hM: ∀m∈M,m.length=n)(hN: ∀m∈N,m.length=n):redR (p78 (redR M)++N)=redR (M++N):=by
 refine rp5 (n:=n) (rl5 (zu4 (bi2 hM).2.1) hN) (rl5 hM hN) fun w=> ?_
 have key: ∀{X Y:List (List K)},(∀w,Span (X.map wf) w↔Span (Y.map wf) w)→Span ((X++N).map wf) w→Span ((Y++N).map wf) w:=by
  intro X Y h hs
  refine hs.trans fun r hr=> ?_
  rw[List.map_append]at hr⊢
  rcases List.mem_append.1 hr with hr|hr
  ·exact((h r).1 (.mem hr)).mono fun x hx=>List.mem_append_left _ hx
  ·exact .mem (List.mem_append_right _ hr)
 exact⟨key (mr3 hM),key fun w=>(mr3 hM w).symm⟩
theorem gl3{M N:List (List K)}(hM: ∀m∈M,m.length=n)(hN: ∀m∈N,m.length=n):redR (M++p78 (redR N))=redR (M++N):=
 rp5 (n:=n) (rl5 hM (zu4 (bi2 hN).2.1)) (rl5 hM hN) (gb4 (mr3 hN))
theorem c38{M:List (List K)}(hM: ∀m∈M,m.length=n)(h:(redR M).length=n):redR M=pn7 n:=by
 have h1:=(sw1 hM).2.2.2
 have h2:zt5 n M=[]:=List.eq_nil_of_length_eq_zero (by omega)
 have h3:=m63 hM
 rw[h2]at h3
 rw[←h3]
 exact xt7 (M:=[]) rfl
theorem a44{M N:List (List K)}(hM: ∀m∈M,m.length=n)(hN: ∀m∈N,m.length=n)(h:(redR M).length=n):redR (M++N)=redR M:=by
 have hA:=rl5 hM hN
 obtain⟨a1,a2,a3⟩:=bi2 hM
 obtain⟨b1,b2,b3⟩:=bi2 hA
 have h1:=a1.le (R:=rowsOf (toF (redR (M++N)))) fun w hw=>(b3 w).2 (((a3 w).1 hw).mono fun x hx=>by rw[List.map_append];exact List.mem_append_left _ hx)
 have h2:=b1.len
 have e1:(toF (redR M)).length=(redR M).length:=by simp[toF]
 have e2:(toF (redR (M++N))).length=(redR (M++N)).length:=by simp[toF]
 have e3:(rowsOf (toF (redR (M++N)))).length=(redR (M++N)).length:=by simp[rowsOf,toF]
 rw[c38 hM h,c38 hA (by omega)]
theorem th7{A B:List (Nat→K)}{w:Nat→K}(h:Span (A++B) w): ∃a b,Span A a∧Span B b∧w=fun k=>a k+b k:=by
 refine h.lin (P:=fun w=> ∃a b,Span A a∧Span B b∧w=fun k=>a k+b k) ?_ ?_ ?_
 ·exact⟨fun _=>0,fun _=>0, .zero, .zero,by funext k;exact(FK.add_zero _).symm⟩
 ·rintro u r c ⟨a,b,h1,h2,rfl⟩ ⟨a',b',h3,h4,rfl⟩
  refine⟨Alg.axp c a a',Alg.axp c b b',h1.axp h3 c,h2.axp h4 c, ?_⟩
  funext k
  show a k+b k+c*(a' k+b' k)=a k+c*a' k+(b k+c*b' k)
  rw[FK.mul_add,add4]
 ·intro r hr
  rcases List.mem_append.1 hr with hr|hr
  ·exact⟨r,fun _=>0, .mem hr, .zero,by funext k;exact(FK.add_zero _).symm⟩
  ·exact⟨fun _=>0,r, .zero, .mem hr,by funext k;exact(zero_add _).symm⟩
def pr(n:Nat)(u v:Nat→K):Nat→K:=fun i=>if i<n then u i else v (i-n)
theorem fj4(n:Nat)(u v u' v':Nat→K)(c:K):Alg.axp c (pr n u v) (pr n u' v')=pr n (Alg.axp c u u') (Alg.axp c v v'):=by
 funext i
 unfold Alg.axp pr
 by_cases h:i<n
 ·simp only[if_pos h]
 ·simp only[if_neg h]
theorem ex7(n:Nat):pr n (fun _=>(0:K)) (fun _=>0)=fun _=>0:=by
 funext i;unfold pr;split<;>rfl
theorem dq5{A R:List (Nat→K)}{n:Nat}{f:(Nat→K)→Nat→K}(hf0:f (fun _=>0)=fun _=>0)(hf: ∀u v c,f (Alg.axp c u v)=Alg.axp c (f u) (f v))(hR: ∀u∈A,pr n u (f u)∈R){u:Nat→K}(h:Span A u):Span R (pr n u (f u)):=by
 refine h.lin (P:=fun u=>Span R (pr n u (f u))) ?_ (fun u r c h1 h2=> ?_) fun r hr=> .mem (hR r hr)
 ·rw[hf0,ex7];exact .zero
 ·rw[hf,←fj4];exact h1.axp h2 c
theorem zh9{A B S D:List (Nat→K)}{n:Nat}(hSi:wu9 S)(hDi:wu9 D)(hS: ∀s∈S,∃a b,Span A a∧Span B b∧s=fun k=>a k+b k)(hD: ∀d∈D,Span A d∧Span B d)(hz: ∀s∈S,∀k,n≤k→s k=0):S.length+D.length≤A.length+B.length:=by
 have hc: ∀s:{s//s∈S},∃a,Span A a∧ ∃b,Span B b∧s.1=fun k=>a k+b k:=fun s=>by
  obtain⟨a,b,h1,h2,h3⟩:=hS s.1 s.2
  exact⟨a,h1,b,h2,h3⟩
 obtain⟨F,hF⟩:=Classical.axiomOfChoice hc
 have hl:S.length+D.length=(S.attach.map (fun s=>pr n s.1 (F s))++D.map fun d=>pr n (fun _=>0) d).length:=by simp
 have hr:A.length+B.length=(A.map (fun u=>pr n u u)++B.map fun u=>pr n u fun _=>0).length:=by simp
 rw[hl,hr]
 have kA: ∀u,Span A u→Span (A.map (fun u=>pr n u u)++B.map fun u=>pr n u fun _=>0) (pr n u u):=fun u hu=>dq5 (f:=fun u=>u) rfl (fun _ _ _=>rfl) (fun x hx=>List.mem_append_left _ (List.mem_map.2 ⟨x,hx,rfl⟩)) hu
 have kB: ∀u,Span B u→Span (A.map (fun u=>pr n u u)++B.map fun u=>pr n u fun _=>0) (pr n u fun _=>0):=fun u hu=>dq5 (f:=fun _ _=>0) rfl (fun u v c=>by funext k;show(0:K)=0+c*0;rw[mul_zero,FK.add_zero]) (fun x hx=>List.mem_append_right _ (List.mem_map.2 ⟨x,hx,rfl⟩)) hu
 refine c82 (fun x hx=> ?_) ?_
 ·rcases List.mem_append.1 hx with hx|hx
  ·obtain⟨s,_,rfl⟩:=List.mem_map.1 hx
   obtain⟨h1,b,h2,h3⟩:=hF s
   have:=(kA _ h1).add (kB _ h2)
   have he:(fun i=>pr n (F s) (F s) i+pr n b (fun _=>0) i)=pr n s.1 (F s):=by
    funext i
    rw[h3]
    unfold pr
    by_cases h:i<n
    ·simp only[if_pos h]
    ·simp only[if_neg h];exact FK.add_zero _
   rw[he]at this
   exact this
  ·obtain⟨d,hd,rfl⟩:=List.mem_map.1 hx
   obtain⟨h1,h2⟩:=hD d hd
   have:=(kA _ h1).axp (kB _ h2) (-1)
   have he:Alg.axp (-1) (pr n d d) (pr n d fun _=>0)=pr n (fun _=>0) d:=by
    rw[fj4]
    congr 1
    ·funext k;show d k+ -1*d k=0;rw[neg_mul,one_mul,FK.add_neg]
    ·funext k;show d k+ -1*0=d k;rw[mul_zero,FK.add_zero]
   rw[he]at this
   exact this
 ·intro y hy h0
  have hsp:y=y.take S.length++y.drop S.length:=(List.take_append_drop _ _).symm
  have h1:(y.take S.length).length=S.length:=by rw[List.length_take,hy,←hl];omega
  have h2:(y.drop S.length).length=D.length:=by rw[List.length_drop,hy,←hl];omega
  generalize y.take S.length=u at hsp h1
  generalize y.drop S.length=w at hsp h2
  subst hsp
  have hk: ∀k,sumL ((u++w).zip (S.attach.map (fun s=>pr n s.1 (F s))++D.map fun d=>pr n (fun _=>0) d)) (fun p=>p.1*p.2 k)=sumL (u.zip S.attach) (fun p=>p.1*pr n p.2.1 (F p.2) k)+sumL (w.zip D) (fun p=>p.1*pr n (fun _=>0) p.2 k):=fun k=>by
   rw[List.zip_append (by simp[h1]),up0,uj4,uj4]
  have hu: ∀a∈u,a=0:=by
   refine hSi u h1 fun k=> ?_
   have hatt:sumL (u.zip S) (fun p=>p.1*p.2 k)=sumL (u.zip S.attach) (fun p=>p.1*p.2.1 k):=by
    have h0:S=S.attach.map Subtype.val:=(List.attach_map_subtype_val S).symm
    conv=>lhs;rw[h0]
    rw[uj4]
   rw[hatt]
   by_cases hkn:k<n
   ·have h3:=h0 k
    rw[hk]at h3
    have e2:sumL (w.zip D) (fun p=>p.1*pr n (fun _=>0) p.2 k)=0:=tx7 fun p _=>by unfold pr;rw[if_pos hkn,mul_zero]
    rw[e2,FK.add_zero]at h3
    rw[←h3]
    exact ox7 fun p _=>by unfold pr;rw[if_pos hkn]
   ·exact tx7 fun p _=>by rw[hz p.2.1 p.2.2 k (by omega),mul_zero]
  have hw: ∀a∈w,a=0:=by
   refine hDi w h2 fun k=> ?_
   have h3:=h0 (k+n)
   rw[hk]at h3
   have e1:sumL (u.zip S.attach) (fun p=>p.1*pr n p.2.1 (F p.2) (k+n))=0:=tx7 fun p hp=>by rw[hu p.1 (List.of_mem_zip hp).1,zero_mul]
   rw[e1,zero_add]at h3
   rw[←h3]
   exact ox7 fun p _=>by unfold pr;rw[if_neg (by omega),Nat.add_sub_cancel]
  intro a ha
  exact(List.mem_append.1 ha).elim (hu a) (hw a)
theorem xm9{M:List (List K)}(hM: ∀m∈M,m.length=n):(redR (p78 (zt5 n M))).length=(zt5 n M).length:=by rw[tq6 hM]
theorem yl2{M:List (List K)}(hM: ∀m∈M,m.length=n){w:Nat→K}(h:Span (M.map wf) w){k:Nat}(hk:n≤k):w k=0:=by
 refine h.lin (P:=fun w=>w k=0) rfl (fun u r c h1 h2=> ?_) fun r hr=> ?_
 ·show u k+c*r k=0
  rw[h1,h2,mul_zero,FK.add_zero]
 ·obtain⟨m,hm,rfl⟩:=List.mem_map.1 hr
  exact ez8 (by rw[hM m hm];exact hk)
theorem x88{M N:List (List K)}(hM: ∀m∈M,m.length=n)(hN: ∀m∈N,m.length=n):(redR (M++N)).length+(zt5 n (p78 (zt5 n M)++p78 (zt5 n N))).length≤(redR M).length+(redR N).length:=by
 obtain⟨a1,a2,a3⟩:=bi2 hM
 obtain⟨b1,b2,b3⟩:=bi2 hN
 obtain⟨s1,s2,s3⟩:=bi2 (rl5 hM hN)
 obtain⟨u1,u2,u3,u4⟩:=sw1 hM
 obtain⟨v1,v2,v3,v4⟩:=sw1 hN
 have hn:=rl5 (zu4 u2) (zu4 v2)
 obtain⟨d1,d2,d3,d4⟩:=sw1 hn
 have e: ∀A:List (Nat×List K),(rowsOf (toF A)).length=A.length:=fun A=>by simp[rowsOf,toF]
 have:=zh9 (A:=rowsOf (toF (redR M))) (B:=rowsOf (toF (redR N))) (S:=rowsOf (toF (redR (M++N)))) (D:=rowsOf (toF (zt5 n (p78 (zt5 n M)++p78 (zt5 n N))))) (n:=n) s1.indep d1.indep (fun s hs=> ?_) (fun d hd=> ?_) (fun s hs k hk=>yl2 (rl5 hM hN) ((s3 s).1 (.mem hs)) hk)
 ·rwa [e,e,e,e]at this
 ·have h1:=(s3 s).1 (.mem hs)
  rw[List.map_append]at h1
  obtain⟨a,b,h2,h3,h4⟩:=th7 h1
  exact⟨a,b,(a3 a).2 h2,(b3 b).2 h3,h4⟩
 ·obtain⟨h1,h2⟩:=(d3 d).1 (.mem hd)
  have key: ∀{X:List (List K)},(∀m∈X,m.length=n)→(∀m∈p78 (zt5 n X),dotF n (wf m) d=0)→Span (rowsOf (toF (redR X))) d:=fun{X} hX h=>by
   obtain⟨x1,x2,x3,x4⟩:=sw1 hX
   obtain⟨y1,y2,y3,y4⟩:=sw1 (zu4 x2)
   have:=(y3 d).2 ⟨h1,h⟩
   rwa [m63 hX]at this
  exact⟨key hM fun m hm=>h2 m (List.mem_append_left _ hm),key hN fun m hm=>h2 m (List.mem_append_right _ hm)⟩
theorem jk9{M N:List (List K)}(hM: ∀m∈M,m.length=n)(hN: ∀m∈N,m.length=n):(redR (M++N)).length+(zt5 n (p78 (zt5 n M)++p78 (zt5 n N))).length=(redR M).length+(redR N).length:=by
 obtain⟨u1,u2,u3,u4⟩:=sw1 hM
 obtain⟨v1,v2,v3,v4⟩:=sw1 hN
 have hu:=zu4 u2
 have hv:=zu4 v2
 have hn:=rl5 hu hv
 obtain⟨d1,d2,d3,d4⟩:=sw1 hn
 have h1:=x88 hM hN
 have h2:=x88 hu hv
 rw[m63 hM,m63 hN,xm9 hM,xm9 hN]at h2
 have h3:=(sw1 (rl5 (zu4 (bi2 hM).2.1) (zu4 (bi2 hN).2.1))).2.2.2
 rw[gl3 (zu4 (bi2 hM).2.1) hN,rx4 hM hN]at h3
 omega
end
end Go.Alg
namespace Go.Proofs.Ytodbgomfeacdhaa
open Go.Am Go.Vm Go.Alg
section
variable {q n q' n':Int} {nl nr nl' nr':Nat} {M M':List (List Int)}
def hv3(q n:Int)(M:List (List Int))(q' n':Int)(M':List (List Int)):Int:=if gi9 q n M=0 then(if gi9 q' n' M'=0 then(if q=q'∧n=n' then 0 else 3)else gi9 q' n' M')else gi9 q n M
theorem g77:o24 W 117 [.agg [.x (.int .i64 q), .x (.int .i64 n), .fz true (.sl nl 0 1 (lvs nr M))], .agg [.x (.int .i64 q'), .x (.int .i64 n'), .fz true (.sl nl' 0 1 (lvs nr' M'))]] []=some (.x (.int .i64 (hv3 q n M q' n' M')),[],[]):=by
 have e1:=um1 (q:=q) (n:=n) (M:=M) (nl:=nl) (nr:=nr)
 have e2:=um1 (q:=q') (n:=n') (M:=M') (nl:=nl') (nr:=nr')
 rw[o10 rfl T117 rfl]
 unfold F117 c117 hv3
 by_cases h1:gi9 q n M=0
 ·rw[if_pos h1]
  by_cases h2:gi9 q' n' M'=0
  ·rw[if_pos h2]
   by_cases h3:q=q'
   ·by_cases h4:n=n'
    ·rw[if_pos ⟨h3,h4⟩]
     simp(disch:=first|omega|fail) only[push_cast,seval,vrl,if_pos,if_neg,e1,e2,h1,h2,mr8 h3,mr8 h4]
    ·rw[if_neg fun h=>h4 h.2]
     simp(disch:=first|omega|fail) only[push_cast,seval,vrl,if_pos,if_neg,e1,e2,h1,h2,mr8 h3,nb8 h4]
   ·rw[if_neg fun h=>h3 h.1]
    simp(disch:=first|omega|fail) only[push_cast,seval,vrl,if_pos,if_neg,e1,e2,h1,h2,nb8 h3]
  ·rw[if_neg h2]
   simp(disch:=first|omega|fail) only[push_cast,seval,vrl,if_pos,if_neg,e1,e2,h1,nb8 h2]
 ·rw[if_neg h1]
  simp(disch:=first|omega|fail) only[push_cast,seval,vrl,if_pos,if_neg,e1,nb8 h1]
end
section
variable {q:Int} [IsFld q] {k nl nr nl' nr':Nat} {M B N:List (List (El q))}
theorem df0(M:List (List (El q)))(b:List (El q)):lls 2 (M.map vs)++[Tree.sl 2 3 1 (ivs (vs b))]=lls 2 ((M++[b]).map vs):=by
 rw[ng3,List.map_append];rfl
def jkN:Nat→Nat→List Tree→List Tree
 |0,_,L=>L
 |n+1,i,L=>jkN n (i+1) (L.set i .junk)
theorem e03(L:List (List Int)):(lls 2 L).all Vm.plain=L.isEmpty:=by
 cases L<;>rfl
theorem ij7(h0:0<k)(hk:k≤64)(h1: ∀r∈M,r.length=k)(h2: ∀r∈B,r.length=k)(hB:B.length≤64){X T1:Tree}: ∀(n i nl:Nat) (Lb:List Tree),i+n=B.length→Lb.length=B.length→(∀(j:Nat) b,i≤j→B[j]? =some b→Lb[j]? =some (.sl 2 3 1 (ivs (vs b))))→ ∀ks,
 vgoL W ⟨h63,[(.cell 4 true 3), .tmp 5],0⟩ [2,4,7,32,33,34] c63L0 (.blk 0 [2,4,7]::ks) [(2, .own 0 []),(4, .own 1 []),(7, .own 2 []),(32, .own 3 [2]),(33, .x (.int .i64 B.length)),(34, .x (.int .i64 i))] [.pt 25 [.v (.int .i64 q), .v (.int .i64 k),X],T1, .sl nl 28 1 (lls 2 ((p78 (redR (M++B.take i))).map vs)), .pt 25 [.v (.int .i64 q), .v (.int .i64 k), .sl 2 28 1 Lb]]=
  vgo W ⟨h63,[(.cell 4 true 3), .tmp 5],0⟩ ks (VFr.of [(2, .own 0 []),(4, .own 1 []),(7, .own 2 [])]) [.pt 25 [.v (.int .i64 q), .v (.int .i64 k),X],T1, .sl (if n=0 then nl else 0) 28 1 (lls 2 ((p78 (redR (M++B))).map vs)), .pt 25 [.v (.int .i64 q), .v (.int .i64 k), .sl 2 28 1 (jkN n i Lb)]]
 |0,i,nl,Lb,hi,hL,hb,ks=>by
  rw[List.take_of_length_le (by omega),if_pos rfl,jkN,sb5 c63L0.eq_def]
  simp(disch:=first|omega|fail) only[push_cast,seval,vrl,if_pos,if_neg]
 |n+1,i,nl,Lb,hi,hL,hb,ks=>by
  obtain⟨b,hbi⟩:=ge6 (l:=B) (i:=i) (by omega)
  have l1:=hb i b (Nat.le_refl _) hbi
  have hbl:=h2 b (List.mem_of_getElem? hbi)
  have htk:B.take (i+1)=B.take i++[b]:=by rw[List.take_add_one,hbi];rfl
  have hT: ∀r∈B.take i,r.length=k:=fun r hr=>h2 r (List.mem_of_mem_take hr)
  have hA:=rl5 h1 hT
  obtain⟨a1,a2,a3⟩:=bi2 hA
  have ha:=zu4 a2
  have hlen:(p78 (redR (M++B.take i))).length≤k:=by
   rw[gb3]
   have:=a1.len
   simpa [toF]using this
  have hone: ∀r∈[b],r.length=k:=fun r hr=>by rw[List.mem_singleton.1 hr];exact hbl
  have hred:redR (p78 (redR (M++B.take i))++[b])=redR (M++B.take (i+1)):=by rw[rx4 hA hone,htk,List.append_assoc]
  have ih:=ij7 h0 hk h1 h2 hB (X:=X) (T1:=T1) n (i+1) 0 (Lb.set i .junk) (by omega) (by rw[List.length_set,hL]) (fun j c hj hc=>by rw[List.getElem?_set_ne (by omega)];exact hb j c (by omega) hc) ks
  rw[show(if n=0 then 0 else 0)=0 by split<;>rfl,Int.natCast_add,Int.natCast_one]at ih
  rw[if_neg (by omega),jkN]
  have hfull:k=64→(p78 (redR (M++B.take i))).length=64→redR (p78 (redR (M++B.take i)))=redR (M++B.take (i+1)):=fun e1 e2=>by
   rw[gz7 hA,htk,←List.append_assoc,a44 hA hone (by rw[←gb3,e2,e1])]
  rw[←lo1 (redR (M++List.take (i+1) B))]at ih
  generalize hR:p78 (redR (M++B.take i))=R at*
  have hRm:(R.map vs).length=R.length:=List.length_map _
  by_cases h64:R.length=64
  ·have hmm:List.foldl (mm false) 65 [64]=64:=rfl
   have e1:=fun b nl nr=>lq3 (q:=q) (b:=b) (nl:=nl) (nr:=nr) (N:=R) (n:=k) (by omega) (by omega) ha h0 hk
   rw[hfull (by omega) h64]at e1
   have hll:(lls 2 ((R++[b]).map vs)).take 64=lls 2 (R.map vs):=by
    rw[mm0,List.map_append,List.take_append_of_le_length (by omega),List.take_of_length_le (by omega)]
   rw[←ih,sb5 c63L0.eq_def]
   simp(disch:=first|omega|fail) only[push_cast,seval,vrl,if_pos,if_neg,vbx,l1,hL,hRm,h64,df0,hmm,e1,hll]
  ·have e1:=fun bb nl nr=>lq3 (q:=q) (b:=bb) (nl:=nl) (nr:=nr) (N:=R++[b]) (n:=k) (by simp) (by simp;omega) (rl5 ha hone) h0 hk
   rw[hred]at e1
   have hmin: ¬(64:Int)<(R.length:Int)+1:=by omega
   have hmm:List.foldl (mm false) ((R.length:Int)+1) [64]=(R.length:Int)+1:=by
    show(if(64:Int)<(R.length:Int)+1 then _ else _)=_
    rw[if_neg hmin]
   have hft:List.take ((R.length:Int)+1-0).toNat (List.map vs (R++[b]))=List.map vs (R++[b]):=List.take_of_length_le (by simp)
   have hRl:((R++[b]).map vs).length=R.length+1:=by simp
   rw[←ih,sb5 c63L0.eq_def]
   simp(disch:=first|omega|fail) only[push_cast,seval,vrl,if_pos,if_neg,vbx,l1,hL,hRm,df0,hRl,hmm,hft,e1,cw6 (Int.not_lt.1 hmin)]
theorem g86(hM:gi9 q k (M.map vs)=0)(hN:gi9 q k (N.map vs)=0):hv3 q k (M.map vs) q k (N.map vs)=0:=by
 unfold hv3;rw[if_pos hM,if_pos hN,if_pos ⟨rfl,rfl⟩]
theorem de0(hM:gi9 q k (M.map vs)=0)(hN:gi9 q k (N.map vs)=0)(h0:0<k)(hk:k≤64)(hl:M.length≤64)(hl2:N.length≤64)(h1: ∀r∈M,r.length=k)(h2: ∀r∈N,r.length=k):
 o24 W 63 [.agg [.x (.int .i64 q), .x (.int .i64 k), .fz true (.sl nl 0 1 (lvs nr (M.map vs)))], .agg [.x (.int .i64 q), .x (.int .i64 k), .fz true (.sl nl' 0 1 (lvs nr' (N.map vs)))]] []=some (.tup [.agg [.x (.int .i64 q), .x (.int .i64 k), .own 0 []], .x (.int .i64 0)],[.sl 2 28 1 (lls 2 (pvR (redR (M++N))))],[]):=by
 have e1:=g77 (q:=q) (n:=k) (M:=M.map vs) (q':=q) (n':=k) (M':=N.map vs) (nl:=nl) (nr:=nr) (nl':=nl') (nr':=nr')
 rw[g86 hM hN]at e1
 have e2:=fun nl nr=>ob1 (nl:=nl) (nr:=nr) hM h0 hk hl h1
 have e3:=fun nl nr=>ob1 (nl:=nl) (nr:=nr) hN h0 hk hl2 h2
 have hB:=zu4 (bi2 h2).2.1
 have hBl:(p78 (redR N)).length≤64:=by rw[gb3];have:=ew4 h2;omega
 have hAl:(p78 (redR M)).length≤64:=by rw[gb3];have:=ew4 h1;omega
 have e4:=fun X T1 nl ks=>ij7 (q:=q) h0 hk h1 hB hBl (X:=X) (T1:=T1) (p78 (redR N)).length 0 nl (lls 2 ((p78 (redR N)).map vs)) (by omega) (by rw[qf0,List.length_map]) (fun j b _ hb=>th8 (by rw[List.getElem?_map,hb];rfl)) ks
 rw[List.take_zero,List.append_nil,gl3 h1 h2]at e4
 simp only[Int.natCast_zero]at e4
 rw[lo1]at e2 e3⊢
 have l1:(List.map vs (p78 (redR M))).length=(p78 (redR M)).length:=List.length_map _
 have l2:(List.map vs (p78 (redR N))).length=(p78 (redR N)).length:=List.length_map _
 generalize p78 (redR M)=A at*
 generalize p78 (redR N)=B at*
 rw[o10 rfl T63 rfl]
 unfold F63 c63
 cases hA0:(List.map vs A).isEmpty with
 |true=>
  simp(disch:=first|omega|fail) only[push_cast,seval,vrl,if_pos,if_neg,vbx,e1,e2,e3,l1,l2,e03,hA0]
  rw[e4]
  simp(disch:=first|omega|fail) only[push_cast,seval,vrl,if_pos,if_neg]
 |false=>
  simp(disch:=first|omega|fail) only[push_cast,seval,vrl,if_pos,if_neg,vbx,e1,e2,e3,l1,l2,e03,hA0]
  rw[e4]
  simp(disch:=first|omega|fail) only[push_cast,seval,vrl,if_pos,if_neg]
end
end Go.Proofs.Ytodbgomfeacdhaa
namespace Go.Proofs.Ytodbgomfeacdhaa
open Go.Am Go.Vm
section
variable {zs:List Int} {I J nl:Nat}
@[push_cast] theorem gi2:vM 94=[.own 3 1, .bor 0, .bor 0]:=rfl
@[push_cast] theorem xx2:vH 94=hNo:=rfl
end
end Go.Proofs.Ytodbgomfeacdhaa
namespace Go.Alg
section
variable {K:Type} [FK K] {n a:Nat}
end
end Go.Alg
namespace Go.Proofs.Ytodbgomfeacdhaa
open Go.Am Go.Vm Go.Alg
section
variable {q:Int} [IsFld q] {n0:Int} {nl nr:Nat} {b:Bool} {t:Tree} {k:FuncId} {N:List (List (El q))} {g:List (El q)→List (El q)} {fg:List (El q)→Nat} {n':Nat}
end
section
variable {q n:Int} {nl nr:Nat} {M:List (List Int)} {a:Int}
end
section
variable {q:Int} [IsFld q] {k nl nr:Nat} {N:List (List (El q))} {a:Nat}
end
def wtW:List Int→Nat
 | []=>0
 |x::a=>(if x=0 then 0 else 1)+wtW a
def apW:List Int→List Int→Nat
 |x::a,y::c=>(if x=y then 0 else 1)+apW a c
 |_,_=>0
theorem p55: ∀a:List Int,wtW a≤a.length
 | []=>Nat.le_refl _
 |x::a=>by have:=p55 a;rw[wtW,List.length_cons];split<;>omega
section
variable {a c:List Int} {b b':Bool} {nl nl':Nat}
theorem mu5(ha:a.length≤9223372036854775807): ∀(d i n:Nat),i+d=a.length→n≤i→ ∀ks,
 vgoL W ⟨hNo,[.tmp 2],0⟩ [3,6,7,8] c77L0 (.blk 0 [3]::ks) [(3, .x (.int .i64 n)),(6, .fz b (.sl nl 0 1 (ivs a))),(7, .x (.int .i64 a.length)),(8, .x (.int .i64 i))] []=vgo W ⟨hNo,[.tmp 2],0⟩ ks (VFr.of [(3, .x (.int .i64 (n+wtW (a.drop i):Nat)))]) []
 |0,i,n,hi,hn,ks=>by
  rw[oh9 (by omega),sb5 c77L0.eq_def]
  show _=vgo W ⟨hNo,[.tmp 2],0⟩ ks (VFr.of [(3, .x (.int .i64 (n+0:Nat)))]) []
  rw[Nat.add_zero]
  simp(disch:=first|omega|fail) only[push_cast,seval,vrl,if_pos,if_neg]
 |d+1,i,n,hi,hn,ks=>by
  obtain⟨x,hx⟩:=ge6 (l:=a) (i:=i) (by omega)
  have h1:=iat hx
  have ih:=mu5 ha d (i+1) (n+if x=0 then 0 else 1) (by omega) (by split<;>omega) ks
  rw[i62 hx,wtW]
  rw[Nat.add_assoc]at ih
  rw[←ih,sb5 c77L0.eq_def]
  by_cases h:x=0
  ·rw[if_pos h,Nat.add_zero,Int.natCast_add,Int.natCast_one]
   simp(disch:=first|omega|fail) only[push_cast,seval,vrl,if_pos,if_neg,h1,h]
  ·rw[if_neg h,Int.natCast_add,Int.natCast_one,Int.natCast_add,Int.natCast_one]
   simp(disch:=first|omega|fail) only[push_cast,seval,vrl,if_pos,if_neg,h1,nb8 h]
theorem fd2(ha:a.length≤9223372036854775807):o24 W 77 [.fz b (.sl nl 0 1 (ivs a))] []=some (.x (.int .i64 (wtW a)),[],[]):=by
 have e:=fun ks=>mu5 (b:=b) (nl:=nl) ha a.length 0 0 (by omega) (by omega) ks
 rw[List.drop_zero,Nat.zero_add]at e
 simp only[Int.natCast_zero]at e
 rw[o10 rfl T77 rfl]
 unfold F77 c77
 simp(disch:=first|omega|fail) only[push_cast,seval,vrl,if_pos,if_neg]
 rw[e]
 simp(disch:=first|omega|fail) only[push_cast,seval,vrl,if_pos,if_neg]
theorem vu0(hc:c.length=a.length)(ha:a.length≤9223372036854775807): ∀(d i n:Nat),i+d=a.length→n≤i→ ∀ks,
 vgoL W ⟨hNo,[.tmp 4],0⟩ [0,1,5,13,14] c67L0 (.blk 0 [5]::ks) [(0, .fz b (.sl nl 0 1 (ivs a))),(1, .fz b' (.sl nl' 0 1 (ivs c))),(5, .x (.int .i64 n)),(13, .x (.int .i64 a.length)),(14, .x (.int .i64 i))] []=
  vgo W ⟨hNo,[.tmp 4],0⟩ ks (VFr.of [(5, .x (.int .i64 (n+apW (a.drop i) (c.drop i):Nat)))]) []
 |0,i,n,hi,hn,ks=>by
  rw[oh9 (by omega),sb5 c67L0.eq_def]
  show _=vgo W ⟨hNo,[.tmp 4],0⟩ ks (VFr.of [(5, .x (.int .i64 (n+0:Nat)))]) []
  rw[Nat.add_zero]
  simp(disch:=first|omega|fail) only[push_cast,seval,vrl,if_pos,if_neg]
 |d+1,i,n,hi,hn,ks=>by
  obtain⟨x,hx⟩:=ge6 (l:=a) (i:=i) (by omega)
  obtain⟨y,hy⟩:=ge6 (l:=c) (i:=i) (by omega)
  have h1:=iat hx
  have h2:=iat hy
  have ih:=vu0 hc ha d (i+1) (n+if x=y then 0 else 1) (by omega) (by split<;>omega) ks
  rw[i62 hx,i62 hy,apW]
  rw[Nat.add_assoc]at ih
  rw[←ih,sb5 c67L0.eq_def]
  by_cases h:x=y
  ·rw[if_pos h,Nat.add_zero,Int.natCast_add,Int.natCast_one]
   simp(disch:=first|omega|fail) only[push_cast,seval,vrl,if_pos,if_neg,h1,h2,h]
  ·rw[if_neg h,Int.natCast_add,Int.natCast_one,Int.natCast_add,Int.natCast_one]
   simp(disch:=first|omega|fail) only[push_cast,seval,vrl,if_pos,if_neg,h1,h2,nb8 h]
def apE(a c:List Int):Int:=if a.length=c.length then(apW a c:Int)else-1
theorem w74(ha:a.length≤9223372036854775807)(hcl:c.length≤9223372036854775807):o24 W 67 [.fz b (.sl nl 0 1 (ivs a)), .fz b' (.sl nl' 0 1 (ivs c))] []=some (.x (.int .i64 (apE a c)),[],[]):=by
 unfold apE
 by_cases h:a.length=c.length
 ·rw[if_pos h]
  have e:=fun ks=>vu0 (b:=b) (nl:=nl) (b':=b') (nl':=nl') h.symm ha a.length 0 0 (by omega) (by omega) ks
  rw[List.drop_zero,List.drop_zero,Nat.zero_add]at e
  simp only[Int.natCast_zero]at e
  rw[o10 rfl T67 rfl]
  unfold F67 c67
  simp(disch:=first|omega|fail) only[push_cast,seval,vrl,if_pos,if_neg,h]
  rw[h]at e
  rw[e]
  simp(disch:=first|omega|fail) only[push_cast,seval,vrl,if_pos,if_neg]
 ·rw[if_neg h]
  have h': ¬(a.length:Int)=(c.length:Int):=by omega
  rw[o10 rfl T67 rfl]
  unfold F67 c67
  simp(disch:=first|omega|fail) only[push_cast,seval,vrl,if_pos,if_neg,nb8 h']
end
section
variable {q:Int} [IsFld q] {k nl nr nl2:Nat} {b:Bool}
end
section
variable {q:Int} [IsFld q] {k nl nr:Nat} {b:Bool} {N:List (List (El q))} {a:Nat}
end
section
variable {q:Int} [IsFld q] {k nl nr:Nat} {b:Bool} {N:List (List (El q))} {a:Nat}
end
def pkI(a n:Int):Int:=(if a<0 then-(a+1)else a).tmod n
theorem h59{a n:Int}(hn:0<n):0≤pkI a n∧pkI a n<n:=by
 unfold pkI
 split
 ·exact⟨Int.tmod_nonneg _ (by omega),Int.tmod_lt_of_pos _ hn⟩
 ·exact⟨Int.tmod_nonneg _ (by omega),Int.tmod_lt_of_pos _ hn⟩
def rwI(l:List Int)(i:Int):Int:=if l.length=0 then i else IntKind.wrap .i64 (gi l (i.tmod l.length)+IntKind.wrap .i64 (IntKind.wrap .i64 (i.tdiv l.length)*7919))
theorem ti9(x:Int): -9223372036854775808≤IntKind.wrap .i64 x∧IntKind.wrap .i64 x≤9223372036854775807:=by rw[IntKind.wrap_i64];omega
theorem bd0{l:List Int}{i:Int}(h0:0≤i)(h1:i≤9223372036854775807): -9223372036854775808≤rwI l i∧rwI l i≤9223372036854775807:=by
 unfold rwI
 split
 ·omega
 ·exact ti9 _
theorem cl0{l:List Int}{i:Int}(h0:0≤i)(h1:i<l.length):(ivs l)[i.toNat]? =some (.v (.int .i64 (gi l i))):=by
 have e:(ivs l)[i.toNat]? =some (.v (.int .i64 (gi l ((i.toNat:Nat):Int)))):=ui5 (by omega)
 rwa [Int.toNat_of_nonneg h0]at e
section
variable {b:Bool} {nl:Nat} {raw:List Int}
theorem s88{a n:Int}(h1: -9223372036854775808≤a)(h2:a≤9223372036854775807)(hn:0<n):o24 W 45 [.x (.int .i64 a), .x (.int .i64 n)] []=some (.x (.int .i64 (pkI a n)),[],[]):=by
 have hz: ¬n=0:=by omega
 rw[o10 rfl T45 rfl]
 unfold F45 c45 pkI
 by_cases h0:a<0
 ·rw[if_pos h0]
  simp(disch:=first|omega|fail) only[push_cast,seval,vrl,if_pos,if_neg,nb8 hz,hz]
  rw[show(0:Int)-(a+1)= -(a+1) by omega]
 ·rw[if_neg h0]
  simp(disch:=first|omega|fail) only[push_cast,seval,vrl,if_pos,if_neg,nb8 hz,hz]
theorem yc3{i:Int}(hi:0≤i)(hl:raw.length≤9223372036854775807):o24 W 59 [.fz b (.sl nl 0 1 (ivs raw)), .x (.int .i64 i)] []=some (.x (.int .i64 (rwI raw i)),[],[]):=by
 rw[o10 rfl T59 rfl]
 unfold F59 c59 rwI
 by_cases h0:raw.length=0
 ·rw[if_pos h0]
  have h0':(raw.length:Int)=0:=by omega
  simp(disch:=first|omega|fail) only[push_cast,seval,vrl,if_pos,if_neg,h0']
 ·rw[if_neg h0]
  have hz: ¬(raw.length:Int)=0:=by omega
  have b1:0≤i.tmod raw.length:=Int.tmod_nonneg _ hi
  have b2:i.tmod raw.length<raw.length:=Int.tmod_lt_of_pos _ (by omega)
  have e:=cl0 b1 b2
  simp(disch:=first|omega|fail) only[push_cast,seval,vrl,if_pos,if_neg,hz,nb8 hz,e]
end
section
variable {k:FuncId} {p:Int→Bool} {l:List Int} {nl:Nat}
theorem ac4(hk: ∀v,o24 W k [.x (.int .i64 v)] []=some (.x (.bool (p v)),[],[]))(hM:vM k=[]){bl:Bool}(hl:l.length≤9223372036854775807): ∀(n i:Nat),i+n=l.length→ ∀ks,
 vgoL W ⟨hNo,[.tmp 4],0⟩ [0,1,7,8] c141L0 (.blk 0 []::ks) [(0, .fz bl (.sl nl 0 1 (ivs l))),(1, .fn k []),(7, .x (.int .i64 l.length)),(8, .x (.int .i64 i))] []=
  if fidx p i (l.drop i)= -1 then vgo W ⟨hNo,[.tmp 4],0⟩ ks (VFr.of []) []else some (.x (.int .i64 (fidx p i (l.drop i))),[],[])
 |0,i,hi,ks=>by
  rw[oh9 (by omega),fidx,if_pos rfl,sb5 c141L0.eq_def]
  simp(disch:=first|omega|fail) only[push_cast,seval,vrl,if_pos,if_neg]
 |n+1,i,hi,ks=>by
  have ih:=ac4 hk hM (bl:=bl) hl n (i+1) (by omega) ks
  obtain⟨a,ha⟩:=ge6 (l:=l) (i:=i) (by omega)
  have h1:=iat ha
  rw[i62 ha,fidx]
  rw[Int.natCast_add,Int.natCast_one]at ih
  have hka:=hk a
  cases hp:p a with
  |true=>
   rw[hp]at hka
   rw[if_pos rfl,if_neg (by omega),sb5 c141L0.eq_def]
   simp(disch:=first|omega|fail) only[push_cast,seval,vrl,if_pos,if_neg,h1,hka,hM]
  |false=>
   rw[hp]at hka
   simp only[Bool.false_eq_true,if_false]
   rw[←ih,sb5 c141L0.eq_def]
   simp(disch:=first|omega|fail) only[push_cast,seval,vrl,if_pos,if_neg,h1,hka,hM]
theorem rq1(hk: ∀v,o24 W k [.x (.int .i64 v)] []=some (.x (.bool (p v)),[],[]))(hM:vM k=[]){bl:Bool}(hl:l.length≤9223372036854775807):
 o24 W 95 [.fz bl (.sl nl 0 1 (ivs l)), .fn k []] []=some (.x (.bool (l.any p)),[],[]):=by
 have e:=fun nl ks=>ac4 (nl:=nl) hk hM (bl:=bl) hl l.length 0 (by omega) ks
 simp only[Int.natCast_zero,List.take_zero,List.drop_zero,rp2,lz6,x25,List.map_nil,List.length_nil]at e
 have e2: ∀bl2 nl,bl2=bl→o24 W 141 [.fz bl2 (.sl nl 0 1 (ivs l)), .fn k []] []=some (.x (.int .i64 (fidx p 0 l)),[],[]):=fun bl2 nl hb=>by
  subst hb
  rw[o10 rfl T141 rfl]
  unfold F141 c141
  simp(disch:=first|omega|fail) only[push_cast,seval,vrl,if_pos,if_neg]
  rw[e]
  by_cases h:fidx p 0 l= -1
  ·rw[if_pos h,h]
   simp(disch:=first|omega|fail) only[push_cast,seval,vrl,if_pos,if_neg]
  ·rw[if_neg h]
 have e3:=fun nl=>e2 bl nl rfl
 rw[o10 rfl T95 rfl]
 unfold F95 c95
 rw[←tl6 p 0 l]
 simp(disch:=first|omega|fail) only[push_cast,seval,vrl,if_pos,if_neg,e3]
end
section
variable {q:Int} [IsFld q] {k nl nr nl2:Nat} {b:Bool} {N:List (List (El q))}
end
def fewQ(q:Int):Nat→Int→Bool
 |0,_=>true
 |d+1,n=>if 4096<n*q then false else fewQ q d (n*q)
theorem ev9{q:Int}(h1:0≤q)(h2:q≤64){k:Nat}(hk:k≤1000): ∀(d i:Nat) (n:Int),i+d=k→0≤n→n≤4096→ ∀ks,
 vgoL W ⟨hNo,[.tmp 4],0⟩ [0,1,5,6] c64L0 (.blk 0 []::ks) [(0, .x (.int .i64 q)),(1, .x (.int .i64 k)),(5, .x (.int .i64 n)),(6, .x (.int .i64 i))] []=if fewQ q d n=true then vgo W ⟨hNo,[.tmp 4],0⟩ ks (VFr.of []) []else some (.x (.bool false),[],[])
 |0,i,n,hi,hn,hn2,ks=>by
  rw[fewQ,if_pos rfl,sb5 c64L0.eq_def]
  simp(disch:=first|omega|fail) only[push_cast,seval,vrl,if_pos,if_neg]
 |d+1,i,n,hi,hn,hn2,ks=>by
  have hb0:0≤n*q:=Int.mul_nonneg hn h1
  have hb1:n*q≤4096*64:=Int.mul_le_mul hn2 h2 h1 (by decide)
  have hb2:n*q≤262144:=by omega
  rw[fewQ]
  by_cases h:4096<n*q
  ·rw[if_pos h,if_neg (by decide),sb5 c64L0.eq_def]
   simp(disch:=first|omega|fail) only[push_cast,seval,vrl,if_pos,if_neg,dec_lt h]
  ·have ih:=ev9 h1 h2 hk d (i+1) (n*q) (by omega) hb0 (by omega) ks
   rw[Int.natCast_add,Int.natCast_one]at ih
   rw[if_neg h,←ih,sb5 c64L0.eq_def]
   simp(disch:=first|omega|fail) only[push_cast,seval,vrl,if_pos,if_neg,cw6 (Int.not_lt.1 h)]
theorem os1{q:Int}(h1:0≤q)(h2:q≤64){k:Nat}(hk:k≤1000):o24 W 64 [.x (.int .i64 q), .x (.int .i64 k)] []=some (.x (.bool (fewQ q k 1)),[],[]):=by
 have e:=fun ks=>ev9 h1 h2 hk k 0 1 (by omega) (by decide) (by decide) ks
 simp only[Int.natCast_zero,List.take_zero,List.drop_zero,rp2,lz6,x25,List.map_nil,List.length_nil]at e
 rw[o10 rfl T64 rfl]
 unfold F64 c64
 simp(disch:=first|omega|fail) only[push_cast,seval,vrl,if_pos,if_neg]
 rw[e]
 cases hz:fewQ q k 1 with
 |true=>
  rw[if_pos rfl]
  simp(disch:=first|omega|fail) only[push_cast,seval,vrl,if_pos,if_neg]
 |false=>rw[if_neg (by decide)]
section
variable {q n:Int} {nl nr nl2:Nat} {M:List (List Int)} {b:Bool} {w:List Int}
end
section
variable {q:Int} [IsFld q] {k nl nr nl2:Nat} {b:Bool} {N:List (List (El q))} {w:List Int}
end
end Go.Proofs.Ytodbgomfeacdhaa
namespace Go.Alg
section
variable {K:Type} [FK K]
end
end Go.Alg
namespace Go.Alg
section
variable {K:Type} [FK K]
def ev:List K→K→K
 | [],_=>0
 |a::l,x=>a+x*ev l x
def sd(x0:K):List K→List K×K
 | []=>([],0)
 | [a]=>([],a)
 |a::b::l=>((sd x0 (b::l)).2::(sd x0 (b::l)).1,a+x0*(sd x0 (b::l)).2)
theorem w89(x0:K): ∀l:List K,(sd x0 l).1.length=l.length-1
 | []=>rfl
 | [a]=>rfl
 |a::b::l=>by
  rw[sd]
  show(sd x0 (b::l)).1.length+1=_
  rw[w89 x0 (b::l)];simp
theorem n68(x0 y:K): ∀l:List K,ev l y=(y-x0)*ev (sd x0 l).1 y+(sd x0 l).2
 | []=>by rw[sd,ev,mul_zero,FK.add_zero]
 | [a]=>by
   show a+y*0=(y-x0)*0+a
   rw[mul_zero,mul_zero,FK.add_zero,zero_add]
 |a::b::l=>by
  rw[ev,n68 x0 y (b::l),sd]
  show a+y*((y-x0)*ev (sd x0 (b::l)).1 y+(sd x0 (b::l)).2)=(y-x0)*((sd x0 (b::l)).2+y*ev (sd x0 (b::l)).1 y)+(a+x0*(sd x0 (b::l)).2)
  generalize (sd x0 (b::l)).2=r
  generalize ev (sd x0 (b::l)).1 y=e
  rw[FK.mul_add,FK.mul_add,sub_mul y x0 r]
  have h1:y*((y-x0)*e)=(y-x0)*(y*e):=by ac_rfl
  rw[h1,sub_eq (y*r)]
  have h2:y*r+ -(x0*r)+(y-x0)*(y*e)+(a+x0*r)=a+((y-x0)*(y*e)+y*r)+(-(x0*r)+x0*r):=by ac_rfl
  rw[h2,neg_add,FK.add_zero]
theorem cz6(x0:K)(l:List K):(sd x0 l).2=ev l x0:=by
 have:=n68 x0 x0 l
 rw[sub_self,zero_mul,zero_add]at this
 exact this.symm
theorem rj2(x0:K): ∀l:List K,(∀c∈(sd x0 l).1,c=0)→(sd x0 l).2=0→ ∀c∈l,c=0
 | [],_,_,c,hc=>by cases hc
 | [a],_,h,c,hc=>by
   rw[List.mem_singleton.1 hc];exact h
 |a::b::l,h1,h2,c,hc=>by
  rw[sd]at h1 h2
  have hr:(sd x0 (b::l)).2=0:=h1 _ (by simp)
  have ih:=rj2 x0 (b::l) (fun c hc=>h1 c (by simp[hc])) hr
  rcases List.mem_cons.1 hc with rfl|hc
  ·rw[hr,mul_zero,FK.add_zero]at h2;exact h2
  ·exact ih c hc
theorem roots: ∀(xs:List K) (f:List K),xs.Nodup→f.length≤xs.length→(∀x∈xs,ev f x=0)→ ∀c∈f,c=0
 | [],f,_,hl,_=>by
   intro c hc
   rw[List.eq_nil_of_length_eq_zero (Nat.le_zero.1 hl)]at hc;cases hc
 |x0::xs,f,hn,hl,hx=>by
  rw[List.nodup_cons]at hn
  have h0:=hx x0 (by simp)
  rw[←cz6]at h0
  have hl2:=w89 x0 f
  rw[List.length_cons]at hl
  refine rj2 x0 f (roots xs _ hn.2 (by omega) fun y hy=> ?_) h0
  have h1:=n68 x0 y f
  rw[hx y (by simp[hy]),h0,FK.add_zero]at h1
  rcases mul_eq_zero h1.symm with h2|h2
  ·exact absurd (by rw[←sub_eq_zero.1 h2];exact hy) hn.1
  ·exact h2
end
end Go.Alg
namespace Go.Alg
section
variable {K:Type} [FK K]
end
end Go.Alg
namespace Go.Proofs.Ytodbgomfeacdhaa
open Go.Am Go.Vm Go.Alg
section
variable {q:Int} {b:Bool} {nl:Nat} {l:List Int}
end
section
variable {q:Int} [IsFld q] {b:Bool} {nl:Nat} {a:List (El q)}
end
end Go.Proofs.Ytodbgomfeacdhaa
namespace Go.Alg
section
variable {K:Type} [FK K]
end
end Go.Alg
namespace Go.Proofs.Ytodbgomfeacdhaa
open Go.Am Go.Vm Go.Alg
section
variable {q:Int} {b b':Bool} {nl nl':Nat}
end
section
variable {q:Int} {b b':Bool} {nl nl':Nat}
end
end Go.Proofs.Ytodbgomfeacdhaa
namespace Go.Alg
section
variable {K:Type} [FK K]
open Classical in
end
end Go.Alg
namespace Go.Alg
section
variable {K:Type} [FK K]
end
end Go.Alg
namespace Go.Proofs.Ytodbgomfeacdhaa
open Go.Am Go.Vm Go.Alg
section
variable {raw:List Int} {b:Bool} {nl:Nat}
end
section
variable {a c:List Int} {b b':Bool} {nl nl':Nat}
end
section
variable {q:Int} {b:Bool} {nl:Nat} {xs:List Int} {k:Int}
end
section
variable {q:Int} [hq:IsFld q]
variable {b b':Bool} {nl nl':Nat} {X m:List (El q)}
end
section
variable {q:Int}
def oV:Option (El q)→Int
 |none=> -1
 |some x=>x.v
def ws(W:List (Option (El q))):List Int:=W.map oV
end
section
variable {q:Int} {b b':Bool} {nl nl':Nat}
end
section
variable {q p m g:Int} {t:Tree} {b b':Bool} {nl nl':Nat} {l:List Int}
variable {xs:List Int} {k:Int}
variable {w:List Int}
end
section
variable {q p m g:Int} [IsFld q] {t:Tree} {b b':Bool} {nl nl':Nat} {a:List (El q)} {x:El q}
end
section
variable {q p m g:Int} [IsFld q] {t:Tree} {b b':Bool} {nl nl' nr n7 n8:Nat} {M:List (List (El q))} {A:List (Nat×List (El q))} {N:Nat}
end
section
variable {q:Int} [IsFld q] {b b':Bool} {nl nl' nr:Nat} {M:List (List (El q))} {y:List (El q)} {n R:Nat}
section
variable {T5:Tree} {c at' n0:Nat}
end
end
section
variable {q:Int} {b b':Bool} {nl nl' nr e:Nat}
end
section
variable {α:Type} {n:Nat}
end
section
variable {q:Int} [IsFld q] {b b':Bool} {nl nl' nr:Nat} {M:List (List (El q))} {n:Nat}
end
section
variable {q:Int} {b b':Bool} {nl nl' nr e:Nat}
end
end Go.Proofs.Ytodbgomfeacdhaa
namespace Go.Alg
section
variable {K:Type} [FK K]
end
end Go.Alg
namespace Go.Proofs.Ytodbgomfeacdhaa
open Go.Am Go.Vm Go.Alg
section
variable {q:Int} [h:IsFld q]
end
section
variable {q:Int} [IsFld q] {b b':Bool} {nl nl':Nat} {P:List (El q×El q)} {k:Nat}
end
section
variable {q p m g:Int} [IsFld q] {t:Tree} {b b' b2:Bool} {nl nl' nl2:Nat} {a:List (El q)} {X:List (El q)} {U:List (Option (El q))}
end
section
variable {K:Type} [FK K]
end
section
variable {q p m g:Int} [IsFld q] {t:Tree} {b b':Bool} {nl nl':Nat} {c:List (El q)} {top:El q}
end
theorem qe6{p s:List Int}{a:Int}{i:Nat}(hi:p.length=i):(ivs (p++a::s))[i]? =some (.v (.int .i64 a)):=iat (by subst hi;simp)
section
variable {q:Int} {nl:Nat}
end
section
variable {q:Int}
variable {b b':Bool} {nl nl':Nat} {xs w:List Int} {k:Int}
end
theorem q_hi{q:Int} [hq:IsFld q]:q≤64:=by
 obtain⟨p,m,g,mod,hn⟩:=hq.ok
 exact(jj8 hn).1.q64
section
variable {q:Int} [IsFld q]
def elE(q:Int) [IsFld q](a:Int):El q:=if h:0≤a∧a<q then⟨a,h.1,h.2⟩else 0
theorem sx0{a:Int}(h:0≤a∧a<q):(elE q a).v=a:=by unfold elE;rw[dif_pos h]
theorem c86{l:List Int}(h:digS q l):vs (l.map (elE q))=l:=by
 unfold vs
 rw[List.map_map]
 conv=>rhs;rw[←List.map_id l]
 exact List.map_congr_left fun a ha=>sx0 (h a ha)
theorem oa6(z:List (El q)):digS q (vs z):=fun a ha=>by
 obtain⟨x,_,rfl⟩:=List.mem_map.1 ha
 exact⟨x.lo,x.hi⟩
def yv6(z:List (El q)):List (El q):=(qr3 q (vs z)).1.map (elE q)
theorem z55: ∃p:Nat,q=(p:Int)∧2≤p∧p≤64:=⟨q.toNat,by have:=aw0 (q:=q);omega,by have:=aw0 (q:=q);omega,by have:=q_hi (q:=q);omega⟩
theorem mw7(z:List (El q)):vs (yv6 z)=(qr3 q (vs z)).1:=by
 obtain⟨p,hp,h2,_⟩:=z55 (q:=q)
 refine c86 ?_
 have:=(jd2 (q:=p) (by omega) (l:=vs z) (by rw[←hp];exact oa6 z)).1
 rwa [←hp]at this
theorem l71(z:List (El q)):(yv6 z).length=z.length:=by
 have:=congrArg List.length (mw7 z)
 rwa [fi2,pd1,fi2]at this
theorem nc8{p:Nat}: ∀(d:Nat) (n:Nat),fewQ (p:Int) d (n:Int)=true→n≤4096→n*p^d≤4096
 |0,n,_,hn=>by simpa using hn
 |d+1,n,h,hn=>by
  rw[fewQ]at h
  split at h
  ·cases h
  ·rename_i h1
   rw[←Int.natCast_mul]at h h1
   have:=nc8 d (n*p) h (by omega)
   rw[Nat.mul_assoc,←Nat.pow_succ']at this
   exact this
structure Left (q:Int) (p:Nat) (n:Nat) (z:List (El q)):Prop where
 e:q=(p:Int)
 h:valS p (vs z)+n+1=p^z.length
theorem Left.last{p:Nat}{z:List (El q)}(h:Left q p 0 z):(qr3 q (vs z)).2=false:=by
 have hq:=aw0 (q:=q)
 have h1:=jd2 (q:=p) (by have:=h.e;omega) (l:=vs z) (by rw[←h.e];exact oa6 z)
 rw[←h.e]at h1
 cases hb:(qr3 q (vs z)).2 with
 |false=>rfl
 |true=>
  have h2:=h1.2
  rw[hb,if_pos rfl]at h2
  have h3:=uc1 (q:=p) (l:=(qr3 q (vs z)).1) (by rw[←h.e];exact h1.1)
  rw[pd1,fi2]at h3
  have:=h.h
  omega
theorem Left.more{p n:Nat}{z:List (El q)}(h:Left q p (n+1) z):(qr3 q (vs z)).2=true∧Left q p n (yv6 z):=by
 have hq:=aw0 (q:=q)
 have h1:=jd2 (q:=p) (by have:=h.e;omega) (l:=vs z) (by rw[←h.e];exact oa6 z)
 rw[←h.e]at h1
 have h0:=h.h
 cases hb:(qr3 q (vs z)).2 with
 |false=>
  have h2:=h1.2
  rw[hb,if_neg (by decide),fi2]at h2
  omega
 |true=>
  have h2:=h1.2
  rw[hb,if_pos rfl]at h2
  exact⟨rfl,h.e,by rw[mw7,l71];omega⟩
theorem Left.start{p:Nat}(e:q=(p:Int))(K:Nat):Left q p (p^K-1) (List.replicate K (0:El q)):=by
 have hq:=aw0 (q:=q)
 refine⟨e, ?_⟩
 have h0: ∀k:Nat,valS p (vs (List.replicate k (0:El q)))=0:=by
  intro k
  induction k with
  |zero=>rfl
  |succ k ih=>rw[List.replicate_succ,show vs ((0:El q)::List.replicate k 0)=0::vs (List.replicate k 0)from rfl,valS,ih];simp
 rw[h0,List.length_replicate]
 have:0<p^K:=Nat.pow_pos (by omega)
 omega
end
section
variable {q p m g:Int} [IsFld q] {t:Tree} {b b' b2:Bool} {nl nl' nl2:Nat} {X Y:List (El q)} {r:Int} {K:Nat}
end
section
variable {q n:Int} {nl nr:Nat} {M:List (List Int)}
end
section
variable {q:Int} [IsFld q] {k nl nr:Nat} {N:List (List (El q))}
theorem kh1(h1:0≤q)(h2:q≤64){M:List (List Int)}{K:Nat}(hK:K≤1000): ∀(d i:Nat) (n:Int),i+d=K→0≤n→n≤4096→ ∃n':Int,∀ks,
 vgoL W ⟨hNo,[(.cell 2 true 3), .tmp 3],0⟩ [1,2,5,17,18] c75L0 (.blk 0 [1,2]::ks) [(1, .own 0 []),(2, .own 1 []),(5, .x (.int .i64 n)),(17, .x (.int .i64 K)),(18, .x (.int .i64 i))] [.pt 25 [.v (.int .i64 q), .v (.int .i64 k), .sl 2 28 1 (lls 2 M)], .pt 25 [.v (.int .i64 0), .v (.int .i64 0), .sl 2 28 1 []]]=
  if fewQ q d n=true then vgo W ⟨hNo,[(.cell 2 true 3), .tmp 3],0⟩ ks (VFr.of [(1, .own 0 []),(2, .own 1 [])]) [.pt 25 [.v (.int .i64 q), .v (.int .i64 k), .sl 2 28 1 (lls 2 M)], .pt 25 [.v (.int .i64 0), .v (.int .i64 0), .sl 2 28 1 []]]
  else some (.tup [.agg [.x (.int .i64 0), .x (.int .i64 0), .x (.slice none 0 0)], .x (.int .i64 4)],[],[])
 |0,i,n,hi,h0,hn=>by
  refine⟨n,fun ks=> ?_⟩
  rw[fewQ,if_pos rfl,sb5 c75L0.eq_def]
  simp(disch:=first|omega|fail) only[push_cast,seval,vrl,if_pos,if_neg]
 |d+1,i,n,hi,hn,hn2=>by
  have hb0:0≤n*q:=Int.mul_nonneg hn h1
  have hb1:n*q≤4096*64:=Int.mul_le_mul hn2 h2 h1 (by decide)
  have hb2:n*q≤262144:=by omega
  rw[fewQ]
  by_cases h:4096<n*q
  ·rw[if_pos h]
   refine⟨n,fun ks=> ?_⟩
   rw[if_neg (by decide),sb5 c75L0.eq_def]
   simp(disch:=first|omega|fail) only[push_cast,seval,vrl,if_pos,if_neg,dec_lt h]
  ·obtain⟨n',ih⟩:=kh1 h1 h2 (M:=M) hK d (i+1) (n*q) (by omega) hb0 (by omega)
   refine⟨n',fun ks=> ?_⟩
   have ih:=ih ks
   rw[Int.natCast_add,Int.natCast_one]at ih
   rw[if_neg h,←ih,sb5 c75L0.eq_def]
   simp(disch:=first|omega|fail) only[push_cast,seval,vrl,if_pos,if_neg,cw6 (Int.not_lt.1 h)]
theorem lw9(he:gi9 q k (N.map vs)=0)(h0:0<k)(hk:k≤64)(hl:N.length≤64)(hr: ∀r∈N,r.length=k):
 o24 W 75 [.agg [.x (.int .i64 q), .x (.int .i64 k), .fz true (.sl nl 0 1 (lvs nr (N.map vs)))]] []=if fewQ q (redR N).length 1=true then some (.tup [.agg [.x (.int .i64 q), .x (.int .i64 k), .own 0 []], .x (.int .i64 0)],[.sl 2 28 1 (lls 2 (pvR (redR N)))],[])
  else some (.tup [.agg [.x (.int .i64 0), .x (.int .i64 0), .x (.slice none 0 0)], .x (.int .i64 4)],[],[]):=by
 have e1:=fun nl nr=>ob1 (nl:=nl) (nr:=nr) he h0 hk hl hr
 have hle:=ew4 hr
 have hq:=aw0 (q:=q)
 obtain⟨n',e⟩:=kh1 (q:=q) (k:=k) (M:=pvR (redR N)) (by omega) q_hi (K:=(redR N).length) (by omega) (redR N).length 0 1 (by omega) (by omega) (by omega)
 simp only[Int.natCast_zero,List.take_zero,List.drop_zero,rp2,lz6,x25,List.map_nil,List.length_nil]at e
 have h1:=nu3 (redR N)
 rw[o10 rfl T75 rfl]
 unfold F75 c75
 simp(disch:=first|omega|fail) only[push_cast,seval,vrl,if_pos,if_neg,e1,h1]
 rw[e]
 cases fewQ q (redR N).length 1 with
 |true=>
  rw[if_pos rfl,if_pos rfl]
  simp(disch:=first|omega|fail) only[push_cast,seval,vrl,if_pos,if_neg]
 |false=>rw[if_neg (by decide),if_neg (by decide)]
theorem q96{M:List (List Int)}:o24 W 76 [.agg [.x (.int .i64 q), .x (.int .i64 k), .fz true (.sl nl 0 1 (lvs nr M))]] []=some (.fn 131 [.own 0 []],[.pt 25 [.v (.int .i64 q), .v (.int .i64 k), .fz (.sl nl 0 1 (lvs nr M))]],[]):=by
 rw[o10 rfl T76 rfl]
 unfold F76 c76
 simp(disch:=first|omega|fail) only[push_cast,seval,vrl,if_pos,if_neg]
end
section
variable {q:Int} [IsFld q] {k nl nr nl2 nlo:Nat} {b:Bool} {R:List (List (El q))}
def wdL(k:Nat)(R:List (List (El q))):Nat→List (El q)→List (List (El q))
 |0,z=>[encL k z R]
 |n+1,z=>encL k z R::wdL k R n (yv6 z)
def inc1(o:List Int)(w:List (El q)):List Int:=o.set (wtW (vs w)) (o.getD (wtW (vs w)) 0+1)
theorem c40(o:List Int)(w:List (El q)):(inc1 o w).length=o.length:=by unfold inc1;rw[List.length_set]
structure CntOK (k m:Nat) (o:List Int):Prop where
 len:o.length=k+1
 lo: ∀x∈o,0≤x∧x≤(m:Int)
theorem CntOK.next{m:Nat}{o:List Int}(h:CntOK k m o){w:List (El q)}(hw:w.length=k):CntOK k (m+1) (inc1 o w):=by
 refine⟨by rw[c40,h.len],fun x hx=> ?_⟩
 unfold inc1 at hx
 have hwt:=p55 (vs w)
 rw[fi2]at hwt
 rcases List.mem_or_eq_of_mem_set hx with hx|hx
 ·have:=h.lo x hx;omega
 ·have hm:o.getD (wtW (vs w)) 0∈o:=by
   rw[List.getD_eq_getElem?_getD,List.getElem?_eq_getElem (by rw[h.len];omega),Option.getD_some]
   exact List.getElem_mem _
  have:=h.lo _ hm
  omega
theorem CntOK.at'{m:Nat}{o:List Int}(h:CntOK k m o){w:List (El q)}(hw:w.length=k):o[wtW (vs w)]? =some (o.getD (wtW (vs w)) 0)∧0≤o.getD (wtW (vs w)) 0∧o.getD (wtW (vs w)) 0≤(m:Int)∧wtW (vs w)<o.length:=by
 have hwt:=p55 (vs w)
 rw[fi2]at hwt
 have hlt:wtW (vs w)<o.length:=by rw[h.len];omega
 have e:o[wtW (vs w)]? =some (o.getD (wtW (vs w)) 0):=by rw[List.getD_eq_getElem?_getD,List.getElem?_eq_getElem hlt,Option.getD_some]
 exact⟨e,(h.lo _ (List.mem_of_getElem? e)).1,(h.lo _ (List.mem_of_getElem? e)).2,hlt⟩
def v66:Nat→List (El q)→List (El q)
 |0,z=>yv6 z
 |n+1,z=>v66 n (yv6 z)
theorem le0(hq:q≤1000000){T:Tree}: ∀(i:Nat) (p s s':List Int),p.length=i→(p++s).length≤1000000→(∀a∈p,0≤a∧a<q)→qr3 q s=(s',false)→ ∃j:Int,(0≤j↔(qr3 q (p++s)).2=true)∧ ∀ks,
 vgoL W ⟨hNo,[.tmp 2, .tmp 3],0⟩ [5,33,35,37,38,113] c20L0 (.blk 2 [5,33,35,37,38,113]::ks) [(5, .own 0 []),(33, .own 1 []),(35, .fz true (pF q)),(37, .own 2 []),(38, .x (.int .i64 ((i:Int)-1))),(113, .x (.bool false))] [T, .pt 25 [.v (.int .i64 q), .v (.int .i64 k), .fz (.sl nl 0 1 (lvs nr (R.map vs)))], .sl nl2 3 1 (ivs (p++s'))]=
  vgo W ⟨hNo,[.tmp 2, .tmp 3],0⟩ ks (VFr.of [(5, .own 0 []),(33, .own 1 []),(35, .fz true (pF q)),(37, .own 2 []),(38, .x (.int .i64 j)),(113, .x (.bool false))]) [T, .pt 25 [.v (.int .i64 q), .v (.int .i64 k), .fz (.sl nl 0 1 (lvs nr (R.map vs)))], .sl nl2 3 1 (ivs (qr3 q (p++s)).1)]
 |0,p,s,s',hi,hn,hd,hs=>by
  obtain rfl:p=[]:=List.eq_nil_of_length_eq_zero hi
  rw[List.nil_append,List.nil_append,hs]
  refine⟨-1,by simp,fun ks=> ?_⟩
  rw[sb5 c20L0.eq_def]
  simp(disch:=first|omega|fail) only[push_cast,seval,vrl,if_pos,if_neg]
 |i+1,p,s,s',hi,hn,hd,hs=>by
  obtain⟨p',a,rfl⟩: ∃p' a,p=p'++[a]:=⟨p.dropLast,p.getLast (by intro h;subst h;simp at hi),(List.dropLast_concat_getLast _).symm⟩
  have hp'l:p'.length=i:=by simpa using hi
  have ha:=hd a (by simp)
  rw[List.append_assoc,List.singleton_append]at hn⊢
  rw[List.append_assoc,List.singleton_append]
  have hsl:s'.length=s.length:=by have:=pd1 q s;rw[hs]at this;exact this
  have hlen:(p'++a::s').length≤1000000:=by simp[hsl]at hn⊢;omega
  have hi2:i<(p'++a::s').length:=by simp;omega
  have l1:=qe6 (s:=s') (a:=a) hp'l
  have l2:=qe6 (s:=s') (a:=a+1) hp'l
  have t1:=ri5 (s:=s') (a:=a) (b:=a+1) hp'l
  have t2:=ri5 (s:=s') (a:=a+1) (b:=0) hp'l
  have e2:(p'++(a+1)::s').length=(p'++a::s').length:=by simp
  have hw:((i+1:Nat):Int)-1=(i:Int):=by omega
  rw[hw]
  by_cases hlt:a+1<q
  ·have hnx:qr3 q (a::s)=((a+1)::s',true):=by rw[qr3,hs];simp only;rw[if_pos hlt]
   rw[vq6 hnx p']
   refine⟨i,⟨fun _=>rfl,fun _=>by omega⟩,fun ks=> ?_⟩
   rw[sb5 c20L0.eq_def]
   simp(disch:=first|omega|fail) only[push_cast,seval,vrl,if_pos,if_neg,l1,l2,t1,e2,dec_lt hlt]
  ·have hnx:qr3 q (a::s)=(0::s',false):=by rw[qr3,hs];simp only;rw[if_neg hlt]
   obtain⟨j,j1,j2⟩:=le0 hq (T:=T) i p' (a::s) (0::s') hp'l hn (fun c hc=>hd c (by simp[hc])) hnx
   refine⟨j,j1,fun ks=> ?_⟩
   rw[←j2 ks,sb5 c20L0.eq_def]
   simp(disch:=first|omega|fail) only[push_cast,seval,vrl,if_pos,if_neg,l1,l2,t1,t2,e2,cw6 (Int.not_lt.1 hlt)]
theorem ie9(hm:R.length≤64)(hR: ∀r∈R,r.length=k)(hk:k≤64){pp:Nat}: ∀(n m:Nat) (z:List (El q)) (o:List Int),Left q pp n z→z.length=R.length→CntOK k m o→m+n≤100000→ ∀ks kz,ks= .blk 1000 [113,5]::kz→
 vgoL W ⟨hNo,[.tmp 2, .tmp 3],0⟩ [5,33,35,37,113] c20L1 (.blk 0 [5,113]::ks) [(5, .own 0 []),(33, .own 1 []),(35, .fz true (pF q)),(37, .own 2 []),(113, .x (.bool false))] [.pt 28 [.sl nlo 3 1 (ivs o)], .pt 25 [.v (.int .i64 q), .v (.int .i64 k), .fz (.sl nl 0 1 (lvs nr (R.map vs)))], .sl 0 3 1 (ivs (vs z))]=
  vgo W ⟨hNo,[.tmp 2, .tmp 3],0⟩ kz (VFr.of [(113, .x (.bool false)),(5, .own 0 [])]) [.pt 28 [.sl nlo 3 1 (ivs ((wdL k R n z).foldl inc1 o))], .pt 25 [.v (.int .i64 q), .v (.int .i64 k), .fz (.sl nl 0 1 (lvs nr (R.map vs)))], .sl 0 3 1 (ivs (vs (v66 n z)))]:=by
 have hqh:=q_hi (q:=q)
 have turn: ∀(m:Nat) (z:List (El q)) (o:List Int),z.length=R.length→CntOK k m o→m≤100000→ ∃j:Int,(0≤j↔(qr3 q (vs z)).2=true)∧ ∀ks kz,ks= .blk 1000 [113,5]::kz→
  (0≤j→vgoL W ⟨hNo,[.tmp 2, .tmp 3],0⟩ [5,33,35,37,113] c20L1 (.blk 0 [5,113]::ks) [(5, .own 0 []),(33, .own 1 []),(35, .fz true (pF q)),(37, .own 2 []),(113, .x (.bool false))] [.pt 28 [.sl nlo 3 1 (ivs o)], .pt 25 [.v (.int .i64 q), .v (.int .i64 k), .fz (.sl nl 0 1 (lvs nr (R.map vs)))], .sl 0 3 1 (ivs (vs z))]=
    vgoL W ⟨hNo,[.tmp 2, .tmp 3],0⟩ [5,33,35,37,113] c20L1 (.blk 0 [5,113]::ks) [(5, .own 0 []),(33, .own 1 []),(35, .fz true (pF q)),(37, .own 2 []),(113, .x (.bool false))] [.pt 28 [.sl nlo 3 1 (ivs (inc1 o (encL k z R)))], .pt 25 [.v (.int .i64 q), .v (.int .i64 k), .fz (.sl nl 0 1 (lvs nr (R.map vs)))], .sl 0 3 1 (ivs (vs (yv6 z)))])∧
  (j<0→vgoL W ⟨hNo,[.tmp 2, .tmp 3],0⟩ [5,33,35,37,113] c20L1 (.blk 0 [5,113]::ks) [(5, .own 0 []),(33, .own 1 []),(35, .fz true (pF q)),(37, .own 2 []),(113, .x (.bool false))] [.pt 28 [.sl nlo 3 1 (ivs o)], .pt 25 [.v (.int .i64 q), .v (.int .i64 k), .fz (.sl nl 0 1 (lvs nr (R.map vs)))], .sl 0 3 1 (ivs (vs z))]=
    vgo W ⟨hNo,[.tmp 2, .tmp 3],0⟩ kz (VFr.of [(113, .x (.bool false)),(5, .own 0 [])]) [.pt 28 [.sl nlo 3 1 (ivs (inc1 o (encL k z R)))], .pt 25 [.v (.int .i64 q), .v (.int .i64 k), .fz (.sl nl 0 1 (lvs nr (R.map vs)))], .sl 0 3 1 (ivs (vs (yv6 z)))]):=by
  intro m z o hz ho hm'
  obtain⟨j,j1,j2⟩:=le0 (q:=q) (k:=k) (nl:=nl) (nr:=nr) (R:=R) (nl2:=0) (by omega) (T:= .pt 28 [.sl nlo 3 1 (ivs (inc1 o (encL k z R)))]) z.length (vs z) [] [] (by rw[fi2]) (by rw[List.append_nil,fi2];omega) (fun a ha=>oa6 z a ha) rfl
  rw[List.append_nil]at j1
  simp only[List.append_nil]at j2
  rw[←mw7]at j2
  have e1:=fun b nl nr nl2=>gm8 (q:=q) (k:=k) (b:=b) (nl:=nl) (nr:=nr) (nl2:=nl2) (m:=z) (R:=R) hz (by omega) hR (by omega)
  have e2:=fun b nl=>fd2 (b:=b) (nl:=nl) (a:=vs (encL k z R)) (by rw[fi2,b87];omega)
  obtain⟨o1,o2,o3,o4⟩:=ho.at' (w:=encL k z R) (b87 z R)
  have h1:=iat o1
  have hzl:(vs z).length=z.length:=fi2 z
  refine⟨j,j1,fun ks kz hks=>⟨fun hj=> ?_,fun hj=> ?_⟩⟩
  ·rw[hks,sb5 c20L1.eq_def]
   simp(disch:=first|omega|fail) only[push_cast,seval,vrl,if_pos,if_neg,e1,e2,h1,hzl]
   rw[show o.set (wtW (vs (encL k z R))) (o.getD (wtW (vs (encL k z R))) 0+1)=inc1 o (encL k z R)from rfl,j2]
   simp(disch:=first|omega|fail) only[push_cast,seval,vrl,if_pos,if_neg,cw6 hj]
  ·rw[hks,sb5 c20L1.eq_def]
   simp(disch:=first|omega|fail) only[push_cast,seval,vrl,if_pos,if_neg,e1,e2,h1,hzl]
   rw[show o.set (wtW (vs (encL k z R))) (o.getD (wtW (vs (encL k z R))) 0+1)=inc1 o (encL k z R)from rfl,j2]
   simp(disch:=first|omega|fail) only[push_cast,seval,vrl,if_pos,if_neg,dec_lt hj]
 intro n
 induction n with
 |zero=>
  intro m z o hl hz ho hm' ks kz hks
  obtain⟨j,j1,j2⟩:=turn m z o hz ho (by omega)
  have hlast:=hl.last
  rw[hlast]at j1
  rw[((j2 ks kz hks).2 (by by_cases h:0≤j;exact absurd (j1.1 h) (by decide);omega)),wdL,List.foldl_cons,List.foldl_nil,v66]
 |succ n ih=>
  intro m z o hl hz ho hm' ks kz hks
  obtain⟨j,j1,j2⟩:=turn m z o hz ho (by omega)
  obtain⟨l1,l2⟩:=hl.more
  rw[(j2 ks kz hks).1 (j1.2 l1),wdL,List.foldl_cons,v66]
  exact ih (m+1) (yv6 z) (inc1 o (encL k z R)) l2 (by rw[l71,hz]) (ho.next (b87 z R)) (by omega) ks kz hks
def allW(k:Nat)(R:List (List (El q))):List (List (El q)):=wdL k R (q.toNat^R.length-1) (List.replicate R.length 0)
def wgt(k:Nat)(R:List (List (El q))):List Int:=(allW k R).foldl inc1 (List.replicate (k+1) 0)
theorem kp0:CntOK k 0 (List.replicate (k+1) 0):=⟨by simp,fun x hx=>by rw[(List.mem_replicate.1 hx).2];omega⟩
theorem i28(h:fewQ q R.length 1=true):q.toNat^R.length≤4096:=by
 have hq:=aw0 (q:=q)
 have:=nc8 (p:=q.toNat) R.length 1 (by rw[Int.toNat_of_nonneg (by omega)];exact h) (by omega)
 omega
theorem ir7{N:List (List (El q))}(he:gi9 q k (N.map vs)=0)(h0:0<k)(hk:k≤64)(hl:N.length≤64)(hr: ∀r∈N,r.length=k)(hf:fewQ q (redR N).length 1=true):
 o24 W 20 [.agg [.x (.int .i64 q), .x (.int .i64 k), .fz true (.sl nl 0 1 (lvs nr (N.map vs)))]] []=some (.tup [.own 0 [], .x (.int .i64 0)],[.sl 2 3 1 (ivs (wgt k (p78 (redR N))))],[]):=by
 have e1:=fun nl nr=>lw9 (nl:=nl) (nr:=nr) he h0 hk hl hr
 simp only[hf,if_true]at e1
 obtain⟨r1,r2,_⟩:=bi2 hr
 have hle:=ew4 hr
 have hq:=aw0 (q:=q)
 have hrl:(p78 (redR N)).length=(redR N).length:=gb3
 have hpw:=i28 (q:=q) (R:=p78 (redR N)) (by rw[hrl];exact hf)
 have e2:=fun nl nr=>q96 (q:=q) (k:=k) (nl:=nl) (nr:=nr) (M:=pvR (redR N))
 have e3:=fun nlo nl nr ks kz hks=>ie9 (q:=q) (k:=k) (nlo:=nlo) (nl:=nl) (nr:=nr) (R:=p78 (redR N)) (by omega) (zu4 r2) hk (pp:=q.toNat) (q.toNat^(p78 (redR N)).length-1) 0 (List.replicate (p78 (redR N)).length 0) (List.replicate (k+1) 0) (Left.start (by omega) _) (by simp) kp0 (by omega) ks kz hks
 rw[←lo1]at e3
 have h1:=nu3 (redR N)
 have hz:List.replicate (redR N).length (0:Int)=vs (List.replicate (p78 (redR N)).length (0:El q)):=by rw[hrl,←qj2];rfl
 obtain⟨K,hK⟩: ∃K,K=k+1:=⟨_,rfl⟩
 unfold wgt allW
 rw[←hK]at e3⊢
 rw[o10 rfl T20 rfl]
 unfold F20 c20
 have hk1:((k:Int)+1).toNat=K:=by omega
 simp(disch:=first|omega|fail) only[push_cast,seval,vrl,if_pos,if_neg,e1,e2,h1,hz,hk1]
 rw[e3 _ _ _ _ _ rfl]
 simp(disch:=first|omega|fail) only[push_cast,seval,vrl,if_pos,if_neg]
end
section
variable {q n:Int} {nl nr:Nat} {M:List (List Int)}
end
section
variable {q:Int} [IsFld q] {k nl nr nl2:Nat} {b:Bool} {R:List (List (El q))}
end
def yv0:Nat→List Int→Int
 |_,[]=>0
 |i,x::l=>if 0<x then(i:Int)else yv0 (i+1) l
section
variable {b:Bool} {nl:Nat} {l:List Int}
def jq9(l:List Int):Int:=yv0 1 (l.drop 1)
theorem bi6(hl:l.length≤9223372036854775807): ∀(d i:Nat),i+d=l.length→1≤i→ ∀ks,
 vgoL W ⟨hNo,[.tmp 2, .tmp 3],0⟩ [4,6] c21L0 (.blk 0 []::ks) [(4, .own 0 []),(6, .x (.int .i64 i))] [.sl nl 3 1 (ivs l)]=if yv0 i (l.drop i)=0 then vgo W ⟨hNo,[.tmp 2, .tmp 3],0⟩ ks (VFr.of []) [.sl nl 3 1 (ivs l)]else some (.tup [.x (.int .i64 (yv0 i (l.drop i))), .x (.int .i64 0)],[],[])
 |0,i,hi,h1,ks=>by
  rw[oh9 (by omega),yv0,if_pos rfl,sb5 c21L0.eq_def]
  simp(disch:=first|omega|fail) only[push_cast,seval,vrl,if_pos,if_neg]
 |d+1,i,hi,hi1,ks=>by
  obtain⟨x,hx⟩:=ge6 (l:=l) (i:=i) (by omega)
  have h1:=iat hx
  have ih:=bi6 hl d (i+1) (by omega) (by omega) ks
  rw[Int.natCast_add,Int.natCast_one]at ih
  rw[i62 hx,yv0]
  by_cases h:0<x
  ·rw[if_pos h,if_neg (by omega),sb5 c21L0.eq_def]
   simp(disch:=first|omega|fail) only[push_cast,seval,vrl,if_pos,if_neg,h1,dec_lt h]
  ·rw[if_neg h,←ih,sb5 c21L0.eq_def]
   simp(disch:=first|omega|fail) only[push_cast,seval,vrl,if_pos,if_neg,h1,cw6 (Int.not_lt.1 h)]
theorem ia2{q n:Int}{nl nr nl':Nat}{M:List (List Int)}(hl:l.length≤9223372036854775807)(hl1:1≤l.length)(h: ∀nl nr,o24 W 20 [.agg [.x (.int .i64 q), .x (.int .i64 n), .fz true (.sl nl 0 1 (lvs nr M))]] []=some (.tup [.own 0 [], .x (.int .i64 0)],[.sl nl' 3 1 (ivs l)],[])):
 o24 W 21 [.agg [.x (.int .i64 q), .x (.int .i64 n), .fz true (.sl nl 0 1 (lvs nr M))]] []=some (.tup [.x (.int .i64 (jq9 l)), .x (.int .i64 0)],[],[]):=by
 have e:=fun nl ks=>bi6 (nl:=nl) hl (l.length-1) 1 (by omega) (by omega) ks
 simp only[Int.natCast_one]at e
 unfold jq9
 rw[o10 rfl T21 rfl]
 unfold F21 c21
 simp(disch:=first|omega|fail) only[push_cast,seval,vrl,if_pos,if_neg,h]
 rw[e]
 by_cases h:yv0 1 (l.drop 1)=0
 ·rw[if_pos h,h]
  simp(disch:=first|omega|fail) only[push_cast,seval,vrl,if_pos,if_neg]
 ·rw[if_neg h]
end
section
variable {q:Int} [IsFld q] {k nl nr:Nat} {N:List (List (El q))}
theorem rc0(R:List (List (El q))):(wgt k R).length=k+1:=by
 unfold wgt
 have: ∀(l:List (List (El q))) (o:List Int),(l.foldl inc1 o).length=o.length:=by
  intro l
  induction l with
  |nil=>intro o;rfl
  |cons a l ih=>intro o;rw[List.foldl_cons,ih,c40]
 rw[this];simp
end
section
variable {q:Int} [IsFld q] {k:Nat}
theorem mg6(o:List Int)(w:List (El q)){d:Nat}(hd:d<o.length):(inc1 o w).getD d 0=o.getD d 0+if wtW (vs w)=d then 1 else 0:=by
 unfold inc1
 simp only[List.getD_eq_getElem?_getD,List.getElem?_set]
 by_cases h:wtW (vs w)=d
 ·rw[if_pos h,if_pos h,if_pos (by rw[h];exact hd),h,Option.getD_some,List.getElem?_eq_getElem hd]
 ·rw[if_neg h,if_neg h,Int.add_zero]
theorem xm0(d:Nat): ∀(L:List (List (El q))) (o:List Int),d<o.length→(L.foldl inc1 o).getD d 0=o.getD d 0+((L.filter fun w=>decide (wtW (vs w)=d)).length:Int)
 | [],o,hd=>by simp
 |w::L,o,hd=>by
  rw[List.foldl_cons,xm0 d L (inc1 o w) (by rw[c40];exact hd),mg6 o w hd,List.filter_cons]
  by_cases h:wtW (vs w)=d
  ·rw[if_pos h,if_pos (by simpa using h),List.length_cons];omega
  ·rw[if_neg h,if_neg (by simpa using h)];omega
theorem hu4{R:List (List (El q))}{d:Nat}(hd:d≤k):(wgt k R).getD d 0=(((allW k R).filter fun w=>decide (wtW (vs w)=d)).length:Int):=by
 unfold wgt
 rw[xm0 d _ _ (by simp;omega)]
 have:(List.replicate (k+1) (0:Int)).getD d 0=0:=by rw[List.getD_eq_getElem?_getD,List.getElem?_replicate];split<;>rfl
 rw[this,Int.zero_add]
end
theorem eq7: ∀(l:List Int) (i D:Nat),D<l.length→(∀d,d<D→l.getD d 0≤0)→0<l.getD D 0→yv0 i l=((i+D:Nat):Int)
 | [],i,D,h,_,_=>by simp at h
 |x::l,i,0,h,h1,h2=>by
  have h2:0<x:=by simpa using h2
  rw[yv0,if_pos h2];simp
 |x::l,i,D+1,h,h1,h2=>by
  have h3:x≤0:=by simpa using h1 0 (by omega)
  rw[yv0,if_neg (by omega),eq7 l (i+1) D (by simpa using h) (fun d hd=>by simpa using h1 (d+1) (by omega)) (by simpa using h2)]
  omega
theorem jf2{l:List Int}{D:Nat}(h0:1≤D)(hD:D<l.length)(h1: ∀d,1≤d→d<D→l.getD d 0≤0)(h2:0<l.getD D 0):jq9 l=(D:Int):=by
 have hg: ∀d,(l.drop 1).getD d 0=l.getD (d+1) 0:=fun d=>by
  rw[List.getD_eq_getElem?_getD,List.getD_eq_getElem?_getD,List.getElem?_drop,Nat.add_comm]
 unfold jq9
 rw[eq7 (l.drop 1) 1 (D-1) (by simp;omega) (fun d hd=>by rw[hg];exact h1 _ (by omega) (by omega)) (by rw[hg,show D-1+1=D by omega];exact h2)]
 omega
theorem ga5{q:Int} [IsFld q]{k:Nat}{R:List (List (El q))}{D:Nat}(h0:1≤D)(hD:D≤k)(h1: ∀w∈allW k R,wtW (vs w)=0∨D≤wtW (vs w))(h2: ∃w∈allW k R,wtW (vs w)=D):jq9 (wgt k R)=(D:Int):=by
 refine jf2 h0 (by rw[rc0];omega) (fun d hd1 hd2=> ?_) ?_
 ·rw[hu4 (by omega),List.length_eq_zero_iff.2 (List.filter_eq_nil_iff.2 fun w hw=> ?_)]
  ·exact Int.le_refl _
  ·rcases h1 w hw with h|h
   ·simp;omega
   ·simp;omega
 ·rw[hu4 hD]
  obtain⟨w,hw,h⟩:=h2
  have:=List.length_pos_of_mem (List.mem_filter (p:=fun w:List (El q)=>decide (wtW (vs w)=D)).2 ⟨hw,decide_eq_true h⟩)
  omega
theorem id6{p:Nat}: ∀{l l':List Int},digS p l→digS p l'→l.length=l'.length→valS p l=valS p l'→l=l'
 | [],[],_,_,_,_=>rfl
 |a::l,b::l',h,h',hl,hv=>by
  have hl':l.length=l'.length:=by simpa using hl
  have h1:=uc1 (l:=l) fun c hc=>h c (by simp[hc])
  have h2:=uc1 (l:=l') fun c hc=>h' c (by simp[hc])
  have h3:=h a (by simp)
  have h4:=h' b (by simp)
  rw[valS,valS,←hl']at hv
  rw[←hl']at h2
  generalize p^l.length=M at*
  have e:a.toNat=b.toNat:=by
   rcases Nat.lt_trichotomy a.toNat b.toNat with h5|h5|h5
   ·have h6:(a.toNat+1)*M≤b.toNat*M:=Nat.mul_le_mul_right _ h5
    rw[Nat.add_mul]at h6;omega
   ·exact h5
   ·have h6:(b.toNat+1)*M≤a.toNat*M:=Nat.mul_le_mul_right _ h5
    rw[Nat.add_mul]at h6;omega
  rw[e]at hv
  rw[id6 (fun c hc=>h c (by simp[hc])) (fun c hc=>h' c (by simp[hc])) hl' (by omega),show a=b by omega]
section
variable {q:Int} [IsFld q] {p k:Nat} {R:List (List (El q))}
theorem gu8{n:Nat}{z:List (El q)}(h:Left q p (n+1) z):valS p (vs (yv6 z))=valS p (vs z)+1:=by
 have h2:=h.more.2.h
 have h1:=h.h
 rw[l71]at h2
 omega
theorem p70: ∀(n:Nat) (z z0:List (El q)),Left q p n z→z0.length=z.length→valS p (vs z)≤valS p (vs z0)→encL k z0 R∈wdL k R n z
 |n,z,z0,hl,hlen,hv=>by
  by_cases he:valS p (vs z)=valS p (vs z0)
  ·have hz:z0=z:=qa5 (id6 (p:=p) (by rw[←hl.e];exact oa6 z0) (by rw[←hl.e];exact oa6 z) (by rw[fi2,fi2,hlen]) he.symm)
   rw[hz]
   cases n with
   |zero=>rw[wdL];exact List.mem_singleton.2 rfl
   |succ n=>rw[wdL];exact List.mem_cons_self
  ·cases n with
   |zero=>
    have h1:=hl.h
    have h2:=uc1 (q:=p) (l:=vs z0) (by rw[←hl.e];exact oa6 z0)
    rw[fi2,hlen]at h2
    omega
   |succ n=>
    rw[wdL]
    have h3:=gu8 hl
    exact List.mem_cons_of_mem _ (p70 n (yv6 z) z0 hl.more.2 (by rw[l71,hlen]) (by omega))
theorem oi3(z:List (El q))(hz:z.length=R.length):encL k z R∈allW k R:=by
 have hq:=aw0 (q:=q)
 have hl:=Left.start (q:=q) (p:=q.toNat) (by omega) R.length
 refine p70 _ _ z hl (by simp[hz]) ?_
 have h1:=hl.h
 rw[List.length_replicate]at h1
 have h2:0<q.toNat^R.length:=Nat.pow_pos (by omega)
 omega
theorem sx3: ∀(n:Nat) (z:List (El q)),∀w∈wdL k R n z,∃y:List (El q),y.length=z.length∧w=encL k y R
 |0,z,w,h=>by rw[wdL,List.mem_singleton]at h;exact⟨z,rfl,h⟩
 |n+1,z,w,h=>by
  rw[wdL]at h
  rcases List.mem_cons.1 h with h|h
  ·exact⟨z,rfl,h⟩
  ·obtain⟨y,h1,h2⟩:=sx3 n _ w h
   exact⟨y,by rw[h1,l71],h2⟩
theorem wf9(w:List (El q)):w∈allW k R↔ ∃z:List (El q),z.length=R.length∧w=encL k z R:=by
 constructor
 ·intro h
  obtain⟨y,h1,h2⟩:=sx3 _ _ w h
  exact⟨y,by rw[h1];simp,h2⟩
 ·rintro⟨z,hz,rfl⟩
  exact oi3 z hz
end
def popU(s:Nat):Nat:=s%2+s/2%2+s/4%2+s/8%2+s/16%2
def puA(s:Int):Int:=IntKind.wrap .u64 (Go.bits .and .u64 (s.fdiv (2^min 1 (IntKind.bits .u64))) 6148914691236517205+Go.bits .and .u64 s 6148914691236517205)
def puB(s:Int):Int:=IntKind.wrap .u64 (Go.bits .and .u64 (s.fdiv (2^min 2 (IntKind.bits .u64))) 3689348814741910323+Go.bits .and .u64 s 3689348814741910323)
def puC(s:Int):Int:=Go.bits .and .u64 (IntKind.wrap .u64 (s.fdiv (2^min 4 (IntKind.bits .u64))+s)) 1085102592571150095
def puD(k:Nat)(s:Int):Int:=IntKind.wrap .u64 (s+s.fdiv (2^min k (IntKind.bits .u64)))
def pu64(s:Int):Int:=Go.bits .and .i64 (IntKind.wrap .i64 (puD 32 (puD 16 (puD 8 (puC (puB (puA s))))))) 127
theorem yn8:((List.range 32).all fun s:Nat=>decide (pu64 (s:Int)=((popU s:Nat):Int))&&decide (IntKind.wrap .u64 (s:Int)=(s:Int)))=true:=by kernel_rfl
theorem eo6{s:Nat}(hs:s<32):pu64 (s:Int)=((popU s:Nat):Int)∧IntKind.wrap .u64 (s:Int)=(s:Int):=by
 have h:=List.all_eq_true.1 yn8 s (List.mem_range.2 hs)
 rw[Bool.and_eq_true]at h
 exact⟨of_decide_eq_true h.1,of_decide_eq_true h.2⟩
theorem rz3(s:Int):o24 W 159 [.x (.int .u64 s)] []=some (.x (.int .i64 (pu64 s)),[],[]):=by
 rw[o10 rfl T159 rfl]
 unfold F159 c159
 simp(disch:=first|omega|fail) only[push_cast,seval,vrl,if_pos,if_neg]
 rfl
theorem jv4{s:Nat}(hs:s<32):o24 W 123 [.x (.int .u64 s)] []=some (.x (.int .i64 (popU s)),[],[]):=by
 have e:=rz3 (s:Int)
 rw[(eo6 hs).1]at e
 rw[o10 rfl T123 rfl]
 unfold F123 c123
 simp(disch:=first|omega|fail) only[push_cast,seval,vrl,if_pos,if_neg,e]
def sl0(n k:Nat):List Nat:=(List.range k).filter fun s=>popU s==n
def u17(m:Nat):Nat→List Nat
 |0=>[]
 |n+1=>u17 m n++sl0 n (2^m)
theorem tv2(n k:Nat):sl0 n (k+1)=if popU k=n then sl0 n k++[k]else sl0 n k:=by
 unfold sl0
 rw[List.range_succ,List.filter_append]
 by_cases h:popU k=n
 ·rw[if_pos h];simp[h]
 ·rw[if_neg h];simp[h]
theorem ys4(n k:Nat):(sl0 n k).length≤k:=by
 have:=List.length_filter_le (fun s=>popU s==n) (List.range k)
 rw[List.length_range]at this
 exact this
theorem cs8(m:Nat): ∀n,(u17 m n).length≤n*2^m
 |0=>Nat.zero_le _
 |n+1=>by
  have h1:=cs8 m n
  have h2:=ys4 n (2^m)
  rw[u17,List.length_append,Nat.add_mul,Nat.one_mul];omega
theorem ua9{m:Nat}(hm:m≤5):2^m≤32:=Nat.pow_le_pow_right (by decide) hm
theorem wb5:((List.range 6).all fun m:Nat=>decide (IntKind.wrap .i64 (1*2^min m (IntKind.bits .i64))=((2^m:Nat):Int)))=true:=by kernel_rfl
theorem rz2{m:Nat}(hm:m≤5):IntKind.wrap .i64 (1*2^min m (IntKind.bits .i64))=((2^m:Nat):Int):=of_decide_eq_true (List.all_eq_true.1 wb5 m (List.mem_range.2 (by omega)))
theorem ea9(A B:List Nat):pn (A++B)=pn A++pn B:=by unfold pn;rw[List.map_append]
theorem bn5(A:List Nat)(k:Nat):pn A++[(k:Int)]=pn (A++[k]):=by rw[ea9];rfl
section
variable {r m k:Nat}
theorem pj1(hk:k≤32){n:Nat}{A:List Nat}(hA:A.length≤1000): ∀(d s:Nat),s+d=k→ ∀ks,
 vgoL W ⟨h113,[.tmp 4],0⟩ [0,1,5,6,14,15] c113L0 (.blk 2 [0,1,5,6]::ks) [(0, .x (.int .i64 r)),(1, .x (.int .i64 m)),(5, .own 0 []),(6, .x (.int .i64 n)),(14, .x (.int .i64 k)),(15, .x (.int .i64 s))] [.sl 1 3 1 (ivs (pn (A++sl0 n s)))]=
  vgo W ⟨h113,[.tmp 4],0⟩ ks (VFr.of [(0, .x (.int .i64 r)),(1, .x (.int .i64 m)),(5, .own 0 []),(6, .x (.int .i64 n))]) [.sl 1 3 1 (ivs (pn (A++sl0 n k)))]
 |0,s,hs,ks=>by
  obtain rfl:s=k:=by omega
  rw[sb5 c113L0.eq_def]
  simp(disch:=first|omega|fail) only[push_cast,seval,vrl,if_pos,if_neg]
 |d+1,s,hs,ks=>by
  have ih:=pj1 hk (n:=n) hA d (s+1) (by omega) ks
  have e1:=jv4 (s:=s) (by omega)
  have h1:=(eo6 (s:=s) (by omega)).2
  have hl:=ys4 n s
  have hpl:=im5 (A++sl0 n s)
  rw[List.length_append]at hpl
  rw[Int.natCast_add,Int.natCast_one,tv2]at ih
  by_cases h:popU s=n
  ·rw[if_pos h,←List.append_assoc,←bn5]at ih
   have h':(popU s:Int)=(n:Int):=by omega
   rw[←ih,sb5 c113L0.eq_def]
   simp(disch:=first|omega|fail) only[push_cast,seval,vrl,if_pos,if_neg,e1,h1,h',hpl]
  ·rw[if_neg h]at ih
   have h': ¬(popU s:Int)=(n:Int):=by omega
   rw[←ih,sb5 c113L0.eq_def]
   simp(disch:=first|omega|fail) only[push_cast,seval,vrl,if_pos,if_neg,e1,h1,nb8 h']
theorem p14(hr:r≤5)(hm:m≤5): ∀(d n:Nat),n+d=r+1→ ∀ks,
 vgoL W ⟨h113,[.tmp 4],0⟩ [0,1,5,6] c113L1 (.blk 0 [5]::ks) [(0, .x (.int .i64 r)),(1, .x (.int .i64 m)),(5, .own 0 []),(6, .x (.int .i64 n))] [.sl 1 3 1 (ivs (pn (u17 m n)))]=
  vgo W ⟨h113,[.tmp 4],0⟩ ks (VFr.of [(5, .own 0 [])]) [.sl 1 3 1 (ivs (pn (u17 m (r+1))))]
 |0,n,hn,ks=>by
  obtain rfl:n=r+1:=by omega
  have h1:(r:Int)<((r+1:Nat):Int):=by omega
  rw[sb5 c113L1.eq_def]
  simp(disch:=first|omega|fail) only[push_cast,seval,vrl,if_pos,if_neg]
 |d+1,n,hn,ks=>by
  have ih:=p14 hr hm d (n+1) (by omega) ks
  have hsh:=rz2 hm
  have hk:=ua9 hm
  have hA:(u17 m n).length≤1000:=by have:=cs8 m n;have:=Nat.mul_le_mul (show n≤6 by omega) hk;omega
  have hnr:(n:Int)≤(r:Int):=by omega
  rw[u17]at ih
  generalize 2^m=k at*
  have e:=fun ks=>pj1 (r:=r) (m:=m) hk (n:=n) hA k 0 (by omega) ks
  rw[show sl0 n 0=[]from rfl,List.append_nil]at e
  simp only[Int.natCast_zero,List.take_zero,List.drop_zero,rp2,lz6,x25,List.map_nil,List.length_nil]at e
  rw[Int.natCast_add,Int.natCast_one]at ih
  rw[←ih,sb5 c113L1.eq_def]
  simp(disch:=first|omega|fail) only[push_cast,seval,vrl,if_pos,if_neg,hsh,nl3 hnr]
  rw[e]
  simp(disch:=first|omega|fail) only[push_cast,seval,vrl,if_pos,if_neg]
theorem ak3(hr:r≤5)(hm:m≤5):o24 W 113 [.x (.int .i64 r), .x (.int .i64 m)] []=some (.own 0 [],[.sl 1 3 1 (ivs (pn (u17 m (r+1))))],[]):=by
 have e:=fun ks=>p14 hr hm (r+1) 0 (by omega) ks
 rw[show pn (u17 m 0)=[]from rfl]at e
 simp only[Int.natCast_zero,List.take_zero,List.drop_zero,rp2,lz6,x25,List.map_nil,List.length_nil]at e
 rw[o10 rfl T113 rfl]
 unfold F113 c113
 simp(disch:=first|omega|fail) only[push_cast,seval,vrl,if_pos,if_neg]
 rw[e]
 simp(disch:=first|omega|fail) only[push_cast,seval,vrl,if_pos,if_neg]
end
def bU(b:Bool):Int:=if b then 1 else 0
def wU(N:Nat)(f:Nat→Bool):List Int:=(List.range N).map fun x:Nat=>bU (f x)
theorem mv5(N:Nat)(f:Nat→Bool):(wU N f).length=N:=by simp[wU]
theorem z96{N x:Nat}(f:Nat→Bool)(hx:x<N):(wU N f)[x]? =some (bU (f x)):=by
 unfold wU;rw[List.getElem?_map,List.getElem?_range hx];rfl
theorem tv7{N x:Nat}(f:Nat→Bool)(hx:x<N):(ivs (wU N f))[x]? =some (.v (.int .i64 (bU (f x)))):=iat (z96 f hx)
theorem x70{N:Nat}{f g:Nat→Bool}(h: ∀x,x<N→f x=g x):wU N f=wU N g:=by
 unfold wU
 refine List.map_congr_left fun x hx=> ?_
 rw[h x (List.mem_range.1 hx)]
theorem pk6{N:Nat}{f:Nat→Bool}(h: ∀x,x<N→f x=false):wU N f=List.replicate N 0:=by
 rw[x70 h]
 refine List.ext_getElem? fun i=> ?_
 by_cases hi:i<N
 ·rw[z96 _ hi,List.getElem?_replicate,if_pos hi];rfl
 ·rw[List.getElem?_eq_none (by rw[mv5];omega),List.getElem?_eq_none (by rw[List.length_replicate];omega)]
theorem eb6{N i:Nat}(f g:Nat→Bool)(hi:i<N)(h1: ∀x,x<N→x≠i→g x=f x):(wU N f).set i (bU (g i))=wU N g:=by
 refine List.ext_getElem? fun x=> ?_
 by_cases hx:x<N
 ·rw[z96 g hx,List.getElem?_set]
  by_cases he:i=x
  ·rw[if_pos he,if_pos (by rw[mv5];exact hi),he]
  ·rw[if_neg he,z96 f hx,h1 x hx fun e=>he e.symm]
 ·rw[List.getElem?_eq_none (by rw[List.length_set,mv5];omega),List.getElem?_eq_none (by rw[mv5];omega)]
theorem ij9:((List.range 32).all fun x:Nat=>(List.range 32).all fun s:Nat=>decide (Go.bits .and .i64 (x:Int) (s:Int)=((x&&&s:Nat):Int)))=true:=by kernel_rfl
theorem lb0{x s:Nat}(hx:x<32)(hs:s<32):Go.bits .and .i64 (x:Int) (s:Int)=((x&&&s:Nat):Int):=
 of_decide_eq_true (List.all_eq_true.1 (List.all_eq_true.1 ij9 x (List.mem_range.2 hx)) s (List.mem_range.2 hs))
theorem py1(a b:Bool):Go.bits .xor .i64 (bU a) (bU b)=bU (a^^b):=by cases a<;>cases b<;>kernel_rfl
theorem bf9(b:Bool):0≤bU b∧bU b≤1:=by cases b<;>simp[bU]
theorem rq9(b:Bool):1-bU b=bU (!b):=by cases b<;>rfl
theorem tm4(m:Nat): ∀n,u17 m n=(List.range n).flatMap fun k=>(List.range (2^m)).filter fun s=>popT s==k
 |0=>rfl
 |n+1=>by rw[u17,List.range_succ,List.flatMap_append,tm4 m n];simp[sl0,popU,popT]
theorem s42(r m:Nat):u17 m (r+1)=monN r m:=tm4 m (r+1)
section
theorem rb1{s N:Nat}(hs:s<32)(hN:N≤32): ∀(n i:Nat),i+n=N→ ∀ks,
 vgoL W ⟨hNo,[.tmp 4],0⟩ [0,5,11,12] c114L0 (.blk 0 [5]::ks) [(0, .x (.int .i64 s)),(5, .own 0 []),(11, .x (.int .i64 N)),(12, .x (.int .i64 i))] [.sl 0 3 1 (ivs (wU N fun x=>decide (x<i)&&inM s x))]=
  vgo W ⟨hNo,[.tmp 4],0⟩ ks (VFr.of [(5, .own 0 [])]) [.sl 0 3 1 (ivs (wU N (inM s)))]
 |0,i,hi,ks=>by
  have hw:wU N (fun x=>decide (x<i)&&inM s x)=wU N (inM s):=x70 fun x hx=>by rw[decide_eq_true (by omega),Bool.true_and]
  rw[hw,sb5 c114L0.eq_def]
  simp(disch:=first|omega|fail) only[push_cast,seval,vrl,if_pos,if_neg]
 |n+1,i,hi,ks=>by
  have ih:=rb1 hs hN n (i+1) (by omega) ks
  have hb:=lb0 (x:=i) (s:=s) (by omega) hs
  have hl:=mv5 N fun x=>decide (x<i)&&inM s x
  rw[Int.natCast_add,Int.natCast_one]at ih
  by_cases hin:i&&&s=s
  ·have hi1:inM s i=true:=by unfold inM;simpa using hin
   have hw:(wU N fun x=>decide (x<i)&&inM s x).set i 1=wU N fun x=>decide (x<i+1)&&inM s x:=by
    have:=eb6 (N:=N) (i:=i) (fun x=>decide (x<i)&&inM s x) (fun x=>decide (x<i+1)&&inM s x) (by omega) fun x hx hne=>by
     by_cases h:x<i
     ·rw[decide_eq_true h,decide_eq_true (show x<i+1 by omega)]
     ·rw[decide_eq_false h,decide_eq_false (show¬x<i+1 by omega)]
    rw[←this]
    simp[hi1,bU]
   rw[hin]at hb
   rw[←ih,sb5 c114L0.eq_def]
   simp(disch:=first|omega|fail) only[push_cast,seval,vrl,if_pos,if_neg,hb,hw,hl]
  ·have hi1:inM s i=false:=by unfold inM;simpa using hin
   have hw:(wU N fun x=>decide (x<i)&&inM s x)=wU N fun x=>decide (x<i+1)&&inM s x:=x70 fun x hx=>by
    by_cases he:x=i
    ·rw[he,hi1,Bool.and_false,Bool.and_false]
    ·by_cases h:x<i
     ·rw[decide_eq_true h,decide_eq_true (show x<i+1 by omega)]
     ·rw[decide_eq_false h,decide_eq_false (show¬x<i+1 by omega)]
   obtain⟨v,hv⟩: ∃v:Int,v=((i&&&s:Nat):Int):=⟨_,rfl⟩
   rw[←hv]at hb
   have hne: ¬v=(s:Int):=by rw[hv];omega
   rw[←ih,←hw,sb5 c114L0.eq_def]
   simp(disch:=first|omega|fail) only[push_cast,seval,vrl,if_pos,if_neg,hb,nb8 hne,hl]
theorem h71{s m:Nat}(hm:m≤5)(hs:s<32):o24 W 114 [.x (.int .i64 s), .x (.int .i64 m)] []=some (.own 0 [],[.sl 0 3 1 (ivs (wU (2^m) (inM s)))],[]):=by
 have hN:=ua9 hm
 have hsh:=rz2 hm
 generalize 2^m=N at*
 have e:=fun ks=>rb1 hs hN N 0 (by omega) ks
 rw[pk6 (f:=fun x=>decide (x<0)&&inM s x) (fun x _=>by rw[decide_eq_false (by omega),Bool.false_and])]at e
 simp only[Int.natCast_zero,List.take_zero,List.drop_zero,rp2,lz6,x25,List.map_nil,List.length_nil]at e
 rw[o10 rfl T114 rfl]
 unfold F114 c114
 simp(disch:=first|omega|fail) only[push_cast,seval,vrl,if_pos,if_neg,hsh]
 rw[e]
 simp(disch:=first|omega|fail) only[push_cast,seval,vrl,if_pos,if_neg]
end
def msgU(l:List Nat)(c:Nat→Bool):List Int:=l.map fun s=>bU (c s)
theorem pc0(l:List Nat)(c:Nat→Bool):(msgU l c).length=l.length:=by simp[msgU]
section
variable {l:List Nat} {c:Nat→Bool} {N:Nat}
end
def bitU(v:Int):Bool:=decide (v=0)||decide (v=1)
def mulV(r m:Int):Int:=if m<1∨5<m then 4 else if r<0∨m<r then 6 else 0
section
variable {r m:Int}
theorem eb4:o24 W 112 [.x (.int .i64 r), .x (.int .i64 m)] []=some (.x (.int .i64 (mulV r m)),[],[]):=by
 unfold mulV
 rw[o10 rfl T112 rfl]
 unfold F112 c112
 by_cases h1:m<1
 ·rw[if_pos (Or.inl h1)]
  simp(disch:=first|omega|fail) only[push_cast,seval,vrl,if_pos,if_neg]
 ·by_cases h2:5<m
  ·rw[if_pos (Or.inr h2)]
   simp(disch:=first|omega|fail) only[push_cast,seval,vrl,if_pos,if_neg]
  ·rw[if_neg (by omega)]
   by_cases h3:r<0
   ·rw[if_pos (Or.inl h3)]
    simp(disch:=first|omega|fail) only[push_cast,seval,vrl,if_pos,if_neg]
   ·by_cases h4:m<r
    ·rw[if_pos (Or.inr h4)]
     simp(disch:=first|omega|fail) only[push_cast,seval,vrl,if_pos,if_neg]
    ·rw[if_neg (by omega)]
     simp(disch:=first|omega|fail) only[push_cast,seval,vrl,if_pos,if_neg]
end
theorem b03: ∃p m g mod,fldN (2:Int).toNat=some (p,m,g,mod):=⟨_,_,_,_,rfl⟩
instance two_isFld:IsFld 2:=⟨b03⟩
def wE(N:Nat)(f:Nat→Bool):List (El 2):=(List.range N).map fun x=>if f x then 1 else 0
theorem fy8(N:Nat)(f:Nat→Bool):(wE N f).length=N:=by simp[wE]
theorem op9(N:Nat)(f:Nat→Bool):vs (wE N f)=wU N f:=by
 unfold vs wE wU
 rw[List.map_map]
 refine List.map_congr_left fun x _=> ?_
 show(if f x then(1:El 2)else 0).v=bU (f x)
 cases f x<;>rfl
def ex5(r m:Nat):List (List (El 2)):=(monN r m).map fun s=>wE (2^m) (inM s)
theorem wu3(r m:Nat):(ex5 r m).length=(monN r m).length:=by simp[ex5]
theorem jj9{r m:Nat}: ∀x∈ex5 r m,x.length=2^m:=fun x hx=>by
 obtain⟨s,_,rfl⟩:=List.mem_map.1 hx
 exact fy8 _ _
theorem p82(r m:Nat):(ex5 r m).map vs=(monN r m).map fun s=>wU (2^m) (inM s):=by
 unfold ex5
 rw[List.map_map]
 exact List.map_congr_left fun s _=>op9 _ _
theorem yv5{r m:Nat}(hm:m≤5): ∀s∈monN r m,s<32:=fun s hs=>by
 have h1:=(lu9.1 hs).2
 have h2:=ua9 hm
 omega
theorem du8:((List.range 6).all fun m=>(List.range (m+1)).all fun r=>decide ((monN r m).length≤32)&&decide (monN r m).Nodup)=true:=by kernel_rfl
theorem d04{r m:Nat}(hr:r≤m)(hm:m≤5):(monN r m).length≤32∧(monN r m).Nodup:=by
 have h:=List.all_eq_true.1 (List.all_eq_true.1 du8 m (List.mem_range.2 (by omega))) r (List.mem_range.2 (by omega))
 rw[Bool.and_eq_true]at h
 exact⟨of_decide_eq_true h.1,of_decide_eq_true h.2⟩
theorem o14{r m:Nat}:0<(monN r m).length:=List.length_pos_of_mem (lu9.2 ⟨Nat.zero_le _,Nat.two_pow_pos m⟩:0∈monN r m)
theorem vr8{α β:Type}(f:α→β){l:List α}{i:Nat}{x:α}(h:l[i]? =some x):(l.take (i+1)).map f=(l.take i).map f++[f x]:=by
 rw[List.take_add_one,h,List.map_append];rfl
theorem dt5{r m:Nat}(hr:r≤m)(hm:m≤5):gi9 2 ((2^m:Nat):Int) ((ex5 r m).map vs)=0:=by
 have h1:=(d04 hr hm).1
 have h2:=ua9 hm
 have h3:=Nat.two_pow_pos m
 have hl:(ex5 r m).length≤64:=by rw[wu3];omega
 exact tc0 h3 (by omega) hl jj9 (sy6 hl jj9 h3 (by omega))
section
variable {l:List Nat} {m:Nat}
theorem sm6(hl: ∀s∈l,s<32)(hm:m≤5)(hll:l.length≤1000){N:Int}{T:Tree}: ∀(d i:Nat),i+d=l.length→0<i→ ∀ks,
 vgoL W ⟨hNo,[(.cell 4 true 3), .tmp 5],0⟩ [1,4,7,22,23,24] c61L0 (.blk 0 [4,7]::ks) [(1, .x (.int .i64 m)),(4, .own 0 []),(7, .own 1 []),(22, .own 2 []),(23, .x (.int .i64 l.length)),(24, .x (.int .i64 i))] [T, .pt 25 [.v (.int .i64 2), .v (.int .i64 N), .sl 2 28 1 (lls 2 ((l.take i).map fun s=>wU (2^m) (inM s)))], .sl 1 3 1 (ivs (pn l))]=
  vgo W ⟨hNo,[(.cell 4 true 3), .tmp 5],0⟩ ks (VFr.of [(4, .own 0 []),(7, .own 1 [])]) [T, .pt 25 [.v (.int .i64 2), .v (.int .i64 N), .sl 2 28 1 (lls 2 (l.map fun s=>wU (2^m) (inM s)))], .sl 1 3 1 (ivs (pn l))]
 |0,i,hi,h0,ks=>by
  rw[List.take_of_length_le (by omega),sb5 c61L0.eq_def]
  simp(disch:=first|omega|fail) only[push_cast,seval,vrl,if_pos,if_neg]
 |d+1,i,hi,h0,ks=>by
  have ih:=sm6 hl hm hll (N:=N) (T:=T) d (i+1) (by omega) (by omega) ks
  obtain⟨s,hs⟩:=ge6 (l:=l) (i:=i) (by omega)
  have h1:(ivs (pn l))[i]? =some (.v (.int .i64 s)):=iat (by unfold pn;rw[List.getElem?_map,hs];rfl)
  have e1:=h71 hm (hl s (List.mem_of_getElem? hs))
  have hpl:=im5 l
  rw[Int.natCast_add,Int.natCast_one,vr8 _ hs]at ih
  rw[←ih,sb5 c61L0.eq_def]
  simp(disch:=first|omega|fail) only[push_cast,seval,vrl,if_pos,if_neg,h1,e1,hpl]
theorem qg8{l':List Nat}{s:Nat}(hs:s<32)(hm:m≤5)(hll:l'.length≤1000){N:Int}{T:Tree}(ks):
 vgoL W ⟨hNo,[(.cell 4 true 3), .tmp 5],0⟩ [1,4,7,22,23,24] c61L0 (.blk 0 [4,7]::ks) [(1, .x (.int .i64 m)),(4, .own 0 []),(7, .own 1 []),(22, .own 2 []),(23, .x (.int .i64 (l'.length+1:Nat))),(24, .x (.int .i64 0))] [T, .pt 25 [.v (.int .i64 2), .v (.int .i64 N), .v (.slice none 0 0)], .sl 1 3 1 (ivs (pn (s::l')))]=
  vgoL W ⟨hNo,[(.cell 4 true 3), .tmp 5],0⟩ [1,4,7,22,23,24] c61L0 (.blk 0 [4,7]::ks) [(1, .x (.int .i64 m)),(4, .own 0 []),(7, .own 1 []),(22, .own 2 []),(23, .x (.int .i64 (l'.length+1:Nat))),(24, .x (.int .i64 1))] [T, .pt 25 [.v (.int .i64 2), .v (.int .i64 N), .sl 2 28 1 (lls 2 [wU (2^m) (inM s)])], .sl 1 3 1 (ivs (pn (s::l')))]:=by
 have h1:(ivs (pn (s::l')))[0]? =some (.v (.int .i64 s)):=rfl
 have e1:=h71 hm hs
 have hpl:=im5 (s::l')
 rw[List.length_cons]at hpl
 conv=>lhs;rw[sb5 c61L0.eq_def]
 simp(disch:=first|omega|fail) only[push_cast,seval,vrl,if_pos,if_neg,h1,e1,hpl]
 rfl
theorem kk2{r m:Nat}(hr:r≤m)(h0:1≤m)(hm:m≤5):mulV r m=0:=by unfold mulV;rw[if_neg (by omega),if_neg (by omega)]
def rmuR(r m:Nat):List (List Int):=pvR (redR (ex5 r m))
theorem s79{r m:Nat}(hr:r≤m)(h0:1≤m)(hm:m≤5):o24 W 61 [.x (.int .i64 r), .x (.int .i64 m)] []=
 some (.tup [.agg [.x (.int .i64 2), .x (.int .i64 (2^m:Nat)), .own 0 []], .x (.int .i64 0)],[.sl 2 28 1 (lls 2 (rmuR r m))],[]):=by
 have e0:=eb4 (r:=r) (m:=m)
 rw[kk2 hr h0 hm]at e0
 have hsh:=rz2 hm
 have e1:=ak3 (r:=r) (m:=m) (by omega) hm
 rw[s42]at e1
 have hc:=(d04 hr hm).1
 have e2:=fun nl nr=>ob1 (q:=2) (k:=2^m) (N:=ex5 r m) (nl:=nl) (nr:=nr) (dt5 hr hm) (Nat.two_pow_pos m) (by have:=ua9 hm;omega) (by rw[wu3];omega) jj9
 rw[p82,show pvR (redR (ex5 r m))=rmuR r m from rfl]at e2
 have hlt:=yv5 (r:=r) hm
 have hp:=o14 (r:=r) (m:=m)
 generalize rmuR r m=MR at*
 generalize monN r m=L at*
 obtain⟨s,l',rfl⟩: ∃s l',L=s::l':=by
  cases L with
  |nil=>cases hp
  |cons s l'=>exact⟨s,l',rfl⟩
 rw[List.length_cons]at hc
 have e3:=fun N T ks=>qg8 (hlt s (List.mem_cons_self)) hm (l':=l') (by omega) (N:=N) (T:=T) ks
 have e4:=fun N T ks=>sm6 (l:=s::l') hlt hm (by rw[List.length_cons];omega) (N:=N) (T:=T) l'.length 1 (by rw[List.length_cons];omega) (by omega) ks
 rw[List.take_succ_cons,List.take_zero,List.map_cons,List.map_nil,List.length_cons]at e4
 have hpl:=im5 (s::l')
 rw[List.length_cons]at hpl
 simp only[Int.natCast_add,Int.natCast_one]at e3 e4
 simp only[List.map_cons]at e2
 generalize 2^m=K at*
 rw[o10 rfl T61 rfl]
 unfold F61 c61
 simp(disch:=first|omega|fail) only[push_cast,seval,vrl,if_pos,if_neg,hsh,e0,e1,hpl]
 rw[e3,e4]
 simp(disch:=first|omega|fail) only[push_cast,seval,vrl,if_pos,if_neg,e2]
end
section
variable {r m:Nat}
end
end Go.Proofs.Ytodbgomfeacdhaa
namespace Go.Proofs.Ytodbgomfeacdhaa
section
variable {r m:Nat}
theorem wx2(hm:m≤5)(hr:r≤m)(c:Nat→Bool){s:Nat}(hs:s∈monN r m)(hc:c s=true)(htop: ∀t∈monN r m,c t=true→popT t≤popT s): ∀b∈basN m s,xorL (cosN m s b) (cj7 r m c)=true:=by
 intro b hb
 obtain⟨hsr,hsm⟩:=lu9.1 hs
 have hnd:=mq1 hm hr
 unfold cj7
 rw[gn6 (fun x t=>c t&&inM t x),he5 (s:=s) hnd hs]
 ·rw[ex0,b19 hm hsm hb hsm (Nat.le_refl _),hc];simp
 ·intro t ht hne
  rw[ex0]
  cases hct:c t with
  |false=>rfl
  |true=>rw[b19 hm hsm hb (lu9.1 ht).2 (htop t ht hct),show(t==s)=false by simpa using hne,Bool.and_false]
theorem zz5(c:Nat→Bool): ∀l:List Nat,(∃s∈l,c s=true)→ ∃s∈l,c s=true∧ ∀t∈l,c t=true→popT t≤popT s
 | [],h=>by obtain⟨s,hs,_⟩:=h;cases hs
 |a::l,h=>by
  by_cases hl: ∃s∈l,c s=true
  ·obtain⟨s,hs,h1,h2⟩:=zz5 c l hl
   by_cases ha:c a=true∧popT s<popT a
   ·refine⟨a,List.mem_cons_self,ha.1,fun t ht hct=> ?_⟩
    rcases List.mem_cons.1 ht with rfl|ht
    ·exact Nat.le_refl _
    ·have:=h2 t ht hct;omega
   ·refine⟨s,List.mem_cons_of_mem _ hs,h1,fun t ht hct=> ?_⟩
    rcases List.mem_cons.1 ht with rfl|ht
    ·exact Nat.le_of_not_lt fun h3=>ha ⟨hct,h3⟩
    ·exact h2 t ht hct
  ·obtain⟨s,hs,h1⟩:=h
   rcases List.mem_cons.1 hs with rfl|hs
   ·refine⟨s,List.mem_cons_self,h1,fun t ht hct=> ?_⟩
    rcases List.mem_cons.1 ht with rfl|ht
    ·exact Nat.le_refl _
    ·exact absurd ⟨t,ht,hct⟩ hl
   ·exact absurd ⟨s,hs,h1⟩ hl
def wtB(m:Nat)(w:Nat→Bool):Nat:=((List.range (2^m)).filter w).length
theorem ze0(hm:m≤5)(hr:r≤m)(c:Nat→Bool)(h: ∃s∈monN r m,c s=true):2^(m-r)≤wtB m (cj7 r m c):=by
 obtain⟨s,hs,hc,htop⟩:=zz5 c _ h
 obtain⟨hsr,hsm⟩:=lu9.1 hs
 have hpar:=wx2 hm hr c hs hc htop
 have hpw:2^(m-r)≤2^(m-popT s):=Nat.pow_le_pow_right (by omega) (by omega)
 have hodd:(basN m s).length≤wtB m (cj7 r m c):=by
  refine vt7 (offM s) (cj7 r m c) (List.range (2^m)) (List.nodup_range.filter _) fun b hb=> ?_
  obtain⟨x,hx,h1⟩:=cw5 (hpar b hb)
  rw[cosN,List.mem_filter,beq_iff_eq]at hx
  exact⟨x,hx.1,hx.2,h1⟩
 rw[a73 hm hsm]at hodd
 omega
theorem ji8:((List.range 6).all fun m=>(List.range (2^m)).all fun s=>wtB m (inM s)==2^(m-popT s))=true:=by kernel_rfl
theorem iy1(hm:m≤5){s:Nat}(hs:s<2^m):wtB m (inM s)=2^(m-popT s):=
 beq_iff_eq.1 (List.all_eq_true.1 (List.all_eq_true.1 ji8 m (List.mem_range.2 (by omega))) s (List.mem_range.2 hs))
theorem bk6:((List.range 6).all fun m=>(List.range (2^m)).all fun s=>(List.range (2^m)).all fun t=>decide (m≤popT s+popT t)|| !(xorL (List.range (2^m)) fun x=>inM s x&&inM t x))=true:=by kernel_rfl
theorem fa6(hm:m≤5){s t:Nat}(hs:s<2^m)(ht:t<2^m)(h:popT s+popT t<m):xorL (List.range (2^m)) (fun x=>inM s x&&inM t x)=false:=by
 have h1:=List.all_eq_true.1 (List.all_eq_true.1 (List.all_eq_true.1 bk6 m (List.mem_range.2 (by omega))) s (List.mem_range.2 hs)) t (List.mem_range.2 ht)
 rw[Bool.or_eq_true]at h1
 rcases h1 with h1|h1
 ·have:=of_decide_eq_true h1;omega
 ·simpa using h1
theorem sy7:((List.range 6).all fun m=>(List.range m).all fun r=>decide ((monN r m).length+(monN (m-1-r) m).length=2^m))=true:=by kernel_rfl
theorem yw2(hm:m≤5)(hr:r<m):(monN r m).length+(monN (m-1-r) m).length=2^m:=
 of_decide_eq_true (List.all_eq_true.1 (List.all_eq_true.1 sy7 m (List.mem_range.2 (by omega))) r (List.mem_range.2 hr))
end
end Go.Proofs.Ytodbgomfeacdhaa
namespace Go.Proofs.Ytodbgomfeacdhaa
open Go.Am Go.Vm Go.Alg
def eB(b:Bool):El 2:=if b then 1 else 0
theorem g82(a b:Bool):eB a+eB b=eB (a^^b):=by
 cases a<;>cases b<;>exact El.ext' (by kernel_rfl)
theorem y89(x:El 2): ∃b,x=eB b:=by
 have h1:=x.lo
 have h2:=x.hi
 by_cases h:x.v=0
 ·exact⟨false,El.ext' (by rw[h];rfl)⟩
 ·exact⟨true,El.ext' (by rw[show x.v=1 by omega];rfl)⟩
theorem nl4(b:Bool)(x:Bool):eB b*eB x=eB (b&&x):=by
 cases b<;>cases x<;>exact El.ext' (by kernel_rfl)
theorem fv5{N x:Nat}(f:Nat→Bool)(hx:x<N):wf (wE N f) x=eB (f x):=by
 rw[i67 (by rw[fy8];exact hx)]
 unfold wE eB
 rw[List.getElem_map,List.getElem_range]
section
variable {r m:Nat}
theorem bs6(hm:m≤5)(hr:r≤m)(c:Nat→Bool){s:Nat}(hs:s∈monN r m)(x:Nat):cj7 r m (fun t=>c t^^(t==s)) x=(cj7 r m c x^^inM s x):=by
 unfold cj7
 have h1:xorL (monN r m) (fun t=>(c t^^(t==s))&&inM t x)=xorL (monN r m) (fun t=>(c t&&inM t x)^^((t==s)&&inM t x)):=r85 fun t _=>by cases c t<;>cases (t==s)<;>cases inM t x<;>rfl
 rw[h1,lq7,he5 (s:=s) (mq1 hm hr) hs (p:=fun t=>(t==s)&&inM t x) (fun t _ hne=>by rw[show(t==s)=false by simpa using hne];rfl)]
 simp
theorem qn1(hm:m≤5)(hr:r≤m){f:Nat→El 2}(h:Span ((ex5 r m).map wf) f): ∃c:Nat→Bool,∀x,x<2^m→f x=eB (cj7 r m c x):=by
 induction h with
 |zero=>exact⟨fun _=>false,fun x _=>by
   have h:cj7 r m (fun _=>false) x=false:=gz2 fun s _=>rfl
   rw[h];rfl⟩
 |step a hu hr2 ih=>
  obtain⟨c,hc⟩:=ih
  obtain⟨row,hrow,rfl⟩:=List.mem_map.1 hr2
  obtain⟨s,hs,rfl⟩:=List.mem_map.1 hrow
  obtain⟨b,rfl⟩:=y89 a
  cases b with
  |false=>
   refine⟨c,fun x hx=> ?_⟩
   show _+eB false*wf (wE (2^m) (inM s)) x=_
   rw[fv5 _ hx,nl4,hc x hx,g82];simp
  |true=>
   refine⟨fun t=>c t^^(t==s),fun x hx=> ?_⟩
   show _+eB true*wf (wE (2^m) (inM s)) x=_
   rw[fv5 _ hx,nl4,hc x hx,g82,bs6 hm hr c hs x];simp
end
section
variable {K:Type} [FK K]
theorem am7(N:Nat)(a:List K): ∀(Q:List (List K)) (k:Nat) (x:List K) (i:Nat),x.length=N→i<N→wf (prow N a Q k x) i=wf x i+sumN Q.length fun j=>wf a (k+j)*wf (nth Q j) i
 | [],k,x,i,hx,hi=>by rw[prow];show _=wf x i+sumN 0 _;rw[wr8,FK.add_zero]
 |w::Q,k,x,i,hx,hi=>by
  rw[prow,am7 N a Q (k+1) _ i (by rw[ev4];exact hx) hi,ga7 _ _ _ _ _ _ (by omega),if_pos (by omega),List.length_cons,c71,FK.add_assoc]
  congr 2
  exact rc1 fun j _=>by rw[show k+1+j=k+(j+1) by omega];rfl
end
section
variable {q:Int} [IsFld q] {k:Nat} {R:List (List (El q))}
theorem mb7(z:List (El q)){i:Nat}(hi:i<k):wf (encL k z R) i=sumN R.length fun j=>wf z j*wf (nth R j) i:=by
 unfold encL
 rw[am7 k z R 0 _ i (by simp) hi,i67 (by simpa using hi),List.getElem_replicate,zero_add]
 refine ox7 fun j _=> ?_
 rw[Nat.zero_add]
theorem zh7{f:Nat→El q}(h:Span (R.map wf) f): ∃z:List (El q),z.length=R.length∧ ∀i,i<k→wf (encL k z R) i=f i:=by
 obtain⟨c,rfl⟩:=tw2 h
 refine⟨(List.range R.length).map c,by simp,fun i hi=> ?_⟩
 rw[mb7 _ hi]
 show _=sumN (R.map wf).length _
 rw[List.length_map]
 refine ox7 fun j hj=> ?_
 have hj:=List.mem_range.1 hj
 rw[i67 (by simpa using hj),List.getElem_map,List.getElem_range,List.getD_eq_getElem?_getD,List.getElem?_map]
 unfold nth
 rw[List.getD_eq_getElem?_getD]
 cases hr:R[j]? with
 |none=>rw[List.getElem?_eq_none_iff]at hr;omega
 |some r=>rfl
end
theorem ld2{q:Int} [IsFld q](A:List (Nat×List (El q))):(p78 A).map wf=rowsOf (toF A):=by
 unfold p78 rowsOf toF;simp
theorem xs9{q:Int} [IsFld q]{a b:List (El q)}(hl:a.length=b.length)(h: ∀i,i<a.length→wf a i=wf b i):a=b:=
 List.ext_getElem hl fun i h1 h2=>by rw[←i67 h1,←i67 h2];exact h i h1
theorem lt8(g:Nat→Bool): ∀L:List Nat,wtW (L.map fun x=>bU (g x))=(L.filter g).length
 | []=>rfl
 |x::L=>by
  rw[List.map_cons,wtW,lt8 g L,List.filter_cons]
  cases g x with
  |true=>rw[show bU true=1 from rfl,if_neg (by decide),if_pos rfl,List.length_cons];omega
  |false=>rw[show bU false=0 from rfl,if_pos rfl,if_neg (by decide)];omega
theorem wt_E(m:Nat)(g:Nat→Bool):wtW (vs (wE (2^m) g))=wtB m g:=by
 rw[op9]
 exact lt8 g _
section
variable {r m:Nat}
theorem zk5(hm:m≤5)(hr:r≤m){w:List (El 2)}(hw:w∈allW (2^m) (p78 (redR (ex5 r m)))): ∃c,w=wE (2^m) (cj7 r m c):=by
 obtain⟨z,hz,rfl⟩:=(wf9 w).1 hw
 obtain⟨r1,r2,r3⟩:=bi2 (M:=ex5 r m) (n:=2^m) jj9
 have hs:Span ((p78 (redR (ex5 r m))).map wf) (fun i=>sumN (p78 (redR (ex5 r m))).length fun j=>wf z j*wf (nth (p78 (redR (ex5 r m))) j) i):=Span.sum fun j hj=>j42 (List.mem_range.1 hj)
 rw[ld2]at hs
 obtain⟨c,hc⟩:=qn1 hm hr ((r3 _).1 hs)
 refine⟨c,xs9 (by rw[b87,fy8]) fun i hi=> ?_⟩
 rw[b87]at hi
 rw[mb7 z hi,fv5 _ hi]
 exact hc i hi
theorem o96:((List.range 6).all fun r=>popT (2^r-1)==r)=true:=by kernel_rfl
theorem z00(hm:m≤5)(hr:r≤m)(h1:1≤m):jq9 (wgt (2^m) (p78 (redR (ex5 r m))))=((2^(m-r):Nat):Int):=by
 refine ga5 (Nat.two_pow_pos _) (Nat.pow_le_pow_right (by omega) (by omega)) (fun w hw=> ?_) ?_
 ·obtain⟨c,rfl⟩:=zk5 hm hr hw
  rw[wt_E]
  by_cases h: ∃s∈monN r m,c s=true
  ·exact .inr (ze0 hm hr c h)
  ·left
   have h0:cj7 r m c=fun _=>false:=by
    funext x
    exact gz2 fun s hs=>by
     cases hc:c s with
     |false=>rfl
     |true=>exact absurd ⟨s,hs,hc⟩ h
   rw[h0]
   unfold wtB
   rw[List.filter_eq_nil_iff.2 (fun _ _=>Bool.false_ne_true)];rfl
 ·have hp:popT (2^r-1)=r:=beq_iff_eq.1 (List.all_eq_true.1 o96 r (List.mem_range.2 (by omega)))
  have hlt:2^r-1<2^m:=by
   have:=Nat.pow_le_pow_right (n:=2) (by omega) hr
   have:=Nat.two_pow_pos r
   omega
  have hs:2^r-1∈monN r m:=lu9.2 ⟨by omega,hlt⟩
  obtain⟨r1,r2,r3⟩:=bi2 (M:=ex5 r m) (n:=2^m) jj9
  have hsp:Span ((ex5 r m).map wf) (wf (wE (2^m) (inM (2^r-1)))):= .mem (List.mem_map.2 ⟨_,List.mem_map.2 ⟨_,hs,rfl⟩,rfl⟩)
  have hsp2:=(r3 _).2 hsp
  rw[←ld2]at hsp2
  obtain⟨z,hz,hzi⟩:=zh7 (k:=2^m) hsp2
  have he:encL (2^m) z (p78 (redR (ex5 r m)))=wE (2^m) (inM (2^r-1)):=xs9 (by rw[b87,fy8]) fun i hi=>hzi i (by rw[b87]at hi;exact hi)
  refine⟨wE (2^m) (inM (2^r-1)),(wf9 _).2 ⟨z,hz,he.symm⟩, ?_⟩
  rw[wt_E,iy1 hm hlt,hp]
end
section
variable {r m:Nat}
theorem ar3(x:Nat)(hx:x<2^m): ∀(L:List Nat) (y:List (El 2)),L.Nodup→y.length=L.length→ ∃c:Nat→Bool,(∀t,t∉L→c t=false)∧(∀i (h1:i<y.length) (h2:i<L.length),y[i]=eB (c L[i]))
 | [],[],_,_=>⟨fun _=>false,fun _ _=>rfl,fun i h1=>by simp at h1⟩
 |s::L,a::y,hn,hl=>by
  obtain⟨hs,hn2⟩:=List.nodup_cons.1 hn
  obtain⟨c,c1,c2⟩:=ar3 x hx L y hn2 (by simpa using hl)
  obtain⟨b,hb⟩:=y89 a
  refine⟨fun t=>if t=s then b else c t,fun t ht=> ?_,fun i h1 h2=> ?_⟩
  ·show(if t=s then b else c t)=false
   rw[if_neg (fun e:t=s=>ht (by rw[e];exact List.mem_cons_self))]
   exact c1 t fun h=>ht (List.mem_cons_of_mem _ h)
  ·cases i with
   |zero=>simp[hb]
   |succ i=>
    have h3:L[i]'(by simpa using h2)≠s:=fun e=>hs (by rw[←e];exact List.getElem_mem _)
    simp only[List.getElem_cons_succ]
    show _=eB (if L[i]'(by simpa using h2)=s then b else c (L[i]'(by simpa using h2)))
    rw[if_neg h3]
    exact c2 i (by simpa using h1) (by simpa using h2)
 | [],_::_,_,h=>by simp at h
 |_::_,[],_,h=>by simp at h
theorem uh1(c:Nat→Bool)(x:Nat)(hx:x<2^m): ∀(L:List Nat) (y:List (El 2)),y=L.map (fun s=>eB (c s))→sumL (y.zip (L.map fun s=>wf (wE (2^m) (inM s)))) (fun p=>p.1*p.2 x)=eB (xorL L fun s=>c s&&inM s x)
 | [],_,h=>by subst h;rfl
 |s::L,_,h=>by
  subst h
  have ih:=uh1 c x hx L _ rfl
  rw[List.map_cons,List.map_cons,List.zip_cons_cons]
  show eB (c s)*wf (wE (2^m) (inM s)) x+sumL _ _=_
  rw[ih,fv5 _ hx,nl4,g82,ti0]
theorem v67(hm:m≤5)(hr:r≤m):wu9 ((ex5 r m).map wf):=by
 intro y hy h0 a ha
 rw[List.length_map,wu3]at hy
 obtain⟨c,c1,c2⟩:=ar3 0 (Nat.two_pow_pos m) (monN r m) y (mq1 hm hr) hy
 have hyc:y=(monN r m).map fun s=>eB (c s):=List.ext_getElem (by simp[hy]) fun i h1 h2=>by rw[List.getElem_map];exact c2 i h1 (by omega)
 have hz: ∀x,x<2^m→cj7 r m c x=false:=fun x hx=>by
  have h1:=h0 x
  have h2:(ex5 r m).map wf=(monN r m).map fun s=>wf (wE (2^m) (inM s)):=by unfold ex5;rw[List.map_map];rfl
  rw[h2,uh1 c x hx (monN r m) y hyc]at h1
  show xorL (monN r m) (fun s=>c s&&inM s x)=false
  cases hb:xorL (monN r m) (fun s=>c s&&inM s x)with
  |false=>rfl
  |true=>rw[hb]at h1;exact absurd (congrArg El.v h1) (by decide)
 have hno: ¬ ∃s∈monN r m,c s=true:=fun h=>by
  have h1:=ze0 hm hr c h
  have h2:wtB m (cj7 r m c)=0:=by
   unfold wtB
   rw[List.filter_eq_nil_iff.2 (fun x hx=>by rw[hz x (List.mem_range.1 hx)];decide)];rfl
  have:=Nat.two_pow_pos (m-r)
  omega
 rw[hyc]at ha
 obtain⟨s,hs,rfl⟩:=List.mem_map.1 ha
 cases hc:c s with
 |false=>rfl
 |true=>exact absurd ⟨s,hs,hc⟩ hno
theorem ky6(g:Nat→Bool): ∀L:List Nat,sumL L (fun i=>eB (g i))=eB (xorL L g)
 | []=>rfl
 |x::L=>by
  show eB (g x)+sumL L _=_
  rw[ky6 g L,g82,ti0]
theorem y98(hm:m≤5)(hr:r≤m):(monN r m).length≤(redR (ex5 r m)).length:=by
 obtain⟨a1,a2,a3⟩:=bi2 (M:=ex5 r m) (n:=2^m) jj9
 have h:=a1.ge (v67 hm hr) fun w hw=>(a3 w).2 (.mem hw)
 rw[List.length_map,wu3]at h
 unfold toF at h
 rwa [List.length_map]at h
theorem oi0(hm:m≤5){s t:Nat}(hs:s<2^m)(ht:t<2^m)(h:popT s+popT t<m):dotF (2^m) (wf (wE (2^m) (inM s))) (wf (wE (2^m) (inM t)))=0:=by
 have h1:=fa6 hm hs ht h
 have h2:=ky6 (fun x=>inM s x&&inM t x) (List.range (2^m))
 rw[h1]at h2
 refine Eq.trans (ox7 fun i hi=> ?_) h2
 have hi:=List.mem_range.1 hi
 rw[fv5 _ hi,fv5 _ hi,nl4]
theorem gb2(hm:m≤5)(hr:r<m):zt5 (2^m) (ex5 r m)=redR (ex5 (m-1-r) m):=by
 obtain⟨a1,a2,a3⟩:=bi2 (M:=ex5 (m-1-r) m) (n:=2^m) jj9
 obtain⟨n1,n2,n3,n4⟩:=sw1 (M:=ex5 r m) (n:=2^m) jj9
 have l1:=y98 (r:=r) hm (by omega)
 have l2:=y98 (r:=m-1-r) hm (by omega)
 have l3:=yw2 hm hr
 refine(ej4 a2 n2 (a1.same n1 (fun w hw=>(n3 w).2 ⟨fun k hk=> ?_,fun x hx=> ?_⟩) (by unfold toF;simp only[List.length_map];omega))).symm
 ·refine hw.lin (P:=fun w=>w k=0) rfl (fun u r c h1 h2=> ?_) fun r hr=> ?_
  ·show u k+c*r k=0
   rw[h1,h2,mul_zero,FK.add_zero]
  ·obtain⟨a,ha,rfl⟩:=he1.1 hr
   exact ez8 (by rw[a2 a ha];exact hk)
 ·obtain⟨s,hs,rfl⟩:=List.mem_map.1 hx
  rw[sc2]
  refine fz3 (fun y hy=> ?_) ((a3 w).1 hw)
  obtain⟨row,hrow,rfl⟩:=List.mem_map.1 hy
  obtain⟨t,ht,rfl⟩:=List.mem_map.1 hrow
  have h1:=lu9.1 hs
  have h2:=lu9.1 ht
  exact oi0 hm h2.2 h1.2 (by omega)
end
def fvs(nl:Nat)(m:List (List Int)):List Tree:=m.map fun l=> .fz (.sl nl 0 1 (ivs l))
@[push_cast] theorem lv3(nl:Nat)(m:List (List Int)):(fvs nl m).length=m.length:=by simp[fvs]
@[push_cast] theorem iz0(nl:Nat)(m:List (List Int)):jj5 (fvs nl m)=lvs nl m:=by
 rw[gz0]
 unfold fvs lvs
 rw[List.map_map]
 exact List.map_congr_left fun l _=>by show strip _=_;rw[strip]
@[push_cast] theorem s84(nl:Nat)(m:List (List Int))(l:List Int):fvs nl m++[.fz (.sl nl 0 1 (ivs l))]=fvs nl (m++[l]):=by unfold fvs;rw[List.map_append];rfl
section
variable {n:Int} {E:List (Int×Int)} {nl:Nat}
end
section
variable {α β:Type} {to:Int}
end
section
variable {q:Int} [IsFld q] {n to:Int} {E:List (Int×Int)} {nl nl' nr nr' nlv:Nat} {b b':Bool}
end
end Go.Proofs.Ytodbgomfeacdhaa
namespace Go.Proofs.Ytodbgomfeacdhaa
open Go.Am
end Go.Proofs.Ytodbgomfeacdhaa
namespace Go.Proofs.Ytodbgomfeacdhaa
open Go.Am Go.Vm Go.Alg
section
variable {q n to:Int} {E:List (Int×Int)} {nl nl' nr nr' nlv:Nat} {b b':Bool}
end
section
variable {q n to:Int} {E:List (Int×Int)} {nl nl' nr nr' nlv:Nat} {b b':Bool}
end
section
variable {q n to:Int} {E:List (Int×Int)} {nl nl' nr nr' nlv nlc:Nat} {b b':Bool}
end
section
variable {N:Nat} {g:Nat→Bool}
theorem ng4(hN:N≤32)(f:Nat→Bool){b:Bool}{nl nl':Nat}: ∀(n i:Nat),i+n=N→ ∀ks,
 vgoL W ⟨hNo,[],1⟩ [0,1,6,7] c121L0 (.blk 0 []::ks) [(0, .own 0 []),(1, .fz b (.sl nl' 0 1 (ivs (wU N g)))),(6, .x (.int .i64 N)),(7, .x (.int .i64 i))] [.sl nl 3 1 (ivs (wU N fun x=>f x^^(decide (x<i)&&g x)))]=
  vgo W ⟨hNo,[],1⟩ ks (VFr.of []) [.sl nl 3 1 (ivs (wU N fun x=>f x^^g x))]
 |0,i,hi,ks=>by
  have hw:wU N (fun x=>f x^^(decide (x<i)&&g x))=wU N (fun x=>f x^^g x):=x70 fun x hx=>by rw[decide_eq_true (by omega),Bool.true_and]
  rw[hw,sb5 c121L0.eq_def]
  simp(disch:=first|omega|fail) only[push_cast,seval,vrl,if_pos,if_neg]
 |n+1,i,hi,ks=>by
  have ih:=ng4 hN f (b:=b) (nl:=nl) (nl':=nl') n (i+1) (by omega) ks
  have l1:=tv7 (N:=N) (x:=i) g (by omega)
  have l2:=tv7 (N:=N) (x:=i) (fun x=>f x^^(decide (x<i)&&g x)) (by omega)
  simp only[Nat.lt_irrefl,decide_false,Bool.false_and,Bool.xor_false]at l2
  have hw:=eb6 (N:=N) (i:=i) (fun x=>f x^^(decide (x<i)&&g x)) (fun x=>f x^^(decide (x<i+1)&&g x)) (by omega) fun x hx hne=>by
   by_cases h:x<i
   ·rw[decide_eq_true h,decide_eq_true (show x<i+1 by omega)]
   ·rw[decide_eq_false h,decide_eq_false (show¬x<i+1 by omega)]
  simp only[Nat.lt_add_one,decide_true,Bool.true_and]at hw
  have hx:=py1 (f i) (g i)
  have hl1:=mv5 N g
  have hl2:=mv5 N fun x=>f x^^(decide (x<i)&&g x)
  rw[Int.natCast_add,Int.natCast_one]at ih
  rw[←ih,sb5 c121L0.eq_def]
  simp(disch:=first|omega|fail) only[push_cast,seval,vrl,if_pos,if_neg,l1,l2,hx,hw,hl1,hl2]
theorem yb2(hN:N≤32)(f:Nat→Bool){b:Bool}{nl nl':Nat}:
 o24 W 121 [.own 0 [], .fz b (.sl nl' 0 1 (ivs (wU N g)))] [.sl nl 3 1 (ivs (wU N f))]=some (.tup [],[],[.sl nl 3 1 (ivs (wU N fun x=>f x^^g x))]):=by
 have e:=fun ks=>ng4 (g:=g) hN f (b:=b) (nl:=nl) (nl':=nl') N 0 (by omega) ks
 rw[x70 (f:=fun x=>f x^^(decide (x<0)&&g x)) (g:=f) (fun x _=>by rw[decide_eq_false (by omega),Bool.false_and,Bool.xor_false])]at e
 simp only[Int.natCast_zero]at e
 have hl:=mv5 N f
 rw[o10 rfl T121 rfl]
 unfold F121 c121
 simp(disch:=first|omega|fail) only[push_cast,seval,vrl,if_pos,if_neg,hl]
 rw[e]
 simp(disch:=first|omega|fail) only[push_cast,seval,vrl,if_pos,if_neg]
end
theorem du9: ∀{l:List Nat} {w:List Int},l.Nodup→w.length=l.length→w.all bitU=true→ ∃c:Nat→Bool,w=msgU l c
 | [],[],_,_,_=>⟨fun _=>false,rfl⟩
 |s::l,v::w,hn,hl,hb=>by
  rw[List.nodup_cons]at hn
  rw[List.all_cons,Bool.and_eq_true]at hb
  rw[List.length_cons,List.length_cons]at hl
  obtain⟨c,rfl⟩:=du9 hn.2 (by omega) hb.2
  refine⟨fun t=>if t=s then decide (v=1)else c t, ?_⟩
  unfold msgU
  rw[List.map_cons]
  congr 1
  ·show v=bU (if s=s then decide (v=1)else c s)
   rw[if_pos rfl]
   have h1:=hb.1
   unfold bitU at h1
   rw[Bool.or_eq_true]at h1
   rcases h1 with h1|h1
   ·rw[of_decide_eq_true h1];rfl
   ·rw[of_decide_eq_true h1];rfl
  ·refine List.map_congr_left fun t ht=> ?_
   show bU (c t)=bU (if t=s then decide (v=1)else c t)
   rw[if_neg fun h=>hn.1 (by rw[←h];exact ht)]
 | [],_::_,_,hl,_=>by cases hl
 |_::_,[],_,hl,_=>by cases hl
theorem g91(l:List Nat)(c:Nat→Bool):(msgU l c).all bitU=true:=List.all_eq_true.2 fun v hv=>by
 obtain⟨s,_,rfl⟩:=List.mem_map.1 hv
 cases c s<;>rfl
section
variable {l:List Nat} {c:Nat→Bool} {m:Nat}
theorem ub5(hl: ∀s∈l,s<32)(hm:m≤5)(hll:l.length≤1000){b:Bool}{nl:Nat}: ∀(d i:Nat),i+d=l.length→ ∀ks,
 vgoL W ⟨hNo,[.tmp 6, .tmp 7],0⟩ [1,2,10,32,33,34] c65L0 (.blk 0 [10]::ks) [(1, .x (.int .i64 m)),(2, .fz b (.sl nl 0 1 (ivs (msgU l c)))),(10, .own 0 []),(32, .own 1 []),(33, .x (.int .i64 l.length)),(34, .x (.int .i64 i))] [.sl 0 3 1 (ivs (wU (2^m) fun x=>xorL (l.take i) fun s=>c s&&inM s x)), .sl 1 3 1 (ivs (pn l))]=
  vgo W ⟨hNo,[.tmp 6, .tmp 7],0⟩ ks (VFr.of [(10, .own 0 [])]) [.sl 0 3 1 (ivs (wU (2^m) fun x=>xorL l fun s=>c s&&inM s x)), .sl 1 3 1 (ivs (pn l))]
 |0,i,hi,ks=>by
  rw[List.take_of_length_le (by omega),sb5 c65L0.eq_def]
  simp(disch:=first|omega|fail) only[push_cast,seval,vrl,if_pos,if_neg]
 |d+1,i,hi,ks=>by
  have ih:=ub5 hl hm hll (b:=b) (nl:=nl) d (i+1) (by omega) ks
  obtain⟨s,hs⟩:=ge6 (l:=l) (i:=i) (by omega)
  have l1:(ivs (msgU l c))[i]? =some (.v (.int .i64 (bU (c s)))):=iat (by unfold msgU;rw[List.getElem?_map,hs];rfl)
  have l2:(ivs (pn l))[i]? =some (.v (.int .i64 s)):=iat (by unfold pn;rw[List.getElem?_map,hs];rfl)
  have e1:=h71 hm (hl s (List.mem_of_getElem? hs))
  have hN:=ua9 hm
  have hx: ∀x,(xorL (l.take (i+1)) fun s=>c s&&inM s x)=((xorL (l.take i) fun s=>c s&&inM s x)^^(c s&&inM s x)):=fun x=>by
   rw[List.take_add_one,hs,Option.toList_some,vn3,ti0,rq8,Bool.xor_false]
  have hpl:=im5 l
  have hml:=pc0 l c
  simp only[hx]at ih
  rw[Int.natCast_add,Int.natCast_one]at ih
  cases hc:c s with
  |true=>
   rw[hc,show bU true=1 from rfl]at l1
   simp only[hc,Bool.true_and]at ih
   have e2:=fun b nl nl'=>yb2 (g:=inM s) hN (fun x=>xorL (l.take i) fun s=>c s&&inM s x) (b:=b) (nl:=nl) (nl':=nl')
   rw[←ih,sb5 c65L0.eq_def]
   simp(disch:=first|omega|fail) only[push_cast,seval,vrl,if_pos,if_neg,l1,l2,e1,e2,hpl,hml]
  |false=>
   rw[hc,show bU false=0 from rfl]at l1
   simp only[hc,Bool.false_and,Bool.xor_false]at ih
   rw[←ih,sb5 c65L0.eq_def]
   simp(disch:=first|omega|fail) only[push_cast,seval,vrl,if_pos,if_neg,l1,l2,hpl,hml]
end
theorem h24(v:Int):o24 W 119 [.x (.int .i64 v)] []=some (.x (.bool (!bitU v)),[],[]):=by
 have e:o24 W 120 [.x (.int .i64 v)] []=some (.x (.bool (bitU v)),[],[]):=by
  unfold bitU
  rw[o10 rfl T120 rfl]
  unfold F120 c120
  by_cases h:v=0
  ·simp(disch:=first|omega|fail) only[push_cast,seval,vrl,if_pos,if_neg,mr8 h]
  ·simp(disch:=first|omega|fail) only[push_cast,seval,vrl,if_pos,if_neg,nb8 h]
 rw[o10 rfl T119 rfl]
 unfold F119 c119
 simp(disch:=first|omega|fail) only[push_cast,seval,vrl,if_pos,if_neg,e]
section
variable {w:List Int} {b:Bool} {nl:Nat}
theorem p95{r m:Nat}(hr:r≤m)(h1:1≤m)(hm:m≤5){c:Nat→Bool}:o24 W 65 [.x (.int .i64 r), .x (.int .i64 m), .fz b (.sl nl 0 1 (ivs (msgU (monN r m) c)))] []=some (.tup [.own 0 [], .x (.int .i64 0)],[.sl 0 3 1 (ivs (wU (2^m) (cj7 r m c)))],[]):=by
 have e0:=eb4 (r:=r) (m:=m)
 rw[kk2 hr h1 hm]at e0
 have e1:=ak3 (r:=r) (m:=m) (by omega) hm
 rw[s42]at e1
 have hpl:=im5 (monN r m)
 have hml:=pc0 (monN r m) c
 have hc:=(d04 hr hm).1
 have hsh:=rz2 hm
 have hK:=ua9 hm
 have hf:=fun bl nl=>rq1 (nl:=nl) (l:=msgU (monN r m) c) (bl:=bl) (k:=119) h24 rfl (by omega)
 have h6:((msgU (monN r m) c).any fun v=> !bitU v)=false:=by
  rw[List.any_eq_not_all_not]
  simpa using g91 (monN r m) c
 rw[h6]at hf
 have e:=fun ks=>ub5 (c:=c) (yv5 (r:=r) hm) hm (by omega) (b:=b) (nl:=nl) (monN r m).length 0 (by omega) ks
 rw[List.take_zero,pk6 (f:=fun x=>xorL ([]:List Nat) fun s=>c s&&inM s x) (fun x _=>rfl)]at e
 simp only[Int.natCast_zero,List.take_zero,List.drop_zero,rp2,lz6,x25,List.map_nil,List.length_nil]at e
 rw[show cj7 r m c=(fun x=>xorL (monN r m) fun s=>c s&&inM s x)from rfl]
 generalize 2^m=K at*
 rw[o10 rfl T65 rfl]
 unfold F65 c65
 simp(disch:=first|omega|fail) only[push_cast,seval,vrl,if_pos,if_neg,e0,e1,hpl,hml,hf,hsh]
 rw[e]
 simp(disch:=first|omega|fail) only[push_cast,seval,vrl,if_pos,if_neg]
end
def wd1(raw:List Int)(j:Int):Int:=if 1<pkI (rwI raw j) 4 then pkI (rwI raw j) 4-2 else pkI (rwI raw j) 4
def wdV(raw:List Int)(frm:Int)(n:Nat):List Int:=(List.range n).map fun i:Nat=>wd1 raw (frm+i)
theorem c31(raw:List Int)(frm:Int)(n:Nat):(wdV raw frm n).length=n:=by simp[wdV]
theorem ri0(raw:List Int)(frm:Int)(n:Nat):wdV raw frm (n+1)=wdV raw frm n++[wd1 raw (frm+n)]:=by unfold wdV;rw[List.range_succ,List.map_append];rfl
theorem uz0(raw:List Int)(j:Int):wd1 raw j=0∨wd1 raw j=1:=by
 have:=h59 (a:=rwI raw j) (n:=4) (by omega)
 unfold wd1
 split<;>omega
section
variable {b:Bool} {nl:Nat} {raw:List Int}
theorem g29(hrl:raw.length≤9223372036854775807){frm:Int}(hf0:0≤frm)(hf1:frm≤1000000){N:Nat}(hN:N≤1000): ∀(d i:Nat),i+d=N→ ∀ks,
 vgoL W ⟨h46,[.tmp 8],0⟩ [0,1,2,3,9,10] c46L0 (.blk 0 [9]::ks) [(0, .fz b (.sl nl 0 1 (ivs raw))),(1, .x (.int .i64 frm)),(2, .x (.int .i64 N)),(3, .x (.bool false)),(9, .own 0 []),(10, .x (.int .i64 i))] [.sl 1 3 1 (ivs (wdV raw frm i))]=
  vgo W ⟨h46,[.tmp 8],0⟩ ks (VFr.of [(9, .own 0 [])]) [.sl 1 3 1 (ivs (wdV raw frm N))]
 |0,i,hi,ks=>by
  obtain rfl:i=N:=by omega
  rw[sb5 c46L0.eq_def]
  simp(disch:=first|omega|fail) only[push_cast,seval,vrl,if_pos,if_neg]
 |d+1,i,hi,ks=>by
  have ih:=g29 hrl hf0 hf1 hN d (i+1) (by omega) ks
  have e1:=fun b nl=>yc3 (b:=b) (nl:=nl) (raw:=raw) (i:=frm+i) (by omega) hrl
  have hri:=bd0 (l:=raw) (i:=frm+i) (by omega) (by omega)
  have e2:=s88 (n:=4) hri.1 hri.2 (by omega)
  have hp:=h59 (a:=rwI raw (frm+i)) (n:=4) (by omega)
  have hl:=c31 raw frm i
  rw[Int.natCast_add,Int.natCast_one,ri0,wd1]at ih
  rw[←ih,sb5 c46L0.eq_def]
  by_cases h:1<pkI (rwI raw (frm+i)) 4
  ·rw[if_pos h]
   simp(disch:=first|omega|fail) only[push_cast,seval,vrl,if_pos,if_neg,e1,e2,hl,dec_lt h]
  ·rw[if_neg h]
   simp(disch:=first|omega|fail) only[push_cast,seval,vrl,if_pos,if_neg,e1,e2,hl,cw6 (Int.not_lt.1 h)]
theorem en9(hrl:raw.length≤9223372036854775807){frm:Int}(hf0:0≤frm)(hf1:frm≤1000000){N:Nat}(hN:N≤1000):o24 W 46 [.fz b (.sl nl 0 1 (ivs raw)), .x (.int .i64 frm), .x (.int .i64 N), .x (.bool false)] []=some (.own 0 [],[.sl 1 3 1 (ivs (wdV raw frm N))],[]):=by
 have e:=fun ks=>g29 (b:=b) (nl:=nl) hrl hf0 hf1 hN N 0 (by omega) ks
 rw[show wdV raw frm 0=[]from rfl]at e
 simp only[Int.natCast_zero,List.take_zero,List.drop_zero,rp2,lz6,x25,List.map_nil,List.length_nil]at e
 rw[o10 rfl T46 rfl]
 unfold F46 c46
 simp(disch:=first|omega|fail) only[push_cast,seval,vrl,if_pos,if_neg]
 rw[e]
 simp(disch:=first|omega|fail) only[push_cast,seval,vrl,if_pos,if_neg]
end
theorem pm5{r m:Nat}(hm:m≤5)(hr:r≤m)(w c:Nat→Bool)(he:2*offB m w (cj7 r m c)<2^(m-r)){s:Nat}(hs:s∈monN r m):ua6 r m w s=c s:=by
 have hsr:=(lu9.1 hs).1
 unfold ua6
 have hl:mq3 r m w (r-popT s)=fun x=>(w x^^cj7 r m c x)^^xorL (monN r m) fun t=>(decide (popT t≤popT s)&&c t)&&inM t x:=by
  funext y
  rw[kk1 hm hr w c he (r-popT s) (by omega) y,cj7,Bool.xor_assoc,←lq7]
  congr 1
  refine r85 fun t ht=> ?_
  by_cases h2:r<popT t+(r-popT s)
  ·rw[decide_eq_true h2,decide_eq_false (show¬popT t≤popT s by omega)];simp
  ·rw[decide_eq_false h2,decide_eq_true (show popT t≤popT s by omega)];simp
 rw[hl]
 exact bc5 hm hr _ c hs he
theorem az9{p p':Nat→Bool}{k:Nat}(h: ∀x,x≠k→p' x=p x): ∀l:List Nat,l.Nodup→(l.filter p').length≤(l.filter p).length+1
 | [],_=>by simp
 |a::l,hn=>by
  rw[List.nodup_cons]at hn
  rw[List.filter_cons,List.filter_cons]
  by_cases ha:a=k
  ·subst ha
   have hs:l.filter p'=l.filter p:=List.filter_congr fun x hx=>h x fun e=>hn.1 (e▸hx)
   rw[hs]
   split<;>split<;>(try simp only[List.length_cons])<;>omega
  ·rw[h a ha]
   have:=az9 h l hn.2
   split<;>(try simp only[List.length_cons])<;>omega
def dj5(f:Nat→Bool)(k x:Nat):Bool:=if x=k then !f x else f x
theorem qr7(m:Nat)(f g:Nat→Bool)(k:Nat):offB m g (dj5 f k)≤offB m g f+1:=by
 unfold offB
 exact az9 (k:=k) (fun x hx=>by unfold dj5;rw[if_neg hx]) _ List.nodup_range
theorem g84(m:Nat)(f:Nat→Bool):offB m f f=0:=by
 unfold offB
 rw[List.filter_eq_nil_iff.2 fun x _=>by rw[Bool.xor_self];decide];rfl
theorem nw6(raw:List Int)(frm:Int)(n:Nat):(wdV raw frm n).all bitU=true:=List.all_eq_true.2 fun z hz=>by
 obtain⟨i,_,rfl⟩:=List.mem_map.1 hz
 unfold bitU
 rcases uz0 raw (frm+(i:Int))with h|h<;>rw[h]<;>decide
section
variable {b b':Bool} {nl nl':Nat} {raw:List Int}
variable {a c:List Int}
end
theorem za0(l:List Nat)(c:Nat→Bool):msg l c=msgU l c:=rfl
theorem wl_U(N:Nat)(f:Nat→Bool):wl N f=wU N f:=rfl
section
variable {r m:Nat} {f c:Nat→Bool} {b:Bool} {nl:Nat}
theorem c81(hr:r≤5)(hm:m≤5):(monN r m).length≤1000:=by
 rw[←s42]
 have:=cs8 m (r+1)
 have:=Nat.mul_le_mul (show r+1≤6 by omega) (ua9 hm)
 omega
end
section
variable {raw:List Int} {b:Bool} {nl:Nat}
end
section
variable {q n q' n':Int} {nl nr nl' nr':Nat} {M M':List (List Int)}
theorem aa7{q:Int}{N:List (List (El q))}{n:Nat}(hr: ∀r∈N,r.length=n)(hn:n≤100000): ∀r∈N.map vs,r.length≤9223372036854775807:=fun c hc=>by
 obtain⟨r,hr',rfl⟩:=List.mem_map.1 hc
 rw[fi2,hr r hr'];omega
end
theorem if4(raw:List Int)(frm:Int)(n:Nat): ∃u:List (El 2),wdV raw frm n=vs u∧u.length=n:=by
 refine⟨(List.range n).map fun i:Nat=>if wd1 raw (frm+i)=0 then(0:El 2)else 1, ?_,by simp⟩
 unfold wdV vs
 rw[List.map_map]
 refine List.map_congr_left fun i _=> ?_
 show _=(if wd1 raw (frm+i)=0 then(0:El 2)else 1).v
 rcases uz0 raw (frm+(i:Int))with h|h
 ·rw[if_pos h,h];rfl
 ·rw[if_neg (by omega),h];rfl
theorem c29(f g:Nat→Bool): ∀l:List Nat,apW (l.map fun x=>bU (f x)) (l.map fun x=>bU (g x))=(l.filter fun x=>f x^^g x).length
 | []=>rfl
 |a::l=>by
  rw[List.map_cons,List.map_cons,apW,c29 f g l,List.filter_cons]
  cases f a<;>cases g a<;>simp[bU]<;>omega
theorem ax7(m:Nat)(f g:Nat→Bool):apE (wU (2^m) f) (wU (2^m) g)=(offB m f g:Int):=by
 unfold apE
 rw[if_pos (by rw[mv5,mv5])]
 congr 1
 exact c29 f g _
theorem fy7{r m:Nat}(hm:m≤5)(hr:r≤m):(redR (ex5 r m)).length=(monN r m).length:=by
 have h1:=y98 hm hr
 have h2:=ew4 (M:=ex5 r m) (n:=2^m) jj9
 rw[wu3]at h2
 omega
theorem qt0{r m:Nat}: ∀x∈ex5 r m,x∈ex5 (r+1) m:=fun x hx=>by
 obtain⟨s,hs,rfl⟩:=List.mem_map.1 hx
 have h:=lu9.1 hs
 exact List.mem_map.2 ⟨s,lu9.2 ⟨by omega,h.2⟩,rfl⟩
theorem ig2{r m:Nat}:redR (ex5 r m++ex5 (r+1) m)=redR (ex5 (r+1) m):=by
 refine rp5 (n:=2^m) (rl5 jj9 jj9) jj9 fun w=>⟨fun h=> ?_,fun h=> ?_⟩
 ·refine h.mono fun y hy=> ?_
  obtain⟨x,hx,rfl⟩:=List.mem_map.1 hy
  refine List.mem_map.2 ⟨x, ?_,rfl⟩
  rcases List.mem_append.1 hx with h|h
  ·exact qt0 x h
  ·exact h
 ·refine h.mono fun y hy=> ?_
  obtain⟨x,hx,rfl⟩:=List.mem_map.1 hy
  exact List.mem_map.2 ⟨x,List.mem_append_right _ hx,rfl⟩
theorem v92{q:Int} [IsFld q]{n:Nat}{M:List (List (El q))}{w:List (El q)}(hM: ∀m∈M,m.length=n)(hw:w.length=n):(redR (M++[w])).length≤(redR M).length+1:=by
 have h1: ∀m∈[w],m.length=n:=fun m h=>by rw[List.mem_singleton.1 h];exact hw
 have h2:=jk9 hM h1
 have h3:=ew4 h1
 simp only[List.length_cons,List.length_nil]at h3
 omega
section
variable {raw:List Int} {b:Bool} {nl:Nat}
theorem hj5(hrl:raw.length≤9223372036854775807){r m:Nat}(hr:r<m)(hm:m≤5){er:Int}(er1: -9223372036854775808≤er)(er2:er≤9223372036854775807){g:Nat→Bool}{E:Nat}(hE:pkI er ((2^(m-r-1):Nat):Int)=(E:Int)){T:Tree}: ∀(d i:Nat) (f:Nat→Bool),i+d=E→(∀x,2^m≤x→f x=false)→offB m g f≤i→
 ∃f':Nat→Bool,(∀x,2^m≤x→f' x=false)∧offB m g f'≤E∧ ∀ks,
 vgoL W ⟨hNo,[.tmp 8],0⟩ [0,1,2,3,20,21,22,23] c12L0 (.blk 0 [1,2,20,21,22]::ks) [(0, .fz b (.sl nl 0 1 (ivs raw))),(1, .x (.int .i64 r)),(2, .x (.int .i64 m)),(3, .x (.int .i64 er)),(20, .own 0 []),(21, .own 1 []),(22, .own 2 []),(23, .x (.int .i64 i))] [T, .sl 0 3 1 (ivs (wU (2^m) g)), .sl 0 3 1 (ivs (wU (2^m) f))]=
  vgo W ⟨hNo,[.tmp 8],0⟩ ks (VFr.of [(1, .x (.int .i64 r)),(2, .x (.int .i64 m)),(20, .own 0 []),(21, .own 1 []),(22, .own 2 [])]) [T, .sl 0 3 1 (ivs (wU (2^m) g)), .sl 0 3 1 (ivs (wU (2^m) f'))]:=by
 obtain⟨K,hK⟩: ∃K,K=m-r-1:=⟨_,rfl⟩
 have hmr:(m:Int)-(r:Int)=(K:Int)+1:=by omega
 have hmr2:(K:Int)+1-1=(K:Int):=by omega
 have hs2:=rz2 (m:=K) (by omega)
 have hN2:=ua9 (m:=K) (by omega)
 have hN:=ua9 hm
 have hD0:0<2^K:=Nat.pow_pos (by decide)
 rw[←hK]at hE
 intro d
 induction d with
 |zero=>
  intro i f hi hf ho
  refine⟨f,hf,by omega,fun ks=> ?_⟩
  obtain rfl:i=E:=by omega
  generalize 2^K=D at*
  have e1:=s88 er1 er2 (show 0<((D:Nat):Int) by omega)
  rw[hE]at e1
  rw[sb5 c12L0.eq_def]
  simp(disch:=first|omega|fail) only[push_cast,seval,vrl,if_pos,if_neg,hmr,hmr2,hs2,e1]
 |succ d IH=>
  intro i f hi hf ho
  have hM0:0<2^m:=Nat.pow_pos (by decide)
  have hri:=bd0 (l:=raw) (i:=50+(i:Int)) (by omega) (by have:=h59 (a:=er) (n:=((2^K:Nat):Int)) (by omega);omega)
  have hiE:(E:Int)≤100:=by have:=h59 (a:=er) (n:=((2^K:Nat):Int)) (by omega);omega
  have e2:=fun b nl=>yc3 (b:=b) (nl:=nl) (raw:=raw) (i:=50+(i:Int)) (by omega) hrl
  have e3:=s88 (a:=rwI raw (50+(i:Int))) (n:=((2^m:Nat):Int)) hri.1 hri.2 (by omega)
  have hk:=h59 (a:=rwI raw (50+(i:Int))) (n:=((2^m:Nat):Int)) (by omega)
  obtain⟨k,hkk⟩: ∃k:Nat,pkI (rwI raw (50+(i:Int))) ((2^m:Nat):Int)=(k:Int):=⟨(pkI (rwI raw (50+(i:Int))) ((2^m:Nat):Int)).toNat,by omega⟩
  rw[hkk]at e3 hk
  have hfo:=qr7 m f g k
  obtain⟨f',h1,h2,h3⟩:=IH (i+1) (dj5 f k) (by omega) (fun x hx=>by unfold dj5;rw[if_neg (by omega),hf x hx]) (by omega)
  refine⟨f',h1,h2,fun ks=> ?_⟩
  have ih:=h3 ks
  have l1:=tv7 (N:=2^m) (x:=k) f (by omega)
  have hw:=eb6 (N:=2^m) (i:=k) f (dj5 f k) (by omega) fun x _ hx=>by unfold dj5;rw[if_neg hx]
  rw[show dj5 f k k= !f k by unfold dj5;rw[if_pos rfl]]at hw
  have hbu:=rq9 (f k)
  have hbr:=bf9 (f k)
  have hwl:=mv5 (2^m) f
  have hwg:=mv5 (2^m) g
  rw[Int.natCast_add,Int.natCast_one]at ih
  generalize 2^m=N at*
  generalize 2^K=D at*
  have e1:=s88 er1 er2 (show 0<((D:Nat):Int) by omega)
  rw[hE]at e1
  rw[←ih,sb5 c12L0.eq_def]
  simp(disch:=first|omega|fail) only[push_cast,seval,vrl,if_pos,if_neg,hmr,hmr2,hs2,e1,e2,e3,l1,hbu,hw,hwl,hwg]
end
section
variable {raw:List Int} {b:Bool} {nl:Nat}
set_option maxHeartbeats 4000000
theorem v88(hl:raw.length≤9223372036854775807){r m er:Int}(r1: -9223372036854775808≤r)(r2:r≤9223372036854775807)(m1: -9223372036854775808≤m)(m2:m≤9223372036854775807)(e1: -9223372036854775808≤er)(e2:er≤9223372036854775807):
 o24 W 12 [.fz b (.sl nl 0 1 (ivs raw)), .x (.int .i64 r), .x (.int .i64 m), .x (.int .i64 er)] []=some (.x (.bool true),[],[]):=by
 by_cases h256:256<raw.length
 ·rw[o10 rfl T12 rfl]
  unfold F12 c12
  simp(disch:=first|omega|fail) only[push_cast,seval,vrl,if_pos,if_neg]
 ·have p1:=s88 m1 m2 (show(0:Int)<5 by omega)
  have hp1:=h59 (a:=m) (n:=5) (by omega)
  obtain⟨M,hM⟩: ∃M:Nat,1+pkI m 5=(M:Int):=⟨(1+pkI m 5).toNat,by omega⟩
  have p2:=s88 r1 r2 (show(0:Int)<(M:Int) by omega)
  have hp2:=h59 (a:=r) (n:=(M:Int)) (by omega)
  obtain⟨R,hR⟩: ∃R:Nat,pkI r (M:Int)=(R:Int):=⟨(pkI r (M:Int)).toNat,by omega⟩
  rw[hR]at p2 hp2
  have h3:R<M:=by omega
  have h2:M≤5:=by omega
  have h1:1≤M:=by omega
  obtain⟨S,hS⟩: ∃S,S=M-1-R:=⟨_,rfl⟩
  have hSe:(M:Int)-1-(R:Int)=(S:Int):=by omega
  have hN0:=ua9 h2
  have hN1:=Nat.two_pow_pos M
  have hsM:=rz2 h2
  obtain⟨K,hK⟩: ∃K,K=M-R:=⟨_,rfl⟩
  have hKe:(M:Int)-(R:Int)=(K:Int):=by omega
  have hsK:=rz2 (m:=K) (by omega)
  --the codes
  have c1:=s79 (r:=R) (m:=M) (by omega) h1 h2
  have c2:=s79 (r:=S) (m:=M) (by omega) h1 h2
  have c3:=s79 (r:=R+1) (m:=M) (by omega) h1 h2
  simp only[rmuR,Int.natCast_add,Int.natCast_one]at c1 c2 c3
  have hRw: ∀x∈p78 (redR (ex5 R M)),x.length=2^M:=zu4 (bi2 jj9).2.1
  have hTw: ∀x∈p78 (redR (ex5 (R+1) M)),x.length=2^M:=zu4 (bi2 jj9).2.1
  have hRl:=fy7 h2 (show R≤M by omega)
  have hRn:=c81 (r:=R) (m:=M) (by omega) h2
  have lR:(p78 (redR (ex5 R M))).length≤64:=by rw[ol1];have:=(d04 (r:=R) (m:=M) (by omega) h2).1;omega
  have lT:(p78 (redR (ex5 (R+1) M))).length≤64:=by rw[ol1,fy7 h2 (by omega)];have:=(d04 (r:=R+1) (m:=M) (by omega) h2).1;omega
  have cR:=tc0 (q:=2) (k:=2^M) hN1 (by omega) lR hRw (sy6 lR hRw hN1 (by omega))
  have cT:=tc0 (q:=2) (k:=2^M) hN1 (by omega) lT hTw (sy6 lT hTw hN1 (by omega))
  have d1:=fun nl nr=>x92 (q:=2) (nl:=nl) (nr:=nr) cR hN1 (by omega) lR hRw
  rw[cx8 jj9,gb2 h2 h3,←hS]at d1
  have s1:=fun nl nr nl' nr'=>uh6 (q:=2) (n:=(2^M:Nat)) (q':=2) (n':=(2^M:Nat)) (M:=pvR (redR (ex5 S M))) (M':=pvR (redR (ex5 S M))) (nl:=nl) (nr:=nr) (nl':=nl') (nr':=nr') (by rw[nu3,fy7 h2 (by omega)];have:=(d04 (r:=S) (m:=M) (by omega) h2).1;omega) (by
   rw[lo1]
   exact aa7 (zu4 (bi2 jj9).2.1) (by omega))
  simp only[decide_true,Bool.and_true]at s1
  --a word more
  have w1:=fun b nl=>en9 (b:=b) (nl:=nl) (raw:=raw) hl (frm:=7) (by omega) (by omega) (N:=2^M) (by omega)
  obtain⟨u,hu,hul⟩:=if4 raw 7 (2^M)
  rw[hu]at w1
  have hu1: ∀x∈[u],x.length=2^M:=fun x hx=>by rw[List.mem_singleton.1 hx];exact hul
  have cU:=tc0 (q:=2) (k:=2^M) hN1 (by omega) (N:=[u]) (by simp) hu1 (sy6 (by simp) hu1 hN1 (by omega))
  have t1:=fun nl nr=>de0 (q:=2) (nl:=nl) (nr:=nr) (nl':=0) (nr':=2) cR cU hN1 (by omega) lR (by simp) hRw hu1
  have hone:=v92 (M:=p78 (redR (ex5 R M))) hRw hul
  rw[gz7 jj9,←ol1,←ol1]at hone
  have t2:=fun nl nr nl' nr'=>de0 (q:=2) (nl:=nl) (nr:=nr) (nl':=nl') (nr':=nr') cR cT hN1 (by omega) lR lT hRw hTw
  rw[rx4 jj9 hTw,gl3 jj9 jj9,ig2]at t2
  have s2:=fun nl nr nl' nr'=>uh6 (q:=2) (n:=(2^M:Nat)) (q':=2) (n':=(2^M:Nat)) (M:=pvR (redR (ex5 (R+1) M))) (M':=pvR (redR (ex5 (R+1) M))) (nl:=nl) (nr:=nr) (nl':=nl') (nr':=nr') (by rw[nu3,←ol1];omega) (by
   rw[lo1]
   exact aa7 hTw (by omega))
  simp only[decide_true,Bool.and_true]at s2
  --its least weight
  have f1:=os1 (q:=2) (by omega) (by omega) (k:=(p78 (redR (ex5 R M))).length) (by omega)
  have x1:fewQ 2 (p78 (redR (ex5 R M))).length 1=true→ ∀nl nr,o24 W 21 [.agg [.x (.int .i64 2), .x (.int .i64 ((2^M:Nat):Int)), .fz true (.sl nl 0 1 (lvs nr ((p78 (redR (ex5 R M))).map vs)))]] []=some (.tup [.x (.int .i64 ((2^K:Nat):Int)), .x (.int .i64 0)],[],[]):=fun hf nl nr=>by
   have h:=ia2 (q:=2) (n:=((2^M:Nat):Int)) (nl:=nl) (nr:=nr) (by rw[rc0];omega) (by rw[rc0];omega) fun nl nr=>ir7 (q:=2) (nl:=nl) (nr:=nr) cR hN1 (by omega) lR hRw (by rw[gz7 jj9,←ol1];exact hf)
   rw[gz7 jj9,z00 h2 (by omega) h1,←hK]at h
   exact h
  --the message
  have w2:=fun b nl=>en9 (b:=b) (nl:=nl) (raw:=raw) hl (frm:=0) (by omega) (by omega) (N:=(p78 (redR (ex5 R M))).length) (by omega)
  obtain⟨c,hc⟩:=du9 (d04 (r:=R) (m:=M) (by omega) h2).2 (w:=wdV raw 0 (p78 (redR (ex5 R M))).length) (by rw[c31,ol1,hRl]) (nw6 raw 0 _)
  rw[hc]at w2
  have v0:=fun b nl=>p95 (b:=b) (nl:=nl) (r:=R) (m:=M) (by omega) h1 h2 (c:=c)
  obtain⟨g,hg⟩: ∃g:Nat→Bool,g=fun x=>decide (x<2^M)&&cj7 R M c x:=⟨_,rfl⟩
  have hgw:wU (2^M) (cj7 R M c)=wU (2^M) g:=x70 fun x hx=>by rw[hg];simp[hx]
  rw[hgw]at v0
  have hgo: ∀f,offB M g f=offB M (cj7 R M c) f:=fun f=>by
   unfold offB
   refine congrArg List.length (List.filter_congr fun x hx=> ?_)
   rw[hg];simp[List.mem_range.1 hx]
  have hD0:0<2^(M-R-1):=Nat.pow_pos (by decide)
  have hpe:=h59 (a:=er) (n:=((2^(M-R-1):Nat):Int)) (by omega)
  obtain⟨E,hE⟩: ∃E:Nat,pkI er ((2^(M-R-1):Nat):Int)=(E:Int):=⟨(pkI er ((2^(M-R-1):Nat):Int)).toNat,by omega⟩
  obtain⟨f',v1,v2,v3⟩:=hj5 (b:=b) (nl:=nl) hl h3 h2 e1 e2 (g:=g) hE (T:= .sl 1 3 1 (ivs (msgU (monN R M) c))) E 0 g (by omega) (fun x hx=>by rw[hg];simp;omega) (by rw[g84];exact Nat.le_refl _)
  have hpw:2^(M-R)=2*2^(M-R-1):=by rw[show M-R=M-R-1+1 by omega,Nat.pow_succ,show M-R-1+1-1=M-R-1 by omega];omega
  have hgo':=hgo f'
  have hlt:2*offB M (cj7 R M c) f'<2^(M-R):=by omega
  have hoff:=g74 h2 (show R≤M by omega) f' c hlt
  have hmsg:msgU (monN R M) (ua6 R M f')=msgU (monN R M) c:=List.map_congr_left fun s hs=>by rw[pm5 h2 (show R≤M by omega) f' c (by rw[lk4];exact hlt) hs]
  have a4:=fun b nl=>fx5 (b:=b) (nl:=nl) (show R≤M by omega) h2 h1 v1 (by rw[hoff];exact hlt)
  simp only[decR,za0,wl_U,hmsg,hoff,←hgo]at a4
  have a5:=fun b nl b' nl'=>nb2 (b:=b) (nl:=nl) (b':=b') (nl':=nl') (l:=msgU (monN R M) c) (k:=msgU (monN R M) c) (by rw[pc0];omega)
  rw[decide_eq_true (rfl:msgU (monN R M) c=msgU (monN R M) c)]at a5
  have hwl:=mv5 (2^M) g
  have hwl':=mv5 (2^M) f'
  have a6:=fun b nl b' nl'=>w74 (b:=b) (nl:=nl) (b':=b') (nl':=nl') (a:=wU (2^M) g) (c:=wU (2^M) f') (by omega) (by omega)
  rw[ax7]at a6
  have a7:=fun b nl=>xr6 (b:=b) (nl:=nl) (l:=wU (2^M) g) (by omega)
  simp only[Int.natCast_zero]at v3
  simp only[lo1]at c1 c2 c3 d1 s1 t1 t2 s2
  have hub:vs u=vs u:=rfl
  have hlu:lvs 2 [vs u]=[Tree.sl 2 0 1 (ivs (vs u))]:=rfl
  simp only[List.map_cons,List.map_nil,hlu]at t1
  generalize hX1:p78 (redR (ex5 R M))=A at*
  generalize hX2:p78 (redR (ex5 S M))=B at*
  generalize hX3:p78 (redR (ex5 (R+1) M))=D at*
  generalize hX4:p78 (redR (A++[u]))=A1 at*
  generalize msgU (monN R M) c=Mg at*
  generalize offB M g f'=O at*
  generalize wU (2^M) g=G at*
  generalize wU (2^M) f'=G' at*
  generalize 2^M=NN at*
  generalize 2^K=DD at*
  cases hf:fewQ 2 A.length 1 with
  |true=>
   have x2:=x1 hf
   rw[hf]at f1
   rw[o10 rfl T12 rfl]
   unfold F12 c12
   simp(disch:=first|omega|fail) only[push_cast,seval,vrl,if_pos,if_neg,vbx,p1,hM,p2,c1,d1,hSe,c2,s1,hsM,w1,t1,c3,t2,s2,f1,x2,hKe,hsK,w2,v0,hwl,a7]
   rw[v3]
   simp(disch:=first|omega|fail) only[push_cast,seval,vrl,if_pos,if_neg,a4,a5,a6]
  |false=>
   rw[hf]at f1
   rw[o10 rfl T12 rfl]
   unfold F12 c12
   simp(disch:=first|omega|fail) only[push_cast,seval,vrl,if_pos,if_neg,vbx,p1,hM,p2,c1,d1,hSe,c2,s1,hsM,w1,t1,c3,t2,s2,f1,w2,v0,hwl,a7]
   rw[v3]
   simp(disch:=first|omega|fail) only[push_cast,seval,vrl,if_pos,if_neg,a4,a5,a6]
end
section
variable {h:H} {l:List AV} {ws:List Value}
theorem a23:Vm.VRL h [] (allZ h) (allZ h) [] []:=by rw[Vm.VRL]
theorem dp0(r:Vm.VRL h [] (allZ h) (allZ h) l ws)(v:Value):Vm.VRL h [] (allZ h) (allZ h) (.x v::l) (v::ws):=by
 rw[Vm.VRL];exact⟨v,ws,rfl,by rw[Vm.VR],r⟩
theorem qj4{sa:Option Addr}{c:Nat}{zs:List Int}(hr:RdI h sa c zs): ∀o,sa.map (·.block)=some o→allZ h o:=fun o ho=>by
 rcases hr with⟨rfl,_⟩|⟨_,o2,off,r2,rfl,h1,_⟩
 ·cases ho
 ·cases ho;exact h44 h1
theorem sk6(r:Vm.VRL h [] (allZ h) (allZ h) l ws){sa:Option Addr}{c:Nat}{zs:List Int}(hr:RdI h sa c zs):Vm.VRL h [] (allZ h) (allZ h) (.fz true (.sl 2 0 1 (ivs zs))::l) (.slice sa zs.length c::ws):=by
 rw[Vm.VRL];exact⟨_,ws,rfl,by rw[Vm.VR];exact pd9 hr (qj4 hr),r⟩
end
theorem ii0(h:H)(s0:Option Addr)(c0:Nat)(z0:List Int)(r0:RdI h s0 c0 z0)(_:ss4 h 1 s0=true)(_:z0.length≤9223372036854775807)(a1:Int)(_: -9223372036854775808≤a1)(_:a1≤9223372036854775807)(a2:Int)(_: -9223372036854775808≤a2)(_:a2≤9223372036854775807)(a3:Int)(_: -9223372036854775808≤a3)(_:a3≤9223372036854775807):
 ∃h',call T 12 [.slice s0 z0.length c0, .int .i64 a1, .int .i64 a2, .int .i64 a3] h=some (.bool true,h'):=
 vlaw lw2 (sk6 (dp0 (dp0 (dp0 a23 _) _) _) r0) (by apply v88<;>assumption)
end Go.Proofs.Ytodbgomfeacdhaa
