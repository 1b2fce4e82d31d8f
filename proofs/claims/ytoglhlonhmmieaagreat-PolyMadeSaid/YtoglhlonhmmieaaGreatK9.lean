/-
  Polynomials in the second machine: with 1 at the end, common divisors, roots. Conditions: those of each theorem. The document's words that are values: may they be, how they are made, how near a messag ..
-/
import Derived.Test.YtoglhlonhmmieaaGreatK8
import Derived.Test.YtoglhlonhmmieaaGreatKCode
import Derived.Test.YtoglhlonhmmieaaGreatK5
import Derived.Test.YtoglhlonhmmieaaGreatK0
set_option linter.unusedVariables false
set_option linter.unusedSimpArgs false
set_option linter.unusedSectionVars false
set_option maxRecDepth 100000
namespace Go.Proofs.YtoglhlonhmmieaaGreat
open Go.Am Go.Vm Go.Alg
section
variable {K:Type} [FK K]
def monK(a:List K):List K:=a.map fun x=>x*FK.inv (wf a (a.length-1))
theorem r27(a:List K):(monK a).length=a.length:=by simp[monK]
noncomputable def gcdT:Nat→List K→List K→List K
 |0,a,_=>a
 |n+1,a,b=>if b=[]then a else gcdT n b (remP a b)
theorem z47{a b:List K}(hb:Trm b)(hb0:b≠[]):Trm (remP a b)∧(remP a b).length<b.length:=by
 have h:=h79 (a:=a) hb hb0
 exact⟨h.r,h.lt⟩
theorem hn3: ∀(n:Nat) {a b:List K},Trm a→Trm b→Trm (gcdT n a b)
 |0,a,b,ha,hb=>ha
 |n+1,a,b,ha,hb=>by
  rw[gcdT]
  split
  ·exact ha
  ·exact hn3 n hb (z47 hb ‹_›).1
theorem vc6: ∀(n:Nat) {a b:List K} {N:Nat},Trm b→a.length≤N→b.length≤N→(gcdT n a b).length≤N
 |0,a,b,N,hb,h1,h2=>h1
 |n+1,a,b,N,hb,h1,h2=>by
  rw[gcdT]
  split
  ·exact h1
  ·have:=z47 (a:=a) hb ‹_›
   exact vc6 n this.1 h2 (by omega)
end
section
variable {q:Int} [IsFld q] {b b':Bool} {nl nl':Nat}
theorem q74{c:El q}: ∀(n k:Nat) (z:List (El q)),k+n=z.length→z.length≤1000→ ∀ks,
 vgoL W ⟨h42,[.tmp 4],1⟩ [0,1,5,19,20] c42L0 (.blk 0 [1]::ks) [(0, .fz true (pF q)),(1, .own 0 []),(5, .x (.int .i64 c.v)),(19, .x (.int .i64 z.length)),(20, .x (.int .i64 k))] [.sl nl 3 1 (ivs (vs z))]=
  vgo W ⟨h42,[.tmp 4],1⟩ ks (VFr.of [(1, .own 0 [])]) [.sl nl 3 1 (ivs (vs (scT c n k z)))]
 |0,k,z,hk,hz,ks=>by
  rw[scT,sb5 c42L0.eq_def]
  simp(disch:=first|omega|fail) only[push_cast,seval,vrl,if_pos,if_neg]
 |n+1,k,z,hk,hz,ks=>by
  have ih:=q74 (c:=c) n (k+1) (z.set k (wf z k*c)) (by rw[List.length_set];omega) (by rw[List.length_set];exact hz) ks
  have h1:=iva (l:=z) (i:=k) (by omega)
  rw[Int.natCast_add,Int.natCast_one,←g52,ym6,List.length_set]at ih
  rw[scT,←ih,sb5 c42L0.eq_def]
  simp(disch:=first|omega|fail) only[push_cast,seval,vrl,if_pos,if_neg,h1]
theorem h65{a:List (El q)}(ha:Trm a)(h0:a≠[])(hl:a.length≤1000):
 o25 W 42 [.fz true (pF q), .own 0 []] [.sl nl 3 1 (ivs (vs a))]=some (.own 0 [],[.sl nl 3 1 (ivs (vs (monK a)))],[.junk]):=by
 have hp:0<a.length:=List.length_pos_iff.2 h0
 have hlast:wf a (a.length-1)≠0:=ha (by omega)
 have l1:=iva (l:=a) (i:=a.length-1) (by omega)
 have w1:IntKind.wrap .i64 ((a.length:Int)-1)=((a.length-1:Nat):Int):=by rw[wrap64 (by omega) (by omega)];omega
 have hinv:=rl7 hlast
 have e:=fun ks=>q74 (nl:=nl) (c:=FK.inv (wf a (a.length-1))) a.length 0 a (by omega) hl ks
 rw[ou4]at e
 simp only[Int.natCast_zero]at e
 have hz: ¬(a.length:Int)=0:=by omega
 unfold monK
 rw[hinv]at e
 generalize hG:a.length-1=a1 at*
 rw[o10 rfl T42 rfl]
 unfold F42 c42
 simp(disch:=first|omega|fail) only[push_cast,seval,vrl,if_pos,if_neg,nb8 hz,w1,l1]
 rw[e]
 simp(disch:=first|omega|fail) only[push_cast,seval,vrl,if_pos,if_neg]
theorem vo2:o25 W 42 [.fz true (pF q), .own 0 []] [.sl nl 3 1 []]=some (.own 0 [],[.sl 1 3 1 []],[.sl nl 3 1 []]):=by
 rw[o10 rfl T42 rfl]
 unfold F42 c42
 simp(disch:=first|omega|fail) only[push_cast,seval,vrl,if_pos,if_neg]
theorem tf3: ∀(n:Nat) (a c:List (El q)) (nl nl':Nat),Trm a→Trm c→c.length≤n→a.length≤300→c.length≤300→ ∃fl f2,∀ks,
 vgoL W ⟨h15,[.tmp 6, .tmp 7],0⟩ [1,2,8] c15L0 (.blk 0 [1,8]::ks) [(1, .own 0 []),(2, .own 1 []),(8, .fz true (pF q))] [.sl nl 3 1 (ivs (vs a)), .sl nl' 3 1 (ivs (vs c))]=
  vgo W ⟨h15,[.tmp 6, .tmp 7],0⟩ ks (VFr.of [(1, .own 0 []),(8, .fz true (pF q))]) [.sl fl 3 1 (ivs (vs (gcdT n a c))), .sl f2 3 1 []]
 |0,a,c,nl,nl',ha,hc,hn,h1,h2=>by
  obtain rfl:c=[]:=List.eq_nil_of_length_eq_zero (by omega)
  refine⟨nl,nl',fun ks=> ?_⟩
  rw[gcdT,sb5 c15L0.eq_def]
  simp(disch:=first|omega|fail) only[push_cast,seval,vrl,if_pos,if_neg,rp2,lz6]
 |n+1,a,c,nl,nl',ha,hc,hn,h1,h2=>by
  rw[gcdT]
  by_cases h0:c=[]
  ·subst h0
   refine⟨nl,nl',fun ks=> ?_⟩
   rw[if_pos rfl,sb5 c15L0.eq_def]
   simp(disch:=first|omega|fail) only[push_cast,seval,vrl,if_pos,if_neg,rp2,lz6]
  ·obtain⟨r1,r2⟩:=z47 (a:=a) hc h0
   have hp:0<c.length:=List.length_pos_iff.2 h0
   obtain⟨m,e1⟩:=ag0 (b:=false) (nl:=nl) (b':=false) (nl':=nl') ha hc h0 (by omega) (by omega)
   obtain⟨fl,f2,ih⟩:=tf3 n c (remP a c) nl' (nlT (remP a c)) hc r1 (by omega) h2 (by omega)
   refine⟨fl,f2,fun ks=> ?_⟩
   rw[if_neg h0,←ih ks,sb5 c15L0.eq_def]
   simp(disch:=first|omega|fail) only[push_cast,seval,vrl,if_pos,if_neg,e1]
noncomputable def gcdK (a c:List (El q)):List (El q):=monK (gcdT (xa4 c).length (xa4 a) (xa4 c))
theorem na0{a c:List (El q)}(ha:a.length≤128)(hc:c.length≤128):
 ∃n,o25 W 15 [.x (.int .i64 q), .fz b (.sl nl 0 1 (ivs (vs a))), .fz b' (.sl nl' 0 1 (ivs (vs c)))] []=some (.tup [.own 0 [], .x (.int .i64 0)],[.sl n 3 1 (ivs (vs (gcdK a c)))],[]):=by
 have e1:=fun b nl b' nl'=>ce8 (b:=b) (nl:=nl) (b':=b') (nl':=nl') ha hc
 have la:=tb1 a
 have lc:=tb1 c
 obtain⟨fl,f2,e2⟩:=tf3 (xa4 c).length (xa4 a) (xa4 c) (nlT (xa4 a)) (nlT (xa4 c)) (t12 a) (t12 c) (Nat.le_refl _) (by omega) (by omega)
 have ht:=hn3 (xa4 c).length (t12 a) (t12 c)
 have hlen:=vc6 (xa4 c).length (N:=128) (t12 c) (show(xa4 a).length≤128 by omega) (by omega)
 unfold gcdK
 generalize gcdT (xa4 c).length (xa4 a) (xa4 c)=G at*
 by_cases h0:G=[]
 ·subst h0
  have e3:=vo2 (q:=q) (nl:=fl)
  simp only[rp2,lz6]at e2
  refine⟨1, ?_⟩
  rw[o10 rfl T15 rfl]
  unfold F15 c15
  simp(disch:=first|omega|fail) only[push_cast,seval,vrl,if_pos,if_neg,e1]
  rw[e2]
  simp(disch:=first|omega|fail) only[push_cast,seval,vrl,if_pos,if_neg,e3]
  rfl
 ·have e3:=h65 (nl:=fl) ht h0 (by omega)
  refine⟨fl, ?_⟩
  rw[o10 rfl T15 rfl]
  unfold F15 c15
  simp(disch:=first|omega|fail) only[push_cast,seval,vrl,if_pos,if_neg,e1]
  rw[e2]
  simp(disch:=first|omega|fail) only[push_cast,seval,vrl,if_pos,if_neg,e3]
end
section
variable {q:Int} {b b':Bool} {nl nl':Nat}
theorem ao5{a c:List Int}(ha:a.length≤9223372036854775807)(hc:c.length≤9223372036854775807)(he:tc9 q a c≠0):
 o25 W 15 [.x (.int .i64 q), .fz b (.sl nl 0 1 (ivs a)), .fz b' (.sl nl' 0 1 (ivs c))] []=some (.tup [.own 0 [], .x (.int .i64 (tc9 q a c))],[.sl 1 3 1 (ivs [])],[]):=by
 have e1:=fun b nl b' nl'=>qh9 (q:=q) (b:=b) (nl:=nl) (b':=b') (nl':=nl') ha hc he
 rw[o10 rfl T15 rfl]
 unfold F15 c15
 simp(disch:=first|omega|fail) only[push_cast,seval,vrl,if_pos,if_neg,e1,nb8 he]
 rfl
end
section
variable {q p m g:Int} {t:Tree} {b b':Bool} {nl nl':Nat} {l:List Int}
theorem kl4 [IsFld q](u:RFo q p m g t)(hl:l.length≤1000000): ∀(n i:Nat),i+n=l.length→ ∀ks,
 vgoL W ⟨hNo,[.tmp 4],0⟩ [1,5,7] c5L0 (.blk 0 []::ks) [(1, .fz b (.sl nl 0 1 (ivs l))),(5, .own 0 []),(7, .x (.int .i64 i))] [.pt 26 [.v (.int .i64 q), .v (.int .i64 p), .v (.int .i64 m), .v (.int .i64 g), .fz t]]=if((l.drop i).any fun v=> !fok q v)=true then some (.x (.int .i64 2),[],[])else vgo W ⟨hNo,[.tmp 4],0⟩ ks (VFr.of []) [.pt 26 [.v (.int .i64 q), .v (.int .i64 p), .v (.int .i64 m), .v (.int .i64 g), .fz t]]
 |0,i,hi,ks=>by
  rw[oh9 (by omega),if_neg (by simp),sb5 c5L0.eq_def]
  simp(disch:=first|omega|fail) only[push_cast,seval,vrl,if_pos,if_neg]
 |n+1,i,hi,ks=>by
  have ih:=kl4 u hl n (i+1) (by omega) ks
  obtain⟨a,ha⟩:=ge6 (l:=l) (i:=i) (by omega)
  have h1:=iat ha
  have ht:=u.n
  have ho:=u.o
  have vhas:=fun x:Int=>xb9 (q:=q) (x:=x)
  rw[u.e]at vhas
  rw[Int.natCast_add,Int.natCast_one]at ih
  rw[i62 ha,List.any_cons]
  cases hf:fok q a with
  |true=>
   rw[Bool.not_true,Bool.false_or,←ih,sb5 c5L0.eq_def]
   simp(disch:=first|omega|fail) only[push_cast,seval,vrl,if_pos,if_neg,h1,ht,ho,vhas,hf]
  |false=>
   rw[Bool.not_false,Bool.true_or,if_pos rfl,sb5 c5L0.eq_def]
   simp(disch:=first|omega|fail) only[push_cast,seval,vrl,if_pos,if_neg,h1,ht,ho,vhas,hf]
theorem s15(hl:l.length≤1000000):o25 W 5 [.x (.int .i64 q), .fz b (.sl nl 0 1 (ivs l))] []=some (.x (.int .i64 (polE q l)),[],[]):=by
 unfold polE
 cases hn:fldN q.toNat with
 |none=>
  have e1:=fg0 hn
  rw[o10 rfl T5 rfl]
  unfold F5 c5
  simp(disch:=first|omega|fail) only[push_cast,seval,vrl,if_pos,if_neg,e1]
 |some x=>
  obtain⟨p0,m0,g0,mod⟩:=x
  haveI:IsFld q:=⟨⟨p0,m0,g0,mod,hn⟩⟩
  obtain⟨p,m,g,t,u⟩:=k75 q
  have ht:=u.n
  have e0:o25 W 7 [.x (.int .i64 q)] []=_:=uw8
  rw[u.e]at e0
  simp only
  by_cases h1:128<l.length
  ·rw[if_pos h1,o10 rfl T5 rfl]
   unfold F5 c5
   simp(disch:=first|omega|fail) only[push_cast,seval,vrl,if_pos,if_neg,e0,ht]
  ·have e:=fun ks=>kl4 (b:=b) (nl:=nl) u hl l.length 0 (by omega) ks
   rw[List.drop_zero]at e
   simp only[Int.natCast_zero]at e
   rw[if_neg h1,o10 rfl T5 rfl]
   unfold F5 c5
   simp(disch:=first|omega|fail) only[push_cast,seval,vrl,if_pos,if_neg,e0,ht]
   rw[e]
   by_cases h2:(l.any fun v=> !fok q v)=true
   ·rw[if_pos h2,if_pos h2]
   ·rw[if_neg h2,if_neg h2]
    simp(disch:=first|omega|fail) only[push_cast,seval,vrl,if_pos,if_neg]
variable {xs:List Int} {k:Int}
variable {w:List Int}
end
section
variable {q p m g:Int} [IsFld q] {t:Tree} {b b':Bool} {nl nl':Nat} {a:List (El q)} {x:El q}
theorem me6(u:RFo q p m g t)(hl:a.length≤1000): ∀(n:Nat) (v:El q),n≤a.length→ ∀ks,
 vgoL W ⟨hNo,[.tmp 6],0⟩ [1,2,3,7,8] c67L0 (.blk 0 [7]::ks) [(1, .fz b (.sl nl 0 1 (ivs (vs a)))),(2, .x (.int .i64 x.v)),(3, .own 0 []),(7, .x (.int .i64 v.v)),(8, .x (.int .i64 ((n:Int)-1)))] [.pt 26 [.v (.int .i64 q), .v (.int .i64 p), .v (.int .i64 m), .v (.int .i64 g), .fz t]]=
  vgo W ⟨hNo,[.tmp 6],0⟩ ks (VFr.of [(7, .x (.int .i64 ((evT a x n v).v)))]) [.pt 26 [.v (.int .i64 q), .v (.int .i64 p), .v (.int .i64 m), .v (.int .i64 g), .fz t]]
 |0,v,hn,ks=>by
  rw[evT,sb5 c67L0.eq_def]
  simp(disch:=first|omega|fail) only[push_cast,seval,vrl,if_pos,if_neg]
 |n+1,v,hn,ks=>by
  have ih:=me6 u hl n (v*x+wf a n) (by omega) ks
  have h1:=iva (l:=a) (i:=n) (by omega)
  have w1:((n+1:Nat):Int)-1=(n:Int):=by omega
  have ht:=u.n
  have ho:=u.o
  have vmul:=fun x y:Int=>n06 (q:=q) (x:=x) (y:=y)
  rw[u.e]at vmul
  have vadd:=fun x y:Int=>ze0 (q:=q) (x:=x) (y:=y)
  rw[u.e]at vadd
  rw[on0,ym6]at ih
  rw[evT,←ih,sb5 c67L0.eq_def,w1]
  simp(disch:=first|omega|fail) only[push_cast,seval,vrl,if_pos,if_neg,h1,ht,ho,vmul,vadd]
theorem h18(hl:a.length≤1000):o25 W 67 [.agg (rFs q), .fz b (.sl nl 0 1 (ivs (vs a))), .x (.int .i64 x.v)] []=some (.x (.int .i64 (ev a x).v),[],[]):=by
 obtain⟨p,m,g,t,u⟩:=k75 q
 have e:=fun ks=>me6 (b:=b) (nl:=nl) (x:=x) u hl a.length 0 (Nat.le_refl _) ks
 rw[gr6,hc8]at e
 have ht:=u.n
 rw[o10 rfl T67 rfl,u.e]
 unfold F67 c67
 simp(disch:=first|omega|fail) only[push_cast,seval,vrl,if_pos,if_neg,ht]
 rw[e]
 simp(disch:=first|omega|fail) only[push_cast,seval,vrl,if_pos,if_neg]
theorem xz0(hl:a.length≤1000):o25 W 44 [.agg (rFs q), .fz b (.sl nl 0 1 (ivs (vs a))), .x (.int .i64 x.v)] []=some (.x (.int .i64 (ev a x).v),[],[]):=by
 obtain⟨p,m,g,t,u⟩:=k75 q
 have e:=fun b nl=>h18 (b:=b) (nl:=nl) (x:=x) hl
 rw[u.e]at e
 have ht:=u.n
 have ho:=u.o
 rw[o10 rfl T44 rfl,u.e]
 unfold F44 c44
 simp(disch:=first|omega|fail) only[push_cast,seval,vrl,if_pos,if_neg,ht,ho,e]
end
section
variable {q p m g:Int} [IsFld q] {t:Tree} {b b' b2:Bool} {nl nl' nl2:Nat} {a:List (El q)} {X:List (El q)} {U:List (Option (El q))}
theorem g59(hl:a.length≤1000000): ∀(n:Nat),n≤a.length→ ∀ks,
 vgoL W ⟨hNo,[.tmp 2],0⟩ [0,3] c11L0 (.blk 0 [0,3]::ks) [(0, .fz b (.sl nl 0 1 (ivs (vs a)))),(3, .x (.int .i64 n))] []=vgo W ⟨hNo,[.tmp 2],0⟩ ks (VFr.of [(0, .fz b (.sl nl 0 1 (ivs (vs a)))),(3, .x (.int .i64 (tN a n:Nat)))]) []
 |0,hn,ks=>by
  rw[sb5 c11L0.eq_def,tN]
  simp(disch:=first|omega|fail) only[push_cast,seval,vrl,if_pos,if_neg]
 |n+1,hn,ks=>by
  have ih:=g59 hl n (by omega) ks
  have h1:=iva (l:=a) (i:=n) (by omega)
  have w1:IntKind.wrap .i64 (((n+1:Nat):Int)-1)=(n:Int):=by rw[wrap64 (by omega) (by omega)];omega
  rw[Int.natCast_add,Int.natCast_one]at w1
  rw[sb5 c11L0.eq_def,tN]
  by_cases h0:wf a n=0
  ·rw[if_pos h0,←ih]
   have h2:(wf a n).v=0:=r57.2 h0
   simp(disch:=first|omega|fail) only[push_cast,seval,vrl,if_pos,if_neg,w1,h1,h2]
  ·rw[if_neg h0]
   have h2: ¬(wf a n).v=0:=fun e=>h0 (r57.1 e)
   simp(disch:=first|omega|fail) only[push_cast,seval,vrl,if_pos,if_neg,w1,h1,nb8 h2]
theorem nf6(hl:a.length≤1000000):o25 W 11 [.fz b (.sl nl 0 1 (ivs (vs a)))] []=some (.own 0 [],[.sl 0 3 1 (ivs (vs (xa4 a)))],[]):=by
 have hle:=vv2 a a.length
 have e:=fun ks=>g59 (b:=b) (nl:=nl) hl a.length (Nat.le_refl _) ks
 have htk:(vs a).take (tN a a.length)=vs (xa4 a):=ee1 _ _
 have hlt:=tb1 a
 have e1:=fun b nl=>xr6 (b:=b) (nl:=nl) (l:=vs (xa4 a)) (by rw[fi2];omega)
 rw[o10 rfl T11 rfl]
 unfold F11 c11
 simp(disch:=first|omega|fail) only[push_cast,seval,vrl,if_pos,if_neg]
 rw[e]
 simp(disch:=first|omega|fail) only[push_cast,seval,vrl,if_pos,if_neg,htk,e1,Int.sub_zero]
end
section
variable {K:Type} [FK K]
def dpT(b:List K)(top:K):Nat→List K→List K→List K×List K
 |0,Q,R=>(Q,R)
 |n+1,Q,R=>if b.length≤R.length then dpT b top n (Q.set (R.length-b.length) (wf R (R.length-1)*top)) (xa4 (subR (wf R (R.length-1)*top) b (R.length-b.length) b.length 0 R))else(Q,R)
structure DpI (a b Q R:List K):Prop where
 eq: ∀j,wf a j=disc (wf Q) (wf b) j+wf R j
 low:b.length≤R.length→ ∀j,j<R.length-b.length+1→wf Q j=0
 trm:Trm R
theorem DpI.divI{a b Q R:List K}(h:DpI a b Q R)(hl:b.length≤R.length)(hb:0<b.length):DivI a b (R.length-b.length+1) Q R:=
 ⟨h.eq,fun j hj=>ez8 (by omega),fun j hj=>h.low hl j hj⟩
theorem DpI.next{a b Q R:List K}(h:DpI a b Q R)(hl:b.length≤R.length)(hb:0<b.length)(hb0:wf b (b.length-1)≠0)(hQ:R.length-b.length<Q.length):
 DpI a b (Q.set (R.length-b.length) (wf R (R.length-1)*FK.inv (wf b (b.length-1)))) (xa4 (subR (wf R (R.length-1)*FK.inv (wf b (b.length-1))) b (R.length-b.length) b.length 0 R))∧
  (xa4 (subR (wf R (R.length-1)*FK.inv (wf b (b.length-1))) b (R.length-b.length) b.length 0 R)).length<R.length:=by
 have hk:R.length-b.length+b.length-1=R.length-1:=by omega
 have s:=DivI.step (Q':=Q.set (R.length-b.length) (wf R (R.length-1)*FK.inv (wf b (b.length-1)))) (R':=subR (wf R (R.length-1)*FK.inv (wf b (b.length-1))) b (R.length-b.length) b.length 0 R) hb hb0 (h.divI hl hb) (by rw[hk]) (fun j=>wf_set hQ j) (fn3 _ b _ R (by omega))
 have hlt:(xa4 (subR (wf R (R.length-1)*FK.inv (wf b (b.length-1))) b (R.length-b.length) b.length 0 R)).length≤R.length-1:=df7 fun k hk=>s.up k (by omega)
 refine⟨⟨fun j=>by rw[vb5];exact s.eq j,fun h2 j hj=>s.low j (by omega),t12 _⟩,by omega⟩
theorem s28{b R:List K}(hl:b.length≤R.length)(hb:0<b.length)(hb0:wf b (b.length-1)≠0):(xa4 (subR (wf R (R.length-1)*FK.inv (wf b (b.length-1))) b (R.length-b.length) b.length 0 R)).length<R.length:=by
 have:(xa4 (subR (wf R (R.length-1)*FK.inv (wf b (b.length-1))) b (R.length-b.length) b.length 0 R)).length≤R.length-1:=df7 fun k hk=>by
  rw[fn3 _ _ _ _ (by omega)]
  unfold shift
  by_cases he:k=R.length-1
  ·subst he
   rw[if_neg (by omega),show R.length-1-(R.length-b.length)=b.length-1 by omega,FK.mul_assoc,inv_mul hb0,FK.mul_one,sub_self]
  ·rw[ez8 (l:=R) (k:=k) (by omega),if_neg (by omega),ez8 (l:=b) (k:=k-(R.length-b.length)) (by omega),mul_zero,sub_zero]
 omega
theorem cl9{a b:List K}(hb:0<b.length)(hb0:wf b (b.length-1)≠0): ∀(n:Nat) (Q R:List K),R.length≤n→DpI a b Q R→(b.length≤R.length→R.length-b.length<Q.length)→IsDiv a b (xa4 (dpT b (FK.inv (wf b (b.length-1))) n Q R).1) (dpT b (FK.inv (wf b (b.length-1))) n Q R).2:=by
 have fin: ∀Q R:List K,DpI a b Q R→R.length<b.length→IsDiv a b (xa4 Q) R:=fun Q R h hl=>
  ⟨t12 _,h.trm,hl,fun k=>by rw[vb5];exact h.eq k⟩
 intro n
 induction n with
 |zero=>intro Q R hR h _;exact fin Q R h (by omega)
 |succ n IH=>
  intro Q R hR h hQ
  rw[dpT]
  by_cases hl:b.length≤R.length
  ·rw[if_pos hl]
   obtain⟨h1,h2⟩:=h.next hl hb hb0 (hQ hl)
   exact IH _ _ (by omega) h1 fun h3=>by rw[List.length_set];have:=hQ hl;omega
  ·rw[if_neg hl]
   exact fin Q R h (by omega)
theorem gf6(b:List K)(top:K): ∀(n:Nat) (Q R:List K),(dpT b top n Q R).1.length=Q.length∧(dpT b top n Q R).2.length≤R.length
 |0,Q,R=>⟨rfl,Nat.le_refl _⟩
 |n+1,Q,R=>by
  rw[dpT]
  split
  ·have h:=gf6 b top n (Q.set (R.length-b.length) (wf R (R.length-1)*top)) (xa4 (subR (wf R (R.length-1)*top) b (R.length-b.length) b.length 0 R))
   have h2:=tb1 (subR (wf R (R.length-1)*top) b (R.length-b.length) b.length 0 R)
   rw[xs2]at h2
   rw[List.length_set]at h
   exact⟨h.1,by omega⟩
  ·exact⟨rfl,Nat.le_refl _⟩
end
section
variable {q p m g:Int} [IsFld q] {t:Tree} {b b':Bool} {nl nl':Nat} {c:List (El q)} {top:El q}
theorem mf6(u:RFo q p m g t){k:Nat}{v:El q}(hc:c.length≤1000)(hk:k≤1000){nr n2 n8:Nat}{Q8:List Int}: ∀(n i:Nat) (R:List (El q)),i+n=c.length→k+c.length≤R.length→ ∀ks,
 vgoL W ⟨h12,[.tmp 6, .tmp 7],0⟩ [1,2,3,8,9,10,11,12] c12L0 (.blk 2 [1,2,3,8,9]::ks) [(1, .own 0 []),(2, .own 1 []),(3, .own 2 []),(8, .own 3 []),(9, .x (.int .i64 top.v)),(10, .x (.int .i64 k)),(11, .x (.int .i64 v.v)),(12, .x (.int .i64 i))] [.sl nr 3 1 (ivs (vs R)), .sl n2 3 1 (ivs (vs c)), .pt 26 [.v (.int .i64 q), .v (.int .i64 p), .v (.int .i64 m), .v (.int .i64 g), .fz t], .sl n8 3 1 (ivs Q8)]=
  vgo W ⟨h12,[.tmp 6, .tmp 7],0⟩ ks (VFr.of [(1, .own 0 []),(2, .own 1 []),(3, .own 2 []),(8, .own 3 []),(9, .x (.int .i64 top.v))]) [.sl nr 3 1 (ivs (vs (subR v c k n i R))), .sl n2 3 1 (ivs (vs c)), .pt 26 [.v (.int .i64 q), .v (.int .i64 p), .v (.int .i64 m), .v (.int .i64 g), .fz t], .sl n8 3 1 (ivs Q8)]
 |0,i,R,hi,hR,ks=>by
  rw[subR,sb5 c12L0.eq_def]
  simp(disch:=first|omega|fail) only[push_cast,seval,vrl,if_pos,if_neg]
 |n+1,i,R,hi,hR,ks=>by
  have ih:=mf6 u (v:=v) hc hk (nr:=nr) (n2:=n2) (n8:=n8) (Q8:=Q8) n (i+1) (R.set (k+i) (wf R (k+i)-v*wf c i)) (by omega) (by rw[List.length_set];exact hR) ks
  have h1:=iva (l:=c) (i:=i) (by omega)
  have h2:=iva (l:=R) (i:=k+i) (by omega)
  have w1:IntKind.wrap .i64 ((k:Int)+(i:Int))=((k+i:Nat):Int):=by rw[wrap64 (by omega) (by omega)];omega
  have ht:=u.n
  have ho:=u.o
  have vmul:=fun x y:Int=>n06 (q:=q) (x:=x) (y:=y)
  rw[u.e]at vmul
  have vsub:=fun x y:Int=>br1 (q:=q) (x:=x) (y:=y)
  rw[u.e]at vsub
  rw[Int.natCast_add,Int.natCast_one,←g52,bq9,ym6]at ih
  rw[subR,←ih,sb5 c12L0.eq_def]
  generalize hG:k+i=ki at*
  simp(disch:=first|omega|fail) only[push_cast,seval,vrl,if_pos,if_neg,h1,w1,h2,ht,ho,vmul,vsub]
theorem t07(u:RFo q p m g t)(hc:c.length≤900)(hc0:0<c.length)(hcl:wf c (c.length-1)≠0)(htop:top=FK.inv (wf c (c.length-1))){n2 n8:Nat}: ∀(n:Nat) (Q R:List (El q)),R.length≤n→R.length≤900→Q.length≤1000→(c.length≤R.length→R.length-c.length<Q.length)→ ∀ks,
 vgoL W ⟨h12,[.tmp 6, .tmp 7],0⟩ [1,2,3,8,9] c12L1 (.blk 0 [1,8]::ks) [(1, .own 0 []),(2, .own 1 []),(3, .own 2 []),(8, .own 3 []),(9, .x (.int .i64 top.v))] [.sl 0 3 1 (ivs (vs R)), .sl n2 3 1 (ivs (vs c)), .pt 26 [.v (.int .i64 q), .v (.int .i64 p), .v (.int .i64 m), .v (.int .i64 g), .fz t], .sl n8 3 1 (ivs (vs Q))]=
  vgo W ⟨h12,[.tmp 6, .tmp 7],0⟩ ks (VFr.of [(1, .own 0 []),(8, .own 3 [])]) [.sl 0 3 1 (ivs (vs (dpT c top n Q R).2)), .sl n2 3 1 (ivs (vs c)), .pt 26 [.v (.int .i64 q), .v (.int .i64 p), .v (.int .i64 m), .v (.int .i64 g), .fz t], .sl n8 3 1 (ivs (vs (dpT c top n Q R).1))]
 |0,Q,R,h1,h2,h3,h4,ks=>by
  rw[dpT,sb5 c12L1.eq_def]
  simp(disch:=first|omega|fail) only[push_cast,seval,vrl,if_pos,if_neg]
 |n+1,Q,R,h1,h2,h3,h4,ks=>by
  rw[dpT]
  by_cases hl:c.length≤R.length
  ·rw[if_pos hl]
   have hlt:=s28 hl hc0 hcl
   rw[←htop]at hlt
   have ih:=t07 u hc hc0 hcl htop (n2:=n2) (n8:=n8) n (Q.set (R.length-c.length) (wf R (R.length-1)*top)) (xa4 (subR (wf R (R.length-1)*top) c (R.length-c.length) c.length 0 R)) (by omega) (by omega) (by rw[List.length_set];exact h3) (fun h=>by rw[List.length_set];have:=h4 hl;omega) ks
   have hQ:=h4 hl
   have e:=fun n8 Q8 ks=>mf6 (c:=c) (top:=top) u (k:=R.length-c.length) (v:=wf R (R.length-1)*top) (by omega) (by omega) (nr:=0) (n2:=n2) (n8:=n8) (Q8:=Q8) c.length 0 R (by omega) (by omega) ks
   simp only[Int.natCast_zero]at e
   have e2:=fun b nl=>nf6 (b:=b) (nl:=nl) (a:=subR (wf R (R.length-1)*top) c (R.length-c.length) c.length 0 R) (by rw[xs2];omega)
   have hsl:=xs2 (wf R (R.length-1)*top) c (R.length-c.length) c.length 0 R
   have l1:=iva (l:=R) (i:=R.length-1) (by omega)
   have w1:IntKind.wrap .i64 ((R.length:Int)-1)=((R.length-1:Nat):Int):=by rw[wrap64 (by omega) (by omega)];omega
   have w2:IntKind.wrap .i64 ((R.length:Int)-(c.length:Int))=((R.length-c.length:Nat):Int):=by rw[wrap64 (by omega) (by omega)];omega
   have hm:=ym6 (wf R (R.length-1)) top
   have ht:=u.n
   have ho:=u.o
   have vmul:=fun x y:Int=>n06 (q:=q) (x:=x) (y:=y)
   rw[u.e]at vmul
   rw[←g52,hm]at ih
   rw[hm]at e
   rw[←ih,sb5 c12L1.eq_def]
   generalize subR (wf R (R.length-1)*top) c (R.length-c.length) c.length 0 R=S at*
   generalize hG:R.length-1=r1 at*
   generalize hG2:R.length-c.length=kc at*
   simp(disch:=first|omega|fail) only[push_cast,seval,vrl,if_pos,if_neg,l1,w1,w2,ht,ho,vmul]
   rw[e]
   simp(disch:=first|omega|fail) only[push_cast,seval,vrl,if_pos,if_neg,e2]
  ·rw[if_neg hl]
   rw[sb5 c12L1.eq_def]
   simp(disch:=first|omega|fail) only[push_cast,seval,vrl,if_pos,if_neg]
theorem jr0{a0:List (El q)}(hc:Trm c)(hc0:c≠[])(hal:a0.length≤500)(hcl:c.length≤500):
 o25 W 12 [.agg (rFs q), .fz b (.sl nl 0 1 (ivs (vs a0))), .fz b' (.sl nl' 0 1 (ivs (vs c)))] []=some (.tup [.own 0 [], .own 1 []],[.sl 0 3 1 (ivs (vs (quoP (xa4 a0) c))), .sl 0 3 1 (ivs (vs (remP (xa4 a0) c)))],[]):=by
 obtain⟨p,m,g,t,u⟩:=k75 q
 have h0:0<c.length:=List.length_pos_iff.2 hc0
 have hlast:wf c (c.length-1)≠0:=hc (by omega)
 have e1:=fun b nl=>nf6 (b:=b) (nl:=nl) (a:=a0) (by omega)
 have e2:=fun b nl=>nf6 (b:=b) (nl:=nl) (a:=c) (by omega)
 have ha:=t12 a0
 have hal2:=tb1 a0
 generalize xa4 a0=a at*
 simp only[ou7 hc]at e2
 have l1:=iva (l:=c) (i:=c.length-1) (by omega)
 have w1:IntKind.wrap .i64 ((c.length:Int)-1)=((c.length-1:Nat):Int):=by rw[wrap64 (by omega) (by omega)];omega
 have hinv:=rl7 hlast
 have ht:=u.n
 have ho:=u.o
 have vinv:=fun x:Int=>dy2 (q:=q) (x:=x)
 rw[u.e]at vinv
 obtain⟨k,hk⟩: ∃k,k=if c.length≤a.length then a.length-c.length+1 else 0:=⟨_,rfl⟩
 have hI:DpI a c (List.replicate k 0) a:=⟨fun j=>by rw[rb9,tt8,zero_add],fun _ j _=>m12 k j,ha⟩
 have hQ:c.length≤a.length→a.length-c.length<(List.replicate k (0:El q)).length:=fun h=>by rw[List.length_replicate,hk,if_pos h];omega
 obtain⟨d1,d2⟩:=div_eq hc (cl9 h0 hlast a.length (List.replicate k 0) a (Nat.le_refl _) hI hQ)
 have hkl:k≤600:=by rw[hk];split<;>omega
 have e3:=fun n2 n8 ks=>t07 (c:=c) u (by omega) h0 hlast rfl (n2:=n2) (n8:=n8) a.length (List.replicate k 0) a (Nat.le_refl _) (by omega) (by rw[List.length_replicate];omega) hQ ks
 have dl:=gf6 c (FK.inv (wf c (c.length-1))) a.length (List.replicate k 0) a
 rw[List.length_replicate]at dl
 have e4:=fun b nl=>nf6 (b:=b) (nl:=nl) (a:=(dpT c (FK.inv (wf c (c.length-1))) a.length (List.replicate k 0) a).1) (by omega)
 rw[←d1]at e4
 rw[←d2]at e3
 generalize dpT c (FK.inv (wf c (c.length-1))) a.length (List.replicate k 0) a=D at*
 have hz:List.replicate k (0:Int)=vs (List.replicate k (0:El q)):=by rw[←qj2];rfl
 rw[hinv]at e3
 rw[←hz]at e3
 rw[o10 rfl T12 rfl,u.e]
 unfold F12 c12
 by_cases hl:c.length≤a.length
 ·rw[if_pos hl]at hk
  have w3:IntKind.wrap .i64 ((a.length:Int)-(c.length:Int)+1)=((k:Nat):Int):=by rw[wrap64 (by omega) (by omega)];omega
  generalize hG:c.length-1=c1 at*
  simp(disch:=first|omega|fail) only[push_cast,seval,vrl,if_pos,if_neg,e1,e2,w1,l1,w3,ht,ho,vinv]
  rw[e3]
  simp(disch:=first|omega|fail) only[push_cast,seval,vrl,if_pos,if_neg,e4]
 ·rw[if_neg hl]at hk
  subst hk
  generalize hG:c.length-1=c1 at*
  simp only[List.replicate_zero,lz6]at e3
  simp(disch:=first|omega|fail) only[push_cast,seval,vrl,if_pos,if_neg,e1,e2,w1,l1,ht,ho,vinv]
  rw[e3]
  simp(disch:=first|omega|fail) only[push_cast,seval,vrl,if_pos,if_neg,e4]
end
end Go.Proofs.YtoglhlonhmmieaaGreat
namespace Go.Proofs.YtoglhlonhmmieaaGreat
open Go.Am
@[push_cast] theorem py6{α:Type}{h:H}{r:Option α}:behind true h h r=r:=zy7 (List.prefix_refl h)
section
variable {h:H} {sa:Option Addr} {c:Nat} {l:List Int}
end
section
variable {h0:H} {sr:Option Addr} {cr:Nat} {raw:List Int}
end
section
variable {h:H} {sa:Option Addr} {C:Nat} {cs:List (List Int)}
end
section
variable {h:H}
end
def qr3(q:Int):List Int→List Int×Bool
 | []=>([],false)
 |a::l=>match qr3 q l with
  |(l',true)=>(a::l',true)
  |(l',false)=>if a+1<q then((a+1)::l',true)else(0::l',false)
theorem pd1(q:Int): ∀l,(qr3 q l).1.length=l.length
 | []=>rfl
 |a::l=>by
  have ih:=pd1 q l
  rw[qr3]
  generalize qr3 q l=x at ih⊢
  obtain⟨l',b⟩:=x
  cases b
  ·simp only
   split<;>simpa using ih
  ·simpa using ih
theorem vq6{q:Int}{s s':List Int}(h:qr3 q s=(s',true)): ∀p:List Int,qr3 q (p++s)=(p++s',true)
 | []=>h
 |a::p=>by rw[List.cons_append,qr3,vq6 h p];rfl
def valS(q:Nat):List Int→Nat
 | []=>0
 |a::l=>a.toNat*q^l.length+valS q l
def digS(q:Int)(l:List Int):Prop:= ∀a∈l,0≤a∧a<q
theorem uc1{q:Nat}: ∀{l:List Int},digS q l→valS q l<q^l.length
 | [],_=>by simp[valS]
 |a::l,h=>by
  have h1:=h a (by simp)
  have ih:=uc1 (l:=l) fun b hb=>h b (by simp[hb])
  rw[valS,List.length_cons,Nat.pow_succ,Nat.mul_comm (q^l.length)]
  have h2:(a.toNat+1)*q^l.length≤q*q^l.length:=Nat.mul_le_mul_right _ (by omega)
  rw[Nat.add_mul,Nat.one_mul]at h2
  omega
theorem jd2{q:Nat}(hq:0<q): ∀{l:List Int},digS q l→digS q (qr3 q l).1∧(if(qr3 q l).2=true then valS q (qr3 q l).1=valS q l+1 else valS q l+1=q^l.length∧ ∀a∈(qr3 q l).1,a=0)
 | [],_=>by simp[qr3,valS,digS]
 |a::l,h=>by
  have h1:=h a (by simp)
  obtain⟨k1,k2⟩:=jd2 hq (l:=l) fun b hb=>h b (by simp[hb])
  have hl:=pd1 q l
  rw[qr3]
  generalize hx:qr3 q l=x at k1 k2 hl⊢
  obtain⟨l',b⟩:=x
  simp only at k1 k2 hl
  cases b with
  |true=>
   simp only[if_true]at k2⊢
   refine⟨fun c hc=> ?_, ?_⟩
   ·rcases List.mem_cons.1 hc with rfl|hc
    ·exact h1
    ·exact k1 c hc
   ·rw[valS,valS,hl,k2];omega
  |false=>
   simp only[Bool.false_eq_true,if_false]at k2⊢
   have hz: ∀{m:List Int},(∀a∈m,a=0)→valS q m=0:=by
    intro m
    induction m with
    |nil=>intro _;rfl
    |cons c m ih=>intro hm;rw[valS,ih fun a ha=>hm a (by simp[ha]),hm c (by simp)];simp
   by_cases hlt:a+1<q
   ·rw[if_pos hlt]
    simp only[if_true]
    refine⟨fun c hc=> ?_, ?_⟩
    ·rcases List.mem_cons.1 hc with rfl|hc
     ·omega
     ·exact k1 c hc
    ·rw[valS,valS,hz k2.2,hl,Nat.add_zero,Nat.add_assoc,k2.1,show(a+1).toNat=a.toNat+1 by omega,Nat.add_mul,Nat.one_mul]
   ·rw[if_neg hlt]
    simp only[Bool.false_eq_true,if_false]
    refine⟨fun c hc=> ?_, ?_,fun c hc=> ?_⟩
    ·rcases List.mem_cons.1 hc with rfl|hc
     ·omega
     ·exact k1 c hc
    ·rw[valS,List.length_cons,Nat.add_assoc,k2.1,show a.toNat=q-1 by omega,Nat.pow_succ,Nat.mul_comm (q^l.length),Nat.sub_mul,Nat.one_mul]
     have:q^l.length≤q*q^l.length:=Nat.le_mul_of_pos_left _ hq
     omega
    ·rcases List.mem_cons.1 hc with rfl|hc
     ·rfl
     ·exact k2.2 c hc
section
variable {hF:H} {q:Int}
theorem ri5{p s:List Int}{a b:Int}{i:Nat}(hi:p.length=i):(p++a::s).set i b=p++b::s:=by
 subst hi;simp
end
end Go.Proofs.YtoglhlonhmmieaaGreat
namespace Go.Proofs.YtoglhlonhmmieaaGreat
open Go.Am Go.Vm Go.Alg
theorem qe6{p s:List Int}{a:Int}{i:Nat}(hi:p.length=i):(ivs (p++a::s))[i]? =some (.v (.int .i64 a)):=iat (by subst hi;simp)
section
variable {q:Int} {nl:Nat}
theorem e51(hq:q≤1000000): ∀(i:Nat) (p s s':List Int),p.length=i→(p++s).length≤1000000→(∀a∈p,0≤a∧a<q)→qr3 q s=(s',false)→ ∀ks,
 vgoL W ⟨hNo,[.tmp 4],1⟩ [0,1,5] c68L0 (.blk 0 []::ks) [(0, .own 0 []),(1, .x (.int .i64 q)),(5, .x (.int .i64 ((i:Int)-1)))] [.sl nl 3 1 (ivs (p++s'))]=
  if(qr3 q (p++s)).2=true then some (.x (.bool true),[],[.sl nl 3 1 (ivs (qr3 q (p++s)).1)])else vgo W ⟨hNo,[.tmp 4],1⟩ ks (VFr.of []) [.sl nl 3 1 (ivs (qr3 q (p++s)).1)]
 |0,p,s,s',hi,hn,hd,hs,ks=>by
  obtain rfl:p=[]:=List.eq_nil_of_length_eq_zero hi
  rw[List.nil_append,List.nil_append,hs,if_neg Bool.false_ne_true,sb5 c68L0.eq_def]
  simp(disch:=first|omega|fail) only[push_cast,seval,vrl,if_pos,if_neg]
 |i+1,p,s,s',hi,hn,hd,hs,ks=>by
  obtain⟨p',a,rfl⟩: ∃p' a,p=p'++[a]:=⟨p.dropLast,p.getLast (by intro h;subst h;simp at hi),(List.dropLast_concat_getLast _).symm⟩
  have hp'l:p'.length=i:=by simpa using hi
  have ha:=hd a (by simp)
  rw[List.append_assoc,List.singleton_append]at hn⊢
  rw[List.append_assoc,List.singleton_append]
  have hsl:s'.length=s.length:=by have:=pd1 q s;rw[hs]at this;exact this
  have hlen:(p'++a::s').length≤1000000:=by simp[hsl]at hn⊢;omega
  have hi2:i<(p'++a::s').length:=by simp;omega
  have l1:=qe6 (s:=s') (a:=a) hp'l
  have l2:=qe6 (s:=s') (a:=a+1) hp'l
  have t1:=ri5 (s:=s') (a:=a) (b:=a+1) hp'l
  have t2:=ri5 (s:=s') (a:=a+1) (b:=0) hp'l
  have e2:(p'++(a+1)::s').length=(p'++a::s').length:=by simp
  have e3:(p'++0::s').length=(p'++a::s').length:=by simp
  have hw:((i+1:Nat):Int)-1=(i:Int):=by omega
  rw[hw]
  by_cases hlt:a+1<q
  ·have hnx:qr3 q (a::s)=((a+1)::s',true):=by rw[qr3,hs];simp only;rw[if_pos hlt]
   rw[vq6 hnx p',if_pos rfl,sb5 c68L0.eq_def]
   simp(disch:=first|omega|fail) only[push_cast,seval,vrl,if_pos,if_neg,l1,l2,t1,e2,dec_lt hlt]
  ·have hnx:qr3 q (a::s)=(0::s',false):=by rw[qr3,hs];simp only;rw[if_neg hlt]
   have ih:=e51 hq i p' (a::s) (0::s') hp'l hn (fun c hc=>hd c (by simp[hc])) hnx ks
   rw[←ih,sb5 c68L0.eq_def]
   simp(disch:=first|omega|fail) only[push_cast,seval,vrl,if_pos,if_neg,l1,l2,t1,t2,e2,e3,cw6 (Int.not_lt.1 hlt)]
theorem ll0{z:List Int}(hq:q≤1000000)(hz:z.length≤1000000)(hd:digS q z):
 o25 W 68 [.own 0 [], .x (.int .i64 q)] [.sl nl 3 1 (ivs z)]=some (.x (.bool (qr3 q z).2),[],[.sl nl 3 1 (ivs (qr3 q z).1)]):=by
 have e:=fun ks=>e51 (nl:=nl) hq z.length z [] [] rfl (by simpa using hz) hd rfl ks
 simp only[List.append_nil]at e
 rw[o10 rfl T68 rfl]
 unfold F68 c68
 simp(disch:=first|omega|fail) only[push_cast,seval,vrl,if_pos,if_neg]
 rw[e]
 cases (qr3 q z).2 with
 |true=>rw[if_pos rfl]
 |false=>
  rw[if_neg Bool.false_ne_true]
  simp(disch:=first|omega|fail) only[push_cast,seval,vrl,if_pos,if_neg]
end
section
variable {q:Int}
variable {b b':Bool} {nl nl':Nat} {xs w:List Int} {k:Int}
end
theorem q_hi{q:Int} [hq:IsFld q]:q≤64:=by
 obtain⟨p,m,g,mod,hn⟩:=hq.ok
 exact(jj8 hn).1.q64
section
variable {q:Int} [IsFld q]
def elE(q:Int) [IsFld q](a:Int):El q:=if h:0≤a∧a<q then⟨a,h.1,h.2⟩else 0
theorem sx0{a:Int}(h:0≤a∧a<q):(elE q a).v=a:=by unfold elE;rw[dif_pos h]
theorem da7{l:List Int}(h:digS q l):vs (l.map (elE q))=l:=by
 unfold vs
 rw[List.map_map]
 conv=>rhs;rw[←List.map_id l]
 exact List.map_congr_left fun a ha=>sx0 (h a ha)
theorem oa6(z:List (El q)):digS q (vs z):=fun a ha=>by
 obtain⟨x,_,rfl⟩:=List.mem_map.1 ha
 exact⟨x.lo,x.hi⟩
def yv5(z:List (El q)):List (El q):=(qr3 q (vs z)).1.map (elE q)
theorem z55: ∃p:Nat,q=(p:Int)∧2≤p∧p≤64:=⟨q.toNat,by have:=aw0 (q:=q);omega,by have:=aw0 (q:=q);omega,by have:=q_hi (q:=q);omega⟩
theorem mw7(z:List (El q)):vs (yv5 z)=(qr3 q (vs z)).1:=by
 obtain⟨p,hp,h2,_⟩:=z55 (q:=q)
 refine da7 ?_
 have:=(jd2 (q:=p) (by omega) (l:=vs z) (by rw[←hp];exact oa6 z)).1
 rwa [←hp]at this
theorem l71(z:List (El q)):(yv5 z).length=z.length:=by
 have:=congrArg List.length (mw7 z)
 rwa [fi2,pd1,fi2]at this
structure Left (q:Int) (p:Nat) (n:Nat) (z:List (El q)):Prop where
 e:q=(p:Int)
 h:valS p (vs z)+n+1=p^z.length
theorem Left.last{p:Nat}{z:List (El q)}(h:Left q p 0 z):(qr3 q (vs z)).2=false:=by
 have hq:=aw0 (q:=q)
 have h1:=jd2 (q:=p) (by have:=h.e;omega) (l:=vs z) (by rw[←h.e];exact oa6 z)
 rw[←h.e]at h1
 cases hb:(qr3 q (vs z)).2 with
 |false=>rfl
 |true=>
  have h2:=h1.2
  rw[hb,if_pos rfl]at h2
  have h3:=uc1 (q:=p) (l:=(qr3 q (vs z)).1) (by rw[←h.e];exact h1.1)
  rw[pd1,fi2]at h3
  have:=h.h
  omega
theorem Left.more{p n:Nat}{z:List (El q)}(h:Left q p (n+1) z):(qr3 q (vs z)).2=true∧Left q p n (yv5 z):=by
 have hq:=aw0 (q:=q)
 have h1:=jd2 (q:=p) (by have:=h.e;omega) (l:=vs z) (by rw[←h.e];exact oa6 z)
 rw[←h.e]at h1
 have h0:=h.h
 cases hb:(qr3 q (vs z)).2 with
 |false=>
  have h2:=h1.2
  rw[hb,if_neg (by decide),fi2]at h2
  omega
 |true=>
  have h2:=h1.2
  rw[hb,if_pos rfl]at h2
  exact⟨rfl,h.e,by rw[mw7,l71];omega⟩
theorem Left.start{p:Nat}(e:q=(p:Int))(K:Nat):Left q p (p^K-1) (List.replicate K (0:El q)):=by
 have hq:=aw0 (q:=q)
 refine⟨e, ?_⟩
 have h0: ∀k:Nat,valS p (vs (List.replicate k (0:El q)))=0:=by
  intro k
  induction k with
  |zero=>rfl
  |succ k ih=>rw[List.replicate_succ,show vs ((0:El q)::List.replicate k 0)=0::vs (List.replicate k 0)from rfl,valS,ih];simp
 rw[h0,List.length_replicate]
 have:0<p^K:=Nat.pow_pos (by omega)
 omega
end
section
variable {q p m g:Int} [IsFld q] {t:Tree} {b b' b2:Bool} {nl nl' nl2:Nat} {X Y:List (El q)} {r:Int} {K:Nat}
end
section
variable {q:Int} [IsFld q] {b b':Bool} {nl nl':Nat}
def rtL(a:List (El q))(n:Nat):List Int:=((List.range n).filter fun i:Nat=>decide (ev a (elE q (i:Int))=0)).map fun i:Nat=>(i:Int)
theorem vm6(a:List (El q))(n:Nat):rtL a (n+1)=rtL a n++if ev a (elE q (n:Int))=0 then [(n:Int)]else []:=by
 unfold rtL
 rw[List.range_succ,List.filter_append,List.map_append,List.filter_cons]
 by_cases h:ev a (elE q (n:Int))=0
 ·rw[if_pos h,if_pos (decide_eq_true h)];rfl
 ·rw[if_neg h,if_neg (by simpa using h)];rfl
theorem h55(a:List (El q))(n:Nat):(rtL a n).length≤n:=by
 unfold rtL
 rw[List.length_map]
 exact Nat.le_trans (List.length_filter_le _ _) (by simp)
theorem x31{a:List (El q)}(hl:a.length≤128){nl nr:Nat}: ∀(d i:Nat),(i:Int)+d=q→ ∀ks,
 vgoL W ⟨h49,[.tmp 4, .tmp 5],0⟩ [0,1,9,28,29] c49L0 (.blk 0 [9]::ks) [(0, .x (.int .i64 q)),(1, .own 0 []),(9, .own 1 []),(28, .x (.int .i64 q)),(29, .x (.int .i64 i))] [.sl nl 3 1 (ivs (vs a)), .sl nr 3 1 (ivs (rtL a i))]=
  vgo W ⟨h49,[.tmp 4, .tmp 5],0⟩ ks (VFr.of [(9, .own 1 [])]) [.sl nl 3 1 (ivs (vs a)), .sl nr 3 1 (ivs (rtL a q.toNat))]
 |0,i,hi,ks=>by
  obtain rfl:q=(i:Int):=by omega
  rw[Int.toNat_natCast,sb5 c49L0.eq_def]
  simp(disch:=first|omega|fail) only[push_cast,seval,vrl,if_pos,if_neg]
 |d+1,i,hi,ks=>by
  have hq:=q_hi (q:=q)
  have ih:=x31 hl (nl:=nl) (nr:=nr) d (i+1) (by omega) ks
  have e1:=fun b nl=>yu6 (b:=b) (nl:=nl) (a:=a) (x:=elE q (i:Int)) hl
  simp only[sx0 (q:=q) (a:=(i:Int)) (by omega)]at e1
  have hlen:=h55 a i
  have hlt:(i:Int)<q:=by omega
  rw[Int.natCast_add,Int.natCast_one]at ih
  by_cases h:ev a (elE q (i:Int))=0
  ·rw[vm6,if_pos h]at ih
   rw[h,hc8]at e1
   rw[←ih,sb5 c49L0.eq_def]
   generalize rtL a i=A at*
   simp(disch:=first|omega|fail) only[push_cast,seval,vrl,if_pos,if_neg,dec_lt hlt,e1]
  ·have hne: ¬(ev a (elE q (i:Int))).v=0:=fun e=>h (El.ext' e)
   rw[vm6,if_neg h,List.append_nil]at ih
   rw[←ih,sb5 c49L0.eq_def]
   generalize rtL a i=A at*
   simp(disch:=first|omega|fail) only[push_cast,seval,vrl,if_pos,if_neg,dec_lt hlt,e1,nb8 hne]
theorem b76{a:List (El q)}(ha:a.length≤128)(h0:xa4 a=[]):
 o25 W 49 [.x (.int .i64 q), .fz b (.sl nl 0 1 (ivs (vs a)))] []=some (.tup [.own 0 [], .x (.int .i64 5)],[.sl 1 3 1 (ivs [])],[]):=by
 have e1:=fun b nl b' nl'=>ce8 (b:=b) (nl:=nl) (b':=b') (nl':=nl') ha (c:=([]:List (El q))) (by simp)
 simp only[h0,n18,rp2,lz6]at e1
 rw[o10 rfl T49 rfl]
 unfold F49 c49
 simp(disch:=first|omega|fail) only[push_cast,seval,vrl,if_pos,if_neg,e1,List.tail_cons]
 rfl
theorem d35{a:List (El q)}(ha:a.length≤128)(h0:xa4 a≠[]):
 o25 W 49 [.x (.int .i64 q), .fz b (.sl nl 0 1 (ivs (vs a)))] []=some (.tup [.own 0 [], .x (.int .i64 0)],[.sl 1 3 1 (ivs (rtL (xa4 a) q.toNat))],[]):=by
 have e1:=fun b nl b' nl'=>ce8 (b:=b) (nl:=nl) (b':=b') (nl':=nl') ha (c:=([]:List (El q))) (by simp)
 simp only[n18,rp2,lz6]at e1
 have la:=tb1 a
 have hq:=aw0 (q:=q)
 have e2:=fun nl ks=>x31 (a:=xa4 a) (by omega) (nl:=nl) (nr:=1) q.toNat 0 (by omega) ks
 rw[show rtL (xa4 a) 0=[]from rfl]at e2
 simp only[Int.natCast_zero,lz6]at e2
 have hp:0<(xa4 a).length:=List.length_pos_iff.2 h0
 generalize xa4 a=A at*
 have hz: ¬(A.length:Int)=0:=by omega
 rw[o10 rfl T49 rfl]
 unfold F49 c49
 simp(disch:=first|omega|fail) only[push_cast,seval,vrl,if_pos,if_neg,e1,List.tail_cons,nb8 hz]
 rw[e2]
 simp(disch:=first|omega|fail) only[push_cast,seval,vrl,if_pos,if_neg]
end
section
variable {q:Int} {nl:Nat}
theorem e64(h1:0≤q)(h2:q≤64){k:Int}{N:Nat}(hN:N≤1000): ∀(d i:Nat) (n:Int),i+d=N→0≤n→n≤4096→ ∀ks,
 vgoL W ⟨hNo,[.tmp 4],0⟩ [0,5,7,8] c71L0 (.blk 0 []::ks) [(0, .x (.int .i64 q)),(5, .x (.int .i64 n)),(7, .x (.int .i64 N)),(8, .x (.int .i64 i))] []=if fewQ q d n=true then vgo W ⟨hNo,[.tmp 4],0⟩ ks (VFr.of []) []else some (.x (.bool false),[],[])
 |0,i,n,hi,hn,hn2,ks=>by
  rw[fewQ,if_pos rfl,sb5 c71L0.eq_def]
  simp(disch:=first|omega|fail) only[push_cast,seval,vrl,if_pos,if_neg]
 |d+1,i,n,hi,hn,hn2,ks=>by
  have hb0:0≤n*q:=Int.mul_nonneg hn h1
  have hb1:n*q≤4096*64:=Int.mul_le_mul hn2 h2 h1 (by decide)
  have hb2:n*q≤262144:=by omega
  rw[fewQ]
  by_cases h:4096<n*q
  ·rw[if_pos h,if_neg (by decide),sb5 c71L0.eq_def]
   simp(disch:=first|omega|fail) only[push_cast,seval,vrl,if_pos,if_neg,dec_lt h]
  ·have ih:=e64 h1 h2 (k:=k) hN d (i+1) (n*q) (by omega) hb0 (by omega) ks
   rw[Int.natCast_add,Int.natCast_one]at ih
   rw[if_neg h,←ih,sb5 c71L0.eq_def]
   simp(disch:=first|omega|fail) only[push_cast,seval,vrl,if_pos,if_neg,cw6 (Int.not_lt.1 h)]
theorem p28(h1:0≤q)(h2:q≤64){k:Nat}(hk:k≤1000):o25 W 71 [.x (.int .i64 q), .x (.int .i64 k)] []=some (.x (.bool (fewQ q (k/2) 1)),[],[]):=by
 have e:=fun ks=>e64 h1 h2 (k:=(k:Int)) (N:=k/2) (by omega) (k/2) 0 1 (by omega) (by decide) (by decide) ks
 simp only[Int.natCast_zero]at e
 have w1:((k:Int)).tdiv 2=((k/2:Nat):Int):=by rw[Int.tdiv_eq_ediv_of_nonneg (by omega)];omega
 have hk2:k/2≤500:=by omega
 rw[o10 rfl T71 rfl]
 unfold F71 c71
 generalize k/2=N at*
 simp(disch:=first|omega|fail) only[push_cast,seval,vrl,if_pos,if_neg,w1]
 rw[e]
 cases hz:fewQ q N 1 with
 |true=>
  rw[if_pos rfl]
  simp(disch:=first|omega|fail) only[push_cast,seval,vrl,if_pos,if_neg]
 |false=>rw[if_neg (by decide)]
theorem mc5(h1:0≤q)(h2:q≤64){k:Int}{N:Nat}(hk:k.tdiv 2=(N:Int))(hN:N≤1000): ∀(d i:Nat) (n:Int),i+d=N→0≤n→n≤4096→ ∀ks,
 vgoL W ⟨hNo,[.tmp 4],0⟩ [0,1,5,6] c47L0 (.blk 0 []::ks) [(0, .x (.int .i64 q)),(1, .x (.int .i64 k)),(5, .x (.int .i64 n)),(6, .x (.int .i64 i))] []=if fewQ q d n=true then vgo W ⟨hNo,[.tmp 4],0⟩ ks (VFr.of []) []else some (.x (.bool false),[],[])
 |0,i,n,hi,hn,hn2,ks=>by
  rw[fewQ,if_pos rfl,sb5 c47L0.eq_def]
  simp(disch:=first|omega|fail) only[push_cast,seval,vrl,if_pos,if_neg,hk]
 |d+1,i,n,hi,hn,hn2,ks=>by
  have hb0:0≤n*q:=Int.mul_nonneg hn h1
  have hb1:n*q≤4096*64:=Int.mul_le_mul hn2 h2 h1 (by decide)
  have hb2:n*q≤262144:=by omega
  rw[fewQ]
  by_cases h:4096<n*q
  ·rw[if_pos h,if_neg (by decide),sb5 c47L0.eq_def]
   simp(disch:=first|omega|fail) only[push_cast,seval,vrl,if_pos,if_neg,hk,dec_lt h]
  ·have ih:=mc5 h1 h2 hk hN d (i+1) (n*q) (by omega) hb0 (by omega) ks
   rw[Int.natCast_add,Int.natCast_one]at ih
   rw[if_neg h,←ih,sb5 c47L0.eq_def]
   simp(disch:=first|omega|fail) only[push_cast,seval,vrl,if_pos,if_neg,hk,cw6 (Int.not_lt.1 h)]
theorem eb8(h1:0≤q)(h2:q≤64){k:Nat}(hk:k≤1000):o25 W 47 [.x (.int .i64 q), .x (.int .i64 k)] []=some (.x (.bool (fewQ q (k/2) 1)),[],[]):=by
 have w1:((k:Int)).tdiv 2=((k/2:Nat):Int):=by rw[Int.tdiv_eq_ediv_of_nonneg (by omega)];omega
 have e:=fun ks=>mc5 h1 h2 w1 (by omega) (k/2) 0 1 (by omega) (by decide) (by decide) ks
 simp only[Int.natCast_zero]at e
 rw[o10 rfl T47 rfl]
 unfold F47 c47
 generalize k/2=N at*
 simp(disch:=first|omega|fail) only[push_cast,seval,vrl,if_pos,if_neg]
 rw[e]
 cases hz:fewQ q N 1 with
 |true=>
  rw[if_pos rfl]
  simp(disch:=first|omega|fail) only[push_cast,seval,vrl,if_pos,if_neg]
 |false=>rw[if_neg (by decide)]
theorem mh8(hq:q≤1000000): ∀(i:Nat) (p s s':List Int),p.length=i→(p++s).length≤1000000→(∀a∈p,0≤a∧a<q)→qr3 q s=(s',false)→ ∀ks,
 vgoL W ⟨hNo,[.tmp 4],1⟩ [0,1,5] c73L0 (.blk 0 []::ks) [(0, .x (.int .i64 q)),(1, .own 0 []),(5, .x (.int .i64 ((i:Int)-1)))] [.sl nl 3 1 (ivs (p++s'))]=
  if(qr3 q (p++s)).2=true then some (.own 0 [],[.sl nl 3 1 (ivs (qr3 q (p++s)).1)],[.junk])else vgo W ⟨hNo,[.tmp 4],1⟩ ks (VFr.of []) [.sl nl 3 1 (ivs (qr3 q (p++s)).1)]
 |0,p,s,s',hi,hn,hd,hs,ks=>by
  obtain rfl:p=[]:=List.eq_nil_of_length_eq_zero hi
  rw[List.nil_append,List.nil_append,hs,if_neg Bool.false_ne_true,sb5 c73L0.eq_def]
  simp(disch:=first|omega|fail) only[push_cast,seval,vrl,if_pos,if_neg]
 |i+1,p,s,s',hi,hn,hd,hs,ks=>by
  obtain⟨p',a,rfl⟩: ∃p' a,p=p'++[a]:=⟨p.dropLast,p.getLast (by intro h;subst h;simp at hi),(List.dropLast_concat_getLast _).symm⟩
  have hp'l:p'.length=i:=by simpa using hi
  have ha:=hd a (by simp)
  rw[List.append_assoc,List.singleton_append]at hn⊢
  rw[List.append_assoc,List.singleton_append]
  have hsl:s'.length=s.length:=by have:=pd1 q s;rw[hs]at this;exact this
  have hlen:(p'++a::s').length≤1000000:=by simp[hsl]at hn⊢;omega
  have hi2:i<(p'++a::s').length:=by simp;omega
  have l1:=qe6 (s:=s') (a:=a) hp'l
  have l2:=qe6 (s:=s') (a:=a+1) hp'l
  have t1:=ri5 (s:=s') (a:=a) (b:=a+1) hp'l
  have t2:=ri5 (s:=s') (a:=a+1) (b:=0) hp'l
  have e2:(p'++(a+1)::s').length=(p'++a::s').length:=by simp
  have hw:((i+1:Nat):Int)-1=(i:Int):=by omega
  rw[hw]
  by_cases hlt:a+1<q
  ·have hnx:qr3 q (a::s)=((a+1)::s',true):=by rw[qr3,hs];simp only;rw[if_pos hlt]
   rw[vq6 hnx p',if_pos rfl,sb5 c73L0.eq_def]
   simp(disch:=first|omega|fail) only[push_cast,seval,vrl,if_pos,if_neg,l1,l2,t1,e2,dec_lt hlt]
  ·have hnx:qr3 q (a::s)=(0::s',false):=by rw[qr3,hs];simp only;rw[if_neg hlt]
   have ih:=mh8 hq i p' (a::s) (0::s') hp'l hn (fun c hc=>hd c (by simp[hc])) hnx ks
   rw[←ih,sb5 c73L0.eq_def]
   simp(disch:=first|omega|fail) only[push_cast,seval,vrl,if_pos,if_neg,l1,l2,t1,t2,e2,cw6 (Int.not_lt.1 hlt)]
theorem pm9{z:List Int}(hq:q≤1000000)(hz:z.length≤1000000)(hd:digS q z)(h:(qr3 q z).2=true):
 o25 W 73 [.x (.int .i64 q), .own 0 []] [.sl nl 3 1 (ivs z)]=some (.own 0 [],[.sl nl 3 1 (ivs (qr3 q z).1)],[.junk]):=by
 have e:=fun ks=>mh8 (nl:=nl) hq z.length z [] [] rfl (by simpa using hz) hd rfl ks
 simp only[List.append_nil,h,if_true]at e
 rw[o10 rfl T73 rfl]
 unfold F73 c73
 simp(disch:=first|omega|fail) only[push_cast,seval,vrl,if_pos,if_neg]
 rw[e]
theorem xt4{z:List Int}(hq:q≤1000000)(hz:z.length≤1000000)(hd:digS q z)(h:(qr3 q z).2=false):
 o25 W 73 [.x (.int .i64 q), .own 0 []] [.sl nl 3 1 (ivs z)]=some (.x (.slice none 0 0),[],[.sl nl 3 1 (ivs (qr3 q z).1)]):=by
 have e:=fun ks=>mh8 (nl:=nl) hq z.length z [] [] rfl (by simpa using hz) hd rfl ks
 simp only[List.append_nil,h,Bool.false_eq_true,if_false]at e
 rw[o10 rfl T73 rfl]
 unfold F73 c73
 simp(disch:=first|omega|fail) only[push_cast,seval,vrl,if_pos,if_neg]
 rw[e]
 simp(disch:=first|omega|fail) only[push_cast,seval,vrl,if_pos,if_neg]
end
section
variable {q:Int} {b b':Bool} {nl nl':Nat}
theorem da6{a:List Int}(ha:a.length≤9223372036854775807)(he:polE q a≠0):
 o25 W 49 [.x (.int .i64 q), .fz b (.sl nl 0 1 (ivs a))] []=some (.tup [.own 0 [], .x (.int .i64 (polE q a))],[.sl 1 3 1 (ivs [])],[]):=by
 have hb:tc9 q a []=polE q a:=by unfold tc9;rw[if_neg he]
 have e1:=fun b nl b' nl'=>qh9 (q:=q) (b:=b) (nl:=nl) (b':=b') (nl':=nl') ha (c:=[]) (by simp) (by rw[hb];exact he)
 simp only[hb,lz6]at e1
 rw[o10 rfl T49 rfl]
 unfold F49 c49
 simp(disch:=first|omega|fail) only[push_cast,seval,vrl,if_pos,if_neg,e1,List.tail_cons,nb8 he]
 rfl
end
set_option maxHeartbeats 2000000
theorem a15: ∀(n:Nat) (l:List Nat),l.Nodup→(∀x∈l,x<n)→l.length≤n
 |0,l,_,h=>by
  cases l with
  |nil=>simp
  |cons a l=>exact absurd (h a (by simp)) (by omega)
 |n+1,l,hn,h=>by
  have h1:=a15 n (l.erase n) (hn.erase n) fun x hx=>by
   have h2:=(hn.mem_erase_iff).1 hx
   have:=h x h2.2
   omega
  rw[List.length_erase]at h1
  split at h1<;>omega
section
variable {q:Int} [IsFld q]
theorem s88{l:List (El q)}(h:l.Nodup):l.length≤64:=by
 have h1:=a15 q.toNat (l.map fun a=>a.v.toNat) (by
  refine List.pairwise_map.2 (h.imp fun{a b} hab e=>hab ?_)
  have h2:=a.lo
  have h3:=b.lo
  exact El.ext' (by omega)) fun x hx=>by
   obtain⟨a,_,rfl⟩:=List.mem_map.1 hx
   have h2:=a.lo
   have h3:=a.hi
   omega
 have:=q_hi (q:=q)
 rw[List.length_map]at h1
 omega
theorem nb0: ∀(R A:List (El q×El q)),(A.map Prod.fst).Nodup→ ¬((A++R).map Prod.fst).Nodup→ ∃A' p Q,A++R=A'++p::Q∧(A'.map Prod.fst).Nodup∧p.1∈A'.map Prod.fst
 | [],A,h1,h2=>absurd h1 (by simpa using h2)
 |r::R,A,h1,h2=>by
  by_cases h:r.1∈A.map Prod.fst
  ·exact⟨A,r,R,rfl,h1,h⟩
  ·have h3:((A++[r]).map Prod.fst).Nodup:=by
    rw[List.map_append,List.nodup_append]
    refine⟨h1,by simp,fun a ha b hb e=>h ?_⟩
    rw[List.map_cons,List.map_nil,List.mem_singleton]at hb
    rw[←hb,←e];exact ha
   have:=nb0 R (A++[r]) h3 (by rw[List.append_assoc];exact h2)
   rwa [List.append_assoc]at this
variable {b b':Bool} {nl nl':Nat} {P:List (El q×El q)}
theorem oe5{p:El q×El q}{Q:List (El q×El q)}(hP:P.length≤128): ∀(R A:List (El q×El q)) (out all:List (El q)),A++R++p::Q=P→((A++R).map Prod.fst).Nodup→p.1∈(A++R).map Prod.fst→(A++R).length≤64→ThrI A R out all→ ∀(b:Bool) (nl:Nat) (b':Bool) (nl' nf na:Nat) ks,
 vgoL W ⟨h53,[.tmp 6, .tmp 7],0⟩ [0,1,2,8,12,13,41,42,43] c53L1 (.blk 0 [12]::ks) [(0, .x (.int .i64 q)),(1, .fz b (.sl nl 0 1 (ivs (vs (P.map Prod.fst))))),(2, .fz b' (.sl nl' 0 1 (ivs (vs (P.map Prod.snd))))),(8, .fz true (pF q)),(12, .own 0 []),(13, .own 1 []),(41, .fz b (.sl nl 0 1 (ivs (vs (P.map Prod.fst))))),(42, .x (.int .i64 P.length)),(43, .x (.int .i64 A.length))] [.sl nf 3 1 (ivs (vs out)), .sl na 3 1 (ivs (vs all))]=
  some (.tup [.own 0 [], .x (.int .i64 7)],[.sl 1 3 1 []],[]):=by
 intro R
 induction R with
 |nil=>
  intro A out all hA hn hm hl h b nl b' nl' nf na ks
  rw[List.append_nil]at hA hn hm hl
  have hla:=h.la
  have hlo:=h.lo
  have hAl:A.length<P.length:=by rw[←hA];simp
  have hp:P[A.length]? =some p:=by rw[←hA];simp
  have h1:=iat (show(vs (P.map Prod.fst))[A.length]? =some p.1.v by unfold vs;rw[List.getElem?_map,List.getElem?_map,hp];rfl)
  have e1:=fun b nl=>yu6 (b:=b) (nl:=nl) (a:=all) (x:=p.1) (by omega)
  obtain⟨p',hp',hpe⟩:=List.mem_map.1 hm
  have hz:=h.z p' hp'
  rw[hpe]at hz
  rw[hz,hc8]at e1
  rw[sb5 c53L1.eq_def]
  simp(disch:=first|omega|fail) only[push_cast,seval,vrl,if_pos,if_neg,h1,e1,List.length_map]
 |cons r R ih=>
  intro A out all hA hn hm hl h b nl b' nl' nf na ks
  have hne: ∀s∈R,s.1≠r.1:=fun s hs e=>by
   rw[List.map_append,List.map_cons]at hn
   have h1:=(List.nodup_cons.1 (List.nodup_append.1 hn).2.1).1
   exact h1 (List.mem_map.2 ⟨s,hs,e⟩)
  have hs:=h.step hne
  have hAl:A.length+2≤P.length:=by rw[←hA];simp;omega
  have hl2:A.length+1≤64:=by simp at hl;omega
  have hla:=h.la
  have hlo:=h.lo
  have hnz:=h.nz r (by simp)
  have hane:all≠[]:=fun e=>hnz (by rw[e];rfl)
  have hp:P[A.length]? =some r:=by rw[←hA];simp
  have h1:=iat (show(vs (P.map Prod.fst))[A.length]? =some r.1.v by unfold vs;rw[List.getElem?_map,List.getElem?_map,hp];rfl)
  have h2:=iat (show(vs (P.map Prod.snd))[A.length]? =some r.2.v by unfold vs;rw[List.getElem?_map,List.getElem?_map,hp];rfl)
  have e1:=fun b nl=>yu6 (b:=b) (nl:=nl) (a:=all) (x:=r.1) (by omega)
  have e2:=fun b nl=>yu6 (b:=b) (nl:=nl) (a:=out) (x:=r.1) (by omega)
  have hat: ¬(ev all r.1).v=0:=fun e=>hnz (El.ext' e)
  have hinv:=rl7 hnz
  have e3:=fun b nl=>h20 (b:=b) (nl:=nl) (zs:=vs all) (by rw[fi2];omega)
  simp only[ks8,ef8 hane]at e3
  obtain⟨c,hc⟩: ∃c,(r.2-ev out r.1)*FK.inv (ev all r.1)=c:=⟨_,rfl⟩
  have hcv:fmul q (fsub q r.2.v (ev out r.1).v) (finv q (ev all r.1).v)=c.v:=by rw[←hc,←hinv];rfl
  rw[hc]at hs
  have e4:=fun b nl b' nl' T0 T1 i L x ks=>ga4 (b:=b) (nl:=nl) (b':=b') (nl':=nl') (P:=P) (c:=c) (T0:=T0) (T1:=T1) (i:=i) (L:=L) (x:=x) all.length 0 all (by omega) (by omega) ks
  rw[ou4]at e4
  simp only[Int.natCast_zero]at e4
  have e5:=fun b nl b' nl'=>wa2 (b:=b) (nl:=nl) (b':=b') (nl':=nl') (a:=out) (c:=all.map fun x=>x*c) (by omega) (by rw[List.length_map];omega)
  obtain⟨F,e6⟩:=sk4 fun b nl b' nl'=>td8 (b:=b) (nl:=nl) (b':=b') (nl':=nl') (a:=all) (c:=[-r.1,1]) (by omega) (by simp)
  rw[show ivs (vs [-r.1,1])=[Tree.v (.int .i64 (fneg q r.1.v)),Tree.v (.int .i64 1)]from rfl]at e6
  have ih2:=ih (A++[r]) _ _ (by simpa using hA) (by simpa using hn) (by simpa using hm) (by simpa using hl) hs b nl b' nl' (nlT (addK out (all.map fun x=>x*c))) (F false na false 0) ks
  have hlt:(A.length:Int)+1<(P.length:Int):=by omega
  rw[List.length_append,List.length_singleton,Int.natCast_add,Int.natCast_one]at ih2
  rw[←ih2,sb5 c53L1.eq_def]
  simp(disch:=first|omega|fail) only[push_cast,seval,vrl,if_pos,if_neg,h1,h2,e1,e2,nb8 hat,hcv,e3,List.length_map]
  rw[e4]
  simp(disch:=first|omega|fail) only[push_cast,seval,vrl,if_pos,if_neg,e5,List.length_map,dec_lt hlt,e6]
theorem ml0(hP:P.length≤128)(hn: ¬(P.map Prod.fst).Nodup):
 o25 W 53 [.x (.int .i64 q), .fz b (.sl nl 0 1 (ivs (vs (P.map Prod.fst)))), .fz b' (.sl nl' 0 1 (ivs (vs (P.map Prod.snd))))] []=some (.tup [.own 0 [], .x (.int .i64 7)],[.sl 1 3 1 []],[]):=by
 obtain⟨A,p,Q,hA,h1,h2⟩:=nb0 P [] (by simp) (by simpa using hn)
 rw[List.nil_append]at hA
 have e2:=fun nf na ks=>oe5 (p:=p) (Q:=Q) hP A [] [] [1] (by simpa using hA.symm) (by simpa using h1) (by simpa using h2) (by have:=s88 h1;rw[List.length_map]at this;simpa using this) (ThrI.start _) b nl b' nl' nf na ks
 rw[show ivs (vs [(1:El q)])=[Tree.v (.int .i64 1)]from rfl]at e2
 simp only[rp2,lz6,List.length_nil,Int.natCast_zero]at e2
 have e1:=fun b nl b' nl'=>ce8 (b:=b) (nl:=nl) (b':=b') (nl':=nl') (a:=P.map Prod.fst) (c:=P.map Prod.snd) (by rw[List.length_map];omega) (by rw[List.length_map];omega)
 rw[o10 rfl T53 rfl]
 unfold F53 c53
 simp(disch:=first|omega|fail) only[push_cast,seval,vrl,if_pos,if_neg,e1,List.length_map]
 rw[e2]
theorem x54{X Y:List (El q)}(ha:X.length≤128)(hc:Y.length≤128)(h:X.length≠Y.length):
 o25 W 53 [.x (.int .i64 q), .fz b (.sl nl 0 1 (ivs (vs X))), .fz b' (.sl nl' 0 1 (ivs (vs Y)))] []=some (.tup [.own 0 [], .x (.int .i64 6)],[.sl 1 3 1 []],[]):=by
 have e1:=fun b nl b' nl'=>ce8 (b:=b) (nl:=nl) (b':=b') (nl':=nl') ha hc
 have hx:=fi2 X
 have hy:=fi2 Y
 have h2: ¬(X.length:Int)=(Y.length:Int):=by omega
 rw[o10 rfl T53 rfl]
 unfold F53 c53
 simp(disch:=first|omega|fail) only[push_cast,seval,vrl,if_pos,if_neg,e1,hx,hy,nb8 h2]
theorem sz2:
 ∃n,o25 W 53 [.x (.int .i64 q), .fz b (.sl nl 0 1 []), .fz b' (.sl nl' 0 1 [])] []=some (.tup [.own 0 [], .x (.int .i64 0)],[.sl n 3 1 []],[]):=by
 have e1:=fun b nl b' nl'=>ce8 (b:=b) (nl:=nl) (b':=b') (nl':=nl') (a:=([]:List (El q))) (c:=([]:List (El q))) (by simp) (by simp)
 rw[n18]at e1
 simp only[rp2,lz6]at e1
 have e2: ∀nf na ks,vgoL W ⟨h53,[.tmp 6, .tmp 7],0⟩ [0,1,2,8,12,13,41,42,43] c53L1 (.blk 0 [12]::ks) [(0, .x (.int .i64 q)),(1, .fz b (.sl nl 0 1 (ivs ([])))),(2, .fz b' (.sl nl' 0 1 (ivs ([])))),(8, .fz true (pF q)),(12, .own 0 []),(13, .own 1 []),(41, .fz b (.sl nl 0 1 (ivs ([])))),(42, .x (.int .i64 0)),(43, .x (.int .i64 0))] [.sl nf 3 1 [], .sl na 3 1 [.v (.int .i64 1)]]=vgo W ⟨h53,[.tmp 6, .tmp 7],0⟩ ks (VFr.of [(12, .own 0 [])]) [.sl nf 3 1 [], .sl na 3 1 [.v (.int .i64 1)]]:=fun nf na ks=>by
  rw[sb5 c53L1.eq_def]
  simp(disch:=first|omega|fail) only[push_cast,seval,vrl,if_pos,if_neg]
 simp only[lz6]at e2
 refine⟨1, ?_⟩
 rw[o10 rfl T53 rfl]
 unfold F53 c53
 simp(disch:=first|omega|fail) only[push_cast,seval,vrl,if_pos,if_neg,e1]
 rw[e2]
 simp(disch:=first|omega|fail) only[push_cast,seval,vrl,if_pos,if_neg]
end
section
variable {q:Int} {b b':Bool} {nl nl':Nat}
theorem ii0{xs ys:List Int}(ha:xs.length≤9223372036854775807)(hc:ys.length≤9223372036854775807)(he:tc9 q xs ys≠0):
 o25 W 53 [.x (.int .i64 q), .fz b (.sl nl 0 1 (ivs xs)), .fz b' (.sl nl' 0 1 (ivs ys))] []=some (.tup [.own 0 [], .x (.int .i64 (tc9 q xs ys))],[.sl 1 3 1 []],[]):=by
 have e1:=fun b nl b' nl'=>qh9 (q:=q) (b:=b) (nl:=nl) (b':=b') (nl':=nl') ha hc he
 rw[o10 rfl T53 rfl]
 unfold F53 c53
 simp(disch:=first|omega|fail) only[push_cast,seval,vrl,if_pos,if_neg,e1,nb8 he]
end
section
variable {K:Type} [FK K]
theorem l77(n:Nat)(f:Nat→K):ofF (n+1) f=ofF n f++[f n]:=by
 unfold ofF;rw[List.range_succ,List.map_append];rfl
theorem lg4(b:List K)(i n k:Nat)(z:List K)(h:i+k+n≤z.length):je7 0 b i n k z=z:=by
 refine ou8 (qo8 _ _ _ _ _ _) (funext fun j=> ?_)
 rw[h43 _ _ _ _ _ _ h,zero_mul,FK.add_zero]
 split<;>rfl
end
section
variable {q p m g:Int} [IsFld q] {t:Tree} {b b':Bool} {nl nl':Nat} {a c:List (El q)}
theorem p45(l:List (El q))(x:El q):vs (l++[x])=vs l++[x.v]:=by unfold vs;rw[List.map_append];rfl
theorem uj9(u:RFo q p m g t)(ha:a.length≤128)(hc:c.length≤128): ∀(d i:Nat),i+d=max a.length c.length→ ∀ks,
 vgoL W ⟨h8,[.tmp 6],0⟩ [1,2,3,7,8] c8L0 (.blk 0 [7]::ks) [(1, .fz b (.sl nl 0 1 (ivs (vs a)))),(2, .fz b' (.sl nl' 0 1 (ivs (vs c)))),(3, .own 0 []),(7, .own 1 []),(8, .x (.int .i64 i))] [.pt 26 [.v (.int .i64 q), .v (.int .i64 p), .v (.int .i64 m), .v (.int .i64 g), .fz t], .sl 1 3 1 (ivs (vs (ofF i fun k=>wf a k+wf c k)))]=
  vgo W ⟨h8,[.tmp 6],0⟩ ks (VFr.of [(7, .own 1 [])]) [.pt 26 [.v (.int .i64 q), .v (.int .i64 p), .v (.int .i64 m), .v (.int .i64 g), .fz t], .sl 1 3 1 (ivs (vs (ofF (max a.length c.length) fun k=>wf a k+wf c k)))]
 |0,i,hi,ks=>by
  obtain rfl:i=max a.length c.length:=by omega
  have h1: ¬((max a.length c.length:Nat):Int)<(a.length:Int):=by omega
  have h2: ¬((max a.length c.length:Nat):Int)<(c.length:Int):=by omega
  rw[sb5 c8L0.eq_def]
  generalize max a.length c.length=M at*
  simp(disch:=first|omega|fail) only[push_cast,seval,vrl,if_pos,if_neg,cw6 (Int.not_lt.1 h1),cw6 (Int.not_lt.1 h2)]
 |d+1,i,hi,ks=>by
  have ih:=uj9 u ha hc d (i+1) (by omega) ks
  have hlen:=gh0 i fun k=>wf a k+wf c k
  have hi2:i≤300:=by omega
  have ht:=u.n
  have ho:=u.o
  have vadd:=fun x y:Int=>ze0 (q:=q) (x:=x) (y:=y)
  rw[u.e]at vadd
  rw[l77,p45,on0,Int.natCast_add,Int.natCast_one]at ih
  rw[←ih,sb5 c8L0.eq_def]
  generalize ofF i (fun k=>wf a k+wf c k)=Z at*
  by_cases h1:i<a.length
  ·have g1:=iva (l:=a) (i:=i) h1
   have d1:(i:Int)<(a.length:Int):=by omega
   by_cases h2:i<c.length
   ·have g2:=iva (l:=c) (i:=i) h2
    have d2:(i:Int)<(c.length:Int):=by omega
    simp(disch:=first|omega|fail) only[push_cast,seval,vrl,if_pos,if_neg,dec_lt d1,dec_lt d2,g1,g2,ht,ho,vadd,hlen]
   ·have d2: ¬(i:Int)<(c.length:Int):=by omega
    rw[ez8 (l:=c) (by omega),hc8]
    simp(disch:=first|omega|fail) only[push_cast,seval,vrl,if_pos,if_neg,dec_lt d1,cw6 (Int.not_lt.1 d2),g1,ht,ho,vadd,hlen]
  ·have h2:i<c.length:=by omega
   have d1: ¬(i:Int)<(a.length:Int):=by omega
   have g2:=iva (l:=c) (i:=i) h2
   have d2:(i:Int)<(c.length:Int):=by omega
   rw[ez8 (l:=a) (by omega),hc8]
   simp(disch:=first|omega|fail) only[push_cast,seval,vrl,if_pos,if_neg,cw6 (Int.not_lt.1 d1),dec_lt d2,g2,ht,ho,vadd,hlen]
theorem bw2(ha:a.length≤128)(hc:c.length≤128):
 o25 W 8 [.agg (rFs q), .fz b (.sl nl 0 1 (ivs (vs a))), .fz b' (.sl nl' 0 1 (ivs (vs c)))] []=some (.own 0 [],[.sl 0 3 1 (ivs (vs (addK a c)))],[]):=by
 obtain⟨p,m,g,t,u⟩:=k75 q
 have e:=fun ks=>uj9 (b:=b) (nl:=nl) (b':=b') (nl':=nl') u ha hc (max a.length c.length) 0 (by omega) ks
 have e2:=fun b nl=>nf6 (b:=b) (nl:=nl) (a:=ofF (max a.length c.length) fun k=>wf a k+wf c k) (by rw[gh0];omega)
 rw[show xa4 (ofF (max a.length c.length) fun k=>wf a k+wf c k)=addK a c from rfl]at e2
 rw[show vs (ofF 0 fun k=>wf a k+wf c k)=[]from rfl]at e
 simp only[Int.natCast_zero,lz6]at e
 have hlen:=gh0 (max a.length c.length) fun k=>wf a k+wf c k
 generalize ofF (max a.length c.length) (fun k=>wf a k+wf c k)=Z at*
 have ht:=u.n
 rw[o10 rfl T8 rfl,u.e]
 unfold F8 c8
 simp(disch:=first|omega|fail) only[push_cast,seval,vrl,if_pos,if_neg,ht]
 rw[e]
 simp(disch:=first|omega|fail) only[push_cast,seval,vrl,if_pos,if_neg,e2]
theorem ww7(u:RFo q p m g t)(ha:a.length≤128)(hc:c.length≤128){i:Nat}(hi:i<a.length)(h0:wf a i≠0){na nc:Nat}: ∀(n k:Nat) (z:List (El q)),k+n=c.length→a.length+c.length≤z.length+1→z.length≤1000→ ∀ks,
 vgoL W ⟨h9,[.tmp 6],0⟩ [1,2,3,7,8,9] c9L0 (.blk 2 [1,2,3,7,8]::ks) [(1, .own 0 []),(2, .own 1 []),(3, .own 2 []),(7, .own 3 []),(8, .x (.int .i64 i)),(9, .x (.int .i64 k))] [.sl na 3 1 (ivs (vs a)), .sl nc 3 1 (ivs (vs c)), .pt 26 [.v (.int .i64 q), .v (.int .i64 p), .v (.int .i64 m), .v (.int .i64 g), .fz t], .sl 0 3 1 (ivs (vs z))]=
  vgo W ⟨h9,[.tmp 6],0⟩ ks (VFr.of [(1, .own 0 []),(2, .own 1 []),(3, .own 2 []),(7, .own 3 []),(8, .x (.int .i64 i))]) [.sl na 3 1 (ivs (vs a)), .sl nc 3 1 (ivs (vs c)), .pt 26 [.v (.int .i64 q), .v (.int .i64 p), .v (.int .i64 m), .v (.int .i64 g), .fz t], .sl 0 3 1 (ivs (vs (je7 (wf a i) c i n k z)))]
 |0,k,z,hk,hz,hz2,ks=>by
  rw[je7,sb5 c9L0.eq_def]
  simp(disch:=first|omega|fail) only[push_cast,seval,vrl,if_pos,if_neg]
 |n+1,k,z,hk,hz,hz2,ks=>by
  have ih:=ww7 u ha hc hi h0 (na:=na) (nc:=nc) n (k+1) (z.set (i+k) (wf z (i+k)+wf a i*wf c k)) (by omega) (by rw[List.length_set];exact hz) (by rw[List.length_set];exact hz2) ks
  have g1:=iva (l:=a) (i:=i) hi
  have g2:=iva (l:=c) (i:=k) (by omega)
  have g3:=iva (l:=z) (i:=i+k) (by omega)
  have w1:IntKind.wrap .i64 ((i:Int)+(k:Int))=((i+k:Nat):Int):=by rw[wrap64 (by omega) (by omega)];omega
  have hne: ¬(wf a i).v=0:=fun e=>h0 (El.ext' e)
  have hlt:(k:Int)<(c.length:Int):=by omega
  have ht:=u.n
  have ho:=u.o
  have vmul:=fun x y:Int=>n06 (q:=q) (x:=x) (y:=y)
  rw[u.e]at vmul
  have vadd:=fun x y:Int=>ze0 (q:=q) (x:=x) (y:=y)
  rw[u.e]at vadd
  rw[Int.natCast_add,Int.natCast_one,←g52,on0,ym6]at ih
  rw[je7,←ih,sb5 c9L0.eq_def]
  generalize hG:i+k=ik at*
  simp(disch:=first|omega|fail) only[push_cast,seval,vrl,if_pos,if_neg,dec_lt hlt,g1,g2,g3,w1,nb8 hne,ht,ho,vmul,vadd]
theorem hb3(u:RFo q p m g t)(ha:a.length≤128)(hc:c.length≤128){na nc:Nat}: ∀(n i:Nat) (z:List (El q)),i+n=a.length→a.length+c.length≤z.length+1→z.length≤1000→ ∀ks,
 vgoL W ⟨h9,[.tmp 6],0⟩ [1,2,3,7,8] c9L1 (.blk 0 [7]::ks) [(1, .own 0 []),(2, .own 1 []),(3, .own 2 []),(7, .own 3 []),(8, .x (.int .i64 i))] [.sl na 3 1 (ivs (vs a)), .sl nc 3 1 (ivs (vs c)), .pt 26 [.v (.int .i64 q), .v (.int .i64 p), .v (.int .i64 m), .v (.int .i64 g), .fz t], .sl 0 3 1 (ivs (vs z))]=
  vgo W ⟨h9,[.tmp 6],0⟩ ks (VFr.of [(7, .own 3 [])]) [.sl na 3 1 (ivs (vs a)), .sl nc 3 1 (ivs (vs c)), .pt 26 [.v (.int .i64 q), .v (.int .i64 p), .v (.int .i64 m), .v (.int .i64 g), .fz t], .sl 0 3 1 (ivs (vs (yc0 a c n i z)))]
 |0,i,z,hi,hz,hz2,ks=>by
  rw[yc0,sb5 c9L1.eq_def]
  simp(disch:=first|omega|fail) only[push_cast,seval,vrl,if_pos,if_neg]
 |n+1,i,z,hi,hz,hz2,ks=>by
  have ih:=hb3 u ha hc (na:=na) (nc:=nc) n (i+1) (je7 (wf a i) c i c.length 0 z) (by omega) (by rw[qo8];exact hz) (by rw[qo8];exact hz2) ks
  have hlt:(i:Int)<(a.length:Int):=by omega
  rw[Int.natCast_add,Int.natCast_one]at ih
  rw[yc0,←ih,sb5 c9L1.eq_def]
  by_cases h0:wf a i=0
  ·have g1:=iva (l:=a) (i:=i) (by omega)
   rw[h0,hc8]at g1
   have e: ∀ks,vgoL W ⟨h9,[.tmp 6],0⟩ [1,2,3,7,8,9] c9L0 (.blk 2 [1,2,3,7,8]::ks) [(1, .own 0 []),(2, .own 1 []),(3, .own 2 []),(7, .own 3 []),(8, .x (.int .i64 i)),(9, .x (.int .i64 0))] [.sl na 3 1 (ivs (vs a)), .sl nc 3 1 (ivs (vs c)), .pt 26 [.v (.int .i64 q), .v (.int .i64 p), .v (.int .i64 m), .v (.int .i64 g), .fz t], .sl 0 3 1 (ivs (vs z))]=vgo W ⟨h9,[.tmp 6],0⟩ ks (VFr.of [(1, .own 0 []),(2, .own 1 []),(3, .own 2 []),(7, .own 3 []),(8, .x (.int .i64 i))]) [.sl na 3 1 (ivs (vs a)), .sl nc 3 1 (ivs (vs c)), .pt 26 [.v (.int .i64 q), .v (.int .i64 p), .v (.int .i64 m), .v (.int .i64 g), .fz t], .sl 0 3 1 (ivs (vs z))]:=fun ks=>by
    rw[sb5 c9L0.eq_def]
    by_cases hc0:(0:Int)<(c.length:Int)
    ·simp(disch:=first|omega|fail) only[push_cast,seval,vrl,if_pos,if_neg,dec_lt hc0,g1]
    ·simp(disch:=first|omega|fail) only[push_cast,seval,vrl,if_pos,if_neg,cw6 (Int.not_lt.1 hc0),g1]
   rw[h0,lg4 _ _ _ _ _ (by omega)]
   simp(disch:=first|omega|fail) only[push_cast,seval,vrl,if_pos,if_neg,dec_lt hlt]
   rw[e]
   simp(disch:=first|omega|fail) only[push_cast,seval,vrl,if_pos,if_neg]
  ·have e:=fun ks=>ww7 u ha hc (i:=i) (by omega) h0 (na:=na) (nc:=nc) c.length 0 z (by omega) hz hz2 ks
   simp only[Int.natCast_zero]at e
   simp(disch:=first|omega|fail) only[push_cast,seval,vrl,if_pos,if_neg,dec_lt hlt]
   rw[e]
   simp(disch:=first|omega|fail) only[push_cast,seval,vrl,if_pos,if_neg]
theorem e53(ha:a.length≤128)(hc:c.length≤128):
 ∃n,o25 W 9 [.agg (rFs q), .fz b (.sl nl 0 1 (ivs (vs a))), .fz b' (.sl nl' 0 1 (ivs (vs c)))] []=some (.own 0 [],[.sl n 3 1 (ivs (vs (mulK a c)))],[]):=by
 obtain⟨p,m,g,t,u⟩:=k75 q
 have e1:=fun b nl=>nf6 (b:=b) (nl:=nl) (a:=a) (by omega)
 have e2:=fun b nl=>nf6 (b:=b) (nl:=nl) (a:=c) (by omega)
 have la:=tb1 a
 have lc:=tb1 c
 have ht:=u.n
 rw[←u69]
 generalize xa4 a=A at*
 generalize xa4 c=C at*
 by_cases hA:A.length=0
 ·refine⟨1, ?_⟩
  have hA':(A.length:Int)=0:=by omega
  rw[hz3 (.inl hA),o10 rfl T9 rfl,u.e]
  unfold F9 c9
  simp(disch:=first|omega|fail) only[push_cast,seval,vrl,if_pos,if_neg,ht,e1,e2,mr8 hA']
  rfl
 ·have hA': ¬(A.length:Int)=0:=by omega
  by_cases hC:C.length=0
  ·refine⟨1, ?_⟩
   have hC':(C.length:Int)=0:=by omega
   rw[hz3 (.inr hC),o10 rfl T9 rfl,u.e]
   unfold F9 c9
   simp(disch:=first|omega|fail) only[push_cast,seval,vrl,if_pos,if_neg,ht,e1,e2,nb8 hA',mr8 hC']
   rfl
  ·have hC': ¬(C.length:Int)=0:=by omega
   refine⟨0, ?_⟩
   have e:=fun ks=>hb3 u (a:=A) (c:=C) (by omega) (by omega) (na:=0) (nc:=0) A.length 0 (List.replicate (A.length+C.length-1) 0) (by omega) (by simp;omega) (by simp;omega) ks
   have hlen:=th9 A C A.length 0 (List.replicate (A.length+C.length-1) 0)
   rw[List.length_replicate]at hlen
   have e3:=fun b nl=>nf6 (b:=b) (nl:=nl) (a:=yc0 A C A.length 0 (List.replicate (A.length+C.length-1) 0)) (by omega)
   rw[cf5 hA hC]at e3
   have hz:List.replicate (A.length+C.length-1) (0:Int)=vs (List.replicate (A.length+C.length-1) (0:El q)):=by rw[←qj2];rfl
   have w1:IntKind.wrap .i64 ((A.length:Int)+(C.length:Int)-1)=((A.length+C.length-1:Nat):Int):=by rw[wrap64 (by omega) (by omega)];omega
   have hN:A.length+C.length-1≤300:=by omega
   simp only[Int.natCast_zero]at e
   generalize yc0 A C A.length 0 (List.replicate (A.length+C.length-1) 0)=Z at*
   generalize A.length+C.length-1=N at*
   rw[o10 rfl T9 rfl,u.e]
   unfold F9 c9
   simp(disch:=first|omega|fail) only[push_cast,seval,vrl,if_pos,if_neg,ht,e1,e2,nb8 hA',nb8 hC',w1,hz]
   rw[e]
   simp(disch:=first|omega|fail) only[push_cast,seval,vrl,if_pos,if_neg,e3]
theorem kz7(u:RFo q p m g t){x:El q}{na:Nat}: ∀(n k:Nat) (z:List (El q)),k+n=z.length→z.length≤1000→ ∀ks,
 vgoL W ⟨h33,[.tmp 4],0⟩ [1,2,5,6] c33L0 (.blk 0 [1]::ks) [(1, .own 0 []),(2, .own 1 []),(5, .x (.int .i64 x.v)),(6, .x (.int .i64 k))] [.sl na 3 1 (ivs (vs z)), .pt 26 [.v (.int .i64 q), .v (.int .i64 p), .v (.int .i64 m), .v (.int .i64 g), .fz t]]=
  vgo W ⟨h33,[.tmp 4],0⟩ ks (VFr.of [(1, .own 0 [])]) [.sl na 3 1 (ivs (vs (scT x n k z))), .pt 26 [.v (.int .i64 q), .v (.int .i64 p), .v (.int .i64 m), .v (.int .i64 g), .fz t]]
 |0,k,z,hk,hz,ks=>by
  rw[scT,sb5 c33L0.eq_def]
  simp(disch:=first|omega|fail) only[push_cast,seval,vrl,if_pos,if_neg]
 |n+1,k,z,hk,hz,ks=>by
  have ih:=kz7 u (x:=x) (na:=na) n (k+1) (z.set k (wf z k*x)) (by rw[List.length_set];omega) (by rw[List.length_set];exact hz) ks
  have h1:=iva (l:=z) (i:=k) (by omega)
  have ht:=u.n
  have ho:=u.o
  have vmul:=fun x y:Int=>n06 (q:=q) (x:=x) (y:=y)
  rw[u.e]at vmul
  rw[Int.natCast_add,Int.natCast_one,←g52,ym6]at ih
  rw[scT,←ih,sb5 c33L0.eq_def]
  simp(disch:=first|omega|fail) only[push_cast,seval,vrl,if_pos,if_neg,h1,ht,ho,vmul]
theorem ge0(ha:a.length≤500): ∃n,o25 W 33 [.agg (rFs q), .fz b (.sl nl 0 1 (ivs (vs a)))] []=some (.own 0 [],[.sl n 3 1 (ivs (vs (monK (xa4 a))))],[]):=by
 obtain⟨p,m,g,t,u⟩:=k75 q
 have e1:=fun b nl=>nf6 (b:=b) (nl:=nl) (a:=a) (by omega)
 have la:=tb1 a
 have htr:=t12 a
 have ht:=u.n
 have ho:=u.o
 generalize xa4 a=A at*
 by_cases h0:A=[]
 ·subst h0
  refine⟨1, ?_⟩
  rw[o10 rfl T33 rfl,u.e]
  unfold F33 c33
  simp(disch:=first|omega|fail) only[push_cast,seval,vrl,if_pos,if_neg,ht,e1]
  rfl
 ·refine⟨0, ?_⟩
  have hp:0<A.length:=List.length_pos_iff.2 h0
  have hlast:wf A (A.length-1)≠0:=htr (by omega)
  have l1:=iva (l:=A) (i:=A.length-1) (by omega)
  have w1:IntKind.wrap .i64 ((A.length:Int)-1)=((A.length-1:Nat):Int):=by rw[wrap64 (by omega) (by omega)];omega
  have hinv:=rl7 hlast
  have e:=fun ks=>kz7 u (x:=FK.inv (wf A (A.length-1))) (na:=0) A.length 0 A (by omega) (by omega) ks
  rw[ou4]at e
  simp only[Int.natCast_zero]at e
  have hz: ¬(A.length:Int)=0:=by omega
  have ht:=u.n
  have ho:=u.o
  have vinv:=fun x:Int=>dy2 (q:=q) (x:=x)
  rw[u.e]at vinv
  unfold monK
  rw[hinv]at e
  generalize hG:A.length-1=a1 at*
  rw[o10 rfl T33 rfl,u.e]
  unfold F33 c33
  simp(disch:=first|omega|fail) only[push_cast,seval,vrl,if_pos,if_neg,ht,ho,e1,nb8 hz,w1,l1,vinv]
  rw[e]
  simp(disch:=first|omega|fail) only[push_cast,seval,vrl,if_pos,if_neg]
theorem rt7(u:RFo q p m g t): ∀(n:Nat) (a c:List (El q)),Trm a→Trm c→c.length≤n→a.length≤300→c.length≤300→ ∃T0,∀ks,
 vgoL W ⟨hNo,[.tmp 6],0⟩ [1,2,3] c10L0 (.blk 0 [1,3]::ks) [(1, .own 0 []),(2, .own 1 []),(3, .own 2 [])] [.sl 0 3 1 (ivs (vs a)), .sl 0 3 1 (ivs (vs c)), .pt 26 [.v (.int .i64 q), .v (.int .i64 p), .v (.int .i64 m), .v (.int .i64 g), .fz t]]=
  vgo W ⟨hNo,[.tmp 6],0⟩ ks (VFr.of [(1, .own 0 []),(3, .own 2 [])]) [.sl 0 3 1 (ivs (vs (gcdT n a c))),T0, .pt 26 [.v (.int .i64 q), .v (.int .i64 p), .v (.int .i64 m), .v (.int .i64 g), .fz t]]
 |0,a,c,ha,hc,hn,h1,h2=>by
  obtain rfl:c=[]:=List.eq_nil_of_length_eq_zero (by omega)
  refine⟨.sl 0 3 1 [],fun ks=> ?_⟩
  rw[gcdT,sb5 c10L0.eq_def]
  simp(disch:=first|omega|fail) only[push_cast,seval,vrl,if_pos,if_neg,rp2,lz6]
 |n+1,a,c,ha,hc,hn,h1,h2=>by
  rw[gcdT]
  by_cases h0:c=[]
  ·subst h0
   refine⟨.sl 0 3 1 [],fun ks=> ?_⟩
   rw[if_pos rfl,sb5 c10L0.eq_def]
   simp(disch:=first|omega|fail) only[push_cast,seval,vrl,if_pos,if_neg,rp2,lz6]
  ·obtain⟨r1,r2⟩:=z47 (a:=a) hc h0
   have hp:0<c.length:=List.length_pos_iff.2 h0
   have e1:=fun b nl b' nl'=>jr0 (b:=b) (nl:=nl) (b':=b') (nl':=nl') (a0:=a) hc h0 (by omega) (by omega)
   simp only[ou7 ha]at e1
   rw[u.e]at e1
   have ht:=u.n
   have ho:=u.o
   obtain⟨T0,ih⟩:=rt7 u n c (remP a c) hc r1 (by omega) h2 (by omega)
   have hpc:(0:Int)<(c.length:Int):=by omega
   refine⟨T0,fun ks=> ?_⟩
   rw[if_neg h0,←ih ks,sb5 c10L0.eq_def]
   simp(disch:=first|omega|fail) only[push_cast,seval,vrl,if_pos,if_neg,dec_lt hpc,ht,ho,e1]
theorem rf3(ha:a.length≤128)(hc:c.length≤128):
 ∃n,o25 W 10 [.agg (rFs q), .fz b (.sl nl 0 1 (ivs (vs a))), .fz b' (.sl nl' 0 1 (ivs (vs c)))] []=some (.own 0 [],[.sl n 3 1 (ivs (vs (gcdK a c)))],[]):=by
 obtain⟨p,m,g,t,u⟩:=k75 q
 have e1:=fun b nl=>nf6 (b:=b) (nl:=nl) (a:=a) (by omega)
 have e2:=fun b nl=>nf6 (b:=b) (nl:=nl) (a:=c) (by omega)
 have la:=tb1 a
 have lc:=tb1 c
 obtain⟨T0,e⟩:=rt7 u (xa4 c).length (xa4 a) (xa4 c) (t12 a) (t12 c) (Nat.le_refl _) (by omega) (by omega)
 have htr:=hn3 (xa4 c).length (t12 a) (t12 c)
 have hlen:=vc6 (xa4 c).length (N:=128) (t12 c) (show(xa4 a).length≤128 by omega) (by omega)
 have ht:=u.n
 have ho:=u.o
 unfold gcdK
 generalize gcdT (xa4 c).length (xa4 a) (xa4 c)=G at*
 obtain⟨n,e3⟩:=ge0 (q:=q) (b:=false) (nl:=0) (a:=G) (by omega)
 rw[ou7 htr,u.e]at e3
 refine⟨n, ?_⟩
 rw[o10 rfl T10 rfl,u.e]
 unfold F10 c10
 simp(disch:=first|omega|fail) only[push_cast,seval,vrl,if_pos,if_neg,ht,e1,e2]
 rw[e]
 simp(disch:=first|omega|fail) only[push_cast,seval,vrl,if_pos,if_neg,ht,ho,e3]
end
section
variable {q p m g:Int} [IsFld q] {t:Tree} {b b' b2:Bool} {nl nl' nl2:Nat} {X Y:List (El q)} {r:Int} {K:Nat}
end
section
variable {q:Int} {b b':Bool} {nl nl':Nat} {xs w:List Int} {k r:Int}
end
end Go.Proofs.YtoglhlonhmmieaaGreat
namespace Go.Alg
section
variable {α β:Type}
variable [DecidableEq α]
end
end Go.Alg
namespace Go.Proofs.YtoglhlonhmmieaaGreat
open Go.Am Go.Vm Go.Alg
theorem my7{p:Nat}: ∀{l l':List Int},digS p l→digS p l'→l.length=l'.length→valS p l=valS p l'→l=l'
 | [],[],_,_,_,_=>rfl
 |a::l,b::l',h,h',hl,hv=>by
  have hl':l.length=l'.length:=by simpa using hl
  have h1:=uc1 (l:=l) fun c hc=>h c (by simp[hc])
  have h2:=uc1 (l:=l') fun c hc=>h' c (by simp[hc])
  have h3:=h a (by simp)
  have h4:=h' b (by simp)
  rw[valS,valS,←hl']at hv
  rw[←hl']at h2
  generalize p^l.length=M at*
  have e:a.toNat=b.toNat:=by
   rcases Nat.lt_trichotomy a.toNat b.toNat with h5|h5|h5
   ·have h6:(a.toNat+1)*M≤b.toNat*M:=Nat.mul_le_mul_right _ h5
    rw[Nat.add_mul]at h6;omega
   ·exact h5
   ·have h6:(b.toNat+1)*M≤a.toNat*M:=Nat.mul_le_mul_right _ h5
    rw[Nat.add_mul]at h6;omega
  rw[e]at hv
  rw[my7 (fun c hc=>h c (by simp[hc])) (fun c hc=>h' c (by simp[hc])) hl' (by omega),show a=b by omega]
section
variable {q:Int} [IsFld q] {p:Nat} {P:List (El q×El q)} {r:Int}
end
section
variable {q:Int} [IsFld q]
structure Mon (y:List (El q)):Prop where
 ne:y≠[]
 top:wf y (y.length-1)=1
theorem Mon.trm{y:List (El q)}(h:Mon y):Trm y:=fun _=>by rw[h.top];exact ki7
theorem Mon.pos{y:List (El q)}(h:Mon y):0<y.length:=List.length_pos_iff.2 h.ne
theorem u94:Mon ([1]:List (El q)):=⟨by simp,rfl⟩
def Dv(y a:List (El q)):Prop:= ∃c:List (El q),Trm c∧c≠[]∧mulK c y=a
theorem oz6{c:El q}{f h:Nat→El q}{k:Nat}:disc (fun i=>c*f i) h k=c*disc f h k:=ks7
theorem g81{F h:Nat→El q}{k:Nat}:disc (fun i=>match i with|0=>(0:El q)|i+1=>F i) h k=match k with|0=>0|k+1=>disc F h k:=by
 refine(o59 0 F h k).trans ?_
 rw[zero_mul,zero_add]
 cases k<;>rfl
theorem hi9(g h:Nat→El q): ∀(a:List (El q)) (k:Nat),disc (fun i=>disc (wf a) g i) h k=disc (wf a) (fun i=>disc g h i) k
 | [],k=>by
   rw[qt9,tt8,show(fun i=>disc (fun _=>(0:El q)) g i)=fun _=>0 from funext fun i=>tt8 _ _,tt8]
 |c::l,k=>by
  have ih:=hi9 g h l
  have e:(fun i=>disc (wf (c::l)) g i)=fun i=>c*g i+(match i with|0=>(0:El q)|i+1=>disc (wf l) g i):=funext fun i=>by
   rw[iu6]
   refine(o59 c (wf l) g i).trans ?_
   cases i<;>rfl
  rw[e,bf5,oz6,g81,iu6,o59]
  congr 1
  cases k with
  |zero=>rfl
  |succ k=>exact ih k
theorem w11(a b c:List (El q)):mulK (mulK a b) c=mulK a (mulK b c):=by
 refine lz5 (ho7 _ _) (ho7 _ _) ?_
 rw[zu9,zu9,zu9,zu9]
 funext k
 exact hi9 _ _ _ k
theorem kj1{a:List (El q)}(ha:Trm a):mulK [1] a=a:=by
 refine lz5 (ho7 _ _) ha ?_
 rw[zu9,iu6]
 funext k
 rw[o59,FK.mul_comm,FK.mul_one]
 cases k with
 |zero=>exact FK.add_zero _
 |succ k=>show _+disc (wf []) _ k=_;rw[qt9,tt8,FK.add_zero]
theorem cm4{a b:List (El q)}(ha:Trm a)(hb:Trm b)(h1:a≠[])(h2:b≠[]):mulK a b≠[]:=fun e=>by
 have:=lk3 ha hb h1 h2
 have p1:=List.length_pos_iff.2 h1
 have p2:=List.length_pos_iff.2 h2
 rw[e,List.length_nil]at this
 omega
theorem zp4{a b:List (El q)}(ha:Trm a)(hb:Trm b)(h1:a≠[])(h2:b≠[]):wf (mulK a b) ((mulK a b).length-1)=wf a (a.length-1)*wf b (b.length-1):=by
 have p1:=List.length_pos_iff.2 h1
 have p2:=List.length_pos_iff.2 h2
 rw[lk3 ha hb h1 h2,zu9,show a.length+b.length-1-1=(a.length-1)+(b.length-1) by omega]
 exact b30 (fun i hi=>ez8 (by omega)) (fun i hi=>ez8 (by omega))
theorem Mon.quo{c y:List (El q)}(hc:Trm c)(h0:c≠[])(hy:Mon y)(h:Mon (mulK c y)):Mon c:=by
 refine⟨h0, ?_⟩
 have h1:=zp4 hc hy.trm h0 hy.ne
 rw[h.top,hy.top,FK.mul_one]at h1
 exact h1.symm
theorem Dv.trans{x y a:List (El q)}(hx:Trm x)(hx0:x≠[])(h:Dv x y)(g:Dv y a):Dv x a:=by
 obtain⟨c,c1,c2,rfl⟩:=h
 obtain⟨d,d1,d2,rfl⟩:=g
 exact⟨mulK d c,ho7 _ _,cm4 d1 c1 d2 c2,w11 d c x⟩
theorem fu2{c d y:List (El q)}(hc:Trm c)(hd:Trm d)(hy:Trm y)(hy0:y≠[])(h:mulK c y=mulK d y):c=d:=by
 refine lz5 hc hd (pe7 (n:=max c.length d.length) (m:=y.length) (h:=wf y) (fun k hk=>ez8 (by omega)) (fun k hk=>ez8 (by omega)) (fun k hk=>ez8 hk) (fun e=> ?_) ?_)
 ·exact hy (by have:=List.length_pos_iff.2 hy0;omega) (congrFun e _)
 ·rw[←zu9,←zu9,h]
theorem dv6{a y:List (El q)}(ha:Trm a)(ha0:a≠[])(hy:Trm y)(hy0:y≠[]):(remP a y=[]→mulK (quoP a y) y=a∧Trm (quoP a y)∧quoP a y≠[])∧(Dv y a→remP a y=[]):=by
 have h:=h79 (a:=a) hy hy0
 refine⟨fun h0=> ?_,fun⟨c,c1,c2,c3⟩=> ?_⟩
 ·have e:mulK (quoP a y) y=a:=lz5 (ho7 _ _) ha (by
   rw[zu9]
   funext k
   have:=h.eq k
   rw[h0,qt9,FK.add_zero]at this
   exact this.symm)
  refine⟨e,h.q,fun e0=>ha0 ?_⟩
  rw[←e,e0,hz3 (.inl rfl)]
 ·exact(div_eq hy (IsDiv.of_mul hy hy0 (Q:=c) (by rw[←c3,zu9]))).2
def dN(y:List (El q)):Nat:=valS q.toNat (vs y.dropLast)
def Le(x y:List (El q)):Prop:=x.length<y.length∨(x.length=y.length∧dN x≤dN y)
theorem bf6:(q.toNat:Int)=q:=Int.toNat_of_nonneg (by have:=aw0 (q:=q);omega)
theorem k85{y:List (El q)}(h:Mon y):y.dropLast++[1]=y:=by
 have h1:y.getLast h.ne=1:=by
  have:=h.top
  rw[i67 (by have:=h.pos;omega)]at this
  rw[List.getLast_eq_getElem];exact this
 have:=List.dropLast_concat_getLast h.ne
 rwa [h1]at this
theorem yv4(z:List (El q)):Mon (z++[1]):=⟨by simp,by
 rw[i67 (by simp)];simp⟩
theorem f87{x y:List (El q)}(hx:Mon x)(hy:Mon y)(hl:x.length=y.length)(h:dN x=dN y):x=y:=by
 have e:=my7 (p:=q.toNat) (l:=vs x.dropLast) (l':=vs y.dropLast) (by rw[bf6];exact oa6 _) (by rw[bf6];exact oa6 _) (by rw[fi2,fi2,List.length_dropLast,List.length_dropLast,hl]) h
 rw[←k85 hx,←k85 hy,qa5 e]
theorem Le.anti{x y:List (El q)}(hx:Mon x)(hy:Mon y)(h:Le x y)(g:Le y x):x=y:=by
 unfold Le at h g
 exact f87 hx hy (by omega) (by omega)
theorem sf1(y:List (El q)):dN y<q.toNat^(y.length-1):=by
 have:=uc1 (q:=q.toNat) (l:=vs y.dropLast) (by rw[bf6];exact oa6 _)
 unfold dN
 rwa [fi2,List.length_dropLast]at this
inductive Fac:List (El q)→List (List (El q))→Prop
 |one:Fac [1] []
 |cons {c p:List (El q)} {L:List (List (El q))}:Mon p→2≤p.length→(∀y,Mon y→2≤y.length→Dv y (mulK c p)→Le p y)→Mon c→Fac c L→Fac (mulK c p) (p::L)
theorem Fac.uniq{a:List (El q)}{L L':List (List (El q))}(h:Fac a L):Fac a L'→L=L':=by
 induction h generalizing L' with
 |one=>
  intro g
  generalize ha:([1]:List (El q))=a at g
  cases g with
  |one=>rfl
  | @cons c p L h1 h2 h3 h4 h5=>
    have:=lk3 h4.trm h1.trm h4.ne h1.ne
    have:=h4.pos
    rw[←ha,List.length_singleton]at*
    omega
 | @cons c p L h1 h2 h3 h4 h5 ih=>
   intro g
   generalize ha:mulK c p=a at g
   cases g with
   |one=>
    have e:=lk3 h4.trm h1.trm h4.ne h1.ne
    have:=h4.pos
    rw[ha,List.length_singleton]at e
    omega
   | @cons c' p' L' g1 g2 g3 g4 g5=>
     have e1:Le p p':=h3 p' g1 g2 (by rw[ha];exact⟨c',g4.trm,g4.ne,rfl⟩)
     have e2:Le p' p:=g3 p h1 h2 (by rw[←ha];exact⟨c,h4.trm,h4.ne,rfl⟩)
     obtain rfl:=Le.anti h1 g1 e1 e2
     obtain rfl:=fu2 h4.trm g4.trm h1.trm h1.ne ha
     rw[ih g5]
theorem Fac.sorted{a:List (El q)}{L:List (List (El q))}(h:Fac a L):(∀x∈L,Mon x∧2≤x.length∧Dv x a)∧L.Pairwise Le:=by
 induction h with
 |one=>exact⟨fun x hx=>(by cases hx), .nil⟩
 | @cons c p L h1 h2 h3 h4 h5 ih=>
   have hd: ∀x∈L,Mon x∧2≤x.length∧Dv x (mulK c p):=fun x hx=>by
    obtain⟨i1,i2,i3⟩:=ih.1 x hx
    refine⟨i1,i2,i3.trans i1.trm i1.ne ⟨p,h1.trm,h1.ne,w46 _ _⟩⟩
   refine⟨fun x hx=> ?_,List.pairwise_cons.2 ⟨fun x hx=> ?_,ih.2⟩⟩
   ·rcases List.mem_cons.1 hx with rfl|hx
    ·exact⟨h1,h2,c,h4.trm,h4.ne,rfl⟩
    ·exact hd x hx
   ·obtain⟨i1,i2,i3⟩:=hd x hx
    exact h3 x i1 i2 i3
theorem Fac.len{a:List (El q)}{L:List (List (El q))}(h:Fac a L):L.length+1≤a.length:=by
 induction h with
 |one=>simp
 | @cons c p L h1 h2 h3 h4 h5 ih=>
   have:=lk3 h4.trm h1.trm h4.ne h1.ne
   rw[List.length_cons];omega
def FacS(a0:List (El q))(out:List (List (El q)))(a:List (El q)):Prop:= ∀L,Fac a L→Fac a0 (out++L)
theorem FacS.start(a:List (El q)):FacS a [] a:=fun L h=>h
def Low(d v:Nat)(a:List (El q)):Prop:= ∀y:List (El q),Mon y→2≤y.length→Dv y a→d+1<y.length∨(y.length=d+1∧v≤dN y)
theorem Low.start(a:List (El q)):Low 1 0 a:=fun y _ h _=>by omega
theorem Low.skip{d:Nat}{z a:List (El q)}(hz:z.length=d)(h:Low d (valS q.toNat (vs z)) a)(hn: ¬Dv (z++[1]) a):Low d (valS q.toNat (vs z)+1) a:=fun y h1 h2 h3=>by
 rcases h y h1 h2 h3 with e|⟨e1,e2⟩
 ·exact .inl e
 ·refine .inr ⟨e1, ?_⟩
  refine Classical.byContradiction fun hc=>hn ?_
  have hd:dN (z++[1])=valS q.toNat (vs z):=by unfold dN;rw[List.dropLast_concat]
  rw[f87 (yv4 z) h1 (by simp;omega) (by omega)]
  exact h3
theorem Low.next{d v:Nat}{a:List (El q)}(h:Low d v a)(hv:v=q.toNat^d):Low (d+1) 0 a:=fun y h1 h2 h3=>by
 rcases h y h1 h2 h3 with e|⟨e1,e2⟩
 ·rcases Nat.lt_or_ge (d+1+1) y.length with e|e
  ·exact .inl e
  ·exact .inr ⟨by omega,Nat.zero_le _⟩
 ·have:=sf1 y
  rw[show y.length-1=d by omega]at this
  omega
theorem FacS.push{d:Nat}{a0 z a c:List (El q)}{out:List (List (El q))}(h:FacS a0 out a)(hl:Low d (valS q.toNat (vs z)) a)(hz:z.length=d)(hd:1≤d)(ha:Mon a)(hc:Trm c)(hc0:c≠[])(e:mulK c (z++[1])=a):
 FacS a0 (out++[z++[1]]) c∧Low d (valS q.toNat (vs z)) c∧Mon c∧c.length<a.length:=by
 have hm:=yv4 z
 have hcm:Mon c:=Mon.quo hc hc0 hm (by rw[e];exact ha)
 have hlen:=lk3 hc hm.trm hc0 hm.ne
 have hdz:dN (z++[1])=valS q.toNat (vs z):=by unfold dN;rw[List.dropLast_concat]
 refine⟨fun L hL=> ?_,fun y h1 h2 h3=>hl y h1 h2 (h3.trans h1.trm h1.ne ?_),hcm, ?_⟩
 ·rw[List.append_assoc]
  refine h _ ?_
  rw[←e]
  refine .cons hm (by simp;omega) (fun y h1 h2 h3=> ?_) hcm hL
  rw[e]at h3
  rcases hl y h1 h2 h3 with g|⟨g1,g2⟩
  ·exact .inl (by simp;omega)
  ·exact .inr ⟨by simp;omega,by rw[hdz];exact g2⟩
 ·rw[←e,w46]
  exact⟨_,hm.trm,hm.ne,rfl⟩
 ·rw[←e,hlen];simp;have:=hcm.pos;omega
def Fin(d:Nat)(a:List (El q)):Prop:= ∃d' v,d'≤d∧Low d' v a∧a.length<2*d'+1
theorem FacS.done{d:Nat}{a0 a:List (El q)}{out:List (List (El q))}(h:FacS a0 out a)(hf:Fin d a)(ha:Mon a):Fac a0 (out++if 1<a.length then [a]else []):=by
 obtain⟨d',v,_,hl,hlen⟩:=hf
 have hp:=ha.pos
 by_cases h1:1<a.length
 ·rw[if_pos h1]
  refine h _ ?_
  have hle: ∀y,Mon y→2≤y.length→Dv y a→Le a y:=fun y g1 g2 g3=>by
   obtain⟨c,c1,c2,c3⟩:=g3
   have hcm:Mon c:=Mon.quo c1 c2 g1 (by rw[c3];exact ha)
   have hl1:=lk3 c1 g1.trm c2 g1.ne
   rw[c3]at hl1
   have hcp:=hcm.pos
   by_cases hc2:2≤c.length
   ·have k1:=hl y g1 g2 ⟨c,c1,c2,c3⟩
    have k2:=hl c hcm hc2 ⟨y,g1.trm,g1.ne,by rw[w46];exact c3⟩
    omega
   ·have hc1:c=[1]:=by
     have:=k85 hcm
     rw[List.eq_nil_of_length_eq_zero (l:=c.dropLast) (by simp;omega)]at this
     exact this.symm
    rw[hc1,kj1 g1.trm]at c3
    rw[c3]
    exact .inr ⟨rfl,Nat.le_refl _⟩
  have hf:=Fac.cons (c:=[1]) ha (by omega) (by rw[kj1 ha.trm];exact hle) u94 .one
  rwa [kj1 ha.trm]at hf
 ·rw[if_neg h1]
  have ha1:a=[1]:=by
   have:=k85 ha
   rw[List.eq_nil_of_length_eq_zero (l:=a.dropLast) (by simp;omega)]at this
   exact this.symm
  rw[ha1]at h
  exact h [] .one
end
def si7(d:Int):Int:=IntKind.u64.wrap (IntKind.u64.wrap (IntKind.u64.wrap (Int.fdiv 1 (2^min 32 IntKind.u64.bits)*d.fdiv (2^min 32 IntKind.u64.bits))+(IntKind.u64.wrap (IntKind.u64.wrap (Int.fdiv 1 (2^min 32 IntKind.u64.bits)*d)+(IntKind.u64.wrap (1*d)).fdiv (2^min 32 IntKind.u64.bits))).fdiv (2^min 32 IntKind.u64.bits))+(IntKind.u64.wrap (bits .and .u64 (IntKind.u64.wrap (IntKind.u64.wrap (Int.fdiv 1 (2^min 32 IntKind.u64.bits)*d)+(IntKind.u64.wrap (1*d)).fdiv (2^min 32 IntKind.u64.bits))) 4294967295+IntKind.u64.wrap (1*d.fdiv (2^min 32 IntKind.u64.bits)))).fdiv (2^min 32 IntKind.u64.bits))
theorem as0:((List.range 301).all fun d=>decide (si7 (d:Int)=0)&&decide (IntKind.u64.wrap (1*(d:Int))=(d:Int))&&decide (bits .and .u64 (d:Int) 4294967295=(d:Int))&&decide (IntKind.u64.wrap (d:Int)=(d:Int)))=true:=by kernel_rfl
theorem u17{d:Nat}(h:d≤300):o25 W 93 [.x (.int .u64 1), .x (.int .u64 d)] []=some (.tup [.x (.int .u64 0), .x (.int .u64 d)],[],[]):=by
 have b0:bits .and .u64 1 4294967295=1:=by kernel_rfl
 have key:=List.all_eq_true.1 as0 d (List.mem_range.2 (by omega))
 simp only[Bool.and_eq_true,decide_eq_true_eq]at key
 obtain⟨⟨⟨k1,k2⟩,k3⟩,k4⟩:=key
 unfold si7 at k1
 rw[o10 rfl T93 rfl]
 unfold F93 c93
 simp(disch:=first|omega|fail) only[push_cast,seval,vrl,if_pos,if_neg,b0,k3]
 rw[k1,k2]
theorem u92{d:Nat}(h:d≤300):o25 W 84 [.x (.int .u64 1), .x (.int .u64 d)] []=some (.tup [.x (.int .u64 0), .x (.int .u64 d)],[],[]):=by
 have e:=u17 h
 rw[o10 rfl T84 rfl]
 unfold F84 c84
 simp(disch:=first|omega|fail) only[push_cast,seval,vrl,if_pos,if_neg,e]
theorem kc0{d n m:Nat}(h:n+m≤d):setL (ivs (List.replicate d 0)) n (ivs (List.replicate m 0))=ivs (List.replicate d 0):=by
 have hr: ∀k:Nat,ivs (List.replicate k 0)=List.replicate k (Tree.v (.int .i64 0)):=fun k=>by unfold ivs;rw[List.map_replicate];rfl
 rw[hr,hr,dn3 (by simp;omega)]
 obtain⟨e,rfl⟩: ∃e,d=n+m+e:=⟨d-(n+m),by omega⟩
 rw[List.take_replicate,List.drop_replicate,List.length_replicate,List.replicate_append_replicate,List.replicate_append_replicate]
 congr 1
 omega
theorem p73{d:Nat}(h:d≤300): ∀(m n:Nat),d≤n+m→1≤n→n≤600→ ∀ks,
 vgoL W ⟨hNo,[.tmp 4],0⟩ [7,8] c72L0 (.blk 0 [7]::ks) [(7, .own 0 []),(8, .x (.int .i64 n))] [.sl 0 3 1 (ivs (List.replicate d 0))]=vgo W ⟨hNo,[.tmp 4],0⟩ ks (VFr.of [(7, .own 0 [])]) [.sl 0 3 1 (ivs (List.replicate d 0))]
 |0,n,hn,h1,h2,ks=>by
  have hlen:(List.replicate d (0:Int)).length=d:=List.length_replicate
  rw[sb5 c72L0.eq_def]
  generalize List.replicate d (0:Int)=Z at*
  simp(disch:=first|omega|fail) only[push_cast,seval,vrl,if_pos,if_neg,hlen]
 |m+1,n,hn,h1,h2,ks=>by
  have hlen:(List.replicate d (0:Int)).length=d:=List.length_replicate
  by_cases hnd:n<d
  ·have ih:=p73 h m (n+min (d-n) n) (by omega) (by omega) (by omega) ks
   have hm:((min (min ((n:Int)-0).toNat d) ((d:Int)-(n:Int)).toNat:Nat):Int)=((min (d-n) n:Nat):Int):=by omega
   have hs:setL (ivs (List.replicate d 0)) n (ivs (List.take ((d:Int)-(n:Int)).toNat (List.take ((n:Int)-0).toNat (List.replicate d 0))))=ivs (List.replicate d 0):=by
    rw[List.take_replicate,List.take_replicate]
    exact kc0 (by omega)
   rw[←ih,Int.natCast_add,sb5 c72L0.eq_def]
   simp(disch:=first|omega|fail) only[push_cast,seval,vrl,if_pos,if_neg,hlen,hs,hm]
  ·rw[sb5 c72L0.eq_def]
   generalize List.replicate d (0:Int)=Z at*
   simp(disch:=first|omega|fail) only[push_cast,seval,vrl,if_pos,if_neg,hlen]
theorem r52{d:Nat}(h:d≤300)(h1:1≤d)(b:Bool)(nl:Nat):o25 W 72 [.fz b (.sl nl 0 1 (ivs [0])), .x (.int .i64 d)] []=some (.own 0 [],[.sl 0 3 1 (ivs (List.replicate d 0))],[]):=by
 have e1:=u92 h
 have e2:=fun ks=>p73 h d 1 (by omega) (by omega) (by omega) ks
 have key:=List.all_eq_true.1 as0 d (List.mem_range.2 (by omega))
 simp only[Bool.and_eq_true,decide_eq_true_eq]at key
 obtain⟨_,k4⟩:=key
 have hs:=kc0 (d:=d) (n:=0) (m:=1) (by omega)
 have hr:ivs (List.replicate 1 0)=ivs [0]:=rfl
 have hmin:((min 1 d:Nat):Int)=1:=by omega
 have hs2:setL (ivs (List.replicate d 0)) 0 (ivs (List.take d [0]))=ivs (List.replicate d 0):=by rw[List.take_of_length_le (by simpa using h1)];exact hs
 have k0:IntKind.u64.wrap 1=1:=by kernel_rfl
 have hlen:(List.replicate d (0:Int)).length=d:=List.length_replicate
 rw[hr]at hs
 simp only[Int.natCast_one]at e2
 rw[o10 rfl T72 rfl]
 unfold F72 c72
 simp(disch:=first|omega|fail) only[push_cast,seval,vrl,if_pos,if_neg,k0,k4,e1,cs7,hlen,hmin,hs2]
 rw[e2]
 simp(disch:=first|omega|fail) only[push_cast,seval,vrl,if_pos,if_neg]
section
variable {q:Int} [IsFld q] {d v:Nat} {a0 z:List (El q)}
def outT(L:List (List (El q))):List Tree:=L.map fun p=> .fz (.sl 0 0 1 (ivs (vs p)))
theorem ck0(L:List (List (El q))):(outT L).length=L.length:=by simp[outT]
theorem d67(L:List (List (El q)))(p:List (El q)):outT L++[.fz (.sl 0 0 1 (ivs (vs p)))]=outT (L++[p]):=by simp[outT]
theorem et9(hd:1≤d)(hd2:d≤128)(hz:z.length=d){no nz:Nat}: ∀(n:Nat) (a:List (El q)) (L:List (List (El q))) (na:Nat),a.length≤n→a.length≤128→L.length+a.length≤200→FacS a0 L a→(Low d (valS q.toNat (vs z)) a∨Fin d a)→Mon a→
 ∃(a':List (El q)) (L':List (List (El q))) (na':Nat) (X:Rts),FacS a0 L' a'∧(Low d (valS q.toNat (vs z)+1) a'∨Fin d a')∧Mon a'∧L'.length+a'.length≤L.length+a.length∧a'.length≤a.length∧ ∀ks,
 vgoL W ⟨h50,[.tmp 4, .tmp 5],0⟩ [0,1,6,9,10,11,12] c50L0 (.blk 2001 [0,1,6,9,10,11]::ks) [(0, .x (.int .i64 q)),(1, .own 0 []),(6, .fz true (pF q)),(9, .own 1 []),(10, .x (.int .i64 d)),(11, .own 2 []),(12, .own 3 [])] [.sl na 3 1 (ivs (vs a)), .sl no 22 1 (outT L), .sl nz 3 1 (ivs (vs z)), .fz (.sl 0 0 1 (ivs (vs (z++[1]))))]=
  vgo W ⟨h50,[.tmp 4, .tmp 5],0⟩ ks (VFr.of [(0, .x (.int .i64 q)),(1, .own 0 []),(6, .fz true (pF q)),(9, .own 1 []),(10, .x (.int .i64 d)),(11, .own 2 [])]) (.sl na' 3 1 (ivs (vs a')):: .sl no 22 1 (outT L'):: .sl nz 3 1 (ivs (vs z))::X)
 |0,a,L,na,hn,h128,hL,hS,hP,hm=>by have:=hm.pos;omega
 |n+1,a,L,na,hn,h128,hL,hS,hP,hm=>by
  have hap:=hm.pos
  have w1:IntKind.wrap .i64 ((a.length:Int)-1)=((a.length-1:Nat):Int):=by rw[wrap64 (by omega) (by omega)];omega
  by_cases ht:a.length<2*d+1
  ·have hfin:Fin d a:=by
    rcases hP with h|h
    ·exact⟨d,_,Nat.le_refl _,h,ht⟩
    ·exact h
   refine⟨a,L,na,[.fz (.sl 0 0 1 (ivs (vs (z++[1]))))],hS, .inr hfin,hm,Nat.le_refl _,Nat.le_refl _,fun ks=> ?_⟩
   have c1: ¬2*(d:Int)≤((a.length-1:Nat):Int):=by omega
   rw[sb5 c50L0.eq_def]
   simp(disch:=first|omega|fail) only[push_cast,seval,vrl,if_pos,if_neg,w1,qc6 (Int.not_le.1 c1)]
  ·have hlow:Low d (valS q.toNat (vs z)) a:=by
    rcases hP with h|⟨d',v',h1,h2,h3⟩
    ·exact h
    ·omega
   have c1:2*(d:Int)≤((a.length-1:Nat):Int):=by omega
   have hpm:=yv4 z
   have hpl:(z++[1]).length=d+1:=by simp;omega
   obtain⟨m,e1⟩:=ag0 (b:=false) (nl:=na) (b':=true) (nl':=0) hm.trm hpm.trm hpm.ne (by omega) (by omega)
   obtain⟨k1,k2⟩:=dv6 hm.trm hm.ne hpm.trm hpm.ne
   by_cases hr:remP a (z++[1])=[]
   ·obtain⟨g1,g2,g3⟩:=k1 hr
    obtain⟨f1,f2,f3,f4⟩:=hS.push hlow hz hd hm g2 g3 g1
    obtain⟨a',L',na',X,r1,r2,r3,r4,r5,ih⟩:=et9 hd hd2 hz (no:=no) (nz:=nz) n (quoP a (z++[1])) (L++[z++[1]]) m (by omega) (by omega) (by simp;omega) f1 (.inl f2) f3
    refine⟨a',L',na',X,r1,r2,r3,by simp at r4;omega,by omega,fun ks=> ?_⟩
    rw[hr]at e1
    have hLl:L.length≤200:=by omega
    rw[←ih ks,sb5 c50L0.eq_def]
    simp(disch:=first|omega|fail) only[push_cast,seval,vrl,if_pos,if_neg,w1,nl3 c1,e1,ck0,d67,hLl]
   ·refine⟨a,L,na,[.fz (.sl 0 0 1 (ivs (vs (z++[1])))), .sl m 3 1 (ivs (vs (quoP a (z++[1])))), .sl (nlT (remP a (z++[1]))) 3 1 (ivs (vs (remP a (z++[1]))))],hS, .inl (hlow.skip hz fun h=>hr (k2 h)),hm,Nat.le_refl _,Nat.le_refl _,fun ks=> ?_⟩
    have hrl: ¬((remP a (z++[1])).length:Int)=0:=by have:=List.length_pos_iff.2 hr;omega
    rw[sb5 c50L0.eq_def]
    generalize remP a (z++[1])=R at*
    simp(disch:=first|omega|fail) only[push_cast,seval,vrl,if_pos,if_neg,w1,nl3 c1,e1,nb8 hrl]
theorem vg7(hd:1≤d)(hd2:d≤128)(hz:z.length=d){no nz na:Nat}{a:List (El q)}{L:List (List (El q))}(h128:a.length≤128)(hL:L.length+a.length≤200)(hS:FacS a0 L a)(hP:Low d (valS q.toNat (vs z)) a∨Fin d a)(hm:Mon a):
 ∃(a':List (El q)) (L':List (List (El q))) (na':Nat) (X:Rts),FacS a0 L' a'∧(Low d (valS q.toNat (vs z)+1) a'∨Fin d a')∧Mon a'∧L'.length+a'.length≤L.length+a.length∧a'.length≤a.length∧ ∀ks,
 vgoL W ⟨h50,[.tmp 4, .tmp 5],0⟩ [0,1,6,9,10,11,12] c50L0 (.blk 2001 [0,1,6,9,10,11]::ks) [(0, .x (.int .i64 q)),(1, .own 0 []),(6, .fz true (pF q)),(9, .own 1 []),(10, .x (.int .i64 d)),(11, .own 2 []),(12, .own 3 [])] [.sl na 3 1 (ivs (vs a)), .sl no 22 1 (outT L), .sl nz 3 1 (ivs (vs z)), .sl 0 3 1 (ivs (vs (z++[1])))]=
  vgo W ⟨h50,[.tmp 4, .tmp 5],0⟩ ks (VFr.of [(0, .x (.int .i64 q)),(1, .own 0 []),(6, .fz true (pF q)),(9, .own 1 []),(10, .x (.int .i64 d)),(11, .own 2 [])]) (.sl na' 3 1 (ivs (vs a')):: .sl no 22 1 (outT L'):: .sl nz 3 1 (ivs (vs z))::X):=by
 have hap:=hm.pos
 have w1:IntKind.wrap .i64 ((a.length:Int)-1)=((a.length-1:Nat):Int):=by rw[wrap64 (by omega) (by omega)];omega
 by_cases ht:a.length<2*d+1
 ·have hfin:Fin d a:=by
   rcases hP with h|h
   ·exact⟨d,_,Nat.le_refl _,h,ht⟩
   ·exact h
  refine⟨a,L,na,[.sl 0 3 1 (ivs (vs (z++[1])))],hS, .inr hfin,hm,Nat.le_refl _,Nat.le_refl _,fun ks=> ?_⟩
  have c1: ¬2*(d:Int)≤((a.length-1:Nat):Int):=by omega
  rw[sb5 c50L0.eq_def]
  simp(disch:=first|omega|fail) only[push_cast,seval,vrl,if_pos,if_neg,w1,qc6 (Int.not_le.1 c1)]
 ·have hlow:Low d (valS q.toNat (vs z)) a:=by
   rcases hP with h|⟨d',v',h1,h2,h3⟩
   ·exact h
   ·omega
  have c1:2*(d:Int)≤((a.length-1:Nat):Int):=by omega
  have hpm:=yv4 z
  have hpl:(z++[1]).length=d+1:=by simp;omega
  obtain⟨m,e1⟩:=ag0 (b:=false) (nl:=na) (b':=false) (nl':=0) hm.trm hpm.trm hpm.ne (by omega) (by omega)
  obtain⟨k1,k2⟩:=dv6 hm.trm hm.ne hpm.trm hpm.ne
  by_cases hr:remP a (z++[1])=[]
  ·obtain⟨g1,g2,g3⟩:=k1 hr
   obtain⟨f1,f2,f3,f4⟩:=hS.push hlow hz hd hm g2 g3 g1
   obtain⟨a',L',na',X,r1,r2,r3,r4,r5,ih⟩:=et9 hd hd2 hz (no:=no) (nz:=nz) _ (quoP a (z++[1])) (L++[z++[1]]) m (Nat.le_refl _) (by omega) (by simp;omega) f1 (.inl f2) f3
   refine⟨a',L',na',X,r1,r2,r3,by simp at r4;omega,by omega,fun ks=> ?_⟩
   rw[hr]at e1
   have hLl:L.length≤200:=by omega
   rw[←ih ks,sb5 c50L0.eq_def]
   simp(disch:=first|omega|fail) only[push_cast,seval,vrl,if_pos,if_neg,w1,nl3 c1,e1,ck0,d67,hLl]
  ·refine⟨a,L,na,[.sl 0 3 1 (ivs (vs (z++[1]))), .sl m 3 1 (ivs (vs (quoP a (z++[1])))), .sl (nlT (remP a (z++[1]))) 3 1 (ivs (vs (remP a (z++[1]))))],hS, .inl (hlow.skip hz fun h=>hr (k2 h)),hm,Nat.le_refl _,Nat.le_refl _,fun ks=> ?_⟩
   have hrl: ¬((remP a (z++[1])).length:Int)=0:=by have:=List.length_pos_iff.2 hr;omega
   rw[sb5 c50L0.eq_def]
   generalize remP a (z++[1])=R at*
   simp(disch:=first|omega|fail) only[push_cast,seval,vrl,if_pos,if_neg,w1,nl3 c1,e1,nb8 hrl]
theorem ra9{T0 T1:Tree}{l:List Int}:wb3 [T0,T1, .sl 0 3 1 (ivs l)] 0 (.own 2 [])=some false:=by
 unfold wb3
 cases l<;>rfl
theorem km7{na no:Nat}{a:List (El q)}{C:List Tree}(ks):
 vgoL W ⟨h50,[.tmp 4, .tmp 5],0⟩ [0,1,6,9,10,11] c50L1 (.blk 2 [0,1,6,9,10]::ks) [(0, .x (.int .i64 q)),(1, .own 0 []),(6, .fz true (pF q)),(9, .own 1 []),(10, .x (.int .i64 d)),(11, .x (.slice none 0 0))] [.sl na 3 1 (ivs (vs a)), .sl no 22 1 C]=
  vgo W ⟨h50,[.tmp 4, .tmp 5],0⟩ ks (VFr.of [(0, .x (.int .i64 q)),(1, .own 0 []),(6, .fz true (pF q)),(9, .own 1 []),(10, .x (.int .i64 d))]) [.sl na 3 1 (ivs (vs a)), .sl no 22 1 C]:=by
 rw[sb5 c50L1.eq_def]
 simp(disch:=first|omega|fail) only[push_cast,seval,vrl,if_pos,if_neg]
theorem uq1(z:List (El q)):ivs (vs (z++[1]))=ivs (vs z)++[.v (.int .i64 1)]:=by rw[show vs (z++[1])=vs z++[1] by unfold vs;rw[List.map_append];rfl,←Vm.tl5];rfl
theorem jp0(hd:1≤d)(hd2:d≤128){no:Nat}: ∀(n:Nat) (z:List (El q)) (a:List (El q)) (L:List (List (El q))) (na:Nat),Left q q.toNat n z→z.length=d→a.length≤128→L.length+a.length≤200→FacS a0 L a→(Low d (valS q.toNat (vs z)) a∨Fin d a)→Mon a→
 ∃(a':List (El q)) (L':List (List (El q))) (na':Nat) (X:Rts),FacS a0 L' a'∧(Low (d+1) 0 a'∨Fin (d+1) a')∧Mon a'∧L'.length+a'.length≤L.length+a.length∧a'.length≤a.length∧ ∀ks,
 vgoL W ⟨h50,[.tmp 4, .tmp 5],0⟩ [0,1,6,9,10,11] c50L1 (.blk 2 [0,1,6,9,10]::ks) [(0, .x (.int .i64 q)),(1, .own 0 []),(6, .fz true (pF q)),(9, .own 1 []),(10, .x (.int .i64 d)),(11, .own 2 [])] [.sl na 3 1 (ivs (vs a)), .sl no 22 1 (outT L), .sl 0 3 1 (ivs (vs z))]=
  vgo W ⟨h50,[.tmp 4, .tmp 5],0⟩ ks (VFr.of [(0, .x (.int .i64 q)),(1, .own 0 []),(6, .fz true (pF q)),(9, .own 1 []),(10, .x (.int .i64 d))]) (.sl na' 3 1 (ivs (vs a')):: .sl no 22 1 (outT L')::X):=by
 intro n
 induction n with
 |zero=>
  intro z a L na hl hz h128 hL hS hP hm
  have hz0:z≠[]:=fun e=>by rw[e]at hz;simp at hz;omega
  obtain⟨a',L',na',X,r1,r2,r3,r4,r5,e2⟩:=vg7 (z:=z) (a0:=a0) hd hd2 hz (no:=no) (nz:=0) (na:=na) h128 hL hS hP hm
  have hq:=q_hi (q:=q)
  have hlast:=hl.last
  have hv:=hl.h
  refine⟨a',L',na',[],r1, ?_,r3,r4,r5,fun ks=> ?_⟩
  ·rcases r2 with h|⟨d',v',h1,h2,h3⟩
   ·exact .inl (h.next (by rw[←hz];omega))
   ·exact .inr ⟨d',v',by omega,h2,h3⟩
  ·have e1:=fun b nl=>h20 (b:=b) (nl:=nl) (zs:=vs z) (by rw[fi2];omega)
   simp only[ks8,ef8 hz0]at e1
   have e3:=xt4 (nl:=0) (q:=q) (z:=vs z) (by omega) (by rw[fi2];omega) (oa6 z) hlast
   have e4:=fun ks=>km7 (d:=d) (na:=na') (no:=no) (a:=a') (C:=outT L') ks
   have hzl:=fi2 z
   rw[←e4 ks,sb5 c50L1.eq_def]
   simp(disch:=first|omega|fail) only[push_cast,seval,vrl,if_pos,if_neg,ra9,e1,hzl,←uq1]
   rw[e2]
   simp(disch:=first|omega|fail) only[push_cast,seval,vrl,if_pos,if_neg,e3]
 |succ n IH=>
  intro z a L na hl hz h128 hL hS hP hm
  have hz0:z≠[]:=fun e=>by rw[e]at hz;simp at hz;omega
  obtain⟨a',L',na',X,r1,r2,r3,r4,r5,e2⟩:=vg7 (z:=z) (a0:=a0) hd hd2 hz (no:=no) (nz:=0) (na:=na) h128 hL hS hP hm
  have hq:=q_hi (q:=q)
  obtain⟨hmore,hnx⟩:=hl.more
  have hv:=hl.h
  have hv2:=hnx.h
  have hnl:=l71 (q:=q) z
  rw[hnl]at hv2
  obtain⟨a2,L2,na2,X2,s1,s2,s3,s4,s5,ih⟩:=IH (yv5 z) a' L' na' hnx (by rw[hnl,hz]) (by omega) (by omega) r1 (by rw[show valS q.toNat (vs (yv5 z))=valS q.toNat (vs z)+1 by omega];exact r2) r3
  refine⟨a2,L2,na2,X2,s1,s2,s3,by omega,by omega,fun ks=> ?_⟩
  have e1:=fun b nl=>h20 (b:=b) (nl:=nl) (zs:=vs z) (by rw[fi2];omega)
  simp only[ks8,ef8 hz0]at e1
  have e3:=pm9 (nl:=0) (q:=q) (z:=vs z) (by omega) (by rw[fi2];omega) (oa6 z) hmore
  rw[←mw7]at e3
  have hzl:=fi2 z
  rw[←ih ks,sb5 c50L1.eq_def]
  simp(disch:=first|omega|fail) only[push_cast,seval,vrl,if_pos,if_neg,ra9,e1,hzl,←uq1]
  rw[e2]
  simp(disch:=first|omega|fail) only[push_cast,seval,vrl,if_pos,if_neg,e3,List.getElem?_concat_length,Option.getD_some]
end
end Go.Proofs.YtoglhlonhmmieaaGreat
namespace Go.Proofs.YtoglhlonhmmieaaGreat
open Go.Am
end Go.Proofs.YtoglhlonhmmieaaGreat
namespace Go.Proofs.YtoglhlonhmmieaaGreat
open Go.Am Go.Vm Go.Alg
set_option maxHeartbeats 4000000
def cmpI(x y:Int):Int:=if x<y then-1 else if y<x then 1 else 0
def cmpE:List Int→List Int→Int
 |x::l,y::m=>if cmpI x y=0 then cmpE l m else cmpI x y
 |_,_=>0
def cmpF(x y:List Int):Int:=if x.length=y.length then cmpE x y else(x.length:Int)-y.length
theorem iy6{x:Int}:o25 W 96 [.x (.int .i64 x)] []=some (.x (.bool false),[],[]):=by
 rw[o10 rfl T96 rfl]
 unfold F96 c96
 simp(disch:=first|omega|fail) only[push_cast,seval,vrl,if_pos,if_neg]
theorem nt7{x y:Int}:o25 W 86 [.x (.int .i64 x), .x (.int .i64 y)] []=some (.x (.int .i64 (cmpI x y)),[],[]):=by
 have e1:=iy6 (x:=x)
 have e2:=iy6 (x:=y)
 unfold cmpI
 rw[o10 rfl T86 rfl]
 unfold F86 c86
 by_cases h:x<y
 ·rw[if_pos h]
  simp(disch:=first|omega|fail) only[push_cast,seval,vrl,if_pos,if_neg,e1,e2,dec_lt h]
 ·rw[if_neg h]
  by_cases h2:y<x
  ·rw[if_pos h2]
   simp(disch:=first|omega|fail) only[push_cast,seval,vrl,if_pos,if_neg,e1,e2,cw6 (Int.not_lt.1 h),dec_lt h2]
  ·rw[if_neg h2]
   simp(disch:=first|omega|fail) only[push_cast,seval,vrl,if_pos,if_neg,e1,e2,cw6 (Int.not_lt.1 h),cw6 (Int.not_lt.1 h2)]
section
variable {b b':Bool} {nl nl':Nat} {x y:List Int}
theorem ma1(hl:x.length≤1000000)(hxy:x.length=y.length): ∀(d i:Nat),i+d=x.length→ ∀ks,
 vgoL W ⟨hNo,[.tmp 4],0⟩ [0,1,9,10,11] c76L0 (.blk 0 [0,1]::ks) [(0, .fz b (.sl nl 0 1 (ivs x))),(1, .fz b' (.sl nl' 0 1 (ivs y))),(9, .fz b (.sl nl 0 1 (ivs x))),(10, .x (.int .i64 x.length)),(11, .x (.int .i64 i))] []=
  if cmpE (x.drop i) (y.drop i)=0 then vgo W ⟨hNo,[.tmp 4],0⟩ ks (VFr.of [(0, .fz b (.sl nl 0 1 (ivs x))),(1, .fz b' (.sl nl' 0 1 (ivs y)))]) []else some (.x (.int .i64 (cmpE (x.drop i) (y.drop i))),[],[])
 |0,i,hi,ks=>by
  rw[oh9 (by omega),oh9 (by omega),cmpE.eq_2 _ _ (by intro _ _ _ _ h;cases h),if_pos rfl,sb5 c76L0.eq_def]
  simp(disch:=first|omega|fail) only[push_cast,seval,vrl,if_pos,if_neg]
 |d+1,i,hi,ks=>by
  have ih:=ma1 hl hxy d (i+1) (by omega) ks
  obtain⟨a,ha⟩:=ge6 (l:=x) (i:=i) (by omega)
  obtain⟨c,hc⟩:=ge6 (l:=y) (i:=i) (by omega)
  have h1:=iat ha
  have h2:=iat hc
  have e1:=nt7 (x:=a) (y:=c)
  rw[i62 ha,i62 hc,cmpE]
  rw[Int.natCast_add,Int.natCast_one]at ih
  have hyl:y.length=x.length:=hxy.symm
  by_cases h:cmpI a c=0
  ·rw[if_pos h,←ih,sb5 c76L0.eq_def]
   rw[h]at e1
   simp(disch:=first|omega|fail) only[push_cast,seval,vrl,if_pos,if_neg,h1,h2,hyl,e1]
  ·rw[if_neg h,if_neg h,sb5 c76L0.eq_def]
   simp(disch:=first|omega|fail) only[push_cast,seval,vrl,if_pos,if_neg,h1,h2,hyl,e1,nb8 h]
theorem pl8(hl:x.length≤1000000)(hxy:x.length=y.length):o25 W 76 [.fz b (.sl nl 0 1 (ivs x)), .fz b' (.sl nl' 0 1 (ivs y))] []=some (.x (.int .i64 (cmpE x y)),[],[]):=by
 have e:=fun ks=>ma1 (b:=b) (b':=b') (nl:=nl) (nl':=nl') hl hxy x.length 0 (by omega) ks
 simp only[List.drop_zero,Int.natCast_zero]at e
 have hyl:y.length=x.length:=hxy.symm
 rw[o10 rfl T76 rfl]
 unfold F76 c76
 simp(disch:=first|omega|fail) only[push_cast,seval,vrl,if_pos,if_neg]
 rw[e]
 by_cases h:cmpE x y=0
 ·rw[if_pos h,h]
  simp(disch:=first|omega|fail) only[push_cast,seval,vrl,if_pos,if_neg,hyl]
 ·rw[if_neg h]
theorem mv5(hx:x.length≤1000000)(hy:y.length≤1000000):o25 W 75 [.fz b (.sl nl 0 1 (ivs x)), .fz b' (.sl nl' 0 1 (ivs y))] []=some (.x (.int .i64 (cmpF x y)),[],[]):=by
 unfold cmpF
 rw[o10 rfl T75 rfl]
 unfold F75 c75
 by_cases h:x.length=y.length
 ·have e1:=fun b nl b' nl'=>pl8 (b:=b) (b':=b') (nl:=nl) (nl':=nl') (x:=x) (y:=y) hx h
  have h2:(x.length:Int)=(y.length:Int):=by omega
  rw[if_pos h]
  simp(disch:=first|omega|fail) only[push_cast,seval,vrl,if_pos,if_neg,mr8 h2,e1]
 ·have h2: ¬(x.length:Int)=(y.length:Int):=by omega
  rw[if_neg h]
  simp(disch:=first|omega|fail) only[push_cast,seval,vrl,if_pos,if_neg,nb8 h2]
end
def fzC(l:List (Nat×List Int)):List Tree:=l.map fun p=> .fz (.sl p.1 0 1 (ivs p.2))
theorem ef7(l:List (Nat×List Int)):(fzC l).length=l.length:=by simp[fzC]
def rowC(l:List (Nat×List Int))(i:Nat):List Int:=(l.getD i (0,[])).2
def flC(l:List (Nat×List Int))(i:Nat):Nat:=(l.getD i (0,[])).1
theorem q33{l:List (Nat×List Int)}{i:Nat}(h:i<l.length):(fzC l)[i]? =some (.fz (.sl (flC l i) 0 1 (ivs (rowC l i)))):=by
 unfold fzC flC rowC
 rw[List.getElem?_map,List.getD_eq_getElem?_getD,List.getElem?_eq_getElem h];rfl
structure SrtC (l:List (Nat×List Int)):Prop where
 len: ∀i,(rowC l i).length≤1000
 ord: ∀i j,i<j→j<l.length→ ¬cmpF (rowC l j) (rowC l i)<0
section
variable {l:List (Nat×List Int)}
theorem hMc:vM 75=[]:=rfl
theorem c99{no:Nat}(hs:SrtC l)(hl:l.length≤1000){a b i j:Nat}(hj:j<l.length)(ks):
 vgoL W ⟨hNo,[],1⟩ [0,1,2,3,8,9] c94L0 (.blk 2 [0,1,2,3,8]::ks) [(0, .own 0 []),(1, .x (.int .i64 a)),(2, .x (.int .i64 b)),(3, .fn 75 []),(8, .x (.int .i64 i)),(9, .x (.int .i64 j))] [.sl no 22 1 (fzC l)]=
  vgo W ⟨hNo,[],1⟩ ks (VFr.of [(0, .own 0 []),(1, .x (.int .i64 a)),(2, .x (.int .i64 b)),(3, .fn 75 []),(8, .x (.int .i64 i))]) [.sl no 22 1 (fzC l)]:=by
 have hlen:=ef7 l
 rw[sb5 c94L0.eq_def]
 by_cases h:a<j
 ·have e0:(j:Int)-1=((j-1:Nat):Int):=by omega
  have l1:=q33 (l:=l) (i:=j) hj
  have l2:=q33 (l:=l) (i:=j-1) (by omega)
  have e1:=fun b nl b' nl'=>mv5 (b:=b) (nl:=nl) (b':=b') (nl':=nl') (x:=rowC l j) (y:=rowC l (j-1)) (by have:=hs.len j;omega) (by have:=hs.len (j-1);omega)
  have hn:=hs.ord (j-1) j (by omega) hj
  generalize rowC l j=r1 at*
  generalize rowC l (j-1)=r2 at*
  generalize flC l (j-1)=f2 at*
  generalize flC l j=f1 at*
  generalize cmpF r1 r2=z at*
  have hj1:j-1<l.length:=by omega
  generalize j-1=j1 at*
  generalize fzC l=C at*
  simp(disch:=first|omega|fail) only[push_cast,seval,vrl,if_pos,if_neg,dec_lt (show(a:Int)<(j:Int) by omega),e0,l1,l2,hlen,e1,hMc,cw6 (Int.not_lt.1 hn)]
 ·generalize fzC l=C at*
  simp(disch:=first|omega|fail) only[push_cast,seval,vrl,if_pos,if_neg]
theorem xg6{no:Nat}(hs:SrtC l)(hl:l.length≤1000){a b:Nat}(hb:b≤l.length): ∀(n i:Nat),i+n=b∨(b≤i∧n=0)→i≤2000→ ∀ks,
 vgoL W ⟨hNo,[],1⟩ [0,1,2,3,8] c94L1 (.blk 0 []::ks) [(0, .own 0 []),(1, .x (.int .i64 a)),(2, .x (.int .i64 b)),(3, .fn 75 []),(8, .x (.int .i64 i))] [.sl no 22 1 (fzC l)]=
  vgo W ⟨hNo,[],1⟩ ks (VFr.of []) [.sl no 22 1 (fzC l)]
 |0,i,hi,h2,ks=>by
  rw[sb5 c94L1.eq_def]
  generalize fzC l=C at*
  simp(disch:=first|omega|fail) only[push_cast,seval,vrl,if_pos,if_neg]
 |n+1,i,hi,h2,ks=>by
  have ih:=xg6 hs hl (no:=no) (a:=a) hb n (i+1) (by omega) (by omega) ks
  have e1:=fun ks=>c99 (no:=no) hs hl (a:=a) (b:=b) (i:=i) (j:=i) (by omega) ks
  rw[Int.natCast_add,Int.natCast_one]at ih
  rw[←ih,sb5 c94L1.eq_def]
  generalize fzC l=C at*
  simp(disch:=first|omega|fail) only[push_cast,seval,vrl,if_pos,if_neg]
  rw[e1]
  simp(disch:=first|omega|fail) only[push_cast,seval,vrl,if_pos,if_neg]
theorem dn5{no:Nat}(hs:SrtC l)(hl:l.length≤1000){a b:Nat}(hb:b≤l.length)(ha:a≤1000):
 o25 W 94 [.own 0 [], .x (.int .i64 a), .x (.int .i64 b), .fn 75 []] [.sl no 22 1 (fzC l)]=some (.tup [],[],[.sl no 22 1 (fzC l)]):=by
 have e:=fun ks=>xg6 (no:=no) hs hl (a:=a) hb (b-(a+1)) (a+1) (by omega) (by omega) ks
 rw[Int.natCast_add,Int.natCast_one]at e
 generalize fzC l=C at*
 rw[o10 rfl T94 rfl]
 unfold F94 c94
 simp(disch:=first|omega|fail) only[push_cast,seval,vrl,if_pos,if_neg]
 rw[e]
 simp(disch:=first|omega|fail) only[push_cast,seval,vrl,if_pos,if_neg]
theorem bx4{s:Nat}(h:s≤400000):IntKind.wrap .u64 (s:Int)=(s:Int)∧(s:Int).fdiv (2^min 1 (IntKind.bits .u64))=((s/2:Nat):Int):=by
 constructor
 ·unfold IntKind.wrap
  simp[IntKind.bits,IntKind.signed]
  omega
 ·rw[show(2:Int)^min 1 (IntKind.bits .u64)=2 by decide,Int.fdiv_eq_ediv_of_nonneg _ (by decide)];omega
theorem a75{no:Nat}(hs:SrtC l)(hl:l.length≤1000){a m:Nat}(ham:a<m): ∀(n j:Nat),j-m≤n→m≤j→j≤l.length→ ∀ks,
 vgoL W ⟨hNo,[],1⟩ [0,1,4,10,11] c95L0 (.blk 0 [0,1,10]::ks) [(0, .own 0 []),(1, .x (.int .i64 a)),(4, .fn 75 []),(10, .x (.int .i64 m)),(11, .x (.int .i64 j))] [.sl no 22 1 (fzC l)]=
  vgo W ⟨hNo,[],1⟩ ks (VFr.of [(0, .own 0 []),(1, .x (.int .i64 a)),(10, .x (.int .i64 m))]) [.sl no 22 1 (fzC l)]
 |0,j,hn,hmj,hj,ks=>by
  rw[sb5 c95L0.eq_def]
  generalize fzC l=C at*
  simp(disch:=first|omega|fail) only[push_cast,seval,vrl,if_pos,if_neg]
 |n+1,j,hn,hmj,hj,ks=>by
  by_cases h:m<j
  ·obtain⟨s,hss⟩: ∃s,s=m+j:=⟨_,rfl⟩
   obtain⟨hh,hhh⟩: ∃hh,hh=s/2:=⟨_,rfl⟩
   obtain⟨u1,u2⟩:=bx4 (s:=s) (by omega)
   have e1:(m:Int)+(j:Int)=(s:Int):=by omega
   rw[←hhh]at u2
   have hlen:=ef7 l
   have l1:=q33 (l:=l) (i:=hh) (by omega)
   have l2:=q33 (l:=l) (i:=a) (by omega)
   have w:=fun b nl b' nl'=>mv5 (b:=b) (nl:=nl) (b':=b') (nl':=nl') (x:=rowC l hh) (y:=rowC l a) (by have:=hs.len hh;omega) (by have:=hs.len a;omega)
   have hnn:=hs.ord a hh (by omega) (by omega)
   have ih:=a75 hs hl (no:=no) ham n hh (by omega) (by omega) (by omega) ks
   have hhl:hh<l.length:=by omega
   have hal:a<l.length:=by omega
   rw[←ih,sb5 c95L0.eq_def]
   generalize rowC l hh=r1 at*
   generalize rowC l a=r2 at*
   generalize flC l hh=f1 at*
   generalize flC l a=f2 at*
   generalize cmpF r1 r2=z at*
   generalize fzC l=C at*
   simp(disch:=first|omega|fail) only[push_cast,seval,vrl,if_pos,if_neg,e1,u1,u2,l1,l2,w,hlen,hMc,cw6 (Int.not_lt.1 hnn)]
  ·rw[sb5 c95L0.eq_def]
   generalize fzC l=C at*
   simp(disch:=first|omega|fail) only[push_cast,seval,vrl,if_pos,if_neg]
theorem go6{no:Nat}(hs:SrtC l)(hl:l.length≤1000){m:Nat}(hm:m<l.length): ∀(n i:Nat),m-i≤n→i≤m→ ∀ks,
 vgoL W ⟨hNo,[],1⟩ [0,2,4,14,15] c95L2 (.blk 4 [0,2,14]::ks) [(0, .own 0 []),(2, .x (.int .i64 m)),(4, .fn 75 []),(14, .x (.int .i64 i)),(15, .x (.int .i64 m))] [.sl no 22 1 (fzC l)]=
  vgo W ⟨hNo,[],1⟩ ks (VFr.of [(0, .own 0 []),(2, .x (.int .i64 m)),(14, .x (.int .i64 m))]) [.sl no 22 1 (fzC l)]
 |0,i,hn,hi,ks=>by
  obtain rfl:i=m:=by omega
  rw[sb5 c95L2.eq_def]
  generalize fzC l=C at*
  simp(disch:=first|omega|fail) only[push_cast,seval,vrl,if_pos,if_neg]
 |n+1,i,hn,hi,ks=>by
  by_cases h:i<m
  ·obtain⟨s,hss⟩: ∃s,s=i+m:=⟨_,rfl⟩
   obtain⟨hh,hhh⟩: ∃hh,hh=s/2:=⟨_,rfl⟩
   obtain⟨u1,u2⟩:=bx4 (s:=s) (by omega)
   have e1:(i:Int)+(m:Int)=(s:Int):=by omega
   rw[←hhh]at u2
   have hlen:=ef7 l
   have l1:=q33 (l:=l) (i:=hh) (by omega)
   have l2:=q33 (l:=l) (i:=m) hm
   have w:=fun b nl b' nl'=>mv5 (b:=b) (nl:=nl) (b':=b') (nl':=nl') (x:=rowC l m) (y:=rowC l hh) (by have:=hs.len m;omega) (by have:=hs.len hh;omega)
   have hnn:=hs.ord hh m (by omega) hm
   have ih:=go6 hs hl (no:=no) hm n (hh+1) (by omega) (by omega) ks
   have hhl:hh<l.length:=by omega
   rw[Int.natCast_add hh,Int.natCast_one]at ih
   rw[←ih,sb5 c95L2.eq_def]
   generalize rowC l hh=r1 at*
   generalize rowC l m=r2 at*
   generalize flC l hh=f1 at*
   generalize flC l m=f2 at*
   generalize cmpF r2 r1=z at*
   generalize fzC l=C at*
   simp(disch:=first|omega|fail) only[push_cast,seval,vrl,if_pos,if_neg,e1,u1,u2,l1,l2,w,hlen,hMc,cw6 (Int.not_lt.1 hnn)]
  ·obtain rfl:i=m:=by omega
   rw[sb5 c95L2.eq_def]
   generalize fzC l=C at*
   simp(disch:=first|omega|fail) only[push_cast,seval,vrl,if_pos,if_neg]
theorem u97{no:Nat}(hs:SrtC l)(hl:l.length≤1000){a m b mid nn p r:Nat}(hr:r≤p)(hp:p≤4000)(hrp:2*r≤p+1): ∀(n i:Nat),r-i≤n→i≤r→p<i+l.length→ ∀ks,
 vgoL W ⟨hNo,[],1⟩ [0,1,2,3,4,18,19,20,21,22] c95L4 (.blk 8 [0,1,2,3,4,18,19,20]::ks) [(0, .own 0 []),(1, .x (.int .i64 a)),(2, .x (.int .i64 m)),(3, .x (.int .i64 b)),(4, .fn 75 []),(18, .x (.int .i64 mid)),(19, .x (.int .i64 nn)),(20, .x (.int .i64 i)),(21, .x (.int .i64 r)),(22, .x (.int .i64 p))] [.sl no 22 1 (fzC l)]=
  vgo W ⟨hNo,[],1⟩ ks (VFr.of [(0, .own 0 []),(1, .x (.int .i64 a)),(2, .x (.int .i64 m)),(3, .x (.int .i64 b)),(4, .fn 75 []),(18, .x (.int .i64 mid)),(19, .x (.int .i64 nn)),(20, .x (.int .i64 r))]) [.sl no 22 1 (fzC l)]
 |0,i,hn,hi,hpi,ks=>by
  obtain rfl:i=r:=by omega
  rw[sb5 c95L4.eq_def]
  generalize fzC l=C at*
  simp(disch:=first|omega|fail) only[push_cast,seval,vrl,if_pos,if_neg]
 |n+1,i,hn,hi,hpi,ks=>by
  by_cases h:i<r
  ·obtain⟨s,hss⟩: ∃s,s=i+r:=⟨_,rfl⟩
   obtain⟨hh,hhh⟩: ∃hh,hh=s/2:=⟨_,rfl⟩
   obtain⟨g,hg⟩: ∃g,g=p-hh:=⟨_,rfl⟩
   obtain⟨u1,u2⟩:=bx4 (s:=s) (by omega)
   have e1:(i:Int)+(r:Int)=(s:Int):=by omega
   have e2:(p:Int)-(hh:Int)=(g:Int):=by omega
   rw[←hhh]at u2
   have hlen:=ef7 l
   have l1:=q33 (l:=l) (i:=hh) (by omega)
   have l2:=q33 (l:=l) (i:=g) (by omega)
   have w:=fun b nl b' nl'=>mv5 (b:=b) (nl:=nl) (b':=b') (nl':=nl') (x:=rowC l g) (y:=rowC l hh) (by have:=hs.len g;omega) (by have:=hs.len hh;omega)
   have hnn:=hs.ord hh g (by omega) (by omega)
   have ih:=u97 hs hl (no:=no) (a:=a) (m:=m) (b:=b) (mid:=mid) (nn:=nn) hr hp hrp n (hh+1) (by omega) (by omega) (by omega) ks
   have hhl:hh<l.length:=by omega
   have hgl:g<l.length:=by omega
   rw[Int.natCast_add hh,Int.natCast_one]at ih
   rw[←ih,sb5 c95L4.eq_def]
   generalize rowC l hh=r1 at*
   generalize rowC l g=r2 at*
   generalize flC l hh=f1 at*
   generalize flC l g=f2 at*
   generalize cmpF r2 r1=z at*
   generalize fzC l=C at*
   simp(disch:=first|omega|fail) only[push_cast,seval,vrl,if_pos,if_neg,e1,e2,u1,u2,l1,l2,w,hlen,hMc,cw6 (Int.not_lt.1 hnn)]
  ·obtain rfl:i=r:=by omega
   rw[sb5 c95L4.eq_def]
   generalize fzC l=C at*
   simp(disch:=first|omega|fail) only[push_cast,seval,vrl,if_pos,if_neg]
end
set_option maxHeartbeats 4000000
section
variable {l:List (Nat×List Int)}
theorem pz4(h:0<l.length):(fzC l).all isV=false:=by
 cases l with
 |nil=>simp at h
 |cons p l=>rfl
theorem o39{no:Nat}{a:Nat}{C:List Tree}(ha:a≤1000)(ks):
 vgoL W ⟨hNo,[],1⟩ [0,10,13] c95L1 (.blk 2 []::ks) [(0, .own 0 []),(10, .x (.int .i64 ((a:Int)+1))),(13, .x (.int .i64 a))] [.sl no 22 1 C]=
  vgo W ⟨hNo,[],1⟩ ks (VFr.of []) [.sl no 22 1 C]:=by
 rw[sb5 c95L1.eq_def]
 simp(disch:=first|omega|fail) only[push_cast,seval,vrl,if_pos,if_neg]
theorem es3{no:Nat}{m:Nat}{C:List Tree}(ks):
 vgoL W ⟨hNo,[],1⟩ [0,14,17] c95L3 (.blk 6 []::ks) [(0, .own 0 []),(14, .x (.int .i64 m)),(17, .x (.int .i64 m))] [.sl no 22 1 C]=
  vgo W ⟨hNo,[],1⟩ ks (VFr.of []) [.sl no 22 1 C]:=by
 rw[sb5 c95L3.eq_def]
 simp(disch:=first|omega|fail) only[push_cast,seval,vrl,if_pos,if_neg]
theorem m98{no:Nat}(hs:SrtC l)(hl:l.length≤1000): ∀(n a m b:Nat),a<m→m<b→b≤l.length→b-a≤n→
 o25 W 95 [.own 0 [], .x (.int .i64 a), .x (.int .i64 m), .x (.int .i64 b), .fn 75 []] [.sl no 22 1 (fzC l)]=some (.tup [],[],[.sl no 22 1 (fzC l)])
 |0,a,m,b,h1,h2,h3,h4=>by omega
 |n+1,a,m,b,ham,hmb,hb,hn=>by
  have IH:=m98 (no:=no) hs hl n
  have hv:=pz4 (l:=l) (by omega)
  by_cases h1:m-a=1
  ·have hm1:(m:Int)-(a:Int)=1:=by omega
   have e1:=fun ks=>a75 (no:=no) hs hl ham (b-m) b (Nat.le_refl _) (by omega) hb ks
   have e2:=fun ks=>o39 (no:=no) (a:=a) (C:=fzC l) (by omega) ks
   have hm2:(m:Int)=(a:Int)+1:=by omega
   rw[hm2]at e1
   generalize fzC l=C at*
   rw[o10 rfl T95 rfl]
   unfold F95 c95
   rw[hm2]
   simp(disch:=first|omega|fail) only[push_cast,seval,vrl,if_pos,if_neg,show(a:Int)+1-(a:Int)=1 by omega]
   rw[e1]
   simp(disch:=first|omega|fail) only[push_cast,seval,vrl,if_pos,if_neg]
   rw[e2]
   simp(disch:=first|omega|fail) only[push_cast,seval,vrl,if_pos,if_neg]
  ·have hm1: ¬(m:Int)-(a:Int)=1:=by omega
   by_cases h2:b-m=1
   ·have hm2:(b:Int)-(m:Int)=1:=by omega
    have e1:=fun ks=>go6 (no:=no) hs hl (m:=m) (by omega) (m-a) a (Nat.le_refl _) (by omega) ks
    have e2:=fun ks=>es3 (no:=no) (m:=m) (C:=fzC l) ks
    generalize fzC l=C at*
    rw[o10 rfl T95 rfl]
    unfold F95 c95
    simp(disch:=first|omega|fail) only[push_cast,seval,vrl,if_pos,if_neg,nb8 hm1,hm2]
    rw[e1]
    simp(disch:=first|omega|fail) only[push_cast,seval,vrl,if_pos,if_neg]
    rw[e2]
    simp(disch:=first|omega|fail) only[push_cast,seval,vrl,if_pos,if_neg]
   ·have hm2: ¬(b:Int)-(m:Int)=1:=by omega
    obtain⟨mid,hmid⟩: ∃mid,mid=(a+b)/2:=⟨_,rfl⟩
    obtain⟨nn,hnn⟩: ∃nn,nn=mid+m:=⟨_,rfl⟩
    obtain⟨p,hp⟩: ∃p,p=nn-1:=⟨_,rfl⟩
    obtain⟨sab,hsab⟩: ∃sab,sab=a+b:=⟨_,rfl⟩
    obtain⟨u1,u2⟩:=bx4 (s:=sab) (by omega)
    have q1:(a:Int)+(b:Int)=(sab:Int):=by omega
    have q2:(mid:Int)+(m:Int)=(nn:Int):=by omega
    have q3:(nn:Int)-1=(p:Int):=by omega
    rw[show sab/2=mid by omega]at u2
    by_cases hmm:m>mid
    ·obtain⟨s0,hs0⟩: ∃s0,s0=nn-b:=⟨_,rfl⟩
     have q4:(nn:Int)-(b:Int)=(s0:Int):=by omega
     have q5:(nn:Int)-(mid:Int)=(m:Int):=by omega
     have e1:=fun ks=>u97 (no:=no) hs hl (a:=a) (m:=m) (b:=b) (mid:=mid) (nn:=nn) (p:=p) (r:=mid) (by omega) (by omega) (by omega) (mid-s0) s0 (Nat.le_refl _) (by omega) (by omega) ks
     have r1:=IH mid m b hmm hmb hb (by omega)
     generalize fzC l=C at*
     rw[o10 rfl T95 rfl]
     unfold F95 c95
     simp(disch:=first|omega|fail) only[push_cast,seval,vrl,if_pos,if_neg,nb8 hm1,nb8 hm2,q1,u1,u2,q2,q3,q4]
     rw[e1]
     simp(disch:=first|omega|fail) only[push_cast,seval,vrl,if_pos,if_neg,hv,q5,r1]
    ·have q5:(nn:Int)-(m:Int)=(mid:Int):=by omega
     have e1:=fun ks=>u97 (no:=no) hs hl (a:=a) (m:=m) (b:=b) (mid:=mid) (nn:=nn) (p:=p) (r:=m) (by omega) (by omega) (by omega) (m-a) a (Nat.le_refl _) (by omega) (by omega) ks
     by_cases hm3:m<mid
     ·have r1:=IH a m mid ham hm3 (by omega) (by omega)
      generalize fzC l=C at*
      rw[o10 rfl T95 rfl]
      unfold F95 c95
      simp(disch:=first|omega|fail) only[push_cast,seval,vrl,if_pos,if_neg,nb8 hm1,nb8 hm2,q1,u1,u2,q2,q3]
      rw[e1]
      simp(disch:=first|omega|fail) only[push_cast,seval,vrl,if_pos,if_neg,hv,q5,r1]
     ·generalize fzC l=C at*
      rw[o10 rfl T95 rfl]
      unfold F95 c95
      simp(disch:=first|omega|fail) only[push_cast,seval,vrl,if_pos,if_neg,nb8 hm1,nb8 hm2,q1,u1,u2,q2,q3]
      rw[e1]
      simp(disch:=first|omega|fail) only[push_cast,seval,vrl,if_pos,if_neg,q5]
theorem pb3{no:Nat}(hs:SrtC l)(hl:l.length≤1000): ∀(k a:Nat),l.length-a≤k→a≤l.length→ ∃a':Nat,a'≤l.length∧ ∀ks,
 vgoL W ⟨hNo,[],1⟩ [0,1,2,6,7,8] c85L0 (.blk 0 [0,1,2,6,7]::ks) [(0, .own 0 []),(1, .x (.int .i64 l.length)),(2, .fn 75 []),(6, .x (.int .i64 20)),(7, .x (.int .i64 a)),(8, .x (.int .i64 (a+20:Nat)))] [.sl no 22 1 (fzC l)]=
  vgo W ⟨hNo,[],1⟩ ks (VFr.of [(0, .own 0 []),(1, .x (.int .i64 l.length)),(2, .fn 75 []),(6, .x (.int .i64 20)),(7, .x (.int .i64 a'))]) [.sl no 22 1 (fzC l)]
 |0,a,hk,ha=>by
  refine⟨a,ha,fun ks=> ?_⟩
  rw[sb5 c85L0.eq_def]
  generalize fzC l=C at*
  generalize l.length=N at*
  generalize hA:a+20=A at*
  simp(disch:=first|omega|fail) only[push_cast,seval,vrl,if_pos,if_neg]
 |k+1,a,hk,ha=>by
  by_cases h:a+20≤l.length
  ·have hv:=pz4 (l:=l) (by omega)
   have e1:=dn5 (no:=no) hs hl (a:=a) (b:=a+20) h (by omega)
   obtain⟨a',h1,ih⟩:=pb3 (no:=no) hs hl k (a+20) (by omega) h
   refine⟨a',h1,fun ks=> ?_⟩
   have ih:=ih ks
   rw[←ih,sb5 c85L0.eq_def]
   generalize fzC l=C at*
   generalize l.length=N at*
   generalize hA:a+20=A at*
   have e2:(A:Int)+20=((A+20:Nat):Int):=by omega
   generalize A+20=B at*
   simp(disch:=first|omega|fail) only[push_cast,seval,vrl,if_pos,if_neg,hv,e1,e2]
  ·refine⟨a,ha,fun ks=> ?_⟩
   rw[sb5 c85L0.eq_def]
   generalize fzC l=C at*
   generalize l.length=N at*
   generalize hA:a+20=A at*
   simp(disch:=first|omega|fail) only[push_cast,seval,vrl,if_pos,if_neg]
theorem wg0{no:Nat}(hs:SrtC l)(hl:l.length≤1000){bs:Nat}(h1:1≤bs)(hbs:bs≤4000): ∀(k a:Nat),l.length-a≤k→a≤l.length→ ∃a':Nat,a'≤l.length∧ ∀ks,
 vgoL W ⟨hNo,[],1⟩ [0,1,2,6,7,8] c85L1 (.blk 4 [0,1,2,6,7]::ks) [(0, .own 0 []),(1, .x (.int .i64 l.length)),(2, .fn 75 []),(6, .x (.int .i64 bs)),(7, .x (.int .i64 a)),(8, .x (.int .i64 (a+2*bs:Nat)))] [.sl no 22 1 (fzC l)]=
  vgo W ⟨hNo,[],1⟩ ks (VFr.of [(0, .own 0 []),(1, .x (.int .i64 l.length)),(2, .fn 75 []),(6, .x (.int .i64 bs)),(7, .x (.int .i64 a'))]) [.sl no 22 1 (fzC l)]
 |0,a,hk,ha=>by
  refine⟨a,ha,fun ks=> ?_⟩
  have hA0:l.length<a+2*bs:=by omega
  rw[sb5 c85L1.eq_def]
  generalize fzC l=C at*
  generalize l.length=N at*
  generalize hA:a+2*bs=A at*
  simp(disch:=first|omega|fail) only[push_cast,seval,vrl,if_pos,if_neg]
 |k+1,a,hk,ha=>by
  by_cases h:a+2*bs≤l.length
  ·have hv:=pz4 (l:=l) (by omega)
   have e1:=m98 (no:=no) hs hl (2*bs) a (a+bs) (a+2*bs) (by omega) (by omega) h (by omega)
   obtain⟨a',h1',ih⟩:=wg0 (no:=no) hs hl h1 hbs k (a+2*bs) (by omega) h
   refine⟨a',h1',fun ks=> ?_⟩
   have ih:=ih ks
   rw[←ih,sb5 c85L1.eq_def]
   generalize fzC l=C at*
   generalize l.length=N at*
   have e3:(a:Int)+(bs:Int)=((a+bs:Nat):Int):=by omega
   have e4:((a+2*bs:Nat):Int)+2*(bs:Int)=((a+2*bs+2*bs:Nat):Int):=by omega
   generalize a+bs=D at*
   generalize hB:a+2*bs+2*bs=B at*
   generalize hA:a+2*bs=A at*
   simp(disch:=first|omega|fail) only[push_cast,seval,vrl,if_pos,if_neg,hv,e3,e1,e4]
  ·refine⟨a,ha,fun ks=> ?_⟩
   rw[sb5 c85L1.eq_def]
   generalize fzC l=C at*
   generalize l.length=N at*
   generalize hA:a+2*bs=A at*
   simp(disch:=first|omega|fail) only[push_cast,seval,vrl,if_pos,if_neg]
theorem xm5{no:Nat}(hs:SrtC l)(hl:l.length≤1000): ∀(k bs:Nat),l.length-bs≤k→1≤bs→bs≤2000→ ∀ks,
 vgoL W ⟨hNo,[],1⟩ [0,1,2,6] c85L2 (.blk 2 []::ks) [(0, .own 0 []),(1, .x (.int .i64 l.length)),(2, .fn 75 []),(6, .x (.int .i64 bs))] [.sl no 22 1 (fzC l)]=
  vgo W ⟨hNo,[],1⟩ ks (VFr.of []) [.sl no 22 1 (fzC l)]
 |0,bs,hk,h1,h2,ks=>by
  rw[sb5 c85L2.eq_def]
  generalize fzC l=C at*
  generalize l.length=N at*
  simp(disch:=first|omega|fail) only[push_cast,seval,vrl,if_pos,if_neg]
 |k+1,bs,hk,h1,h2,ks=>by
  by_cases h:bs<l.length
  ·obtain⟨a',ha',e1⟩:=wg0 (no:=no) hs hl h1 (by omega) l.length 0 (by omega) (Nat.zero_le _)
   rw[Nat.zero_add,Int.natCast_zero]at e1
   have ih:=xm5 (no:=no) hs hl k (2*bs) (by omega) (by omega) (by omega) ks
   have e2:2*(bs:Int)=((2*bs:Nat):Int):=by omega
   have hv:=pz4 (l:=l) (by omega)
   have e5:(bs:Int)*2=((2*bs:Nat):Int):=by omega
   have e3:(a':Int)+(bs:Int)=((a'+bs:Nat):Int):=by omega
   by_cases hc:a'+bs<l.length
   ·have e4:=m98 (no:=no) hs hl l.length a' (a'+bs) l.length (by omega) hc (Nat.le_refl _) (by omega)
    rw[←ih,sb5 c85L2.eq_def]
    generalize fzC l=C at*
    generalize l.length=N at*
    generalize 2*bs=B2 at*
    generalize a'+bs=D at*
    simp(disch:=first|omega|fail) only[push_cast,seval,vrl,if_pos,if_neg,e2]
    rw[e1]
    simp(disch:=first|omega|fail) only[push_cast,seval,vrl,if_pos,if_neg,hv,e3,e4,e5]
   ·rw[←ih,sb5 c85L2.eq_def]
    generalize fzC l=C at*
    generalize l.length=N at*
    generalize 2*bs=B2 at*
    generalize a'+bs=D at*
    simp(disch:=first|omega|fail) only[push_cast,seval,vrl,if_pos,if_neg,e2]
    rw[e1]
    simp(disch:=first|omega|fail) only[push_cast,seval,vrl,if_pos,if_neg,e3,e5]
  ·rw[sb5 c85L2.eq_def]
   generalize fzC l=C at*
   generalize l.length=N at*
   simp(disch:=first|omega|fail) only[push_cast,seval,vrl,if_pos,if_neg]
theorem eo7{no:Nat}(hs:SrtC l)(hl:l.length≤1000):
 o25 W 85 [.own 0 [], .x (.int .i64 l.length), .fn 75 []] [.sl no 22 1 (fzC l)]=some (.tup [],[],[.sl no 22 1 (fzC l)]):=by
 obtain⟨a',ha',e1⟩:=pb3 (no:=no) hs hl l.length 0 (by omega) (Nat.zero_le _)
 rw[Nat.zero_add,Int.natCast_zero]at e1
 have e2:=dn5 (no:=no) hs hl (a:=a') (b:=l.length) (Nat.le_refl _) (by omega)
 have e3:=fun ks=>xm5 (no:=no) hs hl l.length 20 (by omega) (by omega) (by omega) ks
 rw[show((20:Nat):Int)=20 from rfl]at e1 e3
 generalize fzC l=C at*
 generalize l.length=N at*
 cases hv:C.all isV with
 |true=>
  rw[o10 rfl T85 rfl]
  unfold F85 c85
  simp(disch:=first|omega|fail) only[push_cast,seval,vrl,if_pos,if_neg]
  rw[e1]
  simp(disch:=first|omega|fail) only[push_cast,seval,vrl,if_pos,if_neg,hv,e2]
  rw[e3]
  simp(disch:=first|omega|fail) only[push_cast,seval,vrl,if_pos,if_neg]
 |false=>
  rw[o10 rfl T85 rfl]
  unfold F85 c85
  simp(disch:=first|omega|fail) only[push_cast,seval,vrl,if_pos,if_neg]
  rw[e1]
  simp(disch:=first|omega|fail) only[push_cast,seval,vrl,if_pos,if_neg,hv,e2]
  rw[e3]
  simp(disch:=first|omega|fail) only[push_cast,seval,vrl,if_pos,if_neg]
theorem pm3{no:Nat}(hs:SrtC l)(hl:l.length≤1000):
 o25 W 74 [.own 0 [], .fn 75 []] [.sl no 22 1 (fzC l)]=some (.tup [],[],[.sl no 22 1 (fzC l)]):=by
 have e1:=eo7 (no:=no) hs hl
 have hlen:=ef7 l
 generalize fzC l=C at*
 rw[o10 rfl T74 rfl]
 unfold F74 c74
 simp(disch:=first|omega|fail) only[push_cast,seval,vrl,if_pos,if_neg,hlen,e1]
end
set_option maxHeartbeats 2000000
theorem t85{p:Nat}: ∀(u w:List Int),digS p u→digS p w→u.length=w.length→valS p u≤valS p w→ ¬cmpE (w++[1]) (u++[1])<0
 | [],[],_,_,_,_=>by decide
 |a::u,c::w,hu,hw,hl,hv=>by
  have hl':u.length=w.length:=by simpa using hl
  have h1:=uc1 (l:=u) fun x hx=>hu x (by simp[hx])
  have h2:=uc1 (l:=w) fun x hx=>hw x (by simp[hx])
  have ha:=hu a (by simp)
  have hc:=hw c (by simp)
  rw[valS,valS,hl']at hv
  rw[hl']at h1
  generalize p^w.length=M at*
  have hac:a≤c:=by
   refine Classical.byContradiction fun h=> ?_
   have h5:(c.toNat+1)*M≤a.toNat*M:=Nat.mul_le_mul_right _ (by omega)
   rw[Nat.add_mul]at h5;omega
  rw[List.cons_append,List.cons_append,cmpE]
  by_cases h:c=a
  ·subst h
   rw[if_pos (by unfold cmpI;rw[if_neg (by omega),if_neg (by omega)])]
   exact t85 u w (fun x hx=>hu x (by simp[hx])) (fun x hx=>hw x (by simp[hx])) hl' (by omega)
  ·have e:cmpI c a=1:=by unfold cmpI;rw[if_neg (by omega),if_pos (by omega)]
   rw[e,if_neg (by decide)]
   decide
section
variable {q:Int} [IsFld q]
theorem vg3{x y:List (El q)}(hx:Mon x)(hy:Mon y)(h:Le x y): ¬cmpF (vs y) (vs x)<0:=by
 unfold cmpF
 rw[fi2,fi2]
 rcases h with h|⟨h1,h2⟩
 ·rw[if_neg (by omega)];omega
 ·rw[if_pos h1.symm]
  have e: ∀{z:List (El q)},Mon z→vs z=vs z.dropLast++[1]:=fun{z} hz=>by
   conv=>lhs;rw[←k85 hz]
   unfold vs;rw[List.map_append];rfl
  rw[e hx,e hy]
  exact t85 (p:=q.toNat) _ _ (by rw[bf6];exact oa6 _) (by rw[bf6];exact oa6 _) (by rw[fi2,fi2,List.length_dropLast,List.length_dropLast,h1]) h2
theorem oi0{L:List (List (El q))}(fl:List Nat)(hf:fl.length=L.length)(hm: ∀x∈L,Mon x∧x.length≤1000)(hp:L.Pairwise Le):SrtC (fl.zip (L.map vs)):=by
 have hat: ∀i,rowC (fl.zip (L.map vs)) i=vs (L.getD i []):=fun i=>by
  unfold rowC
  rw[List.getD_eq_getElem?_getD,List.getD_eq_getElem?_getD]
  by_cases h:i<L.length
  ·rw[List.getElem?_eq_getElem (by simp;omega),List.getElem?_eq_getElem h,Option.getD_some,Option.getD_some,List.getElem_zip,List.getElem_map]
  ·rw[List.getElem?_eq_none (by simp;omega),List.getElem?_eq_none (by omega)];rfl
 refine⟨fun i=> ?_,fun i j hij hj=> ?_⟩
 ·rw[hat,fi2,List.getD_eq_getElem?_getD]
  cases h:L[i]? with
  |none=>simp
  |some x=>exact(hm x (List.mem_of_getElem? h)).2
 ·rw[hat,hat]
  have hjl:j<L.length:=by simp at hj;omega
  have e: ∀{k:Nat} (hk:k<L.length),L.getD k []=L[k]:=fun{k} hk=>by rw[List.getD_eq_getElem?_getD,List.getElem?_eq_getElem hk];rfl
  rw[e hjl,e (by omega:i<L.length)]
  exact vg3 (hm _ (List.getElem_mem _)).1 (hm _ (List.getElem_mem _)).1 (List.pairwise_iff_getElem.1 hp i j (by omega) hjl hij)
theorem ei8{a:List (El q)}(ha:Trm a)(h0:a≠[]):Mon (monK a):=by
 have hp:0<a.length:=List.length_pos_iff.2 h0
 refine⟨fun e=> ?_, ?_⟩
 ·have:=r27 a;rw[e,List.length_nil]at this;omega
 ·rw[r27]
  unfold monK
  rw[qm4 (f:=fun x=>x*FK.inv (wf a (a.length-1))) (zero_mul _)]
  exact FK.mul_inv _ (ha (by omega))
theorem kd8{a0:List (El q)}: ∀(n d:Nat) (a:List (El q)) (L:List (List (El q))) (na no:Nat),d+n=130→1≤d→a.length≤128→L.length+a.length≤200→FacS a0 L a→(Low d 0 a∨Fin d a)→Mon a→
 ∃(a':List (El q)) (L':List (List (El q))) (na':Nat) (X:Rts),Fac a0 (L'++if 1<a'.length then [a']else [])∧Mon a'∧L'.length+a'.length≤L.length+a.length∧a'.length≤a.length∧ ∀ks,
 vgoL W ⟨h50,[.tmp 4, .tmp 5],0⟩ [0,1,6,9,10] c50L2 (.blk 0 [1,9]::ks) [(0, .x (.int .i64 q)),(1, .own 0 []),(6, .fz true (pF q)),(9, .own 1 []),(10, .x (.int .i64 d))] [.sl na 3 1 (ivs (vs a)), .sl no 22 1 (outT L)]=
  vgo W ⟨h50,[.tmp 4, .tmp 5],0⟩ ks (VFr.of [(1, .own 0 []),(9, .own 1 [])]) (.sl na' 3 1 (ivs (vs a')):: .sl no 22 1 (outT L')::X):=by
 intro n
 induction n with
 |zero=>
  intro d a L na no hd d1 h128 hL hS hP hm
  have hap:=hm.pos
  have w1:IntKind.wrap .i64 ((a.length:Int)-1)=((a.length-1:Nat):Int):=by rw[wrap64 (by omega) (by omega)];omega
  have hfin:Fin d a:=by
   rcases hP with h|h
   ·exact⟨d,_,Nat.le_refl _,h,by omega⟩
   ·exact h
  refine⟨a,L,na,[],hS.done hfin hm,hm,Nat.le_refl _,Nat.le_refl _,fun ks=> ?_⟩
  have c1: ¬2*(d:Int)≤((a.length-1:Nat):Int):=by omega
  rw[sb5 c50L2.eq_def]
  simp(disch:=first|omega|fail) only[push_cast,seval,vrl,if_pos,if_neg,w1,qc6 (Int.not_le.1 c1)]
 |succ n IH=>
  intro d a L na no hd d1 h128 hL hS hP hm
  have hap:=hm.pos
  have w1:IntKind.wrap .i64 ((a.length:Int)-1)=((a.length-1:Nat):Int):=by rw[wrap64 (by omega) (by omega)];omega
  by_cases ht:a.length<2*d+1
  ·have hfin:Fin d a:=by
    rcases hP with h|h
    ·exact⟨d,_,Nat.le_refl _,h,ht⟩
    ·exact h
   refine⟨a,L,na,[],hS.done hfin hm,hm,Nat.le_refl _,Nat.le_refl _,fun ks=> ?_⟩
   have c1: ¬2*(d:Int)≤((a.length-1:Nat):Int):=by omega
   rw[sb5 c50L2.eq_def]
   simp(disch:=first|omega|fail) only[push_cast,seval,vrl,if_pos,if_neg,w1,qc6 (Int.not_le.1 c1)]
  ·have c1:2*(d:Int)≤((a.length-1:Nat):Int):=by omega
   have hv0:valS q.toNat (vs (List.replicate d (0:El q)))=0:=by
    have h:=(Left.start (q:=q) (p:=q.toNat) bf6.symm d).h
    rw[List.length_replicate]at h
    have:0<q.toNat^d:=Nat.pow_pos (by have:=aw0 (q:=q);omega)
    omega
   obtain⟨a',L',na',X,r1,r2,r3,r4,r5,e2⟩:=jp0 (a0:=a0) (d:=d) d1 (by omega) (no:=no) _ (List.replicate d (0:El q)) a L na (Left.start bf6.symm d) (by simp) h128 hL hS (by rw[hv0];exact hP) hm
   obtain⟨a2,L2,na2,X2,s1,s2,s3,s4,ih⟩:=IH (d+1) a' L' na' no (by omega) (by omega) (by omega) (by omega) r1 r2 r3
   refine⟨a2,L2,na2,X2,s1,s2,by omega,by omega,fun ks=> ?_⟩
   have ih:=ih ks
   have e1:=fun b nl=>r52 (d:=d) (by omega) d1 b nl
   rw[show ivs [0]=[Tree.v (.int .i64 0)]from rfl]at e1
   have hz:List.replicate d (0:Int)=vs (List.replicate d (0:El q)):=by rw[←qj2];rfl
   rw[hz]at e1
   rw[Int.natCast_add,Int.natCast_one]at ih
   rw[←ih,sb5 c50L2.eq_def]
   simp(disch:=first|omega|fail) only[push_cast,seval,vrl,if_pos,if_neg,w1,nl3 c1,e1]
   rw[e2]
   simp(disch:=first|omega|fail) only[push_cast,seval,vrl,if_pos,if_neg]
theorem yw6{no:Nat}{l:List (Nat×List Int)}(hl:l.length≤1000)(hr: ∀i,(rowC l i).length≤1000): ∀(d i:Nat),i+d=l.length→ ∀ks,
 vgoL W ⟨h50,[.tmp 4, .tmp 5],0⟩ [9,90,91] c50L3 (.blk 4 [9]::ks) [(9, .own 0 []),(90, .x (.int .i64 l.length)),(91, .x (.int .i64 i))] [.sl no 22 1 (lls 2 ((l.take i).map Prod.snd)++fzC (l.drop i))]=
  vgo W ⟨h50,[.tmp 4, .tmp 5],0⟩ ks (VFr.of [(9, .own 0 [])]) [.sl no 22 1 (lls 2 (l.map Prod.snd))]
 |0,i,hi,ks=>by
  rw[oh9 (by omega),List.take_of_length_le (by omega),show fzC []=[]from rfl,List.append_nil,sb5 c50L3.eq_def]
  simp(disch:=first|omega|fail) only[push_cast,seval,vrl,if_pos,if_neg]
 |d+1,i,hi,ks=>by
  have ih:=yw6 (no:=no) hl hr d (i+1) (by omega) ks
  have hil:i<l.length:=by omega
  have hsnd:(l.map Prod.snd)[i]? =some (rowC l i):=by
   unfold rowC
   rw[List.getElem?_map,List.getD_eq_getElem?_getD,List.getElem?_eq_getElem hil];rfl
  obtain⟨C,hC⟩: ∃C,C=lls 2 ((l.take i).map Prod.snd)++fzC (l.drop i):=⟨_,rfl⟩
  have hpre:(lls 2 ((l.take i).map Prod.snd)).length=i:=by rw[qf0,List.length_map,List.length_take];omega
  have hlen:C.length=l.length:=by rw[hC,List.length_append,hpre,ef7,List.length_drop];omega
  have h1:C[i]? =some (.fz (.sl (flC l i) 0 1 (ivs (rowC l i)))):=by
   rw[hC,List.getElem?_append_right (by omega),hpre,Nat.sub_self,←q33 hil]
   unfold fzC
   rw[List.getElem?_map,List.getElem?_drop,Nat.add_zero,List.getElem?_map]
  have hset:C.set i (.sl 2 3 1 (ivs (rowC l i)))=lls 2 ((l.take (i+1)).map Prod.snd)++fzC (l.drop (i+1)):=by
   have hd:l.drop i=l[i]::l.drop (i+1):=List.drop_eq_getElem_cons hil
   have ht:l.take (i+1)=l.take i++[l[i]]:=by rw[List.take_add_one,List.getElem?_eq_getElem hil];rfl
   have hrow:rowC l i=l[i].2:=by unfold rowC;rw[List.getD_eq_getElem?_getD,List.getElem?_eq_getElem hil];rfl
   rw[hC,List.set_append_right _ _ (by omega),hpre,Nat.sub_self,hd,show fzC (l[i]::l.drop (i+1))= .fz (.sl l[i].1 0 1 (ivs l[i].2))::fzC (l.drop (i+1))from rfl,List.set_cons_zero,ht,List.map_append,hrow]
   unfold lls
   rw[List.map_append,List.append_assoc];rfl
  have e1:=fun b nl=>h20 (b:=b) (nl:=nl) (zs:=rowC l i) (by have:=hr i;omega)
  rw[←hset]at ih
  rw[←hC]
  rw[Int.natCast_add,Int.natCast_one]at ih
  have hj:(C.set i Tree.junk)[i]? =some Tree.junk:=List.getElem?_set_self (by omega)
  rw[←ih,sb5 c50L3.eq_def]
  generalize rowC l i=r at*
  generalize flC l i=f at*
  clear hC hset
  simp(disch:=first|omega|fail) only[push_cast,seval,vrl,if_pos,if_neg,h1,hlen,e1]
end
set_option maxHeartbeats 2000000
section
variable {q:Int} [IsFld q] {b:Bool} {nl:Nat}
theorem ep5{na:Nat}(L:List (List (El q)))(a:List (El q)):outT L++[.fz (.sl na 0 1 (ivs (vs a)))]=fzC (((List.replicate L.length 0)++[na]).zip ((L++[a]).map vs)):=by
 rw[List.map_append,List.zip_append (by simp)]
 unfold fzC outT
 rw[List.map_append]
 congr 1
 clear a
 induction L with
 |nil=>rfl
 |cons p L ih=>rw[List.map_cons,ih,List.length_cons,List.replicate_succ,List.map_cons,List.zip_cons_cons,List.map_cons]
theorem gy0(L:List (List (El q))):outT L=fzC ((List.replicate L.length 0).zip (L.map vs)):=by
 unfold fzC outT
 induction L with
 |nil=>rfl
 |cons p L ih=>rw[List.map_cons,ih,List.length_cons,List.replicate_succ,List.map_cons,List.zip_cons_cons,List.map_cons]
theorem sf7{A:List (El q)}(hA:A.length≤128)(h0:A≠[]):o25 W 71 [.x (.int .i64 q), .x (.int .i64 ((A.length-1:Nat):Int))] []=some (.x (.bool (fewQ q ((A.length-1)/2) 1)),[],[]):=
 p28 (by have:=aw0 (q:=q);omega) q_hi (by omega)
theorem kh8{a:List (El q)}(ha:a.length≤128)(h0:xa4 a≠[])(ht:fewQ q (((xa4 a).length-1)/2) 1=true): ∃L:List (List (El q)),Fac (monK (xa4 a)) L∧ ∀b nl,
 o25 W 50 [.x (.int .i64 q), .fz b (.sl nl 0 1 (ivs (vs a)))] []=some (.tup [.own 0 [], .x (.int .i64 0)],[.sl 1 22 1 (lls 2 (L.map vs))],[]):=by
 have e1:=fun b nl b' nl'=>ce8 (b:=b) (nl:=nl) (b':=b') (nl':=nl') ha (c:=([]:List (El q))) (by simp)
 simp only[n18,rp2,lz6]at e1
 have la:=tb1 a
 have htr:=t12 a
 generalize xa4 a=A at*
 have hp:0<A.length:=List.length_pos_iff.2 h0
 have hz: ¬(A.length:Int)=0:=by omega
 have w1:IntKind.wrap .i64 ((A.length:Int)-1)=((A.length-1:Nat):Int):=by rw[wrap64 (by omega) (by omega)];omega
 have e2:=sf7 (q:=q) (A:=A) (by omega) h0
 rw[ht]at e2
 have e2':=e2
 rw[show((A.length-1:Nat):Int)=(A.length:Int)-1 by omega]at e2'
 have e3:=h65 (q:=q) (nl:=nlT A) htr h0 (by omega)
 have hmon:=ei8 htr h0
 have hml:=r27 A
 obtain⟨a',L',na',X,r1,r2,r3,r4,e4⟩:=kd8 (a0:=monK A) 129 1 (monK A) [] (nlT A) 1 (by omega) (by omega) (by omega) (by simp;omega) (FacS.start _) (.inl (Low.start _)) hmon
 rw[show outT ([]:List (List (El q)))=[]from rfl]at e4
 simp only[Int.natCast_one]at e4
 obtain⟨s1,s2⟩:=r1.sorted
 have hLl:=r1.len
 have hlen1: ∀x∈(L'++if 1<a'.length then [a']else []),x.length≤1000:=fun x hx=>by
  obtain⟨i1,i2,c,i3,i4,i5⟩:=s1 x hx
  have:=lk3 i3 i1.trm i4 i1.ne
  have:=List.length_pos_iff.2 i4
  rw[i5,hml]at*
  omega
 by_cases h1:1<a'.length
 ·rw[if_pos h1]at r1 s1 s2 hLl hlen1
  refine⟨L'++[a'],r1,fun b nl=> ?_⟩
  have hsrt:=oi0 (L:=L'++[a']) (List.replicate L'.length 0++[na']) (by simp) (fun x hx=>⟨(s1 x hx).1,hlen1 x hx⟩) s2
  have hzl:((List.replicate L'.length 0++[na']).zip ((L'++[a']).map vs)).length=L'.length+1:=by simp
  have e5:=pm3 (no:=1) hsrt (by rw[hzl];simp at hLl;omega)
  have e6:=fun ks=>yw6 (no:=1) (l:=(List.replicate L'.length 0++[na']).zip ((L'++[a']).map vs)) (by rw[hzl];simp at hLl;omega) hsrt.len (L'.length+1) 0 (by rw[hzl];omega) ks
  have hsn:((List.replicate L'.length 0++[na']).zip ((L'++[a']).map vs)).map Prod.snd=(L'++[a']).map vs:=List.map_snd_zip (by simp)
  rw[hsn,List.take_zero,List.drop_zero,show lls 2 (([]:List (Nat×List Int)).map Prod.snd)=[]from rfl,List.nil_append,hzl]at e6
  have hol:=ck0 L'
  have h1':(1:Int)<(a'.length:Int):=by omega
  have hLl2:L'.length≤200:=by simp at hLl;omega
  simp only[Int.natCast_zero,Int.natCast_add,Int.natCast_one]at e6
  have hall:(fzC ((List.replicate L'.length 0++[na']).zip ((L'++[a']).map vs))).all isV=false:=by rw[←ep5];simp[isV]
  have hcl:(fzC ((List.replicate L'.length 0++[na']).zip ((L'++[a']).map vs))).length=L'.length+1:=by rw[ef7,hzl]
  generalize lls 2 ((L'++[a']).map vs)=RR at*
  rw[o10 rfl T50 rfl]
  unfold F50 c50
  simp(disch:=first|omega|fail) only[push_cast,seval,vrl,if_pos,if_neg,e1,List.tail_cons,nb8 hz,w1,e2,e2',e3]
  rw[e4]
  have hsX: ∀(c t:Tree),(X++[c]).set X.length t=X++[t]:=fun c t=>by simp
  have hx2: ∀(c d:Tree),(X++[c]++[d])[X.length+1]? =some d:=fun c d=>by simp
  have hs2: ∀(c d t:Tree),(X++[c]++[d]).set (X.length+1) t=X++[c]++[t]:=fun c d t=>by simp
  simp(disch:=first|omega|fail) only[push_cast,seval,vrl,if_pos,if_neg,dec_lt h1',List.append_nil,List.getElem?_concat_length,hx2,hs2,hsX,ep5,hol,hLl2,e5,hall,hcl]
  rw[e6]
  simp(disch:=first|omega|fail) only[push_cast,seval,vrl,if_pos,if_neg]
 ·rw[if_neg h1,List.append_nil]at r1 s1 s2 hLl hlen1
  refine⟨L',r1,fun b nl=> ?_⟩
  have hsrt:=oi0 (L:=L') (List.replicate L'.length 0) (by simp) (fun x hx=>⟨(s1 x hx).1,hlen1 x hx⟩) s2
  have hzl:((List.replicate L'.length 0).zip (L'.map vs)).length=L'.length:=by simp
  have e5:=pm3 (no:=1) hsrt (by rw[hzl];omega)
  have e6:=fun ks=>yw6 (no:=1) (l:=(List.replicate L'.length 0).zip (L'.map vs)) (by rw[hzl];omega) hsrt.len L'.length 0 (by rw[hzl];omega) ks
  have hsn:((List.replicate L'.length 0).zip (L'.map vs)).map Prod.snd=L'.map vs:=List.map_snd_zip (by simp)
  rw[hsn,List.take_zero,List.drop_zero,show lls 2 (([]:List (Nat×List Int)).map Prod.snd)=[]from rfl,List.nil_append,hzl]at e6
  rw[←gy0]at e5 e6
  have hol:=ck0 L'
  have h1': ¬(1:Int)<(a'.length:Int):=by omega
  simp only[Int.natCast_zero]at e6
  generalize lls 2 (L'.map vs)=RR at*
  generalize outT L'=CC at*
  rw[o10 rfl T50 rfl]
  unfold F50 c50
  cases hall:CC.all isV with
  |true=>
   simp(disch:=first|omega|fail) only[push_cast,seval,vrl,if_pos,if_neg,e1,List.tail_cons,nb8 hz,w1,e2,e2',e3]
   rw[e4]
   simp(disch:=first|omega|fail) only[push_cast,seval,vrl,if_pos,if_neg,cw6 (Int.not_lt.1 h1'),hol,e5,hall]
   rw[e6]
   simp(disch:=first|omega|fail) only[push_cast,seval,vrl,if_pos,if_neg]
  |false=>
   simp(disch:=first|omega|fail) only[push_cast,seval,vrl,if_pos,if_neg,e1,List.tail_cons,nb8 hz,w1,e2,e2',e3]
   rw[e4]
   simp(disch:=first|omega|fail) only[push_cast,seval,vrl,if_pos,if_neg,cw6 (Int.not_lt.1 h1'),hol,e5,hall]
   rw[e6]
   simp(disch:=first|omega|fail) only[push_cast,seval,vrl,if_pos,if_neg]
theorem se7{a:List (El q)}(ha:a.length≤128)(h0:xa4 a=[]):
 o25 W 50 [.x (.int .i64 q), .fz b (.sl nl 0 1 (ivs (vs a)))] []=some (.tup [.own 0 [], .x (.int .i64 5)],[.sl 1 22 1 []],[]):=by
 have e1:=fun b nl b' nl'=>ce8 (b:=b) (nl:=nl) (b':=b') (nl':=nl') ha (c:=([]:List (El q))) (by simp)
 simp only[h0,n18,rp2,lz6]at e1
 rw[o10 rfl T50 rfl]
 unfold F50 c50
 simp(disch:=first|omega|fail) only[push_cast,seval,vrl,if_pos,if_neg,e1,List.tail_cons]
theorem ii8{a:List (El q)}(ha:a.length≤128)(h0:xa4 a≠[])(ht:fewQ q (((xa4 a).length-1)/2) 1=false):
 o25 W 50 [.x (.int .i64 q), .fz b (.sl nl 0 1 (ivs (vs a)))] []=some (.tup [.own 0 [], .x (.int .i64 4)],[.sl 1 22 1 []],[]):=by
 have e1:=fun b nl b' nl'=>ce8 (b:=b) (nl:=nl) (b':=b') (nl':=nl') ha (c:=([]:List (El q))) (by simp)
 simp only[n18,rp2,lz6]at e1
 have la:=tb1 a
 generalize xa4 a=A at*
 have hp:0<A.length:=List.length_pos_iff.2 h0
 have hz: ¬(A.length:Int)=0:=by omega
 have w1:IntKind.wrap .i64 ((A.length:Int)-1)=((A.length-1:Nat):Int):=by rw[wrap64 (by omega) (by omega)];omega
 have e2:=sf7 (q:=q) (A:=A) (by omega) h0
 rw[ht]at e2
 have e2':=e2
 rw[show((A.length-1:Nat):Int)=(A.length:Int)-1 by omega]at e2'
 rw[o10 rfl T50 rfl]
 unfold F50 c50
 simp(disch:=first|omega|fail) only[push_cast,seval,vrl,if_pos,if_neg,e1,List.tail_cons,nb8 hz,w1,e2,e2']
end
section
variable {q:Int} {b:Bool} {nl:Nat}
theorem y38{a:List Int}(ha:a.length≤9223372036854775807)(he:polE q a≠0):
 o25 W 50 [.x (.int .i64 q), .fz b (.sl nl 0 1 (ivs a))] []=some (.tup [.own 0 [], .x (.int .i64 (polE q a))],[.sl 1 22 1 []],[]):=by
 have hb:tc9 q a []=polE q a:=by unfold tc9;rw[if_neg he]
 have e1:=fun b nl b' nl'=>qh9 (q:=q) (b:=b) (nl:=nl) (b':=b') (nl':=nl') ha (c:=[]) (by simp) (by rw[hb];exact he)
 simp only[hb,lz6]at e1
 rw[o10 rfl T50 rfl]
 unfold F50 c50
 simp(disch:=first|omega|fail) only[push_cast,seval,vrl,if_pos,if_neg,e1,List.tail_cons,nb8 he]
end
section
variable {q:Int}
theorem k74{l:List Int}{L:List (List Int)}{e:Int}{no:Nat}(hL:L.length≤100000)(h: ∀b nl,o25 W 50 [.x (.int .i64 q), .fz b (.sl nl 0 1 (ivs l))] []=some (.tup [.own 0 [], .x (.int .i64 e)],[.sl no 22 1 (lls 2 L)],[]))(b:Bool)(nl:Nat):
 o25 W 51 [.x (.int .i64 q), .fz b (.sl nl 0 1 (ivs l))] []=some (.tup [.x (.bool (decide ((L.length:Int)=1))), .x (.int .i64 e)],[],[]):=by
 rw[o10 rfl T51 rfl]
 unfold F51 c51
 have hll:=qf0 2 L
 simp(disch:=first|omega|fail) only[push_cast,seval,vrl,if_pos,if_neg,h,hll]
end
set_option maxHeartbeats 2000000
section
variable {q p m g:Int} [IsFld q] {t:Tree} {d:Nat} {a0:List (El q)}
theorem da4(u:RFo q p m g t)(hd:1≤d)(hd2:d≤128){z:List (El q)}(hz:z.length=d): ∀(n:Nat) (a:List (El q)) (L:List (List (El q))) (na:Nat),a.length≤n→a.length≤128→L.length+a.length≤200→FacS a0 L a→Low d (valS q.toNat (vs z)) a→Mon a→
 ∃(a':List (El q)) (L':List (List (El q))) (na':Nat),FacS a0 L' a'∧Low d (valS q.toNat (vs z)+1) a'∧Mon a'∧L'.length+a'.length≤L.length+a.length∧a'.length≤a.length∧ ∀ks,
 vgoL W ⟨h48,[.tmp 4],0⟩ [1,2,5,6,7,8] c48L0 (.blk 2 [1,2,5,6]::ks) [(1, .own 0 []),(2, .own 1 []),(5, .own 2 []),(6, .x (.int .i64 d)),(7, .own 3 []),(8, .x (.bool true))] [.sl na 3 1 (ivs (vs a)), .pt 26 [.v (.int .i64 q), .v (.int .i64 p), .v (.int .i64 m), .v (.int .i64 g), .fz t], .sl 1 22 1 (lls 2 (L.map vs)), .sl 0 3 1 (ivs (vs z))]=
  vgoL W ⟨h48,[.tmp 4],0⟩ [1,2,5,6,7,8] c48L0 (.blk 2 [1,2,5,6]::ks) [(1, .own 0 []),(2, .own 1 []),(5, .own 2 []),(6, .x (.int .i64 d)),(7, .own 3 []),(8, .x (.bool ((qr3 q (vs z)).2)))] [.sl na' 3 1 (ivs (vs a')), .pt 26 [.v (.int .i64 q), .v (.int .i64 p), .v (.int .i64 m), .v (.int .i64 g), .fz t], .sl 1 22 1 (lls 2 (L'.map vs)), .sl 0 3 1 (ivs (qr3 q (vs z)).1)]
 |0,a,L,na,hn,h128,hL,hS,hP,hm=>by have:=hm.pos;omega
 |n+1,a,L,na,hn,h128,hL,hS,hP,hm=>by
  have hap:=hm.pos
  have hq:=q_hi (q:=q)
  have hpm:=yv4 z
  have hpl:(z++[1]).length=d+1:=by simp;omega
  have e1:=fun b nl b' nl'=>jr0 (b:=b) (nl:=nl) (b':=b') (nl':=nl') (a0:=a) hpm.trm hpm.ne (by omega) (by omega)
  simp only[ou7 hm.trm]at e1
  rw[u.e]at e1
  have e0:=fun b nl=>xr6 (b:=b) (nl:=nl) (l:=vs z) (by rw[fi2];omega)
  have hzl:=fi2 z
  have ht:=u.n
  have ho:=u.o
  obtain⟨k1,k2⟩:=dv6 hm.trm hm.ne hpm.trm hpm.ne
  by_cases hr:remP a (z++[1])=[]
  ·obtain⟨g1,g2,g3⟩:=k1 hr
   obtain⟨f1,f2,f3,f4⟩:=hS.push hP hz hd hm g2 g3 g1
   have hal:d+1≤a.length:=by
    have h1:=lk3 g2 hpm.trm g3 hpm.ne
    rw[g1]at h1
    have:=List.length_pos_iff.2 g3
    omega
   obtain⟨a',L',na',r1,r2,r3,r4,r5,ih⟩:=da4 u hd hd2 hz n (quoP a (z++[1])) (L++[z++[1]]) 0 (by omega) (by omega) (by simp;omega) f1 f2 f3
   refine⟨a',L',na',r1,r2,r3,by simp at r4;omega,by omega,fun ks=> ?_⟩
   have hLl:(L.map vs).length≤200:=by rw[List.length_map];omega
   have hda:(d:Int)<(a.length:Int):=by omega
   have happ:lls 2 (L.map vs)++[.sl 2 3 1 (ivs (vs (z++[1])))]=lls 2 ((L++[z++[1]]).map vs):=by unfold lls;rw[List.map_append,List.map_append];rfl
   have hll:=qf0 2 (L.map vs)
   rw[hr]at e1
   rw[←ih ks,sb5 c48L0.eq_def]
   generalize lls 2 (L.map vs)=C at*
   simp(disch:=first|omega|fail) only[push_cast,seval,vrl,if_pos,if_neg,ht,ho,e0,hzl,←uq1,e1,dec_lt hda,happ,hll,hLl]
  ·have e3:=ll0 (nl:=0) (q:=q) (z:=vs z) (by omega) (by rw[fi2];omega) (oa6 z)
   refine⟨a,L,na,hS,hP.skip hz fun h=>hr (k2 h),hm,Nat.le_refl _,Nat.le_refl _,fun ks=> ?_⟩
   have hrl: ¬((remP a (z++[1])).length:Int)=0:=by have:=List.length_pos_iff.2 hr;omega
   rw[sb5 c48L0.eq_def]
   generalize remP a (z++[1])=R at*
   generalize (qr3 q (vs z)).1=Z1 at*
   generalize (qr3 q (vs z)).2=B1 at*
   generalize lls 2 (L.map vs)=C at*
   simp(disch:=first|omega|fail) only[push_cast,seval,vrl,if_pos,if_neg,ht,ho,e0,hzl,←uq1,e1,nb8 hrl,e3]
theorem ie3{na:Nat}{a:List (El q)}{C Z:List Tree}(ks):
 vgoL W ⟨h48,[.tmp 4],0⟩ [1,2,5,6,7,8] c48L0 (.blk 2 [1,2,5,6]::ks) [(1, .own 0 []),(2, .own 1 []),(5, .own 2 []),(6, .x (.int .i64 d)),(7, .own 3 []),(8, .x (.bool false))] [.sl na 3 1 (ivs (vs a)), .pt 26 [.v (.int .i64 q), .v (.int .i64 p), .v (.int .i64 m), .v (.int .i64 g), .fz t], .sl 1 22 1 C, .sl 0 3 1 Z]=
  vgo W ⟨h48,[.tmp 4],0⟩ ks (VFr.of [(1, .own 0 []),(2, .own 1 []),(5, .own 2 []),(6, .x (.int .i64 d))]) [.sl na 3 1 (ivs (vs a)), .pt 26 [.v (.int .i64 q), .v (.int .i64 p), .v (.int .i64 m), .v (.int .i64 g), .fz t], .sl 1 22 1 C, .sl 0 3 1 Z]:=by
 rw[sb5 c48L0.eq_def]
 simp(disch:=first|omega|fail) only[push_cast,seval,vrl,if_pos,if_neg]
theorem ne0(u:RFo q p m g t)(hd:1≤d)(hd2:d≤128): ∀(n:Nat) (z:List (El q)) (a:List (El q)) (L:List (List (El q))) (na:Nat),Left q q.toNat n z→z.length=d→a.length≤128→L.length+a.length≤200→FacS a0 L a→Low d (valS q.toNat (vs z)) a→Mon a→
 ∃(a':List (El q)) (L':List (List (El q))) (na':Nat) (T:Tree),FacS a0 L' a'∧Low (d+1) 0 a'∧Mon a'∧L'.length+a'.length≤L.length+a.length∧a'.length≤a.length∧ ∀ks,
 vgoL W ⟨h48,[.tmp 4],0⟩ [1,2,5,6,7,8] c48L0 (.blk 2 [1,2,5,6]::ks) [(1, .own 0 []),(2, .own 1 []),(5, .own 2 []),(6, .x (.int .i64 d)),(7, .own 3 []),(8, .x (.bool true))] [.sl na 3 1 (ivs (vs a)), .pt 26 [.v (.int .i64 q), .v (.int .i64 p), .v (.int .i64 m), .v (.int .i64 g), .fz t], .sl 1 22 1 (lls 2 (L.map vs)), .sl 0 3 1 (ivs (vs z))]=
  vgo W ⟨h48,[.tmp 4],0⟩ ks (VFr.of [(1, .own 0 []),(2, .own 1 []),(5, .own 2 []),(6, .x (.int .i64 d))]) [.sl na' 3 1 (ivs (vs a')), .pt 26 [.v (.int .i64 q), .v (.int .i64 p), .v (.int .i64 m), .v (.int .i64 g), .fz t], .sl 1 22 1 (lls 2 (L'.map vs)),T]:=by
 intro n
 induction n with
 |zero=>
  intro z a L na hl hz h128 hL hS hP hm
  obtain⟨a',L',na',r1,r2,r3,r4,r5,e⟩:=da4 (a0:=a0) u hd hd2 hz _ a L na (Nat.le_refl _) h128 hL hS hP hm
  have hv:=hl.h
  refine⟨a',L',na', .sl 0 3 1 (ivs (qr3 q (vs z)).1),r1,r2.next (by rw[←hz];omega),r3,r4,r5,fun ks=> ?_⟩
  rw[e,hl.last,ie3]
 |succ n IH=>
  intro z a L na hl hz h128 hL hS hP hm
  obtain⟨a',L',na',r1,r2,r3,r4,r5,e⟩:=da4 (a0:=a0) u hd hd2 hz _ a L na (Nat.le_refl _) h128 hL hS hP hm
  obtain⟨hmore,hnx⟩:=hl.more
  have hv:=hl.h
  have hv2:=hnx.h
  have hnl:=l71 (q:=q) z
  rw[hnl]at hv2
  obtain⟨a2,L2,na2,T,s1,s2,s3,s4,s5,ih⟩:=IH (yv5 z) a' L' na' hnx (by rw[hnl,hz]) (by omega) (by omega) r1 (by rw[show valS q.toNat (vs (yv5 z))=valS q.toNat (vs z)+1 by omega];exact r2) r3
  refine⟨a2,L2,na2,T,s1,s2,s3,by omega,by omega,fun ks=> ?_⟩
  rw[e,hmore,←ih ks,mw7]
theorem at8(u:RFo q p m g t): ∀(n d:Nat) (a:List (El q)) (L:List (List (El q))) (na:Nat),d+n=130→1≤d→a.length≤128→L.length+a.length≤200→FacS a0 L a→Low d 0 a→Mon a→
 ∃(a':List (El q)) (L':List (List (El q))) (na':Nat) (X:Rts),Fac a0 (L'++if 1<a'.length then [a']else [])∧Mon a'∧L'.length+a'.length≤L.length+a.length∧a'.length≤a.length∧ ∀ks,
 vgoL W ⟨h48,[.tmp 4],0⟩ [1,2,5,6] c48L1 (.blk 0 [1,5]::ks) [(1, .own 0 []),(2, .own 1 []),(5, .own 2 []),(6, .x (.int .i64 d))] [.sl na 3 1 (ivs (vs a)), .pt 26 [.v (.int .i64 q), .v (.int .i64 p), .v (.int .i64 m), .v (.int .i64 g), .fz t], .sl 1 22 1 (lls 2 (L.map vs))]=
  vgo W ⟨h48,[.tmp 4],0⟩ ks (VFr.of [(1, .own 0 []),(5, .own 2 [])]) (.sl na' 3 1 (ivs (vs a')):: .pt 26 [.v (.int .i64 q), .v (.int .i64 p), .v (.int .i64 m), .v (.int .i64 g), .fz t]:: .sl 1 22 1 (lls 2 (L'.map vs))::X):=by
 intro n
 induction n with
 |zero=>
  intro d a L na hd d1 h128 hL hS hP hm
  refine⟨a,L,na,[],hS.done ⟨d,0,Nat.le_refl _,hP,by omega⟩ hm,hm,Nat.le_refl _,Nat.le_refl _,fun ks=> ?_⟩
  have c1: ¬(d:Int)<(a.length:Int):=by omega
  rw[sb5 c48L1.eq_def]
  simp(disch:=first|omega|fail) only[push_cast,seval,vrl,if_pos,if_neg,cw6 (Int.not_lt.1 c1)]
 |succ n IH=>
  intro d a L na hd d1 h128 hL hS hP hm
  have hap:=hm.pos
  have w1:IntKind.wrap .i64 ((a.length:Int)-1)=((a.length-1:Nat):Int):=by rw[wrap64 (by omega) (by omega)];omega
  by_cases hdl:d<a.length
  ·have c0:(d:Int)<(a.length:Int):=by omega
   by_cases htt:a.length<2*d+1
   ·refine⟨a,L,na,[],hS.done ⟨d,0,Nat.le_refl _,hP,htt⟩ hm,hm,Nat.le_refl _,Nat.le_refl _,fun ks=> ?_⟩
    have c1:((a.length-1:Nat):Int)<2*(d:Int):=by omega
    rw[sb5 c48L1.eq_def]
    simp(disch:=first|omega|fail) only[push_cast,seval,vrl,if_pos,if_neg,dec_lt c0,w1,dec_lt c1]
   ·have c1: ¬((a.length-1:Nat):Int)<2*(d:Int):=by omega
    have hv0:valS q.toNat (vs (List.replicate d (0:El q)))=0:=by
     have h:=(Left.start (q:=q) (p:=q.toNat) bf6.symm d).h
     rw[List.length_replicate]at h
     have:0<q.toNat^d:=Nat.pow_pos (by have:=aw0 (q:=q);omega)
     omega
    obtain⟨a',L',na',T,r1,r2,r3,r4,r5,e⟩:=ne0 (a0:=a0) (d:=d) u d1 (by omega) _ (List.replicate d (0:El q)) a L na (Left.start bf6.symm d) (by simp) h128 hL hS (by rw[hv0];exact hP) hm
    obtain⟨a2,L2,na2,X2,s1,s2,s3,s4,ih⟩:=IH (d+1) a' L' na' (by omega) (by omega) (by omega) (by omega) r1 r2 r3
    refine⟨a2,L2,na2,X2,s1,s2,by omega,by omega,fun ks=> ?_⟩
    have ih:=ih ks
    have hz:List.replicate d (0:Int)=vs (List.replicate d (0:El q)):=by rw[←qj2];rfl
    rw[←hz]at e
    rw[Int.natCast_add,Int.natCast_one]at ih
    have hd9:d≤300:=by omega
    rw[←ih,sb5 c48L1.eq_def]
    simp(disch:=first|omega|fail) only[push_cast,seval,vrl,if_pos,if_neg,dec_lt c0,w1,cw6 (Int.not_lt.1 c1),cs7]
    rw[e]
    simp(disch:=first|omega|fail) only[push_cast,seval,vrl,if_pos,if_neg]
  ·refine⟨a,L,na,[],hS.done ⟨d,0,Nat.le_refl _,hP,by omega⟩ hm,hm,Nat.le_refl _,Nat.le_refl _,fun ks=> ?_⟩
   have c0: ¬(d:Int)<(a.length:Int):=by omega
   rw[sb5 c48L1.eq_def]
   simp(disch:=first|omega|fail) only[push_cast,seval,vrl,if_pos,if_neg,cw6 (Int.not_lt.1 c0)]
end
set_option maxHeartbeats 2000000
section
variable {b b':Bool} {nl nl':Nat} {x y:List Int}
theorem gg6(hl:x.length≤1000000)(hxy:x.length=y.length): ∀(d i:Nat),i+d=x.length→ ∀ks,
 vgoL W ⟨hNo,[.tmp 4],0⟩ [0,1,5] c69L0 (.blk 0 [0,1]::ks) [(0, .fz b (.sl nl 0 1 (ivs x))),(1, .fz b' (.sl nl' 0 1 (ivs y))),(5, .x (.int .i64 i))] []=
  if cmpE (x.drop i) (y.drop i)=0 then vgo W ⟨hNo,[.tmp 4],0⟩ ks (VFr.of [(0, .fz b (.sl nl 0 1 (ivs x))),(1, .fz b' (.sl nl' 0 1 (ivs y)))]) []else some (.x (.bool (decide (cmpE (x.drop i) (y.drop i)<0))),[],[])
 |0,i,hi,ks=>by
  have hyl:y.length=x.length:=hxy.symm
  rw[oh9 (by omega),oh9 (by omega),cmpE.eq_2 _ _ (by intro _ _ _ _ h;cases h),if_pos rfl,sb5 c69L0.eq_def]
  simp(disch:=first|omega|fail) only[push_cast,seval,vrl,if_pos,if_neg,hyl]
 |d+1,i,hi,ks=>by
  have ih:=gg6 hl hxy d (i+1) (by omega) ks
  obtain⟨a,ha⟩:=ge6 (l:=x) (i:=i) (by omega)
  obtain⟨c,hc⟩:=ge6 (l:=y) (i:=i) (by omega)
  have h1:=iat ha
  have h2:=iat hc
  have hyl:y.length=x.length:=hxy.symm
  have hlt:(i:Int)<(x.length:Int):=by omega
  rw[i62 ha,i62 hc,cmpE]
  rw[Int.natCast_add,Int.natCast_one]at ih
  by_cases h:a=c
  ·subst h
   have e:cmpI a a=0:=by unfold cmpI;rw[if_neg (by omega),if_neg (by omega)]
   rw[if_pos e,←ih,sb5 c69L0.eq_def]
   simp(disch:=first|omega|fail) only[push_cast,seval,vrl,if_pos,if_neg,dec_lt hlt,h1,h2,hyl]
  ·have e:cmpI a c≠0:=by
    unfold cmpI
    by_cases h3:a<c
    ·rw[if_pos h3];decide
    ·rw[if_neg h3,if_pos (by omega)];decide
   have e2:decide (cmpI a c<0)=decide (a<c):=by
    unfold cmpI
    by_cases h3:a<c
    ·rw[if_pos h3,decide_eq_true h3];rfl
    ·rw[if_neg h3,if_pos (by omega),decide_eq_false h3];rfl
   rw[if_neg e,if_neg e,e2,sb5 c69L0.eq_def]
   simp(disch:=first|omega|fail) only[push_cast,seval,vrl,if_pos,if_neg,dec_lt hlt,h1,h2,hyl,nb8 h]
theorem l65(hl:x.length≤1000000)(hxy:x.length=y.length):o25 W 69 [.fz b (.sl nl 0 1 (ivs x)), .fz b' (.sl nl' 0 1 (ivs y))] []=some (.x (.bool (decide (cmpE x y<0))),[],[]):=by
 have e:=fun ks=>gg6 (b:=b) (b':=b') (nl:=nl) (nl':=nl') hl hxy x.length 0 (by omega) ks
 simp only[List.drop_zero,Int.natCast_zero]at e
 have hyl:y.length=x.length:=hxy.symm
 rw[o10 rfl T69 rfl]
 unfold F69 c69
 simp(disch:=first|omega|fail) only[push_cast,seval,vrl,if_pos,if_neg]
 rw[e]
 by_cases h:cmpE x y=0
 ·rw[if_pos h,h]
  simp(disch:=first|omega|fail) only[push_cast,seval,vrl,if_pos,if_neg,hyl]
 ·rw[if_neg h]
end
structure SrtR (l:List (List Int)):Prop where
 len: ∀i,(nth l i).length≤1000
 ord: ∀i j,i<j→j<l.length→ ¬cmpF (nth l j) (nth l i)<0
section
variable {no:Nat} {l:List (List Int)}
theorem vc8{no:Nat}(hs:SrtR l)(hl:l.length≤1000){i k:Nat}(hk:k<l.length)(ks):
 vgoL W ⟨h48,[.tmp 4],0⟩ [5,12,13] c48L2 (.blk 6 [5,12]::ks) [(5, .own 0 []),(12, .x (.int .i64 i)),(13, .x (.int .i64 k))] [.sl no 22 1 (lls 2 l)]=
  vgo W ⟨h48,[.tmp 4],0⟩ ks (VFr.of [(5, .own 0 []),(12, .x (.int .i64 i))]) [.sl no 22 1 (lls 2 l)]:=by
 have hlen:=qf0 2 l
 rw[sb5 c48L2.eq_def]
 by_cases h:0<k
 ·have e0:(k:Int)-1=((k-1:Nat):Int):=by omega
  have l1:(lls 2 l)[k]? =some (.sl 2 3 1 (ivs (nth l k))):=th8 (gu3 hk)
  have l2:(lls 2 l)[k-1]? =some (.sl 2 3 1 (ivs (nth l (k-1)))):=th8 (gu3 (by omega))
  have hn:=hs.ord (k-1) k (by omega) hk
  have n1:=hs.len k
  have n2:=hs.len (k-1)
  have hk0:(0:Int)<(k:Int):=by omega
  have hk1:k-1<l.length:=by omega
  generalize nth l k=r1 at*
  generalize nth l (k-1)=r2 at*
  generalize k-1=k1 at*
  unfold cmpF at hn
  by_cases hle:r1.length=r2.length
  ·rw[if_pos hle]at hn
   have e1:=fun b nl b' nl'=>l65 (b:=b) (nl:=nl) (b':=b') (nl':=nl') (x:=r1) (y:=r2) (by omega) hle
   rw[decide_eq_false hn]at e1
   have hl1: ¬(r1.length:Int)<(r2.length:Int):=by omega
   have hl2:(r1.length:Int)=(r2.length:Int):=by omega
   generalize lls 2 l=C at*
   simp(disch:=first|omega|fail) only[push_cast,seval,vrl,if_pos,if_neg,dec_lt hk0,e0,l1,l2,hlen,cw6 (Int.not_lt.1 hl1),mr8 hl2,e1]
  ·rw[if_neg hle]at hn
   have hl1: ¬(r1.length:Int)<(r2.length:Int):=by omega
   have hl2: ¬(r1.length:Int)=(r2.length:Int):=by omega
   generalize lls 2 l=C at*
   simp(disch:=first|omega|fail) only[push_cast,seval,vrl,if_pos,if_neg,dec_lt hk0,e0,l1,l2,hlen,cw6 (Int.not_lt.1 hl1),nb8 hl2]
 ·obtain rfl:k=0:=by omega
  generalize lls 2 l=C at*
  simp(disch:=first|omega|fail) only[push_cast,seval,vrl,if_pos,if_neg]
theorem aj4{no:Nat}(hs:SrtR l)(hl:l.length≤1000): ∀(d i:Nat),i+d=l.length→ ∀ks,
 vgoL W ⟨h48,[.tmp 4],0⟩ [5,12] c48L3 (.blk 4 [5]::ks) [(5, .own 0 []),(12, .x (.int .i64 i))] [.sl no 22 1 (lls 2 l)]=
  vgo W ⟨h48,[.tmp 4],0⟩ ks (VFr.of [(5, .own 0 [])]) [.sl no 22 1 (lls 2 l)]
 |0,i,hi,ks=>by
  have hlen:=qf0 2 l
  rw[sb5 c48L3.eq_def]
  generalize lls 2 l=C at*
  simp(disch:=first|omega|fail) only[push_cast,seval,vrl,if_pos,if_neg,hlen]
 |d+1,i,hi,ks=>by
  have hlen:=qf0 2 l
  have ih:=aj4 (no:=no) hs hl d (i+1) (by omega) ks
  have e1:=fun ks=>vc8 (no:=no) hs hl (i:=i) (k:=i) (by omega) ks
  rw[Int.natCast_add,Int.natCast_one]at ih
  have hlt:(i:Int)<(l.length:Int):=by omega
  rw[←ih,sb5 c48L3.eq_def]
  generalize lls 2 l=C at*
  simp(disch:=first|omega|fail) only[push_cast,seval,vrl,if_pos,if_neg,hlen,dec_lt hlt]
  rw[e1]
  simp(disch:=first|omega|fail) only[push_cast,seval,vrl,if_pos,if_neg]
end
section
variable {q:Int} [IsFld q] {b:Bool} {nl:Nat}
theorem uv0{L:List (List (El q))}(hm: ∀x∈L,Mon x∧x.length≤1000)(hp:L.Pairwise Le):SrtR (L.map vs):=by
 have hat: ∀i,nth (L.map vs) i=vs (L.getD i []):=fun i=>by
  unfold nth
  rw[List.getD_eq_getElem?_getD,List.getD_eq_getElem?_getD,List.getElem?_map]
  cases L[i]? <;>rfl
 refine⟨fun i=> ?_,fun i j hij hj=> ?_⟩
 ·rw[hat,fi2,List.getD_eq_getElem?_getD]
  cases h:L[i]? with
  |none=>simp
  |some x=>exact(hm x (List.mem_of_getElem? h)).2
 ·rw[hat,hat]
  have hjl:j<L.length:=by simpa using hj
  have e: ∀{k:Nat} (hk:k<L.length),L.getD k []=L[k]:=fun{k} hk=>by rw[List.getD_eq_getElem?_getD,List.getElem?_eq_getElem hk];rfl
  rw[e hjl,e (by omega:i<L.length)]
  exact vg3 (hm _ (List.getElem_mem _)).1 (hm _ (List.getElem_mem _)).1 (List.pairwise_iff_getElem.1 hp i j (by omega) hjl hij)
theorem vb8{a:List (El q)}(ha:a.length≤128)(h0:xa4 a≠[]): ∃L:List (List (El q)),Fac (monK (xa4 a)) L∧
 o25 W 48 [.agg (rFs q), .fz b (.sl nl 0 1 (ivs (vs a)))] []=some (.own 0 [],[.sl 1 22 1 (lls 2 (L.map vs))],[]):=by
 obtain⟨p,m,g,t,u⟩:=k75 q
 obtain⟨n,e1⟩:=ge0 (q:=q) (b:=b) (nl:=nl) (a:=a) (by omega)
 have la:=tb1 a
 have htr:=t12 a
 have ht:=u.n
 have ho:=u.o
 rw[u.e]at e1
 generalize xa4 a=A at*
 have hmon:=ei8 htr h0
 have hml:=r27 A
 obtain⟨a',L',na',X,r1,r2,r3,r4,e4⟩:=at8 (a0:=monK A) u 129 1 (monK A) [] n (by omega) (by omega) (by omega) (by simp;omega) (FacS.start _) (Low.start _) hmon
 rw[show lls 2 (([]:List (List (El q))).map vs)=[]from rfl]at e4
 simp only[Int.natCast_one]at e4
 obtain⟨s1,s2⟩:=r1.sorted
 have hLl:=r1.len
 have hlen1: ∀x∈(L'++if 1<a'.length then [a']else []),x.length≤1000:=fun x hx=>by
  obtain⟨i1,i2,c,i3,i4,i5⟩:=s1 x hx
  have:=lk3 i3 i1.trm i4 i1.ne
  have:=List.length_pos_iff.2 i4
  rw[i5,hml]at*
  omega
 by_cases h1:1<a'.length
 ·rw[if_pos h1]at r1 s1 s2 hLl hlen1
  refine⟨L'++[a'],r1, ?_⟩
  have hsrt:=uv0 (L:=L'++[a']) (fun x hx=>⟨(s1 x hx).1,hlen1 x hx⟩) s2
  have e6:=fun ks=>aj4 (no:=1) hsrt (by rw[List.length_map];simp at hLl⊢;omega) ((L'++[a']).map vs).length 0 (by omega) ks
  simp only[Int.natCast_zero]at e6
  have happ:lls 2 (L'.map vs)++[.sl 2 3 1 (ivs (vs a'))]=lls 2 ((L'++[a']).map vs):=by unfold lls;rw[List.map_append,List.map_append];rfl
  have hll:=qf0 2 (L'.map vs)
  have hLl2:(L'.map vs).length≤200:=by rw[List.length_map];simp at hLl;omega
  have hLl3:L'.length≤200:=by simp at hLl;omega
  have h1':(1:Int)<(a'.length:Int):=by omega
  have hsX: ∀(c t:Tree),(X++[c]).set X.length t=X++[t]:=fun c t=>by simp
  have hx2: ∀(c d:Tree),(X++[c]++[d])[X.length+1]? =some d:=fun c d=>by simp
  have hs2: ∀(c d t:Tree),(X++[c]++[d]).set (X.length+1) t=X++[c]++[t]:=fun c d t=>by simp
  generalize lls 2 (L'.map vs)=CC at*
  generalize lls 2 ((L'++[a']).map vs)=RR at*
  rw[o10 rfl T48 rfl,u.e]
  unfold F48 c48
  simp(disch:=first|omega|fail) only[push_cast,seval,vrl,if_pos,if_neg,ht,ho,e1]
  rw[e4]
  simp(disch:=first|omega|fail) only[push_cast,seval,vrl,if_pos,if_neg,dec_lt h1',List.append_nil,List.getElem?_concat_length,hx2,hs2,hsX,happ,hll,hLl2,hLl3]
  rw[e6]
  simp(disch:=first|omega|fail) only[push_cast,seval,vrl,if_pos,if_neg]
 ·rw[if_neg h1,List.append_nil]at r1 s1 s2 hLl hlen1
  refine⟨L',r1, ?_⟩
  have hsrt:=uv0 (L:=L') (fun x hx=>⟨(s1 x hx).1,hlen1 x hx⟩) s2
  have e6:=fun ks=>aj4 (no:=1) hsrt (by rw[List.length_map];omega) (L'.map vs).length 0 (by omega) ks
  simp only[Int.natCast_zero]at e6
  have h1': ¬(1:Int)<(a'.length:Int):=by omega
  generalize lls 2 (L'.map vs)=CC at*
  rw[o10 rfl T48 rfl,u.e]
  unfold F48 c48
  simp(disch:=first|omega|fail) only[push_cast,seval,vrl,if_pos,if_neg,ht,ho,e1]
  rw[e4]
  simp(disch:=first|omega|fail) only[push_cast,seval,vrl,if_pos,if_neg,cw6 (Int.not_lt.1 h1')]
  rw[e6]
  simp(disch:=first|omega|fail) only[push_cast,seval,vrl,if_pos,if_neg]
end
end Go.Proofs.YtoglhlonhmmieaaGreat
