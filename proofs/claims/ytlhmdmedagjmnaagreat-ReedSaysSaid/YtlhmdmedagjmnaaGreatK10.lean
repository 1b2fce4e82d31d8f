/-
  The document's Null and Solve, in the second machine. Conditions: a field of the table; rows of one length. The document's way to what is near: the first of what equations make 0. No condition. The document's Recovered, in the second machine. Conditions: those of each theorem. The shortest rule as lists: how the program goes, what its answer is, and that it goes on as any rule that is short enough ..
-/
import Derived.Test.YtlhmdmedagjmnaaGreatK9
import Derived.Test.YtlhmdmedagjmnaaGreatK8
set_option linter.unusedVariables false
set_option linter.unusedSimpArgs false
set_option linter.unusedSectionVars false
set_option maxRecDepth 100000
namespace Go.Proofs.YtlhmdmedagjmnaaGreat
open Go.Am Go.Vm Go.Alg
section
variable {q p m g:Int} [IsFld q] {t:Tree} {b b':Bool} {nl nl' nr n7 n8:Nat} {M:List (List (El q))} {A:List (Nat×List (El q))} {N:Nat}
theorem n97(u:RFo q p m g t)(hA: ∀a∈A,a.2.length=N∧a.1<N)(hAl:A.length≤1000)(hN:N≤900){c:Nat}(hc:c<N){T9:Tree}:
 ∀(n k:Nat) (x:List (El q)),k+n=A.length→x.length=N→ ∀ks,
  vgoL W ⟨h78,[.tmp 6],0⟩ [2,3,7,8,9,10,11,12] c78L0 (.blk 2 [2,3,7,8,9,10,11]::ks) [(2, .x (.int .i64 N)),(3, .own 0 []),(7, .own 1 []),(8, .own 2 []),(9, .own 3 []),(10, .x (.int .i64 c)),(11, .own 4 []),(12, .x (.int .i64 k))] [.pt 52 [.v (.int .i64 q), .v (.int .i64 p), .v (.int .i64 m), .v (.int .i64 g), .fz t], .sl n7 22 1 (lls 2 (pvR A)), .sl n8 3 1 (ivs (pvP A)),T9, .sl 0 3 1 (ivs (vs x))]=
   vgo W ⟨h78,[.tmp 6],0⟩ ks (VFr.of [(2, .x (.int .i64 N)),(3, .own 0 []),(7, .own 1 []),(8, .own 2 []),(9, .own 3 []),(10, .x (.int .i64 c)),(11, .own 4 [])]) [.pt 52 [.v (.int .i64 q), .v (.int .i64 p), .v (.int .i64 m), .v (.int .i64 g), .fz t], .sl n7 22 1 (lls 2 (pvR A)), .sl n8 3 1 (ivs (pvP A)),T9, .sl 0 3 1 (ivs (vs (setN c (A.drop k) x)))]
 |0,k,x,hk,hx,ks=>by
  have h1:=nu3 A
  rw[oh9 (by omega),setN,sb5 c78L0.eq_def]
  simp(disch:=first|omega|fail) only[push_cast,seval,ui5,lu7,y81,bj9,wrap64,dec_lt,cw6,nl3,qc6,mr8,nb8,if_pos,if_neg,h1]
 |n+1,k,x,hk,hx,ks=>by
  obtain⟨a,ha⟩:=ge6 (l:=A) (i:=k) (by omega)
  obtain⟨hal,hap⟩:=hA a (List.mem_of_getElem? ha)
  have ih:=n97 u hA hAl hN hc (T9:=T9) n (k+1) (x.set a.1 (-wf a.2 c)) (by omega) (by rw[List.length_set];exact hx) ks
  have h1:=nu3 A
  have h2:=ga8 A
  have h3:=x08 ha
  have h4:=bx6 ha
  have h5:=iva (l:=a.2) (i:=c) (by omega)
  have hs:=g52 x a.1 (-wf a.2 c)
  rw[tg5]at hs
  have ht:=u.n
  have ho:=u.o
  have vneg:=fun x:Int=>ik1 (q:=q) (x:=x)
  rw[u.e]at vneg
  rw[Int.natCast_add,Int.natCast_one]at ih
  rw[i62 ha,setN,←ih,sb5 c78L0.eq_def]
  simp(disch:=first|omega|fail) only[push_cast,seval,ui5,lu7,y81,bj9,wrap64,dec_lt,cw6,nl3,qc6,mr8,nb8,if_pos,if_neg,h1,h2,h3,h4,h5,vneg,ht,ho,hs]
theorem tc4{α:Type}(A:List (Nat×α))(c:Nat):((pvP A).any fun y=>decide (y=(c:Int)))=A.any fun a=>a.1==c:=by
 unfold pvP
 rw[List.any_map]
 congr 1
 funext a
 show decide ((a.1:Int)=(c:Int))=(a.1==c)
 by_cases h:a.1=c
 ·rw[h,decide_eq_true rfl];simp
 ·rw[decide_eq_false (by omega)];symm;simpa using h
theorem go5(u:RFo q p m g t)(hA: ∀a∈A,a.2.length=N∧a.1<N)(hAl:A.length≤1000)(hN:N≤900):
 ∀(d c:Nat) (L:List (List (El q))),c+d=N→L.length≤c→ ∀ks,
  vgoL W ⟨h78,[.tmp 6],0⟩ [2,3,7,8,9,10] c78L1 (.blk 0 [3,9]::ks) [(2, .x (.int .i64 N)),(3, .own 0 []),(7, .own 1 []),(8, .own 2 []),(9, .own 3 []),(10, .x (.int .i64 c))] [.pt 52 [.v (.int .i64 q), .v (.int .i64 p), .v (.int .i64 m), .v (.int .i64 g), .fz t], .sl n7 22 1 (lls 2 (pvR A)), .sl n8 3 1 (ivs (pvP A)), .sl 1 22 1 (lls 2 (L.map vs))]=
   vgo W ⟨h78,[.tmp 6],0⟩ ks (VFr.of [(3, .own 0 []),(9, .own 3 [])]) [.pt 52 [.v (.int .i64 q), .v (.int .i64 p), .v (.int .i64 m), .v (.int .i64 g), .fz t], .sl n7 22 1 (lls 2 (pvR A)), .sl n8 3 1 (ivs (pvP A)), .sl 1 22 1 (lls 2 ((L++ez9 N A d c).map vs))]
 |0,c,L,hc,hL,ks=>by
  rw[ez9,List.append_nil,sb5 c78L1.eq_def]
  simp(disch:=first|omega|fail) only[push_cast,seval,ui5,lu7,y81,bj9,wrap64,dec_lt,cw6,nl3,qc6,mr8,nb8,if_pos,if_neg]
 |d+1,c,L,hc,hL,ks=>by
  have IH:=go5 u hA hAl hN d (c+1)
  have h1:=nu3 A
  have h2:=ga8 A
  have e1:=fun b nl=>cr7 (b:=b) (nl:=nl) (l:=pvP A) (x:=(c:Int)) (by omega)
  rw[tc4]at e1
  rw[ez9]
  by_cases hin:(A.any fun a=>a.1==c)=true
  ·rw[if_pos hin]
   rw[hin]at e1
   have ih:=IH L (by omega) (by omega) ks
   rw[Int.natCast_add,Int.natCast_one]at ih
   rw[←ih,sb5 c78L1.eq_def]
   simp(disch:=first|omega|fail) only[push_cast,seval,ui5,lu7,y81,bj9,wrap64,dec_lt,cw6,nl3,qc6,mr8,nb8,if_pos,if_neg,e1]
  ·rw[if_neg hin]
   have hin':(A.any fun a=>a.1==c)=false:=Bool.eq_false_iff.mpr hin
   rw[hin']at e1
   have ih:=IH (L++[xRow N c A]) (by omega) (by simp;omega) ks
   rw[List.append_assoc,List.singleton_append,List.map_append,Int.natCast_add,Int.natCast_one]at ih
   have e:=fun T9 ks=>n97 (n7:=n7) (n8:=n8) (T9:=T9) u hA hAl hN (c:=c) (by omega) A.length 0 ((List.replicate N (0:El q)).set c 1) (by omega) (by simp) ks
   have hz:(List.replicate N (0:Int)).set c 1=vs ((List.replicate N (0:El q)).set c 1):=by rw[←g52,←qj2];rfl
   simp only[Int.natCast_zero,List.take_zero,List.drop_zero,rp2,lz6,x25,List.map_nil,List.length_nil]at e
   have hx:setN c A ((List.replicate N (0:El q)).set c 1)=xRow N c A:=rfl
   rw[hx]at e
   rw[←ih,sb5 c78L1.eq_def]
   simp(disch:=first|omega|fail) only[push_cast,seval,ui5,lu7,y81,bj9,wrap64,dec_lt,cw6,nl3,qc6,mr8,nb8,if_pos,if_neg,e1,hz]
   rw[e]
   simp(disch:=first|omega|fail) only[push_cast,seval,ui5,lu7,y81,bj9,wrap64,dec_lt,cw6,nl3,qc6,mr8,nb8,if_pos,if_neg]
theorem zi7(hMl: ∀r∈M,r.length=N)(hMn:M.length≤500)(hN:N≤500):
 o24 W 78 [.agg (rFs q), .fz b (.sl nl 0 1 (lvs nr (M.map vs))), .x (.int .i64 N)] []=some (.own 0 [],[.sl (nl0 (zt5 N M).length) 22 1 (lls 2 (pvR (zt5 N M)))],[]):=by
 obtain⟨p,m,g,t,u⟩:=k75 q
 have e1:=fun b nl nr=>di7 (b:=b) (nl:=nl) (nr:=nr) hMl hMn (by omega)
 obtain⟨r1,r2,r3⟩:=bi2 hMl
 have hAA: ∀a∈redR M,a.2.length=N∧a.1<N:=fun a ha=>⟨r2 a ha,r1.lt (a.1,wf a.2) (xe5.2 ⟨a,ha,rfl⟩)⟩
 have hAl:(redR M).length≤1000:=by
  have:=r1.len
  unfold toF at this
  rw[List.length_map]at this
  omega
 have e2:=fun n7 n8 ks=>go5 (n7:=n7) (n8:=n8) u hAA hAl (by omega) N 0 [] (by omega) (by simp) ks
 simp only[List.nil_append]at e2
 simp only[Int.natCast_zero,List.take_zero,List.drop_zero,rp2,lz6,x25,List.map_nil,List.length_nil]at e2
 have hnl:=to9 N (redR M) N 0
 have e3:=fun b nl nr=>di7 (b:=b) (nl:=nl) (nr:=nr) (sg4 N (redR M) N 0) (by omega) (by omega)
 rw[u.e]at e1 e3
 have ht:=u.n
 have ho:=u.o
 rw[o10 rfl T78 rfl,u.e]
 unfold F78 c78
 simp(disch:=first|omega|fail) only[push_cast,seval,ui5,lu7,y81,bj9,wrap64,dec_lt,cw6,nl3,qc6,mr8,nb8,if_pos,if_neg,ht,ho,e1]
 rw[e2]
 simp(disch:=first|omega|fail) only[push_cast,seval,ui5,lu7,y81,bj9,wrap64,dec_lt,cw6,nl3,qc6,mr8,nb8,if_pos,if_neg,ht,ho,e3]
 rfl
end
end Go.Proofs.YtlhmdmedagjmnaaGreat
namespace Go.Alg
section
variable {K:Type} [FK K]
def h81(t k:Nat)(p:K×K):List K:=ofF (t+1) (fun d=>p.2*pw p.1 d)++ofF (t+k) (fun d=> -pw p.1 d)
theorem es2(t k:Nat)(p:K×K):(h81 t k p).length=t+1+(t+k):=by unfold h81;rw[List.length_append,gh0,gh0]
theorem vt0(t k:Nat)(p:K×K)(s:List K)(hs:s.length=t+1+(t+k)):dotF (t+1+(t+k)) (wf (h81 t k p)) (wf s)=p.2*ev (s.take (t+1)) p.1+ -(ev (s.drop (t+1)) p.1):=by
 show sumN (t+1+(t+k)) (fun j=>wf (h81 t k p) j*wf s j)=_
 rw[d17,tf2 _ _ (t+1) (by rw[List.length_take];omega),tf2 _ _ (t+k) (by rw[List.length_drop];omega),←x18,←z09]
 congr 1
 ·refine rc1 fun j hj=> ?_
  unfold h81
  rw[nz0,gh0,if_pos hj,b43,if_pos hj,g29,if_pos hj,FK.mul_assoc,FK.mul_comm (pw _ _)]
 ·refine rc1 fun j hj=> ?_
  unfold h81
  rw[nz0,gh0,if_neg (by omega),b43,if_pos (by omega),Nat.add_sub_cancel_left,neg_mul,FK.mul_comm]
  congr 2
  unfold wf
  rw[List.getD_eq_getElem?_getD,List.getD_eq_getElem?_getD,List.getElem?_drop]
theorem f54{P:List (K×K)}{k t:Nat}{a:Nat×List K}{A:List (Nat×List K)}(hn:(P.map Prod.fst).Nodup)(ht:t=(P.length-k)/2)(hk:k≤P.length)(h:zt5 (t+1+(t+k)) (P.map (h81 t k))=a::A):
 a.2.length=t+1+(t+k)∧Hang P k (a.2.drop (t+1)) (a.2.take (t+1))∧wf (a.2.take (t+1))≠fun _=>0:=by
 have hM: ∀m∈P.map (h81 t k),m.length=t+1+(t+k):=fun m hm=>by
  obtain⟨p,_,rfl⟩:=List.mem_map.1 hm
  exact es2 _ _ _
 obtain⟨r1,r2,r3,r4⟩:=sw1 hM
 rw[h]at r1 r2 r3
 have hl:=r2 a (by simp)
 have hin:=(r3 (wf a.2)).1 (.mem (he1.2 ⟨a,by simp,rfl⟩))
 have he: ∀p∈P,ev (a.2.drop (t+1)) p.1=p.2*ev (a.2.take (t+1)) p.1:=fun p hp=>by
  have h1:=hin.2 _ (List.mem_map.2 ⟨p,hp,rfl⟩)
  rw[vt0 t k p a.2 hl]at h1
  have h2:=ut3 h1
  rw[←neg_neg (ev (a.2.drop (t+1)) p.1),h2,neg_neg]
 refine⟨hl,⟨he,fun j hj=>e00 (by rw[List.length_drop];omega),fun j hj=>e00 (by rw[List.length_take];omega)⟩,fun e0=> ?_⟩
 have hE: ∀y:K,ev (a.2.take (t+1)) y=0:=fun y=>by rw[ma4 (a:=a.2.take (t+1)) (b:=[]) e0];rfl
 have hN:wf (a.2.drop (t+1))=fun _=>0:=u24 hn (fun j hj=>e00 (by rw[List.length_drop];rw[List.length_map]at hj;omega)) fun x hx=>by
  obtain⟨p,hp,rfl⟩:=List.mem_map.1 hx
  rw[he p hp,hE,mul_zero]
 have hz:wf a.2 a.1=0:=by
  by_cases hj:a.1<t+1
  ·have:=congrFun e0 a.1
   rw[g29,if_pos hj]at this
   exact this
  ·have:=congrFun hN (a.1-(t+1))
   unfold wf at this⊢
   rw[List.getD_eq_getElem?_getD,List.getElem?_drop,show t+1+(a.1-(t+1))=a.1 by omega]at this
   rw[List.getD_eq_getElem?_getD]
   exact this
 have h1:=r1.one (a.1,wf a.2) (xe5.2 ⟨a,by simp,rfl⟩)
 exact ki8 (h1.symm.trans hz)
theorem wr8{P:List (K×K)}{k t:Nat}(ht:t=(P.length-k)/2)(h:zt5 (t+1+(t+k)) (P.map (h81 t k))=[]):recK P k=none:=by
 refine z27 fun⟨a,ha⟩=> ?_
 have ho:=ha.off
 have hM: ∀m∈P.map (h81 t k),m.length=t+1+(t+k):=fun m hm=>by
  obtain⟨p,_,rfl⟩:=List.mem_map.1 hm
  exact es2 _ _ _
 obtain⟨r1,r2,r3,r4⟩:=sw1 hM
 rw[h]at r3
 have hel:=qd3 a P
 have g:=y98 ha (l:=errK a P) (by omega) fun x hx=>hx
 have hEl:(loc (errK a P)).length≤t+1:=by rw[ru2];omega
 have hNl:(mulK a (loc (errK a P))).length≤t+k:=by
  have:=bx4 a (loc (errK a P))
  have:=ha.len
  omega
 obtain⟨s,hs⟩: ∃s,ofF (t+1) (wf (loc (errK a P)))++ofF (t+k) (wf (mulK a (loc (errK a P))))=s:=⟨_,rfl⟩
 have hsl:s.length=t+1+(t+k):=by rw[←hs,List.length_append,gh0,gh0]
 have h1:s.take (t+1)=ofF (t+1) (wf (loc (errK a P))):=by rw[←hs,List.take_left' (gh0 _ _)]
 have h2:s.drop (t+1)=ofF (t+k) (wf (mulK a (loc (errK a P)))):=by rw[←hs,List.drop_left' (gh0 _ _)]
 have e1:wf (s.take (t+1))=wf (loc (errK a P)):=by rw[h1,ot8 fun j hj=>e00 (by omega)]
 have e2:wf (s.drop (t+1))=wf (mulK a (loc (errK a P))):=by rw[h2,ot8 fun j hj=>e00 (by omega)]
 have hsp:=(r3 (wf s)).2 ⟨fun j hj=>e00 (by omega),fun m hm=>by
  obtain⟨p,hp,rfl⟩:=List.mem_map.1 hm
  rw[vt0 t k p s hsl,ma4 e1,ma4 e2,g.at' p hp,FK.add_neg]⟩
 have hz:wf s=fun _=>0:=hsp.lin (P:=fun w=>w=fun _=>0) rfl (fun u r c h1 h2=>by
  rw[h1,h2]
  funext j
  show(0:K)+c*0=0
  rw[mul_zero,FK.add_zero]) fun r hr=>by cases hr
 have ht1:=d45 (errK a P)
 rw[←e1,g29,if_pos (by omega),hz]at ht1
 exact ki8 ht1.symm
end
end Go.Alg
namespace Go.Proofs.YtlhmdmedagjmnaaGreat
open Go.Am Go.Vm Go.Alg
section
variable {q p m g:Int} [IsFld q] {T:Tree} {b b':Bool} {nl nl':Nat} {X:List (El q)} {U:List (Option (El q))}
theorem jo1(hU:U.length=X.length)(hX:X.length≤1000){k:Int}{T0:Tree}: ∀(d i n:Nat),i+d=X.length→n≤i→ ∀ks,
 vgoL W ⟨h108,[.tmp 8, .tmp 9, .tmp 10],0⟩ [1,2,3,4,11,12] c108L0 (.blk 0 [1,2,3,4,11]::ks) [(1, .fz b (.sl nl 0 1 (ivs (vs X)))),(2, .x (.int .i64 k)),(3, .fz b' (.sl nl' 0 1 (ivs (ws U)))),(4, .own 0 []),(11, .x (.int .i64 n)),(12, .x (.int .i64 i))] [T0]=
  vgo W ⟨h108,[.tmp 8, .tmp 9, .tmp 10],0⟩ ks (VFr.of [(1, .fz b (.sl nl 0 1 (ivs (vs X)))),(2, .x (.int .i64 k)),(3, .fz b' (.sl nl' 0 1 (ivs (ws U)))),(4, .own 0 []),(11, .x (.int .i64 ((kh0 (X.drop i) (U.drop i)).length+n:Nat)))]) [T0]
 |0,i,n,hi,hn,ks=>by
  have hwl:=u67 U
  rw[oh9 (by omega),oh9 (by omega),show kh0 ([]:List (El q)) []=[]from rfl,List.length_nil,Nat.zero_add,sb5 c108L0.eq_def]
  simp(disch:=first|omega|fail) only[push_cast,seval,ui5,lu7,y81,bj9,wrap64,dec_lt,cw6,nl3,qc6,mr8,nb8,if_pos,if_neg,hwl]
 |d+1,i,n,hi,hn,ks=>by
  obtain⟨x,hx⟩:=ge6 (l:=X) (i:=i) (by omega)
  obtain⟨o,ho'⟩:=ge6 (l:=U) (i:=i) (by omega)
  have h1:=iat (qb7 ho')
  have hwl:=u67 U
  rw[i62 hx,i62 ho']
  cases o with
  |none=>
   rw[show oV (none:Option (El q))= -1 from rfl]at h1
   have ih:=jo1 hU hX (k:=k) (T0:=T0) d (i+1) n (by omega) (by omega) ks
   rw[Int.natCast_add,Int.natCast_one]at ih
   rw[kh0,←ih,sb5 c108L0.eq_def]
   simp(disch:=first|omega|fail) only[push_cast,seval,ui5,lu7,y81,bj9,wrap64,dec_lt,cw6,nl3,qc6,mr8,nb8,if_pos,if_neg,h1,hwl]
  |some y=>
   rw[show oV (some y)=y.v from rfl]at h1
   have hy: ¬y.v= -1:=by have:=y.lo;omega
   have ih:=jo1 hU hX (k:=k) (T0:=T0) d (i+1) (n+1) (by omega) (by omega) ks
   have c1:((i+1:Nat):Int)=(i:Int)+1:=by omega
   have c2:((n+1:Nat):Int)=(n:Int)+1:=by omega
   rw[c1,c2,show(kh0 (X.drop (i+1)) (U.drop (i+1))).length+(n+1)=(kh0 (X.drop (i+1)) (U.drop (i+1))).length+1+n by omega]at ih
   rw[kh0,List.length_cons,←ih,sb5 c108L0.eq_def]
   simp(disch:=first|omega|fail) only[push_cast,seval,ui5,lu7,y81,bj9,wrap64,dec_lt,cw6,nl3,qc6,mr8,nb8,if_pos,if_neg,h1,hwl,nb8 hy]
theorem tz0{t:Tree}(u:RFo q p m g t){e:Nat}{i:Nat}{x y:El q}(hx:X[i]? =some x)(hy:U[i]? =some (some y))(hX:X.length≤1000)(he:e≤1000){N k:Int}: ∀(n d:Nat),d+n=e+1→ ∀ks,
 vgoL W ⟨h108,[.tmp 8, .tmp 9, .tmp 10],0⟩ [1,2,3,4,11,13,14,15,16,17,18] c108L1 (.blk 4 [1,2,3,4,11,13,14,15,16]::ks) [(1, .fz b (.sl nl 0 1 (ivs (vs X)))),(2, .x (.int .i64 k)),(3, .fz b' (.sl nl' 0 1 (ivs (ws U)))),(4, .own 0 []),(11, .x (.int .i64 N)),(13, .x (.int .i64 e)),(14, .own 1 []),(15, .x (.int .i64 i)),(16, .own 2 []),(17, .x (.int .i64 ((pw x d).v))),(18, .x (.int .i64 d))] [.pt 52 [.v (.int .i64 q), .v (.int .i64 p), .v (.int .i64 m), .v (.int .i64 g), .fz t],T, .sl 1 3 1 (ivs (vs (ofF d fun j=>y*pw x j)))]=
  vgo W ⟨h108,[.tmp 8, .tmp 9, .tmp 10],0⟩ ks (VFr.of [(1, .fz b (.sl nl 0 1 (ivs (vs X)))),(2, .x (.int .i64 k)),(3, .fz b' (.sl nl' 0 1 (ivs (ws U)))),(4, .own 0 []),(11, .x (.int .i64 N)),(13, .x (.int .i64 e)),(14, .own 1 []),(15, .x (.int .i64 i)),(16, .own 2 [])]) [.pt 52 [.v (.int .i64 q), .v (.int .i64 p), .v (.int .i64 m), .v (.int .i64 g), .fz t],T, .sl 1 3 1 (ivs (vs (ofF (e+1) fun j=>y*pw x j)))]
 |0,d,hd,ks=>by
  obtain rfl:d=e+1:=by omega
  rw[sb5 c108L1.eq_def]
  simp(disch:=first|omega|fail) only[push_cast,seval,ui5,lu7,y81,bj9,wrap64,dec_lt,cw6,nl3,qc6,mr8,nb8,if_pos,if_neg]
 |n+1,d,hd,ks=>by
  have ih:=tz0 u hx hy hX he (N:=N) (k:=k) n (d+1) (by omega) ks
  have h1:=iat (qb7 hy)
  rw[show oV (some y)=y.v from rfl]at h1
  have h2:=iat (show(vs X)[i]? =some x.v by unfold vs;rw[List.getElem?_map,hx];rfl)
  have hi:i<X.length:=(List.getElem?_eq_some_iff.1 hx).1
  have hiU:i<U.length:=(List.getElem?_eq_some_iff.1 hy).1
  have hl:=gh0 d fun j=>y*pw x j
  have ht:=u.n
  have ho:=u.o
  have vmul:=fun x y:Int=>n06 (q:=q) (x:=x) (y:=y)
  rw[u.e]at vmul
  rw[Int.natCast_add,Int.natCast_one,xe7,gq8,show vs [y*pw x d]=[fmul q y.v (pw x d).v]from rfl,pw,ym6]at ih
  rw[←ih,sb5 c108L1.eq_def]
  generalize ofF d (fun j=>y*pw x j)=Z at*
  have hwl:=u67 U
  simp(disch:=first|omega|fail) only[push_cast,seval,ui5,lu7,y81,bj9,wrap64,dec_lt,cw6,nl3,qc6,mr8,nb8,if_pos,if_neg,h1,h2,hl,hwl,ht,ho,vmul]
theorem kq4{t:Tree}(u:RFo q p m g t){e k:Nat}{i:Nat}{x:El q}(hx:X[i]? =some x)(hX:X.length≤1000)(he:e≤500)(hk:k≤500){Y:List (El q)}(hY:Y.length≤1000){N:Int}: ∀(n d:Nat),d+n=e+k→ ∀ks,
 vgoL W ⟨h108,[.tmp 8, .tmp 9, .tmp 10],0⟩ [1,2,3,4,11,13,14,15,16,17,19] c108L2 (.blk 6 [1,2,3,4,11,13,14,15,16]::ks) [(1, .fz b (.sl nl 0 1 (ivs (vs X)))),(2, .x (.int .i64 k)),(3, .fz b' (.sl nl' 0 1 (ivs (ws U)))),(4, .own 0 []),(11, .x (.int .i64 N)),(13, .x (.int .i64 e)),(14, .own 1 []),(15, .x (.int .i64 i)),(16, .own 2 []),(17, .x (.int .i64 ((-pw x d).v))),(19, .x (.int .i64 d))] [.pt 52 [.v (.int .i64 q), .v (.int .i64 p), .v (.int .i64 m), .v (.int .i64 g), .fz t],T, .sl 1 3 1 (ivs (vs (Y++ofF d fun j=> -pw x j)))]=
  vgo W ⟨h108,[.tmp 8, .tmp 9, .tmp 10],0⟩ ks (VFr.of [(1, .fz b (.sl nl 0 1 (ivs (vs X)))),(2, .x (.int .i64 k)),(3, .fz b' (.sl nl' 0 1 (ivs (ws U)))),(4, .own 0 []),(11, .x (.int .i64 N)),(13, .x (.int .i64 e)),(14, .own 1 []),(15, .x (.int .i64 i)),(16, .own 2 [])]) [.pt 52 [.v (.int .i64 q), .v (.int .i64 p), .v (.int .i64 m), .v (.int .i64 g), .fz t],T, .sl 1 3 1 (ivs (vs (Y++ofF (e+k) fun j=> -pw x j)))]
 |0,d,hd,ks=>by
  obtain rfl:d=e+k:=by omega
  rw[sb5 c108L2.eq_def]
  simp(disch:=first|omega|fail) only[push_cast,seval,ui5,lu7,y81,bj9,wrap64,dec_lt,cw6,nl3,qc6,mr8,nb8,if_pos,if_neg]
 |n+1,d,hd,ks=>by
  have ih:=kq4 u hx hX he hk hY (N:=N) n (d+1) (by omega) ks
  have h2:=iat (show(vs X)[i]? =some x.v by unfold vs;rw[List.getElem?_map,hx];rfl)
  have hi:i<X.length:=(List.getElem?_eq_some_iff.1 hx).1
  have hl:=gh0 d fun j=> -pw x j
  have hl2:(Y++ofF d fun j=> -pw x j).length=Y.length+d:=by rw[List.length_append,hl]
  have hlt:(d:Int)<(e:Int)+(k:Int):=by omega
  have w1:IntKind.wrap .i64 ((e:Int)+(k:Int))=(e:Int)+(k:Int):=wrap64 (by omega) (by omega)
  have ht:=u.n
  have ho:=u.o
  have vmul:=fun x y:Int=>n06 (q:=q) (x:=x) (y:=y)
  rw[u.e]at vmul
  rw[Int.natCast_add,Int.natCast_one,xe7,←List.append_assoc,gq8,show vs [-pw x d]=[(-pw x d).v]from rfl,pw,←neg_mul,ym6]at ih
  rw[←ih,sb5 c108L2.eq_def]
  generalize (Y++ofF d fun j=> -pw x j)=Z at*
  generalize-pw x d=z at*
  simp(disch:=first|omega|fail) only[push_cast,seval,ui5,lu7,y81,bj9,wrap64,dec_lt,cw6,nl3,qc6,mr8,nb8,if_pos,if_neg,h2,hl2,w1,dec_lt hlt,ht,ho,vmul]
theorem i02{t:Tree}(u:RFo q p m g t){e k:Nat}(hU:U.length=X.length)(hX:X.length≤1000)(he:e≤500)(hk:k≤500){N:Int}: ∀(n i:Nat) (A:List (El q×El q)),i+n=X.length→A.length≤i→ ∀ks,
 vgoL W ⟨h108,[.tmp 8, .tmp 9, .tmp 10],0⟩ [1,2,3,4,11,13,14,15] c108L3 (.blk 2 [1,2,3,4,11,13,14]::ks) [(1, .fz b (.sl nl 0 1 (ivs (vs X)))),(2, .x (.int .i64 k)),(3, .fz b' (.sl nl' 0 1 (ivs (ws U)))),(4, .own 0 []),(11, .x (.int .i64 N)),(13, .x (.int .i64 e)),(14, .own 1 []),(15, .x (.int .i64 i))] [.pt 52 [.v (.int .i64 q), .v (.int .i64 p), .v (.int .i64 m), .v (.int .i64 g), .fz t], .sl 1 22 1 (lls 2 ((A.map (h81 e k)).map vs))]=
  vgo W ⟨h108,[.tmp 8, .tmp 9, .tmp 10],0⟩ ks (VFr.of [(1, .fz b (.sl nl 0 1 (ivs (vs X)))),(2, .x (.int .i64 k)),(3, .fz b' (.sl nl' 0 1 (ivs (ws U)))),(4, .own 0 []),(11, .x (.int .i64 N)),(13, .x (.int .i64 e)),(14, .own 1 [])]) [.pt 52 [.v (.int .i64 q), .v (.int .i64 p), .v (.int .i64 m), .v (.int .i64 g), .fz t], .sl 1 22 1 (lls 2 (((A++kh0 (X.drop i) (U.drop i)).map (h81 e k)).map vs))]
 |0,i,A,hi,hA,ks=>by
  have hwl:=u67 U
  rw[oh9 (by omega),oh9 (by omega),show kh0 ([]:List (El q)) []=[]from rfl,List.append_nil,sb5 c108L3.eq_def]
  simp(disch:=first|omega|fail) only[push_cast,seval,ui5,lu7,y81,bj9,wrap64,dec_lt,cw6,nl3,qc6,mr8,nb8,if_pos,if_neg,hwl]
 |n+1,i,A,hi,hA,ks=>by
  obtain⟨x,hx⟩:=ge6 (l:=X) (i:=i) (by omega)
  obtain⟨o,ho'⟩:=ge6 (l:=U) (i:=i) (by omega)
  have h1:=iat (qb7 ho')
  have hwl:=u67 U
  rw[i62 hx,i62 ho']
  cases o with
  |none=>
   rw[show oV (none:Option (El q))= -1 from rfl]at h1
   have ih:=i02 u hU hX he hk (N:=N) n (i+1) A (by omega) (by omega) ks
   rw[Int.natCast_add,Int.natCast_one]at ih
   rw[kh0,←ih,sb5 c108L3.eq_def]
   simp(disch:=first|omega|fail) only[push_cast,seval,ui5,lu7,y81,bj9,wrap64,dec_lt,cw6,nl3,qc6,mr8,nb8,if_pos,if_neg,h1,hwl]
  |some y=>
   rw[show oV (some y)=y.v from rfl]at h1
   have ih:=i02 u hU hX he hk (N:=N) n (i+1) (A++[(x,y)]) (by omega) (by rw[List.length_append,List.length_singleton];omega) ks
   have hy: ¬y.v= -1:=by have:=y.lo;omega
   have e1:=fun T ks=>tz0 (b:=b) (nl:=nl) (b':=b') (nl':=nl') (T:=T) u hx ho' hX (show e≤1000 by omega) (N:=N) (k:=(k:Int)) (e+1) 0 (by omega) ks
   rw[show ofF 0 (fun j=>y*pw x j)=[]from rfl,show(pw x 0).v=1 from rfl]at e1
   have e2:=fun T ks=>kq4 (b:=b) (nl:=nl) (b':=b') (nl':=nl') (U:=U) (T:=T) u (k:=k) hx hX he hk (Y:=ofF (e+1) fun j=>y*pw x j) (by rw[gh0];omega) (N:=N) (e+k) 0 (by omega) ks
   rw[show(ofF (e+1) fun j=>y*pw x j)++(ofF (e+k) fun j=> -pw x j)=h81 e k (x,y)from rfl,show ofF 0 (fun j=> -pw x j)=[]from rfl,List.append_nil,show(-pw x 0).v=fneg q 1 from rfl]at e2
   simp only[Int.natCast_zero,rp2,lz6]at e1 e2
   have ht:=u.n
   have ho:=u.o
   have vneg:=fun x:Int=>ik1 (q:=q) (x:=x)
   rw[u.e]at vneg
   have hlt:i<X.length:=by omega
   have hAl:((A.map (h81 e k)).map vs).length=A.length:=by rw[List.length_map,List.length_map]
   rw[Int.natCast_add,Int.natCast_one,List.append_assoc,List.singleton_append,List.map_append,List.map_append,show List.map vs (List.map (h81 e k) [(x,y)])=[vs (h81 e k (x,y))]from rfl]at ih
   rw[kh0,←ih,sb5 c108L3.eq_def]
   simp(disch:=first|omega|fail) only[push_cast,seval,ui5,lu7,y81,bj9,wrap64,dec_lt,cw6,nl3,qc6,mr8,nb8,if_pos,if_neg,h1,hwl,nb8 hy]
   rw[e1]
   simp(disch:=first|omega|fail) only[push_cast,seval,ui5,lu7,y81,bj9,wrap64,dec_lt,cw6,nl3,qc6,mr8,nb8,if_pos,if_neg,ht,ho,vneg]
   rw[e2]
   simp(disch:=first|omega|fail) only[push_cast,seval,ui5,lu7,y81,bj9,wrap64,dec_lt,cw6,nl3,qc6,mr8,nb8,if_pos,if_neg,hAl]
def recR(P:List (El q×El q)):Option (List (El q))→Option VRes
 |some a=>some (.tup [.own 0 [], .x (.int .i64 (offK a P:Nat)), .x (.bool true)],[.sl 0 3 1 (ivs (vs a))],[])
 |none=>some (.tup [.own 0 [], .x (.int .i64 0), .x (.bool false)],[.sl 1 3 1 []],[])
theorem e45{Q:List (El q)}{k:Nat}(h:Q.length≤k):vs Q++List.replicate (k-Q.length) (0:Int)=vs (qi3 Q k):=by
 have h0:List.replicate (k-Q.length) (0:Int)=vs (List.replicate (k-Q.length) (0:El q)):=by rw[←qj2];rfl
 rw[h0,←gq8]
 congr 1
 refine ou8 (by unfold qi3;rw[gh0,List.length_append,List.length_replicate];omega) (funext fun j=> ?_)
 rw[yq4 fun j hj=>e00 (by omega),nz0]
 split
 ·rfl
 ·rw[m13,e00 (by omega)]
theorem gn8{k:Nat}(hn:X.Nodup)(hU:U.length=X.length)(hX:X.length≤64)(k1:1≤k)(k2:k≤64):
 o24 W 108 [.agg (rFs q), .fz b (.sl nl 0 1 (ivs (vs X))), .x (.int .i64 k), .fz b' (.sl nl' 0 1 (ivs (ws U)))] []=recR (kh0 X U) (recK (kh0 X U) k):=by
 obtain⟨p,m,g,t,u⟩:=k75 q
 have hPl:=ah8 X U
 have hPn:=yx3 (U:=U) hn
 have e0:=fun T0 ks=>jo1 (b:=b) (nl:=nl) (b':=b') (nl':=nl') hU (by omega) (k:=(k:Int)) (T0:=T0) X.length 0 0 (by omega) (by omega) ks
 rw[List.drop_zero,List.drop_zero]at e0
 simp only[Int.natCast_zero,Nat.add_zero]at e0
 have e1:=fun e he N ks=>i02 (b:=b) (nl:=nl) (b':=b') (nl':=nl') u (e:=e) (k:=k) hU (by omega) he (by omega) (N:=N) X.length 0 [] (by omega) (by simp) ks
 rw[List.drop_zero,List.drop_zero,List.nil_append]at e1
 simp only[Int.natCast_zero,List.map_nil,x25]at e1
 have e9:=fun(a:List (El q)) (ha:a.length≤1000) b nl b' nl' b2 nl2=>zg2 (b:=b) (nl:=nl) (b':=b') (nl':=nl') (b2:=b2) (nl2:=nl2) ha hU (show X.length≤1000 by omega)
 rw[u.e]at e9
 have ht:=u.n
 have ho:=u.o
 generalize kh0 X U=P at*
 by_cases hlt:P.length<k
 ·rw[vp7 hlt]
  rw[o10 rfl T108 rfl,u.e]
  unfold F108 c108
  unfold recR
  simp(disch:=first|omega|fail) only[push_cast,seval,ui5,lu7,y81,bj9,wrap64,dec_lt,cw6,nl3,qc6,mr8,nb8,if_pos,if_neg,ht]
  rw[e0]
  simp(disch:=first|omega|fail) only[push_cast,seval,ui5,lu7,y81,bj9,wrap64,dec_lt,cw6,nl3,qc6,mr8,nb8,if_pos,if_neg]
 ·obtain⟨e,he⟩: ∃e,e=(P.length-k)/2:=⟨_,rfl⟩
  have hlt': ¬(P.length:Int)<(k:Int):=by omega
  have w1:IntKind.wrap .i64 ((P.length:Int)-(k:Int))=((P.length-k:Nat):Int):=by rw[wrap64 (by omega) (by omega)];omega
  have w2:IntKind.wrap .i64 (((P.length:Int)-(k:Int)).tdiv 2)=(e:Int):=by
   rw[Int.tdiv_eq_ediv_of_nonneg (by omega),wrap64 (by omega) (by omega)];omega
  have w3:IntKind.wrap .i64 (2*(e:Int)+1+(k:Int))=(e:Int)+1+((e:Int)+(k:Int)):=by rw[wrap64 (by omega) (by omega)];omega
  have hM: ∀r∈P.map (h81 e k),r.length=e+1+(e+k):=fun r hr=>by
   obtain⟨p,_,rfl⟩:=List.mem_map.1 hr
   exact es2 _ _ _
  have e2:=fun b nl nr=>zi7 (q:=q) (b:=b) (nl:=nl) (nr:=nr) (M:=P.map (h81 e k)) (N:=e+1+(e+k)) hM (by rw[List.length_map];omega) (by omega)
  rw[u.e]at e2
  simp only[Int.natCast_add,Int.natCast_one]at e2
  have e1:=e1 e (by omega)
  rw[o10 rfl T108 rfl,u.e]
  unfold F108 c108
  cases hs:zt5 (e+1+(e+k)) (P.map (h81 e k))with
  |nil=>
   rw[hs]at e2
   simp only[show pvR ([]:List (Nat×List (El q)))=[]from rfl,x25]at e2
   rw[wr8 he hs]
   unfold recR
   simp(disch:=first|omega|fail) only[push_cast,seval,ui5,lu7,y81,bj9,wrap64,dec_lt,cw6,nl3,qc6,mr8,nb8,if_pos,if_neg,ht]
   rw[e0]
   simp(disch:=first|omega|fail) only[push_cast,seval,ui5,lu7,y81,bj9,wrap64,dec_lt,cw6,nl3,qc6,mr8,nb8,if_pos,if_neg,cw6 (Int.not_lt.1 hlt'),w2]
   rw[e1]
   simp(disch:=first|omega|fail) only[push_cast,seval,ui5,lu7,y81,bj9,wrap64,dec_lt,cw6,nl3,qc6,mr8,nb8,if_pos,if_neg,ho,w3,e2]
  |cons a A=>
   rw[hs]at e2
   obtain⟨a1,a2,a3⟩:=f54 hPn he (by omega) hs
   obtain⟨pa,s⟩:=a
   simp only at a1 a2 a3
   rw[wt4 hPn a2 a3]
   have hE1:xa4 (s.take (e+1))≠[]:=fun h=>a3 (rj1.1 h)
   have hEl:=tb1 (s.take (e+1))
   have hEl0:0<(xa4 (s.take (e+1))).length:=List.length_pos_iff.2 hE1
   rw[List.length_take]at hEl
   have e3:=fun b nl=>nf6 (b:=b) (nl:=nl) (a:=s.take (e+1)) (by rw[List.length_take];omega)
   have e4:=fun b nl b' nl'=>jr0 (b:=b) (nl:=nl) (b':=b') (nl':=nl') (a0:=s.drop (e+1)) (c:=xa4 (s.take (e+1))) (t12 _) hE1 (by rw[List.length_drop];omega) (by omega)
   rw[u.e]at e4
   have htk:(vs s).take ((e:Int)+1-0).toNat=vs (s.take (e+1)):=by rw[show((e:Int)+1-0).toNat=e+1 by omega];exact ee1 _ _
   have hdr:(vs s).drop ((e:Int)+1).toNat=vs (s.drop (e+1)):=by rw[show((e:Int)+1).toNat=e+1 by omega];unfold vs;rw[List.map_drop]
   have hdt:(vs (s.drop (e+1))).take ((s.length:Int)-((e:Int)+1)).toNat=vs (s.drop (e+1)):=List.take_of_length_le (by rw[fi2,List.length_drop];omega)
   generalize quoP (xa4 (s.drop (e+1))) (xa4 (s.take (e+1)))=Q at*
   generalize remP (xa4 (s.drop (e+1))) (xa4 (s.take (e+1)))=R at*
   generalize xa4 (s.take (e+1))=E0 at*
   have hsl:(vs s).length=e+1+(e+k):=by rw[fi2,a1]
   rw[show pvR ((pa,s)::A)=vs s::pvR A from rfl]at e2
   have h0s:(lls 2 (vs s::pvR A))[0]? =some (.sl 2 3 1 (ivs (vs s))):=rfl
   simp(disch:=first|omega|fail) only[push_cast,seval,ui5,lu7,y81,bj9,wrap64,dec_lt,cw6,nl3,qc6,mr8,nb8,if_pos,if_neg,ht]
   rw[e0]
   simp(disch:=first|omega|fail) only[push_cast,seval,ui5,lu7,y81,bj9,wrap64,dec_lt,cw6,nl3,qc6,mr8,nb8,if_pos,if_neg,cw6 (Int.not_lt.1 hlt'),w2]
   rw[e1]
   simp(disch:=first|omega|fail) only[push_cast,seval,ui5,lu7,y81,bj9,wrap64,dec_lt,cw6,nl3,qc6,mr8,nb8,if_pos,if_neg,ho,w3,e2,h0s,List.length_cons,hsl,htk,hdr,hdt,e3,e4]
   by_cases h1:R=[]∧Q.length≤k
   ·have hR:R.length=0:=by rw[h1.1];rfl
    have hQ:=h1.2
    have h3:offK (qi3 Q k) P=offK Q P:=tx3 (yq4 fun j hj=>e00 (by omega)) P
    have hfl:(qi3 Q k).length=k:=by unfold qi3;rw[gh0]
    have e5:=e9 (qi3 Q k) (by omega)
    rw[h3]at e5
    have hof:offK Q P≤P.length:=by unfold offK;exact List.length_filter_le _ _
    have hfa:vs Q++List.replicate ((k:Int)-(Q.length:Int)).toNat (0:Int)=vs (qi3 Q k):=by rw[show((k:Int)-(Q.length:Int)).toNat=k-Q.length by omega];exact e45 hQ
    by_cases h2:2*offK Q P+k≤P.length
    ·rw[if_pos ⟨h1,h2⟩]
     have h2': ¬(P.length:Int)-(k:Int)<2*(offK Q P:Int):=by omega
     unfold recR
     simp(disch:=first|omega|fail) only[push_cast,seval,ui5,lu7,y81,bj9,wrap64,dec_lt,cw6,nl3,qc6,mr8,nb8,if_pos,if_neg,hR,hQ,cs7,Vm.tl5,hfa,ht,ho,e5,h3,w1]
    ·rw[if_neg fun h=>h2 h.2]
     unfold recR
     simp(disch:=first|omega|fail) only[push_cast,seval,ui5,lu7,y81,bj9,wrap64,dec_lt,cw6,nl3,qc6,mr8,nb8,if_pos,if_neg,hR,hQ,cs7,Vm.tl5,hfa,ht,ho,e5,h3,w1]
   ·rw[if_neg fun h=>h1 h.1]
    unfold recR
    by_cases hR:R.length=0
    ·have hQ: ¬Q.length≤k:=fun h=>h1 ⟨List.eq_nil_of_length_eq_zero hR,h⟩
     have hQ':(k:Int)<(Q.length:Int):=by omega
     simp(disch:=first|omega|fail) only[push_cast,seval,ui5,lu7,y81,bj9,wrap64,dec_lt,cw6,nl3,qc6,mr8,nb8,if_pos,if_neg,hR,dec_lt hQ']
    ·have hR':(0:Int)<(R.length:Int):=by omega
     simp(disch:=first|omega|fail) only[push_cast,seval,ui5,lu7,y81,bj9,wrap64,dec_lt,cw6,nl3,qc6,mr8,nb8,if_pos,if_neg,dec_lt hR']
end
end Go.Proofs.YtlhmdmedagjmnaaGreat
namespace Go.Alg
section
variable {K:Type} [FK K]
def scT(c:K):Nat→Nat→List K→List K
 |0,k,z=>z
 |n+1,k,z=>scT c n (k+1) (z.set k (wf z k*c))
theorem m70(c:K): ∀(n k:Nat) (z:List K),k+n=z.length→scT c n k z=z.take k++(z.drop k).map fun x=>x*c
 |0,k,z,h=>by rw[scT,List.drop_of_length_le (by omega),List.take_of_length_le (by omega)];simp
 |n+1,k,z,h=>by
  have hk:k<z.length:=by omega
  rw[scT,m70 c n (k+1) _ (by rw[List.length_set];omega)]
  rw[List.take_add_one,List.getElem?_set_self hk,List.take_set_of_le (Nat.le_refl _),List.drop_set_of_lt (Nat.lt_succ_self _),List.drop_eq_getElem_cons hk,List.map_cons,i66 hk]
  simp
theorem ou4(c:K)(z:List K):scT c z.length 0 z=z.map fun x=>x*c:=by
 rw[m70 c _ _ _ (by omega)];simp
end
end Go.Alg
namespace Go.Proofs.YtlhmdmedagjmnaaGreat
open Go.Am Go.Vm Go.Alg
theorem ef8{α:Type}{l:List α}(h:l≠[]):nlT l=0:=by
 cases l with
 |nil=>exact absurd rfl h
 |cons a l=>rfl
section
variable {q:Int} [IsFld q] {b:Bool} {nl:Nat} {s:List (El q)}
end
end Go.Proofs.YtlhmdmedagjmnaaGreat
namespace Go.Alg
section
variable {K:Type} [FK K]
theorem ty2{a d:K}(h:d≠0):d*(a*FK.inv d)=a:=by
 rw[FK.mul_comm a,←FK.mul_assoc,FK.mul_inv d h,one_mul]
structure ThrI (P R:List (K×K)) (out all:List K):Prop where
 tr:Trm out
 lo:out.length≤P.length
 la:all.length≤P.length+1
 ok: ∀p∈P,ev out p.1=p.2
 z: ∀p∈P,ev all p.1=0
 nz: ∀p∈R,ev all p.1≠0
theorem ThrI.start(R:List (K×K)):ThrI [] R [] [1]:=⟨wg5,Nat.le_refl _,Nat.le_refl _,fun p h=>(by cases h),fun p h=>(by cases h),fun p h e=>ki8 (by
 have:ev [1] p.1=(1:K):=by rw[ev,ev,mul_zero,FK.add_zero]
 rw[←this,e])⟩
theorem ThrI.out{P R:List (K×K)}{out all:List K}{p:K×K}(h:ThrI P (p::R) out all):
 Trm (addK out (all.map fun c=>c*((p.2-ev out p.1)*FK.inv (ev all p.1))))∧(addK out (all.map fun c=>c*((p.2-ev out p.1)*FK.inv (ev all p.1)))).length≤P.length+1∧ ∀r∈P++[p],ev (addK out (all.map fun c=>c*((p.2-ev out p.1)*FK.inv (ev all p.1)))) r.1=r.2:=by
 refine⟨y42 _ _, ?_,fun r hr=> ?_⟩
 ·have h1:=mk8 out (all.map fun c=>c*((p.2-ev out p.1)*FK.inv (ev all p.1)))
  rw[List.length_map]at h1
  have h2:=h.lo
  have h3:=h.la
  omega
 ·rw[k99,hi7]
  rcases List.mem_append.1 hr with hr|hr
  ·rw[h.z r hr,zero_mul,FK.add_zero,h.ok r hr]
  ·rw[List.mem_singleton.1 hr,ty2 (h.nz p (by simp)),FK.add_comm,fj9]
theorem ThrI.step{P R:List (K×K)}{out all:List K}{p:K×K}(hn: ∀r∈R,r.1≠p.1)(h:ThrI P (p::R) out all):
 ThrI (P++[p]) R (addK out (all.map fun c=>c*((p.2-ev out p.1)*FK.inv (ev all p.1)))) (mulK all [-p.1,1]):=by
 obtain⟨h1,h2,h3⟩:=h.out
 refine⟨h1,by rw[List.length_append];exact h2, ?_,h3,fun r hr=> ?_,fun r hr e=> ?_⟩
 ·have h4:=bx4 all [-p.1,1]
  have h5:=h.la
  simp only[List.length_cons,List.length_nil,List.length_append]at h4⊢
  omega
 ·rw[jo3,tt9]
  rcases List.mem_append.1 hr with hr|hr
  ·rw[h.z r hr,zero_mul]
  ·rw[List.mem_singleton.1 hr,sub_eq,FK.add_neg,mul_zero]
 ·rw[jo3,tt9]at e
  rcases mul_eq_zero e with e|e
  ·exact h.nz r (by simp[hr]) e
  ·exact hn r hr (by rw[←fj9 r.1 p.1,e,zero_add])
theorem ThrI.ne{P R:List (K×K)}{out all:List K}{p:K×K}(h:ThrI P (p::R) out all):all≠[]:=by
 rintro rfl
 exact h.nz p (by simp) rfl
def negT:Nat→Nat→List K→List K
 |0,k,z=>z
 |n+1,k,z=>negT n (k+1) (z.set k (-wf z k))
theorem h70: ∀(n k:Nat) (z:List K),k+n=z.length→negT n k z=z.take k++(z.drop k).map fun x=> -x
 |0,k,z,h=>by rw[negT,List.drop_of_length_le (by omega),List.take_of_length_le (by omega)];simp
 |n+1,k,z,h=>by
  have hk:k<z.length:=by omega
  rw[negT,h70 n (k+1) _ (by rw[List.length_set];omega)]
  rw[List.take_add_one,List.getElem?_set_self hk,List.take_set_of_le (Nat.le_refl _),List.drop_set_of_lt (Nat.lt_succ_self _),List.drop_eq_getElem_cons hk,List.map_cons,i66 hk]
  simp
theorem um4(z:List K):negT z.length 0 z=z.map fun x=> -x:=by rw[h70 _ _ _ (by omega)];simp
structure EuI (P:List (K×K)) (k:Nat) (high low u v:List K):Prop where
 th:Trm high
 tl:Trm low
 tv:Trm v
 nv:v≠[]
 eh: ∀p∈P,ev high p.1=p.2*ev u p.1
 el: ∀p∈P,ev low p.1=p.2*ev v p.1
 sum:high.length+v.length=P.length+2
 lt:low.length<high.length
 ut:u.length<v.length
 big:P.length+k+2≤2*high.length
theorem EuI.start{P:List (K×K)}{k:Nat}{high low:List K}(hk:k≤P.length)(h1:Trm high)(h2:high.length=P.length+1)(h3: ∀p∈P,ev high p.1=0)(h4:Trm low)(h5:low.length≤P.length)(h6: ∀p∈P,ev low p.1=p.2):EuI P k high low [] [1]:=
 ⟨h1,h4,py3 ki8,by simp,fun p hp=>by rw[h3 p hp];exact(mul_zero _).symm,fun p hp=>by rw[h6 p hp,ev,ev,mul_zero,FK.add_zero,FK.mul_one],by rw[h2];rfl,by omega,by simp,by omega⟩
theorem EuI.quo{P:List (K×K)}{k:Nat}{high low u v:List K}(h:EuI P k high low u v)(hc:P.length+k+2≤2*low.length):
 (quoP high low).length=high.length-low.length+1∧quoP high low≠[]∧Trm (quoP high low)∧Trm (remP high low)∧(remP high low).length<low.length∧(mulK (quoP high low) v).length=high.length-low.length+v.length:=by
 have hl:low≠[]:=by rintro rfl;simp at hc
 have hd:=h82 (a:=high) h.tl hl
 have h1:=hd.len h.th h.tl (Nat.le_of_lt h.lt)
 refine⟨h1.1,h1.2,hd.q,hd.r,hd.lt, ?_⟩
 rw[lk3 hd.q h.tv h1.2 h.nv,h1.1]
 omega
theorem EuI.step{P:List (K×K)}{k:Nat}{high low u v:List K}(h:EuI P k high low u v)(hc:P.length+k+2≤2*low.length):
 EuI P k low (remP high low) v (addK u ((mulK (quoP high low) v).map fun x=> -x)):=by
 obtain⟨q1,q2,q3,q4,q5,q6⟩:=h.quo hc
 have hl:low≠[]:=by rintro rfl;simp at hc
 have hd:=h82 (a:=high) h.tl hl
 have hsum:=h.sum
 have hlt:=h.lt
 have hut:=h.ut
 have hle:(addK u ((mulK (quoP high low) v).map fun x=> -x)).length≤high.length-low.length+v.length:=by
  have h1:=mk8 u ((mulK (quoP high low) v).map fun x=> -x)
  rw[List.length_map,q6]at h1
  omega
 have hge:high.length-low.length+v.length≤(addK u ((mulK (quoP high low) v).map fun x=> -x)).length:=by
  refine Classical.byContradiction fun hno=> ?_
  have h1:wf (addK u ((mulK (quoP high low) v).map fun x=> -x)) (high.length-low.length+v.length-1)=0:=e00 (by omega)
  rw[w62]at h1
  simp only at h1
  rw[e00 (l:=u) (by omega),zero_add,qm4 (f:=fun x=> -x) neg_zero,neg_eq_zero]at h1
  have h2:=ho6 (quoP high low) v (by omega)
  rw[q6]at h2
  exact h2 h1
 have hlen:=Nat.le_antisymm hle hge
 refine⟨h.tl,q4,y42 _ _, ?_,h.el,fun p hp=> ?_, ?_,q5, ?_,hc⟩
 ·intro e
  rw[e]at hlen
  simp only[List.length_nil]at hlen
  omega
 ·have h1:=hd.ev p.1
  rw[h.eh p hp,h.el p hp]at h1
  rw[k99,ft7,jo3,FK.mul_add,h1]
  generalize ev (quoP high low) p.1=A
  generalize ev (remP high low) p.1=B
  generalize ev v p.1=C
  rw[mul_neg,show p.2*(A*C)=A*(p.2*C)from mul_left_comm _ _ _,FK.add_comm (A*_),FK.add_assoc,FK.add_neg,FK.add_zero]
 ·omega
 ·omega
theorem EuI.done{P:List (K×K)}{k:Nat}{high low u v:List K}(h:EuI P k high low u v)(hc: ¬P.length+k+2≤2*low.length):Hang P k low v:=
 ⟨h.el,fun j hj=>e00 (by omega),fun j hj=>e00 (by have:=h.sum;have:=h.big;omega)⟩
end
end Go.Alg
namespace Go.Proofs.YtlhmdmedagjmnaaGreat
open Go.Am Go.Vm Go.Alg
section
variable {q:Int} [IsFld q] {b b':Bool} {nl nl':Nat} {P:List (El q×El q)}
theorem ga3{c:El q}{T0 T1:Tree}{i:Nat}{L:Int}{x:Int}: ∀(n k:Nat) (z:List (El q)),k+n=z.length→z.length≤1000→ ∀ks,
 vgoL W ⟨h176,[.tmp 6, .tmp 7],0⟩ [0,1,2,8,12,13,14,15,20,21,41,42,43,79,80] c176L0 (.blk 2 [0,1,2,8,12,13,14,15,21,41,42,43]::ks) [(0, .x (.int .i64 q)),(1, .fz b (.sl nl 0 1 (ivs (vs (P.map Prod.fst))))),(2, .fz b' (.sl nl' 0 1 (ivs (vs (P.map Prod.snd))))),(8, .fz true (pF q)),(12, .own 0 []),(13, .own 1 []),(14, .x (.int .i64 i)),(15, .x (.int .i64 x)),(20, .x (.int .i64 c.v)),(21, .own 2 []),(41, .fz b (.sl nl 0 1 (ivs (vs (P.map Prod.fst))))),(42, .x (.int .i64 L)),(43, .x (.int .i64 i)),(79, .x (.int .i64 z.length)),(80, .x (.int .i64 k))] [T0,T1, .sl 0 3 1 (ivs (vs z))]=
  vgo W ⟨h176,[.tmp 6, .tmp 7],0⟩ ks (VFr.of [(0, .x (.int .i64 q)),(1, .fz b (.sl nl 0 1 (ivs (vs (P.map Prod.fst))))),(2, .fz b' (.sl nl' 0 1 (ivs (vs (P.map Prod.snd))))),(8, .fz true (pF q)),(12, .own 0 []),(13, .own 1 []),(14, .x (.int .i64 i)),(15, .x (.int .i64 x)),(21, .own 2 []),(41, .fz b (.sl nl 0 1 (ivs (vs (P.map Prod.fst))))),(42, .x (.int .i64 L)),(43, .x (.int .i64 i))]) [T0,T1, .sl 0 3 1 (ivs (vs (scT c n k z)))]
 |0,k,z,hk,hz,ks=>by
  rw[scT,sb5 c176L0.eq_def]
  simp(disch:=first|omega|fail) only[push_cast,seval,ui5,lu7,y81,bj9,wrap64,dec_lt,cw6,nl3,qc6,mr8,nb8,if_pos,if_neg]
 |n+1,k,z,hk,hz,ks=>by
  have ih:=ga3 (c:=c) (T0:=T0) (T1:=T1) (i:=i) (L:=L) (x:=x) n (k+1) (z.set k (wf z k*c)) (by rw[List.length_set];omega) (by rw[List.length_set];omega) ks
  have h1:=iva (l:=z) (i:=k) (by omega)
  rw[Int.natCast_add,Int.natCast_one,←g52,ym6,List.length_set]at ih
  rw[scT,←ih,sb5 c176L0.eq_def]
  simp(disch:=first|omega|fail) only[push_cast,seval,ui5,lu7,y81,bj9,wrap64,dec_lt,cw6,nl3,qc6,mr8,nb8,if_pos,if_neg,h1]
theorem yz4{nf:Nat}{out:List (El q)}{T:Tree}(ks):
 vgoL W ⟨h176,[.tmp 6, .tmp 7],0⟩ [0,1,2,8,12,13,41,42,43] c176L1 (.blk 0 [12]::ks) [(0, .x (.int .i64 q)),(1, .fz b (.sl nl 0 1 (ivs (vs (P.map Prod.fst))))),(2, .fz b' (.sl nl' 0 1 (ivs (vs (P.map Prod.snd))))),(8, .fz true (pF q)),(12, .own 0 []),(13, .own 1 []),(41, .fz b (.sl nl 0 1 (ivs (vs (P.map Prod.fst))))),(42, .x (.int .i64 P.length)),(43, .x (.int .i64 P.length))] [.sl nf 3 1 (ivs (vs out)),T]=
  vgo W ⟨h176,[.tmp 6, .tmp 7],0⟩ ks (VFr.of [(12, .own 0 [])]) [.sl nf 3 1 (ivs (vs out)),T]:=by
 rw[sb5 c176L1.eq_def]
 simp(disch:=first|omega|fail) only[push_cast,seval,ui5,lu7,y81,bj9,wrap64,dec_lt,cw6,nl3,qc6,mr8,nb8,if_pos,if_neg]
theorem za0(hP:P.length≤64)(hn:(P.map Prod.fst).Nodup): ∀(R A:List (El q×El q)) (p:El q×El q) (out all:List (El q)),A++p::R=P→ThrI A (p::R) out all→ ∃out',Trm out'∧out'.length≤P.length∧(∀p∈P,ev out' p.1=p.2)∧ ∀(b:Bool) (nl:Nat) (b':Bool) (nl' nf na:Nat),∃n1 T,∀ks,
 vgoL W ⟨h176,[.tmp 6, .tmp 7],0⟩ [0,1,2,8,12,13,41,42,43] c176L1 (.blk 0 [12]::ks) [(0, .x (.int .i64 q)),(1, .fz b (.sl nl 0 1 (ivs (vs (P.map Prod.fst))))),(2, .fz b' (.sl nl' 0 1 (ivs (vs (P.map Prod.snd))))),(8, .fz true (pF q)),(12, .own 0 []),(13, .own 1 []),(41, .fz b (.sl nl 0 1 (ivs (vs (P.map Prod.fst))))),(42, .x (.int .i64 P.length)),(43, .x (.int .i64 A.length))] [.sl nf 3 1 (ivs (vs out)), .sl na 3 1 (ivs (vs all))]=
  vgo W ⟨h176,[.tmp 6, .tmp 7],0⟩ ks (VFr.of [(12, .own 0 [])]) [.sl n1 3 1 (ivs (vs out')),T]:=by
 intro R
 induction R with
 |nil=>
  intro A p out all hA h
  obtain⟨o1,o2,o3⟩:=h.out
  have hAl:A.length+1=P.length:=by rw[←hA];simp
  have hla:=h.la
  have hlo:=h.lo
  have hane:=h.ne
  have hnz:=h.nz p (by simp)
  refine⟨_,o1,by omega,by rw[←hA];exact o3,fun b nl b' nl' nf na=> ?_⟩
  have hp:P[A.length]? =some p:=by rw[←hA];simp
  have h1:=iat (show(vs (P.map Prod.fst))[A.length]? =some p.1.v by unfold vs;rw[List.getElem?_map,List.getElem?_map,hp];rfl)
  have h2:=iat (show(vs (P.map Prod.snd))[A.length]? =some p.2.v by unfold vs;rw[List.getElem?_map,List.getElem?_map,hp];rfl)
  have e1:=fun b nl=>yu6 (b:=b) (nl:=nl) (a:=all) (x:=p.1) (by omega)
  have e2:=fun b nl=>yu6 (b:=b) (nl:=nl) (a:=out) (x:=p.1) (by omega)
  have hat: ¬(ev all p.1).v=0:=fun e=>hnz (El.ext' e)
  have hinv:=rl7 hnz
  have e3:=fun b nl=>h19 (b:=b) (nl:=nl) (zs:=vs all) (by rw[fi2];omega)
  simp only[ks8,ef8 hane]at e3
  obtain⟨c,hc⟩: ∃c,(p.2-ev out p.1)*FK.inv (ev all p.1)=c:=⟨_,rfl⟩
  have hcv:fmul q (fsub q p.2.v (ev out p.1).v) (finv q (ev all p.1).v)=c.v:=by rw[←hc,←hinv];rfl
  rw[hc]
  have e4:=fun b nl b' nl' T0 T1 i L x ks=>ga3 (b:=b) (nl:=nl) (b':=b') (nl':=nl') (P:=P) (c:=c) (T0:=T0) (T1:=T1) (i:=i) (L:=L) (x:=x) all.length 0 all (by omega) (by omega) ks
  rw[ou4]at e4
  simp only[Int.natCast_zero]at e4
  have e5:=fun b nl b' nl'=>wa2 (b:=b) (nl:=nl) (b':=b') (nl':=nl') (a:=out) (c:=all.map fun x=>x*c) (by omega) (by rw[List.length_map];omega)
  have e6:=fun b nl b' nl' nf T ks=>yz4 (b:=b) (nl:=nl) (b':=b') (nl':=nl') (P:=P) (nf:=nf) (out:=addK out (all.map fun x=>x*c)) (T:=T) ks
  rw[←hAl,Int.natCast_add,Int.natCast_one]at e6
  refine⟨nlT (addK out (all.map fun x=>x*c)), .sl na 3 1 (ivs (vs all)),fun ks=> ?_⟩
  rw[←e6 b nl b' nl' (nlT (addK out (all.map fun x=>x*c))) (.sl na 3 1 (ivs (vs all))) ks,sb5 c176L1.eq_def,←hAl,Int.natCast_add,Int.natCast_one]
  simp(disch:=first|omega|fail) only[push_cast,seval,ui5,lu7,y81,bj9,wrap64,dec_lt,cw6,nl3,qc6,mr8,nb8,if_pos,if_neg,h1,h2,e1,e2,nb8 hat,hcv,e3,List.length_map,hAl]
  rw[e4]
  simp(disch:=first|omega|fail) only[push_cast,seval,ui5,lu7,y81,bj9,wrap64,dec_lt,cw6,nl3,qc6,mr8,nb8,if_pos,if_neg,e5,List.length_map,hAl]
 |cons p2 R ih=>
  intro A p out all hA h
  have hne: ∀r∈p2::R,r.1≠p.1:=fun r hr e=>by
   rw[←hA,List.map_append,List.map_cons]at hn
   have h1:=(List.nodup_cons.1 (List.nodup_append.1 hn).2.1).1
   exact h1 (List.mem_map.2 ⟨r,hr,e⟩)
  have hs:=h.step hne
  have hAl:A.length+2≤P.length:=by rw[←hA,List.length_append,List.length_cons,List.length_cons];omega
  have hla:=h.la
  have hlo:=h.lo
  have hane:=h.ne
  have hnz:=h.nz p (by simp)
  have hp:P[A.length]? =some p:=by rw[←hA];simp
  have h1:=iat (show(vs (P.map Prod.fst))[A.length]? =some p.1.v by unfold vs;rw[List.getElem?_map,List.getElem?_map,hp];rfl)
  have h2:=iat (show(vs (P.map Prod.snd))[A.length]? =some p.2.v by unfold vs;rw[List.getElem?_map,List.getElem?_map,hp];rfl)
  have e1:=fun b nl=>yu6 (b:=b) (nl:=nl) (a:=all) (x:=p.1) (by omega)
  have e2:=fun b nl=>yu6 (b:=b) (nl:=nl) (a:=out) (x:=p.1) (by omega)
  have hat: ¬(ev all p.1).v=0:=fun e=>hnz (El.ext' e)
  have hinv:=rl7 hnz
  have e3:=fun b nl=>h19 (b:=b) (nl:=nl) (zs:=vs all) (by rw[fi2];omega)
  simp only[ks8,ef8 hane]at e3
  obtain⟨c,hc⟩: ∃c,(p.2-ev out p.1)*FK.inv (ev all p.1)=c:=⟨_,rfl⟩
  have hcv:fmul q (fsub q p.2.v (ev out p.1).v) (finv q (ev all p.1).v)=c.v:=by rw[←hc,←hinv];rfl
  rw[hc]at hs
  obtain⟨out',o1,o2,o3,o4⟩:=ih (A++[p]) p2 _ _ (by rw[List.append_assoc];exact hA) hs
  refine⟨out',o1,o2,o3,fun b nl b' nl' nf na=> ?_⟩
  have e4:=fun b nl b' nl' T0 T1 i L x ks=>ga3 (b:=b) (nl:=nl) (b':=b') (nl':=nl') (P:=P) (c:=c) (T0:=T0) (T1:=T1) (i:=i) (L:=L) (x:=x) all.length 0 all (by omega) (by omega) ks
  rw[ou4]at e4
  simp only[Int.natCast_zero]at e4
  have e5:=fun b nl b' nl'=>wa2 (b:=b) (nl:=nl) (b':=b') (nl':=nl') (a:=out) (c:=all.map fun x=>x*c) (by omega) (by rw[List.length_map];omega)
  obtain⟨F,e6⟩:=sk4 fun b nl b' nl'=>td8 (b:=b) (nl:=nl) (b':=b') (nl':=nl') (a:=all) (c:=[-p.1,1]) (by omega) (by simp)
  rw[show ivs (vs [-p.1,1])=[Tree.v (.int .i64 (fneg q p.1.v)),Tree.v (.int .i64 1)]from rfl]at e6
  obtain⟨n1,T,hfin⟩:=o4 b nl b' nl' (nlT (addK out (all.map fun x=>x*c))) (F false na false 0)
  refine⟨n1,T,fun ks=> ?_⟩
  have ih2:=hfin ks
  have hlt:(A.length:Int)+1<(P.length:Int):=by omega
  rw[List.length_append,List.length_singleton,Int.natCast_add,Int.natCast_one]at ih2
  rw[←ih2,sb5 c176L1.eq_def]
  simp(disch:=first|omega|fail) only[push_cast,seval,ui5,lu7,y81,bj9,wrap64,dec_lt,cw6,nl3,qc6,mr8,nb8,if_pos,if_neg,h1,h2,e1,e2,nb8 hat,hcv,e3,List.length_map]
  rw[e4]
  simp(disch:=first|omega|fail) only[push_cast,seval,ui5,lu7,y81,bj9,wrap64,dec_lt,cw6,nl3,qc6,mr8,nb8,if_pos,if_neg,e5,List.length_map,dec_lt hlt,e6]
theorem jx5(hP0:P≠[])(hP:P.length≤64)(hn:(P.map Prod.fst).Nodup): ∃out:List (El q),Trm out∧out.length≤P.length∧(∀p∈P,ev out p.1=p.2)∧ ∀(b:Bool) (nl:Nat) (b':Bool) (nl':Nat),∃n,
 o24 W 176 [.x (.int .i64 q), .fz b (.sl nl 0 1 (ivs (vs (P.map Prod.fst)))), .fz b' (.sl nl' 0 1 (ivs (vs (P.map Prod.snd))))] []=some (.tup [.own 0 [], .x (.int .i64 0)],[.sl n 3 1 (ivs (vs out))],[]):=by
 cases hPc:P with
 |nil=>exact absurd hPc hP0
 |cons p R=>
  obtain⟨out,o1,o2,o3,o4⟩:=za0 hP hn R [] p [] [1] hPc.symm (ThrI.start _)
  rw[←hPc]
  refine⟨out,o1,o2,o3,fun b nl b' nl'=> ?_⟩
  obtain⟨n1,T,e2⟩:=o4 b nl b' nl' 1 0
  rw[show ivs (vs [(1:El q)])=[Tree.v (.int .i64 1)]from rfl]at e2
  simp only[rp2,lz6,List.length_nil,Int.natCast_zero]at e2
  have e1:=fun b nl b' nl'=>ce8 (b:=b) (nl:=nl) (b':=b') (nl':=nl') (a:=P.map Prod.fst) (c:=P.map Prod.snd) (by rw[List.length_map];omega) (by rw[List.length_map];omega)
  refine⟨n1, ?_⟩
  rw[o10 rfl T176 rfl]
  unfold F176 c176
  simp(disch:=first|omega|fail) only[push_cast,seval,ui5,lu7,y81,bj9,wrap64,dec_lt,cw6,nl3,qc6,mr8,nb8,if_pos,if_neg,e1,List.length_map]
  rw[e2]
  simp(disch:=first|omega|fail) only[push_cast,seval,ui5,lu7,y81,bj9,wrap64,dec_lt,cw6,nl3,qc6,mr8,nb8,if_pos,if_neg]
end
end Go.Proofs.YtlhmdmedagjmnaaGreat
namespace Go.Proofs.YtlhmdmedagjmnaaGreat
open Go.Am Go.Vm Go.Alg
section
variable {K:Type} [FK K]
def hiT:List K→List (K×K)→List K
 |h,[]=>h
 |h,p::P=>hiT (mulK h [-p.1,1]) P
theorem gd4: ∀(P:List (K×K)) (h:List K),Trm h→h≠[]→Trm (hiT h P)∧(hiT h P).length=h.length+P.length∧(∀y,ev h y=0→ev (hiT h P) y=0)∧ ∀p∈P,ev (hiT h P) p.1=0
 | [],h,h1,h2=>⟨h1,rfl,fun y e=>e,fun p hp=>by cases hp⟩
 |p::P,h,h1,h2=>by
  have hl:=lk3 h1 (mo3 p.1) h2 (by simp)
  have h0:0<h.length:=List.length_pos_iff.2 h2
  simp only[List.length_cons,List.length_nil]at hl
  obtain⟨a1,a2,a3,a4⟩:=gd4 P (mulK h [-p.1,1]) (ho6 _ _) (fun e=>by rw[e]at hl;simp only[List.length_nil]at hl;omega)
  rw[hiT]
  refine⟨a1,by rw[a2,hl,List.length_cons];omega,fun y e=>a3 y (by rw[jo3,e,zero_mul]),fun r hr=> ?_⟩
  rcases List.mem_cons.1 hr with rfl|hr
  ·exact a3 _ (by rw[jo3,tt9,sub_eq,FK.add_neg,mul_zero])
  ·exact a4 r hr
end
section
variable {q:Int} [IsFld q] {b b':Bool} {nl nl':Nat} {P:List (El q×El q)} {k:Nat}
theorem c05(hP:P.length≤64)(hk:k≤64){n1:Nat}{T:Tree}: ∀(n i:Nat) (h:List (El q)) (nh:Nat),i+n=P.length→h.length≤i+1→ ∃nh',∀ks,
 vgoL W ⟨h107,[.tmp 8, .tmp 9, .tmp 10, .tmp 11],0⟩ [0,2,13,14,15,17,58,59,60] c107L0 (.blk 0 [0,2,13,14,15,17]::ks) [(0, .x (.int .i64 q)),(2, .x (.int .i64 k)),(13, .own 0 []),(14, .own 1 []),(15, .fz true (pF q)),(17, .own 2 []),(58, .own 0 []),(59, .x (.int .i64 P.length)),(60, .x (.int .i64 i))] [.sl n1 3 1 (ivs (vs (P.map Prod.fst))),T, .sl nh 3 1 (ivs (vs h))]=
  vgo W ⟨h107,[.tmp 8, .tmp 9, .tmp 10, .tmp 11],0⟩ ks (VFr.of [(0, .x (.int .i64 q)),(2, .x (.int .i64 k)),(13, .own 0 []),(14, .own 1 []),(15, .fz true (pF q)),(17, .own 2 [])]) [.sl n1 3 1 (ivs (vs (P.map Prod.fst))),T, .sl nh' 3 1 (ivs (vs (hiT h (P.drop i))))]
 |0,i,h,nh,hi,hl=>by
  refine⟨nh,fun ks=> ?_⟩
  rw[oh9 (by omega),hiT,sb5 c107L0.eq_def]
  simp(disch:=first|omega|fail) only[push_cast,seval,ui5,lu7,y81,bj9,wrap64,dec_lt,cw6,nl3,qc6,mr8,nb8,if_pos,if_neg,List.length_map]
 |n+1,i,h,nh,hi,hl=>by
  obtain⟨p,hp⟩:=ge6 (l:=P) (i:=i) (by omega)
  have h1:=iat (show(vs (P.map Prod.fst))[i]? =some p.1.v by unfold vs;rw[List.getElem?_map,List.getElem?_map,hp];rfl)
  have hml:=bx4 h [-p.1,1]
  simp only[List.length_cons,List.length_nil]at hml
  have htl:=tb1 h
  have htl2:=tb1 [-p.1,1]
  simp only[List.length_cons,List.length_nil]at htl2
  obtain⟨F,e1⟩:=sk4 fun b nl b' nl'=>h84 (b:=b) (nl:=nl) (b':=b') (nl':=nl') (a:=h) (c:=[-p.1,1]) (by omega) (by simp) fun e=>by have:=e.2.2;omega
  rw[show ivs (vs [-p.1,1])=[Tree.v (.int .i64 (fneg q p.1.v)),Tree.v (.int .i64 1)]from rfl]at e1
  obtain⟨nh',e2⟩:=c05 hP hk (n1:=n1) (T:=T) n (i+1) (mulK h [-p.1,1]) (F false nh false 0) (by omega) (by omega)
  refine⟨nh',fun ks=> ?_⟩
  have ih:=e2 ks
  have hlt:i<P.length:=by omega
  rw[Int.natCast_add,Int.natCast_one]at ih
  rw[i62 hp,hiT,←ih,sb5 c107L0.eq_def]
  simp(disch:=first|omega|fail) only[push_cast,seval,ui5,lu7,y81,bj9,wrap64,dec_lt,cw6,nl3,qc6,mr8,nb8,if_pos,if_neg,h1,e1,List.length_map]
theorem ly5{T0 T1 T2 T3 T4 T5:Tree}{nz:Nat}: ∀(n i:Nat) (z:List (El q)),i+n=z.length→z.length≤1000→ ∀ks,
 vgoL W ⟨h107,[.tmp 8, .tmp 9, .tmp 10, .tmp 11],0⟩ [0,2,13,14,15,20,22,23,25,27,108,109] c107L1 (.blk 4 [0,2,13,14,15,20,22,23,25,27]::ks) [(0, .x (.int .i64 q)),(2, .x (.int .i64 k)),(13, .own 0 []),(14, .own 1 []),(15, .fz true (pF q)),(20, .own 2 []),(22, .own 3 []),(23, .own 4 []),(25, .own 5 []),(27, .own 6 []),(108, .x (.int .i64 z.length)),(109, .x (.int .i64 i))] [T0,T1,T2,T3,T4,T5, .sl nz 3 1 (ivs (vs z))]=
  vgo W ⟨h107,[.tmp 8, .tmp 9, .tmp 10, .tmp 11],0⟩ ks (VFr.of [(0, .x (.int .i64 q)),(2, .x (.int .i64 k)),(13, .own 0 []),(14, .own 1 []),(15, .fz true (pF q)),(20, .own 2 []),(22, .own 3 []),(23, .own 4 []),(25, .own 5 []),(27, .own 6 [])]) [T0,T1,T2,T3,T4,T5, .sl nz 3 1 (ivs (vs (negT n i z)))]
 |0,i,z,hk,hz,ks=>by
  rw[negT,sb5 c107L1.eq_def]
  simp(disch:=first|omega|fail) only[push_cast,seval,ui5,lu7,y81,bj9,wrap64,dec_lt,cw6,nl3,qc6,mr8,nb8,if_pos,if_neg]
 |n+1,i,z,hk,hz,ks=>by
  have ih:=ly5 (T0:=T0) (T1:=T1) (T2:=T2) (T3:=T3) (T4:=T4) (T5:=T5) (nz:=nz) n (i+1) (z.set i (-wf z i)) (by rw[List.length_set];omega) (by rw[List.length_set];omega) ks
  have h1:=iva (l:=z) (i:=i) (by omega)
  rw[Int.natCast_add,Int.natCast_one,←g52,tg5,List.length_set]at ih
  rw[negT,←ih,sb5 c107L1.eq_def]
  simp(disch:=first|omega|fail) only[push_cast,seval,ui5,lu7,y81,bj9,wrap64,dec_lt,cw6,nl3,qc6,mr8,nb8,if_pos,if_neg,h1]
theorem mh7(hP:P.length≤64)(hk:k≤P.length)(hk0:0<k){nx:Nat}{Ty:Tree}: ∀(d:Nat) (high low u v:List (El q)),low.length≤d→EuI P k high low u v→ ∃high' low' u' v',EuI P k high' low' u' v'∧ ¬P.length+k+2≤2*low'.length∧ ∀a1 a2 a3 a4:Nat,∃b1 b2 b3 b4:Nat,∀ks,
 vgoL W ⟨h107,[.tmp 8, .tmp 9, .tmp 10, .tmp 11],0⟩ [0,2,13,14,15,17,20,22,23] c107L2 (.blk 2 [0,2,13,14,20,23]::ks) [(0, .x (.int .i64 q)),(2, .x (.int .i64 k)),(13, .own 0 []),(14, .own 1 []),(15, .fz true (pF q)),(17, .own 2 []),(20, .own 3 []),(22, .own 4 []),(23, .own 5 [])] [.sl nx 3 1 (ivs (vs (P.map Prod.fst))),Ty, .sl a1 3 1 (ivs (vs high)), .sl a2 3 1 (ivs (vs low)), .sl a3 3 1 (ivs (vs u)), .sl a4 3 1 (ivs (vs v))]=
  vgo W ⟨h107,[.tmp 8, .tmp 9, .tmp 10, .tmp 11],0⟩ ks (VFr.of [(0, .x (.int .i64 q)),(2, .x (.int .i64 k)),(13, .own 0 []),(14, .own 1 []),(20, .own 3 []),(23, .own 5 [])]) [.sl nx 3 1 (ivs (vs (P.map Prod.fst))),Ty, .sl b1 3 1 (ivs (vs high')), .sl b2 3 1 (ivs (vs low')), .sl b3 3 1 (ivs (vs u')), .sl b4 3 1 (ivs (vs v'))]:=by
 intro d
 induction d with
 |zero=>
  intro high low u v hd h
  have hl0:low.length=0:=by omega
  refine⟨high,low,u,v,h,by omega,fun a1 a2 a3 a4=>⟨a1,a2,a3,a4,fun ks=> ?_⟩⟩
  have w1:IntKind.wrap .i64 ((low.length:Int)-1)=(low.length:Int)-1:=wrap64 (by omega) (by omega)
  have w2:IntKind.wrap .i64 (2*((low.length:Int)-1))=2*((low.length:Int)-1):=wrap64 (by omega) (by omega)
  have w3:IntKind.wrap .i64 ((P.length:Int)+(k:Int))=(P.length:Int)+(k:Int):=wrap64 (by omega) (by omega)
  have hno:2*((low.length:Int)-1)<(P.length:Int)+(k:Int):=by omega
  rw[sb5 c107L2.eq_def]
  simp(disch:=first|omega|fail) only[push_cast,seval,ui5,lu7,y81,bj9,wrap64,dec_lt,cw6,nl3,qc6,mr8,nb8,if_pos,if_neg,List.length_map,w1,w2,w3,qc6 hno]
 |succ d ih=>
  intro high low u v hd h
  have hsum:=h.sum
  have hlt:=h.lt
  have hut:=h.ut
  have hbig:=h.big
  have w1:IntKind.wrap .i64 ((low.length:Int)-1)=(low.length:Int)-1:=wrap64 (by omega) (by omega)
  have w2:IntKind.wrap .i64 (2*((low.length:Int)-1))=2*((low.length:Int)-1):=wrap64 (by omega) (by omega)
  have w3:IntKind.wrap .i64 ((P.length:Int)+(k:Int))=(P.length:Int)+(k:Int):=wrap64 (by omega) (by omega)
  by_cases hc:P.length+k+2≤2*low.length
  ·obtain⟨q1,q2,q3,q4,q5,q6⟩:=h.quo hc
   have hs:=h.step hc
   have hyes:(P.length:Int)+(k:Int)≤2*((low.length:Int)-1):=by omega
   have hlow:xa4 low≠[]:=by
    rw[ou7 h.tl]
    rintro rfl
    simp at hc
   obtain⟨F1,e1⟩:=sk4 fun b nl b' nl'=>pl2 (b:=b) (nl:=nl) (b':=b') (nl':=nl') (a:=high) (c:=low) (by omega) (by omega) hlow
   rw[ou7 h.th,ou7 h.tl]at e1
   obtain⟨Q,hQ⟩: ∃Q,quoP high low=Q:=⟨_,rfl⟩
   obtain⟨R,hR⟩: ∃R,remP high low=R:=⟨_,rfl⟩
   rw[hQ,hR]at e1
   rw[hQ]at q1 q2 q3 q6
   rw[hR]at q4 q5
   rw[hQ,hR]at hs
   have t1:=tb1 Q
   have t2:=tb1 v
   obtain⟨F2,e2⟩:=sk4 fun b nl b' nl'=>h84 (b:=b) (nl:=nl) (b':=b') (nl':=nl') (a:=Q) (c:=v) (by omega) (by omega) fun e=>by have:=e.2.2;omega
   obtain⟨Z,hZ⟩: ∃Z,mulK Q v=Z:=⟨_,rfl⟩
   rw[hZ]at e2 q6 hs
   have e3:=fun T0 T1 T2 T3 T4 T5 nz ks=>ly5 (q:=q) (k:=k) (T0:=T0) (T1:=T1) (T2:=T2) (T3:=T3) (T4:=T4) (T5:=T5) (nz:=nz) Z.length 0 Z (by omega) (by omega) ks
   rw[um4]at e3
   simp only[Int.natCast_zero]at e3
   have e4:=fun b nl b' nl'=>wa2 (b:=b) (nl:=nl) (b':=b') (nl':=nl') (a:=u) (c:=Z.map fun x=> -x) (by omega) (by rw[List.length_map];omega)
   obtain⟨high',low',u',v',f1,f2,f3⟩:=ih low R v _ (by omega) hs
   refine⟨high',low',u',v',f1,f2,fun a1 a2 a3 a4=> ?_⟩
   obtain⟨b1,b2,b3,b4,f4⟩:=f3 a2 (nlT R) a4 (nlT (addK u (Z.map fun x=> -x)))
   refine⟨b1,b2,b3,b4,fun ks=> ?_⟩
   rw[←f4 ks,sb5 c107L2.eq_def]
   simp(disch:=first|omega|fail) only[push_cast,seval,ui5,lu7,y81,bj9,wrap64,dec_lt,cw6,nl3,qc6,mr8,nb8,if_pos,if_neg,List.length_map,w1,w2,w3,nl3 hyes,e1,e2]
   rw[e3]
   simp(disch:=first|omega|fail) only[push_cast,seval,ui5,lu7,y81,bj9,wrap64,dec_lt,cw6,nl3,qc6,mr8,nb8,if_pos,if_neg,List.length_map,e4]
  ·refine⟨high,low,u,v,h,hc,fun a1 a2 a3 a4=>⟨a1,a2,a3,a4,fun ks=> ?_⟩⟩
   have hno:2*((low.length:Int)-1)<(P.length:Int)+(k:Int):=by omega
   rw[sb5 c107L2.eq_def]
   simp(disch:=first|omega|fail) only[push_cast,seval,ui5,lu7,y81,bj9,wrap64,dec_lt,cw6,nl3,qc6,mr8,nb8,if_pos,if_neg,List.length_map,w1,w2,w3,qc6 hno]
theorem bx5{X:List (El q)}{U:List (Option (El q))}{k:Nat}(hn:X.Nodup)(hX1:1≤X.length)(hX:X.length≤64)(hU:U.length=X.length)(k1:1≤k)(k2:k≤X.length):
 o24 W 107 [.x (.int .i64 q), .fz b (.sl nl 0 1 (ivs (vs X))), .x (.int .i64 k), .fz b' (.sl nl' 0 1 (ivs (ws U)))] []=yg9 (kh0 X U) (recK (kh0 X U) k):=by
 have e1:=fun b nl b' nl'=>hd9 (q:=q) (b:=b) (nl:=nl) (b':=b') (nl':=nl') (xs:=vs X) (w:=ws U) (k:=k) (by rw[fi2];omega) (by rw[u67];omega)
 simp only[y91 hn hX1 hX hU k1 k2]at e1
 have e2:=fun b nl b' nl'=>jl7 (b:=b) (nl:=nl) (b':=b') (nl':=nl') hU (by omega)
 have hPl:=ah8 X U
 have hPn:=yx3 (U:=U) hn
 generalize kh0 X U=P at*
 by_cases hlt:P.length<k
 ·rw[vp7 hlt]
  rw[o10 rfl T107 rfl]
  unfold F107 c107
  unfold yg9
  simp(disch:=first|omega|fail) only[push_cast,seval,ui5,lu7,y81,bj9,wrap64,dec_lt,cw6,nl3,qc6,mr8,nb8,if_pos,if_neg,e1,e2,List.length_map,hlt]
 ·have hlt': ¬(P.length:Int)<(k:Int):=by omega
  have hP0:P≠[]:=by rintro rfl;simp at hlt;omega
  obtain⟨h1,h2,h3,h4⟩:=gd4 P [(1:El q)] (py3 ki8) (by simp)
  simp only[List.length_singleton]at h2
  have e3:=fun n1 T=>c05 (k:=k) (P:=P) (by omega) (by omega) (n1:=n1) (T:=T) P.length 0 [1] 0 (by omega) (by simp)
  rw[List.drop_zero,show ivs (vs [(1:El q)])=[Tree.v (.int .i64 1)]from rfl]at e3
  simp only[Int.natCast_zero]at e3
  obtain⟨low,o1,o2,o3,o4⟩:=jx5 (q:=q) hP0 (by omega) hPn
  obtain⟨F1,e4⟩:=sk4 o4
  obtain⟨high',low',u',v',f1,f2,f3⟩:=mh7 (P:=P) (k:=k) (by omega) (by omega) (by omega) (nx:=1) (Ty:= .sl 1 3 1 (ivs (vs (P.map Prod.snd)))) low.length (hiT [1] P) low [] [1] (Nat.le_refl _) (EuI.start (by omega) h1 (by omega) h4 o1 o2 o3)
  obtain⟨nh,e3'⟩:=e3 1 (.sl 1 3 1 (ivs (vs (P.map Prod.snd))))
  obtain⟨b1,b2,b3,b4,e5⟩:=f3 nh (F1 false 1 false 1) 1 0
  rw[show ivs (vs [(1:El q)])=[Tree.v (.int .i64 1)]from rfl]at e5
  simp only[rp2,lz6]at e5
  have hE0:wf v'≠fun _=>0:=fun e=>f1.nv (by rw[←ou7 f1.tv];exact vy9 e)
  have hsum:=f1.sum
  have hlw:=f1.lt
  have hbig:=f1.big
  obtain⟨F2,e6⟩:=sk4 fun b nl b' nl'=>pl2 (b:=b) (nl:=nl) (b':=b') (nl':=nl') (a:=low') (c:=v') (by omega) (by omega) fun e=>hE0 (rj1.1 e)
  rw[wt4 hPn (f1.done f2) hE0]
  rw[o10 rfl T107 rfl]
  unfold F107 c107
  simp(disch:=first|omega|fail) only[push_cast,seval,ui5,lu7,y81,bj9,wrap64,dec_lt,cw6,nl3,qc6,mr8,nb8,if_pos,if_neg,e1,e2,List.length_map,cw6 (Int.not_lt.1 hlt')]
  rw[e3']
  simp(disch:=first|omega|fail) only[push_cast,seval,ui5,lu7,y81,bj9,wrap64,dec_lt,cw6,nl3,qc6,mr8,nb8,if_pos,if_neg,e4]
  rw[e5]
  generalize quoP (xa4 low') (xa4 v')=Q at*
  generalize remP (xa4 low') (xa4 v')=R at*
  by_cases h1:R=[]∧Q.length≤k
  ·have hR:R.length=0:=by rw[h1.1];rfl
   have hQ:=h1.2
   have e7:=fun b nl b' nl' b2 nl2=>up6 (b:=b) (nl:=nl) (b':=b') (nl':=nl') (b2:=b2) (nl2:=nl2) (P:=P) (a:=Q) (k:=k) hQ (by omega) (by omega)
   by_cases h2:2*offK Q P+k≤P.length
   ·rw[if_pos ⟨h1,h2⟩]
    simp only[if_pos h2]at e7
    have h3:offK (qi3 Q k) P=offK Q P:=tx3 (yq4 fun j hj=>e00 (by omega)) P
    unfold yg9
    simp(disch:=first|omega|fail) only[push_cast,seval,ui5,lu7,y81,bj9,wrap64,dec_lt,cw6,nl3,qc6,mr8,nb8,if_pos,if_neg,e6,hR,hQ,e7,h3]
   ·rw[if_neg fun h=>h2 h.2]
    simp only[if_neg h2]at e7
    unfold yg9
    simp(disch:=first|omega|fail) only[push_cast,seval,ui5,lu7,y81,bj9,wrap64,dec_lt,cw6,nl3,qc6,mr8,nb8,if_pos,if_neg,e6,hR,hQ,e7]
  ·rw[if_neg fun h=>h1 h.1]
   unfold yg9
   by_cases hR:R.length=0
   ·have hQ: ¬Q.length≤k:=fun h=>h1 ⟨List.eq_nil_of_length_eq_zero hR,h⟩
    have hQ':(k:Int)<(Q.length:Int):=by omega
    simp(disch:=first|omega|fail) only[push_cast,seval,ui5,lu7,y81,bj9,wrap64,dec_lt,cw6,nl3,qc6,mr8,nb8,if_pos,if_neg,e6,hR,dec_lt hQ']
   ·have hR':(0:Int)<(R.length:Int):=by omega
    simp(disch:=first|omega|fail) only[push_cast,seval,ui5,lu7,y81,bj9,wrap64,dec_lt,cw6,nl3,qc6,mr8,nb8,if_pos,if_neg,e6,dec_lt hR']
end
end Go.Proofs.YtlhmdmedagjmnaaGreat
namespace Go.Proofs.YtlhmdmedagjmnaaGreat
open Go.Am Go.Vm Go.Alg
section
variable {b b':Bool} {nl nl' nr nr':Nat}
theorem ft0{l k:List Int}(hl:l.length≤9223372036854775807)(hk:k.length=l.length): ∀(d i:Nat),i+d=l.length→ ∀ks,
 vgoL W ⟨hNo,[.tmp 4],0⟩ [0,1,5] c16L0 (.blk 0 []::ks) [(0, .fz b (.sl nl 0 1 (ivs l))),(1, .fz b' (.sl nl' 0 1 (ivs k))),(5, .x (.int .i64 i))] []=
  if l.drop i=k.drop i then vgo W ⟨hNo,[.tmp 4],0⟩ ks (VFr.of []) []else some (.x (.bool false),[],[])
 |0,i,hi,ks=>by
  rw[oh9 (by omega),oh9 (by omega),if_pos rfl,sb5 c16L0.eq_def]
  simp(disch:=first|omega|fail) only[push_cast,seval,ui5,lu7,y81,bj9,wrap64,dec_lt,cw6,nl3,qc6,mr8,nb8,if_pos,if_neg]
 |d+1,i,hi,ks=>by
  have ih:=ft0 hl hk d (i+1) (by omega) ks
  obtain⟨a,ha⟩:=ge6 (l:=l) (i:=i) (by omega)
  obtain⟨c,hc⟩:=ge6 (l:=k) (i:=i) (by omega)
  have h1:=iat ha
  have h2:=iat hc
  rw[i62 ha,i62 hc]
  rw[Int.natCast_add,Int.natCast_one]at ih
  by_cases h:a=c
  ·have hiff:(a::l.drop (i+1)=c::k.drop (i+1))=(l.drop (i+1)=k.drop (i+1)):=by rw[h];simp
   simp only[hiff]
   rw[←ih,sb5 c16L0.eq_def]
   simp(disch:=first|omega|fail) only[push_cast,seval,ui5,lu7,y81,bj9,wrap64,dec_lt,cw6,nl3,qc6,mr8,nb8,if_pos,if_neg,h1,h2,h]
  ·rw[if_neg (by intro e;exact h (List.cons.inj e).1),sb5 c16L0.eq_def]
   simp(disch:=first|omega|fail) only[push_cast,seval,ui5,lu7,y81,bj9,wrap64,dec_lt,cw6,nl3,qc6,mr8,nb8,if_pos,if_neg,h1,h2,nb8 h]
theorem nb2{l k:List Int}(hl:l.length≤9223372036854775807):o24 W 16 [.fz b (.sl nl 0 1 (ivs l)), .fz b' (.sl nl' 0 1 (ivs k))] []=some (.x (.bool (decide (l=k))),[],[]):=by
 by_cases hk:k.length=l.length
 ·have e:=fun ks=>ft0 (b:=b) (b':=b') (nl:=nl) (nl':=nl') hl hk l.length 0 (by omega) ks
  simp only[Int.natCast_zero,List.take_zero,List.drop_zero,rp2,lz6,x25,List.map_nil,List.length_nil]at e
  rw[o10 rfl T16 rfl]
  unfold F16 c16
  simp(disch:=first|omega|fail) only[push_cast,seval,ui5,lu7,y81,bj9,wrap64,dec_lt,cw6,nl3,qc6,mr8,nb8,if_pos,if_neg,hk]
  rw[e]
  by_cases h:l=k
  ·rw[if_pos h,decide_eq_true h]
   simp(disch:=first|omega|fail) only[push_cast,seval,ui5,lu7,y81,bj9,wrap64,dec_lt,cw6,nl3,qc6,mr8,nb8,if_pos,if_neg]
  ·rw[if_neg h,decide_eq_false h]
 ·have h: ¬l=k:=fun e=>hk (by rw[e])
  have h8: ¬(l.length:Int)=(k.length:Int):=by omega
  rw[decide_eq_false h,o10 rfl T16 rfl]
  unfold F16 c16
  simp(disch:=first|omega|fail) only[push_cast,seval,ui5,lu7,y81,bj9,wrap64,dec_lt,cw6,nl3,qc6,mr8,nb8,if_pos,if_neg,nb8 h8]
theorem ea2{l k:List Int}{e f:Int}(hl:l.length≤9223372036854775807):o24 W 41 [.fz b (.sl nl 0 1 (ivs l)), .x (.int .i64 e), .fz b' (.sl nl' 0 1 (ivs k)), .x (.int .i64 f)] []=some (.x (.bool (if f=0 then decide (e=0)&&decide (l=k)else decide (e=f)&&decide (l.length=0))),[],[]):=by
 have h1:=fun b b' nl nl'=>nb2 (b:=b) (b':=b') (nl:=nl) (nl':=nl') (k:=k) hl
 by_cases hf:f=0
 ·rw[if_pos hf]
  by_cases h0:e=0
  ·rw[decide_eq_true h0,Bool.true_and,o10 rfl T41 rfl]
   unfold F41 c41
   simp(disch:=first|omega|fail) only[push_cast,seval,ui5,lu7,y81,bj9,wrap64,dec_lt,cw6,nl3,qc6,mr8,nb8,if_pos,if_neg,hf,h0,h1]
  ·rw[decide_eq_false h0,Bool.false_and,o10 rfl T41 rfl]
   unfold F41 c41
   simp(disch:=first|omega|fail) only[push_cast,seval,ui5,lu7,y81,bj9,wrap64,dec_lt,cw6,nl3,qc6,mr8,nb8,if_pos,if_neg,hf,nb8 h0]
 ·rw[if_neg hf]
  by_cases h0:e=f
  ·subst h0
   rw[decide_eq_true rfl,Bool.true_and,o10 rfl T41 rfl]
   unfold F41 c41
   by_cases hz:l.length=0
   ·rw[decide_eq_true hz]
    simp(disch:=first|omega|fail) only[push_cast,seval,ui5,lu7,y81,bj9,wrap64,dec_lt,cw6,nl3,qc6,mr8,nb8,if_pos,if_neg,nb8 hf,hz]
   ·rw[decide_eq_false hz]
    simp(disch:=first|omega|fail) only[push_cast,seval,ui5,lu7,y81,bj9,wrap64,dec_lt,cw6,nl3,qc6,mr8,nb8,if_pos,if_neg,nb8 hf]
  ·rw[decide_eq_false h0,Bool.false_and,o10 rfl T41 rfl]
   unfold F41 c41
   simp(disch:=first|omega|fail) only[push_cast,seval,ui5,lu7,y81,bj9,wrap64,dec_lt,cw6,nl3,qc6,mr8,nb8,if_pos,if_neg,nb8 hf,nb8 h0]
section
variable {q:Int} [IsFld q]
end
end
end Go.Proofs.YtlhmdmedagjmnaaGreat
namespace Go.Proofs.YtlhmdmedagjmnaaGreat
open Go.Am Go.Vm Go.Alg
section
variable {q p m g:Int} {t:Tree} {b:Bool} {nl nr:Nat} {M:List (List Int)}
end
end Go.Proofs.YtlhmdmedagjmnaaGreat
namespace Go.Proofs.YtlhmdmedagjmnaaGreat
open Go.Am Go.Vm Go.Alg
section
variable {q n:Int} {nl nr:Nat} {M:List (List Int)}
end
end Go.Proofs.YtlhmdmedagjmnaaGreat
namespace Go.Proofs.YtlhmdmedagjmnaaGreat
open Go.Am Go.Vm Go.Alg
section
variable {q:Int} {b:Bool} {nl nr n6 n7:Nat}
section
variable [IsFld q] {A:List (Nat×List (El q))} {N:Nat} {K:List (List Int)}
end
end
end Go.Proofs.YtlhmdmedagjmnaaGreat
namespace Go.Proofs.YtlhmdmedagjmnaaGreat
open Go.Am Go.Vm Go.Alg
section
variable {q n:Int} {nl nr:Nat} {M:List (List Int)}
end
section
variable {q:Int} [IsFld q] {k nl nr:Nat} {N:List (List (El q))}
end
end Go.Proofs.YtlhmdmedagjmnaaGreat
namespace Go.Proofs.YtlhmdmedagjmnaaGreat
open Go.Am Go.Vm Go.Alg
section
variable {q n q' n' e:Int} {nl nr nl' nr':Nat} {M M':List (List Int)}
end
section
variable {q:Int} [IsFld q] {k nl nr nl2:Nat} {b:Bool} {N:List (List (El q))} {M:List (List Int)} {w:List Int}
end
end Go.Proofs.YtlhmdmedagjmnaaGreat
namespace Go.Proofs.YtlhmdmedagjmnaaGreat
open Go.Am Go.Vm Go.Alg
def fvs(nl:Nat)(m:List (List Int)):List Tree:=m.map fun l=> .fz (.sl nl 0 1 (ivs l))
@[push_cast] theorem lv3(nl:Nat)(m:List (List Int)):(fvs nl m).length=m.length:=by simp[fvs]
@[push_cast] theorem iz0(nl:Nat)(m:List (List Int)):jj5 (fvs nl m)=lvs nl m:=by
 rw[gz0]
 unfold fvs lvs
 rw[List.map_map]
 exact List.map_congr_left fun l _=>by show strip _=_;rw[strip]
@[push_cast] theorem s84(nl:Nat)(m:List (List Int))(l:List Int):fvs nl m++[.fz (.sl nl 0 1 (ivs l))]=fvs nl (m++[l]):=by unfold fvs;rw[List.map_append];rfl
section
variable {n:Int} {E:List (Int×Int)} {nl:Nat}
end
end Go.Proofs.YtlhmdmedagjmnaaGreat
namespace Go.Proofs.YtlhmdmedagjmnaaGreat
open Go.Am Go.Vm Go.Alg
section
variable {α β:Type} {to:Int}
end
section
variable {q:Int} [IsFld q] {n to:Int} {E:List (Int×Int)} {nl nl' nr nr' nlv:Nat} {b b':Bool}
end
end Go.Proofs.YtlhmdmedagjmnaaGreat
namespace Go.Proofs.YtlhmdmedagjmnaaGreat
open Go.Am Go.Vm Go.Alg
section
variable {q n to:Int} {E:List (Int×Int)} {nl nl' nr nr' nlv:Nat} {b b':Bool}
end
end Go.Proofs.YtlhmdmedagjmnaaGreat
namespace Go.Proofs.YtlhmdmedagjmnaaGreat
open Go.Am Go.Vm Go.Alg
section
variable {q n to:Int} {E:List (Int×Int)} {nl nl' nr nr' nlv:Nat} {b b':Bool}
end
end Go.Proofs.YtlhmdmedagjmnaaGreat
namespace Go.Proofs.YtlhmdmedagjmnaaGreat
open Go.Am Go.Vm Go.Alg
theorem nf4{L:List Int}{e:Int}(hL:L.length≤9223372036854775807)(he:e≠0→L=[])(b b':Bool)(nl nl':Nat):
 o24 W 41 [.fz b (.sl nl 0 1 (ivs L)), .x (.int .i64 e), .fz b' (.sl nl' 0 1 (ivs L)), .x (.int .i64 e)] []=some (.x (.bool true),[],[]):=by
 rw[ea2 hL]
 by_cases h:e=0
 ·rw[if_pos h,decide_eq_true h,decide_eq_true rfl];rfl
 ·rw[if_neg h,he h,decide_eq_true rfl];rfl
section
variable {q n to:Int} {E:List (Int×Int)} {nl nl' nr nr' nlv nlc:Nat} {b b':Bool}
end
end Go.Proofs.YtlhmdmedagjmnaaGreat
namespace Go.Proofs.YtlhmdmedagjmnaaGreat
open Go.Am Go.Vm Go.Alg
section
variable {q:Int} {b b':Bool} {nl nl':Nat} {xs w ms:List Int} {k:Int}
theorem zf3(hx:xs.length≤9223372036854775807)(hw:w.length≤9223372036854775807)(he:wrdE q xs k w≠0):
 o24 W 106 [.x (.int .i64 q), .fz b (.sl nl 0 1 (ivs xs)), .x (.int .i64 k), .fz b' (.sl nl' 0 1 (ivs w))] []=some (.tup [.own 0 [], .x (.int .i64 0), .x (.bool false), .x (.int .i64 (wrdE q xs k w))],[.sl 1 3 1 []],[]):=by
 have e1:=fun b nl b' nl'=>hd9 (q:=q) (b:=b) (nl:=nl) (b':=b') (nl':=nl') (k:=k) hx hw
 rw[o10 rfl T106 rfl]
 unfold F106 c106
 simp(disch:=first|omega|fail) only[push_cast,seval,ui5,lu7,y81,bj9,wrap64,dec_lt,cw6,nl3,qc6,mr8,nb8,if_pos,if_neg,e1,nb8 he]
theorem bx1(hx:xs.length≤9223372036854775807)(hw:w.length≤9223372036854775807)(he:wrdE q xs k w≠0):
 o24 W 107 [.x (.int .i64 q), .fz b (.sl nl 0 1 (ivs xs)), .x (.int .i64 k), .fz b' (.sl nl' 0 1 (ivs w))] []=some (.tup [.own 0 [], .x (.int .i64 0), .x (.bool false), .x (.int .i64 (wrdE q xs k w))],[.sl 1 3 1 []],[]):=by
 have e1:=fun b nl b' nl'=>hd9 (q:=q) (b:=b) (nl:=nl) (b':=b') (nl':=nl') (k:=k) hx hw
 rw[o10 rfl T107 rfl]
 unfold F107 c107
 simp(disch:=first|omega|fail) only[push_cast,seval,ui5,lu7,y81,bj9,wrap64,dec_lt,cw6,nl3,qc6,mr8,nb8,if_pos,if_neg,e1,nb8 he]
def encE(q:Int)(xs ms:List Int):Int:=if rdE q xs ms.length=0 then polE q ms else rdE q xs ms.length
theorem x90(hx:xs.length≤9223372036854775807)(hm:ms.length≤9223372036854775807)(he:encE q xs ms≠0):
 o24 W 40 [.x (.int .i64 q), .fz b (.sl nl 0 1 (ivs xs)), .fz b' (.sl nl' 0 1 (ivs ms))] []=some (.tup [.own 0 [], .x (.int .i64 (encE q xs ms))],[.sl 1 3 1 []],[]):=by
 have e1:=fun b nl=>h24 (q:=q) (b:=b) (nl:=nl) (xs:=xs) (k:=ms.length) hx
 have e2:=fun b nl=>bw7 (q:=q) (b:=b) (nl:=nl) (l:=ms) hm
 rw[o10 rfl T40 rfl]
 unfold F40 c40
 unfold encE at he⊢
 by_cases h:rdE q xs ms.length=0
 ·rw[if_pos h]at he⊢
  simp(disch:=first|omega|fail) only[push_cast,seval,ui5,lu7,y81,bj9,wrap64,dec_lt,cw6,nl3,qc6,mr8,nb8,if_pos,if_neg,e1,h,e2,nb8 he]
 ·rw[if_neg h]
  simp(disch:=first|omega|fail) only[push_cast,seval,ui5,lu7,y81,bj9,wrap64,dec_lt,cw6,nl3,qc6,mr8,nb8,if_pos,if_neg,e1,nb8 h]
theorem ff2(hx:xs.length≤9223372036854775807)(hw:w.length≤9223372036854775807):
 o24 W 42 [.x (.int .i64 q), .fz b (.sl nl 0 1 (ivs xs)), .x (.int .i64 k), .fz b' (.sl nl' 0 1 (ivs w))] []=some (.x (.bool true),[],[]):=by
 have e1:=fun b nl b' nl'=>r73 (q:=q) (b:=b) (nl:=nl) (b':=b') (nl':=nl') (k:=k) hx hw
 by_cases he:wrdE q xs k w=0
 ·simp only[he]at e1
  have he2:=he
  unfold wrdE at he2
  split at he2
  ·rename_i h1
   obtain⟨hf,X,rfl,hn,hX1,hX,hk1,hk2⟩:=z24 h1
   split at he2
   ·cases he2
   ·rename_i h2
    split at he2
    ·cases he2
    ·rename_i h3
     rw[Bool.not_eq_true]at h3
     obtain⟨U,rfl⟩:=w34 h3
     obtain⟨K,rfl⟩: ∃K:Nat,k=(K:Int):=⟨k.toNat,by omega⟩
     have hU:U.length=X.length:=by rw[u67,fi2]at h2;omega
     have e2:=fun b nl b' nl'=>on4 (b:=b) (nl:=nl) (b':=b') (nl':=nl') (X:=X) (U:=U) (k:=K) hn hX1 hX hU (by omega) (by omega)
     have e3:=fun b nl b' nl'=>bx5 (b:=b) (nl:=nl) (b':=b') (nl':=nl') (X:=X) (U:=U) (k:=K) hn hX1 hX hU (by omega) (by omega)
     have e4:=fun b nl b' nl'=>gn8 (b:=b) (nl:=nl) (b':=b') (nl':=nl') (X:=X) (U:=U) (k:=K) hn hU hX (by omega) (by omega)
     obtain⟨p,m,g,t,u⟩:=k75 q
     have ht:=u.n
     have ho:=u.o
     have e0:o24 W 38 [.x (.int .i64 q)] []=_:=uw8
     rw[u.e]at e0 e4
     generalize kh0 X U=P at*
     cases hr:recK P K with
     |none=>
      rw[hr]at e2 e3 e4
      unfold yg9 at e2 e3
      unfold recR at e4
      have e5:=fun b nl b' nl'=>nb2 (b:=b) (nl:=nl) (b':=b') (nl':=nl') (l:=[]) (k:=[]) (by simp)
      rw[decide_eq_true (rfl:([]:List Int)=[])]at e5
      simp only[lz6]at e5
      rw[o10 rfl T42 rfl]
      unfold F42 c42
      simp(disch:=first|omega|fail) only[push_cast,seval,ui5,lu7,y81,bj9,wrap64,dec_lt,cw6,nl3,qc6,mr8,nb8,if_pos,if_neg,e1,e2,e3,e4,e0,ht,ho,e5]
     |some a=>
      rw[hr]at e2 e3 e4
      have hal:=(vc6 hr).len
      unfold yg9 at e2 e3
      unfold recR at e4
      have e5:=fun b nl b' nl'=>nb2 (b:=b) (nl:=nl) (b':=b') (nl':=nl') (l:=vs a) (k:=vs a) (by rw[fi2];omega)
      rw[decide_eq_true (rfl:vs a=vs a)]at e5
      rw[o10 rfl T42 rfl]
      unfold F42 c42
      simp(disch:=first|omega|fail) only[push_cast,seval,ui5,lu7,y81,bj9,wrap64,dec_lt,cw6,nl3,qc6,mr8,nb8,if_pos,if_neg,e1,e2,e3,e4,e0,ht,ho,e5]
  ·exact absurd he2 ‹_›
 ·have e2:=fun b nl b' nl'=>zf3 (b:=b) (nl:=nl) (b':=b') (nl':=nl') hx hw he
  have e3:=fun b nl b' nl'=>bx1 (b:=b) (nl:=nl) (b':=b') (nl':=nl') hx hw he
  have e5:=fun b nl b' nl'=>nb2 (b:=b) (nl:=nl) (b':=b') (nl':=nl') (l:=[]) (k:=[]) (by simp)
  rw[decide_eq_true (rfl:([]:List Int)=[])]at e5
  simp only[lz6]at e5
  rw[o10 rfl T42 rfl]
  unfold F42 c42
  simp(disch:=first|omega|fail) only[push_cast,seval,ui5,lu7,y81,bj9,wrap64,dec_lt,cw6,nl3,qc6,mr8,nb8,if_pos,if_neg,e1,e2,e3,nb8 he,e5]
theorem vr5{b2:Bool}{nl2:Nat}(hx:xs.length≤9223372036854775807)(hm:ms.length≤9223372036854775807)(hw:w.length≤9223372036854775807):
 o24 W 5 [.x (.int .i64 q), .fz b (.sl nl 0 1 (ivs xs)), .x (.int .i64 k), .fz b2 (.sl nl2 0 1 (ivs ms)), .fz b' (.sl nl' 0 1 (ivs w))] []=some (.x (.bool true),[],[]):=by
 by_cases h3:300<IntKind.wrap .i64 (IntKind.wrap .i64 ((xs.length:Int)+(ms.length:Int))+(w.length:Int))
 ·rw[o10 rfl T5 rfl]
  unfold F5 c5
  simp(disch:=first|omega|fail) only[push_cast,seval,ui5,lu7,y81,bj9,wrap64,dec_lt,cw6,nl3,qc6,mr8,nb8,if_pos,if_neg,dec_lt h3]
 ·have h3':=cw6 (Int.not_lt.1 h3)
  rw[o10 rfl T5 rfl]
  unfold F5 c5
  simp(disch:=first|omega|fail) only[push_cast,seval,ui5,lu7,y81,bj9,wrap64,dec_lt,cw6,nl3,qc6,mr8,nb8,if_pos,if_neg,h3']
  have e1:=fun b nl k=>h24 (q:=q) (b:=b) (nl:=nl) (k:=k) hx
  have e2:=fun b nl k=>pw2 (q:=q) (b:=b) (nl:=nl) (k:=k) hx
  have e3:=fun b nl b' nl'=>hd9 (q:=q) (b:=b) (nl:=nl) (b':=b') (nl':=nl') (k:=k) hx hw
  have e4:=fun b nl b' nl'=>r73 (q:=q) (b:=b) (nl:=nl) (b':=b') (nl':=nl') (k:=k) hx hw
  have e5:=fun b nl b' nl'=>ff2 (q:=q) (b:=b) (nl:=nl) (b':=b') (nl':=nl') (k:=k) hx hw
  by_cases he:encE q xs ms=0
  ·have he2:=he
   unfold encE at he2
   split at he2
   ·rename_i h1
    obtain⟨hf,X,rfl,hn,hX1,hX,hk1,hk2⟩:=z24 h1
    obtain⟨_,hml,m,rfl⟩:=rm0 he2
    rw[fi2]at hk1 hk2 hml
    have e6:=fun b nl=>s15 (q:=q) (b:=b) (nl:=nl) (l:=vs m) (by rw[fi2];omega)
    simp only[he2]at e6
    have e7:=fun b nl b' nl'=>su9 (b:=b) (nl:=nl) (b':=b') (nl':=nl') (m:=m) hn (by omega) (by omega) hX
    have e8:=fun b nl b' nl'=>to0 (b:=b) (nl:=nl) (b':=b') (nl':=nl') (X:=X) (a:=m) (by omega) (by omega)
    obtain⟨p,mm,g,t,u⟩:=k75 q
    have ht:=u.n
    have ho:=u.o
    have e0:o24 W 38 [.x (.int .i64 q)] []=_:=uw8
    rw[u.e]at e0 e8
    have e9:=nf4 (L:=vs (X.map fun x=>ev m x)) (e:=0) (by rw[fi2,List.length_map];omega) (fun h=>absurd rfl h)
    rw[fi2]at h1
    simp(disch:=first|omega|fail) only[push_cast,seval,ui5,lu7,y81,bj9,wrap64,dec_lt,cw6,nl3,qc6,mr8,nb8,if_pos,if_neg,e1,e2,e3,e4,e5,h1,e6,e7,e8,e0,ht,ho,e9]
   ·exact absurd he2 ‹_›
  ·have e7:=fun b nl b' nl'=>x90 (b:=b) (nl:=nl) (b':=b') (nl':=nl') hx hm he
   have e9:=nf4 (L:=[]) (e:=encE q xs ms) (by simp) (fun _=>rfl)
   simp only[lz6]at e9
   have hE:=he
   unfold encE at hE e7 e9
   cases hn:fldN q.toNat with
   |none=>
    have e0:=fg0 hn
    have h1:rdE q xs ms.length≠0:=by unfold rdE;simp only[hn];decide
    simp only[if_neg h1]at e7 e9
    simp(disch:=first|omega|fail) only[push_cast,seval,ui5,lu7,y81,bj9,wrap64,dec_lt,cw6,nl3,qc6,mr8,nb8,if_pos,if_neg,e1,e2,e3,e4,e5,nb8 h1,e7,e0,e9]
   |some x=>
    obtain⟨p0,m0,g0,mod⟩:=x
    haveI:IsFld q:=⟨⟨p0,m0,g0,mod,hn⟩⟩
    obtain⟨p,mm,g,t,u⟩:=k75 q
    have ht:=u.n
    have ho:=u.o
    have e0:o24 W 38 [.x (.int .i64 q)] []=_:=uw8
    rw[u.e]at e0
    by_cases h1:rdE q xs ms.length=0
    ·simp only[if_pos h1]at hE e7 e9
     obtain⟨_,X,rfl,_,_,hX,_,hk2⟩:=z24 h1
     have e6:=fun b nl=>s15 (q:=q) (b:=b) (nl:=nl) (l:=ms) (by omega)
     simp(disch:=first|omega|fail) only[push_cast,seval,ui5,lu7,y81,bj9,wrap64,dec_lt,cw6,nl3,qc6,mr8,nb8,if_pos,if_neg,e1,e2,e3,e4,e5,h1,e6,nb8 hE,e7,e0,ht,ho,e9]
    ·simp only[if_neg h1]at e7 e9
     simp(disch:=first|omega|fail) only[push_cast,seval,ui5,lu7,y81,bj9,wrap64,dec_lt,cw6,nl3,qc6,mr8,nb8,if_pos,if_neg,e1,e2,e3,e4,e5,nb8 h1,e7,e0,ht,ho,e9]
end
end Go.Proofs.YtlhmdmedagjmnaaGreat
namespace Go.Proofs.YtlhmdmedagjmnaaGreat
open Go.Am Go.Vm Go.Alg
section
variable {h:H} {l:List AV} {ws:List Value}
theorem a23:Vm.VRL h [] (allZ h) (allZ h) [] []:=by rw[Vm.VRL]
theorem dp0(r:Vm.VRL h [] (allZ h) (allZ h) l ws)(v:Value):Vm.VRL h [] (allZ h) (allZ h) (.x v::l) (v::ws):=by
 rw[Vm.VRL];exact⟨v,ws,rfl,by rw[Vm.VR],r⟩
theorem qj4{sa:Option Addr}{c:Nat}{zs:List Int}(hr:RdI h sa c zs): ∀o,sa.map (·.block)=some o→allZ h o:=fun o ho=>by
 rcases hr with⟨rfl,_⟩|⟨_,o2,off,r2,rfl,h1,_⟩
 ·cases ho
 ·cases ho;exact h44 h1
theorem sk6(r:Vm.VRL h [] (allZ h) (allZ h) l ws){sa:Option Addr}{c:Nat}{zs:List Int}(hr:RdI h sa c zs):Vm.VRL h [] (allZ h) (allZ h) (.fz true (.sl 2 0 1 (ivs zs))::l) (.slice sa zs.length c::ws):=by
 rw[Vm.VRL];exact⟨_,ws,rfl,by rw[Vm.VR];exact pd9 hr (qj4 hr),r⟩
end
end Go.Proofs.YtlhmdmedagjmnaaGreat
namespace Go.Proofs.YtlhmdmedagjmnaaGreat
open Go.Am Go.Vm Go.Alg
theorem b52(h:H)(a0:Int)(_: -9223372036854775808≤a0)(_:a0≤9223372036854775807)(s1:Option Addr)(c1:Nat)(z1:List Int)(r1:RdI h s1 c1 z1)(_:ss4 h 1 s1=true)(_:z1.length≤9223372036854775807)(a2:Int)(_: -9223372036854775808≤a2)(_:a2≤9223372036854775807)(s3:Option Addr)(c3:Nat)(z3:List Int)(r3:RdI h s3 c3 z3)(_:ss4 h 1 s3=true)(_:z3.length≤9223372036854775807)(s4:Option Addr)(c4:Nat)(z4:List Int)(r4:RdI h s4 c4 z4)(_:ss4 h 1 s4=true)(_:z4.length≤9223372036854775807):
 ∃h',call T 5 [.int .i64 a0, .slice s1 z1.length c1, .int .i64 a2, .slice s3 z3.length c3, .slice s4 z4.length c4] h=some (.bool true,h'):=
 vlaw lw2 (dp0 (sk6 (dp0 (sk6 (sk6 a23 r4) r3) _) r1) _) (by apply vr5<;>assumption)
end Go.Proofs.YtlhmdmedagjmnaaGreat
