/-
  Sums, products and quotients of polynomials number by number, as programs make them. Condition: a field. Polynomials: sums and products, in the second machine. Conditions: those of each theorem. Polyn ..
-/
import Derived.Test.YtppbpgmdmiajcaaGreatK8
import Derived.Test.YtppbpgmdmiajcaaGreatKCode
import Derived.Test.YtppbpgmdmiajcaaGreatK6
import Derived.Test.YtppbpgmdmiajcaaGreatK7
import Derived.Sort.AssemblyPlain
import Derived.Sort.LotD4
import Derived.Test.YtppbpgmdmiajcaaGreatK0
set_option linter.unusedVariables false
set_option linter.unusedSimpArgs false
set_option linter.unusedSectionVars false
set_option maxRecDepth 100000
namespace Go.Alg
section
variable {K:Type} [FK K]
def addT(y:List K):Nat→Nat→List K→List K
 |0,_,z=>z
 |n+1,i,z=>addT y n (i+1) (z.set i (wf z i+wf y i))
theorem tl9(y:List K): ∀(n i:Nat) (z:List K),(addT y n i z).length=z.length
 |0,_,_=>rfl
 |n+1,i,z=>by rw[addT,tl9 y n,kb8]
theorem e73(y:List K): ∀(n i:Nat) (z:List K),i+n≤z.length→ ∀j,wf (addT y n i z) j=if i≤j∧j<i+n then wf z j+wf y j else wf z j
 |0,i,z,_,j=>by rw[addT,if_neg (by omega)]
 |n+1,i,z,h,j=>by
  rw[addT,e73 y n (i+1) _ (by rw[kb8];omega),wf_set (by omega)]
  by_cases h1:j=i
  ·subst h1
   rw[if_neg (by omega),if_pos rfl,if_pos (by omega)]
  ·rw[if_neg h1]
   by_cases h2:i+1≤j∧j<i+1+n
   ·rw[if_pos h2,if_pos (by omega)]
   ·rw[if_neg h2,if_neg (by omega)]
theorem ip0{x y:List K}(h:y.length≤x.length):xa5 (addT y y.length 0 x)=addK x y:=by
 refine lz5 (t12 _) (y42 _ _) ?_
 rw[vb5,w62]
 funext j
 rw[e73 _ _ _ _ (by omega)]
 split
 ·rfl
 ·rw[e00 (l:=y) (by omega),FK.add_zero]
theorem c89(a b:List K):addK a b=addK b a:=lz5 (y42 _ _) (y42 _ _) (by
 rw[w62,w62]
 funext j
 exact FK.add_comm _ _)
theorem zy5(a b:List K):addK (xa5 a) (xa5 b)=addK a b:=lz5 (y42 _ _) (y42 _ _) (by rw[w62,w62,vb5,vb5])
def je7(v:K)(b:List K)(i:Nat):Nat→Nat→List K→List K
 |0,_,z=>z
 |n+1,k,z=>je7 v b i n (k+1) (z.set (i+k) (wf z (i+k)+v*wf b k))
def yc0(a b:List K):Nat→Nat→List K→List K
 |0,_,z=>z
 |n+1,i,z=>yc0 a b n (i+1) (je7 (wf a i) b i b.length 0 z)
theorem qo8(v:K)(b:List K)(i:Nat): ∀(n k:Nat) (z:List K),(je7 v b i n k z).length=z.length
 |0,_,_=>rfl
 |n+1,k,z=>by rw[je7,qo8 v b i n,kb8]
theorem th9(a b:List K): ∀(n i:Nat) (z:List K),(yc0 a b n i z).length=z.length
 |0,_,_=>rfl
 |n+1,i,z=>by rw[yc0,th9 a b n,qo8]
theorem h43(v:K)(b:List K)(i:Nat): ∀(n k:Nat) (z:List K),i+k+n≤z.length→ ∀j,wf (je7 v b i n k z) j=if i+k≤j∧j<i+k+n then wf z j+v*wf b (j-i)else wf z j
 |0,k,z,_,j=>by rw[je7,if_neg (by omega)]
 |n+1,k,z,h,j=>by
  rw[je7,h43 v b i n (k+1) _ (by rw[kb8];omega),wf_set (by omega)]
  by_cases h1:j=i+k
  ·subst h1
   rw[if_neg (by omega),if_pos rfl,if_pos (by omega),Nat.add_sub_cancel_left]
  ·rw[if_neg h1]
   by_cases h2:i+(k+1)≤j∧j<i+(k+1)+n
   ·rw[if_pos h2,if_pos (by omega)]
   ·rw[if_neg h2,if_neg (by omega)]
theorem sj6(v:K)(b:List K)(i:Nat)(z:List K)(h:i+b.length≤z.length)(j:Nat):wf (je7 v b i b.length 0 z) j=wf z j+v*shift i (wf b) j:=by
 rw[h43 v b i _ _ _ (by omega)]
 unfold shift
 by_cases h1:j<i
 ·rw[if_neg (by omega),if_pos h1,mul_zero,FK.add_zero]
 ·rw[if_neg h1]
  by_cases h2:j<i+b.length
  ·rw[if_pos (by omega)]
  ·rw[if_neg (by omega),e00 (l:=b) (by omega),mul_zero,FK.add_zero]
theorem ok7(a b:List K): ∀(n i:Nat) (z:List K),i+n=a.length→a.length+b.length≤z.length+1→(∀j,wf z j=disc (fun k=>if k<i then wf a k else 0) (wf b) j)→ ∀j,wf (yc0 a b n i z) j=disc (wf a) (wf b) j
 |0,i,z,hi,hz,h,j=>by
  rw[yc0,h]
  congr 1
  funext k
  split
  ·rfl
  ·exact(e00 (by omega)).symm
 |n+1,i,z,hi,hz,h,j=>by
  rw[yc0]
  refine ok7 a b n (i+1) _ (by omega) (by rw[qo8];exact hz) (fun k=> ?_) j
  rw[sj6 _ _ _ _ (by omega),h,←uj8,←bf5]
  congr 1
  funext l
  by_cases h1:l=i
  ·subst h1;rw[if_neg (by omega),if_pos rfl,if_pos (by omega),zero_add]
  ·by_cases h2:l<i
   ·rw[if_pos h2,if_neg h1,if_pos (by omega),FK.add_zero]
   ·rw[if_neg h2,if_neg h1,if_neg (by omega),FK.add_zero]
theorem cf5{a b:List K}(ha:a.length≠0)(hb:b.length≠0):xa5 (yc0 a b a.length 0 (List.replicate (a.length+b.length-1) 0))=mulK a b:=by
 refine lz5 (t12 _) (ho6 _ _) ?_
 rw[vb5,zu9]
 funext j
 exact ok7 a b _ _ _ (by omega) (by rw[jv4];omega) (fun j=>by
  rw[m14]
  exact(ja4 fun k _=>by
   show(if k<0 then wf a k else 0)*_=_
   rw[if_neg (by omega),zero_mul]).symm) j
theorem u69(a b:List K):mulK (xa5 a) (xa5 b)=mulK a b:=lz5 (ho6 _ _) (ho6 _ _) (by rw[zu9,zu9,vb5,vb5])
theorem hz1{a b:List K}(h:a.length=0∨b.length=0):mulK a b=[]:=by unfold mulK;rw[if_pos h]
theorem w46(a b:List K):mulK a b=mulK b a:=lz5 (ho6 _ _) (ho6 _ _) (by
 rw[zu9,zu9]
 funext j
 exact ck4 _ _ _)
def divT(b:List K)(top:K):Nat→List K→List K→List K×List K
 |0,Q,R=>(Q,R)
 |k+1,Q,R=>divT b top k (Q.set k (wf R (k+b.length-1)*top)) (subR (wf R (k+b.length-1)*top) b k b.length 0 R)
theorem w81(b:List K)(top:K): ∀(k:Nat) (Q R:List K),(divT b top k Q R).1.length=Q.length∧(divT b top k Q R).2.length=R.length
 |0,_,_=>⟨rfl,rfl⟩
 |k+1,Q,R=>by
  have:=w81 b top k (Q.set k (wf R (k+b.length-1)*top)) (subR (wf R (k+b.length-1)*top) b k b.length 0 R)
  rw[kb8,xs2]at this
  rw[divT];exact this
theorem ch2{a b:List K}(hb:0<b.length)(hb0:wf b (b.length-1)≠0): ∀(k:Nat) (Q R:List K),DivI a b k Q R→k≤Q.length→k+b.length≤R.length+1→DivI a b 0 (divT b (FK.inv (wf b (b.length-1))) k Q R).1 (divT b (FK.inv (wf b (b.length-1))) k Q R).2
 |0,Q,R,h,_,_=>h
 |k+1,Q,R,h,hq,hr=>by
  rw[divT]
  exact ch2 hb hb0 k _ _ (h.step hb hb0 rfl (fun j=>wf_set (by omega) j) (fn3 _ b k R (by omega))) (by rw[kb8];omega) (by rw[xs2];omega)
open Classical in
noncomputable def quoP (a b:List K):List K:=if h: ∃p:List K×List K,IsDiv a b p.1 p.2 then(Classical.choose h).1 else []
open Classical in
noncomputable def remP (a b:List K):List K:=if h: ∃p:List K×List K,IsDiv a b p.1 p.2 then(Classical.choose h).2 else []
theorem h79{a b:List K}(hb:Trm b)(hb0:b≠[]):IsDiv a b (quoP a b) (remP a b):=by
 obtain⟨Q,R,h⟩:=uj1 (a:=a) hb hb0
 have hx: ∃p:List K×List K,IsDiv a b p.1 p.2:=⟨(Q,R),h⟩
 unfold quoP remP
 rw[dif_pos hx,dif_pos hx]
 exact jl7 hx
theorem div_eq{a b Q R:List K}(hb:Trm b)(h:IsDiv a b Q R):quoP a b=Q∧remP a b=R:=by
 have hb0:b≠[]:=fun e=>by have:=h.lt;rw[e]at this;simp at this
 exact(h79 hb hb0).uniq hb h
theorem kj5{a b:List K}(ha:Trm a)(hb:Trm b)(hb0:b≠[])(hl:b.length≤a.length):(divT b (FK.inv (wf b (b.length-1))) (a.length-b.length+1) (List.replicate (a.length-b.length+1) 0) a).1=quoP a b∧xa5 (divT b (FK.inv (wf b (b.length-1))) (a.length-b.length+1) (List.replicate (a.length-b.length+1) 0) a).2=remP a b:=by
 have h1:0<b.length:=py7.2 hb0
 have h:=(ch2 (a:=a) h1 (hb (by omega)) (a.length-b.length+1) (List.replicate (a.length-b.length+1) 0) a (DivI.start (by omega)) (by simp) (by omega)).done h1
 have hl1:=(w81 b (FK.inv (wf b (b.length-1))) (a.length-b.length+1) (List.replicate (a.length-b.length+1) 0) a).1
 rw[jv4]at hl1
 generalize divT b (FK.inv (wf b (b.length-1))) (a.length-b.length+1) (List.replicate (a.length-b.length+1) 0) a=D at h hl1⊢
 obtain⟨e1,e2⟩:=div_eq hb h
 have hq:=(h.len ha hb hl).1
 refine⟨?_,e2.symm⟩
 rw[e1]
 exact ou8 (by rw[hl1,hq]) (vb5 _).symm
theorem i84{a b:List K}(ha:Trm a)(hb:Trm b)(hl:a.length<b.length):quoP a b=[]∧remP a b=a:=div_eq hb ⟨wg5,ha,hl,fun k=>by rw[qt9,tt8,zero_add]⟩
end
end Go.Alg
namespace Go.Proofs.YtppbpgmdmiajcaaGreat
open Go.Am Go.Vm Go.Alg
section
variable {q:Int} {b b':Bool} {nl nl':Nat}
theorem ce8 [IsFld q]{a c:List (El q)}(ha:a.length≤128)(hc:c.length≤128):
 o25 W 114 [.x (.int .i64 q), .fz b (.sl nl 0 1 (ivs (vs a))), .fz b' (.sl nl' 0 1 (ivs (vs c)))] []=some (.tup [.fz true (pF q), .own 0 [], .own 1 [], .x (.int .i64 0)],[.sl (nlT (xa5 a)) 3 1 (ivs (vs (xa5 a))), .sl (nlT (xa5 c)) 3 1 (ivs (vs (xa5 c)))],[]):=by
 have e1:=fun b nl=>bw7 (q:=q) (b:=b) (nl:=nl) (l:=vs a) (by rw[fi2];omega)
 have e2:=fun b nl=>bw7 (q:=q) (b:=b) (nl:=nl) (l:=vs c) (by rw[fi2];omega)
 simp only[i31 ha]at e1
 simp only[i31 hc]at e2
 have e3:=fun b nl=>di3 (b:=b) (nl:=nl) (a:=a) (by omega)
 have e4:=fun b nl=>di3 (b:=b) (nl:=nl) (a:=c) (by omega)
 rw[o10 rfl T114 rfl]
 unfold F114 c114
 simp(disch:=first|omega|fail) only[push_cast,seval,vrl,if_pos,if_neg,e1,e2,e3,e4]
theorem ae4 [IsFld q]{y:List (El q)}(hy:y.length≤1000): ∀(n i:Nat) (z:List (El q)),i+n=y.length→y.length≤z.length→ ∀ks,
 vgoL W ⟨h73,[.tmp 6, .tmp 7],0⟩ [1,8,31,32,33] c73L0 (.blk 0 [1]::ks) [(1, .own 0 []),(8, .fz true (pF q)),(31, .own 1 []),(32, .x (.int .i64 y.length)),(33, .x (.int .i64 i))] [.sl nl 3 1 (ivs (vs z)), .sl nl' 3 1 (ivs (vs y))]=
  vgo W ⟨h73,[.tmp 6, .tmp 7],0⟩ ks (VFr.of [(1, .own 0 [])]) [.sl nl 3 1 (ivs (vs (addT y n i z))), .sl nl' 3 1 (ivs (vs y))]
 |0,i,z,hi,hz,ks=>by
  rw[addT,sb5 c73L0.eq_def]
  simp(disch:=first|omega|fail) only[push_cast,seval,vrl,if_pos,if_neg]
 |n+1,i,z,hi,hz,ks=>by
  have ih:=ae4 hy n (i+1) (z.set i (wf z i+wf y i)) (by omega) (by rw[kb8];exact hz) ks
  have h1:=iva (l:=y) (i:=i) (by omega)
  have h2:=iva (l:=z) (i:=i) (by omega)
  rw[e96,g71,←g52,on0]at ih
  rw[addT,←ih,sb5 c73L0.eq_def]
  simp(disch:=first|omega|fail) only[push_cast,seval,vrl,if_pos,if_neg,h1,h2]
theorem wa2 [IsFld q]{a c:List (El q)}(ha:a.length≤128)(hc:c.length≤128):
 o25 W 73 [.x (.int .i64 q), .fz b (.sl nl 0 1 (ivs (vs a))), .fz b' (.sl nl' 0 1 (ivs (vs c)))] []=some (.tup [.own 0 [], .x (.int .i64 0)],[.sl (nlT (addK a c)) 3 1 (ivs (vs (addK a c)))],[]):=by
 have e1:=fun b nl b' nl'=>ce8 (b:=b) (nl:=nl) (b':=b') (nl':=nl') ha hc
 have la:=tb1 a
 have lc:=tb1 c
 have hs:=zy5 a c
 by_cases hl:(xa5 a).length<(xa5 c).length
 ·have e2:=fun nl nl' ks=>ae4 (q:=q) (nl:=nl) (nl':=nl') (y:=xa5 a) (by omega) (xa5 a).length 0 (xa5 c) (by omega) (by omega) ks
  have ht:=ip0 (x:=xa5 c) (y:=xa5 a) (by omega)
  rw[c89,hs]at ht
  have e3:=fun b nl=>di3 (b:=b) (nl:=nl) (a:=addT (xa5 a) (xa5 a).length 0 (xa5 c)) (by rw[tl9];omega)
  simp only[ht]at e3
  generalize addT (xa5 a) (xa5 a).length 0 (xa5 c)=Z at*
  generalize xa5 a=A at*
  generalize xa5 c=C at*
  simp only[vx9,si3,sv4,rp2,lz6,x25,gw5,fo5]at e2
  rw[o10 rfl T73 rfl]
  unfold F73 c73
  simp(disch:=first|omega|fail) only[push_cast,seval,vrl,if_pos,if_neg,e1]
  rw[e2]
  simp(disch:=first|omega|fail) only[push_cast,seval,vrl,if_pos,if_neg,e3]
 ·have e2:=fun nl nl' ks=>ae4 (q:=q) (nl:=nl) (nl':=nl') (y:=xa5 c) (by omega) (xa5 c).length 0 (xa5 a) (by omega) (by omega) ks
  have ht:=ip0 (x:=xa5 a) (y:=xa5 c) (by omega)
  rw[hs]at ht
  have e3:=fun b nl=>di3 (b:=b) (nl:=nl) (a:=addT (xa5 c) (xa5 c).length 0 (xa5 a)) (by rw[tl9];omega)
  simp only[ht]at e3
  generalize addT (xa5 c) (xa5 c).length 0 (xa5 a)=Z at*
  generalize xa5 a=A at*
  generalize xa5 c=C at*
  simp only[vx9,si3,sv4,rp2,lz6,x25,gw5,fo5]at e2
  rw[o10 rfl T73 rfl]
  unfold F73 c73
  simp(disch:=first|omega|fail) only[push_cast,seval,vrl,if_pos,if_neg,e1]
  rw[e2]
  simp(disch:=first|omega|fail) only[push_cast,seval,vrl,if_pos,if_neg,e3]
theorem n82 [IsFld q]{a c:List (El q)}{i:Nat}{v:El q}(hc:c.length≤1000)(hi:i≤1000){A:List (El q)}{iA:Int}: ∀(n k:Nat) (z:List (El q)),k+n=c.length→i+c.length≤z.length→ ∀ks,
 vgoL W ⟨h115,[.tmp 6],0⟩ [0,2,7,8,9,27,28,29,34,35,36] c115L0 (.blk 2 [0,2,7,27,28,29]::ks) [(0, .fz true (pF q)),(2, .fz b' (.sl nl' 0 1 (ivs (vs c)))),(7, .own 0 []),(8, .x (.int .i64 i)),(9, .x (.int .i64 v.v)),(27, .fz b (.sl nl 0 1 (ivs (vs a)))),(28, .x (.int .i64 iA)),(29, .x (.int .i64 i)),(34, .fz b' (.sl nl' 0 1 (ivs (vs c)))),(35, .x (.int .i64 c.length)),(36, .x (.int .i64 k))] [.sl 0 3 1 (ivs (vs z))]=
  vgo W ⟨h115,[.tmp 6],0⟩ ks (VFr.of [(0, .fz true (pF q)),(2, .fz b' (.sl nl' 0 1 (ivs (vs c)))),(7, .own 0 []),(27, .fz b (.sl nl 0 1 (ivs (vs a)))),(28, .x (.int .i64 iA)),(29, .x (.int .i64 i))]) [.sl 0 3 1 (ivs (vs (je7 v c i n k z)))]
 |0,k,z,hk,hz,ks=>by
  rw[je7,sb5 c115L0.eq_def]
  simp(disch:=first|omega|fail) only[push_cast,seval,vrl,if_pos,if_neg]
 |n+1,k,z,hk,hz,ks=>by
  have ih:=n82 (a:=a) (v:=v) hc hi (A:=A) (iA:=iA) n (k+1) (z.set (i+k) (wf z (i+k)+v*wf c k)) (by omega) (by rw[kb8];exact hz) ks
  have h1:=iva (l:=c) (i:=k) (by omega)
  have h2:=iva (l:=z) (i:=i+k) (by omega)
  have w1:IntKind.wrap .i64 ((i:Int)+(k:Int))=((i+k:Nat):Int):=by rw[wrap64 (by omega) (by omega)];omega
  rw[e96,g71,←g52,on0,ym6]at ih
  rw[je7,←ih,sb5 c115L0.eq_def]
  generalize hG:i+k=ik at*
  simp(disch:=first|omega|fail) only[push_cast,seval,vrl,if_pos,if_neg,h1,w1,h2]
theorem e41 [IsFld q]{a c:List (El q)}(ha:a.length≤900)(hc:c.length≤1000): ∀(n i:Nat) (z:List (El q)),i+n=a.length→a.length+c.length≤z.length+1→ ∀ks,
 vgoL W ⟨h115,[.tmp 6],0⟩ [0,2,7,27,28,29] c115L1 (.blk 0 [7]::ks) [(0, .fz true (pF q)),(2, .fz b' (.sl nl' 0 1 (ivs (vs c)))),(7, .own 0 []),(27, .fz b (.sl nl 0 1 (ivs (vs a)))),(28, .x (.int .i64 a.length)),(29, .x (.int .i64 i))] [.sl 0 3 1 (ivs (vs z))]=
  vgo W ⟨h115,[.tmp 6],0⟩ ks (VFr.of [(7, .own 0 [])]) [.sl 0 3 1 (ivs (vs (yc0 a c n i z)))]
 |0,i,z,hi,hz,ks=>by
  rw[yc0,sb5 c115L1.eq_def]
  simp(disch:=first|omega|fail) only[push_cast,seval,vrl,if_pos,if_neg]
 |n+1,i,z,hi,hz,ks=>by
  have ih:=e41 ha hc n (i+1) (je7 (wf a i) c i c.length 0 z) (by omega) (by rw[qo8];exact hz) ks
  have h1:=iva (l:=a) (i:=i) (by omega)
  have e:=fun iA ks=>n82 (b:=b) (nl:=nl) (b':=b') (nl':=nl') (a:=a) (c:=c) (i:=i) (v:=wf a i) hc (by omega) (A:=a) (iA:=iA) c.length 0 z (by omega) (by omega) ks
  simp only[vx9,si3,sv4,rp2,lz6,x25,gw5,fo5]at e
  rw[e96,g71]at ih
  rw[yc0,←ih,sb5 c115L1.eq_def]
  simp(disch:=first|omega|fail) only[push_cast,seval,vrl,if_pos,if_neg,h1]
  rw[e]
  simp(disch:=first|omega|fail) only[push_cast,seval,vrl,if_pos,if_neg]
theorem td8 [IsFld q]{a c:List (El q)}(ha:a.length≤500)(hc:c.length≤500): ∃n,o25 W 115 [.fz true (pF q), .fz b (.sl nl 0 1 (ivs (vs a))), .fz b' (.sl nl' 0 1 (ivs (vs c)))] []=some (.own 0 [],[.sl n 3 1 (ivs (vs (mulK a c)))],[]):=by
 by_cases h0:a.length=0∨c.length=0
 ·refine⟨1, ?_⟩
  rw[hz1 h0,o10 rfl T115 rfl]
  unfold F115 c115
  by_cases h1:a.length=0
  ·simp(disch:=first|omega|fail) only[push_cast,seval,vrl,if_pos,if_neg,h1]
   rfl
  ·have h2:c.length=0:=by omega
   simp(disch:=first|omega|fail) only[push_cast,seval,vrl,if_pos,if_neg,h2]
   rfl
 ·refine⟨nlT (mulK a c), ?_⟩
  have hp:=cf5 (a:=a) (b:=c) (by omega) (by omega)
  have e:=fun ks=>e41 (q:=q) (b:=b) (nl:=nl) (b':=b') (nl':=nl') (a:=a) (c:=c) (by omega) (by omega) a.length 0 (List.replicate (a.length+c.length-1) 0) (by omega) (by rw[jv4];omega) ks
  have e3:=fun b nl=>di3 (b:=b) (nl:=nl) (a:=yc0 a c a.length 0 (List.replicate (a.length+c.length-1) 0)) (by rw[th9,jv4];omega)
  simp only[hp]at e3
  have hz:List.replicate (a.length+c.length-1) (0:Int)=vs (List.replicate (a.length+c.length-1) (0:El q)):=by rw[←qj2];rfl
  generalize yc0 a c a.length 0 (List.replicate (a.length+c.length-1) 0)=Z at*
  simp only[vx9,si3,sv4,rp2,lz6,x25,gw5,fo5]at e
  have w1:IntKind.wrap .i64 (((a.length:Nat):Int)+((c.length:Nat):Int)-1)=((a.length+c.length-1:Nat):Int):=by rw[wrap64 (by omega) (by omega)];omega
  generalize hk:a.length+c.length-1=k at*
  rw[o10 rfl T115 rfl]
  unfold F115 c115
  simp(disch:=first|omega|fail) only[push_cast,seval,vrl,if_pos,if_neg,w1,hz]
  rw[e]
  simp(disch:=first|omega|fail) only[push_cast,seval,vrl,if_pos,if_neg,e3]
def ca3{q:Int} [IsFld q](a c:List (El q)):Prop:=(xa5 a).length≠0∧(xa5 c).length≠0∧128<(xa5 a).length+(xa5 c).length-1
theorem h84 [IsFld q]{a c:List (El q)}(ha:a.length≤128)(hc:c.length≤128)(h: ¬ca3 a c):
 ∃n,o25 W 55 [.x (.int .i64 q), .fz b (.sl nl 0 1 (ivs (vs a))), .fz b' (.sl nl' 0 1 (ivs (vs c)))] []=some (.tup [.own 0 [], .x (.int .i64 0)],[.sl n 3 1 (ivs (vs (mulK a c)))],[]):=by
 have e1:=fun b nl b' nl'=>ce8 (b:=b) (nl:=nl) (b':=b') (nl':=nl') ha hc
 have la:=tb1 a
 have lc:=tb1 c
 have hm:=u69 a c
 unfold ca3 at h
 obtain⟨n,e2⟩:=td8 (b:=false) (nl:=nlT (xa5 a)) (b':=false) (nl':=nlT (xa5 c)) (a:=xa5 a) (c:=xa5 c) (by omega) (by omega)
 rw[hm]at e2
 by_cases h0:(xa5 a).length=0∨(xa5 c).length=0
 ·rw[hz1 h0]at hm
  refine⟨1, ?_⟩
  rw[←hm]
  generalize xa5 a=A at*
  generalize xa5 c=C at*
  rw[o10 rfl T55 rfl]
  unfold F55 c55
  by_cases h1:A.length=0
  ·simp(disch:=first|omega|fail) only[push_cast,seval,vrl,if_pos,if_neg,e1,h1]
   rfl
  ·have h2:C.length=0:=by omega
   have h1': ¬(A.length:Int)=0:=by omega
   simp(disch:=first|omega|fail) only[push_cast,seval,vrl,if_pos,if_neg,e1,nb8 h1',h2]
   rfl
 ·refine⟨n, ?_⟩
  generalize mulK a c=Z at*
  generalize xa5 a=A at*
  generalize xa5 c=C at*
  have h1': ¬(A.length:Int)=0:=by omega
  have h2': ¬(C.length:Int)=0:=by omega
  rw[o10 rfl T55 rfl]
  unfold F55 c55
  simp(disch:=first|omega|fail) only[push_cast,seval,vrl,if_pos,if_neg,e1,nb8 h1',nb8 h2',e2]
end
section
variable {q:Int} {b b':Bool} {nl nl':Nat}
theorem xl6 [IsFld q]{c:List (El q)}{k:Nat}{v:El q}{top:Int}(hc:c.length≤1000)(hk:k≤1000){T:Tree}{nr:Nat}: ∀(n i:Nat) (R:List (El q)),i+n=c.length→k+c.length≤R.length→ ∀ks,
 vgoL W ⟨h123,[.tmp 6, .tmp 7],0⟩ [0,2,6,7,8,9,10,57,58,59] c123L0 (.blk 2 [0,2,6,7,8,9]::ks) [(0, .fz true (pF q)),(2, .fz b' (.sl nl' 0 1 (ivs (vs c)))),(6, .own 0 []),(7, .own 1 []),(8, .x (.int .i64 top)),(9, .x (.int .i64 k)),(10, .x (.int .i64 v.v)),(57, .fz b' (.sl nl' 0 1 (ivs (vs c)))),(58, .x (.int .i64 c.length)),(59, .x (.int .i64 i))] [T, .sl nr 3 1 (ivs (vs R))]=
  vgo W ⟨h123,[.tmp 6, .tmp 7],0⟩ ks (VFr.of [(0, .fz true (pF q)),(2, .fz b' (.sl nl' 0 1 (ivs (vs c)))),(6, .own 0 []),(7, .own 1 []),(8, .x (.int .i64 top)),(9, .x (.int .i64 k))]) [T, .sl nr 3 1 (ivs (vs (subR v c k n i R)))]
 |0,i,R,hi,hR,ks=>by
  rw[subR,sb5 c123L0.eq_def]
  simp(disch:=first|omega|fail) only[push_cast,seval,vrl,if_pos,if_neg]
 |n+1,i,R,hi,hR,ks=>by
  have ih:=xl6 (v:=v) (top:=top) hc hk (T:=T) (nr:=nr) n (i+1) (R.set (k+i) (wf R (k+i)-v*wf c i)) (by omega) (by rw[kb8];exact hR) ks
  have h1:=iva (l:=c) (i:=i) (by omega)
  have h2:=iva (l:=R) (i:=k+i) (by omega)
  have w1:IntKind.wrap .i64 ((k:Int)+(i:Int))=((k+i:Nat):Int):=by rw[wrap64 (by omega) (by omega)];omega
  rw[e96,g71,←g52,bq9,ym6]at ih
  rw[subR,←ih,sb5 c123L0.eq_def]
  generalize hG:k+i=ki at*
  simp(disch:=first|omega|fail) only[push_cast,seval,vrl,if_pos,if_neg,h1,w1,h2]
theorem xy4 [IsFld q]{c:List (El q)}{top:El q}(hc:c.length≤900)(hc0:0<c.length){nq nr:Nat}: ∀(k:Nat) (Q R:List (El q)),k≤1000→k≤Q.length→(0<k→k+c.length≤R.length+1)→ ∀ks,
 vgoL W ⟨h123,[.tmp 6, .tmp 7],0⟩ [0,2,6,7,8,9] c123L1 (.blk 0 [6,7]::ks) [(0, .fz true (pF q)),(2, .fz b' (.sl nl' 0 1 (ivs (vs c)))),(6, .own 0 []),(7, .own 1 []),(8, .x (.int .i64 top.v)),(9, .x (.int .i64 ((k:Int)-1)))] [.sl nq 3 1 (ivs (vs Q)), .sl nr 3 1 (ivs (vs R))]=
  vgo W ⟨h123,[.tmp 6, .tmp 7],0⟩ ks (VFr.of [(6, .own 0 []),(7, .own 1 [])]) [.sl nq 3 1 (ivs (vs (divT c top k Q R).1)), .sl nr 3 1 (ivs (vs (divT c top k Q R).2))]
 |0,Q,R,h1,h2,h3,ks=>by
  rw[divT,sb5 c123L1.eq_def]
  simp(disch:=first|omega|fail) only[push_cast,seval,vrl,if_pos,if_neg]
 |k+1,Q,R,h1,h2,h3,ks=>by
  have h3:=h3 (by omega)
  have ih:=xy4 (top:=top) hc hc0 (nq:=nq) (nr:=nr) k (Q.set k (wf R (k+c.length-1)*top)) (subR (wf R (k+c.length-1)*top) c k c.length 0 R) (by omega) (by rw[kb8];omega) (fun _=>by rw[xs2];omega) ks
  have e:=fun T ks=>xl6 (b':=b') (nl':=nl') (c:=c) (k:=k) (v:=wf R (k+c.length-1)*top) (top:=top.v) (by omega) (by omega) (T:=T) (nr:=nr) c.length 0 R (by omega) (by omega) ks
  simp only[vx9,si3,sv4,rp2,lz6,x25,gw5,fo5]at e
  have l1:=iva (l:=R) (i:=k+c.length-1) (by omega)
  have w1:IntKind.wrap .i64 ((k:Int)+(c.length:Int)-1)=((k+c.length-1:Nat):Int):=by rw[wrap64 (by omega) (by omega)];omega
  have e9:((k+1:Nat):Int)-1=(k:Int):=by omega
  have hm:=ym6 (wf R (k+c.length-1)) top
  rw[←g52,hm]at ih
  rw[hm]at e
  rw[divT,←ih,e9,sb5 c123L1.eq_def]
  generalize hG:k+c.length-1=kc at*
  simp(disch:=first|omega|fail) only[push_cast,seval,vrl,if_pos,if_neg,l1,w1]
  rw[e]
  simp(disch:=first|omega|fail) only[push_cast,seval,vrl,if_pos,if_neg]
theorem ag0 [IsFld q]{a c:List (El q)}(ha:Trm a)(hc:Trm c)(hc0:c≠[])(hal:a.length≤500)(hcl:c.length≤500):
 ∃n,o25 W 123 [.fz true (pF q), .fz b (.sl nl 0 1 (ivs (vs a))), .fz b' (.sl nl' 0 1 (ivs (vs c)))] []=some (.tup [.own 0 [], .own 1 []],[.sl n 3 1 (ivs (vs (quoP a c))), .sl (nlT (remP a c)) 3 1 (ivs (vs (remP a c)))],[]):=by
 have h0:0<c.length:=py7.2 hc0
 have hlast:wf c (c.length-1)≠0:=hc (by omega)
 have e1:=fun b nl=>h18 (b:=b) (nl:=nl) (zs:=vs a) (by rw[fi2];omega)
 simp only[ks8]at e1
 have l1:=iva (l:=c) (i:=c.length-1) (by omega)
 have w1:IntKind.wrap .i64 ((c.length:Int)-1)=((c.length-1:Nat):Int):=by rw[wrap64 (by omega) (by omega)];omega
 have hinv:=rl7 hlast
 by_cases hl:c.length≤a.length
 ·refine⟨0, ?_⟩
  obtain⟨d1,d2⟩:=kj5 ha hc hc0 hl
  have dl:=w81 c (FK.inv (wf c (c.length-1))) (a.length-c.length+1) (List.replicate (a.length-c.length+1) 0) a
  have e2:=fun nq nr ks=>xy4 (b':=b') (nl':=nl') (c:=c) (top:=FK.inv (wf c (c.length-1))) (by omega) h0 (nq:=nq) (nr:=nr) (a.length-c.length+1) (List.replicate (a.length-c.length+1) 0) a (by omega) (by simp) (fun _=>by omega) ks
  have e3:=fun b nl=>di3 (b:=b) (nl:=nl) (a:=(divT c (FK.inv (wf c (c.length-1))) (a.length-c.length+1) (List.replicate (a.length-c.length+1) 0) a).2) (by rw[dl.2];omega)
  simp only[d2]at e3
  rw[←d1]
  generalize divT c (FK.inv (wf c (c.length-1))) (a.length-c.length+1) (List.replicate (a.length-c.length+1) 0) a=D at*
  have hz:List.replicate (a.length-c.length+1) (0:Int)=vs (List.replicate (a.length-c.length+1) (0:El q)):=by rw[←qj2];rfl
  have w3:IntKind.wrap .i64 ((a.length:Int)-(c.length:Int)+1)=((a.length-c.length+1:Nat):Int):=by rw[wrap64 (by omega) (by omega)];omega
  have hkl:a.length-c.length+1≤600:=by omega
  rw[hinv]at e2
  generalize a.length-c.length+1=k at*
  generalize hG:c.length-1=c1 at*
  rw[o10 rfl T123 rfl]
  unfold F123 c123
  simp(disch:=first|omega|fail) only[push_cast,seval,vrl,if_pos,if_neg,e1,w1,l1,w3,hz]
  rw[e2]
  simp(disch:=first|omega|fail) only[push_cast,seval,vrl,if_pos,if_neg,e3]
 ·refine⟨1, ?_⟩
  obtain⟨d1,d2⟩:=i84 ha hc (show a.length<c.length by omega)
  rw[d1,d2]
  have e2:=fun nq nr ks=>xy4 (b':=b') (nl':=nl') (c:=c) (top:=FK.inv (wf c (c.length-1))) (by omega) h0 (nq:=nq) (nr:=nr) 0 [] a (by omega) (by simp) (fun h=>absurd h (by omega)) ks
  have e3:=fun b nl=>di3 (b:=b) (nl:=nl) (a:=a) (by omega)
  simp only[ou7 ha]at e3
  simp only[divT,vx9,Int.zero_sub,rp2,lz6]at e2
  have hl':(a.length:Int)<(c.length:Int):=by omega
  rw[hinv]at e2
  generalize hG:c.length-1=c1 at*
  rw[o10 rfl T123 rfl]
  unfold F123 c123
  simp(disch:=first|omega|fail) only[push_cast,seval,vrl,if_pos,if_neg,e1,w1,l1]
  rw[e2]
  simp(disch:=first|omega|fail) only[push_cast,seval,vrl,if_pos,if_neg,e3]
  rfl
theorem pl2 [IsFld q]{a c:List (El q)}(ha:a.length≤128)(hc:c.length≤128)(h:xa5 c≠[]):
 ∃n,o25 W 72 [.x (.int .i64 q), .fz b (.sl nl 0 1 (ivs (vs a))), .fz b' (.sl nl' 0 1 (ivs (vs c)))] []=some (.tup [.own 0 [], .own 1 [], .x (.int .i64 0)],[.sl n 3 1 (ivs (vs (quoP (xa5 a) (xa5 c)))), .sl (nlT (remP (xa5 a) (xa5 c))) 3 1 (ivs (vs (remP (xa5 a) (xa5 c))))],[]):=by
 have e1:=fun b nl b' nl'=>ce8 (b:=b) (nl:=nl) (b':=b') (nl':=nl') ha hc
 have la:=tb1 a
 have lc:=tb1 c
 have h0:0<(xa5 c).length:=py7.2 h
 obtain⟨n,e2⟩:=ag0 (b:=false) (nl:=nlT (xa5 a)) (b':=false) (nl':=nlT (xa5 c)) (t12 a) (t12 c) h (by omega) (by omega)
 refine⟨n, ?_⟩
 generalize xa5 a=A at*
 generalize xa5 c=C at*
 have h0': ¬(C.length:Int)=0:=by omega
 rw[o10 rfl T72 rfl]
 unfold F72 c72
 simp(disch:=first|omega|fail) only[push_cast,seval,vrl,if_pos,if_neg,e1,nb8 h0',e2]
end
theorem px5: ∀(ys P Q:List Int),ys.length≤Q.length→setL (ivs (P++Q)) P.length (ivs ys)=ivs (P++ys++Q.drop ys.length)
 | [],P,Q,h=>by
   show ivs (P++Q)=_
   rw[nw0];rfl
 |y::ys,P,[],h=>by cases h
 |y::ys,P,x::Q,h=>by
  show setL ((ivs (P++x::Q)).set P.length (.v (.int .i64 y))) (P.length+1) (ivs ys)=_
  have e1:(ivs (P++x::Q)).set P.length (.v (.int .i64 y))=ivs ((P++[y])++Q):=by
   have:(P++x::Q).set P.length y=(P++[y])++Q:=by
    rw[v62 _ _ (jj6 _),ob6,kv0,eh9];rfl
   rw[←this]
   unfold ivs
   rw[fx9]
   rfl
  have e2:P.length+1=(P++[y]).length:=by simp
  rw[e1,e2,px5 ys (P++[y]) Q (by simpa using h),eh9 P]
  rfl
theorem jq8(ys zs:List Int)(i:Nat)(h:i+ys.length≤zs.length):setL (ivs zs) i (ivs ys)=ivs (zs.take i++ys++zs.drop (i+ys.length)):=by
 have hlt:(zs.take i).length=i:=by rw[vb8];omega
 have:=px5 ys (zs.take i) (zs.drop i) (by rw[h51];omega)
 rwa [qr5,hlt,List.drop_drop]at this
theorem pl3: ∀zs:List Int,(ivs zs).all isV=true
 | []=>rfl
 |z::zs=>pl3 zs
section
variable {q:Int} [IsFld q]
def shR(n:Nat)(g:List (El q))(k:Nat):List (El q):=(List.replicate n 0).take k++g++(List.replicate n 0).drop (k+g.length)
def cycM(n:Nat)(g:List (El q)):List (List (El q)):=(List.range (n+1-g.length)).map (shR n g)
theorem l93{n k:Nat}{g:List (El q)}(h:k+g.length≤n):(shR n g k).length=n:=by
 unfold shR
 simp only[j82,vb8,h51,jv4]
 omega
theorem td5{n:Nat}{g:List (El q)}(h:g.length≤n): ∀r∈cycM n g,r.length=n:=fun r hr=>by
 obtain⟨k,hk,rfl⟩:=vf1.1 hr
 have:=l16.1 hk
 exact l93 (by omega)
theorem u52{n:Nat}{g:List (El q)}{k:Nat}(h:k<n+1-g.length):(cycM n g)[k]? =some (shR n g k):=by
 unfold cycM;rw[us5,iq9 h];rfl
theorem nc3(n:Nat)(g:List (El q)):(cycM n g).length=n+1-g.length:=by unfold cycM;simp
theorem ht2(n:Nat)(g:List (El q))(k:Nat):vs (shR n g k)=(List.replicate n (0:Int)).take k++vs g++(List.replicate n (0:Int)).drop (k+(vs g).length):=by
 have hz:List.replicate n (0:Int)=vs (List.replicate n (0:El q)):=by rw[←qj2];rfl
 unfold shR
 rw[gq8,gq8,hz,fi2]
 unfold vs
 rw[iw6,gd3]
end
section
variable {q:Int} [IsFld q] {n:Nat} {g:List (El q)} {nl:Nat} {b:Bool}
theorem iz0(hg:g.length≤n)(hn:n≤64){T1:Tree}{ng:Nat}: ∀(d k:Nat),k+d=n+1-g.length→ ∀ks,
 vgoL W ⟨hNo,[(.cell 6 true 3), .tmp 7],0⟩ [1,2,6,15,16] c19L0 (.blk 0 [6,15]::ks) [(1, .x (.int .i64 n)),(2, .own 0 []),(6, .own 1 []),(15, .own 2 []),(16, .x (.int .i64 k))] [.sl ng 3 1 (ivs (vs g)),T1, .pt 35 [.v (.int .i64 q), .v (.int .i64 n), .sl 2 22 1 (lls 2 (((cycM n g).take k).map vs))]]=
  vgo W ⟨hNo,[(.cell 6 true 3), .tmp 7],0⟩ ks (VFr.of [(6, .own 1 []),(15, .own 2 [])]) [.sl ng 3 1 (ivs (vs g)),T1, .pt 35 [.v (.int .i64 q), .v (.int .i64 n), .sl 2 22 1 (lls 2 ((cycM n g).map vs))]]
 |0,k,hk,ks=>by
  have hv:=fi2 g
  rw[sp3 (by rw[nc3];omega),sb5 c19L0.eq_def]
  simp(disch:=first|omega|fail) only[push_cast,seval,vrl,if_pos,if_neg,hv]
 |d+1,k,hk,ks=>by
  have ih:=iz0 hg hn (T1:=T1) (ng:=ng) d (k+1) (by omega) ks
  have hv:=fi2 g
  have hlt:(List.take k (cycM n g)).length=k:=by rw[vb8,nc3];omega
  have hs:=jq8 (vs g) (List.replicate n 0) k (by rw[jv4,hv];omega)
  rw[←ht2]at hs
  have hc:cut 0 g.length 1 (ivs (vs g))=ivs (vs g):=by rw[jp2,v85,sv4,sp3 (by rw[gf1,hv];omega)]
  have ht:(ivs (vs g)).take (n-k)=ivs (vs g):=sp3 (by rw[gf1,hv];omega)
  have ha:=pl3 (vs g)
  rw[e96,g71,da3,u52 (by omega),Option.toList_some]at ih
  rw[←ih,sb5 c19L0.eq_def]
  simp(disch:=first|omega|fail) only[push_cast,seval,vrl,if_pos,if_neg,hv,hc,ha,ht,hs,show((n:Int)-(k:Int)).toNat=n-k by omega,df0,q11,hlt]
theorem v78(hg0:g≠[])(hg:g.length≤n)(hn:n≤64){T1:Tree}{ng:Nat}(ks):
 vgoL W ⟨hNo,[(.cell 6 true 3), .tmp 7],0⟩ [1,2,6,15,16] c19L0 (.blk 0 [6,15]::ks) [(1, .x (.int .i64 n)),(2, .own 0 []),(6, .own 1 []),(15, .own 2 []),(16, .x (.int .i64 0))] [.sl ng 3 1 (ivs (vs g)),T1, .pt 35 [.v (.int .i64 q), .v (.int .i64 n), .v (.slice none 0 0)]]=
  vgo W ⟨hNo,[(.cell 6 true 3), .tmp 7],0⟩ ks (VFr.of [(6, .own 1 []),(15, .own 2 [])]) [.sl ng 3 1 (ivs (vs g)),T1, .pt 35 [.v (.int .i64 q), .v (.int .i64 n), .sl 2 22 1 (lls 2 ((cycM n g).map vs))]]:=by
 have ih:=iz0 hg hn (T1:=T1) (ng:=ng) (n-g.length) 1 (by omega) ks
 have hv:=fi2 g
 have hs:=jq8 (vs g) (List.replicate n 0) 0 (by rw[jv4,hv];omega)
 rw[←ht2]at hs
 have hc:cut 0 g.length 1 (ivs (vs g))=ivs (vs g):=by rw[jp2,v85,sv4,sp3 (by rw[gf1,hv];omega)]
 have ht:(ivs (vs g)).take n=ivs (vs g):=sp3 (by rw[gf1,hv];omega)
 have ha:=pl3 (vs g)
 have hgl:lls 2 (((cycM n g).take 1).map vs)=[.sl 2 3 1 (ivs (vs (shR n g 0)))]:=by
  rw[show(1:Nat)=0+1 from rfl,da3,u52 (by omega)];rfl
 rw[hgl,g71]at ih
 rw[←ih,sb5 c19L0.eq_def]
 simp(disch:=first|omega|fail) only[push_cast,seval,vrl,if_pos,if_neg,hv,hc,ha,ht,hs,show((n:Int)-0).toNat=n by omega]
def oneL(n:Nat):List (El q):=((List.replicate (n+1) 0).set 0 (-1)).set n 1
theorem vc9(n:Nat):(oneL n:List (El q)).length=n+1:=by unfold oneL;simp
theorem qp8(n:Nat):((List.replicate (n+1) (0:Int)).set 0 (fneg q 1)).set n 1=vs (oneL n:List (El q)):=by
 have hz:List.replicate (n+1) (0:Int)=vs (List.replicate (n+1) (0:El q)):=by rw[←qj2];rfl
 unfold oneL
 rw[←g52,←g52,←hz,tg5]
 rfl
end
def pkI(a n:Int):Int:=(if a<0 then-(a+1)else a).tmod n
theorem h58{a n:Int}(hn:0<n):0≤pkI a n∧pkI a n<n:=by
 unfold pkI
 split
 ·exact⟨Int.tmod_nonneg _ (by omega),Int.tmod_lt_of_pos _ hn⟩
 ·exact⟨Int.tmod_nonneg _ (by omega),Int.tmod_lt_of_pos _ hn⟩
theorem o99{x:Int}(h0:0≤x){n:Int}(h:x<n): ∃k:Nat,x=(k:Int)∧(k:Int)<n:=⟨x.toNat,by omega,by omega⟩
section
variable {b:Bool} {nl:Nat} {raw:List Int}
theorem s88{a n:Int}(h1: -9223372036854775808≤a)(h2:a≤9223372036854775807)(hn:0<n):o25 W 26 [.x (.int .i64 a), .x (.int .i64 n)] []=some (.x (.int .i64 (pkI a n)),[],[]):=by
 have hz: ¬n=0:=by omega
 rw[o10 rfl T26 rfl]
 unfold F26 c26 pkI
 by_cases h0:a<0
 ·rw[if_pos h0]
  simp(disch:=first|omega|fail) only[push_cast,seval,vrl,if_pos,if_neg,nb8 hz,hz]
  rw[show(0:Int)-(a+1)= -(a+1) by omega]
 ·rw[if_neg h0]
  simp(disch:=first|omega|fail) only[push_cast,seval,vrl,if_pos,if_neg,nb8 hz,hz]
end
end Go.Proofs.YtppbpgmdmiajcaaGreat
namespace Go.Alg
section
variable {K:Type} [FK K]
def loc:List K→List K
 | []=>[1]
 |x::l=>mulK [-x,1] (loc l)
theorem mo3(x:K):Trm ([-x,1]:List K):=fun _=>ki7
theorem tt9(x y:K):ev [-x,1] y=y-x:=by
 rw[ev,ev,ev,mul_zero,FK.add_zero,FK.mul_one,FK.add_comm];rfl
theorem h42: ∀l:List K,Trm (loc l)
 | []=>py3 ki7
 |x::l=>ho6 _ _
theorem ru2: ∀l:List K,(loc l).length=l.length+1
 | []=>rfl
 |x::l=>by
  have ih:=ru2 l
  rw[loc,lk3 (mo3 x) (h42 l) (by simp) (fun e=>by rw[e]at ih;simp at ih),ih]
  simp;omega
theorem zb6{y:K}: ∀{l:List K},y∈l→ev (loc l) y=0
 |x::l,h=>by
  rw[loc,jo3,tt9]
  rcases r04.1 h with rfl|h
  ·rw[sub_self,zero_mul]
  ·rw[zb6 h,mul_zero]
theorem bl2{y:K}: ∀{l:List K},y∉l→ev (loc l) y≠0
 | [],_=>by
   rw[loc,ev,ev,mul_zero,FK.add_zero];exact ki7
 |x::l,h=>by
  rw[loc,jo3,tt9]
  exact hl6 (fun e=>h (by rw[sub_eq_zero.1 e];simp)) (bl2 fun h'=>h (by simp[h']))
open Classical in
end
end Go.Alg
namespace Go.Alg
section
variable {K:Type} [FK K]
end
end Go.Alg
namespace Go.Proofs.YtppbpgmdmiajcaaGreat
open Go.Am Go.Vm Go.Alg
section
variable {raw:List Int} {b:Bool} {nl:Nat}
end
section
variable {a c:List Int} {b b':Bool} {nl nl':Nat}
end
section
variable {q:Int} {b:Bool} {nl:Nat} {xs:List Int} {k:Int}
end
section
variable {q:Int} [hq:IsFld q]
variable {b b':Bool} {nl nl':Nat} {X m:List (El q)}
end
section
variable {q:Int}
def oV:Option (El q)→Int
 |none=> -1
 |some x=>x.v
def ws(W:List (Option (El q))):List Int:=W.map oV
end
section
variable {q:Int} {b b':Bool} {nl nl':Nat}
end
section
variable {q p m g:Int} [IsFld q] {t:Tree} {b b':Bool} {nl nl' nr n7 n8:Nat} {M:List (List (El q))} {A:List (Nat×List (El q))} {N:Nat}
end
section
variable {q:Int} [IsFld q] {b b':Bool} {nl nl' nr:Nat} {M:List (List (El q))} {y:List (El q)} {n R:Nat}
section
variable {T5:Tree} {c at' n0:Nat}
end
end
section
variable {q:Int} {b b':Bool} {nl nl' nr e:Nat}
end
section
variable {α:Type} {n:Nat}
end
section
variable {q:Int} [IsFld q] {b b':Bool} {nl nl' nr:Nat} {M:List (List (El q))} {n:Nat}
end
section
variable {q:Int} {b b':Bool} {nl nl' nr e:Nat}
end
end Go.Proofs.YtppbpgmdmiajcaaGreat
namespace Go.Alg
section
variable {K:Type} [FK K]
end
end Go.Alg
namespace Go.Proofs.YtppbpgmdmiajcaaGreat
open Go.Am Go.Vm Go.Alg
section
variable {q:Int} [h:IsFld q]
end
section
variable {q:Int} [IsFld q] {b b':Bool} {nl nl':Nat} {P:List (El q×El q)} {k:Nat}
end
end Go.Proofs.YtppbpgmdmiajcaaGreat
namespace Go.Alg
section
variable {K:Type} [FK K]
end
end Go.Alg
namespace Go.Proofs.YtppbpgmdmiajcaaGreat
open Go.Am Go.Vm Go.Alg
section
variable {q:Int} [IsFld q] {b:Bool} {nl:Nat} {s:List (El q)}
end
end Go.Proofs.YtppbpgmdmiajcaaGreat
namespace Go.Alg
section
variable {K:Type} [FK K]
end
end Go.Alg
namespace Go.Proofs.YtppbpgmdmiajcaaGreat
open Go.Am Go.Vm Go.Alg
section
variable {q:Int} [IsFld q] {b b':Bool} {nl nl':Nat} {P:List (El q×El q)}
end
section
variable {k:FuncId} {p:Int→Bool} {l:List Int} {nl:Nat}
end
section
variable {q:Int} [IsFld q] {k nl nr nl2:Nat} {b:Bool} {N:List (List (El q))}
end
def fewQ(q:Int):Nat→Int→Bool
 |0,_=>true
 |d+1,n=>if 4096<n*q then false else fewQ q d (n*q)
theorem ev9{q:Int}(h1:0≤q)(h2:q≤64){k:Nat}(hk:k≤1000): ∀(d i:Nat) (n:Int),i+d=k→0≤n→n≤4096→ ∀ks,
 vgoL W ⟨hNo,[.tmp 4],0⟩ [0,1,5,6] c31L0 (.blk 0 []::ks) [(0, .x (.int .i64 q)),(1, .x (.int .i64 k)),(5, .x (.int .i64 n)),(6, .x (.int .i64 i))] []=if fewQ q d n=true then vgo W ⟨hNo,[.tmp 4],0⟩ ks (VFr.of []) []else some (.x (.bool false),[],[])
 |0,i,n,hi,hn,hn2,ks=>by
  rw[fewQ,if_pos rfl,sb5 c31L0.eq_def]
  simp(disch:=first|omega|fail) only[push_cast,seval,vrl,if_pos,if_neg]
 |d+1,i,n,hi,hn,hn2,ks=>by
  have hb0:0≤n*q:=qc0 hn h1
  have hb1:n*q≤4096*64:=ij6 hn2 h2 h1 (by decide)
  have hb2:n*q≤262144:=by omega
  rw[fewQ]
  by_cases h:4096<n*q
  ·rw[if_pos h,if_neg (by decide),sb5 c31L0.eq_def]
   simp(disch:=first|omega|fail) only[push_cast,seval,vrl,if_pos,if_neg,dec_lt h]
  ·have ih:=ev9 h1 h2 hk d (i+1) (n*q) (by omega) hb0 (by omega) ks
   rw[e96,g71]at ih
   rw[if_neg h,←ih,sb5 c31L0.eq_def]
   simp(disch:=first|omega|fail) only[push_cast,seval,vrl,if_pos,if_neg,cw6 (vk3.1 h)]
theorem os1{q:Int}(h1:0≤q)(h2:q≤64){k:Nat}(hk:k≤1000):o25 W 31 [.x (.int .i64 q), .x (.int .i64 k)] []=some (.x (.bool (fewQ q k 1)),[],[]):=by
 have e:=fun ks=>ev9 h1 h2 hk k 0 1 (by omega) (by decide) (by decide) ks
 simp only[vx9,si3,sv4,rp2,lz6,x25,gw5,fo5]at e
 rw[o10 rfl T31 rfl]
 unfold F31 c31
 simp(disch:=first|omega|fail) only[push_cast,seval,vrl,if_pos,if_neg]
 rw[e]
 cases hz:fewQ q k 1 with
 |true=>
  rw[if_pos rfl]
  simp(disch:=first|omega|fail) only[push_cast,seval,vrl,if_pos,if_neg]
 |false=>rw[if_neg (by decide)]
section
variable {K:Type} [FK K]
end
section
variable {q:Int} [IsFld q] {b b':Bool} {nl nl':Nat}
end
section
variable {q:Int} {b b':Bool} {nl nl':Nat}
end
section
variable {q p m g:Int} {t:Tree} {b b':Bool} {nl nl':Nat} {l:List Int}
variable {xs:List Int} {k:Int}
variable {w:List Int}
end
section
variable {q p m g:Int} [IsFld q] {t:Tree} {b b':Bool} {nl nl':Nat} {a:List (El q)} {x:El q}
end
section
variable {q p m g:Int} [IsFld q] {t:Tree} {b b' b2:Bool} {nl nl' nl2:Nat} {a:List (El q)} {X:List (El q)} {U:List (Option (El q))}
end
section
variable {K:Type} [FK K]
end
section
variable {q p m g:Int} [IsFld q] {t:Tree} {b b':Bool} {nl nl':Nat} {c:List (El q)} {top:El q}
end
end Go.Proofs.YtppbpgmdmiajcaaGreat
namespace Go.Proofs.YtppbpgmdmiajcaaGreat
open Go.Am
@[push_cast] theorem py6{α:Type}{h:H}{r:Option α}:behind true h h r=r:=zy7 (je0 h)
section
variable {h:H} {sa:Option Addr} {c:Nat} {l:List Int}
end
section
variable {h0:H} {sr:Option Addr} {cr:Nat} {raw:List Int}
end
section
variable {h:H} {sa:Option Addr} {C:Nat} {cs:List (List Int)}
end
section
variable {h:H}
end
def qr3(q:Int):List Int→List Int×Bool
 | []=>([],false)
 |a::l=>match qr3 q l with
  |(l',true)=>(a::l',true)
  |(l',false)=>if a+1<q then((a+1)::l',true)else(0::l',false)
theorem pd1(q:Int): ∀l,(qr3 q l).1.length=l.length
 | []=>rfl
 |a::l=>by
  have ih:=pd1 q l
  rw[qr3]
  generalize qr3 q l=x at ih⊢
  obtain⟨l',b⟩:=x
  cases b
  ·simp only
   split<;>simpa using ih
  ·simpa using ih
theorem vq6{q:Int}{s s':List Int}(h:qr3 q s=(s',true)): ∀p:List Int,qr3 q (p++s)=(p++s',true)
 | []=>h
 |a::p=>by rw[rs6,qr3,vq6 h p];rfl
def valS(q:Nat):List Int→Nat
 | []=>0
 |a::l=>a.toNat*q^l.length+valS q l
def digS(q:Int)(l:List Int):Prop:= ∀a∈l,0≤a∧a<q
theorem uc1{q:Nat}: ∀{l:List Int},digS q l→valS q l<q^l.length
 | [],_=>by simp[valS]
 |a::l,h=>by
  have h1:=h a (by simp)
  have ih:=uc1 (l:=l) fun b hb=>h b (by simp[hb])
  rw[valS,q90,Nat.pow_succ,f52 (q^l.length)]
  have h2:(a.toNat+1)*q^l.length≤q*q^l.length:=wg6 _ (by omega)
  rw[ur9,Nat.one_mul]at h2
  omega
theorem jd2{q:Nat}(hq:0<q): ∀{l:List Int},digS q l→digS q (qr3 q l).1∧(if(qr3 q l).2=true then valS q (qr3 q l).1=valS q l+1 else valS q l+1=q^l.length∧ ∀a∈(qr3 q l).1,a=0)
 | [],_=>by simp[qr3,valS,digS]
 |a::l,h=>by
  have h1:=h a (by simp)
  obtain⟨k1,k2⟩:=jd2 hq (l:=l) fun b hb=>h b (by simp[hb])
  have hl:=pd1 q l
  rw[qr3]
  generalize hx:qr3 q l=x at k1 k2 hl⊢
  obtain⟨l',b⟩:=x
  simp only at k1 k2 hl
  cases b with
  |true=>
   simp only[oo9]at k2⊢
   refine⟨fun c hc=> ?_, ?_⟩
   ·rcases r04.1 hc with rfl|hc
    ·exact h1
    ·exact k1 c hc
   ·rw[valS,valS,hl,k2];omega
  |false=>
   simp only[o35,wj1]at k2⊢
   have hz: ∀{m:List Int},(∀a∈m,a=0)→valS q m=0:=by
    intro m
    induction m with
    |nil=>intro _;rfl
    |cons c m ih=>intro hm;rw[valS,ih fun a ha=>hm a (by simp[ha]),hm c (by simp)];simp
   by_cases hlt:a+1<q
   ·rw[if_pos hlt]
    simp only[oo9]
    refine⟨fun c hc=> ?_, ?_⟩
    ·rcases r04.1 hc with rfl|hc
     ·omega
     ·exact k1 c hc
    ·rw[valS,valS,hz k2.2,hl,zy9,q61,k2.1,show(a+1).toNat=a.toNat+1 by omega,ur9,Nat.one_mul]
   ·rw[if_neg hlt]
    simp only[o35,wj1]
    refine⟨fun c hc=> ?_, ?_,fun c hc=> ?_⟩
    ·rcases r04.1 hc with rfl|hc
     ·omega
     ·exact k1 c hc
    ·rw[valS,q90,q61,k2.1,show a.toNat=q-1 by omega,Nat.pow_succ,f52 (q^l.length),Nat.sub_mul,Nat.one_mul]
     have:q^l.length≤q*q^l.length:=Nat.le_mul_of_pos_left _ hq
     omega
    ·rcases r04.1 hc with rfl|hc
     ·rfl
     ·exact k2.2 c hc
section
variable {hF:H} {q:Int}
theorem ri5{p s:List Int}{a b:Int}{i:Nat}(hi:p.length=i):(p++a::s).set i b=p++b::s:=by
 subst hi;simp
end
end Go.Proofs.YtppbpgmdmiajcaaGreat
namespace Go.Proofs.YtppbpgmdmiajcaaGreat
open Go.Am Go.Vm Go.Alg
theorem qe6{p s:List Int}{a:Int}{i:Nat}(hi:p.length=i):(ivs (p++a::s))[i]? =some (.v (.int .i64 a)):=iat (by subst hi;simp)
section
variable {q:Int} {nl:Nat}
end
section
variable {q:Int}
variable {b b':Bool} {nl nl':Nat} {xs w:List Int} {k:Int}
end
theorem q_hi{q:Int} [hq:IsFld q]:q≤64:=by
 obtain⟨p,m,g,mod,hn⟩:=hq.ok
 exact(jj8 hn).1.q64
section
variable {q:Int} [IsFld q]
def elE(q:Int) [IsFld q](a:Int):El q:=if h:0≤a∧a<q then⟨a,h.1,h.2⟩else 0
theorem sx0{a:Int}(h:0≤a∧a<q):(elE q a).v=a:=by unfold elE;rw[dif_pos h]
theorem c88{l:List Int}(h:digS q l):vs (l.map (elE q))=l:=by
 unfold vs
 rw[uk6]
 conv=>rhs;rw[←List.map_id l]
 exact ny8 fun a ha=>sx0 (h a ha)
theorem oa6(z:List (El q)):digS q (vs z):=fun a ha=>by
 obtain⟨x,_,rfl⟩:=vf1.1 ha
 exact⟨x.lo,x.hi⟩
def yv5(z:List (El q)):List (El q):=(qr3 q (vs z)).1.map (elE q)
theorem z55: ∃p:Nat,q=(p:Int)∧2≤p∧p≤64:=⟨q.toNat,by have:=aw0 (q:=q);omega,by have:=aw0 (q:=q);omega,by have:=q_hi (q:=q);omega⟩
theorem mw7(z:List (El q)):vs (yv5 z)=(qr3 q (vs z)).1:=by
 obtain⟨p,hp,h2,_⟩:=z55 (q:=q)
 refine c88 ?_
 have:=(jd2 (q:=p) (by omega) (l:=vs z) (by rw[←hp];exact oa6 z)).1
 rwa [←hp]at this
theorem l71(z:List (El q)):(yv5 z).length=z.length:=by
 have:=congrArg List.length (mw7 z)
 rwa [fi2,pd1,fi2]at this
theorem nc8{p:Nat}: ∀(d:Nat) (n:Nat),fewQ (p:Int) d (n:Int)=true→n≤4096→n*p^d≤4096
 |0,n,_,hn=>by simpa using hn
 |d+1,n,h,hn=>by
  rw[fewQ]at h
  split at h
  ·cases h
  ·rename_i h1
   rw[←id0]at h h1
   have:=nc8 d (n*p) h (by omega)
   rw[Nat.mul_assoc,←Nat.pow_succ']at this
   exact this
structure Left (q:Int) (p:Nat) (n:Nat) (z:List (El q)):Prop where
 e:q=(p:Int)
 h:valS p (vs z)+n+1=p^z.length
theorem Left.last{p:Nat}{z:List (El q)}(h:Left q p 0 z):(qr3 q (vs z)).2=false:=by
 have hq:=aw0 (q:=q)
 have h1:=jd2 (q:=p) (by have:=h.e;omega) (l:=vs z) (by rw[←h.e];exact oa6 z)
 rw[←h.e]at h1
 cases hb:(qr3 q (vs z)).2 with
 |false=>rfl
 |true=>
  have h2:=h1.2
  rw[hb,if_pos rfl]at h2
  have h3:=uc1 (q:=p) (l:=(qr3 q (vs z)).1) (by rw[←h.e];exact h1.1)
  rw[pd1,fi2]at h3
  have:=h.h
  omega
theorem Left.more{p n:Nat}{z:List (El q)}(h:Left q p (n+1) z):(qr3 q (vs z)).2=true∧Left q p n (yv5 z):=by
 have hq:=aw0 (q:=q)
 have h1:=jd2 (q:=p) (by have:=h.e;omega) (l:=vs z) (by rw[←h.e];exact oa6 z)
 rw[←h.e]at h1
 have h0:=h.h
 cases hb:(qr3 q (vs z)).2 with
 |false=>
  have h2:=h1.2
  rw[hb,if_neg (by decide),fi2]at h2
  omega
 |true=>
  have h2:=h1.2
  rw[hb,if_pos rfl]at h2
  exact⟨rfl,h.e,by rw[mw7,l71];omega⟩
theorem Left.start{p:Nat}(e:q=(p:Int))(K:Nat):Left q p (p^K-1) (List.replicate K (0:El q)):=by
 have hq:=aw0 (q:=q)
 refine⟨e, ?_⟩
 have h0: ∀k:Nat,valS p (vs (List.replicate k (0:El q)))=0:=by
  intro k
  induction k with
  |zero=>rfl
  |succ k ih=>rw[lg2,show vs ((0:El q)::List.replicate k 0)=0::vs (List.replicate k 0)from rfl,valS,ih];simp
 rw[h0,jv4]
 have:0<p^K:=Nat.pow_pos (by omega)
 omega
end
section
variable {q p m g:Int} [IsFld q] {t:Tree} {b b' b2:Bool} {nl nl' nl2:Nat} {X Y:List (El q)} {r:Int} {K:Nat}
end
section
variable {q:Int} [IsFld q] {b b':Bool} {nl nl':Nat}
end
section
variable {q:Int} {nl:Nat}
end
section
variable {q:Int} {b b':Bool} {nl nl':Nat}
end
section
variable {q p m g:Int} [IsFld q] {t:Tree} {b b' b2:Bool} {nl nl' nl2:Nat} {X Y:List (El q)} {r:Int} {K:Nat}
end
section
variable {q:Int} {b b':Bool} {nl nl':Nat} {xs w:List Int} {k r:Int}
end
end Go.Proofs.YtppbpgmdmiajcaaGreat
namespace Go.Alg
section
variable {α β:Type}
variable [DecidableEq α]
end
end Go.Alg
namespace Go.Proofs.YtppbpgmdmiajcaaGreat
open Go.Am Go.Vm Go.Alg
section
variable {q:Int} [IsFld q] {p:Nat} {P:List (El q×El q)} {r:Int}
end
section
variable {q:Int} [IsFld q]
theorem oz6{c:El q}{f h:Nat→El q}{k:Nat}:disc (fun i=>c*f i) h k=c*disc f h k:=ks7
theorem g81{F h:Nat→El q}{k:Nat}:disc (fun i=>match i with|0=>(0:El q)|i+1=>F i) h k=match k with|0=>0|k+1=>disc F h k:=by
 refine(o59 0 F h k).trans ?_
 rw[zero_mul,zero_add]
 all_goals (cases k<;>rfl)
theorem hi9(g h:Nat→El q): ∀(a:List (El q)) (k:Nat),disc (fun i=>disc (wf a) g i) h k=disc (wf a) (fun i=>disc g h i) k
 | [],k=>by
   rw[qt9,tt8,show(fun i=>disc (fun _=>(0:El q)) g i)=fun _=>0 from funext fun i=>tt8 _ _,tt8]
 |c::l,k=>by
  have ih:=hi9 g h l
  have e:(fun i=>disc (wf (c::l)) g i)=fun i=>c*g i+(match i with|0=>(0:El q)|i+1=>disc (wf l) g i):=funext fun i=>by
   rw[iu6]
   refine(o59 c (wf l) g i).trans ?_
   cases i<;>rfl
  rw[e,bf5,oz6,g81,iu6,o59]
  congr 1
  cases k with
  |zero=>rfl
  |succ k=>exact ih k
theorem w11(a b c:List (El q)):mulK (mulK a b) c=mulK a (mulK b c):=by
 refine lz5 (ho6 _ _) (ho6 _ _) ?_
 rw[zu9,zu9,zu9,zu9]
 funext k
 exact hi9 _ _ _ k
end
section
variable {q:Int} [IsFld q]
def Mg(g w:Nat→El q):Prop:= ∃(c:Nat→El q) (L:Nat),(∀k,L≤k→c k=0)∧w=disc c g
theorem Mg.zero{g:Nat→El q}:Mg g (fun _=>0):=⟨fun _=>0,0,fun _ _=>rfl,funext fun k=>(tt8 g k).symm⟩
theorem Mg.axp{g u w:Nat→El q}(hu:Mg g u)(hw:Mg g w)(a:El q):Mg g (Alg.axp a u w):=by
 obtain⟨c,L,h1,rfl⟩:=hu
 obtain⟨d,M,h2,rfl⟩:=hw
 refine⟨fun k=>c k+a*d k,L+M,fun k hk=>by show c k+a*d k=0;rw[h1 k (by omega),h2 k (by omega),mul_zero,FK.add_zero],funext fun k=> ?_⟩
 rw[bf5,ck4 (fun k=>a*d k),ck4 g (fun k=>a*d k),oz6]
 rfl
def xk(k:Nat)(a:El q):Nat→El q:=fun i=>if i=k then a else 0
theorem en1(k:Nat)(a:El q)(g:Nat→El q):disc (xk k a) g=fun j=>a*shift k g j:=funext fun j=>uj8 a k g j
theorem Mg.shift(g:Nat→El q)(k:Nat):Mg g (Alg.shift k g):=⟨xk k 1,k+1,fun i hi=>if_neg (by omega),by rw[en1];exact funext fun j=>(one_mul _).symm⟩
theorem to6{n:Nat}(h0:0<n):wf (oneL n:List (El q))=fun i=>xk n 1 i+xk 0 (-1) i:=by
 funext i
 have hl:=vc9 (q:=q) n
 rcases nh9 i (n+1)with hi|hi
 ·rw[i67 (by omega)]
  unfold oneL xk
  simp only[List.getElem_set,List.getElem_replicate]
  by_cases h1:i=n
  ·rw[if_pos h1.symm,if_pos h1,if_neg (by omega),FK.add_zero]
  ·rw[if_neg fun e=>h1 e.symm,if_neg h1,zero_add]
   by_cases h2:i=0
   ·rw[if_pos h2.symm,if_pos h2]
   ·rw[if_neg fun e=>h2 e.symm,if_neg h2]
 ·rw[e00 (by omega)]
  unfold xk
  rw[if_neg (by omega),if_neg (by omega),FK.add_zero]
theorem ff1{c g:Nat→El q}{L:Nat}(hc: ∀k,L≤k→c k=0)(j:Nat):disc c g j=sumN L fun k=>c k*Alg.shift k g j:=by
 have h1:disc c g j=sumN (j+1) fun k=>c k*Alg.shift k g j:=rc1 fun k hk=>by
  unfold Alg.shift;rw[if_neg (by omega)]
 rw[h1]
 rcases Nat.le_total L (j+1)with h|h
 ·exact jr0 h fun k hk _=>by rw[hc k hk,zero_mul]
 ·refine(jr0 h fun k hk _=> ?_).symm
  have:Alg.shift k g j=0:=by unfold Alg.shift;rw[if_pos (by omega)]
  rw[this,mul_zero]
variable {n:Nat} {g:List (El q)}
theorem tu9{k:Nat}(h:k+g.length≤n):wf (shR n g k)=Alg.shift k (wf g):=by
 funext j
 unfold shR
 have hl:((List.replicate n (0:El q)).take k).length=k:=by rw[vb8,jv4];omega
 rw[eh9,nz2,hl]
 unfold Alg.shift
 by_cases hj:j<k
 ·rw[if_pos hj,if_pos hj,List.take_replicate,m14]
 ·rw[if_neg hj,if_neg hj,nz2]
  split
  ·rfl
  ·rw[List.drop_replicate,m14,e00 (by omega)]
theorem dc6(ht:Trm g)(hg0:g≠[]){w:Nat→El q}:Span ((cycM n g).map wf) w↔Mg (wf g) w∧ ∀k,n≤k→w k=0:=by
 constructor
 ·intro h
  refine h.lin (P:=fun w=>Mg (wf g) w∧ ∀k,n≤k→w k=0) ⟨Mg.zero,fun _ _=>rfl⟩ (fun u r c hu hr=>⟨hu.1.axp hr.1 c,fun k hk=> ?_⟩) fun r hr=> ?_
  ·show u k+c*r k=0
   rw[hu.2 k hk,hr.2 k hk,mul_zero,FK.add_zero]
  ·obtain⟨r,h1,rfl⟩:=vf1.1 hr
   obtain⟨k,h2,rfl⟩:=vf1.1 h1
   have hk:=l16.1 h2
   have hp:=py7.2 hg0
   have hl:=l93 (g:=g) (n:=n) (k:=k) (by omega)
   refine⟨by rw[tu9 (by omega)];exact Mg.shift _ _,fun j hj=>e00 (by omega)⟩
 ·rintro⟨⟨c,L,h1,rfl⟩,h2⟩
  by_cases hz:c=fun _=>0
  ·subst hz
   rw[show disc (fun _=>0) (wf g)=fun _=>0 from funext fun k=>tt8 _ _]
   exact Span.zero
  ·obtain⟨m,m1,m2⟩:=op2 h1 hz
   have hp:=py7.2 hg0
   have htop:disc c (wf g) (m+(g.length-1))=c m*wf g (g.length-1):=b30 m2 fun i hi=>e00 (by omega)
   have hne: ¬n≤m+(g.length-1):=fun hn=>by
    have h3:=h2 _ hn
    rw[htop]at h3
    have h4:=ht (by omega)
    have e:c m*wf g (g.length-1)*FK.inv (wf g (g.length-1))=0*FK.inv (wf g (g.length-1)):=by rw[h3]
    rw[FK.mul_assoc,FK.mul_inv _ h4,FK.mul_one,zero_mul]at e
    exact m1 e
   have hs:disc c (wf g)=fun j=>sumL (List.range (m+1)) fun k=>c k*wf (shR n g k) j:=funext fun j=>by
    rw[ff1 (L:=m+1) fun k hk=>m2 k (by omega)]
    exact rc1 fun k hk=>by rw[tu9 (by omega)]
   rw[hs]
   exact Span.sum fun k hk=>by
    have:=l16.1 hk
    exact .mem (vf1.2 ⟨_,vf6 (u52 (by omega)),rfl⟩)
theorem v31{n:Nat}{g:List (El q)}(ht:Trm g)(hg0:g≠[])(h:remP (xa5 (oneL n:List (El q))) g=[]):Mg (wf g) (wf (oneL n:List (El q))):=by
 have hd:=h79 (a:=xa5 (oneL n:List (El q))) ht hg0
 rw[h]at hd
 refine⟨wf (quoP (xa5 (oneL n)) g),(quoP (xa5 (oneL n)) g).length,fun k hk=>e00 hk,funext fun k=> ?_⟩
 have:=hd.eq k
 rw[vb5]at this
 rw[this,qt9,FK.add_zero]
theorem hn3{n:Nat}{g:List (El q)}(h0:0<n)(ht:Trm g)(hg0:g≠[])(h:Mg (wf g) (wf (oneL n:List (El q)))):g.length≤n+1:=by
 obtain⟨c,L,h1,h2⟩:=h
 have hp:=py7.2 hg0
 by_cases hz:c=fun _=>0
 ·subst hz
  have:=congrFun h2 n
  rw[tt8,to6 h0]at this
  unfold xk at this
  simp only[oo9]at this
  rw[if_neg (by omega),FK.add_zero]at this
  exact absurd this ki7
 ·obtain⟨m,m1,m2⟩:=op2 h1 hz
  have htop:disc c (wf g) (m+(g.length-1))=c m*wf g (g.length-1):=b30 m2 fun i hi=>e00 (by omega)
  refine ly5 fun hn=> ?_
  have h3:=congrFun h2 (m+(g.length-1))
  rw[htop,to6 h0]at h3
  unfold xk at h3
  simp only at h3
  rw[if_neg (by omega),if_neg (by omega),FK.add_zero]at h3
  have h4:=ht (by omega)
  have e:c m*wf g (g.length-1)*FK.inv (wf g (g.length-1))=0*FK.inv (wf g (g.length-1)):=by rw[←h3]
  rw[FK.mul_assoc,FK.mul_inv _ h4,FK.mul_one,zero_mul]at e
  exact m1 e
end
end Go.Proofs.YtppbpgmdmiajcaaGreat
namespace Go.Alg
def orb(q n:Nat):Nat→List Nat→Nat→Option (List Nat)
 |0,_,_=>none
 |m+1,S,i=>if i∈S then some []else(orb q n m (S++[i]) (i*q%n)).map (i:: ·)
def orbT(q n k:Nat):List Nat:=(orb q n 65 [] k).getD []
def cosL(q n:Nat):Nat→Nat→List Nat→List (List Nat)
 |0,_,_=>[]
 |m+1,k,S=>if k∈S then cosL q n m (k+1) S else orbT q n k::cosL q n m (k+1) (S++orbT q n k)
theorem w94{q n x y:Nat}(hc:Nat.Coprime n q)(hx:x<n)(hy:y<n)(h:x*q%n=y*q%n):x=y:=by
 have key: ∀{a b:Nat},a≤b→b<n→a*q%n=b*q%n→a=b:=fun{a b} h1 h2 h3=>by
  have hd:n∣b*q-a*q:=Nat.dvd_of_mod_eq_zero (Nat.sub_mod_eq_zero_of_mod_eq h3.symm)
  rw[←Nat.sub_mul]at hd
  have:=Nat.Coprime.dvd_of_dvd_mul_right hc hd
  rcases cb2 (b-a)with e|e
  ·omega
  ·have:=Nat.le_of_dvd e this
   omega
 rcases Nat.le_total x y with g|g
 ·exact key g hy h
 ·exact(key g hx h.symm).symm
def ClN(q n:Nat)(S:List Nat):Prop:= ∀x,x<n→(x*q%n∈S↔x∈S)
theorem yk7{P Q:List Nat}(hQ:Q.Nodup)(h: ∀x∈Q,x∈P)(hl:P.length≤Q.length)(hP:P.Nodup): ∀x∈P,x∈Q:=fun x hx=>by
 by_cases hm:x∈Q
 ·exact hm
 ·have:(x::Q).Nodup:=y50.2 ⟨hm,hQ⟩
  have:=this.length_le_of_subset (l₂:=P) fun y hy=>by
   rcases r04.1 hy with rfl|hy
   ·exact hx
   ·exact h y hy
  simp at this
  omega
theorem ma3{α β:Type}{f:α→β}: ∀{l:List α},l.Nodup→(∀x∈l,∀y∈l,f x=f y→x=y)→(l.map f).Nodup
 | [],_,_=>List.nodup_nil
 |a::l,h,hf=>by
  rw[nf9,y50]
  have h':=y50.1 h
  refine⟨fun hm=> ?_,ma3 h'.2 fun x hx y hy=>hf x (iz7 _ hx) y (iz7 _ hy)⟩
  obtain⟨x,hx,e⟩:=vf1.1 hm
  exact h'.1 (hf x (iz7 _ hx) a rn8 e▸hx)
theorem k87{P:List Nat}{i:Nat}(h:P.Nodup)(hi:i∉P):(P++[i]).Nodup:=by
 rw[m71]
 refine⟨h,by simp,fun a ha b hb=> ?_⟩
 rw[q05.1 hb]
 exact fun e=>hi (e▸ha)
theorem dq1{q n:Nat}(hc:Nat.Coprime n q)(h0:0<n){S:List Nat}(hS:ClN q n S): ∀(m:Nat) (P:List Nat) (i:Nat),i<n→i∉S→P.Nodup→(∀x∈P,x<n∧x∉S∧(x*q%n∈P∨x*q%n=i))→n+1≤m+P.length→
 ∃L,orb q n m (S++P) i=some L∧orb q n m P i=some L∧(P++L).Nodup∧(∀x∈P++L,x<n∧x∉S∧x*q%n∈P++L)∧i∈P++L
 |0,P,i,hi,hiS,hP,hx,hm=>by
  have:=hP.length_le_of_subset (l₂:=List.range n) fun x h=>l16.2 (hx x h).1
  rw[w64]at this
  omega
 |m+1,P,i,hi,hiS,hP,hx,hm=>by
  by_cases hiP:i∈P
  ·refine⟨[],by rw[orb,if_pos (m85 _ hiP)],by rw[orb,if_pos hiP],by simpa using hP,fun x h=> ?_,by simpa using hiP⟩
   rw[nw0]at h⊢
   obtain⟨a,b,c⟩:=hx x h
   exact⟨a,b,c.elim id fun e=>e▸hiP⟩
  ·have hl:i*q%n<n:=gn6 _ h0
   obtain⟨L,l1,l2,l3,l4,l5⟩:=dq1 hc h0 hS m (P++[i]) (i*q%n) hl (fun h=>hiS ((hS i hi).1 h)) (k87 hP hiP) (fun x h=>by
    rcases bk2.1 h with h|h
    ·obtain⟨a,b,c⟩:=hx x h
     refine⟨a,b, .inl ?_⟩
     rcases c with c|c
     ·exact zk7 _ c
     ·rw[c];simp
    ·rw[q05.1 h]
     exact⟨hi,hiS, .inr rfl⟩) (by simp;omega)
   refine⟨i::L, ?_, ?_,by simpa using l3,fun x h=>by simpa using l4 x (by simpa using h),by simp⟩
   ·rw[orb,if_neg (by simp[hiS,hiP]),eh9,l1];rfl
   ·rw[orb,if_neg hiP,l2];rfl
theorem ez8{q n:Nat}(hc:Nat.Coprime n q){S L:List Nat}(hS:ClN q n S)(hL:L.Nodup)(h: ∀x∈L,x<n∧x∉S∧x*q%n∈L):ClN q n L∧ClN q n (S++L):=by
 have hcl:ClN q n L:=fun x hx=>⟨fun hm=>by
  have h2:(L.map fun x=>x*q%n).Nodup:=ma3 hL fun a ha b hb e=>w94 hc (h a ha).1 (h b hb).1 e
  have:=yk7 h2 (P:=L) (fun y hy=>by
   obtain⟨z,hz,rfl⟩:=vf1.1 hy
   exact(h z hz).2.2) (by simp) hL _ hm
  obtain⟨z,hz,e⟩:=vf1.1 this
  exact w94 hc (h z hz).1 hx e▸hz,fun hm=>(h x hm).2.2⟩
 exact⟨hcl,fun x hx=>by rw[bk2,bk2,hS x hx,hcl x hx]⟩
structure Way (q n:Nat) (S:List Nat) (k:Nat):Prop where
 orb:orb q n 65 S k=some (orbT q n k)
 nodup:(orbT q n k).Nodup
 lt: ∀x∈orbT q n k,x<n
 out: ∀x∈orbT q n k,x∉S
 self:k∈orbT q n k
 cl:ClN q n (orbT q n k)
 app:ClN q n (S++orbT q n k)
theorem he7{q n:Nat}(hc:Nat.Coprime n q)(hn:n≤64){S:List Nat}(hS:ClN q n S){k:Nat}(hk:k<n)(hkS:k∉S):Way q n S k:=by
 obtain⟨L,l1,l2,l3,l4,l5⟩:=dq1 hc (by omega) hS 65 [] k hk hkS List.nodup_nil (fun x h=>by cases h) (by simp;omega)
 have e:orbT q n k=L:=by unfold orbT;rw[l2];rfl
 rw[m51]at l3 l4 l5
 rw[nw0]at l1
 have:=ez8 hc hS l3 l4
 exact⟨by rw[e,l1],by rw[e];exact l3,fun x h=>(l4 x (e▸h)).1,fun x h=>(l4 x (e▸h)).2.1,by rw[e];exact l5,by rw[e];exact this.1,by rw[e];exact this.2⟩
structure CosI (q n:Nat) (S:List Nat) (L:List (List Nat)):Prop where
 nodup:(S++L.flatten).Nodup
 lt: ∀x∈L.flatten,x<n
 each: ∀c∈L,c.Nodup∧ClN q n c∧c≠[]
theorem b31{q n:Nat}(hc:Nat.Coprime n q)(hn:n≤64): ∀(m k:Nat) (S:List Nat),k+m=n→ClN q n S→S.Nodup→(∀x,x<k→x∈S)→
 CosI q n S (cosL q n m k S)∧ ∀x,x<n→x∈S++(cosL q n m k S).flatten
 |0,k,S,hk,hS,hN,hx=>by
  unfold cosL
  exact⟨⟨by simpa using hN,fun x h=>by simp at h,fun c h=>by cases h⟩,fun x h=>zk7 _ (hx x (by omega))⟩
 |m+1,k,S,hk,hS,hN,hx=>by
  unfold cosL
  by_cases hkS:k∈S
  ·rw[if_pos hkS]
   refine b31 hc hn m (k+1) S (by omega) hS hN fun x h=> ?_
   rcases nh9 x k with h|h
   ·exact hx x h
   ·obtain rfl:x=k:=by omega
    exact hkS
  ·rw[if_neg hkS]
   have w:=he7 hc hn hS (show k<n by omega) hkS
   have hN':(S++orbT q n k).Nodup:=by
    rw[m71]
    exact⟨hN,w.nodup,fun a ha b hb e=>w.out b hb (e▸ha)⟩
   obtain⟨⟨a,b,c⟩,d⟩:=b31 hc hn m (k+1) (S++orbT q n k) (by omega) w.app hN' (fun x h=>by
    rcases nh9 x k with h|h
    ·exact zk7 _ (hx x h)
    ·obtain rfl:x=k:=by omega
     exact m85 _ w.self)
   refine⟨⟨by simpa using a,fun x h=> ?_,fun c' h=> ?_⟩,fun x h=>by simpa using d x h⟩
   ·rw[wf4]at h
    rcases bk2.1 h with h|h
    ·exact w.lt x h
    ·exact b x h
   ·rcases r04.1 h with rfl|h
    ·exact⟨w.nodup,w.cl,fun e=>by have:=w.self;rw[e]at this;cases this⟩
    ·exact c c' h
def cosA(q n:Nat):List (List Nat):=cosL q n n 0 []
theorem ci4(q n:Nat):ClN q n []:=fun x h=>by simp
theorem cq7{q n:Nat}(hc:Nat.Coprime n q)(hn:n≤64):CosI q n [] (cosA q n)∧ ∀x,x<n→x∈(cosA q n).flatten:=by
 have:=b31 hc hn n 0 [] (by omega) (ci4 q n) List.nodup_nil (fun x h=>by omega)
 exact⟨this.1,fun x h=>by have:=this.2 x h;rwa [m51]at this⟩
def setC(n:Nat)(l:List Nat):List Nat:=(List.range n).filter fun x=>decide (x∈l)
theorem ro7{n:Nat}{l:List Nat}{x:Nat}:x∈setC n l↔x<n∧x∈l:=by unfold setC;simp
theorem gv7(n:Nat)(l:List Nat):(setC n l).Nodup:=List.Pairwise.filter _ s08
theorem mj3(n:Nat)(l:List Nat):(setC n l).Pairwise (· < ·):=List.Pairwise.filter _ List.pairwise_lt_range
theorem vt7{n:Nat}{l:List Nat}(h:l.Nodup)(hl: ∀x∈l,x<n):(l.map Int.ofNat).mergeSort (fun x y=>decide (x≤y))=(setC n l).map Int.ofNat:=by
 refine List.Perm.eq_of_pairwise (le:=fun x y:Int=>decide (x≤y)=true) (fun a b _ _ h1 h2=>by simp at h1 h2;omega) (List.pairwise_mergeSort (fun a b c h1 h2=>by simp at*;omega) (fun a b=>by simp;omega) _) ?_ ?_
 ·rw[o71]
  exact(mj3 n l).imp fun{a b} h=>by simp;omega
 ·refine(List.mergeSort_perm _ _).trans (List.Perm.map _ ?_)
  exact(ym7 h (gv7 n l)).2 fun a=>by rw[ro7];exact⟨fun h=>⟨hl a h,h⟩,fun h=>h.2⟩
def zerN(q n:Nat)(z:Nat→Bool):List Nat:=setC n ((cosA q n).filter (fun c=>c.any z)).flatten
theorem n47{α:Type}{f:List α→Bool}: ∀{L:List (List α)},L.flatten.Nodup→(L.filter f).flatten.Nodup
 | [],h=>h
 |c::L,h=>by
  rw[wf4,m71]at h
  rw[p68]
  split
  ·rw[wf4,m71]
   refine⟨h.1,n47 h.2.1,fun a ha b hb=>h.2.2 a ha b ?_⟩
   obtain⟨c',h1,h2⟩:=bs1.1 hb
   exact bs1.2 ⟨c',(ma5.1 h1).1,h2⟩
  ·exact n47 h.2.1
theorem qn9{q n:Nat}(hc:Nat.Coprime n q)(hn:n≤64)(z:Nat→Bool): ∀x,x<n→(x*q%n∈zerN q n z↔x∈zerN q n z):=fun x hx=>by
 obtain⟨⟨a,b,c⟩,d⟩:=cq7 hc hn
 unfold zerN
 rw[ro7,ro7]
 have hl:x*q%n<n:=gn6 _ (by omega)
 constructor
 ·rintro⟨_,h⟩
  obtain⟨c',h1,h2⟩:=bs1.1 h
  exact⟨hx,bs1.2 ⟨c',h1,((c c' (ma5.1 h1).1).2.1 x hx).1 h2⟩⟩
 ·rintro⟨_,h⟩
  obtain⟨c',h1,h2⟩:=bs1.1 h
  exact⟨hl,bs1.2 ⟨c',h1,((c c' (ma5.1 h1).1).2.1 x hx).2 h2⟩⟩
theorem zh5{q n:Nat}(hc:Nat.Coprime n q)(hn:n≤64)(z:Nat→Bool){x:Nat}(hx:x<n)(h:z x=true):x∈zerN q n z:=by
 obtain⟨c,h1,h2⟩:=bs1.1 ((cq7 hc hn).2 x hx)
 exact ro7.2 ⟨hx,bs1.2 ⟨c,ma5.2 ⟨h1,gd7.2 ⟨x,h2,h⟩⟩,h2⟩⟩
end Go.Alg
namespace Go.Proofs.YtppbpgmdmiajcaaGreat
open Go.Am Go.Vm
theorem u49{d:Array Int}{i:Nat}(h:i<d.size):d.toList[i]? =some d[i]! :=by
 rw[a09,getElem!_pos d i h,ra6 h]
theorem va8(d:Array Int)(i j:Nat):(d.toList.set i d[j]!).set j d[i]! =(Sort.swp d i j).toList:=by
 simp[Sort.swp]
theorem wr6(d:Array Int):d.toList.length=d.size:=jp6
theorem vz2{d:Array Int}{i:Nat}(h:i<d.size):gi d.toList (i:Int)=d[i]! :=by
 unfold gi
 rw[ao0,os6,u49 h];rfl
theorem mc8{x:Int}:o25 W 185 [.x (.int .i64 x)] []=some (.x (.bool false),[],[]):=by
 rw[o10 rfl T185 rfl]
 unfold F185 c185
 simp(disch:=first|omega|fail) only[push_cast,seval,vrl,if_pos,if_neg]
theorem yg4{x y:Int}:o25 W 154 [.x (.int .i64 x), .x (.int .i64 y)] []=some (.x (.bool (Sort.ltInt x y)),[],[]):=by
 have e1:=mc8 (x:=x)
 have e2:=mc8 (x:=y)
 unfold Sort.ltInt
 rw[o10 rfl T154 rfl]
 unfold F154 c154
 simp(disch:=first|omega|fail) only[push_cast,seval,vrl,if_pos,if_neg,e1,e2]
section
variable {nl:Nat}
theorem xk4{a b i:Nat}: ∀(j:Nat) (d:Array Int),j<d.size→d.size≤1000000→ ∀ks,
 vgoL W ⟨hNo,[],1⟩ [0,1,2,6,7] c148L0 (.blk 2 [0,1,2,6]::ks) [(0, .own 0 []),(1, .x (.int .i64 a)),(2, .x (.int .i64 b)),(6, .x (.int .i64 i)),(7, .x (.int .i64 j))] [.sl nl 3 1 (ivs d.toList)]=
  vgo W ⟨hNo,[],1⟩ ks (VFr.of [(0, .own 0 []),(1, .x (.int .i64 a)),(2, .x (.int .i64 b)),(6, .x (.int .i64 i))]) [.sl nl 3 1 (ivs (Sort.insInner Sort.ltInt a j d).toList)]
 |0,d,hj,hd,ks=>by
  rw[Sort.insInner,sb5 c148L0.eq_def]
  simp(disch:=first|omega|fail) only[push_cast,seval,vrl,if_pos,if_neg]
 |j+1,d,hj,hd,ks=>by
  rw[Sort.insInner]
  have e0:((j+1:Nat):Int)-1=(j:Int):=by omega
  by_cases h1:a<j+1
  ·have l1:=vz2 (d:=d) (i:=j+1) hj
   have l2:=vz2 (d:=d) (i:=j) (by omega)
   have hlen:=wr6 d
   have e1:=yg4 (x:=d[j+1]!) (y:=d[j]!)
   cases hl:Sort.ltInt d[j+1]! d[j]! with
   |true=>
    have ih:=xk4 (a:=a) (b:=b) (i:=i) j (Sort.swp d (j+1) j) (by rw[Sort.size_swp];omega) (by rw[Sort.size_swp];exact hd) ks
    rw[←va8]at ih
    rw[hl]at e1
    rw[if_pos (by simpa using h1),←ih,sb5 c148L0.eq_def]
    generalize j+1=j1 at*
    simp(disch:=first|omega|fail) only[push_cast,seval,vrl,if_pos,if_neg,e0,l1,l2,e1,hlen]
   |false=>
    rw[hl]at e1
    rw[if_neg (by simp),sb5 c148L0.eq_def]
    generalize j+1=j1 at*
    simp(disch:=first|omega|fail) only[push_cast,seval,vrl,if_pos,if_neg,e0,l1,l2,e1,hlen]
  ·rw[if_neg (by simp;omega),sb5 c148L0.eq_def]
   simp(disch:=first|omega|fail) only[push_cast,seval,vrl,if_pos,if_neg]
theorem n09{α:Type} [Inhabited α](lt:α→α→Bool)(a:Nat): ∀(j:Nat) (d:Array α),(Sort.insInner lt a j d).size=d.size
 |0,d=>rfl
 |j+1,d=>by
  rw[Sort.insInner]
  split
  ·rw[n09 lt a j,Sort.size_swp]
  ·rfl
theorem ak0{a b:Nat}: ∀(n i:Nat) (d:Array Int),i+n=b∨(b≤i∧n=0)→b≤d.size→d.size≤1000000→i≤1000000→ ∀ks,
 vgoL W ⟨hNo,[],1⟩ [0,1,2,6] c148L1 (.blk 0 []::ks) [(0, .own 0 []),(1, .x (.int .i64 a)),(2, .x (.int .i64 b)),(6, .x (.int .i64 i))] [.sl nl 3 1 (ivs d.toList)]=
  vgo W ⟨hNo,[],1⟩ ks (VFr.of []) [.sl nl 3 1 (ivs (Sort.insOuter Sort.ltInt a b i d).toList)]
 |0,i,d,hn,hb,hd,hi,ks=>by
  rw[Sort.insOuter,if_neg (by omega),sb5 c148L1.eq_def]
  simp(disch:=first|omega|fail) only[push_cast,seval,vrl,if_pos,if_neg]
 |n+1,i,d,hn,hb,hd,hi,ks=>by
  have e1:=fun ks=>xk4 (nl:=nl) (a:=a) (b:=b) (i:=i) i d (by omega) hd ks
  have ih:=ak0 (a:=a) (b:=b) n (i+1) (Sort.insInner Sort.ltInt a i d) (by omega) (by rw[n09];exact hb) (by rw[n09];exact hd) (by omega) ks
  rw[e96,g71]at ih
  rw[Sort.insOuter,if_pos (by omega),←ih,sb5 c148L1.eq_def]
  simp(disch:=first|omega|fail) only[push_cast,seval,vrl,if_pos,if_neg]
  rw[e1]
  simp(disch:=first|omega|fail) only[push_cast,seval,vrl,if_pos,if_neg]
theorem ki8{a b:Nat}{d:Array Int}(hb:b≤d.size)(hd:d.size≤100000)(ha:a≤100000):
 o25 W 148 [.own 0 [], .x (.int .i64 a), .x (.int .i64 b)] [.sl nl 3 1 (ivs d.toList)]=some (.tup [],[],[.sl nl 3 1 (ivs (Sort.insertionSort Sort.ltInt d a b).toList)]):=by
 have e:=fun ks=>ak0 (nl:=nl) (a:=a) (b:=b) (b-(a+1)) (a+1) d (by omega) hb (by omega) (by omega) ks
 rw[e96,g71]at e
 unfold Sort.insertionSort
 rw[o10 rfl T148 rfl]
 unfold F148 c148
 simp(disch:=first|omega|fail) only[push_cast,seval,vrl,if_pos,if_neg]
 rw[e]
 simp(disch:=first|omega|fail) only[push_cast,seval,vrl,if_pos,if_neg]
end
theorem xa4{α:Type} [Inhabited α](lt:α→α→Bool)(hi first:Nat): ∀(n root:Nat) (d:Array α),hi-root≤n→(Sort.siftDown lt hi first root d).size=d.size
 |n,root,d,hn=>by
  rw[Sort.siftDown]
  by_cases h:2*root+1≥hi
  ·rw[dif_pos h]
  ·rw[dif_neg h]
   cases n with
   |zero=>omega
   |succ n=>
    split
    ·split
     ·rfl
     ·split
      ·rw[xa4 lt hi first n _ _ (by omega),Sort.size_swp]
      ·rfl
    ·split
     ·rfl
     ·rw[xa4 lt hi first n _ _ (by omega),Sort.size_swp]
section
variable {nl:Nat}
theorem s07{hi first:Nat}: ∀(n root:Nat) (d:Array Int),hi-root≤n→first+hi≤d.size→d.size≤100000→root≤100000→ ∀ks,ks=[]→
 vgoL W ⟨hNo,[],1⟩ [0,2,3,8] c180L0 (.blk 0 []::ks) [(0, .own 0 []),(2, .x (.int .i64 hi)),(3, .x (.int .i64 first)),(8, .x (.int .i64 root))] [.sl nl 3 1 (ivs d.toList)]=
  some (.tup [],[],[.sl nl 3 1 (ivs (Sort.siftDown Sort.ltInt hi first root d).toList)])
 |n,root,d,hn,hs,hd,hr,ks,hks=>by
  obtain⟨c,hc⟩: ∃c,c=2*root+1:=⟨_,rfl⟩
  have e1:2*(root:Int)+1=(c:Int):=by omega
  have e4:(c:Int)+1=((c+1:Nat):Int):=by omega
  have hlen:=wr6 d
  rw[Sort.siftDown,←hc]
  by_cases h1:c≥hi
  ·rw[dif_pos h1,hks,sb5 c180L0.eq_def]
   simp(disch:=first|omega|fail) only[push_cast,seval,vrl,if_pos,if_neg,e1]
  ·rw[dif_neg h1]
   cases n with
   |zero=>omega
   |succ n=>
    have e2:(first:Int)+(c:Int)=((first+c:Nat):Int):=by omega
    have e3:((first+c:Nat):Int)+1=((first+c+1:Nat):Int):=by omega
    have e5:(first:Int)+(root:Int)=((first+root:Nat):Int):=by omega
    have e6:(first:Int)+((c+1:Nat):Int)=((first+(c+1):Nat):Int):=by omega
    have l1:=vz2 (d:=d) (i:=first+c) (by omega)
    have l3:=vz2 (d:=d) (i:=first+root) (by omega)
    have w1:=yg4 (x:=d[first+root]!) (y:=d[first+c]!)
    by_cases h2:c+1<hi
    ·have l2:=vz2 (d:=d) (i:=first+c+1) (by omega)
     have l4:=vz2 (d:=d) (i:=first+(c+1)) (by omega)
     have w2:=yg4 (x:=d[first+c]!) (y:=d[first+c+1]!)
     have w3:=yg4 (x:=d[first+root]!) (y:=d[first+(c+1)]!)
     have hc2:2*root+2=c+1:=by omega
     simp only[hc2]
     cases b2:Sort.ltInt d[first+c]! d[first+c+1]! with
     |true=>
      rw[b2]at w2
      rw[if_pos (by simpa using h2)]
      cases b3:Sort.ltInt d[first+root]! d[first+(c+1)]! with
      |true=>
       rw[b3]at w3
       have ih:=s07 (hi:=hi) (first:=first) n (c+1) (Sort.swp d (first+root) (first+(c+1))) (by omega) (by rw[Sort.size_swp];exact hs) (by rw[Sort.size_swp];exact hd) (by omega) ks hks
       rw[←va8]at ih
       rw[if_neg (by decide),dif_pos h2,←ih,sb5 c180L0.eq_def]
       generalize first+c+1=f1 at*
       generalize first+(c+1)=f2 at*
       generalize first+c=f3 at*
       generalize first+root=f4 at*
       generalize c+1=c1 at*
       simp(disch:=first|omega|fail) only[push_cast,seval,vrl,if_pos,if_neg,e1,e2,e3,e4,e5,e6,l1,l2,l3,l4,w2,w3,hlen]
      |false=>
       rw[b3]at w3
       rw[if_pos (by decide),hks,sb5 c180L0.eq_def]
       generalize first+c+1=f1 at*
       generalize first+(c+1)=f2 at*
       generalize first+c=f3 at*
       generalize first+root=f4 at*
       generalize c+1=c1 at*
       simp(disch:=first|omega|fail) only[push_cast,seval,vrl,if_pos,if_neg,e1,e2,e3,e4,e5,e6,l1,l2,l3,l4,w2,w3,hlen]
     |false=>
      rw[b2]at w2
      rw[if_neg (by simp)]
      cases b3:Sort.ltInt d[first+root]! d[first+c]! with
      |true=>
       rw[b3]at w1
       have ih:=s07 (hi:=hi) (first:=first) n c (Sort.swp d (first+root) (first+c)) (by omega) (by rw[Sort.size_swp];exact hs) (by rw[Sort.size_swp];exact hd) (by omega) ks hks
       rw[←va8]at ih
       rw[if_neg (by decide),←ih,sb5 c180L0.eq_def]
       generalize first+c+1=f1 at*
       generalize first+c=f3 at*
       generalize first+root=f4 at*
       generalize c+1=c1 at*
       simp(disch:=first|omega|fail) only[push_cast,seval,vrl,if_pos,if_neg,e1,e2,e3,e4,e5,l1,l2,l3,w1,w2,hlen]
      |false=>
       rw[b3]at w1
       rw[if_pos (by decide),hks,sb5 c180L0.eq_def]
       generalize first+c+1=f1 at*
       generalize first+c=f3 at*
       generalize first+root=f4 at*
       generalize c+1=c1 at*
       simp(disch:=first|omega|fail) only[push_cast,seval,vrl,if_pos,if_neg,e1,e2,e3,e4,e5,l1,l2,l3,w1,w2,hlen]
    ·rw[if_neg (by simp;omega)]
     cases b3:Sort.ltInt d[first+root]! d[first+c]! with
     |true=>
      rw[b3]at w1
      have ih:=s07 (hi:=hi) (first:=first) n c (Sort.swp d (first+root) (first+c)) (by omega) (by rw[Sort.size_swp];exact hs) (by rw[Sort.size_swp];exact hd) (by omega) ks hks
      rw[←va8]at ih
      rw[if_neg (by decide),←ih,sb5 c180L0.eq_def]
      generalize first+c=f3 at*
      generalize first+root=f4 at*
      generalize c+1=c1 at*
      simp(disch:=first|omega|fail) only[push_cast,seval,vrl,if_pos,if_neg,e1,e2,e4,e5,l1,l3,w1,hlen]
     |false=>
      rw[b3]at w1
      rw[if_pos (by decide),hks,sb5 c180L0.eq_def]
      generalize first+c=f3 at*
      generalize first+root=f4 at*
      generalize c+1=c1 at*
      simp(disch:=first|omega|fail) only[push_cast,seval,vrl,if_pos,if_neg,e1,e2,e4,e5,l1,l3,w1,hlen]
theorem sf8{lo hi first:Nat}{d:Array Int}(hs:first+hi≤d.size)(hd:d.size≤100000)(hr:lo≤100000):
 o25 W 180 [.own 0 [], .x (.int .i64 lo), .x (.int .i64 hi), .x (.int .i64 first)] [.sl nl 3 1 (ivs d.toList)]=some (.tup [],[],[.sl nl 3 1 (ivs (Sort.siftDown Sort.ltInt hi first lo d).toList)]):=by
 have e:=fun ks h=>s07 (nl:=nl) (hi:=hi) (first:=first) (hi-lo) lo d (jj6 _) hs hd hr ks h
 rw[o10 rfl T180 rfl]
 unfold F180 c180
 simp(disch:=first|omega|fail) only[push_cast,seval,vrl,if_pos,if_neg]
 rw[e _ rfl]
theorem lm0{a b hi first lo:Nat}: ∀(k:Nat) (d:Array Int),k≤hi→first+hi≤d.size→d.size≤100000→ ∀ks,
 vgoL W ⟨hNo,[],1⟩ [0,6,7,8,9] c149L0 (.blk 0 [0,6,7,8]::ks) [(0, .own 0 []),(6, .x (.int .i64 first)),(7, .x (.int .i64 lo)),(8, .x (.int .i64 hi)),(9, .x (.int .i64 ((k:Int)-1)))] [.sl nl 3 1 (ivs d.toList)]=
  vgo W ⟨hNo,[],1⟩ ks (VFr.of [(0, .own 0 []),(6, .x (.int .i64 first)),(7, .x (.int .i64 lo)),(8, .x (.int .i64 hi))]) [.sl nl 3 1 (ivs (Sort.heapBuild Sort.ltInt hi first k d).toList)]
 |0,d,hk,hs,hd,ks=>by
  rw[Sort.heapBuild,sb5 c149L0.eq_def]
  simp(disch:=first|omega|fail) only[push_cast,seval,vrl,if_pos,if_neg]
 |k+1,d,hk,hs,hd,ks=>by
  have e1:=sf8 (nl:=nl) (lo:=k) (hi:=hi) (first:=first) (d:=d) hs hd (by omega)
  have hsz:=xa4 Sort.ltInt hi first (hi-k) k d (jj6 _)
  have ih:=lm0 (a:=a) (b:=b) (hi:=hi) (first:=first) (lo:=lo) k (Sort.siftDown Sort.ltInt hi first k d) (by omega) (by rw[hsz];exact hs) (by rw[hsz];exact hd) ks
  have e0:((k+1:Nat):Int)-1=(k:Int):=by omega
  rw[Sort.heapBuild,←ih,e0,sb5 c149L0.eq_def]
  simp(disch:=first|omega|fail) only[push_cast,seval,vrl,if_pos,if_neg,e1]
theorem u81{first:Nat}: ∀(k:Nat) (d:Array Int),first+k≤d.size→d.size≤100000→ ∀ks,
 vgoL W ⟨hNo,[],1⟩ [0,6,7,10] c149L1 (.blk 2 []::ks) [(0, .own 0 []),(6, .x (.int .i64 first)),(7, .x (.int .i64 0)),(10, .x (.int .i64 ((k:Int)-1)))] [.sl nl 3 1 (ivs d.toList)]=
  vgo W ⟨hNo,[],1⟩ ks (VFr.of []) [.sl nl 3 1 (ivs (Sort.heapPop Sort.ltInt first k d).toList)]
 |0,d,hs,hd,ks=>by
  rw[Sort.heapPop,sb5 c149L1.eq_def]
  simp(disch:=first|omega|fail) only[push_cast,seval,vrl,if_pos,if_neg]
 |k+1,d,hs,hd,ks=>by
  have hsw:=Sort.size_swp d first (first+k)
  have e1:=sf8 (nl:=nl) (lo:=0) (hi:=k) (first:=first) (d:=Sort.swp d first (first+k)) (by omega) (by omega) (by omega)
  have hsz:=xa4 Sort.ltInt k first (k-0) 0 (Sort.swp d first (first+k)) (jj6 _)
  have ih:=u81 (first:=first) k (Sort.siftDown Sort.ltInt k first 0 (Sort.swp d first (first+k))) (by omega) (by omega) ks
  have e0:((k+1:Nat):Int)-1=(k:Int):=by omega
  have e2:(first:Int)+(k:Int)=((first+k:Nat):Int):=by omega
  have l1:=vz2 (d:=d) (i:=first) (by omega)
  have l2:=vz2 (d:=d) (i:=first+k) (by omega)
  have hlen:=wr6 d
  rw[vx9]at e1
  rw[←va8]at e1
  rw[Sort.heapPop,←ih,e0,sb5 c149L1.eq_def]
  generalize first+k=f1 at*
  simp(disch:=first|omega|fail) only[push_cast,seval,vrl,if_pos,if_neg,e1,e2,l1,l2,hlen]
theorem n42{α:Type} [Inhabited α](lt:α→α→Bool)(hi first:Nat): ∀(k:Nat) (d:Array α),(Sort.heapBuild lt hi first k d).size=d.size
 |0,d=>rfl
 |k+1,d=>by rw[Sort.heapBuild,n42 lt hi first k,xa4 lt hi first _ _ _ (jj6 _)]
theorem og6{a b:Nat}{d:Array Int}(hab:a<b)(hb:b≤d.size)(hd:d.size≤100000):
 o25 W 149 [.own 0 [], .x (.int .i64 a), .x (.int .i64 b)] [.sl nl 3 1 (ivs d.toList)]=some (.tup [],[],[.sl nl 3 1 (ivs (Sort.heapSort Sort.ltInt d a b).toList)]):=by
 obtain⟨n,hn⟩: ∃n,n=b-a:=⟨_,rfl⟩
 have e1:(b:Int)-(a:Int)=(n:Int):=by omega
 have e2:((n:Int)-1).tdiv 2=(((n-1)/2+1:Nat):Int)-1:=by rw[zj0 (by omega)];omega
 have e3:=fun ks=>lm0 (nl:=nl) (a:=a) (b:=b) (hi:=n) (first:=a) (lo:=0) ((n-1)/2+1) d (by omega) (by omega) hd ks
 have hsz:=n42 Sort.ltInt n a ((n-1)/2+1) d
 have e4:=fun ks=>u81 (nl:=nl) (first:=a) n (Sort.heapBuild Sort.ltInt n a ((n-1)/2+1) d) (by omega) (by omega) ks
 simp only[vx9]at e3
 unfold Sort.heapSort
 rw[←hn]
 have hz:0≤(((n-1)/2+1:Nat):Int)-1∧(((n-1)/2+1:Nat):Int)-1≤100000:=by omega
 generalize (((n-1)/2+1:Nat):Int)-1=z at*
 rw[o10 rfl T149 rfl]
 unfold F149 c149
 simp(disch:=first|omega|fail) only[push_cast,seval,vrl,if_pos,if_neg,e1,e2]
 rw[e3]
 simp(disch:=first|omega|fail) only[push_cast,seval,vrl,if_pos,if_neg]
 rw[e4]
 simp(disch:=first|omega|fail) only[push_cast,seval,vrl,if_pos,if_neg]
theorem y21: ∀(n i j:Nat) (d:Array Int),j-i≤n→j<d.size→d.size≤100000→i≤100000→ ∀ks,
 vgoL W ⟨hNo,[],1⟩ [0,6,7] c152L0 (.blk 0 []::ks) [(0, .own 0 []),(6, .x (.int .i64 i)),(7, .x (.int .i64 j))] [.sl nl 3 1 (ivs d.toList)]=
  vgo W ⟨hNo,[],1⟩ ks (VFr.of []) [.sl nl 3 1 (ivs (Sort.reverseLoop i j d).toList)]
 |n,i,j,d,hn,hj,hd,hi,ks=>by
  rw[Sort.reverseLoop]
  by_cases h:i<j
  ·cases n with
   |zero=>omega
   |succ n=>
    obtain⟨j,rfl⟩: ∃j',j=j'+1:=⟨j-1,by omega⟩
    have hsz:=Sort.size_swp d i (j+1)
    have ih:=y21 n (i+1) j (Sort.swp d i (j+1)) (by omega) (by omega) (by omega) (by omega) ks
    rw[←va8,e96,g71]at ih
    have l1:=vz2 (d:=d) (i:=i) (by omega)
    have l2:=vz2 (d:=d) (i:=j+1) hj
    have hlen:=wr6 d
    have e0:((j+1:Nat):Int)-1=(j:Int):=by omega
    rw[if_pos h,show j+1-1=j by omega,←ih,sb5 c152L0.eq_def]
    generalize j+1=j1 at*
    simp(disch:=first|omega|fail) only[push_cast,seval,vrl,if_pos,if_neg,e0,l1,l2,hlen]
  ·rw[if_neg h,sb5 c152L0.eq_def]
   simp(disch:=first|omega|fail) only[push_cast,seval,vrl,if_pos,if_neg]
theorem x14{a b:Nat}{d:Array Int}(hab:a<b)(hb:b≤d.size)(hd:d.size≤100000):
 o25 W 152 [.own 0 [], .x (.int .i64 a), .x (.int .i64 b)] [.sl nl 3 1 (ivs d.toList)]=some (.tup [],[],[.sl nl 3 1 (ivs (Sort.reverseRange d a b).toList)]):=by
 have e:=fun ks=>y21 (nl:=nl) (b-1-a) a (b-1) d (by omega) (by omega) hd (by omega) ks
 have e0:(b:Int)-1=((b-1:Nat):Int):=by omega
 unfold Sort.reverseRange
 generalize b-1=b1 at*
 rw[o10 rfl T152 rfl]
 unfold F152 c152
 simp(disch:=first|omega|fail) only[push_cast,seval,vrl,if_pos,if_neg,e0]
 rw[e]
 simp(disch:=first|omega|fail) only[push_cast,seval,vrl,if_pos,if_neg]
end
section
variable {bb:Bool} {nl e:Nat} {d:Array Int}
theorem km5{a b s:Nat}(ha:a<d.size)(hb:b<d.size)(hd:d.size≤100000)(hs:s≤1000):
 o25 W 194 [.fz bb (.sl nl 0 1 (ivs d.toList)), .x (.int .i64 a), .x (.int .i64 b), .own 0 []] [.pt e [.v (.int .i64 s)]]=
  some (.tup [.x (.int .i64 (Sort.order2 Sort.ltInt d a b s).1), .x (.int .i64 (Sort.order2 Sort.ltInt d a b s).2.1)],[],[.pt e [.v (.int .i64 (Sort.order2 Sort.ltInt d a b s).2.2)]]):=by
 have l1:=vz2 (d:=d) (i:=a) ha
 have l2:=vz2 (d:=d) (i:=b) hb
 have hlen:=wr6 d
 have w:=yg4 (x:=d[b]!) (y:=d[a]!)
 unfold Sort.order2
 rw[o10 rfl T194 rfl]
 unfold F194 c194
 cases hl:Sort.ltInt d[b]! d[a]! with
 |true=>
  rw[hl]at w
  rw[if_pos rfl,e96,g71]
  simp(disch:=first|omega|fail) only[push_cast,seval,vrl,if_pos,if_neg,l1,l2,w,hlen]
 |false=>
  rw[hl]at w
  rw[if_neg (by decide)]
  simp(disch:=first|omega|fail) only[push_cast,seval,vrl,if_pos,if_neg,l1,l2,w,hlen]
theorem gc9{α:Type} [Inhabited α](lt:α→α→Bool)(d:Array α){a b s n:Nat}(ha:a<n)(hb:b<n):(Sort.order2 lt d a b s).1<n∧(Sort.order2 lt d a b s).2.1<n∧(Sort.order2 lt d a b s).2.2≤s+1:=by
 unfold Sort.order2
 split
 ·exact⟨hb,ha,by simp⟩
 ·exact⟨ha,hb,by simp⟩
theorem uo9{a b c s:Nat}(ha:a<d.size)(hb:b<d.size)(hc:c<d.size)(hd:d.size≤100000)(hs:s≤100):
 o25 W 184 [.fz bb (.sl nl 0 1 (ivs d.toList)), .x (.int .i64 a), .x (.int .i64 b), .x (.int .i64 c), .own 0 []] [.pt e [.v (.int .i64 s)]]=
  some (.x (.int .i64 (Sort.median Sort.ltInt d a b c s).1),[],[.pt e [.v (.int .i64 (Sort.median Sort.ltInt d a b c s).2)]]):=by
 have w1:=km5 (bb:=bb) (nl:=nl) (e:=e) (s:=s) ha hb hd (by omega)
 obtain⟨i1,i2,i3⟩:=gc9 Sort.ltInt d (s:=s) ha hb
 unfold Sort.median
 simp only[]
 generalize Sort.order2 Sort.ltInt d a b s=r1 at*
 have w2:=km5 (bb:=bb) (nl:=nl) (e:=e) (s:=r1.2.2) i2 hc hd (by omega)
 obtain⟨j1,j2,j3⟩:=gc9 Sort.ltInt d (s:=r1.2.2) i2 hc
 generalize Sort.order2 Sort.ltInt d r1.2.1 c r1.2.2=r2 at*
 have w3:=km5 (bb:=bb) (nl:=nl) (e:=e) (s:=r2.2.2) i1 j1 hd (by omega)
 generalize Sort.order2 Sort.ltInt d r1.1 r2.1 r2.2.2=r3 at*
 rw[o10 rfl T184 rfl]
 unfold F184 c184
 simp(disch:=first|omega|fail) only[push_cast,seval,vrl,if_pos,if_neg,w1,w2,w3]
theorem f61{a s:Nat}(h0:1≤a)(ha:a+1<d.size)(hd:d.size≤100000)(hs:s≤100):
 o25 W 183 [.fz bb (.sl nl 0 1 (ivs d.toList)), .x (.int .i64 a), .own 0 []] [.pt e [.v (.int .i64 s)]]=
  some (.x (.int .i64 (Sort.medianAdjacent Sort.ltInt d a s).1),[],[.pt e [.v (.int .i64 (Sort.medianAdjacent Sort.ltInt d a s).2)]]):=by
 have w1:=uo9 (bb:=bb) (nl:=nl) (e:=e) (a:=a-1) (b:=a) (c:=a+1) (s:=s) (by omega) (by omega) ha hd hs
 have e0:(a:Int)-1=((a-1:Nat):Int):=by omega
 have e1:(a:Int)+1=((a+1:Nat):Int):=by omega
 unfold Sort.medianAdjacent
 generalize a-1=a1 at*
 generalize a+1=a2 at*
 rw[o10 rfl T183 rfl]
 unfold F183 c183
 simp(disch:=first|omega|fail) only[push_cast,seval,vrl,if_pos,if_neg,e0,e1,w1]
end
section
variable {nl:Nat}
theorem c61{a:Nat}{d:Array Int}(ha:a<d.size)(hd:d.size≤100000){j:Nat}(hj:j<d.size): ∀(n i:Nat),j+1-i≤n→i≤100000→ ∀ks,
 vgoL W ⟨hNo,[.tmp 8, .tmp 9],1⟩ [0,1,10,11] c156L0 (.blk 0 [0,1,10,11]::ks) [(0, .own 0 []),(1, .x (.int .i64 a)),(10, .x (.int .i64 i)),(11, .x (.int .i64 j))] [.sl nl 3 1 (ivs d.toList)]=
  vgo W ⟨hNo,[.tmp 8, .tmp 9],1⟩ ks (VFr.of [(0, .own 0 []),(1, .x (.int .i64 a)),(10, .x (.int .i64 (Sort.scanUp (fun x=>Sort.ltInt x d[a]!) d j i))),(11, .x (.int .i64 j))]) [.sl nl 3 1 (ivs d.toList)]
 |n,i,hn,hi,ks=>by
  have hlen:=wr6 d
  have l0:=vz2 (d:=d) (i:=a) ha
  rw[Sort.scanUp]
  by_cases h:i≤j
  ·have l1:=vz2 (d:=d) (i:=i) (by omega)
   have w:=yg4 (x:=d[i]!) (y:=d[a]!)
   cases hl:Sort.ltInt d[i]! d[a]! with
   |true=>
    rw[hl]at w
    cases n with
    |zero=>omega
    |succ n=>
     have ih:=c61 ha hd hj n (i+1) (by omega) (by omega) ks
     rw[e96 i,g71]at ih
     rw[if_pos (by simpa using h),←ih,sb5 c156L0.eq_def]
     simp(disch:=first|omega|fail) only[push_cast,seval,vrl,if_pos,if_neg,l0,l1,w,hlen]
   |false=>
    rw[hl]at w
    rw[if_neg (by simp),sb5 c156L0.eq_def]
    simp(disch:=first|omega|fail) only[push_cast,seval,vrl,if_pos,if_neg,l0,l1,w,hlen]
  ·rw[if_neg (by simp;omega),sb5 c156L0.eq_def]
   simp(disch:=first|omega|fail) only[push_cast,seval,vrl,if_pos,if_neg]
theorem hy4{a i:Nat}{d:Array Int}(ha:a<d.size)(hd:d.size≤100000)(hi:1≤i)(hi2:i≤100000): ∀(j:Nat),j<d.size→ ∀ks,
 vgoL W ⟨hNo,[.tmp 8, .tmp 9],1⟩ [0,1,10,11] c156L1 (.blk 2 [0,1,10,11]::ks) [(0, .own 0 []),(1, .x (.int .i64 a)),(10, .x (.int .i64 i)),(11, .x (.int .i64 j))] [.sl nl 3 1 (ivs d.toList)]=
  vgo W ⟨hNo,[.tmp 8, .tmp 9],1⟩ ks (VFr.of [(0, .own 0 []),(1, .x (.int .i64 a)),(10, .x (.int .i64 i)),(11, .x (.int .i64 (Sort.scanDown (fun x=> !Sort.ltInt x d[a]!) d i j)))]) [.sl nl 3 1 (ivs d.toList)]
 |0,hj,ks=>by
  rw[Sort.scanDown,sb5 c156L1.eq_def]
  simp(disch:=first|omega|fail) only[push_cast,seval,vrl,if_pos,if_neg]
 |j+1,hj,ks=>by
  have hlen:=wr6 d
  have l0:=vz2 (d:=d) (i:=a) ha
  rw[Sort.scanDown]
  by_cases h:i≤j+1
  ·have l1:=vz2 (d:=d) (i:=j+1) hj
   have w:=yg4 (x:=d[j+1]!) (y:=d[a]!)
   cases hl:Sort.ltInt d[j+1]! d[a]! with
   |false=>
    rw[hl]at w
    have ih:=hy4 ha hd hi hi2 j (by omega) ks
    have e0:((j+1:Nat):Int)-1=(j:Int):=by omega
    rw[if_pos (by simpa using h),←ih,sb5 c156L1.eq_def]
    generalize j+1=j1 at*
    simp(disch:=first|omega|fail) only[push_cast,seval,vrl,if_pos,if_neg,e0,l0,l1,w,hlen]
   |true=>
    rw[hl]at w
    rw[if_neg (by simp),sb5 c156L1.eq_def]
    generalize j+1=j1 at*
    simp(disch:=first|omega|fail) only[push_cast,seval,vrl,if_pos,if_neg,l0,l1,w,hlen]
  ·rw[if_neg (by simp;omega),sb5 c156L1.eq_def]
   simp(disch:=first|omega|fail) only[push_cast,seval,vrl,if_pos,if_neg]
theorem di6{a:Nat}{d:Array Int}(ha:a<d.size)(hd:d.size≤100000){j:Nat}(hj:j<d.size): ∀(n i:Nat),j+1-i≤n→i≤100000→ ∀ks,
 vgoL W ⟨hNo,[.tmp 8, .tmp 9],1⟩ [0,1,10,11] c156L2 (.blk 6 [0,1,10,11]::ks) [(0, .own 0 []),(1, .x (.int .i64 a)),(10, .x (.int .i64 i)),(11, .x (.int .i64 j))] [.sl nl 3 1 (ivs d.toList)]=
  vgo W ⟨hNo,[.tmp 8, .tmp 9],1⟩ ks (VFr.of [(0, .own 0 []),(1, .x (.int .i64 a)),(10, .x (.int .i64 (Sort.scanUp (fun x=>Sort.ltInt x d[a]!) d j i))),(11, .x (.int .i64 j))]) [.sl nl 3 1 (ivs d.toList)]
 |n,i,hn,hi,ks=>by
  have hlen:=wr6 d
  have l0:=vz2 (d:=d) (i:=a) ha
  rw[Sort.scanUp]
  by_cases h:i≤j
  ·have l1:=vz2 (d:=d) (i:=i) (by omega)
   have w:=yg4 (x:=d[i]!) (y:=d[a]!)
   cases hl:Sort.ltInt d[i]! d[a]! with
   |true=>
    rw[hl]at w
    cases n with
    |zero=>omega
    |succ n=>
     have ih:=di6 ha hd hj n (i+1) (by omega) (by omega) ks
     rw[e96 i,g71]at ih
     rw[if_pos (by simpa using h),←ih,sb5 c156L2.eq_def]
     simp(disch:=first|omega|fail) only[push_cast,seval,vrl,if_pos,if_neg,l0,l1,w,hlen]
   |false=>
    rw[hl]at w
    rw[if_neg (by simp),sb5 c156L2.eq_def]
    simp(disch:=first|omega|fail) only[push_cast,seval,vrl,if_pos,if_neg,l0,l1,w,hlen]
  ·rw[if_neg (by simp;omega),sb5 c156L2.eq_def]
   simp(disch:=first|omega|fail) only[push_cast,seval,vrl,if_pos,if_neg]
theorem az5{a i:Nat}{d:Array Int}(ha:a<d.size)(hd:d.size≤100000)(hi:1≤i)(hi2:i≤100000): ∀(j:Nat),j<d.size→ ∀ks,
 vgoL W ⟨hNo,[.tmp 8, .tmp 9],1⟩ [0,1,10,11] c156L3 (.blk 8 [0,1,10,11]::ks) [(0, .own 0 []),(1, .x (.int .i64 a)),(10, .x (.int .i64 i)),(11, .x (.int .i64 j))] [.sl nl 3 1 (ivs d.toList)]=
  vgo W ⟨hNo,[.tmp 8, .tmp 9],1⟩ ks (VFr.of [(0, .own 0 []),(1, .x (.int .i64 a)),(10, .x (.int .i64 i)),(11, .x (.int .i64 (Sort.scanDown (fun x=> !Sort.ltInt x d[a]!) d i j)))]) [.sl nl 3 1 (ivs d.toList)]
 |0,hj,ks=>by
  rw[Sort.scanDown,sb5 c156L3.eq_def]
  simp(disch:=first|omega|fail) only[push_cast,seval,vrl,if_pos,if_neg]
 |j+1,hj,ks=>by
  have hlen:=wr6 d
  have l0:=vz2 (d:=d) (i:=a) ha
  rw[Sort.scanDown]
  by_cases h:i≤j+1
  ·have l1:=vz2 (d:=d) (i:=j+1) hj
   have w:=yg4 (x:=d[j+1]!) (y:=d[a]!)
   cases hl:Sort.ltInt d[j+1]! d[a]! with
   |false=>
    rw[hl]at w
    have ih:=az5 ha hd hi hi2 j (by omega) ks
    have e0:((j+1:Nat):Int)-1=(j:Int):=by omega
    rw[if_pos (by simpa using h),←ih,sb5 c156L3.eq_def]
    generalize j+1=j1 at*
    simp(disch:=first|omega|fail) only[push_cast,seval,vrl,if_pos,if_neg,e0,l0,l1,w,hlen]
   |true=>
    rw[hl]at w
    rw[if_neg (by simp),sb5 c156L3.eq_def]
    generalize j+1=j1 at*
    simp(disch:=first|omega|fail) only[push_cast,seval,vrl,if_pos,if_neg,l0,l1,w,hlen]
  ·rw[if_neg (by simp;omega),sb5 c156L3.eq_def]
   simp(disch:=first|omega|fail) only[push_cast,seval,vrl,if_pos,if_neg]
theorem zs6{α:Type} [Inhabited α](p:α→Bool)(d:Array α)(j i:Nat)(h:i≤j+1):Sort.scanUp p d j i≤j+1:=(Sort.scanUp_spec p d j _ i rfl).2.1 h
theorem es0{α:Type} [Inhabited α]{p q:α→Bool}(hq: ∀x,q x= !p x)(d:Array α){i j:Nat}(hi:1≤i)(h: ¬Sort.scanUp p d j i>Sort.scanDown q d (Sort.scanUp p d j i) j):Sort.scanUp p d j i<Sort.scanDown q d (Sort.scanUp p d j i) j:=by
 obtain⟨u1,u2,u3,u4⟩:=Sort.scanUp_spec p d j _ i rfl
 obtain⟨v1,v2,v3,v4⟩:=Sort.scanDown_spec q d (Sort.scanUp p d j i) j
 have f1:=u4 (by omega)
 have f2:=v4 (by omega) (by omega)
 rw[hq]at f2
 rcases nh9 (Sort.scanUp p d j i) (Sort.scanDown q d (Sort.scanUp p d j i) j)with h'|h'
 ·exact h'
 ·have e:Sort.scanUp p d j i=Sort.scanDown q d (Sort.scanUp p d j i) j:=by omega
  rw[←e,f1]at f2
  cases f2
theorem xe3{a:Nat}: ∀(n i j:Nat) (d:Array Int),j+1-i≤n→a<i→i≤j+1→j<d.size→d.size≤90000→ ∀ks,
 vgoL W ⟨hNo,[.tmp 8, .tmp 9],1⟩ [0,1,10,11] c156L4 (.blk 4 [0,1,11]::ks) [(0, .own 0 []),(1, .x (.int .i64 a)),(10, .x (.int .i64 i)),(11, .x (.int .i64 j))] [.sl nl 3 1 (ivs d.toList)]=
  vgo W ⟨hNo,[.tmp 8, .tmp 9],1⟩ ks (VFr.of [(0, .own 0 []),(1, .x (.int .i64 a)),(11, .x (.int .i64 ((Sort.partLoop Sort.ltInt a i j d).1)))]) [.sl nl 3 1 (ivs (Sort.partLoop Sort.ltInt a i j d).2.toList)]
 |n,i,j,d,hn,ha,hij,hj,hd,ks=>by
  have e1:=fun ks=>di6 (nl:=nl) (a:=a) (d:=d) (by omega) (by omega) hj (j+1-i) i (jj6 _) (by omega) ks
  have g1:=Sort.scanUp_ge (fun x=>Sort.ltInt x d[a]!) d j i
  have g2:=zs6 (fun x=>Sort.ltInt x d[a]!) d j i hij
  have g4:=es0 (p:=fun x=>Sort.ltInt x d[a]!) (q:=fun x=> !Sort.ltInt x d[a]!) (fun _=>rfl) d (i:=i) (j:=j) (by omega)
  rw[Sort.partLoop_eq]
  generalize Sort.scanUp (fun x=>Sort.ltInt x d[a]!) d j i=i2 at*
  have e2:=fun ks=>az5 (nl:=nl) (a:=a) (i:=i2) (d:=d) (by omega) (by omega) (by omega) (by omega) j hj ks
  have g3:=Sort.scanDown_le (fun x=> !Sort.ltInt x d[a]!) d i2 j
  generalize Sort.scanDown (fun x=> !Sort.ltInt x d[a]!) d i2 j=j2 at*
  by_cases h:i2>j2
  ·rw[if_pos h,sb5 c156L4.eq_def]
   simp(disch:=first|omega|fail) only[push_cast,seval,vrl,if_pos,if_neg]
   rw[e1]
   simp(disch:=first|omega|fail) only[push_cast,seval,vrl,if_pos,if_neg]
   rw[e2]
   simp(disch:=first|omega|fail) only[push_cast,seval,vrl,if_pos,if_neg]
  ·have g5:=g4 h
   rw[if_neg h]
   cases n with
   |zero=>omega
   |succ n=>
    have hsz:=Sort.size_swp d i2 j2
    have ih:=xe3 (a:=a) n (i2+1) (j2-1) (Sort.swp d i2 j2) (by omega) (by omega) (by omega) (by omega) (by omega) ks
    rw[e96 i2,g71]at ih
    rw[←ih,←va8,sb5 c156L4.eq_def]
    have l1:=vz2 (d:=d) (i:=i2) (by omega)
    have l2:=vz2 (d:=d) (i:=j2) (by omega)
    have hlen:=wr6 d
    have e0:(j2:Int)-1=((j2-1:Nat):Int):=by omega
    generalize j2-1=j3 at*
    simp(disch:=first|omega|fail) only[push_cast,seval,vrl,if_pos,if_neg]
    rw[e1]
    simp(disch:=first|omega|fail) only[push_cast,seval,vrl,if_pos,if_neg]
    rw[e2]
    simp(disch:=first|omega|fail) only[push_cast,seval,vrl,if_pos,if_neg,l1,l2,hlen,e0]
theorem tm0(a:Nat): ∀(n i j:Nat) (d:Array Int),j+1-i≤n→(Sort.partLoop Sort.ltInt a i j d).1≤j∧(Sort.partLoop Sort.ltInt a i j d).2.size=d.size
 |n,i,j,d,hn=>by
  have g1:=Sort.scanUp_ge (fun x=>Sort.ltInt x d[a]!) d j i
  rw[Sort.partLoop_eq]
  generalize Sort.scanUp (fun x=>Sort.ltInt x d[a]!) d j i=i2 at*
  have g3:=Sort.scanDown_le (fun x=> !Sort.ltInt x d[a]!) d i2 j
  generalize Sort.scanDown (fun x=> !Sort.ltInt x d[a]!) d i2 j=j2 at*
  by_cases h:i2>j2
  ·rw[if_pos h];exact⟨g3,rfl⟩
  ·rw[if_neg h]
   cases n with
   |zero=>omega
   |succ n=>
    obtain⟨h1,h2⟩:=tm0 a n (i2+1) (j2-1) (Sort.swp d i2 j2) (by omega)
    rw[Sort.size_swp]at h2
    exact⟨by omega,h2⟩
theorem n92{a b p:Nat}{d:Array Int}(hab:a+1<b)(hp:p<d.size)(hb:b≤d.size)(hd:d.size≤90000):
 o25 W 156 [.own 0 [], .x (.int .i64 a), .x (.int .i64 b), .x (.int .i64 p)] [.sl nl 3 1 (ivs d.toList)]=
  some (.tup [.x (.int .i64 (Sort.partition Sort.ltInt d a b p).1), .x (.bool (Sort.partition Sort.ltInt d a b p).2.1)],[],[.sl nl 3 1 (ivs (Sort.partition Sort.ltInt d a b p).2.2.toList)]):=by
 have l1:=vz2 (d:=d) (i:=a) (by omega)
 have l2:=vz2 (d:=d) (i:=p) hp
 have hlen:=wr6 d
 have hsw:=va8 d a p
 have hsz:=Sort.size_swp d a p
 obtain⟨B,hB⟩: ∃B,B=b-1:=⟨_,rfl⟩
 obtain⟨A,hA⟩: ∃A,A=a+1:=⟨_,rfl⟩
 have hb1:(b:Int)-1=(B:Int):=by omega
 have ha1:(a:Int)+1=(A:Int):=by omega
 unfold Sort.partition
 simp only[]
 rw[←hB,←hA,o10 rfl T156 rfl]
 unfold F156 c156
 simp(disch:=first|omega|fail) only[push_cast,seval,vrl,if_pos,if_neg,l1,l2,hlen,ha1,hb1]
 rw[hsw]
 generalize Sort.swp d a p=d1 at*
 have e1:=fun ks=>c61 (nl:=nl) (a:=a) (d:=d1) (by omega) (by omega) (j:=B) (by omega) (B+1-A) A (jj6 _) (by omega) ks
 rw[e1]
 have g1:=Sort.scanUp_ge (fun x=>Sort.ltInt x d1[a]!) d1 B A
 have g2:=zs6 (fun x=>Sort.ltInt x d1[a]!) d1 B A (by omega)
 have g4:=es0 (p:=fun x=>Sort.ltInt x d1[a]!) (q:=fun x=> !Sort.ltInt x d1[a]!) (fun _=>rfl) d1 (i:=A) (j:=B) (by omega)
 generalize Sort.scanUp (fun x=>Sort.ltInt x d1[a]!) d1 B A=i2 at*
 simp(disch:=first|omega|fail) only[push_cast,seval,vrl,if_pos,if_neg]
 have e2:=fun ks=>hy4 (nl:=nl) (a:=a) (i:=i2) (d:=d1) (by omega) (by omega) (by omega) (by omega) B (by omega) ks
 rw[e2]
 have g3:=Sort.scanDown_le (fun x=> !Sort.ltInt x d1[a]!) d1 i2 B
 generalize Sort.scanDown (fun x=> !Sort.ltInt x d1[a]!) d1 i2 B=j2 at*
 have k1:=vz2 (d:=d1) (i:=a) (by omega)
 have k2:=vz2 (d:=d1) (i:=j2) (by omega)
 have hlen1:=wr6 d1
 by_cases h:i2>j2
 ·have hs2:=va8 d1 j2 a
  rw[if_pos h,←hs2]
  simp(disch:=first|omega|fail) only[push_cast,seval,vrl,if_pos,if_neg,k1,k2,hlen1]
 ·have g5:=g4 h
  have k3:=vz2 (d:=d1) (i:=i2) (by omega)
  have hs2:=va8 d1 i2 j2
  have hsz2:=Sort.size_swp d1 i2 j2
  rw[if_neg h]
  obtain⟨I,hI⟩: ∃I,I=i2+1:=⟨_,rfl⟩
  obtain⟨J,hJ⟩: ∃J,J=j2-1:=⟨_,rfl⟩
  have e0:(j2:Int)-1=(J:Int):=by omega
  have e9:(i2:Int)+1=(I:Int):=by omega
  rw[←hI,←hJ]
  simp(disch:=first|omega|fail) only[push_cast,seval,vrl,if_pos,if_neg,k1,k2,k3,hlen1,e0,e9]
  rw[hs2]
  generalize Sort.swp d1 i2 j2=d2 at*
  have e3:=fun ks=>xe3 (nl:=nl) (a:=a) (J+1-I) I J d2 (jj6 _) (by omega) (by omega) (by omega) (by omega) ks
  have hfs:=tm0 a (J+1-I) I J d2 (jj6 _)
  rw[e3]
  generalize Sort.partLoop Sort.ltInt a I J d2=r at*
  have m1:=vz2 (d:=r.2) (i:=a) (by omega)
  have m2:=vz2 (d:=r.2) (i:=r.1) (by omega)
  have hlen2:=wr6 r.2
  have hs3:=va8 r.2 r.1 a
  rw[←hs3]
  simp(disch:=first|omega|fail) only[push_cast,seval,vrl,if_pos,if_neg,m1,m2,hlen2]
end
section
variable {nl:Nat}
theorem ue8{a:Nat}{d:Array Int}(ha:a<d.size)(hd:d.size≤100000){j:Nat}(hj:j<d.size): ∀(n i:Nat),j+1-i≤n→i≤100000→ ∀ks,
 vgoL W ⟨hNo,[.tmp 8],1⟩ [0,1,9,10] c155L0 (.blk 2 [0,1,9,10]::ks) [(0, .own 0 []),(1, .x (.int .i64 a)),(9, .x (.int .i64 i)),(10, .x (.int .i64 j))] [.sl nl 3 1 (ivs d.toList)]=
  vgo W ⟨hNo,[.tmp 8],1⟩ ks (VFr.of [(0, .own 0 []),(1, .x (.int .i64 a)),(9, .x (.int .i64 (Sort.scanUp (fun x=> !Sort.ltInt d[a]! x) d j i))),(10, .x (.int .i64 j))]) [.sl nl 3 1 (ivs d.toList)]
 |n,i,hn,hi,ks=>by
  have hlen:=wr6 d
  have l0:=vz2 (d:=d) (i:=a) ha
  rw[Sort.scanUp]
  by_cases h:i≤j
  ·have l1:=vz2 (d:=d) (i:=i) (by omega)
   have w:=yg4 (x:=d[a]!) (y:=d[i]!)
   cases hl:Sort.ltInt d[a]! d[i]! with
   |false=>
    rw[hl]at w
    cases n with
    |zero=>omega
    |succ n=>
     have ih:=ue8 ha hd hj n (i+1) (by omega) (by omega) ks
     rw[e96 i,g71]at ih
     rw[if_pos (by simpa using h),←ih,sb5 c155L0.eq_def]
     simp(disch:=first|omega|fail) only[push_cast,seval,vrl,if_pos,if_neg,l0,l1,w,hlen]
   |true=>
    rw[hl]at w
    rw[if_neg (by simp),sb5 c155L0.eq_def]
    simp(disch:=first|omega|fail) only[push_cast,seval,vrl,if_pos,if_neg,l0,l1,w,hlen]
  ·rw[if_neg (by simp;omega),sb5 c155L0.eq_def]
   simp(disch:=first|omega|fail) only[push_cast,seval,vrl,if_pos,if_neg]
theorem ke2{a i:Nat}{d:Array Int}(ha:a<d.size)(hd:d.size≤100000)(hi:1≤i)(hi2:i≤100000): ∀(j:Nat),j<d.size→ ∀ks,
 vgoL W ⟨hNo,[.tmp 8],1⟩ [0,1,9,10] c155L1 (.blk 4 [0,1,9,10]::ks) [(0, .own 0 []),(1, .x (.int .i64 a)),(9, .x (.int .i64 i)),(10, .x (.int .i64 j))] [.sl nl 3 1 (ivs d.toList)]=
  vgo W ⟨hNo,[.tmp 8],1⟩ ks (VFr.of [(0, .own 0 []),(1, .x (.int .i64 a)),(9, .x (.int .i64 i)),(10, .x (.int .i64 (Sort.scanDown (fun x=>Sort.ltInt d[a]! x) d i j)))]) [.sl nl 3 1 (ivs d.toList)]
 |0,hj,ks=>by
  rw[Sort.scanDown,sb5 c155L1.eq_def]
  simp(disch:=first|omega|fail) only[push_cast,seval,vrl,if_pos,if_neg]
 |j+1,hj,ks=>by
  have hlen:=wr6 d
  have l0:=vz2 (d:=d) (i:=a) ha
  rw[Sort.scanDown]
  by_cases h:i≤j+1
  ·have l1:=vz2 (d:=d) (i:=j+1) hj
   have w:=yg4 (x:=d[a]!) (y:=d[j+1]!)
   cases hl:Sort.ltInt d[a]! d[j+1]! with
   |true=>
    rw[hl]at w
    have ih:=ke2 ha hd hi hi2 j (by omega) ks
    have e0:((j+1:Nat):Int)-1=(j:Int):=by omega
    rw[if_pos (by simpa using h),←ih,sb5 c155L1.eq_def]
    generalize j+1=j1 at*
    simp(disch:=first|omega|fail) only[push_cast,seval,vrl,if_pos,if_neg,e0,l0,l1,w,hlen]
   |false=>
    rw[hl]at w
    rw[if_neg (by simp),sb5 c155L1.eq_def]
    generalize j+1=j1 at*
    simp(disch:=first|omega|fail) only[push_cast,seval,vrl,if_pos,if_neg,l0,l1,w,hlen]
  ·rw[if_neg (by simp;omega),sb5 c155L1.eq_def]
   simp(disch:=first|omega|fail) only[push_cast,seval,vrl,if_pos,if_neg]
theorem vi9{a:Nat}: ∀(n i j:Nat) (d:Array Int),j+1-i≤n→a<i→i≤j+1→j<d.size→d.size≤90000→ ∀ks,
 vgoL W ⟨hNo,[.tmp 8],1⟩ [0,1,9,10] c155L2 (.blk 0 [9]::ks) [(0, .own 0 []),(1, .x (.int .i64 a)),(9, .x (.int .i64 i)),(10, .x (.int .i64 j))] [.sl nl 3 1 (ivs d.toList)]=
  vgo W ⟨hNo,[.tmp 8],1⟩ ks (VFr.of [(9, .x (.int .i64 ((Sort.partEqLoop Sort.ltInt a i j d).1)))]) [.sl nl 3 1 (ivs (Sort.partEqLoop Sort.ltInt a i j d).2.toList)]
 |n,i,j,d,hn,ha,hij,hj,hd,ks=>by
  have e1:=fun ks=>ue8 (nl:=nl) (a:=a) (d:=d) (by omega) (by omega) hj (j+1-i) i (jj6 _) (by omega) ks
  have g1:=Sort.scanUp_ge (fun x=> !Sort.ltInt d[a]! x) d j i
  have g2:=zs6 (fun x=> !Sort.ltInt d[a]! x) d j i hij
  have g4:=es0 (p:=fun x=> !Sort.ltInt d[a]! x) (q:=fun x=>Sort.ltInt d[a]! x) (fun _=>(Bool.not_not _).symm) d (i:=i) (j:=j) (by omega)
  rw[Sort.partEqLoop_eq]
  generalize Sort.scanUp (fun x=> !Sort.ltInt d[a]! x) d j i=i2 at*
  have e2:=fun ks=>ke2 (nl:=nl) (a:=a) (i:=i2) (d:=d) (by omega) (by omega) (by omega) (by omega) j hj ks
  have g3:=Sort.scanDown_le (fun x=>Sort.ltInt d[a]! x) d i2 j
  generalize Sort.scanDown (fun x=>Sort.ltInt d[a]! x) d i2 j=j2 at*
  by_cases h:i2>j2
  ·rw[if_pos h,sb5 c155L2.eq_def]
   simp(disch:=first|omega|fail) only[push_cast,seval,vrl,if_pos,if_neg]
   rw[e1]
   simp(disch:=first|omega|fail) only[push_cast,seval,vrl,if_pos,if_neg]
   rw[e2]
   simp(disch:=first|omega|fail) only[push_cast,seval,vrl,if_pos,if_neg]
  ·have g5:=g4 h
   rw[if_neg h]
   cases n with
   |zero=>omega
   |succ n=>
    have hsz:=Sort.size_swp d i2 j2
    have ih:=vi9 (a:=a) n (i2+1) (j2-1) (Sort.swp d i2 j2) (by omega) (by omega) (by omega) (by omega) (by omega) ks
    rw[e96 i2,g71]at ih
    rw[←ih,←va8,sb5 c155L2.eq_def]
    have l1:=vz2 (d:=d) (i:=i2) (by omega)
    have l2:=vz2 (d:=d) (i:=j2) (by omega)
    have hlen:=wr6 d
    have e0:(j2:Int)-1=((j2-1:Nat):Int):=by omega
    generalize j2-1=j3 at*
    simp(disch:=first|omega|fail) only[push_cast,seval,vrl,if_pos,if_neg]
    rw[e1]
    simp(disch:=first|omega|fail) only[push_cast,seval,vrl,if_pos,if_neg]
    rw[e2]
    simp(disch:=first|omega|fail) only[push_cast,seval,vrl,if_pos,if_neg,l1,l2,hlen,e0]
theorem h06{a b p:Nat}{d:Array Int}(hab:a+1<b)(hp:p<d.size)(hb:b≤d.size)(hd:d.size≤90000):
 o25 W 155 [.own 0 [], .x (.int .i64 a), .x (.int .i64 b), .x (.int .i64 p)] [.sl nl 3 1 (ivs d.toList)]=
  some (.x (.int .i64 (Sort.partitionEqual Sort.ltInt d a b p).1),[],[.sl nl 3 1 (ivs (Sort.partitionEqual Sort.ltInt d a b p).2.toList)]):=by
 have l1:=vz2 (d:=d) (i:=a) (by omega)
 have l2:=vz2 (d:=d) (i:=p) hp
 have hlen:=wr6 d
 have hsw:=va8 d a p
 have hsz:=Sort.size_swp d a p
 have hb1:(b:Int)-1=((b-1:Nat):Int):=by omega
 have ha1:(a:Int)+1=((a+1:Nat):Int):=by omega
 unfold Sort.partitionEqual
 have e:=fun ks=>vi9 (nl:=nl) (a:=a) (b-1+1-(a+1)) (a+1) (b-1) (Sort.swp d a p) (jj6 _) (by omega) (by omega) (by omega) (by omega) ks
 rw[←hsw]at e
 generalize b-1=b1 at*
 generalize a+1=a1 at*
 rw[o10 rfl T155 rfl]
 unfold F155 c155
 simp(disch:=first|omega|fail) only[push_cast,seval,vrl,if_pos,if_neg,l1,l2,hlen,ha1,hb1]
 rw[e]
 simp(disch:=first|omega|fail) only[push_cast,seval,vrl,if_pos,if_neg]
theorem f70{a b:Nat}{z8:Int}{d:Array Int}(hb:b≤d.size)(hd:d.size≤90000): ∀(n i:Nat),b-i≤n→1≤i→i≤90001→ ∀ks,
 vgoL W ⟨hNo,[.tmp 6],1⟩ [0,1,2,7,8] c153L0 (.blk 2 [0,1,2,7,8]::ks) [(0, .own 0 []),(1, .x (.int .i64 a)),(2, .x (.int .i64 b)),(7, .x (.int .i64 i)),(8, .x (.int .i64 z8))] [.sl nl 3 1 (ivs d.toList)]=
  vgo W ⟨hNo,[.tmp 6],1⟩ ks (VFr.of [(0, .own 0 []),(1, .x (.int .i64 a)),(2, .x (.int .i64 b)),(7, .x (.int .i64 (Sort.scanSorted Sort.ltInt d b i))),(8, .x (.int .i64 z8))]) [.sl nl 3 1 (ivs d.toList)]
 |n,i,hn,h1,hi,ks=>by
  have hlen:=wr6 d
  rw[Sort.scanSorted]
  by_cases h:i<b
  ·have l1:=vz2 (d:=d) (i:=i) (by omega)
   have l2:=vz2 (d:=d) (i:=i-1) (by omega)
   have e0:(i:Int)-1=((i-1:Nat):Int):=by omega
   have w:=yg4 (x:=d[i]!) (y:=d[i-1]!)
   cases hl:Sort.ltInt d[i]! d[i-1]! with
   |false=>
    rw[hl]at w
    cases n with
    |zero=>omega
    |succ n=>
     have ih:=f70 (a:=a) (z8:=z8) hb hd n (i+1) (by omega) (by omega) (by omega) ks
     rw[e96 i,g71]at ih
     rw[if_pos (by simpa using h),←ih,sb5 c153L0.eq_def]
     generalize i-1=i0 at*
     simp(disch:=first|omega|fail) only[push_cast,seval,vrl,if_pos,if_neg,e0,l1,l2,w,hlen]
   |true=>
    rw[hl]at w
    rw[if_neg (by simp),sb5 c153L0.eq_def]
    generalize i-1=i0 at*
    simp(disch:=first|omega|fail) only[push_cast,seval,vrl,if_pos,if_neg,e0,l1,l2,w,hlen]
  ·rw[if_neg (by simp;omega),sb5 c153L0.eq_def]
   simp(disch:=first|omega|fail) only[push_cast,seval,vrl,if_pos,if_neg]
theorem a99{a b i:Nat}{z8:Int}: ∀(j:Nat) (d:Array Int),j<d.size→d.size≤90000→ ∀ks,
 vgoL W ⟨hNo,[.tmp 6],1⟩ [0,1,2,7,8,9] c153L1 (.blk 4 [0,1,2,7,8]::ks) [(0, .own 0 []),(1, .x (.int .i64 a)),(2, .x (.int .i64 b)),(7, .x (.int .i64 i)),(8, .x (.int .i64 z8)),(9, .x (.int .i64 j))] [.sl nl 3 1 (ivs d.toList)]=
  vgo W ⟨hNo,[.tmp 6],1⟩ ks (VFr.of [(0, .own 0 []),(1, .x (.int .i64 a)),(2, .x (.int .i64 b)),(7, .x (.int .i64 i)),(8, .x (.int .i64 z8))]) [.sl nl 3 1 (ivs (Sort.shiftDown Sort.ltInt j d).toList)]
 |0,d,hj,hd,ks=>by
  rw[Sort.shiftDown,sb5 c153L1.eq_def]
  simp(disch:=first|omega|fail) only[push_cast,seval,vrl,if_pos,if_neg]
 |j+1,d,hj,hd,ks=>by
  have hlen:=wr6 d
  have l1:=vz2 (d:=d) (i:=j+1) hj
  have l2:=vz2 (d:=d) (i:=j) (by omega)
  have e0:((j+1:Nat):Int)-1=(j:Int):=by omega
  have w:=yg4 (x:=d[j+1]!) (y:=d[j]!)
  rw[Sort.shiftDown]
  cases hl:Sort.ltInt d[j+1]! d[j]! with
  |true=>
   rw[hl]at w
   have hsz:=Sort.size_swp d (j+1) j
   have ih:=a99 (a:=a) (b:=b) (i:=i) (z8:=z8) j (Sort.swp d (j+1) j) (by omega) (by omega) ks
   rw[←va8]at ih
   rw[if_neg (by decide),←ih,sb5 c153L1.eq_def]
   generalize j+1=j1 at*
   simp(disch:=first|omega|fail) only[push_cast,seval,vrl,if_pos,if_neg,e0,l1,l2,w,hlen]
  |false=>
   rw[hl]at w
   rw[if_pos (by decide),sb5 c153L1.eq_def]
   generalize j+1=j1 at*
   simp(disch:=first|omega|fail) only[push_cast,seval,vrl,if_pos,if_neg,e0,l1,l2,w,hlen]
theorem r72{a b i:Nat}{z8:Int}: ∀(n j:Nat) (d:Array Int),b-j≤n→1≤j→j≤90001→b≤d.size→d.size≤90000→ ∀ks,
 vgoL W ⟨hNo,[.tmp 6],1⟩ [0,1,2,7,8,10] c153L2 (.blk 6 [0,1,2,7,8]::ks) [(0, .own 0 []),(1, .x (.int .i64 a)),(2, .x (.int .i64 b)),(7, .x (.int .i64 i)),(8, .x (.int .i64 z8)),(10, .x (.int .i64 j))] [.sl nl 3 1 (ivs d.toList)]=
  vgo W ⟨hNo,[.tmp 6],1⟩ ks (VFr.of [(0, .own 0 []),(1, .x (.int .i64 a)),(2, .x (.int .i64 b)),(7, .x (.int .i64 i)),(8, .x (.int .i64 z8))]) [.sl nl 3 1 (ivs (Sort.shiftUp Sort.ltInt b j d).toList)]
 |n,j,d,hn,hj,hj2,hb,hd,ks=>by
  have hlen:=wr6 d
  rw[Sort.shiftUp]
  by_cases h:j<b
  ·have l1:=vz2 (d:=d) (i:=j) (by omega)
   have l2:=vz2 (d:=d) (i:=j-1) (by omega)
   have e0:(j:Int)-1=((j-1:Nat):Int):=by omega
   have w:=yg4 (x:=d[j]!) (y:=d[j-1]!)
   rw[if_pos h]
   cases hl:Sort.ltInt d[j]! d[j-1]! with
   |true=>
    rw[hl]at w
    cases n with
    |zero=>omega
    |succ n=>
     have hsz:=Sort.size_swp d j (j-1)
     have ih:=r72 (a:=a) (b:=b) (i:=i) (z8:=z8) n (j+1) (Sort.swp d j (j-1)) (by omega) (by omega) (by omega) (by omega) (by omega) ks
     rw[←va8,e96 j,g71]at ih
     rw[if_neg (by decide),←ih,sb5 c153L2.eq_def]
     generalize j-1=j0 at*
     simp(disch:=first|omega|fail) only[push_cast,seval,vrl,if_pos,if_neg,e0,l1,l2,w,hlen]
   |false=>
    rw[hl]at w
    rw[if_pos (by decide),sb5 c153L2.eq_def]
    generalize j-1=j0 at*
    simp(disch:=first|omega|fail) only[push_cast,seval,vrl,if_pos,if_neg,e0,l1,l2,w,hlen]
  ·rw[if_neg h,sb5 c153L2.eq_def]
   simp(disch:=first|omega|fail) only[push_cast,seval,vrl,if_pos,if_neg]
theorem f12{α:Type} [Inhabited α](lt:α→α→Bool): ∀(j:Nat) (d:Array α),(Sort.shiftDown lt j d).size=d.size
 |0,d=>rfl
 |j+1,d=>by
  rw[Sort.shiftDown]
  split
  ·rfl
  ·rw[f12 lt j,Sort.size_swp]
theorem j34{α:Type} [Inhabited α](lt:α→α→Bool)(b:Nat): ∀(n j:Nat) (d:Array α),b-j≤n→(Sort.shiftUp lt b j d).size=d.size
 |n,j,d,hn=>by
  rw[Sort.shiftUp]
  split
  ·split
   ·rfl
   ·cases n with
    |zero=>omega
    |succ n=>rw[j34 lt b n _ _ (by omega),Sort.size_swp]
  ·rfl
theorem mh0{α:Type} [Inhabited α](lt:α→α→Bool)(d:Array α)(b:Nat): ∀(n i:Nat),b-i≤n→i≤Sort.scanSorted lt d b i∧(i≤b→Sort.scanSorted lt d b i≤b)
 |n,i,hn=>by
  rw[Sort.scanSorted]
  split
  ·rename_i h
   have hib:i<b:=by simp at h;omega
   cases n with
   |zero=>omega
   |succ n=>
    have:=mh0 lt d b n (i+1) (by omega)
    exact⟨by omega,fun _=>this.2 (by omega)⟩
  ·exact⟨jj6 _,fun h=>h⟩
theorem gd6{a b:Nat}(hab:a<b): ∀(s i:Nat) (d:Array Int),s≤5→a<i→i≤b→b≤d.size→d.size≤90000→ ∀ks,(∀fr R,vgo W ⟨hNo,[.tmp 6],1⟩ ks fr R=vret ⟨hNo,[.tmp 6],1⟩ (fr.set 6 (.x (.bool false))) R)→
 vgoL W ⟨hNo,[.tmp 6],1⟩ [0,1,2,7,8] c153L3 (.blk 0 []::ks) [(0, .own 0 []),(1, .x (.int .i64 a)),(2, .x (.int .i64 b)),(7, .x (.int .i64 i)),(8, .x (.int .i64 (5-(s:Int))))] [.sl nl 3 1 (ivs d.toList)]=
  some (.x (.bool (Sort.partialIns Sort.ltInt a b s i d).2),[],[.sl nl 3 1 (ivs (Sort.partialIns Sort.ltInt a b s i d).1.toList)])
 |0,i,d,hs,ha,hi,hb,hd,ks,hk=>by
  rw[Sort.partialIns,sb5 c153L3.eq_def]
  simp(disch:=first|omega|fail) only[push_cast,seval,vrl,if_pos,if_neg,hk]
 |s+1,i,d,hs,ha,hi,hb,hd,ks,hk=>by
  have e1:=fun ks=>f70 (nl:=nl) (a:=a) (z8:=5-((s+1:Nat):Int)) hb hd (b-i) i (jj6 _) (by omega) (by omega) ks
  have g1:=mh0 Sort.ltInt d b (b-i) i (jj6 _)
  rw[Sort.partialIns]
  simp only[]
  generalize Sort.scanSorted Sort.ltInt d b i=i2 at*
  have g2:=g1.2 hi
  have e9:(5:Int)-((s+1:Nat):Int)+1=5-(s:Int):=by omega
  have e8:(5:Int)-((s+1:Nat):Int)<5:=by omega
  have e7:0≤(5:Int)-((s+1:Nat):Int):=by omega
  generalize hz:(5:Int)-((s+1:Nat):Int)=z8 at*
  by_cases h1:i2=b
  ·rw[if_pos h1,sb5 c153L3.eq_def]
   simp(disch:=first|omega|fail) only[push_cast,seval,vrl,if_pos,if_neg]
   rw[e1]
   simp(disch:=first|omega|fail) only[push_cast,seval,vrl,if_pos,if_neg,h1]
  ·rw[if_neg h1]
   have h1': ¬(i2:Int)=(b:Int):=by omega
   by_cases h2:b-a<50
   ·rw[if_pos h2,sb5 c153L3.eq_def]
    simp(disch:=first|omega|fail) only[push_cast,seval,vrl,if_pos,if_neg]
    rw[e1]
    simp(disch:=first|omega|fail) only[push_cast,seval,vrl,if_pos,if_neg,nb8 h1']
   ·rw[if_neg h2]
    have hlen:=wr6 d
    have l1:=vz2 (d:=d) (i:=i2) (by omega)
    have l2:=vz2 (d:=d) (i:=i2-1) (by omega)
    have e0:(i2:Int)-1=((i2-1:Nat):Int):=by omega
    have hsw:=va8 d i2 (i2-1)
    have hsz:=Sort.size_swp d i2 (i2-1)
    have e5:=fun ks=>a99 (nl:=nl) (a:=a) (b:=b) (i:=i2) (z8:=z8) (i2-1) (Sort.swp d i2 (i2-1)) (by omega) (by omega) ks
    have hs1:=f12 Sort.ltInt (i2-1) (Sort.swp d i2 (i2-1))
    obtain⟨d2,hd2⟩: ∃d2,d2=if i2-a≥2 then Sort.shiftDown Sort.ltInt (i2-1) (Sort.swp d i2 (i2-1))else Sort.swp d i2 (i2-1):=⟨_,rfl⟩
    have hsz2:d2.size=d.size:=by rw[hd2];split<;>omega
    have e6:=fun ks=>r72 (nl:=nl) (a:=a) (b:=b) (i:=i2) (z8:=z8) (b-(i2+1)) (i2+1) d2 (jj6 _) (by omega) (by omega) (by omega) (by omega) ks
    have hs2:=j34 Sort.ltInt b (b-(i2+1)) (i2+1) d2 (jj6 _)
    obtain⟨d3,hd3⟩: ∃d3,d3=if b-i2≥2 then Sort.shiftUp Sort.ltInt b (i2+1) d2 else d2:=⟨_,rfl⟩
    have hsz3:d3.size=d.size:=by rw[hd3];split<;>omega
    have ih:=gd6 hab s i2 d3 (by omega) (by omega) (by omega) (by omega) (by omega) ks hk
    rw[←hd2,←hd3,←ih]
    rw[←hsw]at e5
    obtain⟨I,hI⟩: ∃I,I=i2+1:=⟨_,rfl⟩
    obtain⟨J,hJ⟩: ∃J,J=i2-1:=⟨_,rfl⟩
    have e10:(i2:Int)+1=(I:Int):=by omega
    rw[←hI]at e6 hd3
    rw[←hJ]at e5 e0 l2 hsw hd2
    rw[sb5 c153L3.eq_def]
    simp(disch:=first|omega|fail) only[push_cast,seval,vrl,if_pos,if_neg]
    rw[e1]
    by_cases h3:i2-a≥2
    ·rw[if_pos h3]at hd2
     have h3':2≤(i2:Int)-(a:Int):=by omega
     by_cases h4:b-i2≥2
     ·rw[if_pos h4]at hd3
      have h4':2≤(b:Int)-(i2:Int):=by omega
      simp(disch:=first|omega|fail) only[push_cast,seval,vrl,if_pos,if_neg,nb8 h1',l1,l2,hlen,e0,h3']
      rw[e5,←hd2]
      simp(disch:=first|omega|fail) only[push_cast,seval,vrl,if_pos,if_neg,e10,h4']
      rw[e6,←hd3]
      simp(disch:=first|omega|fail) only[push_cast,seval,vrl,if_pos,if_neg,e9]
     ·rw[if_neg h4]at hd3
      have h4': ¬2≤(b:Int)-(i2:Int):=by omega
      simp(disch:=first|omega|fail) only[push_cast,seval,vrl,if_pos,if_neg,nb8 h1',l1,l2,hlen,e0,h3']
      rw[e5,←hd2,←hd3]
      simp(disch:=first|omega|fail) only[push_cast,seval,vrl,if_pos,if_neg,e9,h4']
    ·rw[if_neg h3]at hd2
     have h3': ¬2≤(i2:Int)-(a:Int):=by omega
     by_cases h4:b-i2≥2
     ·rw[if_pos h4]at hd3
      have h4':2≤(b:Int)-(i2:Int):=by omega
      simp(disch:=first|omega|fail) only[push_cast,seval,vrl,if_pos,if_neg,nb8 h1',l1,l2,hlen,e0,h3',e10,h4']
      rw[hsw,←hd2,e6,←hd3]
      simp(disch:=first|omega|fail) only[push_cast,seval,vrl,if_pos,if_neg,e9]
     ·omega
theorem s62{a b:Nat}{d:Array Int}(hab:a<b)(hb:b≤d.size)(hd:d.size≤90000):
 o25 W 153 [.own 0 [], .x (.int .i64 a), .x (.int .i64 b)] [.sl nl 3 1 (ivs d.toList)]=
  some (.x (.bool (Sort.partialInsertionSort Sort.ltInt d a b).2),[],[.sl nl 3 1 (ivs (Sort.partialInsertionSort Sort.ltInt d a b).1.toList)]):=by
 have e:=fun ks hk=>gd6 (nl:=nl) hab 5 (a+1) d (by omega) (by omega) (by omega) hb hd ks hk
 rw[show(5:Int)-((5:Nat):Int)=0 by decide]at e
 unfold Sort.partialInsertionSort
 obtain⟨A,hA⟩: ∃A,A=a+1:=⟨_,rfl⟩
 have ha1:(a:Int)+1=(A:Int):=by omega
 rw[←hA]at e⊢
 rw[o10 rfl T153 rfl]
 unfold F153 c153
 simp(disch:=first|omega|fail) only[push_cast,seval,vrl,if_pos,if_neg,ha1]
 rw[e]
 intro fr R
 simp(disch:=first|omega|fail) only[push_cast,seval,vrl,if_pos,if_neg]
end
theorem re0:((List.range 256).all fun i=>match({data:= #[0,1,2,2,3,3,3,3,4,4,4,4,4,4,4,4,5,5,5,5,5,5,5,5,5,5,5,5,5,5,5,5,6,6,6,6,6,6,6,6,6,6,6,6,6,6,6,6,6,6,6,6,6,6,6,6,6,6,6,6,6,6,6,6,7,7,7,7,7,7,7,7,7,7,7,7,7,7,7,7,7,7,7,7,7,7,7,7,7,7,7,7,7,7,7,7,7,7,7,7,7,7,7,7,7,7,7,7,7,7,7,7,7,7,7,7,7,7,7,7,7,7,7,7,7,7,7,7,8,8,8,8,8,8,8,8,8,8,8,8,8,8,8,8,8,8,8,8,8,8,8,8,8,8,8,8,8,8,8,8,8,8,8,8,8,8,8,8,8,8,8,8,8,8,8,8,8,8,8,8,8,8,8,8,8,8,8,8,8,8,8,8,8,8,8,8,8,8,8,8,8,8,8,8,8,8,8,8,8,8,8,8,8,8,8,8,8,8,8,8,8,8,8,8,8,8,8,8,8,8,8,8,8,8,8,8,8,8,8,8,8,8,8,8,8,8,8,8,8,8,8,8,8,8,8,8]}:ByteArray)[i]? with
 |some b=>decide (b.toNat=Sort.bitsLen i)
 |none=>false)=true:=by kernel_rfl
theorem su3{i:Nat}(h:i<256): ∃b:UInt8,({data:= #[0,1,2,2,3,3,3,3,4,4,4,4,4,4,4,4,5,5,5,5,5,5,5,5,5,5,5,5,5,5,5,5,6,6,6,6,6,6,6,6,6,6,6,6,6,6,6,6,6,6,6,6,6,6,6,6,6,6,6,6,6,6,6,6,7,7,7,7,7,7,7,7,7,7,7,7,7,7,7,7,7,7,7,7,7,7,7,7,7,7,7,7,7,7,7,7,7,7,7,7,7,7,7,7,7,7,7,7,7,7,7,7,7,7,7,7,7,7,7,7,7,7,7,7,7,7,7,7,8,8,8,8,8,8,8,8,8,8,8,8,8,8,8,8,8,8,8,8,8,8,8,8,8,8,8,8,8,8,8,8,8,8,8,8,8,8,8,8,8,8,8,8,8,8,8,8,8,8,8,8,8,8,8,8,8,8,8,8,8,8,8,8,8,8,8,8,8,8,8,8,8,8,8,8,8,8,8,8,8,8,8,8,8,8,8,8,8,8,8,8,8,8,8,8,8,8,8,8,8,8,8,8,8,8,8,8,8,8,8,8,8,8,8,8,8,8,8,8,8,8,8,8,8,8,8,8]}:ByteArray)[i]? =some b∧b.toNat=Sort.bitsLen i:=by
 have h1:=p92.1 re0 i (l16.2 h)
 split at h1
 ·rename_i b hb
  exact⟨b,hb,of_decide_eq_true h1⟩
 ·cases h1
theorem x11{n:Nat}(h:256≤n):Sort.bitsLen n=8+Sort.bitsLen (n/256):=by
 have h1:Sort.bitsLen n≤8+Sort.bitsLen (n/256):=by
  rw[Sort.bitsLen_le_iff,Nat.pow_add]
  have:=Sort.lt_two_pow_bitsLen (n/256)
  generalize 2^Sort.bitsLen (n/256)=P at*
  have e:(2:Nat)^8=256:=by decide
  rw[e]
  have:=Nat.div_add_mod n 256
  have:=gn6 n (show 0<256 by decide)
  have:=Nat.mul_le_mul_left 256 (show n/256+1≤P by omega)
  omega
 have h2:9≤Sort.bitsLen n:=by
  refine Nat.lt_of_not_le fun h3=> ?_
  have:=(Sort.bitsLen_le_iff n 8).1 h3
  omega
 have h3:Sort.bitsLen (n/256)≤Sort.bitsLen n-8:=by
  rw[Sort.bitsLen_le_iff]
  have h4:=Sort.lt_two_pow_bitsLen n
  obtain⟨k,hk⟩: ∃k,Sort.bitsLen n=k+8:=⟨Sort.bitsLen n-8,by omega⟩
  rw[hk,Nat.pow_add]at h4
  rw[hk,show k+8-8=k by omega]
  exact Nat.div_lt_of_lt_mul (by rw[f52];exact h4)
 omega
theorem wq9{n:Nat}(h:n<65536):Sort.bitsLen n≤16:=(Sort.bitsLen_le_iff n 16).2 h
theorem t17{n:Nat}(h:n<65536):o25 W 158 [.x (.int .u64 n)] []=some (.x (.int .i64 (Sort.bitsLen n)),[],[]):=by
 by_cases h1:256≤n
 ·obtain⟨b,h2,h3⟩:=su3 (i:=n/256) (by omega)
  have hbl:=wq9 (n:=n/256) (by omega)
  have e1:(n:Int).fdiv (2^min 8 (IntKind.bits .u64))=((n/256:Nat):Int):=by
   rw[show(2:Int)^min 8 (IntKind.bits .u64)=256 by decide,Int.fdiv_eq_ediv_of_nonneg _ (by decide)];omega
  have hn:n/256<256:=by omega
  have hw8:IntKind.wrap .u8 ((n/256:Nat):Int)=((n/256:Nat):Int):=by unfold IntKind.wrap;simp[IntKind.bits,IntKind.signed];omega
  rw[x11 h1,e96]
  generalize n/256=m at*
  rw[o10 rfl T158 rfl]
  unfold F158 c158
  simp(disch:=first|omega|fail) only[push_cast,seval,vrl,if_pos,if_neg,e1,hw8,h2,h3]
 ·obtain⟨b,h2,h3⟩:=su3 (i:=n) (by omega)
  have hbl:=wq9 (n:=n) (by omega)
  have hw8:IntKind.wrap .u8 (n:Int)=(n:Int):=by unfold IntKind.wrap;simp[IntKind.bits,IntKind.signed];omega
  rw[o10 rfl T158 rfl]
  unfold F158 c158
  simp(disch:=first|omega|fail) only[push_cast,seval,vrl,if_pos,if_neg,hw8,h2,h3]
theorem ub0{n:Nat}(h:n<65536):o25 W 107 [.x (.int .u64 n)] []=some (.x (.int .i64 (Sort.bitsLen n)),[],[]):=by
 have e:=t17 h
 rw[o10 rfl T107 rfl]
 unfold F107 c107
 simp(disch:=first|omega|fail) only[push_cast,seval,vrl,if_pos,if_neg,e]
theorem la4(x:Int){y:Int}(h0:0≤y)(h1:y<18446744073709551616):0≤Go.bits .and .u64 x y∧Go.bits .and .u64 x y≤y:=by
 have hb: ∀z:Int,z=18446744073709551616→True:=fun _ _=>trivial
 have e:Go.bits .and .u64 x y=IntKind.wrap .u64 (((BitVec.ofInt 64 x&&&BitVec.ofInt 64 y).toNat:Nat):Int):=rfl
 have h2:(BitVec.ofInt 64 x&&&BitVec.ofInt 64 y).toNat≤(BitVec.ofInt 64 y).toNat:=by
  rw[BitVec.toNat_and];exact Nat.and_le_right
 have h3:(BitVec.ofInt 64 y).toNat=y.toNat:=by
  rw[BitVec.toNat_ofInt]
  have:y%((2^64:Nat):Int)=y:=b16 h0 (by simpa using h1)
  rw[this]
 rw[h3]at h2
 rw[e]
 generalize (BitVec.ofInt 64 x&&&BitVec.ofInt 64 y).toNat=k at*
 have h4:IntKind.wrap .u64 (k:Int)=(k:Int):=by
  unfold IntKind.wrap
  simp[IntKind.bits,IntKind.signed]
  omega
 rw[h4]
 omega
def nxA(r:Int):Int:=Go.bits .xor .u64 r (IntKind.wrap .u64 (r*2^min 13 (IntKind.bits .u64)))
def nxB(r:Int):Int:=Go.bits .xor .u64 r (r.fdiv (2^min 7 (IntKind.bits .u64)))
def nxC(r:Int):Int:=Go.bits .xor .u64 r (IntKind.wrap .u64 (r*2^min 17 (IntKind.bits .u64)))
theorem rz2{e:Nat}{r:Int}:o25 W 182 [.own 0 []] [.pt e [.v (.int .u64 r)]]=some (.x (.int .u64 (nxC (nxB (nxA r)))),[],[.pt e [.v (.int .u64 (nxC (nxB (nxA r))))]]):=by
 rw[o10 rfl T182 rfl]
 unfold F182 c182 nxC nxB nxA
 simp(disch:=first|omega|fail) only[push_cast,seval,vrl,if_pos,if_neg]
theorem x45{n:Nat}(h:n<65536):o25 W 181 [.x (.int .i64 n)] []=some (.x (.int .u64 ((2^Sort.bitsLen n:Nat):Int)),[],[]):=by
 have e:=ub0 h
 have hbl:=wq9 h
 have hw:IntKind.wrap .u64 (n:Int)=(n:Int):=by unfold IntKind.wrap;simp[IntKind.bits,IntKind.signed];omega
 have hp:2^Sort.bitsLen n≤2^16:=Nat.pow_le_pow_right (by decide) hbl
 have e1:IntKind.wrap .u64 (1*2^min (Sort.bitsLen n) (IntKind.bits .u64))=((2^Sort.bitsLen n:Nat):Int):=by
  rw[show min (Sort.bitsLen n) (IntKind.bits .u64)=Sort.bitsLen n from xp9 (md7 hbl (by decide)),vq0]
  have h2:((2:Int)^Sort.bitsLen n)=((2^Sort.bitsLen n:Nat):Int):=by simp
  rw[h2]
  generalize 2^Sort.bitsLen n=k at*
  unfold IntKind.wrap
  simp[IntKind.bits,IntKind.signed]
  omega
 generalize Sort.bitsLen n=k at*
 generalize 2^k=P at*
 rw[o10 rfl T181 rfl]
 unfold F181 c181
 simp(disch:=first|omega|fail) only[push_cast,seval,vrl,if_pos,if_neg,hw,e,e1]
section
variable {bb:Bool} {nl:Nat} {d:Array Int}
set_option maxHeartbeats 4000000
theorem co4{a b:Nat}(hab:8≤b-a)(hb:b≤d.size)(hd:d.size≤60000):
 o25 W 151 [.fz bb (.sl nl 0 1 (ivs d.toList)), .x (.int .i64 a), .x (.int .i64 b)] []=
  some (.tup [.x (.int .i64 (Sort.choosePivot Sort.ltInt d a b).1), .x (.int .i64 (Sort.hintCode (Sort.choosePivot Sort.ltInt d a b).2))],[],[]):=by
 rw[Sort.choosePivot_eq]
 unfold Sort.rawPivot Sort.hintOf
 obtain⟨n,hn⟩: ∃n,n=b-a:=⟨_,rfl⟩
 obtain⟨Q,hQ⟩: ∃Q,Q=n/4:=⟨_,rfl⟩
 have e0:(b:Int)-(a:Int)=(n:Int):=by omega
 have e1:(n:Int).tdiv 4=(Q:Int):=by rw[zj0 (by omega)];omega
 obtain⟨I,hI⟩: ∃I,I=a+Q*1:=⟨_,rfl⟩
 obtain⟨J,hJ⟩: ∃J,J=a+Q*2:=⟨_,rfl⟩
 obtain⟨K,hK⟩: ∃K,K=a+Q*3:=⟨_,rfl⟩
 have e2:(a:Int)+(Q:Int)*1=(I:Int):=by omega
 have e2':(a:Int)+(Q:Int)=(I:Int):=by omega
 have e3:(a:Int)+(Q:Int)*2=(J:Int):=by omega
 have e4:(a:Int)+(Q:Int)*3=(K:Int):=by omega
 simp only[←hn,←hQ,←hI,←hJ,←hK]
 rw[←hn]at hab
 rw[if_pos (show n≥8 from hab)]
 have hQn:4*Q≤n∧n≤4*Q+3:=by omega
 by_cases h50:n≥50
 ·rw[if_pos h50]
  have w1:=f61 (bb:=bb) (nl:=nl) (e:=3) (d:=d) (a:=I) (s:=0) (by omega) (by omega) (by omega) (by omega)
  have m1:=Sort.medianAdjacent_mem Sort.ltInt d I 0
  have c1:=Sort.medianAdjacent_count Sort.ltInt d I 0
  generalize Sort.medianAdjacent Sort.ltInt d I 0=r1 at*
  have w2:=f61 (bb:=bb) (nl:=nl) (e:=3) (d:=d) (a:=J) (s:=r1.2) (by omega) (by omega) (by omega) (by omega)
  have m2:=Sort.medianAdjacent_mem Sort.ltInt d J r1.2
  have c2:=Sort.medianAdjacent_count Sort.ltInt d J r1.2
  generalize Sort.medianAdjacent Sort.ltInt d J r1.2=r2 at*
  have w3:=f61 (bb:=bb) (nl:=nl) (e:=3) (d:=d) (a:=K) (s:=r2.2) (by omega) (by omega) (by omega) (by omega)
  have m3:=Sort.medianAdjacent_mem Sort.ltInt d K r2.2
  have c3:=Sort.medianAdjacent_count Sort.ltInt d K r2.2
  generalize Sort.medianAdjacent Sort.ltInt d K r2.2=r3 at*
  have w4:=uo9 (bb:=bb) (nl:=nl) (e:=3) (d:=d) (a:=r1.1) (b:=r2.1) (c:=r3.1) (s:=r3.2) (by omega) (by omega) (by omega) (by omega) (by omega)
  generalize Sort.median Sort.ltInt d r1.1 r2.1 r3.1 r3.2=r4 at*
  rw[vx9]at w1
  rw[o10 rfl T151 rfl]
  unfold F151 c151
  by_cases h0:r4.2=0
  ·have h0':(r4.2:Int)=0:=by omega
   rw[if_pos h0]
   simp(disch:=first|omega|fail) only[push_cast,seval,vrl,if_pos,if_neg,e0,e1,e2,e2',e3,e4,w1,w2,w3,w4,Sort.hintCode,h0']
  ·have h0': ¬(r4.2:Int)=0:=by omega
   rw[if_neg h0]
   by_cases h12:r4.2=12
   ·have h12':(r4.2:Int)=12:=by omega
    rw[if_pos h12]
    simp(disch:=first|omega|fail) only[push_cast,seval,vrl,if_pos,if_neg,e0,e1,e2,e2',e3,e4,w1,w2,w3,w4,Sort.hintCode,h12']
   ·have h12': ¬(r4.2:Int)=12:=by omega
    rw[if_neg h12]
    simp(disch:=first|omega|fail) only[push_cast,seval,vrl,if_pos,if_neg,e0,e1,e2,e2',e3,e4,w1,w2,w3,w4,Sort.hintCode,nb8 h0',nb8 h12']
 ·rw[if_neg h50]
  have w4:=uo9 (bb:=bb) (nl:=nl) (e:=3) (d:=d) (a:=I) (b:=J) (c:=K) (s:=0) (by omega) (by omega) (by omega) (by omega) (by omega)
  generalize Sort.median Sort.ltInt d I J K 0=r4 at*
  rw[vx9]at w4
  rw[o10 rfl T151 rfl]
  unfold F151 c151
  by_cases h0:r4.2=0
  ·have h0':(r4.2:Int)=0:=by omega
   rw[if_pos h0]
   simp(disch:=first|omega|fail) only[push_cast,seval,vrl,if_pos,if_neg,e0,e1,e2,e2',e3,e4,w4,Sort.hintCode,h0']
  ·have h0': ¬(r4.2:Int)=0:=by omega
   rw[if_neg h0]
   by_cases h12:r4.2=12
   ·have h12':(r4.2:Int)=12:=by omega
    rw[if_pos h12]
    simp(disch:=first|omega|fail) only[push_cast,seval,vrl,if_pos,if_neg,e0,e1,e2,e2',e3,e4,w4,Sort.hintCode,h12']
   ·have h12': ¬(r4.2:Int)=12:=by omega
    rw[if_neg h12]
    simp(disch:=first|omega|fail) only[push_cast,seval,vrl,if_pos,if_neg,e0,e1,e2,e2',e3,e4,w4,Sort.hintCode,nb8 h0',nb8 h12']
end
section
variable {nl:Nat}
theorem iq2{a b n e:Nat}{z8:Int}(hn:n=b-a)(h8:8≤n)(hp:0≤z8-1∧z8-1<2*(n:Int)): ∀(k idx:Nat) (d:Array Int) (r:Int),idx+k=a+n/4*2+2→a≤idx→b≤d.size→d.size≤60000→ ∃(d':Array Int) (r':Int),Sort.PermIn a b d d'∧ ∀ks,
 vgoL W ⟨hNo,[],1⟩ [0,1,6,7,8,9] c150L0 (.blk 0 []::ks) [(0, .own 0 []),(1, .x (.int .i64 a)),(6, .x (.int .i64 n)),(7, .own 1 []),(8, .x (.int .u64 z8)),(9, .x (.int .i64 idx))] [.sl nl 3 1 (ivs d.toList), .pt e [.v (.int .u64 r)]]=
  vgo W ⟨hNo,[],1⟩ ks (VFr.of []) [.sl nl 3 1 (ivs d'.toList), .pt e [.v (.int .u64 r')]]
 |0,idx,d,r,hi,ha,hb,hd=>by
  refine⟨d,r,Sort.permIn_refl _ _ _,fun ks=> ?_⟩
  obtain⟨Q,hQ⟩: ∃Q,Q=n/4:=⟨_,rfl⟩
  have e1:(n:Int).tdiv 4=(Q:Int):=by rw[zj0 (by omega)];omega
  rw[←hQ]at hi
  rw[sb5 c150L0.eq_def]
  simp(disch:=first|omega|fail) only[push_cast,seval,vrl,if_pos,if_neg,e1]
 |k+1,idx,d,r,hi,ha,hb,hd=>by
  obtain⟨Q,hQ⟩: ∃Q,Q=n/4:=⟨_,rfl⟩
  have e1:(n:Int).tdiv 4=(Q:Int):=by rw[zj0 (by omega)];omega
  have hnx:=rz2 (e:=e) (r:=r)
  obtain⟨r1,hr1⟩: ∃r1,r1=nxC (nxB (nxA r)):=⟨_,rfl⟩
  rw[←hr1]at hnx
  have hand:=la4 r1 hp.1 (by omega)
  obtain⟨o1,ho1⟩: ∃o1:Nat,Go.bits .and .u64 r1 (z8-1)=(o1:Int):=⟨(Go.bits .and .u64 r1 (z8-1)).toNat,by omega⟩
  rw[ho1]at hand
  have hwz:IntKind.wrap .u64 (z8-1)=z8-1:=by
   unfold IntKind.wrap
   simp[IntKind.bits,IntKind.signed]
   omega
  have hlen:=wr6 d
  have hsb:idx<b:=by omega
  by_cases ho:n≤o1
  ·obtain⟨o2,ho2⟩: ∃o2,o2=o1-n:=⟨_,rfl⟩
   have e2:(o1:Int)-(n:Int)=(o2:Int):=by omega
   obtain⟨A,hA⟩: ∃A,A=a+o2:=⟨_,rfl⟩
   have e3:(a:Int)+(o2:Int)=(A:Int):=by omega
   have hsz:=Sort.size_swp d idx A
   obtain⟨d',r',h1,h2⟩:=iq2 (e:=e) hn h8 hp k (idx+1) (Sort.swp d idx A) r1 (by omega) (by omega) (by omega) (by omega)
   refine⟨d',r',Sort.permIn_trans _ _ _ _ _ (Sort.swp_permIn d a b idx A ha hsb (by omega) (by omega) hb) h1,fun ks=> ?_⟩
   have ih:=h2 ks
   rw[←va8,e96 idx,g71]at ih
   have l1:=vz2 (d:=d) (i:=idx) (by omega)
   have l2:=vz2 (d:=d) (i:=A) (by omega)
   rw[←hQ]at hi
   rw[←ih,sb5 c150L0.eq_def]
   simp(disch:=first|omega|fail) only[push_cast,seval,vrl,if_pos,if_neg,e1,hnx,hwz,ho1,e2,e3,l1,l2,hlen]
  ·obtain⟨A,hA⟩: ∃A,A=a+o1:=⟨_,rfl⟩
   have e3:(a:Int)+(o1:Int)=(A:Int):=by omega
   have hsz:=Sort.size_swp d idx A
   obtain⟨d',r',h1,h2⟩:=iq2 (e:=e) hn h8 hp k (idx+1) (Sort.swp d idx A) r1 (by omega) (by omega) (by omega) (by omega)
   refine⟨d',r',Sort.permIn_trans _ _ _ _ _ (Sort.swp_permIn d a b idx A ha hsb (by omega) (by omega) hb) h1,fun ks=> ?_⟩
   have ih:=h2 ks
   rw[←va8,e96 idx,g71]at ih
   have l1:=vz2 (d:=d) (i:=idx) (by omega)
   have l2:=vz2 (d:=d) (i:=A) (by omega)
   rw[←hQ]at hi
   rw[←ih,sb5 c150L0.eq_def]
   simp(disch:=first|omega|fail) only[push_cast,seval,vrl,if_pos,if_neg,e1,hnx,hwz,ho1,e3,l1,l2,hlen]
theorem v48{a b:Nat}{d:Array Int}(hab:12<b-a)(hb:b≤d.size)(hd:d.size≤60000): ∃d':Array Int,Sort.PermIn a b d d'∧
 o25 W 150 [.own 0 [], .x (.int .i64 a), .x (.int .i64 b)] [.sl nl 3 1 (ivs d.toList)]=some (.tup [],[],[.sl nl 3 1 (ivs d'.toList)]):=by
 obtain⟨n,hn⟩: ∃n,n=b-a:=⟨_,rfl⟩
 obtain⟨Q,hQ⟩: ∃Q,Q=n/4:=⟨_,rfl⟩
 obtain⟨X,hX⟩: ∃X,X=a+Q*2-1:=⟨_,rfl⟩
 have e0:(b:Int)-(a:Int)=(n:Int):=by omega
 have e1:(n:Int).tdiv 4=(Q:Int):=by rw[zj0 (by omega)];omega
 have e2:(a:Int)+(Q:Int)*2-1=(X:Int):=by omega
 have hp2:=x45 (n:=n) (by omega)
 have hpl:=Sort.two_pow_bitsLen_le (n:=n) (by omega)
 have hpp:0<2^Sort.bitsLen n:=Nat.two_pow_pos _
 have hw:IntKind.wrap .u64 (n:Int)=(n:Int):=by
  unfold IntKind.wrap
  simp[IntKind.bits,IntKind.signed]
  omega
 obtain⟨d',r',h1,h2⟩:=iq2 (nl:=nl) (a:=a) (b:=b) (n:=n) (e:=179) (z8:=((2^Sort.bitsLen n:Nat):Int)) hn (by omega) (by omega) 3 X d (n:Int) (by omega) (by omega) hb hd
 refine⟨d',h1, ?_⟩
 generalize 2^Sort.bitsLen n=P at*
 rw[o10 rfl T150 rfl]
 unfold F150 c150
 simp(disch:=first|omega|fail) only[push_cast,seval,vrl,if_pos,if_neg,e0,e1,e2,hp2,hw]
 rw[h2]
 simp(disch:=first|omega|fail) only[push_cast,seval,vrl,if_pos,if_neg]
end
end Go.Proofs.YtppbpgmdmiajcaaGreat
namespace Go.Proofs.YtppbpgmdmiajcaaGreat
open Go.Am
def seqR:Nat→ACode→ACode
 |n+1, .seq _ b=>seqR n b
 |_,c=>c
end Go.Proofs.YtppbpgmdmiajcaaGreat
namespace Go.Proofs.YtppbpgmdmiajcaaGreat
open Go.Am Go.Vm
set_option maxHeartbeats 4000000
def inB:ACode→ACode
 | .block _ _ b=>b
 |c=>c
abbrev pqC:Ctx:=⟨hNo,[],1⟩
abbrev pqK:List It:=[.blk 1 [0,1,2,3,8,9], .lp [0,1,2,3,8,9] c106L0, .blk 0 []]
def PqOK(nl a b limit:Nat)(wb wp:Bool)(d:Array Int):Prop:= ∃d':Array Int,Sort.PermIn a b d d'∧Sort.SortedIn Sort.ltInt a b d'∧ ∀ks,ks=[]→
 vgoL W ⟨hNo,[],1⟩ [0,1,2,3,8,9] c106L0 (.blk 0 []::ks) [(0, .own 0 []),(1, .x (.int .i64 a)),(2, .x (.int .i64 b)),(3, .x (.int .i64 limit)),(8, .x (.bool wb)),(9, .x (.bool wp))] [.sl nl 3 1 (ivs d.toList)]=some (.tup [],[],[.sl nl 3 1 (ivs d'.toList)])
def gy3(nl N:Nat):Prop:= ∀(a b limit:Nat) (wb wp:Bool) (d:Array Int),b-a<N→a≤b→b≤d.size→d.size≤60000→limit≤100→Sort.Below Sort.ltInt a b d→PqOK nl a b limit wb wp d
theorem a06{nl a b limit:Nat}{d:Array Int}(h:PqOK nl a b limit true true d): ∃d':Array Int,Sort.PermIn a b d d'∧Sort.SortedIn Sort.ltInt a b d'∧o25 W 106 [.own 0 [], .x (.int .i64 a), .x (.int .i64 b), .x (.int .i64 limit)] [.sl nl 3 1 (ivs d.toList)]=some (.tup [],[],[.sl nl 3 1 (ivs d'.toList)]):=by
 obtain⟨d',h1,h2,h3⟩:=h
 refine⟨d',h1,h2, ?_⟩
 have e:=h3 [] rfl
 rw[o10 rfl T106 rfl]
 unfold F106 c106
 simp(disch:=first|omega|fail) only[push_cast,seval,vrl,if_pos,if_neg]
 rw[e]
structure PqF (fr:VFr) (a b limit:Nat) (wb wp:Bool) (p:Nat):Prop where
 f0:fr 0=some (.own 0 [])
 f1:fr 1=some (.x (.int .i64 a))
 f2:fr 2=some (.x (.int .i64 b))
 f3:fr 3=some (.x (.int .i64 limit))
 f8:fr 8=some (.x (.bool wb))
 f9:fr 9=some (.x (.bool wp))
 f10:fr 10=some (.x (.int .i64 ((b-a:Nat):Int)))
 f11:fr 11=some (.x (.int .i64 p))
theorem pq_b{nl N a b limit p:Nat}{wb wp:Bool}{d:Array Int}(IH:gy3 nl N)(hN:b-a≤N)(h12:12<b-a)(hb:b≤d.size)(hd:d.size≤60000)(hl:limit≤100)(hB:Sort.Below Sort.ltInt a b d)(hp1:a≤p)(hp2:p<b):
 ∃d':Array Int,Sort.PermIn a b d d'∧Sort.SortedIn Sort.ltInt a b d'∧ ∀fr,PqF fr a b limit wb wp p→vgo W pqC (.code (seqR 7 (inB c106L0))::pqK) fr [.sl nl 3 1 (ivs d.toList)]=some (.tup [],[],[.sl nl 3 1 (ivs d'.toList)]):=by
 have hlen:=wr6 d
 have l2:=vz2 (d:=d) (i:=p) (by omega)
 by_cases heq:0<a∧Sort.ltInt d[a-1]! d[p]! =false
 ·obtain⟨ha,hlt⟩:=heq
  have l1:=vz2 (d:=d) (i:=a-1) (by omega)
  have w:=yg4 (x:=d[a-1]!) (y:=d[p]!)
  rw[hlt]at w
  have e0:(a:Int)-1=((a-1:Nat):Int):=by omega
  have e1:=h06 (nl:=nl) (a:=a) (b:=b) (p:=p) (d:=d) (by omega) (by omega) hb (by omega)
  obtain⟨r1,r2,r3,r4,r5⟩:=Sort.round_eq Sort.swo_ltInt (Sort.partitionEqual_holds _) ha hp1 hp2 hb hB hlt (mid:=(Sort.partitionEqual Sort.ltInt d a b p).1) (d4:=(Sort.partitionEqual Sort.ltInt d a b p).2) rfl
  generalize Sort.partitionEqual Sort.ltInt d a b p=r at*
  obtain⟨d',k1,k2,k3⟩:=IH r.1 b limit wb wp r.2 (by omega) r2 (by omega) (by omega) hl r4
  obtain⟨q1,q2⟩:=r5 d' k1 k2
  refine⟨d',q1,q2,fun fr hF=> ?_⟩
  obtain⟨f0,f1,f2,f3,f8,f9,f10,f11⟩:=hF
  have ih:=k3 [] rfl
  obtain⟨q,hq⟩: ∃q,q=seqR 7 (inB c106L0):=⟨_,rfl⟩
  rw[←hq,←ih]
  rw[c106L0.eq_def]at hq
  simp only[inB,seqR]at hq
  generalize a-1=a1 at*
  rw[hq]
  unfold pqK pqC
  simp(disch:=first|omega|fail) only[push_cast,seval,vrl,if_pos,if_neg,f0,f1,f2,f3,f8,f9,f10,f11,l1,l2,w,hlen,e0,e1]
 ·have e1:=n92 (nl:=nl) (a:=a) (b:=b) (p:=p) (d:=d) (by omega) (by omega) hb (by omega)
  obtain⟨r1,r2,r3,r4,r5,r6,r7⟩:=Sort.round_part Sort.swo_ltInt (Sort.partition_holds _) hp1 hp2 hb hB (mid:=(Sort.partition Sort.ltInt d a b p).1) (ap:=(Sort.partition Sort.ltInt d a b p).2.1) (d4:=(Sort.partition Sort.ltInt d a b p).2.2) rfl
  have hlay:=fun(w0:Bool) (L:Array Int) (x y:Nat) (h:y-x<N) (h1:x≤y) (h2:y≤L.size) (h3:L.size≤60000) (h4:Sort.Below Sort.ltInt x y L)=>IH x y limit w0 (Sort.partition Sort.ltInt d a b p).2.1 L h h1 h2 h3 hl h4
  have hcal:=fun(L:Array Int) (x y:Nat) (h:y-x<N) (h1:x≤y) (h2:y≤L.size) (h3:L.size≤60000) (h4:Sort.Below Sort.ltInt x y L)=>a06 (IH x y limit true true L h h1 h2 h3 hl h4)
  generalize Sort.partition Sort.ltInt d a b p=r at*
  obtain⟨mid,ap,d4⟩:=r
  simp only[]at r1 r2 r3 r4 r5 r6 r7 hlay e1
  obtain⟨n,hn⟩: ∃n,n=b-a:=⟨_,rfl⟩
  obtain⟨Q,hQ⟩: ∃Q,Q=n/8:=⟨_,rfl⟩
  obtain⟨u,hu⟩: ∃u,u=mid-a:=⟨_,rfl⟩
  obtain⟨v,hv⟩: ∃v,v=b-mid:=⟨_,rfl⟩
  obtain⟨M,hM⟩: ∃M,M=mid+1:=⟨_,rfl⟩
  have e2:(n:Int).tdiv 8=(Q:Int):=by rw[zj0 (by omega)];omega
  have e3:(mid:Int)-(a:Int)=(u:Int):=by omega
  have e4:(b:Int)-(mid:Int)=(v:Int):=by omega
  have e5:(mid:Int)+1=(M:Int):=by omega
  rw[←hM]at r5 r6 r7
  obtain⟨q,hq⟩: ∃q,q=seqR 7 (inB c106L0):=⟨_,rfl⟩
  rw[←hq]
  rw[c106L0.eq_def]at hq
  simp only[inB,seqR]at hq
  by_cases huv:u<v
  ·obtain⟨L,k1,k2,k3⟩:=hcal d4 a mid (by omega) r1 (by omega) (by omega) r4
   obtain⟨g1,g2⟩:=r6 L k1 k2
   obtain⟨d',m1,m2,m3⟩:=hlay (decide (Q≤u)) L M b (by omega) (by omega) (by rw[k1.1];omega) (by rw[k1.1];omega) g1
   obtain⟨q1,q2⟩:=g2 d' m1 m2
   refine⟨d',q1,q2,fun fr hF=> ?_⟩
   obtain⟨f0,f1,f2,f3,f8,f9,f10,f11⟩:=hF
   rw[←hn]at f10
   have ih:=m3 [] rfl
   have hdc:decide ((Q:Int)≤(u:Int))=decide (Q≤u):=zv8.2 (by omega)
   by_cases ha:0<a
   ·have l1:=vz2 (d:=d) (i:=a-1) (by omega)
    have w:=yg4 (x:=d[a-1]!) (y:=d[p]!)
    rw[show Sort.ltInt d[a-1]! d[p]! =true by
     cases hlt:Sort.ltInt d[a-1]! d[p]! with
     |true=>rfl
     |false=>exact absurd ⟨ha,hlt⟩ heq]at w
    have e0:(a:Int)-1=((a-1:Nat):Int):=by omega
    generalize a-1=a1 at*
    rw[←ih,hq]
    unfold pqK pqC
    simp(disch:=first|omega|fail) only[push_cast,seval,vrl,if_pos,if_neg,f0,f1,f2,f3,f8,f9,f10,f11,l1,l2,w,hlen,e0,e1,e2,e3,e4,e5,k3,hdc]
   ·have ha0:a=0:=by omega
    rw[←ih,hq]
    unfold pqK pqC
    simp(disch:=first|omega|fail) only[push_cast,seval,vrl,if_pos,if_neg,f0,f1,f2,f3,f8,f9,f10,f11,l2,hlen,e1,e2,e3,e4,e5,k3,hdc]
  ·obtain⟨L,k1,k2,k3⟩:=hcal d4 M b (by omega) (by omega) (by omega) (by omega) r5
   obtain⟨g1,g2⟩:=r7 L k1 k2
   obtain⟨d',m1,m2,m3⟩:=hlay (decide (Q≤v)) L a mid (by omega) r1 (by rw[k1.1];omega) (by rw[k1.1];omega) g1
   obtain⟨q1,q2⟩:=g2 d' m1 m2
   refine⟨d',q1,q2,fun fr hF=> ?_⟩
   obtain⟨f0,f1,f2,f3,f8,f9,f10,f11⟩:=hF
   rw[←hn]at f10
   have ih:=m3 [] rfl
   have hdc:decide ((Q:Int)≤(v:Int))=decide (Q≤v):=zv8.2 (by omega)
   by_cases ha:0<a
   ·have l1:=vz2 (d:=d) (i:=a-1) (by omega)
    have w:=yg4 (x:=d[a-1]!) (y:=d[p]!)
    rw[show Sort.ltInt d[a-1]! d[p]! =true by
     cases hlt:Sort.ltInt d[a-1]! d[p]! with
     |true=>rfl
     |false=>exact absurd ⟨ha,hlt⟩ heq]at w
    have e0:(a:Int)-1=((a-1:Nat):Int):=by omega
    generalize a-1=a1 at*
    rw[←ih,hq]
    unfold pqK pqC
    simp(disch:=first|omega|fail) only[push_cast,seval,vrl,if_pos,if_neg,f0,f1,f2,f3,f8,f9,f10,f11,l1,l2,w,hlen,e0,e1,e2,e3,e4,e5,k3,hdc]
   ·have ha0:a=0:=by omega
    rw[←ih,hq]
    unfold pqK pqC
    simp(disch:=first|omega|fail) only[push_cast,seval,vrl,if_pos,if_neg,f0,f1,f2,f3,f8,f9,f10,f11,l2,hlen,e1,e2,e3,e4,e5,k3,hdc]
theorem pq_a{nl N a b limit p:Nat}{h:Int}{wb wp:Bool}{d:Array Int}(IH:gy3 nl N)(hN:b-a≤N)(h12:12<b-a)(hb:b≤d.size)(hd:d.size≤60000)(hl:limit≤100)(hB:Sort.Below Sort.ltInt a b d)(hp1:a≤p)(hp2:p<b):
 ∃d':Array Int,Sort.PermIn a b d d'∧Sort.SortedIn Sort.ltInt a b d'∧ ∀fr,PqF fr a b limit wb wp p→fr 12=some (.x (.int .i64 h))→vgo W pqC (.code (seqR 6 (inB c106L0))::pqK) fr [.sl nl 3 1 (ivs d.toList)]=some (.tup [],[],[.sl nl 3 1 (ivs d'.toList)]):=by
 obtain⟨rest,hrest⟩: ∃rest,rest=seqR 7 (inB c106L0):=⟨_,rfl⟩
 obtain⟨q,hq⟩: ∃q,q=seqR 6 (inB c106L0):=⟨_,rfl⟩
 by_cases hc:wb=true∧wp=true∧h=1
 ·obtain⟨rfl,rfl,rfl⟩:=hc
  have e1:=s62 (nl:=nl) (a:=a) (b:=b) (d:=d) (by omega) hb (by omega)
  obtain⟨s1,s2⟩:=Sort.partialInsertionSort_holds Sort.swo_ltInt d a b (by omega) hb hB
  generalize Sort.partialInsertionSort Sort.ltInt d a b=r at*
  obtain⟨d3,fl⟩:=r
  simp only[]at s1 s2 e1
  cases fl with
  |true=>
   refine⟨d3,s1,s2 rfl,fun fr hF hh=> ?_⟩
   obtain⟨f0,f1,f2,f3,f8,f9,f10,f11⟩:=hF
   rw[←hq]
   rw[c106L0.eq_def]at hrest hq
   simp only[inB,seqR]at hrest hq
   rw[←hrest]at hq
   rw[hq]
   unfold pqK pqC
   simp(disch:=first|omega|fail) only[push_cast,seval,vrl,if_pos,if_neg,f0,f1,f2,f3,f8,f9,f10,f11,hh,e1]
  |false=>
   obtain⟨d',k1,k2,k3⟩:=pq_b (nl:=nl) (limit:=limit) (wb:=true) (wp:=true) (p:=p) IH hN h12 (by rw[s1.1];exact hb) (by rw[s1.1];exact hd) hl (hB.perm hb s1) hp1 hp2
   refine⟨d',Sort.permIn_trans _ _ _ _ _ s1 k1,k2,fun fr hF hh=> ?_⟩
   rw[←hrest]at k3
   obtain⟨f0,f1,f2,f3,f8,f9,f10,f11⟩:=hF
   rw[←hq]
   rw[c106L0.eq_def]at hrest hq
   simp only[inB,seqR]at hrest hq
   rw[←hrest]at hq
   rw[hq]
   unfold pqK pqC at*
   simp(disch:=first|omega|fail) only[push_cast,seval,vrl,if_pos,if_neg,f0,f1,f2,f3,f8,f9,f10,f11,hh,e1]
   refine k3 _ ⟨?_, ?_, ?_, ?_, ?_, ?_, ?_, ?_⟩<;>simp(disch:=first|omega|fail) only[push_cast,seval,vrl,if_pos,if_neg,f0,f1,f2,f3,f8,f9,f10,f11]
 ·obtain⟨d',k1,k2,k3⟩:=pq_b (nl:=nl) (limit:=limit) (wb:=wb) (wp:=wp) (p:=p) IH hN h12 hb hd hl hB hp1 hp2
  refine⟨d',k1,k2,fun fr hF hh=> ?_⟩
  rw[←hrest]at k3
  obtain⟨f0,f1,f2,f3,f8,f9,f10,f11⟩:=hF
  rw[←hq]
  rw[c106L0.eq_def]at hrest hq
  simp only[inB,seqR]at hrest hq
  rw[←hrest]at hq
  rw[hq]
  unfold pqK pqC at*
  cases wb with
  |false=>
   simp(disch:=first|omega|fail) only[push_cast,seval,vrl,if_pos,if_neg,f0,f1,f2,f3,f8,f9,f10,f11,hh]
   refine k3 _ ⟨?_, ?_, ?_, ?_, ?_, ?_, ?_, ?_⟩<;>simp(disch:=first|omega|fail) only[push_cast,seval,vrl,if_pos,if_neg,f0,f1,f2,f3,f8,f9,f10,f11]
  |true=>
   cases wp with
   |false=>
    simp(disch:=first|omega|fail) only[push_cast,seval,vrl,if_pos,if_neg,f0,f1,f2,f3,f8,f9,f10,f11,hh]
    refine k3 _ ⟨?_, ?_, ?_, ?_, ?_, ?_, ?_, ?_⟩<;>simp(disch:=first|omega|fail) only[push_cast,seval,vrl,if_pos,if_neg,f0,f1,f2,f3,f8,f9,f10,f11]
   |true=>
    have hh1: ¬h=1:=fun e=>hc ⟨rfl,rfl,e⟩
    simp(disch:=first|omega|fail) only[push_cast,seval,vrl,if_pos,if_neg,f0,f1,f2,f3,f8,f9,f10,f11,hh,nb8 hh1]
    refine k3 _ ⟨?_, ?_, ?_, ?_, ?_, ?_, ?_, ?_⟩<;>simp(disch:=first|omega|fail) only[push_cast,seval,vrl,if_pos,if_neg,f0,f1,f2,f3,f8,f9,f10,f11]
set_option maxHeartbeats 4000000
theorem pq_c{nl N a b limit:Nat}{wb wp:Bool}{d:Array Int}(IH:gy3 nl N)(hN:b-a≤N)(h12:12<b-a)(hb:b≤d.size)(hd:d.size≤60000)(hl:limit≤100)(hB:Sort.Below Sort.ltInt a b d):
 ∃d':Array Int,Sort.PermIn a b d d'∧Sort.SortedIn Sort.ltInt a b d'∧ ∀fr,fr 0=some (.own 0 [])→fr 1=some (.x (.int .i64 a))→fr 2=some (.x (.int .i64 b))→fr 3=some (.x (.int .i64 limit))→fr 8=some (.x (.bool wb))→fr 9=some (.x (.bool wp))→fr 10=some (.x (.int .i64 ((b-a:Nat):Int)))→
  vgo W pqC (.code (seqR 4 (inB c106L0))::pqK) fr [.sl nl 3 1 (ivs d.toList)]=some (.tup [],[],[.sl nl 3 1 (ivs d'.toList)]):=by
 obtain⟨rest,hrest⟩: ∃rest,rest=seqR 6 (inB c106L0):=⟨_,rfl⟩
 obtain⟨q,hq⟩: ∃q,q=seqR 4 (inB c106L0):=⟨_,rfl⟩
 have w1:=fun nl bb=>co4 (nl:=nl) (bb:=bb) (a:=a) (b:=b) (d:=d) (by omega) hb hd
 have hp:=Sort.choosePivot_holds Sort.ltInt d a b (by omega)
 generalize Sort.choosePivot Sort.ltInt d a b=c at*
 obtain⟨p,hn⟩:=c
 simp only[]at hp w1
 cases hn with
 |decreasing=>
  have s1:=Sort.reverseRange_holds d a b (by omega) hb
  have e1:=x14 (nl:=nl) (a:=a) (b:=b) (d:=d) (by omega) hb (by omega)
  generalize Sort.reverseRange d a b=d2 at*
  obtain⟨P,hP⟩: ∃P,P=b-1-(p-a):=⟨_,rfl⟩
  have e2:(b:Int)-1-((p:Int)-(a:Int))=(P:Int):=by omega
  obtain⟨d',k1,k2,k3⟩:=pq_a (nl:=nl) (limit:=limit) (h:=1) (wb:=wb) (wp:=wp) (p:=P) IH hN h12 (by rw[s1.1];exact hb) (by rw[s1.1];exact hd) hl (hB.perm hb s1) (by omega) (by omega)
  refine⟨d',Sort.permIn_trans _ _ _ _ _ s1 k1,k2,fun fr f0 f1 f2 f3 f8 f9 f10=> ?_⟩
  rw[←hrest]at k3
  rw[←hq]
  rw[c106L0.eq_def]at hrest hq
  simp only[inB,seqR]at hrest hq
  rw[←hrest]at hq
  rw[hq]
  unfold pqK pqC at*
  simp(disch:=first|omega|fail) only[push_cast,seval,vrl,if_pos,if_neg,f0,f1,f2,f3,f8,f9,f10,w1,e1,e2,Sort.hintCode]
  refine k3 _ ⟨?_, ?_, ?_, ?_, ?_, ?_, ?_, ?_⟩ ?_<;>simp(disch:=first|omega|fail) only[push_cast,seval,vrl,if_pos,if_neg,f0,f1,f2,f3,f8,f9,f10]
 |increasing=>
  obtain⟨d',k1,k2,k3⟩:=pq_a (nl:=nl) (limit:=limit) (h:=1) (wb:=wb) (wp:=wp) (p:=p) IH hN h12 hb hd hl hB hp.1 hp.2
  refine⟨d',k1,k2,fun fr f0 f1 f2 f3 f8 f9 f10=> ?_⟩
  rw[←hrest]at k3
  rw[←hq]
  rw[c106L0.eq_def]at hrest hq
  simp only[inB,seqR]at hrest hq
  rw[←hrest]at hq
  rw[hq]
  unfold pqK pqC at*
  simp(disch:=first|omega|fail) only[push_cast,seval,vrl,if_pos,if_neg,f0,f1,f2,f3,f8,f9,f10,w1,Sort.hintCode]
  refine k3 _ ⟨?_, ?_, ?_, ?_, ?_, ?_, ?_, ?_⟩ ?_<;>simp(disch:=first|omega|fail) only[push_cast,seval,vrl,if_pos,if_neg,f0,f1,f2,f3,f8,f9,f10]
 |unknown=>
  obtain⟨d',k1,k2,k3⟩:=pq_a (nl:=nl) (limit:=limit) (h:=0) (wb:=wb) (wp:=wp) (p:=p) IH hN h12 hb hd hl hB hp.1 hp.2
  refine⟨d',k1,k2,fun fr f0 f1 f2 f3 f8 f9 f10=> ?_⟩
  rw[←hrest]at k3
  rw[←hq]
  rw[c106L0.eq_def]at hrest hq
  simp only[inB,seqR]at hrest hq
  rw[←hrest]at hq
  rw[hq]
  unfold pqK pqC at*
  simp(disch:=first|omega|fail) only[push_cast,seval,vrl,if_pos,if_neg,f0,f1,f2,f3,f8,f9,f10,w1,Sort.hintCode]
  refine k3 _ ⟨?_, ?_, ?_, ?_, ?_, ?_, ?_, ?_⟩ ?_<;>simp(disch:=first|omega|fail) only[push_cast,seval,vrl,if_pos,if_neg,f0,f1,f2,f3,f8,f9,f10]
theorem yg3(nl:Nat): ∀N,gy3 nl N
 |0=>fun a b limit wb wp d h=>by omega
 |N+1=>fun a b limit wb wp d h hab hb hd hl hB=>by
  have IH:=yg3 nl N
  obtain⟨n,hn⟩: ∃n,n=b-a:=⟨_,rfl⟩
  have e0:(b:Int)-(a:Int)=(n:Int):=by omega
  by_cases h12:b-a≤12
  ·obtain⟨s1,s2⟩:=Sort.insertionSort_holds Sort.swo_ltInt d a b hab hb
   have e1:=ki8 (nl:=nl) (a:=a) (b:=b) (d:=d) hb (by omega) (by omega)
   refine⟨_,s1,s2,fun ks hk=> ?_⟩
   rw[hk,sb5 c106L0.eq_def]
   simp(disch:=first|omega|fail) only[push_cast,seval,vrl,if_pos,if_neg,e0,e1]
  ·by_cases hl0:limit=0
   ·subst hl0
    obtain⟨s1,s2⟩:=Sort.heapSort_holds Sort.swo_ltInt d a b hab hb
    have e1:=og6 (nl:=nl) (a:=a) (b:=b) (d:=d) (by omega) hb (by omega)
    refine⟨_,s1,s2,fun ks hk=> ?_⟩
    rw[hk,sb5 c106L0.eq_def]
    simp(disch:=first|omega|fail) only[push_cast,seval,vrl,if_pos,if_neg,e0,e1]
   ·obtain⟨rest,hrest⟩: ∃rest,rest=seqR 4 (inB c106L0):=⟨_,rfl⟩
    have hl0': ¬(limit:Int)=0:=by omega
    obtain⟨q,hq⟩: ∃q,q=c106L0:=⟨_,rfl⟩
    cases wb with
    |true=>
     obtain⟨d',k1,k2,k3⟩:=pq_c (nl:=nl) (limit:=limit) (wb:=true) (wp:=wp) IH (by omega) (by omega) hb hd hl hB
     refine⟨d',k1,k2,fun ks hk=> ?_⟩
     rw[←hrest]at k3
     rw[hk,sb5 c106L0.eq_def]
     rw[c106L0.eq_def]at hrest
     simp only[inB,seqR]at hrest
     rw[←hrest]
     unfold pqK pqC at k3
     rw[←hn]at k3
     simp(disch:=first|omega|fail) only[push_cast,seval,vrl,if_pos,if_neg,e0,nb8 hl0']
     refine k3 _ ?_ ?_ ?_ ?_ ?_ ?_ ?_<;>simp(disch:=first|omega|fail) only[push_cast,seval,vrl,if_pos,if_neg]
    |false=>
     obtain⟨d1,s1,e1⟩:=v48 (nl:=nl) (a:=a) (b:=b) (d:=d) (by omega) hb hd
     obtain⟨l1,hl1⟩: ∃l1,l1=limit-1:=⟨_,rfl⟩
     have e2:(limit:Int)-1=(l1:Int):=by omega
     obtain⟨d',k1,k2,k3⟩:=pq_c (nl:=nl) (limit:=l1) (wb:=false) (wp:=wp) IH (by omega) (by omega) (by rw[s1.1];exact hb) (by rw[s1.1];exact hd) (by omega) (hB.perm hb s1)
     refine⟨d',Sort.permIn_trans _ _ _ _ _ s1 k1,k2,fun ks hk=> ?_⟩
     rw[←hrest]at k3
     rw[hk,sb5 c106L0.eq_def]
     rw[c106L0.eq_def]at hrest
     simp only[inB,seqR]at hrest
     rw[←hrest]
     unfold pqK pqC at k3
     rw[←hn]at k3
     simp(disch:=first|omega|fail) only[push_cast,seval,vrl,if_pos,if_neg,e0,e1,e2,nb8 hl0']
     refine k3 _ ?_ ?_ ?_ ?_ ?_ ?_ ?_<;>simp(disch:=first|omega|fail) only[push_cast,seval,vrl,if_pos,if_neg]
theorem m81{nl:Nat}{zs:List Int}(hl:zs.length≤60000):o25 W 50 [.own 0 []] [.sl nl 3 1 (ivs zs)]=some (.tup [],[],[.sl nl 3 1 (ivs (zs.mergeSort fun x y=>decide (x≤y)))]):=by
 have hbl:=wq9 (n:=zs.length) (by omega)
 obtain⟨d',h1,h2,h3⟩:=a06 (yg3 nl (zs.length+1) 0 zs.length (Sort.bitsLen zs.length) true true zs.toArray (by omega) (by omega) (by simp) (by simpa using hl) (by omega) (.inl rfl))
 have hu:=Sort.sorted_unique_holds Sort.swo_ltInt (fun x y h1 h2=>by
  have a1:=of_decide_eq_false h1
  have a2:=of_decide_eq_false h2
  omega) zs.toArray d' (by simpa using h1) (by simpa using h2)
 have he:(fun x y:Int=> !Sort.ltInt y x)=fun x y=>decide (x≤y):=funext fun x=>funext fun y=>by
  unfold Sort.ltInt
  rw[←decide_not]
  exact zv8.2 (by omega)
 rw[he]at hu
 simp only[List.toList_toArray]at hu h3
 rw[hu]at h3
 have e1:=ub0 (n:=zs.length) (by omega)
 have hw:IntKind.wrap .u64 (zs.length:Int)=(zs.length:Int):=by
  unfold IntKind.wrap
  simp[IntKind.bits,IntKind.signed]
  omega
 rw[vx9]at h3
 generalize zs.mergeSort (fun x y=>decide (x≤y))=zs' at*
 rw[o10 rfl T50 rfl]
 unfold F50 c50
 simp(disch:=first|omega|fail) only[push_cast,seval,vrl,if_pos,if_neg,hw,e1,h3]
end Go.Proofs.YtppbpgmdmiajcaaGreat
namespace Go.Proofs.YtppbpgmdmiajcaaGreat
open Go.Am Go.Vm Go.Alg
def mvs:List Nat→List Tree
 | []=>[]
 |k::S=> .v (.int .i64 k):: .v (.bool true)::mvs S
theorem bs3{k:Nat}: ∀{S:List Nat} (i:Nat),k∈S→ ∃j,kg9 .i64 k i (mvs S)=some (some (i+j))∧(mvs S)[j]? =some (.v (.bool true))
 |a::S,i,h=>by
  by_cases e:(a:Int)=k
  ·refine⟨1, ?_,rfl⟩
   rw[mvs,kg9,if_pos rfl,if_pos e]
  ·obtain⟨j,h1,h2⟩:=bs3 (k:=k) (S:=S) (i+2) ((r04.1 h).resolve_left fun g=>e (by rw[g]))
   refine⟨j+2, ?_,by rw[mvs];exact h2⟩
   rw[mvs,kg9,if_pos rfl,if_neg e,h1,show i+2+j=i+(j+2) by omega]
theorem wb7{k:Nat}: ∀{S:List Nat} (i:Nat),k∉S→kg9 .i64 k i (mvs S)=some none
 | [],i,h=>by rw[mvs,kg9]
 |a::S,i,h=>by
  have e: ¬(a:Int)=k:=fun g=>h (by have:a=k:=by omega
                                   rw[this];exact rn8)
  rw[mvs,kg9,if_pos rfl,if_neg e,wb7 (i+2) fun g=>h (iz7 _ g)]
theorem oj1{k:Nat}: ∀{S:List Nat},k∉S→pr0 .i64 k (.v (.bool true)) (mvs S)=some (mvs (S++[k]))
 | [],h=>rfl
 |a::S,h=>by
  have e: ¬(a:Int)=k:=fun g=>h (by have:a=k:=by omega
                                   rw[this];exact rn8)
  rw[mvs,pr0,if_pos rfl,if_neg e,oj1 fun g=>h (iz7 _ g)]
  rfl
attribute [push_cast] vmap VM.cs VM.ld
def nvs(l:List Nat):List Int:=l.map Int.ofNat
theorem cg0(l:List Nat)(i:Nat):nvs (l++[i])=nvs l++[(i:Int)]:=by unfold nvs;rw[hm3];rfl
theorem sd2(l:List Nat):(nvs l).length=l.length:=by unfold nvs;rw[q11]
theorem eo9(i q n:Nat):((i:Int)*(q:Int)).tmod (n:Int)=((i*q%n:Nat):Int):=by
 rw[←id0,dl5 (cw7 _)];rfl
theorem gb7{q n k:Nat}(hq:q≤64)(h0:0<n)(hn:n≤64)(hk:k≤64){T8:Tree}{e:Nat}: ∀(m:Nat) (S:List Nat) (i:Nat) (l L:List Nat),i<n→m+l.length≤100→orb q n m S i=some L→ ∀ks,
 vgoL W ⟨h10,[.tmp 4, .tmp 5],0⟩ [0,1,8,9,11,12,33,34] c10L0 (.blk 2 [0,1,8,9,11,33,34]::ks) [(0, .x (.int .i64 q)),(1, .x (.int .i64 n)),(8, .own 0 []),(9, .own 1 []),(11, .own 2 []),(12, .x (.int .i64 i)),(33, .x (.int .i64 n)),(34, .x (.int .i64 k))] [T8, .mp e (mvs S), .sl 1 3 1 (ivs (nvs l))]=
  vgo W ⟨h10,[.tmp 4, .tmp 5],0⟩ ks (VFr.of [(0, .x (.int .i64 q)),(1, .x (.int .i64 n)),(8, .own 0 []),(9, .own 1 []),(11, .own 2 []),(33, .x (.int .i64 n)),(34, .x (.int .i64 k))]) [T8, .mp e (mvs (S++L)), .sl 1 3 1 (ivs (nvs (l++L)))]
 |0,S,i,l,L,hi,hm,hL,ks=>by cases hL
 |m+1,S,i,l,L,hi,hm,hL,ks=>by
  rw[orb]at hL
  by_cases hS:i∈S
  ·rw[if_pos hS]at hL
   cases hL
   obtain⟨j,f1,f2⟩:=bs3 0 hS
   rw[e02]at f1
   rw[nw0,nw0,sb5 c10L0.eq_def]
   simp(disch:=first|omega|fail) only[push_cast,seval,vrl,if_pos,if_neg,f1,f2]
  ·rw[if_neg hS]at hL
   cases hr:orb q n m (S++[i]) (i*q%n)with
   |none=>rw[hr]at hL;cases hL
   |some L'=>
    rw[hr]at hL
    have hL:i::L'=L:=pk4 hL
    subst hL
    have hlt:i*q%n<n:=gn6 _ h0
    have ih:=gb7 hq h0 hn hk (T8:=T8) (e:=e) m (S++[i]) (i*q%n) (l++[i]) L' hlt (by simp;omega) hr ks
    have f1:=wb7 0 hS
    have f2:=oj1 hS
    have f3:=eo9 i q n
    have hb:i*q≤64*64:=Nat.mul_le_mul (by omega) hq
    have hb2:(i:Int)*(q:Int)≤4096:=by rw[←id0];omega
    have hb3:0≤(i:Int)*(q:Int):=by rw[←id0];omega
    have hl:=sd2 l
    rw[eh9,eh9]at ih
    rw[show i::L'=[i]++L' from rfl,←ih,cg0,sb5 c10L0.eq_def]
    generalize i*q%n=i' at*
    simp(disch:=first|omega|fail) only[push_cast,seval,vrl,if_pos,if_neg,f1,f2,f3]
def rowN(n:Nat)(c:List Nat):List Int:=nvs (setC n c)
def cosR(q n:Nat):List (List Int):=(cosA q n).map (rowN n)
theorem tm4{q n:Nat}(hq:q≤64)(hn:n≤64)(hc:Nat.Coprime n q): ∀(m k:Nat) (S:List Nat) (out:List (List Int)),k+m=n→ClN q n S→out.length+m≤64→ ∀(e:Nat),∃X:Tree,∀ks,
 vgoL W ⟨h10,[.tmp 4, .tmp 5],0⟩ [0,1,8,9,33,34] c10L1 (.blk 0 [8]::ks) [(0, .x (.int .i64 q)),(1, .x (.int .i64 n)),(8, .own 0 []),(9, .own 1 []),(33, .x (.int .i64 n)),(34, .x (.int .i64 k))] [.sl 1 22 1 (lls 2 out), .mp e (mvs S)]=
  vgo W ⟨h10,[.tmp 4, .tmp 5],0⟩ ks (VFr.of [(8, .own 0 [])]) [.sl 1 22 1 (lls 2 (out++(cosL q n m k S).map (rowN n))),X]
 |0,k,S,out,hk,hS,ho,e=>by
  refine⟨.mp e (mvs S),fun ks=> ?_⟩
  rw[cosL,gw5,nw0,sb5 c10L1.eq_def]
  simp(disch:=first|omega|fail) only[push_cast,seval,vrl,if_pos,if_neg]
 |m+1,k,S,out,hk,hS,ho,e=>by
  rw[cosL]
  by_cases hkS:k∈S
  ·obtain⟨X,ih⟩:=tm4 hq hn hc m (k+1) S out (by omega) hS (by omega) e
   refine⟨X,fun ks=> ?_⟩
   have ih:=ih ks
   rw[e96,g71]at ih
   obtain⟨j,f1,f2⟩:=bs3 0 hkS
   rw[e02]at f1
   rw[if_pos hkS,←ih,sb5 c10L1.eq_def]
   simp(disch:=first|omega|fail) only[push_cast,seval,vrl,if_pos,if_neg,f1,f2]
  ·have w:=he7 hc hn hS (show k<n by omega) hkS
   obtain⟨X,ih⟩:=tm4 hq hn hc m (k+1) (S++orbT q n k) (out++[rowN n (orbT q n k)]) (by omega) w.app (by simp;omega) e
   refine⟨X,fun ks=> ?_⟩
   have ih:=ih ks
   rw[e96,g71,eh9]at ih
   have f1:=wb7 0 hkS
   have e1:=fun ks=>gb7 (k:=k) (e:=e) (T8:= .sl 1 22 1 (lls 2 out)) hq (by omega) hn (by omega) 65 S k [] (orbT q n k) (by omega) (by simp) w.orb ks
   rw[m51,show ivs (nvs [])=[]from rfl]at e1
   have l1:(orbT q n k).length≤64:=by
    have:=w.nodup.length_le_of_subset (l₂:=List.range n) fun x hx=>l16.2 (w.lt x hx)
    rw[w64]at this
    omega
   have l2:=sd2 (orbT q n k)
   have e2: ∀nl,o25 W 50 [.own 0 []] [.sl nl 3 1 (ivs (nvs (orbT q n k)))]=some (.tup [],[],[.sl nl 3 1 (ivs (rowN n (orbT q n k)))]):=fun nl=>by
    rw[m81 (by omega)]
    have:=vt7 w.nodup w.lt
    unfold rowN
    unfold nvs
    rw[this]
   rw[if_neg hkS,nf9,show∀(a:List Int) l,a::l=[a]++l from fun _ _=>rfl,←ih,sb5 c10L1.eq_def]
   simp(disch:=first|omega|fail) only[push_cast,seval,vrl,if_pos,if_neg,f1]
   rw[e1]
   generalize nvs (orbT q n k)=z1 at*
   generalize rowN n (orbT q n k)=z2 at*
   simp(disch:=first|omega|fail) only[push_cast,seval,vrl,if_pos,if_neg,e2]
end Go.Proofs.YtppbpgmdmiajcaaGreat
namespace Go.Proofs.YtppbpgmdmiajcaaGreat
open Go.Am Go.Alg
def tw1(n:Nat):Bool:=match fldN n with
 |none=>true
 |some (p,m,g,mod)=>((List.range n).all fun c:Nat=>decide (fpow n (fadd n c 1) p=fadd n (fpow n c p) 1))&&((List.range n).all fun c:Nat=>decide (fpow n c p=c)==decide ((c:Int)<p))
theorem ze6:((List.range 63).all fun n=>tw1 (n+2))=true:=by kernel_rfl
section
variable {q:Int} [h:IsFld q]
theorem pw_v(x:El q): ∀n:Nat,(pw x n).v=powI q x.v n
 |0=>rfl
 |n+1=>by rw[pw,ym6,pw_v x n,powI]
theorem n00(x:El q)(n:Nat):fpow q x.v n=(pw x n).v:=by
 obtain⟨p,m,g,mod,hn⟩:=h.ok
 obtain⟨hf,t,_⟩:=jj8 hn
 rw[pw_v]
 cases n with
 |zero=>
  rw[fpow,x.ok]
  show(bif !true||((x.v==0)&&decide (((0:Nat):Int)<0))then _ else _)=_
  rw[lx1 (by omega),Bool.and_false];rfl
 |succ n=>exact(v22 t hf.q2 ⟨x.lo,x.hi⟩ (n+1) (by omega)).symm
def chN(q:Int):Nat:=(fch q).toNat
theorem ag7:2≤chN q∧((chN q:Nat):Int)=fch q:=by
 obtain⟨p,m,g,mod,hn⟩:=h.ok
 have:=(jj8 hn).1.p2
 unfold chN
 rw[(y65 hn).1]
 omega
theorem c07:(∀c:El q,pw (c+1) (chN q)=pw c (chN q)+1)∧ ∀c:El q,pw c (chN q)=c↔c.v<fch q:=by
 obtain⟨p,m,g,mod,hn⟩:=h.ok
 obtain⟨h2,h64⟩:=ug0 hn
 have hq:((q.toNat:Nat):Int)=q:=by omega
 have hc:=p92.1 ze6 (q.toNat-2) (l16.2 (by omega))
 rw[show q.toNat-2+2=q.toNat by omega]at hc
 unfold tw1 at hc
 rw[hn]at hc
 simp only[b83,p92,l16,jn8]at hc
 rw[hq]at hc
 have hp:=ag7 (q:=q)
 rw[(y65 hn).1]at hp
 refine⟨fun c=>El.ext' ?_,fun c=> ?_⟩
 ·have h1:=hc.1 c.v.toNat (by have:=c.hi;omega)
  rw[show((c.v.toNat:Nat):Int)=c.v by have:=c.lo;omega,←hp.2,n00 c]at h1
  rw[←n00,on0,on0,wh3]
  exact h1
 ·rw[(y65 hn).1]
  have h1:=hc.2 c.v.toNat (by have:=c.lo;have:=c.hi;omega)
  rw[show((c.v.toNat:Nat):Int)=c.v by have:=c.lo;omega,←hp.2,n00 c,hp.2]at h1
  have h3:=zv8.1 (ui3.1 h1)
  exact⟨fun e=>h3.1 (by rw[e]),fun e=>El.ext' (h3.2 e)⟩
end
section
variable {K:Type} [FK K]
theorem wp4(a b:K): ∀n,pw (a*b) n=pw a n*pw b n
 |0=>(one_mul _).symm
 |n+1=>by rw[pw,pw,pw,wp4 a b n];ac_rfl
theorem se5: ∀n,pw (1:K) n=1
 |0=>rfl
 |n+1=>by rw[pw,se5 n,FK.mul_one]
theorem ii7{n:Nat}(hn:n≠0):pw (0:K) n=0:=by
 obtain⟨n,rfl⟩: ∃k,n=k+1:=⟨n-1,by omega⟩
 rw[pw,mul_zero]
theorem b33(a:K)(m:Nat): ∀n,pw (pw a m) n=pw a (m*n)
 |0=>rfl
 |n+1=>by
  rw[pw,b33 a m n,Nat.mul_succ]
  generalize m*n=k
  induction m with
  |zero=>rw[pw,FK.mul_one];rfl
  |succ m ih=>rw[pw,←FK.mul_assoc,ih];rfl
end
section
variable {q:Int} [h:IsFld q]
theorem lk9(a b:El q):pw (a+b) (chN q)=pw a (chN q)+pw b (chN q):=by
 have h2:=(ag7 (q:=q)).1
 by_cases hb:b=0
 ·rw[hb,FK.add_zero,ii7 (by omega),FK.add_zero]
 ·have h1:=(c07 (q:=q)).1 (a*FK.inv b)
  have e:a+b=(a*FK.inv b+1)*b:=by rw[add_mul,FK.mul_assoc,inv_mul hb,FK.mul_one,one_mul]
  rw[e,wp4,h1,add_mul,one_mul,←wp4,FK.mul_assoc,inv_mul hb,FK.mul_one]
theorem pw_q(a:El q):pw a q.toNat=a:=El.ext' (by
 obtain⟨p,m,g,mod,hn⟩:=h.ok
 obtain⟨hf,t,_⟩:=jj8 hn
 have h2:=hf.q2
 rw[←n00,show((q.toNat:Nat):Int)=q by omega]
 by_cases h0:a.v=0
 ·rw[h0,fpow,iy2 ⟨Int.le_refl _,by omega⟩,lx1 (by omega),show(q==0)=false by simp;omega]
  rfl
 ·have l1:=t.lr a.v (by have:=a.lo;omega) a.hi
  rw[fpow,a.ok,show(a.v==0)=false by simpa using h0,show(q==0)=false by simp;omega]
  show fexp q (flog q a.v*(q%(q-1))%(q-1))=a.v
  have e:flog q a.v*(q%(q-1))%(q-1)=flog q a.v:=by
   rw[mw3 (flog q a.v) (q%(q-1)),Int.emod_emod,←mw3,show flog q a.v*q=flog q a.v+(q-1)*flog q a.v by rw[Int.sub_mul,vq0,pc1];omega,Int.add_mul_emod_self_left,b16 l1.1 l1.2.1]
  rw[e,l1.2.2])
theorem pv2:(chN q)^(fdg q)=q.toNat∧1≤fdg q:=by
 obtain⟨p,m,g,mod,hn⟩:=h.ok
 have hf:=(jj8 hn).1
 have hc:=ag7 (q:=q)
 rw[(y65 hn).1]at hc
 rw[(y65 hn).2]
 constructor
 ·have:=hf.pm
  rw[←hc.2,←Int.natCast_pow]at this
  omega
 ·refine Nat.one_le_iff_ne_zero.2 fun e=> ?_
  have h1:=hf.pm
  have h2:=hf.q2
  rw[e,Int.pow_zero]at h1
  omega
theorem zw2(a b:El q): ∀k,pw (a+b) (chN q^k)=pw a (chN q^k)+pw b (chN q^k)
 |0=>by rw[Nat.pow_zero,show pw (a+b) 1=a+b from one_mul _,show pw a 1=a from one_mul _,show pw b 1=b from one_mul _]
 |k+1=>by rw[Nat.pow_succ,←b33,←b33,←b33,zw2 a b k,lk9]
end
end Go.Proofs.YtppbpgmdmiajcaaGreat
