/-
  What syndromeref's F.Mul, Neg, Add and Sub compute, as the table's numbers. Conditions: a field of the table. What syndromeref's F.Add and F.Sub compute. Conditions: a field of the table. What syndrom ..
-/
import Derived.Test.YtoglhlonhmmieaaKFM0
import Derived.Test.YtoglhlonhmmieaaKFM1
import Derived.Test.YtoglhlonhmmieaaKFM2
import Derived.Test.YtoglhlonhmmieaaKFM3
import Derived.Test.YtoglhlonhmmieaaKFM4
import Derived.Test.YtoglhlonhmmieaaK5
import Derived.Test.YtoglhlonhmmieaaK2
set_option linter.unusedVariables false
set_option linter.unusedSimpArgs false
set_option linter.unusedSectionVars false
set_option maxRecDepth 100000
namespace Go.Proofs.Ytoglhlonhmmieaa
open Go.Am
section
variable {h:H} {q p:Int} {m:Nat} {g:Int} {mod:List Int} {om cm:Nat}
end
section
variable {h:H} {q p:Int} {m:Nat} {g:Int} {mod:List Int} {om cm:Nat}
end
section
variable {q p g:Int} {m:Nat} {mod:List Int}
theorem js7(t:Tabs q g){a b:Int}(ha:1≤a∧a<q)(hb:1≤b∧b<q):fmul q a b=fexp q ((flog q a+flog q b)%(q-1)):=by
 rw[fmul,iy2 ⟨by omega,ha.2⟩,iy2 ⟨by omega,hb.2⟩,show(a==0)=false by simp;omega,show(b==0)=false by simp;omega];rfl
theorem zd3(t:Tabs q g)(hq:2≤q)(i:Int):1≤fexp q (i%(q-1))∧fexp q (i%(q-1))<q∧flog q (fexp q (i%(q-1)))=i%(q-1):=
 t.er _ (Int.emod_nonneg _ (by omega)) (Int.emod_lt_of_pos _ (by omega))
theorem aj3(t:Tabs q g){a:Int}(ha:1≤a∧a<q):finv q a=fexp q ((q-1-flog q a)%(q-1)):=by
 rw[finv,iy2 ⟨by omega,ha.2⟩,show(a==0)=false by simp;omega];rfl
theorem ea4(t:Tabs q g)(hq:2≤q){a:Int}(ha:1≤a∧a<q):(1≤finv q a∧finv q a<q)∧fmul q a (finv q a)=1:=by
 have h1:=zd3 t hq (q-1-flog q a)
 rw[←aj3 t ha]at h1
 refine⟨⟨h1.1,h1.2.1⟩, ?_⟩
 rw[js7 t ha ⟨h1.1,h1.2.1⟩,h1.2.2,Int.add_emod_emod,show flog q a+(q-1-flog q a)=q-1 by omega,Int.emod_self]
 exact t.e0
theorem np3(t:Tabs q g)(hq:2≤q)(hg:1≤g∧g<q)(k:Int):fmul q (fexp q (k%(q-1))) g=fexp q ((k+1)%(q-1)):=by
 have h1:=zd3 t hq k
 rw[js7 t ⟨h1.1,h1.2.1⟩ hg,h1.2.2,t.lg,Int.emod_add_emod,Int.add_emod_emod]
end
section
variable {h:H} {q p:Int} {m:Nat} {g:Int} {mod:List Int} {om cm:Nat}
end
section
variable {h:H} {q p:Int} {m:Nat} {g:Int} {mod:List Int} {om cm:Nat}
end
section
variable {h:H} {q p:Int} {m:Nat} {g:Int} {mod:List Int} {om cm:Nat}
end
section
variable {h:H} {F:Nat} {q p:Int} {m:Nat} {g:Int} {mod:List Int} {E L om fm cm:Nat}
end
section
variable {h:H} {q p:Int} {m:Nat} {g:Int} {mod:List Int} {om cm:Nat}
end
section
variable {h:H} {F F':Nat} {q p:Int} {m:Nat} {g:Int} {mod:List Int} {E L om fm cm:Nat} {s p':Int} {m':Nat} {g':Int} {mod':List Int} {E' L' om' fm' cm':Nat}
end
end Go.Proofs.Ytoglhlonhmmieaa
namespace Go.Proofs.Ytoglhlonhmmieaa
open Go.Am Go.Vm
section
variable {h:H} {F:Nat} {q p:Int} {m:Nat} {g:Int} {mod:List Int} {E L om fm cm:Nat}
end
end Go.Proofs.Ytoglhlonhmmieaa
namespace Go.Am
def bin:Nat→Nat→Nat
 |_,0=>1
 |0,_+1=>0
 |n+1,k+1=>bin n k+bin n (k+1)
theorem m51(n:Nat):bin n 0=1:=by cases n<;>rfl
theorem e18: ∀n k:Nat,(k+1)*bin n (k+1)+k*bin n k=n*bin n k
 |0,0=>rfl
 |0,k+1=>by simp[bin]
 |n+1,0=>by have:=e18 n 0;simp[bin,m51]at this⊢;omega
 |n+1,k+1=>by
  have h1:=e18 n k
  have h2:=e18 n (k+1)
  simp only[bin]
  generalize bin n k=a at*
  generalize bin n (k+1)=b at*
  generalize bin n (k+1+1)=c at*
  grind
theorem wd9: ∀n k:Nat,n<k→bin n k=0
 |0,0,h=>by omega
 |0,k+1,_=>rfl
 |n+1,0,h=>by omega
 |n+1,k+1,h=>by simp only[bin];rw[wd9 n k (by omega),wd9 n (k+1) (by omega)]
theorem s77: ∀n k:Nat,bin n k≤2^n
 |0,0=>by simp[bin]
 |0,k+1=>by simp[bin]
 |n+1,0=>by have:=Nat.one_le_two_pow (n:=n+1);simp only[bin];omega
 |n+1,k+1=>by
  have h1:=s77 n k
  have h2:=s77 n (k+1)
  simp only[bin]
  rw[Nat.pow_succ];omega
theorem rk7{n i:Nat}(hi:i<n):(((bin n i:Nat):Int)*((n:Int)-(i:Int))).tdiv ((i:Int)+1)=((bin n (i+1):Nat):Int):=by
 have h:=e18 n i
 have e:(((bin n i:Nat):Int)*((n:Int)-(i:Int)))=((bin n (i+1):Nat):Int)*((i:Int)+1):=by
  have h':(((i+1)*bin n (i+1)+i*bin n i:Nat):Int)=((n*bin n i:Nat):Int):=by rw[h]
  simp only[Int.natCast_add,Int.natCast_mul,Int.natCast_one]at h'
  grind
 rw[e,Int.mul_tdiv_cancel _ (by omega)]
def sm(f:Nat→Int):Nat→Int
 |0=>0
 |n+1=>sm f n+f n
theorem vh6{f g:Nat→Int}: ∀{n:Nat},(∀t,t<n→f t=g t)→sm f n=sm g n
 |0,_=>rfl
 |n+1,h=>by simp only[sm];rw[vh6 fun t ht=>h t (by omega),h n (by omega)]
theorem qa1(f g:Nat→Int): ∀n:Nat,sm (fun t=>f t+g t) n=sm f n+sm g n
 |0=>rfl
 |n+1=>by simp only[sm];rw[qa1 f g n];omega
theorem xf3(c:Int)(f:Nat→Int): ∀n:Nat,sm (fun t=>c*f t) n=c*sm f n
 |0=>by simp[sm]
 |n+1=>by simp only[sm];rw[xf3 c f n,Int.mul_add]
theorem eb2{f:Nat→Int}{n:Nat}(h: ∀t,t<n→f t=0):sm f n=0:=by
 induction n with
 |zero=>rfl
 |succ n ih=>simp only[sm];rw[ih fun t ht=>h t (by omega),h n (by omega)];rfl
def sgn(j:Nat):Int:=if j%2=1 then-1 else 1
theorem yy7(j:Nat):sgn (j+1)= -sgn j:=by
 unfold sgn
 by_cases h:j%2=1
 ·rw[if_neg (by omega),if_pos h];rfl
 ·rw[if_pos (by omega),if_neg h]
def qb(Q:Int)(r i:Nat):Int:=((bin r i:Nat):Int)*Q^i
theorem vk9(Q:Int)(r:Nat):qb Q r 0=1:=by simp[qb,m51]
theorem ak5(Q:Int)(r i:Nat):qb Q (r+1) (i+1)=qb Q r (i+1)+Q*qb Q r i:=by
 unfold qb
 simp only[bin,Int.natCast_add]
 rw[Int.pow_succ]
 grind
def sb(x j:Nat):Int:=sgn j*((bin x j:Nat):Int)
theorem o69(x j:Nat):sb (x+1) (j+1)=sb x (j+1)-sb x j:=by
 unfold sb
 simp only[bin,Int.natCast_add]
 rw[yy7]
 grind
def kA(Q:Int)(x:Nat):Nat→Nat→Int
 |0,0=>1
 |0,_+1=>0
 |i+1,0=>kA Q x i 0
 |i+1,j+1=>kA Q x i (j+1)+(if i<x then-1 else Q)*kA Q x i j
def kS(Q:Int)(x r k:Nat):Int:=sm (fun t=>sb x t*qb Q r (k-t)) (k+1)
theorem r15(Q:Int)(x:Nat): ∀i j:Nat,i≤x→kA Q x i j=sb i j
 |0,0,_=>by simp[kA,sb,sgn,bin]
 |0,j+1,_=>by simp[kA,sb,bin]
 |i+1,0,h=>by rw[kA,r15 Q x i 0 (by omega)];simp[sb,m51]
 |i+1,j+1,h=>by
  rw[kA,r15 Q x i _ (by omega),r15 Q x i _ (by omega),if_pos (by omega),o69]
  omega
theorem iw9(Q:Int)(x r k:Nat):kS Q x (r+1) (k+1)=kS Q x r (k+1)+Q*kS Q x r k:=by
 unfold kS
 have s: ∀f:Nat→Int,sm f (k+1+1)=sm f (k+1)+f (k+1):=fun _=>rfl
 rw[s,s]
 have e: ∀t,t<k+1→sb x t*qb Q (r+1) (k+1-t)=sb x t*qb Q r (k+1-t)+Q*(sb x t*qb Q r (k-t)):=by
  intro t ht
  rw[show k+1-t=(k-t)+1 by omega,ak5]
  grind
 rw[vh6 e,qa1,xf3,Nat.sub_self,vk9,vk9]
 omega
theorem wp4(Q:Int)(x:Nat): ∀r j:Nat,kA Q x (x+r) j=kS Q x r j
 |0,j=>by
  rw[Nat.add_zero,r15 Q x x j (Nat.le_refl _)]
  unfold kS
  rw[sm,Nat.sub_self,vk9,eb2 fun t ht=> ?_]
  ·omega
  ·unfold qb
   rw[show j-t=(j-t-1)+1 by omega]
   simp[bin]
 |r+1,0=>by
  rw[←Nat.add_assoc,kA,wp4 Q x r 0]
  simp[kS,sm,vk9]
 |r+1,j+1=>by
  rw[←Nat.add_assoc,kA,wp4 Q x r (j+1),wp4 Q x r j,if_neg (by omega),iw9]
def W(x:Int):Int:=IntKind.wrap .i64 x
theorem ll2(x:Int):IntKind.wrap .i64 x=W x:=rfl
theorem W_ex(x:Int): ∃t:Int,W x=x+18446744073709551616*t:=by
 unfold W;rw[IntKind.wrap_i64]
 exact⟨-((x+9223372036854775808)/18446744073709551616),by omega⟩
theorem mr5(x t:Int):W (x+18446744073709551616*t)=W x:=by
 unfold W;rw[IntKind.wrap_i64,IntKind.wrap_i64];omega
theorem kp5(a b:Int):W (W a+b)=W (a+b):=by
 obtain⟨t,ht⟩:=W_ex a
 rw[ht,←mr5 (a+b) t];congr 1;omega
theorem yi1(a b:Int):W (a+W b)=W (a+b):=by rw[Int.add_comm,kp5,Int.add_comm]
theorem tq7(a b:Int):W (W a*b)=W (a*b):=by
 obtain⟨t,ht⟩:=W_ex a
 rw[ht,←mr5 (a*b) (t*b)];congr 1;grind
theorem bn7(a:Int):W (0-W a)=W (0-a):=by
 obtain⟨t,ht⟩:=W_ex a
 rw[ht,←mr5 (0-a) (-t)];congr 1;omega
theorem W_id{a:Int}(h1: -9223372036854775808≤a)(h2:a≤9223372036854775807):W a=a:=wrap64 h1 h2
end Go.Am
namespace Go.Proofs.Ytoglhlonhmmieaa
open Go.Am
def capP(q:Int):Nat→Int→Int
 |0,p=>p
 |n+1,p=>if 1073741824<p*q then-1 else capP q n (p*q)
section
variable {q:Int}
theorem ww3(h2:2≤q)(h64:q≤64)(h:H)(N:Int)(hN:N≤9223372036854775807): ∀(n:Nat) (i p:Int),0≤i→i+n=N→1≤p→p≤1073741824→ ∀ks,(∀fr,go T [.tmp 4] ks fr h=go T [.tmp 4] ks fr h)→
 goL T [.tmp 4] [0,5,6,7] c52L0 (.blk 0 [5]:: .code (.seq (.region [⟨some 15, .mv (.tmp 5),none,false⟩,⟨some 4, .mv (.tmp 15),none,false⟩]) .ret)::ks) [(0, .int .i64 q),(5, .int .i64 p),(6, .int .i64 N),(7, .int .i64 i)] h=
  some (.int .i64 (capP q n p),h)
 |0,i,p,h0,hi,p1,p2,ks,_=>by
  rw[ur1 c52L0.eq_def]
  have hle:N≤i:=by omega
  simp(disch:=first|omega|(simp only[rl9,wi2,q89]<;>omega)|fail) only[push_cast,seval,cw6 hle]
  rw[capP]
 |n+1,i,p,h0,hi,p1,p2,ks,hks=>by
  have hlt:i<N:=by omega
  have hm:0≤p*q∧p*q≤68719476736:=⟨Int.mul_nonneg (by omega) (by omega),by
   have:=Int.mul_le_mul p2 h64 (by omega) (by omega);omega⟩
  have hm1:1≤p*q:=by
   have:=Int.mul_le_mul_of_nonneg_left h2 (show 0≤p by omega);omega
  rw[ur1 c52L0.eq_def,capP]
  by_cases hb:1073741824<p*q
  ·rw[if_pos hb]
   simp(disch:=first|omega|(simp only[rl9,wi2,q89]<;>omega)|fail) only[push_cast,seval,dec_lt hlt,wrap64,dec_lt hb]
  ·rw[if_neg hb,←ww3 h2 h64 h N hN n (i+1) (p*q) (by omega) (by omega) hm1 (by omega) ks hks]
   simp(disch:=first|omega|(simp only[rl9,wi2,q89]<;>omega)|fail) only[push_cast,seval,dec_lt hlt,wrap64,cw6 (Int.not_lt.1 hb)]
theorem wc1(h2:2≤q)(h64:q≤64)(n:Int)(hn:0≤n)(hn2:n≤9223372036854775807)(h:H):call T 52 [.int .i64 q, .int .i64 n] h=some (.int .i64 (capP q n.toNat 1),h):=by
 rw[wn8 T52 rfl]
 unfold F52 c52
 simp(disch:=first|omega|(simp only[rl9,wi2,q89]<;>omega)|fail) only[push_cast,seval]
 exact ww3 h2 h64 h n hn2 n.toNat 0 1 (by omega) (by omega) (by omega) (by omega) [] (fun _=>rfl)
theorem nl5(h2:2≤q)(h64:q≤64)(h:H)(N:Int)(hN:N≤9223372036854775807): ∀(n:Nat) (i p:Int),0≤i→i+n=N→1≤p→p≤1073741824→ ∀ks,
 goL T [.tmp 4] [0,1,5,6] c13L0 (.blk 0 [5]:: .code (.seq (.region [⟨some 17, .mv (.tmp 5),none,false⟩,⟨some 4, .mv (.tmp 17),none,false⟩]) .ret)::ks) [(0, .int .i64 q),(1, .int .i64 N),(5, .int .i64 p),(6, .int .i64 i)] h=
  some (.int .i64 (capP q n p),h)
 |0,i,p,h0,hi,p1,p2,ks=>by
  rw[ur1 c13L0.eq_def]
  have hle:N≤i:=by omega
  simp(disch:=first|omega|(simp only[rl9,wi2,q89]<;>omega)|fail) only[push_cast,seval,cw6 hle]
  rw[capP]
 |n+1,i,p,h0,hi,p1,p2,ks=>by
  have hlt:i<N:=by omega
  have hm:0≤p*q∧p*q≤68719476736:=⟨Int.mul_nonneg (by omega) (by omega),by
   have:=Int.mul_le_mul p2 h64 (by omega) (by omega);omega⟩
  have hm1:1≤p*q:=by
   have:=Int.mul_le_mul_of_nonneg_left h2 (show 0≤p by omega);omega
  rw[ur1 c13L0.eq_def,capP]
  by_cases hb:1073741824<p*q
  ·rw[if_pos hb]
   simp(disch:=first|omega|(simp only[rl9,wi2,q89]<;>omega)|fail) only[push_cast,seval,dec_lt hlt,wrap64,dec_lt hb]
  ·rw[if_neg hb,←nl5 h2 h64 h N hN n (i+1) (p*q) (by omega) (by omega) hm1 (by omega) ks]
   simp(disch:=first|omega|(simp only[rl9,wi2,q89]<;>omega)|fail) only[push_cast,seval,dec_lt hlt,wrap64,cw6 (Int.not_lt.1 hb)]
theorem ca9(h2:2≤q)(h64:q≤64)(n:Int)(hn:0≤n)(hn2:n≤9223372036854775807)(h:H):call T 13 [.int .i64 q, .int .i64 n] h=some (.int .i64 (capP q n.toNat 1),h):=by
 rw[wn8 T13 rfl]
 unfold F13 c13
 simp(disch:=first|omega|(simp only[rl9,wi2,q89]<;>omega)|fail) only[push_cast,seval]
 exact nl5 h2 h64 h n hn2 n.toNat 0 1 (by omega) (by omega) (by omega) (by omega) []
end
theorem fk3{n k:Nat}(hn:n≤30):((bin n k:Nat):Int)≤1073741824:=by
 have h1:=s77 n k
 have h2:2^n≤2^30:=Nat.pow_le_pow_right (by omega) hn
 have:bin n k≤1073741824:=by omega
 omega
theorem ry1(h:H)(n:Nat)(hn:n≤30)(k:Nat)(hk:k≤n): ∀(m i:Nat),i+m=k→ ∀ks,
 goL T [.tmp 4] [0,5,14,15] c99L0 (.blk 0 [5]::ks) [(0, .int .i64 n),(5, .int .i64 (bin n i:Nat)),(14, .int .i64 k),(15, .int .i64 i)] h=
  go T [.tmp 4] ks (Fr.of [(5, .int .i64 (bin n k:Nat))]) h
 |0,i,hi,ks=>by
  rw[ur1 c99L0.eq_def]
  obtain rfl:i=k:=by omega
  simp(disch:=first|omega|(simp only[rl9,wi2,q89]<;>omega)|fail) only[push_cast,seval,cw6 (Int.le_refl _)]
 |m+1,i,hi,ks=>by
  have hlt:(i:Int)<(k:Int):=by omega
  have hs:=fk3 (k:=i) hn
  have hm:0≤((bin n i:Nat):Int)*((n:Int)-(i:Int))∧((bin n i:Nat):Int)*((n:Int)-(i:Int))≤1073741824*30:=⟨Int.mul_nonneg (by omega) (by omega),Int.mul_le_mul hs (by omega) (by omega) (by omega)⟩
  have hst:=rk7 (n:=n) (i:=i) (by omega)
  have hs2:=fk3 (k:=i+1) hn
  have hz: ¬(i:Int)+1=0:=by omega
  have ih:=ry1 h n hn k hk m (i+1) (by omega) ks
  rw[Int.natCast_add,Int.natCast_one]at ih
  rw[ur1 c99L0.eq_def,←ih]
  simp(disch:=first|omega|(simp only[rl9,wi2,q89]<;>omega)|fail) only[push_cast,seval,dec_lt hlt,wrap64,hz,hst]
theorem ua8(n k:Nat)(hn:n≤30)(hk:k≤1000)(h:H):call T 99 [.int .i64 n, .int .i64 k] h=some (.int .i64 (bin n k:Nat),h):=by
 have h0:(0:Int)≤(k:Int):=by omega
 rw[wn8 T99 rfl]
 unfold F99 c99
 by_cases hb:n<k
 ·have hlt:(n:Int)<(k:Int):=by omega
  rw[wd9 n k hb]
  simp(disch:=first|omega|(simp only[rl9,wi2,q89]<;>omega)|fail) only[push_cast,seval,cw6 h0,dec_lt hlt]
 ·have hle:(k:Int)≤(n:Int):=by omega
  have hl:=ry1 h n hn k (by omega) k 0 (by omega)
  rw[m51]at hl
  simp(disch:=first|omega|(simp only[rl9,wi2,q89]<;>omega)|fail) only[push_cast,seval,cw6 h0,cw6 hle]
  have hl':=hl [.code (.seq (.region [⟨some 27, .mv (.tmp 5),none,false⟩,⟨some 4, .mv (.tmp 27),none,false⟩]) .ret)]
  simp only[Int.natCast_zero,Int.natCast_one]at hl'
  rw[hl']
  simp(disch:=first|omega|(simp only[rl9,wi2,q89]<;>omega)|fail) only[push_cast,seval]
def mulW(Q:Int):Nat→Int→Int
 |0,t=>t
 |n+1,t=>mulW Q n (IntKind.wrap .i64 (t*Q))
theorem cn9(Q:Int): ∀(n:Nat) (a:Int),mulW Q n (IntKind.wrap .i64 a)=W (a*Q^n)
 |0,a=>by simp[mulW,W]
 |n+1,a=>by
  rw[mulW,ll2,ll2,tq7,←ll2,cn9 Q n (a*Q),Int.pow_succ]
  congr 1;grind
section
variable {q:Int}
theorem x23(h2:2≤q)(h64:q≤64)(h:H)(a1 a2 a3 a9 a10:Int)(N:Nat)(hN:N≤1000): ∀(m i:Nat) (t:Int),i+m=N→ ∀ks,
 goL T [.tmp 8] [0,1,2,3,9,10,11,30,31] c91L0 (.blk 2 [0,1,2,3,9,10,11]::ks) [(0, .int .i64 q),(1, .int .i64 a1),(2, .int .i64 a2),(3, .int .i64 a3),(9, .int .i64 a9),(10, .int .i64 a10),(11, .int .i64 t),(30, .int .i64 N),(31, .int .i64 i)] h=
  go T [.tmp 8] ks (Fr.of [(0, .int .i64 q),(1, .int .i64 a1),(2, .int .i64 a2),(3, .int .i64 a3),(9, .int .i64 a9),(10, .int .i64 a10),(11, .int .i64 (mulW (q-1) m t))]) h
 |0,i,t,hi,ks=>by
  rw[ur1 c91L0.eq_def]
  obtain rfl:i=N:=by omega
  rw[mulW]
  simp(disch:=first|omega|(simp only[rl9,wi2,q89]<;>omega)|fail) only[push_cast,seval,cw6 (Int.le_refl _)]
 |m+1,i,t,hi,ks=>by
  have hlt:(i:Int)<(N:Int):=by omega
  have ih:=x23 h2 h64 h a1 a2 a3 a9 a10 N hN m (i+1) (IntKind.wrap .i64 (t*(q-1))) (by omega) ks
  rw[Int.natCast_add,Int.natCast_one]at ih
  have h1:IntKind.wrap .i64 (q-1)=q-1:=wrap64 (by omega) (by omega)
  rw[ur1 c91L0.eq_def,mulW,←ih]
  have h3:IntKind.wrap .i64 ((i:Int)+1)=(i:Int)+1:=wrap64 (by omega) (by omega)
  simp(disch:=first|omega|(simp only[rl9,wi2,q89]<;>omega)|fail) only[push_cast,seval,dec_lt hlt,h1,h3]
def kf(q:Int)(x r k:Nat)(t:Nat):Int:=sb x t*qb (q-1) r (k-t)
theorem ga3(h2:2≤q)(h64:q≤64)(h:H)(n k x:Nat)(hn:n≤30)(hk:k≤n)(hx:x≤n): ∀(m j:Nat),j+m=k+1→ ∀ks,
 goL T [.tmp 8] [0,1,2,3,9,10] c91L1 (.blk 0 [9]::ks) [(0, .int .i64 q),(1, .int .i64 n),(2, .int .i64 k),(3, .int .i64 x),(9, .int .i64 (W (sm (kf q x (n-x) k) j))),(10, .int .i64 j)] h=
  go T [.tmp 8] ks (Fr.of [(9, .int .i64 (W (sm (kf q x (n-x) k) (k+1))))]) h
 |0,j,hj,ks=>by
  rw[ur1 c91L1.eq_def]
  obtain rfl:j=k+1:=by omega
  have hlt:(k:Int)<(k:Int)+1:=by omega
  simp(disch:=first|omega|(simp only[rl9,wi2,q89]<;>omega)|fail) only[push_cast,seval,qc6 hlt]
 |m+1,j,hj,ks=>by
  have hle:(j:Int)≤(k:Int):=by omega
  have e1:=ua8 x j (by omega) (by omega) h
  have e2:=ua8 (n-x) (k-j) (by omega) (by omega) h
  have c1:((n-x:Nat):Int)=(n:Int)-(x:Int):=by omega
  have c2:((k-j:Nat):Int)=(k:Int)-(j:Int):=by omega
  rw[c1,c2]at e2
  have w1:IntKind.wrap .i64 ((n:Int)-(x:Int))=(n:Int)-(x:Int):=wrap64 (by omega) (by omega)
  have w2:IntKind.wrap .i64 ((k:Int)-(j:Int))=(k:Int)-(j:Int):=wrap64 (by omega) (by omega)
  have w3:IntKind.wrap .i64 ((j:Int)+1)=(j:Int)+1:=wrap64 (by omega) (by omega)
  have e3:=fun ks=>x23 h2 h64 h n k x (W (sm (kf q x (n-x) k) j)) j (k-j) (by omega) (k-j) 0 (IntKind.wrap .i64 (((bin x j:Nat):Int)*((bin (n-x) (k-j):Nat):Int))) (by omega) ks
  simp only[c2,Int.natCast_zero,cn9]at e3
  have ih:=ga3 h2 h64 h n k x hn hk hx m (j+1) (by omega) ks
  have hm:(j:Int).tmod 2=((j%2:Nat):Int):=by rw[Int.tmod_eq_emod_of_nonneg (by omega)];omega
  have h20: ¬(2:Int)=0:=by omega
  rw[ur1 c91L1.eq_def,←ih,Int.natCast_add,Int.natCast_one]
  by_cases ho:j%2=1
  ·have hs:IntKind.wrap .i64 (W (sm (kf q x (n-x) k) j)+IntKind.wrap .i64 (0-W (((bin x j:Nat):Int)*((bin (n-x) (k-j):Nat):Int)*(q-1)^(k-j))))=W (sm (kf q x (n-x) k) (j+1)):=by
    rw[ll2,ll2,bn7,kp5,yi1,sm]
    congr 1
    unfold kf sb qb sgn
    rw[if_pos ho]
    grind
   have hd:decide ((j:Int).tmod 2=1)=true:=by rw[hm,ho];rfl
   simp(disch:=first|omega|(simp only[rl9,wi2,q89]<;>omega)|fail) only[push_cast,seval,nl3 hle,e1,w1,w2,e2]
   rw[e3]
   simp(disch:=first|omega|(simp only[rl9,wi2,q89]<;>omega)|fail) only[push_cast,seval,h20,hd,hs,w3]
  ·have hs:IntKind.wrap .i64 (W (sm (kf q x (n-x) k) j)+W (((bin x j:Nat):Int)*((bin (n-x) (k-j):Nat):Int)*(q-1)^(k-j)))=W (sm (kf q x (n-x) k) (j+1)):=by
    rw[ll2,kp5,yi1,sm]
    congr 1
    unfold kf sb qb sgn
    rw[if_neg ho]
    grind
   have hd:decide ((j:Int).tmod 2=1)=false:=by rw[hm];simp;omega
   simp(disch:=first|omega|(simp only[rl9,wi2,q89]<;>omega)|fail) only[push_cast,seval,nl3 hle,e1,w1,w2,e2]
   rw[e3]
   simp(disch:=first|omega|(simp only[rl9,wi2,q89]<;>omega)|fail) only[push_cast,seval,h20,hd,hs,w3]
def krN(q:Int)(n k x:Nat):Int:=W (kS (q-1) x (n-x) k)
theorem b04(h2:2≤q)(h64:q≤64)(h:H)(n k x:Nat)(hn:n≤30)(hk:k≤n)(hx:x≤n):
 call T 91 [.int .i64 q, .int .i64 n, .int .i64 k, .int .i64 x] h=some (.int .i64 (krN q n k x),h):=by
 rw[wn8 T91 rfl]
 unfold F91 c91
 have hl:=fun ks=>ga3 h2 h64 h n k x hn hk hx (k+1) 0 (by omega) ks
 have h0:W (sm (kf q x (n-x) k) 0)=0:=by rw[sm];rfl
 simp only[h0,Int.natCast_zero]at hl
 simp(disch:=first|omega|(simp only[rl9,wi2,q89]<;>omega)|fail) only[push_cast,seval]
 rw[hl]
 simp(disch:=first|omega|(simp only[rl9,wi2,q89]<;>omega)|fail) only[push_cast,seval]
 rfl
end
section
variable {q:Int}
end
def cntE(q n:Int):Int:=match fldN q.toNat with
 |none=>1
 |some _=>if n<1 then 4 else if capP q n.toNat 1<0 then 4 else 0
theorem dy6(q n:Int)(hn:n≤9223372036854775807)(h:H): ∃h':H,h<+:h'∧call T 51 [.int .i64 q, .int .i64 n] h=some (.int .i64 (cntE q n),h'):=by
 unfold cntE
 cases hq:fldN q.toNat with
 |none=>
  obtain⟨h1,p1,e1⟩:=e84 q hq h
  refine⟨h1,p1, ?_⟩
  rw[wn8 T51 rfl]
  unfold F51 c51
  simp(disch:=first|omega|(simp only[rl9,wi2,q89]<;>omega)|fail) only[push_cast,seval,e1]
 |some x=>
  obtain⟨p,m,g,mod⟩:=x
  obtain⟨q2,q64⟩:=ug0 hq
  obtain⟨h1,F,p1,_,e1⟩:=uv0 q hq h
  refine⟨h1,p1, ?_⟩
  rw[wn8 T51 rfl]
  unfold F51 c51
  by_cases h1n:n<1
  ·simp(disch:=first|omega|(simp only[rl9,wi2,q89]<;>omega)|fail) only[push_cast,seval,e1,dec_lt h1n,h1n]
  ·have ep:=wc1 (q:=q) (by omega) (by omega) n (by omega) hn h1
   by_cases hp:capP q n.toNat 1<0
   ·simp(disch:=first|omega|(simp only[rl9,wi2,q89]<;>omega)|fail) only[push_cast,seval,e1,cw6 (Int.not_lt.1 h1n),h1n,ep,dec_lt hp,hp]
   ·simp(disch:=first|omega|(simp only[rl9,wi2,q89]<;>omega)|fail) only[push_cast,seval,e1,cw6 (Int.not_lt.1 h1n),h1n,ep,cw6 (Int.not_lt.1 hp),hp]
theorem du1{q:Int}(hq:2≤q): ∀(n:Nat) (p:Int),1≤p→p≤1073741824→0≤capP q n p→capP q n p=p*q^n∧p*q^n≤1073741824
 |0,p,h1,h2,h=>by simp[capP];omega
 |n+1,p,h1,h2,h=>by
  rw[capP]at h⊢
  split at h
  ·omega
  ·rename_i hc
   have h3:p*2≤p*q:=Int.mul_le_mul_of_nonneg_left hq (by omega)
   obtain⟨e1,e2⟩:=du1 hq n (p*q) (by omega) (by omega) h
   rw[if_neg hc,e1,Int.pow_succ]
   have:p*q*q^n=p*(q^n*q):=by grind
   rw[this]at e2⊢
   exact⟨rfl,e2⟩
theorem ga5{x y A B:Int}(hx: -A≤x∧x≤A)(hy: -B≤y∧y≤B): -(A*B)≤x*y∧x*y≤A*B:=by
 have hA:0≤A:=by omega
 have hB:0≤B:=by omega
 have h1:x.natAbs≤A.natAbs:=by omega
 have h2:y.natAbs≤B.natAbs:=by omega
 have h3:(x*y).natAbs≤(A*B).natAbs:=by rw[Int.natAbs_mul,Int.natAbs_mul];exact Nat.mul_le_mul h1 h2
 have h4:0≤A*B:=Int.mul_nonneg hA hB
 omega
theorem nc2{q:Int}(hq:2≤q)(x:Nat): ∀i t:Nat,-(q^i)≤kA (q-1) x i t∧kA (q-1) x i t≤q^i
 |0,0=>by simp[kA]
 |0,t+1=>by simp[kA]
 |i+1,0=>by
  have h:=nc2 hq x i 0
  have hp:0≤q^i:=Int.le_of_lt (Int.pow_pos (by omega))
  have h2:q^i*1≤q^i*q:=Int.mul_le_mul_of_nonneg_left (by omega) hp
  rw[kA,Int.pow_succ]
  omega
 |i+1,t+1=>by
  have h:=nc2 hq x i (t+1)
  have h':=nc2 hq x i t
  have hp:0≤q^i:=Int.le_of_lt (Int.pow_pos (by omega))
  rw[kA,Int.pow_succ]
  by_cases hx:i<x
  ·rw[if_pos hx]
   have h2:q^i*2≤q^i*q:=Int.mul_le_mul_of_nonneg_left hq hp
   omega
  ·rw[if_neg hx]
   have h2:=ga5 (A:=q-1) (B:=q^i) (x:=q-1) (by omega) h'
   have h3:(q-1)*q^i=q^i*q-q^i:=by grind
   omega
theorem o19{q:Int}(hq:2≤q){n k x:Nat}(hx:x≤n)(hc:0≤capP q n 1):krN q n k x=kA (q-1) x n k∧ -1073741824≤krN q n k x∧krN q n k x≤1073741824:=by
 obtain⟨e1,e2⟩:=du1 hq n 1 (by omega) (by omega) hc
 rw[Int.one_mul]at e2
 have h:=nc2 hq x n k
 have hk:krN q n k x=kA (q-1) x n k:=by
  unfold krN
  rw[←wp4,show x+(n-x)=n by omega]
  exact W_id (by omega) (by omega)
 rw[hk]
 exact⟨rfl,by omega,by omega⟩
section
variable {t v:Nat→Int} {all:Int}
def sv(v:Nat→Int):Nat→Int
 |0=>0
 |i+1=>sv v i+v i
end
section
variable {q:Int} {h:H} {o off c po pi:Nat} {zs:List Int} {n k:Nat} {all:Int}
def tK(q:Int)(n k:Nat)(i:Nat):Int:=if i≤n then krN q n k i else 0
def vK(zs:List Int)(i:Nat):Int:=gi zs i
theorem eb3(hq:2≤q)(hc:0≤capP q n 1)(i:Nat): -1073741824≤tK q n k i∧tK q n k i≤1073741824:=by
 unfold tK
 by_cases hi:i≤n
 ·rw[if_pos hi];exact(o19 hq hi hc).2
 ·rw[if_neg hi];omega
end
section
variable {q:Int} {h:H} {o off c:Nat} {zs:List Int} {n:Nat}
end
end Go.Proofs.Ytoglhlonhmmieaa
namespace Go.Proofs.Ytoglhlonhmmieaa
open Go.Am Go.Vm
abbrev ha4(f:FuncId)(g:List Int→Option Int):Prop:= ∀l v,g l=some v→ ∀h:H,∃h':H,h<+:h'∧call T f (l.map fun a=> .int .i64 a) h=some (.int .i64 v,h')
def gPow:List Int→Option Int
 | [q,n]=>if 2≤q∧q≤64∧0≤n∧n≤9223372036854775807 then some (capP q n.toNat 1)else none
 |_=>none
def e39:List Int→Option Int
 | [q,n,k,x]=>if 2≤q∧q≤64∧0≤n∧n≤30∧0≤k∧k≤n∧0≤x∧x≤n then some (krN q n.toNat k.toNat x.toNat)else none
 |_=>none
def gCnt:List Int→Option Int
 | [q,n]=>if n≤9223372036854775807 then some (cntE q n)else none
 |_=>none
def gCho:List Int→Option Int
 | [n,k]=>if 0≤n∧n≤30∧0≤k∧k≤1000 then some (bin n.toNat k.toNat:Nat)else none
 |_=>none
theorem om7:ha4 52 gPow:=fun l v hg h=>by
 unfold gPow at hg
 split at hg
 ·split at hg
  ·rename_i q n hc
   cases hg
   exact⟨h,List.prefix_refl _,wc1 hc.1 hc.2.1 n hc.2.2.1 hc.2.2.2 h⟩
  ·cases hg
 ·cases hg
theorem le1:ha4 13 gPow:=fun l v hg h=>by
 unfold gPow at hg
 split at hg
 ·split at hg
  ·rename_i q n hc
   cases hg
   exact⟨h,List.prefix_refl _,ca9 hc.1 hc.2.1 n hc.2.2.1 hc.2.2.2 h⟩
  ·cases hg
 ·cases hg
theorem ox3:ha4 91 e39:=fun l v hg h=>by
 unfold e39 at hg
 split at hg
 ·split at hg
  ·rename_i q n k x hc
   cases hg
   obtain⟨h1,h2,h3,h4,h5,h6,h7,h8⟩:=hc
   obtain⟨N,rfl⟩: ∃N:Nat,n=N:=⟨n.toNat,by omega⟩
   obtain⟨K,rfl⟩: ∃K:Nat,k=K:=⟨k.toNat,by omega⟩
   obtain⟨X,rfl⟩: ∃X:Nat,x=X:=⟨x.toNat,by omega⟩
   simp only[Int.toNat_natCast]
   exact⟨h,List.prefix_refl _,b04 h1 h2 h N K X (by omega) (by omega) (by omega)⟩
  ·cases hg
 ·cases hg
theorem b06:ha4 51 gCnt:=fun l v hg h=>by
 unfold gCnt at hg
 split at hg
 ·split at hg
  ·cases hg
   exact dy6 _ _ ‹_› h
  ·cases hg
 ·cases hg
theorem b82:ha4 99 gCho:=fun l v hg h=>by
 unfold gCho at hg
 split at hg
 ·split at hg
  ·rename_i n k hc
   cases hg
   obtain⟨h1,h2,h3,h4⟩:=hc
   obtain⟨N,rfl⟩: ∃N:Nat,n=N:=⟨n.toNat,by omega⟩
   obtain⟨K,rfl⟩: ∃K:Nat,k=K:=⟨k.toNat,by omega⟩
   simp only[Int.toNat_natCast]
   exact⟨h,List.prefix_refl _,ua8 N K (by omega) (by omega) h⟩
  ·cases hg
 ·cases hg
end Go.Proofs.Ytoglhlonhmmieaa
namespace Go.Alg
class FK (K:Type) extends Zero K,One K,Add K,Mul K,Neg K where
 inv:K→K
 deq:DecidableEq K
 add_assoc: ∀a b c:K,a+b+c=a+(b+c)
 add_comm: ∀a b:K,a+b=b+a
 add_zero: ∀a:K,a+0=a
 add_neg: ∀a:K,a+ -a=0
 mul_assoc: ∀a b c:K,a*b*c=a*(b*c)
 mul_comm: ∀a b:K,a*b=b*a
 mul_one: ∀a:K,a*1=a
 mul_add: ∀a b c:K,a*(b+c)=a*b+a*c
 mul_inv: ∀a:K,a≠0→a*inv a=1
 zero_ne:(0:K)≠1
instance {K:Type} [FK K]:DecidableEq K:=FK.deq
instance {K:Type} [FK K]:Sub K:=⟨fun a b=>a+ -b⟩
section
variable {K:Type} [FK K]
theorem sub_eq(a b:K):a-b=a+ -b:=rfl
theorem zero_add(a:K):0+a=a:=by rw[FK.add_comm,FK.add_zero]
theorem neg_add(a:K): -a+a=0:=by rw[FK.add_comm,FK.add_neg]
theorem one_mul(a:K):1*a=a:=by rw[FK.mul_comm,FK.mul_one]
theorem add_mul(a b c:K):(a+b)*c=a*c+b*c:=by rw[FK.mul_comm,FK.mul_add,FK.mul_comm c a,FK.mul_comm c b]
theorem g50{a b c:K}(h:a+b=a+c):b=c:=by
 have:=congrArg (fun x=> -a+x) h
 simpa only[←FK.add_assoc,neg_add,zero_add]using this
theorem gb2{a b c:K}(h:b+a=c+a):b=c:=g50 (a:=a) (by rw[FK.add_comm a b,FK.add_comm a c,h])
theorem mul_zero(a:K):a*0=0:=by
 have h:a*0+a*0=a*0+0:=by rw[←FK.mul_add,FK.add_zero,FK.add_zero]
 exact g50 h
theorem zero_mul(a:K):0*a=0:=by rw[FK.mul_comm,mul_zero]
theorem ut3{a b:K}(h:a+b=0):b= -a:=g50 (a:=a) (by rw[h,FK.add_neg])
theorem neg_neg(a:K): - -a=a:=(ut3 (neg_add a)).symm
theorem neg_zero: -(0:K)=0:=(ut3 (FK.add_zero (0:K))).symm
theorem neg_mul(a b:K): -a*b= -(a*b):=ut3 (by rw[←add_mul,FK.add_neg,zero_mul])
theorem mul_neg(a b:K):a* -b= -(a*b):=by rw[FK.mul_comm,neg_mul,FK.mul_comm]
theorem tp9(a b:K): -(a+b)= -a+ -b:=(ut3 (by rw[FK.add_assoc,←FK.add_assoc b,FK.add_comm b,FK.add_assoc (-a),FK.add_neg,FK.add_zero,FK.add_neg])).symm
theorem sub_self(a:K):a-a=0:=FK.add_neg a
theorem sub_zero(a:K):a-0=a:=by rw[sub_eq,neg_zero,FK.add_zero]
theorem zero_sub(a:K):0-a= -a:=by rw[sub_eq,zero_add]
theorem fj9(a b:K):a-b+b=a:=by rw[sub_eq,FK.add_assoc,neg_add,FK.add_zero]
theorem sub_eq_zero{a b:K}:a-b=0↔a=b:=⟨fun h=>by rw[←fj9 a b,h,zero_add],fun h=>by rw[h,sub_self]⟩
theorem mul_sub(a b c:K):a*(b-c)=a*b-a*c:=by rw[sub_eq,sub_eq,FK.mul_add,mul_neg]
theorem sub_mul(a b c:K):(a-b)*c=a*c-b*c:=by rw[sub_eq,sub_eq,add_mul,neg_mul]
theorem ki7:(1:K)≠0:=fun h=>FK.zero_ne h.symm
theorem inv_mul{a:K}(h:a≠0):FK.inv a*a=1:=by rw[FK.mul_comm,FK.mul_inv a h]
theorem mul_left{a b c:K}(ha:a≠0)(h:a*b=a*c):b=c:=by
 have:=congrArg (fun x=>FK.inv a*x) h
 simpa only[←FK.mul_assoc,inv_mul ha,one_mul]using this
theorem mul_eq_zero{a b:K}(h:a*b=0):a=0∨b=0:=by
 by_cases ha:a=0
 ·exact .inl ha
 ·exact .inr (mul_left ha (by rw[h,mul_zero]))
theorem hl5{a b:K}(ha:a≠0)(hb:b≠0):a*b≠0:=fun h=>(mul_eq_zero h).elim ha hb
theorem neg_eq_zero{a:K}: -a=0↔a=0:=⟨fun h=>by rw[←neg_neg a,h,neg_zero],fun h=>by rw[h,neg_zero]⟩
instance :Std.Associative (α:=K) (· + ·):=⟨FK.add_assoc⟩
instance :Std.Commutative (α:=K) (· + ·):=⟨FK.add_comm⟩
instance :Std.Associative (α:=K) (· * ·):=⟨FK.mul_assoc⟩
instance :Std.Commutative (α:=K) (· * ·):=⟨FK.mul_comm⟩
theorem add4(a b c d:K):(a+b)+(c+d)=(a+c)+(b+d):=by ac_rfl
def sumL{α:Type}(l:List α)(f:α→K):K:=l.foldr (fun a s=>f a+s) 0
variable {α β:Type}
theorem lh9(f:α→K):sumL [] f=0:=rfl
theorem gb6(a:α)(l:List α)(f:α→K):sumL (a::l) f=f a+sumL l f:=rfl
theorem up0(f:α→K): ∀l l':List α,sumL (l++l') f=sumL l f+sumL l' f
 | [],l'=>by rw[List.nil_append,lh9,zero_add]
 |a::l,l'=>by rw[List.cons_append,gb6,gb6,up0 f l l',FK.add_assoc]
theorem jl9(f g:α→K): ∀l:List α,sumL l (fun a=>f a+g a)=sumL l f+sumL l g
 | []=>by rw[lh9,lh9,lh9,FK.add_zero]
 |a::l=>by rw[gb6,gb6,gb6,jl9 f g l,add4]
theorem ro9(c:K)(f:α→K): ∀l:List α,sumL l (fun a=>c*f a)=c*sumL l f
 | []=>by rw[lh9,lh9,mul_zero]
 |a::l=>by rw[gb6,gb6,ro9 c f l,FK.mul_add]
theorem ue3(c:K)(f:α→K)(l:List α):sumL l (fun a=>f a*c)=sumL l f*c:=by
 rw[FK.mul_comm,←ro9]
 congr 1
 funext a
 rw[FK.mul_comm]
theorem eq0(f:α→K): ∀l:List α,sumL l (fun a=> -f a)= -sumL l f
 | []=>by rw[lh9,lh9,neg_zero]
 |a::l=>by rw[gb6,gb6,eq0 f l,tp9]
theorem b15(f g:α→K)(l:List α):sumL l (fun a=>f a-g a)=sumL l f-sumL l g:=by
 simp only[sub_eq]
 rw[jl9,eq0]
theorem ox7{f g:α→K}: ∀{l:List α},(∀a∈l,f a=g a)→sumL l f=sumL l g
 | [],_=>rfl
 |a::l,h=>by rw[gb6,gb6,h a (by simp),ox7 fun b hb=>h b (by simp[hb])]
theorem tx6{f:α→K}{l:List α}(h: ∀a∈l,f a=0):sumL l f=0:=by
 induction l with
 |nil=>rfl
 |cons a l ih=>rw[gb6,h a (by simp),ih fun b hb=>h b (by simp[hb]),FK.add_zero]
theorem j53(f:α→β→K)(l':List β): ∀l:List α,sumL l (fun a=>sumL l' (f a))=sumL l' (fun b=>sumL l (fun a=>f a b))
 | []=>by rw[lh9];exact(tx6 fun _ _=>rfl).symm
 |a::l=>by rw[gb6,j53 f l' l,←jl9];rfl
theorem l63(g:β→α)(f:α→K): ∀l:List β,sumL (l.map g) f=sumL l fun b=>f (g b)
 | []=>rfl
 |b::l=>by rw[List.map_cons,gb6,gb6,l63 g f l]
theorem j94 [DecidableEq α]{f:α→K}{s:α}: ∀{l:List α},l.Nodup→s∈l→(∀a∈l,a≠s→f a=0)→sumL l f=f s
 | [],_,h,_=>by cases h
 |a::l,hn,h,h0=>by
  rw[List.nodup_cons]at hn
  rw[gb6]
  by_cases ha:a=s
  ·subst ha
   rw[tx6 fun b hb=>h0 b (by simp[hb]) fun e=>hn.1 (e▸hb),FK.add_zero]
  ·rw[h0 a (by simp) ha,zero_add]
   refine j94 hn.2 ?_ fun b hb=>h0 b (by simp[hb])
   rcases List.mem_cons.1 h with h|h
   ·exact absurd h.symm ha
   ·exact h
def sumN(n:Nat)(f:Nat→K):K:=sumL (List.range n) f
theorem wr8(f:Nat→K):sumN 0 f=0:=rfl
theorem c68(n:Nat)(f:Nat→K):sumN (n+1) f=f 0+sumN n fun i=>f (i+1):=by
 unfold sumN
 rw[List.range_succ_eq_map,gb6,l63]
theorem xq2{n s:Nat}{f:Nat→K}(hs:s<n)(h: ∀a,a<n→a≠s→f a=0):sumN n f=f s:=
 j94 List.nodup_range (List.mem_range.2 hs) fun a ha=>h a (List.mem_range.1 ha)
theorem rc1{n:Nat}{f g:Nat→K}(h: ∀a,a<n→f a=g a):sumN n f=sumN n g:=ox7 fun a ha=>h a (List.mem_range.1 ha)
theorem ja4{n:Nat}{f:Nat→K}(h: ∀a,a<n→f a=0):sumN n f=0:=tx6 fun a ha=>h a (List.mem_range.1 ha)
end
end Go.Alg
