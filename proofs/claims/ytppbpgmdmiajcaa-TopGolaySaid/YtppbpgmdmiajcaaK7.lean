/-
  What syndromeref's F.Mul, Neg, Add and Sub compute, as the table's numbers. Conditions: a field of the table. What syndromeref's F.Add and F.Sub compute. Conditions: a field of the table. What syndrom ..
-/
import Derived.Test.YtppbpgmdmiajcaaK0
import Derived.Test.YtppbpgmdmiajcaaKFM0
import Derived.Test.YtppbpgmdmiajcaaKFM1
import Derived.Test.YtppbpgmdmiajcaaKFM2
import Derived.Test.YtppbpgmdmiajcaaKFM3
import Derived.Test.YtppbpgmdmiajcaaKFM4
import Derived.Test.YtppbpgmdmiajcaaK6
import Derived.Test.YtppbpgmdmiajcaaK2
set_option linter.unusedVariables false
set_option linter.unusedSimpArgs false
set_option linter.unusedSectionVars false
set_option maxRecDepth 100000
namespace Go.Proofs.Ytppbpgmdmiajcaa
open Go.Am
section
variable {h:H} {q p:Int} {m:Nat} {g:Int} {mod:List Int} {om cm:Nat}
end
section
variable {h:H} {q p:Int} {m:Nat} {g:Int} {mod:List Int} {om cm:Nat}
end
section
variable {q p g:Int} {m:Nat} {mod:List Int}
theorem js7(t:Tabs q g){a b:Int}(ha:1≤a∧a<q)(hb:1≤b∧b<q):fmul q a b=fexp q ((flog q a+flog q b)%(q-1)):=by
 rw[fmul,iy2 ⟨by omega,ha.2⟩,iy2 ⟨by omega,hb.2⟩,show(a==0)=false by simp;omega,show(b==0)=false by simp;omega];rfl
theorem zd3(t:Tabs q g)(hq:2≤q)(i:Int):1≤fexp q (i%(q-1))∧fexp q (i%(q-1))<q∧flog q (fexp q (i%(q-1)))=i%(q-1):=
 t.er _ (fc1 _ (by omega)) (do0 _ (by omega))
theorem aj3(t:Tabs q g){a:Int}(ha:1≤a∧a<q):finv q a=fexp q ((q-1-flog q a)%(q-1)):=by
 rw[finv,iy2 ⟨by omega,ha.2⟩,show(a==0)=false by simp;omega];rfl
theorem ea5(t:Tabs q g)(hq:2≤q){a:Int}(ha:1≤a∧a<q):(1≤finv q a∧finv q a<q)∧fmul q a (finv q a)=1:=by
 have h1:=zd3 t hq (q-1-flog q a)
 rw[←aj3 t ha]at h1
 refine⟨⟨h1.1,h1.2.1⟩, ?_⟩
 rw[js7 t ha ⟨h1.1,h1.2.1⟩,h1.2.2,bk9,show flog q a+(q-1-flog q a)=q-1 by omega,Int.emod_self]
 exact t.e0
theorem np3(t:Tabs q g)(hq:2≤q)(hg:1≤g∧g<q)(k:Int):fmul q (fexp q (k%(q-1))) g=fexp q ((k+1)%(q-1)):=by
 have h1:=zd3 t hq k
 rw[js7 t ⟨h1.1,h1.2.1⟩ hg,h1.2.2,t.lg,Int.emod_add_emod,bk9]
end
section
variable {h:H} {q p:Int} {m:Nat} {g:Int} {mod:List Int} {om cm:Nat}
end
section
variable {h:H} {q p:Int} {m:Nat} {g:Int} {mod:List Int} {om cm:Nat}
end
section
variable {h:H} {q p:Int} {m:Nat} {g:Int} {mod:List Int} {om cm:Nat}
end
section
variable {h:H} {F:Nat} {q p:Int} {m:Nat} {g:Int} {mod:List Int} {E L om fm cm:Nat}
end
section
variable {h:H} {q p:Int} {m:Nat} {g:Int} {mod:List Int} {om cm:Nat}
end
section
variable {h:H} {F F':Nat} {q p:Int} {m:Nat} {g:Int} {mod:List Int} {E L om fm cm:Nat} {s p':Int} {m':Nat} {g':Int} {mod':List Int} {E' L' om' fm' cm':Nat}
end
end Go.Proofs.Ytppbpgmdmiajcaa
namespace Go.Proofs.Ytppbpgmdmiajcaa
open Go.Am Go.Vm
section
variable {h:H} {F:Nat} {q p:Int} {m:Nat} {g:Int} {mod:List Int} {E L om fm cm:Nat}
end
end Go.Proofs.Ytppbpgmdmiajcaa
namespace Go.Alg
class FK (K:Type) extends Zero K,One K,Add K,Mul K,Neg K where
 inv:K→K
 deq:DecidableEq K
 add_assoc: ∀a b c:K,a+b+c=a+(b+c)
 add_comm: ∀a b:K,a+b=b+a
 add_zero: ∀a:K,a+0=a
 add_neg: ∀a:K,a+ -a=0
 mul_assoc: ∀a b c:K,a*b*c=a*(b*c)
 mul_comm: ∀a b:K,a*b=b*a
 mul_one: ∀a:K,a*1=a
 mul_add: ∀a b c:K,a*(b+c)=a*b+a*c
 mul_inv: ∀a:K,a≠0→a*inv a=1
 zero_ne:(0:K)≠1
instance {K:Type} [FK K]:DecidableEq K:=FK.deq
instance {K:Type} [FK K]:Sub K:=⟨fun a b=>a+ -b⟩
section
variable {K:Type} [FK K]
theorem sub_eq(a b:K):a-b=a+ -b:=rfl
theorem zero_add(a:K):0+a=a:=by rw[FK.add_comm,FK.add_zero]
theorem neg_add(a:K): -a+a=0:=by rw[FK.add_comm,FK.add_neg]
theorem one_mul(a:K):1*a=a:=by rw[FK.mul_comm,FK.mul_one]
theorem add_mul(a b c:K):(a+b)*c=a*c+b*c:=by rw[FK.mul_comm,FK.mul_add,FK.mul_comm c a,FK.mul_comm c b]
theorem g50{a b c:K}(h:a+b=a+c):b=c:=by
 have:=congrArg (fun x=> -a+x) h
 simpa only[←FK.add_assoc,neg_add,zero_add]using this
theorem mul_zero(a:K):a*0=0:=by
 have h:a*0+a*0=a*0+0:=by rw[←FK.mul_add,FK.add_zero,FK.add_zero]
 exact g50 h
theorem zero_mul(a:K):0*a=0:=by rw[FK.mul_comm,mul_zero]
theorem ut3{a b:K}(h:a+b=0):b= -a:=g50 (a:=a) (by rw[h,FK.add_neg])
theorem neg_zero: -(0:K)=0:=(ut3 (FK.add_zero (0:K))).symm
theorem neg_mul(a b:K): -a*b= -(a*b):=ut3 (by rw[←add_mul,FK.add_neg,zero_mul])
theorem mul_neg(a b:K):a* -b= -(a*b):=by rw[FK.mul_comm,neg_mul,FK.mul_comm]
theorem tp9(a b:K): -(a+b)= -a+ -b:=(ut3 (by rw[FK.add_assoc,←FK.add_assoc b,FK.add_comm b,FK.add_assoc (-a),FK.add_neg,FK.add_zero,FK.add_neg])).symm
theorem sub_self(a:K):a-a=0:=FK.add_neg a
theorem sub_zero(a:K):a-0=a:=by rw[sub_eq,neg_zero,FK.add_zero]
theorem fj9(a b:K):a-b+b=a:=by rw[sub_eq,FK.add_assoc,neg_add,FK.add_zero]
theorem sub_eq_zero{a b:K}:a-b=0↔a=b:=⟨fun h=>by rw[←fj9 a b,h,zero_add],fun h=>by rw[h,sub_self]⟩
theorem mul_sub(a b c:K):a*(b-c)=a*b-a*c:=by rw[sub_eq,sub_eq,FK.mul_add,mul_neg]
theorem sub_mul(a b c:K):(a-b)*c=a*c-b*c:=by rw[sub_eq,sub_eq,add_mul,neg_mul]
theorem ki7:(1:K)≠0:=fun h=>FK.zero_ne h.symm
theorem inv_mul{a:K}(h:a≠0):FK.inv a*a=1:=by rw[FK.mul_comm,FK.mul_inv a h]
theorem mul_left{a b c:K}(ha:a≠0)(h:a*b=a*c):b=c:=by
 have:=congrArg (fun x=>FK.inv a*x) h
 simpa only[←FK.mul_assoc,inv_mul ha,one_mul]using this
theorem mul_eq_zero{a b:K}(h:a*b=0):a=0∨b=0:=by
 by_cases ha:a=0
 ·exact .inl ha
 ·exact .inr (mul_left ha (by rw[h,mul_zero]))
theorem hl5{a b:K}(ha:a≠0)(hb:b≠0):a*b≠0:=fun h=>(mul_eq_zero h).elim ha hb
instance :Std.Associative (α:=K) (· + ·):=⟨FK.add_assoc⟩
instance :Std.Commutative (α:=K) (· + ·):=⟨FK.add_comm⟩
instance :Std.Associative (α:=K) (· * ·):=⟨FK.mul_assoc⟩
instance :Std.Commutative (α:=K) (· * ·):=⟨FK.mul_comm⟩
theorem add4(a b c d:K):(a+b)+(c+d)=(a+c)+(b+d):=by ac_rfl
def sumL{α:Type}(l:List α)(f:α→K):K:=l.foldr (fun a s=>f a+s) 0
variable {α β:Type}
theorem lh9(f:α→K):sumL [] f=0:=rfl
theorem gb6(a:α)(l:List α)(f:α→K):sumL (a::l) f=f a+sumL l f:=rfl
theorem up0(f:α→K): ∀l l':List α,sumL (l++l') f=sumL l f+sumL l' f
 | [],l'=>by rw[m51,lh9,zero_add]
 |a::l,l'=>by rw[rs6,gb6,gb6,up0 f l l',FK.add_assoc]
theorem jl9(f g:α→K): ∀l:List α,sumL l (fun a=>f a+g a)=sumL l f+sumL l g
 | []=>by rw[lh9,lh9,lh9,FK.add_zero]
 |a::l=>by rw[gb6,gb6,gb6,jl9 f g l,add4]
theorem ro9(c:K)(f:α→K): ∀l:List α,sumL l (fun a=>c*f a)=c*sumL l f
 | []=>by rw[lh9,lh9,mul_zero]
 |a::l=>by rw[gb6,gb6,ro9 c f l,FK.mul_add]
theorem ue3(c:K)(f:α→K)(l:List α):sumL l (fun a=>f a*c)=sumL l f*c:=by
 rw[FK.mul_comm,←ro9]
 congr 1
 funext a
 rw[FK.mul_comm]
theorem eq0(f:α→K): ∀l:List α,sumL l (fun a=> -f a)= -sumL l f
 | []=>by rw[lh9,lh9,neg_zero]
 |a::l=>by rw[gb6,gb6,eq0 f l,tp9]
theorem b15(f g:α→K)(l:List α):sumL l (fun a=>f a-g a)=sumL l f-sumL l g:=by
 simp only[sub_eq]
 rw[jl9,eq0]
theorem ox7{f g:α→K}: ∀{l:List α},(∀a∈l,f a=g a)→sumL l f=sumL l g
 | [],_=>rfl
 |a::l,h=>by rw[gb6,gb6,h a (by simp),ox7 fun b hb=>h b (by simp[hb])]
theorem tx6{f:α→K}{l:List α}(h: ∀a∈l,f a=0):sumL l f=0:=by
 induction l with
 |nil=>rfl
 |cons a l ih=>rw[gb6,h a (by simp),ih fun b hb=>h b (by simp[hb]),FK.add_zero]
theorem j53(f:α→β→K)(l':List β): ∀l:List α,sumL l (fun a=>sumL l' (f a))=sumL l' (fun b=>sumL l (fun a=>f a b))
 | []=>by rw[lh9];exact(tx6 fun _ _=>rfl).symm
 |a::l=>by rw[gb6,j53 f l' l,←jl9];rfl
theorem l63(g:β→α)(f:α→K): ∀l:List β,sumL (l.map g) f=sumL l fun b=>f (g b)
 | []=>rfl
 |b::l=>by rw[nf9,gb6,gb6,l63 g f l]
theorem j94 [DecidableEq α]{f:α→K}{s:α}: ∀{l:List α},l.Nodup→s∈l→(∀a∈l,a≠s→f a=0)→sumL l f=f s
 | [],_,h,_=>by cases h
 |a::l,hn,h,h0=>by
  rw[y50]at hn
  rw[gb6]
  by_cases ha:a=s
  ·subst ha
   rw[tx6 fun b hb=>h0 b (by simp[hb]) fun e=>hn.1 (e▸hb),FK.add_zero]
  ·rw[h0 a (by simp) ha,zero_add]
   refine j94 hn.2 ?_ fun b hb=>h0 b (by simp[hb])
   rcases r04.1 h with h|h
   ·exact absurd h.symm ha
   ·exact h
def sumN(n:Nat)(f:Nat→K):K:=sumL (List.range n) f
theorem wr8(f:Nat→K):sumN 0 f=0:=rfl
theorem cp9(n:Nat)(f:Nat→K):sumN (n+1) f=sumN n f+f n:=by
 unfold sumN
 rw[List.range_succ,up0,gb6,lh9,FK.add_zero]
theorem c81(n:Nat)(f:Nat→K):sumN (n+1) f=f 0+sumN n fun i=>f (i+1):=by
 unfold sumN
 rw[List.range_succ_eq_map,gb6,l63]
theorem xq2{n s:Nat}{f:Nat→K}(hs:s<n)(h: ∀a,a<n→a≠s→f a=0):sumN n f=f s:=
 j94 s08 (l16.2 hs) fun a ha=>h a (l16.1 ha)
theorem rc1{n:Nat}{f g:Nat→K}(h: ∀a,a<n→f a=g a):sumN n f=sumN n g:=ox7 fun a ha=>h a (l16.1 ha)
theorem ja4{n:Nat}{f:Nat→K}(h: ∀a,a<n→f a=0):sumN n f=0:=tx6 fun a ha=>h a (l16.1 ha)
end
end Go.Alg
