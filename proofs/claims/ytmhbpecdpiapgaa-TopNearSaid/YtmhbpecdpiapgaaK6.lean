/-
  What syndromeref's F.Mul, Neg, Add and Sub compute, as the table's numbers. Conditions: a field of the table. What syndromeref's F.Add and F.Sub compute. Conditions: a field of the table. What syndrom ..
-/
import Derived.Test.YtmhbpecdpiapgaaKFM0
import Derived.Test.YtmhbpecdpiapgaaKFM1
import Derived.Test.YtmhbpecdpiapgaaKFM2
import Derived.Test.YtmhbpecdpiapgaaKFM3
import Derived.Test.YtmhbpecdpiapgaaKFM4
import Derived.Test.YtmhbpecdpiapgaaK5
import Derived.WalkKit
import Derived.Test.YtmhbpecdpiapgaaKCode
import Derived.Test.YtmhbpecdpiapgaaK1
set_option linter.unusedVariables false
set_option linter.unusedSimpArgs false
set_option linter.unusedSectionVars false
set_option maxRecDepth 100000
namespace Go.Proofs.Ytmhbpecdpiapgaa
open Go.Am
section
variable {h:H} {q p:Int} {m:Nat} {g:Int} {mod:List Int} {om cm:Nat}
end
section
variable {h:H} {q p:Int} {m:Nat} {g:Int} {mod:List Int} {om cm:Nat}
end
section
variable {q p g:Int} {m:Nat} {mod:List Int}
theorem js7(t:Tabs q g){a b:Int}(ha:1≤a∧a<q)(hb:1≤b∧b<q):fmul q a b=fexp q ((flog q a+flog q b)%(q-1)):=by
 rw[fmul,iy2 ⟨by omega,ha.2⟩,iy2 ⟨by omega,hb.2⟩,show(a==0)=false by simp;omega,show(b==0)=false by simp;omega];rfl
theorem zd3(t:Tabs q g)(hq:2≤q)(i:Int):1≤fexp q (i%(q-1))∧fexp q (i%(q-1))<q∧flog q (fexp q (i%(q-1)))=i%(q-1):=
 t.er _ (Int.emod_nonneg _ (by omega)) (Int.emod_lt_of_pos _ (by omega))
theorem aj3(t:Tabs q g){a:Int}(ha:1≤a∧a<q):finv q a=fexp q ((q-1-flog q a)%(q-1)):=by
 rw[finv,iy2 ⟨by omega,ha.2⟩,show(a==0)=false by simp;omega];rfl
theorem d12(t:Tabs q g)(hq:2≤q){a:Int}(ha:1≤a∧a<q):(1≤finv q a∧finv q a<q)∧fmul q a (finv q a)=1:=by
 have h1:=zd3 t hq (q-1-flog q a)
 rw[←aj3 t ha]at h1
 refine⟨⟨h1.1,h1.2.1⟩, ?_⟩
 rw[js7 t ha ⟨h1.1,h1.2.1⟩,h1.2.2,Int.add_emod_emod,show flog q a+(q-1-flog q a)=q-1 by omega,Int.emod_self]
 exact t.e0
def powI(q a:Int):Nat→Int
 |0=>1
 |n+1=>fmul q (powI q a n) a
theorem mv9(t:Tabs q g)(hq:2≤q){a:Int}(ha:1≤a∧a<q): ∀n:Nat,powI q a n=fexp q (flog q a*n%(q-1))
 |0=>by rw[powI,Int.natCast_zero,Int.mul_zero,Int.zero_emod];exact t.e0.symm
 |n+1=>by
  have h1:=zd3 t hq (flog q a*n)
  rw[powI,mv9 t hq ha n,js7 t ⟨h1.1,h1.2.1⟩ ha,h1.2.2,Int.emod_add_emod]
  congr 2
  rw[Int.natCast_add,Int.natCast_one,Int.mul_add,Int.mul_one]
theorem a21(hq:2≤q): ∀n:Nat,powI q 0 (n+1)=0
 |0=>by
  rw[powI,powI,fmul,iy2 (a:=1) ⟨by omega,by omega⟩,iy2 (a:=0) ⟨by omega,by omega⟩];rfl
 |n+1=>by
  rw[powI,a21 hq n,fmul,iy2 (a:=0) ⟨by omega,by omega⟩];rfl
theorem v22(t:Tabs q g)(hq:2≤q){a:Int}(ha:0≤a∧a<q)(n:Nat)(hn:1≤n):powI q a n=fpow q a n:=by
 have hk: ¬(n:Int)<0:=by omega
 have hk0:((n:Int)==0)=false:=by simp;omega
 by_cases hz:a=0
 ·subst hz
  obtain⟨k,rfl⟩: ∃k,n=k+1:=⟨n-1,by omega⟩
  rw[a21 hq,fpow,iy2 ha,decide_eq_false hk,hk0];rfl
 ·rw[mv9 t hq ⟨by omega,ha.2⟩,fpow,iy2 ha,show(a==0)=false by simpa using hz,hk0]
  show fexp q (flog q a*n%(q-1))=fexp q (flog q a*((n:Int)%(q-1))%(q-1))
  congr 1
  rw[Int.mul_emod,Int.mul_emod (flog q a) ((n:Int)%(q-1)),Int.emod_emod_of_dvd _ (Int.dvd_refl _)]
theorem np3(t:Tabs q g)(hq:2≤q)(hg:1≤g∧g<q)(k:Int):fmul q (fexp q (k%(q-1))) g=fexp q ((k+1)%(q-1)):=by
 have h1:=zd3 t hq k
 rw[js7 t ⟨h1.1,h1.2.1⟩ hg,h1.2.2,t.lg,Int.emod_add_emod,Int.add_emod_emod]
end
section
variable {h:H} {q p:Int} {m:Nat} {g:Int} {mod:List Int} {om cm:Nat}
end
section
variable {h:H} {q p:Int} {m:Nat} {g:Int} {mod:List Int} {om cm:Nat}
end
section
variable {h:H} {q p:Int} {m:Nat} {g:Int} {mod:List Int} {om cm:Nat}
end
section
variable {h:H} {F:Nat} {q p:Int} {m:Nat} {g:Int} {mod:List Int} {E L om fm cm:Nat}
end
section
variable {h:H} {q p:Int} {m:Nat} {g:Int} {mod:List Int} {om cm:Nat}
end
section
variable {h:H} {F F':Nat} {q p:Int} {m:Nat} {g:Int} {mod:List Int} {E L om fm cm:Nat} {s p':Int} {m':Nat} {g':Int} {mod':List Int} {E' L' om' fm' cm':Nat}
end
end Go.Proofs.Ytmhbpecdpiapgaa
namespace Go.Proofs.Ytmhbpecdpiapgaa
open Go.Am Go.Vm
section
variable {h:H} {F:Nat} {q p:Int} {m:Nat} {g:Int} {mod:List Int} {E L om fm cm:Nat}
end
end Go.Proofs.Ytmhbpecdpiapgaa
namespace Go.Proofs.Ytmhbpecdpiapgaa
theorem i62{α:Type}{l:List α}{i:Nat}{x:α}(h:l[i]? =some x):l.drop i=x::l.drop (i+1):=by
 obtain⟨hi,he⟩:=List.getElem?_eq_some_iff.1 h
 rw[List.drop_eq_getElem_cons hi,he]
theorem oh9{α:Type}{l:List α}{i:Nat}(h:l.length≤i):l.drop i=[]:=List.drop_eq_nil_of_le h
theorem ge6{α:Type}{l:List α}{i:Nat}(h:i<l.length): ∃x,l[i]? =some x:=⟨_,List.getElem?_eq_getElem h⟩
section
variable {α:Type}
end
section
variable {r m:Nat}
end
end Go.Proofs.Ytmhbpecdpiapgaa
namespace Go.Proofs.Ytmhbpecdpiapgaa
open Go.Am
@[push_cast] theorem py6{α:Type}{h:H}{r:Option α}:behind true h h r=r:=zy6 (List.prefix_refl h)
section
variable {h:H} {sa:Option Addr} {c:Nat} {l:List Int}
end
section
variable {h0:H} {sr:Option Addr} {cr:Nat} {raw:List Int}
end
section
variable {h:H} {sa:Option Addr} {C:Nat} {cs:List (List Int)}
end
section
variable {h:H}
end
section
variable {h0:H}
end
section
variable {h:H}
end
section
variable {h0:H}
end
section
variable {h:H}
end
section
variable {hF:H}
end
section
variable {h:H} {sw:Option Addr} {cw N:Nat} {f:Nat→Bool}
end
section
variable {hF:H} {l:List Nat} {c:Nat→Bool} {sm sl:Option Addr} {cm' cl N o:Nat}
end
section
variable {h:H} {sa sb:Option Addr} {ca cb N:Nat} {f g:Nat→Bool}
end
section
variable {h:H} {N o:Nat} {f g:Nat→Bool} {sb:Option Addr} {cb:Nat}
end
section
variable {h:H} {sa:Option Addr} {ca N:Nat} {f:Nat→Bool}
end
section
variable {h:H}
end
section
variable {h:H}
end
def qr3(q:Int):List Int→List Int×Bool
 | []=>([],false)
 |a::l=>match qr3 q l with
  |(l',true)=>(a::l',true)
  |(l',false)=>if a+1<q then((a+1)::l',true)else(0::l',false)
theorem pd1(q:Int): ∀l,(qr3 q l).1.length=l.length
 | []=>rfl
 |a::l=>by
  have ih:=pd1 q l
  rw[qr3]
  generalize qr3 q l=x at ih⊢
  obtain⟨l',b⟩:=x
  cases b
  ·simp only
   split<;>simpa using ih
  ·simpa using ih
theorem vq6{q:Int}{s s':List Int}(h:qr3 q s=(s',true)): ∀p:List Int,qr3 q (p++s)=(p++s',true)
 | []=>h
 |a::p=>by rw[List.cons_append,qr3,vq6 h p];rfl
def valS(q:Nat):List Int→Nat
 | []=>0
 |a::l=>a.toNat*q^l.length+valS q l
def digS(q:Int)(l:List Int):Prop:= ∀a∈l,0≤a∧a<q
theorem uc1{q:Nat}: ∀{l:List Int},digS q l→valS q l<q^l.length
 | [],_=>by simp[valS]
 |a::l,h=>by
  have h1:=h a (by simp)
  have ih:=uc1 (l:=l) fun b hb=>h b (by simp[hb])
  rw[valS,List.length_cons,Nat.pow_succ,Nat.mul_comm (q^l.length)]
  have h2:(a.toNat+1)*q^l.length≤q*q^l.length:=Nat.mul_le_mul_right _ (by omega)
  rw[Nat.add_mul,Nat.one_mul]at h2
  omega
theorem jd2{q:Nat}(hq:0<q): ∀{l:List Int},digS q l→digS q (qr3 q l).1∧(if(qr3 q l).2=true then valS q (qr3 q l).1=valS q l+1 else valS q l+1=q^l.length∧ ∀a∈(qr3 q l).1,a=0)
 | [],_=>by simp[qr3,valS,digS]
 |a::l,h=>by
  have h1:=h a (by simp)
  obtain⟨k1,k2⟩:=jd2 hq (l:=l) fun b hb=>h b (by simp[hb])
  have hl:=pd1 q l
  rw[qr3]
  generalize hx:qr3 q l=x at k1 k2 hl⊢
  obtain⟨l',b⟩:=x
  simp only at k1 k2 hl
  cases b with
  |true=>
   simp only[if_true]at k2⊢
   refine⟨fun c hc=> ?_, ?_⟩
   ·rcases List.mem_cons.1 hc with rfl|hc
    ·exact h1
    ·exact k1 c hc
   ·rw[valS,valS,hl,k2];omega
  |false=>
   simp only[Bool.false_eq_true,if_false]at k2⊢
   have hz: ∀{m:List Int},(∀a∈m,a=0)→valS q m=0:=by
    intro m
    induction m with
    |nil=>intro _;rfl
    |cons c m ih=>intro hm;rw[valS,ih fun a ha=>hm a (by simp[ha]),hm c (by simp)];simp
   by_cases hlt:a+1<q
   ·rw[if_pos hlt]
    simp only[if_true]
    refine⟨fun c hc=> ?_, ?_⟩
    ·rcases List.mem_cons.1 hc with rfl|hc
     ·omega
     ·exact k1 c hc
    ·rw[valS,valS,hz k2.2,hl,Nat.add_zero,Nat.add_assoc,k2.1,show(a+1).toNat=a.toNat+1 by omega,Nat.add_mul,Nat.one_mul]
   ·rw[if_neg hlt]
    simp only[Bool.false_eq_true,if_false]
    refine⟨fun c hc=> ?_, ?_,fun c hc=> ?_⟩
    ·rcases List.mem_cons.1 hc with rfl|hc
     ·omega
     ·exact k1 c hc
    ·rw[valS,List.length_cons,Nat.add_assoc,k2.1,show a.toNat=q-1 by omega,Nat.pow_succ,Nat.mul_comm (q^l.length),Nat.sub_mul,Nat.one_mul]
     have:q^l.length≤q*q^l.length:=Nat.le_mul_of_pos_left _ hq
     omega
    ·rcases List.mem_cons.1 hc with rfl|hc
     ·rfl
     ·exact k2.2 c hc
section
variable {hF:H} {q:Int}
theorem ri5{p s:List Int}{a b:Int}{i:Nat}(hi:p.length=i):(p++a::s).set i b=p++b::s:=by
 subst hi;simp
end
section
variable {hF:H} {l:List Nat} {r m N n o1 o2 o3:Nat} {f M:Nat→Bool} {sl:Option Addr} {cl:Nat}
end
section
variable {hF:H} {r m N o1 o3:Nat} {w:Nat→Bool} {sl:Option Addr} {cl:Nat}
end
section
variable {h:H}
end
section
variable {h:H} {r m N:Nat} {f:Nat→Bool} {sw:Option Addr} {cw:Nat}
end
section
variable {hF:H} {r m N:Nat} {f:Nat→Bool} {sw:Option Addr} {cw:Nat}
end
end Go.Proofs.Ytmhbpecdpiapgaa
namespace Go.Proofs.Ytmhbpecdpiapgaa
open Go.Am Go.Vm
end Go.Proofs.Ytmhbpecdpiapgaa
namespace Go.Am
def bin:Nat→Nat→Nat
 |_,0=>1
 |0,_+1=>0
 |n+1,k+1=>bin n k+bin n (k+1)
def sm(f:Nat→Int):Nat→Int
 |0=>0
 |n+1=>sm f n+f n
def sgn(j:Nat):Int:=if j%2=1 then-1 else 1
def qb(Q:Int)(r i:Nat):Int:=((bin r i:Nat):Int)*Q^i
def sb(x j:Nat):Int:=sgn j*((bin x j:Nat):Int)
end Go.Am
namespace Go.Proofs.Ytmhbpecdpiapgaa
open Go.Am
section
variable {q:Int}
end
section
variable {q:Int}
def kf(q:Int)(x r k:Nat)(t:Nat):Int:=sb x t*qb (q-1) r (k-t)
end
section
variable {q:Int}
end
section
variable {t v:Nat→Int} {all:Int}
def sv(v:Nat→Int):Nat→Int
 |0=>0
 |i+1=>sv v i+v i
end
section
variable {q:Int} {h:H} {o off c po pi:Nat} {zs:List Int} {n k:Nat} {all:Int}
end
section
variable {q:Int} {h:H} {o off c:Nat} {zs:List Int} {n:Nat}
end
end Go.Proofs.Ytmhbpecdpiapgaa
namespace Go.Proofs.Ytmhbpecdpiapgaa
open Go.Am Go.Vm
end Go.Proofs.Ytmhbpecdpiapgaa
namespace Go.Alg
class FK (K:Type) extends Zero K,One K,Add K,Mul K,Neg K where
 inv:K→K
 deq:DecidableEq K
 add_assoc: ∀a b c:K,a+b+c=a+(b+c)
 add_comm: ∀a b:K,a+b=b+a
 add_zero: ∀a:K,a+0=a
 add_neg: ∀a:K,a+ -a=0
 mul_assoc: ∀a b c:K,a*b*c=a*(b*c)
 mul_comm: ∀a b:K,a*b=b*a
 mul_one: ∀a:K,a*1=a
 mul_add: ∀a b c:K,a*(b+c)=a*b+a*c
 mul_inv: ∀a:K,a≠0→a*inv a=1
 zero_ne:(0:K)≠1
instance {K:Type} [FK K]:DecidableEq K:=FK.deq
instance {K:Type} [FK K]:Sub K:=⟨fun a b=>a+ -b⟩
section
variable {K:Type} [FK K]
theorem sub_eq(a b:K):a-b=a+ -b:=rfl
theorem zero_add(a:K):0+a=a:=by rw[FK.add_comm,FK.add_zero]
theorem neg_add(a:K): -a+a=0:=by rw[FK.add_comm,FK.add_neg]
theorem one_mul(a:K):1*a=a:=by rw[FK.mul_comm,FK.mul_one]
theorem add_mul(a b c:K):(a+b)*c=a*c+b*c:=by rw[FK.mul_comm,FK.mul_add,FK.mul_comm c a,FK.mul_comm c b]
theorem g50{a b c:K}(h:a+b=a+c):b=c:=by
 have:=congrArg (fun x=> -a+x) h
 simpa only[←FK.add_assoc,neg_add,zero_add]using this
theorem mul_zero(a:K):a*0=0:=by
 have h:a*0+a*0=a*0+0:=by rw[←FK.mul_add,FK.add_zero,FK.add_zero]
 exact g50 h
theorem zero_mul(a:K):0*a=0:=by rw[FK.mul_comm,mul_zero]
theorem ut3{a b:K}(h:a+b=0):b= -a:=g50 (a:=a) (by rw[h,FK.add_neg])
theorem neg_zero: -(0:K)=0:=(ut3 (FK.add_zero (0:K))).symm
theorem neg_mul(a b:K): -a*b= -(a*b):=ut3 (by rw[←add_mul,FK.add_neg,zero_mul])
theorem mul_neg(a b:K):a* -b= -(a*b):=by rw[FK.mul_comm,neg_mul,FK.mul_comm]
theorem tp9(a b:K): -(a+b)= -a+ -b:=(ut3 (by rw[FK.add_assoc,←FK.add_assoc b,FK.add_comm b,FK.add_assoc (-a),FK.add_neg,FK.add_zero,FK.add_neg])).symm
theorem sub_self(a:K):a-a=0:=FK.add_neg a
theorem sub_zero(a:K):a-0=a:=by rw[sub_eq,neg_zero,FK.add_zero]
theorem fj9(a b:K):a-b+b=a:=by rw[sub_eq,FK.add_assoc,neg_add,FK.add_zero]
theorem sub_eq_zero{a b:K}:a-b=0↔a=b:=⟨fun h=>by rw[←fj9 a b,h,zero_add],fun h=>by rw[h,sub_self]⟩
theorem mul_sub(a b c:K):a*(b-c)=a*b-a*c:=by rw[sub_eq,sub_eq,FK.mul_add,mul_neg]
theorem sub_mul(a b c:K):(a-b)*c=a*c-b*c:=by rw[sub_eq,sub_eq,add_mul,neg_mul]
theorem ki7:(1:K)≠0:=fun h=>FK.zero_ne h.symm
theorem inv_mul{a:K}(h:a≠0):FK.inv a*a=1:=by rw[FK.mul_comm,FK.mul_inv a h]
theorem mul_left{a b c:K}(ha:a≠0)(h:a*b=a*c):b=c:=by
 have:=congrArg (fun x=>FK.inv a*x) h
 simpa only[←FK.mul_assoc,inv_mul ha,one_mul]using this
theorem mul_eq_zero{a b:K}(h:a*b=0):a=0∨b=0:=by
 by_cases ha:a=0
 ·exact .inl ha
 ·exact .inr (mul_left ha (by rw[h,mul_zero]))
instance :Std.Associative (α:=K) (· + ·):=⟨FK.add_assoc⟩
instance :Std.Commutative (α:=K) (· + ·):=⟨FK.add_comm⟩
instance :Std.Associative (α:=K) (· * ·):=⟨FK.mul_assoc⟩
instance :Std.Commutative (α:=K) (· * ·):=⟨FK.mul_comm⟩
theorem add4(a b c d:K):(a+b)+(c+d)=(a+c)+(b+d):=by ac_rfl
def sumL{α:Type}(l:List α)(f:α→K):K:=l.foldr (fun a s=>f a+s) 0
variable {α β:Type}
theorem lh9(f:α→K):sumL [] f=0:=rfl
theorem gb6(a:α)(l:List α)(f:α→K):sumL (a::l) f=f a+sumL l f:=rfl
theorem up0(f:α→K): ∀l l':List α,sumL (l++l') f=sumL l f+sumL l' f
 | [],l'=>by rw[List.nil_append,lh9,zero_add]
 |a::l,l'=>by rw[List.cons_append,gb6,gb6,up0 f l l',FK.add_assoc]
theorem jl9(f g:α→K): ∀l:List α,sumL l (fun a=>f a+g a)=sumL l f+sumL l g
 | []=>by rw[lh9,lh9,lh9,FK.add_zero]
 |a::l=>by rw[gb6,gb6,gb6,jl9 f g l,add4]
theorem ro9(c:K)(f:α→K): ∀l:List α,sumL l (fun a=>c*f a)=c*sumL l f
 | []=>by rw[lh9,lh9,mul_zero]
 |a::l=>by rw[gb6,gb6,ro9 c f l,FK.mul_add]
theorem ue3(c:K)(f:α→K)(l:List α):sumL l (fun a=>f a*c)=sumL l f*c:=by
 rw[FK.mul_comm,←ro9]
 congr 1
 funext a
 rw[FK.mul_comm]
theorem eq0(f:α→K): ∀l:List α,sumL l (fun a=> -f a)= -sumL l f
 | []=>by rw[lh9,lh9,neg_zero]
 |a::l=>by rw[gb6,gb6,eq0 f l,tp9]
theorem b15(f g:α→K)(l:List α):sumL l (fun a=>f a-g a)=sumL l f-sumL l g:=by
 simp only[sub_eq]
 rw[jl9,eq0]
theorem ox7{f g:α→K}: ∀{l:List α},(∀a∈l,f a=g a)→sumL l f=sumL l g
 | [],_=>rfl
 |a::l,h=>by rw[gb6,gb6,h a (by simp),ox7 fun b hb=>h b (by simp[hb])]
theorem tx6{f:α→K}{l:List α}(h: ∀a∈l,f a=0):sumL l f=0:=by
 induction l with
 |nil=>rfl
 |cons a l ih=>rw[gb6,h a (by simp),ih fun b hb=>h b (by simp[hb]),FK.add_zero]
theorem j53(f:α→β→K)(l':List β): ∀l:List α,sumL l (fun a=>sumL l' (f a))=sumL l' (fun b=>sumL l (fun a=>f a b))
 | []=>by rw[lh9];exact(tx6 fun _ _=>rfl).symm
 |a::l=>by rw[gb6,j53 f l' l,←jl9];rfl
theorem l63(g:β→α)(f:α→K): ∀l:List β,sumL (l.map g) f=sumL l fun b=>f (g b)
 | []=>rfl
 |b::l=>by rw[List.map_cons,gb6,gb6,l63 g f l]
theorem j94 [DecidableEq α]{f:α→K}{s:α}: ∀{l:List α},l.Nodup→s∈l→(∀a∈l,a≠s→f a=0)→sumL l f=f s
 | [],_,h,_=>by cases h
 |a::l,hn,h,h0=>by
  rw[List.nodup_cons]at hn
  rw[gb6]
  by_cases ha:a=s
  ·subst ha
   rw[tx6 fun b hb=>h0 b (by simp[hb]) fun e=>hn.1 (e▸hb),FK.add_zero]
  ·rw[h0 a (by simp) ha,zero_add]
   refine j94 hn.2 ?_ fun b hb=>h0 b (by simp[hb])
   rcases List.mem_cons.1 h with h|h
   ·exact absurd h.symm ha
   ·exact h
def sumN(n:Nat)(f:Nat→K):K:=sumL (List.range n) f
theorem wr8(f:Nat→K):sumN 0 f=0:=rfl
theorem cp9(n:Nat)(f:Nat→K):sumN (n+1) f=sumN n f+f n:=by
 unfold sumN
 rw[List.range_succ,up0,gb6,lh9,FK.add_zero]
theorem c66(n:Nat)(f:Nat→K):sumN (n+1) f=f 0+sumN n fun i=>f (i+1):=by
 unfold sumN
 rw[List.range_succ_eq_map,gb6,l63]
theorem xq2{n s:Nat}{f:Nat→K}(hs:s<n)(h: ∀a,a<n→a≠s→f a=0):sumN n f=f s:=
 j94 List.nodup_range (List.mem_range.2 hs) fun a ha=>h a (List.mem_range.1 ha)
theorem rc1{n:Nat}{f g:Nat→K}(h: ∀a,a<n→f a=g a):sumN n f=sumN n g:=ox7 fun a ha=>h a (List.mem_range.1 ha)
theorem ja4{n:Nat}{f:Nat→K}(h: ∀a,a<n→f a=0):sumN n f=0:=tx6 fun a ha=>h a (List.mem_range.1 ha)
end
end Go.Alg
