/-
  What syndromeref's F.Mul, Neg, Add and Sub compute, as the table's numbers. Conditions: a field of the table. What syndromeref's F.Add and F.Sub compute. Conditions: a field of the table. What syndrom ..
-/
import Derived.Test.YtodbgomfeacdhaaKFM0
import Derived.Test.YtodbgomfeacdhaaKFM1
import Derived.Test.YtodbgomfeacdhaaKFM2
import Derived.Test.YtodbgomfeacdhaaKFM3
import Derived.Test.YtodbgomfeacdhaaKFM4
import Derived.Test.YtodbgomfeacdhaaK5
import Derived.WalkKit
import Derived.Test.YtodbgomfeacdhaaKCode
import Derived.Test.YtodbgomfeacdhaaK2
set_option linter.unusedVariables false
set_option linter.unusedSimpArgs false
set_option linter.unusedSectionVars false
set_option maxRecDepth 100000
namespace Go.Proofs.Ytodbgomfeacdhaa
open Go.Am
section
variable {h:H} {q p:Int} {m:Nat} {g:Int} {mod:List Int} {om cm:Nat}
end
section
variable {h:H} {q p:Int} {m:Nat} {g:Int} {mod:List Int} {om cm:Nat}
end
section
variable {q p g:Int} {m:Nat} {mod:List Int}
theorem zd3(t:Tabs q g)(hq:2≤q)(i:Int):1≤fexp q (i%(q-1))∧fexp q (i%(q-1))<q∧flog q (fexp q (i%(q-1)))=i%(q-1):=
 t.er _ (Int.emod_nonneg _ (by omega)) (Int.emod_lt_of_pos _ (by omega))
end
section
variable {h:H} {q p:Int} {m:Nat} {g:Int} {mod:List Int} {om cm:Nat}
end
section
variable {h:H} {q p:Int} {m:Nat} {g:Int} {mod:List Int} {om cm:Nat}
end
section
variable {h:H} {q p:Int} {m:Nat} {g:Int} {mod:List Int} {om cm:Nat}
end
section
variable {h:H} {F:Nat} {q p:Int} {m:Nat} {g:Int} {mod:List Int} {E L om fm cm:Nat}
end
section
variable {h:H} {q p:Int} {m:Nat} {g:Int} {mod:List Int} {om cm:Nat}
end
section
variable {h:H} {F F':Nat} {q p:Int} {m:Nat} {g:Int} {mod:List Int} {E L om fm cm:Nat} {s p':Int} {m':Nat} {g':Int} {mod':List Int} {E' L' om' fm' cm':Nat}
end
end Go.Proofs.Ytodbgomfeacdhaa
namespace Go.Proofs.Ytodbgomfeacdhaa
open Go.Am Go.Vm
section
variable {h:H} {F:Nat} {q p:Int} {m:Nat} {g:Int} {mod:List Int} {E L om fm cm:Nat}
end
end Go.Proofs.Ytodbgomfeacdhaa
namespace Go.Proofs.Ytodbgomfeacdhaa
theorem i62{α:Type}{l:List α}{i:Nat}{x:α}(h:l[i]? =some x):l.drop i=x::l.drop (i+1):=by
 obtain⟨hi,he⟩:=List.getElem?_eq_some_iff.1 h
 rw[List.drop_eq_getElem_cons hi,he]
theorem oh9{α:Type}{l:List α}{i:Nat}(h:l.length≤i):l.drop i=[]:=List.drop_eq_nil_of_le h
theorem ge6{α:Type}{l:List α}{i:Nat}(h:i<l.length): ∃x,l[i]? =some x:=⟨_,List.getElem?_eq_getElem h⟩
def xorL{α:Type}(l:List α)(p:α→Bool):Bool:=l.foldr (fun a b=>p a^^b) false
section
variable {α:Type}
theorem rq9(p:α→Bool):xorL [] p=false:=rfl
theorem ti0(a:α)(l:List α)(p:α→Bool):xorL (a::l) p=(p a^^xorL l p):=rfl
theorem vn3(p:α→Bool): ∀l l':List α,xorL (l++l') p=(xorL l p^^xorL l' p)
 | [],l'=>by rw[List.nil_append,rq9,Bool.false_xor]
 |a::l,l'=>by rw[List.cons_append,ti0,ti0,vn3 p l l',Bool.xor_assoc]
theorem r85{p r:α→Bool}: ∀{l:List α},(∀a∈l,p a=r a)→xorL l p=xorL l r
 | [],_=>rfl
 |a::l,h=>by rw[ti0,ti0,h a (by simp),r85 fun b hb=>h b (by simp[hb])]
theorem gz2{p:α→Bool}{l:List α}(h: ∀a∈l,p a=false):xorL l p=false:=by
 induction l with
 |nil=>rfl
 |cons a l ih=>rw[ti0,h a (by simp),ih fun b hb=>h b (by simp[hb]),Bool.xor_false]
end
section
variable {r m:Nat}
end
end Go.Proofs.Ytodbgomfeacdhaa
namespace Go.Proofs.Ytodbgomfeacdhaa
open Go.Am
@[push_cast] theorem py6{α:Type}{h:H}{r:Option α}:behind true h h r=r:=zy7 (List.prefix_refl h)
section
variable {h:H} {sa:Option Addr} {c:Nat} {l:List Int}
end
section
variable {h0:H} {sr:Option Addr} {cr:Nat} {raw:List Int}
end
section
variable {h:H} {sa:Option Addr} {C:Nat} {cs:List (List Int)}
end
section
variable {h:H}
end
section
variable {h0:H}
end
section
variable {h:H}
end
section
variable {h0:H}
end
section
variable {h:H}
end
def bI(b:Bool):Int:=if b then 1 else 0
def wl(N:Nat)(f:Nat→Bool):List Int:=(List.range N).map fun x:Nat=>bI (f x)
theorem e13:((List.range 32).all fun x:Nat=>(List.range 32).all fun s:Nat=>decide (Go.bits .and .i64 (x:Int) (s:Int)=((x&&&s:Nat):Int)))=true:=by kernel_rfl
theorem ga1{x s:Nat}(hx:x<32)(hs:s<32):Go.bits .and .i64 (x:Int) (s:Int)=((x&&&s:Nat):Int):=
 of_decide_eq_true (List.all_eq_true.1 (List.all_eq_true.1 e13 x (List.mem_range.2 hx)) s (List.mem_range.2 hs))
section
variable {hF:H}
end
section
variable {h:H} {sw:Option Addr} {cw N:Nat} {f:Nat→Bool}
end
section
variable {hF:H} {l:List Nat} {c:Nat→Bool} {sm sl:Option Addr} {cm' cl N o:Nat}
end
section
variable {h:H} {sa sb:Option Addr} {ca cb N:Nat} {f g:Nat→Bool}
end
section
variable {h:H} {N o:Nat} {f g:Nat→Bool} {sb:Option Addr} {cb:Nat}
end
section
variable {h:H} {sa:Option Addr} {ca N:Nat} {f:Nat→Bool}
end
section
variable {h:H}
end
section
variable {h:H}
end
section
variable {hF:H} {q:Int}
end
theorem bl1{α:Type}(l:List α)(a:α)(p:α→Bool):xorL (l++[a]) p=(xorL l p^^p a):=by rw[vn3,ti0,rq9,Bool.xor_false]
section
variable {hF:H} {l:List Nat} {r m N n o1 o2 o3:Nat} {f M:Nat→Bool} {sl:Option Addr} {cl:Nat}
end
section
variable {hF:H} {r m N o1 o3:Nat} {w:Nat→Bool} {sl:Option Addr} {cl:Nat}
end
def fk6(l:List Int):Bool:=l.any fun v=> !(decide (v=0)||decide (v=1))
section
variable {h:H}
end
section
variable {h:H} {r m N:Nat} {f:Nat→Bool} {sw:Option Addr} {cw:Nat}
end
section
variable {hF:H} {r m N:Nat} {f:Nat→Bool} {sw:Option Addr} {cw:Nat}
end
end Go.Proofs.Ytodbgomfeacdhaa
namespace Go.Proofs.Ytodbgomfeacdhaa
open Go.Am Go.Vm
end Go.Proofs.Ytodbgomfeacdhaa
namespace Go.Alg
class FK (K:Type) extends Zero K,One K,Add K,Mul K,Neg K where
 inv:K→K
 deq:DecidableEq K
 add_assoc: ∀a b c:K,a+b+c=a+(b+c)
 add_comm: ∀a b:K,a+b=b+a
 add_zero: ∀a:K,a+0=a
 add_neg: ∀a:K,a+ -a=0
 mul_assoc: ∀a b c:K,a*b*c=a*(b*c)
 mul_comm: ∀a b:K,a*b=b*a
 mul_one: ∀a:K,a*1=a
 mul_add: ∀a b c:K,a*(b+c)=a*b+a*c
 mul_inv: ∀a:K,a≠0→a*inv a=1
 zero_ne:(0:K)≠1
instance {K:Type} [FK K]:DecidableEq K:=FK.deq
instance {K:Type} [FK K]:Sub K:=⟨fun a b=>a+ -b⟩
section
variable {K:Type} [FK K]
instance :Std.Associative (α:=K) (· + ·):=⟨FK.add_assoc⟩
instance :Std.Commutative (α:=K) (· + ·):=⟨FK.add_comm⟩
instance :Std.Associative (α:=K) (· * ·):=⟨FK.mul_assoc⟩
instance :Std.Commutative (α:=K) (· * ·):=⟨FK.mul_comm⟩
variable {α β:Type}
end
end Go.Alg
