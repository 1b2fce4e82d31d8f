/-
  CodeSays answers true, in the first machine. Conditions: arguments as memory has them.
-/
import Derived.Test.YtodbgomfeacdhaaGreatK9
set_option linter.unusedVariables false
set_option linter.unusedSimpArgs false
set_option linter.unusedSectionVars false
set_option maxRecDepth 100000
namespace Go.Proofs.YtodbgomfeacdhaaGreat
open Go.Am Go.Vm Go.Alg
theorem le1(h:H)(m0:Int)(_: -9223372036854775808≤m0)(_:m0≤9223372036854775807)(o0:Int)(_: -9223372036854775808≤o0)(_:o0≤9223372036854775807)(s0:Option Addr)(c0:Nat)(z0:List (List Int))(r0:RdLL h s0 c0 z0)(u0:ss4 h 1 s0=true)(_:z0.length≤9223372036854775807)(_: ∀l∈z0,l.length≤9223372036854775807)(s1:Option Addr)(c1:Nat)(z1:List Int)(r1:RdI h s1 c1 z1)(_:ss4 h 1 s1=true)(_:z1.length≤9223372036854775807)(s2:Option Addr)(c2:Nat)(z2:List Int)(r2:RdI h s2 c2 z2)(_:ss4 h 1 s2=true)(_:z2.length≤9223372036854775807)(a3:Int)(_: -9223372036854775808≤a3)(_:a3≤9223372036854775807):
 ∃h',call T 3 [.agg #[.int .i64 m0, .int .i64 o0, .slice s0 z0.length c0], .slice s1 z1.length c1, .slice s2 z2.length c2, .int .i64 a3] h=some (.bool true,h'):=
 vlaw lw2 (wy9 (sk6 (sk6 (dp0 a23 _) r2) r1) r0 u0) (by apply u68<;>assumption)
end Go.Proofs.YtodbgomfeacdhaaGreat
