/-
  Functions of this seat as the small machine's code, written by a program of my own (gen.py); each is checked to be what the model's function is turned into. No condition.
-/
import Derived.Test.YtodbgomfeacdhaaKCode0
set_option linter.unusedVariables false
set_option linter.unusedSimpArgs false
set_option linter.unusedSectionVars false
set_option maxRecDepth 100000
namespace Go.Proofs.Ytodbgomfeacdhaa
open Go.Am
def T:Tab
 |5=>some F5
 |17=>some F17
 |29=>some F29
 |30=>some F30
 |31=>some F31
 |82=>some F82
 |83=>some F83
 |84=>some F84
 |85=>some F85
 |86=>some F86
 |_=>none
theorem T5:T 5=some F5:=rfl
theorem T17:T 17=some F17:=rfl
theorem T29:T 29=some F29:=rfl
theorem T30:T 30=some F30:=rfl
theorem T31:T 31=some F31:=rfl
theorem T82:T 82=some F82:=rfl
theorem T83:T 83=some F83:=rfl
theorem T84:T 84=some F84:=rfl
theorem T85:T 85=some F85:=rfl
theorem T86:T 86=some F86:=rfl
theorem b41:xp2 Try.prog T:=by
 intro f F h
 unfold T at h
 split at h
 ·cases h;exact .inl (lh3 Try.func5 F5_ok)
 ·cases h;exact .inl (lh3 Try.func17 F17_ok)
 ·cases h;exact .inl (lh3 Try.func29 F29_ok)
 ·cases h;exact .inl (lh3 Try.func30 F30_ok)
 ·cases h;exact .inl (lh3 Try.func31 F31_ok)
 ·cases h;exact .inl (lh3 Try.func82 F82_ok)
 ·cases h;exact .inl (lh3 Try.func83 F83_ok)
 ·cases h;exact .inl (lh3 Try.func84 F84_ok)
 ·cases h;exact .inl (lh3 Try.func85 F85_ok)
 ·cases h;exact .inl (lh3 Try.func86 F86_ok)
 ·cases h
theorem mixed:Try.prog.follows .mixedOrders=true:=by kernel_rfl
end Go.Proofs.Ytodbgomfeacdhaa
