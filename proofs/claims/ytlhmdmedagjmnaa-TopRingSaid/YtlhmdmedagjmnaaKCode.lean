/-
  Functions of this seat as the small machine's code, written by a program of my own (gen.py); each is checked to be what the model's function is turned into. No condition.
-/
import Derived.Test.YtlhmdmedagjmnaaKCode0
set_option linter.unusedVariables false
set_option linter.unusedSimpArgs false
set_option linter.unusedSectionVars false
set_option maxRecDepth 100000
namespace Go.Proofs.Ytlhmdmedagjmnaa
open Go.Am
def T:Tab
 |7=>some F7
 |17=>some F17
 |38=>some F38
 |39=>some F39
 |40=>some F40
 |41=>some F41
 |42=>some F42
 |80=>some F80
 |81=>some F81
 |_=>none
theorem T7:T 7=some F7:=rfl
theorem T17:T 17=some F17:=rfl
theorem T38:T 38=some F38:=rfl
theorem T39:T 39=some F39:=rfl
theorem T40:T 40=some F40:=rfl
theorem T41:T 41=some F41:=rfl
theorem T42:T 42=some F42:=rfl
theorem T80:T 80=some F80:=rfl
theorem T81:T 81=some F81:=rfl
theorem b41:xp2 Try.prog T:=by
 intro f F h
 unfold T at h
 split at h
 ·cases h;exact .inl (lh3 Try.func7 F7_ok)
 ·cases h;exact .inl (lh3 Try.func17 F17_ok)
 ·cases h;exact .inl (lh3 Try.func38 F38_ok)
 ·cases h;exact .inl (lh3 Try.func39 F39_ok)
 ·cases h;exact .inl (lh3 Try.func40 F40_ok)
 ·cases h;exact .inl (lh3 Try.func41 F41_ok)
 ·cases h;exact .inl (lh3 Try.func42 F42_ok)
 ·cases h;exact .inl (lh3 Try.func80 F80_ok)
 ·cases h;exact .inl (lh3 Try.func81 F81_ok)
 ·cases h
theorem mixed:Try.prog.follows .mixedOrders=true:=by kernel_rfl
end Go.Proofs.Ytlhmdmedagjmnaa
