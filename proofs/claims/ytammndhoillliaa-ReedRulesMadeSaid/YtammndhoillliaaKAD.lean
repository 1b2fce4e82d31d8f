/-
  Products by a generator go through sums: checked. No condition.
-/
import Derived.Test.YtammndhoillliaaK2
namespace Go.Proofs.Ytammndhoillliaa
set_option linter.unusedVariables false
def distCheck (n : Nat) : Bool := match fldN n with
  | none => true
  | some (p, m, g, mod) => (List.range n).all fun b : Nat => (List.range n).all fun c : Nat => decide (fmul n g (addN p m b c) = addN p m (fmul n g b) (fmul n g c))
theorem dist_checked : ((List.range 63).all fun n => distCheck (n + 2)) = true := by kernel_rfl
end Go.Proofs.Ytammndhoillliaa
