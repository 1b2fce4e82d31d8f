/-
  Products of fields of 2 to 30 elements. No condition.
-/
import Derived.Test.YtammndhoillliaaK2
namespace Go.Proofs.Ytammndhoillliaa
theorem mul_checked0 : ((List.range 29).all fun n => mulCheck (n + 2)) = true := by kernel_rfl
end Go.Proofs.Ytammndhoillliaa
