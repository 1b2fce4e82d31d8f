/-
  Products of fields of 48 to 62 elements. No condition.
-/
import Derived.Test.YtammndhoillliaaK2
namespace Go.Proofs.Ytammndhoillliaa
theorem mul_checked2 : ((List.range 15).all fun n => mulCheck (n + 48)) = true := by kernel_rfl
end Go.Proofs.Ytammndhoillliaa
