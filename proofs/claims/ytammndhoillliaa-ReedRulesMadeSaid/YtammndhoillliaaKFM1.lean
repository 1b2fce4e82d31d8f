/-
  Products of fields of 31 to 47 elements. No condition.
-/
import Derived.Test.YtammndhoillliaaK2
namespace Go.Proofs.Ytammndhoillliaa
theorem mul_checked1 : ((List.range 17).all fun n => mulCheck (n + 31)) = true := by kernel_rfl
end Go.Proofs.Ytammndhoillliaa
