/-
  Products of the field of 64 elements. No condition.
-/
import Derived.Test.YtammndhoillliaaK2
namespace Go.Proofs.Ytammndhoillliaa
theorem mul_row0 : mulRows 64 0 8 = true := by kernel_rfl
theorem mul_row1 : mulRows 64 8 8 = true := by kernel_rfl
theorem mul_row2 : mulRows 64 16 8 = true := by kernel_rfl
theorem mul_row3 : mulRows 64 24 8 = true := by kernel_rfl
end Go.Proofs.Ytammndhoillliaa
