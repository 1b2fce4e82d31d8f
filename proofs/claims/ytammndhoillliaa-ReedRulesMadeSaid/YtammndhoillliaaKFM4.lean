/-
  Products of the field of 64 elements. No condition.
-/
import Derived.Test.YtammndhoillliaaK2
namespace Go.Proofs.Ytammndhoillliaa
theorem mul_row4 : mulRows 64 32 8 = true := by kernel_rfl
theorem mul_row5 : mulRows 64 40 8 = true := by kernel_rfl
theorem mul_row6 : mulRows 64 48 8 = true := by kernel_rfl
theorem mul_row7 : mulRows 64 56 8 = true := by kernel_rfl
end Go.Proofs.Ytammndhoillliaa
