/-
  Products of the field of 64 elements. No condition.
-/
import Derived.Test.YtjpejkakodbchaaK4
set_option linter.unusedVariables false
set_option linter.unusedSimpArgs false
set_option linter.unusedSectionVars false
namespace Go.Proofs.Ytjpejkakodbchaa
theorem dl1 : e80 64 0 8 = true := by kernel_rfl
theorem b81 : e80 64 8 8 = true := by kernel_rfl
theorem cl1 : e80 64 16 8 = true := by kernel_rfl
theorem dd1 : e80 64 24 8 = true := by kernel_rfl
end Go.Proofs.Ytjpejkakodbchaa
