/-
  Products of the field of 64 elements. No condition.
-/
import Derived.Test.YtoglhlonhmmieaaGreatK5
set_option linter.unusedVariables false
set_option linter.unusedSimpArgs false
set_option linter.unusedSectionVars false
set_option maxRecDepth 100000
namespace Go.Proofs.YtoglhlonhmmieaaGreat
theorem fm2:j25 64 0 8=true:=by kernel_rfl
theorem f88:j25 64 8 8=true:=by kernel_rfl
theorem k92:j25 64 16 8=true:=by kernel_rfl
theorem ri8:j25 64 24 8=true:=by kernel_rfl
end Go.Proofs.YtoglhlonhmmieaaGreat
