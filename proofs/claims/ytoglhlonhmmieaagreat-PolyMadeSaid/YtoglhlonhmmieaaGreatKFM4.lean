/-
  Products of the field of 64 elements. No condition.
-/
import Derived.Test.YtoglhlonhmmieaaGreatK5
set_option linter.unusedVariables false
set_option linter.unusedSimpArgs false
set_option linter.unusedSectionVars false
set_option maxRecDepth 100000
namespace Go.Proofs.YtoglhlonhmmieaaGreat
theorem ra0:j25 64 32 8=true:=by kernel_rfl
theorem gh5:j25 64 40 8=true:=by kernel_rfl
theorem fn7:j25 64 48 8=true:=by kernel_rfl
theorem qc8:j25 64 56 8=true:=by kernel_rfl
end Go.Proofs.YtoglhlonhmmieaaGreat
