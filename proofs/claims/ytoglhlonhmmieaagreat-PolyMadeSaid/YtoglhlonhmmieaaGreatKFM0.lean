/-
  Products of fields of 2 to 30 elements. No condition.
-/
import Derived.Test.YtoglhlonhmmieaaGreatK5
set_option linter.unusedVariables false
set_option linter.unusedSimpArgs false
set_option linter.unusedSectionVars false
set_option maxRecDepth 100000
namespace Go.Proofs.YtoglhlonhmmieaaGreat
theorem yu4:((List.range 29).all fun n=>y98 (n+2))=true:=by kernel_rfl
end Go.Proofs.YtoglhlonhmmieaaGreat
