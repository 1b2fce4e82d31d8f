/-
  Products of fields of 31 to 47 elements. No condition.
-/
import Derived.Test.YtoglhlonhmmieaaGreatK5
set_option linter.unusedVariables false
set_option linter.unusedSimpArgs false
set_option linter.unusedSectionVars false
set_option maxRecDepth 100000
namespace Go.Proofs.YtoglhlonhmmieaaGreat
theorem o38:((List.range 17).all fun n=>y98 (n+31))=true:=by kernel_rfl
end Go.Proofs.YtoglhlonhmmieaaGreat
