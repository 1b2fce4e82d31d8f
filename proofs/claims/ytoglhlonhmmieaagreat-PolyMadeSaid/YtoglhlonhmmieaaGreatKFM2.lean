/-
  Products of fields of 48 to 62 elements. No condition.
-/
import Derived.Test.YtoglhlonhmmieaaGreatK5
set_option linter.unusedVariables false
set_option linter.unusedSimpArgs false
set_option linter.unusedSectionVars false
set_option maxRecDepth 100000
namespace Go.Proofs.YtoglhlonhmmieaaGreat
theorem gf7:((List.range 15).all fun n=>y98 (n+48))=true:=by kernel_rfl
end Go.Proofs.YtoglhlonhmmieaaGreat
