/-
  Products of the field of 64 elements. No condition.
-/
import Derived.Test.YtppbpgmdmiajcaaK6
set_option linter.unusedVariables false
set_option linter.unusedSimpArgs false
set_option linter.unusedSectionVars false
set_option maxRecDepth 100000
namespace Go.Proofs.Ytppbpgmdmiajcaa
end Go.Proofs.Ytppbpgmdmiajcaa
