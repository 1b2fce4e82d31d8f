/-
  Products by a generator go through sums: checked. No condition.
-/
import Derived.Test.YtodbgomfeacdhaaK5
set_option linter.unusedVariables false
set_option linter.unusedSimpArgs false
set_option linter.unusedSectionVars false
set_option maxRecDepth 100000
namespace Go.Proofs.Ytodbgomfeacdhaa
end Go.Proofs.Ytodbgomfeacdhaa
