/-
  Products by a generator go through sums: checked. No condition.
-/
import Derived.Test.YtppbpgmdmiajcaaK6
set_option linter.unusedVariables false
set_option linter.unusedSimpArgs false
set_option linter.unusedSectionVars false
set_option maxRecDepth 100000
namespace Go.Proofs.Ytppbpgmdmiajcaa
def ud5(n:Nat):Bool:=match fldN n with
 |none=>true
 |some (p,m,g,mod)=>(List.range n).all fun b:Nat=>(List.range n).all fun c:Nat=>decide (fmul n g (addN p m b c)=addN p m (fmul n g b) (fmul n g c))
theorem hm8:((List.range 63).all fun n=>ud5 (n+2))=true:=by kernel_rfl
end Go.Proofs.Ytppbpgmdmiajcaa
