/-
  No cell of these rows narrows 'for every input' (looked for: loops, veiled, ifaces, maps, wideKeys, modest, calm, conditions, laid).
  DERIVED. THE GIVEN ROWS OF THIS SEAT. 4 by the template 'for every input the law returns true; each argument reads behind the call as it read before'; 0 by the template 'total and deterministic' (their statements: YtdmgkdaiegdfmaaTotals.lean).
  GIVEN WITH THE SEED: the statements are not yours to turn. If you find one false, say at which input.
  Laid BY PROGRAM, IN A SANDBOX (cutbox-rows.mjs): the forced cells as the released guide's own fill.sh prints them over the translation 1c080671ccc74f0c… (all of the seat's roots in one cut). By AI agents, Wed Nov 11 2026. No macro, syntax, notation, axiom, sorry.
-/
import Derived.Test.YtdmgkdaiegdfmaaChecked
import GoSem.Claim
import GoSem.ClaimJoined
import GoSem.ClaimMapViews
import Derived.JoinedTies
import Derived.KernelRfl
namespace Go.Proofs.Ytdmgkdaiegdfmaa
/- THE CELL 'sum', in the pinned program and in every row, IS THE sha256 OF THE DUMP (.gsa) THAT YtdmgkdaiegdfmaaProg.lean LOADS. Nothing in Lean hashes anything: it is a label: what it is worth is what the hold of that sum in a sandbox is worth. -/
noncomputable def Try.pinned : Pinned := { name := "ytdmgkdaiegdfmaa", sum := "1c080671ccc74f0c8bc1257b169a3805826bb424b4e821bb8b10f1de47680d37", checked := Try.checked }
namespace Rows
def none {H : Type} : Left H := { results := [], args := [] }

/-- 'syndromelaw.Names': WHATEVER THE INPUT: true; the input reads as it did. -/
def namesSpec : ChangeSpec := { name := "names", fn := fun _ => fun
  | [] => { results := [.lit (.bool true)], args := [] }
  | _ => none }
def namesRow : OpenClaim := { program := "ytdmgkdaiegdfmaa", sum := "1c080671ccc74f0c8bc1257b169a3805826bb424b4e821bb8b10f1de47680d37", func := "syndrome/syndromelaw.Names", spec := "names", apart := false }
def NamesSaid : Prop := namesRow.holds Try.pinned (OpenSpec.ofChange namesSpec)

/-- ITS FALSE NEIGHBOUR: 'it returns false'. Refute it at one input. -/
def namesWrong : ChangeSpec := { name := "names", fn := fun _ => fun
  | [] => { results := [.lit (.bool false)], args := [] }
  | _ => none }
def NamesWrongFalsely : Prop := namesRow.holds Try.pinned (OpenSpec.ofChange namesWrong)

/-- 'syndromelaw.DigitsRing': WHATEVER THE INPUT: true; the input reads as it did. -/
def digitsRingSpec : ChangeSpec := { name := "digitsRing", fn := fun _ => fun
  | [d1, d2] => { results := [.lit (.bool true)], args := [d1, d2] }
  | _ => none }
def digitsRingRow : OpenClaim := { program := "ytdmgkdaiegdfmaa", sum := "1c080671ccc74f0c8bc1257b169a3805826bb424b4e821bb8b10f1de47680d37", func := "syndrome/syndromelaw.DigitsRing", spec := "digitsRing", unfollowed := true, recurses := true, apart := false }
def DigitsRingSaid : Prop := digitsRingRow.holds Try.pinned (OpenSpec.ofChange digitsRingSpec)

/-- ITS FALSE NEIGHBOUR: 'it returns false'. Refute it at one input. -/
def digitsRingWrong : ChangeSpec := { name := "digitsRing", fn := fun _ => fun
  | [d1, d2] => { results := [.lit (.bool false)], args := [d1, d2] }
  | _ => none }
def DigitsRingWrongFalsely : Prop := digitsRingRow.holds Try.pinned (OpenSpec.ofChange digitsRingWrong)

/-- 'syndromelaw.DigitsGray': WHATEVER THE INPUT: true; the input reads as it did. -/
def digitsGraySpec : ChangeSpec := { name := "digitsGray", fn := fun _ => fun
  | [d1, d2, d3] => { results := [.lit (.bool true)], args := [d1, d2, d3] }
  | _ => none }
def digitsGrayRow : OpenClaim := { program := "ytdmgkdaiegdfmaa", sum := "1c080671ccc74f0c8bc1257b169a3805826bb424b4e821bb8b10f1de47680d37", func := "syndrome/syndromelaw.DigitsGray", spec := "digitsGray", recurses := true, apart := false }
def DigitsGraySaid : Prop := digitsGrayRow.holds Try.pinned (OpenSpec.ofChange digitsGraySpec)

/-- ITS FALSE NEIGHBOUR: 'it returns false'. Refute it at one input. -/
def digitsGrayWrong : ChangeSpec := { name := "digitsGray", fn := fun _ => fun
  | [d1, d2, d3] => { results := [.lit (.bool false)], args := [d1, d2, d3] }
  | _ => none }
def DigitsGrayWrongFalsely : Prop := digitsGrayRow.holds Try.pinned (OpenSpec.ofChange digitsGrayWrong)

/-- 'syndromelaw.GolayDesigns': WHATEVER THE INPUT: true; the input reads as it did. -/
def golayDesignsSpec : ChangeSpec := { name := "golayDesigns", fn := fun _ => fun
  | [d1, d2, d3] => { results := [.lit (.bool true)], args := [d1, d2, d3] }
  | _ => none }
def golayDesignsRow : OpenClaim := { program := "ytdmgkdaiegdfmaa", sum := "1c080671ccc74f0c8bc1257b169a3805826bb424b4e821bb8b10f1de47680d37", func := "syndrome/syndromelaw.GolayDesigns", spec := "golayDesigns", unfollowed := true, recurses := true, apart := false }
def GolayDesignsSaid : Prop := golayDesignsRow.holds Try.pinned (OpenSpec.ofChange golayDesignsSpec)

/-- ITS FALSE NEIGHBOUR: 'it returns false'. Refute it at one input. -/
def golayDesignsWrong : ChangeSpec := { name := "golayDesigns", fn := fun _ => fun
  | [d1, d2, d3] => { results := [.lit (.bool false)], args := [d1, d2, d3] }
  | _ => none }
def GolayDesignsWrongFalsely : Prop := golayDesignsRow.holds Try.pinned (OpenSpec.ofChange golayDesignsWrong)

/- THE SECOND FORM. 'bulk': how many values and letters a reading holds, each counted each time it is reached (what is shared counts as often as it is met; a slice's spare places count too). A statement '..UptoSaid' is the law's where the arguments, and the package variables that the reading takes, are together of bulk at most 1048576: NARROWER than '..Said'. Prove '..Said' where nothing that the law and all that it calls make is longer than what came in: it says more and counts as full. Else prove '..UptoSaid'. A law counts once. -/
mutual
def uptoBulk {H : Type} : DataW H → Nat
  | .lit (.string bytes) => bytes.length + 1
  | .lit _ => 1
  | .nil => 1
  | .ptr d => uptoBulk d + 1
  | .slice elems spare => uptoBulkAll elems + uptoBulkAll spare + 1
  | .agg parts => uptoBulkAll parts + 1
  | .iface _ d => uptoBulk d + 1
  | .map entries => uptoBulkEntries entries + 1
  | .held _ => 1
def uptoBulkAll {H : Type} : List (DataW H) → Nat
  | [] => 0
  | d :: r => uptoBulk d + uptoBulkAll r
def uptoBulkEntries {H : Type} : List (Lit × DataW H) → Nat
  | [] => 0
  | x :: r => uptoBulkEntry x + uptoBulkEntries r
def uptoBulkEntry {H : Type} : Lit × DataW H → Nat
  | (.string bytes, d) => bytes.length + uptoBulk d + 1
  | (_, d) => uptoBulk d + 1
 end
def uptoSmall : (H : Type) → List (DataW H) → Bool := fun _ ds => decide (uptoBulkAll ds ≤ 1048576)
def OpenSpec.upto (s : _root_.Go.ChangeSpec) : _root_.Go.OpenSpec := { _root_.Go.OpenSpec.ofChange s with cond := some uptoSmall }

/-- 'syndromelaw.Names', WHERE WHAT IT READS IS OF BULK AT MOST 1048576: true; the input reads as it did. -/
def namesUptoRow : OpenClaim := { program := "ytdmgkdaiegdfmaa", sum := "1c080671ccc74f0c8bc1257b169a3805826bb424b4e821bb8b10f1de47680d37", func := "syndrome/syndromelaw.Names", spec := "names", apart := false, narrowed := true }
def NamesUptoSaid : Prop := namesUptoRow.holds Try.pinned (OpenSpec.upto namesSpec)

/-- 'syndromelaw.DigitsRing', WHERE WHAT IT READS IS OF BULK AT MOST 1048576: true; the input reads as it did. -/
def digitsRingUptoRow : OpenClaim := { program := "ytdmgkdaiegdfmaa", sum := "1c080671ccc74f0c8bc1257b169a3805826bb424b4e821bb8b10f1de47680d37", func := "syndrome/syndromelaw.DigitsRing", spec := "digitsRing", unfollowed := true, recurses := true, apart := false, narrowed := true }
def DigitsRingUptoSaid : Prop := digitsRingUptoRow.holds Try.pinned (OpenSpec.upto digitsRingSpec)

/-- 'syndromelaw.DigitsGray', WHERE WHAT IT READS IS OF BULK AT MOST 1048576: true; the input reads as it did. -/
def digitsGrayUptoRow : OpenClaim := { program := "ytdmgkdaiegdfmaa", sum := "1c080671ccc74f0c8bc1257b169a3805826bb424b4e821bb8b10f1de47680d37", func := "syndrome/syndromelaw.DigitsGray", spec := "digitsGray", recurses := true, apart := false, narrowed := true }
def DigitsGrayUptoSaid : Prop := digitsGrayUptoRow.holds Try.pinned (OpenSpec.upto digitsGraySpec)

/-- 'syndromelaw.GolayDesigns', WHERE WHAT IT READS IS OF BULK AT MOST 1048576: true; the input reads as it did. -/
def golayDesignsUptoRow : OpenClaim := { program := "ytdmgkdaiegdfmaa", sum := "1c080671ccc74f0c8bc1257b169a3805826bb424b4e821bb8b10f1de47680d37", func := "syndrome/syndromelaw.GolayDesigns", spec := "golayDesigns", unfollowed := true, recurses := true, apart := false, narrowed := true }
def GolayDesignsUptoSaid : Prop := golayDesignsUptoRow.holds Try.pinned (OpenSpec.upto golayDesignsSpec)

end Rows
end Go.Proofs.Ytdmgkdaiegdfmaa
