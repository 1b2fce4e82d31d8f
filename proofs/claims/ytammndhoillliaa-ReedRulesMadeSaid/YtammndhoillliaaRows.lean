/-
  No cell of these rows narrows 'for every input' (looked for: loops, veiled, ifaces, maps, wideKeys, modest, calm, conditions, laid).
  DERIVED. THE GIVEN ROWS OF THIS SEAT. 12 by the template 'for every input the law returns true; each argument reads behind the call as it read before'; 0 by the template 'total and deterministic' (their statements: YtammndhoillliaaTotals.lean).
  GIVEN WITH THE SEED: the statements are not yours to turn. If you find one false, say at which input.
  Laid BY PROGRAM, IN A SANDBOX (cutbox-rows.mjs): the forced cells as the released guide's own fill.sh prints them over the translation d37841ebd08b82c8… (all of the seat's roots in one cut). By AI agents, Wed Nov 11 2026. No macro, syntax, notation, axiom, sorry.
-/
import Derived.Test.YtammndhoillliaaChecked
import GoSem.Claim
import GoSem.ClaimJoined
import GoSem.ClaimMapViews
import Derived.JoinedTies
import Derived.KernelRfl
namespace Go.Proofs.Ytammndhoillliaa
/- THE CELL 'sum', in the pinned program and in every row, IS THE sha256 OF THE DUMP (.gsa) THAT YtammndhoillliaaProg.lean LOADS. Nothing in Lean hashes anything: it is a label: what it is worth is what the hold of that sum in a sandbox is worth. -/
noncomputable def Try.pinned : Pinned := { name := "ytammndhoillliaa", sum := "d37841ebd08b82c848d7d8e13453348ffcc13567288ddcc317c85591a627bcf0", checked := Try.checked }
namespace Rows
def none {H : Type} : Left H := { results := [], args := [] }

/-- 'syndromelaw.MullerMends': WHATEVER THE INPUT: true; the input reads as it did. -/
def mullerMendsSpec : ChangeSpec := { name := "mullerMends", fn := fun _ => fun
  | [d1, d2, d3] => { results := [.lit (.bool true)], args := [d1, d2, d3] }
  | _ => none }
def mullerMendsRow : OpenClaim := { program := "ytammndhoillliaa", sum := "d37841ebd08b82c848d7d8e13453348ffcc13567288ddcc317c85591a627bcf0", func := "syndrome/syndromelaw.MullerMends", spec := "mullerMends", unfollowed := true, recurses := true, apart := false }
def MullerMendsSaid : Prop := mullerMendsRow.holds Try.pinned (OpenSpec.ofChange mullerMendsSpec)

/-- ITS FALSE NEIGHBOUR: 'it returns false'. Refute it at one input. -/
def mullerMendsWrong : ChangeSpec := { name := "mullerMends", fn := fun _ => fun
  | [d1, d2, d3] => { results := [.lit (.bool false)], args := [d1, d2, d3] }
  | _ => none }
def MullerMendsWrongFalsely : Prop := mullerMendsRow.holds Try.pinned (OpenSpec.ofChange mullerMendsWrong)

/-- 'syndromelaw.SparseSays': WHATEVER THE INPUT: true; the input reads as it did. -/
def sparseSaysSpec : ChangeSpec := { name := "sparseSays", fn := fun _ => fun
  | [d1, d2, d3, d4, d5] => { results := [.lit (.bool true)], args := [d1, d2, d3, d4, d5] }
  | _ => none }
def sparseSaysRow : OpenClaim := { program := "ytammndhoillliaa", sum := "d37841ebd08b82c848d7d8e13453348ffcc13567288ddcc317c85591a627bcf0", func := "syndrome/syndromelaw.SparseSays", spec := "sparseSays", unfollowed := true, recurses := true, apart := false }
def SparseSaysSaid : Prop := sparseSaysRow.holds Try.pinned (OpenSpec.ofChange sparseSaysSpec)

/-- ITS FALSE NEIGHBOUR: 'it returns false'. Refute it at one input. -/
def sparseSaysWrong : ChangeSpec := { name := "sparseSays", fn := fun _ => fun
  | [d1, d2, d3, d4, d5] => { results := [.lit (.bool false)], args := [d1, d2, d3, d4, d5] }
  | _ => none }
def SparseSaysWrongFalsely : Prop := sparseSaysRow.holds Try.pinned (OpenSpec.ofChange sparseSaysWrong)

/-- 'syndromelaw.SparseMade': WHATEVER THE INPUT: true; the input reads as it did. -/
def sparseMadeSpec : ChangeSpec := { name := "sparseMade", fn := fun _ => fun
  | [d1, d2, d3, d4, d5] => { results := [.lit (.bool true)], args := [d1, d2, d3, d4, d5] }
  | _ => none }
def sparseMadeRow : OpenClaim := { program := "ytammndhoillliaa", sum := "d37841ebd08b82c848d7d8e13453348ffcc13567288ddcc317c85591a627bcf0", func := "syndrome/syndromelaw.SparseMade", spec := "sparseMade", unfollowed := true, recurses := true, apart := false }
def SparseMadeSaid : Prop := sparseMadeRow.holds Try.pinned (OpenSpec.ofChange sparseMadeSpec)

/-- ITS FALSE NEIGHBOUR: 'it returns false'. Refute it at one input. -/
def sparseMadeWrong : ChangeSpec := { name := "sparseMade", fn := fun _ => fun
  | [d1, d2, d3, d4, d5] => { results := [.lit (.bool false)], args := [d1, d2, d3, d4, d5] }
  | _ => none }
def SparseMadeWrongFalsely : Prop := sparseMadeRow.holds Try.pinned (OpenSpec.ofChange sparseMadeWrong)

/-- 'syndromelaw.FieldEmbeds': WHATEVER THE INPUT: true; the input reads as it did. -/
def fieldEmbedsSpec : ChangeSpec := { name := "fieldEmbeds", fn := fun _ => fun
  | [d1, d2] => { results := [.lit (.bool true)], args := [d1, d2] }
  | _ => none }
def fieldEmbedsRow : OpenClaim := { program := "ytammndhoillliaa", sum := "d37841ebd08b82c848d7d8e13453348ffcc13567288ddcc317c85591a627bcf0", func := "syndrome/syndromelaw.FieldEmbeds", spec := "fieldEmbeds", inPlace := ["sync/atomic.LoadUint32", "(*internal/sync.Mutex).Lock", "internal/race.Disable", "sync/atomic.CompareAndSwapInt32", "internal/race.Enable", "internal/race.Acquire", "(*internal/sync.Mutex).lockSlow", "internal/sync.runtime_canSpin", "internal/sync.runtime_doSpin", "internal/sync.throw", "internal/sync.runtime_nanotime", "internal/sync.runtime_SemacquireMutex", "sync/atomic.AddInt32", "(*internal/sync.Mutex).Unlock", "internal/race.ReleaseMerge", "(*internal/sync.Mutex).unlockSlow", "internal/sync.fatal", "internal/sync.runtime_Semrelease", "sync/atomic.StoreUint32"], unfollowed := true, recurses := true, apart := false }
def FieldEmbedsSaid : Prop := fieldEmbedsRow.holds Try.pinned (OpenSpec.ofChange fieldEmbedsSpec)

/-- ITS FALSE NEIGHBOUR: 'it returns false'. Refute it at one input. -/
def fieldEmbedsWrong : ChangeSpec := { name := "fieldEmbeds", fn := fun _ => fun
  | [d1, d2] => { results := [.lit (.bool false)], args := [d1, d2] }
  | _ => none }
def FieldEmbedsWrongFalsely : Prop := fieldEmbedsRow.holds Try.pinned (OpenSpec.ofChange fieldEmbedsWrong)

/-- 'syndromelaw.WeightsShow': WHATEVER THE INPUT: true; the input reads as it did. -/
def weightsShowSpec : ChangeSpec := { name := "weightsShow", fn := fun _ => fun
  | [d1, d2, d3, d4] => { results := [.lit (.bool true)], args := [d1, d2, d3, d4] }
  | _ => none }
def weightsShowRow : OpenClaim := { program := "ytammndhoillliaa", sum := "d37841ebd08b82c848d7d8e13453348ffcc13567288ddcc317c85591a627bcf0", func := "syndrome/syndromelaw.WeightsShow", spec := "weightsShow", inPlace := ["sync/atomic.LoadUint32", "(*internal/sync.Mutex).Lock", "internal/race.Disable", "sync/atomic.CompareAndSwapInt32", "internal/race.Enable", "internal/race.Acquire", "(*internal/sync.Mutex).lockSlow", "internal/sync.runtime_canSpin", "internal/sync.runtime_doSpin", "internal/sync.throw", "internal/sync.runtime_nanotime", "internal/sync.runtime_SemacquireMutex", "sync/atomic.AddInt32", "(*internal/sync.Mutex).Unlock", "internal/race.ReleaseMerge", "(*internal/sync.Mutex).unlockSlow", "internal/sync.fatal", "internal/sync.runtime_Semrelease", "sync/atomic.StoreUint32"], unfollowed := true, recurses := true, apart := false }
def WeightsShowSaid : Prop := weightsShowRow.holds Try.pinned (OpenSpec.ofChange weightsShowSpec)

/-- ITS FALSE NEIGHBOUR: 'it returns false'. Refute it at one input. -/
def weightsShowWrong : ChangeSpec := { name := "weightsShow", fn := fun _ => fun
  | [d1, d2, d3, d4] => { results := [.lit (.bool false)], args := [d1, d2, d3, d4] }
  | _ => none }
def WeightsShowWrongFalsely : Prop := weightsShowRow.holds Try.pinned (OpenSpec.ofChange weightsShowWrong)

/-- 'syndromelaw.FieldSays': WHATEVER THE INPUT: true; the input reads as it did. -/
def fieldSaysSpec : ChangeSpec := { name := "fieldSays", fn := fun _ => fun
  | [d1, d2, d3, d4, d5] => { results := [.lit (.bool true)], args := [d1, d2, d3, d4, d5] }
  | _ => none }
def fieldSaysRow : OpenClaim := { program := "ytammndhoillliaa", sum := "d37841ebd08b82c848d7d8e13453348ffcc13567288ddcc317c85591a627bcf0", func := "syndrome/syndromelaw.FieldSays", spec := "fieldSays", inPlace := ["sync/atomic.LoadUint32", "(*internal/sync.Mutex).Lock", "internal/race.Disable", "sync/atomic.CompareAndSwapInt32", "internal/race.Enable", "internal/race.Acquire", "(*internal/sync.Mutex).lockSlow", "internal/sync.runtime_canSpin", "internal/sync.runtime_doSpin", "internal/sync.throw", "internal/sync.runtime_nanotime", "internal/sync.runtime_SemacquireMutex", "sync/atomic.AddInt32", "(*internal/sync.Mutex).Unlock", "internal/race.ReleaseMerge", "(*internal/sync.Mutex).unlockSlow", "internal/sync.fatal", "internal/sync.runtime_Semrelease", "sync/atomic.StoreUint32"], unfollowed := true, recurses := true, apart := false }
def FieldSaysSaid : Prop := fieldSaysRow.holds Try.pinned (OpenSpec.ofChange fieldSaysSpec)

/-- ITS FALSE NEIGHBOUR: 'it returns false'. Refute it at one input. -/
def fieldSaysWrong : ChangeSpec := { name := "fieldSays", fn := fun _ => fun
  | [d1, d2, d3, d4, d5] => { results := [.lit (.bool false)], args := [d1, d2, d3, d4, d5] }
  | _ => none }
def FieldSaysWrongFalsely : Prop := fieldSaysRow.holds Try.pinned (OpenSpec.ofChange fieldSaysWrong)

/-- 'syndromelaw.FieldMade': WHATEVER THE INPUT: true; the input reads as it did. -/
def fieldMadeSpec : ChangeSpec := { name := "fieldMade", fn := fun _ => fun
  | [d1, d2, d3, d4, d5] => { results := [.lit (.bool true)], args := [d1, d2, d3, d4, d5] }
  | _ => none }
def fieldMadeRow : OpenClaim := { program := "ytammndhoillliaa", sum := "d37841ebd08b82c848d7d8e13453348ffcc13567288ddcc317c85591a627bcf0", func := "syndrome/syndromelaw.FieldMade", spec := "fieldMade", inPlace := ["sync/atomic.LoadUint32", "(*internal/sync.Mutex).Lock", "internal/race.Disable", "sync/atomic.CompareAndSwapInt32", "internal/race.Enable", "internal/race.Acquire", "(*internal/sync.Mutex).lockSlow", "internal/sync.runtime_canSpin", "internal/sync.runtime_doSpin", "internal/sync.throw", "internal/sync.runtime_nanotime", "internal/sync.runtime_SemacquireMutex", "sync/atomic.AddInt32", "(*internal/sync.Mutex).Unlock", "internal/race.ReleaseMerge", "(*internal/sync.Mutex).unlockSlow", "internal/sync.fatal", "internal/sync.runtime_Semrelease", "sync/atomic.StoreUint32"], unfollowed := true, recurses := true, apart := false }
def FieldMadeSaid : Prop := fieldMadeRow.holds Try.pinned (OpenSpec.ofChange fieldMadeSpec)

/-- ITS FALSE NEIGHBOUR: 'it returns false'. Refute it at one input. -/
def fieldMadeWrong : ChangeSpec := { name := "fieldMade", fn := fun _ => fun
  | [d1, d2, d3, d4, d5] => { results := [.lit (.bool false)], args := [d1, d2, d3, d4, d5] }
  | _ => none }
def FieldMadeWrongFalsely : Prop := fieldMadeRow.holds Try.pinned (OpenSpec.ofChange fieldMadeWrong)

/-- 'syndromelaw.ListsCurve': WHATEVER THE INPUT: true; the input reads as it did. -/
def listsCurveSpec : ChangeSpec := { name := "listsCurve", fn := fun _ => fun
  | [d1, d2, d3] => { results := [.lit (.bool true)], args := [d1, d2, d3] }
  | _ => none }
def listsCurveRow : OpenClaim := { program := "ytammndhoillliaa", sum := "d37841ebd08b82c848d7d8e13453348ffcc13567288ddcc317c85591a627bcf0", func := "syndrome/syndromelaw.ListsCurve", spec := "listsCurve", inPlace := ["sync/atomic.LoadUint32", "(*internal/sync.Mutex).Lock", "internal/race.Disable", "sync/atomic.CompareAndSwapInt32", "internal/race.Enable", "internal/race.Acquire", "(*internal/sync.Mutex).lockSlow", "internal/sync.runtime_canSpin", "internal/sync.runtime_doSpin", "internal/sync.throw", "internal/sync.runtime_nanotime", "internal/sync.runtime_SemacquireMutex", "sync/atomic.AddInt32", "(*internal/sync.Mutex).Unlock", "internal/race.ReleaseMerge", "(*internal/sync.Mutex).unlockSlow", "internal/sync.fatal", "internal/sync.runtime_Semrelease", "sync/atomic.StoreUint32"], unfollowed := true, recurses := true, apart := false }
def ListsCurveSaid : Prop := listsCurveRow.holds Try.pinned (OpenSpec.ofChange listsCurveSpec)

/-- ITS FALSE NEIGHBOUR: 'it returns false'. Refute it at one input. -/
def listsCurveWrong : ChangeSpec := { name := "listsCurve", fn := fun _ => fun
  | [d1, d2, d3] => { results := [.lit (.bool false)], args := [d1, d2, d3] }
  | _ => none }
def ListsCurveWrongFalsely : Prop := listsCurveRow.holds Try.pinned (OpenSpec.ofChange listsCurveWrong)

/-- 'syndromelaw.ReedRules': WHATEVER THE INPUT: true; the input reads as it did. -/
def reedRulesSpec : ChangeSpec := { name := "reedRules", fn := fun _ => fun
  | [d1, d2] => { results := [.lit (.bool true)], args := [d1, d2] }
  | _ => none }
def reedRulesRow : OpenClaim := { program := "ytammndhoillliaa", sum := "d37841ebd08b82c848d7d8e13453348ffcc13567288ddcc317c85591a627bcf0", func := "syndrome/syndromelaw.ReedRules", spec := "reedRules", inPlace := ["sync/atomic.LoadUint32", "(*internal/sync.Mutex).Lock", "internal/race.Disable", "sync/atomic.CompareAndSwapInt32", "internal/race.Enable", "internal/race.Acquire", "(*internal/sync.Mutex).lockSlow", "internal/sync.runtime_canSpin", "internal/sync.runtime_doSpin", "internal/sync.throw", "internal/sync.runtime_nanotime", "internal/sync.runtime_SemacquireMutex", "sync/atomic.AddInt32", "(*internal/sync.Mutex).Unlock", "internal/race.ReleaseMerge", "(*internal/sync.Mutex).unlockSlow", "internal/sync.fatal", "internal/sync.runtime_Semrelease", "sync/atomic.StoreUint32"], unfollowed := true, recurses := true, apart := false }
def ReedRulesSaid : Prop := reedRulesRow.holds Try.pinned (OpenSpec.ofChange reedRulesSpec)

/-- ITS FALSE NEIGHBOUR: 'it returns false'. Refute it at one input. -/
def reedRulesWrong : ChangeSpec := { name := "reedRules", fn := fun _ => fun
  | [d1, d2] => { results := [.lit (.bool false)], args := [d1, d2] }
  | _ => none }
def ReedRulesWrongFalsely : Prop := reedRulesRow.holds Try.pinned (OpenSpec.ofChange reedRulesWrong)

/-- 'syndromelaw.ReedRulesMade': WHATEVER THE INPUT: true; the input reads as it did. -/
def reedRulesMadeSpec : ChangeSpec := { name := "reedRulesMade", fn := fun _ => fun
  | [d1, d2, d3] => { results := [.lit (.bool true)], args := [d1, d2, d3] }
  | _ => none }
def reedRulesMadeRow : OpenClaim := { program := "ytammndhoillliaa", sum := "d37841ebd08b82c848d7d8e13453348ffcc13567288ddcc317c85591a627bcf0", func := "syndrome/syndromelaw.ReedRulesMade", spec := "reedRulesMade", inPlace := ["sync/atomic.LoadUint32", "(*internal/sync.Mutex).Lock", "internal/race.Disable", "sync/atomic.CompareAndSwapInt32", "internal/race.Enable", "internal/race.Acquire", "(*internal/sync.Mutex).lockSlow", "internal/sync.runtime_canSpin", "internal/sync.runtime_doSpin", "internal/sync.throw", "internal/sync.runtime_nanotime", "internal/sync.runtime_SemacquireMutex", "sync/atomic.AddInt32", "(*internal/sync.Mutex).Unlock", "internal/race.ReleaseMerge", "(*internal/sync.Mutex).unlockSlow", "internal/sync.fatal", "internal/sync.runtime_Semrelease", "sync/atomic.StoreUint32"], unfollowed := true, recurses := true, apart := false }
def ReedRulesMadeSaid : Prop := reedRulesMadeRow.holds Try.pinned (OpenSpec.ofChange reedRulesMadeSpec)

/-- ITS FALSE NEIGHBOUR: 'it returns false'. Refute it at one input. -/
def reedRulesMadeWrong : ChangeSpec := { name := "reedRulesMade", fn := fun _ => fun
  | [d1, d2, d3] => { results := [.lit (.bool false)], args := [d1, d2, d3] }
  | _ => none }
def ReedRulesMadeWrongFalsely : Prop := reedRulesMadeRow.holds Try.pinned (OpenSpec.ofChange reedRulesMadeWrong)

/-- 'syndromelaw.TrellisSays': WHATEVER THE INPUT: true; the input reads as it did. -/
def trellisSaysSpec : ChangeSpec := { name := "trellisSays", fn := fun _ => fun
  | [d1, d2, d3, d4, d5] => { results := [.lit (.bool true)], args := [d1, d2, d3, d4, d5] }
  | _ => none }
def trellisSaysRow : OpenClaim := { program := "ytammndhoillliaa", sum := "d37841ebd08b82c848d7d8e13453348ffcc13567288ddcc317c85591a627bcf0", func := "syndrome/syndromelaw.TrellisSays", spec := "trellisSays", unfollowed := true, recurses := true, apart := false }
def TrellisSaysSaid : Prop := trellisSaysRow.holds Try.pinned (OpenSpec.ofChange trellisSaysSpec)

/-- ITS FALSE NEIGHBOUR: 'it returns false'. Refute it at one input. -/
def trellisSaysWrong : ChangeSpec := { name := "trellisSays", fn := fun _ => fun
  | [d1, d2, d3, d4, d5] => { results := [.lit (.bool false)], args := [d1, d2, d3, d4, d5] }
  | _ => none }
def TrellisSaysWrongFalsely : Prop := trellisSaysRow.holds Try.pinned (OpenSpec.ofChange trellisSaysWrong)

/-- 'syndromelaw.TrellisMade': WHATEVER THE INPUT: true; the input reads as it did. -/
def trellisMadeSpec : ChangeSpec := { name := "trellisMade", fn := fun _ => fun
  | [d1, d2, d3, d4, d5, d6] => { results := [.lit (.bool true)], args := [d1, d2, d3, d4, d5, d6] }
  | _ => none }
def trellisMadeRow : OpenClaim := { program := "ytammndhoillliaa", sum := "d37841ebd08b82c848d7d8e13453348ffcc13567288ddcc317c85591a627bcf0", func := "syndrome/syndromelaw.TrellisMade", spec := "trellisMade", unfollowed := true, recurses := true, apart := false }
def TrellisMadeSaid : Prop := trellisMadeRow.holds Try.pinned (OpenSpec.ofChange trellisMadeSpec)

/-- ITS FALSE NEIGHBOUR: 'it returns false'. Refute it at one input. -/
def trellisMadeWrong : ChangeSpec := { name := "trellisMade", fn := fun _ => fun
  | [d1, d2, d3, d4, d5, d6] => { results := [.lit (.bool false)], args := [d1, d2, d3, d4, d5, d6] }
  | _ => none }
def TrellisMadeWrongFalsely : Prop := trellisMadeRow.holds Try.pinned (OpenSpec.ofChange trellisMadeWrong)

/- THE SECOND FORM. 'bulk': how many values and letters a reading holds, each counted each time it is reached (what is shared counts as often as it is met; a slice's spare places count too). A statement '..UptoSaid' is the law's where the arguments, and the package variables that the reading takes, are together of bulk at most 1048576: NARROWER than '..Said'. Prove '..Said' where nothing that the law and all that it calls make is longer than what came in: it says more and counts as full. Else prove '..UptoSaid'. A law counts once. -/
mutual
def uptoBulk {H : Type} : DataW H → Nat
  | .lit (.string bytes) => bytes.length + 1
  | .lit _ => 1
  | .nil => 1
  | .ptr d => uptoBulk d + 1
  | .slice elems spare => uptoBulkAll elems + uptoBulkAll spare + 1
  | .agg parts => uptoBulkAll parts + 1
  | .iface _ d => uptoBulk d + 1
  | .map entries => uptoBulkEntries entries + 1
  | .held _ => 1
def uptoBulkAll {H : Type} : List (DataW H) → Nat
  | [] => 0
  | d :: r => uptoBulk d + uptoBulkAll r
def uptoBulkEntries {H : Type} : List (Lit × DataW H) → Nat
  | [] => 0
  | x :: r => uptoBulkEntry x + uptoBulkEntries r
def uptoBulkEntry {H : Type} : Lit × DataW H → Nat
  | (.string bytes, d) => bytes.length + uptoBulk d + 1
  | (_, d) => uptoBulk d + 1
 end
def uptoSmall : (H : Type) → List (DataW H) → Bool := fun _ ds => decide (uptoBulkAll ds ≤ 1048576)
def OpenSpec.upto (s : _root_.Go.ChangeSpec) : _root_.Go.OpenSpec := { _root_.Go.OpenSpec.ofChange s with cond := some uptoSmall }

/-- 'syndromelaw.MullerMends', WHERE WHAT IT READS IS OF BULK AT MOST 1048576: true; the input reads as it did. -/
def mullerMendsUptoRow : OpenClaim := { program := "ytammndhoillliaa", sum := "d37841ebd08b82c848d7d8e13453348ffcc13567288ddcc317c85591a627bcf0", func := "syndrome/syndromelaw.MullerMends", spec := "mullerMends", unfollowed := true, recurses := true, apart := false, narrowed := true }
def MullerMendsUptoSaid : Prop := mullerMendsUptoRow.holds Try.pinned (OpenSpec.upto mullerMendsSpec)

/-- 'syndromelaw.SparseSays', WHERE WHAT IT READS IS OF BULK AT MOST 1048576: true; the input reads as it did. -/
def sparseSaysUptoRow : OpenClaim := { program := "ytammndhoillliaa", sum := "d37841ebd08b82c848d7d8e13453348ffcc13567288ddcc317c85591a627bcf0", func := "syndrome/syndromelaw.SparseSays", spec := "sparseSays", unfollowed := true, recurses := true, apart := false, narrowed := true }
def SparseSaysUptoSaid : Prop := sparseSaysUptoRow.holds Try.pinned (OpenSpec.upto sparseSaysSpec)

/-- 'syndromelaw.SparseMade', WHERE WHAT IT READS IS OF BULK AT MOST 1048576: true; the input reads as it did. -/
def sparseMadeUptoRow : OpenClaim := { program := "ytammndhoillliaa", sum := "d37841ebd08b82c848d7d8e13453348ffcc13567288ddcc317c85591a627bcf0", func := "syndrome/syndromelaw.SparseMade", spec := "sparseMade", unfollowed := true, recurses := true, apart := false, narrowed := true }
def SparseMadeUptoSaid : Prop := sparseMadeUptoRow.holds Try.pinned (OpenSpec.upto sparseMadeSpec)

/-- 'syndromelaw.FieldEmbeds', WHERE WHAT IT READS IS OF BULK AT MOST 1048576: true; the input reads as it did. -/
def fieldEmbedsUptoRow : OpenClaim := { program := "ytammndhoillliaa", sum := "d37841ebd08b82c848d7d8e13453348ffcc13567288ddcc317c85591a627bcf0", func := "syndrome/syndromelaw.FieldEmbeds", spec := "fieldEmbeds", inPlace := ["sync/atomic.LoadUint32", "(*internal/sync.Mutex).Lock", "internal/race.Disable", "sync/atomic.CompareAndSwapInt32", "internal/race.Enable", "internal/race.Acquire", "(*internal/sync.Mutex).lockSlow", "internal/sync.runtime_canSpin", "internal/sync.runtime_doSpin", "internal/sync.throw", "internal/sync.runtime_nanotime", "internal/sync.runtime_SemacquireMutex", "sync/atomic.AddInt32", "(*internal/sync.Mutex).Unlock", "internal/race.ReleaseMerge", "(*internal/sync.Mutex).unlockSlow", "internal/sync.fatal", "internal/sync.runtime_Semrelease", "sync/atomic.StoreUint32"], unfollowed := true, recurses := true, apart := false, narrowed := true }
def FieldEmbedsUptoSaid : Prop := fieldEmbedsUptoRow.holds Try.pinned (OpenSpec.upto fieldEmbedsSpec)

/-- 'syndromelaw.WeightsShow', WHERE WHAT IT READS IS OF BULK AT MOST 1048576: true; the input reads as it did. -/
def weightsShowUptoRow : OpenClaim := { program := "ytammndhoillliaa", sum := "d37841ebd08b82c848d7d8e13453348ffcc13567288ddcc317c85591a627bcf0", func := "syndrome/syndromelaw.WeightsShow", spec := "weightsShow", inPlace := ["sync/atomic.LoadUint32", "(*internal/sync.Mutex).Lock", "internal/race.Disable", "sync/atomic.CompareAndSwapInt32", "internal/race.Enable", "internal/race.Acquire", "(*internal/sync.Mutex).lockSlow", "internal/sync.runtime_canSpin", "internal/sync.runtime_doSpin", "internal/sync.throw", "internal/sync.runtime_nanotime", "internal/sync.runtime_SemacquireMutex", "sync/atomic.AddInt32", "(*internal/sync.Mutex).Unlock", "internal/race.ReleaseMerge", "(*internal/sync.Mutex).unlockSlow", "internal/sync.fatal", "internal/sync.runtime_Semrelease", "sync/atomic.StoreUint32"], unfollowed := true, recurses := true, apart := false, narrowed := true }
def WeightsShowUptoSaid : Prop := weightsShowUptoRow.holds Try.pinned (OpenSpec.upto weightsShowSpec)

/-- 'syndromelaw.FieldSays', WHERE WHAT IT READS IS OF BULK AT MOST 1048576: true; the input reads as it did. -/
def fieldSaysUptoRow : OpenClaim := { program := "ytammndhoillliaa", sum := "d37841ebd08b82c848d7d8e13453348ffcc13567288ddcc317c85591a627bcf0", func := "syndrome/syndromelaw.FieldSays", spec := "fieldSays", inPlace := ["sync/atomic.LoadUint32", "(*internal/sync.Mutex).Lock", "internal/race.Disable", "sync/atomic.CompareAndSwapInt32", "internal/race.Enable", "internal/race.Acquire", "(*internal/sync.Mutex).lockSlow", "internal/sync.runtime_canSpin", "internal/sync.runtime_doSpin", "internal/sync.throw", "internal/sync.runtime_nanotime", "internal/sync.runtime_SemacquireMutex", "sync/atomic.AddInt32", "(*internal/sync.Mutex).Unlock", "internal/race.ReleaseMerge", "(*internal/sync.Mutex).unlockSlow", "internal/sync.fatal", "internal/sync.runtime_Semrelease", "sync/atomic.StoreUint32"], unfollowed := true, recurses := true, apart := false, narrowed := true }
def FieldSaysUptoSaid : Prop := fieldSaysUptoRow.holds Try.pinned (OpenSpec.upto fieldSaysSpec)

/-- 'syndromelaw.FieldMade', WHERE WHAT IT READS IS OF BULK AT MOST 1048576: true; the input reads as it did. -/
def fieldMadeUptoRow : OpenClaim := { program := "ytammndhoillliaa", sum := "d37841ebd08b82c848d7d8e13453348ffcc13567288ddcc317c85591a627bcf0", func := "syndrome/syndromelaw.FieldMade", spec := "fieldMade", inPlace := ["sync/atomic.LoadUint32", "(*internal/sync.Mutex).Lock", "internal/race.Disable", "sync/atomic.CompareAndSwapInt32", "internal/race.Enable", "internal/race.Acquire", "(*internal/sync.Mutex).lockSlow", "internal/sync.runtime_canSpin", "internal/sync.runtime_doSpin", "internal/sync.throw", "internal/sync.runtime_nanotime", "internal/sync.runtime_SemacquireMutex", "sync/atomic.AddInt32", "(*internal/sync.Mutex).Unlock", "internal/race.ReleaseMerge", "(*internal/sync.Mutex).unlockSlow", "internal/sync.fatal", "internal/sync.runtime_Semrelease", "sync/atomic.StoreUint32"], unfollowed := true, recurses := true, apart := false, narrowed := true }
def FieldMadeUptoSaid : Prop := fieldMadeUptoRow.holds Try.pinned (OpenSpec.upto fieldMadeSpec)

/-- 'syndromelaw.ListsCurve', WHERE WHAT IT READS IS OF BULK AT MOST 1048576: true; the input reads as it did. -/
def listsCurveUptoRow : OpenClaim := { program := "ytammndhoillliaa", sum := "d37841ebd08b82c848d7d8e13453348ffcc13567288ddcc317c85591a627bcf0", func := "syndrome/syndromelaw.ListsCurve", spec := "listsCurve", inPlace := ["sync/atomic.LoadUint32", "(*internal/sync.Mutex).Lock", "internal/race.Disable", "sync/atomic.CompareAndSwapInt32", "internal/race.Enable", "internal/race.Acquire", "(*internal/sync.Mutex).lockSlow", "internal/sync.runtime_canSpin", "internal/sync.runtime_doSpin", "internal/sync.throw", "internal/sync.runtime_nanotime", "internal/sync.runtime_SemacquireMutex", "sync/atomic.AddInt32", "(*internal/sync.Mutex).Unlock", "internal/race.ReleaseMerge", "(*internal/sync.Mutex).unlockSlow", "internal/sync.fatal", "internal/sync.runtime_Semrelease", "sync/atomic.StoreUint32"], unfollowed := true, recurses := true, apart := false, narrowed := true }
def ListsCurveUptoSaid : Prop := listsCurveUptoRow.holds Try.pinned (OpenSpec.upto listsCurveSpec)

/-- 'syndromelaw.ReedRules', WHERE WHAT IT READS IS OF BULK AT MOST 1048576: true; the input reads as it did. -/
def reedRulesUptoRow : OpenClaim := { program := "ytammndhoillliaa", sum := "d37841ebd08b82c848d7d8e13453348ffcc13567288ddcc317c85591a627bcf0", func := "syndrome/syndromelaw.ReedRules", spec := "reedRules", inPlace := ["sync/atomic.LoadUint32", "(*internal/sync.Mutex).Lock", "internal/race.Disable", "sync/atomic.CompareAndSwapInt32", "internal/race.Enable", "internal/race.Acquire", "(*internal/sync.Mutex).lockSlow", "internal/sync.runtime_canSpin", "internal/sync.runtime_doSpin", "internal/sync.throw", "internal/sync.runtime_nanotime", "internal/sync.runtime_SemacquireMutex", "sync/atomic.AddInt32", "(*internal/sync.Mutex).Unlock", "internal/race.ReleaseMerge", "(*internal/sync.Mutex).unlockSlow", "internal/sync.fatal", "internal/sync.runtime_Semrelease", "sync/atomic.StoreUint32"], unfollowed := true, recurses := true, apart := false, narrowed := true }
def ReedRulesUptoSaid : Prop := reedRulesUptoRow.holds Try.pinned (OpenSpec.upto reedRulesSpec)

/-- 'syndromelaw.ReedRulesMade', WHERE WHAT IT READS IS OF BULK AT MOST 1048576: true; the input reads as it did. -/
def reedRulesMadeUptoRow : OpenClaim := { program := "ytammndhoillliaa", sum := "d37841ebd08b82c848d7d8e13453348ffcc13567288ddcc317c85591a627bcf0", func := "syndrome/syndromelaw.ReedRulesMade", spec := "reedRulesMade", inPlace := ["sync/atomic.LoadUint32", "(*internal/sync.Mutex).Lock", "internal/race.Disable", "sync/atomic.CompareAndSwapInt32", "internal/race.Enable", "internal/race.Acquire", "(*internal/sync.Mutex).lockSlow", "internal/sync.runtime_canSpin", "internal/sync.runtime_doSpin", "internal/sync.throw", "internal/sync.runtime_nanotime", "internal/sync.runtime_SemacquireMutex", "sync/atomic.AddInt32", "(*internal/sync.Mutex).Unlock", "internal/race.ReleaseMerge", "(*internal/sync.Mutex).unlockSlow", "internal/sync.fatal", "internal/sync.runtime_Semrelease", "sync/atomic.StoreUint32"], unfollowed := true, recurses := true, apart := false, narrowed := true }
def ReedRulesMadeUptoSaid : Prop := reedRulesMadeUptoRow.holds Try.pinned (OpenSpec.upto reedRulesMadeSpec)

/-- 'syndromelaw.TrellisSays', WHERE WHAT IT READS IS OF BULK AT MOST 1048576: true; the input reads as it did. -/
def trellisSaysUptoRow : OpenClaim := { program := "ytammndhoillliaa", sum := "d37841ebd08b82c848d7d8e13453348ffcc13567288ddcc317c85591a627bcf0", func := "syndrome/syndromelaw.TrellisSays", spec := "trellisSays", unfollowed := true, recurses := true, apart := false, narrowed := true }
def TrellisSaysUptoSaid : Prop := trellisSaysUptoRow.holds Try.pinned (OpenSpec.upto trellisSaysSpec)

/-- 'syndromelaw.TrellisMade', WHERE WHAT IT READS IS OF BULK AT MOST 1048576: true; the input reads as it did. -/
def trellisMadeUptoRow : OpenClaim := { program := "ytammndhoillliaa", sum := "d37841ebd08b82c848d7d8e13453348ffcc13567288ddcc317c85591a627bcf0", func := "syndrome/syndromelaw.TrellisMade", spec := "trellisMade", unfollowed := true, recurses := true, apart := false, narrowed := true }
def TrellisMadeUptoSaid : Prop := trellisMadeUptoRow.holds Try.pinned (OpenSpec.upto trellisMadeSpec)

end Rows
end Go.Proofs.Ytammndhoillliaa
