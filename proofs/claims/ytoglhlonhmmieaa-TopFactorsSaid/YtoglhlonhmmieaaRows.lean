/-
  No cell of these rows narrows 'for every input' (looked for: loops, veiled, ifaces, maps, wideKeys, modest, calm, conditions, laid).
  DERIVED. THE GIVEN ROWS OF THIS SEAT. 6 by the template 'for every input the law returns true; each argument reads behind the call as it read before'; 0 by the template 'total and deterministic' (their statements: YtoglhlonhmmieaaTotals.lean).
  GIVEN WITH THE SEED: the statements are not yours to turn. If you find one false, say at which input.
  Laid BY PROGRAM, IN A SANDBOX (cutbox-rows.mjs): the forced cells as the released guide's own fill.sh prints them over the translation 30415ac0167938f0… (all of the seat's roots in one cut). By AI agents, Wed Nov 11 2026. No macro, syntax, notation, axiom, sorry.
-/
import Derived.Test.YtoglhlonhmmieaaChecked
import GoSem.Claim
import GoSem.ClaimJoined
import GoSem.ClaimMapViews
import Derived.JoinedTies
import Derived.KernelRfl
namespace Go.Proofs.Ytoglhlonhmmieaa
/- THE CELL 'sum', in the pinned program and in every row, IS THE sha256 OF THE DUMP (.gsa) THAT YtoglhlonhmmieaaProg.lean LOADS. Nothing in Lean hashes anything: it is a label: what it is worth is what the hold of that sum in a sandbox is worth. -/
noncomputable def Try.pinned : Pinned := { name := "ytoglhlonhmmieaa", sum := "30415ac0167938f04cd75d04ef2da3b0b99d64b365172c11648401e58a86d8bf", checked := Try.checked }
namespace Rows
def none {H : Type} : Left H := { results := [], args := [] }

/-- 'syndrometop.TopMacWilliams': WHATEVER THE INPUT: true; the input reads as it did. -/
def topMacWilliamsSpec : ChangeSpec := { name := "topMacWilliams", fn := fun _ => fun
  | [d1, d2, d3, d4] => { results := [.lit (.bool true)], args := [d1, d2, d3, d4] }
  | _ => none }
def topMacWilliamsRow : OpenClaim := { program := "ytoglhlonhmmieaa", sum := "30415ac0167938f04cd75d04ef2da3b0b99d64b365172c11648401e58a86d8bf", func := "syndrome/syndrometop.TopMacWilliams", spec := "topMacWilliams", inPlace := ["sync/atomic.LoadUint32", "(*internal/sync.Mutex).Lock", "internal/race.Disable", "sync/atomic.CompareAndSwapInt32", "internal/race.Enable", "internal/race.Acquire", "(*internal/sync.Mutex).lockSlow", "internal/sync.runtime_canSpin", "internal/sync.runtime_doSpin", "internal/sync.throw", "internal/sync.runtime_nanotime", "internal/sync.runtime_SemacquireMutex", "sync/atomic.AddInt32", "(*internal/sync.Mutex).Unlock", "internal/race.ReleaseMerge", "(*internal/sync.Mutex).unlockSlow", "internal/sync.fatal", "internal/sync.runtime_Semrelease", "sync/atomic.StoreUint32"], unfollowed := true, recurses := true, apart := false }
def TopMacWilliamsSaid : Prop := topMacWilliamsRow.holds Try.pinned (OpenSpec.ofChange topMacWilliamsSpec)

/-- ITS FALSE NEIGHBOUR: 'it returns false'. Refute it at one input. -/
def topMacWilliamsWrong : ChangeSpec := { name := "topMacWilliams", fn := fun _ => fun
  | [d1, d2, d3, d4] => { results := [.lit (.bool false)], args := [d1, d2, d3, d4] }
  | _ => none }
def TopMacWilliamsWrongFalsely : Prop := topMacWilliamsRow.holds Try.pinned (OpenSpec.ofChange topMacWilliamsWrong)

/-- 'syndrometop.TopBounds': WHATEVER THE INPUT: true; the input reads as it did. -/
def topBoundsSpec : ChangeSpec := { name := "topBounds", fn := fun _ => fun
  | [d1, d2, d3, d4, d5] => { results := [.lit (.bool true)], args := [d1, d2, d3, d4, d5] }
  | _ => none }
def topBoundsRow : OpenClaim := { program := "ytoglhlonhmmieaa", sum := "30415ac0167938f04cd75d04ef2da3b0b99d64b365172c11648401e58a86d8bf", func := "syndrome/syndrometop.TopBounds", spec := "topBounds", inPlace := ["sync/atomic.LoadUint32", "(*internal/sync.Mutex).Lock", "internal/race.Disable", "sync/atomic.CompareAndSwapInt32", "internal/race.Enable", "internal/race.Acquire", "(*internal/sync.Mutex).lockSlow", "internal/sync.runtime_canSpin", "internal/sync.runtime_doSpin", "internal/sync.throw", "internal/sync.runtime_nanotime", "internal/sync.runtime_SemacquireMutex", "sync/atomic.AddInt32", "(*internal/sync.Mutex).Unlock", "internal/race.ReleaseMerge", "(*internal/sync.Mutex).unlockSlow", "internal/sync.fatal", "internal/sync.runtime_Semrelease", "sync/atomic.StoreUint32"], unfollowed := true, recurses := true, apart := false }
def TopBoundsSaid : Prop := topBoundsRow.holds Try.pinned (OpenSpec.ofChange topBoundsSpec)

/-- ITS FALSE NEIGHBOUR: 'it returns false'. Refute it at one input. -/
def topBoundsWrong : ChangeSpec := { name := "topBounds", fn := fun _ => fun
  | [d1, d2, d3, d4, d5] => { results := [.lit (.bool false)], args := [d1, d2, d3, d4, d5] }
  | _ => none }
def TopBoundsWrongFalsely : Prop := topBoundsRow.holds Try.pinned (OpenSpec.ofChange topBoundsWrong)

/-- 'syndrometop.TopFactors': WHATEVER THE INPUT: true; the input reads as it did. -/
def topFactorsSpec : ChangeSpec := { name := "topFactors", fn := fun _ => fun
  | [d1, d2, d3, d4] => { results := [.lit (.bool true)], args := [d1, d2, d3, d4] }
  | _ => none }
def topFactorsRow : OpenClaim := { program := "ytoglhlonhmmieaa", sum := "30415ac0167938f04cd75d04ef2da3b0b99d64b365172c11648401e58a86d8bf", func := "syndrome/syndrometop.TopFactors", spec := "topFactors", inPlace := ["sync/atomic.LoadUint32", "(*internal/sync.Mutex).Lock", "internal/race.Disable", "sync/atomic.CompareAndSwapInt32", "internal/race.Enable", "internal/race.Acquire", "(*internal/sync.Mutex).lockSlow", "internal/sync.runtime_canSpin", "internal/sync.runtime_doSpin", "internal/sync.throw", "internal/sync.runtime_nanotime", "internal/sync.runtime_SemacquireMutex", "sync/atomic.AddInt32", "(*internal/sync.Mutex).Unlock", "internal/race.ReleaseMerge", "(*internal/sync.Mutex).unlockSlow", "internal/sync.fatal", "internal/sync.runtime_Semrelease", "sync/atomic.StoreUint32"], unfollowed := true, recurses := true, apart := false }
def TopFactorsSaid : Prop := topFactorsRow.holds Try.pinned (OpenSpec.ofChange topFactorsSpec)

/-- ITS FALSE NEIGHBOUR: 'it returns false'. Refute it at one input. -/
def topFactorsWrong : ChangeSpec := { name := "topFactors", fn := fun _ => fun
  | [d1, d2, d3, d4] => { results := [.lit (.bool false)], args := [d1, d2, d3, d4] }
  | _ => none }
def TopFactorsWrongFalsely : Prop := topFactorsRow.holds Try.pinned (OpenSpec.ofChange topFactorsWrong)

/-- 'syndromelaw.GapSays': WHATEVER THE INPUT: true; the input reads as it did. -/
def gapSaysSpec : ChangeSpec := { name := "gapSays", fn := fun _ => fun
  | [d1, d2, d3, d4] => { results := [.lit (.bool true)], args := [d1, d2, d3, d4] }
  | _ => none }
def gapSaysRow : OpenClaim := { program := "ytoglhlonhmmieaa", sum := "30415ac0167938f04cd75d04ef2da3b0b99d64b365172c11648401e58a86d8bf", func := "syndrome/syndromelaw.GapSays", spec := "gapSays", inPlace := ["slices.overlaps[int]"], unfollowed := true, recurses := true, apart := false }
def GapSaysSaid : Prop := gapSaysRow.holds Try.pinned (OpenSpec.ofChange gapSaysSpec)

/-- ITS FALSE NEIGHBOUR: 'it returns false'. Refute it at one input. -/
def gapSaysWrong : ChangeSpec := { name := "gapSays", fn := fun _ => fun
  | [d1, d2, d3, d4] => { results := [.lit (.bool false)], args := [d1, d2, d3, d4] }
  | _ => none }
def GapSaysWrongFalsely : Prop := gapSaysRow.holds Try.pinned (OpenSpec.ofChange gapSaysWrong)

/-- 'syndromelaw.GapMade': WHATEVER THE INPUT: true; the input reads as it did. -/
def gapMadeSpec : ChangeSpec := { name := "gapMade", fn := fun _ => fun
  | [d1, d2, d3, d4, d5] => { results := [.lit (.bool true)], args := [d1, d2, d3, d4, d5] }
  | _ => none }
def gapMadeRow : OpenClaim := { program := "ytoglhlonhmmieaa", sum := "30415ac0167938f04cd75d04ef2da3b0b99d64b365172c11648401e58a86d8bf", func := "syndrome/syndromelaw.GapMade", spec := "gapMade", inPlace := ["slices.overlaps[int]"], unfollowed := true, recurses := true, apart := false }
def GapMadeSaid : Prop := gapMadeRow.holds Try.pinned (OpenSpec.ofChange gapMadeSpec)

/-- ITS FALSE NEIGHBOUR: 'it returns false'. Refute it at one input. -/
def gapMadeWrong : ChangeSpec := { name := "gapMade", fn := fun _ => fun
  | [d1, d2, d3, d4, d5] => { results := [.lit (.bool false)], args := [d1, d2, d3, d4, d5] }
  | _ => none }
def GapMadeWrongFalsely : Prop := gapMadeRow.holds Try.pinned (OpenSpec.ofChange gapMadeWrong)

/-- 'syndrometop.TopGap': WHATEVER THE INPUT: true; the input reads as it did. -/
def topGapSpec : ChangeSpec := { name := "topGap", fn := fun _ => fun
  | [d1, d2, d3, d4, d5, d6] => { results := [.lit (.bool true)], args := [d1, d2, d3, d4, d5, d6] }
  | _ => none }
def topGapRow : OpenClaim := { program := "ytoglhlonhmmieaa", sum := "30415ac0167938f04cd75d04ef2da3b0b99d64b365172c11648401e58a86d8bf", func := "syndrome/syndrometop.TopGap", spec := "topGap", inPlace := ["slices.overlaps[int]"], unfollowed := true, recurses := true, apart := false }
def TopGapSaid : Prop := topGapRow.holds Try.pinned (OpenSpec.ofChange topGapSpec)

/-- ITS FALSE NEIGHBOUR: 'it returns false'. Refute it at one input. -/
def topGapWrong : ChangeSpec := { name := "topGap", fn := fun _ => fun
  | [d1, d2, d3, d4, d5, d6] => { results := [.lit (.bool false)], args := [d1, d2, d3, d4, d5, d6] }
  | _ => none }
def TopGapWrongFalsely : Prop := topGapRow.holds Try.pinned (OpenSpec.ofChange topGapWrong)

/- THE SECOND FORM. 'bulk': how many values and letters a reading holds, each counted each time it is reached (what is shared counts as often as it is met; a slice's spare places count too). A statement '..UptoSaid' is the law's where the arguments, and the package variables that the reading takes, are together of bulk at most 1048576: NARROWER than '..Said'. Prove '..Said' where nothing that the law and all that it calls make is longer than what came in: it says more and counts as full. Else prove '..UptoSaid'. A law counts once. -/
mutual
def uptoBulk {H : Type} : DataW H → Nat
  | .lit (.string bytes) => bytes.length + 1
  | .lit _ => 1
  | .nil => 1
  | .ptr d => uptoBulk d + 1
  | .slice elems spare => uptoBulkAll elems + uptoBulkAll spare + 1
  | .agg parts => uptoBulkAll parts + 1
  | .iface _ d => uptoBulk d + 1
  | .map entries => uptoBulkEntries entries + 1
  | .held _ => 1
def uptoBulkAll {H : Type} : List (DataW H) → Nat
  | [] => 0
  | d :: r => uptoBulk d + uptoBulkAll r
def uptoBulkEntries {H : Type} : List (Lit × DataW H) → Nat
  | [] => 0
  | x :: r => uptoBulkEntry x + uptoBulkEntries r
def uptoBulkEntry {H : Type} : Lit × DataW H → Nat
  | (.string bytes, d) => bytes.length + uptoBulk d + 1
  | (_, d) => uptoBulk d + 1
 end
def uptoSmall : (H : Type) → List (DataW H) → Bool := fun _ ds => decide (uptoBulkAll ds ≤ 1048576)
def OpenSpec.upto (s : _root_.Go.ChangeSpec) : _root_.Go.OpenSpec := { _root_.Go.OpenSpec.ofChange s with cond := some uptoSmall }

/-- 'syndrometop.TopMacWilliams', WHERE WHAT IT READS IS OF BULK AT MOST 1048576: true; the input reads as it did. -/
def topMacWilliamsUptoRow : OpenClaim := { program := "ytoglhlonhmmieaa", sum := "30415ac0167938f04cd75d04ef2da3b0b99d64b365172c11648401e58a86d8bf", func := "syndrome/syndrometop.TopMacWilliams", spec := "topMacWilliams", inPlace := ["sync/atomic.LoadUint32", "(*internal/sync.Mutex).Lock", "internal/race.Disable", "sync/atomic.CompareAndSwapInt32", "internal/race.Enable", "internal/race.Acquire", "(*internal/sync.Mutex).lockSlow", "internal/sync.runtime_canSpin", "internal/sync.runtime_doSpin", "internal/sync.throw", "internal/sync.runtime_nanotime", "internal/sync.runtime_SemacquireMutex", "sync/atomic.AddInt32", "(*internal/sync.Mutex).Unlock", "internal/race.ReleaseMerge", "(*internal/sync.Mutex).unlockSlow", "internal/sync.fatal", "internal/sync.runtime_Semrelease", "sync/atomic.StoreUint32"], unfollowed := true, recurses := true, apart := false, narrowed := true }
def TopMacWilliamsUptoSaid : Prop := topMacWilliamsUptoRow.holds Try.pinned (OpenSpec.upto topMacWilliamsSpec)

/-- 'syndrometop.TopBounds', WHERE WHAT IT READS IS OF BULK AT MOST 1048576: true; the input reads as it did. -/
def topBoundsUptoRow : OpenClaim := { program := "ytoglhlonhmmieaa", sum := "30415ac0167938f04cd75d04ef2da3b0b99d64b365172c11648401e58a86d8bf", func := "syndrome/syndrometop.TopBounds", spec := "topBounds", inPlace := ["sync/atomic.LoadUint32", "(*internal/sync.Mutex).Lock", "internal/race.Disable", "sync/atomic.CompareAndSwapInt32", "internal/race.Enable", "internal/race.Acquire", "(*internal/sync.Mutex).lockSlow", "internal/sync.runtime_canSpin", "internal/sync.runtime_doSpin", "internal/sync.throw", "internal/sync.runtime_nanotime", "internal/sync.runtime_SemacquireMutex", "sync/atomic.AddInt32", "(*internal/sync.Mutex).Unlock", "internal/race.ReleaseMerge", "(*internal/sync.Mutex).unlockSlow", "internal/sync.fatal", "internal/sync.runtime_Semrelease", "sync/atomic.StoreUint32"], unfollowed := true, recurses := true, apart := false, narrowed := true }
def TopBoundsUptoSaid : Prop := topBoundsUptoRow.holds Try.pinned (OpenSpec.upto topBoundsSpec)

/-- 'syndrometop.TopFactors', WHERE WHAT IT READS IS OF BULK AT MOST 1048576: true; the input reads as it did. -/
def topFactorsUptoRow : OpenClaim := { program := "ytoglhlonhmmieaa", sum := "30415ac0167938f04cd75d04ef2da3b0b99d64b365172c11648401e58a86d8bf", func := "syndrome/syndrometop.TopFactors", spec := "topFactors", inPlace := ["sync/atomic.LoadUint32", "(*internal/sync.Mutex).Lock", "internal/race.Disable", "sync/atomic.CompareAndSwapInt32", "internal/race.Enable", "internal/race.Acquire", "(*internal/sync.Mutex).lockSlow", "internal/sync.runtime_canSpin", "internal/sync.runtime_doSpin", "internal/sync.throw", "internal/sync.runtime_nanotime", "internal/sync.runtime_SemacquireMutex", "sync/atomic.AddInt32", "(*internal/sync.Mutex).Unlock", "internal/race.ReleaseMerge", "(*internal/sync.Mutex).unlockSlow", "internal/sync.fatal", "internal/sync.runtime_Semrelease", "sync/atomic.StoreUint32"], unfollowed := true, recurses := true, apart := false, narrowed := true }
def TopFactorsUptoSaid : Prop := topFactorsUptoRow.holds Try.pinned (OpenSpec.upto topFactorsSpec)

/-- 'syndromelaw.GapSays', WHERE WHAT IT READS IS OF BULK AT MOST 1048576: true; the input reads as it did. -/
def gapSaysUptoRow : OpenClaim := { program := "ytoglhlonhmmieaa", sum := "30415ac0167938f04cd75d04ef2da3b0b99d64b365172c11648401e58a86d8bf", func := "syndrome/syndromelaw.GapSays", spec := "gapSays", inPlace := ["slices.overlaps[int]"], unfollowed := true, recurses := true, apart := false, narrowed := true }
def GapSaysUptoSaid : Prop := gapSaysUptoRow.holds Try.pinned (OpenSpec.upto gapSaysSpec)

/-- 'syndromelaw.GapMade', WHERE WHAT IT READS IS OF BULK AT MOST 1048576: true; the input reads as it did. -/
def gapMadeUptoRow : OpenClaim := { program := "ytoglhlonhmmieaa", sum := "30415ac0167938f04cd75d04ef2da3b0b99d64b365172c11648401e58a86d8bf", func := "syndrome/syndromelaw.GapMade", spec := "gapMade", inPlace := ["slices.overlaps[int]"], unfollowed := true, recurses := true, apart := false, narrowed := true }
def GapMadeUptoSaid : Prop := gapMadeUptoRow.holds Try.pinned (OpenSpec.upto gapMadeSpec)

/-- 'syndrometop.TopGap', WHERE WHAT IT READS IS OF BULK AT MOST 1048576: true; the input reads as it did. -/
def topGapUptoRow : OpenClaim := { program := "ytoglhlonhmmieaa", sum := "30415ac0167938f04cd75d04ef2da3b0b99d64b365172c11648401e58a86d8bf", func := "syndrome/syndrometop.TopGap", spec := "topGap", inPlace := ["slices.overlaps[int]"], unfollowed := true, recurses := true, apart := false, narrowed := true }
def TopGapUptoSaid : Prop := topGapUptoRow.holds Try.pinned (OpenSpec.upto topGapSpec)

end Rows
end Go.Proofs.Ytoglhlonhmmieaa
