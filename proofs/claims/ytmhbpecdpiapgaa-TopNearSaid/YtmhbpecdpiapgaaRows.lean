/-
  No cell of these rows narrows 'for every input' (looked for: loops, veiled, ifaces, maps, wideKeys, modest, calm, conditions, laid).
  DERIVED. THE GIVEN ROWS OF THIS SEAT. 9 by the template 'for every input the law returns true; each argument reads behind the call as it read before'; 0 by the template 'total and deterministic' (their statements: YtmhbpecdpiapgaaTotals.lean).
  GIVEN WITH THE SEED: the statements are not yours to turn. If you find one false, say at which input.
  Laid BY PROGRAM, IN A SANDBOX (cutbox-rows.mjs): the forced cells as the released guide's own fill.sh prints them over the translation 4d94e738c893c110… (all of the seat's roots in one cut). By AI agents, Wed Nov 11 2026. No macro, syntax, notation, axiom, sorry.
-/
import Derived.Test.YtmhbpecdpiapgaaChecked
import GoSem.Claim
import GoSem.ClaimJoined
import GoSem.ClaimMapViews
import Derived.JoinedTies
import Derived.KernelRfl
namespace Go.Proofs.Ytmhbpecdpiapgaa
/- THE CELL 'sum', in the pinned program and in every row, IS THE sha256 OF THE DUMP (.gsa) THAT YtmhbpecdpiapgaaProg.lean LOADS. Nothing in Lean hashes anything: it is a label: what it is worth is what the hold of that sum in a sandbox is worth. -/
noncomputable def Try.pinned : Pinned := { name := "ytmhbpecdpiapgaa", sum := "4d94e738c893c11029ba8a9168272ce4578f9c39bbaab7c889081c70743730b4", checked := Try.checked }
namespace Rows
def none {H : Type} : Left H := { results := [], args := [] }

/-- 'syndrometop.TopStore': WHATEVER THE INPUT: true; the input reads as it did. -/
def topStoreSpec : ChangeSpec := { name := "topStore", fn := fun _ => fun
  | [d1, d2, d3, d4, d5, d6] => { results := [.lit (.bool true)], args := [d1, d2, d3, d4, d5, d6] }
  | _ => none }
def topStoreRow : OpenClaim := { program := "ytmhbpecdpiapgaa", sum := "4d94e738c893c11029ba8a9168272ce4578f9c39bbaab7c889081c70743730b4", func := "syndrome/syndrometop.TopStore", spec := "topStore", inPlace := ["sync/atomic.LoadUint32", "(*internal/sync.Mutex).Lock", "internal/race.Disable", "sync/atomic.CompareAndSwapInt32", "internal/race.Enable", "internal/race.Acquire", "(*internal/sync.Mutex).lockSlow", "internal/sync.runtime_canSpin", "internal/sync.runtime_doSpin", "internal/sync.throw", "internal/sync.runtime_nanotime", "internal/sync.runtime_SemacquireMutex", "sync/atomic.AddInt32", "(*internal/sync.Mutex).Unlock", "internal/race.ReleaseMerge", "(*internal/sync.Mutex).unlockSlow", "internal/sync.fatal", "internal/sync.runtime_Semrelease", "sync/atomic.StoreUint32"], unfollowed := true, recurses := true, apart := false }
def TopStoreSaid : Prop := topStoreRow.holds Try.pinned (OpenSpec.ofChange topStoreSpec)

/-- ITS FALSE NEIGHBOUR: 'it returns false'. Refute it at one input. -/
def topStoreWrong : ChangeSpec := { name := "topStore", fn := fun _ => fun
  | [d1, d2, d3, d4, d5, d6] => { results := [.lit (.bool false)], args := [d1, d2, d3, d4, d5, d6] }
  | _ => none }
def TopStoreWrongFalsely : Prop := topStoreRow.holds Try.pinned (OpenSpec.ofChange topStoreWrong)

/-- 'syndromelaw.CodeCounts': WHATEVER THE INPUT: true; the input reads as it did. -/
def codeCountsSpec : ChangeSpec := { name := "codeCounts", fn := fun _ => fun
  | [d1, d2] => { results := [.lit (.bool true)], args := [d1, d2] }
  | _ => none }
def codeCountsRow : OpenClaim := { program := "ytmhbpecdpiapgaa", sum := "4d94e738c893c11029ba8a9168272ce4578f9c39bbaab7c889081c70743730b4", func := "syndrome/syndromelaw.CodeCounts", spec := "codeCounts", inPlace := ["sync/atomic.LoadUint32", "(*internal/sync.Mutex).Lock", "internal/race.Disable", "sync/atomic.CompareAndSwapInt32", "internal/race.Enable", "internal/race.Acquire", "(*internal/sync.Mutex).lockSlow", "internal/sync.runtime_canSpin", "internal/sync.runtime_doSpin", "internal/sync.throw", "internal/sync.runtime_nanotime", "internal/sync.runtime_SemacquireMutex", "sync/atomic.AddInt32", "(*internal/sync.Mutex).Unlock", "internal/race.ReleaseMerge", "(*internal/sync.Mutex).unlockSlow", "internal/sync.fatal", "internal/sync.runtime_Semrelease", "sync/atomic.StoreUint32"], unfollowed := true, recurses := true, apart := false }
def CodeCountsSaid : Prop := codeCountsRow.holds Try.pinned (OpenSpec.ofChange codeCountsSpec)

/-- ITS FALSE NEIGHBOUR: 'it returns false'. Refute it at one input. -/
def codeCountsWrong : ChangeSpec := { name := "codeCounts", fn := fun _ => fun
  | [d1, d2] => { results := [.lit (.bool false)], args := [d1, d2] }
  | _ => none }
def CodeCountsWrongFalsely : Prop := codeCountsRow.holds Try.pinned (OpenSpec.ofChange codeCountsWrong)

/-- 'syndromelaw.WeightsSay': WHATEVER THE INPUT: true; the input reads as it did. -/
def weightsSaySpec : ChangeSpec := { name := "weightsSay", fn := fun _ => fun
  | [d1, d2, d3, d4, d5] => { results := [.lit (.bool true)], args := [d1, d2, d3, d4, d5] }
  | _ => none }
def weightsSayRow : OpenClaim := { program := "ytmhbpecdpiapgaa", sum := "4d94e738c893c11029ba8a9168272ce4578f9c39bbaab7c889081c70743730b4", func := "syndrome/syndromelaw.WeightsSay", spec := "weightsSay", inPlace := ["sync/atomic.LoadUint32", "(*internal/sync.Mutex).Lock", "internal/race.Disable", "sync/atomic.CompareAndSwapInt32", "internal/race.Enable", "internal/race.Acquire", "(*internal/sync.Mutex).lockSlow", "internal/sync.runtime_canSpin", "internal/sync.runtime_doSpin", "internal/sync.throw", "internal/sync.runtime_nanotime", "internal/sync.runtime_SemacquireMutex", "sync/atomic.AddInt32", "(*internal/sync.Mutex).Unlock", "internal/race.ReleaseMerge", "(*internal/sync.Mutex).unlockSlow", "internal/sync.fatal", "internal/sync.runtime_Semrelease", "sync/atomic.StoreUint32"], unfollowed := true, recurses := true, apart := false }
def WeightsSaySaid : Prop := weightsSayRow.holds Try.pinned (OpenSpec.ofChange weightsSaySpec)

/-- ITS FALSE NEIGHBOUR: 'it returns false'. Refute it at one input. -/
def weightsSayWrong : ChangeSpec := { name := "weightsSay", fn := fun _ => fun
  | [d1, d2, d3, d4, d5] => { results := [.lit (.bool false)], args := [d1, d2, d3, d4, d5] }
  | _ => none }
def WeightsSayWrongFalsely : Prop := weightsSayRow.holds Try.pinned (OpenSpec.ofChange weightsSayWrong)

/-- 'syndrometop.TopPeel': WHATEVER THE INPUT: true; the input reads as it did. -/
def topPeelSpec : ChangeSpec := { name := "topPeel", fn := fun _ => fun
  | [d1, d2, d3, d4, d5, d6] => { results := [.lit (.bool true)], args := [d1, d2, d3, d4, d5, d6] }
  | _ => none }
def topPeelRow : OpenClaim := { program := "ytmhbpecdpiapgaa", sum := "4d94e738c893c11029ba8a9168272ce4578f9c39bbaab7c889081c70743730b4", func := "syndrome/syndrometop.TopPeel", spec := "topPeel", inPlace := ["sync/atomic.LoadUint32", "(*internal/sync.Mutex).Lock", "internal/race.Disable", "sync/atomic.CompareAndSwapInt32", "internal/race.Enable", "internal/race.Acquire", "(*internal/sync.Mutex).lockSlow", "internal/sync.runtime_canSpin", "internal/sync.runtime_doSpin", "internal/sync.throw", "internal/sync.runtime_nanotime", "internal/sync.runtime_SemacquireMutex", "sync/atomic.AddInt32", "(*internal/sync.Mutex).Unlock", "internal/race.ReleaseMerge", "(*internal/sync.Mutex).unlockSlow", "internal/sync.fatal", "internal/sync.runtime_Semrelease", "sync/atomic.StoreUint32"], unfollowed := true, recurses := true, apart := false }
def TopPeelSaid : Prop := topPeelRow.holds Try.pinned (OpenSpec.ofChange topPeelSpec)

/-- ITS FALSE NEIGHBOUR: 'it returns false'. Refute it at one input. -/
def topPeelWrong : ChangeSpec := { name := "topPeel", fn := fun _ => fun
  | [d1, d2, d3, d4, d5, d6] => { results := [.lit (.bool false)], args := [d1, d2, d3, d4, d5, d6] }
  | _ => none }
def TopPeelWrongFalsely : Prop := topPeelRow.holds Try.pinned (OpenSpec.ofChange topPeelWrong)

/-- 'syndrometop.TopNear': WHATEVER THE INPUT: true; the input reads as it did. -/
def topNearSpec : ChangeSpec := { name := "topNear", fn := fun _ => fun
  | [d1, d2, d3, d4, d5, d6] => { results := [.lit (.bool true)], args := [d1, d2, d3, d4, d5, d6] }
  | _ => none }
def topNearRow : OpenClaim := { program := "ytmhbpecdpiapgaa", sum := "4d94e738c893c11029ba8a9168272ce4578f9c39bbaab7c889081c70743730b4", func := "syndrome/syndrometop.TopNear", spec := "topNear", inPlace := ["sync/atomic.LoadUint32", "(*internal/sync.Mutex).Lock", "internal/race.Disable", "sync/atomic.CompareAndSwapInt32", "internal/race.Enable", "internal/race.Acquire", "(*internal/sync.Mutex).lockSlow", "internal/sync.runtime_canSpin", "internal/sync.runtime_doSpin", "internal/sync.throw", "internal/sync.runtime_nanotime", "internal/sync.runtime_SemacquireMutex", "sync/atomic.AddInt32", "(*internal/sync.Mutex).Unlock", "internal/race.ReleaseMerge", "(*internal/sync.Mutex).unlockSlow", "internal/sync.fatal", "internal/sync.runtime_Semrelease", "sync/atomic.StoreUint32"], unfollowed := true, recurses := true, apart := false }
def TopNearSaid : Prop := topNearRow.holds Try.pinned (OpenSpec.ofChange topNearSpec)

/-- ITS FALSE NEIGHBOUR: 'it returns false'. Refute it at one input. -/
def topNearWrong : ChangeSpec := { name := "topNear", fn := fun _ => fun
  | [d1, d2, d3, d4, d5, d6] => { results := [.lit (.bool false)], args := [d1, d2, d3, d4, d5, d6] }
  | _ => none }
def TopNearWrongFalsely : Prop := topNearRow.holds Try.pinned (OpenSpec.ofChange topNearWrong)

/-- 'syndromelaw.GapSays': WHATEVER THE INPUT: true; the input reads as it did. -/
def gapSaysSpec : ChangeSpec := { name := "gapSays", fn := fun _ => fun
  | [d1, d2, d3, d4] => { results := [.lit (.bool true)], args := [d1, d2, d3, d4] }
  | _ => none }
def gapSaysRow : OpenClaim := { program := "ytmhbpecdpiapgaa", sum := "4d94e738c893c11029ba8a9168272ce4578f9c39bbaab7c889081c70743730b4", func := "syndrome/syndromelaw.GapSays", spec := "gapSays", inPlace := ["slices.overlaps[int]"], unfollowed := true, recurses := true, apart := false }
def GapSaysSaid : Prop := gapSaysRow.holds Try.pinned (OpenSpec.ofChange gapSaysSpec)

/-- ITS FALSE NEIGHBOUR: 'it returns false'. Refute it at one input. -/
def gapSaysWrong : ChangeSpec := { name := "gapSays", fn := fun _ => fun
  | [d1, d2, d3, d4] => { results := [.lit (.bool false)], args := [d1, d2, d3, d4] }
  | _ => none }
def GapSaysWrongFalsely : Prop := gapSaysRow.holds Try.pinned (OpenSpec.ofChange gapSaysWrong)

/-- 'syndromelaw.GapMade': WHATEVER THE INPUT: true; the input reads as it did. -/
def gapMadeSpec : ChangeSpec := { name := "gapMade", fn := fun _ => fun
  | [d1, d2, d3, d4, d5] => { results := [.lit (.bool true)], args := [d1, d2, d3, d4, d5] }
  | _ => none }
def gapMadeRow : OpenClaim := { program := "ytmhbpecdpiapgaa", sum := "4d94e738c893c11029ba8a9168272ce4578f9c39bbaab7c889081c70743730b4", func := "syndrome/syndromelaw.GapMade", spec := "gapMade", inPlace := ["slices.overlaps[int]"], unfollowed := true, recurses := true, apart := false }
def GapMadeSaid : Prop := gapMadeRow.holds Try.pinned (OpenSpec.ofChange gapMadeSpec)

/-- ITS FALSE NEIGHBOUR: 'it returns false'. Refute it at one input. -/
def gapMadeWrong : ChangeSpec := { name := "gapMade", fn := fun _ => fun
  | [d1, d2, d3, d4, d5] => { results := [.lit (.bool false)], args := [d1, d2, d3, d4, d5] }
  | _ => none }
def GapMadeWrongFalsely : Prop := gapMadeRow.holds Try.pinned (OpenSpec.ofChange gapMadeWrong)

/-- 'syndrometop.TopGap': WHATEVER THE INPUT: true; the input reads as it did. -/
def topGapSpec : ChangeSpec := { name := "topGap", fn := fun _ => fun
  | [d1, d2, d3, d4, d5, d6] => { results := [.lit (.bool true)], args := [d1, d2, d3, d4, d5, d6] }
  | _ => none }
def topGapRow : OpenClaim := { program := "ytmhbpecdpiapgaa", sum := "4d94e738c893c11029ba8a9168272ce4578f9c39bbaab7c889081c70743730b4", func := "syndrome/syndrometop.TopGap", spec := "topGap", inPlace := ["slices.overlaps[int]"], unfollowed := true, recurses := true, apart := false }
def TopGapSaid : Prop := topGapRow.holds Try.pinned (OpenSpec.ofChange topGapSpec)

/-- ITS FALSE NEIGHBOUR: 'it returns false'. Refute it at one input. -/
def topGapWrong : ChangeSpec := { name := "topGap", fn := fun _ => fun
  | [d1, d2, d3, d4, d5, d6] => { results := [.lit (.bool false)], args := [d1, d2, d3, d4, d5, d6] }
  | _ => none }
def TopGapWrongFalsely : Prop := topGapRow.holds Try.pinned (OpenSpec.ofChange topGapWrong)

/-- 'syndrometop.TopMuller': WHATEVER THE INPUT: true; the input reads as it did. -/
def topMullerSpec : ChangeSpec := { name := "topMuller", fn := fun _ => fun
  | [d1, d2, d3, d4] => { results := [.lit (.bool true)], args := [d1, d2, d3, d4] }
  | _ => none }
def topMullerRow : OpenClaim := { program := "ytmhbpecdpiapgaa", sum := "4d94e738c893c11029ba8a9168272ce4578f9c39bbaab7c889081c70743730b4", func := "syndrome/syndrometop.TopMuller", spec := "topMuller", inPlace := ["sync/atomic.LoadUint32", "(*internal/sync.Mutex).Lock", "internal/race.Disable", "sync/atomic.CompareAndSwapInt32", "internal/race.Enable", "internal/race.Acquire", "(*internal/sync.Mutex).lockSlow", "internal/sync.runtime_canSpin", "internal/sync.runtime_doSpin", "internal/sync.throw", "internal/sync.runtime_nanotime", "internal/sync.runtime_SemacquireMutex", "sync/atomic.AddInt32", "(*internal/sync.Mutex).Unlock", "internal/race.ReleaseMerge", "(*internal/sync.Mutex).unlockSlow", "internal/sync.fatal", "internal/sync.runtime_Semrelease", "sync/atomic.StoreUint32"], unfollowed := true, recurses := true, apart := false }
def TopMullerSaid : Prop := topMullerRow.holds Try.pinned (OpenSpec.ofChange topMullerSpec)

/-- ITS FALSE NEIGHBOUR: 'it returns false'. Refute it at one input. -/
def topMullerWrong : ChangeSpec := { name := "topMuller", fn := fun _ => fun
  | [d1, d2, d3, d4] => { results := [.lit (.bool false)], args := [d1, d2, d3, d4] }
  | _ => none }
def TopMullerWrongFalsely : Prop := topMullerRow.holds Try.pinned (OpenSpec.ofChange topMullerWrong)

/- THE SECOND FORM. 'bulk': how many values and letters a reading holds, each counted each time it is reached (what is shared counts as often as it is met; a slice's spare places count too). A statement '..UptoSaid' is the law's where the arguments, and the package variables that the reading takes, are together of bulk at most 1048576: NARROWER than '..Said'. Prove '..Said' where nothing that the law and all that it calls make is longer than what came in: it says more and counts as full. Else prove '..UptoSaid'. A law counts once. -/
mutual
def uptoBulk {H : Type} : DataW H → Nat
  | .lit (.string bytes) => bytes.length + 1
  | .lit _ => 1
  | .nil => 1
  | .ptr d => uptoBulk d + 1
  | .slice elems spare => uptoBulkAll elems + uptoBulkAll spare + 1
  | .agg parts => uptoBulkAll parts + 1
  | .iface _ d => uptoBulk d + 1
  | .map entries => uptoBulkEntries entries + 1
  | .held _ => 1
def uptoBulkAll {H : Type} : List (DataW H) → Nat
  | [] => 0
  | d :: r => uptoBulk d + uptoBulkAll r
def uptoBulkEntries {H : Type} : List (Lit × DataW H) → Nat
  | [] => 0
  | x :: r => uptoBulkEntry x + uptoBulkEntries r
def uptoBulkEntry {H : Type} : Lit × DataW H → Nat
  | (.string bytes, d) => bytes.length + uptoBulk d + 1
  | (_, d) => uptoBulk d + 1
 end
def uptoSmall : (H : Type) → List (DataW H) → Bool := fun _ ds => decide (uptoBulkAll ds ≤ 1048576)
def OpenSpec.upto (s : _root_.Go.ChangeSpec) : _root_.Go.OpenSpec := { _root_.Go.OpenSpec.ofChange s with cond := some uptoSmall }

/-- 'syndrometop.TopStore', WHERE WHAT IT READS IS OF BULK AT MOST 1048576: true; the input reads as it did. -/
def topStoreUptoRow : OpenClaim := { program := "ytmhbpecdpiapgaa", sum := "4d94e738c893c11029ba8a9168272ce4578f9c39bbaab7c889081c70743730b4", func := "syndrome/syndrometop.TopStore", spec := "topStore", inPlace := ["sync/atomic.LoadUint32", "(*internal/sync.Mutex).Lock", "internal/race.Disable", "sync/atomic.CompareAndSwapInt32", "internal/race.Enable", "internal/race.Acquire", "(*internal/sync.Mutex).lockSlow", "internal/sync.runtime_canSpin", "internal/sync.runtime_doSpin", "internal/sync.throw", "internal/sync.runtime_nanotime", "internal/sync.runtime_SemacquireMutex", "sync/atomic.AddInt32", "(*internal/sync.Mutex).Unlock", "internal/race.ReleaseMerge", "(*internal/sync.Mutex).unlockSlow", "internal/sync.fatal", "internal/sync.runtime_Semrelease", "sync/atomic.StoreUint32"], unfollowed := true, recurses := true, apart := false, narrowed := true }
def TopStoreUptoSaid : Prop := topStoreUptoRow.holds Try.pinned (OpenSpec.upto topStoreSpec)

/-- 'syndromelaw.CodeCounts', WHERE WHAT IT READS IS OF BULK AT MOST 1048576: true; the input reads as it did. -/
def codeCountsUptoRow : OpenClaim := { program := "ytmhbpecdpiapgaa", sum := "4d94e738c893c11029ba8a9168272ce4578f9c39bbaab7c889081c70743730b4", func := "syndrome/syndromelaw.CodeCounts", spec := "codeCounts", inPlace := ["sync/atomic.LoadUint32", "(*internal/sync.Mutex).Lock", "internal/race.Disable", "sync/atomic.CompareAndSwapInt32", "internal/race.Enable", "internal/race.Acquire", "(*internal/sync.Mutex).lockSlow", "internal/sync.runtime_canSpin", "internal/sync.runtime_doSpin", "internal/sync.throw", "internal/sync.runtime_nanotime", "internal/sync.runtime_SemacquireMutex", "sync/atomic.AddInt32", "(*internal/sync.Mutex).Unlock", "internal/race.ReleaseMerge", "(*internal/sync.Mutex).unlockSlow", "internal/sync.fatal", "internal/sync.runtime_Semrelease", "sync/atomic.StoreUint32"], unfollowed := true, recurses := true, apart := false, narrowed := true }
def CodeCountsUptoSaid : Prop := codeCountsUptoRow.holds Try.pinned (OpenSpec.upto codeCountsSpec)

/-- 'syndromelaw.WeightsSay', WHERE WHAT IT READS IS OF BULK AT MOST 1048576: true; the input reads as it did. -/
def weightsSayUptoRow : OpenClaim := { program := "ytmhbpecdpiapgaa", sum := "4d94e738c893c11029ba8a9168272ce4578f9c39bbaab7c889081c70743730b4", func := "syndrome/syndromelaw.WeightsSay", spec := "weightsSay", inPlace := ["sync/atomic.LoadUint32", "(*internal/sync.Mutex).Lock", "internal/race.Disable", "sync/atomic.CompareAndSwapInt32", "internal/race.Enable", "internal/race.Acquire", "(*internal/sync.Mutex).lockSlow", "internal/sync.runtime_canSpin", "internal/sync.runtime_doSpin", "internal/sync.throw", "internal/sync.runtime_nanotime", "internal/sync.runtime_SemacquireMutex", "sync/atomic.AddInt32", "(*internal/sync.Mutex).Unlock", "internal/race.ReleaseMerge", "(*internal/sync.Mutex).unlockSlow", "internal/sync.fatal", "internal/sync.runtime_Semrelease", "sync/atomic.StoreUint32"], unfollowed := true, recurses := true, apart := false, narrowed := true }
def WeightsSayUptoSaid : Prop := weightsSayUptoRow.holds Try.pinned (OpenSpec.upto weightsSaySpec)

/-- 'syndrometop.TopPeel', WHERE WHAT IT READS IS OF BULK AT MOST 1048576: true; the input reads as it did. -/
def topPeelUptoRow : OpenClaim := { program := "ytmhbpecdpiapgaa", sum := "4d94e738c893c11029ba8a9168272ce4578f9c39bbaab7c889081c70743730b4", func := "syndrome/syndrometop.TopPeel", spec := "topPeel", inPlace := ["sync/atomic.LoadUint32", "(*internal/sync.Mutex).Lock", "internal/race.Disable", "sync/atomic.CompareAndSwapInt32", "internal/race.Enable", "internal/race.Acquire", "(*internal/sync.Mutex).lockSlow", "internal/sync.runtime_canSpin", "internal/sync.runtime_doSpin", "internal/sync.throw", "internal/sync.runtime_nanotime", "internal/sync.runtime_SemacquireMutex", "sync/atomic.AddInt32", "(*internal/sync.Mutex).Unlock", "internal/race.ReleaseMerge", "(*internal/sync.Mutex).unlockSlow", "internal/sync.fatal", "internal/sync.runtime_Semrelease", "sync/atomic.StoreUint32"], unfollowed := true, recurses := true, apart := false, narrowed := true }
def TopPeelUptoSaid : Prop := topPeelUptoRow.holds Try.pinned (OpenSpec.upto topPeelSpec)

/-- 'syndrometop.TopNear', WHERE WHAT IT READS IS OF BULK AT MOST 1048576: true; the input reads as it did. -/
def topNearUptoRow : OpenClaim := { program := "ytmhbpecdpiapgaa", sum := "4d94e738c893c11029ba8a9168272ce4578f9c39bbaab7c889081c70743730b4", func := "syndrome/syndrometop.TopNear", spec := "topNear", inPlace := ["sync/atomic.LoadUint32", "(*internal/sync.Mutex).Lock", "internal/race.Disable", "sync/atomic.CompareAndSwapInt32", "internal/race.Enable", "internal/race.Acquire", "(*internal/sync.Mutex).lockSlow", "internal/sync.runtime_canSpin", "internal/sync.runtime_doSpin", "internal/sync.throw", "internal/sync.runtime_nanotime", "internal/sync.runtime_SemacquireMutex", "sync/atomic.AddInt32", "(*internal/sync.Mutex).Unlock", "internal/race.ReleaseMerge", "(*internal/sync.Mutex).unlockSlow", "internal/sync.fatal", "internal/sync.runtime_Semrelease", "sync/atomic.StoreUint32"], unfollowed := true, recurses := true, apart := false, narrowed := true }
def TopNearUptoSaid : Prop := topNearUptoRow.holds Try.pinned (OpenSpec.upto topNearSpec)

/-- 'syndromelaw.GapSays', WHERE WHAT IT READS IS OF BULK AT MOST 1048576: true; the input reads as it did. -/
def gapSaysUptoRow : OpenClaim := { program := "ytmhbpecdpiapgaa", sum := "4d94e738c893c11029ba8a9168272ce4578f9c39bbaab7c889081c70743730b4", func := "syndrome/syndromelaw.GapSays", spec := "gapSays", inPlace := ["slices.overlaps[int]"], unfollowed := true, recurses := true, apart := false, narrowed := true }
def GapSaysUptoSaid : Prop := gapSaysUptoRow.holds Try.pinned (OpenSpec.upto gapSaysSpec)

/-- 'syndromelaw.GapMade', WHERE WHAT IT READS IS OF BULK AT MOST 1048576: true; the input reads as it did. -/
def gapMadeUptoRow : OpenClaim := { program := "ytmhbpecdpiapgaa", sum := "4d94e738c893c11029ba8a9168272ce4578f9c39bbaab7c889081c70743730b4", func := "syndrome/syndromelaw.GapMade", spec := "gapMade", inPlace := ["slices.overlaps[int]"], unfollowed := true, recurses := true, apart := false, narrowed := true }
def GapMadeUptoSaid : Prop := gapMadeUptoRow.holds Try.pinned (OpenSpec.upto gapMadeSpec)

/-- 'syndrometop.TopGap', WHERE WHAT IT READS IS OF BULK AT MOST 1048576: true; the input reads as it did. -/
def topGapUptoRow : OpenClaim := { program := "ytmhbpecdpiapgaa", sum := "4d94e738c893c11029ba8a9168272ce4578f9c39bbaab7c889081c70743730b4", func := "syndrome/syndrometop.TopGap", spec := "topGap", inPlace := ["slices.overlaps[int]"], unfollowed := true, recurses := true, apart := false, narrowed := true }
def TopGapUptoSaid : Prop := topGapUptoRow.holds Try.pinned (OpenSpec.upto topGapSpec)

/-- 'syndrometop.TopMuller', WHERE WHAT IT READS IS OF BULK AT MOST 1048576: true; the input reads as it did. -/
def topMullerUptoRow : OpenClaim := { program := "ytmhbpecdpiapgaa", sum := "4d94e738c893c11029ba8a9168272ce4578f9c39bbaab7c889081c70743730b4", func := "syndrome/syndrometop.TopMuller", spec := "topMuller", inPlace := ["sync/atomic.LoadUint32", "(*internal/sync.Mutex).Lock", "internal/race.Disable", "sync/atomic.CompareAndSwapInt32", "internal/race.Enable", "internal/race.Acquire", "(*internal/sync.Mutex).lockSlow", "internal/sync.runtime_canSpin", "internal/sync.runtime_doSpin", "internal/sync.throw", "internal/sync.runtime_nanotime", "internal/sync.runtime_SemacquireMutex", "sync/atomic.AddInt32", "(*internal/sync.Mutex).Unlock", "internal/race.ReleaseMerge", "(*internal/sync.Mutex).unlockSlow", "internal/sync.fatal", "internal/sync.runtime_Semrelease", "sync/atomic.StoreUint32"], unfollowed := true, recurses := true, apart := false, narrowed := true }
def TopMullerUptoSaid : Prop := topMullerUptoRow.holds Try.pinned (OpenSpec.upto topMullerSpec)

end Rows
end Go.Proofs.Ytmhbpecdpiapgaa
