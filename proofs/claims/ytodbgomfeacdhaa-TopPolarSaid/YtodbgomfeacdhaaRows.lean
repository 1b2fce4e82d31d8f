/-
  No cell of these rows narrows 'for every input' (looked for: loops, veiled, ifaces, maps, wideKeys, modest, calm, conditions, laid).
  DERIVED. THE GIVEN ROWS OF THIS SEAT. 10 by the template 'for every input the law returns true; each argument reads behind the call as it read before'; 0 by the template 'total and deterministic' (their statements: YtodbgomfeacdhaaTotals.lean).
  GIVEN WITH THE SEED: the statements are not yours to turn. If you find one false, say at which input.
  Laid BY PROGRAM, IN A SANDBOX (cutbox-rows.mjs): the forced cells as the released guide's own fill.sh prints them over the translation 21e1a3c9cdffd11f… (all of the seat's roots in one cut). By AI agents, Wed Nov 11 2026. No macro, syntax, notation, axiom, sorry.
-/
import Derived.Test.YtodbgomfeacdhaaChecked
import GoSem.Claim
import GoSem.ClaimJoined
import GoSem.ClaimMapViews
import Derived.JoinedTies
import Derived.KernelRfl
namespace Go.Proofs.Ytodbgomfeacdhaa
/- THE CELL 'sum', in the pinned program and in every row, IS THE sha256 OF THE DUMP (.gsa) THAT YtodbgomfeacdhaaProg.lean LOADS. Nothing in Lean hashes anything: it is a label: what it is worth is what the hold of that sum in a sandbox is worth. -/
noncomputable def Try.pinned : Pinned := { name := "ytodbgomfeacdhaa", sum := "21e1a3c9cdffd11f16a37767f6295264355352832f04beb559ab26112de2952f", checked := Try.checked }
namespace Rows
def none {H : Type} : Left H := { results := [], args := [] }

/-- 'syndromelaw.GolayIs': WHATEVER THE INPUT: true; the input reads as it did. -/
def golayIsSpec : ChangeSpec := { name := "golayIs", fn := fun _ => fun
  | [] => { results := [.lit (.bool true)], args := [] }
  | _ => none }
def golayIsRow : OpenClaim := { program := "ytodbgomfeacdhaa", sum := "21e1a3c9cdffd11f16a37767f6295264355352832f04beb559ab26112de2952f", func := "syndrome/syndromelaw.GolayIs", spec := "golayIs", inPlace := ["sync/atomic.LoadUint32", "(*internal/sync.Mutex).Lock", "internal/race.Disable", "sync/atomic.CompareAndSwapInt32", "internal/race.Enable", "internal/race.Acquire", "(*internal/sync.Mutex).lockSlow", "internal/sync.runtime_canSpin", "internal/sync.runtime_doSpin", "internal/sync.throw", "internal/sync.runtime_nanotime", "internal/sync.runtime_SemacquireMutex", "sync/atomic.AddInt32", "(*internal/sync.Mutex).Unlock", "internal/race.ReleaseMerge", "(*internal/sync.Mutex).unlockSlow", "internal/sync.fatal", "internal/sync.runtime_Semrelease", "sync/atomic.StoreUint32"], unfollowed := true, recurses := true, apart := false }
def GolayIsSaid : Prop := golayIsRow.holds Try.pinned (OpenSpec.ofChange golayIsSpec)

/-- ITS FALSE NEIGHBOUR: 'it returns false'. Refute it at one input. -/
def golayIsWrong : ChangeSpec := { name := "golayIs", fn := fun _ => fun
  | [] => { results := [.lit (.bool false)], args := [] }
  | _ => none }
def GolayIsWrongFalsely : Prop := golayIsRow.holds Try.pinned (OpenSpec.ofChange golayIsWrong)

/-- 'syndromelaw.CodeCounts': WHATEVER THE INPUT: true; the input reads as it did. -/
def codeCountsSpec : ChangeSpec := { name := "codeCounts", fn := fun _ => fun
  | [d1, d2] => { results := [.lit (.bool true)], args := [d1, d2] }
  | _ => none }
def codeCountsRow : OpenClaim := { program := "ytodbgomfeacdhaa", sum := "21e1a3c9cdffd11f16a37767f6295264355352832f04beb559ab26112de2952f", func := "syndrome/syndromelaw.CodeCounts", spec := "codeCounts", inPlace := ["sync/atomic.LoadUint32", "(*internal/sync.Mutex).Lock", "internal/race.Disable", "sync/atomic.CompareAndSwapInt32", "internal/race.Enable", "internal/race.Acquire", "(*internal/sync.Mutex).lockSlow", "internal/sync.runtime_canSpin", "internal/sync.runtime_doSpin", "internal/sync.throw", "internal/sync.runtime_nanotime", "internal/sync.runtime_SemacquireMutex", "sync/atomic.AddInt32", "(*internal/sync.Mutex).Unlock", "internal/race.ReleaseMerge", "(*internal/sync.Mutex).unlockSlow", "internal/sync.fatal", "internal/sync.runtime_Semrelease", "sync/atomic.StoreUint32"], unfollowed := true, recurses := true, apart := false }
def CodeCountsSaid : Prop := codeCountsRow.holds Try.pinned (OpenSpec.ofChange codeCountsSpec)

/-- ITS FALSE NEIGHBOUR: 'it returns false'. Refute it at one input. -/
def codeCountsWrong : ChangeSpec := { name := "codeCounts", fn := fun _ => fun
  | [d1, d2] => { results := [.lit (.bool false)], args := [d1, d2] }
  | _ => none }
def CodeCountsWrongFalsely : Prop := codeCountsRow.holds Try.pinned (OpenSpec.ofChange codeCountsWrong)

/-- 'syndromelaw.GolayDesigns': WHATEVER THE INPUT: true; the input reads as it did. -/
def golayDesignsSpec : ChangeSpec := { name := "golayDesigns", fn := fun _ => fun
  | [d1, d2, d3] => { results := [.lit (.bool true)], args := [d1, d2, d3] }
  | _ => none }
def golayDesignsRow : OpenClaim := { program := "ytodbgomfeacdhaa", sum := "21e1a3c9cdffd11f16a37767f6295264355352832f04beb559ab26112de2952f", func := "syndrome/syndromelaw.GolayDesigns", spec := "golayDesigns", unfollowed := true, recurses := true, apart := false }
def GolayDesignsSaid : Prop := golayDesignsRow.holds Try.pinned (OpenSpec.ofChange golayDesignsSpec)

/-- ITS FALSE NEIGHBOUR: 'it returns false'. Refute it at one input. -/
def golayDesignsWrong : ChangeSpec := { name := "golayDesigns", fn := fun _ => fun
  | [d1, d2, d3] => { results := [.lit (.bool false)], args := [d1, d2, d3] }
  | _ => none }
def GolayDesignsWrongFalsely : Prop := golayDesignsRow.holds Try.pinned (OpenSpec.ofChange golayDesignsWrong)

/-- 'syndromelaw.GapSays': WHATEVER THE INPUT: true; the input reads as it did. -/
def gapSaysSpec : ChangeSpec := { name := "gapSays", fn := fun _ => fun
  | [d1, d2, d3, d4] => { results := [.lit (.bool true)], args := [d1, d2, d3, d4] }
  | _ => none }
def gapSaysRow : OpenClaim := { program := "ytodbgomfeacdhaa", sum := "21e1a3c9cdffd11f16a37767f6295264355352832f04beb559ab26112de2952f", func := "syndrome/syndromelaw.GapSays", spec := "gapSays", inPlace := ["slices.overlaps[int]"], unfollowed := true, recurses := true, apart := false }
def GapSaysSaid : Prop := gapSaysRow.holds Try.pinned (OpenSpec.ofChange gapSaysSpec)

/-- ITS FALSE NEIGHBOUR: 'it returns false'. Refute it at one input. -/
def gapSaysWrong : ChangeSpec := { name := "gapSays", fn := fun _ => fun
  | [d1, d2, d3, d4] => { results := [.lit (.bool false)], args := [d1, d2, d3, d4] }
  | _ => none }
def GapSaysWrongFalsely : Prop := gapSaysRow.holds Try.pinned (OpenSpec.ofChange gapSaysWrong)

/-- 'syndromelaw.GapMade': WHATEVER THE INPUT: true; the input reads as it did. -/
def gapMadeSpec : ChangeSpec := { name := "gapMade", fn := fun _ => fun
  | [d1, d2, d3, d4, d5] => { results := [.lit (.bool true)], args := [d1, d2, d3, d4, d5] }
  | _ => none }
def gapMadeRow : OpenClaim := { program := "ytodbgomfeacdhaa", sum := "21e1a3c9cdffd11f16a37767f6295264355352832f04beb559ab26112de2952f", func := "syndrome/syndromelaw.GapMade", spec := "gapMade", inPlace := ["slices.overlaps[int]"], unfollowed := true, recurses := true, apart := false }
def GapMadeSaid : Prop := gapMadeRow.holds Try.pinned (OpenSpec.ofChange gapMadeSpec)

/-- ITS FALSE NEIGHBOUR: 'it returns false'. Refute it at one input. -/
def gapMadeWrong : ChangeSpec := { name := "gapMade", fn := fun _ => fun
  | [d1, d2, d3, d4, d5] => { results := [.lit (.bool false)], args := [d1, d2, d3, d4, d5] }
  | _ => none }
def GapMadeWrongFalsely : Prop := gapMadeRow.holds Try.pinned (OpenSpec.ofChange gapMadeWrong)

/-- 'syndrometop.TopGap': WHATEVER THE INPUT: true; the input reads as it did. -/
def topGapSpec : ChangeSpec := { name := "topGap", fn := fun _ => fun
  | [d1, d2, d3, d4, d5, d6] => { results := [.lit (.bool true)], args := [d1, d2, d3, d4, d5, d6] }
  | _ => none }
def topGapRow : OpenClaim := { program := "ytodbgomfeacdhaa", sum := "21e1a3c9cdffd11f16a37767f6295264355352832f04beb559ab26112de2952f", func := "syndrome/syndrometop.TopGap", spec := "topGap", inPlace := ["slices.overlaps[int]"], unfollowed := true, recurses := true, apart := false }
def TopGapSaid : Prop := topGapRow.holds Try.pinned (OpenSpec.ofChange topGapSpec)

/-- ITS FALSE NEIGHBOUR: 'it returns false'. Refute it at one input. -/
def topGapWrong : ChangeSpec := { name := "topGap", fn := fun _ => fun
  | [d1, d2, d3, d4, d5, d6] => { results := [.lit (.bool false)], args := [d1, d2, d3, d4, d5, d6] }
  | _ => none }
def TopGapWrongFalsely : Prop := topGapRow.holds Try.pinned (OpenSpec.ofChange topGapWrong)

/-- 'syndromelaw.PolarSays': WHATEVER THE INPUT: true; the input reads as it did. -/
def polarSaysSpec : ChangeSpec := { name := "polarSays", fn := fun _ => fun
  | [d1, d2, d3] => { results := [.lit (.bool true)], args := [d1, d2, d3] }
  | _ => none }
def polarSaysRow : OpenClaim := { program := "ytodbgomfeacdhaa", sum := "21e1a3c9cdffd11f16a37767f6295264355352832f04beb559ab26112de2952f", func := "syndrome/syndromelaw.PolarSays", spec := "polarSays", unfollowed := true, recurses := true, apart := false }
def PolarSaysSaid : Prop := polarSaysRow.holds Try.pinned (OpenSpec.ofChange polarSaysSpec)

/-- ITS FALSE NEIGHBOUR: 'it returns false'. Refute it at one input. -/
def polarSaysWrong : ChangeSpec := { name := "polarSays", fn := fun _ => fun
  | [d1, d2, d3] => { results := [.lit (.bool false)], args := [d1, d2, d3] }
  | _ => none }
def PolarSaysWrongFalsely : Prop := polarSaysRow.holds Try.pinned (OpenSpec.ofChange polarSaysWrong)

/-- 'syndromelaw.PolarMade': WHATEVER THE INPUT: true; the input reads as it did. -/
def polarMadeSpec : ChangeSpec := { name := "polarMade", fn := fun _ => fun
  | [d1, d2, d3, d4, d5] => { results := [.lit (.bool true)], args := [d1, d2, d3, d4, d5] }
  | _ => none }
def polarMadeRow : OpenClaim := { program := "ytodbgomfeacdhaa", sum := "21e1a3c9cdffd11f16a37767f6295264355352832f04beb559ab26112de2952f", func := "syndrome/syndromelaw.PolarMade", spec := "polarMade", unfollowed := true, recurses := true, apart := false }
def PolarMadeSaid : Prop := polarMadeRow.holds Try.pinned (OpenSpec.ofChange polarMadeSpec)

/-- ITS FALSE NEIGHBOUR: 'it returns false'. Refute it at one input. -/
def polarMadeWrong : ChangeSpec := { name := "polarMade", fn := fun _ => fun
  | [d1, d2, d3, d4, d5] => { results := [.lit (.bool false)], args := [d1, d2, d3, d4, d5] }
  | _ => none }
def PolarMadeWrongFalsely : Prop := polarMadeRow.holds Try.pinned (OpenSpec.ofChange polarMadeWrong)

/-- 'syndrometop.TopPolar': WHATEVER THE INPUT: true; the input reads as it did. -/
def topPolarSpec : ChangeSpec := { name := "topPolar", fn := fun _ => fun
  | [d1, d2, d3, d4, d5] => { results := [.lit (.bool true)], args := [d1, d2, d3, d4, d5] }
  | _ => none }
def topPolarRow : OpenClaim := { program := "ytodbgomfeacdhaa", sum := "21e1a3c9cdffd11f16a37767f6295264355352832f04beb559ab26112de2952f", func := "syndrome/syndrometop.TopPolar", spec := "topPolar", unfollowed := true, recurses := true, apart := false }
def TopPolarSaid : Prop := topPolarRow.holds Try.pinned (OpenSpec.ofChange topPolarSpec)

/-- ITS FALSE NEIGHBOUR: 'it returns false'. Refute it at one input. -/
def topPolarWrong : ChangeSpec := { name := "topPolar", fn := fun _ => fun
  | [d1, d2, d3, d4, d5] => { results := [.lit (.bool false)], args := [d1, d2, d3, d4, d5] }
  | _ => none }
def TopPolarWrongFalsely : Prop := topPolarRow.holds Try.pinned (OpenSpec.ofChange topPolarWrong)

/-- 'syndrometop.TopMuller': WHATEVER THE INPUT: true; the input reads as it did. -/
def topMullerSpec : ChangeSpec := { name := "topMuller", fn := fun _ => fun
  | [d1, d2, d3, d4] => { results := [.lit (.bool true)], args := [d1, d2, d3, d4] }
  | _ => none }
def topMullerRow : OpenClaim := { program := "ytodbgomfeacdhaa", sum := "21e1a3c9cdffd11f16a37767f6295264355352832f04beb559ab26112de2952f", func := "syndrome/syndrometop.TopMuller", spec := "topMuller", inPlace := ["sync/atomic.LoadUint32", "(*internal/sync.Mutex).Lock", "internal/race.Disable", "sync/atomic.CompareAndSwapInt32", "internal/race.Enable", "internal/race.Acquire", "(*internal/sync.Mutex).lockSlow", "internal/sync.runtime_canSpin", "internal/sync.runtime_doSpin", "internal/sync.throw", "internal/sync.runtime_nanotime", "internal/sync.runtime_SemacquireMutex", "sync/atomic.AddInt32", "(*internal/sync.Mutex).Unlock", "internal/race.ReleaseMerge", "(*internal/sync.Mutex).unlockSlow", "internal/sync.fatal", "internal/sync.runtime_Semrelease", "sync/atomic.StoreUint32"], unfollowed := true, recurses := true, apart := false }
def TopMullerSaid : Prop := topMullerRow.holds Try.pinned (OpenSpec.ofChange topMullerSpec)

/-- ITS FALSE NEIGHBOUR: 'it returns false'. Refute it at one input. -/
def topMullerWrong : ChangeSpec := { name := "topMuller", fn := fun _ => fun
  | [d1, d2, d3, d4] => { results := [.lit (.bool false)], args := [d1, d2, d3, d4] }
  | _ => none }
def TopMullerWrongFalsely : Prop := topMullerRow.holds Try.pinned (OpenSpec.ofChange topMullerWrong)

/- THE SECOND FORM. 'bulk': how many values and letters a reading holds, each counted each time it is reached (what is shared counts as often as it is met; a slice's spare places count too). A statement '..UptoSaid' is the law's where the arguments, and the package variables that the reading takes, are together of bulk at most 1048576: NARROWER than '..Said'. Prove '..Said' where nothing that the law and all that it calls make is longer than what came in: it says more and counts as full. Else prove '..UptoSaid'. A law counts once. -/
mutual
def uptoBulk {H : Type} : DataW H → Nat
  | .lit (.string bytes) => bytes.length + 1
  | .lit _ => 1
  | .nil => 1
  | .ptr d => uptoBulk d + 1
  | .slice elems spare => uptoBulkAll elems + uptoBulkAll spare + 1
  | .agg parts => uptoBulkAll parts + 1
  | .iface _ d => uptoBulk d + 1
  | .map entries => uptoBulkEntries entries + 1
  | .held _ => 1
def uptoBulkAll {H : Type} : List (DataW H) → Nat
  | [] => 0
  | d :: r => uptoBulk d + uptoBulkAll r
def uptoBulkEntries {H : Type} : List (Lit × DataW H) → Nat
  | [] => 0
  | x :: r => uptoBulkEntry x + uptoBulkEntries r
def uptoBulkEntry {H : Type} : Lit × DataW H → Nat
  | (.string bytes, d) => bytes.length + uptoBulk d + 1
  | (_, d) => uptoBulk d + 1
 end
def uptoSmall : (H : Type) → List (DataW H) → Bool := fun _ ds => decide (uptoBulkAll ds ≤ 1048576)
def OpenSpec.upto (s : _root_.Go.ChangeSpec) : _root_.Go.OpenSpec := { _root_.Go.OpenSpec.ofChange s with cond := some uptoSmall }

/-- 'syndromelaw.GolayIs', WHERE WHAT IT READS IS OF BULK AT MOST 1048576: true; the input reads as it did. -/
def golayIsUptoRow : OpenClaim := { program := "ytodbgomfeacdhaa", sum := "21e1a3c9cdffd11f16a37767f6295264355352832f04beb559ab26112de2952f", func := "syndrome/syndromelaw.GolayIs", spec := "golayIs", inPlace := ["sync/atomic.LoadUint32", "(*internal/sync.Mutex).Lock", "internal/race.Disable", "sync/atomic.CompareAndSwapInt32", "internal/race.Enable", "internal/race.Acquire", "(*internal/sync.Mutex).lockSlow", "internal/sync.runtime_canSpin", "internal/sync.runtime_doSpin", "internal/sync.throw", "internal/sync.runtime_nanotime", "internal/sync.runtime_SemacquireMutex", "sync/atomic.AddInt32", "(*internal/sync.Mutex).Unlock", "internal/race.ReleaseMerge", "(*internal/sync.Mutex).unlockSlow", "internal/sync.fatal", "internal/sync.runtime_Semrelease", "sync/atomic.StoreUint32"], unfollowed := true, recurses := true, apart := false, narrowed := true }
def GolayIsUptoSaid : Prop := golayIsUptoRow.holds Try.pinned (OpenSpec.upto golayIsSpec)

/-- 'syndromelaw.CodeCounts', WHERE WHAT IT READS IS OF BULK AT MOST 1048576: true; the input reads as it did. -/
def codeCountsUptoRow : OpenClaim := { program := "ytodbgomfeacdhaa", sum := "21e1a3c9cdffd11f16a37767f6295264355352832f04beb559ab26112de2952f", func := "syndrome/syndromelaw.CodeCounts", spec := "codeCounts", inPlace := ["sync/atomic.LoadUint32", "(*internal/sync.Mutex).Lock", "internal/race.Disable", "sync/atomic.CompareAndSwapInt32", "internal/race.Enable", "internal/race.Acquire", "(*internal/sync.Mutex).lockSlow", "internal/sync.runtime_canSpin", "internal/sync.runtime_doSpin", "internal/sync.throw", "internal/sync.runtime_nanotime", "internal/sync.runtime_SemacquireMutex", "sync/atomic.AddInt32", "(*internal/sync.Mutex).Unlock", "internal/race.ReleaseMerge", "(*internal/sync.Mutex).unlockSlow", "internal/sync.fatal", "internal/sync.runtime_Semrelease", "sync/atomic.StoreUint32"], unfollowed := true, recurses := true, apart := false, narrowed := true }
def CodeCountsUptoSaid : Prop := codeCountsUptoRow.holds Try.pinned (OpenSpec.upto codeCountsSpec)

/-- 'syndromelaw.GolayDesigns', WHERE WHAT IT READS IS OF BULK AT MOST 1048576: true; the input reads as it did. -/
def golayDesignsUptoRow : OpenClaim := { program := "ytodbgomfeacdhaa", sum := "21e1a3c9cdffd11f16a37767f6295264355352832f04beb559ab26112de2952f", func := "syndrome/syndromelaw.GolayDesigns", spec := "golayDesigns", unfollowed := true, recurses := true, apart := false, narrowed := true }
def GolayDesignsUptoSaid : Prop := golayDesignsUptoRow.holds Try.pinned (OpenSpec.upto golayDesignsSpec)

/-- 'syndromelaw.GapSays', WHERE WHAT IT READS IS OF BULK AT MOST 1048576: true; the input reads as it did. -/
def gapSaysUptoRow : OpenClaim := { program := "ytodbgomfeacdhaa", sum := "21e1a3c9cdffd11f16a37767f6295264355352832f04beb559ab26112de2952f", func := "syndrome/syndromelaw.GapSays", spec := "gapSays", inPlace := ["slices.overlaps[int]"], unfollowed := true, recurses := true, apart := false, narrowed := true }
def GapSaysUptoSaid : Prop := gapSaysUptoRow.holds Try.pinned (OpenSpec.upto gapSaysSpec)

/-- 'syndromelaw.GapMade', WHERE WHAT IT READS IS OF BULK AT MOST 1048576: true; the input reads as it did. -/
def gapMadeUptoRow : OpenClaim := { program := "ytodbgomfeacdhaa", sum := "21e1a3c9cdffd11f16a37767f6295264355352832f04beb559ab26112de2952f", func := "syndrome/syndromelaw.GapMade", spec := "gapMade", inPlace := ["slices.overlaps[int]"], unfollowed := true, recurses := true, apart := false, narrowed := true }
def GapMadeUptoSaid : Prop := gapMadeUptoRow.holds Try.pinned (OpenSpec.upto gapMadeSpec)

/-- 'syndrometop.TopGap', WHERE WHAT IT READS IS OF BULK AT MOST 1048576: true; the input reads as it did. -/
def topGapUptoRow : OpenClaim := { program := "ytodbgomfeacdhaa", sum := "21e1a3c9cdffd11f16a37767f6295264355352832f04beb559ab26112de2952f", func := "syndrome/syndrometop.TopGap", spec := "topGap", inPlace := ["slices.overlaps[int]"], unfollowed := true, recurses := true, apart := false, narrowed := true }
def TopGapUptoSaid : Prop := topGapUptoRow.holds Try.pinned (OpenSpec.upto topGapSpec)

/-- 'syndromelaw.PolarSays', WHERE WHAT IT READS IS OF BULK AT MOST 1048576: true; the input reads as it did. -/
def polarSaysUptoRow : OpenClaim := { program := "ytodbgomfeacdhaa", sum := "21e1a3c9cdffd11f16a37767f6295264355352832f04beb559ab26112de2952f", func := "syndrome/syndromelaw.PolarSays", spec := "polarSays", unfollowed := true, recurses := true, apart := false, narrowed := true }
def PolarSaysUptoSaid : Prop := polarSaysUptoRow.holds Try.pinned (OpenSpec.upto polarSaysSpec)

/-- 'syndromelaw.PolarMade', WHERE WHAT IT READS IS OF BULK AT MOST 1048576: true; the input reads as it did. -/
def polarMadeUptoRow : OpenClaim := { program := "ytodbgomfeacdhaa", sum := "21e1a3c9cdffd11f16a37767f6295264355352832f04beb559ab26112de2952f", func := "syndrome/syndromelaw.PolarMade", spec := "polarMade", unfollowed := true, recurses := true, apart := false, narrowed := true }
def PolarMadeUptoSaid : Prop := polarMadeUptoRow.holds Try.pinned (OpenSpec.upto polarMadeSpec)

/-- 'syndrometop.TopPolar', WHERE WHAT IT READS IS OF BULK AT MOST 1048576: true; the input reads as it did. -/
def topPolarUptoRow : OpenClaim := { program := "ytodbgomfeacdhaa", sum := "21e1a3c9cdffd11f16a37767f6295264355352832f04beb559ab26112de2952f", func := "syndrome/syndrometop.TopPolar", spec := "topPolar", unfollowed := true, recurses := true, apart := false, narrowed := true }
def TopPolarUptoSaid : Prop := topPolarUptoRow.holds Try.pinned (OpenSpec.upto topPolarSpec)

/-- 'syndrometop.TopMuller', WHERE WHAT IT READS IS OF BULK AT MOST 1048576: true; the input reads as it did. -/
def topMullerUptoRow : OpenClaim := { program := "ytodbgomfeacdhaa", sum := "21e1a3c9cdffd11f16a37767f6295264355352832f04beb559ab26112de2952f", func := "syndrome/syndrometop.TopMuller", spec := "topMuller", inPlace := ["sync/atomic.LoadUint32", "(*internal/sync.Mutex).Lock", "internal/race.Disable", "sync/atomic.CompareAndSwapInt32", "internal/race.Enable", "internal/race.Acquire", "(*internal/sync.Mutex).lockSlow", "internal/sync.runtime_canSpin", "internal/sync.runtime_doSpin", "internal/sync.throw", "internal/sync.runtime_nanotime", "internal/sync.runtime_SemacquireMutex", "sync/atomic.AddInt32", "(*internal/sync.Mutex).Unlock", "internal/race.ReleaseMerge", "(*internal/sync.Mutex).unlockSlow", "internal/sync.fatal", "internal/sync.runtime_Semrelease", "sync/atomic.StoreUint32"], unfollowed := true, recurses := true, apart := false, narrowed := true }
def TopMullerUptoSaid : Prop := topMullerUptoRow.holds Try.pinned (OpenSpec.upto topMullerSpec)

end Rows
end Go.Proofs.Ytodbgomfeacdhaa
