/-
  No cell of these rows narrows 'for every input' (looked for: loops, veiled, ifaces, maps, wideKeys, modest, calm, conditions, laid).
  DERIVED. THE GIVEN ROWS OF THIS SEAT. 7 by the template 'for every input the law returns true; each argument reads behind the call as it read before'; 0 by the template 'total and deterministic' (their statements: YtppbpgmdmiajcaaGreatTotals.lean).
  GIVEN WITH THE SEED: the statements are not yours to turn. If you find one false, say at which input.
  Laid BY PROGRAM, IN A SANDBOX (cutbox-rows.mjs): the forced cells as the released guide's own fill.sh prints them over the translation c17d79ed6d7f0798… (all of the seat's roots in one cut). By AI agents, Wed Nov 11 2026. No macro, syntax, notation, axiom, sorry.
-/
import Derived.Test.YtppbpgmdmiajcaaGreatChecked
import GoSem.Claim
import GoSem.ClaimJoined
import GoSem.ClaimMapViews
import Derived.JoinedTies
import Derived.KernelRfl
namespace Go.Proofs.YtppbpgmdmiajcaaGreat
/- THE CELL 'sum', in the pinned program and in every row, IS THE sha256 OF THE DUMP (.gsa) THAT YtppbpgmdmiajcaaGreatProg.lean LOADS. Nothing in Lean hashes anything: it is a label: what it is worth is what the hold of that sum in a sandbox is worth. -/
noncomputable def Tryz.pinned : Pinned := { name := "ytppbpgmdmiajcaagreat", sum := "c17d79ed6d7f07984a0c93b1f81cf9a1609ad99108953c81fd171f2444e5ba50", checked := Tryz.checked }
namespace Rows
def none {H : Type} : Left H := { results := [], args := [] }

/-- 'syndromelaw.CyclicSays': WHATEVER THE INPUT: true; the input reads as it did. -/
def cyclicSaysSpec : ChangeSpec := { name := "cyclicSays", fn := fun _ => fun
  | [d1, d2, d3, d4, d5, d6] => { results := [.lit (.bool true)], args := [d1, d2, d3, d4, d5, d6] }
  | _ => none }
def cyclicSaysRow : OpenClaim := { program := "ytppbpgmdmiajcaagreat", sum := "c17d79ed6d7f07984a0c93b1f81cf9a1609ad99108953c81fd171f2444e5ba50", func := "syndrome/syndromelaw.CyclicSays", spec := "cyclicSays", inPlace := ["sync/atomic.LoadUint32", "(*internal/sync.Mutex).Lock", "internal/race.Disable", "sync/atomic.CompareAndSwapInt32", "internal/race.Enable", "internal/race.Acquire", "(*internal/sync.Mutex).lockSlow", "internal/sync.runtime_canSpin", "internal/sync.runtime_doSpin", "internal/sync.throw", "internal/sync.runtime_nanotime", "internal/sync.runtime_SemacquireMutex", "sync/atomic.AddInt32", "(*internal/sync.Mutex).Unlock", "internal/race.ReleaseMerge", "(*internal/sync.Mutex).unlockSlow", "internal/sync.fatal", "internal/sync.runtime_Semrelease", "sync/atomic.StoreUint32"], unfollowed := true, recurses := true, apart := false }
def CyclicSaysSaid : Prop := cyclicSaysRow.holds Tryz.pinned (OpenSpec.ofChange cyclicSaysSpec)

/-- ITS FALSE NEIGHBOUR: 'it returns false'. Refute it at one input. -/
def cyclicSaysWrong : ChangeSpec := { name := "cyclicSays", fn := fun _ => fun
  | [d1, d2, d3, d4, d5, d6] => { results := [.lit (.bool false)], args := [d1, d2, d3, d4, d5, d6] }
  | _ => none }
def CyclicSaysWrongFalsely : Prop := cyclicSaysRow.holds Tryz.pinned (OpenSpec.ofChange cyclicSaysWrong)

/-- 'syndromelaw.CyclicMade': WHATEVER THE INPUT: true; the input reads as it did. -/
def cyclicMadeSpec : ChangeSpec := { name := "cyclicMade", fn := fun _ => fun
  | [d1, d2, d3, d4, d5] => { results := [.lit (.bool true)], args := [d1, d2, d3, d4, d5] }
  | _ => none }
def cyclicMadeRow : OpenClaim := { program := "ytppbpgmdmiajcaagreat", sum := "c17d79ed6d7f07984a0c93b1f81cf9a1609ad99108953c81fd171f2444e5ba50", func := "syndrome/syndromelaw.CyclicMade", spec := "cyclicMade", inPlace := ["sync/atomic.LoadUint32", "(*internal/sync.Mutex).Lock", "internal/race.Disable", "sync/atomic.CompareAndSwapInt32", "internal/race.Enable", "internal/race.Acquire", "(*internal/sync.Mutex).lockSlow", "internal/sync.runtime_canSpin", "internal/sync.runtime_doSpin", "internal/sync.throw", "internal/sync.runtime_nanotime", "internal/sync.runtime_SemacquireMutex", "sync/atomic.AddInt32", "(*internal/sync.Mutex).Unlock", "internal/race.ReleaseMerge", "(*internal/sync.Mutex).unlockSlow", "internal/sync.fatal", "internal/sync.runtime_Semrelease", "sync/atomic.StoreUint32"], unfollowed := true, recurses := true, apart := false }
def CyclicMadeSaid : Prop := cyclicMadeRow.holds Tryz.pinned (OpenSpec.ofChange cyclicMadeSpec)

/-- ITS FALSE NEIGHBOUR: 'it returns false'. Refute it at one input. -/
def cyclicMadeWrong : ChangeSpec := { name := "cyclicMade", fn := fun _ => fun
  | [d1, d2, d3, d4, d5] => { results := [.lit (.bool false)], args := [d1, d2, d3, d4, d5] }
  | _ => none }
def CyclicMadeWrongFalsely : Prop := cyclicMadeRow.holds Tryz.pinned (OpenSpec.ofChange cyclicMadeWrong)

/-- 'syndrometop.TopTurned': WHATEVER THE INPUT: true; the input reads as it did. -/
def topTurnedSpec : ChangeSpec := { name := "topTurned", fn := fun _ => fun
  | [d1, d2, d3, d4] => { results := [.lit (.bool true)], args := [d1, d2, d3, d4] }
  | _ => none }
def topTurnedRow : OpenClaim := { program := "ytppbpgmdmiajcaagreat", sum := "c17d79ed6d7f07984a0c93b1f81cf9a1609ad99108953c81fd171f2444e5ba50", func := "syndrome/syndrometop.TopTurned", spec := "topTurned", inPlace := ["sync/atomic.LoadUint32", "(*internal/sync.Mutex).Lock", "internal/race.Disable", "sync/atomic.CompareAndSwapInt32", "internal/race.Enable", "internal/race.Acquire", "(*internal/sync.Mutex).lockSlow", "internal/sync.runtime_canSpin", "internal/sync.runtime_doSpin", "internal/sync.throw", "internal/sync.runtime_nanotime", "internal/sync.runtime_SemacquireMutex", "sync/atomic.AddInt32", "(*internal/sync.Mutex).Unlock", "internal/race.ReleaseMerge", "(*internal/sync.Mutex).unlockSlow", "internal/sync.fatal", "internal/sync.runtime_Semrelease", "sync/atomic.StoreUint32"], unfollowed := true, recurses := true, apart := false }
def TopTurnedSaid : Prop := topTurnedRow.holds Tryz.pinned (OpenSpec.ofChange topTurnedSpec)

/-- ITS FALSE NEIGHBOUR: 'it returns false'. Refute it at one input. -/
def topTurnedWrong : ChangeSpec := { name := "topTurned", fn := fun _ => fun
  | [d1, d2, d3, d4] => { results := [.lit (.bool false)], args := [d1, d2, d3, d4] }
  | _ => none }
def TopTurnedWrongFalsely : Prop := topTurnedRow.holds Tryz.pinned (OpenSpec.ofChange topTurnedWrong)

/-- 'syndrometop.TopBCH': WHATEVER THE INPUT: true; the input reads as it did. -/
def topBCHSpec : ChangeSpec := { name := "topBCH", fn := fun _ => fun
  | [d1, d2, d3] => { results := [.lit (.bool true)], args := [d1, d2, d3] }
  | _ => none }
def topBCHRow : OpenClaim := { program := "ytppbpgmdmiajcaagreat", sum := "c17d79ed6d7f07984a0c93b1f81cf9a1609ad99108953c81fd171f2444e5ba50", func := "syndrome/syndrometop.TopBCH", spec := "topBCH", inPlace := ["sync/atomic.LoadUint32", "(*internal/sync.Mutex).Lock", "internal/race.Disable", "sync/atomic.CompareAndSwapInt32", "internal/race.Enable", "internal/race.Acquire", "(*internal/sync.Mutex).lockSlow", "internal/sync.runtime_canSpin", "internal/sync.runtime_doSpin", "internal/sync.throw", "internal/sync.runtime_nanotime", "internal/sync.runtime_SemacquireMutex", "sync/atomic.AddInt32", "(*internal/sync.Mutex).Unlock", "internal/race.ReleaseMerge", "(*internal/sync.Mutex).unlockSlow", "internal/sync.fatal", "internal/sync.runtime_Semrelease", "sync/atomic.StoreUint32"], unfollowed := true, recurses := true, apart := false }
def TopBCHSaid : Prop := topBCHRow.holds Tryz.pinned (OpenSpec.ofChange topBCHSpec)

/-- ITS FALSE NEIGHBOUR: 'it returns false'. Refute it at one input. -/
def topBCHWrong : ChangeSpec := { name := "topBCH", fn := fun _ => fun
  | [d1, d2, d3] => { results := [.lit (.bool false)], args := [d1, d2, d3] }
  | _ => none }
def TopBCHWrongFalsely : Prop := topBCHRow.holds Tryz.pinned (OpenSpec.ofChange topBCHWrong)

/-- 'syndromelaw.GolayBlocks': WHATEVER THE INPUT: true; the input reads as it did. -/
def golayBlocksSpec : ChangeSpec := { name := "golayBlocks", fn := fun _ => fun
  | [d1, d2, d3] => { results := [.lit (.bool true)], args := [d1, d2, d3] }
  | _ => none }
def golayBlocksRow : OpenClaim := { program := "ytppbpgmdmiajcaagreat", sum := "c17d79ed6d7f07984a0c93b1f81cf9a1609ad99108953c81fd171f2444e5ba50", func := "syndrome/syndromelaw.GolayBlocks", spec := "golayBlocks", inPlace := ["sync/atomic.LoadUint32", "(*internal/sync.Mutex).Lock", "internal/race.Disable", "sync/atomic.CompareAndSwapInt32", "internal/race.Enable", "internal/race.Acquire", "(*internal/sync.Mutex).lockSlow", "internal/sync.runtime_canSpin", "internal/sync.runtime_doSpin", "internal/sync.throw", "internal/sync.runtime_nanotime", "internal/sync.runtime_SemacquireMutex", "sync/atomic.AddInt32", "(*internal/sync.Mutex).Unlock", "internal/race.ReleaseMerge", "(*internal/sync.Mutex).unlockSlow", "internal/sync.fatal", "internal/sync.runtime_Semrelease", "sync/atomic.StoreUint32"], unfollowed := true, recurses := true, apart := false }
def GolayBlocksSaid : Prop := golayBlocksRow.holds Tryz.pinned (OpenSpec.ofChange golayBlocksSpec)

/-- ITS FALSE NEIGHBOUR: 'it returns false'. Refute it at one input. -/
def golayBlocksWrong : ChangeSpec := { name := "golayBlocks", fn := fun _ => fun
  | [d1, d2, d3] => { results := [.lit (.bool false)], args := [d1, d2, d3] }
  | _ => none }
def GolayBlocksWrongFalsely : Prop := golayBlocksRow.holds Tryz.pinned (OpenSpec.ofChange golayBlocksWrong)

/-- 'syndromelaw.GolayMade': WHATEVER THE INPUT: true; the input reads as it did. -/
def golayMadeSpec : ChangeSpec := { name := "golayMade", fn := fun _ => fun
  | [d1, d2, d3, d4, d5, d6] => { results := [.lit (.bool true)], args := [d1, d2, d3, d4, d5, d6] }
  | _ => none }
def golayMadeRow : OpenClaim := { program := "ytppbpgmdmiajcaagreat", sum := "c17d79ed6d7f07984a0c93b1f81cf9a1609ad99108953c81fd171f2444e5ba50", func := "syndrome/syndromelaw.GolayMade", spec := "golayMade", inPlace := ["sync/atomic.LoadUint32", "(*internal/sync.Mutex).Lock", "internal/race.Disable", "sync/atomic.CompareAndSwapInt32", "internal/race.Enable", "internal/race.Acquire", "(*internal/sync.Mutex).lockSlow", "internal/sync.runtime_canSpin", "internal/sync.runtime_doSpin", "internal/sync.throw", "internal/sync.runtime_nanotime", "internal/sync.runtime_SemacquireMutex", "sync/atomic.AddInt32", "(*internal/sync.Mutex).Unlock", "internal/race.ReleaseMerge", "(*internal/sync.Mutex).unlockSlow", "internal/sync.fatal", "internal/sync.runtime_Semrelease", "sync/atomic.StoreUint32"], unfollowed := true, recurses := true, apart := false }
def GolayMadeSaid : Prop := golayMadeRow.holds Tryz.pinned (OpenSpec.ofChange golayMadeSpec)

/-- ITS FALSE NEIGHBOUR: 'it returns false'. Refute it at one input. -/
def golayMadeWrong : ChangeSpec := { name := "golayMade", fn := fun _ => fun
  | [d1, d2, d3, d4, d5, d6] => { results := [.lit (.bool false)], args := [d1, d2, d3, d4, d5, d6] }
  | _ => none }
def GolayMadeWrongFalsely : Prop := golayMadeRow.holds Tryz.pinned (OpenSpec.ofChange golayMadeWrong)

/-- 'syndrometop.TopDesigns': WHATEVER THE INPUT: true; the input reads as it did. -/
def topDesignsSpec : ChangeSpec := { name := "topDesigns", fn := fun _ => fun
  | [d] => { results := [.lit (.bool true)], args := [d] }
  | _ => none }
def topDesignsRow : OpenClaim := { program := "ytppbpgmdmiajcaagreat", sum := "c17d79ed6d7f07984a0c93b1f81cf9a1609ad99108953c81fd171f2444e5ba50", func := "syndrome/syndrometop.TopDesigns", spec := "topDesigns", inPlace := ["sync/atomic.LoadUint32", "(*internal/sync.Mutex).Lock", "internal/race.Disable", "sync/atomic.CompareAndSwapInt32", "internal/race.Enable", "internal/race.Acquire", "(*internal/sync.Mutex).lockSlow", "internal/sync.runtime_canSpin", "internal/sync.runtime_doSpin", "internal/sync.throw", "internal/sync.runtime_nanotime", "internal/sync.runtime_SemacquireMutex", "sync/atomic.AddInt32", "(*internal/sync.Mutex).Unlock", "internal/race.ReleaseMerge", "(*internal/sync.Mutex).unlockSlow", "internal/sync.fatal", "internal/sync.runtime_Semrelease", "sync/atomic.StoreUint32"], unfollowed := true, recurses := true, apart := false }
def TopDesignsSaid : Prop := topDesignsRow.holds Tryz.pinned (OpenSpec.ofChange topDesignsSpec)

/-- ITS FALSE NEIGHBOUR: 'it returns false'. Refute it at one input. -/
def topDesignsWrong : ChangeSpec := { name := "topDesigns", fn := fun _ => fun
  | [d] => { results := [.lit (.bool false)], args := [d] }
  | _ => none }
def TopDesignsWrongFalsely : Prop := topDesignsRow.holds Tryz.pinned (OpenSpec.ofChange topDesignsWrong)

/- THE SECOND FORM. 'bulk': how many values and letters a reading holds, each counted each time it is reached (what is shared counts as often as it is met; a slice's spare places count too). A statement '..UptoSaid' is the law's where the arguments, and the package variables that the reading takes, are together of bulk at most 1048576: NARROWER than '..Said'. Prove '..Said' where nothing that the law and all that it calls make is longer than what came in: it says more and counts as full. Else prove '..UptoSaid'. A law counts once. -/
mutual
def uptoBulk {H : Type} : DataW H → Nat
  | .lit (.string bytes) => bytes.length + 1
  | .lit _ => 1
  | .nil => 1
  | .ptr d => uptoBulk d + 1
  | .slice elems spare => uptoBulkAll elems + uptoBulkAll spare + 1
  | .agg parts => uptoBulkAll parts + 1
  | .iface _ d => uptoBulk d + 1
  | .map entries => uptoBulkEntries entries + 1
  | .held _ => 1
def uptoBulkAll {H : Type} : List (DataW H) → Nat
  | [] => 0
  | d :: r => uptoBulk d + uptoBulkAll r
def uptoBulkEntries {H : Type} : List (Lit × DataW H) → Nat
  | [] => 0
  | x :: r => uptoBulkEntry x + uptoBulkEntries r
def uptoBulkEntry {H : Type} : Lit × DataW H → Nat
  | (.string bytes, d) => bytes.length + uptoBulk d + 1
  | (_, d) => uptoBulk d + 1
 end
def uptoSmall : (H : Type) → List (DataW H) → Bool := fun _ ds => decide (uptoBulkAll ds ≤ 1048576)
def OpenSpec.upto (s : _root_.Go.ChangeSpec) : _root_.Go.OpenSpec := { _root_.Go.OpenSpec.ofChange s with cond := some uptoSmall }

/-- 'syndromelaw.CyclicSays', WHERE WHAT IT READS IS OF BULK AT MOST 1048576: true; the input reads as it did. -/
def cyclicSaysUptoRow : OpenClaim := { program := "ytppbpgmdmiajcaagreat", sum := "c17d79ed6d7f07984a0c93b1f81cf9a1609ad99108953c81fd171f2444e5ba50", func := "syndrome/syndromelaw.CyclicSays", spec := "cyclicSays", inPlace := ["sync/atomic.LoadUint32", "(*internal/sync.Mutex).Lock", "internal/race.Disable", "sync/atomic.CompareAndSwapInt32", "internal/race.Enable", "internal/race.Acquire", "(*internal/sync.Mutex).lockSlow", "internal/sync.runtime_canSpin", "internal/sync.runtime_doSpin", "internal/sync.throw", "internal/sync.runtime_nanotime", "internal/sync.runtime_SemacquireMutex", "sync/atomic.AddInt32", "(*internal/sync.Mutex).Unlock", "internal/race.ReleaseMerge", "(*internal/sync.Mutex).unlockSlow", "internal/sync.fatal", "internal/sync.runtime_Semrelease", "sync/atomic.StoreUint32"], unfollowed := true, recurses := true, apart := false, narrowed := true }
def CyclicSaysUptoSaid : Prop := cyclicSaysUptoRow.holds Tryz.pinned (OpenSpec.upto cyclicSaysSpec)

/-- 'syndromelaw.CyclicMade', WHERE WHAT IT READS IS OF BULK AT MOST 1048576: true; the input reads as it did. -/
def cyclicMadeUptoRow : OpenClaim := { program := "ytppbpgmdmiajcaagreat", sum := "c17d79ed6d7f07984a0c93b1f81cf9a1609ad99108953c81fd171f2444e5ba50", func := "syndrome/syndromelaw.CyclicMade", spec := "cyclicMade", inPlace := ["sync/atomic.LoadUint32", "(*internal/sync.Mutex).Lock", "internal/race.Disable", "sync/atomic.CompareAndSwapInt32", "internal/race.Enable", "internal/race.Acquire", "(*internal/sync.Mutex).lockSlow", "internal/sync.runtime_canSpin", "internal/sync.runtime_doSpin", "internal/sync.throw", "internal/sync.runtime_nanotime", "internal/sync.runtime_SemacquireMutex", "sync/atomic.AddInt32", "(*internal/sync.Mutex).Unlock", "internal/race.ReleaseMerge", "(*internal/sync.Mutex).unlockSlow", "internal/sync.fatal", "internal/sync.runtime_Semrelease", "sync/atomic.StoreUint32"], unfollowed := true, recurses := true, apart := false, narrowed := true }
def CyclicMadeUptoSaid : Prop := cyclicMadeUptoRow.holds Tryz.pinned (OpenSpec.upto cyclicMadeSpec)

/-- 'syndrometop.TopTurned', WHERE WHAT IT READS IS OF BULK AT MOST 1048576: true; the input reads as it did. -/
def topTurnedUptoRow : OpenClaim := { program := "ytppbpgmdmiajcaagreat", sum := "c17d79ed6d7f07984a0c93b1f81cf9a1609ad99108953c81fd171f2444e5ba50", func := "syndrome/syndrometop.TopTurned", spec := "topTurned", inPlace := ["sync/atomic.LoadUint32", "(*internal/sync.Mutex).Lock", "internal/race.Disable", "sync/atomic.CompareAndSwapInt32", "internal/race.Enable", "internal/race.Acquire", "(*internal/sync.Mutex).lockSlow", "internal/sync.runtime_canSpin", "internal/sync.runtime_doSpin", "internal/sync.throw", "internal/sync.runtime_nanotime", "internal/sync.runtime_SemacquireMutex", "sync/atomic.AddInt32", "(*internal/sync.Mutex).Unlock", "internal/race.ReleaseMerge", "(*internal/sync.Mutex).unlockSlow", "internal/sync.fatal", "internal/sync.runtime_Semrelease", "sync/atomic.StoreUint32"], unfollowed := true, recurses := true, apart := false, narrowed := true }
def TopTurnedUptoSaid : Prop := topTurnedUptoRow.holds Tryz.pinned (OpenSpec.upto topTurnedSpec)

/-- 'syndrometop.TopBCH', WHERE WHAT IT READS IS OF BULK AT MOST 1048576: true; the input reads as it did. -/
def topBCHUptoRow : OpenClaim := { program := "ytppbpgmdmiajcaagreat", sum := "c17d79ed6d7f07984a0c93b1f81cf9a1609ad99108953c81fd171f2444e5ba50", func := "syndrome/syndrometop.TopBCH", spec := "topBCH", inPlace := ["sync/atomic.LoadUint32", "(*internal/sync.Mutex).Lock", "internal/race.Disable", "sync/atomic.CompareAndSwapInt32", "internal/race.Enable", "internal/race.Acquire", "(*internal/sync.Mutex).lockSlow", "internal/sync.runtime_canSpin", "internal/sync.runtime_doSpin", "internal/sync.throw", "internal/sync.runtime_nanotime", "internal/sync.runtime_SemacquireMutex", "sync/atomic.AddInt32", "(*internal/sync.Mutex).Unlock", "internal/race.ReleaseMerge", "(*internal/sync.Mutex).unlockSlow", "internal/sync.fatal", "internal/sync.runtime_Semrelease", "sync/atomic.StoreUint32"], unfollowed := true, recurses := true, apart := false, narrowed := true }
def TopBCHUptoSaid : Prop := topBCHUptoRow.holds Tryz.pinned (OpenSpec.upto topBCHSpec)

/-- 'syndromelaw.GolayBlocks', WHERE WHAT IT READS IS OF BULK AT MOST 1048576: true; the input reads as it did. -/
def golayBlocksUptoRow : OpenClaim := { program := "ytppbpgmdmiajcaagreat", sum := "c17d79ed6d7f07984a0c93b1f81cf9a1609ad99108953c81fd171f2444e5ba50", func := "syndrome/syndromelaw.GolayBlocks", spec := "golayBlocks", inPlace := ["sync/atomic.LoadUint32", "(*internal/sync.Mutex).Lock", "internal/race.Disable", "sync/atomic.CompareAndSwapInt32", "internal/race.Enable", "internal/race.Acquire", "(*internal/sync.Mutex).lockSlow", "internal/sync.runtime_canSpin", "internal/sync.runtime_doSpin", "internal/sync.throw", "internal/sync.runtime_nanotime", "internal/sync.runtime_SemacquireMutex", "sync/atomic.AddInt32", "(*internal/sync.Mutex).Unlock", "internal/race.ReleaseMerge", "(*internal/sync.Mutex).unlockSlow", "internal/sync.fatal", "internal/sync.runtime_Semrelease", "sync/atomic.StoreUint32"], unfollowed := true, recurses := true, apart := false, narrowed := true }
def GolayBlocksUptoSaid : Prop := golayBlocksUptoRow.holds Tryz.pinned (OpenSpec.upto golayBlocksSpec)

/-- 'syndromelaw.GolayMade', WHERE WHAT IT READS IS OF BULK AT MOST 1048576: true; the input reads as it did. -/
def golayMadeUptoRow : OpenClaim := { program := "ytppbpgmdmiajcaagreat", sum := "c17d79ed6d7f07984a0c93b1f81cf9a1609ad99108953c81fd171f2444e5ba50", func := "syndrome/syndromelaw.GolayMade", spec := "golayMade", inPlace := ["sync/atomic.LoadUint32", "(*internal/sync.Mutex).Lock", "internal/race.Disable", "sync/atomic.CompareAndSwapInt32", "internal/race.Enable", "internal/race.Acquire", "(*internal/sync.Mutex).lockSlow", "internal/sync.runtime_canSpin", "internal/sync.runtime_doSpin", "internal/sync.throw", "internal/sync.runtime_nanotime", "internal/sync.runtime_SemacquireMutex", "sync/atomic.AddInt32", "(*internal/sync.Mutex).Unlock", "internal/race.ReleaseMerge", "(*internal/sync.Mutex).unlockSlow", "internal/sync.fatal", "internal/sync.runtime_Semrelease", "sync/atomic.StoreUint32"], unfollowed := true, recurses := true, apart := false, narrowed := true }
def GolayMadeUptoSaid : Prop := golayMadeUptoRow.holds Tryz.pinned (OpenSpec.upto golayMadeSpec)

/-- 'syndrometop.TopDesigns', WHERE WHAT IT READS IS OF BULK AT MOST 1048576: true; the input reads as it did. -/
def topDesignsUptoRow : OpenClaim := { program := "ytppbpgmdmiajcaagreat", sum := "c17d79ed6d7f07984a0c93b1f81cf9a1609ad99108953c81fd171f2444e5ba50", func := "syndrome/syndrometop.TopDesigns", spec := "topDesigns", inPlace := ["sync/atomic.LoadUint32", "(*internal/sync.Mutex).Lock", "internal/race.Disable", "sync/atomic.CompareAndSwapInt32", "internal/race.Enable", "internal/race.Acquire", "(*internal/sync.Mutex).lockSlow", "internal/sync.runtime_canSpin", "internal/sync.runtime_doSpin", "internal/sync.throw", "internal/sync.runtime_nanotime", "internal/sync.runtime_SemacquireMutex", "sync/atomic.AddInt32", "(*internal/sync.Mutex).Unlock", "internal/race.ReleaseMerge", "(*internal/sync.Mutex).unlockSlow", "internal/sync.fatal", "internal/sync.runtime_Semrelease", "sync/atomic.StoreUint32"], unfollowed := true, recurses := true, apart := false, narrowed := true }
def TopDesignsUptoSaid : Prop := topDesignsUptoRow.holds Tryz.pinned (OpenSpec.upto topDesignsSpec)

end Rows
end Go.Proofs.YtppbpgmdmiajcaaGreat
