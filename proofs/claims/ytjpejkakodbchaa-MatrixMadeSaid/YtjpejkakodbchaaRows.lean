/-
  No cell of these rows narrows 'for every input' (looked for: loops, veiled, ifaces, maps, wideKeys, modest, calm, conditions, laid).
  DERIVED. THE GIVEN ROWS OF THIS SEAT. 11 by the template 'for every input the law returns true; each argument reads behind the call as it read before'; 0 by the template 'total and deterministic' (their statements: YtjpejkakodbchaaTotals.lean).
  GIVEN WITH THE SEED: the statements are not yours to turn. If you find one false, say at which input.
  Laid BY PROGRAM, IN A SANDBOX (cutbox-rows.mjs): the forced cells as the released guide's own fill.sh prints them over the translation c1915e87fcab523a… (all of the seat's roots in one cut). By AI agents, Wed Nov 11 2026. No macro, syntax, notation, axiom, sorry.
-/
import Derived.Test.YtjpejkakodbchaaChecked
import GoSem.Claim
import GoSem.ClaimJoined
import GoSem.ClaimMapViews
import Derived.JoinedTies
import Derived.KernelRfl
namespace Go.Proofs.Ytjpejkakodbchaa
/- THE CELL 'sum', in the pinned program and in every row, IS THE sha256 OF THE DUMP (.gsa) THAT YtjpejkakodbchaaProg.lean LOADS. Nothing in Lean hashes anything: it is a label: what it is worth is what the hold of that sum in a sandbox is worth. -/
noncomputable def Try.pinned : Pinned := { name := "ytjpejkakodbchaa", sum := "c1915e87fcab523aa937bc1d013871e366935e027ad2920168db251ab94d1be3", checked := Try.checked }
namespace Rows
def none {H : Type} : Left H := { results := [], args := [] }

/-- 'syndromelaw.MatrixSays': WHATEVER THE INPUT: true; the input reads as it did. -/
def matrixSaysSpec : ChangeSpec := { name := "matrixSays", fn := fun _ => fun
  | [d1, d2, d3, d4] => { results := [.lit (.bool true)], args := [d1, d2, d3, d4] }
  | _ => none }
def matrixSaysRow : OpenClaim := { program := "ytjpejkakodbchaa", sum := "c1915e87fcab523aa937bc1d013871e366935e027ad2920168db251ab94d1be3", func := "syndrome/syndromelaw.MatrixSays", spec := "matrixSays", inPlace := ["sync/atomic.LoadUint32", "(*internal/sync.Mutex).Lock", "internal/race.Disable", "sync/atomic.CompareAndSwapInt32", "internal/race.Enable", "internal/race.Acquire", "(*internal/sync.Mutex).lockSlow", "internal/sync.runtime_canSpin", "internal/sync.runtime_doSpin", "internal/sync.throw", "internal/sync.runtime_nanotime", "internal/sync.runtime_SemacquireMutex", "sync/atomic.AddInt32", "(*internal/sync.Mutex).Unlock", "internal/race.ReleaseMerge", "(*internal/sync.Mutex).unlockSlow", "internal/sync.fatal", "internal/sync.runtime_Semrelease", "sync/atomic.StoreUint32"], unfollowed := true, recurses := true, apart := false }
def MatrixSaysSaid : Prop := matrixSaysRow.holds Try.pinned (OpenSpec.ofChange matrixSaysSpec)

/-- ITS FALSE NEIGHBOUR: 'it returns false'. Refute it at one input. -/
def matrixSaysWrong : ChangeSpec := { name := "matrixSays", fn := fun _ => fun
  | [d1, d2, d3, d4] => { results := [.lit (.bool false)], args := [d1, d2, d3, d4] }
  | _ => none }
def MatrixSaysWrongFalsely : Prop := matrixSaysRow.holds Try.pinned (OpenSpec.ofChange matrixSaysWrong)

/-- 'syndromelaw.MatrixMade': WHATEVER THE INPUT: true; the input reads as it did. -/
def matrixMadeSpec : ChangeSpec := { name := "matrixMade", fn := fun _ => fun
  | [d1, d2, d3, d4, d5] => { results := [.lit (.bool true)], args := [d1, d2, d3, d4, d5] }
  | _ => none }
def matrixMadeRow : OpenClaim := { program := "ytjpejkakodbchaa", sum := "c1915e87fcab523aa937bc1d013871e366935e027ad2920168db251ab94d1be3", func := "syndrome/syndromelaw.MatrixMade", spec := "matrixMade", inPlace := ["sync/atomic.LoadUint32", "(*internal/sync.Mutex).Lock", "internal/race.Disable", "sync/atomic.CompareAndSwapInt32", "internal/race.Enable", "internal/race.Acquire", "(*internal/sync.Mutex).lockSlow", "internal/sync.runtime_canSpin", "internal/sync.runtime_doSpin", "internal/sync.throw", "internal/sync.runtime_nanotime", "internal/sync.runtime_SemacquireMutex", "sync/atomic.AddInt32", "(*internal/sync.Mutex).Unlock", "internal/race.ReleaseMerge", "(*internal/sync.Mutex).unlockSlow", "internal/sync.fatal", "internal/sync.runtime_Semrelease", "sync/atomic.StoreUint32"], unfollowed := true, recurses := true, apart := false }
def MatrixMadeSaid : Prop := matrixMadeRow.holds Try.pinned (OpenSpec.ofChange matrixMadeSpec)

/-- ITS FALSE NEIGHBOUR: 'it returns false'. Refute it at one input. -/
def matrixMadeWrong : ChangeSpec := { name := "matrixMade", fn := fun _ => fun
  | [d1, d2, d3, d4, d5] => { results := [.lit (.bool false)], args := [d1, d2, d3, d4, d5] }
  | _ => none }
def MatrixMadeWrongFalsely : Prop := matrixMadeRow.holds Try.pinned (OpenSpec.ofChange matrixMadeWrong)

/-- 'syndromelaw.CodePairs': WHATEVER THE INPUT: true; the input reads as it did. -/
def codePairsSpec : ChangeSpec := { name := "codePairs", fn := fun _ => fun
  | [d1, d2] => { results := [.lit (.bool true)], args := [d1, d2] }
  | _ => none }
def codePairsRow : OpenClaim := { program := "ytjpejkakodbchaa", sum := "c1915e87fcab523aa937bc1d013871e366935e027ad2920168db251ab94d1be3", func := "syndrome/syndromelaw.CodePairs", spec := "codePairs", inPlace := ["sync/atomic.LoadUint32", "(*internal/sync.Mutex).Lock", "internal/race.Disable", "sync/atomic.CompareAndSwapInt32", "internal/race.Enable", "internal/race.Acquire", "(*internal/sync.Mutex).lockSlow", "internal/sync.runtime_canSpin", "internal/sync.runtime_doSpin", "internal/sync.throw", "internal/sync.runtime_nanotime", "internal/sync.runtime_SemacquireMutex", "sync/atomic.AddInt32", "(*internal/sync.Mutex).Unlock", "internal/race.ReleaseMerge", "(*internal/sync.Mutex).unlockSlow", "internal/sync.fatal", "internal/sync.runtime_Semrelease", "sync/atomic.StoreUint32"], unfollowed := true, recurses := true, apart := false }
def CodePairsSaid : Prop := codePairsRow.holds Try.pinned (OpenSpec.ofChange codePairsSpec)

/-- ITS FALSE NEIGHBOUR: 'it returns false'. Refute it at one input. -/
def codePairsWrong : ChangeSpec := { name := "codePairs", fn := fun _ => fun
  | [d1, d2] => { results := [.lit (.bool false)], args := [d1, d2] }
  | _ => none }
def CodePairsWrongFalsely : Prop := codePairsRow.holds Try.pinned (OpenSpec.ofChange codePairsWrong)

/-- 'syndromelaw.NetSends': WHATEVER THE INPUT: true; the input reads as it did. -/
def netSendsSpec : ChangeSpec := { name := "netSends", fn := fun _ => fun
  | [d1, d2, d3, d4, d5, d6] => { results := [.lit (.bool true)], args := [d1, d2, d3, d4, d5, d6] }
  | _ => none }
def netSendsRow : OpenClaim := { program := "ytjpejkakodbchaa", sum := "c1915e87fcab523aa937bc1d013871e366935e027ad2920168db251ab94d1be3", func := "syndrome/syndromelaw.NetSends", spec := "netSends", inPlace := ["sync/atomic.LoadUint32", "(*internal/sync.Mutex).Lock", "internal/race.Disable", "sync/atomic.CompareAndSwapInt32", "internal/race.Enable", "internal/race.Acquire", "(*internal/sync.Mutex).lockSlow", "internal/sync.runtime_canSpin", "internal/sync.runtime_doSpin", "internal/sync.throw", "internal/sync.runtime_nanotime", "internal/sync.runtime_SemacquireMutex", "sync/atomic.AddInt32", "(*internal/sync.Mutex).Unlock", "internal/race.ReleaseMerge", "(*internal/sync.Mutex).unlockSlow", "internal/sync.fatal", "internal/sync.runtime_Semrelease", "sync/atomic.StoreUint32"], unfollowed := true, recurses := true, apart := false }
def NetSendsSaid : Prop := netSendsRow.holds Try.pinned (OpenSpec.ofChange netSendsSpec)

/-- ITS FALSE NEIGHBOUR: 'it returns false'. Refute it at one input. -/
def netSendsWrong : ChangeSpec := { name := "netSends", fn := fun _ => fun
  | [d1, d2, d3, d4, d5, d6] => { results := [.lit (.bool false)], args := [d1, d2, d3, d4, d5, d6] }
  | _ => none }
def NetSendsWrongFalsely : Prop := netSendsRow.holds Try.pinned (OpenSpec.ofChange netSendsWrong)

/-- 'syndromelaw.NetSendsMade': WHATEVER THE INPUT: true; the input reads as it did. -/
def netSendsMadeSpec : ChangeSpec := { name := "netSendsMade", fn := fun _ => fun
  | [d1, d2, d3, d4, d5, d6, d7] => { results := [.lit (.bool true)], args := [d1, d2, d3, d4, d5, d6, d7] }
  | _ => none }
def netSendsMadeRow : OpenClaim := { program := "ytjpejkakodbchaa", sum := "c1915e87fcab523aa937bc1d013871e366935e027ad2920168db251ab94d1be3", func := "syndrome/syndromelaw.NetSendsMade", spec := "netSendsMade", inPlace := ["sync/atomic.LoadUint32", "(*internal/sync.Mutex).Lock", "internal/race.Disable", "sync/atomic.CompareAndSwapInt32", "internal/race.Enable", "internal/race.Acquire", "(*internal/sync.Mutex).lockSlow", "internal/sync.runtime_canSpin", "internal/sync.runtime_doSpin", "internal/sync.throw", "internal/sync.runtime_nanotime", "internal/sync.runtime_SemacquireMutex", "sync/atomic.AddInt32", "(*internal/sync.Mutex).Unlock", "internal/race.ReleaseMerge", "(*internal/sync.Mutex).unlockSlow", "internal/sync.fatal", "internal/sync.runtime_Semrelease", "sync/atomic.StoreUint32"], unfollowed := true, recurses := true, apart := false }
def NetSendsMadeSaid : Prop := netSendsMadeRow.holds Try.pinned (OpenSpec.ofChange netSendsMadeSpec)

/-- ITS FALSE NEIGHBOUR: 'it returns false'. Refute it at one input. -/
def netSendsMadeWrong : ChangeSpec := { name := "netSendsMade", fn := fun _ => fun
  | [d1, d2, d3, d4, d5, d6, d7] => { results := [.lit (.bool false)], args := [d1, d2, d3, d4, d5, d6, d7] }
  | _ => none }
def NetSendsMadeWrongFalsely : Prop := netSendsMadeRow.holds Try.pinned (OpenSpec.ofChange netSendsMadeWrong)

/-- 'syndromelaw.MullerSays': WHATEVER THE INPUT: true; the input reads as it did. -/
def mullerSaysSpec : ChangeSpec := { name := "mullerSays", fn := fun _ => fun
  | [d1, d2, d3] => { results := [.lit (.bool true)], args := [d1, d2, d3] }
  | _ => none }
def mullerSaysRow : OpenClaim := { program := "ytjpejkakodbchaa", sum := "c1915e87fcab523aa937bc1d013871e366935e027ad2920168db251ab94d1be3", func := "syndrome/syndromelaw.MullerSays", spec := "mullerSays", inPlace := ["sync/atomic.LoadUint32", "(*internal/sync.Mutex).Lock", "internal/race.Disable", "sync/atomic.CompareAndSwapInt32", "internal/race.Enable", "internal/race.Acquire", "(*internal/sync.Mutex).lockSlow", "internal/sync.runtime_canSpin", "internal/sync.runtime_doSpin", "internal/sync.throw", "internal/sync.runtime_nanotime", "internal/sync.runtime_SemacquireMutex", "sync/atomic.AddInt32", "(*internal/sync.Mutex).Unlock", "internal/race.ReleaseMerge", "(*internal/sync.Mutex).unlockSlow", "internal/sync.fatal", "internal/sync.runtime_Semrelease", "sync/atomic.StoreUint32"], unfollowed := true, recurses := true, apart := false }
def MullerSaysSaid : Prop := mullerSaysRow.holds Try.pinned (OpenSpec.ofChange mullerSaysSpec)

/-- ITS FALSE NEIGHBOUR: 'it returns false'. Refute it at one input. -/
def mullerSaysWrong : ChangeSpec := { name := "mullerSays", fn := fun _ => fun
  | [d1, d2, d3] => { results := [.lit (.bool false)], args := [d1, d2, d3] }
  | _ => none }
def MullerSaysWrongFalsely : Prop := mullerSaysRow.holds Try.pinned (OpenSpec.ofChange mullerSaysWrong)

/-- 'syndromelaw.CodeCounts': WHATEVER THE INPUT: true; the input reads as it did. -/
def codeCountsSpec : ChangeSpec := { name := "codeCounts", fn := fun _ => fun
  | [d1, d2] => { results := [.lit (.bool true)], args := [d1, d2] }
  | _ => none }
def codeCountsRow : OpenClaim := { program := "ytjpejkakodbchaa", sum := "c1915e87fcab523aa937bc1d013871e366935e027ad2920168db251ab94d1be3", func := "syndrome/syndromelaw.CodeCounts", spec := "codeCounts", inPlace := ["sync/atomic.LoadUint32", "(*internal/sync.Mutex).Lock", "internal/race.Disable", "sync/atomic.CompareAndSwapInt32", "internal/race.Enable", "internal/race.Acquire", "(*internal/sync.Mutex).lockSlow", "internal/sync.runtime_canSpin", "internal/sync.runtime_doSpin", "internal/sync.throw", "internal/sync.runtime_nanotime", "internal/sync.runtime_SemacquireMutex", "sync/atomic.AddInt32", "(*internal/sync.Mutex).Unlock", "internal/race.ReleaseMerge", "(*internal/sync.Mutex).unlockSlow", "internal/sync.fatal", "internal/sync.runtime_Semrelease", "sync/atomic.StoreUint32"], unfollowed := true, recurses := true, apart := false }
def CodeCountsSaid : Prop := codeCountsRow.holds Try.pinned (OpenSpec.ofChange codeCountsSpec)

/-- ITS FALSE NEIGHBOUR: 'it returns false'. Refute it at one input. -/
def codeCountsWrong : ChangeSpec := { name := "codeCounts", fn := fun _ => fun
  | [d1, d2] => { results := [.lit (.bool false)], args := [d1, d2] }
  | _ => none }
def CodeCountsWrongFalsely : Prop := codeCountsRow.holds Try.pinned (OpenSpec.ofChange codeCountsWrong)

/-- 'syndromelaw.GolayIs': WHATEVER THE INPUT: true; the input reads as it did. -/
def golayIsSpec : ChangeSpec := { name := "golayIs", fn := fun _ => fun
  | [] => { results := [.lit (.bool true)], args := [] }
  | _ => none }
def golayIsRow : OpenClaim := { program := "ytjpejkakodbchaa", sum := "c1915e87fcab523aa937bc1d013871e366935e027ad2920168db251ab94d1be3", func := "syndrome/syndromelaw.GolayIs", spec := "golayIs", inPlace := ["sync/atomic.LoadUint32", "(*internal/sync.Mutex).Lock", "internal/race.Disable", "sync/atomic.CompareAndSwapInt32", "internal/race.Enable", "internal/race.Acquire", "(*internal/sync.Mutex).lockSlow", "internal/sync.runtime_canSpin", "internal/sync.runtime_doSpin", "internal/sync.throw", "internal/sync.runtime_nanotime", "internal/sync.runtime_SemacquireMutex", "sync/atomic.AddInt32", "(*internal/sync.Mutex).Unlock", "internal/race.ReleaseMerge", "(*internal/sync.Mutex).unlockSlow", "internal/sync.fatal", "internal/sync.runtime_Semrelease", "sync/atomic.StoreUint32"], unfollowed := true, recurses := true, apart := false }
def GolayIsSaid : Prop := golayIsRow.holds Try.pinned (OpenSpec.ofChange golayIsSpec)

/-- ITS FALSE NEIGHBOUR: 'it returns false'. Refute it at one input. -/
def golayIsWrong : ChangeSpec := { name := "golayIs", fn := fun _ => fun
  | [] => { results := [.lit (.bool false)], args := [] }
  | _ => none }
def GolayIsWrongFalsely : Prop := golayIsRow.holds Try.pinned (OpenSpec.ofChange golayIsWrong)

/-- 'syndrometop.TopMatrix': WHATEVER THE INPUT: true; the input reads as it did. -/
def topMatrixSpec : ChangeSpec := { name := "topMatrix", fn := fun _ => fun
  | [d1, d2, d3, d4] => { results := [.lit (.bool true)], args := [d1, d2, d3, d4] }
  | _ => none }
def topMatrixRow : OpenClaim := { program := "ytjpejkakodbchaa", sum := "c1915e87fcab523aa937bc1d013871e366935e027ad2920168db251ab94d1be3", func := "syndrome/syndrometop.TopMatrix", spec := "topMatrix", inPlace := ["sync/atomic.LoadUint32", "(*internal/sync.Mutex).Lock", "internal/race.Disable", "sync/atomic.CompareAndSwapInt32", "internal/race.Enable", "internal/race.Acquire", "(*internal/sync.Mutex).lockSlow", "internal/sync.runtime_canSpin", "internal/sync.runtime_doSpin", "internal/sync.throw", "internal/sync.runtime_nanotime", "internal/sync.runtime_SemacquireMutex", "sync/atomic.AddInt32", "(*internal/sync.Mutex).Unlock", "internal/race.ReleaseMerge", "(*internal/sync.Mutex).unlockSlow", "internal/sync.fatal", "internal/sync.runtime_Semrelease", "sync/atomic.StoreUint32"], unfollowed := true, recurses := true, apart := false }
def TopMatrixSaid : Prop := topMatrixRow.holds Try.pinned (OpenSpec.ofChange topMatrixSpec)

/-- ITS FALSE NEIGHBOUR: 'it returns false'. Refute it at one input. -/
def topMatrixWrong : ChangeSpec := { name := "topMatrix", fn := fun _ => fun
  | [d1, d2, d3, d4] => { results := [.lit (.bool false)], args := [d1, d2, d3, d4] }
  | _ => none }
def TopMatrixWrongFalsely : Prop := topMatrixRow.holds Try.pinned (OpenSpec.ofChange topMatrixWrong)

/-- 'syndrometop.TopDual': WHATEVER THE INPUT: true; the input reads as it did. -/
def topDualSpec : ChangeSpec := { name := "topDual", fn := fun _ => fun
  | [d1, d2, d3, d4, d5] => { results := [.lit (.bool true)], args := [d1, d2, d3, d4, d5] }
  | _ => none }
def topDualRow : OpenClaim := { program := "ytjpejkakodbchaa", sum := "c1915e87fcab523aa937bc1d013871e366935e027ad2920168db251ab94d1be3", func := "syndrome/syndrometop.TopDual", spec := "topDual", inPlace := ["sync/atomic.LoadUint32", "(*internal/sync.Mutex).Lock", "internal/race.Disable", "sync/atomic.CompareAndSwapInt32", "internal/race.Enable", "internal/race.Acquire", "(*internal/sync.Mutex).lockSlow", "internal/sync.runtime_canSpin", "internal/sync.runtime_doSpin", "internal/sync.throw", "internal/sync.runtime_nanotime", "internal/sync.runtime_SemacquireMutex", "sync/atomic.AddInt32", "(*internal/sync.Mutex).Unlock", "internal/race.ReleaseMerge", "(*internal/sync.Mutex).unlockSlow", "internal/sync.fatal", "internal/sync.runtime_Semrelease", "sync/atomic.StoreUint32"], unfollowed := true, recurses := true, apart := false }
def TopDualSaid : Prop := topDualRow.holds Try.pinned (OpenSpec.ofChange topDualSpec)

/-- ITS FALSE NEIGHBOUR: 'it returns false'. Refute it at one input. -/
def topDualWrong : ChangeSpec := { name := "topDual", fn := fun _ => fun
  | [d1, d2, d3, d4, d5] => { results := [.lit (.bool false)], args := [d1, d2, d3, d4, d5] }
  | _ => none }
def TopDualWrongFalsely : Prop := topDualRow.holds Try.pinned (OpenSpec.ofChange topDualWrong)

/-- 'syndrometop.TopSums': WHATEVER THE INPUT: true; the input reads as it did. -/
def topSumsSpec : ChangeSpec := { name := "topSums", fn := fun _ => fun
  | [d1, d2, d3, d4, d5] => { results := [.lit (.bool true)], args := [d1, d2, d3, d4, d5] }
  | _ => none }
def topSumsRow : OpenClaim := { program := "ytjpejkakodbchaa", sum := "c1915e87fcab523aa937bc1d013871e366935e027ad2920168db251ab94d1be3", func := "syndrome/syndrometop.TopSums", spec := "topSums", inPlace := ["sync/atomic.LoadUint32", "(*internal/sync.Mutex).Lock", "internal/race.Disable", "sync/atomic.CompareAndSwapInt32", "internal/race.Enable", "internal/race.Acquire", "(*internal/sync.Mutex).lockSlow", "internal/sync.runtime_canSpin", "internal/sync.runtime_doSpin", "internal/sync.throw", "internal/sync.runtime_nanotime", "internal/sync.runtime_SemacquireMutex", "sync/atomic.AddInt32", "(*internal/sync.Mutex).Unlock", "internal/race.ReleaseMerge", "(*internal/sync.Mutex).unlockSlow", "internal/sync.fatal", "internal/sync.runtime_Semrelease", "sync/atomic.StoreUint32"], unfollowed := true, recurses := true, apart := false }
def TopSumsSaid : Prop := topSumsRow.holds Try.pinned (OpenSpec.ofChange topSumsSpec)

/-- ITS FALSE NEIGHBOUR: 'it returns false'. Refute it at one input. -/
def topSumsWrong : ChangeSpec := { name := "topSums", fn := fun _ => fun
  | [d1, d2, d3, d4, d5] => { results := [.lit (.bool false)], args := [d1, d2, d3, d4, d5] }
  | _ => none }
def TopSumsWrongFalsely : Prop := topSumsRow.holds Try.pinned (OpenSpec.ofChange topSumsWrong)

/- THE SECOND FORM. 'bulk': how many values and letters a reading holds, each counted each time it is reached (what is shared counts as often as it is met; a slice's spare places count too). A statement '..UptoSaid' is the law's where the arguments, and the package variables that the reading takes, are together of bulk at most 1048576: NARROWER than '..Said'. Prove '..Said' where nothing that the law and all that it calls make is longer than what came in: it says more and counts as full. Else prove '..UptoSaid'. A law counts once. -/
mutual
def uptoBulk {H : Type} : DataW H → Nat
  | .lit (.string bytes) => bytes.length + 1
  | .lit _ => 1
  | .nil => 1
  | .ptr d => uptoBulk d + 1
  | .slice elems spare => uptoBulkAll elems + uptoBulkAll spare + 1
  | .agg parts => uptoBulkAll parts + 1
  | .iface _ d => uptoBulk d + 1
  | .map entries => uptoBulkEntries entries + 1
  | .held _ => 1
def uptoBulkAll {H : Type} : List (DataW H) → Nat
  | [] => 0
  | d :: r => uptoBulk d + uptoBulkAll r
def uptoBulkEntries {H : Type} : List (Lit × DataW H) → Nat
  | [] => 0
  | x :: r => uptoBulkEntry x + uptoBulkEntries r
def uptoBulkEntry {H : Type} : Lit × DataW H → Nat
  | (.string bytes, d) => bytes.length + uptoBulk d + 1
  | (_, d) => uptoBulk d + 1
 end
def uptoSmall : (H : Type) → List (DataW H) → Bool := fun _ ds => decide (uptoBulkAll ds ≤ 1048576)
def OpenSpec.upto (s : _root_.Go.ChangeSpec) : _root_.Go.OpenSpec := { _root_.Go.OpenSpec.ofChange s with cond := some uptoSmall }

/-- 'syndromelaw.MatrixSays', WHERE WHAT IT READS IS OF BULK AT MOST 1048576: true; the input reads as it did. -/
def matrixSaysUptoRow : OpenClaim := { program := "ytjpejkakodbchaa", sum := "c1915e87fcab523aa937bc1d013871e366935e027ad2920168db251ab94d1be3", func := "syndrome/syndromelaw.MatrixSays", spec := "matrixSays", inPlace := ["sync/atomic.LoadUint32", "(*internal/sync.Mutex).Lock", "internal/race.Disable", "sync/atomic.CompareAndSwapInt32", "internal/race.Enable", "internal/race.Acquire", "(*internal/sync.Mutex).lockSlow", "internal/sync.runtime_canSpin", "internal/sync.runtime_doSpin", "internal/sync.throw", "internal/sync.runtime_nanotime", "internal/sync.runtime_SemacquireMutex", "sync/atomic.AddInt32", "(*internal/sync.Mutex).Unlock", "internal/race.ReleaseMerge", "(*internal/sync.Mutex).unlockSlow", "internal/sync.fatal", "internal/sync.runtime_Semrelease", "sync/atomic.StoreUint32"], unfollowed := true, recurses := true, apart := false, narrowed := true }
def MatrixSaysUptoSaid : Prop := matrixSaysUptoRow.holds Try.pinned (OpenSpec.upto matrixSaysSpec)

/-- 'syndromelaw.MatrixMade', WHERE WHAT IT READS IS OF BULK AT MOST 1048576: true; the input reads as it did. -/
def matrixMadeUptoRow : OpenClaim := { program := "ytjpejkakodbchaa", sum := "c1915e87fcab523aa937bc1d013871e366935e027ad2920168db251ab94d1be3", func := "syndrome/syndromelaw.MatrixMade", spec := "matrixMade", inPlace := ["sync/atomic.LoadUint32", "(*internal/sync.Mutex).Lock", "internal/race.Disable", "sync/atomic.CompareAndSwapInt32", "internal/race.Enable", "internal/race.Acquire", "(*internal/sync.Mutex).lockSlow", "internal/sync.runtime_canSpin", "internal/sync.runtime_doSpin", "internal/sync.throw", "internal/sync.runtime_nanotime", "internal/sync.runtime_SemacquireMutex", "sync/atomic.AddInt32", "(*internal/sync.Mutex).Unlock", "internal/race.ReleaseMerge", "(*internal/sync.Mutex).unlockSlow", "internal/sync.fatal", "internal/sync.runtime_Semrelease", "sync/atomic.StoreUint32"], unfollowed := true, recurses := true, apart := false, narrowed := true }
def MatrixMadeUptoSaid : Prop := matrixMadeUptoRow.holds Try.pinned (OpenSpec.upto matrixMadeSpec)

/-- 'syndromelaw.CodePairs', WHERE WHAT IT READS IS OF BULK AT MOST 1048576: true; the input reads as it did. -/
def codePairsUptoRow : OpenClaim := { program := "ytjpejkakodbchaa", sum := "c1915e87fcab523aa937bc1d013871e366935e027ad2920168db251ab94d1be3", func := "syndrome/syndromelaw.CodePairs", spec := "codePairs", inPlace := ["sync/atomic.LoadUint32", "(*internal/sync.Mutex).Lock", "internal/race.Disable", "sync/atomic.CompareAndSwapInt32", "internal/race.Enable", "internal/race.Acquire", "(*internal/sync.Mutex).lockSlow", "internal/sync.runtime_canSpin", "internal/sync.runtime_doSpin", "internal/sync.throw", "internal/sync.runtime_nanotime", "internal/sync.runtime_SemacquireMutex", "sync/atomic.AddInt32", "(*internal/sync.Mutex).Unlock", "internal/race.ReleaseMerge", "(*internal/sync.Mutex).unlockSlow", "internal/sync.fatal", "internal/sync.runtime_Semrelease", "sync/atomic.StoreUint32"], unfollowed := true, recurses := true, apart := false, narrowed := true }
def CodePairsUptoSaid : Prop := codePairsUptoRow.holds Try.pinned (OpenSpec.upto codePairsSpec)

/-- 'syndromelaw.NetSends', WHERE WHAT IT READS IS OF BULK AT MOST 1048576: true; the input reads as it did. -/
def netSendsUptoRow : OpenClaim := { program := "ytjpejkakodbchaa", sum := "c1915e87fcab523aa937bc1d013871e366935e027ad2920168db251ab94d1be3", func := "syndrome/syndromelaw.NetSends", spec := "netSends", inPlace := ["sync/atomic.LoadUint32", "(*internal/sync.Mutex).Lock", "internal/race.Disable", "sync/atomic.CompareAndSwapInt32", "internal/race.Enable", "internal/race.Acquire", "(*internal/sync.Mutex).lockSlow", "internal/sync.runtime_canSpin", "internal/sync.runtime_doSpin", "internal/sync.throw", "internal/sync.runtime_nanotime", "internal/sync.runtime_SemacquireMutex", "sync/atomic.AddInt32", "(*internal/sync.Mutex).Unlock", "internal/race.ReleaseMerge", "(*internal/sync.Mutex).unlockSlow", "internal/sync.fatal", "internal/sync.runtime_Semrelease", "sync/atomic.StoreUint32"], unfollowed := true, recurses := true, apart := false, narrowed := true }
def NetSendsUptoSaid : Prop := netSendsUptoRow.holds Try.pinned (OpenSpec.upto netSendsSpec)

/-- 'syndromelaw.NetSendsMade', WHERE WHAT IT READS IS OF BULK AT MOST 1048576: true; the input reads as it did. -/
def netSendsMadeUptoRow : OpenClaim := { program := "ytjpejkakodbchaa", sum := "c1915e87fcab523aa937bc1d013871e366935e027ad2920168db251ab94d1be3", func := "syndrome/syndromelaw.NetSendsMade", spec := "netSendsMade", inPlace := ["sync/atomic.LoadUint32", "(*internal/sync.Mutex).Lock", "internal/race.Disable", "sync/atomic.CompareAndSwapInt32", "internal/race.Enable", "internal/race.Acquire", "(*internal/sync.Mutex).lockSlow", "internal/sync.runtime_canSpin", "internal/sync.runtime_doSpin", "internal/sync.throw", "internal/sync.runtime_nanotime", "internal/sync.runtime_SemacquireMutex", "sync/atomic.AddInt32", "(*internal/sync.Mutex).Unlock", "internal/race.ReleaseMerge", "(*internal/sync.Mutex).unlockSlow", "internal/sync.fatal", "internal/sync.runtime_Semrelease", "sync/atomic.StoreUint32"], unfollowed := true, recurses := true, apart := false, narrowed := true }
def NetSendsMadeUptoSaid : Prop := netSendsMadeUptoRow.holds Try.pinned (OpenSpec.upto netSendsMadeSpec)

/-- 'syndromelaw.MullerSays', WHERE WHAT IT READS IS OF BULK AT MOST 1048576: true; the input reads as it did. -/
def mullerSaysUptoRow : OpenClaim := { program := "ytjpejkakodbchaa", sum := "c1915e87fcab523aa937bc1d013871e366935e027ad2920168db251ab94d1be3", func := "syndrome/syndromelaw.MullerSays", spec := "mullerSays", inPlace := ["sync/atomic.LoadUint32", "(*internal/sync.Mutex).Lock", "internal/race.Disable", "sync/atomic.CompareAndSwapInt32", "internal/race.Enable", "internal/race.Acquire", "(*internal/sync.Mutex).lockSlow", "internal/sync.runtime_canSpin", "internal/sync.runtime_doSpin", "internal/sync.throw", "internal/sync.runtime_nanotime", "internal/sync.runtime_SemacquireMutex", "sync/atomic.AddInt32", "(*internal/sync.Mutex).Unlock", "internal/race.ReleaseMerge", "(*internal/sync.Mutex).unlockSlow", "internal/sync.fatal", "internal/sync.runtime_Semrelease", "sync/atomic.StoreUint32"], unfollowed := true, recurses := true, apart := false, narrowed := true }
def MullerSaysUptoSaid : Prop := mullerSaysUptoRow.holds Try.pinned (OpenSpec.upto mullerSaysSpec)

/-- 'syndromelaw.CodeCounts', WHERE WHAT IT READS IS OF BULK AT MOST 1048576: true; the input reads as it did. -/
def codeCountsUptoRow : OpenClaim := { program := "ytjpejkakodbchaa", sum := "c1915e87fcab523aa937bc1d013871e366935e027ad2920168db251ab94d1be3", func := "syndrome/syndromelaw.CodeCounts", spec := "codeCounts", inPlace := ["sync/atomic.LoadUint32", "(*internal/sync.Mutex).Lock", "internal/race.Disable", "sync/atomic.CompareAndSwapInt32", "internal/race.Enable", "internal/race.Acquire", "(*internal/sync.Mutex).lockSlow", "internal/sync.runtime_canSpin", "internal/sync.runtime_doSpin", "internal/sync.throw", "internal/sync.runtime_nanotime", "internal/sync.runtime_SemacquireMutex", "sync/atomic.AddInt32", "(*internal/sync.Mutex).Unlock", "internal/race.ReleaseMerge", "(*internal/sync.Mutex).unlockSlow", "internal/sync.fatal", "internal/sync.runtime_Semrelease", "sync/atomic.StoreUint32"], unfollowed := true, recurses := true, apart := false, narrowed := true }
def CodeCountsUptoSaid : Prop := codeCountsUptoRow.holds Try.pinned (OpenSpec.upto codeCountsSpec)

/-- 'syndromelaw.GolayIs', WHERE WHAT IT READS IS OF BULK AT MOST 1048576: true; the input reads as it did. -/
def golayIsUptoRow : OpenClaim := { program := "ytjpejkakodbchaa", sum := "c1915e87fcab523aa937bc1d013871e366935e027ad2920168db251ab94d1be3", func := "syndrome/syndromelaw.GolayIs", spec := "golayIs", inPlace := ["sync/atomic.LoadUint32", "(*internal/sync.Mutex).Lock", "internal/race.Disable", "sync/atomic.CompareAndSwapInt32", "internal/race.Enable", "internal/race.Acquire", "(*internal/sync.Mutex).lockSlow", "internal/sync.runtime_canSpin", "internal/sync.runtime_doSpin", "internal/sync.throw", "internal/sync.runtime_nanotime", "internal/sync.runtime_SemacquireMutex", "sync/atomic.AddInt32", "(*internal/sync.Mutex).Unlock", "internal/race.ReleaseMerge", "(*internal/sync.Mutex).unlockSlow", "internal/sync.fatal", "internal/sync.runtime_Semrelease", "sync/atomic.StoreUint32"], unfollowed := true, recurses := true, apart := false, narrowed := true }
def GolayIsUptoSaid : Prop := golayIsUptoRow.holds Try.pinned (OpenSpec.upto golayIsSpec)

/-- 'syndrometop.TopMatrix', WHERE WHAT IT READS IS OF BULK AT MOST 1048576: true; the input reads as it did. -/
def topMatrixUptoRow : OpenClaim := { program := "ytjpejkakodbchaa", sum := "c1915e87fcab523aa937bc1d013871e366935e027ad2920168db251ab94d1be3", func := "syndrome/syndrometop.TopMatrix", spec := "topMatrix", inPlace := ["sync/atomic.LoadUint32", "(*internal/sync.Mutex).Lock", "internal/race.Disable", "sync/atomic.CompareAndSwapInt32", "internal/race.Enable", "internal/race.Acquire", "(*internal/sync.Mutex).lockSlow", "internal/sync.runtime_canSpin", "internal/sync.runtime_doSpin", "internal/sync.throw", "internal/sync.runtime_nanotime", "internal/sync.runtime_SemacquireMutex", "sync/atomic.AddInt32", "(*internal/sync.Mutex).Unlock", "internal/race.ReleaseMerge", "(*internal/sync.Mutex).unlockSlow", "internal/sync.fatal", "internal/sync.runtime_Semrelease", "sync/atomic.StoreUint32"], unfollowed := true, recurses := true, apart := false, narrowed := true }
def TopMatrixUptoSaid : Prop := topMatrixUptoRow.holds Try.pinned (OpenSpec.upto topMatrixSpec)

/-- 'syndrometop.TopDual', WHERE WHAT IT READS IS OF BULK AT MOST 1048576: true; the input reads as it did. -/
def topDualUptoRow : OpenClaim := { program := "ytjpejkakodbchaa", sum := "c1915e87fcab523aa937bc1d013871e366935e027ad2920168db251ab94d1be3", func := "syndrome/syndrometop.TopDual", spec := "topDual", inPlace := ["sync/atomic.LoadUint32", "(*internal/sync.Mutex).Lock", "internal/race.Disable", "sync/atomic.CompareAndSwapInt32", "internal/race.Enable", "internal/race.Acquire", "(*internal/sync.Mutex).lockSlow", "internal/sync.runtime_canSpin", "internal/sync.runtime_doSpin", "internal/sync.throw", "internal/sync.runtime_nanotime", "internal/sync.runtime_SemacquireMutex", "sync/atomic.AddInt32", "(*internal/sync.Mutex).Unlock", "internal/race.ReleaseMerge", "(*internal/sync.Mutex).unlockSlow", "internal/sync.fatal", "internal/sync.runtime_Semrelease", "sync/atomic.StoreUint32"], unfollowed := true, recurses := true, apart := false, narrowed := true }
def TopDualUptoSaid : Prop := topDualUptoRow.holds Try.pinned (OpenSpec.upto topDualSpec)

/-- 'syndrometop.TopSums', WHERE WHAT IT READS IS OF BULK AT MOST 1048576: true; the input reads as it did. -/
def topSumsUptoRow : OpenClaim := { program := "ytjpejkakodbchaa", sum := "c1915e87fcab523aa937bc1d013871e366935e027ad2920168db251ab94d1be3", func := "syndrome/syndrometop.TopSums", spec := "topSums", inPlace := ["sync/atomic.LoadUint32", "(*internal/sync.Mutex).Lock", "internal/race.Disable", "sync/atomic.CompareAndSwapInt32", "internal/race.Enable", "internal/race.Acquire", "(*internal/sync.Mutex).lockSlow", "internal/sync.runtime_canSpin", "internal/sync.runtime_doSpin", "internal/sync.throw", "internal/sync.runtime_nanotime", "internal/sync.runtime_SemacquireMutex", "sync/atomic.AddInt32", "(*internal/sync.Mutex).Unlock", "internal/race.ReleaseMerge", "(*internal/sync.Mutex).unlockSlow", "internal/sync.fatal", "internal/sync.runtime_Semrelease", "sync/atomic.StoreUint32"], unfollowed := true, recurses := true, apart := false, narrowed := true }
def TopSumsUptoSaid : Prop := topSumsUptoRow.holds Try.pinned (OpenSpec.upto topSumsSpec)

end Rows
end Go.Proofs.Ytjpejkakodbchaa
