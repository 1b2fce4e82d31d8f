/-
  What is to be so of a small ring. No condition.
-/
import Derived.Test.YtdmgkdaiegdfmaaRingPure
namespace Go.Proofs.Ytdmgkdaiegdfmaa
def okRing (q n : Nat) : Bool := match ringP q n with
  | some l => (l.length == q ^ n) && (bif Nat.ble (q ^ n) 300 then (match ringAll q n with
    | some l' => l == l'.map Int.ofNat
    | none => false) else true)
  | none => false
end Go.Proofs.Ytdmgkdaiegdfmaa
