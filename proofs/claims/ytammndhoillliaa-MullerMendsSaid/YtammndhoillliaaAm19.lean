/-
  Where a law's call begins: nothing in memory, or the rows of its arguments. No condition.
-/
import Derived.Test.YtammndhoillliaaAm18
namespace Go.Am
open Go.RowKit (Below)

theorem HR.start (φ : Ren) (w : World) : HR φ w.heap.size [] w where
  own := fun o r h => by simp [H.row] at h
  ro := fun o r h => by simp [H.row] at h
  one := fun o r h => by simp [H.row] at h
  inj := fun o o' r r' h => by simp [H.row] at h
  size := Nat.le_refl _
def φ0 : Ren := fun _ => ⟨0, 0, 0, 0, false⟩
/-- a law of whole numbers alone -/
theorem start_bool {P : Program} {T : Tab} (hT : TabOK P T) (hm : P.follows .mixedOrders = true) {f : FuncId} {vs : List Value} {h' : H} {b : Bool} (hc : call T f vs [] = some (.bool b, h')) (hv : LR φ0 0 vs vs) (w : World) :
    Calls P f vs.toArray w fun e w' => e = .returned (.bool b) ∧ Below w.heap.size w w' :=
  call_bool hT hm hc hv (HR.start φ0 w)
theorem int_wf {n : Int} (h : (Lit.int .i64 n).wf = true) : -9223372036854775808 ≤ n ∧ n ≤ 9223372036854775807 := by
  simp only [Lit.wf, Bool.and_eq_true, decide_eq_true_eq] at h
  exact h
end Go.Am
