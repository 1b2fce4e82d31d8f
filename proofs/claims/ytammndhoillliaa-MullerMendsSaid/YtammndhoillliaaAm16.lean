/-
  Slices of integers in the small machine's memory, as lists. No condition.
-/
import Derived.Test.YtammndhoillliaaAm15
namespace Go.Am

def ints (zs : List Int) : List Value := zs.map (Value.int .i64)
/-- the i-th of a list of numbers (0 where there is none) -/
def gi (zs : List Int) (i : Int) : Int := zs.getD i.toNat 0

theorem gi_eq {zs : List Int} {i : Int} (h0 : 0 ≤ i) (h : i < zs.length) : zs[i.toNat]? = some (gi zs i) := by
  unfold gi
  rw [List.getD_eq_getElem?_getD]
  have : i.toNat < zs.length := by omega
  simp [List.getElem?_eq_getElem this]
theorem gi_get {zs : List Int} {i : Int} (h0 : 0 ≤ i) (h : i < zs.length) : gi zs i = zs[i.toNat]'(by omega) := by
  unfold gi; rw [List.getD_eq_getElem?_getD, List.getElem?_eq_getElem (by omega)]; rfl
theorem gi_mem {zs : List Int} {i : Int} (h0 : 0 ≤ i) (h : i < zs.length) : gi zs i ∈ zs := by rw [gi_get h0 h]; exact List.getElem_mem _
theorem ints_len (zs : List Int) : (ints zs).length = zs.length := by simp [ints]
theorem ints_get {zs : List Int} {i : Int} (h0 : 0 ≤ i) (h : i < zs.length) : (ints zs)[i.toNat]? = some (.int .i64 (gi zs i)) := by
  unfold ints; rw [List.getElem?_map, gi_eq h0 h]; rfl

/-- a slice's address, length and capacity, where it reads as a list of numbers -/
def RdI (h : H) (sa : Option Addr) (c : Nat) (zs : List Int) : Prop :=
  (sa = none ∧ c = 0 ∧ zs = []) ∨ (zs.length ≤ c ∧ ∃ o off r, sa = some ⟨o, off, none⟩ ∧ h.row o = some r ∧ (r.own = true → r.unit = 1) ∧ ∀ i : Int, 0 ≤ i → i < zs.length → r.cells[off + i.toNat]? = some (.int .i64 (gi zs i)))

theorem RdI.addr {h : H} {sa : Option Addr} {c : Nat} {zs : List Int} (hr : RdI h sa c zs) (hz : 0 < zs.length) :
    ∃ o off, sa = some ⟨o, off, none⟩ ∧ o < h.length ∧ ∀ i : Int, 0 ≤ i → i < zs.length → h.ld1 o (off + i.toNat) = some (.int .i64 (gi zs i)) := by
  rcases hr with ⟨_, _, rfl⟩ | ⟨_, o, off, r, h1, h2, h3⟩
  · simp at hz
  · exact ⟨o, off, h1, row_some_lt h2, fun i h0 hi => by unfold H.ld1; rw [h2]; exact h3.2 i h0 hi⟩
theorem RdI.mono {h h' : H} {sa : Option Addr} {c : Nat} {zs : List Int} (hr : RdI h sa c zs) (hp : h <+: h') : RdI h' sa c zs := by
  rcases hr with h1 | ⟨h1, o, off, r, h2, h3, h4⟩
  · exact .inl h1
  · exact .inr ⟨h1, o, off, r, h2, by rw [row_prefix hp (row_some_lt h3)]; exact h3, h4⟩
theorem RdI.ofRow {h : H} {o : Nat} {r : Row} {zs : List Int} (hr : h.row o = some r) (hc : r.cells = ints zs) (hu : r.own = true → r.unit = 1 := by intro _; rfl) : RdI h (some ⟨o, 0, none⟩) zs.length zs :=
  .inr ⟨Nat.le_refl _, o, 0, r, rfl, hr, hu, fun i h0 hi => by rw [hc, Nat.zero_add]; exact ints_get h0 hi⟩

/-- elements of such a row are of one cell -/
theorem RdI.unit {h : H} {sa : Option Addr} {c : Nat} {zs : List Int} (hr : RdI h sa c zs) : unitOk h 1 sa = true := by
  rcases hr with ⟨rfl, _⟩ | ⟨_, o, off, r, rfl, h2, h3, _⟩
  · rfl
  · unfold unitOk
    simp only [h2]
    cases ho : r.own with
    | false => rfl
    | true => rw [h3 ho]; rfl
/-- its first n -/
theorem RdI.sub {h : H} {sa : Option Addr} {c : Nat} {zs : List Int} (hr : RdI h sa c zs) (n : Nat) : RdI h sa c (zs.take n) := by
  rcases hr with ⟨rfl, rfl, rfl⟩ | ⟨h1, o, off, r, rfl, h2, h3, h4⟩
  · exact .inl ⟨rfl, rfl, by simp⟩
  · refine .inr ⟨by rw [List.length_take]; omega, o, off, r, rfl, h2, h3, fun i h0 hi => ?_⟩
    rw [List.length_take] at hi
    rw [h4 i h0 (by omega)]
    unfold gi
    rw [List.getD_eq_getElem?_getD, List.getD_eq_getElem?_getD, List.getElem?_take, if_pos (by omega)]

/-! ### rows behind changes -/
theorem row_push_old {h : H} {b : Ob} {o : Nat} (ho : o < h.length) : H.row (h ++ [b]) o = h.row o := row_app ho
theorem row_push_new {h : H} {r : Row} : H.row (h ++ [.row r]) h.length = some r := by unfold H.row; simp
theorem row_set_other {h : H} {o o' : Nat} {b : Ob} (hne : o ≠ o') : H.row (h.set o b) o' = h.row o' := by
  unfold H.row; rw [List.getElem?_set_ne hne]
theorem row_set_same {h : H} {o : Nat} {r : Row} (ho : o < h.length) : H.row (h.set o (.row r)) o = some r := by
  unfold H.row; rw [List.getElem?_set_self ho]
theorem pre_push {h h' : H} {b : List Ob} (hp : h <+: h') : h <+: h' ++ b := hp.trans (List.prefix_append _ _)
theorem pre_set {h h' : H} {o : Nat} {b : Ob} (hp : h <+: h') (ho : h.length ≤ o) : h <+: h'.set o b := by
  obtain ⟨t, rfl⟩ := hp
  rw [List.set_append_right _ _ (by omega)]
  exact List.prefix_append _ _
theorem pre_len {h h' : H} (hp : h <+: h') : h.length ≤ h'.length := hp.length_le
end Go.Am
