/-
  One number put behind a growing list of one's own; rows in greater memories. Conditions: those of each theorem.
-/
import Derived.Test.YtammndhoillliaaAm21
namespace Go.Am
set_option linter.unusedVariables false
set_option linter.unusedSimpArgs false

theorem row_pre {h h' : H} {o : Nat} {r : Row} (hr : h.row o = some r) (hp : h <+: h') : h'.row o = some r := by rw [row_prefix hp (row_some_lt hr)]; exact hr
theorem ld1_pre {h h' : H} {o i : Nat} {v : Value} (hl : h.ld1 o i = some v) (hp : h <+: h') : h'.ld1 o i = some v := by
  unfold H.ld1 at hl ⊢
  split at hl
  · rename_i r hr; rw [row_pre hr hp]; exact hl
  · cases hl
theorem ld1_at {h : H} {o : Nat} {r : Row} (hr : h.row o = some r) {off : Nat} {v : Value} (hv : r.cells[off]? = some v) : h.ld1 o off = some v := by rw [ld1_of hr]; exact hv
theorem lds_all {h : H} {o n : Nat} {r : Row} (hr : h.row o = some r) (hn : r.cells.length = n) : h.lds o 0 n = some r.cells := by
  unfold H.lds; rw [hr]; simp only [Nat.zero_add]
  rw [if_pos (by omega), List.drop_zero, List.take_of_length_le (by omega)]
theorem ints_one (y : Int) : [Value.int .i64 y] = ints [y] := rfl
theorem row_at_new {h : H} {r : Row} : H.row (h ++ [.row r]) h.length = some r := row_push_new

/-- one number more -/
theorem Grown.one {h : H} {sa : Option Addr} {c lo : Nat} {zs : List Int} {y : Int} (hg : Grown h sa c zs lo) (hl : zs.length ≤ 1000000) (hlo : lo ≤ h.length) :
    ∃ sa' h', aapp 3 1 8 (h ++ [.row ⟨[.int .i64 y], 3, 1, true⟩]) (.slice sa zs.length c) (.slice (some ⟨h.length, 0, none⟩) 1 1) = some (.slice sa' (zs.length + 1) (zs.length + 1), h') ∧
      Grown h' sa' (zs.length + 1) (zs ++ [y]) lo ∧ h.length ≤ h'.length ∧ (∀ o, o < lo → h'.row o = h.row o) ∧ (∀ p : H, p.length ≤ lo → p <+: h → p <+: h') := by
  have hg2 : Grown (h ++ [.row ⟨[.int .i64 y], 3, 1, true⟩]) sa c zs lo := hg.carry (fun o _ ho => row_push_old ho)
  have hs : srcCells (h ++ [.row ⟨[.int .i64 y], 3, 1, true⟩]) 1 ([y] : List Int).length (.slice (some ⟨h.length, 0, none⟩) 1 1) = some (ints [y]) := by
    unfold srcCells H.lds
    simp only [List.length_cons, List.length_nil, row_push_new]
    rw [if_neg (by omega), if_pos (by omega)]
    simp only [none_isNone, if_true]
    rw [if_pos (by simp)]
    rfl
  obtain ⟨sa', h', e1, e2, e3, e4, e5⟩ := hg2.app (ys := [y]) (x := .slice (some ⟨h.length, 0, none⟩) 1 1) ⟨_, 1, 1, rfl, rfl⟩ hs (by simp) (by simp; omega) (by rw [len_push]; omega)
  simp only [List.length_append, List.length_cons, List.length_nil, Nat.zero_add] at e1 e2
  refine ⟨sa', h', e1, e2, by rw [len_push] at e3; omega, fun o ho => ?_, fun p hp1 hp2 => e5 p hp1 (pre_push hp2)⟩
  rw [e4 o ho, row_push_old (by omega)]
theorem Grown.nil {h : H} {lo : Nat} : Grown h none 0 [] lo := .inl ⟨rfl, rfl, rfl⟩
theorem RdI.nil {h : H} : RdI h none 0 [] := .inl ⟨rfl, rfl, rfl⟩
/-- loads off a list that is read -/
theorem RdI.ld {h : H} {o off c : Nat} {zs : List Int} (hr : RdI h (some ⟨o, off, none⟩) c zs) {i : Int} (h0 : 0 ≤ i) (hi : i < zs.length) : h.ld1 o (off + i.toNat) = some (.int .i64 (gi zs i)) := by
  obtain ⟨o', off', e, _, h1⟩ := hr.addr (by omega)
  cases e
  exact h1 i h0 hi
theorem gi_app {zs ys : List Int} {i : Nat} (hi : i < zs.length) : gi (zs ++ ys) i = gi zs i := by
  unfold gi; rw [List.getD_eq_getElem?_getD, List.getD_eq_getElem?_getD, List.getElem?_append_left (by simpa using hi)]
theorem gi_last {zs : List Int} {y : Int} : gi (zs ++ [y]) zs.length = y := by
  unfold gi; simp [List.getD_eq_getElem?_getD]
theorem gi_set {zs : List Int} {i j : Nat} {v : Int} (hi : i < zs.length) : gi (zs.set i v) j = if i = j then v else gi zs j := by
  unfold gi
  rw [List.getD_eq_getElem?_getD, List.getD_eq_getElem?_getD, Int.toNat_natCast, List.getElem?_set]
  split
  · rename_i e; subst e; simp [hi]
  · rfl
end Go.Am
