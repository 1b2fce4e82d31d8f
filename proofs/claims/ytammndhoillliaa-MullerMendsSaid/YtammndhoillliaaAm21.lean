/-
  Slices of slices of integers. Conditions: those of each theorem.
-/
import Derived.Test.YtammndhoillliaaAm20
namespace Go.Am

theorem RdI.src {h : H} {a : Option Addr} {c : Nat} {l : List Int} (hr : RdI h a c l) : srcCells h 1 l.length (.slice a l.length c) = some (ints l) := by
  unfold srcCells
  simp only []
  by_cases h0 : l.length = 0
  · rw [if_pos h0, List.length_eq_zero_iff.mp h0]; rfl
  · rw [if_neg h0, if_pos (Nat.le_refl _)]
    rcases hr with ⟨_, _, rfl⟩ | ⟨h1, o, off, r, rfl, hrow, _, hc⟩
    · exact absurd rfl h0
    · simp only [none_isNone, if_true]
      unfold H.lds
      simp only [hrow]
      have hlast := hc ((l.length - 1 : Nat) : Int) (by omega) (by omega)
      have hb : off + (l.length - 1) < r.cells.length := by
        rw [Int.toNat_natCast] at hlast
        exact (List.getElem?_eq_some_iff.1 hlast).1
      rw [if_pos (by omega), Nat.mul_one]
      congr 1
      refine List.ext_getElem? fun i => ?_
      by_cases hi : i < l.length
      · rw [List.getElem?_take, if_pos hi, List.getElem?_drop]
        have h1 := hc (i : Int) (by omega) (by omega)
        have h2 := ints_get (zs := l) (i := (i : Int)) (by omega) (by omega)
        rw [Int.toNat_natCast] at h1 h2
        rw [h1, h2]
      · rw [List.getElem?_eq_none (by rw [List.length_take]; omega), List.getElem?_eq_none (by rw [ints_len]; omega)]

/-- a fresh element in front of a list -/
theorem app_front {h : H} {a : Option Addr} {c e : Nat} {l : List Int} {v : Int} (hr : RdI h a c l) (hl : l.length ≤ 1000000) :
    aapp e 1 8 (h ++ [.row ⟨[.int .i64 v], e, 1, true⟩]) (.slice (some ⟨h.length, 0, none⟩) 1 1) (.slice a l.length c) =
      some (.slice (some ⟨h.length + 1, 0, none⟩) (1 + l.length) (1 + l.length), kill (h ++ [.row ⟨[.int .i64 v], e, 1, true⟩]) h.length ++ [.row ⟨ints (v :: l), e, 1, true⟩]) := by
  have hs := (hr.mono (List.prefix_append h [.row ⟨[.int .i64 v], e, 1, true⟩])).src
  unfold aapp
  simp only [hs, row_push_new]
  rw [if_pos (by simp [few]; omega), len_push]
  rfl
theorem front_keep {h : H} {b b' : Ob} {o : Nat} (ho : o < h.length) : (kill (h ++ [b]) h.length ++ [b'])[o]? = h[o]? := by
  rw [List.getElem?_append_left (by rw [len_kill, len_push]; omega)]
  unfold kill
  rw [List.getElem?_set_ne (by omega), List.getElem?_append_left ho]
theorem front_len {h : H} {b b' : Ob} : (kill (h ++ [b]) h.length ++ [b']).length = h.length + 2 := by rw [len_push, len_kill, len_push]
theorem front_row {h : H} {b : Ob} {r : Row} : H.row (kill (h ++ [b]) h.length ++ [.row r]) (h.length + 1) = some r := row_new (by rw [len_kill, len_push])

theorem pre_get' {h h' : H} {o : Nat} (hp : h <+: h') (ho : o < h.length) : h'[o]? = h[o]? := by
  obtain ⟨t, rfl⟩ := hp
  exact List.getElem?_append_left ho
/-- a row's cells as lists -/
def Inner (h : H) (vs : List Value) (ll : List (List Int)) : Prop :=
  vs.length = ll.length ∧ ∀ (i : Nat) (l : List Int), ll[i]? = some l → ∃ (a : Option Addr) (c : Nat), vs[i]? = some (Value.slice a l.length c) ∧ RdI h a c l
def RdLL (h : H) (sa : Option Addr) (c : Nat) (ll : List (List Int)) : Prop :=
  (sa = none ∧ c = 0 ∧ ll = []) ∨ ∃ o r, sa = some ⟨o, 0, none⟩ ∧ ll.length ≤ c ∧ h.row o = some r ∧ Inner h r.cells ll
theorem RdI.keep {h h' : H} {a : Option Addr} {c : Nat} {l : List Int} (hr : RdI h a c l) (hk : ∀ o, o < h.length → h'[o]? = h[o]?) : RdI h' a c l := by
  rcases hr with h1 | ⟨h1, o, off, r, h2, h3, h4⟩
  · exact .inl h1
  · exact .inr ⟨h1, o, off, r, h2, by rw [row_get (hk o (row_some_lt h3))]; exact h3, h4⟩
theorem Inner.keep {h h' : H} {vs : List Value} {ll : List (List Int)} (hi : Inner h vs ll) (hk : ∀ o, o < h.length → h'[o]? = h[o]?) : Inner h' vs ll :=
  ⟨hi.1, fun i l hl => let ⟨a, c, h1, h2⟩ := hi.2 i l hl; ⟨a, c, h1, h2.keep hk⟩⟩
theorem RdLL.keep {h h' : H} {sa : Option Addr} {c : Nat} {ll : List (List Int)} (hr : RdLL h sa c ll) (hk : ∀ o, o < h.length → h'[o]? = h[o]?) : RdLL h' sa c ll := by
  rcases hr with h1 | ⟨o, r, h1, h2, h3, h4⟩
  · exact .inl h1
  · exact .inr ⟨o, r, h1, h2, by rw [row_get (hk o (row_some_lt h3))]; exact h3, h4.keep hk⟩
theorem RdLL.mono {h h' : H} {sa : Option Addr} {c : Nat} {ll : List (List Int)} (hr : RdLL h sa c ll) (hp : h <+: h') : RdLL h' sa c ll := hr.keep (fun o ho => by
  obtain ⟨t, rfl⟩ := hp
  exact List.getElem?_append_left ho)
/-- one of the lists -/
theorem RdLL.at {h : H} {sa : Option Addr} {c : Nat} {ll : List (List Int)} (hr : RdLL h sa c ll) {i : Nat} {l : List Int} (hl : ll[i]? = some l) :
    ∃ (o : Nat) (a : Option Addr) (c' : Nat), sa = some ⟨o, 0, none⟩ ∧ h.ld1 o i = some (.slice a l.length c') ∧ RdI h a c' l := by
  rcases hr with ⟨_, _, rfl⟩ | ⟨o, r, h1, h2, h3, h4⟩
  · cases hl
  · obtain ⟨a, c', h5, h6⟩ := h4.2 i l hl
    exact ⟨o, a, c', h1, by rw [ld1_of h3]; exact h5, h6⟩

/-- lists that are put one behind the other -/
def GrownL (e : TypeId) (h : H) (sa : Option Addr) (c : Nat) (ll : List (List Int)) (lo : Nat) : Prop :=
  (∀ l ∈ ll, l ≠ []) ∧ ((sa = none ∧ c = 0 ∧ ll = []) ∨ ∃ o vs, sa = some ⟨o, 0, none⟩ ∧ lo ≤ o ∧ c = ll.length ∧ h.row o = some ⟨vs, e, 1, true⟩ ∧ Inner h vs ll)
theorem GrownL.keep {e : TypeId} {h h' : H} {sa : Option Addr} {c lo : Nat} {ll : List (List Int)} (hr : GrownL e h sa c ll lo) (hk : ∀ o, o < h.length → h'[o]? = h[o]?) : GrownL e h' sa c ll lo := by
  refine ⟨hr.1, ?_⟩
  rcases hr.2 with h1 | ⟨o, vs, h1, h2, h3, h4, h5⟩
  · exact .inl h1
  · exact .inr ⟨o, vs, h1, h2, h3, by rw [row_get (hk o (row_some_lt h4))]; exact h4, h5.keep hk⟩
theorem GrownL.rd {e : TypeId} {h : H} {sa : Option Addr} {c lo : Nat} {ll : List (List Int)} (hr : GrownL e h sa c ll lo) : RdLL h sa c ll := by
  rcases hr.2 with h1 | ⟨o, vs, h1, h2, h3, h4, h5⟩
  · exact .inl h1
  · exact .inr ⟨o, _, h1, by omega, h4, h5⟩
theorem GrownL.cap {e : TypeId} {h : H} {sa : Option Addr} {c lo : Nat} {ll : List (List Int)} (hr : GrownL e h sa c ll lo) : c = ll.length := by
  rcases hr.2 with ⟨_, rfl, rfl⟩ | ⟨o, vs, h1, h2, h3, h4, h5⟩
  · rfl
  · exact h3
theorem GrownL.app {e : TypeId} {h : H} {sa a3 : Option Addr} {c lo c3 : Nat} {ll : List (List Int)} {l3 : List Int} (hr : GrownL e h sa c ll lo) (h3 : RdI h a3 c3 l3) (hne : l3 ≠ []) (hl : ll.length ≤ 1000000) (hlo : lo ≤ h.length) :
    ∃ sa' h', aapp e 1 24 (h ++ [.row ⟨[.slice a3 l3.length c3], e, 1, true⟩]) (.slice sa ll.length c) (.slice (some ⟨h.length, 0, none⟩) 1 1) = some (.slice sa' (ll.length + 1) (ll.length + 1), h') ∧
      GrownL e h' sa' (ll.length + 1) (ll ++ [l3]) lo ∧ h.length ≤ h'.length ∧ (∀ o, o < lo → h'[o]? = h[o]?) := by
  have hsrc : srcCells (h ++ [.row ⟨[.slice a3 l3.length c3], e, 1, true⟩]) 1 1 (.slice (some ⟨h.length, 0, none⟩) 1 1) = some [.slice a3 l3.length c3] := by
    unfold srcCells H.lds
    simp only [row_push_new]
    rw [if_neg (by omega), if_pos (Nat.le_refl 1)]
    simp only [none_isNone, if_true]
    rw [if_pos (by simp)]
    rfl
  have hne' : ∀ l ∈ ll ++ [l3], l ≠ [] := by
    intro l hl
    rcases List.mem_append.mp hl with hl | hl
    · exact hr.1 l hl
    · rw [List.mem_singleton.mp hl]; exact hne
  have hin : ∀ {h' : H} {vs : List Value}, Inner h vs ll → (∀ a c' l, RdI h a c' l → l ≠ [] → RdI h' a c' l) → Inner h' (vs ++ [Value.slice a3 l3.length c3]) (ll ++ [l3]) := by
    intro h' vs hi hk
    refine ⟨by simp [hi.1], fun i l hl => ?_⟩
    by_cases hil : i < ll.length
    · rw [List.getElem?_append_left hil] at hl
      obtain ⟨a, c', h1, h2⟩ := hi.2 i l hl
      exact ⟨a, c', by rw [List.getElem?_append_left (by rw [hi.1]; exact hil)]; exact h1, hk _ _ _ h2 (hr.1 l (List.mem_of_getElem? hl))⟩
    · rw [List.getElem?_append_right (by omega)] at hl
      have hi0 : i - ll.length = 0 := by
        by_cases h0 : i - ll.length = 0
        · exact h0
        · rw [List.getElem?_eq_none (by simp; omega)] at hl; cases hl
      rw [hi0] at hl
      cases hl
      exact ⟨a3, c3, by rw [List.getElem?_append_right (by rw [hi.1]; omega), hi.1, hi0]; rfl, hk _ _ _ h3 hne⟩
  rcases hr.2 with ⟨rfl, rfl, rfl⟩ | ⟨o, vs, rfl, ho, rfl, hrow, hi⟩
  · refine ⟨some ⟨h.length + 1, 0, none⟩, h ++ [.row ⟨[.slice a3 l3.length c3], e, 1, true⟩] ++ [.row ⟨[.slice a3 l3.length c3], e, 1, true⟩], ?_, ⟨hne', .inr ⟨h.length + 1, _, rfl, by omega, rfl, row_new (by rw [len_push]), ?_⟩⟩, by simp, ?_⟩
    · unfold aapp; simp only [hsrc, List.length_nil]
      rw [if_pos (by simp), if_neg (by omega), if_pos (by simp [few]), len_push]
    · exact hin (vs := []) ⟨rfl, fun i l hl => by cases hl⟩ (fun a c' l hr _ => (hr.mono (List.prefix_append _ _)).mono (List.prefix_append _ _))
    · intro o ho; rw [List.getElem?_append_left (by rw [len_push]; omega), List.getElem?_append_left (by omega)]
  · have hol := row_some_lt hrow
    refine ⟨some ⟨h.length + 1, 0, none⟩, kill (h ++ [.row ⟨[.slice a3 l3.length c3], e, 1, true⟩]) o ++ [.row ⟨vs ++ [.slice a3 l3.length c3], e, 1, true⟩], ?_, ⟨hne', .inr ⟨h.length + 1, _, rfl, by omega, by simp, row_new (by rw [len_kill, len_push]), ?_⟩⟩, by rw [len_push, len_kill, len_push]; omega, ?_⟩
    · unfold aapp; simp only [hsrc, row_old hol, hrow]
      have hv := hi.1
      rw [if_pos (by simp [few]; omega), len_push]
      simp only [List.drop_zero, Nat.mul_one]
      rw [List.take_of_length_le (by rw [hi.1]; omega)]
    · refine hin hi fun a c' l hra hnel => ?_
      have hra' := hra
      rcases hra with ⟨_, _, rfl⟩ | ⟨h1, o', off, r, rfl, h3', h4⟩
      · exact absurd rfl hnel
      · have hlp : 0 < l.length := List.length_pos_iff.mpr hnel
        have hoo : o ≠ o' := by
          intro heq
          subst heq
          rw [hrow] at h3'
          cases h3'
          have h5 := h4.2 0 (by omega) (by omega)
          have h6 := (List.getElem?_eq_some_iff.1 h5).1
          obtain ⟨lx, hlx⟩ : ∃ lx, ll[off + Int.toNat 0]? = some lx := ⟨_, List.getElem?_eq_getElem (by rw [← hi.1]; exact h6)⟩
          obtain ⟨_, _, h7, _⟩ := hi.2 _ _ hlx
          rw [h5] at h7
          cases h7
        have h3l := row_some_lt h3'
        exact .inr ⟨h1, o', off, r, rfl, by rw [row_old (by rw [len_kill, len_push]; omega), row_kill hoo, row_old h3l]; exact h3', h4⟩
    · intro o' ho'
      rw [List.getElem?_append_left (by rw [len_kill, len_push]; omega)]
      unfold kill
      rw [List.getElem?_set_ne (by omega), List.getElem?_append_left (by omega)]
end Go.Am
