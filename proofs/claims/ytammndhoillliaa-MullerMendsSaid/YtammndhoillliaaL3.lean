/-
  Lists of lists that grow; raw numbers turned to elements and words. Conditions: those of each theorem.
-/
import Derived.Test.YtammndhoillliaaL1
namespace Go.Proofs.Ytammndhoillliaa
open Go.Am
set_option linter.unusedVariables false
set_option linter.unusedSimpArgs false
set_option maxRecDepth 30000

/-- a slice that reads as a list, and is nil where the list is empty; it does not lie in row o -/
def RdP (h : H) (o : Nat) (v : Value) (l : List Int) : Prop :=
  ∃ (a : Option Addr) (c : Nat), v = .slice a l.length c ∧ ((a = none ∧ c = 0 ∧ l = []) ∨ (l.length ≤ c ∧ ∃ o' off r, a = some ⟨o', off, none⟩ ∧ o' ≠ o ∧ h.row o' = some r ∧ (r.own = true → r.unit = 1) ∧ ∀ i : Int, 0 ≤ i → i < l.length → r.cells[off + i.toNat]? = some (.int .i64 (gi l i))))
theorem RdP.rd {h : H} {o : Nat} {v : Value} {l : List Int} (hr : RdP h o v l) : ∃ (a : Option Addr) (c : Nat), v = .slice a l.length c ∧ RdI h a c l := by
  obtain ⟨a, c, h1, h2⟩ := hr
  refine ⟨a, c, h1, ?_⟩
  rcases h2 with h2 | ⟨h2, o', off, r, h3, _, h4, h5⟩
  · exact .inl h2
  · exact .inr ⟨h2, o', off, r, h3, h4, h5⟩
theorem RdP.keep {h h' : H} {o p : Nat} {v : Value} {l : List Int} (hr : RdP h o v l) (hk : ∀ x r, x ≠ o → h.row x = some r → h'.row x = some r ∧ x ≠ p) : RdP h' p v l := by
  obtain ⟨a, c, h1, h2⟩ := hr
  refine ⟨a, c, h1, ?_⟩
  rcases h2 with h2 | ⟨h2, o', off, r, h3, h6, h4, h5⟩
  · exact .inl h2
  · exact .inr ⟨h2, o', off, r, h3, (hk _ _ h6 h4).2, (hk _ _ h6 h4).1, h5⟩
/-- lists that are put one behind the other -/
def GL (e : TypeId) (h : H) (sa : Option Addr) (c : Nat) (ll : List (List Int)) (lo : Nat) : Prop :=
  (sa = none ∧ c = 0 ∧ ll = []) ∨ ∃ o vs, sa = some ⟨o, 0, none⟩ ∧ lo ≤ o ∧ c = ll.length ∧ h.row o = some ⟨vs, e, 1, true⟩ ∧ vs.length = ll.length ∧ ∀ (i : Nat) (l : List Int), ll[i]? = some l → ∃ v, vs[i]? = some v ∧ RdP h o v l
theorem GL.nil {e : TypeId} {h : H} {lo : Nat} : GL e h none 0 [] lo := .inl ⟨rfl, rfl, rfl⟩
theorem GL.rd {e : TypeId} {h : H} {sa : Option Addr} {c lo : Nat} {ll : List (List Int)} (hr : GL e h sa c ll lo) : RdLL h sa c ll := by
  rcases hr with h1 | ⟨o, vs, h1, h2, h3, h4, h5, h6⟩
  · exact .inl h1
  · refine .inr ⟨o, _, h1, by omega, h4, h5, fun i l hl => ?_⟩
    obtain ⟨v, k1, k2⟩ := h6 i l hl
    obtain ⟨a, c', k3, k4⟩ := k2.rd
    exact ⟨a, c', by rw [← k3]; exact k1, k4⟩
theorem GL.cap {e : TypeId} {h : H} {sa : Option Addr} {c lo : Nat} {ll : List (List Int)} (hr : GL e h sa c ll lo) : c = ll.length := by
  rcases hr with ⟨_, rfl, rfl⟩ | ⟨o, vs, h1, h2, h3, h4, h5⟩
  · rfl
  · exact h3
theorem GL.mono {e : TypeId} {h h' : H} {sa : Option Addr} {c lo : Nat} {ll : List (List Int)} (hr : GL e h sa c ll lo) (hp : h <+: h') : GL e h' sa c ll lo := by
  rcases hr with h1 | ⟨o, vs, h1, h2, h3, h4, h5, h6⟩
  · exact .inl h1
  · refine .inr ⟨o, vs, h1, h2, h3, row_pre h4 hp, h5, fun i l hl => ?_⟩
    obtain ⟨v, k1, k2⟩ := h6 i l hl
    exact ⟨v, k1, k2.keep fun x r hx hr => ⟨row_pre hr hp, hx⟩⟩
/-- one list more; it lies in what is new since the row of lists was made -/
theorem GL.app {e : TypeId} {h : H} {sa a3 : Option Addr} {c lo c3 : Nat} {ll : List (List Int)} {l3 : List Int} (hr : GL e h sa c ll lo) (h3 : RdI h a3 c3 l3) (h3n : l3 = [] → a3 = none ∧ c3 = 0) (hd : ∀ x y, sa = some x → a3 = some y → y.block ≠ x.block) (hl : ll.length ≤ 1000000) (hlo : lo ≤ h.length) :
    ∃ sa' h', aapp e 1 24 (h ++ [.row ⟨[.slice a3 l3.length c3], e, 1, true⟩]) (.slice sa ll.length c) (.slice (some ⟨h.length, 0, none⟩) 1 1) = some (.slice sa' (ll.length + 1) (ll.length + 1), h') ∧
      GL e h' sa' (ll.length + 1) (ll ++ [l3]) lo ∧ h.length ≤ h'.length ∧ (∀ o, o < lo → h'.row o = h.row o) ∧ (∀ p : H, p.length ≤ lo → p <+: h → p <+: h') ∧ (∀ x, sa' = some x → h.length ≤ x.block) ∧ (∀ (o : Nat), (∀ x, sa = some x → x.block ≠ o) → o < h.length → h'.row o = h.row o) := by
  have hsrc : srcCells (h ++ [.row ⟨[.slice a3 l3.length c3], e, 1, true⟩]) 1 1 (.slice (some ⟨h.length, 0, none⟩) 1 1) = some [.slice a3 l3.length c3] := by
    unfold srcCells H.lds
    simp only [row_push_new]
    rw [if_neg (by omega), if_pos (Nat.le_refl 1)]
    simp only [none_isNone, if_true]
    rw [if_pos (by simp)]
    rfl
  have h3' : ∀ {h' : H} {p : Nat}, (∀ y r, a3 = some y → h.row y.block = some r → h'.row y.block = some r ∧ y.block ≠ p) → RdP h' p (.slice a3 l3.length c3) l3 := by
    intro h' p hk
    by_cases hn : l3 = []
    · obtain ⟨e1, e2⟩ := h3n hn
      exact ⟨a3, c3, rfl, .inl ⟨e1, e2, hn⟩⟩
    · rcases h3 with ⟨_, _, h⟩ | ⟨k1, o', off, r, k2, k3, k4⟩
      · exact absurd h hn
      · have := hk _ r k2 k3
        exact ⟨a3, c3, rfl, .inr ⟨k1, o', off, r, k2, this.2, this.1, k4⟩⟩
  rcases hr with ⟨rfl, rfl, rfl⟩ | ⟨o, vs, rfl, ho, rfl, hrow, hvl, hin⟩
  · refine ⟨some ⟨h.length + 1, 0, none⟩, h ++ [.row ⟨[.slice a3 l3.length c3], e, 1, true⟩] ++ [.row ⟨[.slice a3 l3.length c3], e, 1, true⟩], ?_, .inr ⟨h.length + 1, _, rfl, by omega, rfl, row_new (by rw [len_push]), rfl, fun i l hl' => ?_⟩, by simp, fun o ho => ?_, fun p hp1 hp2 => pre_push (pre_push hp2), fun x hx => ?_, fun o _ ho => ?_⟩
    · unfold aapp; simp only [hsrc, List.length_nil]
      rw [if_pos (by simp), if_neg (by omega), if_pos (by simp [few]), len_push]
    · cases i with
      | succ i => simp at hl'
      | zero =>
        simp at hl'; subst hl'
        refine ⟨_, rfl, h3' fun y r hy hr => ?_⟩
        have := row_some_lt hr
        exact ⟨by rw [row_old (by rw [len_push]; omega), row_old this]; exact hr, by omega⟩
    · rw [row_old (by rw [len_push]; omega), row_old (by omega)]
    · cases hx; simp
    · rw [row_old (by rw [len_push]; omega), row_old (by omega)]
  · have hol := row_some_lt hrow
    have hkeep : ∀ x r, x ≠ o → h.row x = some r → (kill (h ++ [.row ⟨[.slice a3 l3.length c3], e, 1, true⟩]) o ++ [Ob.row ⟨vs ++ [.slice a3 l3.length c3], e, 1, true⟩]).row x = some r ∧ x ≠ h.length + 1 := by
      intro x r hx hr
      have := row_some_lt hr
      exact ⟨by rw [row_old (by rw [len_kill, len_push]; omega), row_kill (Ne.symm hx), row_old this]; exact hr, by omega⟩
    refine ⟨some ⟨h.length + 1, 0, none⟩, kill (h ++ [.row ⟨[.slice a3 l3.length c3], e, 1, true⟩]) o ++ [.row ⟨vs ++ [.slice a3 l3.length c3], e, 1, true⟩], ?_, .inr ⟨h.length + 1, _, rfl, by omega, by simp, row_new (by rw [len_kill, len_push]), by simp [hvl], fun i l hl' => ?_⟩, by rw [len_push, len_kill, len_push]; omega, fun o' ho' => ?_, fun p hp1 hp2 => pre_push (pre_kill (pre_push hp2) (by omega)), fun x hx => ?_, fun o' h1 h2 => ?_⟩
    · unfold aapp; simp only [hsrc, row_old hol, hrow]
      rw [if_pos (by simp [few]; omega), len_push]
      simp only [List.drop_zero, Nat.mul_one]
      rw [List.take_of_length_le (by omega)]
    · by_cases hil : i < ll.length
      · rw [List.getElem?_append_left hil] at hl'
        obtain ⟨v, k1, k2⟩ := hin i l hl'
        exact ⟨v, by rw [List.getElem?_append_left (by omega)]; exact k1, k2.keep hkeep⟩
      · rw [List.getElem?_append_right (by omega)] at hl'
        have hi0 : i - ll.length = 0 := by
          by_cases h0 : i - ll.length = 0
          · exact h0
          · rw [List.getElem?_eq_none (by simp; omega)] at hl'; cases hl'
        rw [hi0] at hl'
        cases hl'
        refine ⟨_, by rw [List.getElem?_append_right (by omega), hvl, hi0]; rfl, h3' fun y r hy hr => hkeep _ _ (hd _ _ rfl hy) hr⟩
    · rw [row_old (by rw [len_kill, len_push]; omega), row_kill (by omega), row_old (by omega)]
    · cases hx; simp
    · have := h1 _ rfl
      rw [row_old (by rw [len_kill, len_push]; omega), row_kill this, row_old (by omega)]

/-! ### raw numbers -/
def numsL (raw : List Int) (frm q : Int) : Nat → Nat → List Int
  | 0, _ => []
  | m + 1, i => pickI (rawI raw (frm + i)) q :: numsL raw frm q m (i + 1)
theorem numsL_len (raw : List Int) (frm q : Int) : ∀ m i, (numsL raw frm q m i).length = m
  | 0, _ => rfl
  | m + 1, i => by rw [numsL, List.length_cons, numsL_len]
section
variable {h0 : H} {sr : Option Addr} {cr : Nat} {raw : List Int}
theorem nums_loop (hr : RdI h0 sr cr raw) (hrl : raw.length ≤ 1000000) {frm q : Int} (hf0 : 0 ≤ frm) (hf1 : frm ≤ 1000000000) (hq0 : 0 < q) (hq1 : q ≤ 9223372036854775807) {N : Nat} (hN : N ≤ 100000) : ∀ (m i : Nat) (zs : List Int) (s : Option Addr) (c : Nat) (G : H), i + m = N → zs.length = i → Grown G s c zs h0.length → h0 <+: G →
    ∃ (s' : Option Addr) (c' : Nat) (G' : H), h0 <+: G' ∧ Grown G' s' c' (zs ++ numsL raw frm q m i) h0.length ∧ ∀ ks,
      goL T [.tmp 8] [0, 1, 2, 3, 9, 10] c36L0 (.blk 0 [9] :: ks) [(0, .slice sr raw.length cr), (1, .int .i64 frm), (2, .int .i64 q), (3, .int .i64 N), (9, .slice s zs.length c), (10, .int .i64 i)] G =
        go T [.tmp 8] ks (Fr.of [(9, .slice s' (zs ++ numsL raw frm q m i).length c')]) G'
  | 0, i, zs, s, c, G, hi, hz, hg, hp => by
    refine ⟨s, c, G, hp, by rw [numsL, List.append_nil]; exact hg, fun ks => ?_⟩
    rw [goL_at c36L0.eq_def, numsL, List.append_nil]
    simp (disch := first | omega | (simp only [Go.Am.len_push, Go.Am.len_set, Go.Am.len_kill] <;> omega) | fail) only [push_cast, Nat.reduceBEq, Nat.reduceAdd, Nat.reduceMul, Nat.reduceSub, Nat.reduceLT, Nat.reduceGT, Nat.reduceLeDiff, Nat.reduceEqDiff, Int.reduceToNat, Int.reduceAdd, Int.reduceMul, Int.reduceSub, Int.reduceNeg, Int.reduceLT, Int.reduceLE, Int.reduceEq, Nat.zero_add, Nat.add_zero, Nat.mul_one, eq_self, ne_eq, not_true, not_false_iff, and_true, true_and, and_self, List.getElem?_cons_zero, List.getElem?_cons_succ, List.map_cons, List.map_nil, wrap64, dec_lt, dec_nlt, dec_le, dec_nle, dec_eq, dec_ne, if_pos, if_neg, Int.natCast_add, Int.natCast_one, Int.natCast_zero, Int.toNat_natCast]
  | m + 1, i, zs, s, c, G, hi, hz, hg, hp => by
    have e1 := raw_call (hr.mono hp) (frm + i) (by omega) hrl
    have hri := rawI_in (l := raw) (i := frm + i) (by omega) (by omega)
    have e2 := pick_call (rawI raw (frm + i)) q hri.1 hri.2 hq0 hq1 G
    obtain ⟨s1, G1, e3, g1, q1, q2, q3⟩ := hg.one (y := pickI (rawI raw (frm + i)) q) (by omega) hp.length_le
    obtain ⟨s', c', G', k1, k2, k3⟩ := nums_loop hr hrl hf0 hf1 hq0 hq1 hN m (i + 1) (zs ++ [pickI (rawI raw (frm + i)) q]) s1 (zs.length + 1) G1 (by omega) (by simp; omega) g1 (q3 h0 (Nat.le_refl _) hp)
    have hll : zs ++ numsL raw frm q (m + 1) i = (zs ++ [pickI (rawI raw (frm + i)) q]) ++ numsL raw frm q m (i + 1) := by rw [numsL, List.append_assoc]; rfl
    rw [hll]
    refine ⟨s', c', G', k1, k2, fun ks => ?_⟩
    have ih := k3 ks
    rw [Int.natCast_add, Int.natCast_one, show (zs ++ [pickI (rawI raw (frm + i)) q]).length = zs.length + 1 by simp] at ih
    rw [goL_at c36L0.eq_def, ← ih]
    simp (disch := first | omega | (simp only [Go.Am.len_push, Go.Am.len_set, Go.Am.len_kill] <;> omega) | fail) only [push_cast, Nat.reduceBEq, Nat.reduceAdd, Nat.reduceMul, Nat.reduceSub, Nat.reduceLT, Nat.reduceGT, Nat.reduceLeDiff, Nat.reduceEqDiff, Int.reduceToNat, Int.reduceAdd, Int.reduceMul, Int.reduceSub, Int.reduceNeg, Int.reduceLT, Int.reduceLE, Int.reduceEq, Nat.zero_add, Nat.add_zero, Nat.mul_one, eq_self, ne_eq, not_true, not_false_iff, and_true, true_and, and_self, List.getElem?_cons_zero, List.getElem?_cons_succ, List.map_cons, List.map_nil, wrap64, dec_lt, dec_nlt, dec_le, dec_nle, dec_eq, dec_ne, if_pos, if_neg, Int.natCast_add, Int.natCast_one, Int.natCast_zero, Int.toNat_natCast, e1, e2, e3]
theorem nums_call (hr : RdI h0 sr cr raw) (hrl : raw.length ≤ 1000000) {frm q : Int} (hf0 : 0 ≤ frm) (hf1 : frm ≤ 1000000000) (hq0 : 0 < q) (hq1 : q ≤ 9223372036854775807) {N : Nat} (hN : N ≤ 100000) : ∃ (s' : Option Addr) (c' : Nat) (G' : H), h0 <+: G' ∧ Grown G' s' c' (numsL raw frm q N 0) h0.length ∧
    call T 36 [.slice sr raw.length cr, .int .i64 frm, .int .i64 q, .int .i64 N] h0 = some (.slice s' (numsL raw frm q N 0).length c', G') := by
  obtain ⟨s', c', G', k1, k2, k3⟩ := nums_loop hr hrl hf0 hf1 hq0 hq1 hN N 0 [] none 0 h0 (by omega) rfl .nil (List.prefix_refl _)
  rw [List.nil_append] at k2 k3
  simp only [List.length_nil, Int.natCast_zero] at k3
  refine ⟨s', c', G', k1, k2, ?_⟩
  rw [call_at T36 rfl]
  unfold F36 c36
  simp (disch := first | omega | (simp only [Go.Am.len_push, Go.Am.len_set, Go.Am.len_kill] <;> omega) | fail) only [push_cast, Nat.reduceBEq, Nat.reduceAdd, Nat.reduceMul, Nat.reduceSub, Nat.reduceLT, Nat.reduceGT, Nat.reduceLeDiff, Nat.reduceEqDiff, Int.reduceToNat, Int.reduceAdd, Int.reduceMul, Int.reduceSub, Int.reduceNeg, Int.reduceLT, Int.reduceLE, Int.reduceEq, Nat.zero_add, Nat.add_zero, Nat.mul_one, eq_self, ne_eq, not_true, not_false_iff, and_true, true_and, and_self, List.getElem?_cons_zero, List.getElem?_cons_succ, List.map_cons, List.map_nil]
  rw [k3]
  simp (disch := first | omega | (simp only [Go.Am.len_push, Go.Am.len_set, Go.Am.len_kill] <;> omega) | fail) only [push_cast, Nat.reduceBEq, Nat.reduceAdd, Nat.reduceMul, Nat.reduceSub, Nat.reduceLT, Nat.reduceGT, Nat.reduceLeDiff, Nat.reduceEqDiff, Int.reduceToNat, Int.reduceAdd, Int.reduceMul, Int.reduceSub, Int.reduceNeg, Int.reduceLT, Int.reduceLE, Int.reduceEq, Nat.zero_add, Nat.add_zero, Nat.mul_one, eq_self, ne_eq, not_true, not_false_iff, and_true, true_and, and_self, List.getElem?_cons_zero, List.getElem?_cons_succ, List.map_cons, List.map_nil]

/-! ### words -/
def wordV (raw : List Int) (x : Int) (lost : Bool) : Int :=
  if 1 < pickI (rawI raw x) 4 then (if lost = true ∧ pickI ((rawI raw x).tdiv 4) 2 = 0 then -1 else pickI (rawI raw x) 4 - 2) else pickI (rawI raw x) 4
def wordL (raw : List Int) (frm : Int) (lost : Bool) : Nat → Nat → List Int
  | 0, _ => []
  | m + 1, i => wordV raw (frm + i) lost :: wordL raw frm lost m (i + 1)
theorem wordL_len (raw : List Int) (frm : Int) (lost : Bool) : ∀ m i, (wordL raw frm lost m i).length = m
  | 0, _ => rfl
  | m + 1, i => by rw [wordL, List.length_cons, wordL_len]
theorem word_loop (hr : RdI h0 sr cr raw) (hrl : raw.length ≤ 1000000) {frm : Int} (hf0 : 0 ≤ frm) (hf1 : frm ≤ 1000000000) (lost : Bool) {N : Nat} (hN : N ≤ 100000) : ∀ (m i : Nat) (zs : List Int) (s : Option Addr) (c : Nat) (G : H), i + m = N → zs.length = i → Grown G s c zs h0.length → h0 <+: G →
    ∃ (s' : Option Addr) (c' : Nat) (G' : H), h0 <+: G' ∧ Grown G' s' c' (zs ++ wordL raw frm lost m i) h0.length ∧ ∀ ks,
      goL T [.tmp 8] [0, 1, 2, 3, 9, 10] c35L0 (.blk 0 [9] :: ks) [(0, .slice sr raw.length cr), (1, .int .i64 frm), (2, .int .i64 N), (3, .bool lost), (9, .slice s zs.length c), (10, .int .i64 i)] G =
        go T [.tmp 8] ks (Fr.of [(9, .slice s' (zs ++ wordL raw frm lost m i).length c')]) G'
  | 0, i, zs, s, c, G, hi, hz, hg, hp => by
    refine ⟨s, c, G, hp, by rw [wordL, List.append_nil]; exact hg, fun ks => ?_⟩
    rw [goL_at c35L0.eq_def, wordL, List.append_nil]
    simp (disch := first | omega | (simp only [Go.Am.len_push, Go.Am.len_set, Go.Am.len_kill] <;> omega) | fail) only [push_cast, Nat.reduceBEq, Nat.reduceAdd, Nat.reduceMul, Nat.reduceSub, Nat.reduceLT, Nat.reduceGT, Nat.reduceLeDiff, Nat.reduceEqDiff, Int.reduceToNat, Int.reduceAdd, Int.reduceMul, Int.reduceSub, Int.reduceNeg, Int.reduceLT, Int.reduceLE, Int.reduceEq, Nat.zero_add, Nat.add_zero, Nat.mul_one, eq_self, ne_eq, not_true, not_false_iff, and_true, true_and, and_self, List.getElem?_cons_zero, List.getElem?_cons_succ, List.map_cons, List.map_nil, wrap64, dec_lt, dec_nlt, dec_le, dec_nle, dec_eq, dec_ne, if_pos, if_neg, Int.natCast_add, Int.natCast_one, Int.natCast_zero, Int.toNat_natCast]
  | m + 1, i, zs, s, c, G, hi, hz, hg, hp => by
    have e1 := raw_call (hr.mono hp) (frm + i) (by omega) hrl
    have hri := rawI_in (l := raw) (i := frm + i) (by omega) (by omega)
    obtain ⟨x, hx⟩ : ∃ x, x = rawI raw (frm + i) := ⟨_, rfl⟩
    have e2 := pick_call x 4 (by omega) (by omega) (by omega) (by omega) G
    have hd : -9223372036854775808 ≤ x.tdiv 4 ∧ x.tdiv 4 ≤ 9223372036854775807 := by
      by_cases h0 : 0 ≤ x
      · rw [Int.tdiv_eq_ediv_of_nonneg h0]; omega
      · have : x.tdiv 4 = -((-x) / 4) := by rw [show x = -(-x) by omega, Int.neg_tdiv, Int.tdiv_eq_ediv_of_nonneg (by omega), Int.neg_neg]
        rw [this]; omega
    have e3 := pick_call (x.tdiv 4) 2 hd.1 hd.2 (by omega) (by omega) G
    have hp4 := pickI_ok (a := x) (n := 4) (by omega)
    obtain ⟨y, hy⟩ : ∃ y, y = wordV raw (frm + i) lost := ⟨_, rfl⟩
    obtain ⟨s1, G1, e4, g1, q1, q2, q3⟩ := hg.one (y := y) (by omega) hp.length_le
    obtain ⟨s', c', G', k1, k2, k3⟩ := word_loop hr hrl hf0 hf1 lost hN m (i + 1) (zs ++ [y]) s1 (zs.length + 1) G1 (by omega) (by simp; omega) g1 (q3 h0 (Nat.le_refl _) hp)
    have hll : zs ++ wordL raw frm lost (m + 1) i = (zs ++ [y]) ++ wordL raw frm lost m (i + 1) := by rw [wordL, List.append_assoc, hy]; rfl
    rw [hll]
    refine ⟨s', c', G', k1, k2, fun ks => ?_⟩
    have ih := k3 ks
    rw [Int.natCast_add, Int.natCast_one, show (zs ++ [y]).length = zs.length + 1 by simp] at ih
    rw [goL_at c35L0.eq_def, ← ih]
    rw [← hx] at e1
    unfold wordV at hy
    rw [← hx] at hy
    by_cases h1 : 1 < pickI x 4
    · rw [if_pos h1] at hy
      cases lost with
      | false =>
        rw [if_neg (fun hh => by cases hh.1)] at hy
        simp (disch := first | omega | (simp only [Go.Am.len_push, Go.Am.len_set, Go.Am.len_kill] <;> omega) | fail) only [push_cast, Nat.reduceBEq, Nat.reduceAdd, Nat.reduceMul, Nat.reduceSub, Nat.reduceLT, Nat.reduceGT, Nat.reduceLeDiff, Nat.reduceEqDiff, Int.reduceToNat, Int.reduceAdd, Int.reduceMul, Int.reduceSub, Int.reduceNeg, Int.reduceLT, Int.reduceLE, Int.reduceEq, Nat.zero_add, Nat.add_zero, Nat.mul_one, eq_self, ne_eq, not_true, not_false_iff, and_true, true_and, and_self, List.getElem?_cons_zero, List.getElem?_cons_succ, List.map_cons, List.map_nil, wrap64, dec_lt, dec_nlt, dec_le, dec_nle, dec_eq, dec_ne, if_pos, if_neg, Int.natCast_add, Int.natCast_one, Int.natCast_zero, Int.toNat_natCast, e1, e2, ← hy, e4]
      | true =>
        by_cases h2 : pickI (x.tdiv 4) 2 = 0
        · rw [if_pos ⟨rfl, h2⟩] at hy
          subst hy
          simp (disch := first | omega | (simp only [Go.Am.len_push, Go.Am.len_set, Go.Am.len_kill] <;> omega) | fail) only [push_cast, Nat.reduceBEq, Nat.reduceAdd, Nat.reduceMul, Nat.reduceSub, Nat.reduceLT, Nat.reduceGT, Nat.reduceLeDiff, Nat.reduceEqDiff, Int.reduceToNat, Int.reduceAdd, Int.reduceMul, Int.reduceSub, Int.reduceNeg, Int.reduceLT, Int.reduceLE, Int.reduceEq, Nat.zero_add, Nat.add_zero, Nat.mul_one, eq_self, ne_eq, not_true, not_false_iff, and_true, true_and, and_self, List.getElem?_cons_zero, List.getElem?_cons_succ, List.map_cons, List.map_nil, wrap64, dec_lt, dec_nlt, dec_le, dec_nle, dec_eq, dec_ne, if_pos, if_neg, Int.natCast_add, Int.natCast_one, Int.natCast_zero, Int.toNat_natCast, e1, e2, e3, e4]
        · rw [if_neg (fun hh => h2 hh.2)] at hy
          simp (disch := first | omega | (simp only [Go.Am.len_push, Go.Am.len_set, Go.Am.len_kill] <;> omega) | fail) only [push_cast, Nat.reduceBEq, Nat.reduceAdd, Nat.reduceMul, Nat.reduceSub, Nat.reduceLT, Nat.reduceGT, Nat.reduceLeDiff, Nat.reduceEqDiff, Int.reduceToNat, Int.reduceAdd, Int.reduceMul, Int.reduceSub, Int.reduceNeg, Int.reduceLT, Int.reduceLE, Int.reduceEq, Nat.zero_add, Nat.add_zero, Nat.mul_one, eq_self, ne_eq, not_true, not_false_iff, and_true, true_and, and_self, List.getElem?_cons_zero, List.getElem?_cons_succ, List.map_cons, List.map_nil, wrap64, dec_lt, dec_nlt, dec_le, dec_nle, dec_eq, dec_ne, if_pos, if_neg, Int.natCast_add, Int.natCast_one, Int.natCast_zero, Int.toNat_natCast, e1, e2, e3, ← hy, e4]
    · rw [if_neg h1] at hy
      simp (disch := first | omega | (simp only [Go.Am.len_push, Go.Am.len_set, Go.Am.len_kill] <;> omega) | fail) only [push_cast, Nat.reduceBEq, Nat.reduceAdd, Nat.reduceMul, Nat.reduceSub, Nat.reduceLT, Nat.reduceGT, Nat.reduceLeDiff, Nat.reduceEqDiff, Int.reduceToNat, Int.reduceAdd, Int.reduceMul, Int.reduceSub, Int.reduceNeg, Int.reduceLT, Int.reduceLE, Int.reduceEq, Nat.zero_add, Nat.add_zero, Nat.mul_one, eq_self, ne_eq, not_true, not_false_iff, and_true, true_and, and_self, List.getElem?_cons_zero, List.getElem?_cons_succ, List.map_cons, List.map_nil, wrap64, dec_lt, dec_nlt, dec_le, dec_nle, dec_eq, dec_ne, if_pos, if_neg, Int.natCast_add, Int.natCast_one, Int.natCast_zero, Int.toNat_natCast, e1, e2, ← hy, e4]
theorem wordOf_call (hr : RdI h0 sr cr raw) (hrl : raw.length ≤ 1000000) {frm : Int} (hf0 : 0 ≤ frm) (hf1 : frm ≤ 1000000000) (lost : Bool) {N : Nat} (hN : N ≤ 100000) : ∃ (s' : Option Addr) (c' : Nat) (G' : H), h0 <+: G' ∧ Grown G' s' c' (wordL raw frm lost N 0) h0.length ∧
    call T 35 [.slice sr raw.length cr, .int .i64 frm, .int .i64 N, .bool lost] h0 = some (.slice s' (wordL raw frm lost N 0).length c', G') := by
  obtain ⟨s', c', G', k1, k2, k3⟩ := word_loop hr hrl hf0 hf1 lost hN N 0 [] none 0 h0 (by omega) rfl .nil (List.prefix_refl _)
  rw [List.nil_append] at k2 k3
  simp only [List.length_nil, Int.natCast_zero] at k3
  refine ⟨s', c', G', k1, k2, ?_⟩
  rw [call_at T35 rfl]
  unfold F35 c35
  simp (disch := first | omega | (simp only [Go.Am.len_push, Go.Am.len_set, Go.Am.len_kill] <;> omega) | fail) only [push_cast, Nat.reduceBEq, Nat.reduceAdd, Nat.reduceMul, Nat.reduceSub, Nat.reduceLT, Nat.reduceGT, Nat.reduceLeDiff, Nat.reduceEqDiff, Int.reduceToNat, Int.reduceAdd, Int.reduceMul, Int.reduceSub, Int.reduceNeg, Int.reduceLT, Int.reduceLE, Int.reduceEq, Nat.zero_add, Nat.add_zero, Nat.mul_one, eq_self, ne_eq, not_true, not_false_iff, and_true, true_and, and_self, List.getElem?_cons_zero, List.getElem?_cons_succ, List.map_cons, List.map_nil]
  rw [k3]
  simp (disch := first | omega | (simp only [Go.Am.len_push, Go.Am.len_set, Go.Am.len_kill] <;> omega) | fail) only [push_cast, Nat.reduceBEq, Nat.reduceAdd, Nat.reduceMul, Nat.reduceSub, Nat.reduceLT, Nat.reduceGT, Nat.reduceLeDiff, Nat.reduceEqDiff, Int.reduceToNat, Int.reduceAdd, Int.reduceMul, Int.reduceSub, Int.reduceNeg, Int.reduceLT, Int.reduceLE, Int.reduceEq, Nat.zero_add, Nat.add_zero, Nat.mul_one, eq_self, ne_eq, not_true, not_false_iff, and_true, true_and, and_self, List.getElem?_cons_zero, List.getElem?_cons_succ, List.map_cons, List.map_nil]
end
end Go.Proofs.Ytammndhoillliaa
