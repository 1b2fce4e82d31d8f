/-
  What digits.Gray, digits.Place and list compute, whole. Conditions: lists that read as numbers.
-/
import Derived.Test.YtdmgkdaiegdfmaaGray
namespace Go.Proofs.Ytdmgkdaiegdfmaa
open Go.Am
set_option linter.unusedVariables false
set_option linter.unusedSimpArgs false

def grayRes (zs : List Int) (k : Int) : List Int × Int := if checkP zs ≠ 0 then ([], checkP zs) else if k < 0 ∨ prodL zs ≤ k then ([], 10) else (grayP zs k, 0)
theorem grayP_len : ∀ (zs : List Int) (k : Int), (grayP zs k).length = zs.length
  | [], _ => rfl
  | s :: r, k => by rw [grayP, List.length_cons, List.length_cons, grayP_len r]

theorem gray_call (sa : Option Addr) (c : Nat) (zs : List Int) (k : Int) (h : H) (hr : RdI h sa c zs) :
    ∃ sa' c' h', call T 14 [.slice sa zs.length c, .int .i64 k] h = some (.tuple #[.slice sa' (grayRes zs k).1.length c', .int .i64 (grayRes zs k).2], h') ∧ h <+: h' ∧ RdI h' sa' c' (grayRes zs k).1 := by
  have hc := check_call sa c zs h hr
  unfold grayRes
  by_cases h0 : checkP zs = 0
  · rw [if_neg (by simpa using h0)]
    rw [h0] at hc
    obtain ⟨hl1, hl2, hs, hp⟩ := checkP_ok h0
    have hpp := prodL_pos hs
    have hA := fun ks => grayAll_loop sa c zs k h ks hr hl2 zs.length 0 1 0 rfl (by omega) (by omega) hs (by rw [List.drop_zero, Int.one_mul]; exact hp)
    rw [List.drop_zero, Int.one_mul] at hA
    by_cases hk : k < 0 ∨ prodL zs ≤ k
    · rw [if_pos hk]
      refine ⟨none, 0, h, ?_, List.prefix_refl _, .inl ⟨rfl, rfl, rfl⟩⟩
      rw [call_at T14 rfl]
      unfold F14 c14
      by_cases hk1 : k < 0
      · simp (disch := first | omega | (simp only [Go.Am.len_push, Go.Am.len_set, Go.Am.len_kill] <;> omega) | fail) only [push_cast, Nat.reduceBEq, Nat.reduceAdd, Nat.reduceMul, Nat.reduceSub, Nat.reduceLT, Nat.reduceLeDiff, Nat.reduceEqDiff, Int.reduceToNat, Int.reduceAdd, Int.reduceMul, Int.reduceSub, Int.reduceNeg, Int.reduceLT, Int.reduceLE, Int.reduceEq, Nat.zero_add, Nat.add_zero, Nat.mul_one, eq_self, ne_eq, not_true, not_false_iff, and_true, true_and, and_self, List.getElem?_cons_zero, List.getElem?_cons_succ, List.map_cons, List.map_nil, hc, dec_eq, hA, dec_lt]
      · have hk2 : prodL zs ≤ k := by omega
        simp (disch := first | omega | (simp only [Go.Am.len_push, Go.Am.len_set, Go.Am.len_kill] <;> omega) | fail) only [push_cast, Nat.reduceBEq, Nat.reduceAdd, Nat.reduceMul, Nat.reduceSub, Nat.reduceLT, Nat.reduceLeDiff, Nat.reduceEqDiff, Int.reduceToNat, Int.reduceAdd, Int.reduceMul, Int.reduceSub, Int.reduceNeg, Int.reduceLT, Int.reduceLE, Int.reduceEq, Nat.zero_add, Nat.add_zero, Nat.mul_one, eq_self, ne_eq, not_true, not_false_iff, and_true, true_and, and_self, List.getElem?_cons_zero, List.getElem?_cons_succ, List.map_cons, List.map_nil, hc, dec_eq, hA, dec_nlt, dec_le]
    · rw [if_neg hk]
      have hmk : 0 ≤ (zs.length : Int) ∧ (zs.length : Int) ≤ (zs.length : Int) ∧ (zs.length : Int) ≤ 1099511627776 ∧ (zs.length : Int) * 8 ≤ 140737488355328 := by omega
      obtain ⟨g', w', hw', hp', hr', hgo⟩ := gray_loop h sa c zs hr hl2 zs.length 0 k 0 (List.replicate zs.length 0) (h ++ [.row ⟨ints (List.replicate zs.length 0), 3, 1, true⟩]) rfl (by omega) hs (by rw [List.drop_zero]; exact hp) (by omega) (by rw [List.drop_zero]; omega) (by simp) (List.prefix_append _ _) row_push_new
      rw [List.drop_zero, List.take_zero, List.nil_append] at hw'
      rw [List.drop_zero] at hgo
      subst hw'
      refine ⟨some ⟨h.length, 0, none⟩, (grayP zs k).length, g', ?_, hp', RdI.ofRow hr' rfl⟩
      rw [call_at T14 rfl, grayP_len]
      unfold F14 c14
      simp (disch := first | omega | (simp only [Go.Am.len_push, Go.Am.len_set, Go.Am.len_kill] <;> omega) | fail) only [push_cast, Nat.reduceBEq, Nat.reduceAdd, Nat.reduceMul, Nat.reduceSub, Nat.reduceLT, Nat.reduceLeDiff, Nat.reduceEqDiff, Int.reduceToNat, Int.reduceAdd, Int.reduceMul, Int.reduceSub, Int.reduceNeg, Int.reduceLT, Int.reduceLE, Int.reduceEq, Nat.zero_add, Nat.add_zero, Nat.mul_one, eq_self, ne_eq, not_true, not_false_iff, and_true, true_and, and_self, List.getElem?_cons_zero, List.getElem?_cons_succ, List.map_cons, List.map_nil, hc, dec_eq, hA, dec_nlt, dec_nle, hmk, rep_int, Int.toNat_natCast, hgo]
  · rw [if_pos (by simpa using h0)]
    refine ⟨none, 0, h, ?_, List.prefix_refl _, .inl ⟨rfl, rfl, rfl⟩⟩
    rw [call_at T14 rfl]
    unfold F14 c14
    simp (disch := first | omega | (simp only [Go.Am.len_push, Go.Am.len_set, Go.Am.len_kill] <;> omega) | fail) only [push_cast, Nat.reduceBEq, Nat.reduceAdd, Nat.reduceMul, Nat.reduceSub, Nat.reduceLT, Nat.reduceLeDiff, Nat.reduceEqDiff, Int.reduceToNat, Int.reduceAdd, Int.reduceMul, Int.reduceSub, Int.reduceNeg, Int.reduceLT, Int.reduceLE, Int.reduceEq, Nat.zero_add, Nat.add_zero, Nat.mul_one, eq_self, ne_eq, not_true, not_false_iff, and_true, true_and, and_self, List.getElem?_cons_zero, List.getElem?_cons_succ, List.map_cons, List.map_nil, hc, dec_ne h0]

/-! ### Place -/
def placeP : List Int → List Int → Int → Bool → Option Int
  | s :: r, d :: t, k, back => if d < 0 ∨ s ≤ d then none else placeP r t (k * s + (if back = true then s - 1 - d else d)) (decide (d % 2 = 1) != back)
  | _, _, k, _ => some k
def placeRes (zs ls : List Int) : Int × Int := if checkP zs ≠ 0 then (0, checkP zs) else if ls.length ≠ zs.length then (0, 6) else match placeP zs ls 0 false with
  | none => (0, 2)
  | some k => (k, 0)

theorem place_loop (h : H) (sa sb : Option Addr) (c cb : Nat) (zs ls : List Int) (ks : List It) (hr : RdI h sa c zs) (hb : RdI h sb cb ls) (hl : zs.length ≤ 10) (hll : ls.length = zs.length) : ∀ (j : Nat) (i k all : Int) (back : Bool) (iN : Nat), i = (iN : Int) → iN + j = zs.length → OkS (zs.drop iN) → all * prodL (zs.drop iN) ≤ 1024 → 0 ≤ k → k < all →
    goL T [.tmp 4, .tmp 5] [1, 7, 8, 9, 23, 24, 25] c16L0 (.blk 0 [7] :: ks) [(1, .slice sb ls.length cb), (7, .int .i64 k), (8, .bool back), (9, .int .i64 all), (23, .slice sa zs.length c), (24, .int .i64 zs.length), (25, .int .i64 i)] h =
      match placeP (zs.drop iN) (ls.drop iN) k back with
      | none => some (.tuple #[.int .i64 0, .int .i64 2], h)
      | some p => go T [.tmp 4, .tmp 5] ks (Fr.of [(7, .int .i64 p)]) h
  | 0, i, k, all, back, iN, hi, hk, hs, h2, h0, h1 => by
    subst hi
    rw [goL_at c16L0.eq_def, List.drop_eq_nil_of_le (by omega)]
    rw [placeP]
    simp (disch := first | omega | (simp only [Go.Am.len_push, Go.Am.len_set, Go.Am.len_kill] <;> omega) | fail) only [push_cast, Nat.reduceBEq, Nat.reduceAdd, Nat.reduceMul, Nat.reduceSub, Nat.reduceLT, Nat.reduceLeDiff, Nat.reduceEqDiff, Int.reduceToNat, Int.reduceAdd, Int.reduceMul, Int.reduceSub, Int.reduceNeg, Int.reduceLT, Int.reduceLE, Int.reduceEq, Nat.zero_add, Nat.add_zero, Nat.mul_one, eq_self, ne_eq, not_true, not_false_iff, and_true, true_and, and_self, List.getElem?_cons_zero, List.getElem?_cons_succ, List.map_cons, List.map_nil, dec_nlt]
    all_goals simp
  | j + 1, i, k, all, back, iN, hi, hk, hs, h2, h0, h1 => by
    subst hi
    rw [drop_gi (by omega)] at hs h2
    rw [goL_at c16L0.eq_def, drop_gi (zs := zs) (by omega), drop_gi (zs := ls) (by omega), placeP]
    obtain ⟨o, off, rfl, _, hld⟩ := hr.addr (by omega)
    obtain ⟨o', off', rfl, _, hld'⟩ := hb.addr (by omega)
    have e1 := hld (iN : Int) (by omega) (by omega)
    have e2 := hld' (iN : Int) (by omega) (by omega)
    have hi1 : 0 ≤ (iN : Int) ∧ (iN : Int) < (zs.length : Int) := by omega
    have hi2 : 0 ≤ (iN : Int) ∧ (iN : Int) < (ls.length : Int) := by omega
    have hh := hs.head
    have hpp := prodL_pos hs.tail
    rw [prodL] at h2
    obtain ⟨s, hsd⟩ : ∃ s, s = gi zs iN := ⟨_, rfl⟩
    obtain ⟨d, hdd⟩ : ∃ d, d = gi ls iN := ⟨_, rfl⟩
    rw [← hsd] at h2 hh e1 ⊢
    rw [← hdd] at e2 ⊢
    by_cases hd0 : d < 0
    · rw [if_pos (.inl hd0)]
      simp (disch := first | omega | (simp only [Go.Am.len_push, Go.Am.len_set, Go.Am.len_kill] <;> omega) | fail) only [push_cast, Nat.reduceBEq, Nat.reduceAdd, Nat.reduceMul, Nat.reduceSub, Nat.reduceLT, Nat.reduceLeDiff, Nat.reduceEqDiff, Int.reduceToNat, Int.reduceAdd, Int.reduceMul, Int.reduceSub, Int.reduceNeg, Int.reduceLT, Int.reduceLE, Int.reduceEq, Nat.zero_add, Nat.add_zero, Nat.mul_one, eq_self, ne_eq, not_true, not_false_iff, and_true, true_and, and_self, List.getElem?_cons_zero, List.getElem?_cons_succ, List.map_cons, List.map_nil, dec_lt, hi1, hi2, e1, e2]
    by_cases hd1 : s ≤ d
    · rw [if_pos (.inr hd1)]
      simp (disch := first | omega | (simp only [Go.Am.len_push, Go.Am.len_set, Go.Am.len_kill] <;> omega) | fail) only [push_cast, Nat.reduceBEq, Nat.reduceAdd, Nat.reduceMul, Nat.reduceSub, Nat.reduceLT, Nat.reduceLeDiff, Nat.reduceEqDiff, Int.reduceToNat, Int.reduceAdd, Int.reduceMul, Int.reduceSub, Int.reduceNeg, Int.reduceLT, Int.reduceLE, Int.reduceEq, Nat.zero_add, Nat.add_zero, Nat.mul_one, eq_self, ne_eq, not_true, not_false_iff, and_true, true_and, and_self, List.getElem?_cons_zero, List.getElem?_cons_succ, List.map_cons, List.map_nil, dec_lt, dec_nlt, dec_le, hi1, hi2, e1, e2]
    rw [if_neg (by omega)]
    have a1 : all * s * 1 ≤ all * s * prodL (zs.drop (iN + 1)) := Int.mul_le_mul_of_nonneg_left hpp (Int.mul_nonneg (by omega) (by omega))
    have h2' : all * s * prodL (zs.drop (iN + 1)) ≤ 1024 := by rw [Int.mul_assoc]; exact h2
    have a2 : (k + 1) * s ≤ all * s := Int.mul_le_mul_of_nonneg_right (by omega) (by omega)
    rw [Int.add_mul] at a2
    have a3 : 0 ≤ k * s := Int.mul_nonneg h0 (by omega)
    have q4 : d.tmod 2 = d % 2 := Int.tmod_eq_emod_of_nonneg (by omega)
    have ih := fun k' hk0 hk1 b => place_loop h _ _ c cb zs ls ks hr hb hl hll j ((iN : Int) + 1) k' (all * s) b (iN + 1) (by omega) (by omega) hs.tail h2' hk0 hk1
    cases back with
    | false =>
      have ih := ih (k * s + d) (by omega) (by omega)
      by_cases hodd : d % 2 = 1
      · have ih := ih true
        simp (disch := first | omega | (simp only [Go.Am.len_push, Go.Am.len_set, Go.Am.len_kill] <;> omega) | fail) only [push_cast, Nat.reduceBEq, Nat.reduceAdd, Nat.reduceMul, Nat.reduceSub, Nat.reduceLT, Nat.reduceLeDiff, Nat.reduceEqDiff, Int.reduceToNat, Int.reduceAdd, Int.reduceMul, Int.reduceSub, Int.reduceNeg, Int.reduceLT, Int.reduceLE, Int.reduceEq, Nat.zero_add, Nat.add_zero, Nat.mul_one, eq_self, ne_eq, not_true, not_false_iff, and_true, true_and, and_self, List.getElem?_cons_zero, List.getElem?_cons_succ, List.map_cons, List.map_nil, dec_lt, dec_nlt, dec_nle, wrap64, hi1, hi2, e1, e2, q4, dec_eq hodd]
        exact ih
      · have ih := ih false
        simp (disch := first | omega | (simp only [Go.Am.len_push, Go.Am.len_set, Go.Am.len_kill] <;> omega) | fail) only [push_cast, Nat.reduceBEq, Nat.reduceAdd, Nat.reduceMul, Nat.reduceSub, Nat.reduceLT, Nat.reduceLeDiff, Nat.reduceEqDiff, Int.reduceToNat, Int.reduceAdd, Int.reduceMul, Int.reduceSub, Int.reduceNeg, Int.reduceLT, Int.reduceLE, Int.reduceEq, Nat.zero_add, Nat.add_zero, Nat.mul_one, eq_self, ne_eq, not_true, not_false_iff, and_true, true_and, and_self, List.getElem?_cons_zero, List.getElem?_cons_succ, List.map_cons, List.map_nil, dec_lt, dec_nlt, dec_nle, wrap64, hi1, hi2, e1, e2, q4, dec_ne hodd]
        exact ih
    | true =>
      have ih := ih (k * s + (s - 1 - d)) (by omega) (by omega)
      by_cases hodd : d % 2 = 1
      · have ih := ih false
        simp (disch := first | omega | (simp only [Go.Am.len_push, Go.Am.len_set, Go.Am.len_kill] <;> omega) | fail) only [push_cast, Nat.reduceBEq, Nat.reduceAdd, Nat.reduceMul, Nat.reduceSub, Nat.reduceLT, Nat.reduceLeDiff, Nat.reduceEqDiff, Int.reduceToNat, Int.reduceAdd, Int.reduceMul, Int.reduceSub, Int.reduceNeg, Int.reduceLT, Int.reduceLE, Int.reduceEq, Nat.zero_add, Nat.add_zero, Nat.mul_one, eq_self, ne_eq, not_true, not_false_iff, and_true, true_and, and_self, List.getElem?_cons_zero, List.getElem?_cons_succ, List.map_cons, List.map_nil, dec_lt, dec_nlt, dec_nle, wrap64, hi1, hi2, e1, e2, q4, dec_eq hodd]
        exact ih
      · have ih := ih true
        simp (disch := first | omega | (simp only [Go.Am.len_push, Go.Am.len_set, Go.Am.len_kill] <;> omega) | fail) only [push_cast, Nat.reduceBEq, Nat.reduceAdd, Nat.reduceMul, Nat.reduceSub, Nat.reduceLT, Nat.reduceLeDiff, Nat.reduceEqDiff, Int.reduceToNat, Int.reduceAdd, Int.reduceMul, Int.reduceSub, Int.reduceNeg, Int.reduceLT, Int.reduceLE, Int.reduceEq, Nat.zero_add, Nat.add_zero, Nat.mul_one, eq_self, ne_eq, not_true, not_false_iff, and_true, true_and, and_self, List.getElem?_cons_zero, List.getElem?_cons_succ, List.map_cons, List.map_nil, dec_lt, dec_nlt, dec_nle, wrap64, hi1, hi2, e1, e2, q4, dec_ne hodd]
        exact ih

theorem place_call (sa sb : Option Addr) (c cb : Nat) (zs ls : List Int) (h : H) (hr : RdI h sa c zs) (hb : RdI h sb cb ls) :
    call T 16 [.slice sa zs.length c, .slice sb ls.length cb] h = some (.tuple #[.int .i64 (placeRes zs ls).1, .int .i64 (placeRes zs ls).2], h) := by
  have hc := check_call sa c zs h hr
  unfold placeRes
  rw [call_at T16 rfl]
  unfold F16 c16
  by_cases h0 : checkP zs = 0
  · rw [if_neg (by simpa using h0)]
    rw [h0] at hc
    obtain ⟨hl1, hl3, hs, hp⟩ := checkP_ok h0
    by_cases hll : ls.length = zs.length
    · rw [if_neg (by simpa using hll)]
      have hL := fun ks => place_loop h sa sb c cb zs ls ks hr hb hl3 hll zs.length 0 0 1 false 0 rfl (by omega) hs (by rw [List.drop_zero, Int.one_mul]; exact hp) (by omega) (by omega)
      simp only [List.drop_zero] at hL
      have hll' : (ls.length : Int) = (zs.length : Int) := by omega
      cases hpl : placeP zs ls 0 false with
      | none =>
        simp only [hpl] at hL
        simp (disch := first | omega | (simp only [Go.Am.len_push, Go.Am.len_set, Go.Am.len_kill] <;> omega) | fail) only [push_cast, Nat.reduceBEq, Nat.reduceAdd, Nat.reduceMul, Nat.reduceSub, Nat.reduceLT, Nat.reduceLeDiff, Nat.reduceEqDiff, Int.reduceToNat, Int.reduceAdd, Int.reduceMul, Int.reduceSub, Int.reduceNeg, Int.reduceLT, Int.reduceLE, Int.reduceEq, Nat.zero_add, Nat.add_zero, Nat.mul_one, eq_self, ne_eq, not_true, not_false_iff, and_true, true_and, and_self, List.getElem?_cons_zero, List.getElem?_cons_succ, List.map_cons, List.map_nil, hc, dec_eq, hL]
      | some k =>
        simp only [hpl] at hL
        simp (disch := first | omega | (simp only [Go.Am.len_push, Go.Am.len_set, Go.Am.len_kill] <;> omega) | fail) only [push_cast, Nat.reduceBEq, Nat.reduceAdd, Nat.reduceMul, Nat.reduceSub, Nat.reduceLT, Nat.reduceLeDiff, Nat.reduceEqDiff, Int.reduceToNat, Int.reduceAdd, Int.reduceMul, Int.reduceSub, Int.reduceNeg, Int.reduceLT, Int.reduceLE, Int.reduceEq, Nat.zero_add, Nat.add_zero, Nat.mul_one, eq_self, ne_eq, not_true, not_false_iff, and_true, true_and, and_self, List.getElem?_cons_zero, List.getElem?_cons_succ, List.map_cons, List.map_nil, hc, dec_eq, hL]
    · rw [if_pos (by simpa using hll)]
      have hll' : ¬ (ls.length : Int) = (zs.length : Int) := by omega
      simp (disch := first | omega | (simp only [Go.Am.len_push, Go.Am.len_set, Go.Am.len_kill] <;> omega) | fail) only [push_cast, Nat.reduceBEq, Nat.reduceAdd, Nat.reduceMul, Nat.reduceSub, Nat.reduceLT, Nat.reduceLeDiff, Nat.reduceEqDiff, Int.reduceToNat, Int.reduceAdd, Int.reduceMul, Int.reduceSub, Int.reduceNeg, Int.reduceLT, Int.reduceLE, Int.reduceEq, Nat.zero_add, Nat.add_zero, Nat.mul_one, eq_self, ne_eq, not_true, not_false_iff, and_true, true_and, and_self, List.getElem?_cons_zero, List.getElem?_cons_succ, List.map_cons, List.map_nil, hc, dec_eq, dec_ne hll']
  · rw [if_pos (by simpa using h0)]
    simp (disch := first | omega | (simp only [Go.Am.len_push, Go.Am.len_set, Go.Am.len_kill] <;> omega) | fail) only [push_cast, Nat.reduceBEq, Nat.reduceAdd, Nat.reduceMul, Nat.reduceSub, Nat.reduceLT, Nat.reduceLeDiff, Nat.reduceEqDiff, Int.reduceToNat, Int.reduceAdd, Int.reduceMul, Int.reduceSub, Int.reduceNeg, Int.reduceLT, Int.reduceLE, Int.reduceEq, Nat.zero_add, Nat.add_zero, Nat.mul_one, eq_self, ne_eq, not_true, not_false_iff, and_true, true_and, and_self, List.getElem?_cons_zero, List.getElem?_cons_succ, List.map_cons, List.map_nil, hc, dec_ne h0]

/-! ### list -/
theorem list_call (sa sb : Option Addr) (ca cb : Nat) (xs ys : List Int) (e f : Int) (h : H) (hl : xs.length ≤ 140737488351232) (ha : RdI h sa ca xs) (hb : RdI h sb cb ys) :
    call T 15 [.slice sa xs.length ca, .int .i64 e, .slice sb ys.length cb, .int .i64 f] h = some (.bool (if f ≠ 0 then decide (e = f) && decide (xs.length = 0) else decide (e = 0) && decide (xs = ys)), h) := by
  have hc := same_call sa sb ca cb xs ys h hl ha hb
  rw [call_at T15 rfl]
  unfold F15 c15
  by_cases hf : f = 0
  · subst hf
    by_cases he : e = 0
    · subst he
      simp (disch := first | omega | (simp only [Go.Am.len_push, Go.Am.len_set, Go.Am.len_kill] <;> omega) | fail) only [push_cast, Nat.reduceBEq, Nat.reduceAdd, Nat.reduceMul, Nat.reduceSub, Nat.reduceLT, Nat.reduceLeDiff, Nat.reduceEqDiff, Int.reduceToNat, Int.reduceAdd, Int.reduceMul, Int.reduceSub, Int.reduceNeg, Int.reduceLT, Int.reduceLE, Int.reduceEq, Nat.zero_add, Nat.add_zero, Nat.mul_one, eq_self, ne_eq, not_true, not_false_iff, and_true, true_and, and_self, List.getElem?_cons_zero, List.getElem?_cons_succ, List.map_cons, List.map_nil, dec_eq, hc]
    · simp (disch := first | omega | (simp only [Go.Am.len_push, Go.Am.len_set, Go.Am.len_kill] <;> omega) | fail) only [push_cast, Nat.reduceBEq, Nat.reduceAdd, Nat.reduceMul, Nat.reduceSub, Nat.reduceLT, Nat.reduceLeDiff, Nat.reduceEqDiff, Int.reduceToNat, Int.reduceAdd, Int.reduceMul, Int.reduceSub, Int.reduceNeg, Int.reduceLT, Int.reduceLE, Int.reduceEq, Nat.zero_add, Nat.add_zero, Nat.mul_one, eq_self, ne_eq, not_true, not_false_iff, and_true, true_and, and_self, List.getElem?_cons_zero, List.getElem?_cons_succ, List.map_cons, List.map_nil, dec_eq, dec_ne he, hc]
  · rw [if_pos hf]
    by_cases he : e = f
    · by_cases hx : (xs.length : Int) = 0
      · have hx' : xs.length = 0 := by omega
        simp (disch := first | omega | (simp only [Go.Am.len_push, Go.Am.len_set, Go.Am.len_kill] <;> omega) | fail) only [push_cast, Nat.reduceBEq, Nat.reduceAdd, Nat.reduceMul, Nat.reduceSub, Nat.reduceLT, Nat.reduceLeDiff, Nat.reduceEqDiff, Int.reduceToNat, Int.reduceAdd, Int.reduceMul, Int.reduceSub, Int.reduceNeg, Int.reduceLT, Int.reduceLE, Int.reduceEq, Nat.zero_add, Nat.add_zero, Nat.mul_one, eq_self, ne_eq, not_true, not_false_iff, and_true, true_and, and_self, List.getElem?_cons_zero, List.getElem?_cons_succ, List.map_cons, List.map_nil, dec_ne hf, dec_eq he, dec_eq hx, decide_eq_true he, decide_eq_true hx']
      · have hx' : ¬ xs.length = 0 := by omega
        simp (disch := first | omega | (simp only [Go.Am.len_push, Go.Am.len_set, Go.Am.len_kill] <;> omega) | fail) only [push_cast, Nat.reduceBEq, Nat.reduceAdd, Nat.reduceMul, Nat.reduceSub, Nat.reduceLT, Nat.reduceLeDiff, Nat.reduceEqDiff, Int.reduceToNat, Int.reduceAdd, Int.reduceMul, Int.reduceSub, Int.reduceNeg, Int.reduceLT, Int.reduceLE, Int.reduceEq, Nat.zero_add, Nat.add_zero, Nat.mul_one, eq_self, ne_eq, not_true, not_false_iff, and_true, true_and, and_self, List.getElem?_cons_zero, List.getElem?_cons_succ, List.map_cons, List.map_nil, dec_ne hf, dec_eq he, dec_ne hx, decide_eq_true he, decide_eq_false hx']
    · simp (disch := first | omega | (simp only [Go.Am.len_push, Go.Am.len_set, Go.Am.len_kill] <;> omega) | fail) only [push_cast, Nat.reduceBEq, Nat.reduceAdd, Nat.reduceMul, Nat.reduceSub, Nat.reduceLT, Nat.reduceLeDiff, Nat.reduceEqDiff, Int.reduceToNat, Int.reduceAdd, Int.reduceMul, Int.reduceSub, Int.reduceNeg, Int.reduceLT, Int.reduceLE, Int.reduceEq, Nat.zero_add, Nat.add_zero, Nat.mul_one, eq_self, ne_eq, not_true, not_false_iff, and_true, true_and, and_self, List.getElem?_cons_zero, List.getElem?_cons_succ, List.map_cons, List.map_nil, dec_ne hf, dec_ne he]
end Go.Proofs.Ytdmgkdaiegdfmaa
