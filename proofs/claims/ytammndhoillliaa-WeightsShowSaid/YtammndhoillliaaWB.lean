/-
  What weights.power, choose, kraw and the document's Power, Kraw compute. Conditions: small numbers.
-/
import Derived.Test.YtammndhoillliaaWA
import Derived.Test.YtammndhoillliaaFPc
import Derived.Test.YtammndhoillliaaFRd
namespace Go.Proofs.Ytammndhoillliaa
open Go.Am
set_option linter.unusedVariables false
set_option linter.unusedSimpArgs false
set_option maxRecDepth 30000

/-! ### power -/
def capP (q : Int) : Nat → Int → Int
  | 0, p => p
  | n + 1, p => if 1073741824 < p * q then -1 else capP q n (p * q)
theorem capP_few {q : Int} (hq : 2 ≤ q) : ∀ (n : Nat) (p : Int), 1 ≤ p → p ≤ 1073741824 → 0 ≤ capP q n p → p * 2 ^ n ≤ 1073741824
  | 0, p, h1, h2, h => by simpa using h2
  | n + 1, p, h1, h2, h => by
    rw [capP] at h
    split at h
    · omega
    · have h3 : p * 2 ≤ p * q := Int.mul_le_mul_of_nonneg_left hq (by omega)
      have := capP_few hq n (p * q) (by omega) (by omega) h
      have h4 : p * 2 * 2 ^ n ≤ p * q * 2 ^ n := Int.mul_le_mul_of_nonneg_right h3 (Int.le_of_lt (Int.pow_pos (by omega)))
      rw [Int.pow_succ]
      grind
theorem capP_n {q : Int} (hq : 2 ≤ q) {n : Nat} (h : 0 ≤ capP q n 1) : n ≤ 30 := by
  have h1 := capP_few hq n 1 (by omega) (by omega) h
  rw [Int.one_mul] at h1
  have h2 : 2 ^ n ≤ 2 ^ 30 := by
    have : ((2 ^ n : Nat) : Int) ≤ ((2 ^ 30 : Nat) : Int) := by simpa using h1
    exact Int.ofNat_le.1 this
  exact (Nat.pow_le_pow_iff_right (by omega)).1 h2

section
variable {q : Int}
theorem wpow_loop (h2 : 2 ≤ q) (h64 : q ≤ 64) (h : H) (N : Int) (hN : N ≤ 9223372036854775807) : ∀ (n : Nat) (i p : Int), 0 ≤ i → i + n = N → 1 ≤ p → p ≤ 1073741824 → ∀ ks, (∀ fr, go T [.tmp 4] ks fr h = go T [.tmp 4] ks fr h) →
    goL T [.tmp 4] [0, 5, 6, 7] c165L0 (.blk 0 [5] :: .code (.seq (.region [⟨some 15, .mv (.tmp 5), none, false⟩, ⟨some 4, .mv (.tmp 15), none, false⟩]) .ret) :: ks) [(0, .int .i64 q), (5, .int .i64 p), (6, .int .i64 N), (7, .int .i64 i)] h =
      some (.int .i64 (capP q n p), h)
  | 0, i, p, h0, hi, p1, p2, ks, _ => by
    rw [goL_at c165L0.eq_def]
    have hle : N ≤ i := by omega
    simp (disch := first | omega | (simp only [Go.Am.len_push, Go.Am.len_set, Go.Am.len_kill] <;> omega) | fail) only [push_cast, Nat.reduceBEq, Nat.reduceAdd, Nat.reduceMul, Nat.reduceSub, Nat.reduceLT, Nat.reduceGT, Nat.reduceLeDiff, Nat.reduceEqDiff, Int.reduceToNat, Int.reduceAdd, Int.reduceMul, Int.reduceSub, Int.reduceNeg, Int.reduceLT, Int.reduceLE, Int.reduceEq, Nat.zero_add, Nat.add_zero, Nat.mul_one, eq_self, ne_eq, not_true, not_false_iff, and_true, true_and, and_self, List.getElem?_cons_zero, List.getElem?_cons_succ, List.map_cons, List.map_nil, dec_nlt hle]
    rw [capP]
  | n + 1, i, p, h0, hi, p1, p2, ks, hks => by
    have hlt : i < N := by omega
    have hm : 0 ≤ p * q ∧ p * q ≤ 68719476736 := ⟨Int.mul_nonneg (by omega) (by omega), by
      have := Int.mul_le_mul p2 h64 (by omega) (by omega); omega⟩
    have hm1 : 1 ≤ p * q := by
      have := Int.mul_le_mul_of_nonneg_left h2 (show 0 ≤ p by omega); omega
    rw [goL_at c165L0.eq_def, capP]
    by_cases hb : 1073741824 < p * q
    · rw [if_pos hb]
      simp (disch := first | omega | (simp only [Go.Am.len_push, Go.Am.len_set, Go.Am.len_kill] <;> omega) | fail) only [push_cast, Nat.reduceBEq, Nat.reduceAdd, Nat.reduceMul, Nat.reduceSub, Nat.reduceLT, Nat.reduceGT, Nat.reduceLeDiff, Nat.reduceEqDiff, Int.reduceToNat, Int.reduceAdd, Int.reduceMul, Int.reduceSub, Int.reduceNeg, Int.reduceLT, Int.reduceLE, Int.reduceEq, Nat.zero_add, Nat.add_zero, Nat.mul_one, eq_self, ne_eq, not_true, not_false_iff, and_true, true_and, and_self, List.getElem?_cons_zero, List.getElem?_cons_succ, List.map_cons, List.map_nil, dec_lt hlt, wrap64, dec_lt hb]
    · rw [if_neg hb, ← wpow_loop h2 h64 h N hN n (i + 1) (p * q) (by omega) (by omega) hm1 (by omega) ks hks]
      simp (disch := first | omega | (simp only [Go.Am.len_push, Go.Am.len_set, Go.Am.len_kill] <;> omega) | fail) only [push_cast, Nat.reduceBEq, Nat.reduceAdd, Nat.reduceMul, Nat.reduceSub, Nat.reduceLT, Nat.reduceGT, Nat.reduceLeDiff, Nat.reduceEqDiff, Int.reduceToNat, Int.reduceAdd, Int.reduceMul, Int.reduceSub, Int.reduceNeg, Int.reduceLT, Int.reduceLE, Int.reduceEq, Nat.zero_add, Nat.add_zero, Nat.mul_one, eq_self, ne_eq, not_true, not_false_iff, and_true, true_and, and_self, List.getElem?_cons_zero, List.getElem?_cons_succ, List.map_cons, List.map_nil, dec_lt hlt, wrap64, dec_nlt (Int.not_lt.1 hb)]
theorem wpow_call (h2 : 2 ≤ q) (h64 : q ≤ 64) (n : Int) (hn : 0 ≤ n) (hn2 : n ≤ 9223372036854775807) (h : H) : call T 165 [.int .i64 q, .int .i64 n] h = some (.int .i64 (capP q n.toNat 1), h) := by
  rw [call_at T165 rfl]
  unfold F165 c165
  simp (disch := first | omega | (simp only [Go.Am.len_push, Go.Am.len_set, Go.Am.len_kill] <;> omega) | fail) only [push_cast, Nat.reduceBEq, Nat.reduceAdd, Nat.reduceMul, Nat.reduceSub, Nat.reduceLT, Nat.reduceGT, Nat.reduceLeDiff, Nat.reduceEqDiff, Int.reduceToNat, Int.reduceAdd, Int.reduceMul, Int.reduceSub, Int.reduceNeg, Int.reduceLT, Int.reduceLE, Int.reduceEq, Nat.zero_add, Nat.add_zero, Nat.mul_one, eq_self, ne_eq, not_true, not_false_iff, and_true, true_and, and_self, List.getElem?_cons_zero, List.getElem?_cons_succ, List.map_cons, List.map_nil]
  exact wpow_loop h2 h64 h n hn2 n.toNat 0 1 (by omega) (by omega) (by omega) (by omega) [] (fun _ => rfl)

theorem dpow_loop (h2 : 2 ≤ q) (h64 : q ≤ 64) (h : H) (N : Int) (hN : N ≤ 9223372036854775807) : ∀ (n : Nat) (i p : Int), 0 ≤ i → i + n = N → 1 ≤ p → p ≤ 1073741824 → ∀ ks,
    goL T [.tmp 4] [0, 1, 5, 6] c119L0 (.blk 0 [5] :: .code (.seq (.region [⟨some 17, .mv (.tmp 5), none, false⟩, ⟨some 4, .mv (.tmp 17), none, false⟩]) .ret) :: ks) [(0, .int .i64 q), (1, .int .i64 N), (5, .int .i64 p), (6, .int .i64 i)] h =
      some (.int .i64 (capP q n p), h)
  | 0, i, p, h0, hi, p1, p2, ks => by
    rw [goL_at c119L0.eq_def]
    have hle : N ≤ i := by omega
    simp (disch := first | omega | (simp only [Go.Am.len_push, Go.Am.len_set, Go.Am.len_kill] <;> omega) | fail) only [push_cast, Nat.reduceBEq, Nat.reduceAdd, Nat.reduceMul, Nat.reduceSub, Nat.reduceLT, Nat.reduceGT, Nat.reduceLeDiff, Nat.reduceEqDiff, Int.reduceToNat, Int.reduceAdd, Int.reduceMul, Int.reduceSub, Int.reduceNeg, Int.reduceLT, Int.reduceLE, Int.reduceEq, Nat.zero_add, Nat.add_zero, Nat.mul_one, eq_self, ne_eq, not_true, not_false_iff, and_true, true_and, and_self, List.getElem?_cons_zero, List.getElem?_cons_succ, List.map_cons, List.map_nil, dec_nlt hle]
    rw [capP]
  | n + 1, i, p, h0, hi, p1, p2, ks => by
    have hlt : i < N := by omega
    have hm : 0 ≤ p * q ∧ p * q ≤ 68719476736 := ⟨Int.mul_nonneg (by omega) (by omega), by
      have := Int.mul_le_mul p2 h64 (by omega) (by omega); omega⟩
    have hm1 : 1 ≤ p * q := by
      have := Int.mul_le_mul_of_nonneg_left h2 (show 0 ≤ p by omega); omega
    rw [goL_at c119L0.eq_def, capP]
    by_cases hb : 1073741824 < p * q
    · rw [if_pos hb]
      simp (disch := first | omega | (simp only [Go.Am.len_push, Go.Am.len_set, Go.Am.len_kill] <;> omega) | fail) only [push_cast, Nat.reduceBEq, Nat.reduceAdd, Nat.reduceMul, Nat.reduceSub, Nat.reduceLT, Nat.reduceGT, Nat.reduceLeDiff, Nat.reduceEqDiff, Int.reduceToNat, Int.reduceAdd, Int.reduceMul, Int.reduceSub, Int.reduceNeg, Int.reduceLT, Int.reduceLE, Int.reduceEq, Nat.zero_add, Nat.add_zero, Nat.mul_one, eq_self, ne_eq, not_true, not_false_iff, and_true, true_and, and_self, List.getElem?_cons_zero, List.getElem?_cons_succ, List.map_cons, List.map_nil, dec_lt hlt, wrap64, dec_lt hb]
    · rw [if_neg hb, ← dpow_loop h2 h64 h N hN n (i + 1) (p * q) (by omega) (by omega) hm1 (by omega) ks]
      simp (disch := first | omega | (simp only [Go.Am.len_push, Go.Am.len_set, Go.Am.len_kill] <;> omega) | fail) only [push_cast, Nat.reduceBEq, Nat.reduceAdd, Nat.reduceMul, Nat.reduceSub, Nat.reduceLT, Nat.reduceGT, Nat.reduceLeDiff, Nat.reduceEqDiff, Int.reduceToNat, Int.reduceAdd, Int.reduceMul, Int.reduceSub, Int.reduceNeg, Int.reduceLT, Int.reduceLE, Int.reduceEq, Nat.zero_add, Nat.add_zero, Nat.mul_one, eq_self, ne_eq, not_true, not_false_iff, and_true, true_and, and_self, List.getElem?_cons_zero, List.getElem?_cons_succ, List.map_cons, List.map_nil, dec_lt hlt, wrap64, dec_nlt (Int.not_lt.1 hb)]
theorem dpow_call (h2 : 2 ≤ q) (h64 : q ≤ 64) (n : Int) (hn : 0 ≤ n) (hn2 : n ≤ 9223372036854775807) (h : H) : call T 119 [.int .i64 q, .int .i64 n] h = some (.int .i64 (capP q n.toNat 1), h) := by
  rw [call_at T119 rfl]
  unfold F119 c119
  simp (disch := first | omega | (simp only [Go.Am.len_push, Go.Am.len_set, Go.Am.len_kill] <;> omega) | fail) only [push_cast, Nat.reduceBEq, Nat.reduceAdd, Nat.reduceMul, Nat.reduceSub, Nat.reduceLT, Nat.reduceGT, Nat.reduceLeDiff, Nat.reduceEqDiff, Int.reduceToNat, Int.reduceAdd, Int.reduceMul, Int.reduceSub, Int.reduceNeg, Int.reduceLT, Int.reduceLE, Int.reduceEq, Nat.zero_add, Nat.add_zero, Nat.mul_one, eq_self, ne_eq, not_true, not_false_iff, and_true, true_and, and_self, List.getElem?_cons_zero, List.getElem?_cons_succ, List.map_cons, List.map_nil]
  exact dpow_loop h2 h64 h n hn2 n.toNat 0 1 (by omega) (by omega) (by omega) (by omega) []
end

/-! ### choose -/
theorem bin_small {n k : Nat} (hn : n ≤ 30) : ((bin n k : Nat) : Int) ≤ 1073741824 := by
  have h1 := bin_le n k
  have h2 : 2 ^ n ≤ 2 ^ 30 := Nat.pow_le_pow_right (by omega) hn
  have : bin n k ≤ 1073741824 := by omega
  omega
theorem pchoose_loop (h : H) (n : Nat) (hn : n ≤ 30) (k : Nat) (hk : k ≤ n) : ∀ (m i : Nat), i + m = k → ∀ ks,
    goL T [.tmp 4] [0, 5, 14, 15] c166L0 (.blk 0 [5] :: ks) [(0, .int .i64 n), (5, .int .i64 (bin n i : Nat)), (14, .int .i64 k), (15, .int .i64 i)] h =
      go T [.tmp 4] ks (Fr.of [(5, .int .i64 (bin n k : Nat))]) h
  | 0, i, hi, ks => by
    rw [goL_at c166L0.eq_def]
    obtain rfl : i = k := by omega
    simp (disch := first | omega | (simp only [Go.Am.len_push, Go.Am.len_set, Go.Am.len_kill] <;> omega) | fail) only [push_cast, Nat.reduceBEq, Nat.reduceAdd, Nat.reduceMul, Nat.reduceSub, Nat.reduceLT, Nat.reduceGT, Nat.reduceLeDiff, Nat.reduceEqDiff, Int.reduceToNat, Int.reduceAdd, Int.reduceMul, Int.reduceSub, Int.reduceNeg, Int.reduceLT, Int.reduceLE, Int.reduceEq, Nat.zero_add, Nat.add_zero, Nat.mul_one, eq_self, ne_eq, not_true, not_false_iff, and_true, true_and, and_self, List.getElem?_cons_zero, List.getElem?_cons_succ, List.map_cons, List.map_nil, dec_nlt (Int.le_refl _)]
  | m + 1, i, hi, ks => by
    have hlt : (i : Int) < (k : Int) := by omega
    have hs := bin_small (k := i) hn
    have hm : 0 ≤ ((bin n i : Nat) : Int) * ((n : Int) - (i : Int)) ∧ ((bin n i : Nat) : Int) * ((n : Int) - (i : Int)) ≤ 1073741824 * 30 := ⟨Int.mul_nonneg (by omega) (by omega), Int.mul_le_mul hs (by omega) (by omega) (by omega)⟩
    have hst := bin_step (n := n) (i := i) (by omega)
    have hs2 := bin_small (k := i + 1) hn
    have hz : ¬ (i : Int) + 1 = 0 := by omega
    have ih := pchoose_loop h n hn k hk m (i + 1) (by omega) ks
    rw [Int.natCast_add, Int.natCast_one] at ih
    rw [goL_at c166L0.eq_def, ← ih]
    simp (disch := first | omega | (simp only [Go.Am.len_push, Go.Am.len_set, Go.Am.len_kill] <;> omega) | fail) only [push_cast, Nat.reduceBEq, Nat.reduceAdd, Nat.reduceMul, Nat.reduceSub, Nat.reduceLT, Nat.reduceGT, Nat.reduceLeDiff, Nat.reduceEqDiff, Int.reduceToNat, Int.reduceAdd, Int.reduceMul, Int.reduceSub, Int.reduceNeg, Int.reduceLT, Int.reduceLE, Int.reduceEq, Nat.zero_add, Nat.add_zero, Nat.mul_one, eq_self, ne_eq, not_true, not_false_iff, and_true, true_and, and_self, List.getElem?_cons_zero, List.getElem?_cons_succ, List.map_cons, List.map_nil, dec_lt hlt, wrap64, hz, hst]
theorem pchoose_call (n k : Nat) (hn : n ≤ 30) (hk : k ≤ 1000) (h : H) : call T 166 [.int .i64 n, .int .i64 k] h = some (.int .i64 (bin n k : Nat), h) := by
  have h0 : (0 : Int) ≤ (k : Int) := by omega
  rw [call_at T166 rfl]
  unfold F166 c166
  by_cases hb : n < k
  · have hlt : (n : Int) < (k : Int) := by omega
    rw [bin_big n k hb]
    simp (disch := first | omega | (simp only [Go.Am.len_push, Go.Am.len_set, Go.Am.len_kill] <;> omega) | fail) only [push_cast, Nat.reduceBEq, Nat.reduceAdd, Nat.reduceMul, Nat.reduceSub, Nat.reduceLT, Nat.reduceGT, Nat.reduceLeDiff, Nat.reduceEqDiff, Int.reduceToNat, Int.reduceAdd, Int.reduceMul, Int.reduceSub, Int.reduceNeg, Int.reduceLT, Int.reduceLE, Int.reduceEq, Nat.zero_add, Nat.add_zero, Nat.mul_one, eq_self, ne_eq, not_true, not_false_iff, and_true, true_and, and_self, List.getElem?_cons_zero, List.getElem?_cons_succ, List.map_cons, List.map_nil, dec_nlt h0, dec_lt hlt]
  · have hle : (k : Int) ≤ (n : Int) := by omega
    have hl := pchoose_loop h n hn k (by omega) k 0 (by omega)
    rw [bin_zero] at hl
    simp (disch := first | omega | (simp only [Go.Am.len_push, Go.Am.len_set, Go.Am.len_kill] <;> omega) | fail) only [push_cast, Nat.reduceBEq, Nat.reduceAdd, Nat.reduceMul, Nat.reduceSub, Nat.reduceLT, Nat.reduceGT, Nat.reduceLeDiff, Nat.reduceEqDiff, Int.reduceToNat, Int.reduceAdd, Int.reduceMul, Int.reduceSub, Int.reduceNeg, Int.reduceLT, Int.reduceLE, Int.reduceEq, Nat.zero_add, Nat.add_zero, Nat.mul_one, eq_self, ne_eq, not_true, not_false_iff, and_true, true_and, and_self, List.getElem?_cons_zero, List.getElem?_cons_succ, List.map_cons, List.map_nil, dec_nlt h0, dec_nlt hle]
    have hl' := hl [.code (.seq (.region [⟨some 27, .mv (.tmp 5), none, false⟩, ⟨some 4, .mv (.tmp 27), none, false⟩]) .ret)]
    simp only [Int.natCast_zero, Int.natCast_one] at hl'
    rw [hl']
    simp (disch := first | omega | (simp only [Go.Am.len_push, Go.Am.len_set, Go.Am.len_kill] <;> omega) | fail) only [push_cast, Nat.reduceBEq, Nat.reduceAdd, Nat.reduceMul, Nat.reduceSub, Nat.reduceLT, Nat.reduceGT, Nat.reduceLeDiff, Nat.reduceEqDiff, Int.reduceToNat, Int.reduceAdd, Int.reduceMul, Int.reduceSub, Int.reduceNeg, Int.reduceLT, Int.reduceLE, Int.reduceEq, Nat.zero_add, Nat.add_zero, Nat.mul_one, eq_self, ne_eq, not_true, not_false_iff, and_true, true_and, and_self, List.getElem?_cons_zero, List.getElem?_cons_succ, List.map_cons, List.map_nil]
end Go.Proofs.Ytammndhoillliaa
