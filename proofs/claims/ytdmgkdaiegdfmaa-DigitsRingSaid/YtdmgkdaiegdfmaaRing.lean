/-
  What RingMay computes. Conditions: numbers of Go's int.
-/
import Derived.Test.YtdmgkdaiegdfmaaCode
namespace Go.Proofs.Ytdmgkdaiegdfmaa
open Go.Am
set_option linter.unusedVariables false
set_option linter.unusedSimpArgs false

def ringLoop (q : Int) : Nat → Int → Int × Int
  | 0, all => (all, 0)
  | k + 1, all => if 1024 < all * q then (0, 4) else ringLoop q k (all * q)
def ringMay (q n : Int) : Int × Int := if q < 2 ∨ 10 < q ∨ n < 1 then (0, 6) else ringLoop q n.toNat 1

theorem ringMay_loop (q n : Int) (h : H) (ks : List It) (hq : 2 ≤ q) (hq2 : q ≤ 10) (hn : n ≤ 9223372036854775807) : ∀ (k : Nat) (i all : Int), n = i + k → 0 ≤ i → 1 ≤ all → all ≤ 1024 →
    goL T [.tmp 4, .tmp 5] [0, 1, 6, 7] c7L0 (.blk 0 [6] :: ks) [(0, .int .i64 q), (1, .int .i64 n), (6, .int .i64 all), (7, .int .i64 i)] h =
      if (ringLoop q k all).2 = 0 then go T [.tmp 4, .tmp 5] ks (Fr.of [(6, .int .i64 (ringLoop q k all).1)]) h else some (.tuple #[.int .i64 0, .int .i64 4], h)
  | 0, i, all, hk, h0, h1, h2 => by
    rw [goL_at c7L0.eq_def]
    simp (disch := first | omega | (simp only [Go.Am.len_push, Go.Am.len_set, Go.Am.len_kill] <;> omega) | fail) only [push_cast, Nat.reduceBEq, Nat.reduceAdd, Nat.reduceMul, Nat.reduceSub, Nat.reduceLT, Nat.reduceLeDiff, Nat.reduceEqDiff, Int.reduceToNat, Int.reduceAdd, Int.reduceMul, Int.reduceSub, Int.reduceNeg, Int.reduceLT, Int.reduceLE, Int.reduceEq, Nat.zero_add, Nat.add_zero, Nat.mul_one, eq_self, ne_eq, not_true, not_false_iff, and_true, true_and, and_self, List.getElem?_cons_zero, List.getElem?_cons_succ, List.map_cons, List.map_nil, dec_nlt]
    simp [ringLoop]
  | k + 1, i, all, hk, h0, h1, h2 => by
    have hm : all * q ≤ 10240 := by
      have : all * q ≤ 1024 * 10 := Int.mul_le_mul h2 hq2 (by omega) (by omega)
      omega
    have hm2 : 1 ≤ all * q := by
      have : 1 * 1 ≤ all * q := Int.mul_le_mul h1 (by omega) (by omega) (by omega)
      omega
    rw [goL_at c7L0.eq_def]
    by_cases hb : 1024 < all * q
    · simp (disch := first | omega | (simp only [Go.Am.len_push, Go.Am.len_set, Go.Am.len_kill] <;> omega) | fail) only [push_cast, Nat.reduceBEq, Nat.reduceAdd, Nat.reduceMul, Nat.reduceSub, Nat.reduceLT, Nat.reduceLeDiff, Nat.reduceEqDiff, Int.reduceToNat, Int.reduceAdd, Int.reduceMul, Int.reduceSub, Int.reduceNeg, Int.reduceLT, Int.reduceLE, Int.reduceEq, Nat.zero_add, Nat.add_zero, Nat.mul_one, eq_self, ne_eq, not_true, not_false_iff, and_true, true_and, and_self, List.getElem?_cons_zero, List.getElem?_cons_succ, List.map_cons, List.map_nil, dec_lt, wrap64]
      simp [ringLoop, hb]
    · simp (disch := first | omega | (simp only [Go.Am.len_push, Go.Am.len_set, Go.Am.len_kill] <;> omega) | fail) only [push_cast, Nat.reduceBEq, Nat.reduceAdd, Nat.reduceMul, Nat.reduceSub, Nat.reduceLT, Nat.reduceLeDiff, Nat.reduceEqDiff, Int.reduceToNat, Int.reduceAdd, Int.reduceMul, Int.reduceSub, Int.reduceNeg, Int.reduceLT, Int.reduceLE, Int.reduceEq, Nat.zero_add, Nat.add_zero, Nat.mul_one, eq_self, ne_eq, not_true, not_false_iff, and_true, true_and, and_self, List.getElem?_cons_zero, List.getElem?_cons_succ, List.map_cons, List.map_nil, dec_lt, dec_nlt, wrap64]
      rw [ringMay_loop q n h ks hq hq2 hn k (i + 1) (all * q) (by omega) (by omega) (by omega) (by omega)]
      simp [ringLoop, hb]
theorem ringMay_call (q n : Int) (h : H) (hn : n ≤ 9223372036854775807) : call T 7 [.int .i64 q, .int .i64 n] h = some (.tuple #[.int .i64 (ringMay q n).1, .int .i64 (ringMay q n).2], h) := by
  rw [call_at T7 rfl]
  unfold F7 c7
  by_cases h1 : q < 2
  · simp (disch := first | omega | (simp only [Go.Am.len_push, Go.Am.len_set, Go.Am.len_kill] <;> omega) | fail) only [push_cast, Nat.reduceBEq, Nat.reduceAdd, Nat.reduceMul, Nat.reduceSub, Nat.reduceLT, Nat.reduceLeDiff, Nat.reduceEqDiff, Int.reduceToNat, Int.reduceAdd, Int.reduceMul, Int.reduceSub, Int.reduceNeg, Int.reduceLT, Int.reduceLE, Int.reduceEq, Nat.zero_add, Nat.add_zero, Nat.mul_one, eq_self, ne_eq, not_true, not_false_iff, and_true, true_and, and_self, List.getElem?_cons_zero, List.getElem?_cons_succ, List.map_cons, List.map_nil, dec_lt]
    simp [ringMay, h1]
  by_cases h2 : 10 < q
  · simp (disch := first | omega | (simp only [Go.Am.len_push, Go.Am.len_set, Go.Am.len_kill] <;> omega) | fail) only [push_cast, Nat.reduceBEq, Nat.reduceAdd, Nat.reduceMul, Nat.reduceSub, Nat.reduceLT, Nat.reduceLeDiff, Nat.reduceEqDiff, Int.reduceToNat, Int.reduceAdd, Int.reduceMul, Int.reduceSub, Int.reduceNeg, Int.reduceLT, Int.reduceLE, Int.reduceEq, Nat.zero_add, Nat.add_zero, Nat.mul_one, eq_self, ne_eq, not_true, not_false_iff, and_true, true_and, and_self, List.getElem?_cons_zero, List.getElem?_cons_succ, List.map_cons, List.map_nil, dec_lt, dec_nlt]
    simp [ringMay, h2]
  by_cases h3 : n < 1
  · simp (disch := first | omega | (simp only [Go.Am.len_push, Go.Am.len_set, Go.Am.len_kill] <;> omega) | fail) only [push_cast, Nat.reduceBEq, Nat.reduceAdd, Nat.reduceMul, Nat.reduceSub, Nat.reduceLT, Nat.reduceLeDiff, Nat.reduceEqDiff, Int.reduceToNat, Int.reduceAdd, Int.reduceMul, Int.reduceSub, Int.reduceNeg, Int.reduceLT, Int.reduceLE, Int.reduceEq, Nat.zero_add, Nat.add_zero, Nat.mul_one, eq_self, ne_eq, not_true, not_false_iff, and_true, true_and, and_self, List.getElem?_cons_zero, List.getElem?_cons_succ, List.map_cons, List.map_nil, dec_lt, dec_nlt]
    simp [ringMay, h3]
  simp (disch := first | omega | (simp only [Go.Am.len_push, Go.Am.len_set, Go.Am.len_kill] <;> omega) | fail) only [push_cast, Nat.reduceBEq, Nat.reduceAdd, Nat.reduceMul, Nat.reduceSub, Nat.reduceLT, Nat.reduceLeDiff, Nat.reduceEqDiff, Int.reduceToNat, Int.reduceAdd, Int.reduceMul, Int.reduceSub, Int.reduceNeg, Int.reduceLT, Int.reduceLE, Int.reduceEq, Nat.zero_add, Nat.add_zero, Nat.mul_one, eq_self, ne_eq, not_true, not_false_iff, and_true, true_and, and_self, List.getElem?_cons_zero, List.getElem?_cons_succ, List.map_cons, List.map_nil, dec_lt, dec_nlt]
  rw [ringMay_loop q n h _ (by omega) (by omega) hn n.toNat 0 1 (by omega) (by omega) (by omega) (by omega)]
  have e : ringMay q n = ringLoop q n.toNat 1 := by unfold ringMay; rw [if_neg (by omega)]
  rw [e]
  have key : ∀ k all, (ringLoop q k all).2 = 0 ∨ ringLoop q k all = (0, 4) := by
    intro k
    induction k with
    | zero => intro all; exact .inl rfl
    | succ k ih => intro all; unfold ringLoop; split; exact .inr rfl; exact ih _
  rcases key n.toNat 1 with hk | hk
  · rw [if_pos hk, hk]
    simp (disch := first | omega | (simp only [Go.Am.len_push, Go.Am.len_set, Go.Am.len_kill] <;> omega) | fail) only [push_cast, Nat.reduceBEq, Nat.reduceAdd, Nat.reduceMul, Nat.reduceSub, Nat.reduceLT, Nat.reduceLeDiff, Nat.reduceEqDiff, Int.reduceToNat, Int.reduceAdd, Int.reduceMul, Int.reduceSub, Int.reduceNeg, Int.reduceLT, Int.reduceLE, Int.reduceEq, Nat.zero_add, Nat.add_zero, Nat.mul_one, eq_self, ne_eq, not_true, not_false_iff, and_true, true_and, and_self, List.getElem?_cons_zero, List.getElem?_cons_succ, List.map_cons, List.map_nil]
  · rw [hk]; simp
end Go.Proofs.Ytdmgkdaiegdfmaa
