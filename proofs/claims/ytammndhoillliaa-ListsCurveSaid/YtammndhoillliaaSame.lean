/-
  What Same computes of two lists of numbers. Conditions: lists that read as numbers, of at most 2^47 elements.
-/
import Derived.Test.YtammndhoillliaaCode
import Derived.Test.YtammndhoillliaaAm22
namespace Go.Proofs.Ytammndhoillliaa
open Go.Am
set_option linter.unusedVariables false
set_option linter.unusedSimpArgs false

theorem same_loop (sa sb : Option Addr) (ca cb : Nat) (xs ys : List Int) (h : H) (ks : List It) (hxs : xs.length = ys.length) (hl : xs.length ≤ 140737488351232) (ha : RdI h sa ca xs) (hb : RdI h sb cb ys) : ∀ (k : Nat) (i : Int), (xs.length : Int) = i + k → 0 ≤ i → xs.take i.toNat = ys.take i.toNat →
    goL T [.tmp 4] [0, 1, 5] c28L0 (.blk 0 [] :: ks) [(0, .slice sa xs.length ca), (1, .slice sb ys.length cb), (5, .int .i64 i)] h =
      if xs = ys then go T [.tmp 4] ks (Fr.of []) h else some (.bool false, h)
  | 0, i, hk, h0, ht => by
    rw [goL_at c28L0.eq_def]
    simp (disch := first | omega | (simp only [Go.Am.len_push, Go.Am.len_set, Go.Am.len_kill] <;> omega) | fail) only [push_cast, Nat.reduceBEq, Nat.reduceAdd, Nat.reduceMul, Nat.reduceSub, Nat.reduceLT, Nat.reduceGT, Nat.reduceLeDiff, Nat.reduceEqDiff, Int.reduceToNat, Int.reduceAdd, Int.reduceMul, Int.reduceSub, Int.reduceNeg, Int.reduceLT, Int.reduceLE, Int.reduceEq, Nat.zero_add, Nat.add_zero, Nat.mul_one, eq_self, ne_eq, not_true, not_false_iff, and_true, true_and, and_self, List.getElem?_cons_zero, List.getElem?_cons_succ, List.map_cons, List.map_nil, dec_nlt]
    rw [List.take_of_length_le (by omega), List.take_of_length_le (by omega)] at ht
    rw [if_pos ht]
  | k + 1, i, hk, h0, ht => by
    rw [goL_at c28L0.eq_def]
    obtain ⟨o, off, rfl, _, h1⟩ := ha.addr (by omega)
    obtain ⟨o', off', rfl, _, h2⟩ := hb.addr (by omega)
    have e1 := h1 i h0 (by omega)
    have e2 := h2 i h0 (by omega)
    have hi1 : 0 ≤ i ∧ i < (xs.length : Int) := by omega
    have hi2 : 0 ≤ i ∧ i < (ys.length : Int) := by omega
    by_cases he : gi xs i = gi ys i
    · simp (disch := first | omega | (simp only [Go.Am.len_push, Go.Am.len_set, Go.Am.len_kill] <;> omega) | fail) only [push_cast, Nat.reduceBEq, Nat.reduceAdd, Nat.reduceMul, Nat.reduceSub, Nat.reduceLT, Nat.reduceGT, Nat.reduceLeDiff, Nat.reduceEqDiff, Int.reduceToNat, Int.reduceAdd, Int.reduceMul, Int.reduceSub, Int.reduceNeg, Int.reduceLT, Int.reduceLE, Int.reduceEq, Nat.zero_add, Nat.add_zero, Nat.mul_one, eq_self, ne_eq, not_true, not_false_iff, and_true, true_and, and_self, List.getElem?_cons_zero, List.getElem?_cons_succ, List.map_cons, List.map_nil, dec_lt, dec_eq, wrap64, hi1, hi2, e1, e2]
      rw [same_loop _ _ ca cb xs ys h ks hxs hl ha hb k (i + 1) (by omega) (by omega) ?_]
      rw [show (i + 1).toNat = i.toNat + 1 by omega, List.take_add_one, List.take_add_one, ht, gi_eq h0 hi1.2, gi_eq h0 hi2.2, he]
    · simp (disch := first | omega | (simp only [Go.Am.len_push, Go.Am.len_set, Go.Am.len_kill] <;> omega) | fail) only [push_cast, Nat.reduceBEq, Nat.reduceAdd, Nat.reduceMul, Nat.reduceSub, Nat.reduceLT, Nat.reduceGT, Nat.reduceLeDiff, Nat.reduceEqDiff, Int.reduceToNat, Int.reduceAdd, Int.reduceMul, Int.reduceSub, Int.reduceNeg, Int.reduceLT, Int.reduceLE, Int.reduceEq, Nat.zero_add, Nat.add_zero, Nat.mul_one, eq_self, ne_eq, not_true, not_false_iff, and_true, true_and, and_self, List.getElem?_cons_zero, List.getElem?_cons_succ, List.map_cons, List.map_nil, dec_lt, dec_ne, wrap64, hi1, hi2, e1, e2]
      rw [if_neg (fun e => he (by rw [e]))]

theorem same_call (sa sb : Option Addr) (ca cb : Nat) (xs ys : List Int) (h : H) (hl : xs.length ≤ 140737488351232) (ha : RdI h sa ca xs) (hb : RdI h sb cb ys) :
    call T 28 [.slice sa xs.length ca, .slice sb ys.length cb] h = some (.bool (decide (xs = ys)), h) := by
  rw [call_at T28 rfl]
  unfold F28 c28
  by_cases hxs : xs.length = ys.length
  · have hxs' : ((xs.length : Int) = (ys.length : Int)) := by omega
    simp (disch := first | omega | (simp only [Go.Am.len_push, Go.Am.len_set, Go.Am.len_kill] <;> omega) | fail) only [push_cast, Nat.reduceBEq, Nat.reduceAdd, Nat.reduceMul, Nat.reduceSub, Nat.reduceLT, Nat.reduceGT, Nat.reduceLeDiff, Nat.reduceEqDiff, Int.reduceToNat, Int.reduceAdd, Int.reduceMul, Int.reduceSub, Int.reduceNeg, Int.reduceLT, Int.reduceLE, Int.reduceEq, Nat.zero_add, Nat.add_zero, Nat.mul_one, eq_self, ne_eq, not_true, not_false_iff, and_true, true_and, and_self, List.getElem?_cons_zero, List.getElem?_cons_succ, List.map_cons, List.map_nil, dec_eq hxs']
    rw [same_loop sa sb ca cb xs ys h _ hxs hl ha hb xs.length 0 (by omega) (by omega) rfl]
    by_cases he : xs = ys
    · rw [if_pos he, decide_eq_true he]
      simp (disch := first | omega | (simp only [Go.Am.len_push, Go.Am.len_set, Go.Am.len_kill] <;> omega) | fail) only [push_cast, Nat.reduceBEq, Nat.reduceAdd, Nat.reduceMul, Nat.reduceSub, Nat.reduceLT, Nat.reduceGT, Nat.reduceLeDiff, Nat.reduceEqDiff, Int.reduceToNat, Int.reduceAdd, Int.reduceMul, Int.reduceSub, Int.reduceNeg, Int.reduceLT, Int.reduceLE, Int.reduceEq, Nat.zero_add, Nat.add_zero, Nat.mul_one, eq_self, ne_eq, not_true, not_false_iff, and_true, true_and, and_self, List.getElem?_cons_zero, List.getElem?_cons_succ, List.map_cons, List.map_nil]
    · rw [if_neg he, decide_eq_false he]
  · have hxs' : ¬ ((xs.length : Int) = (ys.length : Int)) := by omega
    have he : ¬ xs = ys := fun e => hxs (by rw [e])
    simp (disch := first | omega | (simp only [Go.Am.len_push, Go.Am.len_set, Go.Am.len_kill] <;> omega) | fail) only [push_cast, Nat.reduceBEq, Nat.reduceAdd, Nat.reduceMul, Nat.reduceSub, Nat.reduceLT, Nat.reduceGT, Nat.reduceLeDiff, Nat.reduceEqDiff, Int.reduceToNat, Int.reduceAdd, Int.reduceMul, Int.reduceSub, Int.reduceNeg, Int.reduceLT, Int.reduceLE, Int.reduceEq, Nat.zero_add, Nat.add_zero, Nat.mul_one, eq_self, ne_eq, not_true, not_false_iff, and_true, true_and, and_self, List.getElem?_cons_zero, List.getElem?_cons_succ, List.map_cons, List.map_nil, dec_ne hxs']
    rw [decide_eq_false he]
end Go.Proofs.Ytammndhoillliaa
