/-
  What the law's list computes of two lists that are the same. Conditions: lists as memory tells them, of at most 2^47 elements.
-/
import Derived.Test.YtammndhoillliaaSame
import Derived.Test.YtammndhoillliaaL1
namespace Go.Proofs.Ytammndhoillliaa
open Go.Am
set_option linter.unusedVariables false
set_option linter.unusedSimpArgs false

theorem listSame_call (sa sb : Option Addr) (ca cb : Nat) (zs : List Int) (e : Int) (h : H) (hl : zs.length ≤ 140737488351232) (ha : RdI h sa ca zs) (hb : RdI h sb cb zs) (he : e = 0 ∨ zs = []) :
    call T 27 [.slice sa zs.length ca, .int .i64 e, .slice sb zs.length cb, .int .i64 e] h = some (.bool true, h) := by
  have es := same_call sa sb ca cb zs zs h hl ha hb
  rw [call_at T27 rfl]
  unfold F27 c27
  by_cases h0 : e = 0
  · simp (disch := first | omega | (simp only [Go.Am.len_push, Go.Am.len_set, Go.Am.len_kill] <;> omega) | fail) only [push_cast, Nat.reduceBEq, Nat.reduceAdd, Nat.reduceMul, Nat.reduceSub, Nat.reduceLT, Nat.reduceGT, Nat.reduceLeDiff, Nat.reduceEqDiff, Int.reduceToNat, Int.reduceAdd, Int.reduceMul, Int.reduceSub, Int.reduceNeg, Int.reduceLT, Int.reduceLE, Int.reduceEq, Nat.zero_add, Nat.add_zero, Nat.mul_one, eq_self, ne_eq, not_true, not_false_iff, and_true, true_and, and_self, List.getElem?_cons_zero, List.getElem?_cons_succ, List.map_cons, List.map_nil, dec_eq h0, es]
  · have hz : zs = [] := by rcases he with h1 | h1; exact absurd h1 h0; exact h1
    subst hz
    simp (disch := first | omega | (simp only [Go.Am.len_push, Go.Am.len_set, Go.Am.len_kill] <;> omega) | fail) only [push_cast, Nat.reduceBEq, Nat.reduceAdd, Nat.reduceMul, Nat.reduceSub, Nat.reduceLT, Nat.reduceGT, Nat.reduceLeDiff, Nat.reduceEqDiff, Int.reduceToNat, Int.reduceAdd, Int.reduceMul, Int.reduceSub, Int.reduceNeg, Int.reduceLT, Int.reduceLE, Int.reduceEq, Nat.zero_add, Nat.add_zero, Nat.mul_one, eq_self, ne_eq, not_true, not_false_iff, and_true, true_and, and_self, List.getElem?_cons_zero, List.getElem?_cons_succ, List.map_cons, List.map_nil, dec_ne h0, decide_true]
end Go.Proofs.Ytammndhoillliaa
