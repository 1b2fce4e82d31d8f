/-
  Lists of lists as long as Go's may be; the law's heavy. Condition: lists as memory tells them.
-/
import Derived.Test.YtammndhoillliaaL3
namespace Go.Proofs.Ytammndhoillliaa
open Go.Am
set_option linter.unusedVariables false
set_option linter.unusedSimpArgs false
set_option maxRecDepth 30000

/-- lists of lists, as long as Go's may be -/
structure Len2 (cs : List (List Int)) : Prop where
  len : cs.length ≤ 9223372036854775807
  each : ∀ c ∈ cs, c.length ≤ 9223372036854775807
section
variable {h : H} {sa : Option Addr} {C : Nat} {cs : List (List Int)}
/-! ### too much? -/
theorem heavy_loop (hr : RdLL h sa C cs) (hl2 : Len2 cs) : ∀ (m i : Nat) (n : Int), i + m = cs.length → ∃ b : Int, ∀ ks,
    goL T [.tmp 2] [0, 3, 4] c22L0 (.blk 0 [3] :: ks) [(0, .slice sa cs.length C), (3, .int .i64 n), (4, .int .i64 i)] h = go T [.tmp 2] ks (Fr.of [(3, .int .i64 b)]) h
  | 0, i, n, hi => by
    refine ⟨n, fun ks => ?_⟩
    rw [goL_at c22L0.eq_def]
    simp (disch := first | omega | (simp only [Go.Am.len_push, Go.Am.len_set, Go.Am.len_kill] <;> omega) | fail) only [push_cast, Nat.reduceBEq, Nat.reduceAdd, Nat.reduceMul, Nat.reduceSub, Nat.reduceLT, Nat.reduceGT, Nat.reduceLeDiff, Nat.reduceEqDiff, Int.reduceToNat, Int.reduceAdd, Int.reduceMul, Int.reduceSub, Int.reduceNeg, Int.reduceLT, Int.reduceLE, Int.reduceEq, Nat.zero_add, Nat.add_zero, Nat.mul_one, eq_self, ne_eq, not_true, not_false_iff, and_true, true_and, and_self, List.getElem?_cons_zero, List.getElem?_cons_succ, List.map_cons, List.map_nil, wrap64, dec_lt, dec_nlt, dec_le, dec_nle, dec_eq, dec_ne, if_pos, if_neg, Int.natCast_add, Int.natCast_one, Int.natCast_zero, Int.toNat_natCast]
  | m + 1, i, n, hi => by
    have IH := heavy_loop hr hl2 m
    have hll := hl2.len
    obtain ⟨c, hc⟩ := at_some (l := cs) (i := i) (by omega)
    obtain ⟨o, a, c', rfl, l1, hra⟩ := hr.at hc
    by_cases hn : n ≤ 6000
    · obtain ⟨b, hb⟩ := IH (i + 1) (IntKind.wrap .i64 (n + c.length)) (by omega)
      refine ⟨b, fun ks => ?_⟩
      have hb := hb ks
      rw [Int.natCast_add, Int.natCast_one] at hb
      have w1 : IntKind.wrap .i64 ((i : Int) + 1) = (i : Int) + 1 := wrap64 (by omega) (by omega)
      have hlt : (i : Int) < (cs.length : Int) := by omega
      have hbd : (0 : Int) ≤ (i : Int) ∧ (i : Int) < (cs.length : Int) := by omega
      rw [goL_at c22L0.eq_def, ← hb]
      simp (disch := first | omega | (simp only [Go.Am.len_push, Go.Am.len_set, Go.Am.len_kill] <;> omega) | fail) only [push_cast, Nat.reduceBEq, Nat.reduceAdd, Nat.reduceMul, Nat.reduceSub, Nat.reduceLT, Nat.reduceGT, Nat.reduceLeDiff, Nat.reduceEqDiff, Int.reduceToNat, Int.reduceAdd, Int.reduceMul, Int.reduceSub, Int.reduceNeg, Int.reduceLT, Int.reduceLE, Int.reduceEq, Nat.zero_add, Nat.add_zero, Nat.mul_one, eq_self, ne_eq, not_true, not_false_iff, and_true, true_and, and_self, List.getElem?_cons_zero, List.getElem?_cons_succ, List.map_cons, List.map_nil, dec_lt hlt, dec_le hn, hbd, l1, w1, Int.toNat_natCast]
    · refine ⟨n, fun ks => ?_⟩
      rw [goL_at c22L0.eq_def]
      simp (disch := first | omega | (simp only [Go.Am.len_push, Go.Am.len_set, Go.Am.len_kill] <;> omega) | fail) only [push_cast, Nat.reduceBEq, Nat.reduceAdd, Nat.reduceMul, Nat.reduceSub, Nat.reduceLT, Nat.reduceGT, Nat.reduceLeDiff, Nat.reduceEqDiff, Int.reduceToNat, Int.reduceAdd, Int.reduceMul, Int.reduceSub, Int.reduceNeg, Int.reduceLT, Int.reduceLE, Int.reduceEq, Nat.zero_add, Nat.add_zero, Nat.mul_one, eq_self, ne_eq, not_true, not_false_iff, and_true, true_and, and_self, List.getElem?_cons_zero, List.getElem?_cons_succ, List.map_cons, List.map_nil, wrap64, dec_lt, dec_nlt, dec_le, dec_nle, dec_eq, dec_ne, if_pos, if_neg, Int.natCast_add, Int.natCast_one, Int.natCast_zero, Int.toNat_natCast]
theorem heavy_call (hr : RdLL h sa C cs) (hl2 : Len2 cs) : ∃ b : Bool, call T 22 [.slice sa cs.length C] h = some (.bool b, h) := by
  obtain ⟨b, hb⟩ := heavy_loop hr hl2 cs.length 0 cs.length (by omega)
  simp only [Int.natCast_zero] at hb
  refine ⟨decide (6000 < b), ?_⟩
  rw [call_at T22 rfl]
  unfold F22 c22
  simp (disch := first | omega | (simp only [Go.Am.len_push, Go.Am.len_set, Go.Am.len_kill] <;> omega) | fail) only [push_cast, Nat.reduceBEq, Nat.reduceAdd, Nat.reduceMul, Nat.reduceSub, Nat.reduceLT, Nat.reduceGT, Nat.reduceLeDiff, Nat.reduceEqDiff, Int.reduceToNat, Int.reduceAdd, Int.reduceMul, Int.reduceSub, Int.reduceNeg, Int.reduceLT, Int.reduceLE, Int.reduceEq, Nat.zero_add, Nat.add_zero, Nat.mul_one, eq_self, ne_eq, not_true, not_false_iff, and_true, true_and, and_self, List.getElem?_cons_zero, List.getElem?_cons_succ, List.map_cons, List.map_nil]
  rw [hb]
  simp (disch := first | omega | (simp only [Go.Am.len_push, Go.Am.len_set, Go.Am.len_kill] <;> omega) | fail) only [push_cast, Nat.reduceBEq, Nat.reduceAdd, Nat.reduceMul, Nat.reduceSub, Nat.reduceLT, Nat.reduceGT, Nat.reduceLeDiff, Nat.reduceEqDiff, Int.reduceToNat, Int.reduceAdd, Int.reduceMul, Int.reduceSub, Int.reduceNeg, Int.reduceLT, Int.reduceLE, Int.reduceEq, Nat.zero_add, Nat.add_zero, Nat.mul_one, eq_self, ne_eq, not_true, not_false_iff, and_true, true_and, and_self, List.getElem?_cons_zero, List.getElem?_cons_succ, List.map_cons, List.map_nil]
end
end Go.Proofs.Ytammndhoillliaa
