/-
  What digits.Ring computes. Conditions: those of each contract.
-/
import Derived.Test.YtdmgkdaiegdfmaaRung
namespace Go.Proofs.Ytdmgkdaiegdfmaa
open Go.Am
set_option linter.unusedVariables false
set_option linter.unusedSimpArgs false

theorem ring_loop (h g : H) (q n : Int) (ks : List It) (hq : 2 ≤ q) (hq2 : q ≤ 10) (hn : n ≤ 9223372036854775807) (e1 : g.ld1 h.length 0 = some (.int .i64 q)) : ∀ (k : Nat) (i all : Int), n = i + k → 0 ≤ i → 1 ≤ all → all ≤ 1024 →
    goL T [.tmp 4, .tmp 5] [2, 3, 6, 20, 21] c8L0 (.blk 0 [2, 3] :: ks) [(2, .pointer (some ⟨h.length, 0, none⟩)), (3, .pointer (some ⟨h.length + 1, 0, none⟩)), (6, .int .i64 all), (20, .int .i64 n), (21, .int .i64 i)] g =
      if (ringLoop q k all).2 = 0 then go T [.tmp 4, .tmp 5] ks (Fr.of [(2, .pointer (some ⟨h.length, 0, none⟩)), (3, .pointer (some ⟨h.length + 1, 0, none⟩))]) g else some (.tuple #[.slice none 0 0, .int .i64 4], g)
  | 0, i, all, hk, h0, h1, h2 => by
    rw [goL_at c8L0.eq_def]
    simp (disch := first | omega | (simp only [Go.Am.len_push, Go.Am.len_set, Go.Am.len_kill] <;> omega) | fail) only [push_cast, Nat.reduceBEq, Nat.reduceAdd, Nat.reduceMul, Nat.reduceSub, Nat.reduceLT, Nat.reduceLeDiff, Nat.reduceEqDiff, Int.reduceToNat, Int.reduceAdd, Int.reduceMul, Int.reduceSub, Int.reduceNeg, Int.reduceLT, Int.reduceLE, Int.reduceEq, Nat.zero_add, Nat.add_zero, Nat.mul_one, eq_self, ne_eq, not_true, not_false_iff, and_true, true_and, and_self, List.getElem?_cons_zero, List.getElem?_cons_succ, List.map_cons, List.map_nil, dec_nlt]
    simp [ringLoop]
  | k + 1, i, all, hk, h0, h1, h2 => by
    have hm : all * q ≤ 10240 := by
      have : all * q ≤ 1024 * 10 := Int.mul_le_mul h2 hq2 (by omega) (by omega)
      omega
    have hm2 : 1 ≤ all * q := by
      have : 1 * 1 ≤ all * q := Int.mul_le_mul h1 (by omega) (by omega) (by omega)
      omega
    rw [goL_at c8L0.eq_def]
    by_cases hb : 1024 < all * q
    · simp (disch := first | omega | (simp only [Go.Am.len_push, Go.Am.len_set, Go.Am.len_kill] <;> omega) | fail) only [push_cast, Nat.reduceBEq, Nat.reduceAdd, Nat.reduceMul, Nat.reduceSub, Nat.reduceLT, Nat.reduceLeDiff, Nat.reduceEqDiff, Int.reduceToNat, Int.reduceAdd, Int.reduceMul, Int.reduceSub, Int.reduceNeg, Int.reduceLT, Int.reduceLE, Int.reduceEq, Nat.zero_add, Nat.add_zero, Nat.mul_one, eq_self, ne_eq, not_true, not_false_iff, and_true, true_and, and_self, List.getElem?_cons_zero, List.getElem?_cons_succ, List.map_cons, List.map_nil, dec_lt, wrap64, e1]
      simp [ringLoop, hb]
    · simp (disch := first | omega | (simp only [Go.Am.len_push, Go.Am.len_set, Go.Am.len_kill] <;> omega) | fail) only [push_cast, Nat.reduceBEq, Nat.reduceAdd, Nat.reduceMul, Nat.reduceSub, Nat.reduceLT, Nat.reduceLeDiff, Nat.reduceEqDiff, Int.reduceToNat, Int.reduceAdd, Int.reduceMul, Int.reduceSub, Int.reduceNeg, Int.reduceLT, Int.reduceLE, Int.reduceEq, Nat.zero_add, Nat.add_zero, Nat.mul_one, eq_self, ne_eq, not_true, not_false_iff, and_true, true_and, and_self, List.getElem?_cons_zero, List.getElem?_cons_succ, List.map_cons, List.map_nil, dec_lt, dec_nlt, wrap64, e1]
      rw [ring_loop h g q n ks hq hq2 hn e1 k (i + 1) (all * q) (by omega) (by omega) (by omega) (by omega)]
      simp [ringLoop, hb]

theorem ring_no (h : H) (q n : Int) (hn : n ≤ 9223372036854775807) (he : (ringMay q n).2 ≠ 0) : ∃ h', call T 8 [.int .i64 q, .int .i64 n] h = some (.tuple #[.slice none 0 0, .int .i64 (ringMay q n).2], h') := by
  rw [call_at T8 rfl]
  unfold F8 c8
  by_cases h1 : q < 2
  · have e : ringMay q n = (0, 6) := by unfold ringMay; rw [if_pos (by omega)]
    rw [e]
    exact ⟨_, by simp (disch := first | omega | (simp only [Go.Am.len_push, Go.Am.len_set, Go.Am.len_kill] <;> omega) | fail) only [push_cast, Nat.reduceBEq, Nat.reduceAdd, Nat.reduceMul, Nat.reduceSub, Nat.reduceLT, Nat.reduceLeDiff, Nat.reduceEqDiff, Int.reduceToNat, Int.reduceAdd, Int.reduceMul, Int.reduceSub, Int.reduceNeg, Int.reduceLT, Int.reduceLE, Int.reduceEq, Nat.zero_add, Nat.add_zero, Nat.mul_one, eq_self, ne_eq, not_true, not_false_iff, and_true, true_and, and_self, List.getElem?_cons_zero, List.getElem?_cons_succ, List.map_cons, List.map_nil, dec_lt, ld1_new, ld1_old]; rfl⟩
  by_cases h2 : 10 < q
  · have e : ringMay q n = (0, 6) := by unfold ringMay; rw [if_pos (by omega)]
    rw [e]
    exact ⟨_, by simp (disch := first | omega | (simp only [Go.Am.len_push, Go.Am.len_set, Go.Am.len_kill] <;> omega) | fail) only [push_cast, Nat.reduceBEq, Nat.reduceAdd, Nat.reduceMul, Nat.reduceSub, Nat.reduceLT, Nat.reduceLeDiff, Nat.reduceEqDiff, Int.reduceToNat, Int.reduceAdd, Int.reduceMul, Int.reduceSub, Int.reduceNeg, Int.reduceLT, Int.reduceLE, Int.reduceEq, Nat.zero_add, Nat.add_zero, Nat.mul_one, eq_self, ne_eq, not_true, not_false_iff, and_true, true_and, and_self, List.getElem?_cons_zero, List.getElem?_cons_succ, List.map_cons, List.map_nil, dec_lt, dec_nlt, ld1_new, ld1_old]; rfl⟩
  by_cases h3 : n < 1
  · have e : ringMay q n = (0, 6) := by unfold ringMay; rw [if_pos (by omega)]
    rw [e]
    exact ⟨_, by simp (disch := first | omega | (simp only [Go.Am.len_push, Go.Am.len_set, Go.Am.len_kill] <;> omega) | fail) only [push_cast, Nat.reduceBEq, Nat.reduceAdd, Nat.reduceMul, Nat.reduceSub, Nat.reduceLT, Nat.reduceLeDiff, Nat.reduceEqDiff, Int.reduceToNat, Int.reduceAdd, Int.reduceMul, Int.reduceSub, Int.reduceNeg, Int.reduceLT, Int.reduceLE, Int.reduceEq, Nat.zero_add, Nat.add_zero, Nat.mul_one, eq_self, ne_eq, not_true, not_false_iff, and_true, true_and, and_self, List.getElem?_cons_zero, List.getElem?_cons_succ, List.map_cons, List.map_nil, dec_lt, dec_nlt, ld1_new, ld1_old]; rfl⟩
  have e : ringMay q n = ringLoop q n.toNat 1 := by unfold ringMay; rw [if_neg (by omega)]
  rw [e] at he ⊢
  have key : ∀ k all, (ringLoop q k all).2 = 0 ∨ ringLoop q k all = (0, 4) := by
    intro k
    induction k with
    | zero => intro all; exact .inl rfl
    | succ k ih => intro all; unfold ringLoop; split; exact .inr rfl; exact ih _
  have e4 : ringLoop q n.toNat 1 = (0, 4) := by
    rcases key n.toNat 1 with hk | hk
    · exact absurd hk he
    · exact hk
  refine ⟨h ++ [.row ⟨[.int .i64 q], 3, 0, true⟩] ++ [.row ⟨[.int .i64 n], 3, 0, true⟩], ?_⟩
  simp (disch := first | omega | (simp only [Go.Am.len_push, Go.Am.len_set, Go.Am.len_kill] <;> omega) | fail) only [push_cast, Nat.reduceBEq, Nat.reduceAdd, Nat.reduceMul, Nat.reduceSub, Nat.reduceLT, Nat.reduceLeDiff, Nat.reduceEqDiff, Int.reduceToNat, Int.reduceAdd, Int.reduceMul, Int.reduceSub, Int.reduceNeg, Int.reduceLT, Int.reduceLE, Int.reduceEq, Nat.zero_add, Nat.add_zero, Nat.mul_one, eq_self, ne_eq, not_true, not_false_iff, and_true, true_and, and_self, List.getElem?_cons_zero, List.getElem?_cons_succ, List.map_cons, List.map_nil, dec_lt, dec_nlt, ld1_new, ld1_old, len_push]
  rw [ring_loop h _ q n _ (by omega) (by omega) hn (by simp (disch := first | omega | (simp only [Go.Am.len_push, Go.Am.len_set, Go.Am.len_kill] <;> omega) | fail) only [push_cast, Nat.reduceBEq, Nat.reduceAdd, Nat.reduceMul, Nat.reduceSub, Nat.reduceLT, Nat.reduceLeDiff, Nat.reduceEqDiff, Int.reduceToNat, Int.reduceAdd, Int.reduceMul, Int.reduceSub, Int.reduceNeg, Int.reduceLT, Int.reduceLE, Int.reduceEq, Nat.zero_add, Nat.add_zero, Nat.mul_one, eq_self, ne_eq, not_true, not_false_iff, and_true, true_and, and_self, List.getElem?_cons_zero, List.getElem?_cons_succ, List.map_cons, List.map_nil, ld1_new, ld1_old, len_push]) n.toNat 0 1 (by omega) (by omega) (by omega) (by omega)]
  rw [e4]
  simp

theorem ring_call (h : H) (q n : Int) (hn : n ≤ 10) (he : (ringMay q n).2 = 0) (l : List Int) (hl : ringP q n = some l) :
    ∃ sa h', call T 8 [.int .i64 q, .int .i64 n] h = some (.tuple #[.slice sa l.length l.length, .int .i64 0], h') ∧ h <+: h' ∧ RdI h' sa l.length l := by
  have hb : ¬ (q < 2 ∨ 10 < q ∨ n < 1) := by intro hb; unfold ringMay at he; rw [if_pos hb] at he; simp at he
  have e : ringMay q n = ringLoop q n.toNat 1 := by unfold ringMay; rw [if_neg hb]
  rw [e] at he
  unfold ringP at hl
  cases hg : growP q n n.toNat 1 1 (List.replicate (n + 1).toNat 0, []) with
  | none => rw [hg] at hl; cases hl
  | some s =>
  rw [hg] at hl
  cases hl
  have hst : RS h q n (List.replicate (n + 1).toNat 0) [] (((h ++ [Ob.row ⟨[.int .i64 q], 3, 0, true⟩] ++ [Ob.row ⟨[.int .i64 n], 3, 0, true⟩] ++ [Ob.row ⟨[.slice none 0 0], 26, 0, true⟩] ++ [Ob.row ⟨ints (List.replicate (n + 1).toNat 0), 3, 1, true⟩] ++ [Ob.row ⟨[.slice none 0 0], 26, 0, true⟩]).set (h.length + 4) (.row ⟨[.slice (some ⟨h.length + 3, 0, none⟩) (n + 1).toNat (n + 1).toNat], 26, 0, true⟩) ++ [Ob.row ⟨[.nilFunc], 46, 0, true⟩]).set (h.length + 5) (.row ⟨[.func (.func 21) #[] #[.pointer (some ⟨h.length + 1, 0, none⟩), .pointer (some ⟨h.length + 2, 0, none⟩), .pointer (some ⟨h.length + 4, 0, none⟩), .pointer (some ⟨h.length + 5, 0, none⟩), .pointer (some ⟨h.length, 0, none⟩)]], 46, 0, true⟩)) := {
    pre := pre_set (pre_push (pre_set (pre_push (pre_push (pre_push (pre_push (pre_push (List.prefix_refl h)))))) (by omega))) (by omega)
    qb := by simp (disch := first | omega | (simp only [Go.Am.len_push, Go.Am.len_set, Go.Am.len_kill] <;> omega) | fail) only [push_cast, Nat.reduceBEq, Nat.reduceAdd, Nat.reduceMul, Nat.reduceSub, Nat.reduceLT, Nat.reduceLeDiff, Nat.reduceEqDiff, Int.reduceToNat, Int.reduceAdd, Int.reduceMul, Int.reduceSub, Int.reduceNeg, Int.reduceLT, Int.reduceLE, Int.reduceEq, Nat.zero_add, Nat.add_zero, Nat.mul_one, eq_self, ne_eq, not_true, not_false_iff, and_true, true_and, and_self, List.getElem?_cons_zero, List.getElem?_cons_succ, List.map_cons, List.map_nil, row_set_other, row_old, row_new]
    nb := by simp (disch := first | omega | (simp only [Go.Am.len_push, Go.Am.len_set, Go.Am.len_kill] <;> omega) | fail) only [push_cast, Nat.reduceBEq, Nat.reduceAdd, Nat.reduceMul, Nat.reduceSub, Nat.reduceLT, Nat.reduceLeDiff, Nat.reduceEqDiff, Int.reduceToNat, Int.reduceAdd, Int.reduceMul, Int.reduceSub, Int.reduceNeg, Int.reduceLT, Int.reduceLE, Int.reduceEq, Nat.zero_add, Nat.add_zero, Nat.mul_one, eq_self, ne_eq, not_true, not_false_iff, and_true, true_and, and_self, List.getElem?_cons_zero, List.getElem?_cons_succ, List.map_cons, List.map_nil, row_set_other, row_old, row_new]
    wa := by simp (disch := first | omega | (simp only [Go.Am.len_push, Go.Am.len_set, Go.Am.len_kill] <;> omega) | fail) only [push_cast, Nat.reduceBEq, Nat.reduceAdd, Nat.reduceMul, Nat.reduceSub, Nat.reduceLT, Nat.reduceLeDiff, Nat.reduceEqDiff, Int.reduceToNat, Int.reduceAdd, Int.reduceMul, Int.reduceSub, Int.reduceNeg, Int.reduceLT, Int.reduceLE, Int.reduceEq, Nat.zero_add, Nat.add_zero, Nat.mul_one, eq_self, ne_eq, not_true, not_false_iff, and_true, true_and, and_self, List.getElem?_cons_zero, List.getElem?_cons_succ, List.map_cons, List.map_nil, row_set_other, row_old, row_new]
    wb := by simp (disch := first | omega | (simp only [Go.Am.len_push, Go.Am.len_set, Go.Am.len_kill] <;> omega) | fail) only [push_cast, Nat.reduceBEq, Nat.reduceAdd, Nat.reduceMul, Nat.reduceSub, Nat.reduceLT, Nat.reduceLeDiff, Nat.reduceEqDiff, Int.reduceToNat, Int.reduceAdd, Int.reduceMul, Int.reduceSub, Int.reduceNeg, Int.reduceLT, Int.reduceLE, Int.reduceEq, Nat.zero_add, Nat.add_zero, Nat.mul_one, eq_self, ne_eq, not_true, not_false_iff, and_true, true_and, and_self, List.getElem?_cons_zero, List.getElem?_cons_succ, List.map_cons, List.map_nil, row_set_other, row_old, row_new, row_same]
    gb := by simp (disch := first | omega | (simp only [Go.Am.len_push, Go.Am.len_set, Go.Am.len_kill] <;> omega) | fail) only [push_cast, Nat.reduceBEq, Nat.reduceAdd, Nat.reduceMul, Nat.reduceSub, Nat.reduceLT, Nat.reduceLeDiff, Nat.reduceEqDiff, Int.reduceToNat, Int.reduceAdd, Int.reduceMul, Int.reduceSub, Int.reduceNeg, Int.reduceLT, Int.reduceLE, Int.reduceEq, Nat.zero_add, Nat.add_zero, Nat.mul_one, eq_self, ne_eq, not_true, not_false_iff, and_true, true_and, and_self, List.getElem?_cons_zero, List.getElem?_cons_succ, List.map_cons, List.map_nil, row_set_other, row_old, row_new, row_same]
    ob := ⟨none, by simp (disch := first | omega | (simp only [Go.Am.len_push, Go.Am.len_set, Go.Am.len_kill] <;> omega) | fail) only [push_cast, Nat.reduceBEq, Nat.reduceAdd, Nat.reduceMul, Nat.reduceSub, Nat.reduceLT, Nat.reduceLeDiff, Nat.reduceEqDiff, Int.reduceToNat, Int.reduceAdd, Int.reduceMul, Int.reduceSub, Int.reduceNeg, Int.reduceLT, Int.reduceLE, Int.reduceEq, Nat.zero_add, Nat.add_zero, Nat.mul_one, eq_self, ne_eq, not_true, not_false_iff, and_true, true_and, and_self, List.getElem?_cons_zero, List.getElem?_cons_succ, List.map_cons, List.map_nil, row_set_other, row_old, row_new], .inl ⟨rfl, rfl, rfl⟩⟩ }
  obtain ⟨g', hcall, hs⟩ := grow_call h q n (by omega) hn (by omega) n.toNat 1 1 _ _ _ _ (by omega) hst hg
  obtain ⟨sa, hob, hgr⟩ := hs.ob
  refine ⟨sa, g', ?_, hs.pre, hgr.rd⟩
  rw [call_at T8 rfl]
  unfold F8 c8
  have hmk : 0 ≤ n + 1 ∧ n + 1 ≤ n + 1 ∧ n + 1 ≤ 1099511627776 ∧ (n + 1) * 8 ≤ 140737488355328 := by omega
  have e7 := ld1_of hst.gb 0
  have e8 := ld1_of hob 0
  simp (disch := first | omega | (simp only [Go.Am.len_push, Go.Am.len_set, Go.Am.len_kill] <;> omega) | fail) only [push_cast, Nat.reduceBEq, Nat.reduceAdd, Nat.reduceMul, Nat.reduceSub, Nat.reduceLT, Nat.reduceLeDiff, Nat.reduceEqDiff, Int.reduceToNat, Int.reduceAdd, Int.reduceMul, Int.reduceSub, Int.reduceNeg, Int.reduceLT, Int.reduceLE, Int.reduceEq, Nat.zero_add, Nat.add_zero, Nat.mul_one, eq_self, ne_eq, not_true, not_false_iff, and_true, true_and, and_self, List.getElem?_cons_zero, List.getElem?_cons_succ, List.map_cons, List.map_nil, dec_lt, dec_nlt, ld1_new, ld1_old, len_push]
  rw [ring_loop h _ q n _ (by omega) (by omega) (by omega) (by simp (disch := first | omega | (simp only [Go.Am.len_push, Go.Am.len_set, Go.Am.len_kill] <;> omega) | fail) only [push_cast, Nat.reduceBEq, Nat.reduceAdd, Nat.reduceMul, Nat.reduceSub, Nat.reduceLT, Nat.reduceLeDiff, Nat.reduceEqDiff, Int.reduceToNat, Int.reduceAdd, Int.reduceMul, Int.reduceSub, Int.reduceNeg, Int.reduceLT, Int.reduceLE, Int.reduceEq, Nat.zero_add, Nat.add_zero, Nat.mul_one, eq_self, ne_eq, not_true, not_false_iff, and_true, true_and, and_self, List.getElem?_cons_zero, List.getElem?_cons_succ, List.map_cons, List.map_nil, ld1_new, ld1_old, len_push]) n.toNat 0 1 (by omega) (by omega) (by omega) (by omega)]
  rw [if_pos he]
  simp (disch := first | omega | (simp only [Go.Am.len_push, Go.Am.len_set, Go.Am.len_kill] <;> omega) | fail) only [push_cast, Nat.reduceBEq, Nat.reduceAdd, Nat.reduceMul, Nat.reduceSub, Nat.reduceLT, Nat.reduceLeDiff, Nat.reduceEqDiff, Int.reduceToNat, Int.reduceAdd, Int.reduceMul, Int.reduceSub, Int.reduceNeg, Int.reduceLT, Int.reduceLE, Int.reduceEq, Nat.zero_add, Nat.add_zero, Nat.mul_one, eq_self, ne_eq, not_true, not_false_iff, and_true, true_and, and_self, List.getElem?_cons_zero, List.getElem?_cons_succ, List.map_cons, List.map_nil, ld1_new, ld1_old, len_push, len_set, wrap64, hmk, rep_int, sts_one (row_new _), sts_one (e := 26) (u := 0) (h := _ ++ [_]), row_new, row_old, row_same, row_set_other, ld1_same, ld1_other, Nat.add_assoc, hcall, e8]
end Go.Proofs.Ytdmgkdaiegdfmaa
