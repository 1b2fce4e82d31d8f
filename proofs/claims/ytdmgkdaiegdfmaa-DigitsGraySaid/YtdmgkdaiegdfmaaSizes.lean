/-
  What SizesMay and digits.Check compute. Conditions: lists that read as numbers.
-/
import Derived.Test.YtdmgkdaiegdfmaaCode
import Derived.Test.YtdmgkdaiegdfmaaAm20
namespace Go.Proofs.Ytdmgkdaiegdfmaa
open Go.Am
set_option linter.unusedVariables false
set_option linter.unusedSimpArgs false

def mayLoop : List Int → Int → Option Int
  | [], all => some all
  | z :: r, all => if z < 2 ∨ 10 < z then none else mayLoop r (if all ≤ 1024 then all * z else all)
def sizesMay (zs : List Int) : Int × Int := if zs.length < 1 ∨ 10 < zs.length then (0, 6) else match mayLoop zs 1 with
  | none => (0, 2)
  | some a => if 1024 < a then (0, 4) else (a, 0)
def checkLoop : List Int → Int → Option Int
  | [], all => some all
  | z :: r, all => if z < 2 ∨ 10 < z then none else checkLoop r (all * z)
def checkP (zs : List Int) : Int := if zs.length < 1 ∨ 10 < zs.length then 6 else match checkLoop zs 1 with
  | none => 2
  | some a => if 1024 < a then 4 else 0

theorem drop_gi {zs : List Int} {i : Nat} (hi : i < zs.length) : zs.drop i = gi zs i :: zs.drop (i + 1) := by
  rw [List.drop_eq_getElem_cons hi]
  congr 1
  have := gi_eq (zs := zs) (i := (i : Int)) (by omega) (by omega)
  rw [Int.toNat_natCast, List.getElem?_eq_getElem hi] at this
  exact Option.some.inj this

theorem sizesMay_loop (sa : Option Addr) (c : Nat) (zs : List Int) (h : H) (ks : List It) (hr : RdI h sa c zs) (hl : zs.length ≤ 10) : ∀ (k : Nat) (i all : Int) (iN : Nat), i = (iN : Int) → iN + k = zs.length → 1 ≤ all → all ≤ 10240 →
    goL T [.tmp 2, .tmp 3] [0, 4, 5] c11L0 (.blk 0 [4] :: ks) [(0, .slice sa zs.length c), (4, .int .i64 all), (5, .int .i64 i)] h =
      match mayLoop (zs.drop iN) all with
      | none => some (.tuple #[.int .i64 0, .int .i64 2], h)
      | some a => go T [.tmp 2, .tmp 3] ks (Fr.of [(4, .int .i64 a)]) h
  | 0, i, all, iN, hi, hk, h1, h2 => by
    subst hi
    rw [goL_at c11L0.eq_def, List.drop_eq_nil_of_le (by omega)]
    simp (disch := first | omega | (simp only [Go.Am.len_push, Go.Am.len_set, Go.Am.len_kill] <;> omega) | fail) only [push_cast, Nat.reduceBEq, Nat.reduceAdd, Nat.reduceMul, Nat.reduceSub, Nat.reduceLT, Nat.reduceLeDiff, Nat.reduceEqDiff, Int.reduceToNat, Int.reduceAdd, Int.reduceMul, Int.reduceSub, Int.reduceNeg, Int.reduceLT, Int.reduceLE, Int.reduceEq, Nat.zero_add, Nat.add_zero, Nat.mul_one, eq_self, ne_eq, not_true, not_false_iff, and_true, true_and, and_self, List.getElem?_cons_zero, List.getElem?_cons_succ, List.map_cons, List.map_nil, dec_nlt, mayLoop]
  | k + 1, i, all, iN, hi, hk, h1, h2 => by
    subst hi
    rw [goL_at c11L0.eq_def, drop_gi (by omega), mayLoop]
    obtain ⟨o, off, rfl, _, hld⟩ := hr.addr (by omega)
    have e1 := hld (iN : Int) (by omega) (by omega)
    have hi1 : 0 ≤ (iN : Int) ∧ (iN : Int) < (zs.length : Int) := by omega
    by_cases hb1 : gi zs iN < 2
    · rw [if_pos (.inl hb1)]
      simp (disch := first | omega | (simp only [Go.Am.len_push, Go.Am.len_set, Go.Am.len_kill] <;> omega) | fail) only [push_cast, Nat.reduceBEq, Nat.reduceAdd, Nat.reduceMul, Nat.reduceSub, Nat.reduceLT, Nat.reduceLeDiff, Nat.reduceEqDiff, Int.reduceToNat, Int.reduceAdd, Int.reduceMul, Int.reduceSub, Int.reduceNeg, Int.reduceLT, Int.reduceLE, Int.reduceEq, Nat.zero_add, Nat.add_zero, Nat.mul_one, eq_self, ne_eq, not_true, not_false_iff, and_true, true_and, and_self, List.getElem?_cons_zero, List.getElem?_cons_succ, List.map_cons, List.map_nil, dec_lt, hi1, e1]
    by_cases hb2 : 10 < gi zs iN
    · rw [if_pos (.inr hb2)]
      simp (disch := first | omega | (simp only [Go.Am.len_push, Go.Am.len_set, Go.Am.len_kill] <;> omega) | fail) only [push_cast, Nat.reduceBEq, Nat.reduceAdd, Nat.reduceMul, Nat.reduceSub, Nat.reduceLT, Nat.reduceLeDiff, Nat.reduceEqDiff, Int.reduceToNat, Int.reduceAdd, Int.reduceMul, Int.reduceSub, Int.reduceNeg, Int.reduceLT, Int.reduceLE, Int.reduceEq, Nat.zero_add, Nat.add_zero, Nat.mul_one, eq_self, ne_eq, not_true, not_false_iff, and_true, true_and, and_self, List.getElem?_cons_zero, List.getElem?_cons_succ, List.map_cons, List.map_nil, dec_lt, dec_nlt, hi1, e1]
    rw [if_neg (by omega)]
    by_cases ha : all ≤ 1024
    · have hm : all * gi zs iN ≤ 1024 * 10 := Int.mul_le_mul ha (by omega) (by omega) (by omega)
      have hm2 : 1 * 1 ≤ all * gi zs iN := Int.mul_le_mul h1 (by omega) (by omega) (by omega)
      have ih := sizesMay_loop _ c zs h ks hr hl k ((iN : Int) + 1) (all * gi zs iN) (iN + 1) (by omega) (by omega) (by omega) (by omega)
      rw [if_pos ha]
      simp (disch := first | omega | (simp only [Go.Am.len_push, Go.Am.len_set, Go.Am.len_kill] <;> omega) | fail) only [push_cast, Nat.reduceBEq, Nat.reduceAdd, Nat.reduceMul, Nat.reduceSub, Nat.reduceLT, Nat.reduceLeDiff, Nat.reduceEqDiff, Int.reduceToNat, Int.reduceAdd, Int.reduceMul, Int.reduceSub, Int.reduceNeg, Int.reduceLT, Int.reduceLE, Int.reduceEq, Nat.zero_add, Nat.add_zero, Nat.mul_one, eq_self, ne_eq, not_true, not_false_iff, and_true, true_and, and_self, List.getElem?_cons_zero, List.getElem?_cons_succ, List.map_cons, List.map_nil, dec_lt, dec_nlt, dec_le, wrap64, hi1, e1]
      exact ih
    · have ih := sizesMay_loop _ c zs h ks hr hl k ((iN : Int) + 1) all (iN + 1) (by omega) (by omega) (by omega) (by omega)
      rw [if_neg ha]
      simp (disch := first | omega | (simp only [Go.Am.len_push, Go.Am.len_set, Go.Am.len_kill] <;> omega) | fail) only [push_cast, Nat.reduceBEq, Nat.reduceAdd, Nat.reduceMul, Nat.reduceSub, Nat.reduceLT, Nat.reduceLeDiff, Nat.reduceEqDiff, Int.reduceToNat, Int.reduceAdd, Int.reduceMul, Int.reduceSub, Int.reduceNeg, Int.reduceLT, Int.reduceLE, Int.reduceEq, Nat.zero_add, Nat.add_zero, Nat.mul_one, eq_self, ne_eq, not_true, not_false_iff, and_true, true_and, and_self, List.getElem?_cons_zero, List.getElem?_cons_succ, List.map_cons, List.map_nil, dec_lt, dec_nlt, dec_nle, wrap64, hi1, e1]
      exact ih

theorem sizesMay_call (sa : Option Addr) (c : Nat) (zs : List Int) (h : H) (hr : RdI h sa c zs) :
    call T 11 [.slice sa zs.length c] h = some (.tuple #[.int .i64 (sizesMay zs).1, .int .i64 (sizesMay zs).2], h) := by
  rw [call_at T11 rfl]
  unfold F11 c11 sizesMay
  by_cases h1 : zs.length < 1
  · rw [if_pos (.inl h1)]
    simp (disch := first | omega | (simp only [Go.Am.len_push, Go.Am.len_set, Go.Am.len_kill] <;> omega) | fail) only [push_cast, Nat.reduceBEq, Nat.reduceAdd, Nat.reduceMul, Nat.reduceSub, Nat.reduceLT, Nat.reduceLeDiff, Nat.reduceEqDiff, Int.reduceToNat, Int.reduceAdd, Int.reduceMul, Int.reduceSub, Int.reduceNeg, Int.reduceLT, Int.reduceLE, Int.reduceEq, Nat.zero_add, Nat.add_zero, Nat.mul_one, eq_self, ne_eq, not_true, not_false_iff, and_true, true_and, and_self, List.getElem?_cons_zero, List.getElem?_cons_succ, List.map_cons, List.map_nil, dec_lt]
  by_cases h2 : 10 < zs.length
  · rw [if_pos (.inr h2)]
    simp (disch := first | omega | (simp only [Go.Am.len_push, Go.Am.len_set, Go.Am.len_kill] <;> omega) | fail) only [push_cast, Nat.reduceBEq, Nat.reduceAdd, Nat.reduceMul, Nat.reduceSub, Nat.reduceLT, Nat.reduceLeDiff, Nat.reduceEqDiff, Int.reduceToNat, Int.reduceAdd, Int.reduceMul, Int.reduceSub, Int.reduceNeg, Int.reduceLT, Int.reduceLE, Int.reduceEq, Nat.zero_add, Nat.add_zero, Nat.mul_one, eq_self, ne_eq, not_true, not_false_iff, and_true, true_and, and_self, List.getElem?_cons_zero, List.getElem?_cons_succ, List.map_cons, List.map_nil, dec_lt, dec_nlt]
  rw [if_neg (by omega)]
  simp (disch := first | omega | (simp only [Go.Am.len_push, Go.Am.len_set, Go.Am.len_kill] <;> omega) | fail) only [push_cast, Nat.reduceBEq, Nat.reduceAdd, Nat.reduceMul, Nat.reduceSub, Nat.reduceLT, Nat.reduceLeDiff, Nat.reduceEqDiff, Int.reduceToNat, Int.reduceAdd, Int.reduceMul, Int.reduceSub, Int.reduceNeg, Int.reduceLT, Int.reduceLE, Int.reduceEq, Nat.zero_add, Nat.add_zero, Nat.mul_one, eq_self, ne_eq, not_true, not_false_iff, and_true, true_and, and_self, List.getElem?_cons_zero, List.getElem?_cons_succ, List.map_cons, List.map_nil, dec_lt, dec_nlt]
  rw [sizesMay_loop sa c zs h _ hr (by omega) zs.length 0 1 0 rfl (by omega) (by omega) (by omega), List.drop_zero]
  cases mayLoop zs 1 with
  | none => rfl
  | some a =>
    simp only []
    by_cases ha : 1024 < a
    · rw [if_pos ha]
      simp (disch := first | omega | (simp only [Go.Am.len_push, Go.Am.len_set, Go.Am.len_kill] <;> omega) | fail) only [push_cast, Nat.reduceBEq, Nat.reduceAdd, Nat.reduceMul, Nat.reduceSub, Nat.reduceLT, Nat.reduceLeDiff, Nat.reduceEqDiff, Int.reduceToNat, Int.reduceAdd, Int.reduceMul, Int.reduceSub, Int.reduceNeg, Int.reduceLT, Int.reduceLE, Int.reduceEq, Nat.zero_add, Nat.add_zero, Nat.mul_one, eq_self, ne_eq, not_true, not_false_iff, and_true, true_and, and_self, List.getElem?_cons_zero, List.getElem?_cons_succ, List.map_cons, List.map_nil, dec_lt]
    · rw [if_neg ha]
      simp (disch := first | omega | (simp only [Go.Am.len_push, Go.Am.len_set, Go.Am.len_kill] <;> omega) | fail) only [push_cast, Nat.reduceBEq, Nat.reduceAdd, Nat.reduceMul, Nat.reduceSub, Nat.reduceLT, Nat.reduceLeDiff, Nat.reduceEqDiff, Int.reduceToNat, Int.reduceAdd, Int.reduceMul, Int.reduceSub, Int.reduceNeg, Int.reduceLT, Int.reduceLE, Int.reduceEq, Nat.zero_add, Nat.add_zero, Nat.mul_one, eq_self, ne_eq, not_true, not_false_iff, and_true, true_and, and_self, List.getElem?_cons_zero, List.getElem?_cons_succ, List.map_cons, List.map_nil, dec_nlt]

theorem check_loop (sa : Option Addr) (c : Nat) (zs : List Int) (h : H) (ks : List It) (hr : RdI h sa c zs) (hl : zs.length ≤ 10) : ∀ (k : Nat) (i all : Int) (iN : Nat), i = (iN : Int) → iN + k = zs.length → 1 ≤ all → all * 10 ^ k ≤ 10 ^ 10 →
    goL T [.tmp 2] [3, 14, 15, 16] c12L0 (.blk 0 [3] :: ks) [(3, .int .i64 all), (14, .slice sa zs.length c), (15, .int .i64 zs.length), (16, .int .i64 i)] h =
      match checkLoop (zs.drop iN) all with
      | none => some (.int .i64 2, h)
      | some a => go T [.tmp 2] ks (Fr.of [(3, .int .i64 a)]) h
  | 0, i, all, iN, hi, hk, h1, h2 => by
    subst hi
    rw [goL_at c12L0.eq_def, List.drop_eq_nil_of_le (by omega)]
    simp (disch := first | omega | (simp only [Go.Am.len_push, Go.Am.len_set, Go.Am.len_kill] <;> omega) | fail) only [push_cast, Nat.reduceBEq, Nat.reduceAdd, Nat.reduceMul, Nat.reduceSub, Nat.reduceLT, Nat.reduceLeDiff, Nat.reduceEqDiff, Int.reduceToNat, Int.reduceAdd, Int.reduceMul, Int.reduceSub, Int.reduceNeg, Int.reduceLT, Int.reduceLE, Int.reduceEq, Nat.zero_add, Nat.add_zero, Nat.mul_one, eq_self, ne_eq, not_true, not_false_iff, and_true, true_and, and_self, List.getElem?_cons_zero, List.getElem?_cons_succ, List.map_cons, List.map_nil, dec_nlt, checkLoop]
  | k + 1, i, all, iN, hi, hk, h1, h2 => by
    subst hi
    rw [goL_at c12L0.eq_def, drop_gi (by omega), checkLoop]
    obtain ⟨o, off, rfl, _, hld⟩ := hr.addr (by omega)
    have e1 := hld (iN : Int) (by omega) (by omega)
    have hi1 : 0 ≤ (iN : Int) ∧ (iN : Int) < (zs.length : Int) := by omega
    by_cases hb1 : gi zs iN < 2
    · rw [if_pos (.inl hb1)]
      simp (disch := first | omega | (simp only [Go.Am.len_push, Go.Am.len_set, Go.Am.len_kill] <;> omega) | fail) only [push_cast, Nat.reduceBEq, Nat.reduceAdd, Nat.reduceMul, Nat.reduceSub, Nat.reduceLT, Nat.reduceLeDiff, Nat.reduceEqDiff, Int.reduceToNat, Int.reduceAdd, Int.reduceMul, Int.reduceSub, Int.reduceNeg, Int.reduceLT, Int.reduceLE, Int.reduceEq, Nat.zero_add, Nat.add_zero, Nat.mul_one, eq_self, ne_eq, not_true, not_false_iff, and_true, true_and, and_self, List.getElem?_cons_zero, List.getElem?_cons_succ, List.map_cons, List.map_nil, dec_lt, hi1, e1]
    by_cases hb2 : 10 < gi zs iN
    · rw [if_pos (.inr hb2)]
      simp (disch := first | omega | (simp only [Go.Am.len_push, Go.Am.len_set, Go.Am.len_kill] <;> omega) | fail) only [push_cast, Nat.reduceBEq, Nat.reduceAdd, Nat.reduceMul, Nat.reduceSub, Nat.reduceLT, Nat.reduceLeDiff, Nat.reduceEqDiff, Int.reduceToNat, Int.reduceAdd, Int.reduceMul, Int.reduceSub, Int.reduceNeg, Int.reduceLT, Int.reduceLE, Int.reduceEq, Nat.zero_add, Nat.add_zero, Nat.mul_one, eq_self, ne_eq, not_true, not_false_iff, and_true, true_and, and_self, List.getElem?_cons_zero, List.getElem?_cons_succ, List.map_cons, List.map_nil, dec_lt, dec_nlt, hi1, e1]
    rw [if_neg (by omega)]
    have hp : (1 : Int) ≤ 10 ^ k := by have : (0 : Int) < 10 ^ k := Int.pow_pos (by omega); omega
    have hm2 : 1 * 1 ≤ all * gi zs iN := Int.mul_le_mul h1 (by omega) (by omega) (by omega)
    have hy : all * gi zs iN ≤ all * 10 := Int.mul_le_mul_of_nonneg_left (by omega) (by omega)
    have hz : all * gi zs iN * 10 ^ k ≤ all * 10 * 10 ^ k := Int.mul_le_mul_of_nonneg_right hy (by omega)
    have hw : all * 10 ^ (k + 1) = all * 10 * 10 ^ k := by rw [Int.pow_succ, Int.mul_comm ((10 : Int) ^ k), Int.mul_assoc]
    have hm : all * gi zs iN * 10 ^ k ≤ 10 ^ 10 := by rw [hw] at h2; exact Int.le_trans hz h2
    have hm3 : all * gi zs iN * 1 ≤ 10 ^ 10 := Int.le_trans (Int.mul_le_mul_of_nonneg_left hp (by omega)) hm
    have ih := check_loop _ c zs h ks hr hl k ((iN : Int) + 1) (all * gi zs iN) (iN + 1) (by omega) (by omega) (by omega) hm
    simp (disch := first | omega | (simp only [Go.Am.len_push, Go.Am.len_set, Go.Am.len_kill] <;> omega) | fail) only [push_cast, Nat.reduceBEq, Nat.reduceAdd, Nat.reduceMul, Nat.reduceSub, Nat.reduceLT, Nat.reduceLeDiff, Nat.reduceEqDiff, Int.reduceToNat, Int.reduceAdd, Int.reduceMul, Int.reduceSub, Int.reduceNeg, Int.reduceLT, Int.reduceLE, Int.reduceEq, Nat.zero_add, Nat.add_zero, Nat.mul_one, eq_self, ne_eq, not_true, not_false_iff, and_true, true_and, and_self, List.getElem?_cons_zero, List.getElem?_cons_succ, List.map_cons, List.map_nil, dec_lt, dec_nlt, wrap64, hi1, e1]
    exact ih

theorem check_call (sa : Option Addr) (c : Nat) (zs : List Int) (h : H) (hr : RdI h sa c zs) :
    call T 12 [.slice sa zs.length c] h = some (.int .i64 (checkP zs), h) := by
  rw [call_at T12 rfl]
  unfold F12 c12 checkP
  by_cases h1 : zs.length < 1
  · rw [if_pos (.inl h1)]
    simp (disch := first | omega | (simp only [Go.Am.len_push, Go.Am.len_set, Go.Am.len_kill] <;> omega) | fail) only [push_cast, Nat.reduceBEq, Nat.reduceAdd, Nat.reduceMul, Nat.reduceSub, Nat.reduceLT, Nat.reduceLeDiff, Nat.reduceEqDiff, Int.reduceToNat, Int.reduceAdd, Int.reduceMul, Int.reduceSub, Int.reduceNeg, Int.reduceLT, Int.reduceLE, Int.reduceEq, Nat.zero_add, Nat.add_zero, Nat.mul_one, eq_self, ne_eq, not_true, not_false_iff, and_true, true_and, and_self, List.getElem?_cons_zero, List.getElem?_cons_succ, List.map_cons, List.map_nil, dec_lt]
  by_cases h2 : 10 < zs.length
  · rw [if_pos (.inr h2)]
    simp (disch := first | omega | (simp only [Go.Am.len_push, Go.Am.len_set, Go.Am.len_kill] <;> omega) | fail) only [push_cast, Nat.reduceBEq, Nat.reduceAdd, Nat.reduceMul, Nat.reduceSub, Nat.reduceLT, Nat.reduceLeDiff, Nat.reduceEqDiff, Int.reduceToNat, Int.reduceAdd, Int.reduceMul, Int.reduceSub, Int.reduceNeg, Int.reduceLT, Int.reduceLE, Int.reduceEq, Nat.zero_add, Nat.add_zero, Nat.mul_one, eq_self, ne_eq, not_true, not_false_iff, and_true, true_and, and_self, List.getElem?_cons_zero, List.getElem?_cons_succ, List.map_cons, List.map_nil, dec_lt, dec_nlt]
  rw [if_neg (by omega)]
  simp (disch := first | omega | (simp only [Go.Am.len_push, Go.Am.len_set, Go.Am.len_kill] <;> omega) | fail) only [push_cast, Nat.reduceBEq, Nat.reduceAdd, Nat.reduceMul, Nat.reduceSub, Nat.reduceLT, Nat.reduceLeDiff, Nat.reduceEqDiff, Int.reduceToNat, Int.reduceAdd, Int.reduceMul, Int.reduceSub, Int.reduceNeg, Int.reduceLT, Int.reduceLE, Int.reduceEq, Nat.zero_add, Nat.add_zero, Nat.mul_one, eq_self, ne_eq, not_true, not_false_iff, and_true, true_and, and_self, List.getElem?_cons_zero, List.getElem?_cons_succ, List.map_cons, List.map_nil, dec_lt, dec_nlt]
  rw [check_loop sa c zs h _ hr (by omega) zs.length 0 1 0 rfl (by omega) (by omega) (by
    rw [Int.one_mul]
    exact_mod_cast Nat.pow_le_pow_right (by omega : 0 < 10) (by omega : zs.length ≤ 10)), List.drop_zero]
  cases checkLoop zs 1 with
  | none => rfl
  | some a =>
    simp only []
    by_cases ha : 1024 < a
    · rw [if_pos ha]
      simp (disch := first | omega | (simp only [Go.Am.len_push, Go.Am.len_set, Go.Am.len_kill] <;> omega) | fail) only [push_cast, Nat.reduceBEq, Nat.reduceAdd, Nat.reduceMul, Nat.reduceSub, Nat.reduceLT, Nat.reduceLeDiff, Nat.reduceEqDiff, Int.reduceToNat, Int.reduceAdd, Int.reduceMul, Int.reduceSub, Int.reduceNeg, Int.reduceLT, Int.reduceLE, Int.reduceEq, Nat.zero_add, Nat.add_zero, Nat.mul_one, eq_self, ne_eq, not_true, not_false_iff, and_true, true_and, and_self, List.getElem?_cons_zero, List.getElem?_cons_succ, List.map_cons, List.map_nil, dec_lt]
    · rw [if_neg ha]
      simp (disch := first | omega | (simp only [Go.Am.len_push, Go.Am.len_set, Go.Am.len_kill] <;> omega) | fail) only [push_cast, Nat.reduceBEq, Nat.reduceAdd, Nat.reduceMul, Nat.reduceSub, Nat.reduceLT, Nat.reduceLeDiff, Nat.reduceEqDiff, Int.reduceToNat, Int.reduceAdd, Int.reduceMul, Int.reduceSub, Int.reduceNeg, Int.reduceLT, Int.reduceLE, Int.reduceEq, Nat.zero_add, Nat.add_zero, Nat.mul_one, eq_self, ne_eq, not_true, not_false_iff, and_true, true_and, and_self, List.getElem?_cons_zero, List.getElem?_cons_succ, List.map_cons, List.map_nil, dec_nlt]
end Go.Proofs.Ytdmgkdaiegdfmaa
