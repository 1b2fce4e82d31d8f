/-
  What digits.Gray and digits.Place compute. Conditions: lists that read as numbers.
-/
import Derived.Test.YtdmgkdaiegdfmaaSizes
import Derived.Test.YtdmgkdaiegdfmaaSame
namespace Go.Proofs.Ytdmgkdaiegdfmaa
open Go.Am
set_option linter.unusedVariables false
set_option linter.unusedSimpArgs false

def prodL : List Int → Int
  | [] => 1
  | s :: r => s * prodL r
def grayP : List Int → Int → List Int
  | [], _ => []
  | s :: r, k => (k / prodL r) :: grayP r (if k / prodL r % 2 = 1 then prodL r - 1 - k % prodL r else k % prodL r)
def OkS (zs : List Int) : Prop := ∀ z ∈ zs, 2 ≤ z ∧ z ≤ 10
theorem OkS.tail {z : Int} {r : List Int} (h : OkS (z :: r)) : OkS r := fun x hx => h x (List.mem_cons_of_mem _ hx)
theorem OkS.head {z : Int} {r : List Int} (h : OkS (z :: r)) : 2 ≤ z ∧ z ≤ 10 := h z (List.mem_cons_self ..)
theorem prodL_pos : ∀ {zs : List Int}, OkS zs → 1 ≤ prodL zs
  | [], _ => Int.le_refl 1
  | s :: r, h => by
    have h1 := prodL_pos h.tail
    have h2 := h.head
    have : 1 * 1 ≤ s * prodL r := Int.mul_le_mul (by omega) h1 (by omega) (by omega)
    unfold prodL; omega
theorem checkLoop_some : ∀ {zs : List Int} {all a : Int}, checkLoop zs all = some a → OkS zs ∧ a = all * prodL zs
  | [], all, a, h => by rw [checkLoop] at h; cases h; exact ⟨fun _ h => absurd h (List.not_mem_nil), by simp [prodL]⟩
  | z :: r, all, a, h => by
    rw [checkLoop] at h
    by_cases hz : z < 2 ∨ 10 < z
    · rw [if_pos hz] at h; cases h
    · rw [if_neg hz] at h
      obtain ⟨h1, h2⟩ := checkLoop_some h
      refine ⟨fun x hx => ?_, by rw [h2, prodL, Int.mul_assoc]⟩
      rcases List.mem_cons.mp hx with rfl | hx
      · omega
      · exact h1 x hx
theorem checkP_ok {zs : List Int} (h : checkP zs = 0) : 1 ≤ zs.length ∧ zs.length ≤ 10 ∧ OkS zs ∧ prodL zs ≤ 1024 := by
  unfold checkP at h
  by_cases h1 : zs.length < 1 ∨ 10 < zs.length
  · rw [if_pos h1] at h; cases h
  rw [if_neg h1] at h
  cases hc : checkLoop zs 1 with
  | none => rw [hc] at h; cases h
  | some a =>
    rw [hc] at h
    simp only at h
    obtain ⟨h2, h3⟩ := checkLoop_some hc
    by_cases ha : 1024 < a
    · rw [if_pos ha] at h; cases h
    · exact ⟨by omega, by omega, h2, by omega⟩

theorem grayAll_loop (sa : Option Addr) (c : Nat) (zs : List Int) (k0 : Int) (h : H) (ks : List It) (hr : RdI h sa c zs) (hl : zs.length ≤ 10) : ∀ (k : Nat) (i all : Int) (iN : Nat), i = (iN : Int) → iN + k = zs.length → 1 ≤ all → OkS (zs.drop iN) → all * prodL (zs.drop iN) ≤ 1024 →
    goL T [.tmp 4, .tmp 5] [0, 1, 7, 19, 20, 21] c14L0 (.blk 0 [0, 1, 7] :: ks) [(0, .slice sa zs.length c), (1, .int .i64 k0), (7, .int .i64 all), (19, .slice sa zs.length c), (20, .int .i64 zs.length), (21, .int .i64 i)] h =
      go T [.tmp 4, .tmp 5] ks (Fr.of [(0, .slice sa zs.length c), (1, .int .i64 k0), (7, .int .i64 (all * prodL (zs.drop iN)))]) h
  | 0, i, all, iN, hi, hk, h1, hs, h2 => by
    subst hi
    rw [goL_at c14L0.eq_def, List.drop_eq_nil_of_le (by omega)]
    simp (disch := first | omega | (simp only [Go.Am.len_push, Go.Am.len_set, Go.Am.len_kill] <;> omega) | fail) only [push_cast, Nat.reduceBEq, Nat.reduceAdd, Nat.reduceMul, Nat.reduceSub, Nat.reduceLT, Nat.reduceLeDiff, Nat.reduceEqDiff, Int.reduceToNat, Int.reduceAdd, Int.reduceMul, Int.reduceSub, Int.reduceNeg, Int.reduceLT, Int.reduceLE, Int.reduceEq, Nat.zero_add, Nat.add_zero, Nat.mul_one, eq_self, ne_eq, not_true, not_false_iff, and_true, true_and, and_self, List.getElem?_cons_zero, List.getElem?_cons_succ, List.map_cons, List.map_nil, dec_nlt, prodL, Int.mul_one]
  | k + 1, i, all, iN, hi, hk, h1, hs, h2 => by
    subst hi
    rw [drop_gi (by omega)] at hs h2
    rw [goL_at c14L0.eq_def, drop_gi (by omega)]
    obtain ⟨o, off, rfl, _, hld⟩ := hr.addr (by omega)
    have e1 := hld (iN : Int) (by omega) (by omega)
    have hi1 : 0 ≤ (iN : Int) ∧ (iN : Int) < (zs.length : Int) := by omega
    have hh := hs.head
    have hp := prodL_pos hs.tail
    have hm2 : 1 * 1 ≤ all * gi zs iN := Int.mul_le_mul h1 (by omega) (by omega) (by omega)
    rw [prodL, ← Int.mul_assoc] at h2
    have hm3 : all * gi zs iN * 1 ≤ all * gi zs iN * prodL (zs.drop (iN + 1)) := Int.mul_le_mul_of_nonneg_left hp (by omega)
    have ih := grayAll_loop _ c zs k0 h ks hr hl k ((iN : Int) + 1) (all * gi zs iN) (iN + 1) (by omega) (by omega) (by omega) hs.tail h2
    rw [prodL, ← Int.mul_assoc]
    simp (disch := first | omega | (simp only [Go.Am.len_push, Go.Am.len_set, Go.Am.len_kill] <;> omega) | fail) only [push_cast, Nat.reduceBEq, Nat.reduceAdd, Nat.reduceMul, Nat.reduceSub, Nat.reduceLT, Nat.reduceLeDiff, Nat.reduceEqDiff, Int.reduceToNat, Int.reduceAdd, Int.reduceMul, Int.reduceSub, Int.reduceNeg, Int.reduceLT, Int.reduceLE, Int.reduceEq, Nat.zero_add, Nat.add_zero, Nat.mul_one, eq_self, ne_eq, not_true, not_false_iff, and_true, true_and, and_self, List.getElem?_cons_zero, List.getElem?_cons_succ, List.map_cons, List.map_nil, dec_lt, wrap64, hi1, e1]
    exact ih

theorem set_take {w : List Int} {i : Nat} {d : Int} (hi : i < w.length) : (w.set i d).take (i + 1) = w.take i ++ [d] := by
  rw [List.take_add_one, List.getElem?_set_self hi]
  congr 1
  rw [List.take_set_of_le (by omega)]

theorem gray_loop (h : H) (sa : Option Addr) (c : Nat) (zs : List Int) (hr : RdI h sa c zs) (hl : zs.length ≤ 10) : ∀ (j : Nat) (i k : Int) (iN : Nat) (w : List Int) (g : H), i = (iN : Int) → iN + j = zs.length → OkS (zs.drop iN) → prodL (zs.drop iN) ≤ 1024 → 0 ≤ k → k < prodL (zs.drop iN) →
    w.length = zs.length → h <+: g → g.row h.length = some ⟨ints w, 3, 1, true⟩ →
    ∃ (g' : H) (w' : List Int), w' = w.take iN ++ grayP (zs.drop iN) k ∧ h <+: g' ∧ g'.row h.length = some ⟨ints w', 3, 1, true⟩ ∧ ∀ ks, goL T [.tmp 4, .tmp 5] [1, 7, 10, 39, 40, 41] c14L1 (.blk 2 [10] :: ks) [(1, .int .i64 k), (7, .int .i64 (prodL (zs.drop iN))), (10, .slice (some ⟨h.length, 0, none⟩) zs.length zs.length), (39, .slice sa zs.length c), (40, .int .i64 zs.length), (41, .int .i64 i)] g =
      go T [.tmp 4, .tmp 5] ks (Fr.of [(10, .slice (some ⟨h.length, 0, none⟩) zs.length zs.length)]) g'
  | 0, i, k, iN, w, g, hi, hk, hs, h2, hk0, hk1, hw, hp, hrow => by
    subst hi
    refine ⟨g, w, ?_, hp, hrow, fun ks => ?_⟩
    · rw [List.drop_eq_nil_of_le (by omega), grayP, List.append_nil, List.take_of_length_le (by omega)]
    rw [goL_at c14L1.eq_def]
    simp (disch := first | omega | (simp only [Go.Am.len_push, Go.Am.len_set, Go.Am.len_kill] <;> omega) | fail) only [push_cast, Nat.reduceBEq, Nat.reduceAdd, Nat.reduceMul, Nat.reduceSub, Nat.reduceLT, Nat.reduceLeDiff, Nat.reduceEqDiff, Int.reduceToNat, Int.reduceAdd, Int.reduceMul, Int.reduceSub, Int.reduceNeg, Int.reduceLT, Int.reduceLE, Int.reduceEq, Nat.zero_add, Nat.add_zero, Nat.mul_one, eq_self, ne_eq, not_true, not_false_iff, and_true, true_and, and_self, List.getElem?_cons_zero, List.getElem?_cons_succ, List.map_cons, List.map_nil, dec_nlt]
  | j + 1, i, k, iN, w, g, hi, hk, hs, h2, hk0, hk1, hw, hp, hrow => by
    subst hi
    rw [drop_gi (by omega)] at hs h2 hk1 ⊢
    have hrg := hr.mono hp
    obtain ⟨o, off, rfl, _, hld⟩ := hrg.addr (by omega)
    have e1 := hld (iN : Int) (by omega) (by omega)
    have hi1 : 0 ≤ (iN : Int) ∧ (iN : Int) < (zs.length : Int) := by omega
    have hh := hs.head
    have hpp := prodL_pos hs.tail
    rw [prodL] at h2 hk1
    obtain ⟨m, hm⟩ : ∃ m, m = prodL (zs.drop (iN + 1)) := ⟨_, rfl⟩
    rw [← hm] at hpp h2 hk1
    obtain ⟨s, hsd⟩ : ∃ s, s = gi zs iN := ⟨_, rfl⟩
    rw [← hsd] at h2 hk1 hh e1
    have hm1 : m ≤ 1024 := by
      have : 1 * m ≤ s * m := Int.mul_le_mul_of_nonneg_right (by omega) (by omega)
      omega
    have q1 : (s * m).tdiv s = m := by rw [Int.mul_comm]; exact Int.mul_tdiv_cancel _ (by omega)
    have q2 : k.tdiv m = k / m := Int.tdiv_eq_ediv_of_nonneg hk0
    have q3 : k.tmod m = k % m := Int.tmod_eq_emod_of_nonneg hk0
    have d0 : 0 ≤ k / m := Int.ediv_nonneg hk0 (by omega)
    have d1 : k / m < s := Int.ediv_lt_of_lt_mul (by omega) hk1
    have r0 : 0 ≤ k % m := Int.emod_nonneg _ (by omega)
    have r1 : k % m < m := Int.emod_lt_of_pos _ (by omega)
    have q4 : (k / m).tmod 2 = (k / m) % 2 := Int.tmod_eq_emod_of_nonneg d0
    have hs0 : ¬ s = 0 := by omega
    have hm0 : ¬ m = 0 := by omega
    have e2 := sts_int (v := k / m) hrow (i := (iN : Int)) (by omega) (by omega)
    rw [Int.toNat_natCast] at e2 e1
    have hrow' : H.row (g.set h.length (.row ⟨ints (w.set iN (k / m)), 3, 1, true⟩)) h.length = some ⟨ints (w.set iN (k / m)), 3, 1, true⟩ := row_set_same (row_some_lt hrow)
    have hp' : h <+: g.set h.length (.row ⟨ints (w.set iN (k / m)), 3, 1, true⟩) := pre_set hp (Nat.le_refl _)
    have hwl : (w.set iN (k / m)).length = zs.length := by rw [List.length_set]; exact hw
    by_cases hodd : k / m % 2 = 1
    · obtain ⟨g', w', hw', hp1, hr1, hgo⟩ := gray_loop h _ c zs hr hl j ((iN : Int) + 1) (m - 1 - k % m) (iN + 1) (w.set iN (k / m)) _ (by omega) (by omega) hs.tail (by omega) (by omega) (by omega) hwl hp' hrow'
      refine ⟨g', w', ?_, hp1, hr1, fun ks => ?_⟩
      · rw [hw', set_take (by omega), grayP, ← hm, if_pos hodd, List.append_assoc]; rfl
      have hgo := hgo ks
      rw [← hm] at hgo
      rw [goL_at c14L1.eq_def, prodL, ← hm, ← hsd]
      simp (disch := first | omega | (simp only [Go.Am.len_push, Go.Am.len_set, Go.Am.len_kill] <;> omega) | fail) only [push_cast, Nat.reduceBEq, Nat.reduceAdd, Nat.reduceMul, Nat.reduceSub, Nat.reduceLT, Nat.reduceLeDiff, Nat.reduceEqDiff, Int.reduceToNat, Int.reduceAdd, Int.reduceMul, Int.reduceSub, Int.reduceNeg, Int.reduceLT, Int.reduceLE, Int.reduceEq, Nat.zero_add, Nat.add_zero, Nat.mul_one, eq_self, ne_eq, not_true, not_false_iff, and_true, true_and, and_self, List.getElem?_cons_zero, List.getElem?_cons_succ, List.map_cons, List.map_nil, dec_lt, wrap64, hi1, Int.toNat_natCast, e1, q1, q2, q3, q4, hs0, hm0, e2, dec_eq hodd]
      exact hgo
    · obtain ⟨g', w', hw', hp1, hr1, hgo⟩ := gray_loop h _ c zs hr hl j ((iN : Int) + 1) (k % m) (iN + 1) (w.set iN (k / m)) _ (by omega) (by omega) hs.tail (by omega) (by omega) (by omega) hwl hp' hrow'
      refine ⟨g', w', ?_, hp1, hr1, fun ks => ?_⟩
      · rw [hw', set_take (by omega), grayP, ← hm, if_neg hodd, List.append_assoc]; rfl
      have hgo := hgo ks
      rw [← hm] at hgo
      rw [goL_at c14L1.eq_def, prodL, ← hm, ← hsd]
      simp (disch := first | omega | (simp only [Go.Am.len_push, Go.Am.len_set, Go.Am.len_kill] <;> omega) | fail) only [push_cast, Nat.reduceBEq, Nat.reduceAdd, Nat.reduceMul, Nat.reduceSub, Nat.reduceLT, Nat.reduceLeDiff, Nat.reduceEqDiff, Int.reduceToNat, Int.reduceAdd, Int.reduceMul, Int.reduceSub, Int.reduceNeg, Int.reduceLT, Int.reduceLE, Int.reduceEq, Nat.zero_add, Nat.add_zero, Nat.mul_one, eq_self, ne_eq, not_true, not_false_iff, and_true, true_and, and_self, List.getElem?_cons_zero, List.getElem?_cons_succ, List.map_cons, List.map_nil, dec_lt, wrap64, hi1, Int.toNat_natCast, e1, q1, q2, q3, q4, hs0, hm0, e2, dec_ne hodd]
      exact hgo
end Go.Proofs.Ytdmgkdaiegdfmaa
