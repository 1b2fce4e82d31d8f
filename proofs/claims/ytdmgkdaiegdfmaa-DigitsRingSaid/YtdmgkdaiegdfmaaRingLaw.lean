/-
  DigitsRing answers true. Conditions: numbers of Go's int.
-/
import Derived.Test.YtdmgkdaiegdfmaaRingOk
import Derived.Test.YtdmgkdaiegdfmaaRingOfCall
import Derived.Test.YtdmgkdaiegdfmaaSame
namespace Go.Proofs.Ytdmgkdaiegdfmaa
open Go.Am
set_option linter.unusedVariables false
set_option linter.unusedSimpArgs false

theorem ringLoop_pow (q : Int) (hq : 2 ≤ q) : ∀ (k : Nat) (all : Int), 1 ≤ all → (ringLoop q k all).2 = 0 → (ringLoop q k all).1 = all * q ^ k ∧ (k ≠ 0 → all * 2 ^ k ≤ 1024 ∧ all * q ^ k ≤ 1024)
  | 0, all, h1, h => by simp [ringLoop]
  | k + 1, all, h1, h => by
    unfold ringLoop at h ⊢
    by_cases hb : 1024 < all * q
    · rw [if_pos hb] at h; cases h
    · rw [if_neg hb] at h ⊢
      have hm : 1 ≤ all * q := by
        have : 1 * 1 ≤ all * q := Int.mul_le_mul h1 (by omega) (by omega) (by omega)
        omega
      have ih := ringLoop_pow q hq k (all * q) hm h
      refine ⟨by rw [ih.1, Int.pow_succ, Int.mul_assoc, Int.mul_comm q], fun _ => ?_⟩
      have e1 : all * q ^ (k + 1) = all * q * q ^ k := by rw [Int.pow_succ, Int.mul_assoc, Int.mul_comm q]
      have e2 : all * 2 ^ (k + 1) ≤ all * q * 2 ^ k := by
        rw [Int.pow_succ, ← Int.mul_assoc]
        rw [Int.mul_right_comm all q]
        exact Int.mul_le_mul_of_nonneg_left hq (Int.mul_nonneg (by omega) (Int.pow_nonneg (by omega)))
      by_cases hk : k = 0
      · subst hk
        simp only [Int.pow_zero, Int.mul_one] at e1 e2 ⊢
        rw [e1]; exact ⟨by omega, by omega⟩
      · have := ih.2 hk
        rw [e1]; exact ⟨by omega, this.2⟩

/-- where a ring may be: few numbers -/
theorem ringMay_small (q n : Int) (h : (ringMay q n).2 = 0) : ∃ qN nN : Nat, q = qN ∧ n = nN ∧ 2 ≤ qN ∧ qN ≤ 10 ∧ 1 ≤ nN ∧ nN ≤ 10 ∧ qN ^ nN ≤ 1024 ∧ ringMay q n = (((qN ^ nN : Nat) : Int), 0) := by
  have hb : ¬ (q < 2 ∨ 10 < q ∨ n < 1) := by intro hb; unfold ringMay at h; rw [if_pos hb] at h; cases h
  have e : ringMay q n = ringLoop q n.toNat 1 := by unfold ringMay; rw [if_neg hb]
  rw [e] at h ⊢
  obtain ⟨h1, h2⟩ := ringLoop_pow q (by omega) n.toNat 1 (by omega) h
  have h3 := h2 (by omega)
  obtain ⟨qN, rfl⟩ : ∃ qN : Nat, q = qN := ⟨q.toNat, by omega⟩
  obtain ⟨nN, rfl⟩ : ∃ nN : Nat, n = nN := ⟨n.toNat, by omega⟩
  rw [Int.toNat_natCast] at h1 h2 h3 h ⊢
  rw [Int.one_mul] at h1
  rw [Int.one_mul, Int.one_mul] at h3
  have hp1 : qN ^ nN ≤ 1024 := by
    have : ((qN ^ nN : Nat) : Int) ≤ 1024 := by rw [Int.natCast_pow]; exact h3.2
    omega
  have hp2 : 2 ^ nN ≤ 1024 := by
    have : ((2 ^ nN : Nat) : Int) ≤ 1024 := by rw [Int.natCast_pow]; exact h3.1
    omega
  have hn10 : nN ≤ 10 := by
    by_cases hc : nN ≤ 10
    · exact hc
    · have : 2 ^ 11 ≤ 2 ^ nN := Nat.pow_le_pow_right (by omega) (by omega)
      have : (2 : Nat) ^ 11 = 2048 := rfl
      omega
  refine ⟨qN, nN, rfl, rfl, by omega, by omega, by omega, hn10, hp1, ?_⟩
  rw [← Int.natCast_pow] at h1
  exact Prod.ext h1 h

theorem law_call (q n : Int) (hn : n ≤ 9223372036854775807) : ∃ h', call T 4 [.int .i64 q, .int .i64 n] [] = some (.bool true, h') := by
  have e1 := ringMay_call q n [] hn
  by_cases h : (ringMay q n).2 = 0
  · obtain ⟨qN, nN, rfl, rfl, hq1, hq2, hn1, hn2, hp, he⟩ := ringMay_small q n h
    have hok := ring_ok qN nN hq1 hq2 hn1 hn2 hp
    unfold okRing at hok
    cases hl : ringP qN nN with
    | none => rw [hl] at hok; cases hok
    | some l =>
    rw [hl] at hok
    simp only [Bool.and_eq_true, beq_iff_eq] at hok
    obtain ⟨hlen, hok⟩ := hok
    obtain ⟨sa, h1, hc1, hp1, hrd⟩ := ring_call [] qN nN (by omega) h l hl
    rw [he] at e1
    have hlenI : (l.length : Int) = ((qN ^ nN : Nat) : Int) := by rw [hlen]
    obtain ⟨all, hall⟩ : ∃ all, all = qN ^ nN := ⟨_, rfl⟩
    rw [← hall] at e1 hlenI hok hp
    by_cases hb : all ≤ 300
    · rw [(Nat.ble_eq).mpr hb] at hok
      simp only [cond_true] at hok
      cases hl2 : ringAll qN nN with
      | none => rw [hl2] at hok; cases hok
      | some l' =>
      rw [hl2] at hok
      have hll : l = l'.map Int.ofNat := by simpa using hok
      obtain ⟨sa2, c2, h2, hc2, hp2, hrd2⟩ := ringOf_call h1 qN nN hq1 hq2 hn1 (by omega) (by omega) l' hl2
      rw [← hall] at hc2
      have hl3 : l'.length = l.length := by rw [hll]; simp
      rw [← hll] at hrd2
      rw [hl3] at hc2
      have hc3 := same_call sa sa2 l.length c2 l l h2 (by omega) (hrd.mono hp2) hrd2
      rw [decide_eq_true rfl] at hc3
      refine ⟨h2, ?_⟩
      rw [call_at T4 rfl]
      unfold F4 c4
      simp (disch := first | omega | (simp only [Go.Am.len_push, Go.Am.len_set, Go.Am.len_kill] <;> omega) | fail) only [push_cast, Nat.reduceBEq, Nat.reduceAdd, Nat.reduceMul, Nat.reduceSub, Nat.reduceLT, Nat.reduceLeDiff, Nat.reduceEqDiff, Int.reduceToNat, Int.reduceAdd, Int.reduceMul, Int.reduceSub, Int.reduceNeg, Int.reduceLT, Int.reduceLE, Int.reduceEq, Nat.zero_add, Nat.add_zero, Nat.mul_one, eq_self, ne_eq, not_true, not_false_iff, and_true, true_and, and_self, List.getElem?_cons_zero, List.getElem?_cons_succ, List.map_cons, List.map_nil, e1, hc1, dec_eq, dec_nlt, hc2, hc3]
    · refine ⟨h1, ?_⟩
      rw [call_at T4 rfl]
      unfold F4 c4
      simp (disch := first | omega | (simp only [Go.Am.len_push, Go.Am.len_set, Go.Am.len_kill] <;> omega) | fail) only [push_cast, Nat.reduceBEq, Nat.reduceAdd, Nat.reduceMul, Nat.reduceSub, Nat.reduceLT, Nat.reduceLeDiff, Nat.reduceEqDiff, Int.reduceToNat, Int.reduceAdd, Int.reduceMul, Int.reduceSub, Int.reduceNeg, Int.reduceLT, Int.reduceLE, Int.reduceEq, Nat.zero_add, Nat.add_zero, Nat.mul_one, eq_self, ne_eq, not_true, not_false_iff, and_true, true_and, and_self, List.getElem?_cons_zero, List.getElem?_cons_succ, List.map_cons, List.map_nil, e1, hc1, dec_eq, dec_lt]
  · obtain ⟨h', e2⟩ := ring_no [] q n hn h
    refine ⟨h', ?_⟩
    rw [call_at T4 rfl]
    unfold F4 c4
    have hz : ((0 : Nat) : Int) = 0 := rfl
    simp (disch := first | omega | (simp only [Go.Am.len_push, Go.Am.len_set, Go.Am.len_kill] <;> omega) | fail) only [push_cast, Nat.reduceBEq, Nat.reduceAdd, Nat.reduceMul, Nat.reduceSub, Nat.reduceLT, Nat.reduceLeDiff, Nat.reduceEqDiff, Int.reduceToNat, Int.reduceAdd, Int.reduceMul, Int.reduceSub, Int.reduceNeg, Int.reduceLT, Int.reduceLE, Int.reduceEq, Nat.zero_add, Nat.add_zero, Nat.mul_one, eq_self, ne_eq, not_true, not_false_iff, and_true, true_and, and_self, List.getElem?_cons_zero, List.getElem?_cons_succ, List.map_cons, List.map_nil, e1, e2, dec_ne h, dec_eq, hz]
end Go.Proofs.Ytdmgkdaiegdfmaa
