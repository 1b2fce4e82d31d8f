/-
  What RingOf computes, whole. Conditions: those of each contract.
-/
import Derived.Test.YtdmgkdaiegdfmaaRingOf
namespace Go.Proofs.Ytdmgkdaiegdfmaa
open Go.Am
set_option linter.unusedVariables false
set_option linter.unusedSimpArgs false

theorem pop_full (N : Nat) : ∀ k, k ≤ N → pop (2 ^ N - 1) k = k
  | 0, _ => rfl
  | k + 1, hk => by unfold pop; rw [pop_full N k (by omega), Nat.testBit_two_pow_sub_one, decide_eq_true (by omega)]; rfl

theorem fill_loop (L all q n nodes : Nat) (hall : all ≤ 1024) : ∀ (j : Nat) (i : Int) (iN : Nat) (g : H), i = (iN : Int) → iN + j = all → g.row L = some ⟨bitsV (2 ^ iN - 1) all, 4, 1, true⟩ →
    ∃ g', g'.row L = some ⟨bitsV (2 ^ all - 1) all, 4, 1, true⟩ ∧ g'.length = g.length ∧ (∀ o, o ≠ L → g'[o]? = g[o]?) ∧ ∀ ks, goL T [.tmp 6] [0, 1, 2, 7, 8, 9] c10L0 (.blk 0 [0, 1, 2, 7, 8] :: ks) [(0, .int .i64 q), (1, .int .i64 n), (2, .int .i64 all), (7, .int .i64 nodes), (8, .slice (some ⟨L, 0, none⟩) all all), (9, .int .i64 i)] g =
      go T [.tmp 6] ks (Fr.of [(0, .int .i64 q), (1, .int .i64 n), (2, .int .i64 all), (7, .int .i64 nodes), (8, .slice (some ⟨L, 0, none⟩) all all)]) g'
  | 0, i, iN, g, hi, hj, hrow => by
    subst hi
    have : iN = all := by omega
    subst this
    refine ⟨g, hrow, rfl, fun _ _ => rfl, fun ks => ?_⟩
    rw [goL_at c10L0.eq_def]
    simp (disch := first | omega | (simp only [Go.Am.len_push, Go.Am.len_set, Go.Am.len_kill] <;> omega) | fail) only [push_cast, Nat.reduceBEq, Nat.reduceAdd, Nat.reduceMul, Nat.reduceSub, Nat.reduceLT, Nat.reduceLeDiff, Nat.reduceEqDiff, Int.reduceToNat, Int.reduceAdd, Int.reduceMul, Int.reduceSub, Int.reduceNeg, Int.reduceLT, Int.reduceLE, Int.reduceEq, Nat.zero_add, Nat.add_zero, Nat.mul_one, eq_self, ne_eq, not_true, not_false_iff, and_true, true_and, and_self, List.getElem?_cons_zero, List.getElem?_cons_succ, List.map_cons, List.map_nil, dec_nlt]
  | j + 1, i, iN, g, hi, hj, hrow => by
    subst hi
    have hl := row_some_lt hrow
    have e1 := sts_bit (v := true) hrow (i := (iN : Int)) (k := iN) (m' := 2 ^ (iN + 1) - 1) rfl (by omega) (bits_splice (by omega) (by rw [Nat.testBit_two_pow_sub_one, decide_eq_true (by omega)]) (fun j hj => by
      rw [Nat.testBit_two_pow_sub_one, Nat.testBit_two_pow_sub_one]
      by_cases h : j < iN
      · rw [decide_eq_true h, decide_eq_true (by omega)]
      · rw [decide_eq_false h, decide_eq_false (by omega)]))
    rw [Int.toNat_natCast] at e1
    obtain ⟨g', h1, h2, h3, hgo⟩ := fill_loop L all q n nodes hall j ((iN : Int) + 1) (iN + 1) (g.set L (.row ⟨bitsV (2 ^ (iN + 1) - 1) all, 4, 1, true⟩)) (by omega) (by omega) (row_set_same hl)
    refine ⟨g', h1, by rw [h2, len_set], fun o ho => by rw [h3 o ho, List.getElem?_set_ne (fun e => ho e.symm)], fun ks => ?_⟩
    have hgo := hgo ks
    rw [goL_at c10L0.eq_def]
    have hi1 : 0 ≤ (iN : Int) ∧ (iN : Int) < (all : Int) := by omega
    simp (disch := first | omega | (simp only [Go.Am.len_push, Go.Am.len_set, Go.Am.len_kill] <;> omega) | fail) only [push_cast, Nat.reduceBEq, Nat.reduceAdd, Nat.reduceMul, Nat.reduceSub, Nat.reduceLT, Nat.reduceLeDiff, Nat.reduceEqDiff, Int.reduceToNat, Int.reduceAdd, Int.reduceMul, Int.reduceSub, Int.reduceNeg, Int.reduceLT, Int.reduceLE, Int.reduceEq, Nat.zero_add, Nat.add_zero, Nat.mul_one, eq_self, ne_eq, not_true, not_false_iff, and_true, true_and, and_self, List.getElem?_cons_zero, List.getElem?_cons_succ, List.map_cons, List.map_nil, dec_lt, wrap64, hi1, Int.toNat_natCast, e1]
    exact hgo

theorem ringOf_call (h : H) (q n : Nat) (hq : 2 ≤ q) (hq2 : q ≤ 10) (hn1 : 1 ≤ n) (hn3 : n ≤ 20) (hall : q ^ n ≤ 1024) (l : List Nat) (he : ringAll q n = some l) :
    ∃ sa c h', call T 10 [.int .i64 q, .int .i64 n, .int .i64 (q ^ n : Nat)] h = some (.slice sa l.length c, h') ∧ h <+: h' ∧ RdI h' sa c (l.map Int.ofNat) := by
  obtain ⟨nodes, hnd⟩ : ∃ nodes, nodes = q ^ (n - 1) := ⟨_, rfl⟩
  obtain ⟨all, hal⟩ : ∃ all, all = q ^ n := ⟨_, rfl⟩
  have hnq : nodes * q = all := by rw [hnd, hal, ← Nat.pow_succ]; congr 1; omega
  have hn : 0 < nodes := by rw [hnd]; exact Nat.pow_pos (by omega)
  unfold ringAll at he
  rw [← hnd, ← hal] at he
  rw [← hal] at hall ⊢
  have hall1 : 1 ≤ all := by rw [← hnq]; exact Nat.mul_pos hn (by omega)
  have hn2 : nodes ≤ 1024 := by
    have := Nat.le_mul_of_pos_right nodes (show 0 < q by omega)
    omega
  cases hr : ringR q nodes all (2 ^ all - 1) all 0 [] with
  | none => rw [hr] at he; cases he
  | some r =>
  rw [hr] at he
  cases he
  have e0 : (all : Int).tdiv (q : Int) = (nodes : Int) := by
    rw [← hnq, Int.natCast_mul]; exact Int.mul_tdiv_cancel _ (by omega)
  have hq0 : ¬ (q : Int) = 0 := by omega
  have hmk : 0 ≤ (all : Int) ∧ (all : Int) ≤ (all : Int) ∧ (all : Int) ≤ 1099511627776 ∧ (all : Int) * 1 ≤ 140737488355328 := by omega
  have hmk2 : 0 ≤ (n : Int) - 1 ∧ (n : Int) - 1 ≤ (n : Int) - 1 ∧ (n : Int) - 1 ≤ 1099511627776 ∧ ((n : Int) - 1) * 8 ≤ 140737488355328 := by omega
  obtain ⟨g1, hrow1, hl1, hk1, hgo1⟩ := fill_loop h.length all q n nodes hall all 0 0 (h ++ [.row ⟨bitsV 0 all, 4, 1, true⟩]) rfl (by omega) row_push_new
  rw [len_push] at hl1
  have hz : ((n : Int) - 1).toNat = n - 1 := by omega
  obtain ⟨g2, hg2⟩ : ∃ g2 : H, g2 = g1 ++ [Ob.row ⟨ints (List.replicate (n - 1) 0), 3, 1, true⟩] := ⟨_, rfl⟩
  have hrow2 : g2.row h.length = some ⟨bitsV (2 ^ all - 1) all, 4, 1, true⟩ := by rw [hg2, row_old (by omega)]; exact hrow1
  have hp2 : h <+: g2 := by
    refine pre_of (by rw [hg2, len_push]; omega) fun o ho => ?_
    rw [hg2, List.getElem?_append_left (by omega), hk1 o (by omega), List.getElem?_append_left ho]
  have hout : outI n [] = List.replicate (n - 1) 0 := by simp [outI]
  have hol : (outI n []).length = n - 1 := by rw [hout]; simp
  have hsk : Stk g2 (some ⟨h.length + 1, 0, none⟩) (outI n []).length (outI n []) (h.length + 1) :=
    ⟨h.length + 1, outI n [], rfl, Nat.le_refl _, by rw [hg2, row_new (by omega), hout], List.take_length .., Nat.le_refl _, Nat.le_refl _⟩
  obtain ⟨g', sa', hp', hsk', hlen, hgo2⟩ := ringOf_loop h all q n nodes hq2 hn hn2 hnq hall hn1 hn3 all (2 ^ all - 1) all 0 [] _ g2 r hn (pop_full all all (Nat.le_refl _)).symm (by simp) hp2 hrow2 hsk hr
  rw [hol, show ((0 : Nat) : Int) = 0 from rfl] at hgo2
  have hl := outI_len n r.2.2.2
  obtain ⟨o, all', rfl, ho, hro, ht, hc1, hc2⟩ := hsk'
  have hll : (List.take all (List.replicate (n - 1) 0 ++ r.2.2.2.reverse)).length = all := by simp; omega
  refine ⟨some ⟨o, 0, none⟩, (outI n r.2.2.2).length, g', ?_, hp', ?_⟩
  · rw [call_at T10 rfl]
    unfold F10 c10
    have hsl : (0 : Int) ≤ 0 ∧ 0 ≤ (all : Int) ∧ (all : Int) ≤ ((outI n r.2.2.2).length : Int) ∧ unitOk g' 1 (some ⟨o, 0, none⟩) = true := ⟨by omega, by omega, by omega, by unfold unitOk; simp only [hro]; rfl⟩
    have hc0 : ¬ ((outI n r.2.2.2).length : Int) = 0 := by omega
    have hz0 : Int.toNat 0 = 0 := rfl
    simp (disch := first | omega | (simp only [Go.Am.len_push, Go.Am.len_set, Go.Am.len_kill] <;> omega) | fail) only [push_cast, Nat.reduceBEq, Nat.reduceAdd, Nat.reduceMul, Nat.reduceSub, Nat.reduceLT, Nat.reduceLeDiff, Nat.reduceEqDiff, Int.reduceToNat, Int.reduceAdd, Int.reduceMul, Int.reduceSub, Int.reduceNeg, Int.reduceLT, Int.reduceLE, Int.reduceEq, Nat.zero_add, Nat.add_zero, Nat.mul_one, eq_self, ne_eq, not_true, not_false_iff, and_true, true_and, and_self, List.getElem?_cons_zero, List.getElem?_cons_succ, List.map_cons, List.map_nil, hq0, e0, wrap64, hmk, rep_bit, Int.toNat_natCast, hgo1, hmk2, hz, rep_int, hl1, ← hg2, hgo2, hsl, hc0, hll, Int.sub_zero, Nat.zero_mul]
  · have hzs : (List.take all (List.replicate (n - 1) 0 ++ r.2.2.2.reverse)).map Int.ofNat = all'.take all := by
      rw [List.map_take]
      show (outI n r.2.2.2).take all = _
      rw [← ht, List.take_take, Nat.min_eq_left (by omega)]
    have hzl : (all'.take all).length = all := by rw [List.length_take]; omega
    rw [hzs]
    refine .inr ⟨by rw [hzl]; omega, o, 0, _, rfl, hro, fun i h0 hi => ?_⟩
    have hg := gi_eq h0 hi
    rw [hzl] at hi
    rw [List.getElem?_take, if_pos (by omega)] at hg
    rw [Nat.zero_add]
    show (ints all')[i.toNat]? = _
    unfold ints
    rw [List.getElem?_map, hg]
    rfl
end Go.Proofs.Ytdmgkdaiegdfmaa
