/-
  DigitsGray answers true. Conditions: numbers of Go's int; lists that read as numbers.
-/
import Derived.Test.YtdmgkdaiegdfmaaGrayPlain
namespace Go.Proofs.Ytdmgkdaiegdfmaa
open Go.Am
set_option linter.unusedVariables false
set_option linter.unusedSimpArgs false
set_option maxRecDepth 30000

theorem law5_stop (h : H) (sz sl : Value) (ln c : Nat) (sb : Option Addr) (all e : Int) (g : Value) (ks : List It) (he : ¬ e = 0) :
    goL T [.tmp 6] [0, 2, 7, 8, 9, 14] c5L0 (.blk 0 [0, 2, 7, 8, 9] :: ks) [(0, sz), (2, .slice sb ln c), (7, .int .i64 all), (8, .int .i64 e), (9, g), (14, .int .i64 0)] h =
      go T [.tmp 6] ks (Fr.of [(0, sz), (2, .slice sb ln c), (7, .int .i64 all), (8, .int .i64 e), (9, g)]) h := by
  rw [goL_at c5L0.eq_def]
  by_cases hl : (0 : Int) < (ln : Int)
  · simp (disch := first | omega | (simp only [Go.Am.len_push, Go.Am.len_set, Go.Am.len_kill] <;> omega) | fail) only [push_cast, Nat.reduceBEq, Nat.reduceAdd, Nat.reduceMul, Nat.reduceSub, Nat.reduceLT, Nat.reduceLeDiff, Nat.reduceEqDiff, Int.reduceToNat, Int.reduceAdd, Int.reduceMul, Int.reduceSub, Int.reduceNeg, Int.reduceLT, Int.reduceLE, Int.reduceEq, Nat.zero_add, Nat.add_zero, Nat.mul_one, eq_self, ne_eq, not_true, not_false_iff, and_true, true_and, and_self, List.getElem?_cons_zero, List.getElem?_cons_succ, List.map_cons, List.map_nil, dec_lt, dec_ne he]
  · simp (disch := first | omega | (simp only [Go.Am.len_push, Go.Am.len_set, Go.Am.len_kill] <;> omega) | fail) only [push_cast, Nat.reduceBEq, Nat.reduceAdd, Nat.reduceMul, Nat.reduceSub, Nat.reduceLT, Nat.reduceLeDiff, Nat.reduceEqDiff, Int.reduceToNat, Int.reduceAdd, Int.reduceMul, Int.reduceSub, Int.reduceNeg, Int.reduceLT, Int.reduceLE, Int.reduceEq, Nat.zero_add, Nat.add_zero, Nat.mul_one, eq_self, ne_eq, not_true, not_false_iff, and_true, true_and, and_self, List.getElem?_cons_zero, List.getElem?_cons_succ, List.map_cons, List.map_nil, dec_nlt]

theorem law5_loop (h : H) (sa sb : Option Addr) (c cb : Nat) (zs ls : List Int) (all : Int) (g : Value) (ks : List It) (hr : RdI h sa c zs) (hb : RdI h sb cb ls) (hl : zs.length ≤ 10) (hll : ls.length = zs.length) : ∀ (j : Nat) (i : Int) (iN : Nat), i = (iN : Int) → iN + j = zs.length →
    goL T [.tmp 6] [0, 2, 7, 8, 9, 14] c5L0 (.blk 0 [0, 2, 7, 8, 9] :: ks) [(0, .slice sa zs.length c), (2, .slice sb ls.length cb), (7, .int .i64 all), (8, .int .i64 0), (9, g), (14, .int .i64 i)] h =
      go T [.tmp 6] ks (Fr.of [(0, .slice sa zs.length c), (2, .slice sb ls.length cb), (7, .int .i64 all), (8, .int .i64 (if badP (zs.drop iN) (ls.drop iN) = true then 2 else 0)), (9, g)]) h
  | 0, i, iN, hi, hk => by
    subst hi
    rw [goL_at c5L0.eq_def, List.drop_eq_nil_of_le (by omega)]
    rw [show badP [] (ls.drop iN) = false by unfold badP; rfl]
    simp (disch := first | omega | (simp only [Go.Am.len_push, Go.Am.len_set, Go.Am.len_kill] <;> omega) | fail) only [push_cast, Nat.reduceBEq, Nat.reduceAdd, Nat.reduceMul, Nat.reduceSub, Nat.reduceLT, Nat.reduceLeDiff, Nat.reduceEqDiff, Int.reduceToNat, Int.reduceAdd, Int.reduceMul, Int.reduceSub, Int.reduceNeg, Int.reduceLT, Int.reduceLE, Int.reduceEq, Nat.zero_add, Nat.add_zero, Nat.mul_one, eq_self, ne_eq, not_true, not_false_iff, and_true, true_and, and_self, List.getElem?_cons_zero, List.getElem?_cons_succ, List.map_cons, List.map_nil, dec_nlt]
  | j + 1, i, iN, hi, hk => by
    subst hi
    rw [goL_at c5L0.eq_def, drop_gi (zs := zs) (by omega), drop_gi (zs := ls) (by omega), badP]
    obtain ⟨o, off, rfl, _, hld⟩ := hr.addr (by omega)
    obtain ⟨o', off', rfl, _, hld'⟩ := hb.addr (by omega)
    have e1 := hld (iN : Int) (by omega) (by omega)
    have e2 := hld' (iN : Int) (by omega) (by omega)
    have hi1 : 0 ≤ (iN : Int) ∧ (iN : Int) < (zs.length : Int) := by omega
    have hi2 : 0 ≤ (iN : Int) ∧ (iN : Int) < (ls.length : Int) := by omega
    have ih := law5_loop h _ _ c cb zs ls all g ks hr hb hl hll j ((iN : Int) + 1) (iN + 1) (by omega) (by omega)
    obtain ⟨s, hsd⟩ : ∃ s, s = gi zs iN := ⟨_, rfl⟩
    obtain ⟨d, hdd⟩ : ∃ d, d = gi ls iN := ⟨_, rfl⟩
    rw [← hsd] at e1 ⊢
    rw [← hdd] at e2 ⊢
    by_cases hd0 : d < 0
    · have hor : d < 0 ∨ s ≤ d := .inl hd0
      rw [if_pos hor]
      by_cases hl2 : (iN : Int) + 1 < (ls.length : Int)
      · simp (disch := first | omega | (simp only [Go.Am.len_push, Go.Am.len_set, Go.Am.len_kill] <;> omega) | fail) only [push_cast, Nat.reduceBEq, Nat.reduceAdd, Nat.reduceMul, Nat.reduceSub, Nat.reduceLT, Nat.reduceLeDiff, Nat.reduceEqDiff, Int.reduceToNat, Int.reduceAdd, Int.reduceMul, Int.reduceSub, Int.reduceNeg, Int.reduceLT, Int.reduceLE, Int.reduceEq, Nat.zero_add, Nat.add_zero, Nat.mul_one, eq_self, ne_eq, not_true, not_false_iff, and_true, true_and, and_self, List.getElem?_cons_zero, List.getElem?_cons_succ, List.map_cons, List.map_nil, dec_lt, dec_eq, wrap64, hi1, hi2, e1, e2]
        rw [goL_at c5L0.eq_def]
        simp (disch := first | omega | (simp only [Go.Am.len_push, Go.Am.len_set, Go.Am.len_kill] <;> omega) | fail) only [push_cast, Nat.reduceBEq, Nat.reduceAdd, Nat.reduceMul, Nat.reduceSub, Nat.reduceLT, Nat.reduceLeDiff, Nat.reduceEqDiff, Int.reduceToNat, Int.reduceAdd, Int.reduceMul, Int.reduceSub, Int.reduceNeg, Int.reduceLT, Int.reduceLE, Int.reduceEq, Nat.zero_add, Nat.add_zero, Nat.mul_one, eq_self, ne_eq, not_true, not_false_iff, and_true, true_and, and_self, List.getElem?_cons_zero, List.getElem?_cons_succ, List.map_cons, List.map_nil, dec_lt, dec_ne]
      · simp (disch := first | omega | (simp only [Go.Am.len_push, Go.Am.len_set, Go.Am.len_kill] <;> omega) | fail) only [push_cast, Nat.reduceBEq, Nat.reduceAdd, Nat.reduceMul, Nat.reduceSub, Nat.reduceLT, Nat.reduceLeDiff, Nat.reduceEqDiff, Int.reduceToNat, Int.reduceAdd, Int.reduceMul, Int.reduceSub, Int.reduceNeg, Int.reduceLT, Int.reduceLE, Int.reduceEq, Nat.zero_add, Nat.add_zero, Nat.mul_one, eq_self, ne_eq, not_true, not_false_iff, and_true, true_and, and_self, List.getElem?_cons_zero, List.getElem?_cons_succ, List.map_cons, List.map_nil, dec_lt, dec_eq, wrap64, hi1, hi2, e1, e2]
        rw [goL_at c5L0.eq_def]
        simp (disch := first | omega | (simp only [Go.Am.len_push, Go.Am.len_set, Go.Am.len_kill] <;> omega) | fail) only [push_cast, Nat.reduceBEq, Nat.reduceAdd, Nat.reduceMul, Nat.reduceSub, Nat.reduceLT, Nat.reduceLeDiff, Nat.reduceEqDiff, Int.reduceToNat, Int.reduceAdd, Int.reduceMul, Int.reduceSub, Int.reduceNeg, Int.reduceLT, Int.reduceLE, Int.reduceEq, Nat.zero_add, Nat.add_zero, Nat.mul_one, eq_self, ne_eq, not_true, not_false_iff, and_true, true_and, and_self, List.getElem?_cons_zero, List.getElem?_cons_succ, List.map_cons, List.map_nil, dec_nlt, dec_ne]
    by_cases hd1 : s ≤ d
    · have hor : d < 0 ∨ s ≤ d := .inr hd1
      rw [if_pos hor]
      by_cases hl2 : (iN : Int) + 1 < (ls.length : Int)
      · simp (disch := first | omega | (simp only [Go.Am.len_push, Go.Am.len_set, Go.Am.len_kill] <;> omega) | fail) only [push_cast, Nat.reduceBEq, Nat.reduceAdd, Nat.reduceMul, Nat.reduceSub, Nat.reduceLT, Nat.reduceLeDiff, Nat.reduceEqDiff, Int.reduceToNat, Int.reduceAdd, Int.reduceMul, Int.reduceSub, Int.reduceNeg, Int.reduceLT, Int.reduceLE, Int.reduceEq, Nat.zero_add, Nat.add_zero, Nat.mul_one, eq_self, ne_eq, not_true, not_false_iff, and_true, true_and, and_self, List.getElem?_cons_zero, List.getElem?_cons_succ, List.map_cons, List.map_nil, dec_lt, dec_nlt, dec_le, dec_eq, wrap64, hi1, hi2, e1, e2]
        rw [goL_at c5L0.eq_def]
        simp (disch := first | omega | (simp only [Go.Am.len_push, Go.Am.len_set, Go.Am.len_kill] <;> omega) | fail) only [push_cast, Nat.reduceBEq, Nat.reduceAdd, Nat.reduceMul, Nat.reduceSub, Nat.reduceLT, Nat.reduceLeDiff, Nat.reduceEqDiff, Int.reduceToNat, Int.reduceAdd, Int.reduceMul, Int.reduceSub, Int.reduceNeg, Int.reduceLT, Int.reduceLE, Int.reduceEq, Nat.zero_add, Nat.add_zero, Nat.mul_one, eq_self, ne_eq, not_true, not_false_iff, and_true, true_and, and_self, List.getElem?_cons_zero, List.getElem?_cons_succ, List.map_cons, List.map_nil, dec_lt, dec_ne]
      · simp (disch := first | omega | (simp only [Go.Am.len_push, Go.Am.len_set, Go.Am.len_kill] <;> omega) | fail) only [push_cast, Nat.reduceBEq, Nat.reduceAdd, Nat.reduceMul, Nat.reduceSub, Nat.reduceLT, Nat.reduceLeDiff, Nat.reduceEqDiff, Int.reduceToNat, Int.reduceAdd, Int.reduceMul, Int.reduceSub, Int.reduceNeg, Int.reduceLT, Int.reduceLE, Int.reduceEq, Nat.zero_add, Nat.add_zero, Nat.mul_one, eq_self, ne_eq, not_true, not_false_iff, and_true, true_and, and_self, List.getElem?_cons_zero, List.getElem?_cons_succ, List.map_cons, List.map_nil, dec_lt, dec_nlt, dec_le, dec_eq, wrap64, hi1, hi2, e1, e2]
        rw [goL_at c5L0.eq_def]
        simp (disch := first | omega | (simp only [Go.Am.len_push, Go.Am.len_set, Go.Am.len_kill] <;> omega) | fail) only [push_cast, Nat.reduceBEq, Nat.reduceAdd, Nat.reduceMul, Nat.reduceSub, Nat.reduceLT, Nat.reduceLeDiff, Nat.reduceEqDiff, Int.reduceToNat, Int.reduceAdd, Int.reduceMul, Int.reduceSub, Int.reduceNeg, Int.reduceLT, Int.reduceLE, Int.reduceEq, Nat.zero_add, Nat.add_zero, Nat.mul_one, eq_self, ne_eq, not_true, not_false_iff, and_true, true_and, and_self, List.getElem?_cons_zero, List.getElem?_cons_succ, List.map_cons, List.map_nil, dec_nlt, dec_ne]
    have hor : ¬ (d < 0 ∨ s ≤ d) := by omega
    rw [if_neg hor]
    simp (disch := first | omega | (simp only [Go.Am.len_push, Go.Am.len_set, Go.Am.len_kill] <;> omega) | fail) only [push_cast, Nat.reduceBEq, Nat.reduceAdd, Nat.reduceMul, Nat.reduceSub, Nat.reduceLT, Nat.reduceLeDiff, Nat.reduceEqDiff, Int.reduceToNat, Int.reduceAdd, Int.reduceMul, Int.reduceSub, Int.reduceNeg, Int.reduceLT, Int.reduceLE, Int.reduceEq, Nat.zero_add, Nat.add_zero, Nat.mul_one, eq_self, ne_eq, not_true, not_false_iff, and_true, true_and, and_self, List.getElem?_cons_zero, List.getElem?_cons_succ, List.map_cons, List.map_nil, dec_lt, dec_nlt, dec_nle, dec_eq, wrap64, hi1, hi2, e1, e2]
    exact ih

theorem law5_call (h : H) (sa sb : Option Addr) (c cb : Nat) (zs ls : List Int) (k : Int) (hr : RdI h sa c zs) (hu : unitOk h 1 sa = true) (hb : RdI h sb cb ls) (hk1 : -9223372036854775808 ≤ k) (hk2 : k ≤ 9223372036854775807) :
    ∃ h', call T 5 [.slice sa zs.length c, .int .i64 k, .slice sb ls.length cb] h = some (.bool true, h') := by
  obtain ⟨W, hW⟩ : ∃ W, W = IntKind.wrap .i64 ((zs.length : Int) + (ls.length : Int)) := ⟨_, rfl⟩
  by_cases hbig : 100 < W
  · refine ⟨h, ?_⟩
    rw [call_at T5 rfl]
    unfold F5 c5
    simp (disch := first | omega | (simp only [Go.Am.len_push, Go.Am.len_set, Go.Am.len_kill] <;> omega) | fail) only [push_cast, Nat.reduceBEq, Nat.reduceAdd, Nat.reduceMul, Nat.reduceSub, Nat.reduceLT, Nat.reduceLeDiff, Nat.reduceEqDiff, Int.reduceToNat, Int.reduceAdd, Int.reduceMul, Int.reduceSub, Int.reduceNeg, Int.reduceLT, Int.reduceLE, Int.reduceEq, Nat.zero_add, Nat.add_zero, Nat.mul_one, eq_self, ne_eq, not_true, not_false_iff, and_true, true_and, and_self, List.getElem?_cons_zero, List.getElem?_cons_succ, List.map_cons, List.map_nil, ← hW, dec_lt]
  have m1 := sizesMay_call sa c zs h hr
  have m2 := check_call sa c zs h hr
  obtain ⟨m3, m4⟩ := sizesMay_check zs
  rw [m3] at m1
  obtain ⟨E, hE⟩ : ∃ E, E = checkP zs := ⟨_, rfl⟩
  obtain ⟨A, hA⟩ : ∃ A, A = (sizesMay zs).1 := ⟨_, rfl⟩
  rw [← hE] at m1 m2 m4
  rw [← hA] at m1 m4
  by_cases h0 : E = 0
  · subst h0
    have hAp : A = prodL zs := m4 rfl
    obtain ⟨hl1, hl2, hs, hp⟩ := checkP_ok hE.symm
    have hpp := prodL_pos hs
    have hgl := grays_len hs
    obtain ⟨sg, cg, h1, m5, hp1, hG⟩ := grays_call zs sa c h hr hu hs hp hl2
    have hr1 := hr.mono hp1
    have hb1 := hb.mono hp1
    obtain ⟨sx, cx, h2, m6, hp2, hX⟩ := gray_call sa c zs k h1 hr1
    unfold grayRes at m6 hX
    rw [if_neg (show ¬ checkP zs ≠ 0 by omega)] at m6 hX
    have hr2 := hr1.mono hp2
    have hb2 := hb1.mono hp2
    have hG2 := hG.mono hp2
    have m7 := place_call sa sb c cb zs ls h2 hr2 hb2
    unfold placeRes at m7
    rw [if_neg (show ¬ checkP zs ≠ 0 by omega)] at m7
    obtain ⟨n, hn⟩ : ∃ n, n = (grays zs).length := ⟨_, rfl⟩
    rw [← hn] at m5 hgl
    refine ⟨h2, ?_⟩
    have parts : ∀ (P : Prop), (zs.length ≠ ls.length → P) → (zs.length = ls.length → badP zs ls = true → P) → (zs.length = ls.length → badP zs ls = false → P) → P := by
      intro P p1 p2 p3
      by_cases hq : zs.length = ls.length
      · cases hbd : badP zs ls with
        | true => exact p2 hq hbd
        | false => exact p3 hq hbd
      · exact p1 hq
    by_cases hk : k < 0 ∨ prodL zs ≤ k
    · rw [if_pos hk] at m6 hX
      simp only [List.length_nil] at m6
      have m8 := list_call sx none cx 0 [] [] 10 10 h2 (by simp) hX (.inl ⟨rfl, rfl, rfl⟩)
      rw [if_pos (by decide)] at m8
      simp only [List.length_nil, decide_eq_true rfl, Bool.and_true] at m8
      have ten : ¬ (10 : Int) = 0 := by decide
      rw [call_at T5 rfl]
      unfold F5 c5
      by_cases hk3 : k < 0
      · refine parts _ (fun q => ?_) (fun q hbd => ?_) (fun q hbd => ?_)
        · rw [if_pos (fun e => q e.symm)] at m7
          have q' : ¬ (ls.length : Int) = (zs.length : Int) := by omega
          have L0 := fun ks g => law5_stop h2 (.slice sa zs.length c) (.slice none 0 0) ls.length cb sb A 6 g ks (by decide)
          have six : ¬ (6 : Int) = 0 := by decide
          simp (disch := first | omega | (simp only [Go.Am.len_push, Go.Am.len_set, Go.Am.len_kill] <;> omega) | fail) only [push_cast, Nat.reduceBEq, Nat.reduceAdd, Nat.reduceMul, Nat.reduceSub, Nat.reduceLT, Nat.reduceLeDiff, Nat.reduceEqDiff, Int.reduceToNat, Int.reduceAdd, Int.reduceMul, Int.reduceSub, Int.reduceNeg, Int.reduceLT, Int.reduceLE, Int.reduceEq, Nat.zero_add, Nat.add_zero, Nat.mul_one, eq_self, ne_eq, not_true, not_false_iff, and_true, true_and, and_self, List.getElem?_cons_zero, List.getElem?_cons_succ, List.map_cons, List.map_nil, dec_ne ten, dec_eq, dec_nlt, dec_nle, dec_lt, dec_le, ← hW, wrap64, m1, m2, m5, m6, m8, L0, m7, dec_ne q', dec_ne six]
        · rw [if_neg (by omega)] at m7
          have q' : (ls.length : Int) = (zs.length : Int) := by omega
          have L0 := fun ks g => law5_loop h2 sa sb c cb zs ls A g ks hr2 hb2 hl2 q.symm zs.length 0 0 rfl (by omega)
          simp only [List.drop_zero] at L0
          rw [placeP_bad.mpr hbd] at m7
          rw [if_pos hbd] at L0
          have two : ¬ (2 : Int) = 0 := by decide
          simp (disch := first | omega | (simp only [Go.Am.len_push, Go.Am.len_set, Go.Am.len_kill] <;> omega) | fail) only [push_cast, Nat.reduceBEq, Nat.reduceAdd, Nat.reduceMul, Nat.reduceSub, Nat.reduceLT, Nat.reduceLeDiff, Nat.reduceEqDiff, Int.reduceToNat, Int.reduceAdd, Int.reduceMul, Int.reduceSub, Int.reduceNeg, Int.reduceLT, Int.reduceLE, Int.reduceEq, Nat.zero_add, Nat.add_zero, Nat.mul_one, eq_self, ne_eq, not_true, not_false_iff, and_true, true_and, and_self, List.getElem?_cons_zero, List.getElem?_cons_succ, List.map_cons, List.map_nil, dec_ne ten, dec_eq, dec_nlt, dec_nle, dec_lt, dec_le, ← hW, wrap64, m1, m2, m5, m6, m8, L0, m7, dec_ne two]
        · rw [if_neg (by omega)] at m7
          have q' : (ls.length : Int) = (zs.length : Int) := by omega
          have L0 := fun ks g => law5_loop h2 sa sb c cb zs ls A g ks hr2 hb2 hl2 q.symm zs.length 0 0 rfl (by omega)
          simp only [List.drop_zero] at L0
          rw [if_neg (by rw [hbd]; decide)] at L0
          cases hpl : placeP zs ls 0 false with
          | none => rw [placeP_bad.mp hpl] at hbd; cases hbd
          | some p =>
          rw [hpl] at m7
          obtain ⟨q0, hq1, hq2, hq3, hq4⟩ := place_get hs q.symm hpl
          rw [Int.zero_mul, Int.zero_add] at hq1
          subst hq1
          have hq4 : (grays zs)[p.toNat]? = some ls := hq4
          obtain ⟨og', ag, cg', hsg, hldp, hrp⟩ := hG2.at hq4
          subst hsg
          have hpi : 0 ≤ p ∧ p < (n : Int) := by omega
          have m9 := same_call ag sb cg' cb ls ls h2 (by omega) hrp hb2
          rw [decide_eq_true rfl] at m9
          simp (disch := first | omega | (simp only [Go.Am.len_push, Go.Am.len_set, Go.Am.len_kill] <;> omega) | fail) only [push_cast, Nat.reduceBEq, Nat.reduceAdd, Nat.reduceMul, Nat.reduceSub, Nat.reduceLT, Nat.reduceLeDiff, Nat.reduceEqDiff, Int.reduceToNat, Int.reduceAdd, Int.reduceMul, Int.reduceSub, Int.reduceNeg, Int.reduceLT, Int.reduceLE, Int.reduceEq, Nat.zero_add, Nat.add_zero, Nat.mul_one, eq_self, ne_eq, not_true, not_false_iff, and_true, true_and, and_self, List.getElem?_cons_zero, List.getElem?_cons_succ, List.map_cons, List.map_nil, dec_ne ten, dec_eq, dec_nlt, dec_nle, dec_lt, dec_le, ← hW, wrap64, m1, m2, m5, m6, m8, L0, m7, hpi, hldp, m9]
      have hk4 : A ≤ k := by omega
      refine parts _ (fun q => ?_) (fun q hbd => ?_) (fun q hbd => ?_)
      · rw [if_pos (fun e => q e.symm)] at m7
        have q' : ¬ (ls.length : Int) = (zs.length : Int) := by omega
        have L0 := fun ks g => law5_stop h2 (.slice sa zs.length c) (.slice none 0 0) ls.length cb sb A 6 g ks (by decide)
        have six : ¬ (6 : Int) = 0 := by decide
        simp (disch := first | omega | (simp only [Go.Am.len_push, Go.Am.len_set, Go.Am.len_kill] <;> omega) | fail) only [push_cast, Nat.reduceBEq, Nat.reduceAdd, Nat.reduceMul, Nat.reduceSub, Nat.reduceLT, Nat.reduceLeDiff, Nat.reduceEqDiff, Int.reduceToNat, Int.reduceAdd, Int.reduceMul, Int.reduceSub, Int.reduceNeg, Int.reduceLT, Int.reduceLE, Int.reduceEq, Nat.zero_add, Nat.add_zero, Nat.mul_one, eq_self, ne_eq, not_true, not_false_iff, and_true, true_and, and_self, List.getElem?_cons_zero, List.getElem?_cons_succ, List.map_cons, List.map_nil, dec_ne ten, dec_eq, dec_nlt, dec_nle, dec_lt, dec_le, ← hW, wrap64, m1, m2, m5, m6, m8, L0, m7, dec_ne q', dec_ne six]
      · rw [if_neg (by omega)] at m7
        have q' : (ls.length : Int) = (zs.length : Int) := by omega
        have L0 := fun ks g => law5_loop h2 sa sb c cb zs ls A g ks hr2 hb2 hl2 q.symm zs.length 0 0 rfl (by omega)
        simp only [List.drop_zero] at L0
        rw [placeP_bad.mpr hbd] at m7
        rw [if_pos hbd] at L0
        have two : ¬ (2 : Int) = 0 := by decide
        simp (disch := first | omega | (simp only [Go.Am.len_push, Go.Am.len_set, Go.Am.len_kill] <;> omega) | fail) only [push_cast, Nat.reduceBEq, Nat.reduceAdd, Nat.reduceMul, Nat.reduceSub, Nat.reduceLT, Nat.reduceLeDiff, Nat.reduceEqDiff, Int.reduceToNat, Int.reduceAdd, Int.reduceMul, Int.reduceSub, Int.reduceNeg, Int.reduceLT, Int.reduceLE, Int.reduceEq, Nat.zero_add, Nat.add_zero, Nat.mul_one, eq_self, ne_eq, not_true, not_false_iff, and_true, true_and, and_self, List.getElem?_cons_zero, List.getElem?_cons_succ, List.map_cons, List.map_nil, dec_ne ten, dec_eq, dec_nlt, dec_nle, dec_lt, dec_le, ← hW, wrap64, m1, m2, m5, m6, m8, L0, m7, dec_ne two]
      · rw [if_neg (by omega)] at m7
        have q' : (ls.length : Int) = (zs.length : Int) := by omega
        have L0 := fun ks g => law5_loop h2 sa sb c cb zs ls A g ks hr2 hb2 hl2 q.symm zs.length 0 0 rfl (by omega)
        simp only [List.drop_zero] at L0
        rw [if_neg (by rw [hbd]; decide)] at L0
        cases hpl : placeP zs ls 0 false with
        | none => rw [placeP_bad.mp hpl] at hbd; cases hbd
        | some p =>
        rw [hpl] at m7
        obtain ⟨q0, hq1, hq2, hq3, hq4⟩ := place_get hs q.symm hpl
        rw [Int.zero_mul, Int.zero_add] at hq1
        subst hq1
        have hq4 : (grays zs)[p.toNat]? = some ls := hq4
        obtain ⟨og', ag, cg', hsg, hldp, hrp⟩ := hG2.at hq4
        subst hsg
        have hpi : 0 ≤ p ∧ p < (n : Int) := by omega
        have m9 := same_call ag sb cg' cb ls ls h2 (by omega) hrp hb2
        rw [decide_eq_true rfl] at m9
        simp (disch := first | omega | (simp only [Go.Am.len_push, Go.Am.len_set, Go.Am.len_kill] <;> omega) | fail) only [push_cast, Nat.reduceBEq, Nat.reduceAdd, Nat.reduceMul, Nat.reduceSub, Nat.reduceLT, Nat.reduceLeDiff, Nat.reduceEqDiff, Int.reduceToNat, Int.reduceAdd, Int.reduceMul, Int.reduceSub, Int.reduceNeg, Int.reduceLT, Int.reduceLE, Int.reduceEq, Nat.zero_add, Nat.add_zero, Nat.mul_one, eq_self, ne_eq, not_true, not_false_iff, and_true, true_and, and_self, List.getElem?_cons_zero, List.getElem?_cons_succ, List.map_cons, List.map_nil, dec_ne ten, dec_eq, dec_nlt, dec_nle, dec_lt, dec_le, ← hW, wrap64, m1, m2, m5, m6, m8, L0, m7, hpi, hldp, m9]
    · rw [if_neg hk] at m6 hX
      have hgk := gray_get hs (k := k) (by omega) (by omega)
      obtain ⟨og, ak, ck, hsg0, hldk, hrk⟩ := (hG.at hgk)
      subst hsg0
      have hki : 0 ≤ k ∧ k < (n : Int) := by omega
      have m8 := list_call sx ak cx ck (grayP zs k) (grayP zs k) 0 0 h2 (by rw [grayP_len]; omega) hX (hrk.mono hp2)
      rw [if_neg (by decide)] at m8
      simp only [decide_eq_true rfl, Bool.and_true] at m8
      rw [call_at T5 rfl]
      unfold F5 c5
      refine parts _ (fun q => ?_) (fun q hbd => ?_) (fun q hbd => ?_)
      · rw [if_pos (fun e => q e.symm)] at m7
        have q' : ¬ (ls.length : Int) = (zs.length : Int) := by omega
        have L0 := fun ks g => law5_stop h2 (.slice sa zs.length c) (.slice none 0 0) ls.length cb sb A 6 g ks (by decide)
        have six : ¬ (6 : Int) = 0 := by decide
        simp (disch := first | omega | (simp only [Go.Am.len_push, Go.Am.len_set, Go.Am.len_kill] <;> omega) | fail) only [push_cast, Nat.reduceBEq, Nat.reduceAdd, Nat.reduceMul, Nat.reduceSub, Nat.reduceLT, Nat.reduceLeDiff, Nat.reduceEqDiff, Int.reduceToNat, Int.reduceAdd, Int.reduceMul, Int.reduceSub, Int.reduceNeg, Int.reduceLT, Int.reduceLE, Int.reduceEq, Nat.zero_add, Nat.add_zero, Nat.mul_one, eq_self, ne_eq, not_true, not_false_iff, and_true, true_and, and_self, List.getElem?_cons_zero, List.getElem?_cons_succ, List.map_cons, List.map_nil, dec_eq, dec_nlt, dec_nle, dec_lt, dec_le, ← hW, wrap64, m1, m2, m5, m6, m8, L0, m7, hki, hldk, dec_ne q', dec_ne six]
      · rw [if_neg (by omega)] at m7
        have q' : (ls.length : Int) = (zs.length : Int) := by omega
        have L0 := fun ks g => law5_loop h2 sa sb c cb zs ls A g ks hr2 hb2 hl2 q.symm zs.length 0 0 rfl (by omega)
        simp only [List.drop_zero] at L0
        rw [placeP_bad.mpr hbd] at m7
        rw [if_pos hbd] at L0
        have two : ¬ (2 : Int) = 0 := by decide
        simp (disch := first | omega | (simp only [Go.Am.len_push, Go.Am.len_set, Go.Am.len_kill] <;> omega) | fail) only [push_cast, Nat.reduceBEq, Nat.reduceAdd, Nat.reduceMul, Nat.reduceSub, Nat.reduceLT, Nat.reduceLeDiff, Nat.reduceEqDiff, Int.reduceToNat, Int.reduceAdd, Int.reduceMul, Int.reduceSub, Int.reduceNeg, Int.reduceLT, Int.reduceLE, Int.reduceEq, Nat.zero_add, Nat.add_zero, Nat.mul_one, eq_self, ne_eq, not_true, not_false_iff, and_true, true_and, and_self, List.getElem?_cons_zero, List.getElem?_cons_succ, List.map_cons, List.map_nil, dec_eq, dec_nlt, dec_nle, dec_lt, dec_le, ← hW, wrap64, m1, m2, m5, m6, m8, L0, m7, hki, hldk, dec_ne two]
      · rw [if_neg (by omega)] at m7
        have q' : (ls.length : Int) = (zs.length : Int) := by omega
        have L0 := fun ks g => law5_loop h2 sa sb c cb zs ls A g ks hr2 hb2 hl2 q.symm zs.length 0 0 rfl (by omega)
        simp only [List.drop_zero] at L0
        rw [if_neg (by rw [hbd]; decide)] at L0
        cases hpl : placeP zs ls 0 false with
        | none => rw [placeP_bad.mp hpl] at hbd; cases hbd
        | some p =>
        rw [hpl] at m7
        obtain ⟨q0, hq1, hq2, hq3, hq4⟩ := place_get hs q.symm hpl
        rw [Int.zero_mul, Int.zero_add] at hq1
        subst hq1
        have hq4 : (grays zs)[p.toNat]? = some ls := hq4
        obtain ⟨og', ag, cg', hsg, hldp, hrp⟩ := hG2.at hq4
        cases hsg
        have hpi : 0 ≤ p ∧ p < (n : Int) := by omega
        have m9 := same_call ag sb cg' cb ls ls h2 (by omega) hrp hb2
        rw [decide_eq_true rfl] at m9
        simp (disch := first | omega | (simp only [Go.Am.len_push, Go.Am.len_set, Go.Am.len_kill] <;> omega) | fail) only [push_cast, Nat.reduceBEq, Nat.reduceAdd, Nat.reduceMul, Nat.reduceSub, Nat.reduceLT, Nat.reduceLeDiff, Nat.reduceEqDiff, Int.reduceToNat, Int.reduceAdd, Int.reduceMul, Int.reduceSub, Int.reduceNeg, Int.reduceLT, Int.reduceLE, Int.reduceEq, Nat.zero_add, Nat.add_zero, Nat.mul_one, eq_self, ne_eq, not_true, not_false_iff, and_true, true_and, and_self, List.getElem?_cons_zero, List.getElem?_cons_succ, List.map_cons, List.map_nil, dec_eq, dec_nlt, dec_nle, dec_lt, dec_le, ← hW, wrap64, m1, m2, m5, m6, m8, L0, m7, hki, hldk, hpi, hldp, m9]
  · obtain ⟨sx, cx, h2, m6, hp2, hX⟩ := gray_call sa c zs k h hr
    have h0' : checkP zs ≠ 0 := fun e => h0 (hE.trans e)
    unfold grayRes at m6 hX
    rw [if_pos h0', ← hE] at m6
    rw [if_pos h0'] at hX
    have m7 := place_call sa sb c cb zs ls h2 (hr.mono hp2) (hb.mono hp2)
    unfold placeRes at m7
    rw [if_pos h0', ← hE] at m7
    simp only [List.length_nil] at m6
    have m8 := list_call sx none cx 0 [] [] E E h2 (by simp) hX (.inl ⟨rfl, rfl, rfl⟩)
    rw [if_pos h0] at m8
    simp only [List.length_nil, decide_eq_true rfl, Bool.and_true] at m8
    have L0 := fun ks g => law5_stop h2 (.slice sa zs.length c) (.slice none 0 0) ls.length cb sb A E g ks h0
    refine ⟨h2, ?_⟩
    rw [call_at T5 rfl]
    unfold F5 c5
    simp (disch := first | omega | (simp only [Go.Am.len_push, Go.Am.len_set, Go.Am.len_kill] <;> omega) | fail) only [push_cast, Nat.reduceBEq, Nat.reduceAdd, Nat.reduceMul, Nat.reduceSub, Nat.reduceLT, Nat.reduceLeDiff, Nat.reduceEqDiff, Int.reduceToNat, Int.reduceAdd, Int.reduceMul, Int.reduceSub, Int.reduceNeg, Int.reduceLT, Int.reduceLE, Int.reduceEq, Nat.zero_add, Nat.add_zero, Nat.mul_one, eq_self, ne_eq, not_true, not_false_iff, and_true, true_and, and_self, List.getElem?_cons_zero, List.getElem?_cons_succ, List.map_cons, List.map_nil, dec_eq, dec_ne h0, dec_nlt, ← hW, wrap64, m1, m2, m6, m8, L0, m7]
end Go.Proofs.Ytdmgkdaiegdfmaa
