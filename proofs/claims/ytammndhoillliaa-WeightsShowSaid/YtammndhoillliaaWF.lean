/-
  WeightsShow's walk: it answers true. Condition: numbers of Go's int; the list as memory tells it.
-/
import Derived.Test.YtammndhoillliaaWE
namespace Go.Proofs.Ytammndhoillliaa
open Go.Am
set_option linter.unusedVariables false
set_option linter.unusedSimpArgs false
set_option maxRecDepth 30000

section
variable {q : Int} {n : Nat} {fs : List Int} {o off c : Nat}
abbrev RS7 : List ARes := [.tmp 8]
theorem wl0_no (h : H) (q n d : Int) (sa : Option Addr) (L c : Nat) (E : Int) (hE : ¬ E = 0) (ks : List It) :
    goL T [.tmp 8] [0, 1, 2, 3, 9, 10] c7L0 (.blk 0 [0, 1, 2, 3, 9] :: ks) [(0, .int .i64 q), (1, .int .i64 n), (2, .int .i64 d), (3, .slice sa L c), (9, .int .i64 E), (10, .int .i64 0)] h =
      go T [.tmp 8] ks (Fr.of [(0, .int .i64 q), (1, .int .i64 n), (2, .int .i64 d), (3, .slice sa L c), (9, .int .i64 E)]) h := by
  rw [goL_at c7L0.eq_def]
  by_cases h0 : (0 : Int) < (L : Int)
  · simp (disch := first | omega | (simp only [Go.Am.len_push, Go.Am.len_set, Go.Am.len_kill] <;> omega) | fail) only [push_cast, Nat.reduceBEq, Nat.reduceAdd, Nat.reduceMul, Nat.reduceSub, Nat.reduceLT, Nat.reduceGT, Nat.reduceLeDiff, Nat.reduceEqDiff, Int.reduceToNat, Int.reduceAdd, Int.reduceMul, Int.reduceSub, Int.reduceNeg, Int.reduceLT, Int.reduceLE, Int.reduceEq, Nat.zero_add, Nat.add_zero, Nat.mul_one, eq_self, ne_eq, not_true, not_false_iff, and_true, true_and, and_self, List.getElem?_cons_zero, List.getElem?_cons_succ, List.map_cons, List.map_nil, dec_lt h0, dec_ne hE]
  · simp (disch := first | omega | (simp only [Go.Am.len_push, Go.Am.len_set, Go.Am.len_kill] <;> omega) | fail) only [push_cast, Nat.reduceBEq, Nat.reduceAdd, Nat.reduceMul, Nat.reduceSub, Nat.reduceLT, Nat.reduceGT, Nat.reduceLeDiff, Nat.reduceEqDiff, Int.reduceToNat, Int.reduceAdd, Int.reduceMul, Int.reduceSub, Int.reduceNeg, Int.reduceLT, Int.reduceLE, Int.reduceEq, Nat.zero_add, Nat.add_zero, Nat.mul_one, eq_self, ne_eq, not_true, not_false_iff, and_true, true_and, and_self, List.getElem?_cons_zero, List.getElem?_cons_succ, List.map_cons, List.map_nil, dec_nlt (Int.not_lt.1 h0)]
theorem wl0_loop {h : H} (q n d : Int) (hf : RdI h (some ⟨o, off, none⟩) c fs) (hl : fs.length ≤ 100) : ∀ (m i : Nat), i + m = fs.length → ∀ ks,
    goL T [.tmp 8] [0, 1, 2, 3, 9, 10] c7L0 (.blk 0 [0, 1, 2, 3, 9] :: ks) [(0, .int .i64 q), (1, .int .i64 n), (2, .int .i64 d), (3, .slice (some ⟨o, off, none⟩) fs.length c), (9, .int .i64 0), (10, .int .i64 i)] h =
      go T [.tmp 8] ks (Fr.of [(0, .int .i64 q), (1, .int .i64 n), (2, .int .i64 d), (3, .slice (some ⟨o, off, none⟩) fs.length c), (9, .int .i64 (bif badF fs m i then 2 else 0))]) h
  | 0, i, hi, ks => by
    rw [goL_at c7L0.eq_def, badF, cond_false]
    have hle : (fs.length : Int) ≤ (i : Int) := by omega
    simp (disch := first | omega | (simp only [Go.Am.len_push, Go.Am.len_set, Go.Am.len_kill] <;> omega) | fail) only [push_cast, Nat.reduceBEq, Nat.reduceAdd, Nat.reduceMul, Nat.reduceSub, Nat.reduceLT, Nat.reduceGT, Nat.reduceLeDiff, Nat.reduceEqDiff, Int.reduceToNat, Int.reduceAdd, Int.reduceMul, Int.reduceSub, Int.reduceNeg, Int.reduceLT, Int.reduceLE, Int.reduceEq, Nat.zero_add, Nat.add_zero, Nat.mul_one, eq_self, ne_eq, not_true, not_false_iff, and_true, true_and, and_self, List.getElem?_cons_zero, List.getElem?_cons_succ, List.map_cons, List.map_nil, dec_nlt hle]
  | m + 1, i, hi, ks => by
    have hlt : (i : Int) < (fs.length : Int) := by omega
    have hb : (0 : Int) ≤ (i : Int) ∧ (i : Int) < (fs.length : Int) := by omega
    have l1 := hf.ld (i := (i : Int)) (by omega) (by omega)
    have w2 : IntKind.wrap .i64 ((i : Int) + 1) = (i : Int) + 1 := wrap64 (by omega) (by omega)
    have hbad : badV (gi fs i) = true → goL T [.tmp 8] [0, 1, 2, 3, 9, 10] c7L0 (.blk 0 [0, 1, 2, 3, 9] :: ks) [(0, .int .i64 q), (1, .int .i64 n), (2, .int .i64 d), (3, .slice (some ⟨o, off, none⟩) fs.length c), (9, .int .i64 2), (10, .int .i64 (i + 1))] h =
      go T [.tmp 8] ks (Fr.of [(0, .int .i64 q), (1, .int .i64 n), (2, .int .i64 d), (3, .slice (some ⟨o, off, none⟩) fs.length c), (9, .int .i64 2)]) h := by
      intro _
      rw [goL_at c7L0.eq_def]
      have h20 : ¬ (2 : Int) = 0 := by omega
      by_cases h0 : (i : Int) + 1 < (fs.length : Int)
      · simp (disch := first | omega | (simp only [Go.Am.len_push, Go.Am.len_set, Go.Am.len_kill] <;> omega) | fail) only [push_cast, Nat.reduceBEq, Nat.reduceAdd, Nat.reduceMul, Nat.reduceSub, Nat.reduceLT, Nat.reduceGT, Nat.reduceLeDiff, Nat.reduceEqDiff, Int.reduceToNat, Int.reduceAdd, Int.reduceMul, Int.reduceSub, Int.reduceNeg, Int.reduceLT, Int.reduceLE, Int.reduceEq, Nat.zero_add, Nat.add_zero, Nat.mul_one, eq_self, ne_eq, not_true, not_false_iff, and_true, true_and, and_self, List.getElem?_cons_zero, List.getElem?_cons_succ, List.map_cons, List.map_nil, dec_lt h0, dec_ne h20]
      · simp (disch := first | omega | (simp only [Go.Am.len_push, Go.Am.len_set, Go.Am.len_kill] <;> omega) | fail) only [push_cast, Nat.reduceBEq, Nat.reduceAdd, Nat.reduceMul, Nat.reduceSub, Nat.reduceLT, Nat.reduceGT, Nat.reduceLeDiff, Nat.reduceEqDiff, Int.reduceToNat, Int.reduceAdd, Int.reduceMul, Int.reduceSub, Int.reduceNeg, Int.reduceLT, Int.reduceLE, Int.reduceEq, Nat.zero_add, Nat.add_zero, Nat.mul_one, eq_self, ne_eq, not_true, not_false_iff, and_true, true_and, and_self, List.getElem?_cons_zero, List.getElem?_cons_succ, List.map_cons, List.map_nil, dec_nlt (Int.not_lt.1 h0)]
    rw [goL_at c7L0.eq_def, badF]
    have e00 : decide ((0 : Int) = 0) = true := rfl
    by_cases h1 : gi fs i < 0
    · have hv : badV (gi fs i) = true := by unfold badV; rw [dec_lt h1]; rfl
      rw [hv, Bool.true_or, cond_true, ← hbad hv]
      simp (disch := first | omega | (simp only [Go.Am.len_push, Go.Am.len_set, Go.Am.len_kill] <;> omega) | fail) only [push_cast, Nat.reduceBEq, Nat.reduceAdd, Nat.reduceMul, Nat.reduceSub, Nat.reduceLT, Nat.reduceGT, Nat.reduceLeDiff, Nat.reduceEqDiff, Int.reduceToNat, Int.reduceAdd, Int.reduceMul, Int.reduceSub, Int.reduceNeg, Int.reduceLT, Int.reduceLE, Int.reduceEq, Nat.zero_add, Nat.add_zero, Nat.mul_one, eq_self, ne_eq, not_true, not_false_iff, and_true, true_and, and_self, List.getElem?_cons_zero, List.getElem?_cons_succ, List.map_cons, List.map_nil, dec_lt hlt, hb, e00, l1, dec_lt h1, w2]
    · by_cases h2 : 1048576 < gi fs i
      · have hv : badV (gi fs i) = true := by unfold badV; rw [dec_lt h2, Bool.or_true]
        rw [hv, Bool.true_or, cond_true, ← hbad hv]
        simp (disch := first | omega | (simp only [Go.Am.len_push, Go.Am.len_set, Go.Am.len_kill] <;> omega) | fail) only [push_cast, Nat.reduceBEq, Nat.reduceAdd, Nat.reduceMul, Nat.reduceSub, Nat.reduceLT, Nat.reduceGT, Nat.reduceLeDiff, Nat.reduceEqDiff, Int.reduceToNat, Int.reduceAdd, Int.reduceMul, Int.reduceSub, Int.reduceNeg, Int.reduceLT, Int.reduceLE, Int.reduceEq, Nat.zero_add, Nat.add_zero, Nat.mul_one, eq_self, ne_eq, not_true, not_false_iff, and_true, true_and, and_self, List.getElem?_cons_zero, List.getElem?_cons_succ, List.map_cons, List.map_nil, dec_lt hlt, hb, e00, l1, dec_nlt (Int.not_lt.1 h1), dec_lt h2, w2]
      · have hv : badV (gi fs i) = false := by unfold badV; rw [dec_nlt (Int.not_lt.1 h1), dec_nlt (Int.not_lt.1 h2)]; rfl
        have ih := wl0_loop q n d hf hl m (i + 1) (by omega) ks
        rw [Int.natCast_add, Int.natCast_one] at ih
        rw [hv, Bool.false_or, ← ih]
        simp (disch := first | omega | (simp only [Go.Am.len_push, Go.Am.len_set, Go.Am.len_kill] <;> omega) | fail) only [push_cast, Nat.reduceBEq, Nat.reduceAdd, Nat.reduceMul, Nat.reduceSub, Nat.reduceLT, Nat.reduceGT, Nat.reduceLeDiff, Nat.reduceEqDiff, Int.reduceToNat, Int.reduceAdd, Int.reduceMul, Int.reduceSub, Int.reduceNeg, Int.reduceLT, Int.reduceLE, Int.reduceEq, Nat.zero_add, Nat.add_zero, Nat.mul_one, eq_self, ne_eq, not_true, not_false_iff, and_true, true_and, and_self, List.getElem?_cons_zero, List.getElem?_cons_succ, List.map_cons, List.map_nil, dec_lt hlt, hb, e00, l1, dec_nlt (Int.not_lt.1 h1), dec_nlt (Int.not_lt.1 h2), w2]

theorem wl1_loop {h : H} (h2 : 2 ≤ q) (h64 : q ≤ 64) (hn : n ≤ 30) (hf : RdI h (some ⟨o, off, none⟩) c fs) (hl : fs.length = n + 1) (d E u : Int) (x : Nat) (hx : x ≤ n) : ∀ (m k : Nat) (s : Int) (G : H), k + m = n + 1 → h <+: G →
    ∃ G' : H, G <+: G' ∧ ∀ ks, goL T [.tmp 8] [0, 1, 2, 3, 9, 11, 13, 14, 15] c7L1 (.blk 4 [0, 1, 2, 3, 9, 11, 13, 14] :: ks) [(0, .int .i64 q), (1, .int .i64 n), (2, .int .i64 d), (3, .slice (some ⟨o, off, none⟩) (n + 1) c), (9, .int .i64 E), (11, .int .i64 u), (13, .int .i64 x), (14, .int .i64 s), (15, .int .i64 k)] G =
      go T [.tmp 8] ks (Fr.of [(0, .int .i64 q), (1, .int .i64 n), (2, .int .i64 d), (3, .slice (some ⟨o, off, none⟩) (n + 1) c), (9, .int .i64 E), (11, .int .i64 u), (13, .int .i64 x), (14, .int .i64 (atN q n x fs m k s))]) G'
  | 0, k, s, G, hk, hp => by
    refine ⟨G, List.prefix_refl _, fun ks => ?_⟩
    rw [goL_at c7L1.eq_def, atN]
    have hlt : (n : Int) < (k : Int) := by omega
    simp (disch := first | omega | (simp only [Go.Am.len_push, Go.Am.len_set, Go.Am.len_kill] <;> omega) | fail) only [push_cast, Nat.reduceBEq, Nat.reduceAdd, Nat.reduceMul, Nat.reduceSub, Nat.reduceLT, Nat.reduceGT, Nat.reduceLeDiff, Nat.reduceEqDiff, Int.reduceToNat, Int.reduceAdd, Int.reduceMul, Int.reduceSub, Int.reduceNeg, Int.reduceLT, Int.reduceLE, Int.reduceEq, Nat.zero_add, Nat.add_zero, Nat.mul_one, eq_self, ne_eq, not_true, not_false_iff, and_true, true_and, and_self, List.getElem?_cons_zero, List.getElem?_cons_succ, List.map_cons, List.map_nil, dec_nle hlt]
  | m + 1, k, s, G, hk, hp => by
    have hle : (k : Int) ≤ (n : Int) := by omega
    have hb : (0 : Int) ≤ (k : Int) ∧ (k : Int) < (n : Int) + 1 := by omega
    have l1 := (hf.mono hp).ld (i := (k : Int)) (by omega) (by omega)
    obtain ⟨G1, p1, e1⟩ := rkraw_call h2 h64 G n k x hn (by omega) hx
    have w2 : IntKind.wrap .i64 ((k : Int) + 1) = (k : Int) + 1 := wrap64 (by omega) (by omega)
    obtain ⟨G', p2, ih⟩ := wl1_loop h2 h64 hn hf hl d E u x hx m (k + 1) (IntKind.wrap .i64 (s + IntKind.wrap .i64 (gi fs k * krN q n k x))) G1 (by omega) (hp.trans p1)
    refine ⟨G', p1.trans p2, fun ks => ?_⟩
    have ih := ih ks
    rw [Int.natCast_add, Int.natCast_one] at ih
    rw [goL_at c7L1.eq_def, atN, ← ih]
    simp (disch := first | omega | (simp only [Go.Am.len_push, Go.Am.len_set, Go.Am.len_kill] <;> omega) | fail) only [push_cast, Nat.reduceBEq, Nat.reduceAdd, Nat.reduceMul, Nat.reduceSub, Nat.reduceLT, Nat.reduceGT, Nat.reduceLeDiff, Nat.reduceEqDiff, Int.reduceToNat, Int.reduceAdd, Int.reduceMul, Int.reduceSub, Int.reduceNeg, Int.reduceLT, Int.reduceLE, Int.reduceEq, Nat.zero_add, Nat.add_zero, Nat.mul_one, eq_self, ne_eq, not_true, not_false_iff, and_true, true_and, and_self, List.getElem?_cons_zero, List.getElem?_cons_succ, List.map_cons, List.map_nil, dec_le hle, hb, l1, e1, behind_true p1, w2]

def rF (A : Nat → Int) (d : Nat) : Nat → Nat → Bool
  | 0, _ => true
  | m + 1, x => (decide (x < d) || decide (A x ≤ 0)) && rF A d m (x + 1)
theorem rF_low (A : Nat → Int) (d : Nat) : ∀ (m x : Nat), x + m = d → ∀ k, rF A d (m + k) x = rF A d k d
  | 0, x, h, k => by
    have : x = d := by omega
    subst this
    rw [Nat.zero_add]
  | m + 1, x, h, k => by
    rw [show m + 1 + k = (m + k) + 1 by omega, rF, decide_eq_true (show x < d by omega), Bool.true_or, Bool.true_and]
    exact rF_low A d m (x + 1) (by omega) k
theorem rF_high (A : Nat → Int) (d : Nat) : ∀ (m x : Nat), d ≤ x → rF A d m x = shF A m x
  | 0, _, _ => rfl
  | m + 1, x, h => by rw [rF, shF, decide_eq_false (show ¬ x < d by omega), Bool.false_or, rF_high A d m (x + 1) (by omega)]
theorem rF_eq (A : Nat → Int) (d n : Nat) (h : d ≤ n) : rF A d (n + 1) 0 = shF A (n + 1 - d) d := by
  have := rF_low A d d 0 (by omega) (n + 1 - d)
  rw [show d + (n + 1 - d) = n + 1 by omega] at this
  rw [this, rF_high A d _ _ (Nat.le_refl _)]

theorem wl2_no (h : H) (q n d : Int) (sa : Option Addr) (L c : Nat) (E u x : Int) (ks : List It) :
    goL T [.tmp 8] [0, 1, 2, 3, 9, 11, 12, 13] c7L2 (.blk 2 [0, 1, 2, 3, 9, 11, 12] :: ks) [(0, .int .i64 q), (1, .int .i64 n), (2, .int .i64 d), (3, .slice sa L c), (9, .int .i64 E), (11, .int .i64 u), (12, .bool false), (13, .int .i64 x)] h =
      go T [.tmp 8] ks (Fr.of [(0, .int .i64 q), (1, .int .i64 n), (2, .int .i64 d), (3, .slice sa L c), (9, .int .i64 E), (11, .int .i64 u), (12, .bool false)]) h := by
  rw [goL_at c7L2.eq_def]
  by_cases h0 : x ≤ n
  · simp (disch := first | omega | (simp only [Go.Am.len_push, Go.Am.len_set, Go.Am.len_kill] <;> omega) | fail) only [push_cast, Nat.reduceBEq, Nat.reduceAdd, Nat.reduceMul, Nat.reduceSub, Nat.reduceLT, Nat.reduceGT, Nat.reduceLeDiff, Nat.reduceEqDiff, Int.reduceToNat, Int.reduceAdd, Int.reduceMul, Int.reduceSub, Int.reduceNeg, Int.reduceLT, Int.reduceLE, Int.reduceEq, Nat.zero_add, Nat.add_zero, Nat.mul_one, eq_self, ne_eq, not_true, not_false_iff, and_true, true_and, and_self, List.getElem?_cons_zero, List.getElem?_cons_succ, List.map_cons, List.map_nil, dec_le h0]
  · simp (disch := first | omega | (simp only [Go.Am.len_push, Go.Am.len_set, Go.Am.len_kill] <;> omega) | fail) only [push_cast, Nat.reduceBEq, Nat.reduceAdd, Nat.reduceMul, Nat.reduceSub, Nat.reduceLT, Nat.reduceGT, Nat.reduceLeDiff, Nat.reduceEqDiff, Int.reduceToNat, Int.reduceAdd, Int.reduceMul, Int.reduceSub, Int.reduceNeg, Int.reduceLT, Int.reduceLE, Int.reduceEq, Nat.zero_add, Nat.add_zero, Nat.mul_one, eq_self, ne_eq, not_true, not_false_iff, and_true, true_and, and_self, List.getElem?_cons_zero, List.getElem?_cons_succ, List.map_cons, List.map_nil, dec_nle (Int.not_le.1 h0)]
theorem wl2_loop {h : H} (h2 : 2 ≤ q) (h64 : q ≤ 64) (hn : n ≤ 30) (hf : RdI h (some ⟨o, off, none⟩) c fs) (hl : fs.length = n + 1) (d : Nat) (hd : 0 < d) (E : Int) : ∀ (m x : Nat) (u : Int) (G : H), x + m = n + 1 → (x = 0 ∨ u = atA q n fs 0) → h <+: G →
    ∃ (G' : H) (u' : Int), G <+: G' ∧ (rF (atA q n fs) d m x = true → u' = atA q n fs 0) ∧ ∀ ks, goL T [.tmp 8] [0, 1, 2, 3, 9, 11, 12, 13] c7L2 (.blk 2 [0, 1, 2, 3, 9, 11, 12] :: ks) [(0, .int .i64 q), (1, .int .i64 n), (2, .int .i64 d), (3, .slice (some ⟨o, off, none⟩) (n + 1) c), (9, .int .i64 E), (11, .int .i64 u), (12, .bool true), (13, .int .i64 x)] G =
      go T [.tmp 8] ks (Fr.of [(0, .int .i64 q), (1, .int .i64 n), (2, .int .i64 d), (3, .slice (some ⟨o, off, none⟩) (n + 1) c), (9, .int .i64 E), (11, .int .i64 u'), (12, .bool (rF (atA q n fs) d m x))]) G'
  | 0, x, u, G, hx, hu, hp => by
    refine ⟨G, u, List.prefix_refl _, fun _ => by omega, fun ks => ?_⟩
    rw [goL_at c7L2.eq_def, rF]
    have hlt : (n : Int) < (x : Int) := by omega
    simp (disch := first | omega | (simp only [Go.Am.len_push, Go.Am.len_set, Go.Am.len_kill] <;> omega) | fail) only [push_cast, Nat.reduceBEq, Nat.reduceAdd, Nat.reduceMul, Nat.reduceSub, Nat.reduceLT, Nat.reduceGT, Nat.reduceLeDiff, Nat.reduceEqDiff, Int.reduceToNat, Int.reduceAdd, Int.reduceMul, Int.reduceSub, Int.reduceNeg, Int.reduceLT, Int.reduceLE, Int.reduceEq, Nat.zero_add, Nat.add_zero, Nat.mul_one, eq_self, ne_eq, not_true, not_false_iff, and_true, true_and, and_self, List.getElem?_cons_zero, List.getElem?_cons_succ, List.map_cons, List.map_nil, dec_nle hlt]
  | m + 1, x, u, G, hx, hu, hp => by
    have hle : (x : Int) ≤ (n : Int) := by omega
    have w2 : IntKind.wrap .i64 ((x : Int) + 1) = (x : Int) + 1 := wrap64 (by omega) (by omega)
    obtain ⟨A, hAe⟩ : ∃ A, A = atA q n fs x := ⟨_, rfl⟩
    obtain ⟨G1, p1, e1⟩ := wl1_loop h2 h64 hn hf hl d E u x (by omega) (n + 1) 0 0 G (by omega) hp
    have hA : atN q n x fs (n + 1) 0 0 = A := hAe.symm
    rw [hA] at e1
    simp only [Int.natCast_zero] at e1
    by_cases hx0 : x = 0
    · subst hx0
      obtain ⟨G2, u2, p2, q2, e2⟩ := wl2_loop h2 h64 hn hf hl d hd E m 1 A G1 (by omega) (.inr hAe) (hp.trans p1)
      refine ⟨G2, u2, p1.trans p2, fun hr => q2 (by rw [rF, Bool.and_eq_true] at hr; exact hr.2), fun ks => ?_⟩
      have hdi : decide ((0 : Int) = 0) = true := rfl
      rw [goL_at c7L2.eq_def, rF, decide_eq_true hd, Bool.true_or, Bool.true_and, ← e2 ks]
      simp only [Int.natCast_zero, Int.natCast_one, Int.zero_add] at hle e1 w2 ⊢
      simp (disch := first | omega | (simp only [Go.Am.len_push, Go.Am.len_set, Go.Am.len_kill] <;> omega) | fail) only [push_cast, Nat.reduceBEq, Nat.reduceAdd, Nat.reduceMul, Nat.reduceSub, Nat.reduceLT, Nat.reduceGT, Nat.reduceLeDiff, Nat.reduceEqDiff, Int.reduceToNat, Int.reduceAdd, Int.reduceMul, Int.reduceSub, Int.reduceNeg, Int.reduceLT, Int.reduceLE, Int.reduceEq, Nat.zero_add, Nat.add_zero, Nat.mul_one, eq_self, ne_eq, not_true, not_false_iff, and_true, true_and, and_self, List.getElem?_cons_zero, List.getElem?_cons_succ, List.map_cons, List.map_nil, dec_le hle]
      rw [e1]
      simp (disch := first | omega | (simp only [Go.Am.len_push, Go.Am.len_set, Go.Am.len_kill] <;> omega) | fail) only [push_cast, Nat.reduceBEq, Nat.reduceAdd, Nat.reduceMul, Nat.reduceSub, Nat.reduceLT, Nat.reduceGT, Nat.reduceLeDiff, Nat.reduceEqDiff, Int.reduceToNat, Int.reduceAdd, Int.reduceMul, Int.reduceSub, Int.reduceNeg, Int.reduceLT, Int.reduceLE, Int.reduceEq, Nat.zero_add, Nat.add_zero, Nat.mul_one, eq_self, ne_eq, not_true, not_false_iff, and_true, true_and, and_self, List.getElem?_cons_zero, List.getElem?_cons_succ, List.map_cons, List.map_nil, hdi, w2]
    · have hu' : u = atA q n fs 0 := by omega
      have hdi : ¬ (x : Int) = 0 := by omega
      by_cases hok : (decide (x < d) || decide (A ≤ 0)) = true
      · obtain ⟨G2, u2, p2, q2, e2⟩ := wl2_loop h2 h64 hn hf hl d hd E m (x + 1) u G1 (by omega) (.inr hu') (hp.trans p1)
        refine ⟨G2, u2, p1.trans p2, fun hr => q2 (by rw [rF, Bool.and_eq_true] at hr; exact hr.2), fun ks => ?_⟩
        have ih := e2 ks
        rw [Int.natCast_add, Int.natCast_one] at ih
        rw [goL_at c7L2.eq_def, rF, ← hAe, hok, Bool.true_and, ← ih]
        simp (disch := first | omega | (simp only [Go.Am.len_push, Go.Am.len_set, Go.Am.len_kill] <;> omega) | fail) only [push_cast, Nat.reduceBEq, Nat.reduceAdd, Nat.reduceMul, Nat.reduceSub, Nat.reduceLT, Nat.reduceGT, Nat.reduceLeDiff, Nat.reduceEqDiff, Int.reduceToNat, Int.reduceAdd, Int.reduceMul, Int.reduceSub, Int.reduceNeg, Int.reduceLT, Int.reduceLE, Int.reduceEq, Nat.zero_add, Nat.add_zero, Nat.mul_one, eq_self, ne_eq, not_true, not_false_iff, and_true, true_and, and_self, List.getElem?_cons_zero, List.getElem?_cons_succ, List.map_cons, List.map_nil, dec_le hle]
        rw [e1]
        by_cases hxd : (x : Int) < (d : Int)
        · simp (disch := first | omega | (simp only [Go.Am.len_push, Go.Am.len_set, Go.Am.len_kill] <;> omega) | fail) only [push_cast, Nat.reduceBEq, Nat.reduceAdd, Nat.reduceMul, Nat.reduceSub, Nat.reduceLT, Nat.reduceGT, Nat.reduceLeDiff, Nat.reduceEqDiff, Int.reduceToNat, Int.reduceAdd, Int.reduceMul, Int.reduceSub, Int.reduceNeg, Int.reduceLT, Int.reduceLE, Int.reduceEq, Nat.zero_add, Nat.add_zero, Nat.mul_one, eq_self, ne_eq, not_true, not_false_iff, and_true, true_and, and_self, List.getElem?_cons_zero, List.getElem?_cons_succ, List.map_cons, List.map_nil, dec_ne hdi, dec_lt hxd, w2]
        · have hA0 : A ≤ 0 := by simp only [Bool.or_eq_true, decide_eq_true_eq] at hok; omega
          simp (disch := first | omega | (simp only [Go.Am.len_push, Go.Am.len_set, Go.Am.len_kill] <;> omega) | fail) only [push_cast, Nat.reduceBEq, Nat.reduceAdd, Nat.reduceMul, Nat.reduceSub, Nat.reduceLT, Nat.reduceGT, Nat.reduceLeDiff, Nat.reduceEqDiff, Int.reduceToNat, Int.reduceAdd, Int.reduceMul, Int.reduceSub, Int.reduceNeg, Int.reduceLT, Int.reduceLE, Int.reduceEq, Nat.zero_add, Nat.add_zero, Nat.mul_one, eq_self, ne_eq, not_true, not_false_iff, and_true, true_and, and_self, List.getElem?_cons_zero, List.getElem?_cons_succ, List.map_cons, List.map_nil, dec_ne hdi, dec_nlt (Int.not_lt.1 hxd), dec_le hA0, w2]
      · refine ⟨G1, u, p1, fun hr => hu', fun ks => ?_⟩
        have hA0 : 0 < A ∧ (d : Int) ≤ (x : Int) := by simp only [Bool.or_eq_true, decide_eq_true_eq] at hok; omega
        rw [Bool.not_eq_true] at hok
        rw [goL_at c7L2.eq_def, rF, ← hAe, hok, Bool.false_and]
        simp (disch := first | omega | (simp only [Go.Am.len_push, Go.Am.len_set, Go.Am.len_kill] <;> omega) | fail) only [push_cast, Nat.reduceBEq, Nat.reduceAdd, Nat.reduceMul, Nat.reduceSub, Nat.reduceLT, Nat.reduceGT, Nat.reduceLeDiff, Nat.reduceEqDiff, Int.reduceToNat, Int.reduceAdd, Int.reduceMul, Int.reduceSub, Int.reduceNeg, Int.reduceLT, Int.reduceLE, Int.reduceEq, Nat.zero_add, Nat.add_zero, Nat.mul_one, eq_self, ne_eq, not_true, not_false_iff, and_true, true_and, and_self, List.getElem?_cons_zero, List.getElem?_cons_succ, List.map_cons, List.map_nil, dec_le hle]
        rw [e1]
        simp (disch := first | omega | (simp only [Go.Am.len_push, Go.Am.len_set, Go.Am.len_kill] <;> omega) | fail) only [push_cast, Nat.reduceBEq, Nat.reduceAdd, Nat.reduceMul, Nat.reduceSub, Nat.reduceLT, Nat.reduceGT, Nat.reduceLeDiff, Nat.reduceEqDiff, Int.reduceToNat, Int.reduceAdd, Int.reduceMul, Int.reduceSub, Int.reduceNeg, Int.reduceLT, Int.reduceLE, Int.reduceEq, Nat.zero_add, Nat.add_zero, Nat.mul_one, eq_self, ne_eq, not_true, not_false_iff, and_true, true_and, and_self, List.getElem?_cons_zero, List.getElem?_cons_succ, List.map_cons, List.map_nil, dec_ne hdi, dec_nlt hA0.2, dec_nle hA0.1, w2]
        rw [wl2_no]
end

theorem weightsShow_call (q n d : Int) (hn : n ≤ 9223372036854775807) (fs : List Int) (sa : Option Addr) (c : Nat) (h : H) (hf : RdI h sa c fs) :
    ∃ h' : H, call T 7 [.int .i64 q, .int .i64 n, .int .i64 d, .slice sa fs.length c] h = some (.bool true, h') := by
  by_cases hl : 100 < fs.length
  · refine ⟨h, ?_⟩
    have h1 : (100 : Int) < (fs.length : Int) := by omega
    rw [call_at T7 rfl]
    unfold F7 c7
    simp (disch := first | omega | (simp only [Go.Am.len_push, Go.Am.len_set, Go.Am.len_kill] <;> omega) | fail) only [push_cast, Nat.reduceBEq, Nat.reduceAdd, Nat.reduceMul, Nat.reduceSub, Nat.reduceLT, Nat.reduceGT, Nat.reduceLeDiff, Nat.reduceEqDiff, Int.reduceToNat, Int.reduceAdd, Int.reduceMul, Int.reduceSub, Int.reduceNeg, Int.reduceLT, Int.reduceLE, Int.reduceEq, Nat.zero_add, Nat.add_zero, Nat.mul_one, eq_self, ne_eq, not_true, not_false_iff, and_true, true_and, and_self, List.getElem?_cons_zero, List.getElem?_cons_succ, List.map_cons, List.map_nil, dec_lt h1]
  have h1 : (fs.length : Int) ≤ 100 := by omega
  obtain ⟨h1', p1, e1⟩ := rcount_call q n hn h
  have bad : ∀ E : Int, ¬ E = 0 → shE q n d fs = E → ∃ h2 : H, call T 41 [.int .i64 q, .int .i64 n, .int .i64 d, .slice sa fs.length c] h1' = some (.tuple #[.int .i64 0, .int .i64 0, .bool false, .int .i64 E], h2) := by
    intro E hE hs
    obtain ⟨h2, _, e2⟩ := pshows_call q n d hn fs sa c (by omega) h1' (hf.mono p1)
    rw [hs, dec_ne hE, Bool.false_and, cond_false] at e2
    exact ⟨h2, e2⟩
  have d00 : decide ((0 : Int) = 0) = true := rfl
  by_cases k0 : cntE q n = 0
  rotate_left
  · obtain ⟨h2, e2⟩ := bad (cntE q n) k0 (by unfold shE argE; rw [if_neg k0, if_neg k0])
    refine ⟨h2, ?_⟩
    rw [call_at T7 rfl]
    unfold F7 c7
    simp (disch := first | omega | (simp only [Go.Am.len_push, Go.Am.len_set, Go.Am.len_kill] <;> omega) | fail) only [push_cast, Nat.reduceBEq, Nat.reduceAdd, Nat.reduceMul, Nat.reduceSub, Nat.reduceLT, Nat.reduceGT, Nat.reduceLeDiff, Nat.reduceEqDiff, Int.reduceToNat, Int.reduceAdd, Int.reduceMul, Int.reduceSub, Int.reduceNeg, Int.reduceLT, Int.reduceLE, Int.reduceEq, Nat.zero_add, Nat.add_zero, Nat.mul_one, eq_self, ne_eq, not_true, not_false_iff, and_true, true_and, and_self, List.getElem?_cons_zero, List.getElem?_cons_succ, List.map_cons, List.map_nil, dec_nlt h1, e1, dec_ne k0]
    rw [wl0_no (hE := k0)]
    simp (disch := first | omega | (simp only [Go.Am.len_push, Go.Am.len_set, Go.Am.len_kill] <;> omega) | fail) only [push_cast, Nat.reduceBEq, Nat.reduceAdd, Nat.reduceMul, Nat.reduceSub, Nat.reduceLT, Nat.reduceGT, Nat.reduceLeDiff, Nat.reduceEqDiff, Int.reduceToNat, Int.reduceAdd, Int.reduceMul, Int.reduceSub, Int.reduceNeg, Int.reduceLT, Int.reduceLE, Int.reduceEq, Nat.zero_add, Nat.add_zero, Nat.mul_one, eq_self, ne_eq, not_true, not_false_iff, and_true, true_and, and_self, List.getElem?_cons_zero, List.getElem?_cons_succ, List.map_cons, List.map_nil, dec_ne k0]
    rw [wl2_no]
    simp (disch := first | omega | (simp only [Go.Am.len_push, Go.Am.len_set, Go.Am.len_kill] <;> omega) | fail) only [push_cast, Nat.reduceBEq, Nat.reduceAdd, Nat.reduceMul, Nat.reduceSub, Nat.reduceLT, Nat.reduceGT, Nat.reduceLeDiff, Nat.reduceEqDiff, Int.reduceToNat, Int.reduceAdd, Int.reduceMul, Int.reduceSub, Int.reduceNeg, Int.reduceLT, Int.reduceLE, Int.reduceEq, Nat.zero_add, Nat.add_zero, Nat.mul_one, eq_self, ne_eq, not_true, not_false_iff, and_true, true_and, and_self, List.getElem?_cons_zero, List.getElem?_cons_succ, List.map_cons, List.map_nil, e2, dec_ne k0, d00, decide_true]
  rw [k0] at e1
  by_cases kd : d < 1 ∨ n < d
  · have h10 : ¬ (10 : Int) = 0 := by omega
    obtain ⟨h2, e2⟩ := bad 10 h10 (by unfold shE argE; rw [if_pos k0, if_pos kd, if_neg (by omega)])
    refine ⟨h2, ?_⟩
    rw [call_at T7 rfl]
    unfold F7 c7
    by_cases k1 : d < 1
    · simp (disch := first | omega | (simp only [Go.Am.len_push, Go.Am.len_set, Go.Am.len_kill] <;> omega) | fail) only [push_cast, Nat.reduceBEq, Nat.reduceAdd, Nat.reduceMul, Nat.reduceSub, Nat.reduceLT, Nat.reduceGT, Nat.reduceLeDiff, Nat.reduceEqDiff, Int.reduceToNat, Int.reduceAdd, Int.reduceMul, Int.reduceSub, Int.reduceNeg, Int.reduceLT, Int.reduceLE, Int.reduceEq, Nat.zero_add, Nat.add_zero, Nat.mul_one, eq_self, ne_eq, not_true, not_false_iff, and_true, true_and, and_self, List.getElem?_cons_zero, List.getElem?_cons_succ, List.map_cons, List.map_nil, dec_nlt h1, e1, d00, dec_lt k1, dec_ne h10]
      rw [wl0_no (hE := h10)]
      simp (disch := first | omega | (simp only [Go.Am.len_push, Go.Am.len_set, Go.Am.len_kill] <;> omega) | fail) only [push_cast, Nat.reduceBEq, Nat.reduceAdd, Nat.reduceMul, Nat.reduceSub, Nat.reduceLT, Nat.reduceGT, Nat.reduceLeDiff, Nat.reduceEqDiff, Int.reduceToNat, Int.reduceAdd, Int.reduceMul, Int.reduceSub, Int.reduceNeg, Int.reduceLT, Int.reduceLE, Int.reduceEq, Nat.zero_add, Nat.add_zero, Nat.mul_one, eq_self, ne_eq, not_true, not_false_iff, and_true, true_and, and_self, List.getElem?_cons_zero, List.getElem?_cons_succ, List.map_cons, List.map_nil, dec_ne h10]
      rw [wl2_no]
      simp (disch := first | omega | (simp only [Go.Am.len_push, Go.Am.len_set, Go.Am.len_kill] <;> omega) | fail) only [push_cast, Nat.reduceBEq, Nat.reduceAdd, Nat.reduceMul, Nat.reduceSub, Nat.reduceLT, Nat.reduceGT, Nat.reduceLeDiff, Nat.reduceEqDiff, Int.reduceToNat, Int.reduceAdd, Int.reduceMul, Int.reduceSub, Int.reduceNeg, Int.reduceLT, Int.reduceLE, Int.reduceEq, Nat.zero_add, Nat.add_zero, Nat.mul_one, eq_self, ne_eq, not_true, not_false_iff, and_true, true_and, and_self, List.getElem?_cons_zero, List.getElem?_cons_succ, List.map_cons, List.map_nil, e2, d00, decide_true]
    · have k2 : n < d := by omega
      simp (disch := first | omega | (simp only [Go.Am.len_push, Go.Am.len_set, Go.Am.len_kill] <;> omega) | fail) only [push_cast, Nat.reduceBEq, Nat.reduceAdd, Nat.reduceMul, Nat.reduceSub, Nat.reduceLT, Nat.reduceGT, Nat.reduceLeDiff, Nat.reduceEqDiff, Int.reduceToNat, Int.reduceAdd, Int.reduceMul, Int.reduceSub, Int.reduceNeg, Int.reduceLT, Int.reduceLE, Int.reduceEq, Nat.zero_add, Nat.add_zero, Nat.mul_one, eq_self, ne_eq, not_true, not_false_iff, and_true, true_and, and_self, List.getElem?_cons_zero, List.getElem?_cons_succ, List.map_cons, List.map_nil, dec_nlt h1, e1, d00, dec_nlt (Int.not_lt.1 k1), dec_lt k2, dec_ne h10]
      rw [wl0_no (hE := h10)]
      simp (disch := first | omega | (simp only [Go.Am.len_push, Go.Am.len_set, Go.Am.len_kill] <;> omega) | fail) only [push_cast, Nat.reduceBEq, Nat.reduceAdd, Nat.reduceMul, Nat.reduceSub, Nat.reduceLT, Nat.reduceGT, Nat.reduceLeDiff, Nat.reduceEqDiff, Int.reduceToNat, Int.reduceAdd, Int.reduceMul, Int.reduceSub, Int.reduceNeg, Int.reduceLT, Int.reduceLE, Int.reduceEq, Nat.zero_add, Nat.add_zero, Nat.mul_one, eq_self, ne_eq, not_true, not_false_iff, and_true, true_and, and_self, List.getElem?_cons_zero, List.getElem?_cons_succ, List.map_cons, List.map_nil, dec_ne h10]
      rw [wl2_no]
      simp (disch := first | omega | (simp only [Go.Am.len_push, Go.Am.len_set, Go.Am.len_kill] <;> omega) | fail) only [push_cast, Nat.reduceBEq, Nat.reduceAdd, Nat.reduceMul, Nat.reduceSub, Nat.reduceLT, Nat.reduceGT, Nat.reduceLeDiff, Nat.reduceEqDiff, Int.reduceToNat, Int.reduceAdd, Int.reduceMul, Int.reduceSub, Int.reduceNeg, Int.reduceLT, Int.reduceLE, Int.reduceEq, Nat.zero_add, Nat.add_zero, Nat.mul_one, eq_self, ne_eq, not_true, not_false_iff, and_true, true_and, and_self, List.getElem?_cons_zero, List.getElem?_cons_succ, List.map_cons, List.map_nil, e2, d00, decide_true]
  have kd1 : 1 ≤ d := by omega
  have kd2 : d ≤ n := by omega
  obtain ⟨q2, q64, n1, n30⟩ := cntE_ok k0
  obtain ⟨N, rfl⟩ : ∃ N : Nat, n = N := ⟨n.toNat, by omega⟩
  obtain ⟨D, rfl⟩ : ∃ D : Nat, d = D := ⟨d.toNat, by omega⟩
  have w1 : IntKind.wrap .i64 ((N : Int) + 1) = (N : Int) + 1 := wrap64 (by omega) (by omega)
  have ka : argE q N D = 0 := by unfold argE; rw [if_pos k0, if_neg kd]
  by_cases klen : (fs.length : Int) = (N : Int) + 1
  rotate_left
  · have h10 : ¬ (6 : Int) = 0 := by omega
    obtain ⟨h2, e2⟩ := bad 6 h10 (by unfold shE; rw [if_pos ka, if_neg klen])
    refine ⟨h2, ?_⟩
    rw [call_at T7 rfl]
    unfold F7 c7
    simp (disch := first | omega | (simp only [Go.Am.len_push, Go.Am.len_set, Go.Am.len_kill] <;> omega) | fail) only [push_cast, Nat.reduceBEq, Nat.reduceAdd, Nat.reduceMul, Nat.reduceSub, Nat.reduceLT, Nat.reduceGT, Nat.reduceLeDiff, Nat.reduceEqDiff, Int.reduceToNat, Int.reduceAdd, Int.reduceMul, Int.reduceSub, Int.reduceNeg, Int.reduceLT, Int.reduceLE, Int.reduceEq, Nat.zero_add, Nat.add_zero, Nat.mul_one, eq_self, ne_eq, not_true, not_false_iff, and_true, true_and, and_self, List.getElem?_cons_zero, List.getElem?_cons_succ, List.map_cons, List.map_nil, dec_nlt h1, e1, d00, dec_nlt kd1, dec_nlt kd2, w1, dec_ne klen, dec_ne h10]
    rw [wl0_no (hE := h10)]
    simp (disch := first | omega | (simp only [Go.Am.len_push, Go.Am.len_set, Go.Am.len_kill] <;> omega) | fail) only [push_cast, Nat.reduceBEq, Nat.reduceAdd, Nat.reduceMul, Nat.reduceSub, Nat.reduceLT, Nat.reduceGT, Nat.reduceLeDiff, Nat.reduceEqDiff, Int.reduceToNat, Int.reduceAdd, Int.reduceMul, Int.reduceSub, Int.reduceNeg, Int.reduceLT, Int.reduceLE, Int.reduceEq, Nat.zero_add, Nat.add_zero, Nat.mul_one, eq_self, ne_eq, not_true, not_false_iff, and_true, true_and, and_self, List.getElem?_cons_zero, List.getElem?_cons_succ, List.map_cons, List.map_nil, dec_ne h10]
    rw [wl2_no]
    simp (disch := first | omega | (simp only [Go.Am.len_push, Go.Am.len_set, Go.Am.len_kill] <;> omega) | fail) only [push_cast, Nat.reduceBEq, Nat.reduceAdd, Nat.reduceMul, Nat.reduceSub, Nat.reduceLT, Nat.reduceGT, Nat.reduceLeDiff, Nat.reduceEqDiff, Int.reduceToNat, Int.reduceAdd, Int.reduceMul, Int.reduceSub, Int.reduceNeg, Int.reduceLT, Int.reduceLE, Int.reduceEq, Nat.zero_add, Nat.add_zero, Nat.mul_one, eq_self, ne_eq, not_true, not_false_iff, and_true, true_and, and_self, List.getElem?_cons_zero, List.getElem?_cons_succ, List.map_cons, List.map_nil, e2, d00, decide_true]
  have hl1 : fs.length = N + 1 := by omega
  obtain ⟨o, off, rfl, hol, _⟩ := hf.addr (by omega)
  have hf1 := hf.mono p1
  have hv := fun ks => wl0_loop q N D hf1 (by omega) fs.length 0 (by omega) ks
  simp only [Int.natCast_zero] at hv
  have hsE : shE q N D fs = bif badF fs fs.length 0 then 2 else 0 := by unfold shE; rw [if_pos ka, if_pos klen]
  cases hbf : badF fs fs.length 0 with
  | true =>
    rw [hbf, cond_true] at hv hsE
    have h10 : ¬ (2 : Int) = 0 := by omega
    obtain ⟨h2, e2⟩ := bad 2 h10 hsE
    refine ⟨h2, ?_⟩
    rw [call_at T7 rfl]
    unfold F7 c7
    simp (disch := first | omega | (simp only [Go.Am.len_push, Go.Am.len_set, Go.Am.len_kill] <;> omega) | fail) only [push_cast, Nat.reduceBEq, Nat.reduceAdd, Nat.reduceMul, Nat.reduceSub, Nat.reduceLT, Nat.reduceGT, Nat.reduceLeDiff, Nat.reduceEqDiff, Int.reduceToNat, Int.reduceAdd, Int.reduceMul, Int.reduceSub, Int.reduceNeg, Int.reduceLT, Int.reduceLE, Int.reduceEq, Nat.zero_add, Nat.add_zero, Nat.mul_one, eq_self, ne_eq, not_true, not_false_iff, and_true, true_and, and_self, List.getElem?_cons_zero, List.getElem?_cons_succ, List.map_cons, List.map_nil, dec_nlt h1, e1, d00, dec_nlt kd1, dec_nlt kd2, w1, dec_eq klen]
    rw [hv]
    simp (disch := first | omega | (simp only [Go.Am.len_push, Go.Am.len_set, Go.Am.len_kill] <;> omega) | fail) only [push_cast, Nat.reduceBEq, Nat.reduceAdd, Nat.reduceMul, Nat.reduceSub, Nat.reduceLT, Nat.reduceGT, Nat.reduceLeDiff, Nat.reduceEqDiff, Int.reduceToNat, Int.reduceAdd, Int.reduceMul, Int.reduceSub, Int.reduceNeg, Int.reduceLT, Int.reduceLE, Int.reduceEq, Nat.zero_add, Nat.add_zero, Nat.mul_one, eq_self, ne_eq, not_true, not_false_iff, and_true, true_and, and_self, List.getElem?_cons_zero, List.getElem?_cons_succ, List.map_cons, List.map_nil, dec_ne h10]
    rw [wl2_no]
    simp (disch := first | omega | (simp only [Go.Am.len_push, Go.Am.len_set, Go.Am.len_kill] <;> omega) | fail) only [push_cast, Nat.reduceBEq, Nat.reduceAdd, Nat.reduceMul, Nat.reduceSub, Nat.reduceLT, Nat.reduceGT, Nat.reduceLeDiff, Nat.reduceEqDiff, Int.reduceToNat, Int.reduceAdd, Int.reduceMul, Int.reduceSub, Int.reduceNeg, Int.reduceLT, Int.reduceLE, Int.reduceEq, Nat.zero_add, Nat.add_zero, Nat.mul_one, eq_self, ne_eq, not_true, not_false_iff, and_true, true_and, and_self, List.getElem?_cons_zero, List.getElem?_cons_succ, List.map_cons, List.map_nil, e2, d00, decide_true]
  | false =>
    rw [hbf, cond_false] at hv hsE
    have hb0 : (0 : Int) ≤ 0 ∧ (0 : Int) < (fs.length : Int) := by omega
    have l0 := hf1.ld (i := 0) (by omega) (by omega)
    simp only [Int.toNat_zero, Nat.add_zero] at l0
    by_cases hg : 0 < gi fs 0
    rotate_left
    · obtain ⟨h2, _, e2⟩ := pshows_call q N D hn fs _ c (by omega) h1' hf1
      have hso : shO q N D fs = false := by unfold shO; rw [dec_nlt (Int.not_lt.1 hg)]; rfl
      rw [hsE, hso, Bool.and_false, cond_false] at e2
      refine ⟨h2, ?_⟩
      rw [call_at T7 rfl]
      unfold F7 c7
      simp (disch := first | omega | (simp only [Go.Am.len_push, Go.Am.len_set, Go.Am.len_kill] <;> omega) | fail) only [push_cast, Nat.reduceBEq, Nat.reduceAdd, Nat.reduceMul, Nat.reduceSub, Nat.reduceLT, Nat.reduceGT, Nat.reduceLeDiff, Nat.reduceEqDiff, Int.reduceToNat, Int.reduceAdd, Int.reduceMul, Int.reduceSub, Int.reduceNeg, Int.reduceLT, Int.reduceLE, Int.reduceEq, Nat.zero_add, Nat.add_zero, Nat.mul_one, eq_self, ne_eq, not_true, not_false_iff, and_true, true_and, and_self, List.getElem?_cons_zero, List.getElem?_cons_succ, List.map_cons, List.map_nil, dec_nlt h1, e1, d00, dec_nlt kd1, dec_nlt kd2, w1, dec_eq klen]
      rw [hv]
      simp (disch := first | omega | (simp only [Go.Am.len_push, Go.Am.len_set, Go.Am.len_kill] <;> omega) | fail) only [push_cast, Nat.reduceBEq, Nat.reduceAdd, Nat.reduceMul, Nat.reduceSub, Nat.reduceLT, Nat.reduceGT, Nat.reduceLeDiff, Nat.reduceEqDiff, Int.reduceToNat, Int.reduceAdd, Int.reduceMul, Int.reduceSub, Int.reduceNeg, Int.reduceLT, Int.reduceLE, Int.reduceEq, Nat.zero_add, Nat.add_zero, Nat.mul_one, eq_self, ne_eq, not_true, not_false_iff, and_true, true_and, and_self, List.getElem?_cons_zero, List.getElem?_cons_succ, List.map_cons, List.map_nil, d00, hb0, l0, dec_nlt (Int.not_lt.1 hg)]
      rw [wl2_no]
      simp (disch := first | omega | (simp only [Go.Am.len_push, Go.Am.len_set, Go.Am.len_kill] <;> omega) | fail) only [push_cast, Nat.reduceBEq, Nat.reduceAdd, Nat.reduceMul, Nat.reduceSub, Nat.reduceLT, Nat.reduceGT, Nat.reduceLeDiff, Nat.reduceEqDiff, Int.reduceToNat, Int.reduceAdd, Int.reduceMul, Int.reduceSub, Int.reduceNeg, Int.reduceLT, Int.reduceLE, Int.reduceEq, Nat.zero_add, Nat.add_zero, Nat.mul_one, eq_self, ne_eq, not_true, not_false_iff, and_true, true_and, and_self, List.getElem?_cons_zero, List.getElem?_cons_succ, List.map_cons, List.map_nil, e2, d00]
    · obtain ⟨G2, u2, p2, qu, ex⟩ := wl2_loop (d := D) (by omega) (by omega) (by omega) hf1 hl1 (by omega) 0 (N + 1) 0 0 h1' (by omega) (.inl rfl) (List.prefix_refl _)
      obtain ⟨h2, p3, e2⟩ := pshows_call q N D hn fs _ c (by omega) G2 (hf1.mono p2)
      have hso : shO q N D fs = rF (atA q N fs) D (N + 1) 0 := by unfold shO; rw [dec_lt hg, Bool.true_and, rF_eq _ _ _ (by omega)]; rfl
      rw [hsE, hso, d00, Bool.true_and] at e2
      simp only [Int.natCast_zero] at ex
      refine ⟨h2, ?_⟩
      have l0' := (hf1.mono (p2.trans p3)).ld (i := 0) (by omega) (by omega)
      simp only [Int.toNat_zero, Nat.add_zero] at l0'
      rw [call_at T7 rfl]
      unfold F7 c7
      simp (disch := first | omega | (simp only [Go.Am.len_push, Go.Am.len_set, Go.Am.len_kill] <;> omega) | fail) only [push_cast, Nat.reduceBEq, Nat.reduceAdd, Nat.reduceMul, Nat.reduceSub, Nat.reduceLT, Nat.reduceGT, Nat.reduceLeDiff, Nat.reduceEqDiff, Int.reduceToNat, Int.reduceAdd, Int.reduceMul, Int.reduceSub, Int.reduceNeg, Int.reduceLT, Int.reduceLE, Int.reduceEq, Nat.zero_add, Nat.add_zero, Nat.mul_one, eq_self, ne_eq, not_true, not_false_iff, and_true, true_and, and_self, List.getElem?_cons_zero, List.getElem?_cons_succ, List.map_cons, List.map_nil, dec_nlt h1, e1, d00, dec_nlt kd1, dec_nlt kd2, w1, dec_eq klen]
      rw [hv]
      have hb1 : (0 : Int) ≤ 0 ∧ (0 : Int) < (N : Int) + 1 := by omega
      rw [hl1] at e2 ⊢
      simp (disch := first | omega | (simp only [Go.Am.len_push, Go.Am.len_set, Go.Am.len_kill] <;> omega) | fail) only [push_cast, Nat.reduceBEq, Nat.reduceAdd, Nat.reduceMul, Nat.reduceSub, Nat.reduceLT, Nat.reduceGT, Nat.reduceLeDiff, Nat.reduceEqDiff, Int.reduceToNat, Int.reduceAdd, Int.reduceMul, Int.reduceSub, Int.reduceNeg, Int.reduceLT, Int.reduceLE, Int.reduceEq, Nat.zero_add, Nat.add_zero, Nat.mul_one, eq_self, ne_eq, not_true, not_false_iff, and_true, true_and, and_self, List.getElem?_cons_zero, List.getElem?_cons_succ, List.map_cons, List.map_nil, d00, hb1, l0, dec_lt hg]
      rw [ex]
      cases hr : rF (atA q N fs) D (N + 1) 0 with
      | false =>
        rw [hr, cond_false] at e2
        simp (disch := first | omega | (simp only [Go.Am.len_push, Go.Am.len_set, Go.Am.len_kill] <;> omega) | fail) only [push_cast, Nat.reduceBEq, Nat.reduceAdd, Nat.reduceMul, Nat.reduceSub, Nat.reduceLT, Nat.reduceGT, Nat.reduceLeDiff, Nat.reduceEqDiff, Int.reduceToNat, Int.reduceAdd, Int.reduceMul, Int.reduceSub, Int.reduceNeg, Int.reduceLT, Int.reduceLE, Int.reduceEq, Nat.zero_add, Nat.add_zero, Nat.mul_one, eq_self, ne_eq, not_true, not_false_iff, and_true, true_and, and_self, List.getElem?_cons_zero, List.getElem?_cons_succ, List.map_cons, List.map_nil, e2, d00]
      | true =>
        rw [hr, cond_true, Int.toNat_natCast] at e2
        rw [qu hr]
        simp (disch := first | omega | (simp only [Go.Am.len_push, Go.Am.len_set, Go.Am.len_kill] <;> omega) | fail) only [push_cast, Nat.reduceBEq, Nat.reduceAdd, Nat.reduceMul, Nat.reduceSub, Nat.reduceLT, Nat.reduceGT, Nat.reduceLeDiff, Nat.reduceEqDiff, Int.reduceToNat, Int.reduceAdd, Int.reduceMul, Int.reduceSub, Int.reduceNeg, Int.reduceLT, Int.reduceLE, Int.reduceEq, Nat.zero_add, Nat.add_zero, Nat.mul_one, eq_self, ne_eq, not_true, not_false_iff, and_true, true_and, and_self, List.getElem?_cons_zero, List.getElem?_cons_succ, List.map_cons, List.map_nil, e2, d00, decide_true, hb1, l0']
theorem weightsShow_law (h : H) (q : Int) (_ : -9223372036854775808 ≤ q) (_ : q ≤ 9223372036854775807) (n : Int) (_ : -9223372036854775808 ≤ n) (hn : n ≤ 9223372036854775807) (d : Int) (_ : -9223372036854775808 ≤ d) (_ : d ≤ 9223372036854775807)
    (sa : Option Addr) (c : Nat) (zs : List Int) (hr : RdI h sa c zs) (_ : unitOk h 1 sa = true) :
    ∃ h' : H, call T 7 [.int .i64 q, .int .i64 n, .int .i64 d, .slice sa zs.length c] h = some (.bool true, h') := weightsShow_call q n d hn zs sa c h hr
end Go.Proofs.Ytammndhoillliaa
