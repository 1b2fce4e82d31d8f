/-
  What weights.kraw and the document's Kraw compute: the same numbers. Conditions: of at most thirty places.
-/
import Derived.Test.YtammndhoillliaaWB
namespace Go.Proofs.Ytammndhoillliaa
open Go.Am
set_option linter.unusedVariables false
set_option linter.unusedSimpArgs false
set_option maxRecDepth 30000

/-! ### kraw -/
def mulW (Q : Int) : Nat → Int → Int
  | 0, t => t
  | n + 1, t => mulW Q n (IntKind.wrap .i64 (t * Q))
theorem mulW_eq (Q : Int) : ∀ (n : Nat) (a : Int), mulW Q n (IntKind.wrap .i64 a) = W (a * Q ^ n)
  | 0, a => by simp [mulW, W]
  | n + 1, a => by
    rw [mulW, W_def, W_def, W_mul_l, ← W_def, mulW_eq Q n (a * Q), Int.pow_succ]
    congr 1; grind
section
variable {q : Int}
theorem kmul_loop (h2 : 2 ≤ q) (h64 : q ≤ 64) (h : H) (a1 a2 a3 a9 a10 : Int) (N : Nat) (hN : N ≤ 1000) : ∀ (m i : Nat) (t : Int), i + m = N → ∀ ks,
    goL T [.tmp 8] [0, 1, 2, 3, 9, 10, 11, 30, 31] c154L0 (.blk 2 [0, 1, 2, 3, 9, 10, 11] :: ks) [(0, .int .i64 q), (1, .int .i64 a1), (2, .int .i64 a2), (3, .int .i64 a3), (9, .int .i64 a9), (10, .int .i64 a10), (11, .int .i64 t), (30, .int .i64 N), (31, .int .i64 i)] h =
      go T [.tmp 8] ks (Fr.of [(0, .int .i64 q), (1, .int .i64 a1), (2, .int .i64 a2), (3, .int .i64 a3), (9, .int .i64 a9), (10, .int .i64 a10), (11, .int .i64 (mulW (q - 1) m t))]) h
  | 0, i, t, hi, ks => by
    rw [goL_at c154L0.eq_def]
    obtain rfl : i = N := by omega
    rw [mulW]
    simp (disch := first | omega | (simp only [Go.Am.len_push, Go.Am.len_set, Go.Am.len_kill] <;> omega) | fail) only [push_cast, Nat.reduceBEq, Nat.reduceAdd, Nat.reduceMul, Nat.reduceSub, Nat.reduceLT, Nat.reduceGT, Nat.reduceLeDiff, Nat.reduceEqDiff, Int.reduceToNat, Int.reduceAdd, Int.reduceMul, Int.reduceSub, Int.reduceNeg, Int.reduceLT, Int.reduceLE, Int.reduceEq, Nat.zero_add, Nat.add_zero, Nat.mul_one, eq_self, ne_eq, not_true, not_false_iff, and_true, true_and, and_self, List.getElem?_cons_zero, List.getElem?_cons_succ, List.map_cons, List.map_nil, dec_nlt (Int.le_refl _)]
  | m + 1, i, t, hi, ks => by
    have hlt : (i : Int) < (N : Int) := by omega
    have ih := kmul_loop h2 h64 h a1 a2 a3 a9 a10 N hN m (i + 1) (IntKind.wrap .i64 (t * (q - 1))) (by omega) ks
    rw [Int.natCast_add, Int.natCast_one] at ih
    have h1 : IntKind.wrap .i64 (q - 1) = q - 1 := wrap64 (by omega) (by omega)
    rw [goL_at c154L0.eq_def, mulW, ← ih]
    have h3 : IntKind.wrap .i64 ((i : Int) + 1) = (i : Int) + 1 := wrap64 (by omega) (by omega)
    simp (disch := first | omega | (simp only [Go.Am.len_push, Go.Am.len_set, Go.Am.len_kill] <;> omega) | fail) only [push_cast, Nat.reduceBEq, Nat.reduceAdd, Nat.reduceMul, Nat.reduceSub, Nat.reduceLT, Nat.reduceGT, Nat.reduceLeDiff, Nat.reduceEqDiff, Int.reduceToNat, Int.reduceAdd, Int.reduceMul, Int.reduceSub, Int.reduceNeg, Int.reduceLT, Int.reduceLE, Int.reduceEq, Nat.zero_add, Nat.add_zero, Nat.mul_one, eq_self, ne_eq, not_true, not_false_iff, and_true, true_and, and_self, List.getElem?_cons_zero, List.getElem?_cons_succ, List.map_cons, List.map_nil, dec_lt hlt, h1, h3]
def kf (q : Int) (x r k : Nat) (t : Nat) : Int := sb x t * qb (q - 1) r (k - t)
theorem kraw_loop (h2 : 2 ≤ q) (h64 : q ≤ 64) (h : H) (n k x : Nat) (hn : n ≤ 30) (hk : k ≤ n) (hx : x ≤ n) : ∀ (m j : Nat), j + m = k + 1 → ∀ ks,
    goL T [.tmp 8] [0, 1, 2, 3, 9, 10] c154L1 (.blk 0 [9] :: ks) [(0, .int .i64 q), (1, .int .i64 n), (2, .int .i64 k), (3, .int .i64 x), (9, .int .i64 (W (sm (kf q x (n - x) k) j))), (10, .int .i64 j)] h =
      go T [.tmp 8] ks (Fr.of [(9, .int .i64 (W (sm (kf q x (n - x) k) (k + 1))))]) h
  | 0, j, hj, ks => by
    rw [goL_at c154L1.eq_def]
    obtain rfl : j = k + 1 := by omega
    have hlt : (k : Int) < (k : Int) + 1 := by omega
    simp (disch := first | omega | (simp only [Go.Am.len_push, Go.Am.len_set, Go.Am.len_kill] <;> omega) | fail) only [push_cast, Nat.reduceBEq, Nat.reduceAdd, Nat.reduceMul, Nat.reduceSub, Nat.reduceLT, Nat.reduceGT, Nat.reduceLeDiff, Nat.reduceEqDiff, Int.reduceToNat, Int.reduceAdd, Int.reduceMul, Int.reduceSub, Int.reduceNeg, Int.reduceLT, Int.reduceLE, Int.reduceEq, Nat.zero_add, Nat.add_zero, Nat.mul_one, eq_self, ne_eq, not_true, not_false_iff, and_true, true_and, and_self, List.getElem?_cons_zero, List.getElem?_cons_succ, List.map_cons, List.map_nil, dec_nle hlt]
  | m + 1, j, hj, ks => by
    have hle : (j : Int) ≤ (k : Int) := by omega
    have e1 := pchoose_call x j (by omega) (by omega) h
    have e2 := pchoose_call (n - x) (k - j) (by omega) (by omega) h
    have c1 : ((n - x : Nat) : Int) = (n : Int) - (x : Int) := by omega
    have c2 : ((k - j : Nat) : Int) = (k : Int) - (j : Int) := by omega
    rw [c1, c2] at e2
    have w1 : IntKind.wrap .i64 ((n : Int) - (x : Int)) = (n : Int) - (x : Int) := wrap64 (by omega) (by omega)
    have w2 : IntKind.wrap .i64 ((k : Int) - (j : Int)) = (k : Int) - (j : Int) := wrap64 (by omega) (by omega)
    have w3 : IntKind.wrap .i64 ((j : Int) + 1) = (j : Int) + 1 := wrap64 (by omega) (by omega)
    have e3 := fun ks => kmul_loop h2 h64 h n k x (W (sm (kf q x (n - x) k) j)) j (k - j) (by omega) (k - j) 0 (IntKind.wrap .i64 (((bin x j : Nat) : Int) * ((bin (n - x) (k - j) : Nat) : Int))) (by omega) ks
    simp only [c2, Int.natCast_zero, mulW_eq] at e3
    have ih := kraw_loop h2 h64 h n k x hn hk hx m (j + 1) (by omega) ks
    have hm : (j : Int).tmod 2 = ((j % 2 : Nat) : Int) := by rw [Int.tmod_eq_emod_of_nonneg (by omega)]; omega
    have h20 : ¬ (2 : Int) = 0 := by omega
    rw [goL_at c154L1.eq_def, ← ih, Int.natCast_add, Int.natCast_one]
    by_cases ho : j % 2 = 1
    · have hs : IntKind.wrap .i64 (W (sm (kf q x (n - x) k) j) + IntKind.wrap .i64 (0 - W (((bin x j : Nat) : Int) * ((bin (n - x) (k - j) : Nat) : Int) * (q - 1) ^ (k - j)))) = W (sm (kf q x (n - x) k) (j + 1)) := by
        rw [W_def, W_def, W_neg, W_add_l, W_add_r, sm]
        congr 1
        unfold kf sb qb sgn
        rw [if_pos ho]
        grind
      have hd : decide ((j : Int).tmod 2 = 1) = true := by rw [hm, ho]; rfl
      simp (disch := first | omega | (simp only [Go.Am.len_push, Go.Am.len_set, Go.Am.len_kill] <;> omega) | fail) only [push_cast, Nat.reduceBEq, Nat.reduceAdd, Nat.reduceMul, Nat.reduceSub, Nat.reduceLT, Nat.reduceGT, Nat.reduceLeDiff, Nat.reduceEqDiff, Int.reduceToNat, Int.reduceAdd, Int.reduceMul, Int.reduceSub, Int.reduceNeg, Int.reduceLT, Int.reduceLE, Int.reduceEq, Nat.zero_add, Nat.add_zero, Nat.mul_one, eq_self, ne_eq, not_true, not_false_iff, and_true, true_and, and_self, List.getElem?_cons_zero, List.getElem?_cons_succ, List.map_cons, List.map_nil, dec_le hle, e1, w1, w2, e2]
      rw [e3]
      simp (disch := first | omega | (simp only [Go.Am.len_push, Go.Am.len_set, Go.Am.len_kill] <;> omega) | fail) only [push_cast, Nat.reduceBEq, Nat.reduceAdd, Nat.reduceMul, Nat.reduceSub, Nat.reduceLT, Nat.reduceGT, Nat.reduceLeDiff, Nat.reduceEqDiff, Int.reduceToNat, Int.reduceAdd, Int.reduceMul, Int.reduceSub, Int.reduceNeg, Int.reduceLT, Int.reduceLE, Int.reduceEq, Nat.zero_add, Nat.add_zero, Nat.mul_one, eq_self, ne_eq, not_true, not_false_iff, and_true, true_and, and_self, List.getElem?_cons_zero, List.getElem?_cons_succ, List.map_cons, List.map_nil, h20, hd, hs, w3]
    · have hs : IntKind.wrap .i64 (W (sm (kf q x (n - x) k) j) + W (((bin x j : Nat) : Int) * ((bin (n - x) (k - j) : Nat) : Int) * (q - 1) ^ (k - j))) = W (sm (kf q x (n - x) k) (j + 1)) := by
        rw [W_def, W_add_l, W_add_r, sm]
        congr 1
        unfold kf sb qb sgn
        rw [if_neg ho]
        grind
      have hd : decide ((j : Int).tmod 2 = 1) = false := by rw [hm]; simp; omega
      simp (disch := first | omega | (simp only [Go.Am.len_push, Go.Am.len_set, Go.Am.len_kill] <;> omega) | fail) only [push_cast, Nat.reduceBEq, Nat.reduceAdd, Nat.reduceMul, Nat.reduceSub, Nat.reduceLT, Nat.reduceGT, Nat.reduceLeDiff, Nat.reduceEqDiff, Int.reduceToNat, Int.reduceAdd, Int.reduceMul, Int.reduceSub, Int.reduceNeg, Int.reduceLT, Int.reduceLE, Int.reduceEq, Nat.zero_add, Nat.add_zero, Nat.mul_one, eq_self, ne_eq, not_true, not_false_iff, and_true, true_and, and_self, List.getElem?_cons_zero, List.getElem?_cons_succ, List.map_cons, List.map_nil, dec_le hle, e1, w1, w2, e2]
      rw [e3]
      simp (disch := first | omega | (simp only [Go.Am.len_push, Go.Am.len_set, Go.Am.len_kill] <;> omega) | fail) only [push_cast, Nat.reduceBEq, Nat.reduceAdd, Nat.reduceMul, Nat.reduceSub, Nat.reduceLT, Nat.reduceGT, Nat.reduceLeDiff, Nat.reduceEqDiff, Int.reduceToNat, Int.reduceAdd, Int.reduceMul, Int.reduceSub, Int.reduceNeg, Int.reduceLT, Int.reduceLE, Int.reduceEq, Nat.zero_add, Nat.add_zero, Nat.mul_one, eq_self, ne_eq, not_true, not_false_iff, and_true, true_and, and_self, List.getElem?_cons_zero, List.getElem?_cons_succ, List.map_cons, List.map_nil, h20, hd, hs, w3]
/-- what both tell -/
def krN (q : Int) (n k x : Nat) : Int := W (kS (q - 1) x (n - x) k)
theorem pkraw_call (h2 : 2 ≤ q) (h64 : q ≤ 64) (h : H) (n k x : Nat) (hn : n ≤ 30) (hk : k ≤ n) (hx : x ≤ n) :
    call T 154 [.int .i64 q, .int .i64 n, .int .i64 k, .int .i64 x] h = some (.int .i64 (krN q n k x), h) := by
  rw [call_at T154 rfl]
  unfold F154 c154
  have hl := fun ks => kraw_loop h2 h64 h n k x hn hk hx (k + 1) 0 (by omega) ks
  have h0 : W (sm (kf q x (n - x) k) 0) = 0 := by rw [sm]; rfl
  simp only [h0, Int.natCast_zero] at hl
  simp (disch := first | omega | (simp only [Go.Am.len_push, Go.Am.len_set, Go.Am.len_kill] <;> omega) | fail) only [push_cast, Nat.reduceBEq, Nat.reduceAdd, Nat.reduceMul, Nat.reduceSub, Nat.reduceLT, Nat.reduceGT, Nat.reduceLeDiff, Nat.reduceEqDiff, Int.reduceToNat, Int.reduceAdd, Int.reduceMul, Int.reduceSub, Int.reduceNeg, Int.reduceLT, Int.reduceLE, Int.reduceEq, Nat.zero_add, Nat.add_zero, Nat.mul_one, eq_self, ne_eq, not_true, not_false_iff, and_true, true_and, and_self, List.getElem?_cons_zero, List.getElem?_cons_succ, List.map_cons, List.map_nil]
  rw [hl]
  simp (disch := first | omega | (simp only [Go.Am.len_push, Go.Am.len_set, Go.Am.len_kill] <;> omega) | fail) only [push_cast, Nat.reduceBEq, Nat.reduceAdd, Nat.reduceMul, Nat.reduceSub, Nat.reduceLT, Nat.reduceGT, Nat.reduceLeDiff, Nat.reduceEqDiff, Int.reduceToNat, Int.reduceAdd, Int.reduceMul, Int.reduceSub, Int.reduceNeg, Int.reduceLT, Int.reduceLE, Int.reduceEq, Nat.zero_add, Nat.add_zero, Nat.mul_one, eq_self, ne_eq, not_true, not_false_iff, and_true, true_and, and_self, List.getElem?_cons_zero, List.getElem?_cons_succ, List.map_cons, List.map_nil]
  rfl

/-! ### Kraw -/
theorem kin_loop {h0 : H} (n : Nat) (hn : n ≤ 30) (q' k' x' i' c : Int) : ∀ (j : Nat) (zs : List Int) (G : H), j ≤ n → zs.length = n + 1 → h0 <+: G → G.row h0.length = some ⟨ints zs, 3, 1, true⟩ →
    ∃ (zs' : List Int) (G' : H), zs'.length = n + 1 ∧ h0 <+: G' ∧ G'.row h0.length = some ⟨ints zs', 3, 1, true⟩ ∧
      (∀ t : Nat, t ≤ n → gi zs' t = if 1 ≤ t ∧ t ≤ j then IntKind.wrap .i64 (gi zs t + IntKind.wrap .i64 (c * gi zs ((t - 1 : Nat) : Int))) else gi zs t) ∧
      ∀ ks, goL T [.tmp 8] [0, 1, 2, 3, 9, 10, 11, 12] c40L0 (.blk 2 [0, 1, 2, 3, 9, 10] :: ks) [(0, .int .i64 q'), (1, .int .i64 n), (2, .int .i64 k'), (3, .int .i64 x'), (9, .slice (some ⟨h0.length, 0, none⟩) (n + 1) (n + 1)), (10, .int .i64 i'), (11, .int .i64 c), (12, .int .i64 j)] G =
        go T [.tmp 8] ks (Fr.of [(0, .int .i64 q'), (1, .int .i64 n), (2, .int .i64 k'), (3, .int .i64 x'), (9, .slice (some ⟨h0.length, 0, none⟩) (n + 1) (n + 1)), (10, .int .i64 i')]) G'
  | 0, zs, G, hj, hl, hp, hr => by
    refine ⟨zs, G, hl, hp, hr, fun t ht => by rw [if_neg (by omega)], fun ks => ?_⟩
    rw [goL_at c40L0.eq_def]
    simp (disch := first | omega | (simp only [Go.Am.len_push, Go.Am.len_set, Go.Am.len_kill] <;> omega) | fail) only [push_cast, Nat.reduceBEq, Nat.reduceAdd, Nat.reduceMul, Nat.reduceSub, Nat.reduceLT, Nat.reduceGT, Nat.reduceLeDiff, Nat.reduceEqDiff, Int.reduceToNat, Int.reduceAdd, Int.reduceMul, Int.reduceSub, Int.reduceNeg, Int.reduceLT, Int.reduceLE, Int.reduceEq, Nat.zero_add, Nat.add_zero, Nat.mul_one, eq_self, ne_eq, not_true, not_false_iff, and_true, true_and, and_self, List.getElem?_cons_zero, List.getElem?_cons_succ, List.map_cons, List.map_nil, dec_nlt (Int.le_refl _)]
  | j + 1, zs, G, hj, hl, hp, hr => by
    obtain ⟨v, hv⟩ : ∃ v, v = IntKind.wrap .i64 (gi zs ((j + 1 : Nat) : Int) + IntKind.wrap .i64 (c * gi zs (j : Int))) := ⟨_, rfl⟩
    have l1 := ld1_int hr (i := ((j + 1 : Nat) : Int)) (by omega) (by omega)
    have l2 := ld1_int hr (i := (j : Int)) (by omega) (by omega)
    have es := sts_int hr (i := ((j + 1 : Nat) : Int)) (v := v) (by omega) (by omega)
    rw [Int.toNat_natCast] at es l1 l2
    obtain ⟨G1, eG1⟩ : ∃ G1 : H, G1 = G.set h0.length (.row ⟨ints (zs.set (j + 1) v), 3, 1, true⟩) := ⟨_, rfl⟩
    rw [← eG1] at es
    have r1 : G1.row h0.length = some ⟨ints (zs.set (j + 1) v), 3, 1, true⟩ := by rw [eG1]; exact row_set_same (row_some_lt hr)
    have p1 : h0 <+: G1 := by rw [eG1]; exact pre_set hp (Nat.le_refl _)
    obtain ⟨zs', G', k1, k2, k3, k4, k5⟩ := kin_loop n hn q' k' x' i' c j (zs.set (j + 1) v) G1 (by omega) (by simpa using hl) p1 r1
    refine ⟨zs', G', k1, k2, k3, fun t ht => ?_, fun ks => ?_⟩
    · rw [k4 t ht]
      by_cases h1 : 1 ≤ t ∧ t ≤ j
      · rw [if_pos h1, if_pos ⟨h1.1, by omega⟩, gi_set (by omega), gi_set (by omega), if_neg (by omega), if_neg (by omega)]
      · rw [if_neg h1, gi_set (by omega)]
        by_cases h2 : j + 1 = t
        · subst h2
          rw [if_pos rfl, if_pos ⟨by omega, Nat.le_refl _⟩, hv, Nat.add_sub_cancel]
        · rw [if_neg h2, if_neg (by omega)]
    · have hpos : (0 : Int) < (j : Int) + 1 := by omega
      have b1 : (0 : Int) ≤ (j : Int) + 1 ∧ (j : Int) + 1 < (n : Int) + 1 := by omega
      have b2 : (0 : Int) ≤ (j : Int) ∧ (j : Int) < (n : Int) + 1 := by omega
      have w1 : IntKind.wrap .i64 ((j : Int) + 1 - 1) = (j : Int) := by rw [wrap64 (by omega) (by omega)]; omega
      have t1 : ((j : Int) + 1).toNat = j + 1 := by omega
      rw [Int.natCast_add, Int.natCast_one] at hv
      rw [Int.natCast_add, Int.natCast_one] at l1
      rw [goL_at c40L0.eq_def, ← k5 ks, Int.natCast_add, Int.natCast_one]
      simp (disch := first | omega | (simp only [Go.Am.len_push, Go.Am.len_set, Go.Am.len_kill] <;> omega) | fail) only [push_cast, Nat.reduceBEq, Nat.reduceAdd, Nat.reduceMul, Nat.reduceSub, Nat.reduceLT, Nat.reduceGT, Nat.reduceLeDiff, Nat.reduceEqDiff, Int.reduceToNat, Int.reduceAdd, Int.reduceMul, Int.reduceSub, Int.reduceNeg, Int.reduceLT, Int.reduceLE, Int.reduceEq, Nat.zero_add, Nat.add_zero, Nat.mul_one, eq_self, ne_eq, not_true, not_false_iff, and_true, true_and, and_self, List.getElem?_cons_zero, List.getElem?_cons_succ, List.map_cons, List.map_nil, dec_lt hpos, b1, b2, w1, t1, l1, l2, Int.toNat_natCast, ← hv, es]
end
end Go.Proofs.Ytammndhoillliaa
