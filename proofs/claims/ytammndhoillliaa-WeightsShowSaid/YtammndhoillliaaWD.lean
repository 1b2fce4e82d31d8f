/-
  What the document's Kraw computes, and whether words may be counted, both ways. Condition: of at most thirty places.
-/
import Derived.Test.YtammndhoillliaaWC
import Derived.Test.YtammndhoillliaaFRd
namespace Go.Proofs.Ytammndhoillliaa
open Go.Am
set_option linter.unusedVariables false
set_option linter.unusedSimpArgs false
set_option maxRecDepth 30000

section
variable {q : Int}
theorem kout_loop {h0 : H} (h2 : 2 ≤ q) (h64 : q ≤ 64) (n k x : Nat) (hn : n ≤ 30) (hx : x ≤ n) : ∀ (m i : Nat) (zs : List Int) (G : H), i + m = n → zs.length = n + 1 → h0 <+: G → G.row h0.length = some ⟨ints zs, 3, 1, true⟩ →
    (∀ t : Nat, t ≤ n → gi zs t = W (kA (q - 1) x i t)) →
    ∃ (zs' : List Int) (G' : H), zs'.length = n + 1 ∧ h0 <+: G' ∧ G'.row h0.length = some ⟨ints zs', 3, 1, true⟩ ∧ (∀ t : Nat, t ≤ n → gi zs' t = W (kA (q - 1) x n t)) ∧
      ∀ ks, goL T [.tmp 8] [0, 1, 2, 3, 9, 10] c40L1 (.blk 0 [2, 9] :: ks) [(0, .int .i64 q), (1, .int .i64 n), (2, .int .i64 k), (3, .int .i64 x), (9, .slice (some ⟨h0.length, 0, none⟩) (n + 1) (n + 1)), (10, .int .i64 i)] G =
        go T [.tmp 8] ks (Fr.of [(2, .int .i64 k), (9, .slice (some ⟨h0.length, 0, none⟩) (n + 1) (n + 1))]) G'
  | 0, i, zs, G, hi, hl, hp, hr, hz => by
    obtain rfl : i = n := by omega
    refine ⟨zs, G, hl, hp, hr, hz, fun ks => ?_⟩
    rw [goL_at c40L1.eq_def]
    simp (disch := first | omega | (simp only [Go.Am.len_push, Go.Am.len_set, Go.Am.len_kill] <;> omega) | fail) only [push_cast, Nat.reduceBEq, Nat.reduceAdd, Nat.reduceMul, Nat.reduceSub, Nat.reduceLT, Nat.reduceGT, Nat.reduceLeDiff, Nat.reduceEqDiff, Int.reduceToNat, Int.reduceAdd, Int.reduceMul, Int.reduceSub, Int.reduceNeg, Int.reduceLT, Int.reduceLE, Int.reduceEq, Nat.zero_add, Nat.add_zero, Nat.mul_one, eq_self, ne_eq, not_true, not_false_iff, and_true, true_and, and_self, List.getElem?_cons_zero, List.getElem?_cons_succ, List.map_cons, List.map_nil, dec_nlt (Int.le_refl _)]
  | m + 1, i, zs, G, hi, hl, hp, hr, hz => by
    obtain ⟨c, hc⟩ : ∃ c : Int, c = if i < x then -1 else q - 1 := ⟨_, rfl⟩
    obtain ⟨zs1, G1, l1, p1, r1, z1, e1⟩ := kin_loop (h0 := h0) n hn q k x i c n zs G (Nat.le_refl _) hl hp hr
    obtain ⟨zs2, G2, l2, p2, r2, z2, ih⟩ := kout_loop h2 h64 n k x hn hx m (i + 1) zs1 G1 (by omega) l1 p1 r1 (fun t ht => by
      rw [z1 t ht]
      cases t with
      | zero => rw [if_neg (by omega), hz 0 ht, kA]
      | succ t =>
        rw [if_pos (by omega), hz _ ht, Nat.add_sub_cancel, hz t (by omega), kA, W_def, W_def, W_mul_r, W_add_l, W_add_r, ← hc])
    refine ⟨zs2, G2, l2, p2, r2, z2, fun ks => ?_⟩
    have hlt : (i : Int) < (n : Int) := by omega
    have w1 : IntKind.wrap .i64 (q - 1) = q - 1 := wrap64 (by omega) (by omega)
    have w2 : IntKind.wrap .i64 ((i : Int) + 1) = (i : Int) + 1 := wrap64 (by omega) (by omega)
    have ih' := ih ks
    rw [Int.natCast_add, Int.natCast_one] at ih'
    rw [goL_at c40L1.eq_def, ← ih']
    by_cases hix : i < x
    · rw [if_pos hix] at hc
      subst hc
      have hd : (i : Int) < (x : Int) := by omega
      simp (disch := first | omega | (simp only [Go.Am.len_push, Go.Am.len_set, Go.Am.len_kill] <;> omega) | fail) only [push_cast, Nat.reduceBEq, Nat.reduceAdd, Nat.reduceMul, Nat.reduceSub, Nat.reduceLT, Nat.reduceGT, Nat.reduceLeDiff, Nat.reduceEqDiff, Int.reduceToNat, Int.reduceAdd, Int.reduceMul, Int.reduceSub, Int.reduceNeg, Int.reduceLT, Int.reduceLE, Int.reduceEq, Nat.zero_add, Nat.add_zero, Nat.mul_one, eq_self, ne_eq, not_true, not_false_iff, and_true, true_and, and_self, List.getElem?_cons_zero, List.getElem?_cons_succ, List.map_cons, List.map_nil, dec_lt hlt, w1, dec_lt hd]
      rw [e1]
      simp (disch := first | omega | (simp only [Go.Am.len_push, Go.Am.len_set, Go.Am.len_kill] <;> omega) | fail) only [push_cast, Nat.reduceBEq, Nat.reduceAdd, Nat.reduceMul, Nat.reduceSub, Nat.reduceLT, Nat.reduceGT, Nat.reduceLeDiff, Nat.reduceEqDiff, Int.reduceToNat, Int.reduceAdd, Int.reduceMul, Int.reduceSub, Int.reduceNeg, Int.reduceLT, Int.reduceLE, Int.reduceEq, Nat.zero_add, Nat.add_zero, Nat.mul_one, eq_self, ne_eq, not_true, not_false_iff, and_true, true_and, and_self, List.getElem?_cons_zero, List.getElem?_cons_succ, List.map_cons, List.map_nil, w2]
    · rw [if_neg hix] at hc
      subst hc
      have hd : (x : Int) ≤ (i : Int) := by omega
      simp (disch := first | omega | (simp only [Go.Am.len_push, Go.Am.len_set, Go.Am.len_kill] <;> omega) | fail) only [push_cast, Nat.reduceBEq, Nat.reduceAdd, Nat.reduceMul, Nat.reduceSub, Nat.reduceLT, Nat.reduceGT, Nat.reduceLeDiff, Nat.reduceEqDiff, Int.reduceToNat, Int.reduceAdd, Int.reduceMul, Int.reduceSub, Int.reduceNeg, Int.reduceLT, Int.reduceLE, Int.reduceEq, Nat.zero_add, Nat.add_zero, Nat.mul_one, eq_self, ne_eq, not_true, not_false_iff, and_true, true_and, and_self, List.getElem?_cons_zero, List.getElem?_cons_succ, List.map_cons, List.map_nil, dec_lt hlt, w1, dec_nlt hd]
      rw [e1]
      simp (disch := first | omega | (simp only [Go.Am.len_push, Go.Am.len_set, Go.Am.len_kill] <;> omega) | fail) only [push_cast, Nat.reduceBEq, Nat.reduceAdd, Nat.reduceMul, Nat.reduceSub, Nat.reduceLT, Nat.reduceGT, Nat.reduceLeDiff, Nat.reduceEqDiff, Int.reduceToNat, Int.reduceAdd, Int.reduceMul, Int.reduceSub, Int.reduceNeg, Int.reduceLT, Int.reduceLE, Int.reduceEq, Nat.zero_add, Nat.add_zero, Nat.mul_one, eq_self, ne_eq, not_true, not_false_iff, and_true, true_and, and_self, List.getElem?_cons_zero, List.getElem?_cons_succ, List.map_cons, List.map_nil, w2]
theorem rkraw_call (h2 : 2 ≤ q) (h64 : q ≤ 64) (h : H) (n k x : Nat) (hn : n ≤ 30) (hk : k ≤ n) (hx : x ≤ n) :
    ∃ h' : H, h <+: h' ∧ call T 40 [.int .i64 q, .int .i64 n, .int .i64 k, .int .i64 x] h = some (.int .i64 (krN q n k x), h') := by
  obtain ⟨z0, hz0⟩ : ∃ z0 : List Int, z0 = List.replicate (n + 1) 0 := ⟨_, rfl⟩
  have zl : z0.length = n + 1 := by rw [hz0]; simp
  obtain ⟨G1, eG1⟩ : ∃ G1 : H, G1 = h ++ [.row ⟨ints z0, 3, 1, true⟩] := ⟨_, rfl⟩
  have r1 : G1.row h.length = some ⟨ints z0, 3, 1, true⟩ := by rw [eG1]; exact row_push_new
  have p1 : h <+: G1 := by rw [eG1]; exact List.prefix_append _ _
  have es := sts_int r1 (i := 0) (v := 1) (by omega) (by omega)
  simp only [Int.toNat_zero] at es
  obtain ⟨G2, eG2⟩ : ∃ G2 : H, G2 = G1.set h.length (.row ⟨ints (z0.set 0 1), 3, 1, true⟩) := ⟨_, rfl⟩
  rw [← eG2] at es
  have r2 : G2.row h.length = some ⟨ints (z0.set 0 1), 3, 1, true⟩ := by rw [eG2]; exact row_set_same (row_some_lt r1)
  have p2 : h <+: G2 := by rw [eG2]; exact pre_set p1 (Nat.le_refl _)
  obtain ⟨zs, G, zl2, p3, r3, z3, lo⟩ := kout_loop (h0 := h) h2 h64 n k x hn hx n 0 (z0.set 0 1) G2 (by omega) (by simpa using zl) p2 r2 (fun t ht => by
    rw [gi_set (by omega)]
    cases t with
    | zero => rw [if_pos rfl, kA]; rfl
    | succ t =>
      rw [if_neg (by omega), kA, hz0]
      unfold gi
      rw [List.getD_eq_getElem?_getD, List.getElem?_replicate]
      split <;> rfl)
  have l3 := ld1_int r3 (i := (k : Int)) (by omega) (by omega)
  rw [z3 k hk] at l3
  have hkr : W (kA (q - 1) x n k) = krN q n k x := by
    unfold krN
    rw [← kA_eq, show x + (n - x) = n by omega]
  rw [hkr, Int.toNat_natCast] at l3
  refine ⟨G, p3, ?_⟩
  have w1 : IntKind.wrap .i64 ((n : Int) + 1) = (n : Int) + 1 := wrap64 (by omega) (by omega)
  have hb : (0 : Int) ≤ (n : Int) + 1 ∧ (n : Int) + 1 ≤ (n : Int) + 1 ∧ (n : Int) + 1 ≤ 1099511627776 ∧ ((n : Int) + 1) * 8 ≤ 140737488355328 := by omega
  have t1 : ((n : Int) + 1).toNat = n + 1 := by omega
  have hr0 : rep [.int .i64 0] (n + 1) = ints z0 := by rw [rep_int, hz0]
  have hb0 : (0 : Int) ≤ 0 ∧ (0 : Int) < (n : Int) + 1 := by omega
  have hbk : (0 : Int) ≤ (k : Int) ∧ (k : Int) < (n : Int) + 1 := by omega
  simp only [Int.natCast_zero] at lo
  rw [call_at T40 rfl]
  unfold F40 c40
  simp (disch := first | omega | (simp only [Go.Am.len_push, Go.Am.len_set, Go.Am.len_kill] <;> omega) | fail) only [push_cast, Nat.reduceBEq, Nat.reduceAdd, Nat.reduceMul, Nat.reduceSub, Nat.reduceLT, Nat.reduceGT, Nat.reduceLeDiff, Nat.reduceEqDiff, Int.reduceToNat, Int.reduceAdd, Int.reduceMul, Int.reduceSub, Int.reduceNeg, Int.reduceLT, Int.reduceLE, Int.reduceEq, Nat.zero_add, Nat.add_zero, Nat.mul_one, eq_self, ne_eq, not_true, not_false_iff, and_true, true_and, and_self, List.getElem?_cons_zero, List.getElem?_cons_succ, List.map_cons, List.map_nil, w1, hb, hb.2.2.2, t1, hr0, ← eG1, hb0, es]
  rw [lo]
  simp (disch := first | omega | (simp only [Go.Am.len_push, Go.Am.len_set, Go.Am.len_kill] <;> omega) | fail) only [push_cast, Nat.reduceBEq, Nat.reduceAdd, Nat.reduceMul, Nat.reduceSub, Nat.reduceLT, Nat.reduceGT, Nat.reduceLeDiff, Nat.reduceEqDiff, Int.reduceToNat, Int.reduceAdd, Int.reduceMul, Int.reduceSub, Int.reduceNeg, Int.reduceLT, Int.reduceLE, Int.reduceEq, Nat.zero_add, Nat.add_zero, Nat.mul_one, eq_self, ne_eq, not_true, not_false_iff, and_true, true_and, and_self, List.getElem?_cons_zero, List.getElem?_cons_succ, List.map_cons, List.map_nil, hbk, l3, Int.toNat_natCast]
end

/-! ### may words be counted? -/
def cntE (q n : Int) : Int := match fldN q.toNat with
  | none => 1
  | some _ => if n < 1 then 4 else if capP q n.toNat 1 < 0 then 4 else 0
theorem cntE_ok {q n : Int} (h : cntE q n = 0) : 2 ≤ q ∧ q ≤ 64 ∧ 1 ≤ n ∧ n ≤ 30 := by
  unfold cntE at h
  split at h
  · cases h
  · rename_i hn
    obtain ⟨q2, q64⟩ := fldN_le hn
    split at h
    · cases h
    · split at h
      · cases h
      · rename_i h3
        have := capP_n (q := q) (by omega) (n := n.toNat) (by omega)
        omega
theorem pcheck_call (q n : Int) (hn : n ≤ 9223372036854775807) (h : H) : ∃ h' : H, h <+: h' ∧ call T 153 [.int .i64 q, .int .i64 n] h = some (.int .i64 (cntE q n), h') := by
  unfold cntE
  cases hq : fldN q.toNat with
  | none =>
    obtain ⟨h1, p1, e1⟩ := new_none q hq h
    refine ⟨h1, p1, ?_⟩
    rw [call_at T153 rfl]
    unfold F153 c153
    simp (disch := first | omega | (simp only [Go.Am.len_push, Go.Am.len_set, Go.Am.len_kill] <;> omega) | fail) only [push_cast, Nat.reduceBEq, Nat.reduceAdd, Nat.reduceMul, Nat.reduceSub, Nat.reduceLT, Nat.reduceGT, Nat.reduceLeDiff, Nat.reduceEqDiff, Int.reduceToNat, Int.reduceAdd, Int.reduceMul, Int.reduceSub, Int.reduceNeg, Int.reduceLT, Int.reduceLE, Int.reduceEq, Nat.zero_add, Nat.add_zero, Nat.mul_one, eq_self, ne_eq, not_true, not_false_iff, and_true, true_and, and_self, List.getElem?_cons_zero, List.getElem?_cons_succ, List.map_cons, List.map_nil, e1]
  | some x =>
    obtain ⟨p, m, g, mod⟩ := x
    obtain ⟨q2, q64⟩ := fldN_le hq
    obtain ⟨h1, F, p1, _, e1⟩ := new_some q hq h
    refine ⟨h1, p1, ?_⟩
    rw [call_at T153 rfl]
    unfold F153 c153
    by_cases h1n : n < 1
    · simp (disch := first | omega | (simp only [Go.Am.len_push, Go.Am.len_set, Go.Am.len_kill] <;> omega) | fail) only [push_cast, Nat.reduceBEq, Nat.reduceAdd, Nat.reduceMul, Nat.reduceSub, Nat.reduceLT, Nat.reduceGT, Nat.reduceLeDiff, Nat.reduceEqDiff, Int.reduceToNat, Int.reduceAdd, Int.reduceMul, Int.reduceSub, Int.reduceNeg, Int.reduceLT, Int.reduceLE, Int.reduceEq, Nat.zero_add, Nat.add_zero, Nat.mul_one, eq_self, ne_eq, not_true, not_false_iff, and_true, true_and, and_self, List.getElem?_cons_zero, List.getElem?_cons_succ, List.map_cons, List.map_nil, e1, dec_lt h1n, h1n]
    · have ep := wpow_call (q := q) (by omega) (by omega) n (by omega) hn h1
      by_cases hp : capP q n.toNat 1 < 0
      · simp (disch := first | omega | (simp only [Go.Am.len_push, Go.Am.len_set, Go.Am.len_kill] <;> omega) | fail) only [push_cast, Nat.reduceBEq, Nat.reduceAdd, Nat.reduceMul, Nat.reduceSub, Nat.reduceLT, Nat.reduceGT, Nat.reduceLeDiff, Nat.reduceEqDiff, Int.reduceToNat, Int.reduceAdd, Int.reduceMul, Int.reduceSub, Int.reduceNeg, Int.reduceLT, Int.reduceLE, Int.reduceEq, Nat.zero_add, Nat.add_zero, Nat.mul_one, eq_self, ne_eq, not_true, not_false_iff, and_true, true_and, and_self, List.getElem?_cons_zero, List.getElem?_cons_succ, List.map_cons, List.map_nil, e1, dec_nlt (Int.not_lt.1 h1n), h1n, ep, dec_lt hp, hp]
      · simp (disch := first | omega | (simp only [Go.Am.len_push, Go.Am.len_set, Go.Am.len_kill] <;> omega) | fail) only [push_cast, Nat.reduceBEq, Nat.reduceAdd, Nat.reduceMul, Nat.reduceSub, Nat.reduceLT, Nat.reduceGT, Nat.reduceLeDiff, Nat.reduceEqDiff, Int.reduceToNat, Int.reduceAdd, Int.reduceMul, Int.reduceSub, Int.reduceNeg, Int.reduceLT, Int.reduceLE, Int.reduceEq, Nat.zero_add, Nat.add_zero, Nat.mul_one, eq_self, ne_eq, not_true, not_false_iff, and_true, true_and, and_self, List.getElem?_cons_zero, List.getElem?_cons_succ, List.map_cons, List.map_nil, e1, dec_nlt (Int.not_lt.1 h1n), h1n, ep, dec_nlt (Int.not_lt.1 hp), hp]
theorem rcount_call (q n : Int) (hn : n ≤ 9223372036854775807) (h : H) : ∃ h' : H, h <+: h' ∧ call T 39 [.int .i64 q, .int .i64 n] h = some (.int .i64 (cntE q n), h') := by
  unfold cntE
  cases hq : fldN q.toNat with
  | none =>
    obtain ⟨h1, p1, e1⟩ := field_none q hq h
    obtain ⟨h5, eh5⟩ : ∃ h5 : H, h5 = h1 ++ [zrR] := ⟨_, rfl⟩
    have r5 : h5.row h1.length = some ⟨fvL 0 0 0 0 (.slice none 0 0), 67, 0, true⟩ := by rw [eh5]; exact row_push_new
    have s5 := sts_whole (vs := fvL 0 0 0 0 (.slice none 0 0)) r5 rfl
    refine ⟨h5.set h1.length zrR, by rw [eh5, set_push]; exact pre_push p1, ?_⟩
    rw [call_at T39 rfl]
    unfold F39 c39
    simp (disch := first | omega | (simp only [Go.Am.len_push, Go.Am.len_set, Go.Am.len_kill] <;> omega) | fail) only [push_cast, Nat.reduceBEq, Nat.reduceAdd, Nat.reduceMul, Nat.reduceSub, Nat.reduceLT, Nat.reduceGT, Nat.reduceLeDiff, Nat.reduceEqDiff, Int.reduceToNat, Int.reduceAdd, Int.reduceMul, Int.reduceSub, Int.reduceNeg, Int.reduceLT, Int.reduceLE, Int.reduceEq, Nat.zero_add, Nat.add_zero, Nat.mul_one, eq_self, ne_eq, not_true, not_false_iff, and_true, true_and, and_self, List.getElem?_cons_zero, List.getElem?_cons_succ, List.map_cons, List.map_nil, e1, ← eh5, s5]
  | some x =>
    obtain ⟨p, m, g, mod⟩ := x
    obtain ⟨q2, q64⟩ := fldN_le hq
    obtain ⟨h1, om, cm, p1, rm1, e1⟩ := field_some q hq h
    obtain ⟨h2, eh2⟩ : ∃ h2 : H, h2 = h1 ++ [zrR] := ⟨_, rfl⟩
    have r2 : h2.row h1.length = some ⟨fvL 0 0 0 0 (.slice none 0 0), 67, 0, true⟩ := by rw [eh2]; exact row_push_new
    have s2 := sts_whole (vs := fvL q p m g (.slice (some ⟨om, 0, none⟩) mod.length cm)) r2 rfl
    obtain ⟨h3, eh3⟩ : ∃ h3 : H, h3 = h2.set h1.length (rvR q p m g mod om cm) := ⟨_, rfl⟩
    rw [← eh3] at s2
    have p3 : h1 <+: h3 := by rw [eh3, eh2, set_push]; exact List.prefix_append _ _
    refine ⟨h3, p1.trans p3, ?_⟩
    rw [call_at T39 rfl]
    unfold F39 c39
    by_cases h1n : n < 1
    · simp (disch := first | omega | (simp only [Go.Am.len_push, Go.Am.len_set, Go.Am.len_kill] <;> omega) | fail) only [push_cast, Nat.reduceBEq, Nat.reduceAdd, Nat.reduceMul, Nat.reduceSub, Nat.reduceLT, Nat.reduceGT, Nat.reduceLeDiff, Nat.reduceEqDiff, Int.reduceToNat, Int.reduceAdd, Int.reduceMul, Int.reduceSub, Int.reduceNeg, Int.reduceLT, Int.reduceLE, Int.reduceEq, Nat.zero_add, Nat.add_zero, Nat.mul_one, eq_self, ne_eq, not_true, not_false_iff, and_true, true_and, and_self, List.getElem?_cons_zero, List.getElem?_cons_succ, List.map_cons, List.map_nil, e1, ← eh2, s2, dec_lt h1n, h1n]
    · have ep := dpow_call (q := q) (by omega) (by omega) n (by omega) hn h3
      by_cases hp : capP q n.toNat 1 < 0
      · simp (disch := first | omega | (simp only [Go.Am.len_push, Go.Am.len_set, Go.Am.len_kill] <;> omega) | fail) only [push_cast, Nat.reduceBEq, Nat.reduceAdd, Nat.reduceMul, Nat.reduceSub, Nat.reduceLT, Nat.reduceGT, Nat.reduceLeDiff, Nat.reduceEqDiff, Int.reduceToNat, Int.reduceAdd, Int.reduceMul, Int.reduceSub, Int.reduceNeg, Int.reduceLT, Int.reduceLE, Int.reduceEq, Nat.zero_add, Nat.add_zero, Nat.mul_one, eq_self, ne_eq, not_true, not_false_iff, and_true, true_and, and_self, List.getElem?_cons_zero, List.getElem?_cons_succ, List.map_cons, List.map_nil, e1, ← eh2, s2, dec_nlt (Int.not_lt.1 h1n), h1n, ep, dec_lt hp, hp]
      · simp (disch := first | omega | (simp only [Go.Am.len_push, Go.Am.len_set, Go.Am.len_kill] <;> omega) | fail) only [push_cast, Nat.reduceBEq, Nat.reduceAdd, Nat.reduceMul, Nat.reduceSub, Nat.reduceLT, Nat.reduceGT, Nat.reduceLeDiff, Nat.reduceEqDiff, Int.reduceToNat, Int.reduceAdd, Int.reduceMul, Int.reduceSub, Int.reduceNeg, Int.reduceLT, Int.reduceLE, Int.reduceEq, Nat.zero_add, Nat.add_zero, Nat.mul_one, eq_self, ne_eq, not_true, not_false_iff, and_true, true_and, and_self, List.getElem?_cons_zero, List.getElem?_cons_succ, List.map_cons, List.map_nil, e1, ← eh2, s2, dec_nlt (Int.not_lt.1 h1n), h1n, ep, dec_nlt (Int.not_lt.1 hp), hp]
end Go.Proofs.Ytammndhoillliaa
