/-
  What syndromeref's full and Prime compute. Conditions: those of each theorem.
  What syndromeref's Field computes. Conditions: those of each theorem.
  What syndromeref's Field computes: the field of the table, or error 1. No condition.
  What syndromeref's Field computes: the whole. No condition.
-/
import Derived.Test.YtammndhoillliaaFRa
namespace Go.Proofs.Ytammndhoillliaa
open Go.Am
set_option linter.unusedVariables false
set_option linter.unusedSimpArgs false
set_option maxRecDepth 30000

/-- a field's data: its size, characteristic, degree, modulus -/
structure FOk (q p : Int) (m : Nat) (mod : List Int) : Prop where
  q2 : 2 ≤ q
  q64 : q ≤ 64
  p2 : 2 ≤ p
  p64 : p ≤ 64
  m1 : 1 ≤ m
  m10 : m ≤ 10
  pm : p ^ m = q
  ml : mod.length = m + 1
  dig : Dig p mod

theorem mulR_range {q p : Int} {m : Nat} {mod : List Int} (hf : FOk q p m mod) {a b : Int} (ha : 0 ≤ a ∧ a < q) (hb : 0 ≤ b ∧ b < q) : 0 ≤ mulR q p m mod a b ∧ mulR q p m mod a b < q := by
  have := hf.p2
  rw [mulR, if_pos ha, if_pos hb]
  by_cases h1 : m = 1
  · rw [if_pos h1]
    have := hf.pm
    rw [h1, Int.pow_succ, Int.pow_zero, Int.one_mul] at this
    rw [this]
    exact ⟨Int.emod_nonneg _ (by omega), Int.emod_lt_of_pos _ (by omega)⟩
  · rw [if_neg h1, mulP, ← hf.pm]
    have hl : (conv p (digs p m b) (digs p m a) (List.replicate (2 * m) 0)).length = m + m := by rw [conv_len]; simp; omega
    have h2 := numb_bound (p := p) (by omega) (Dig.red (p := p) (by omega) ((mod.take m).map fun d => p - d) m m (Dig.conv (p := p) (by omega) (digs p m b) (digs p m a) (Dig.zero (by omega) (2 * m))))
    rw [red_len _ _ _ _ _ hl] at h2
    exact h2
theorem FOk.mul {q p g0 : Int} {m : Nat} {mod : List Int} (hf : FOk q p m mod) {om fm cm : Nat} (h : H) (hM : RdI h (some ⟨om, fm, none⟩) cm mod) (a b : Int) :
    ∃ h' : H, h <+: h' ∧ call T 56 [fv q p m g0 (.slice (some ⟨om, fm, none⟩) mod.length cm), .int .i64 a, .int .i64 b] h = some (.int .i64 (mulR q p m mod a b), h') :=
  mul_call h hM hf.ml hf.m1 hf.m10 hf.p2 hf.p64 hf.dig (by rw [hf.pm]; have := hf.q64; omega) hf.q64 a b

/-- are the powers all but 0? -/
def fullP (q p : Int) (m : Nat) (mod : List Int) (g : Int) : Nat → Int → Nat → Bool
  | 0, _, _ => true
  | n + 1, a, s => bif (a == 0) || s.testBit a.toNat then false else fullP q p m mod g n (mulR q p m mod a g) (s ||| 1 <<< a.toNat)

theorem full_loop {q p g0 : Int} {m : Nat} {mod : List Int} (hf : FOk q p m mod) {om fm cm : Nat} {h2 : H} {B : Nat} (hB : h2.row B = some ⟨fvL q p m g0 (.slice (some ⟨om, fm, none⟩) mod.length cm), 67, 0, true⟩) (hM : RdI h2 (some ⟨om, fm, none⟩) cm mod)
    (g : Int) (hg : 0 ≤ g ∧ g < q) : ∀ (n : Nat) (k a : Int) (s : Nat) (G : H), k + n = q - 1 → 0 ≤ k → 0 ≤ a ∧ a < q → h2 <+: G → G.row h2.length = some ⟨bitsV s q.toNat, 4, 1, true⟩ →
    ∃ G' : H, h2 <+: G' ∧ ∀ ks, goL T [.tmp 4] [1, 2, 5, 6, 7] c126L0 (.blk 0 [] :: ks) [(1, .int .i64 g), (2, .pointer (some ⟨B, 0, none⟩)), (5, .slice (some ⟨h2.length, 0, none⟩) q.toNat q.toNat), (6, .int .i64 a), (7, .int .i64 k)] G =
      if fullP q p m mod g n a s = true then go T [.tmp 4] ks (Fr.of []) G' else some (.bool false, G')
  | 0, k, a, s, G, hk, hk0, ha, hp, hr => by
    refine ⟨G, hp, fun ks => ?_⟩
    rw [goL_at c126L0.eq_def, fullP, if_pos rfl]
    have b0 : G.ld1 B 0 = some (.int .i64 q) := ld1_at (row_pre hB hp) rfl
    have h1 := hf.q2
    have h2 := hf.q64
    simp (disch := first | omega | (simp only [Go.Am.len_push, Go.Am.len_set, Go.Am.len_kill] <;> omega) | fail) only [push_cast, Nat.reduceBEq, Nat.reduceAdd, Nat.reduceMul, Nat.reduceSub, Nat.reduceLT, Nat.reduceGT, Nat.reduceLeDiff, Nat.reduceEqDiff, Int.reduceToNat, Int.reduceAdd, Int.reduceMul, Int.reduceSub, Int.reduceNeg, Int.reduceLT, Int.reduceLE, Int.reduceEq, Nat.zero_add, Nat.add_zero, Nat.mul_one, eq_self, ne_eq, not_true, not_false_iff, and_true, true_and, and_self, List.getElem?_cons_zero, List.getElem?_cons_succ, List.map_cons, List.map_nil, b0, wrap64, dec_nlt]
  | n + 1, k, a, s, G, hk, hk0, ha, hp, hr => by
    have b0 : G.ld1 B 0 = some (.int .i64 q) := ld1_at (row_pre hB hp) rfl
    have hq2 := hf.q2
    have hq64 := hf.q64
    have hkl : k < q - 1 := by omega
    have hw : (-9223372036854775808 ≤ q - 1) := by omega
    by_cases hz : a = 0
    · refine ⟨G, hp, fun ks => ?_⟩
      rw [goL_at c126L0.eq_def, fullP]
      subst hz
      rw [show ((0 : Int) == 0) = true from rfl, Bool.true_or, cond_true, if_neg (by simp)]
      simp (disch := first | omega | (simp only [Go.Am.len_push, Go.Am.len_set, Go.Am.len_kill] <;> omega) | fail) only [push_cast, Nat.reduceBEq, Nat.reduceAdd, Nat.reduceMul, Nat.reduceSub, Nat.reduceLT, Nat.reduceGT, Nat.reduceLeDiff, Nat.reduceEqDiff, Int.reduceToNat, Int.reduceAdd, Int.reduceMul, Int.reduceSub, Int.reduceNeg, Int.reduceLT, Int.reduceLE, Int.reduceEq, Nat.zero_add, Nat.add_zero, Nat.mul_one, eq_self, ne_eq, not_true, not_false_iff, and_true, true_and, and_self, List.getElem?_cons_zero, List.getElem?_cons_succ, List.map_cons, List.map_nil, b0, wrap64, dec_lt, dec_eq]
    have hzb : (a == 0) = false := by simpa using hz
    have hi1 : 0 ≤ a ∧ a < ((q.toNat : Nat) : Int) := by omega
    have hi2 : 0 ≤ a ∧ a < max q 0 := by omega
    have el := ld1_bit hr (i := a) (k := a.toNat) (by omega) (by omega)
    cases ht : s.testBit a.toNat with
    | true =>
      refine ⟨G, hp, fun ks => ?_⟩
      rw [goL_at c126L0.eq_def, fullP, hzb, ht, Bool.false_or, cond_true, if_neg (by simp)]
      rw [ht] at el
      simp (disch := first | omega | (simp only [Go.Am.len_push, Go.Am.len_set, Go.Am.len_kill] <;> omega) | fail) only [push_cast, Nat.reduceBEq, Nat.reduceAdd, Nat.reduceMul, Nat.reduceSub, Nat.reduceLT, Nat.reduceGT, Nat.reduceLeDiff, Nat.reduceEqDiff, Int.reduceToNat, Int.reduceAdd, Int.reduceMul, Int.reduceSub, Int.reduceNeg, Int.reduceLT, Int.reduceLE, Int.reduceEq, Nat.zero_add, Nat.add_zero, Nat.mul_one, eq_self, ne_eq, not_true, not_false_iff, and_true, true_and, and_self, List.getElem?_cons_zero, List.getElem?_cons_succ, List.map_cons, List.map_nil, b0, wrap64, dec_lt, dec_ne hz, hi1, hi2, el]
    | false =>
      rw [ht] at el
      have es := sts_bit hr (i := a) (k := a.toNat) (v := true) (by omega) (by omega) (bits_on (m := s) (by omega))
      obtain ⟨G1, eG1⟩ : ∃ G1 : H, G1 = G.set h2.length (.row ⟨bitsV (s ||| 1 <<< a.toNat) q.toNat, 4, 1, true⟩) := ⟨_, rfl⟩
      rw [← eG1] at es
      have hlt := row_some_lt hr
      have p1 : h2 <+: G1 := by rw [eG1]; exact pre_set hp (Nat.le_refl _)
      have r1 : G1.row h2.length = some ⟨bitsV (s ||| 1 <<< a.toNat) q.toNat, 4, 1, true⟩ := by rw [eG1]; exact row_set_same hlt
      have lB := lds_all (row_pre hB p1) (n := 5) rfl
      obtain ⟨G2, p2, em⟩ := hf.mul (g0 := g0) G1 (hM.mono p1) a g
      obtain ⟨G3, p3, ih⟩ := full_loop hf hB hM g hg n (k + 1) (mulR q p m mod a g) (s ||| 1 <<< a.toNat) G2 (by omega) (by omega) (mulR_range hf ha hg) (p1.trans p2) (row_pre r1 p2)
      refine ⟨G3, p3, fun ks => ?_⟩
      rw [fullP, hzb, ht, Bool.false_or, cond_false, ← ih ks, goL_at c126L0.eq_def]
      simp (disch := first | omega | (simp only [Go.Am.len_push, Go.Am.len_set, Go.Am.len_kill] <;> omega) | fail) only [push_cast, Nat.reduceBEq, Nat.reduceAdd, Nat.reduceMul, Nat.reduceSub, Nat.reduceLT, Nat.reduceGT, Nat.reduceLeDiff, Nat.reduceEqDiff, Int.reduceToNat, Int.reduceAdd, Int.reduceMul, Int.reduceSub, Int.reduceNeg, Int.reduceLT, Int.reduceLE, Int.reduceEq, Nat.zero_add, Nat.add_zero, Nat.mul_one, eq_self, ne_eq, not_true, not_false_iff, and_true, true_and, and_self, List.getElem?_cons_zero, List.getElem?_cons_succ, List.map_cons, List.map_nil, b0, wrap64, dec_lt, dec_ne hz, hi1, hi2, el, es, lB, em]

theorem full_call {q p g0 : Int} {m : Nat} {mod : List Int} (hf : FOk q p m mod) {om fm cm : Nat} (h : H) (hM : RdI h (some ⟨om, fm, none⟩) cm mod) (g : Int) (hg : 0 ≤ g ∧ g < q) :
    ∃ h' : H, h <+: h' ∧ call T 126 [fv q p m g0 (.slice (some ⟨om, fm, none⟩) mod.length cm), .int .i64 g] h = some (.bool (fullP q p m mod g (q - 1).toNat 1 0), h') := by
  obtain ⟨ms, hms⟩ : ∃ ms, ms = Value.slice (some ⟨om, fm, none⟩) mod.length cm := ⟨_, rfl⟩
  rw [← hms]
  have hq2 := hf.q2
  have hq64 := hf.q64
  obtain ⟨h1, eh1⟩ : ∃ h1 : H, h1 = h ++ [fvR q p m g0 ms] := ⟨_, rfl⟩
  have r1 : h1.row h.length = some ⟨fvL q p m g0 ms, 67, 0, true⟩ := by rw [eh1]; exact row_push_new
  have p1 : h <+: h1 := by rw [eh1]; exact List.prefix_append _ _
  have b0 : h1.ld1 h.length 0 = some (.int .i64 q) := ld1_at r1 rfl
  obtain ⟨h2, eh2⟩ : ∃ h2 : H, h2 = h1 ++ [.row ⟨bitsV 0 q.toNat, 4, 1, true⟩] := ⟨_, rfl⟩
  have p2 : h1 <+: h2 := by rw [eh2]; exact List.prefix_append _ _
  have r2 : h2.row h1.length = some ⟨bitsV 0 q.toNat, 4, 1, true⟩ := by rw [eh2]; exact row_push_new
  rw [hms] at r1
  obtain ⟨h3, p3, fl⟩ := full_loop hf r1 (hM.mono p1) g hg (q - 1).toNat 0 1 0 h2 (by omega) (by omega) (by omega) p2 r2
  refine ⟨h3, p1.trans p3, ?_⟩
  rw [call_at T126 rfl]
  unfold F126 c126
  have c1 : 0 ≤ q ∧ q ≤ q ∧ q ≤ 1099511627776 ∧ q * 1 ≤ 140737488355328 := by omega
  simp (disch := first | omega | (simp only [Go.Am.len_push, Go.Am.len_set, Go.Am.len_kill] <;> omega) | fail) only [push_cast, Nat.reduceBEq, Nat.reduceAdd, Nat.reduceMul, Nat.reduceSub, Nat.reduceLT, Nat.reduceGT, Nat.reduceLeDiff, Nat.reduceEqDiff, Int.reduceToNat, Int.reduceAdd, Int.reduceMul, Int.reduceSub, Int.reduceNeg, Int.reduceLT, Int.reduceLE, Int.reduceEq, Nat.zero_add, Nat.add_zero, Nat.mul_one, eq_self, ne_eq, not_true, not_false_iff, and_true, true_and, and_self, List.getElem?_cons_zero, List.getElem?_cons_succ, List.map_cons, List.map_nil, ← eh1, b0, c1, rep_bit, ← eh2]
  rw [fl]
  cases hx : fullP q p m mod g (q - 1).toNat 1 0 with
  | true => simp (disch := first | omega | (simp only [Go.Am.len_push, Go.Am.len_set, Go.Am.len_kill] <;> omega) | fail) only [push_cast, Nat.reduceBEq, Nat.reduceAdd, Nat.reduceMul, Nat.reduceSub, Nat.reduceLT, Nat.reduceGT, Nat.reduceLeDiff, Nat.reduceEqDiff, Int.reduceToNat, Int.reduceAdd, Int.reduceMul, Int.reduceSub, Int.reduceNeg, Int.reduceLT, Int.reduceLE, Int.reduceEq, Nat.zero_add, Nat.add_zero, Nat.mul_one, eq_self, ne_eq, not_true, not_false_iff, and_true, true_and, and_self, List.getElem?_cons_zero, List.getElem?_cons_succ, List.map_cons, List.map_nil]
  | false => rfl

/-! ### of which prime a number is a power -/
def dvdN : Nat → Int → Int → Int → Option (Int × Int)
  | 0, _, _, _ => none
  | n + 1, q, p, m => bif q % p == 0 then dvdN n (q / p) p (m + 1) else some (q, m)
def outN : Nat → Int → Int → Option (Int × Int)
  | 0, _, _ => none
  | n + 1, q, p => bif decide (q < p) then none else bif q % p == 0 then match dvdN 64 q p 0 with
      | some (q', m) => some (bif q' == 1 then (p, m) else (0, 0))
      | none => none
    else outN n q (p + 1)
theorem prime_in (p : Int) (hp : 2 ≤ p ∧ p ≤ 64) (h : H) : ∀ (n : Nat) (q m q' m' : Int), 1 ≤ q → q ≤ 64 → 0 ≤ m → m + n ≤ 100 → dvdN n q p m = some (q', m') →
    (1 ≤ q' ∧ q' ≤ 64) ∧ ∀ ks, goL T [.tmp 2, .tmp 3] [0, 4, 5] c125L0 (.blk 2 [0, 4, 5] :: ks) [(0, .int .i64 q), (4, .int .i64 p), (5, .int .i64 m)] h = go T [.tmp 2, .tmp 3] ks (Fr.of [(0, .int .i64 q'), (4, .int .i64 p), (5, .int .i64 m')]) h
  | 0, q, m, q', m', h1, h2, h3, h4, he => by cases he
  | n + 1, q, m, q', m', h1, h2, h3, h4, he => by
    rw [dvdN] at he
    have hp0 : ¬ p = 0 := by omega
    have q1 : q.tmod p = q % p := Int.tmod_eq_emod_of_nonneg (by omega)
    have q2 : q.tdiv p = q / p := Int.tdiv_eq_ediv_of_nonneg (by omega)
    by_cases hz : q % p = 0
    · rw [show (q % p == 0) = true by simpa using hz, cond_true] at he
      have hd : 1 ≤ q / p := by
        have := Int.mul_ediv_add_emod q p
        rw [hz, Int.add_zero] at this
        by_cases h0 : q / p ≤ 0
        · have : p * (q / p) ≤ p * 0 := Int.mul_le_mul_of_nonneg_left h0 (by omega)
          omega
        · omega
      have hd2 : q / p ≤ q := Int.ediv_le_self _ (by omega)
      obtain ⟨hb, ih⟩ := prime_in p hp h n (q / p) (m + 1) q' m' hd (by omega) (by omega) (by omega) he
      refine ⟨hb, fun ks => ?_⟩
      rw [← ih ks, goL_at c125L0.eq_def]
      simp (disch := first | omega | (simp only [Go.Am.len_push, Go.Am.len_set, Go.Am.len_kill] <;> omega) | fail) only [push_cast, Nat.reduceBEq, Nat.reduceAdd, Nat.reduceMul, Nat.reduceSub, Nat.reduceLT, Nat.reduceGT, Nat.reduceLeDiff, Nat.reduceEqDiff, Int.reduceToNat, Int.reduceAdd, Int.reduceMul, Int.reduceSub, Int.reduceNeg, Int.reduceLT, Int.reduceLE, Int.reduceEq, Nat.zero_add, Nat.add_zero, Nat.mul_one, eq_self, ne_eq, not_true, not_false_iff, and_true, true_and, and_self, List.getElem?_cons_zero, List.getElem?_cons_succ, List.map_cons, List.map_nil, hp0, q1, q2, dec_eq hz, wrap64]
    · rw [show (q % p == 0) = false by simpa using hz, cond_false] at he
      cases he
      refine ⟨⟨h1, h2⟩, fun ks => ?_⟩
      rw [goL_at c125L0.eq_def]
      simp (disch := first | omega | (simp only [Go.Am.len_push, Go.Am.len_set, Go.Am.len_kill] <;> omega) | fail) only [push_cast, Nat.reduceBEq, Nat.reduceAdd, Nat.reduceMul, Nat.reduceSub, Nat.reduceLT, Nat.reduceGT, Nat.reduceLeDiff, Nat.reduceEqDiff, Int.reduceToNat, Int.reduceAdd, Int.reduceMul, Int.reduceSub, Int.reduceNeg, Int.reduceLT, Int.reduceLE, Int.reduceEq, Nat.zero_add, Nat.add_zero, Nat.mul_one, eq_self, ne_eq, not_true, not_false_iff, and_true, true_and, and_self, List.getElem?_cons_zero, List.getElem?_cons_succ, List.map_cons, List.map_nil, hp0, q1, dec_ne hz]
theorem prime_out (q : Int) (hq : 2 ≤ q ∧ q ≤ 64) (h : H) : ∀ (n : Nat) (p : Int) (r : Int × Int), 2 ≤ p → p ≤ 64 → outN n q p = some r →
    ∀ ks, goL T [.tmp 2, .tmp 3] [0, 4] c125L1 (.blk 0 [] :: ks) [(0, .int .i64 q), (4, .int .i64 p)] h = some (.tuple #[.int .i64 r.1, .int .i64 r.2], h)
  | 0, p, r, h1, h2, he => by cases he
  | n + 1, p, r, h1, h2, he => fun ks => by
    rw [outN] at he
    by_cases hl : q < p
    · rw [decide_eq_true hl, cond_true] at he; cases he
    rw [decide_eq_false hl, cond_false] at he
    have hp0 : ¬ p = 0 := by omega
    have q1 : q.tmod p = q % p := Int.tmod_eq_emod_of_nonneg (by omega)
    by_cases hz : q % p = 0
    · rw [show (q % p == 0) = true by simpa using hz, cond_true] at he
      cases hd : dvdN 64 q p 0 with
      | none => rw [hd] at he; cases he
      | some x =>
        obtain ⟨q', m'⟩ := x
        rw [hd] at he
        simp only [Option.some.injEq] at he
        obtain ⟨hb, hin⟩ := prime_in p ⟨h1, h2⟩ h 64 q 0 q' m' (by omega) (by omega) (by omega) (by omega) hd
        rw [goL_at c125L1.eq_def]
        simp (disch := first | omega | (simp only [Go.Am.len_push, Go.Am.len_set, Go.Am.len_kill] <;> omega) | fail) only [push_cast, Nat.reduceBEq, Nat.reduceAdd, Nat.reduceMul, Nat.reduceSub, Nat.reduceLT, Nat.reduceGT, Nat.reduceLeDiff, Nat.reduceEqDiff, Int.reduceToNat, Int.reduceAdd, Int.reduceMul, Int.reduceSub, Int.reduceNeg, Int.reduceLT, Int.reduceLE, Int.reduceEq, Nat.zero_add, Nat.add_zero, Nat.mul_one, eq_self, ne_eq, not_true, not_false_iff, and_true, true_and, and_self, List.getElem?_cons_zero, List.getElem?_cons_succ, List.map_cons, List.map_nil, dec_le, hp0, q1, dec_eq hz]
        rw [hin]
        by_cases ho : q' = 1
        · rw [show (q' == 1) = true by simpa using ho, cond_true] at he
          rw [← he]
          simp (disch := first | omega | (simp only [Go.Am.len_push, Go.Am.len_set, Go.Am.len_kill] <;> omega) | fail) only [push_cast, Nat.reduceBEq, Nat.reduceAdd, Nat.reduceMul, Nat.reduceSub, Nat.reduceLT, Nat.reduceGT, Nat.reduceLeDiff, Nat.reduceEqDiff, Int.reduceToNat, Int.reduceAdd, Int.reduceMul, Int.reduceSub, Int.reduceNeg, Int.reduceLT, Int.reduceLE, Int.reduceEq, Nat.zero_add, Nat.add_zero, Nat.mul_one, eq_self, ne_eq, not_true, not_false_iff, and_true, true_and, and_self, List.getElem?_cons_zero, List.getElem?_cons_succ, List.map_cons, List.map_nil, dec_eq ho]
        · rw [show (q' == 1) = false by simpa using ho, cond_false] at he
          rw [← he]
          simp (disch := first | omega | (simp only [Go.Am.len_push, Go.Am.len_set, Go.Am.len_kill] <;> omega) | fail) only [push_cast, Nat.reduceBEq, Nat.reduceAdd, Nat.reduceMul, Nat.reduceSub, Nat.reduceLT, Nat.reduceGT, Nat.reduceLeDiff, Nat.reduceEqDiff, Int.reduceToNat, Int.reduceAdd, Int.reduceMul, Int.reduceSub, Int.reduceNeg, Int.reduceLT, Int.reduceLE, Int.reduceEq, Nat.zero_add, Nat.add_zero, Nat.mul_one, eq_self, ne_eq, not_true, not_false_iff, and_true, true_and, and_self, List.getElem?_cons_zero, List.getElem?_cons_succ, List.map_cons, List.map_nil, dec_ne ho]
    · rw [show (q % p == 0) = false by simpa using hz, cond_false] at he
      by_cases hp64 : p = 64
      · subst hp64; omega
      have ih := prime_out q hq h n (p + 1) r (by omega) (by omega) he ks
      rw [← ih, goL_at c125L1.eq_def]
      simp (disch := first | omega | (simp only [Go.Am.len_push, Go.Am.len_set, Go.Am.len_kill] <;> omega) | fail) only [push_cast, Nat.reduceBEq, Nat.reduceAdd, Nat.reduceMul, Nat.reduceSub, Nat.reduceLT, Nat.reduceGT, Nat.reduceLeDiff, Nat.reduceEqDiff, Int.reduceToNat, Int.reduceAdd, Int.reduceMul, Int.reduceSub, Int.reduceNeg, Int.reduceLT, Int.reduceLE, Int.reduceEq, Nat.zero_add, Nat.add_zero, Nat.mul_one, eq_self, ne_eq, not_true, not_false_iff, and_true, true_and, and_self, List.getElem?_cons_zero, List.getElem?_cons_succ, List.map_cons, List.map_nil, dec_le, hp0, q1, dec_ne hz, wrap64]
theorem prime_call (q : Int) (hq : 2 ≤ q ∧ q ≤ 64) (h : H) (r : Int × Int) (he : outN 64 q 2 = some r) : call T 125 [.int .i64 q] h = some (.tuple #[.int .i64 r.1, .int .i64 r.2], h) := by
  rw [call_at T125 rfl]
  unfold F125 c125
  simp (disch := first | omega | (simp only [Go.Am.len_push, Go.Am.len_set, Go.Am.len_kill] <;> omega) | fail) only [push_cast, Nat.reduceBEq, Nat.reduceAdd, Nat.reduceMul, Nat.reduceSub, Nat.reduceLT, Nat.reduceGT, Nat.reduceLeDiff, Nat.reduceEqDiff, Int.reduceToNat, Int.reduceAdd, Int.reduceMul, Int.reduceSub, Int.reduceNeg, Int.reduceLT, Int.reduceLE, Int.reduceEq, Nat.zero_add, Nat.add_zero, Nat.mul_one, eq_self, ne_eq, not_true, not_false_iff, and_true, true_and, and_self, List.getElem?_cons_zero, List.getElem?_cons_succ, List.map_cons, List.map_nil]
  rw [prime_out q hq h 64 2 r (by omega) (by omega) he]
end Go.Proofs.Ytammndhoillliaa
namespace Go.Proofs.Ytammndhoillliaa
open Go.Am
set_option linter.unusedVariables false
set_option linter.unusedSimpArgs false
set_option maxRecDepth 30000

theorem sts_whole {h : H} {o : Nat} {l vs : List Value} {e u : Nat} (hr : h.row o = some ⟨l, e, u, true⟩) (hl : vs.length = l.length) : h.sts o 0 vs = some (h.set o (.row ⟨vs, e, u, true⟩)) := by
  unfold H.sts; rw [hr]
  simp only [Bool.true_and, Nat.zero_add]
  rw [if_pos (by simp; omega)]
  congr 1
  unfold splice
  rw [List.take_zero, List.nil_append, Nat.zero_add, hl, List.drop_length, List.append_nil]
theorem sts_cell {h : H} {o off : Nat} {l l' : List Value} {v : Value} {e u : Nat} (hr : h.row o = some ⟨l, e, u, true⟩) (hl : off < l.length) (he : l.set off v = l') : h.sts o off [v] = some (h.set o (.row ⟨l', e, u, true⟩)) := by
  unfold H.sts; rw [hr]
  simp only [Bool.true_and, List.length_cons, List.length_nil, Nat.zero_add]
  rw [if_pos (by simp; omega)]
  congr 3
  unfold splice
  rw [← he, List.set_eq_take_append_cons_drop, if_pos hl]
  simp

/-- the fields: characteristic, degree, generator, modulus -/
def fldN : Nat → Option (Int × Nat × Int × List Int)
  | 2 => some (2, 1, 1, [0, 1])
  | 3 => some (3, 1, 2, [0, 1])
  | 4 => some (2, 2, 2, [1, 1, 1])
  | 5 => some (5, 1, 2, [0, 1])
  | 7 => some (7, 1, 3, [0, 1])
  | 8 => some (2, 3, 2, [1, 1, 0, 1])
  | 9 => some (3, 2, 3, [2, 1, 1])
  | 11 => some (11, 1, 2, [0, 1])
  | 13 => some (13, 1, 2, [0, 1])
  | 16 => some (2, 4, 2, [1, 1, 0, 0, 1])
  | 17 => some (17, 1, 3, [0, 1])
  | 19 => some (19, 1, 2, [0, 1])
  | 23 => some (23, 1, 5, [0, 1])
  | 25 => some (5, 2, 5, [2, 1, 1])
  | 27 => some (3, 3, 3, [1, 2, 0, 1])
  | 29 => some (29, 1, 2, [0, 1])
  | 31 => some (31, 1, 3, [0, 1])
  | 32 => some (2, 5, 2, [1, 0, 1, 0, 0, 1])
  | 37 => some (37, 1, 2, [0, 1])
  | 41 => some (41, 1, 6, [0, 1])
  | 43 => some (43, 1, 3, [0, 1])
  | 47 => some (47, 1, 5, [0, 1])
  | 49 => some (7, 2, 7, [3, 1, 1])
  | 53 => some (53, 1, 2, [0, 1])
  | 59 => some (59, 1, 2, [0, 1])
  | 61 => some (61, 1, 2, [0, 1])
  | 64 => some (2, 6, 2, [1, 1, 0, 0, 0, 0, 1])
  | _ => none
def genN (q p : Int) : Nat → Int → Option Int
  | 0, _ => none
  | n + 1, g => bif fullP q p 1 [0, 1] g (q - 1).toNat 1 0 then some g else genN q p n (g + 1)
def lowN (q p : Int) (m : Nat) : Nat → Int → Option (List Int)
  | 0, _ => none
  | n + 1, low => bif fullP q p m (digs p m low ++ [1]) p (q - 1).toNat 1 0 then some (digs p m low ++ [1]) else lowN q p m n (low + 1)
def fldCheck (n : Nat) : Bool :=
  match fldN n with
  | none => decide (outN 64 n 2 = some (0, 0))
  | some (p, m, g, mod) => decide (outN 64 n 2 = some (p, (m : Int))) && (bif decide (m = 1) then decide (genN n p (n - 1) 1 = some g) && decide (mod = [0, 1]) else decide (lowN n p m n 0 = some mod) && decide (g = p)) &&
      decide (p ^ m = (n : Int)) && decide (mod.length = m + 1) && (mod.all fun d => decide (0 ≤ d) && decide (d < p)) && decide (2 ≤ p) && decide (p ≤ 64) && decide (1 ≤ m) && decide (m ≤ 10) && decide (1 ≤ g) && decide (g < n)
theorem fld_checked : ((List.range 63).all fun n => fldCheck (n + 2)) = true := by kernel_rfl
theorem fld_check {n : Nat} (h2 : 2 ≤ n) (h64 : n ≤ 64) : fldCheck n = true := by
  have h := List.all_eq_true.1 fld_checked (n - 2) (List.mem_range.2 (by omega))
  rw [show n - 2 + 2 = n by omega] at h
  exact h
theorem fld_none {n : Nat} (h2 : 2 ≤ n) (h64 : n ≤ 64) (hn : fldN n = none) : outN 64 n 2 = some (0, 0) := by
  have h := fld_check h2 h64
  unfold fldCheck at h
  rw [hn] at h
  simpa using h
theorem fldN_le {n : Nat} {x} (h : fldN n = some x) : 2 ≤ n ∧ n ≤ 64 := by
  unfold fldN at h
  split at h <;> first | (cases h; done) | omega
theorem fld_ok {n : Nat} {p g : Int} {m : Nat} {mod : List Int} (hn : fldN n = some (p, m, g, mod)) : FOk n p m mod ∧ outN 64 n 2 = some (p, (m : Int)) ∧ 1 ≤ g ∧ g < n ∧
    (if m = 1 then genN n p (n - 1) 1 = some g ∧ mod = [0, 1] else lowN n p m n 0 = some mod ∧ g = p) := by
  obtain ⟨h2, h64⟩ := fldN_le hn
  have h := fld_check h2 h64
  unfold fldCheck at h
  rw [hn] at h
  simp only [Bool.and_eq_true, decide_eq_true_eq, List.all_eq_true] at h
  obtain ⟨⟨⟨⟨⟨⟨⟨⟨⟨⟨a1, a2⟩, a3⟩, a4⟩, a5⟩, a6⟩, a7⟩, a8⟩, a9⟩, a10⟩, a11⟩ := h
  refine ⟨⟨by omega, by omega, a6, a7, a8, a9, a3, a4, fun z hz => a5 z hz⟩, a1, a10, a11, ?_⟩
  by_cases hm : m = 1
  · rw [if_pos hm]
    rw [decide_eq_true hm, cond_true] at a2
    simpa using a2
  · rw [if_neg hm]
    rw [decide_eq_false hm, cond_false] at a2
    simpa using a2
end Go.Proofs.Ytammndhoillliaa
namespace Go.Proofs.Ytammndhoillliaa
open Go.Am
set_option linter.unusedVariables false
set_option linter.unusedSimpArgs false
set_option maxRecDepth 30000

abbrev zrR : Ob := .row ⟨fvL 0 0 0 0 (.slice none 0 0), 67, 0, true⟩
theorem dig01 {p : Int} (hp : 2 ≤ p) : Dig p [0, 1] := fun z hz => by
  simp at hz; omega
theorem gen_loop {q p : Int} (hf : FOk q p 1 [0, 1]) (h : H) (R F om : Nat) (hR : h.length ≤ R) (hF : h.length ≤ F) (hRF : R ≠ F) (hRo : R ≠ om) (hFo : F ≠ om) (hq : q = p) :
    ∀ (n : Nat) (g gen : Int) (G : H), 1 ≤ g → g + n ≤ q → genN q p n g = some gen → h <+: G → (∃ l, l.length = 5 ∧ G.row R = some ⟨l, 67, 0, true⟩) →
      G.row F = some ⟨fvL q p 1 0 (.slice (some ⟨om, 0, none⟩) 2 2), 67, 0, true⟩ → G.row om = some ⟨ints [0, 1], 3, 1, true⟩ →
    ∃ G' : H, h <+: G' ∧ RdI G' (some ⟨om, 0, none⟩) 2 [0, 1] ∧ ∀ ks, goL T [.cell 2 true 5, .tmp 3] [0, 2, 4, 5, 6, 7] c43L0 (.blk 0 [0, 2, 4, 5, 6] :: ks) [(0, .int .i64 q), (2, .pointer (some ⟨R, 0, none⟩)), (4, .int .i64 p), (5, .int .i64 1), (6, .pointer (some ⟨F, 0, none⟩)), (7, .int .i64 g)] G =
      some (.tuple #[fv q p 1 gen (.slice (some ⟨om, 0, none⟩) 2 2), .int .i64 0], G')
  | 0, g, gen, G, h1, h2, he, hp, hr, hr2, hr3 => by cases he
  | n + 1, g, gen, G, h1, h2, he, hp, ⟨l, hl, hr⟩, hr2, hr3 => by
    rw [genN] at he
    have rm : RdI G (some ⟨om, 0, none⟩) 2 [0, 1] := RdI.ofRow hr3 rfl
    have lF := lds_all hr2 (n := 5) rfl
    have hq64 := hf.q64
    obtain ⟨G1, p1, ef⟩ := full_call (g0 := 0) hf G rm g (by omega)
    simp only [List.length_cons, List.length_nil, Nat.zero_add, Nat.reduceAdd] at ef
    rw [show ((1 : Nat) : Int) = 1 from rfl] at ef
    cases hx : fullP q p 1 [0, 1] g (q - 1).toNat 1 0 with
    | true =>
      rw [hx, cond_true] at he
      cases he
      rw [hx] at ef
      have r1 := row_pre hr2 p1
      have hFl := row_some_lt r1
      have s1 := sts_cell (off := 3) (v := .int .i64 g) r1 (by simp) (l' := fvL q p 1 g (.slice (some ⟨om, 0, none⟩) 2 2)) rfl
      obtain ⟨G2, eG2⟩ : ∃ G2 : H, G2 = G1.set F (.row ⟨fvL q p 1 g (.slice (some ⟨om, 0, none⟩) 2 2), 67, 0, true⟩) := ⟨_, rfl⟩
      rw [← eG2] at s1
      have r2 : G2.row F = some ⟨fvL q p 1 g (.slice (some ⟨om, 0, none⟩) 2 2), 67, 0, true⟩ := by rw [eG2]; exact row_set_same hFl
      have r2R : G2.row R = some ⟨l, 67, 0, true⟩ := by rw [eG2, row_set_other (fun e => hRF e.symm)]; exact row_pre hr p1
      have r2o : G2.row om = some ⟨ints [0, 1], 3, 1, true⟩ := by rw [eG2, row_set_other hFo]; exact row_pre hr3 p1
      have l2 := lds_all r2 (n := 5) rfl
      have s2 := sts_whole (vs := fvL q p 1 g (.slice (some ⟨om, 0, none⟩) 2 2)) r2R (by simp [hl])
      have hRl := row_some_lt r2R
      obtain ⟨G3, eG3⟩ : ∃ G3 : H, G3 = G2.set R (.row ⟨fvL q p 1 g (.slice (some ⟨om, 0, none⟩) 2 2), 67, 0, true⟩) := ⟨_, rfl⟩
      rw [← eG3] at s2
      have r3 : G3.row R = some ⟨fvL q p 1 g (.slice (some ⟨om, 0, none⟩) 2 2), 67, 0, true⟩ := by rw [eG3]; exact row_set_same hRl
      have r3o : G3.row om = some ⟨ints [0, 1], 3, 1, true⟩ := by rw [eG3, row_set_other hRo]; exact r2o
      have l3 := lds_all r3 (n := 5) rfl
      have p2 : h <+: G2 := by rw [eG2]; exact pre_set (hp.trans p1) hF
      have p3 : h <+: G3 := by rw [eG3]; exact pre_set p2 hR
      refine ⟨G3, p3, RdI.ofRow r3o rfl, fun ks => ?_⟩
      rw [goL_at c43L0.eq_def]
      simp (disch := first | omega | (simp only [Go.Am.len_push, Go.Am.len_set, Go.Am.len_kill] <;> omega) | fail) only [push_cast, Nat.reduceBEq, Nat.reduceAdd, Nat.reduceMul, Nat.reduceSub, Nat.reduceLT, Nat.reduceGT, Nat.reduceLeDiff, Nat.reduceEqDiff, Int.reduceToNat, Int.reduceAdd, Int.reduceMul, Int.reduceSub, Int.reduceNeg, Int.reduceLT, Int.reduceLE, Int.reduceEq, Nat.zero_add, Nat.add_zero, Nat.mul_one, eq_self, ne_eq, not_true, not_false_iff, and_true, true_and, and_self, List.getElem?_cons_zero, List.getElem?_cons_succ, List.map_cons, List.map_nil, dec_lt, lF, ef, s1, l2, s2, l3]
    | false =>
      rw [hx, cond_false] at he
      rw [hx] at ef
      obtain ⟨G2, p2, rm2, ih⟩ := gen_loop hf h R F om hR hF hRF hRo hFo hq n (g + 1) gen G1 (by omega) (by omega) he (hp.trans p1) ⟨l, hl, row_pre hr p1⟩ (row_pre hr2 p1) (row_pre hr3 p1)
      refine ⟨G2, p2, rm2, fun ks => ?_⟩
      rw [← ih ks, goL_at c43L0.eq_def]
      simp (disch := first | omega | (simp only [Go.Am.len_push, Go.Am.len_set, Go.Am.len_kill] <;> omega) | fail) only [push_cast, Nat.reduceBEq, Nat.reduceAdd, Nat.reduceMul, Nat.reduceSub, Nat.reduceLT, Nat.reduceGT, Nat.reduceLeDiff, Nat.reduceEqDiff, Int.reduceToNat, Int.reduceAdd, Int.reduceMul, Int.reduceSub, Int.reduceNeg, Int.reduceLT, Int.reduceLE, Int.reduceEq, Nat.zero_add, Nat.add_zero, Nat.mul_one, eq_self, ne_eq, not_true, not_false_iff, and_true, true_and, and_self, List.getElem?_cons_zero, List.getElem?_cons_succ, List.map_cons, List.map_nil, dec_lt, lF, ef, wrap64]

theorem low_loop {q p : Int} {m : Nat} (hpq : 0 ≤ p ∧ p < q) (hf : ∀ low, 0 ≤ low → FOk q p m (digs p m low ++ [1])) (h : H) (R F : Nat) (hR : h.length ≤ R) (hF : h.length ≤ F) (hRF : R ≠ F) :
    ∀ (n : Nat) (low : Int) (mod : List Int) (ms : Value) (G : H), 0 ≤ low → low + n ≤ q → lowN q p m n low = some mod → h <+: G → R < G.length → F < G.length → (∃ l, l.length = 5 ∧ G.row R = some ⟨l, 67, 0, true⟩) →
      G.row F = some ⟨fvL q p m p ms, 67, 0, true⟩ →
    ∃ (G' : H) (om cm : Nat), h <+: G' ∧ RdI G' (some ⟨om, 0, none⟩) cm mod ∧ ∀ ks, goL T [.cell 2 true 5, .tmp 3] [0, 2, 4, 5, 6, 8] c43L1 (.blk 2 [2] :: ks) [(0, .int .i64 q), (2, .pointer (some ⟨R, 0, none⟩)), (4, .int .i64 p), (5, .int .i64 m), (6, .pointer (some ⟨F, 0, none⟩)), (8, .int .i64 low)] G =
      some (.tuple #[fv q p m p (.slice (some ⟨om, 0, none⟩) mod.length cm), .int .i64 0], G')
  | 0, low, mod, ms, G, h1, h2, he, hp, hRl, hFl, hr, hr2 => by cases he
  | n + 1, low, mod, ms, G, h1, h2, he, hp, hRl, hFl, ⟨l, hl, hr⟩, hr2 => by
    rw [lowN] at he
    have hfl := hf low h1
    have hq64 := hfl.q64
    have hm10 := hfl.m10
    have hp2 := hfl.p2
    have hm1 := hfl.m1
    obtain ⟨sa, c, G1, ed, p1, gd⟩ := digits_call low p m G (by omega) (by omega) h1 (by omega)
    obtain ⟨sb, G2, ea, gb, hl2, hk2, hpp2⟩ := gd.one (y := 1) (by rw [digs_len]; omega) (pre_len p1)
    rw [digs_len] at ea gb
    have p2 : G <+: G2 := hpp2 G (Nat.le_refl _) p1
    obtain ⟨mo, hmo⟩ : ∃ mo, mo = digs p m low ++ [1] := ⟨_, rfl⟩
    have hml : mo.length = m + 1 := by rw [hmo]; simp [digs_len]
    rw [← hmo] at gb he hfl
    have r2F := row_pre hr2 p2
    have s1 := sts_cell (off := 4) (v := .slice sb (m + 1) (m + 1)) r2F (by simp) (l' := fvL q p m p (.slice sb (m + 1) (m + 1))) rfl
    obtain ⟨G3, eG3⟩ : ∃ G3 : H, G3 = G2.set F (.row ⟨fvL q p m p (.slice sb (m + 1) (m + 1)), 67, 0, true⟩) := ⟨_, rfl⟩
    rw [← eG3] at s1
    have hF2 := row_some_lt r2F
    have r3F : G3.row F = some ⟨fvL q p m p (.slice sb (m + 1) (m + 1)), 67, 0, true⟩ := by rw [eG3]; exact row_set_same hF2
    have r3R : G3.row R = some ⟨l, 67, 0, true⟩ := by rw [eG3, row_set_other (fun e => hRF e.symm)]; exact row_pre hr p2
    have g3 : Grown G3 sb (m + 1) mo G.length := gb.carry (fun o ho _ => by rw [eG3, row_set_other (by omega)])
    have p3 : h <+: G3 := by rw [eG3]; exact pre_set (hp.trans p2) hF
    have l3 := lds_all r3F (n := 5) rfl
    obtain ⟨om, rfl, hom, _, r3o⟩ : ∃ o, sb = some ⟨o, 0, none⟩ ∧ G.length ≤ o ∧ m + 1 = mo.length ∧ G3.row o = some ⟨ints mo, 3, 1, true⟩ := by
      rcases g3 with ⟨_, h0, _⟩ | h0
      · omega
      · exact h0
    have rm : RdI G3 (some ⟨om, 0, none⟩) (m + 1) mo := g3.rd
    obtain ⟨G4, p4, ef⟩ := full_call (g0 := p) hfl G3 rm p hpq
    rw [hml] at ef
    cases hx : fullP q p m mo p (q - 1).toNat 1 0 with
    | true =>
      rw [hx, cond_true] at he
      have he' : mo = mod := Option.some.inj he
      rw [← he']
      rw [hx] at ef
      have r4F := row_pre r3F p4
      have r4R := row_pre r3R p4
      have l4 := lds_all r4F (n := 5) rfl
      have s2 := sts_whole (vs := fvL q p m p (.slice (some ⟨om, 0, none⟩) (m + 1) (m + 1))) r4R (by simp [hl])
      have hR4 := row_some_lt r4R
      obtain ⟨G5, eG5⟩ : ∃ G5 : H, G5 = G4.set R (.row ⟨fvL q p m p (.slice (some ⟨om, 0, none⟩) (m + 1) (m + 1)), 67, 0, true⟩) := ⟨_, rfl⟩
      rw [← eG5] at s2
      have r5 : G5.row R = some ⟨fvL q p m p (.slice (some ⟨om, 0, none⟩) (m + 1) (m + 1)), 67, 0, true⟩ := by rw [eG5]; exact row_set_same hR4
      have l5 := lds_all r5 (n := 5) rfl
      have r5o : G5.row om = some ⟨ints mo, 3, 1, true⟩ := by rw [eG5, row_set_other (by omega)]; exact row_pre r3o p4
      have p5 : h <+: G5 := by rw [eG5]; exact pre_set (p3.trans p4) hR
      have rm5 := RdI.ofRow r5o rfl
      rw [hml] at rm5
      refine ⟨G5, om, m + 1, p5, rm5, fun ks => ?_⟩
      rw [goL_at c43L1.eq_def, hml]
      simp (disch := first | omega | (simp only [Go.Am.len_push, Go.Am.len_set, Go.Am.len_kill] <;> omega) | fail) only [push_cast, Nat.reduceBEq, Nat.reduceAdd, Nat.reduceMul, Nat.reduceSub, Nat.reduceLT, Nat.reduceGT, Nat.reduceLeDiff, Nat.reduceEqDiff, Int.reduceToNat, Int.reduceAdd, Int.reduceMul, Int.reduceSub, Int.reduceNeg, Int.reduceLT, Int.reduceLE, Int.reduceEq, Nat.zero_add, Nat.add_zero, Nat.mul_one, eq_self, ne_eq, not_true, not_false_iff, and_true, true_and, and_self, List.getElem?_cons_zero, List.getElem?_cons_succ, List.map_cons, List.map_nil, dec_lt, ed, ea, s1, l3, ef, l4, s2, l5]
    | false =>
      rw [hx, cond_false] at he
      rw [hx] at ef
      obtain ⟨G5, om', cm', p5, rm5, ih⟩ := low_loop hpq hf h R F hR hF hRF n (low + 1) mod (.slice (some ⟨om, 0, none⟩) (m + 1) (m + 1)) G4 (by omega) (by omega) he (p3.trans p4) (row_some_lt (row_pre r3R p4)) (row_some_lt (row_pre r3F p4)) ⟨l, hl, row_pre r3R p4⟩ (row_pre r3F p4)
      refine ⟨G5, om', cm', p5, rm5, fun ks => ?_⟩
      rw [← ih ks, goL_at c43L1.eq_def]
      simp (disch := first | omega | (simp only [Go.Am.len_push, Go.Am.len_set, Go.Am.len_kill] <;> omega) | fail) only [push_cast, Nat.reduceBEq, Nat.reduceAdd, Nat.reduceMul, Nat.reduceSub, Nat.reduceLT, Nat.reduceGT, Nat.reduceLeDiff, Nat.reduceEqDiff, Int.reduceToNat, Int.reduceAdd, Int.reduceMul, Int.reduceSub, Int.reduceNeg, Int.reduceLT, Int.reduceLE, Int.reduceEq, Nat.zero_add, Nat.add_zero, Nat.mul_one, eq_self, ne_eq, not_true, not_false_iff, and_true, true_and, and_self, List.getElem?_cons_zero, List.getElem?_cons_succ, List.map_cons, List.map_nil, dec_lt, ed, ea, s1, l3, ef, wrap64]
end Go.Proofs.Ytammndhoillliaa
namespace Go.Proofs.Ytammndhoillliaa
open Go.Am
set_option linter.unusedVariables false
set_option linter.unusedSimpArgs false
set_option maxRecDepth 30000

theorem sp0 (a b c d e x : Value) : splice [a, b, c, d, e] 0 [x] = [x, b, c, d, e] := rfl
theorem sp1 (a b c d e x : Value) : splice [a, b, c, d, e] 1 [x] = [a, x, c, d, e] := rfl
theorem sp2 (a b c d e x : Value) : splice [a, b, c, d, e] 2 [x] = [a, b, x, d, e] := rfl
theorem field_none (q : Int) (hn : fldN q.toNat = none) (h : H) : ∃ h' : H, h <+: h' ∧ call T 43 [.int .i64 q] h = some (.tuple #[fv 0 0 0 0 (.slice none 0 0), .int .i64 1], h') := by
  obtain ⟨h1, eh1⟩ : ∃ h1 : H, h1 = h ++ [zrR] := ⟨_, rfl⟩
  have r1 : h1.row h.length = some ⟨fvL 0 0 0 0 (.slice none 0 0), 67, 0, true⟩ := by rw [eh1]; exact row_push_new
  have s1 := sts_whole (vs := fvL 0 0 0 0 (.slice none 0 0)) r1 rfl
  obtain ⟨h2, eh2⟩ : ∃ h2 : H, h2 = h1.set h.length zrR := ⟨_, rfl⟩
  rw [← eh2] at s1
  have p2 : h <+: h2 := by rw [eh2, eh1]; exact pre_set (List.prefix_append _ _) (Nat.le_refl _)
  have r2 : h2.row h.length = some ⟨fvL 0 0 0 0 (.slice none 0 0), 67, 0, true⟩ := by rw [eh2]; exact row_set_same (row_some_lt r1)
  have l2 := lds_all r2 (n := 5) rfl
  refine ⟨h2, p2, ?_⟩
  rw [call_at T43 rfl]
  unfold F43 c43
  by_cases hq1 : q < 2
  · simp (disch := first | omega | (simp only [Go.Am.len_push, Go.Am.len_set, Go.Am.len_kill] <;> omega) | fail) only [push_cast, Nat.reduceBEq, Nat.reduceAdd, Nat.reduceMul, Nat.reduceSub, Nat.reduceLT, Nat.reduceGT, Nat.reduceLeDiff, Nat.reduceEqDiff, Int.reduceToNat, Int.reduceAdd, Int.reduceMul, Int.reduceSub, Int.reduceNeg, Int.reduceLT, Int.reduceLE, Int.reduceEq, Nat.zero_add, Nat.add_zero, Nat.mul_one, eq_self, ne_eq, not_true, not_false_iff, and_true, true_and, and_self, List.getElem?_cons_zero, List.getElem?_cons_succ, List.map_cons, List.map_nil, ← eh1, dec_lt hq1, s1, l2]
  by_cases hq2 : 64 < q
  · simp (disch := first | omega | (simp only [Go.Am.len_push, Go.Am.len_set, Go.Am.len_kill] <;> omega) | fail) only [push_cast, Nat.reduceBEq, Nat.reduceAdd, Nat.reduceMul, Nat.reduceSub, Nat.reduceLT, Nat.reduceGT, Nat.reduceLeDiff, Nat.reduceEqDiff, Int.reduceToNat, Int.reduceAdd, Int.reduceMul, Int.reduceSub, Int.reduceNeg, Int.reduceLT, Int.reduceLE, Int.reduceEq, Nat.zero_add, Nat.add_zero, Nat.mul_one, eq_self, ne_eq, not_true, not_false_iff, and_true, true_and, and_self, List.getElem?_cons_zero, List.getElem?_cons_succ, List.map_cons, List.map_nil, ← eh1, dec_nlt (Int.not_lt.1 hq1), dec_lt hq2, s1, l2]
  have ho := fld_none (n := q.toNat) (by omega) (by omega) hn
  have hqq : ((q.toNat : Nat) : Int) = q := by omega
  rw [hqq] at ho
  have hp := prime_call q (by omega) h1 _ ho
  simp (disch := first | omega | (simp only [Go.Am.len_push, Go.Am.len_set, Go.Am.len_kill] <;> omega) | fail) only [push_cast, Nat.reduceBEq, Nat.reduceAdd, Nat.reduceMul, Nat.reduceSub, Nat.reduceLT, Nat.reduceGT, Nat.reduceLeDiff, Nat.reduceEqDiff, Int.reduceToNat, Int.reduceAdd, Int.reduceMul, Int.reduceSub, Int.reduceNeg, Int.reduceLT, Int.reduceLE, Int.reduceEq, Nat.zero_add, Nat.add_zero, Nat.mul_one, eq_self, ne_eq, not_true, not_false_iff, and_true, true_and, and_self, List.getElem?_cons_zero, List.getElem?_cons_succ, List.map_cons, List.map_nil, ← eh1, dec_nlt (Int.not_lt.1 hq1), dec_nlt (Int.not_lt.1 hq2), hp, s1, l2]

theorem field_some (q : Int) {p g : Int} {m : Nat} {mod : List Int} (hn : fldN q.toNat = some (p, m, g, mod)) (h : H) : ∃ (h' : H) (om cm : Nat), h <+: h' ∧ RdI h' (some ⟨om, 0, none⟩) cm mod ∧
    call T 43 [.int .i64 q] h = some (.tuple #[fv q p m g (.slice (some ⟨om, 0, none⟩) mod.length cm), .int .i64 0], h') := by
  obtain ⟨hq2, hq64⟩ := fldN_le hn
  have hqq : ((q.toNat : Nat) : Int) = q := by omega
  obtain ⟨hf, ho, hg1, hg2, hgl⟩ := fld_ok hn
  rw [hqq] at hf ho hg2 hgl
  obtain ⟨h1, eh1⟩ : ∃ h1 : H, h1 = h ++ [zrR] := ⟨_, rfl⟩
  have r1 : h1.row h.length = some ⟨fvL 0 0 0 0 (.slice none 0 0), 67, 0, true⟩ := by rw [eh1]; exact row_push_new
  have l1 : h1.length = h.length + 1 := by rw [eh1]; simp
  have hp := prime_call q (by omega) h1 _ ho
  obtain ⟨h2, eh2⟩ : ∃ h2 : H, h2 = h1 ++ [zrR] := ⟨_, rfl⟩
  have r2 : h2.row h1.length = some ⟨fvL 0 0 0 0 (.slice none 0 0), 67, 0, true⟩ := by rw [eh2]; exact row_push_new
  have s2 := sts_whole (vs := fvL q p m 0 (.slice none 0 0)) r2 rfl
  obtain ⟨h3, eh3⟩ : ∃ h3 : H, h3 = h2.set h1.length (.row ⟨fvL q p m 0 (.slice none 0 0), 67, 0, true⟩) := ⟨_, rfl⟩
  rw [← eh3] at s2
  have p3 : h1 <+: h3 := by rw [eh3, eh2]; exact pre_set (List.prefix_append _ _) (Nat.le_refl _)
  have r3 : h3.row h1.length = some ⟨fvL q p m 0 (.slice none 0 0), 67, 0, true⟩ := by rw [eh3]; exact row_set_same (row_some_lt r2)
  have p1 : h <+: h1 := by rw [eh1]; exact List.prefix_append _ _
  have hp2 := hf.p2
  have hp0 : ¬ p = 0 := by omega
  have hlen3 : h3.length = h.length + 2 := by rw [eh3, eh2]; simp [l1]
  by_cases hm : m = 1
  · rw [if_pos hm] at hgl
    obtain ⟨hgen, rfl⟩ := hgl
    subst hm
    rw [show ((1 : Nat) : Int) = 1 from rfl] at s2 hp r3
    obtain ⟨h4, eh4⟩ : ∃ h4 : H, h4 = h3 ++ [.row ⟨[.int .i64 0, .int .i64 1], 3, 1, true⟩] := ⟨_, rfl⟩
    have r4 : h4.row h3.length = some ⟨ints [0, 1], 3, 1, true⟩ := by rw [eh4]; exact row_push_new
    have p4 : h3 <+: h4 := by rw [eh4]; exact List.prefix_append _ _
    have s4 := sts_cell (off := 4) (v := .slice (some ⟨h3.length, 0, none⟩) 2 2) (row_pre r3 p4) (by simp) (l' := fvL q p 1 0 (.slice (some ⟨h3.length, 0, none⟩) 2 2)) rfl
    obtain ⟨h5, eh5⟩ : ∃ h5 : H, h5 = h4.set h1.length (.row ⟨fvL q p 1 0 (.slice (some ⟨h3.length, 0, none⟩) 2 2), 67, 0, true⟩) := ⟨_, rfl⟩
    rw [← eh5] at s4
    have r5 : h5.row h1.length = some ⟨fvL q p 1 0 (.slice (some ⟨h3.length, 0, none⟩) 2 2), 67, 0, true⟩ := by rw [eh5]; exact row_set_same (row_some_lt (row_pre r3 p4))
    have r5o : h5.row h3.length = some ⟨ints [0, 1], 3, 1, true⟩ := by rw [eh5, row_set_other (by omega)]; exact r4
    have r5R : h5.row h.length = some ⟨fvL 0 0 0 0 (.slice none 0 0), 67, 0, true⟩ := by rw [eh5, row_set_other (by omega)]; exact row_pre r1 (p3.trans p4)
    have p5 : h <+: h5 := by rw [eh5]; exact pre_set ((p1.trans p3).trans p4) (by omega)
    have hpq : q = p := by have := hf.pm; rw [Int.pow_succ, Int.pow_zero, Int.one_mul] at this; exact this.symm
    obtain ⟨h6, p6, rm6, gl⟩ := gen_loop hf h h.length h1.length h3.length (by omega) (by omega) (by omega) (by omega) (by omega) hpq (q.toNat - 1) 1 g h5 (by omega) (by omega) hgen p5 ⟨_, rfl, r5R⟩ r5 r5o
    refine ⟨h6, h3.length, 2, p6, rm6, ?_⟩
    rw [call_at T43 rfl]
    unfold F43 c43
    simp (disch := first | omega | (simp only [Go.Am.len_push, Go.Am.len_set, Go.Am.len_kill] <;> omega) | fail) only [push_cast, Nat.reduceBEq, Nat.reduceAdd, Nat.reduceMul, Nat.reduceSub, Nat.reduceLT, Nat.reduceGT, Nat.reduceLeDiff, Nat.reduceEqDiff, Int.reduceToNat, Int.reduceAdd, Int.reduceMul, Int.reduceSub, Int.reduceNeg, Int.reduceLT, Int.reduceLE, Int.reduceEq, Nat.zero_add, Nat.add_zero, Nat.mul_one, eq_self, ne_eq, not_true, not_false_iff, and_true, true_and, and_self, List.getElem?_cons_zero, List.getElem?_cons_succ, List.map_cons, List.map_nil, ← eh1, dec_nlt, hp, dec_ne hp0, dec_eq, sp0, sp1, sp2, ← eh2, s2, ← eh4, s4]
    rw [gl]
  · rw [if_neg hm] at hgl
    obtain ⟨hlow, rfl⟩ := hgl
    have hmi : ¬ ((m : Int) = 1) := by omega
    have s4 := sts_cell (off := 3) (v := .int .i64 g) r3 (by simp) (l' := fvL q g m g (.slice none 0 0)) rfl
    obtain ⟨h5, eh5⟩ : ∃ h5 : H, h5 = h3.set h1.length (.row ⟨fvL q g m g (.slice none 0 0), 67, 0, true⟩) := ⟨_, rfl⟩
    rw [← eh5] at s4
    have r5 : h5.row h1.length = some ⟨fvL q g m g (.slice none 0 0), 67, 0, true⟩ := by rw [eh5]; exact row_set_same (row_some_lt r3)
    have r5R : h5.row h.length = some ⟨fvL 0 0 0 0 (.slice none 0 0), 67, 0, true⟩ := by rw [eh5, row_set_other (by omega)]; exact row_pre r1 p3
    have p5 : h <+: h5 := by rw [eh5]; exact pre_set (p1.trans p3) (by omega)
    have hl5 : h5.length = h.length + 2 := by rw [eh5]; simp [hlen3]
    have hpq : 0 ≤ g ∧ g < q := by omega
    have hff : ∀ low, 0 ≤ low → FOk q g m (digs g m low ++ [1]) := fun low h0 => ⟨hf.q2, hf.q64, hf.p2, hf.p64, hf.m1, hf.m10, hf.pm, by simp [digs_len], fun z hz => by
      rw [List.mem_append] at hz
      rcases hz with hz | hz
      · exact Dig.digs (by omega) _ _ z hz
      · simp at hz; omega⟩
    obtain ⟨h6, om, cm, p6, rm6, gl⟩ := low_loop hpq hff h h.length h1.length (by omega) (by omega) (by omega) q.toNat 0 mod (.slice none 0 0) h5 (by omega) (by omega) hlow p5 (by omega) (by omega) ⟨_, rfl, r5R⟩ r5
    refine ⟨h6, om, cm, p6, rm6, ?_⟩
    rw [call_at T43 rfl]
    unfold F43 c43
    simp (disch := first | omega | (simp only [Go.Am.len_push, Go.Am.len_set, Go.Am.len_kill] <;> omega) | fail) only [push_cast, Nat.reduceBEq, Nat.reduceAdd, Nat.reduceMul, Nat.reduceSub, Nat.reduceLT, Nat.reduceGT, Nat.reduceLeDiff, Nat.reduceEqDiff, Int.reduceToNat, Int.reduceAdd, Int.reduceMul, Int.reduceSub, Int.reduceNeg, Int.reduceLT, Int.reduceLE, Int.reduceEq, Nat.zero_add, Nat.add_zero, Nat.mul_one, eq_self, ne_eq, not_true, not_false_iff, and_true, true_and, and_self, List.getElem?_cons_zero, List.getElem?_cons_succ, List.map_cons, List.map_nil, ← eh1, dec_nlt, hp, dec_ne hp0, dec_ne hmi, sp0, sp1, sp2, ← eh2, s2, s4]
    rw [gl]
end Go.Proofs.Ytammndhoillliaa
