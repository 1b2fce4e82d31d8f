/-
  What field's prime, digits and number compute. Conditions: those of each theorem.
  What (*field.Field).turn computes. Conditions: those of each theorem.
  What (*field.Field).fill computes. Conditions: those of each theorem.
  What (*field.Field).fill computes, and the loops of field.build. Conditions: those of each theorem.
-/
import Derived.Test.YtammndhoillliaaFRb
namespace Go.Proofs.Ytammndhoillliaa
open Go.Am
set_option linter.unusedVariables false
set_option linter.unusedSimpArgs false
set_option maxRecDepth 30000

theorem pnumber_call (vs : List Value) (h : H) : call T 180 vs h = call T 127 vs h := by
  unfold call enter
  rw [T180, T127]
  rfl

def firstN : Nat → Int → Int → Option Int
  | 0, _, _ => none
  | n + 1, q, p => bif q % p == 0 then some p else firstN n q (p + 1)
def prP (q : Int) : Option (Int × Int) := match firstN 64 q 2 with
  | some p => match dvdN 64 q p 0 with
    | some (q', m) => some (bif q' == 1 then (p, m) else (0, 0))
    | none => none
  | none => none
theorem prP_checked : ((List.range 63).all fun n => decide (prP ((n + 2 : Nat) : Int) = outN 64 ((n + 2 : Nat) : Int) 2)) = true := by kernel_rfl
theorem prP_eq {q : Int} (hq : 2 ≤ q ∧ q ≤ 64) : prP q = outN 64 q 2 := by
  have h := List.all_eq_true.1 prP_checked (q.toNat - 2) (List.mem_range.2 (by omega))
  rw [show q.toNat - 2 + 2 = q.toNat by omega, decide_eq_true_eq] at h
  rw [show ((q.toNat : Nat) : Int) = q by omega] at h
  exact h
theorem pprime_in (p : Int) (hp : 2 ≤ p ∧ p ≤ 64) (h : H) : ∀ (n : Nat) (q m q' m' : Int), 1 ≤ q → q ≤ 64 → 0 ≤ m → m + n ≤ 100 → dvdN n q p m = some (q', m') →
    ∀ ks, goL T [.tmp 2, .tmp 3] [0, 2, 3] c128L1 (.blk 2 [0, 2, 3] :: ks) [(0, .int .i64 q), (2, .int .i64 p), (3, .int .i64 m)] h = go T [.tmp 2, .tmp 3] ks (Fr.of [(0, .int .i64 q'), (2, .int .i64 p), (3, .int .i64 m')]) h
  | 0, q, m, q', m', h1, h2, h3, h4, he => by cases he
  | n + 1, q, m, q', m', h1, h2, h3, h4, he => by
    rw [dvdN] at he
    have hp0 : ¬ p = 0 := by omega
    have q1 : q.tmod p = q % p := Int.tmod_eq_emod_of_nonneg (by omega)
    have q2 : q.tdiv p = q / p := Int.tdiv_eq_ediv_of_nonneg (by omega)
    by_cases hz : q % p = 0
    · rw [show (q % p == 0) = true by simpa using hz, cond_true] at he
      have hd : 1 ≤ q / p := by
        have := Int.mul_ediv_add_emod q p
        rw [hz, Int.add_zero] at this
        by_cases h0 : q / p ≤ 0
        · have : p * (q / p) ≤ p * 0 := Int.mul_le_mul_of_nonneg_left h0 (by omega)
          omega
        · omega
      have hd2 : q / p ≤ q := Int.ediv_le_self _ (by omega)
      have ih := pprime_in p hp h n (q / p) (m + 1) q' m' hd (by omega) (by omega) (by omega) he
      intro ks
      rw [← ih ks, goL_at c128L1.eq_def]
      simp (disch := first | omega | (simp only [Go.Am.len_push, Go.Am.len_set, Go.Am.len_kill] <;> omega) | fail) only [push_cast, Nat.reduceBEq, Nat.reduceAdd, Nat.reduceMul, Nat.reduceSub, Nat.reduceLT, Nat.reduceGT, Nat.reduceLeDiff, Nat.reduceEqDiff, Int.reduceToNat, Int.reduceAdd, Int.reduceMul, Int.reduceSub, Int.reduceNeg, Int.reduceLT, Int.reduceLE, Int.reduceEq, Nat.zero_add, Nat.add_zero, Nat.mul_one, eq_self, ne_eq, not_true, not_false_iff, and_true, true_and, and_self, List.getElem?_cons_zero, List.getElem?_cons_succ, List.map_cons, List.map_nil, hp0, q1, q2, dec_eq hz, wrap64]
    · rw [show (q % p == 0) = false by simpa using hz, cond_false] at he
      cases he
      intro ks
      rw [goL_at c128L1.eq_def]
      simp (disch := first | omega | (simp only [Go.Am.len_push, Go.Am.len_set, Go.Am.len_kill] <;> omega) | fail) only [push_cast, Nat.reduceBEq, Nat.reduceAdd, Nat.reduceMul, Nat.reduceSub, Nat.reduceLT, Nat.reduceGT, Nat.reduceLeDiff, Nat.reduceEqDiff, Int.reduceToNat, Int.reduceAdd, Int.reduceMul, Int.reduceSub, Int.reduceNeg, Int.reduceLT, Int.reduceLE, Int.reduceEq, Nat.zero_add, Nat.add_zero, Nat.mul_one, eq_self, ne_eq, not_true, not_false_iff, and_true, true_and, and_self, List.getElem?_cons_zero, List.getElem?_cons_succ, List.map_cons, List.map_nil, hp0, q1, dec_ne hz]
theorem pprime_first (q : Int) (hq : 2 ≤ q ∧ q ≤ 64) (h : H) : ∀ (n : Nat) (p r : Int), 2 ≤ p → p ≤ 1000 → firstN n q p = some r → p + n ≤ 1000 → (2 ≤ r ∧ q % r = 0) ∧
    ∀ ks, goL T [.tmp 2, .tmp 3] [0, 2, 3] c128L0 (.blk 0 [0, 2, 3] :: ks) [(0, .int .i64 q), (2, .int .i64 p), (3, .int .i64 0)] h = go T [.tmp 2, .tmp 3] ks (Fr.of [(0, .int .i64 q), (2, .int .i64 r), (3, .int .i64 0)]) h
  | 0, p, r, h1, h2, he, h3 => by cases he
  | n + 1, p, r, h1, h2, he, h3 => by
    rw [firstN] at he
    have hp0 : ¬ p = 0 := by omega
    have q1 : q.tmod p = q % p := Int.tmod_eq_emod_of_nonneg (by omega)
    by_cases hz : q % p = 0
    · rw [show (q % p == 0) = true by simpa using hz, cond_true] at he
      cases he
      refine ⟨⟨h1, hz⟩, fun ks => ?_⟩
      rw [goL_at c128L0.eq_def]
      simp (disch := first | omega | (simp only [Go.Am.len_push, Go.Am.len_set, Go.Am.len_kill] <;> omega) | fail) only [push_cast, Nat.reduceBEq, Nat.reduceAdd, Nat.reduceMul, Nat.reduceSub, Nat.reduceLT, Nat.reduceGT, Nat.reduceLeDiff, Nat.reduceEqDiff, Int.reduceToNat, Int.reduceAdd, Int.reduceMul, Int.reduceSub, Int.reduceNeg, Int.reduceLT, Int.reduceLE, Int.reduceEq, Nat.zero_add, Nat.add_zero, Nat.mul_one, eq_self, ne_eq, not_true, not_false_iff, and_true, true_and, and_self, List.getElem?_cons_zero, List.getElem?_cons_succ, List.map_cons, List.map_nil, hp0, q1, dec_eq hz]
    · rw [show (q % p == 0) = false by simpa using hz, cond_false] at he
      obtain ⟨hr, ih⟩ := pprime_first q hq h n (p + 1) r (by omega) (by omega) he (by omega)
      refine ⟨hr, fun ks => ?_⟩
      rw [← ih ks, goL_at c128L0.eq_def]
      simp (disch := first | omega | (simp only [Go.Am.len_push, Go.Am.len_set, Go.Am.len_kill] <;> omega) | fail) only [push_cast, Nat.reduceBEq, Nat.reduceAdd, Nat.reduceMul, Nat.reduceSub, Nat.reduceLT, Nat.reduceGT, Nat.reduceLeDiff, Nat.reduceEqDiff, Int.reduceToNat, Int.reduceAdd, Int.reduceMul, Int.reduceSub, Int.reduceNeg, Int.reduceLT, Int.reduceLE, Int.reduceEq, Nat.zero_add, Nat.add_zero, Nat.mul_one, eq_self, ne_eq, not_true, not_false_iff, and_true, true_and, and_self, List.getElem?_cons_zero, List.getElem?_cons_succ, List.map_cons, List.map_nil, hp0, q1, dec_ne hz, wrap64]
theorem pprime_call (q : Int) (hq : 2 ≤ q ∧ q ≤ 64) (h : H) (r : Int × Int) (he : outN 64 q 2 = some r) : call T 128 [.int .i64 q] h = some (.tuple #[.int .i64 r.1, .int .i64 r.2], h) := by
  rw [← prP_eq hq] at he
  unfold prP at he
  cases hf : firstN 64 q 2 with
  | none => rw [hf] at he; cases he
  | some p =>
    rw [hf] at he
    simp only at he
    cases hd : dvdN 64 q p 0 with
    | none => rw [hd] at he; cases he
    | some x =>
      obtain ⟨q', m'⟩ := x
      rw [hd] at he
      simp only [Option.some.injEq] at he
      obtain ⟨⟨hp2, hpd⟩, f1⟩ := pprime_first q hq h 64 2 p (by omega) (by omega) hf (by omega)
      have hp64 : p ≤ 64 := by
        by_cases hl : q < p
        · rw [Int.emod_eq_of_lt (by omega) hl] at hpd; omega
        · omega
      have f2 := pprime_in p ⟨hp2, hp64⟩ h 64 q 0 q' m' (by omega) (by omega) (by omega) (by omega) hd
      rw [call_at T128 rfl]
      unfold F128 c128
      simp (disch := first | omega | (simp only [Go.Am.len_push, Go.Am.len_set, Go.Am.len_kill] <;> omega) | fail) only [push_cast, Nat.reduceBEq, Nat.reduceAdd, Nat.reduceMul, Nat.reduceSub, Nat.reduceLT, Nat.reduceGT, Nat.reduceLeDiff, Nat.reduceEqDiff, Int.reduceToNat, Int.reduceAdd, Int.reduceMul, Int.reduceSub, Int.reduceNeg, Int.reduceLT, Int.reduceLE, Int.reduceEq, Nat.zero_add, Nat.add_zero, Nat.mul_one, eq_self, ne_eq, not_true, not_false_iff, and_true, true_and, and_self, List.getElem?_cons_zero, List.getElem?_cons_succ, List.map_cons, List.map_nil]
      rw [f1]
      simp (disch := first | omega | (simp only [Go.Am.len_push, Go.Am.len_set, Go.Am.len_kill] <;> omega) | fail) only [push_cast, Nat.reduceBEq, Nat.reduceAdd, Nat.reduceMul, Nat.reduceSub, Nat.reduceLT, Nat.reduceGT, Nat.reduceLeDiff, Nat.reduceEqDiff, Int.reduceToNat, Int.reduceAdd, Int.reduceMul, Int.reduceSub, Int.reduceNeg, Int.reduceLT, Int.reduceLE, Int.reduceEq, Nat.zero_add, Nat.add_zero, Nat.mul_one, eq_self, ne_eq, not_true, not_false_iff, and_true, true_and, and_self, List.getElem?_cons_zero, List.getElem?_cons_succ, List.map_cons, List.map_nil]
      rw [f2]
      by_cases ho : q' = 1
      · rw [show (q' == 1) = true by simpa using ho, cond_true] at he
        rw [← he]
        simp (disch := first | omega | (simp only [Go.Am.len_push, Go.Am.len_set, Go.Am.len_kill] <;> omega) | fail) only [push_cast, Nat.reduceBEq, Nat.reduceAdd, Nat.reduceMul, Nat.reduceSub, Nat.reduceLT, Nat.reduceGT, Nat.reduceLeDiff, Nat.reduceEqDiff, Int.reduceToNat, Int.reduceAdd, Int.reduceMul, Int.reduceSub, Int.reduceNeg, Int.reduceLT, Int.reduceLE, Int.reduceEq, Nat.zero_add, Nat.add_zero, Nat.mul_one, eq_self, ne_eq, not_true, not_false_iff, and_true, true_and, and_self, List.getElem?_cons_zero, List.getElem?_cons_succ, List.map_cons, List.map_nil, dec_eq ho]
      · rw [show (q' == 1) = false by simpa using ho, cond_false] at he
        rw [← he]
        simp (disch := first | omega | (simp only [Go.Am.len_push, Go.Am.len_set, Go.Am.len_kill] <;> omega) | fail) only [push_cast, Nat.reduceBEq, Nat.reduceAdd, Nat.reduceMul, Nat.reduceSub, Nat.reduceLT, Nat.reduceGT, Nat.reduceLeDiff, Nat.reduceEqDiff, Int.reduceToNat, Int.reduceAdd, Int.reduceMul, Int.reduceSub, Int.reduceNeg, Int.reduceLT, Int.reduceLE, Int.reduceEq, Nat.zero_add, Nat.add_zero, Nat.mul_one, eq_self, ne_eq, not_true, not_false_iff, and_true, true_and, and_self, List.getElem?_cons_zero, List.getElem?_cons_succ, List.map_cons, List.map_nil, dec_ne ho]

theorem set_push {h : H} {x y : Ob} : (h ++ [x]).set h.length y = h ++ [y] := by rw [List.set_append_right _ _ (Nat.le_refl _)]; simp
theorem pdigs_loop (p : Int) (m : Nat) (h : H) (hp : 1 ≤ p) (hm : m ≤ 1000) : ∀ (k : Nat) (a i : Int) (done : List Int), i = (done.length : Int) → done.length + k = m → 0 ≤ a → a ≤ 1000000 →
    ∀ ks, goL T [.tmp 6] [0, 1, 7, 12, 13] c116L0 (.blk 0 [7] :: ks) [(0, .int .i64 a), (1, .int .i64 p), (7, .slice (some ⟨h.length, 0, none⟩) m m), (12, .int .i64 m), (13, .int .i64 i)] (h ++ [.row ⟨ints (done ++ List.replicate k 0), 3, 1, true⟩]) =
      go T [.tmp 6] ks (Fr.of [(7, .slice (some ⟨h.length, 0, none⟩) m m)]) (h ++ [.row ⟨ints (done ++ digs p k a), 3, 1, true⟩])
  | 0, a, i, done, hi, hk, ha, ha2 => fun ks => by
    subst hi
    rw [goL_at c116L0.eq_def]
    have : (done.length : Int) = (m : Int) := by omega
    simp (disch := first | omega | (simp only [Go.Am.len_push, Go.Am.len_set, Go.Am.len_kill] <;> omega) | fail) only [push_cast, Nat.reduceBEq, Nat.reduceAdd, Nat.reduceMul, Nat.reduceSub, Nat.reduceLT, Nat.reduceGT, Nat.reduceLeDiff, Nat.reduceEqDiff, Int.reduceToNat, Int.reduceAdd, Int.reduceMul, Int.reduceSub, Int.reduceNeg, Int.reduceLT, Int.reduceLE, Int.reduceEq, Nat.zero_add, Nat.add_zero, Nat.mul_one, eq_self, ne_eq, not_true, not_false_iff, and_true, true_and, and_self, List.getElem?_cons_zero, List.getElem?_cons_succ, List.map_cons, List.map_nil, dec_nlt, digs, List.replicate]
  | k + 1, a, i, done, hi, hk, ha, ha2 => fun ks => by
    subst hi
    have hr : H.row (h ++ [.row ⟨ints (done ++ List.replicate (k + 1) 0), 3, 1, true⟩]) h.length = some ⟨ints (done ++ List.replicate (k + 1) 0), 3, 1, true⟩ := row_push_new
    have es := sts_int hr (i := (done.length : Int)) (v := a % p) (by omega) (by simp; omega)
    have hset : (done ++ List.replicate (k + 1) 0).set ((done.length : Int)).toNat (a % p) = done ++ [a % p] ++ List.replicate k 0 := by
      rw [List.replicate_succ, set_mid (by omega)]; simp
    rw [hset, set_push] at es
    have hd1 : 0 ≤ a / p := Int.ediv_nonneg ha (by omega)
    have hd2 : a / p ≤ a := Int.ediv_le_self _ ha
    have ih := pdigs_loop p m h hp hm k (a / p) ((done.length : Int) + 1) (done ++ [a % p]) (by simp) (by simp; omega) hd1 (by omega) ks
    have he : done ++ digs p (k + 1) a = done ++ [a % p] ++ digs p k (a / p) := by simp [digs]
    have hp0 : ¬ p = 0 := by omega
    have q1 : a.tmod p = a % p := Int.tmod_eq_emod_of_nonneg ha
    have q2 : a.tdiv p = a / p := Int.tdiv_eq_ediv_of_nonneg ha
    have hi1 : 0 ≤ (done.length : Int) ∧ (done.length : Int) < (m : Int) := by omega
    rw [he, ← ih, goL_at c116L0.eq_def]
    simp (disch := first | omega | (simp only [Go.Am.len_push, Go.Am.len_set, Go.Am.len_kill] <;> omega) | fail) only [push_cast, Nat.reduceBEq, Nat.reduceAdd, Nat.reduceMul, Nat.reduceSub, Nat.reduceLT, Nat.reduceGT, Nat.reduceLeDiff, Nat.reduceEqDiff, Int.reduceToNat, Int.reduceAdd, Int.reduceMul, Int.reduceSub, Int.reduceNeg, Int.reduceLT, Int.reduceLE, Int.reduceEq, Nat.zero_add, Nat.add_zero, Nat.mul_one, eq_self, ne_eq, not_true, not_false_iff, and_true, true_and, and_self, List.getElem?_cons_zero, List.getElem?_cons_succ, List.map_cons, List.map_nil, dec_lt, wrap64, hp0, q1, q2, hi1, es]
theorem pdigits_call (a p : Int) (m : Nat) (h : H) (hp : 1 ≤ p) (hm : m ≤ 1000) (ha : 0 ≤ a) (ha2 : a ≤ 1000000) :
    call T 116 [.int .i64 a, .int .i64 p, .int .i64 m] h = some (.slice (some ⟨h.length, 0, none⟩) m m, h ++ [.row ⟨ints (digs p m a), 3, 1, true⟩]) := by
  rw [call_at T116 rfl]
  unfold F116 c116
  have c1 : 0 ≤ (m : Int) ∧ (m : Int) ≤ (m : Int) ∧ (m : Int) ≤ 1099511627776 ∧ (m : Int) * 8 ≤ 140737488355328 := by omega
  have ih := pdigs_loop p m h hp hm m a 0 [] rfl (by simp) ha ha2
  simp only [List.nil_append] at ih
  simp (disch := first | omega | (simp only [Go.Am.len_push, Go.Am.len_set, Go.Am.len_kill] <;> omega) | fail) only [push_cast, Nat.reduceBEq, Nat.reduceAdd, Nat.reduceMul, Nat.reduceSub, Nat.reduceLT, Nat.reduceGT, Nat.reduceLeDiff, Nat.reduceEqDiff, Int.reduceToNat, Int.reduceAdd, Int.reduceMul, Int.reduceSub, Int.reduceNeg, Int.reduceLT, Int.reduceLE, Int.reduceEq, Nat.zero_add, Nat.add_zero, Nat.mul_one, eq_self, ne_eq, not_true, not_false_iff, and_true, true_and, and_self, List.getElem?_cons_zero, List.getElem?_cons_succ, List.map_cons, List.map_nil, c1, rep_int, Int.toNat_natCast]
  rw [ih]
  simp (disch := first | omega | (simp only [Go.Am.len_push, Go.Am.len_set, Go.Am.len_kill] <;> omega) | fail) only [push_cast, Nat.reduceBEq, Nat.reduceAdd, Nat.reduceMul, Nat.reduceSub, Nat.reduceLT, Nat.reduceGT, Nat.reduceLeDiff, Nat.reduceEqDiff, Int.reduceToNat, Int.reduceAdd, Int.reduceMul, Int.reduceSub, Int.reduceNeg, Int.reduceLT, Int.reduceLE, Int.reduceEq, Nat.zero_add, Nat.add_zero, Nat.mul_one, eq_self, ne_eq, not_true, not_false_iff, and_true, true_and, and_self, List.getElem?_cons_zero, List.getElem?_cons_succ, List.map_cons, List.map_nil]
end Go.Proofs.Ytammndhoillliaa
namespace Go.Proofs.Ytammndhoillliaa
open Go.Am
set_option linter.unusedVariables false
set_option linter.unusedSimpArgs false
set_option maxRecDepth 30000

/-- a field's cells as the program holds it -/
abbrev pfL (q p m : Int) (ms : Value) (g : Int) (es ls : Value) : List Value := [.int .i64 q, .int .i64 p, .int .i64 m, ms, .int .i64 g, es, ls]
abbrev pfR (q p m : Int) (ms : Value) (g : Int) (es ls : Value) : Row := ⟨pfL q p m ms g es ls, 112, 0, true⟩
def negm (p : Int) (m : Nat) (mod : List Int) : List Int := (mod.take m).map fun d => p - d
def turnP (p : Int) (m : Nat) (g : Int) (mod : List Int) (a : Int) : Int :=
  if m = 1 then a * g % p else numb p (axpy p (gi (digs p m a) (m - 1 : Nat)) (0 :: (digs p m a).take (m - 1)) (negm p m mod))

section
variable {q p g : Int} {m : Nat} {mod : List Int} {om fm cm F : Nat} {es ls : Value} {h1 : H}

theorem turn_loop (hf : FOk q p m mod) (hF : h1.row F = some (pfR q p m (.slice (some ⟨om, fm, none⟩) mod.length cm) g es ls)) (hM : RdI h1 (some ⟨om, fm, none⟩) cm mod) (top : Int) (ht : 0 ≤ top ∧ top < p) :
    ∀ (n : Nat) (k : Int) (pre rest : List Int) (G : H), k = (pre.length : Int) → pre.length + n = m → rest.length = n → Dig p (pre ++ rest) → h1 <+: G → G.row h1.length = some ⟨ints (pre ++ rest), 3, 1, true⟩ →
    ∃ G' : H, h1 <+: G' ∧ G'.row h1.length = some ⟨ints (pre ++ axpy p top rest ((negm p m mod).drop pre.length)), 3, 1, true⟩ ∧ Dig p (pre ++ axpy p top rest ((negm p m mod).drop pre.length)) ∧
      ∀ ks, goL T [.tmp 4] [0, 5, 6, 55, 56] c171L0 (.blk 0 [0, 5] :: ks) [(0, .pointer (some ⟨F, 0, none⟩)), (5, .slice (some ⟨h1.length, 0, none⟩) m m), (6, .int .i64 top), (55, .int .i64 m), (56, .int .i64 k)] G =
        go T [.tmp 4] ks (Fr.of [(0, .pointer (some ⟨F, 0, none⟩)), (5, .slice (some ⟨h1.length, 0, none⟩) m m)]) G'
  | 0, k, pre, rest, G, hk, hn, hl, hd, hp1, hr => by
    subst hk
    obtain rfl := List.eq_nil_of_length_eq_zero hl
    have e2 : ∀ l, axpy p top [] l = [] := fun l => by cases l <;> rfl
    refine ⟨G, hp1, by rw [e2]; exact hr, by rw [e2]; exact hd, fun ks => ?_⟩
    rw [goL_at c171L0.eq_def]
    simp (disch := first | omega | (simp only [Go.Am.len_push, Go.Am.len_set, Go.Am.len_kill] <;> omega) | fail) only [push_cast, Nat.reduceBEq, Nat.reduceAdd, Nat.reduceMul, Nat.reduceSub, Nat.reduceLT, Nat.reduceGT, Nat.reduceLeDiff, Nat.reduceEqDiff, Int.reduceToNat, Int.reduceAdd, Int.reduceMul, Int.reduceSub, Int.reduceNeg, Int.reduceLT, Int.reduceLE, Int.reduceEq, Nat.zero_add, Nat.add_zero, Nat.mul_one, eq_self, ne_eq, not_true, not_false_iff, and_true, true_and, and_self, List.getElem?_cons_zero, List.getElem?_cons_succ, List.map_cons, List.map_nil, dec_nlt]
  | n + 1, k, pre, rest, G, hk, hn, hl, hd, hp1, hr => by
    subst hk
    have hp := hf.p2
    have hp64 := hf.p64
    have hm10 := hf.m10
    have hml := hf.ml
    obtain ⟨a, r, rfl⟩ : ∃ a r, rest = a :: r := cons_of_len (by omega)
    have b1 : G.ld1 F 1 = some (.int .i64 p) := ld1_at (row_pre hF hp1) rfl
    have b3 : G.ld1 F 3 = some (.slice (some ⟨om, fm, none⟩) mod.length cm) := ld1_at (row_pre hF hp1) rfl
    have em := (hM.mono hp1).ld (i := (pre.length : Int)) (by omega) (by omega)
    have ge : gi (pre ++ a :: r) (pre.length : Int) = a := gi_mid rfl
    have el := ld1_int hr (i := (pre.length : Int)) (by omega) (by simp; omega)
    rw [ge] at el
    have hlt := row_some_lt hr
    have hi2 : 0 ≤ (pre.length : Int) ∧ (pre.length : Int) < (m : Int) + 1 := by omega
    have hi3 : 0 ≤ (pre.length : Int) ∧ (pre.length : Int) < (m : Int) := by omega
    have hmk := gi_nonneg (p := p) (by omega) hf.dig (pre.length : Int)
    have hxy : 0 ≤ top * (p - gi mod (pre.length : Int)) ∧ top * (p - gi mod (pre.length : Int)) ≤ 4096 := by
      have : top * (p - gi mod (pre.length : Int)) ≤ 64 * 64 := Int.mul_le_mul (by omega) (by omega) (by omega) (by omega)
      exact ⟨Int.mul_nonneg ht.1 (by omega), this⟩
    have ha := hd a (by simp)
    obtain ⟨v, hv⟩ : ∃ v, v = (a + top * (p - gi mod (pre.length : Int))) % p := ⟨_, rfl⟩
    have es' := sts_int hr (i := (pre.length : Int)) (v := v) (by omega) (by simp; omega)
    have hset : (pre ++ a :: r).set ((pre.length : Int)).toNat v = pre ++ [v] ++ r := by rw [set_mid (by omega)]; simp
    have q1 : (a + top * (p - gi mod (pre.length : Int))).tmod p = v := by rw [hv]; exact Int.tmod_eq_emod_of_nonneg (by omega)
    have hvd : 0 ≤ v ∧ v < p := by rw [hv]; exact ⟨Int.emod_nonneg _ (by omega), Int.emod_lt_of_pos _ (by omega)⟩
    have hd' : Dig p (pre ++ [v] ++ r) := by
      intro z hz
      simp only [List.append_assoc, List.mem_append, List.mem_cons, List.not_mem_nil, or_false] at hz
      rcases hz with hz | rfl | hz
      · exact hd z (by simp [hz])
      · exact hvd
      · exact hd z (by simp [hz])
    have hrow' : H.row (G.set h1.length (.row ⟨ints (pre ++ [v] ++ r), 3, 1, true⟩)) h1.length = some ⟨ints (pre ++ [v] ++ r), 3, 1, true⟩ := row_set_same hlt
    obtain ⟨G', p', r', d', ih⟩ := turn_loop hf hF hM top ht n ((pre.length : Int) + 1) (pre ++ [v]) r _ (by simp) (by simp; omega) (by simpa using hl) hd' (pre_set hp1 (Nat.le_refl _)) hrow'
    have hkl : pre.length < (negm p m mod).length := by unfold negm; simp; omega
    have hgk : gi (negm p m mod) pre.length = p - gi mod (pre.length : Int) := by
      unfold gi negm
      rw [List.getD_eq_getElem?_getD, List.getD_eq_getElem?_getD, List.getElem?_map, List.getElem?_take, if_pos (by omega), List.getElem?_eq_getElem (show ((pre.length : Int)).toNat < mod.length by omega)]
      rfl
    have hpl : (pre ++ [v]).length = pre.length + 1 := by simp
    have he : pre ++ axpy p top (a :: r) ((negm p m mod).drop pre.length) = pre ++ [v] ++ axpy p top r ((negm p m mod).drop (pre ++ [v]).length) := by
      rw [drop_gi hkl, hgk, axpy, hpl, hv]; simp
    refine ⟨G', p', by rw [he]; exact r', by rw [he]; exact d', fun ks => ?_⟩
    rw [hset] at es'
    rw [← ih ks, goL_at c171L0.eq_def]
    have hp0 : ¬ p = 0 := by omega
    rw [hml] at b3
    simp (disch := first | omega | (simp only [Go.Am.len_push, Go.Am.len_set, Go.Am.len_kill] <;> omega) | fail) only [push_cast, Nat.reduceBEq, Nat.reduceAdd, Nat.reduceMul, Nat.reduceSub, Nat.reduceLT, Nat.reduceGT, Nat.reduceLeDiff, Nat.reduceEqDiff, Int.reduceToNat, Int.reduceAdd, Int.reduceMul, Int.reduceSub, Int.reduceNeg, Int.reduceLT, Int.reduceLE, Int.reduceEq, Nat.zero_add, Nat.add_zero, Nat.mul_one, eq_self, ne_eq, not_true, not_false_iff, and_true, true_and, and_self, List.getElem?_cons_zero, List.getElem?_cons_succ, List.map_cons, List.map_nil, dec_lt, wrap64, b1, b3, em, el, hi2, hi3, hp0, q1, es']

theorem turn_call (hf : FOk q p m mod) (h : H) (hF : h.row F = some (pfR q p m (.slice (some ⟨om, fm, none⟩) mod.length cm) g es ls)) (hM : RdI h (some ⟨om, fm, none⟩) cm mod) (hg : 0 ≤ g ∧ g < q) (a : Int) (ha : 0 ≤ a ∧ a < q) :
    ∃ h' : H, h <+: h' ∧ call T 171 [.pointer (some ⟨F, 0, none⟩), .int .i64 a] h = some (.int .i64 (turnP p m g mod a), h') := by
  have hp := hf.p2
  have hp64 := hf.p64
  have hq64 := hf.q64
  have hm1 := hf.m1
  have hm10 := hf.m10
  have hp0 : ¬ p = 0 := by omega
  have b2 : h.ld1 F 2 = some (.int .i64 m) := ld1_at hF rfl
  have b1 : h.ld1 F 1 = some (.int .i64 p) := ld1_at hF rfl
  have b4 : h.ld1 F 4 = some (.int .i64 g) := ld1_at hF rfl
  by_cases hm : m = 1
  · refine ⟨h, List.prefix_refl _, ?_⟩
    have hmi : (m : Int) = 1 := by omega
    have hab : a * g ≤ 64 * 64 := Int.mul_le_mul (by omega) (by omega) (by omega) (by omega)
    have hab0 := Int.mul_nonneg ha.1 hg.1
    have q1 : (a * g).tmod p = a * g % p := Int.tmod_eq_emod_of_nonneg hab0
    rw [turnP, if_pos hm, call_at T171 rfl]
    unfold F171 c171
    simp (disch := first | omega | (simp only [Go.Am.len_push, Go.Am.len_set, Go.Am.len_kill] <;> omega) | fail) only [push_cast, Nat.reduceBEq, Nat.reduceAdd, Nat.reduceMul, Nat.reduceSub, Nat.reduceLT, Nat.reduceGT, Nat.reduceLeDiff, Nat.reduceEqDiff, Int.reduceToNat, Int.reduceAdd, Int.reduceMul, Int.reduceSub, Int.reduceNeg, Int.reduceLT, Int.reduceLE, Int.reduceEq, Nat.zero_add, Nat.add_zero, Nat.mul_one, eq_self, ne_eq, not_true, not_false_iff, and_true, true_and, and_self, List.getElem?_cons_zero, List.getElem?_cons_succ, List.map_cons, List.map_nil, b1, b2, b4, dec_eq hmi, wrap64, hp0, q1]
  have hmi : ¬ (m : Int) = 1 := by omega
  obtain ⟨ds, hds⟩ : ∃ ds, ds = digs p m a := ⟨_, rfl⟩
  have hdl : ds.length = m := by rw [hds]; exact digs_len _ _ _
  have hdd : Dig p ds := by rw [hds]; exact Dig.digs (by omega) _ _
  have ed := pdigits_call a p m h (by omega) (by omega) ha.1 (by omega)
  rw [← hds] at ed
  obtain ⟨h1, eh1⟩ : ∃ h1 : H, h1 = h ++ [.row ⟨ints ds, 3, 1, true⟩] := ⟨_, rfl⟩
  rw [← eh1] at ed
  have r1 : h1.row h.length = some ⟨ints ds, 3, 1, true⟩ := by rw [eh1]; exact row_push_new
  have p1 : h <+: h1 := by rw [eh1]; exact List.prefix_append _ _
  have b21 := ld1_pre b2 p1
  have b11 := ld1_pre b1 p1
  obtain ⟨top, htop⟩ : ∃ t, t = gi ds (m - 1 : Nat) := ⟨_, rfl⟩
  have ht := gi_nonneg (p := p) (by omega) hdd (m - 1 : Nat)
  rw [← htop] at ht
  have e1 := ld1_int r1 (i := (m : Int) - 1) (by omega) (by omega)
  have e1' : gi ds ((m : Int) - 1) = top := by rw [htop, show ((m - 1 : Nat) : Int) = (m : Int) - 1 by omega]
  rw [e1'] at e1
  have hi1 : 0 ≤ (m : Int) - 1 ∧ (m : Int) - 1 < (m : Int) := by omega
  -- the copy
  obtain ⟨d0, dr, hd0⟩ : ∃ d0 dr, ds = d0 :: dr := cons_of_len (by omega)
  have hcp : acpy 1 h1 (.slice (some ⟨h.length, 1, none⟩) (m - 1) (m - 1)) (.slice (some ⟨h.length, 0, none⟩) (m - 1) m) = some (.int .i64 ((m - 1 : Nat) : Int), h ++ [.row ⟨ints (d0 :: ds.take (m - 1)), 3, 1, true⟩]) := by
    unfold acpy srcCells
    simp only [Nat.min_self]
    rw [if_neg (by omega), if_pos (Nat.le_refl _)]
    simp only [none_isNone, if_true, Nat.mul_one]
    rw [lds_int r1 (by omega), List.drop_zero]
    dsimp only
    rw [if_neg (by omega)]
    unfold H.sts
    rw [r1]
    simp only [Bool.true_and, ints_len]
    rw [if_pos (by simp; omega), eh1, set_push]
    dsimp only
    congr 5
    unfold splice ints
    rw [hd0]
    simp only [List.map_cons, List.take_succ_cons, List.take_zero, List.cons_append, List.nil_append, List.length_map, List.length_take, List.length_cons]
    rw [hd0, List.length_cons] at hdl
    rw [List.drop_eq_nil_of_le (by simp; omega)]
    simp
  obtain ⟨h2, eh2⟩ : ∃ h2 : H, h2 = h ++ [.row ⟨ints (d0 :: ds.take (m - 1)), 3, 1, true⟩] := ⟨_, rfl⟩
  rw [← eh2] at hcp
  have r2 : h2.row h.length = some ⟨ints (d0 :: ds.take (m - 1)), 3, 1, true⟩ := by rw [eh2]; exact row_push_new
  have s2 := sts_int r2 (i := 0) (v := 0) (by omega) (by simp only [List.length_cons]; omega)
  rw [show (d0 :: ds.take (m - 1)).set (0 : Int).toNat 0 = 0 :: ds.take (m - 1) from rfl, eh2, set_push, ← eh2, show (0 : Int).toNat = 0 from rfl] at s2
  obtain ⟨h3, eh3⟩ : ∃ h3 : H, h3 = h ++ [.row ⟨ints (0 :: ds.take (m - 1)), 3, 1, true⟩] := ⟨_, rfl⟩
  rw [← eh3] at s2
  have r3 : h3.row h.length = some ⟨ints ([] ++ (0 :: ds.take (m - 1))), 3, 1, true⟩ := by rw [eh3]; exact row_push_new
  have p3 : h <+: h3 := by rw [eh3]; exact List.prefix_append _ _
  have hd3 : Dig p ([] ++ (0 :: ds.take (m - 1))) := by
    intro z hz
    rw [List.nil_append, List.mem_cons] at hz
    rcases hz with rfl | hz
    · omega
    · exact hdd z (List.mem_of_mem_take hz)
  obtain ⟨h4, p4, r4, d4, tl⟩ := turn_loop hf hF hM top ht m 0 [] (0 :: ds.take (m - 1)) h3 rfl (by simp) (by simp; omega) hd3 p3 r3
  simp only [List.nil_append, List.length_nil, List.drop_zero] at r4 d4
  obtain ⟨z, hz⟩ : ∃ z, z = axpy p top (0 :: ds.take (m - 1)) (negm p m mod) := ⟨_, rfl⟩
  rw [← hz] at r4 d4
  have hzl : z.length = m := by rw [hz, axpy_len]; simp; omega
  have rz : RdI h4 (some ⟨h.length, 0, none⟩) m z := by have := RdI.ofRow r4 rfl; rw [hzl] at this; exact this
  have hb : ∀ j, j ≤ z.length → 0 ≤ numb p (z.drop j) ∧ numb p (z.drop j) ≤ 1000000 := by
    intro j hj
    have h1 := numb_bound (p := p) (by omega) (l := z.drop j) (fun x hx => d4 x (List.mem_of_mem_drop hx))
    have h2 : p ^ (z.drop j).length ≤ p ^ m := ipow_mono (by omega) (by rw [List.length_drop]; omega)
    rw [hf.pm] at h2
    omega
  have hnum := number_call p z (some ⟨h.length, 0, none⟩) m h4 rz (by omega) hp64 (fun x hx => by have := d4 x hx; omega) (by omega) (by omega) hb
  rw [hzl, ← pnumber_call] at hnum
  have b14 := ld1_pre b1 p4
  have hu : unitOk h1 1 (some ⟨h.length, 0, none⟩) = true := by unfold unitOk; simp only [r1]; rfl
  have c1 : 0 ≤ (1 : Int) ∧ (1 : Int) ≤ (m : Int) ∧ (m : Int) ≤ (m : Int) := by omega
  have c2 : 0 ≤ (0 : Int) ∧ 0 ≤ (m : Int) - 1 ∧ (m : Int) - 1 ≤ (m : Int) := by omega
  have c3 : ((m : Int) - 1).toNat = m - 1 := by omega
  rw [c3] at e1
  have c4 : 0 ≤ (0 : Int) ∧ (0 : Int) < (m : Int) := by omega
  refine ⟨h4, p4, ?_⟩
  rw [turnP, if_neg hm, ← hds, ← htop, ← hz, call_at T171 rfl]
  unfold F171 c171
  simp (disch := first | omega | (simp only [Go.Am.len_push, Go.Am.len_set, Go.Am.len_kill] <;> omega) | fail) only [push_cast, Nat.reduceBEq, Nat.reduceAdd, Nat.reduceMul, Nat.reduceSub, Nat.reduceLT, Nat.reduceGT, Nat.reduceLeDiff, Nat.reduceEqDiff, Int.reduceToNat, Int.reduceAdd, Int.reduceMul, Int.reduceSub, Int.reduceNeg, Int.reduceLT, Int.reduceLE, Int.reduceEq, Nat.zero_add, Nat.add_zero, Nat.mul_one, eq_self, ne_eq, not_true, not_false_iff, and_true, true_and, and_self, List.getElem?_cons_zero, List.getElem?_cons_succ, List.map_cons, List.map_nil, b1, b2, dec_ne hmi, ed, b21, b11, wrap64, hi1, e1, hu, c1, c2, c3, Int.sub_zero, Int.toNat_natCast, ite_self, hmi, hcp, c4.2, s2]
  rw [tl]
  simp (disch := first | omega | (simp only [Go.Am.len_push, Go.Am.len_set, Go.Am.len_kill] <;> omega) | fail) only [push_cast, Nat.reduceBEq, Nat.reduceAdd, Nat.reduceMul, Nat.reduceSub, Nat.reduceLT, Nat.reduceGT, Nat.reduceLeDiff, Nat.reduceEqDiff, Int.reduceToNat, Int.reduceAdd, Int.reduceMul, Int.reduceSub, Int.reduceNeg, Int.reduceLT, Int.reduceLE, Int.reduceEq, Nat.zero_add, Nat.add_zero, Nat.mul_one, eq_self, ne_eq, not_true, not_false_iff, and_true, true_and, and_self, List.getElem?_cons_zero, List.getElem?_cons_succ, List.map_cons, List.map_nil, b14, hnum]
end
end Go.Proofs.Ytammndhoillliaa
namespace Go.Proofs.Ytammndhoillliaa
open Go.Am
set_option linter.unusedVariables false
set_option linter.unusedSimpArgs false
set_option maxRecDepth 30000

theorem RdI.at {h h' : H} {o off c : Nat} {zs : List Int} (hr : RdI h (some ⟨o, off, none⟩) c zs) (he : h'.row o = h.row o) : RdI h' (some ⟨o, off, none⟩) c zs := by
  rcases hr with ⟨h1, _⟩ | ⟨h1, o', off', r, h2, h3, h4⟩
  · cases h1
  · cases h2
    exact .inr ⟨h1, o, off, r, rfl, by rw [he]; exact h3, h4⟩
theorem get_set_ne {h : H} {o o' : Nat} {b : Ob} (hne : o ≠ o') : (h.set o b)[o']? = h[o']? := List.getElem?_set_ne hne
theorem turnP_range {q p g : Int} {m : Nat} {mod : List Int} (hf : FOk q p m mod) (a : Int) : 0 ≤ turnP p m g mod a ∧ turnP p m g mod a < q := by
  have hp := hf.p2
  have hm1 := hf.m1
  unfold turnP
  by_cases h1 : m = 1
  · rw [if_pos h1]
    have := hf.pm
    rw [h1, Int.pow_succ, Int.pow_zero, Int.one_mul] at this
    rw [this]
    have := hf.q2
    exact ⟨Int.emod_nonneg _ (by omega), Int.emod_lt_of_pos _ (by omega)⟩
  · rw [if_neg h1, ← hf.pm]
    have hd : Dig p (0 :: (digs p m a).take (m - 1)) := by
      intro z hz
      rw [List.mem_cons] at hz
      rcases hz with rfl | hz
      · omega
      · exact Dig.digs (by omega) m a z (List.mem_of_mem_take hz)
    have h2 := numb_bound (p := p) (by omega) (Dig.axpy (c := gi (digs p m a) (m - 1 : Nat)) (by omega) (negm p m mod) hd)
    have hl : (axpy p (gi (digs p m a) (m - 1 : Nat)) (0 :: (digs p m a).take (m - 1)) (negm p m mod)).length = m := by
      rw [axpy_len, List.length_cons, List.length_take, digs_len]; omega
    rw [hl] at h2
    exact h2

/-- the powers and their places -/
def fillN (p : Int) (m : Nat) (g : Int) (mod : List Int) : Nat → Int → Int → List Int → List Int → Option (List Int × List Int × Int)
  | 0, _, a, e, l => some (e, l, a)
  | n + 1, k, a, e, l => bif (a == 0) || decide (0 ≤ gi l a) then none else fillN p m g mod n (k + 1) (turnP p m g mod a) (e.set k.toNat a) (l.set a.toNat k)

section
variable {q p g : Int} {m : Nat} {mod : List Int} {om fm cm F n0 : Nat} {h3 : H}

theorem log_loop (hq : 2 ≤ q ∧ q ≤ 64) (pf : List Value) (hpf : pf[6]? = some (.slice (some ⟨n0 + 1, 0, none⟩) q.toNat q.toNat)) (hF : h3.row F = some ⟨pf, 112, 0, true⟩) (hFl : F < n0) :
    ∀ (n : Nat) (i : Int) (iN : Nat) (G : H), i = (iN : Int) → iN + n = q.toNat → (∀ o, o ≤ n0 → G[o]? = h3[o]?) → G.row (n0 + 1) = some ⟨ints (List.replicate iN (-1) ++ List.replicate n 0), 3, 1, true⟩ →
    ∃ G' : H, (∀ o, o ≤ n0 → G'[o]? = h3[o]?) ∧ G'.row (n0 + 1) = some ⟨ints (List.replicate q.toNat (-1)), 3, 1, true⟩ ∧
      ∀ ks, goL T [.tmp 2] [0, 27, 28] c157L0 (.blk 0 [0] :: ks) [(0, .pointer (some ⟨F, 0, none⟩)), (27, .int .i64 q), (28, .int .i64 i)] G = go T [.tmp 2] ks (Fr.of [(0, .pointer (some ⟨F, 0, none⟩))]) G'
  | 0, i, iN, G, hi, hn, hk, hr => by
    subst hi
    refine ⟨G, hk, by rw [hr, show iN = q.toNat by omega]; simp, fun ks => ?_⟩
    rw [goL_at c157L0.eq_def]
    simp (disch := first | omega | (simp only [Go.Am.len_push, Go.Am.len_set, Go.Am.len_kill] <;> omega) | fail) only [push_cast, Nat.reduceBEq, Nat.reduceAdd, Nat.reduceMul, Nat.reduceSub, Nat.reduceLT, Nat.reduceGT, Nat.reduceLeDiff, Nat.reduceEqDiff, Int.reduceToNat, Int.reduceAdd, Int.reduceMul, Int.reduceSub, Int.reduceNeg, Int.reduceLT, Int.reduceLE, Int.reduceEq, Nat.zero_add, Nat.add_zero, Nat.mul_one, eq_self, ne_eq, not_true, not_false_iff, and_true, true_and, and_self, List.getElem?_cons_zero, List.getElem?_cons_succ, List.map_cons, List.map_nil, dec_nlt]
  | n + 1, i, iN, G, hi, hn, hk, hr => by
    subst hi
    have b6 : G.ld1 F 6 = some (.slice (some ⟨n0 + 1, 0, none⟩) q.toNat q.toNat) := ld1_at (by rw [row_get (hk F (by omega))]; exact hF) hpf
    have es := sts_int hr (i := (iN : Int)) (v := -1) (by omega) (by simp; omega)
    have hset : (List.replicate iN (-1) ++ List.replicate (n + 1) 0).set ((iN : Int)).toNat (-1 : Int) = List.replicate (iN + 1) (-1) ++ List.replicate n 0 := by
      rw [List.replicate_succ, set_mid (by simp), List.replicate_succ' (n := iN)]; simp
    rw [hset] at es
    obtain ⟨G1, eG1⟩ : ∃ G1 : H, G1 = G.set (n0 + 1) (.row ⟨ints (List.replicate (iN + 1) (-1) ++ List.replicate n 0), 3, 1, true⟩) := ⟨_, rfl⟩
    rw [← eG1] at es
    have r1 : G1.row (n0 + 1) = some ⟨ints (List.replicate (iN + 1) (-1) ++ List.replicate n 0), 3, 1, true⟩ := by rw [eG1]; exact row_set_same (row_some_lt hr)
    obtain ⟨G', k', r', ih⟩ := log_loop hq pf hpf hF hFl n ((iN : Int) + 1) (iN + 1) G1 (by omega) (by omega) (fun o ho => by rw [eG1, get_set_ne (by omega)]; exact hk o ho) r1
    refine ⟨G', k', r', fun ks => ?_⟩
    have hi1 : 0 ≤ (iN : Int) ∧ (iN : Int) < ((q.toNat : Nat) : Int) := by omega
    have hi2 : (iN : Int) < max q 0 := by omega
    rw [← ih ks, goL_at c157L0.eq_def]
    simp (disch := first | omega | (simp only [Go.Am.len_push, Go.Am.len_set, Go.Am.len_kill] <;> omega) | fail) only [push_cast, Nat.reduceBEq, Nat.reduceAdd, Nat.reduceMul, Nat.reduceSub, Nat.reduceLT, Nat.reduceGT, Nat.reduceLeDiff, Nat.reduceEqDiff, Int.reduceToNat, Int.reduceAdd, Int.reduceMul, Int.reduceSub, Int.reduceNeg, Int.reduceLT, Int.reduceLE, Int.reduceEq, Nat.zero_add, Nat.add_zero, Nat.mul_one, eq_self, ne_eq, not_true, not_false_iff, and_true, true_and, and_self, List.getElem?_cons_zero, List.getElem?_cons_succ, List.map_cons, List.map_nil, dec_lt, b6, hi1, hi2, es, wrap64]

theorem fill_loop (hf : FOk q p m mod) (hg : 0 ≤ g ∧ g < q) (hF : h3.row F = some (pfR q p m (.slice (some ⟨om, fm, none⟩) mod.length cm) g (.slice (some ⟨n0, 0, none⟩) (q - 1).toNat (q - 1).toNat) (.slice (some ⟨n0 + 1, 0, none⟩) q.toNat q.toNat))) (hFl : F < n0)
    (hM : RdI h3 (some ⟨om, fm, none⟩) cm mod) (hom : om < n0) :
    ∀ (n : Nat) (k a : Int) (e l : List Int) (G : H), k + n = q - 1 → 0 ≤ k → 0 ≤ a ∧ a < q → e.length = (q - 1).toNat → l.length = q.toNat → (∀ o, o < n0 → G[o]? = h3[o]?) → n0 + 2 ≤ G.length → G.row n0 = some ⟨ints e, 3, 1, true⟩ → G.row (n0 + 1) = some ⟨ints l, 3, 1, true⟩ →
    ∃ G' : H, (∀ o, o < n0 → G'[o]? = h3[o]?) ∧ n0 + 2 ≤ G'.length ∧ (∀ e' l' a', fillN p m g mod n k a e l = some (e', l', a') → G'.row n0 = some ⟨ints e', 3, 1, true⟩ ∧ G'.row (n0 + 1) = some ⟨ints l', 3, 1, true⟩ ∧ e'.length = (q - 1).toNat ∧ l'.length = q.toNat) ∧
      ∀ ks, goL T [.tmp 2] [0, 4, 42, 43] c157L1 (.blk 2 [4] :: ks) [(0, .pointer (some ⟨F, 0, none⟩)), (4, .int .i64 a), (42, .int .i64 (q - 1)), (43, .int .i64 k)] G =
        match fillN p m g mod n k a e l with
        | none => some (.bool false, G')
        | some (_, _, a') => go T [.tmp 2] ks (Fr.of [(4, .int .i64 a')]) G'
  | 0, k, a, e, l, G, hk, hk0, ha, hel, hll, hK, hGl, hrE, hrL => by
    refine ⟨G, hK, hGl, fun e' l' a' he => by rw [fillN] at he; cases he; exact ⟨hrE, hrL, hel, hll⟩, fun ks => ?_⟩
    rw [goL_at c157L1.eq_def, fillN]
    simp (disch := first | omega | (simp only [Go.Am.len_push, Go.Am.len_set, Go.Am.len_kill] <;> omega) | fail) only [push_cast, Nat.reduceBEq, Nat.reduceAdd, Nat.reduceMul, Nat.reduceSub, Nat.reduceLT, Nat.reduceGT, Nat.reduceLeDiff, Nat.reduceEqDiff, Int.reduceToNat, Int.reduceAdd, Int.reduceMul, Int.reduceSub, Int.reduceNeg, Int.reduceLT, Int.reduceLE, Int.reduceEq, Nat.zero_add, Nat.add_zero, Nat.mul_one, eq_self, ne_eq, not_true, not_false_iff, and_true, true_and, and_self, List.getElem?_cons_zero, List.getElem?_cons_succ, List.map_cons, List.map_nil, dec_nlt]
  | n + 1, k, a, e, l, G, hk, hk0, ha, hel, hll, hK, hGl, hrE, hrL => by
    have hq2 := hf.q2
    have hq64 := hf.q64
    have hkl : k < q - 1 := by omega
    have rF := (row_get (hK F (by omega))).trans hF
    have b5 : G.ld1 F 5 = some (.slice (some ⟨n0, 0, none⟩) (q - 1).toNat (q - 1).toNat) := ld1_at rF rfl
    have b6 : G.ld1 F 6 = some (.slice (some ⟨n0 + 1, 0, none⟩) q.toNat q.toNat) := ld1_at rF rfl
    by_cases hz : a = 0
    · refine ⟨G, hK, hGl, fun e' l' a' he => (by rw [fillN, show (a == 0) = true by simpa using hz, Bool.true_or, cond_true] at he; cases he), fun ks => ?_⟩
      rw [goL_at c157L1.eq_def, fillN, show (a == 0) = true by simpa using hz, Bool.true_or, cond_true]
      simp (disch := first | omega | (simp only [Go.Am.len_push, Go.Am.len_set, Go.Am.len_kill] <;> omega) | fail) only [push_cast, Nat.reduceBEq, Nat.reduceAdd, Nat.reduceMul, Nat.reduceSub, Nat.reduceLT, Nat.reduceGT, Nat.reduceLeDiff, Nat.reduceEqDiff, Int.reduceToNat, Int.reduceAdd, Int.reduceMul, Int.reduceSub, Int.reduceNeg, Int.reduceLT, Int.reduceLE, Int.reduceEq, Nat.zero_add, Nat.add_zero, Nat.mul_one, eq_self, ne_eq, not_true, not_false_iff, and_true, true_and, and_self, List.getElem?_cons_zero, List.getElem?_cons_succ, List.map_cons, List.map_nil, dec_lt, dec_eq hz]
    have hzb : (a == 0) = false := by simpa using hz
    have hi1 : 0 ≤ a ∧ a < ((q.toNat : Nat) : Int) := by omega
    have hi2 : a < max q 0 := by omega
    have el := ld1_int hrL (i := a) (by omega) (by omega)
    by_cases hlg : 0 ≤ gi l a
    · refine ⟨G, hK, hGl, fun e' l' a' he => (by rw [fillN, hzb, Bool.false_or, decide_eq_true hlg, cond_true] at he; cases he), fun ks => ?_⟩
      rw [goL_at c157L1.eq_def, fillN, hzb, Bool.false_or, decide_eq_true hlg, cond_true]
      simp (disch := first | omega | (simp only [Go.Am.len_push, Go.Am.len_set, Go.Am.len_kill] <;> omega) | fail) only [push_cast, Nat.reduceBEq, Nat.reduceAdd, Nat.reduceMul, Nat.reduceSub, Nat.reduceLT, Nat.reduceGT, Nat.reduceLeDiff, Nat.reduceEqDiff, Int.reduceToNat, Int.reduceAdd, Int.reduceMul, Int.reduceSub, Int.reduceNeg, Int.reduceLT, Int.reduceLE, Int.reduceEq, Nat.zero_add, Nat.add_zero, Nat.mul_one, eq_self, ne_eq, not_true, not_false_iff, and_true, true_and, and_self, List.getElem?_cons_zero, List.getElem?_cons_succ, List.map_cons, List.map_nil, dec_lt, dec_ne hz, b6, hi1, hi2, el, dec_le hlg]
    have hi3 : 0 ≤ k ∧ k < (((q - 1).toNat : Nat) : Int) := by omega
    have hi4 : k < max (q - 1) 0 := by omega
    have s1 := sts_int hrE (i := k) (v := a) (by omega) (by omega)
    obtain ⟨G1, eG1⟩ : ∃ G1 : H, G1 = G.set n0 (.row ⟨ints (e.set k.toNat a), 3, 1, true⟩) := ⟨_, rfl⟩
    rw [← eG1] at s1
    have r1L : G1.row (n0 + 1) = some ⟨ints l, 3, 1, true⟩ := by rw [eG1, row_set_other (by omega)]; exact hrL
    have r1E : G1.row n0 = some ⟨ints (e.set k.toNat a), 3, 1, true⟩ := by rw [eG1]; exact row_set_same (row_some_lt hrE)
    have s2 := sts_int r1L (i := a) (v := k) (by omega) (by omega)
    obtain ⟨G2, eG2⟩ : ∃ G2 : H, G2 = G1.set (n0 + 1) (.row ⟨ints (l.set a.toNat k), 3, 1, true⟩) := ⟨_, rfl⟩
    rw [← eG2] at s2
    have r2E : G2.row n0 = some ⟨ints (e.set k.toNat a), 3, 1, true⟩ := by rw [eG2, row_set_other (by omega)]; exact r1E
    have r2L : G2.row (n0 + 1) = some ⟨ints (l.set a.toNat k), 3, 1, true⟩ := by rw [eG2]; exact row_set_same (row_some_lt r1L)
    have K2 : ∀ o, o < n0 → G2[o]? = h3[o]? := fun o ho => by rw [eG2, get_set_ne (by omega), eG1, get_set_ne (by omega)]; exact hK o ho
    have l2 : G2.length = G.length := by rw [eG2, eG1]; simp
    obtain ⟨G3, p3, et⟩ := turn_call hf G2 ((row_get (K2 F (by omega))).trans hF) (RdI.at hM (row_get (K2 om hom))) hg a ha
    have K3 : ∀ o, o < n0 → G3[o]? = h3[o]? := fun o ho => by rw [pre_get' p3 (by omega)]; exact K2 o ho
    obtain ⟨G4, K4, l4, R4, ih⟩ := fill_loop hf hg hF hFl hM hom n (k + 1) (turnP p m g mod a) (e.set k.toNat a) (l.set a.toNat k) G3 (by omega) (by omega) (turnP_range hf a) (by simpa using hel) (by simpa using hll) K3 (by have := pre_len p3; omega) (row_pre r2E p3) (row_pre r2L p3)
    have hfe : fillN p m g mod (n + 1) k a e l = fillN p m g mod n (k + 1) (turnP p m g mod a) (e.set k.toNat a) (l.set a.toNat k) := by
      rw [fillN, hzb, Bool.false_or, decide_eq_false hlg, cond_false]
    refine ⟨G4, K4, l4, by rw [hfe]; exact R4, fun ks => ?_⟩
    rw [hfe, ← ih ks, goL_at c157L1.eq_def]
    simp (disch := first | omega | (simp only [Go.Am.len_push, Go.Am.len_set, Go.Am.len_kill] <;> omega) | fail) only [push_cast, Nat.reduceBEq, Nat.reduceAdd, Nat.reduceMul, Nat.reduceSub, Nat.reduceLT, Nat.reduceGT, Nat.reduceLeDiff, Nat.reduceEqDiff, Int.reduceToNat, Int.reduceAdd, Int.reduceMul, Int.reduceSub, Int.reduceNeg, Int.reduceLT, Int.reduceLE, Int.reduceEq, Nat.zero_add, Nat.add_zero, Nat.mul_one, eq_self, ne_eq, not_true, not_false_iff, and_true, true_and, and_self, List.getElem?_cons_zero, List.getElem?_cons_succ, List.map_cons, List.map_nil, dec_lt, dec_ne hz, b5, b6, hi1, hi2, hi3, hi4, el, dec_nle (Int.not_le.1 hlg), s1, s2, et, wrap64]
end
end Go.Proofs.Ytammndhoillliaa
namespace Go.Proofs.Ytammndhoillliaa
open Go.Am
set_option linter.unusedVariables false
set_option linter.unusedSimpArgs false
set_option maxRecDepth 30000

/-- all but one object as before -/
structure But (F : Nat) (h h' : H) : Prop where
  len : h.length ≤ h'.length
  get : ∀ o, o < h.length → o ≠ F → h'[o]? = h[o]?
theorem But.refl (F : Nat) (h : H) : But F h h := ⟨Nat.le_refl _, fun _ _ _ => rfl⟩
theorem But.trans {F : Nat} {h h' h'' : H} (a : But F h h') (b : But F h' h'') : But F h h'' :=
  ⟨Nat.le_trans a.len b.len, fun o ho hne => by rw [b.get o (by have := a.len; omega) hne, a.get o ho hne]⟩
theorem But.ofPre {F : Nat} {h h' : H} (p : h <+: h') : But F h h' := ⟨pre_len p, fun o ho _ => pre_get' p ho⟩
theorem But.set {F : Nat} {h : H} {x : Ob} : But F h (h.set F x) := ⟨by simp, fun o ho hne => get_set_ne (fun e => hne e.symm)⟩
theorem But.pre {F : Nat} {h h' b : H} (a : But F h h') (hb : b <+: h) (hl : b.length ≤ F) : b <+: h' :=
  pre_of (by have := pre_len hb; have := a.len; omega) (fun o ho => by rw [a.get o (by have := pre_len hb; omega) (by omega)]; exact pre_get' hb ho)

def fillT (q p : Int) (m : Nat) (g : Int) (mod : List Int) : Option (List Int × List Int × Int) := fillN p m g mod (q - 1).toNat 0 1 (List.replicate (q - 1).toNat 0) (List.replicate q.toNat (-1))
def fillB (q p : Int) (m : Nat) (g : Int) (mod : List Int) : Bool := match fillT q p m g mod with
  | some (_, _, a) => decide (a = 1)
  | none => false

/-- what the program has of a field: its tables -/
structure PTab (h : H) (F : Nat) (q p : Int) (m : Nat) (ms : Value) (g : Int) (e l : List Int) : Prop where
  ok : ∃ E L, F < E ∧ F < L ∧ h.row F = some (pfR q p m ms g (.slice (some ⟨E, 0, none⟩) (q - 1).toNat (q - 1).toNat) (.slice (some ⟨L, 0, none⟩) q.toNat q.toNat)) ∧
    h.row E = some ⟨ints e, 3, 1, true⟩ ∧ h.row L = some ⟨ints l, 3, 1, true⟩ ∧ e.length = (q - 1).toNat ∧ l.length = q.toNat

section
variable {q p g : Int} {m : Nat} {mod : List Int} {om fm cm F : Nat}

theorem fill_call (hf : FOk q p m mod) (hg : 0 ≤ g ∧ g < q) (h : H) {es ls : Value} (hF : h.row F = some (pfR q p m (.slice (some ⟨om, fm, none⟩) mod.length cm) g es ls)) (hM : RdI h (some ⟨om, fm, none⟩) cm mod) (hom : om ≠ F) :
    ∃ h' : H, But F h h' ∧ (∃ es' ls', h'.row F = some (pfR q p m (.slice (some ⟨om, fm, none⟩) mod.length cm) g es' ls')) ∧
      (∀ e l a, fillT q p m g mod = some (e, l, a) → PTab h' F q p m (.slice (some ⟨om, fm, none⟩) mod.length cm) g e l) ∧
      call T 157 [.pointer (some ⟨F, 0, none⟩)] h = some (.bool (fillB q p m g mod), h') := by
  have hq2 := hf.q2
  have hq64 := hf.q64
  have hml := hf.ml
  obtain ⟨ms, hms⟩ : ∃ ms, ms = Value.slice (some ⟨om, fm, none⟩) mod.length cm := ⟨_, rfl⟩
  rw [← hms] at hF ⊢
  have hFl := row_some_lt hF
  have hol : om < h.length := by
    obtain ⟨_, _, e, h1, _⟩ := hM.addr (by omega)
    cases e; exact h1
  have b0 : h.ld1 F 0 = some (.int .i64 q) := ld1_at hF rfl
  -- exp
  obtain ⟨h1, eh1⟩ : ∃ h1 : H, h1 = h ++ [.row ⟨ints (List.replicate (q - 1).toNat 0), 3, 1, true⟩] := ⟨_, rfl⟩
  have p1 : h <+: h1 := by rw [eh1]; exact List.prefix_append _ _
  have r1 : h1.row h.length = some ⟨ints (List.replicate (q - 1).toNat 0), 3, 1, true⟩ := by rw [eh1]; exact row_push_new
  have l1 : h1.length = h.length + 1 := by rw [eh1]; simp
  obtain ⟨xs, hxs⟩ : ∃ x, x = Value.slice (some ⟨h.length, 0, none⟩) (q - 1).toNat (q - 1).toNat := ⟨_, rfl⟩
  have s1 := sts_cell (off := 5) (v := xs) (row_pre hF p1) (by simp) (l' := pfL q p m ms g xs ls) rfl
  obtain ⟨h2, eh2⟩ : ∃ h2 : H, h2 = h1.set F (.row (pfR q p m ms g xs ls)) := ⟨_, rfl⟩
  rw [← eh2] at s1
  have r2F : h2.row F = some (pfR q p m ms g xs ls) := by rw [eh2]; exact row_set_same (by omega)
  have l2 : h2.length = h.length + 1 := by rw [eh2]; simp [l1]
  have b02 : h2.ld1 F 0 = some (.int .i64 q) := ld1_at r2F rfl
  -- log
  obtain ⟨h3, eh3⟩ : ∃ h3 : H, h3 = h2 ++ [.row ⟨ints (List.replicate q.toNat 0), 3, 1, true⟩] := ⟨_, rfl⟩
  have p3 : h2 <+: h3 := by rw [eh3]; exact List.prefix_append _ _
  have r3 : h3.row (h.length + 1) = some ⟨ints (List.replicate q.toNat 0), 3, 1, true⟩ := by rw [eh3, ← l2]; exact row_push_new
  obtain ⟨ys, hys⟩ : ∃ y, y = Value.slice (some ⟨h.length + 1, 0, none⟩) q.toNat q.toNat := ⟨_, rfl⟩
  have s3 := sts_cell (off := 6) (v := ys) (row_pre r2F p3) (by simp) (l' := pfL q p m ms g xs ys) rfl
  obtain ⟨h4, eh4⟩ : ∃ h4 : H, h4 = h3.set F (.row (pfR q p m ms g xs ys)) := ⟨_, rfl⟩
  rw [← eh4] at s3
  have l3 : h3.length = h.length + 2 := by rw [eh3]; simp [l2]
  have l4 : h4.length = h.length + 2 := by rw [eh4]; simp [l3]
  have r4F : h4.row F = some (pfR q p m ms g xs ys) := by rw [eh4]; exact row_set_same (by omega)
  have r4E : h4.row h.length = some ⟨ints (List.replicate (q - 1).toNat 0), 3, 1, true⟩ := by
    rw [eh4, row_set_other (by omega)]
    refine row_pre ?_ p3
    rw [eh2, row_set_other (by omega)]; exact r1
  have r4L : h4.row (h.length + 1) = some ⟨ints (List.replicate 0 (-1) ++ List.replicate q.toNat 0), 3, 1, true⟩ := by rw [eh4, row_set_other (by omega)]; exact r3
  have bt : But F h h4 := ((But.ofPre p1).trans (by rw [eh2]; exact But.set)).trans ((But.ofPre p3).trans (by rw [eh4]; exact But.set))
  have b64 : h4.ld1 F 6 = some ys := ld1_at r4F rfl
  obtain ⟨h5, k5, r5L, lo⟩ := log_loop (n0 := h.length) (h3 := h4) (q := q) ⟨hq2, hq64⟩ (pfL q p m ms g xs ys) (by rw [hys]; rfl) r4F hFl q.toNat 0 0 h4 rfl (by omega) (fun _ _ => rfl) r4L
  have r5F : h5.row F = some (pfR q p m ms g xs ys) := (row_get (k5 F (by omega))).trans r4F
  have r5E : h5.row h.length = some ⟨ints (List.replicate (q - 1).toNat 0), 3, 1, true⟩ := (row_get (k5 h.length (by omega))).trans r4E
  have b05 : h5.ld1 F 0 = some (.int .i64 q) := ld1_at r5F rfl
  have l5 : h.length + 2 ≤ h5.length := by have := row_some_lt r5L; omega
  have hM5 : RdI h5 (some ⟨om, fm, none⟩) cm mod := RdI.at hM ((row_get (k5 om (by omega))).trans (row_get (bt.get om hol hom)))
  rw [hxs, hys, hms] at r5F
  obtain ⟨h6, k6, l6, R6, fo⟩ := fill_loop (n0 := h.length) hf hg r5F hFl hM5 hol (q - 1).toNat 0 1 (List.replicate (q - 1).toNat 0) (List.replicate q.toNat (-1)) h5 (by omega) (by omega) (by omega) (by simp) (by simp) (fun _ _ => rfl) l5 r5E r5L
  have r6F : h6.row F = some (pfR q p m ms g xs ys) := by rw [row_get (k6 F (by omega)), hxs, hys, hms]; exact r5F
  refine ⟨h6, ⟨by omega, fun o ho hne => by rw [k6 o ho, k5 o (by omega), bt.get o ho hne]⟩, ⟨xs, ys, r6F⟩, fun e l a he => ?_, ?_⟩
  · obtain ⟨q1, q2, q3, q4⟩ := R6 e l a he
    exact ⟨h.length, h.length + 1, by omega, by omega, by rw [r6F, hxs, hys], q1, q2, q3, q4⟩
  rw [call_at T157 rfl]
  unfold F157 c157
  have c1 : 0 ≤ q - 1 ∧ q - 1 ≤ q - 1 ∧ q - 1 ≤ 1099511627776 ∧ (q - 1) * 8 ≤ 140737488355328 := by omega
  have c2 : 0 ≤ q ∧ q ≤ q ∧ q ≤ 1099511627776 ∧ q * 8 ≤ 140737488355328 := by omega
  have c3 : max q 0 = q := by omega
  subst hxs hys
  simp (disch := first | omega | (simp only [Go.Am.len_push, Go.Am.len_set, Go.Am.len_kill] <;> omega) | fail) only [push_cast, Nat.reduceBEq, Nat.reduceAdd, Nat.reduceMul, Nat.reduceSub, Nat.reduceLT, Nat.reduceGT, Nat.reduceLeDiff, Nat.reduceEqDiff, Int.reduceToNat, Int.reduceAdd, Int.reduceMul, Int.reduceSub, Int.reduceNeg, Int.reduceLT, Int.reduceLE, Int.reduceEq, Nat.zero_add, Nat.add_zero, Nat.mul_one, eq_self, ne_eq, not_true, not_false_iff, and_true, true_and, and_self, List.getElem?_cons_zero, List.getElem?_cons_succ, List.map_cons, List.map_nil, b0, wrap64, c1, rep_int, ← eh1, s1, b02, c2, ← eh3, l2, s3, b64, c3]
  rw [show ((q.toNat : Nat) : Int) = q by omega, lo]
  simp (disch := first | omega | (simp only [Go.Am.len_push, Go.Am.len_set, Go.Am.len_kill] <;> omega) | fail) only [push_cast, Nat.reduceBEq, Nat.reduceAdd, Nat.reduceMul, Nat.reduceSub, Nat.reduceLT, Nat.reduceGT, Nat.reduceLeDiff, Nat.reduceEqDiff, Int.reduceToNat, Int.reduceAdd, Int.reduceMul, Int.reduceSub, Int.reduceNeg, Int.reduceLT, Int.reduceLE, Int.reduceEq, Nat.zero_add, Nat.add_zero, Nat.mul_one, eq_self, ne_eq, not_true, not_false_iff, and_true, true_and, and_self, List.getElem?_cons_zero, List.getElem?_cons_succ, List.map_cons, List.map_nil, b05, wrap64]
  rw [fo]
  unfold fillB fillT
  cases hx : fillN p m g mod (q - 1).toNat 0 1 (List.replicate (q - 1).toNat 0) (List.replicate q.toNat (-1)) with
  | none => rfl
  | some x =>
    obtain ⟨e, l, a⟩ := x
    simp (disch := first | omega | (simp only [Go.Am.len_push, Go.Am.len_set, Go.Am.len_kill] <;> omega) | fail) only [push_cast, Nat.reduceBEq, Nat.reduceAdd, Nat.reduceMul, Nat.reduceSub, Nat.reduceLT, Nat.reduceGT, Nat.reduceLeDiff, Nat.reduceEqDiff, Int.reduceToNat, Int.reduceAdd, Int.reduceMul, Int.reduceSub, Int.reduceNeg, Int.reduceLT, Int.reduceLE, Int.reduceEq, Nat.zero_add, Nat.add_zero, Nat.mul_one, eq_self, ne_eq, not_true, not_false_iff, and_true, true_and, and_self, List.getElem?_cons_zero, List.getElem?_cons_succ, List.map_cons, List.map_nil]
end
end Go.Proofs.Ytammndhoillliaa
