/-
  What weights.at, args and Shows compute. Conditions: those of each theorem.
-/
import Derived.Test.YtammndhoillliaaWD
namespace Go.Proofs.Ytammndhoillliaa
open Go.Am
set_option linter.unusedVariables false
set_option linter.unusedSimpArgs false
set_option maxRecDepth 30000

/-- the polynomial of Krawtchouk's numbers, from the k-th on -/
def atN (q : Int) (n x : Nat) (fs : List Int) : Nat → Nat → Int → Int
  | 0, _, s => s
  | m + 1, k, s => atN q n x fs m (k + 1) (IntKind.wrap .i64 (s + IntKind.wrap .i64 (gi fs k * krN q n k x)))
def atA (q : Int) (n : Nat) (fs : List Int) (x : Nat) : Int := atN q n x fs (n + 1) 0 0
section
variable {q : Int} {n : Nat} {fs : List Int} {h : H} {o off c : Nat}
theorem pat_loop (h2 : 2 ≤ q) (h64 : q ≤ 64) (hn : n ≤ 30) (hf : RdI h (some ⟨o, off, none⟩) c fs) (hl : fs.length = n + 1) (x : Nat) (hx : x ≤ n) : ∀ (m k : Nat) (s : Int), k + m = n + 1 → ∀ ks,
    goL T [.tmp 6] [0, 1, 2, 7, 10, 11, 12] c121L0 (.blk 0 [7] :: ks) [(0, .int .i64 q), (1, .slice (some ⟨o, off, none⟩) (n + 1) c), (2, .int .i64 x), (7, .int .i64 s), (10, .slice (some ⟨o, off, none⟩) (n + 1) c), (11, .int .i64 (n + 1)), (12, .int .i64 k)] h =
      go T [.tmp 6] ks (Fr.of [(7, .int .i64 (atN q n x fs m k s))]) h
  | 0, k, s, hk, ks => by
    rw [goL_at c121L0.eq_def, atN]
    have hle : (n : Int) + 1 ≤ (k : Int) := by omega
    simp (disch := first | omega | (simp only [Go.Am.len_push, Go.Am.len_set, Go.Am.len_kill] <;> omega) | fail) only [push_cast, Nat.reduceBEq, Nat.reduceAdd, Nat.reduceMul, Nat.reduceSub, Nat.reduceLT, Nat.reduceGT, Nat.reduceLeDiff, Nat.reduceEqDiff, Int.reduceToNat, Int.reduceAdd, Int.reduceMul, Int.reduceSub, Int.reduceNeg, Int.reduceLT, Int.reduceLE, Int.reduceEq, Nat.zero_add, Nat.add_zero, Nat.mul_one, eq_self, ne_eq, not_true, not_false_iff, and_true, true_and, and_self, List.getElem?_cons_zero, List.getElem?_cons_succ, List.map_cons, List.map_nil, dec_nlt hle]
  | m + 1, k, s, hk, ks => by
    have hlt : (k : Int) < (n : Int) + 1 := by omega
    have hb : (0 : Int) ≤ (k : Int) ∧ (k : Int) < (n : Int) + 1 := by omega
    have l1 := hf.ld (i := (k : Int)) (by omega) (by omega)
    have ek := pkraw_call h2 h64 h n k x hn (by omega) hx
    have w1 : IntKind.wrap .i64 ((n : Int) + 1 - 1) = (n : Int) := by rw [wrap64 (by omega) (by omega)]; omega
    have w2 : IntKind.wrap .i64 ((k : Int) + 1) = (k : Int) + 1 := wrap64 (by omega) (by omega)
    have ih := pat_loop h2 h64 hn hf hl x hx m (k + 1) (IntKind.wrap .i64 (s + IntKind.wrap .i64 (gi fs k * krN q n k x))) (by omega) ks
    rw [Int.natCast_add, Int.natCast_one] at ih
    rw [goL_at c121L0.eq_def, atN, ← ih]
    simp (disch := first | omega | (simp only [Go.Am.len_push, Go.Am.len_set, Go.Am.len_kill] <;> omega) | fail) only [push_cast, Nat.reduceBEq, Nat.reduceAdd, Nat.reduceMul, Nat.reduceSub, Nat.reduceLT, Nat.reduceGT, Nat.reduceLeDiff, Nat.reduceEqDiff, Int.reduceToNat, Int.reduceAdd, Int.reduceMul, Int.reduceSub, Int.reduceNeg, Int.reduceLT, Int.reduceLE, Int.reduceEq, Nat.zero_add, Nat.add_zero, Nat.mul_one, eq_self, ne_eq, not_true, not_false_iff, and_true, true_and, and_self, List.getElem?_cons_zero, List.getElem?_cons_succ, List.map_cons, List.map_nil, dec_lt hlt, hb, l1, w1, ek, w2]
theorem pat_call (h2 : 2 ≤ q) (h64 : q ≤ 64) (hn : n ≤ 30) (hf : RdI h (some ⟨o, off, none⟩) c fs) (hl : fs.length = n + 1) (x : Nat) (hx : x ≤ n) :
    call T 121 [.int .i64 q, .slice (some ⟨o, off, none⟩) (n + 1) c, .int .i64 x] h = some (.int .i64 (atA q n fs x), h) := by
  rw [call_at T121 rfl]
  unfold F121 c121
  have hlo := fun ks => pat_loop h2 h64 hn hf hl x hx (n + 1) 0 0 (by omega) ks
  simp only [Int.natCast_zero] at hlo
  simp (disch := first | omega | (simp only [Go.Am.len_push, Go.Am.len_set, Go.Am.len_kill] <;> omega) | fail) only [push_cast, Nat.reduceBEq, Nat.reduceAdd, Nat.reduceMul, Nat.reduceSub, Nat.reduceLT, Nat.reduceGT, Nat.reduceLeDiff, Nat.reduceEqDiff, Int.reduceToNat, Int.reduceAdd, Int.reduceMul, Int.reduceSub, Int.reduceNeg, Int.reduceLT, Int.reduceLE, Int.reduceEq, Nat.zero_add, Nat.add_zero, Nat.mul_one, eq_self, ne_eq, not_true, not_false_iff, and_true, true_and, and_self, List.getElem?_cons_zero, List.getElem?_cons_succ, List.map_cons, List.map_nil]
  rw [hlo]
  simp (disch := first | omega | (simp only [Go.Am.len_push, Go.Am.len_set, Go.Am.len_kill] <;> omega) | fail) only [push_cast, Nat.reduceBEq, Nat.reduceAdd, Nat.reduceMul, Nat.reduceSub, Nat.reduceLT, Nat.reduceGT, Nat.reduceLeDiff, Nat.reduceEqDiff, Int.reduceToNat, Int.reduceAdd, Int.reduceMul, Int.reduceSub, Int.reduceNeg, Int.reduceLT, Int.reduceLE, Int.reduceEq, Nat.zero_add, Nat.add_zero, Nat.mul_one, eq_self, ne_eq, not_true, not_false_iff, and_true, true_and, and_self, List.getElem?_cons_zero, List.getElem?_cons_succ, List.map_cons, List.map_nil]
  rfl
end

def argE (q n d : Int) : Int := if cntE q n = 0 then (if d < 1 ∨ n < d then 10 else 0) else cntE q n
theorem pargs_call (q n d : Int) (hn : n ≤ 9223372036854775807) (h : H) : ∃ h' : H, h <+: h' ∧ call T 120 [.int .i64 q, .int .i64 n, .int .i64 d] h = some (.int .i64 (argE q n d), h') := by
  obtain ⟨h1, p1, e1⟩ := pcheck_call q n hn h
  refine ⟨h1, p1, ?_⟩
  unfold argE
  rw [call_at T120 rfl]
  unfold F120 c120
  by_cases h0 : cntE q n = 0
  · rw [if_pos h0]
    rw [h0] at e1
    by_cases d1 : d < 1
    · simp (disch := first | omega | (simp only [Go.Am.len_push, Go.Am.len_set, Go.Am.len_kill] <;> omega) | fail) only [push_cast, Nat.reduceBEq, Nat.reduceAdd, Nat.reduceMul, Nat.reduceSub, Nat.reduceLT, Nat.reduceGT, Nat.reduceLeDiff, Nat.reduceEqDiff, Int.reduceToNat, Int.reduceAdd, Int.reduceMul, Int.reduceSub, Int.reduceNeg, Int.reduceLT, Int.reduceLE, Int.reduceEq, Nat.zero_add, Nat.add_zero, Nat.mul_one, eq_self, ne_eq, not_true, not_false_iff, and_true, true_and, and_self, List.getElem?_cons_zero, List.getElem?_cons_succ, List.map_cons, List.map_nil, e1, dec_lt d1, d1, true_or]
    · by_cases dn : n < d
      · simp (disch := first | omega | (simp only [Go.Am.len_push, Go.Am.len_set, Go.Am.len_kill] <;> omega) | fail) only [push_cast, Nat.reduceBEq, Nat.reduceAdd, Nat.reduceMul, Nat.reduceSub, Nat.reduceLT, Nat.reduceGT, Nat.reduceLeDiff, Nat.reduceEqDiff, Int.reduceToNat, Int.reduceAdd, Int.reduceMul, Int.reduceSub, Int.reduceNeg, Int.reduceLT, Int.reduceLE, Int.reduceEq, Nat.zero_add, Nat.add_zero, Nat.mul_one, eq_self, ne_eq, not_true, not_false_iff, and_true, true_and, and_self, List.getElem?_cons_zero, List.getElem?_cons_succ, List.map_cons, List.map_nil, e1, dec_nlt (Int.not_lt.1 d1), dec_lt dn, dn, or_true]
      · simp (disch := first | omega | (simp only [Go.Am.len_push, Go.Am.len_set, Go.Am.len_kill] <;> omega) | fail) only [push_cast, Nat.reduceBEq, Nat.reduceAdd, Nat.reduceMul, Nat.reduceSub, Nat.reduceLT, Nat.reduceGT, Nat.reduceLeDiff, Nat.reduceEqDiff, Int.reduceToNat, Int.reduceAdd, Int.reduceMul, Int.reduceSub, Int.reduceNeg, Int.reduceLT, Int.reduceLE, Int.reduceEq, Nat.zero_add, Nat.add_zero, Nat.mul_one, eq_self, ne_eq, not_true, not_false_iff, and_true, true_and, and_self, List.getElem?_cons_zero, List.getElem?_cons_succ, List.map_cons, List.map_nil, e1, dec_nlt (Int.not_lt.1 d1), dec_nlt (Int.not_lt.1 dn), d1, dn, or_self]
  · rw [if_neg h0]
    simp (disch := first | omega | (simp only [Go.Am.len_push, Go.Am.len_set, Go.Am.len_kill] <;> omega) | fail) only [push_cast, Nat.reduceBEq, Nat.reduceAdd, Nat.reduceMul, Nat.reduceSub, Nat.reduceLT, Nat.reduceGT, Nat.reduceLeDiff, Nat.reduceEqDiff, Int.reduceToNat, Int.reduceAdd, Int.reduceMul, Int.reduceSub, Int.reduceNeg, Int.reduceLT, Int.reduceLE, Int.reduceEq, Nat.zero_add, Nat.add_zero, Nat.mul_one, eq_self, ne_eq, not_true, not_false_iff, and_true, true_and, and_self, List.getElem?_cons_zero, List.getElem?_cons_succ, List.map_cons, List.map_nil, e1, dec_ne h0]

/-- a number that won't do -/
def badV (v : Int) : Bool := decide (v < 0) || decide (1048576 < v)
def badF (fs : List Int) : Nat → Nat → Bool
  | 0, _ => false
  | m + 1, i => badV (gi fs i) || badF fs m (i + 1)
/-- is no place from x on above 0? -/
def shF (A : Nat → Int) : Nat → Nat → Bool
  | 0, _ => true
  | m + 1, x => decide (A x ≤ 0) && shF A m (x + 1)
section
variable {q : Int} {n : Nat} {fs : List Int} {h : H} {o off c : Nat}
theorem psv_loop (hf : RdI h (some ⟨o, off, none⟩) c fs) (hl : fs.length = n + 1) (hn : n ≤ 30) (d : Int) : ∀ (m i : Nat), i + m = n + 1 → ∀ ks,
    goL T [.tmp 8, .tmp 9, .tmp 10, .tmp 11] [0, 1, 2, 3, 28, 29, 30] c41L0 (.blk 0 [0, 1, 2, 3] :: ks) [(0, .int .i64 q), (1, .int .i64 n), (2, .int .i64 d), (3, .slice (some ⟨o, off, none⟩) (n + 1) c), (28, .slice (some ⟨o, off, none⟩) (n + 1) c), (29, .int .i64 (n + 1)), (30, .int .i64 i)] h =
      bif badF fs m i then some (.tuple #[.int .i64 0, .int .i64 0, .bool false, .int .i64 2], h) else go T [.tmp 8, .tmp 9, .tmp 10, .tmp 11] ks (Fr.of [(0, .int .i64 q), (1, .int .i64 n), (2, .int .i64 d), (3, .slice (some ⟨o, off, none⟩) (n + 1) c)]) h
  | 0, i, hi, ks => by
    rw [goL_at c41L0.eq_def, badF, cond_false]
    have hle : (n : Int) + 1 ≤ (i : Int) := by omega
    simp (disch := first | omega | (simp only [Go.Am.len_push, Go.Am.len_set, Go.Am.len_kill] <;> omega) | fail) only [push_cast, Nat.reduceBEq, Nat.reduceAdd, Nat.reduceMul, Nat.reduceSub, Nat.reduceLT, Nat.reduceGT, Nat.reduceLeDiff, Nat.reduceEqDiff, Int.reduceToNat, Int.reduceAdd, Int.reduceMul, Int.reduceSub, Int.reduceNeg, Int.reduceLT, Int.reduceLE, Int.reduceEq, Nat.zero_add, Nat.add_zero, Nat.mul_one, eq_self, ne_eq, not_true, not_false_iff, and_true, true_and, and_self, List.getElem?_cons_zero, List.getElem?_cons_succ, List.map_cons, List.map_nil, dec_nlt hle]
  | m + 1, i, hi, ks => by
    have hlt : (i : Int) < (n : Int) + 1 := by omega
    have hb : (0 : Int) ≤ (i : Int) ∧ (i : Int) < (n : Int) + 1 := by omega
    have l1 := hf.ld (i := (i : Int)) (by omega) (by omega)
    have w2 : IntKind.wrap .i64 ((i : Int) + 1) = (i : Int) + 1 := wrap64 (by omega) (by omega)
    have ih := psv_loop hf hl hn d m (i + 1) (by omega) ks
    rw [Int.natCast_add, Int.natCast_one] at ih
    rw [goL_at c41L0.eq_def, badF, badV]
    by_cases h1 : gi fs i < 0
    · rw [dec_lt h1, Bool.true_or, Bool.true_or, cond_true]
      simp (disch := first | omega | (simp only [Go.Am.len_push, Go.Am.len_set, Go.Am.len_kill] <;> omega) | fail) only [push_cast, Nat.reduceBEq, Nat.reduceAdd, Nat.reduceMul, Nat.reduceSub, Nat.reduceLT, Nat.reduceGT, Nat.reduceLeDiff, Nat.reduceEqDiff, Int.reduceToNat, Int.reduceAdd, Int.reduceMul, Int.reduceSub, Int.reduceNeg, Int.reduceLT, Int.reduceLE, Int.reduceEq, Nat.zero_add, Nat.add_zero, Nat.mul_one, eq_self, ne_eq, not_true, not_false_iff, and_true, true_and, and_self, List.getElem?_cons_zero, List.getElem?_cons_succ, List.map_cons, List.map_nil, dec_lt hlt, hb, l1, dec_lt h1]
    · by_cases h2 : 1048576 < gi fs i
      · rw [dec_lt h2, Bool.or_true, Bool.true_or, cond_true]
        simp (disch := first | omega | (simp only [Go.Am.len_push, Go.Am.len_set, Go.Am.len_kill] <;> omega) | fail) only [push_cast, Nat.reduceBEq, Nat.reduceAdd, Nat.reduceMul, Nat.reduceSub, Nat.reduceLT, Nat.reduceGT, Nat.reduceLeDiff, Nat.reduceEqDiff, Int.reduceToNat, Int.reduceAdd, Int.reduceMul, Int.reduceSub, Int.reduceNeg, Int.reduceLT, Int.reduceLE, Int.reduceEq, Nat.zero_add, Nat.add_zero, Nat.mul_one, eq_self, ne_eq, not_true, not_false_iff, and_true, true_and, and_self, List.getElem?_cons_zero, List.getElem?_cons_succ, List.map_cons, List.map_nil, dec_lt hlt, hb, l1, dec_nlt (Int.not_lt.1 h1), dec_lt h2]
      · rw [dec_nlt (Int.not_lt.1 h1), dec_nlt (Int.not_lt.1 h2), Bool.false_or, Bool.false_or, ← ih]
        simp (disch := first | omega | (simp only [Go.Am.len_push, Go.Am.len_set, Go.Am.len_kill] <;> omega) | fail) only [push_cast, Nat.reduceBEq, Nat.reduceAdd, Nat.reduceMul, Nat.reduceSub, Nat.reduceLT, Nat.reduceGT, Nat.reduceLeDiff, Nat.reduceEqDiff, Int.reduceToNat, Int.reduceAdd, Int.reduceMul, Int.reduceSub, Int.reduceNeg, Int.reduceLT, Int.reduceLE, Int.reduceEq, Nat.zero_add, Nat.add_zero, Nat.mul_one, eq_self, ne_eq, not_true, not_false_iff, and_true, true_and, and_self, List.getElem?_cons_zero, List.getElem?_cons_succ, List.map_cons, List.map_nil, dec_lt hlt, hb, l1, dec_nlt (Int.not_lt.1 h1), dec_nlt (Int.not_lt.1 h2), w2]
theorem psx_loop (h2 : 2 ≤ q) (h64 : q ≤ 64) (hn : n ≤ 30) (hf : RdI h (some ⟨o, off, none⟩) c fs) (hl : fs.length = n + 1) : ∀ (m x : Nat), x + m = n + 1 → ∀ ks,
    goL T [.tmp 8, .tmp 9, .tmp 10, .tmp 11] [0, 1, 3, 15] c41L1 (.blk 2 [0, 3] :: ks) [(0, .int .i64 q), (1, .int .i64 n), (3, .slice (some ⟨o, off, none⟩) (n + 1) c), (15, .int .i64 x)] h =
      bif shF (atA q n fs) m x then go T [.tmp 8, .tmp 9, .tmp 10, .tmp 11] ks (Fr.of [(0, .int .i64 q), (3, .slice (some ⟨o, off, none⟩) (n + 1) c)]) h else some (.tuple #[.int .i64 0, .int .i64 0, .bool false, .int .i64 0], h)
  | 0, x, hx, ks => by
    rw [goL_at c41L1.eq_def, shF, cond_true]
    have hlt : (n : Int) < (x : Int) := by omega
    simp (disch := first | omega | (simp only [Go.Am.len_push, Go.Am.len_set, Go.Am.len_kill] <;> omega) | fail) only [push_cast, Nat.reduceBEq, Nat.reduceAdd, Nat.reduceMul, Nat.reduceSub, Nat.reduceLT, Nat.reduceGT, Nat.reduceLeDiff, Nat.reduceEqDiff, Int.reduceToNat, Int.reduceAdd, Int.reduceMul, Int.reduceSub, Int.reduceNeg, Int.reduceLT, Int.reduceLE, Int.reduceEq, Nat.zero_add, Nat.add_zero, Nat.mul_one, eq_self, ne_eq, not_true, not_false_iff, and_true, true_and, and_self, List.getElem?_cons_zero, List.getElem?_cons_succ, List.map_cons, List.map_nil, dec_nle hlt]
  | m + 1, x, hx, ks => by
    have hle : (x : Int) ≤ (n : Int) := by omega
    have ea := pat_call h2 h64 hn hf hl x (by omega)
    have w2 : IntKind.wrap .i64 ((x : Int) + 1) = (x : Int) + 1 := wrap64 (by omega) (by omega)
    have ih := psx_loop h2 h64 hn hf hl m (x + 1) (by omega) ks
    rw [Int.natCast_add, Int.natCast_one] at ih
    rw [goL_at c41L1.eq_def, shF]
    by_cases h0 : 0 < atA q n fs x
    · rw [dec_nle h0, Bool.false_and, cond_false]
      simp (disch := first | omega | (simp only [Go.Am.len_push, Go.Am.len_set, Go.Am.len_kill] <;> omega) | fail) only [push_cast, Nat.reduceBEq, Nat.reduceAdd, Nat.reduceMul, Nat.reduceSub, Nat.reduceLT, Nat.reduceGT, Nat.reduceLeDiff, Nat.reduceEqDiff, Int.reduceToNat, Int.reduceAdd, Int.reduceMul, Int.reduceSub, Int.reduceNeg, Int.reduceLT, Int.reduceLE, Int.reduceEq, Nat.zero_add, Nat.add_zero, Nat.mul_one, eq_self, ne_eq, not_true, not_false_iff, and_true, true_and, and_self, List.getElem?_cons_zero, List.getElem?_cons_succ, List.map_cons, List.map_nil, dec_le hle, ea, dec_lt h0]
    · rw [dec_le (Int.not_lt.1 h0), Bool.true_and, ← ih]
      simp (disch := first | omega | (simp only [Go.Am.len_push, Go.Am.len_set, Go.Am.len_kill] <;> omega) | fail) only [push_cast, Nat.reduceBEq, Nat.reduceAdd, Nat.reduceMul, Nat.reduceSub, Nat.reduceLT, Nat.reduceGT, Nat.reduceLeDiff, Nat.reduceEqDiff, Int.reduceToNat, Int.reduceAdd, Int.reduceMul, Int.reduceSub, Int.reduceNeg, Int.reduceLT, Int.reduceLE, Int.reduceEq, Nat.zero_add, Nat.add_zero, Nat.mul_one, eq_self, ne_eq, not_true, not_false_iff, and_true, true_and, and_self, List.getElem?_cons_zero, List.getElem?_cons_succ, List.map_cons, List.map_nil, dec_le hle, ea, dec_nlt (Int.not_lt.1 h0), w2]
end

/-- the first fault -/
def shE (q n d : Int) (fs : List Int) : Int := if argE q n d = 0 then (if (fs.length : Int) = n + 1 then (bif badF fs fs.length 0 then 2 else 0) else 6) else argE q n d
def shO (q n d : Int) (fs : List Int) : Bool := decide (0 < gi fs 0) && shF (atA q n.toNat fs) (n.toNat + 1 - d.toNat) d.toNat
theorem argE_ok {q n d : Int} (h : argE q n d = 0) : cntE q n = 0 ∧ 1 ≤ d ∧ d ≤ n := by
  unfold argE at h
  split at h
  · rename_i h0
    split at h
    · cases h
    · exact ⟨h0, by omega, by omega⟩
  · contradiction
theorem badF_no {fs : List Int} : ∀ (m i : Nat), badF fs m i = false → ∀ j, i ≤ j → j < i + m → 0 ≤ gi fs j ∧ gi fs j ≤ 1048576
  | 0, i, _, j, h1, h2 => by omega
  | m + 1, i, h, j, h1, h2 => by
    simp only [badF, badV, Bool.or_eq_false_iff, decide_eq_false_iff_not] at h
    by_cases e : j = i
    · subst e; omega
    · exact badF_no m (i + 1) h.2 j (by omega) (by omega)
theorem pshows_call (q n d : Int) (hn : n ≤ 9223372036854775807) (fs : List Int) (sa : Option Addr) (c : Nat) (hl : fs.length ≤ 100) (h : H) (hf : RdI h sa c fs) :
    ∃ h' : H, h <+: h' ∧ call T 41 [.int .i64 q, .int .i64 n, .int .i64 d, .slice sa fs.length c] h =
      some (bif decide (shE q n d fs = 0) && shO q n d fs then .tuple #[.int .i64 (atA q n.toNat fs 0), .int .i64 (gi fs 0), .bool true, .int .i64 0] else .tuple #[.int .i64 0, .int .i64 0, .bool false, .int .i64 (shE q n d fs)], h') := by
  obtain ⟨h1, p1, e1⟩ := pargs_call q n d hn h
  refine ⟨h1, p1, ?_⟩
  by_cases h0 : argE q n d = 0
  · obtain ⟨k0, kd1, kd2⟩ := argE_ok h0
    obtain ⟨q2, q64, n1, n30⟩ := cntE_ok k0
    obtain ⟨N, rfl⟩ : ∃ N : Nat, n = N := ⟨n.toNat, by omega⟩
    obtain ⟨D, rfl⟩ : ∃ D : Nat, d = D := ⟨d.toNat, by omega⟩
    have w1 : IntKind.wrap .i64 ((N : Int) + 1) = (N : Int) + 1 := wrap64 (by omega) (by omega)
    by_cases hlen : (fs.length : Int) = (N : Int) + 1
    · have hl1 : fs.length = N + 1 := by omega
      obtain ⟨o, off, rfl, hol, _⟩ := hf.addr (by omega)
      have ho1 : decide (o < h1.length) = true := by have := pre_len p1; simp only [decide_eq_true_eq]; omega
      have hf1 := hf.mono p1
      have l0 := hf1.ld (i := 0) (by omega) (by omega)
      simp only [Int.toNat_zero, Nat.add_zero] at l0
      have hv := fun ks => psv_loop (q := q) hf1 hl1 (by omega) D (N + 1) 0 (by omega) ks
      simp only [Int.natCast_zero] at hv
      rw [h0] at e1
      have hsE : shE q N D fs = bif badF fs (N + 1) 0 then 2 else 0 := by unfold shE; rw [if_pos h0, if_pos hlen, hl1]
      rw [hsE, hl1, call_at T41 rfl]
      unfold F41 c41
      have hb0 : (0 : Int) ≤ 0 ∧ (0 : Int) < (N : Int) + 1 := by omega
      cases hbf : badF fs (N + 1) 0 with
      | true =>
        rw [hbf] at hv
        simp (disch := first | omega | (simp only [Go.Am.len_push, Go.Am.len_set, Go.Am.len_kill] <;> omega) | fail) only [push_cast, Nat.reduceBEq, Nat.reduceAdd, Nat.reduceMul, Nat.reduceSub, Nat.reduceLT, Nat.reduceGT, Nat.reduceLeDiff, Nat.reduceEqDiff, Int.reduceToNat, Int.reduceAdd, Int.reduceMul, Int.reduceSub, Int.reduceNeg, Int.reduceLT, Int.reduceLE, Int.reduceEq, Nat.zero_add, Nat.add_zero, Nat.mul_one, eq_self, ne_eq, not_true, not_false_iff, and_true, true_and, and_self, List.getElem?_cons_zero, List.getElem?_cons_succ, List.map_cons, List.map_nil, e1, w1]
        rw [hv]
        simp (disch := first | omega | (simp only [Go.Am.len_push, Go.Am.len_set, Go.Am.len_kill] <;> omega) | fail) only [push_cast, Nat.reduceBEq, Nat.reduceAdd, Nat.reduceMul, Nat.reduceSub, Nat.reduceLT, Nat.reduceGT, Nat.reduceLeDiff, Nat.reduceEqDiff, Int.reduceToNat, Int.reduceAdd, Int.reduceMul, Int.reduceSub, Int.reduceNeg, Int.reduceLT, Int.reduceLE, Int.reduceEq, Nat.zero_add, Nat.add_zero, Nat.mul_one, eq_self, ne_eq, not_true, not_false_iff, and_true, true_and, and_self, List.getElem?_cons_zero, List.getElem?_cons_succ, List.map_cons, List.map_nil]
      | false =>
        rw [hbf] at hv
        have hg0 := (badF_no _ _ hbf 0 (by omega) (by omega)).1
        simp only [Int.natCast_zero] at hg0
        have hx := fun ks => psx_loop (by omega) (by omega) (by omega) hf1 hl1 (N + 1 - D) D (by omega) ks
        have ea := pat_call (by omega) (by omega) (by omega) hf1 hl1 0 (by omega)
        simp only [Int.natCast_zero] at ea
        simp (disch := first | omega | (simp only [Go.Am.len_push, Go.Am.len_set, Go.Am.len_kill] <;> omega) | fail) only [push_cast, Nat.reduceBEq, Nat.reduceAdd, Nat.reduceMul, Nat.reduceSub, Nat.reduceLT, Nat.reduceGT, Nat.reduceLeDiff, Nat.reduceEqDiff, Int.reduceToNat, Int.reduceAdd, Int.reduceMul, Int.reduceSub, Int.reduceNeg, Int.reduceLT, Int.reduceLE, Int.reduceEq, Nat.zero_add, Nat.add_zero, Nat.mul_one, eq_self, ne_eq, not_true, not_false_iff, and_true, true_and, and_self, List.getElem?_cons_zero, List.getElem?_cons_succ, List.map_cons, List.map_nil, e1, w1]
        rw [hv]
        unfold shO
        by_cases hz : gi fs 0 = 0
        · have hnl : ¬ 0 < gi fs 0 := by omega
          simp (disch := first | omega | (simp only [Go.Am.len_push, Go.Am.len_set, Go.Am.len_kill] <;> omega) | fail) only [push_cast, Nat.reduceBEq, Nat.reduceAdd, Nat.reduceMul, Nat.reduceSub, Nat.reduceLT, Nat.reduceGT, Nat.reduceLeDiff, Nat.reduceEqDiff, Int.reduceToNat, Int.reduceAdd, Int.reduceMul, Int.reduceSub, Int.reduceNeg, Int.reduceLT, Int.reduceLE, Int.reduceEq, Nat.zero_add, Nat.add_zero, Nat.mul_one, eq_self, ne_eq, not_true, not_false_iff, and_true, true_and, and_self, List.getElem?_cons_zero, List.getElem?_cons_succ, List.map_cons, List.map_nil, hb0, l0, dec_eq hz, dec_nlt (Int.not_lt.1 hnl)]
        · have hlt : 0 < gi fs 0 := by omega
          simp (disch := first | omega | (simp only [Go.Am.len_push, Go.Am.len_set, Go.Am.len_kill] <;> omega) | fail) only [push_cast, Nat.reduceBEq, Nat.reduceAdd, Nat.reduceMul, Nat.reduceSub, Nat.reduceLT, Nat.reduceGT, Nat.reduceLeDiff, Nat.reduceEqDiff, Int.reduceToNat, Int.reduceAdd, Int.reduceMul, Int.reduceSub, Int.reduceNeg, Int.reduceLT, Int.reduceLE, Int.reduceEq, Nat.zero_add, Nat.add_zero, Nat.mul_one, eq_self, ne_eq, not_true, not_false_iff, and_true, true_and, and_self, List.getElem?_cons_zero, List.getElem?_cons_succ, List.map_cons, List.map_nil, hb0, l0, dec_ne hz, dec_lt hlt, Int.toNat_natCast]
          rw [hx]
          cases hsf : shF (atA q N fs) (N + 1 - D) D with
          | false => simp (disch := first | omega | (simp only [Go.Am.len_push, Go.Am.len_set, Go.Am.len_kill] <;> omega) | fail) only [push_cast, Nat.reduceBEq, Nat.reduceAdd, Nat.reduceMul, Nat.reduceSub, Nat.reduceLT, Nat.reduceGT, Nat.reduceLeDiff, Nat.reduceEqDiff, Int.reduceToNat, Int.reduceAdd, Int.reduceMul, Int.reduceSub, Int.reduceNeg, Int.reduceLT, Int.reduceLE, Int.reduceEq, Nat.zero_add, Nat.add_zero, Nat.mul_one, eq_self, ne_eq, not_true, not_false_iff, and_true, true_and, and_self, List.getElem?_cons_zero, List.getElem?_cons_succ, List.map_cons, List.map_nil]
          | true => simp (disch := first | omega | (simp only [Go.Am.len_push, Go.Am.len_set, Go.Am.len_kill] <;> omega) | fail) only [push_cast, Nat.reduceBEq, Nat.reduceAdd, Nat.reduceMul, Nat.reduceSub, Nat.reduceLT, Nat.reduceGT, Nat.reduceLeDiff, Nat.reduceEqDiff, Int.reduceToNat, Int.reduceAdd, Int.reduceMul, Int.reduceSub, Int.reduceNeg, Int.reduceLT, Int.reduceLE, Int.reduceEq, Nat.zero_add, Nat.add_zero, Nat.mul_one, eq_self, ne_eq, not_true, not_false_iff, and_true, true_and, and_self, List.getElem?_cons_zero, List.getElem?_cons_succ, List.map_cons, List.map_nil, ea, behind_true (List.prefix_refl _), hb0, ho1, l0]
    · have hsE : shE q N D fs = 6 := by unfold shE; rw [if_pos h0, if_neg hlen]
      rw [hsE, call_at T41 rfl]
      rw [h0] at e1
      unfold F41 c41
      simp (disch := first | omega | (simp only [Go.Am.len_push, Go.Am.len_set, Go.Am.len_kill] <;> omega) | fail) only [push_cast, Nat.reduceBEq, Nat.reduceAdd, Nat.reduceMul, Nat.reduceSub, Nat.reduceLT, Nat.reduceGT, Nat.reduceLeDiff, Nat.reduceEqDiff, Int.reduceToNat, Int.reduceAdd, Int.reduceMul, Int.reduceSub, Int.reduceNeg, Int.reduceLT, Int.reduceLE, Int.reduceEq, Nat.zero_add, Nat.add_zero, Nat.mul_one, eq_self, ne_eq, not_true, not_false_iff, and_true, true_and, and_self, List.getElem?_cons_zero, List.getElem?_cons_succ, List.map_cons, List.map_nil, e1, w1, dec_ne hlen]
  · have hsE : shE q n d fs = argE q n d := by unfold shE; rw [if_neg h0]
    rw [hsE, call_at T41 rfl]
    unfold F41 c41
    simp (disch := first | omega | (simp only [Go.Am.len_push, Go.Am.len_set, Go.Am.len_kill] <;> omega) | fail) only [push_cast, Nat.reduceBEq, Nat.reduceAdd, Nat.reduceMul, Nat.reduceSub, Nat.reduceLT, Nat.reduceGT, Nat.reduceLeDiff, Nat.reduceEqDiff, Int.reduceToNat, Int.reduceAdd, Int.reduceMul, Int.reduceSub, Int.reduceNeg, Int.reduceLT, Int.reduceLE, Int.reduceEq, Nat.zero_add, Nat.add_zero, Nat.mul_one, eq_self, ne_eq, not_true, not_false_iff, and_true, true_and, and_self, List.getElem?_cons_zero, List.getElem?_cons_succ, List.map_cons, List.map_nil, e1, dec_ne h0]
end Go.Proofs.Ytammndhoillliaa
