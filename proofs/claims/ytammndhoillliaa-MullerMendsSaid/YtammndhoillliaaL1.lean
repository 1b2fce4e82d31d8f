/-
  What small functions of lists compute: Copy, In, slices.Clone, Contains, ContainsFunc, Pick, Raw, Numbers. Conditions: lists that read as numbers, of at most a million elements.
-/
import Derived.Test.YtammndhoillliaaCode
import Derived.Test.YtammndhoillliaaAm22
namespace Go.Proofs.Ytammndhoillliaa
open Go.Am
set_option linter.unusedVariables false
set_option linter.unusedSimpArgs false
set_option maxRecDepth 30000

@[push_cast] theorem behind_refl {α : Type} {h : H} {r : Option α} : behind true h h r = r := behind_true (List.prefix_refl h)
/-- is one of the m numbers from the i-th on such? -/
def anyF (p : Int → Bool) (l : List Int) : Nat → Nat → Bool
  | 0, _ => false
  | m + 1, i => p (gi l i) || anyF p l m (i + 1)
theorem gi_cons_succ (x : Int) (l : List Int) (i : Nat) : gi (x :: l) ((i + 1 : Nat) : Int) = gi l i := by
  unfold gi; rw [Int.toNat_natCast, Int.toNat_natCast]; rfl
theorem anyF_cons (p : Int → Bool) (x : Int) (l : List Int) : ∀ m i, anyF p (x :: l) m (i + 1) = anyF p l m i
  | 0, _ => rfl
  | m + 1, i => by rw [anyF, anyF, gi_cons_succ, anyF_cons p x l m (i + 1)]
theorem anyF_all (p : Int → Bool) : ∀ l : List Int, anyF p l l.length 0 = l.any p
  | [] => rfl
  | x :: l => by rw [List.length_cons, anyF, anyF_cons, anyF_all p l, List.any_cons]; rfl
theorem gi_nat {l : List Int} {i : Nat} (hi : i < l.length) : gi l i = l[i] := by
  unfold gi; rw [Int.toNat_natCast, List.getD_eq_getElem?_getD, List.getElem?_eq_getElem hi]; rfl

theorem gi_mem' {l : List Int} {v : Int} (h : v ∈ l) : ∃ j : Nat, j < l.length ∧ gi l j = v := by
  obtain ⟨i, hi, he⟩ := List.getElem_of_mem h
  exact ⟨i, hi, by rw [gi_nat hi, he]⟩
theorem gi_set' {zs : List Int} {a : Int} {v : Int} (h0 : 0 ≤ a) (h1 : a < zs.length) (p : Nat) : gi (zs.set a.toNat v) p = if a = p then v else gi zs p := by
  rw [gi_set (by omega)]
  by_cases he : a.toNat = p
  · rw [if_pos he, if_pos (by omega)]
  · rw [if_neg he, if_neg (by omega)]
theorem gi_ext {a b : List Int} (hl : a.length = b.length) (h : ∀ p : Nat, p < a.length → gi a p = gi b p) : a = b := by
  refine List.ext_getElem hl fun i h1 h2 => ?_
  have := h i h1
  rwa [gi_nat h1, gi_nat h2] at this
theorem drop_at {α : Type} {l : List α} {i : Nat} {x : α} (h : l[i]? = some x) : l.drop i = x :: l.drop (i + 1) := by
  obtain ⟨hi, he⟩ := List.getElem?_eq_some_iff.1 h
  rw [List.drop_eq_getElem_cons hi, he]
theorem drop_end {α : Type} {l : List α} {i : Nat} (h : l.length ≤ i) : l.drop i = [] := List.drop_eq_nil_of_le h
theorem at_some {α : Type} {l : List α} {i : Nat} (h : i < l.length) : ∃ x, l[i]? = some x := ⟨_, List.getElem?_eq_getElem h⟩
theorem drop_gi {c : List Int} {k : Nat} (hk : k < c.length) : c.drop k = gi c k :: c.drop (k + 1) := by
  rw [List.drop_eq_getElem_cons hk, gi_nat hk]

section
variable {h : H} {sa : Option Addr} {c : Nat} {l : List Int}
theorem _root_.Go.Am.RdI.at (hr : RdI h sa c l) {i : Nat} (hi : i < l.length) : ∃ o off, sa = some ⟨o, off, none⟩ ∧ o < h.length ∧ h.ld1 o (off + i) = some (.int .i64 (gi l i)) := by
  obtain ⟨o, off, h1, h2, h3⟩ := hr.addr (by omega)
  have := h3 (i : Int) (by omega) (by omega)
  rw [Int.toNat_natCast] at this
  exact ⟨o, off, h1, h2, this⟩
theorem in_loop (hr : RdI h sa c l) (x : Int) (hl : l.length ≤ 9223372036854775807) : ∀ (m i : Nat), i + m = l.length → ∀ ks,
    goL T [.tmp 4] [0, 1, 5] c114L0 (.blk 0 [] :: ks) [(0, .int .i64 x), (1, .slice sa l.length c), (5, .int .i64 i)] h =
      bif anyF (fun y => decide (y = x)) l m i then some (.bool true, h) else go T [.tmp 4] ks (Fr.of []) h
  | 0, i, hi, ks => by
    rw [goL_at c114L0.eq_def]
    simp (disch := first | omega | (simp only [Go.Am.len_push, Go.Am.len_set, Go.Am.len_kill] <;> omega) | fail) only [push_cast, Nat.reduceBEq, Nat.reduceAdd, Nat.reduceMul, Nat.reduceSub, Nat.reduceLT, Nat.reduceGT, Nat.reduceLeDiff, Nat.reduceEqDiff, Int.reduceToNat, Int.reduceAdd, Int.reduceMul, Int.reduceSub, Int.reduceNeg, Int.reduceLT, Int.reduceLE, Int.reduceEq, Nat.zero_add, Nat.add_zero, Nat.mul_one, eq_self, ne_eq, not_true, not_false_iff, and_true, true_and, and_self, List.getElem?_cons_zero, List.getElem?_cons_succ, List.map_cons, List.map_nil, wrap64, dec_lt, dec_nlt, dec_le, dec_nle, dec_eq, dec_ne, if_pos, if_neg, Int.natCast_add, Int.natCast_one, Int.natCast_zero, Int.toNat_natCast, anyF, cond_false]
  | m + 1, i, hi, ks => by
    have ih := in_loop hr x hl m (i + 1) (by omega) ks
    obtain ⟨o, off, rfl, _, l1⟩ := hr.at (i := i) (by omega)
    rw [Int.natCast_add, Int.natCast_one] at ih
    rw [goL_at c114L0.eq_def, anyF]
    by_cases he : gi l i = x
    · rw [dec_eq he, Bool.true_or, cond_true]
      simp (disch := first | omega | (simp only [Go.Am.len_push, Go.Am.len_set, Go.Am.len_kill] <;> omega) | fail) only [push_cast, Nat.reduceBEq, Nat.reduceAdd, Nat.reduceMul, Nat.reduceSub, Nat.reduceLT, Nat.reduceGT, Nat.reduceLeDiff, Nat.reduceEqDiff, Int.reduceToNat, Int.reduceAdd, Int.reduceMul, Int.reduceSub, Int.reduceNeg, Int.reduceLT, Int.reduceLE, Int.reduceEq, Nat.zero_add, Nat.add_zero, Nat.mul_one, eq_self, ne_eq, not_true, not_false_iff, and_true, true_and, and_self, List.getElem?_cons_zero, List.getElem?_cons_succ, List.map_cons, List.map_nil, wrap64, dec_lt, dec_nlt, dec_le, dec_nle, dec_eq, dec_ne, if_pos, if_neg, Int.natCast_add, Int.natCast_one, Int.natCast_zero, Int.toNat_natCast, l1]
    · rw [dec_ne he, Bool.false_or, ← ih]
      simp (disch := first | omega | (simp only [Go.Am.len_push, Go.Am.len_set, Go.Am.len_kill] <;> omega) | fail) only [push_cast, Nat.reduceBEq, Nat.reduceAdd, Nat.reduceMul, Nat.reduceSub, Nat.reduceLT, Nat.reduceGT, Nat.reduceLeDiff, Nat.reduceEqDiff, Int.reduceToNat, Int.reduceAdd, Int.reduceMul, Int.reduceSub, Int.reduceNeg, Int.reduceLT, Int.reduceLE, Int.reduceEq, Nat.zero_add, Nat.add_zero, Nat.mul_one, eq_self, ne_eq, not_true, not_false_iff, and_true, true_and, and_self, List.getElem?_cons_zero, List.getElem?_cons_succ, List.map_cons, List.map_nil, wrap64, dec_lt, dec_nlt, dec_le, dec_nle, dec_eq, dec_ne, if_pos, if_neg, Int.natCast_add, Int.natCast_one, Int.natCast_zero, Int.toNat_natCast, l1]
theorem in_call (hr : RdI h sa c l) (x : Int) (hl : l.length ≤ 9223372036854775807) : call T 114 [.int .i64 x, .slice sa l.length c] h = some (.bool (l.any fun y => decide (y = x)), h) := by
  rw [call_at T114 rfl]
  unfold F114 c114
  have e := in_loop hr x hl l.length 0 (by omega)
  rw [anyF_all] at e
  simp only [Int.natCast_zero] at e
  simp (disch := first | omega | (simp only [Go.Am.len_push, Go.Am.len_set, Go.Am.len_kill] <;> omega) | fail) only [push_cast, Nat.reduceBEq, Nat.reduceAdd, Nat.reduceMul, Nat.reduceSub, Nat.reduceLT, Nat.reduceGT, Nat.reduceLeDiff, Nat.reduceEqDiff, Int.reduceToNat, Int.reduceAdd, Int.reduceMul, Int.reduceSub, Int.reduceNeg, Int.reduceLT, Int.reduceLE, Int.reduceEq, Nat.zero_add, Nat.add_zero, Nat.mul_one, eq_self, ne_eq, not_true, not_false_iff, and_true, true_and, and_self, List.getElem?_cons_zero, List.getElem?_cons_succ, List.map_cons, List.map_nil]
  rw [e]
  cases l.any fun y => decide (y = x) <;> simp (disch := first | omega | (simp only [Go.Am.len_push, Go.Am.len_set, Go.Am.len_kill] <;> omega) | fail) only [push_cast, Nat.reduceBEq, Nat.reduceAdd, Nat.reduceMul, Nat.reduceSub, Nat.reduceLT, Nat.reduceGT, Nat.reduceLeDiff, Nat.reduceEqDiff, Int.reduceToNat, Int.reduceAdd, Int.reduceMul, Int.reduceSub, Int.reduceNeg, Int.reduceLT, Int.reduceLE, Int.reduceEq, Nat.zero_add, Nat.add_zero, Nat.mul_one, eq_self, ne_eq, not_true, not_false_iff, and_true, true_and, and_self, List.getElem?_cons_zero, List.getElem?_cons_succ, List.map_cons, List.map_nil, cond_true, cond_false]

/-! ### where a list has such a number -/
def idxF (p : Int → Bool) (l : List Int) : Nat → Nat → Int
  | 0, _ => -1
  | m + 1, i => if p (gi l i) = true then i else idxF p l m (i + 1)
theorem idxF_any (p : Int → Bool) (l : List Int) : ∀ m i, decide (0 ≤ idxF p l m i) = anyF p l m i
  | 0, _ => rfl
  | m + 1, i => by
    rw [idxF, anyF]
    cases hp : p (gi l i) with
    | true => rw [if_pos rfl, Bool.true_or, decide_eq_true (by omega)]
    | false => rw [if_neg (by decide), Bool.false_or, idxF_any p l m (i + 1)]
theorem index_loop (hr : RdI h sa c l) (x : Int) (hl : l.length ≤ 9223372036854775807) : ∀ (m i : Nat), i + m = l.length → ∀ ks,
    goL T [.tmp 4] [0, 1, 7, 8] c152L0 (.blk 0 [] :: ks) [(0, .slice sa l.length c), (1, .int .i64 x), (7, .int .i64 l.length), (8, .int .i64 i)] h =
      if anyF (fun y => decide (y = x)) l m i = true then some (.int .i64 (idxF (fun y => decide (y = x)) l m i), h) else go T [.tmp 4] ks (Fr.of []) h
  | 0, i, hi, ks => by
    rw [goL_at c152L0.eq_def, anyF, if_neg (by decide)]
    simp (disch := first | omega | (simp only [Go.Am.len_push, Go.Am.len_set, Go.Am.len_kill] <;> omega) | fail) only [push_cast, Nat.reduceBEq, Nat.reduceAdd, Nat.reduceMul, Nat.reduceSub, Nat.reduceLT, Nat.reduceGT, Nat.reduceLeDiff, Nat.reduceEqDiff, Int.reduceToNat, Int.reduceAdd, Int.reduceMul, Int.reduceSub, Int.reduceNeg, Int.reduceLT, Int.reduceLE, Int.reduceEq, Nat.zero_add, Nat.add_zero, Nat.mul_one, eq_self, ne_eq, not_true, not_false_iff, and_true, true_and, and_self, List.getElem?_cons_zero, List.getElem?_cons_succ, List.map_cons, List.map_nil, wrap64, dec_lt, dec_nlt, dec_le, dec_nle, dec_eq, dec_ne, if_pos, if_neg, Int.natCast_add, Int.natCast_one, Int.natCast_zero, Int.toNat_natCast]
  | m + 1, i, hi, ks => by
    have ih := index_loop hr x hl m (i + 1) (by omega) ks
    obtain ⟨o, off, rfl, _, l1⟩ := hr.at (i := i) (by omega)
    rw [Int.natCast_add, Int.natCast_one] at ih
    rw [goL_at c152L0.eq_def, anyF, idxF]
    by_cases he : gi l i = x
    · rw [decide_eq_true he, Bool.true_or, if_pos rfl, if_pos rfl]
      have he' : x = gi l i := he.symm
      simp (disch := first | omega | (simp only [Go.Am.len_push, Go.Am.len_set, Go.Am.len_kill] <;> omega) | fail) only [push_cast, Nat.reduceBEq, Nat.reduceAdd, Nat.reduceMul, Nat.reduceSub, Nat.reduceLT, Nat.reduceGT, Nat.reduceLeDiff, Nat.reduceEqDiff, Int.reduceToNat, Int.reduceAdd, Int.reduceMul, Int.reduceSub, Int.reduceNeg, Int.reduceLT, Int.reduceLE, Int.reduceEq, Nat.zero_add, Nat.add_zero, Nat.mul_one, eq_self, ne_eq, not_true, not_false_iff, and_true, true_and, and_self, List.getElem?_cons_zero, List.getElem?_cons_succ, List.map_cons, List.map_nil, wrap64, dec_lt, dec_nlt, dec_le, dec_nle, dec_eq, dec_ne, if_pos, if_neg, Int.natCast_add, Int.natCast_one, Int.natCast_zero, Int.toNat_natCast, l1]
    · rw [decide_eq_false he, Bool.false_or, if_neg (show ¬ false = true by decide), ← ih]
      have he' : ¬ x = gi l i := fun e => he e.symm
      simp (disch := first | omega | (simp only [Go.Am.len_push, Go.Am.len_set, Go.Am.len_kill] <;> omega) | fail) only [push_cast, Nat.reduceBEq, Nat.reduceAdd, Nat.reduceMul, Nat.reduceSub, Nat.reduceLT, Nat.reduceGT, Nat.reduceLeDiff, Nat.reduceEqDiff, Int.reduceToNat, Int.reduceAdd, Int.reduceMul, Int.reduceSub, Int.reduceNeg, Int.reduceLT, Int.reduceLE, Int.reduceEq, Nat.zero_add, Nat.add_zero, Nat.mul_one, eq_self, ne_eq, not_true, not_false_iff, and_true, true_and, and_self, List.getElem?_cons_zero, List.getElem?_cons_succ, List.map_cons, List.map_nil, wrap64, dec_lt, dec_nlt, dec_le, dec_nle, dec_eq, dec_ne, if_pos, if_neg, Int.natCast_add, Int.natCast_one, Int.natCast_zero, Int.toNat_natCast, l1]
theorem contains_call (hr : RdI h sa c l) (x : Int) (hl : l.length ≤ 9223372036854775807) : call T 113 [.slice sa l.length c, .int .i64 x] h = some (.bool (l.any fun y => decide (y = x)), h) := by
  have e1 : call T 152 [.slice sa l.length c, .int .i64 x] h = some (.int .i64 (idxF (fun y => decide (y = x)) l l.length 0), h) := by
    rw [call_at T152 rfl]
    unfold F152 c152
    have e := index_loop hr x hl l.length 0 (by omega)
    simp only [Int.natCast_zero] at e
    simp (disch := first | omega | (simp only [Go.Am.len_push, Go.Am.len_set, Go.Am.len_kill] <;> omega) | fail) only [push_cast, Nat.reduceBEq, Nat.reduceAdd, Nat.reduceMul, Nat.reduceSub, Nat.reduceLT, Nat.reduceGT, Nat.reduceLeDiff, Nat.reduceEqDiff, Int.reduceToNat, Int.reduceAdd, Int.reduceMul, Int.reduceSub, Int.reduceNeg, Int.reduceLT, Int.reduceLE, Int.reduceEq, Nat.zero_add, Nat.add_zero, Nat.mul_one, eq_self, ne_eq, not_true, not_false_iff, and_true, true_and, and_self, List.getElem?_cons_zero, List.getElem?_cons_succ, List.map_cons, List.map_nil]
    rw [e]
    have hn := idxF_any (fun y => decide (y = x)) l l.length 0
    cases ha : anyF (fun y => decide (y = x)) l l.length 0 with
    | true => rw [if_pos rfl]
    | false =>
      rw [if_neg (by decide)]
      simp (disch := first | omega | (simp only [Go.Am.len_push, Go.Am.len_set, Go.Am.len_kill] <;> omega) | fail) only [push_cast, Nat.reduceBEq, Nat.reduceAdd, Nat.reduceMul, Nat.reduceSub, Nat.reduceLT, Nat.reduceGT, Nat.reduceLeDiff, Nat.reduceEqDiff, Int.reduceToNat, Int.reduceAdd, Int.reduceMul, Int.reduceSub, Int.reduceNeg, Int.reduceLT, Int.reduceLE, Int.reduceEq, Nat.zero_add, Nat.add_zero, Nat.mul_one, eq_self, ne_eq, not_true, not_false_iff, and_true, true_and, and_self, List.getElem?_cons_zero, List.getElem?_cons_succ, List.map_cons, List.map_nil]
      rw [ha] at hn
      have hz : ∀ m i, anyF (fun y => decide (y = x)) l m i = false → idxF (fun y => decide (y = x)) l m i = -1 := by
        intro m
        induction m with
        | zero => intro i _; rfl
        | succ m ih =>
          intro i hi
          rw [anyF, Bool.or_eq_false_iff] at hi
          rw [idxF, hi.1, if_neg (by decide)]
          exact ih _ hi.2
      rw [hz _ _ ha]
  have e2 := idxF_any (fun y => decide (y = x)) l l.length 0
  rw [anyF_all] at e2
  rw [call_at T113 rfl]
  unfold F113 c113
  simp (disch := first | omega | (simp only [Go.Am.len_push, Go.Am.len_set, Go.Am.len_kill] <;> omega) | fail) only [push_cast, Nat.reduceBEq, Nat.reduceAdd, Nat.reduceMul, Nat.reduceSub, Nat.reduceLT, Nat.reduceGT, Nat.reduceLeDiff, Nat.reduceEqDiff, Int.reduceToNat, Int.reduceAdd, Int.reduceMul, Int.reduceSub, Int.reduceNeg, Int.reduceLT, Int.reduceLE, Int.reduceEq, Nat.zero_add, Nat.add_zero, Nat.mul_one, eq_self, ne_eq, not_true, not_false_iff, and_true, true_and, and_self, List.getElem?_cons_zero, List.getElem?_cons_succ, List.map_cons, List.map_nil, e1]
  rw [e2]
theorem indexFunc_loop (hr : RdI h sa c l) (hl : l.length ≤ 9223372036854775807) {k : FuncId} {cap : Array Value} {p : Int → Bool} (hp : ∀ v, call T k (.int .i64 v :: cap.toList) h = some (.bool (p v), h)) : ∀ (m i : Nat), i + m = l.length → ∀ ks,
    goL T [.tmp 4] [0, 1, 7, 8] c148L0 (.blk 0 [] :: ks) [(0, .slice sa l.length c), (1, .func (.func k) #[] cap), (7, .int .i64 l.length), (8, .int .i64 i)] h =
      if anyF p l m i = true then some (.int .i64 (idxF p l m i), h) else go T [.tmp 4] ks (Fr.of []) h
  | 0, i, hi, ks => by
    rw [goL_at c148L0.eq_def, anyF, if_neg (by decide)]
    simp (disch := first | omega | (simp only [Go.Am.len_push, Go.Am.len_set, Go.Am.len_kill] <;> omega) | fail) only [push_cast, Nat.reduceBEq, Nat.reduceAdd, Nat.reduceMul, Nat.reduceSub, Nat.reduceLT, Nat.reduceGT, Nat.reduceLeDiff, Nat.reduceEqDiff, Int.reduceToNat, Int.reduceAdd, Int.reduceMul, Int.reduceSub, Int.reduceNeg, Int.reduceLT, Int.reduceLE, Int.reduceEq, Nat.zero_add, Nat.add_zero, Nat.mul_one, eq_self, ne_eq, not_true, not_false_iff, and_true, true_and, and_self, List.getElem?_cons_zero, List.getElem?_cons_succ, List.map_cons, List.map_nil, wrap64, dec_lt, dec_nlt, dec_le, dec_nle, dec_eq, dec_ne, if_pos, if_neg, Int.natCast_add, Int.natCast_one, Int.natCast_zero, Int.toNat_natCast]
  | m + 1, i, hi, ks => by
    have ih := indexFunc_loop hr hl hp m (i + 1) (by omega) ks
    obtain ⟨o, off, rfl, _, l1⟩ := hr.at (i := i) (by omega)
    rw [Int.natCast_add, Int.natCast_one] at ih
    rw [goL_at c148L0.eq_def, anyF, idxF]
    have hpi := hp (gi l i)
    cases he : p (gi l i) with
    | true =>
      rw [he] at hpi
      rw [Bool.true_or, if_pos rfl, if_pos rfl]
      simp (disch := first | omega | (simp only [Go.Am.len_push, Go.Am.len_set, Go.Am.len_kill] <;> omega) | fail) only [push_cast, Nat.reduceBEq, Nat.reduceAdd, Nat.reduceMul, Nat.reduceSub, Nat.reduceLT, Nat.reduceGT, Nat.reduceLeDiff, Nat.reduceEqDiff, Int.reduceToNat, Int.reduceAdd, Int.reduceMul, Int.reduceSub, Int.reduceNeg, Int.reduceLT, Int.reduceLE, Int.reduceEq, Nat.zero_add, Nat.add_zero, Nat.mul_one, eq_self, ne_eq, not_true, not_false_iff, and_true, true_and, and_self, List.getElem?_cons_zero, List.getElem?_cons_succ, List.map_cons, List.map_nil, wrap64, dec_lt, dec_nlt, dec_le, dec_nle, dec_eq, dec_ne, if_pos, if_neg, Int.natCast_add, Int.natCast_one, Int.natCast_zero, Int.toNat_natCast, l1, hpi]
    | false =>
      rw [he] at hpi
      rw [Bool.false_or, if_neg (show ¬ false = true by decide), ← ih]
      simp (disch := first | omega | (simp only [Go.Am.len_push, Go.Am.len_set, Go.Am.len_kill] <;> omega) | fail) only [push_cast, Nat.reduceBEq, Nat.reduceAdd, Nat.reduceMul, Nat.reduceSub, Nat.reduceLT, Nat.reduceGT, Nat.reduceLeDiff, Nat.reduceEqDiff, Int.reduceToNat, Int.reduceAdd, Int.reduceMul, Int.reduceSub, Int.reduceNeg, Int.reduceLT, Int.reduceLE, Int.reduceEq, Nat.zero_add, Nat.add_zero, Nat.mul_one, eq_self, ne_eq, not_true, not_false_iff, and_true, true_and, and_self, List.getElem?_cons_zero, List.getElem?_cons_succ, List.map_cons, List.map_nil, wrap64, dec_lt, dec_nlt, dec_le, dec_nle, dec_eq, dec_ne, if_pos, if_neg, Int.natCast_add, Int.natCast_one, Int.natCast_zero, Int.toNat_natCast, l1, hpi]
theorem containsFunc_call (hr : RdI h sa c l) (hl : l.length ≤ 9223372036854775807) {k : FuncId} {cap : Array Value} {p : Int → Bool} (hp : ∀ v, call T k (.int .i64 v :: cap.toList) h = some (.bool (p v), h)) :
    call T 94 [.slice sa l.length c, .func (.func k) #[] cap] h = some (.bool (l.any p), h) := by
  have hz : ∀ m i, anyF p l m i = false → idxF p l m i = -1 := by
    intro m
    induction m with
    | zero => intro i _; rfl
    | succ m ih =>
      intro i hi
      rw [anyF, Bool.or_eq_false_iff] at hi
      rw [idxF, hi.1, if_neg (by decide)]
      exact ih _ hi.2
  have e1 : call T 148 [.slice sa l.length c, .func (.func k) #[] cap] h = some (.int .i64 (idxF p l l.length 0), h) := by
    rw [call_at T148 rfl]
    unfold F148 c148
    have e := indexFunc_loop hr hl hp l.length 0 (by omega)
    simp only [Int.natCast_zero] at e
    simp (disch := first | omega | (simp only [Go.Am.len_push, Go.Am.len_set, Go.Am.len_kill] <;> omega) | fail) only [push_cast, Nat.reduceBEq, Nat.reduceAdd, Nat.reduceMul, Nat.reduceSub, Nat.reduceLT, Nat.reduceGT, Nat.reduceLeDiff, Nat.reduceEqDiff, Int.reduceToNat, Int.reduceAdd, Int.reduceMul, Int.reduceSub, Int.reduceNeg, Int.reduceLT, Int.reduceLE, Int.reduceEq, Nat.zero_add, Nat.add_zero, Nat.mul_one, eq_self, ne_eq, not_true, not_false_iff, and_true, true_and, and_self, List.getElem?_cons_zero, List.getElem?_cons_succ, List.map_cons, List.map_nil]
    rw [e]
    cases ha : anyF p l l.length 0 with
    | true => rw [if_pos rfl]
    | false =>
      rw [if_neg (by decide)]
      simp (disch := first | omega | (simp only [Go.Am.len_push, Go.Am.len_set, Go.Am.len_kill] <;> omega) | fail) only [push_cast, Nat.reduceBEq, Nat.reduceAdd, Nat.reduceMul, Nat.reduceSub, Nat.reduceLT, Nat.reduceGT, Nat.reduceLeDiff, Nat.reduceEqDiff, Int.reduceToNat, Int.reduceAdd, Int.reduceMul, Int.reduceSub, Int.reduceNeg, Int.reduceLT, Int.reduceLE, Int.reduceEq, Nat.zero_add, Nat.add_zero, Nat.mul_one, eq_self, ne_eq, not_true, not_false_iff, and_true, true_and, and_self, List.getElem?_cons_zero, List.getElem?_cons_succ, List.map_cons, List.map_nil]
      rw [hz _ _ ha]
  have e2 := idxF_any p l l.length 0
  rw [anyF_all] at e2
  rw [call_at T94 rfl]
  unfold F94 c94
  simp (disch := first | omega | (simp only [Go.Am.len_push, Go.Am.len_set, Go.Am.len_kill] <;> omega) | fail) only [push_cast, Nat.reduceBEq, Nat.reduceAdd, Nat.reduceMul, Nat.reduceSub, Nat.reduceLT, Nat.reduceGT, Nat.reduceLeDiff, Nat.reduceEqDiff, Int.reduceToNat, Int.reduceAdd, Int.reduceMul, Int.reduceSub, Int.reduceNeg, Int.reduceLT, Int.reduceLE, Int.reduceEq, Nat.zero_add, Nat.add_zero, Nat.mul_one, eq_self, ne_eq, not_true, not_false_iff, and_true, true_and, and_self, List.getElem?_cons_zero, List.getElem?_cons_succ, List.map_cons, List.map_nil, e1]
  rw [e2]

/-! ### lists of one's own -/
/-- a copy, behind what there is -/
def Fresh (h h' : H) (o : Nat) (l : List Int) : Prop := h <+: h' ∧ h.length ≤ o ∧ h'.row o = some ⟨ints l, 3, 1, true⟩
theorem copy_call (hr : RdI h sa c l) (hl : l.length ≤ 1000000) : ∃ (o : Nat) (h' : H), Fresh h h' o l ∧ call T 106 [.slice sa l.length c] h = some (.slice (some ⟨o, 0, none⟩) l.length l.length, h') := by
  have hs := (hr.mono (List.prefix_append h [.row ⟨[], 3, 1, true⟩])).src
  have e : aapp 3 1 8 (h ++ [.row ⟨[], 3, 1, true⟩]) (.slice (some ⟨h.length, 0, none⟩) 0 0) (.slice sa l.length c) = some (.slice (some ⟨h.length + 1, 0, none⟩) l.length l.length, kill (h ++ [.row ⟨[], 3, 1, true⟩]) h.length ++ [.row ⟨ints l, 3, 1, true⟩]) := by
    unfold aapp
    simp only [hs, row_push_new]
    rw [if_pos (by simp [few]; omega), len_push, Nat.zero_add]
    rfl
  refine ⟨h.length + 1, kill (h ++ [.row ⟨[], 3, 1, true⟩]) h.length ++ [.row ⟨ints l, 3, 1, true⟩], ⟨pre_push (pre_kill (List.prefix_append _ _) (Nat.le_refl _)), by omega, front_row⟩, ?_⟩
  rw [call_at T106 rfl]
  unfold F106 c106
  simp (disch := first | omega | (simp only [Go.Am.len_push, Go.Am.len_set, Go.Am.len_kill] <;> omega) | fail) only [push_cast, Nat.reduceBEq, Nat.reduceAdd, Nat.reduceMul, Nat.reduceSub, Nat.reduceLT, Nat.reduceGT, Nat.reduceLeDiff, Nat.reduceEqDiff, Int.reduceToNat, Int.reduceAdd, Int.reduceMul, Int.reduceSub, Int.reduceNeg, Int.reduceLT, Int.reduceLE, Int.reduceEq, Nat.zero_add, Nat.add_zero, Nat.mul_one, eq_self, ne_eq, not_true, not_false_iff, and_true, true_and, and_self, List.getElem?_cons_zero, List.getElem?_cons_succ, List.map_cons, List.map_nil, e]
theorem clone_call (hr : RdI h sa c l) (h0 : 0 < l.length) (hl : l.length ≤ 1000000) : ∃ (o : Nat) (h' : H), Fresh h h' o l ∧ call T 98 [.slice sa l.length c] h = some (.slice (some ⟨o, 0, none⟩) l.length l.length, h') := by
  obtain ⟨o, off, rfl, _⟩ := hr.addr h0
  have hs := (hr.mono (List.prefix_append h [.row ⟨[], 3, 1, true⟩])).src
  have e : aapp 3 1 8 (h ++ [.row ⟨[], 3, 1, true⟩]) (.slice (some ⟨h.length, 0, none⟩) 0 0) (.slice (some ⟨o, off, none⟩) l.length c) = some (.slice (some ⟨h.length + 1, 0, none⟩) l.length l.length, kill (h ++ [.row ⟨[], 3, 1, true⟩]) h.length ++ [.row ⟨ints l, 3, 1, true⟩]) := by
    unfold aapp
    simp only [hs, row_push_new]
    rw [if_pos (by simp [few]; omega), len_push, Nat.zero_add]
    rfl
  refine ⟨h.length + 1, kill (h ++ [.row ⟨[], 3, 1, true⟩]) h.length ++ [.row ⟨ints l, 3, 1, true⟩], ⟨pre_push (pre_kill (List.prefix_append _ _) (Nat.le_refl _)), by omega, front_row⟩, ?_⟩
  rw [call_at T98 rfl]
  unfold F98 c98
  simp (disch := first | omega | (simp only [Go.Am.len_push, Go.Am.len_set, Go.Am.len_kill] <;> omega) | fail) only [push_cast, Nat.reduceBEq, Nat.reduceAdd, Nat.reduceMul, Nat.reduceSub, Nat.reduceLT, Nat.reduceGT, Nat.reduceLeDiff, Nat.reduceEqDiff, Int.reduceToNat, Int.reduceAdd, Int.reduceMul, Int.reduceSub, Int.reduceNeg, Int.reduceLT, Int.reduceLE, Int.reduceEq, Nat.zero_add, Nat.add_zero, Nat.mul_one, eq_self, ne_eq, not_true, not_false_iff, and_true, true_and, and_self, List.getElem?_cons_zero, List.getElem?_cons_succ, List.map_cons, List.map_nil, e]

/-! ### raw numbers -/
def pickI (a n : Int) : Int := (if a < 0 then -(a + 1) else a).tmod n
theorem pick_call (a n : Int) (h1 : -9223372036854775808 ≤ a) (h2 : a ≤ 9223372036854775807) (hn : 0 < n) (hn2 : n ≤ 9223372036854775807) (h : H) : call T 33 [.int .i64 a, .int .i64 n] h = some (.int .i64 (pickI a n), h) := by
  rw [call_at T33 rfl]
  unfold F33 c33 pickI
  by_cases h0 : a < 0
  · rw [if_pos h0]
    simp (disch := first | omega | (simp only [Go.Am.len_push, Go.Am.len_set, Go.Am.len_kill] <;> omega) | fail) only [push_cast, Nat.reduceBEq, Nat.reduceAdd, Nat.reduceMul, Nat.reduceSub, Nat.reduceLT, Nat.reduceGT, Nat.reduceLeDiff, Nat.reduceEqDiff, Int.reduceToNat, Int.reduceAdd, Int.reduceMul, Int.reduceSub, Int.reduceNeg, Int.reduceLT, Int.reduceLE, Int.reduceEq, Nat.zero_add, Nat.add_zero, Nat.mul_one, eq_self, ne_eq, not_true, not_false_iff, and_true, true_and, and_self, List.getElem?_cons_zero, List.getElem?_cons_succ, List.map_cons, List.map_nil, wrap64, dec_lt, dec_nlt, dec_le, dec_nle, dec_eq, dec_ne, if_pos, if_neg, Int.natCast_add, Int.natCast_one, Int.natCast_zero, Int.toNat_natCast]
    rw [show (0 : Int) - (a + 1) = -(a + 1) by omega]
  · rw [if_neg h0]
    simp (disch := first | omega | (simp only [Go.Am.len_push, Go.Am.len_set, Go.Am.len_kill] <;> omega) | fail) only [push_cast, Nat.reduceBEq, Nat.reduceAdd, Nat.reduceMul, Nat.reduceSub, Nat.reduceLT, Nat.reduceGT, Nat.reduceLeDiff, Nat.reduceEqDiff, Int.reduceToNat, Int.reduceAdd, Int.reduceMul, Int.reduceSub, Int.reduceNeg, Int.reduceLT, Int.reduceLE, Int.reduceEq, Nat.zero_add, Nat.add_zero, Nat.mul_one, eq_self, ne_eq, not_true, not_false_iff, and_true, true_and, and_self, List.getElem?_cons_zero, List.getElem?_cons_succ, List.map_cons, List.map_nil, wrap64, dec_lt, dec_nlt, dec_le, dec_nle, dec_eq, dec_ne, if_pos, if_neg, Int.natCast_add, Int.natCast_one, Int.natCast_zero, Int.toNat_natCast]
theorem pickI_ok {a n : Int} (hn : 0 < n) : 0 ≤ pickI a n ∧ pickI a n < n := by
  unfold pickI
  split
  · exact ⟨Int.tmod_nonneg _ (by omega), Int.tmod_lt_of_pos _ hn⟩
  · exact ⟨Int.tmod_nonneg _ (by omega), Int.tmod_lt_of_pos _ hn⟩
/-- the i-th raw number, again and again -/
def rawI (l : List Int) (i : Int) : Int := if l.length = 0 then i else IntKind.wrap .i64 (gi l (i.tmod l.length) + IntKind.wrap .i64 (IntKind.wrap .i64 (i.tdiv l.length) * 7919))
theorem raw_call (hr : RdI h sa c l) (i : Int) (hi : 0 ≤ i) (hl : l.length ≤ 1000000) : call T 92 [.slice sa l.length c, .int .i64 i] h = some (.int .i64 (rawI l i), h) := by
  rw [call_at T92 rfl]
  unfold F92 c92 rawI
  by_cases h0 : l.length = 0
  · rw [if_pos h0]
    have h0' : (l.length : Int) = 0 := by omega
    simp (disch := first | omega | (simp only [Go.Am.len_push, Go.Am.len_set, Go.Am.len_kill] <;> omega) | fail) only [push_cast, Nat.reduceBEq, Nat.reduceAdd, Nat.reduceMul, Nat.reduceSub, Nat.reduceLT, Nat.reduceGT, Nat.reduceLeDiff, Nat.reduceEqDiff, Int.reduceToNat, Int.reduceAdd, Int.reduceMul, Int.reduceSub, Int.reduceNeg, Int.reduceLT, Int.reduceLE, Int.reduceEq, Nat.zero_add, Nat.add_zero, Nat.mul_one, eq_self, ne_eq, not_true, not_false_iff, and_true, true_and, and_self, List.getElem?_cons_zero, List.getElem?_cons_succ, List.map_cons, List.map_nil, wrap64, dec_lt, dec_nlt, dec_le, dec_nle, dec_eq, dec_ne, if_pos, if_neg, Int.natCast_add, Int.natCast_one, Int.natCast_zero, Int.toNat_natCast]
  · rw [if_neg h0]
    have hz : ¬ (l.length : Int) = 0 := by omega
    have b1 : 0 ≤ i.tmod l.length := Int.tmod_nonneg _ hi
    have b2 : i.tmod l.length < l.length := Int.tmod_lt_of_pos _ (by omega)
    obtain ⟨o, off, rfl, _, l1⟩ := hr.addr (by omega)
    have l2 := l1 _ b1 b2
    simp (disch := first | omega | (simp only [Go.Am.len_push, Go.Am.len_set, Go.Am.len_kill] <;> omega) | fail) only [push_cast, Nat.reduceBEq, Nat.reduceAdd, Nat.reduceMul, Nat.reduceSub, Nat.reduceLT, Nat.reduceGT, Nat.reduceLeDiff, Nat.reduceEqDiff, Int.reduceToNat, Int.reduceAdd, Int.reduceMul, Int.reduceSub, Int.reduceNeg, Int.reduceLT, Int.reduceLE, Int.reduceEq, Nat.zero_add, Nat.add_zero, Nat.mul_one, eq_self, ne_eq, not_true, not_false_iff, and_true, true_and, and_self, List.getElem?_cons_zero, List.getElem?_cons_succ, List.map_cons, List.map_nil, wrap64, dec_lt, dec_nlt, dec_le, dec_nle, dec_eq, dec_ne, if_pos, if_neg, Int.natCast_add, Int.natCast_one, Int.natCast_zero, Int.toNat_natCast, l2]
theorem wrap_i64_in (x : Int) : -9223372036854775808 ≤ IntKind.wrap .i64 x ∧ IntKind.wrap .i64 x ≤ 9223372036854775807 := by rw [IntKind.wrap_i64]; omega
theorem rawI_in {l : List Int} {i : Int} (h0 : 0 ≤ i) (h1 : i ≤ 9223372036854775807) : -9223372036854775808 ≤ rawI l i ∧ rawI l i ≤ 9223372036854775807 := by
  unfold rawI
  split
  · omega
  · exact wrap_i64_in _
end
end Go.Proofs.Ytammndhoillliaa
