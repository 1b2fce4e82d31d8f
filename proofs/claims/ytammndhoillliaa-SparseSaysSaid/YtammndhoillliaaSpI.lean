/-
  What sparse.Stops, the document's Stopping, Bits and the law's heavy compute. Conditions: checks and sets as memory tells them.
-/
import Derived.Test.YtammndhoillliaaSpH
namespace Go.Proofs.Ytammndhoillliaa
open Go.Am
set_option linter.unusedVariables false
set_option linter.unusedSimpArgs false
set_option maxRecDepth 30000

/-- in how many places of a check a set is -/
def inS (set : List Int) (v : Int) : Bool := set.any fun y => decide (y = v)
def hitN (set c : List Int) (k : Nat) : Nat := c.foldl (fun k v => if inS set v = true then k + 1 else k) k
def stopB (cs : List (List Int)) (set : List Int) : Bool := !cs.any fun c => decide (hitN set c 0 = 1)
def outP (n v : Int) : Bool := decide (v < 0) || decide (n ≤ v)
def stE (n : Int) (cs : List (List Int)) (set : List Int) : Int := if chkE n cs = 0 then (if set.any (outP n) = true then 10 else 0) else chkE n cs
theorem hit_le (set : List Int) : ∀ (c : List Int) (k : Nat), hitN set c k ≤ k + c.length
  | [], k => Nat.le_refl _
  | v :: c, k => by
    have h1 := hit_le set c (if inS set v = true then k + 1 else k)
    have h2 : hitN set (v :: c) k = hitN set c (if inS set v = true then k + 1 else k) := rfl
    rw [h2, List.length_cons]
    split at h1 <;> rename_i hh
    · rw [if_pos hh]; omega
    · rw [if_neg hh]; omega

section
variable {h : H} {sa ss : Option Addr} {C cset : Nat} {cs : List (List Int)} {set : List Int} {a : Option Addr} {cc : Nat} {c : List Int}
theorem stopp_call {o : Nat} {n : Int} (ho : h.ld1 o 0 = some (.int .i64 n)) (v : Int) : call T 112 [.int .i64 v, .pointer (some ⟨o, 0, none⟩)] h = some (.bool (outP n v), h) := by
  rw [call_at T112 rfl]
  unfold F112 c112 outP
  by_cases h1 : v < 0
  · rw [dec_lt h1, Bool.true_or]
    simp (disch := first | omega | (simp only [Go.Am.len_push, Go.Am.len_set, Go.Am.len_kill] <;> omega) | fail) only [push_cast, Nat.reduceBEq, Nat.reduceAdd, Nat.reduceMul, Nat.reduceSub, Nat.reduceLT, Nat.reduceGT, Nat.reduceLeDiff, Nat.reduceEqDiff, Int.reduceToNat, Int.reduceAdd, Int.reduceMul, Int.reduceSub, Int.reduceNeg, Int.reduceLT, Int.reduceLE, Int.reduceEq, Nat.zero_add, Nat.add_zero, Nat.mul_one, eq_self, ne_eq, not_true, not_false_iff, and_true, true_and, and_self, List.getElem?_cons_zero, List.getElem?_cons_succ, List.map_cons, List.map_nil, wrap64, dec_lt, dec_nlt, dec_le, dec_nle, dec_eq, dec_ne, if_pos, if_neg, Int.natCast_add, Int.natCast_one, Int.natCast_zero, Int.toNat_natCast, ho]
  · by_cases h2 : n ≤ v
    · rw [dec_le h2, Bool.or_true]
      simp (disch := first | omega | (simp only [Go.Am.len_push, Go.Am.len_set, Go.Am.len_kill] <;> omega) | fail) only [push_cast, Nat.reduceBEq, Nat.reduceAdd, Nat.reduceMul, Nat.reduceSub, Nat.reduceLT, Nat.reduceGT, Nat.reduceLeDiff, Nat.reduceEqDiff, Int.reduceToNat, Int.reduceAdd, Int.reduceMul, Int.reduceSub, Int.reduceNeg, Int.reduceLT, Int.reduceLE, Int.reduceEq, Nat.zero_add, Nat.add_zero, Nat.mul_one, eq_self, ne_eq, not_true, not_false_iff, and_true, true_and, and_self, List.getElem?_cons_zero, List.getElem?_cons_succ, List.map_cons, List.map_nil, wrap64, dec_lt, dec_nlt, dec_le, dec_nle, dec_eq, dec_ne, if_pos, if_neg, Int.natCast_add, Int.natCast_one, Int.natCast_zero, Int.toNat_natCast, ho]
    · rw [dec_nlt (Int.not_lt.1 h1), dec_nle (Int.not_le.1 h2), Bool.or_false]
      simp (disch := first | omega | (simp only [Go.Am.len_push, Go.Am.len_set, Go.Am.len_kill] <;> omega) | fail) only [push_cast, Nat.reduceBEq, Nat.reduceAdd, Nat.reduceMul, Nat.reduceSub, Nat.reduceLT, Nat.reduceGT, Nat.reduceLeDiff, Nat.reduceEqDiff, Int.reduceToNat, Int.reduceAdd, Int.reduceMul, Int.reduceSub, Int.reduceNeg, Int.reduceLT, Int.reduceLE, Int.reduceEq, Nat.zero_add, Nat.add_zero, Nat.mul_one, eq_self, ne_eq, not_true, not_false_iff, and_true, true_and, and_self, List.getElem?_cons_zero, List.getElem?_cons_succ, List.map_cons, List.map_nil, wrap64, dec_lt, dec_nlt, dec_le, dec_nle, dec_eq, dec_ne, if_pos, if_neg, Int.natCast_add, Int.natCast_one, Int.natCast_zero, Int.toNat_natCast, ho]
theorem pstop_in (hr : RdI h a cc c) (hl : c.length ≤ 6000) (hs : RdI h ss cset set) (hsl : set.length ≤ 9223372036854775807) (V23 V24 V25 : Value) : ∀ (m k : Nat) (x : Nat), k + m = c.length → x ≤ k → ∀ ks,
    goL T [.tmp 6, .tmp 7] [2, 11, 23, 24, 25, 29, 30, 31] c31L0 (.blk 2 [2, 11, 23, 24, 25] :: ks) [(2, .slice ss set.length cset), (11, .int .i64 x), (23, V23), (24, V24), (25, V25), (29, .slice a c.length cc), (30, .int .i64 c.length), (31, .int .i64 k)] h =
      go T [.tmp 6, .tmp 7] ks (Fr.of [(2, .slice ss set.length cset), (11, .int .i64 (hitN set (c.drop k) x : Nat)), (23, V23), (24, V24), (25, V25)]) h
  | 0, k, x, hk, hx, ks => by
    rw [goL_at c31L0.eq_def, drop_end (by omega)]
    have : hitN set [] x = x := rfl
    rw [this]
    simp (disch := first | omega | (simp only [Go.Am.len_push, Go.Am.len_set, Go.Am.len_kill] <;> omega) | fail) only [push_cast, Nat.reduceBEq, Nat.reduceAdd, Nat.reduceMul, Nat.reduceSub, Nat.reduceLT, Nat.reduceGT, Nat.reduceLeDiff, Nat.reduceEqDiff, Int.reduceToNat, Int.reduceAdd, Int.reduceMul, Int.reduceSub, Int.reduceNeg, Int.reduceLT, Int.reduceLE, Int.reduceEq, Nat.zero_add, Nat.add_zero, Nat.mul_one, eq_self, ne_eq, not_true, not_false_iff, and_true, true_and, and_self, List.getElem?_cons_zero, List.getElem?_cons_succ, List.map_cons, List.map_nil, wrap64, dec_lt, dec_nlt, dec_le, dec_nle, dec_eq, dec_ne, if_pos, if_neg, Int.natCast_add, Int.natCast_one, Int.natCast_zero, Int.toNat_natCast]
  | m + 1, k, x, hk, hx, ks => by
    have IH := pstop_in hr hl hs hsl V23 V24 V25 m
    obtain ⟨o', off, rfl, _, l1⟩ := hr.at (i := k) (by omega)
    have e1 := contains_call hs (gi c k) hsl
    have hd : hitN set (c.drop k) x = hitN set (c.drop (k + 1)) (if inS set (gi c k) = true then x + 1 else x) := by rw [drop_gi (by omega)]; rfl
    cases hi : set.any fun y => decide (y = gi c k) with
    | true =>
      rw [hi] at e1
      have hi' : inS set (gi c k) = true := hi
      rw [if_pos hi'] at hd
      have ih := IH (k + 1) (x + 1) (by omega) (by omega) ks
      rw [Int.natCast_add, Int.natCast_one, Int.natCast_add, Int.natCast_one] at ih
      rw [goL_at c31L0.eq_def, hd, ← ih]
      simp (disch := first | omega | (simp only [Go.Am.len_push, Go.Am.len_set, Go.Am.len_kill] <;> omega) | fail) only [push_cast, Nat.reduceBEq, Nat.reduceAdd, Nat.reduceMul, Nat.reduceSub, Nat.reduceLT, Nat.reduceGT, Nat.reduceLeDiff, Nat.reduceEqDiff, Int.reduceToNat, Int.reduceAdd, Int.reduceMul, Int.reduceSub, Int.reduceNeg, Int.reduceLT, Int.reduceLE, Int.reduceEq, Nat.zero_add, Nat.add_zero, Nat.mul_one, eq_self, ne_eq, not_true, not_false_iff, and_true, true_and, and_self, List.getElem?_cons_zero, List.getElem?_cons_succ, List.map_cons, List.map_nil, wrap64, dec_lt, dec_nlt, dec_le, dec_nle, dec_eq, dec_ne, if_pos, if_neg, Int.natCast_add, Int.natCast_one, Int.natCast_zero, Int.toNat_natCast, l1, e1]
    | false =>
      rw [hi] at e1
      have hi' : ¬ inS set (gi c k) = true := by unfold inS; rw [hi]; decide
      rw [if_neg hi'] at hd
      have ih := IH (k + 1) x (by omega) (by omega) ks
      rw [Int.natCast_add, Int.natCast_one] at ih
      rw [goL_at c31L0.eq_def, hd, ← ih]
      simp (disch := first | omega | (simp only [Go.Am.len_push, Go.Am.len_set, Go.Am.len_kill] <;> omega) | fail) only [push_cast, Nat.reduceBEq, Nat.reduceAdd, Nat.reduceMul, Nat.reduceSub, Nat.reduceLT, Nat.reduceGT, Nat.reduceLeDiff, Nat.reduceEqDiff, Int.reduceToNat, Int.reduceAdd, Int.reduceMul, Int.reduceSub, Int.reduceNeg, Int.reduceLT, Int.reduceLE, Int.reduceEq, Nat.zero_add, Nat.add_zero, Nat.mul_one, eq_self, ne_eq, not_true, not_false_iff, and_true, true_and, and_self, List.getElem?_cons_zero, List.getElem?_cons_succ, List.map_cons, List.map_nil, wrap64, dec_lt, dec_nlt, dec_le, dec_nle, dec_eq, dec_ne, if_pos, if_neg, Int.natCast_add, Int.natCast_one, Int.natCast_zero, Int.toNat_natCast, l1, e1]
theorem pstop_out (hr : RdLL h sa C cs) (hc2 : Few2 cs) (hs : RdI h ss cset set) (hsl : set.length ≤ 9223372036854775807) : ∀ (m i : Nat), i + m = cs.length → ∀ ks,
    goL T [.tmp 6, .tmp 7] [2, 23, 24, 25] c31L1 (.blk 0 [] :: ks) [(2, .slice ss set.length cset), (23, .slice sa cs.length C), (24, .int .i64 cs.length), (25, .int .i64 i)] h =
      if ((cs.drop i).any fun c => decide (hitN set c 0 = 1)) = true then some (.tuple #[.bool false, .int .i64 0], h) else go T [.tmp 6, .tmp 7] ks (Fr.of []) h
  | 0, i, hi, ks => by
    have hfl := hc2.len
    rw [goL_at c31L1.eq_def, drop_end (by omega), if_neg (show ¬ ([].any fun c => decide (hitN set c 0 = 1)) = true by simp)]
    simp (disch := first | omega | (simp only [Go.Am.len_push, Go.Am.len_set, Go.Am.len_kill] <;> omega) | fail) only [push_cast, Nat.reduceBEq, Nat.reduceAdd, Nat.reduceMul, Nat.reduceSub, Nat.reduceLT, Nat.reduceGT, Nat.reduceLeDiff, Nat.reduceEqDiff, Int.reduceToNat, Int.reduceAdd, Int.reduceMul, Int.reduceSub, Int.reduceNeg, Int.reduceLT, Int.reduceLE, Int.reduceEq, Nat.zero_add, Nat.add_zero, Nat.mul_one, eq_self, ne_eq, not_true, not_false_iff, and_true, true_and, and_self, List.getElem?_cons_zero, List.getElem?_cons_succ, List.map_cons, List.map_nil, wrap64, dec_lt, dec_nlt, dec_le, dec_nle, dec_eq, dec_ne, if_pos, if_neg, Int.natCast_add, Int.natCast_one, Int.natCast_zero, Int.toNat_natCast]
  | m + 1, i, hi, ks => by
    have IH := pstop_out hr hc2 hs hsl m
    have hfl := hc2.len
    obtain ⟨c, hc⟩ := at_some (l := cs) (i := i) (by omega)
    obtain ⟨o, a, c', rfl, l1, hra⟩ := hr.at hc
    have hcl := hc2.each c (List.mem_of_getElem? hc)
    have e1 := fun ks => pstop_in hra hcl hs hsl (.slice (some ⟨o, 0, none⟩) cs.length C) (.int .i64 cs.length) (.int .i64 i) c.length 0 0 (by omega) (by omega) ks
    rw [List.drop_zero] at e1
    simp only [Int.natCast_zero] at e1
    have ih := IH (i + 1) (by omega) ks
    rw [Int.natCast_add, Int.natCast_one] at ih
    have hd : ((cs.drop i).any fun c => decide (hitN set c 0 = 1)) = (decide (hitN set c 0 = 1) || (cs.drop (i + 1)).any fun c => decide (hitN set c 0 = 1)) := by rw [drop_at hc]; rfl
    rw [goL_at c31L1.eq_def, hd]
    by_cases h1 : hitN set c 0 = 1
    · have h1' : ((hitN set c 0 : Nat) : Int) = 1 := by omega
      rw [decide_eq_true h1, Bool.true_or, if_pos rfl]
      simp (disch := first | omega | (simp only [Go.Am.len_push, Go.Am.len_set, Go.Am.len_kill] <;> omega) | fail) only [push_cast, Nat.reduceBEq, Nat.reduceAdd, Nat.reduceMul, Nat.reduceSub, Nat.reduceLT, Nat.reduceGT, Nat.reduceLeDiff, Nat.reduceEqDiff, Int.reduceToNat, Int.reduceAdd, Int.reduceMul, Int.reduceSub, Int.reduceNeg, Int.reduceLT, Int.reduceLE, Int.reduceEq, Nat.zero_add, Nat.add_zero, Nat.mul_one, eq_self, ne_eq, not_true, not_false_iff, and_true, true_and, and_self, List.getElem?_cons_zero, List.getElem?_cons_succ, List.map_cons, List.map_nil, wrap64, dec_lt, dec_nlt, dec_le, dec_nle, dec_eq, dec_ne, if_pos, if_neg, Int.natCast_add, Int.natCast_one, Int.natCast_zero, Int.toNat_natCast, l1]
      rw [e1]
      simp (disch := first | omega | (simp only [Go.Am.len_push, Go.Am.len_set, Go.Am.len_kill] <;> omega) | fail) only [push_cast, Nat.reduceBEq, Nat.reduceAdd, Nat.reduceMul, Nat.reduceSub, Nat.reduceLT, Nat.reduceGT, Nat.reduceLeDiff, Nat.reduceEqDiff, Int.reduceToNat, Int.reduceAdd, Int.reduceMul, Int.reduceSub, Int.reduceNeg, Int.reduceLT, Int.reduceLE, Int.reduceEq, Nat.zero_add, Nat.add_zero, Nat.mul_one, eq_self, ne_eq, not_true, not_false_iff, and_true, true_and, and_self, List.getElem?_cons_zero, List.getElem?_cons_succ, List.map_cons, List.map_nil, wrap64, dec_lt, dec_nlt, dec_le, dec_nle, dec_eq, dec_ne, if_pos, if_neg, Int.natCast_add, Int.natCast_one, Int.natCast_zero, Int.toNat_natCast, h1']
    · have h1' : ¬ ((hitN set c 0 : Nat) : Int) = 1 := by omega
      rw [decide_eq_false h1, Bool.false_or, ← ih]
      simp (disch := first | omega | (simp only [Go.Am.len_push, Go.Am.len_set, Go.Am.len_kill] <;> omega) | fail) only [push_cast, Nat.reduceBEq, Nat.reduceAdd, Nat.reduceMul, Nat.reduceSub, Nat.reduceLT, Nat.reduceGT, Nat.reduceLeDiff, Nat.reduceEqDiff, Int.reduceToNat, Int.reduceAdd, Int.reduceMul, Int.reduceSub, Int.reduceNeg, Int.reduceLT, Int.reduceLE, Int.reduceEq, Nat.zero_add, Nat.add_zero, Nat.mul_one, eq_self, ne_eq, not_true, not_false_iff, and_true, true_and, and_self, List.getElem?_cons_zero, List.getElem?_cons_succ, List.map_cons, List.map_nil, wrap64, dec_lt, dec_nlt, dec_le, dec_nle, dec_eq, dec_ne, if_pos, if_neg, Int.natCast_add, Int.natCast_one, Int.natCast_zero, Int.toNat_natCast, l1]
      rw [e1]
      simp (disch := first | omega | (simp only [Go.Am.len_push, Go.Am.len_set, Go.Am.len_kill] <;> omega) | fail) only [push_cast, Nat.reduceBEq, Nat.reduceAdd, Nat.reduceMul, Nat.reduceSub, Nat.reduceLT, Nat.reduceGT, Nat.reduceLeDiff, Nat.reduceEqDiff, Int.reduceToNat, Int.reduceAdd, Int.reduceMul, Int.reduceSub, Int.reduceNeg, Int.reduceLT, Int.reduceLE, Int.reduceEq, Nat.zero_add, Nat.add_zero, Nat.mul_one, eq_self, ne_eq, not_true, not_false_iff, and_true, true_and, and_self, List.getElem?_cons_zero, List.getElem?_cons_succ, List.map_cons, List.map_nil, wrap64, dec_lt, dec_nlt, dec_le, dec_nle, dec_eq, dec_ne, if_pos, if_neg, Int.natCast_add, Int.natCast_one, Int.natCast_zero, Int.toNat_natCast, dec_ne h1']
theorem pstops_call (hr : RdLL h sa C cs) (hl2 : Len2 cs) (hs : RdI h ss cset set) (hsl : set.length ≤ 9223372036854775807) (n : Int) : ∃ h' : H, h <+: h' ∧
    call T 31 [.int .i64 n, .slice sa cs.length C, .slice ss set.length cset] h = some (.tuple #[.bool (decide (stE n cs set = 0) && stopB cs set), .int .i64 (stE n cs set)], h') := by
  obtain ⟨h1, eh1⟩ : ∃ h1 : H, h1 = h ++ [.row ⟨[.int .i64 n], 3, 0, true⟩] := ⟨_, rfl⟩
  have p1 : h <+: h1 := by rw [eh1]; exact List.prefix_append _ _
  have r1 : h1.row h.length = some ⟨[.int .i64 n], 3, 0, true⟩ := by rw [eh1]; exact row_push_new
  have l1 : h1.ld1 h.length 0 = some (.int .i64 n) := ld1_at r1 rfl
  have e0 := pchk_call (n := n) (hr.mono p1) hl2
  have e1 := containsFunc_call (hs.mono p1) hsl (k := 112) (cap := [Value.pointer (some ⟨h.length, 0, none⟩)].toArray) (p := outP n) (fun v => stopp_call l1 v)
  refine ⟨h1, p1, ?_⟩
  by_cases hk : chkE n cs = 0
  · rw [hk] at e0
    cases ha : set.any (outP n) with
    | true =>
      rw [ha] at e1
      have hst : stE n cs set = 10 := by unfold stE; rw [if_pos hk, if_pos ha]
      rw [hst, call_at T31 rfl]
      unfold F31 c31
      simp (disch := first | omega | (simp only [Go.Am.len_push, Go.Am.len_set, Go.Am.len_kill] <;> omega) | fail) only [push_cast, Nat.reduceBEq, Nat.reduceAdd, Nat.reduceMul, Nat.reduceSub, Nat.reduceLT, Nat.reduceGT, Nat.reduceLeDiff, Nat.reduceEqDiff, Int.reduceToNat, Int.reduceAdd, Int.reduceMul, Int.reduceSub, Int.reduceNeg, Int.reduceLT, Int.reduceLE, Int.reduceEq, Nat.zero_add, Nat.add_zero, Nat.mul_one, eq_self, ne_eq, not_true, not_false_iff, and_true, true_and, and_self, List.getElem?_cons_zero, List.getElem?_cons_succ, List.map_cons, List.map_nil, wrap64, dec_lt, dec_nlt, dec_le, dec_nle, dec_eq, dec_ne, if_pos, if_neg, Int.natCast_add, Int.natCast_one, Int.natCast_zero, Int.toNat_natCast, ← eh1, l1, e0, e1]
    | false =>
      rw [ha] at e1
      have hst : stE n cs set = 0 := by unfold stE; rw [if_pos hk, if_neg (by rw [ha]; decide)]
      obtain ⟨hc2, _⟩ := few_of hk
      have e2 := fun ks => pstop_out (hr.mono p1) hc2 (hs.mono p1) hsl cs.length 0 (by omega) ks
      rw [List.drop_zero] at e2
      simp only [Int.natCast_zero] at e2
      have hfl := hc2.len
      rw [hst, dec_eq rfl, Bool.true_and, call_at T31 rfl]
      unfold F31 c31 stopB
      simp (disch := first | omega | (simp only [Go.Am.len_push, Go.Am.len_set, Go.Am.len_kill] <;> omega) | fail) only [push_cast, Nat.reduceBEq, Nat.reduceAdd, Nat.reduceMul, Nat.reduceSub, Nat.reduceLT, Nat.reduceGT, Nat.reduceLeDiff, Nat.reduceEqDiff, Int.reduceToNat, Int.reduceAdd, Int.reduceMul, Int.reduceSub, Int.reduceNeg, Int.reduceLT, Int.reduceLE, Int.reduceEq, Nat.zero_add, Nat.add_zero, Nat.mul_one, eq_self, ne_eq, not_true, not_false_iff, and_true, true_and, and_self, List.getElem?_cons_zero, List.getElem?_cons_succ, List.map_cons, List.map_nil, wrap64, dec_lt, dec_nlt, dec_le, dec_nle, dec_eq, dec_ne, if_pos, if_neg, Int.natCast_add, Int.natCast_one, Int.natCast_zero, Int.toNat_natCast, ← eh1, l1, e0, e1]
      rw [e2]
      cases hb : cs.any fun c => decide (hitN set c 0 = 1) with
      | true => rw [if_pos rfl]; rfl
      | false => rw [if_neg (by decide)]; simp (disch := first | omega | (simp only [Go.Am.len_push, Go.Am.len_set, Go.Am.len_kill] <;> omega) | fail) only [push_cast, Nat.reduceBEq, Nat.reduceAdd, Nat.reduceMul, Nat.reduceSub, Nat.reduceLT, Nat.reduceGT, Nat.reduceLeDiff, Nat.reduceEqDiff, Int.reduceToNat, Int.reduceAdd, Int.reduceMul, Int.reduceSub, Int.reduceNeg, Int.reduceLT, Int.reduceLE, Int.reduceEq, Nat.zero_add, Nat.add_zero, Nat.mul_one, eq_self, ne_eq, not_true, not_false_iff, and_true, true_and, and_self, List.getElem?_cons_zero, List.getElem?_cons_succ, List.map_cons, List.map_nil]
  · have hst : stE n cs set = chkE n cs := by unfold stE; rw [if_neg hk]
    rw [hst, dec_ne hk, Bool.false_and, call_at T31 rfl]
    unfold F31 c31
    simp (disch := first | omega | (simp only [Go.Am.len_push, Go.Am.len_set, Go.Am.len_kill] <;> omega) | fail) only [push_cast, Nat.reduceBEq, Nat.reduceAdd, Nat.reduceMul, Nat.reduceSub, Nat.reduceLT, Nat.reduceGT, Nat.reduceLeDiff, Nat.reduceEqDiff, Int.reduceToNat, Int.reduceAdd, Int.reduceMul, Int.reduceSub, Int.reduceNeg, Int.reduceLT, Int.reduceLE, Int.reduceEq, Nat.zero_add, Nat.add_zero, Nat.mul_one, eq_self, ne_eq, not_true, not_false_iff, and_true, true_and, and_self, List.getElem?_cons_zero, List.getElem?_cons_succ, List.map_cons, List.map_nil, wrap64, dec_lt, dec_nlt, dec_le, dec_nle, dec_eq, dec_ne, if_pos, if_neg, Int.natCast_add, Int.natCast_one, Int.natCast_zero, Int.toNat_natCast, ← eh1, l1, e0, dec_ne hk]
theorem rstop_in (hr : RdLL h sa C cs) (hc2 : Few2 cs) (hs : RdI h ss cset set) (hsl : set.length ≤ 9223372036854775807) {i : Nat} {c : List Int} (hc : cs[i]? = some c) : ∀ (m k : Nat) (x : Nat), k + m = c.length → x ≤ k → ∀ ks,
    goL T [.tmp 4] [0, 1, 5, 6, 7] c32L0 (.blk 2 [0, 1, 5, 6] :: ks) [(0, .slice sa cs.length C), (1, .slice ss set.length cset), (5, .int .i64 i), (6, .int .i64 x), (7, .int .i64 k)] h =
      go T [.tmp 4] ks (Fr.of [(0, .slice sa cs.length C), (1, .slice ss set.length cset), (5, .int .i64 i), (6, .int .i64 (hitN set (c.drop k) x : Nat))]) h
  | 0, k, x, hk, hx, ks => by
    obtain ⟨o, a, c', rfl, l0, hra⟩ := hr.at hc
    have hil := (List.getElem?_eq_some_iff.1 hc).1
    rw [goL_at c32L0.eq_def, drop_end (by omega)]
    have : hitN set [] x = x := rfl
    rw [this]
    simp (disch := first | omega | (simp only [Go.Am.len_push, Go.Am.len_set, Go.Am.len_kill] <;> omega) | fail) only [push_cast, Nat.reduceBEq, Nat.reduceAdd, Nat.reduceMul, Nat.reduceSub, Nat.reduceLT, Nat.reduceGT, Nat.reduceLeDiff, Nat.reduceEqDiff, Int.reduceToNat, Int.reduceAdd, Int.reduceMul, Int.reduceSub, Int.reduceNeg, Int.reduceLT, Int.reduceLE, Int.reduceEq, Nat.zero_add, Nat.add_zero, Nat.mul_one, eq_self, ne_eq, not_true, not_false_iff, and_true, true_and, and_self, List.getElem?_cons_zero, List.getElem?_cons_succ, List.map_cons, List.map_nil, wrap64, dec_lt, dec_nlt, dec_le, dec_nle, dec_eq, dec_ne, if_pos, if_neg, Int.natCast_add, Int.natCast_one, Int.natCast_zero, Int.toNat_natCast, l0]
  | m + 1, k, x, hk, hx, ks => by
    have IH := rstop_in hr hc2 hs hsl hc m
    obtain ⟨o, a, c', rfl, l0, hra⟩ := hr.at hc
    have hil := (List.getElem?_eq_some_iff.1 hc).1
    have hcl := hc2.each c (List.mem_of_getElem? hc)
    have hfl := hc2.len
    obtain ⟨o', off, rfl, _, l1⟩ := hra.at (i := k) (by omega)
    have e1 := in_call hs (gi c k) hsl
    have hd : hitN set (c.drop k) x = hitN set (c.drop (k + 1)) (if inS set (gi c k) = true then x + 1 else x) := by rw [drop_gi (by omega)]; rfl
    cases hi : set.any fun y => decide (y = gi c k) with
    | true =>
      rw [hi] at e1
      have hi' : inS set (gi c k) = true := hi
      rw [if_pos hi'] at hd
      have ih := IH (k + 1) (x + 1) (by omega) (by omega) ks
      rw [Int.natCast_add, Int.natCast_one, Int.natCast_add, Int.natCast_one] at ih
      rw [goL_at c32L0.eq_def, hd, ← ih]
      simp (disch := first | omega | (simp only [Go.Am.len_push, Go.Am.len_set, Go.Am.len_kill] <;> omega) | fail) only [push_cast, Nat.reduceBEq, Nat.reduceAdd, Nat.reduceMul, Nat.reduceSub, Nat.reduceLT, Nat.reduceGT, Nat.reduceLeDiff, Nat.reduceEqDiff, Int.reduceToNat, Int.reduceAdd, Int.reduceMul, Int.reduceSub, Int.reduceNeg, Int.reduceLT, Int.reduceLE, Int.reduceEq, Nat.zero_add, Nat.add_zero, Nat.mul_one, eq_self, ne_eq, not_true, not_false_iff, and_true, true_and, and_self, List.getElem?_cons_zero, List.getElem?_cons_succ, List.map_cons, List.map_nil, wrap64, dec_lt, dec_nlt, dec_le, dec_nle, dec_eq, dec_ne, if_pos, if_neg, Int.natCast_add, Int.natCast_one, Int.natCast_zero, Int.toNat_natCast, l0, l1, e1]
    | false =>
      rw [hi] at e1
      have hi' : ¬ inS set (gi c k) = true := by unfold inS; rw [hi]; decide
      rw [if_neg hi'] at hd
      have ih := IH (k + 1) x (by omega) (by omega) ks
      rw [Int.natCast_add, Int.natCast_one] at ih
      rw [goL_at c32L0.eq_def, hd, ← ih]
      simp (disch := first | omega | (simp only [Go.Am.len_push, Go.Am.len_set, Go.Am.len_kill] <;> omega) | fail) only [push_cast, Nat.reduceBEq, Nat.reduceAdd, Nat.reduceMul, Nat.reduceSub, Nat.reduceLT, Nat.reduceGT, Nat.reduceLeDiff, Nat.reduceEqDiff, Int.reduceToNat, Int.reduceAdd, Int.reduceMul, Int.reduceSub, Int.reduceNeg, Int.reduceLT, Int.reduceLE, Int.reduceEq, Nat.zero_add, Nat.add_zero, Nat.mul_one, eq_self, ne_eq, not_true, not_false_iff, and_true, true_and, and_self, List.getElem?_cons_zero, List.getElem?_cons_succ, List.map_cons, List.map_nil, wrap64, dec_lt, dec_nlt, dec_le, dec_nle, dec_eq, dec_ne, if_pos, if_neg, Int.natCast_add, Int.natCast_one, Int.natCast_zero, Int.toNat_natCast, l0, l1, e1]
theorem rstop_out (hr : RdLL h sa C cs) (hc2 : Few2 cs) (hs : RdI h ss cset set) (hsl : set.length ≤ 9223372036854775807) : ∀ (m i : Nat), i + m = cs.length → ∀ ks,
    goL T [.tmp 4] [0, 1, 5] c32L1 (.blk 0 [] :: ks) [(0, .slice sa cs.length C), (1, .slice ss set.length cset), (5, .int .i64 i)] h =
      if ((cs.drop i).any fun c => decide (hitN set c 0 = 1)) = true then some (.bool false, h) else go T [.tmp 4] ks (Fr.of []) h
  | 0, i, hi, ks => by
    have hfl := hc2.len
    rw [goL_at c32L1.eq_def, drop_end (by omega), if_neg (show ¬ ([].any fun c => decide (hitN set c 0 = 1)) = true by simp)]
    simp (disch := first | omega | (simp only [Go.Am.len_push, Go.Am.len_set, Go.Am.len_kill] <;> omega) | fail) only [push_cast, Nat.reduceBEq, Nat.reduceAdd, Nat.reduceMul, Nat.reduceSub, Nat.reduceLT, Nat.reduceGT, Nat.reduceLeDiff, Nat.reduceEqDiff, Int.reduceToNat, Int.reduceAdd, Int.reduceMul, Int.reduceSub, Int.reduceNeg, Int.reduceLT, Int.reduceLE, Int.reduceEq, Nat.zero_add, Nat.add_zero, Nat.mul_one, eq_self, ne_eq, not_true, not_false_iff, and_true, true_and, and_self, List.getElem?_cons_zero, List.getElem?_cons_succ, List.map_cons, List.map_nil, wrap64, dec_lt, dec_nlt, dec_le, dec_nle, dec_eq, dec_ne, if_pos, if_neg, Int.natCast_add, Int.natCast_one, Int.natCast_zero, Int.toNat_natCast]
  | m + 1, i, hi, ks => by
    have IH := rstop_out hr hc2 hs hsl m
    have hfl := hc2.len
    obtain ⟨c, hc⟩ := at_some (l := cs) (i := i) (by omega)
    have hcl := hc2.each c (List.mem_of_getElem? hc)
    have e1 := fun ks => rstop_in hr hc2 hs hsl hc c.length 0 0 (by omega) (by omega) ks
    rw [List.drop_zero] at e1
    simp only [Int.natCast_zero] at e1
    have ih := IH (i + 1) (by omega) ks
    rw [Int.natCast_add, Int.natCast_one] at ih
    have hd : ((cs.drop i).any fun c => decide (hitN set c 0 = 1)) = (decide (hitN set c 0 = 1) || (cs.drop (i + 1)).any fun c => decide (hitN set c 0 = 1)) := by rw [drop_at hc]; rfl
    rw [goL_at c32L1.eq_def, hd]
    by_cases h1 : hitN set c 0 = 1
    · have h1' : ((hitN set c 0 : Nat) : Int) = 1 := by omega
      rw [decide_eq_true h1, Bool.true_or, if_pos rfl]
      simp (disch := first | omega | (simp only [Go.Am.len_push, Go.Am.len_set, Go.Am.len_kill] <;> omega) | fail) only [push_cast, Nat.reduceBEq, Nat.reduceAdd, Nat.reduceMul, Nat.reduceSub, Nat.reduceLT, Nat.reduceGT, Nat.reduceLeDiff, Nat.reduceEqDiff, Int.reduceToNat, Int.reduceAdd, Int.reduceMul, Int.reduceSub, Int.reduceNeg, Int.reduceLT, Int.reduceLE, Int.reduceEq, Nat.zero_add, Nat.add_zero, Nat.mul_one, eq_self, ne_eq, not_true, not_false_iff, and_true, true_and, and_self, List.getElem?_cons_zero, List.getElem?_cons_succ, List.map_cons, List.map_nil, wrap64, dec_lt, dec_nlt, dec_le, dec_nle, dec_eq, dec_ne, if_pos, if_neg, Int.natCast_add, Int.natCast_one, Int.natCast_zero, Int.toNat_natCast]
      rw [e1]
      simp (disch := first | omega | (simp only [Go.Am.len_push, Go.Am.len_set, Go.Am.len_kill] <;> omega) | fail) only [push_cast, Nat.reduceBEq, Nat.reduceAdd, Nat.reduceMul, Nat.reduceSub, Nat.reduceLT, Nat.reduceGT, Nat.reduceLeDiff, Nat.reduceEqDiff, Int.reduceToNat, Int.reduceAdd, Int.reduceMul, Int.reduceSub, Int.reduceNeg, Int.reduceLT, Int.reduceLE, Int.reduceEq, Nat.zero_add, Nat.add_zero, Nat.mul_one, eq_self, ne_eq, not_true, not_false_iff, and_true, true_and, and_self, List.getElem?_cons_zero, List.getElem?_cons_succ, List.map_cons, List.map_nil, wrap64, dec_lt, dec_nlt, dec_le, dec_nle, dec_eq, dec_ne, if_pos, if_neg, Int.natCast_add, Int.natCast_one, Int.natCast_zero, Int.toNat_natCast, h1']
    · have h1' : ¬ ((hitN set c 0 : Nat) : Int) = 1 := by omega
      rw [decide_eq_false h1, Bool.false_or, ← ih]
      simp (disch := first | omega | (simp only [Go.Am.len_push, Go.Am.len_set, Go.Am.len_kill] <;> omega) | fail) only [push_cast, Nat.reduceBEq, Nat.reduceAdd, Nat.reduceMul, Nat.reduceSub, Nat.reduceLT, Nat.reduceGT, Nat.reduceLeDiff, Nat.reduceEqDiff, Int.reduceToNat, Int.reduceAdd, Int.reduceMul, Int.reduceSub, Int.reduceNeg, Int.reduceLT, Int.reduceLE, Int.reduceEq, Nat.zero_add, Nat.add_zero, Nat.mul_one, eq_self, ne_eq, not_true, not_false_iff, and_true, true_and, and_self, List.getElem?_cons_zero, List.getElem?_cons_succ, List.map_cons, List.map_nil, wrap64, dec_lt, dec_nlt, dec_le, dec_nle, dec_eq, dec_ne, if_pos, if_neg, Int.natCast_add, Int.natCast_one, Int.natCast_zero, Int.toNat_natCast]
      rw [e1]
      simp (disch := first | omega | (simp only [Go.Am.len_push, Go.Am.len_set, Go.Am.len_kill] <;> omega) | fail) only [push_cast, Nat.reduceBEq, Nat.reduceAdd, Nat.reduceMul, Nat.reduceSub, Nat.reduceLT, Nat.reduceGT, Nat.reduceLeDiff, Nat.reduceEqDiff, Int.reduceToNat, Int.reduceAdd, Int.reduceMul, Int.reduceSub, Int.reduceNeg, Int.reduceLT, Int.reduceLE, Int.reduceEq, Nat.zero_add, Nat.add_zero, Nat.mul_one, eq_self, ne_eq, not_true, not_false_iff, and_true, true_and, and_self, List.getElem?_cons_zero, List.getElem?_cons_succ, List.map_cons, List.map_nil, wrap64, dec_lt, dec_nlt, dec_le, dec_nle, dec_eq, dec_ne, if_pos, if_neg, Int.natCast_add, Int.natCast_one, Int.natCast_zero, Int.toNat_natCast, dec_ne h1']
theorem rstops_call (hr : RdLL h sa C cs) (hc2 : Few2 cs) (hs : RdI h ss cset set) (hsl : set.length ≤ 9223372036854775807) :
    call T 32 [.slice sa cs.length C, .slice ss set.length cset] h = some (.bool (stopB cs set), h) := by
  have e2 := fun ks => rstop_out hr hc2 hs hsl cs.length 0 (by omega) ks
  rw [List.drop_zero] at e2
  simp only [Int.natCast_zero] at e2
  rw [call_at T32 rfl]
  unfold F32 c32 stopB
  simp (disch := first | omega | (simp only [Go.Am.len_push, Go.Am.len_set, Go.Am.len_kill] <;> omega) | fail) only [push_cast, Nat.reduceBEq, Nat.reduceAdd, Nat.reduceMul, Nat.reduceSub, Nat.reduceLT, Nat.reduceGT, Nat.reduceLeDiff, Nat.reduceEqDiff, Int.reduceToNat, Int.reduceAdd, Int.reduceMul, Int.reduceSub, Int.reduceNeg, Int.reduceLT, Int.reduceLE, Int.reduceEq, Nat.zero_add, Nat.add_zero, Nat.mul_one, eq_self, ne_eq, not_true, not_false_iff, and_true, true_and, and_self, List.getElem?_cons_zero, List.getElem?_cons_succ, List.map_cons, List.map_nil]
  rw [e2]
  cases hb : cs.any fun c => decide (hitN set c 0 = 1) with
  | true => rw [if_pos rfl]; rfl
  | false => rw [if_neg (by decide)]; simp (disch := first | omega | (simp only [Go.Am.len_push, Go.Am.len_set, Go.Am.len_kill] <;> omega) | fail) only [push_cast, Nat.reduceBEq, Nat.reduceAdd, Nat.reduceMul, Nat.reduceSub, Nat.reduceLT, Nat.reduceGT, Nat.reduceLeDiff, Nat.reduceEqDiff, Int.reduceToNat, Int.reduceAdd, Int.reduceMul, Int.reduceSub, Int.reduceNeg, Int.reduceLT, Int.reduceLE, Int.reduceEq, Nat.zero_add, Nat.add_zero, Nat.mul_one, eq_self, ne_eq, not_true, not_false_iff, and_true, true_and, and_self, List.getElem?_cons_zero, List.getElem?_cons_succ, List.map_cons, List.map_nil]

/-! ### bits -/
def outB (lost : Bool) (v : Int) : Bool := decide (v < (if lost = true then -1 else 0)) || decide (1 < v)
theorem bits_loop {w : List Int} {sw : Option Addr} {cw : Nat} (hw : RdI h sw cw w) (hl : w.length ≤ 9223372036854775807) (lost : Bool) : ∀ (m i : Nat), i + m = w.length → ∀ ks,
    goL T [.tmp 4] [0, 1, 5] c16L0 (.blk 0 [] :: ks) [(0, .slice sw w.length cw), (1, .bool lost), (5, .int .i64 i)] h =
      if anyF (outB lost) w m i = true then some (.bool false, h) else go T [.tmp 4] ks (Fr.of []) h
  | 0, i, hi, ks => by
    rw [goL_at c16L0.eq_def, anyF, if_neg (by decide)]
    simp (disch := first | omega | (simp only [Go.Am.len_push, Go.Am.len_set, Go.Am.len_kill] <;> omega) | fail) only [push_cast, Nat.reduceBEq, Nat.reduceAdd, Nat.reduceMul, Nat.reduceSub, Nat.reduceLT, Nat.reduceGT, Nat.reduceLeDiff, Nat.reduceEqDiff, Int.reduceToNat, Int.reduceAdd, Int.reduceMul, Int.reduceSub, Int.reduceNeg, Int.reduceLT, Int.reduceLE, Int.reduceEq, Nat.zero_add, Nat.add_zero, Nat.mul_one, eq_self, ne_eq, not_true, not_false_iff, and_true, true_and, and_self, List.getElem?_cons_zero, List.getElem?_cons_succ, List.map_cons, List.map_nil, wrap64, dec_lt, dec_nlt, dec_le, dec_nle, dec_eq, dec_ne, if_pos, if_neg, Int.natCast_add, Int.natCast_one, Int.natCast_zero, Int.toNat_natCast]
  | m + 1, i, hi, ks => by
    have ih := bits_loop hw hl lost m (i + 1) (by omega) ks
    obtain ⟨o, off, rfl, _, l1⟩ := hw.at (i := i) (by omega)
    rw [Int.natCast_add, Int.natCast_one] at ih
    rw [goL_at c16L0.eq_def, anyF]
    obtain ⟨x, hx⟩ : ∃ x, x = gi w i := ⟨_, rfl⟩
    rw [← hx] at l1 ⊢
    by_cases h0 : 1 < x
    · have ho : outB lost x = true := by unfold outB; rw [dec_lt h0, Bool.or_true]
      rw [ho, Bool.true_or, if_pos rfl]
      simp (disch := first | omega | (simp only [Go.Am.len_push, Go.Am.len_set, Go.Am.len_kill] <;> omega) | fail) only [push_cast, Nat.reduceBEq, Nat.reduceAdd, Nat.reduceMul, Nat.reduceSub, Nat.reduceLT, Nat.reduceGT, Nat.reduceLeDiff, Nat.reduceEqDiff, Int.reduceToNat, Int.reduceAdd, Int.reduceMul, Int.reduceSub, Int.reduceNeg, Int.reduceLT, Int.reduceLE, Int.reduceEq, Nat.zero_add, Nat.add_zero, Nat.mul_one, eq_self, ne_eq, not_true, not_false_iff, and_true, true_and, and_self, List.getElem?_cons_zero, List.getElem?_cons_succ, List.map_cons, List.map_nil, wrap64, dec_lt, dec_nlt, dec_le, dec_nle, dec_eq, dec_ne, if_pos, if_neg, Int.natCast_add, Int.natCast_one, Int.natCast_zero, Int.toNat_natCast, l1]
    · by_cases h1 : x < -1
      · have ho : outB lost x = true := by unfold outB; rw [decide_eq_true (by split <;> omega), Bool.true_or]
        rw [ho, Bool.true_or, if_pos rfl]
        simp (disch := first | omega | (simp only [Go.Am.len_push, Go.Am.len_set, Go.Am.len_kill] <;> omega) | fail) only [push_cast, Nat.reduceBEq, Nat.reduceAdd, Nat.reduceMul, Nat.reduceSub, Nat.reduceLT, Nat.reduceGT, Nat.reduceLeDiff, Nat.reduceEqDiff, Int.reduceToNat, Int.reduceAdd, Int.reduceMul, Int.reduceSub, Int.reduceNeg, Int.reduceLT, Int.reduceLE, Int.reduceEq, Nat.zero_add, Nat.add_zero, Nat.mul_one, eq_self, ne_eq, not_true, not_false_iff, and_true, true_and, and_self, List.getElem?_cons_zero, List.getElem?_cons_succ, List.map_cons, List.map_nil, wrap64, dec_lt, dec_nlt, dec_le, dec_nle, dec_eq, dec_ne, if_pos, if_neg, Int.natCast_add, Int.natCast_one, Int.natCast_zero, Int.toNat_natCast, l1]
      · by_cases h2 : x = -1
        · cases lost with
          | true =>
            have ho : outB true x = false := by unfold outB; simp [h2]
            rw [ho, Bool.false_or, ← ih]
            simp (disch := first | omega | (simp only [Go.Am.len_push, Go.Am.len_set, Go.Am.len_kill] <;> omega) | fail) only [push_cast, Nat.reduceBEq, Nat.reduceAdd, Nat.reduceMul, Nat.reduceSub, Nat.reduceLT, Nat.reduceGT, Nat.reduceLeDiff, Nat.reduceEqDiff, Int.reduceToNat, Int.reduceAdd, Int.reduceMul, Int.reduceSub, Int.reduceNeg, Int.reduceLT, Int.reduceLE, Int.reduceEq, Nat.zero_add, Nat.add_zero, Nat.mul_one, eq_self, ne_eq, not_true, not_false_iff, and_true, true_and, and_self, List.getElem?_cons_zero, List.getElem?_cons_succ, List.map_cons, List.map_nil, wrap64, dec_lt, dec_nlt, dec_le, dec_nle, dec_eq, dec_ne, if_pos, if_neg, Int.natCast_add, Int.natCast_one, Int.natCast_zero, Int.toNat_natCast, l1]
          | false =>
            have ho : outB false x = true := by unfold outB; simp [h2]
            rw [ho, Bool.true_or, if_pos rfl]
            simp (disch := first | omega | (simp only [Go.Am.len_push, Go.Am.len_set, Go.Am.len_kill] <;> omega) | fail) only [push_cast, Nat.reduceBEq, Nat.reduceAdd, Nat.reduceMul, Nat.reduceSub, Nat.reduceLT, Nat.reduceGT, Nat.reduceLeDiff, Nat.reduceEqDiff, Int.reduceToNat, Int.reduceAdd, Int.reduceMul, Int.reduceSub, Int.reduceNeg, Int.reduceLT, Int.reduceLE, Int.reduceEq, Nat.zero_add, Nat.add_zero, Nat.mul_one, eq_self, ne_eq, not_true, not_false_iff, and_true, true_and, and_self, List.getElem?_cons_zero, List.getElem?_cons_succ, List.map_cons, List.map_nil, wrap64, dec_lt, dec_nlt, dec_le, dec_nle, dec_eq, dec_ne, if_pos, if_neg, Int.natCast_add, Int.natCast_one, Int.natCast_zero, Int.toNat_natCast, l1]
        · have ho : outB lost x = false := by unfold outB; rw [decide_eq_false (by split <;> omega), dec_nlt (Int.not_lt.1 h0)]; rfl
          rw [ho, Bool.false_or, ← ih]
          simp (disch := first | omega | (simp only [Go.Am.len_push, Go.Am.len_set, Go.Am.len_kill] <;> omega) | fail) only [push_cast, Nat.reduceBEq, Nat.reduceAdd, Nat.reduceMul, Nat.reduceSub, Nat.reduceLT, Nat.reduceGT, Nat.reduceLeDiff, Nat.reduceEqDiff, Int.reduceToNat, Int.reduceAdd, Int.reduceMul, Int.reduceSub, Int.reduceNeg, Int.reduceLT, Int.reduceLE, Int.reduceEq, Nat.zero_add, Nat.add_zero, Nat.mul_one, eq_self, ne_eq, not_true, not_false_iff, and_true, true_and, and_self, List.getElem?_cons_zero, List.getElem?_cons_succ, List.map_cons, List.map_nil, wrap64, dec_lt, dec_nlt, dec_le, dec_nle, dec_eq, dec_ne, if_pos, if_neg, Int.natCast_add, Int.natCast_one, Int.natCast_zero, Int.toNat_natCast, l1]
theorem bits_call {w : List Int} {sw : Option Addr} {cw : Nat} (hw : RdI h sw cw w) (hl : w.length ≤ 9223372036854775807) (lost : Bool) : call T 16 [.slice sw w.length cw, .bool lost] h = some (.bool (!w.any (outB lost)), h) := by
  have e := fun ks => bits_loop hw hl lost w.length 0 (by omega) ks
  rw [anyF_all] at e
  simp only [Int.natCast_zero] at e
  rw [call_at T16 rfl]
  unfold F16 c16
  simp (disch := first | omega | (simp only [Go.Am.len_push, Go.Am.len_set, Go.Am.len_kill] <;> omega) | fail) only [push_cast, Nat.reduceBEq, Nat.reduceAdd, Nat.reduceMul, Nat.reduceSub, Nat.reduceLT, Nat.reduceGT, Nat.reduceLeDiff, Nat.reduceEqDiff, Int.reduceToNat, Int.reduceAdd, Int.reduceMul, Int.reduceSub, Int.reduceNeg, Int.reduceLT, Int.reduceLE, Int.reduceEq, Nat.zero_add, Nat.add_zero, Nat.mul_one, eq_self, ne_eq, not_true, not_false_iff, and_true, true_and, and_self, List.getElem?_cons_zero, List.getElem?_cons_succ, List.map_cons, List.map_nil]
  rw [e]
  cases hb : w.any (outB lost) with
  | true => rw [if_pos rfl]; rfl
  | false => rw [if_neg (by decide)]; simp (disch := first | omega | (simp only [Go.Am.len_push, Go.Am.len_set, Go.Am.len_kill] <;> omega) | fail) only [push_cast, Nat.reduceBEq, Nat.reduceAdd, Nat.reduceMul, Nat.reduceSub, Nat.reduceLT, Nat.reduceGT, Nat.reduceLeDiff, Nat.reduceEqDiff, Int.reduceToNat, Int.reduceAdd, Int.reduceMul, Int.reduceSub, Int.reduceNeg, Int.reduceLT, Int.reduceLE, Int.reduceEq, Nat.zero_add, Nat.add_zero, Nat.mul_one, eq_self, ne_eq, not_true, not_false_iff, and_true, true_and, and_self, List.getElem?_cons_zero, List.getElem?_cons_succ, List.map_cons, List.map_nil]

/-! ### too much? -/
theorem heavy_loop (hr : RdLL h sa C cs) (hl2 : Len2 cs) : ∀ (m i : Nat) (n : Int), i + m = cs.length → ∃ b : Int, ∀ ks,
    goL T [.tmp 2] [0, 3, 4] c22L0 (.blk 0 [3] :: ks) [(0, .slice sa cs.length C), (3, .int .i64 n), (4, .int .i64 i)] h = go T [.tmp 2] ks (Fr.of [(3, .int .i64 b)]) h
  | 0, i, n, hi => by
    refine ⟨n, fun ks => ?_⟩
    rw [goL_at c22L0.eq_def]
    simp (disch := first | omega | (simp only [Go.Am.len_push, Go.Am.len_set, Go.Am.len_kill] <;> omega) | fail) only [push_cast, Nat.reduceBEq, Nat.reduceAdd, Nat.reduceMul, Nat.reduceSub, Nat.reduceLT, Nat.reduceGT, Nat.reduceLeDiff, Nat.reduceEqDiff, Int.reduceToNat, Int.reduceAdd, Int.reduceMul, Int.reduceSub, Int.reduceNeg, Int.reduceLT, Int.reduceLE, Int.reduceEq, Nat.zero_add, Nat.add_zero, Nat.mul_one, eq_self, ne_eq, not_true, not_false_iff, and_true, true_and, and_self, List.getElem?_cons_zero, List.getElem?_cons_succ, List.map_cons, List.map_nil, wrap64, dec_lt, dec_nlt, dec_le, dec_nle, dec_eq, dec_ne, if_pos, if_neg, Int.natCast_add, Int.natCast_one, Int.natCast_zero, Int.toNat_natCast]
  | m + 1, i, n, hi => by
    have IH := heavy_loop hr hl2 m
    have hll := hl2.len
    obtain ⟨c, hc⟩ := at_some (l := cs) (i := i) (by omega)
    obtain ⟨o, a, c', rfl, l1, hra⟩ := hr.at hc
    by_cases hn : n ≤ 6000
    · obtain ⟨b, hb⟩ := IH (i + 1) (IntKind.wrap .i64 (n + c.length)) (by omega)
      refine ⟨b, fun ks => ?_⟩
      have hb := hb ks
      rw [Int.natCast_add, Int.natCast_one] at hb
      have w1 : IntKind.wrap .i64 ((i : Int) + 1) = (i : Int) + 1 := wrap64 (by omega) (by omega)
      have hlt : (i : Int) < (cs.length : Int) := by omega
      have hbd : (0 : Int) ≤ (i : Int) ∧ (i : Int) < (cs.length : Int) := by omega
      rw [goL_at c22L0.eq_def, ← hb]
      simp (disch := first | omega | (simp only [Go.Am.len_push, Go.Am.len_set, Go.Am.len_kill] <;> omega) | fail) only [push_cast, Nat.reduceBEq, Nat.reduceAdd, Nat.reduceMul, Nat.reduceSub, Nat.reduceLT, Nat.reduceGT, Nat.reduceLeDiff, Nat.reduceEqDiff, Int.reduceToNat, Int.reduceAdd, Int.reduceMul, Int.reduceSub, Int.reduceNeg, Int.reduceLT, Int.reduceLE, Int.reduceEq, Nat.zero_add, Nat.add_zero, Nat.mul_one, eq_self, ne_eq, not_true, not_false_iff, and_true, true_and, and_self, List.getElem?_cons_zero, List.getElem?_cons_succ, List.map_cons, List.map_nil, dec_lt hlt, dec_le hn, hbd, l1, w1, Int.toNat_natCast]
    · refine ⟨n, fun ks => ?_⟩
      rw [goL_at c22L0.eq_def]
      simp (disch := first | omega | (simp only [Go.Am.len_push, Go.Am.len_set, Go.Am.len_kill] <;> omega) | fail) only [push_cast, Nat.reduceBEq, Nat.reduceAdd, Nat.reduceMul, Nat.reduceSub, Nat.reduceLT, Nat.reduceGT, Nat.reduceLeDiff, Nat.reduceEqDiff, Int.reduceToNat, Int.reduceAdd, Int.reduceMul, Int.reduceSub, Int.reduceNeg, Int.reduceLT, Int.reduceLE, Int.reduceEq, Nat.zero_add, Nat.add_zero, Nat.mul_one, eq_self, ne_eq, not_true, not_false_iff, and_true, true_and, and_self, List.getElem?_cons_zero, List.getElem?_cons_succ, List.map_cons, List.map_nil, wrap64, dec_lt, dec_nlt, dec_le, dec_nle, dec_eq, dec_ne, if_pos, if_neg, Int.natCast_add, Int.natCast_one, Int.natCast_zero, Int.toNat_natCast]
theorem heavy_call (hr : RdLL h sa C cs) (hl2 : Len2 cs) : ∃ b : Bool, call T 22 [.slice sa cs.length C] h = some (.bool b, h) := by
  obtain ⟨b, hb⟩ := heavy_loop hr hl2 cs.length 0 cs.length (by omega)
  simp only [Int.natCast_zero] at hb
  refine ⟨decide (6000 < b), ?_⟩
  rw [call_at T22 rfl]
  unfold F22 c22
  simp (disch := first | omega | (simp only [Go.Am.len_push, Go.Am.len_set, Go.Am.len_kill] <;> omega) | fail) only [push_cast, Nat.reduceBEq, Nat.reduceAdd, Nat.reduceMul, Nat.reduceSub, Nat.reduceLT, Nat.reduceGT, Nat.reduceLeDiff, Nat.reduceEqDiff, Int.reduceToNat, Int.reduceAdd, Int.reduceMul, Int.reduceSub, Int.reduceNeg, Int.reduceLT, Int.reduceLE, Int.reduceEq, Nat.zero_add, Nat.add_zero, Nat.mul_one, eq_self, ne_eq, not_true, not_false_iff, and_true, true_and, and_self, List.getElem?_cons_zero, List.getElem?_cons_succ, List.map_cons, List.map_nil]
  rw [hb]
  simp (disch := first | omega | (simp only [Go.Am.len_push, Go.Am.len_set, Go.Am.len_kill] <;> omega) | fail) only [push_cast, Nat.reduceBEq, Nat.reduceAdd, Nat.reduceMul, Nat.reduceSub, Nat.reduceLT, Nat.reduceGT, Nat.reduceLeDiff, Nat.reduceEqDiff, Int.reduceToNat, Int.reduceAdd, Int.reduceMul, Int.reduceSub, Int.reduceNeg, Int.reduceLT, Int.reduceLE, Int.reduceEq, Nat.zero_add, Nat.add_zero, Nat.mul_one, eq_self, ne_eq, not_true, not_false_iff, and_true, true_and, and_self, List.getElem?_cons_zero, List.getElem?_cons_succ, List.map_cons, List.map_nil]
end
end Go.Proofs.Ytammndhoillliaa
