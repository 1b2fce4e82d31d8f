/-
  What sparse.Peel and the document's Peeled answer. Conditions: checks and words as memory tells them, of at most two hundred bits.
-/
import Derived.Test.YtammndhoillliaaSpC
namespace Go.Proofs.Ytammndhoillliaa
open Go.Am
set_option linter.unusedVariables false
set_option linter.unusedSimpArgs false
set_option maxRecDepth 30000

def outs (least : Int) (v : Int) : Bool := decide (v < least) || decide (1 < v)
def wdE (n : Int) (w : List Int) (least : Int) : Int := if (w.length : Int) = n then (if w.any (outs least) = true then 2 else 0) else 6
theorem wdE_ok {n : Int} {w : List Int} {least : Int} (h : wdE n w least = 0) : (w.length : Int) = n ∧ ∀ v ∈ w, least ≤ v ∧ v ≤ 1 := by
  unfold wdE at h
  split at h
  · rename_i h1
    split at h
    · cases h
    · rename_i h2
      refine ⟨h1, fun v hv => ?_⟩
      rw [Bool.not_eq_true, List.any_eq_false] at h2
      have := h2 v hv
      simp only [outs, Bool.or_eq_true, decide_eq_true_eq] at this
      omega
  · cases h
section
variable {h : H} {sw : Option Addr} {cw : Nat} {w : List Int}
theorem wordp_call {o : Nat} {least : Int} (ho : h.ld1 o 0 = some (.int .i64 least)) (v : Int) : call T 151 [.int .i64 v, .pointer (some ⟨o, 0, none⟩)] h = some (.bool (outs least v), h) := by
  rw [call_at T151 rfl]
  unfold F151 c151 outs
  by_cases h1 : v < least
  · rw [dec_lt h1, Bool.true_or]
    simp (disch := first | omega | (simp only [Go.Am.len_push, Go.Am.len_set, Go.Am.len_kill] <;> omega) | fail) only [push_cast, Nat.reduceBEq, Nat.reduceAdd, Nat.reduceMul, Nat.reduceSub, Nat.reduceLT, Nat.reduceGT, Nat.reduceLeDiff, Nat.reduceEqDiff, Int.reduceToNat, Int.reduceAdd, Int.reduceMul, Int.reduceSub, Int.reduceNeg, Int.reduceLT, Int.reduceLE, Int.reduceEq, Nat.zero_add, Nat.add_zero, Nat.mul_one, eq_self, ne_eq, not_true, not_false_iff, and_true, true_and, and_self, List.getElem?_cons_zero, List.getElem?_cons_succ, List.map_cons, List.map_nil, wrap64, dec_lt, dec_nlt, dec_le, dec_nle, dec_eq, dec_ne, if_pos, if_neg, Int.natCast_add, Int.natCast_one, Int.natCast_zero, Int.toNat_natCast, ho]
  · by_cases h2 : 1 < v
    · rw [dec_lt h2, Bool.or_true]
      simp (disch := first | omega | (simp only [Go.Am.len_push, Go.Am.len_set, Go.Am.len_kill] <;> omega) | fail) only [push_cast, Nat.reduceBEq, Nat.reduceAdd, Nat.reduceMul, Nat.reduceSub, Nat.reduceLT, Nat.reduceGT, Nat.reduceLeDiff, Nat.reduceEqDiff, Int.reduceToNat, Int.reduceAdd, Int.reduceMul, Int.reduceSub, Int.reduceNeg, Int.reduceLT, Int.reduceLE, Int.reduceEq, Nat.zero_add, Nat.add_zero, Nat.mul_one, eq_self, ne_eq, not_true, not_false_iff, and_true, true_and, and_self, List.getElem?_cons_zero, List.getElem?_cons_succ, List.map_cons, List.map_nil, wrap64, dec_lt, dec_nlt, dec_le, dec_nle, dec_eq, dec_ne, if_pos, if_neg, Int.natCast_add, Int.natCast_one, Int.natCast_zero, Int.toNat_natCast, ho]
    · rw [dec_nlt (Int.not_lt.1 h1), dec_nlt (Int.not_lt.1 h2), Bool.or_false]
      simp (disch := first | omega | (simp only [Go.Am.len_push, Go.Am.len_set, Go.Am.len_kill] <;> omega) | fail) only [push_cast, Nat.reduceBEq, Nat.reduceAdd, Nat.reduceMul, Nat.reduceSub, Nat.reduceLT, Nat.reduceGT, Nat.reduceLeDiff, Nat.reduceEqDiff, Int.reduceToNat, Int.reduceAdd, Int.reduceMul, Int.reduceSub, Int.reduceNeg, Int.reduceLT, Int.reduceLE, Int.reduceEq, Nat.zero_add, Nat.add_zero, Nat.mul_one, eq_self, ne_eq, not_true, not_false_iff, and_true, true_and, and_self, List.getElem?_cons_zero, List.getElem?_cons_succ, List.map_cons, List.map_nil, wrap64, dec_lt, dec_nlt, dec_le, dec_nle, dec_eq, dec_ne, if_pos, if_neg, Int.natCast_add, Int.natCast_one, Int.natCast_zero, Int.toNat_natCast, ho]
theorem word_call (hr : RdI h sw cw w) (hl : w.length ≤ 9223372036854775807) (n least : Int) : ∃ h' : H, h <+: h' ∧ call T 108 [.int .i64 n, .slice sw w.length cw, .int .i64 least] h = some (.int .i64 (wdE n w least), h') := by
  obtain ⟨h1, eh1⟩ : ∃ h1 : H, h1 = h ++ [.row ⟨[.int .i64 least], 3, 0, true⟩] := ⟨_, rfl⟩
  have p1 : h <+: h1 := by rw [eh1]; exact List.prefix_append _ _
  have r1 : h1.row h.length = some ⟨[.int .i64 least], 3, 0, true⟩ := by rw [eh1]; exact row_push_new
  have l1 : h1.ld1 h.length 0 = some (.int .i64 least) := ld1_at r1 rfl
  have e1 := containsFunc_call (hr.mono p1) (by omega) (k := 151) (cap := [Value.pointer (some ⟨h.length, 0, none⟩)].toArray) (p := outs least) (fun v => wordp_call l1 v)
  refine ⟨h1, p1, ?_⟩
  rw [call_at T108 rfl]
  unfold F108 c108 wdE
  by_cases hn : (w.length : Int) = n
  · rw [if_pos hn]
    cases ha : w.any (outs least) with
    | true =>
      rw [ha] at e1
      rw [if_pos rfl]
      simp (disch := first | omega | (simp only [Go.Am.len_push, Go.Am.len_set, Go.Am.len_kill] <;> omega) | fail) only [push_cast, Nat.reduceBEq, Nat.reduceAdd, Nat.reduceMul, Nat.reduceSub, Nat.reduceLT, Nat.reduceGT, Nat.reduceLeDiff, Nat.reduceEqDiff, Int.reduceToNat, Int.reduceAdd, Int.reduceMul, Int.reduceSub, Int.reduceNeg, Int.reduceLT, Int.reduceLE, Int.reduceEq, Nat.zero_add, Nat.add_zero, Nat.mul_one, eq_self, ne_eq, not_true, not_false_iff, and_true, true_and, and_self, List.getElem?_cons_zero, List.getElem?_cons_succ, List.map_cons, List.map_nil, wrap64, dec_lt, dec_nlt, dec_le, dec_nle, dec_eq, dec_ne, if_pos, if_neg, Int.natCast_add, Int.natCast_one, Int.natCast_zero, Int.toNat_natCast, ← eh1, e1]
    | false =>
      rw [ha] at e1
      rw [if_neg (by decide)]
      simp (disch := first | omega | (simp only [Go.Am.len_push, Go.Am.len_set, Go.Am.len_kill] <;> omega) | fail) only [push_cast, Nat.reduceBEq, Nat.reduceAdd, Nat.reduceMul, Nat.reduceSub, Nat.reduceLT, Nat.reduceGT, Nat.reduceLeDiff, Nat.reduceEqDiff, Int.reduceToNat, Int.reduceAdd, Int.reduceMul, Int.reduceSub, Int.reduceNeg, Int.reduceLT, Int.reduceLE, Int.reduceEq, Nat.zero_add, Nat.add_zero, Nat.mul_one, eq_self, ne_eq, not_true, not_false_iff, and_true, true_and, and_self, List.getElem?_cons_zero, List.getElem?_cons_succ, List.map_cons, List.map_nil, wrap64, dec_lt, dec_nlt, dec_le, dec_nle, dec_eq, dec_ne, if_pos, if_neg, Int.natCast_add, Int.natCast_one, Int.natCast_zero, Int.toNat_natCast, ← eh1, e1]
  · rw [if_neg hn]
    simp (disch := first | omega | (simp only [Go.Am.len_push, Go.Am.len_set, Go.Am.len_kill] <;> omega) | fail) only [push_cast, Nat.reduceBEq, Nat.reduceAdd, Nat.reduceMul, Nat.reduceSub, Nat.reduceLT, Nat.reduceGT, Nat.reduceLeDiff, Nat.reduceEqDiff, Int.reduceToNat, Int.reduceAdd, Int.reduceMul, Int.reduceSub, Int.reduceNeg, Int.reduceLT, Int.reduceLE, Int.reduceEq, Nat.zero_add, Nat.add_zero, Nat.mul_one, eq_self, ne_eq, not_true, not_false_iff, and_true, true_and, and_self, List.getElem?_cons_zero, List.getElem?_cons_succ, List.map_cons, List.map_nil, wrap64, dec_lt, dec_nlt, dec_le, dec_nle, dec_eq, dec_ne, if_pos, if_neg, Int.natCast_add, Int.natCast_one, Int.natCast_zero, Int.toNat_natCast, ← eh1]
end

/-! ### which are left -/
section
variable {G0 : H} {o : Nat} {fin : List Int}
theorem pleft_loop (ho : G0.row o = some ⟨ints fin, 3, 1, true⟩) (hl : fin.length ≤ 1000) : ∀ (m i : Nat) (zs : List Int) (s : Option Addr) (c : Nat) (G : H), i + m = fin.length → zs.length ≤ i → Grown G s c zs G0.length → G0 <+: G →
    ∃ (s' : Option Addr) (c' : Nat) (G' : H), G0 <+: G' ∧ Grown G' s' c' (zs ++ leftL fin m i) G0.length ∧ ∀ ks,
      goL T [.tmp 6, .tmp 7, .tmp 8] [7, 9, 79, 80, 81] c26L3 (.blk 6 [7, 9] :: ks) [(7, .slice s zs.length c), (9, .slice (some ⟨o, 0, none⟩) fin.length fin.length), (79, .slice (some ⟨o, 0, none⟩) fin.length fin.length), (80, .int .i64 fin.length), (81, .int .i64 i)] G =
        go T [.tmp 6, .tmp 7, .tmp 8] ks (Fr.of [(7, .slice s' (zs ++ leftL fin m i).length c'), (9, .slice (some ⟨o, 0, none⟩) fin.length fin.length)]) G'
  | 0, i, zs, s, c, G, hi, hz, hg, hp => by
    refine ⟨s, c, G, hp, by rw [leftL, List.append_nil]; exact hg, fun ks => ?_⟩
    rw [goL_at c26L3.eq_def, leftL, List.append_nil]
    simp (disch := first | omega | (simp only [Go.Am.len_push, Go.Am.len_set, Go.Am.len_kill] <;> omega) | fail) only [push_cast, Nat.reduceBEq, Nat.reduceAdd, Nat.reduceMul, Nat.reduceSub, Nat.reduceLT, Nat.reduceGT, Nat.reduceLeDiff, Nat.reduceEqDiff, Int.reduceToNat, Int.reduceAdd, Int.reduceMul, Int.reduceSub, Int.reduceNeg, Int.reduceLT, Int.reduceLE, Int.reduceEq, Nat.zero_add, Nat.add_zero, Nat.mul_one, eq_self, ne_eq, not_true, not_false_iff, and_true, true_and, and_self, List.getElem?_cons_zero, List.getElem?_cons_succ, List.map_cons, List.map_nil, wrap64, dec_lt, dec_nlt, dec_le, dec_nle, dec_eq, dec_ne, if_pos, if_neg, Int.natCast_add, Int.natCast_one, Int.natCast_zero, Int.toNat_natCast]
  | m + 1, i, zs, s, c, G, hi, hz, hg, hp => by
    have l1 := ld1_int (row_pre ho hp) (i := (i : Int)) (by omega) (by omega)
    rw [Int.toNat_natCast] at l1
    by_cases h0 : gi fin i < 0
    · obtain ⟨s1, G1, e1, g1, q1, q2, q3⟩ := hg.one (y := (i : Int)) (by omega) hp.length_le
      obtain ⟨s', c', G', k1, k2, k3⟩ := pleft_loop ho hl m (i + 1) (zs ++ [(i : Int)]) s1 (zs.length + 1) G1 (by omega) (by simp; omega) g1 (q3 G0 (Nat.le_refl _) hp)
      have hll : zs ++ leftL fin (m + 1) i = (zs ++ [(i : Int)]) ++ leftL fin m (i + 1) := by rw [leftL, if_pos h0, List.append_assoc]
      rw [hll]
      refine ⟨s', c', G', k1, k2, fun ks => ?_⟩
      have ih := k3 ks
      rw [Int.natCast_add, Int.natCast_one, show (zs ++ [(i : Int)]).length = zs.length + 1 by simp] at ih
      rw [goL_at c26L3.eq_def, ← ih]
      simp (disch := first | omega | (simp only [Go.Am.len_push, Go.Am.len_set, Go.Am.len_kill] <;> omega) | fail) only [push_cast, Nat.reduceBEq, Nat.reduceAdd, Nat.reduceMul, Nat.reduceSub, Nat.reduceLT, Nat.reduceGT, Nat.reduceLeDiff, Nat.reduceEqDiff, Int.reduceToNat, Int.reduceAdd, Int.reduceMul, Int.reduceSub, Int.reduceNeg, Int.reduceLT, Int.reduceLE, Int.reduceEq, Nat.zero_add, Nat.add_zero, Nat.mul_one, eq_self, ne_eq, not_true, not_false_iff, and_true, true_and, and_self, List.getElem?_cons_zero, List.getElem?_cons_succ, List.map_cons, List.map_nil, wrap64, dec_lt, dec_nlt, dec_le, dec_nle, dec_eq, dec_ne, if_pos, if_neg, Int.natCast_add, Int.natCast_one, Int.natCast_zero, Int.toNat_natCast, l1, e1]
    · obtain ⟨s', c', G', k1, k2, k3⟩ := pleft_loop ho hl m (i + 1) zs s c G (by omega) (by omega) hg hp
      have hll : zs ++ leftL fin (m + 1) i = zs ++ leftL fin m (i + 1) := by rw [leftL, if_neg h0, List.nil_append]
      rw [hll]
      refine ⟨s', c', G', k1, k2, fun ks => ?_⟩
      have ih := k3 ks
      rw [Int.natCast_add, Int.natCast_one] at ih
      rw [goL_at c26L3.eq_def, ← ih]
      simp (disch := first | omega | (simp only [Go.Am.len_push, Go.Am.len_set, Go.Am.len_kill] <;> omega) | fail) only [push_cast, Nat.reduceBEq, Nat.reduceAdd, Nat.reduceMul, Nat.reduceSub, Nat.reduceLT, Nat.reduceGT, Nat.reduceLeDiff, Nat.reduceEqDiff, Int.reduceToNat, Int.reduceAdd, Int.reduceMul, Int.reduceSub, Int.reduceNeg, Int.reduceLT, Int.reduceLE, Int.reduceEq, Nat.zero_add, Nat.add_zero, Nat.mul_one, eq_self, ne_eq, not_true, not_false_iff, and_true, true_and, and_self, List.getElem?_cons_zero, List.getElem?_cons_succ, List.map_cons, List.map_nil, wrap64, dec_lt, dec_nlt, dec_le, dec_nle, dec_eq, dec_ne, if_pos, if_neg, Int.natCast_add, Int.natCast_one, Int.natCast_zero, Int.toNat_natCast, l1]
theorem rleft_loop (ho : G0.row o = some ⟨ints fin, 3, 1, true⟩) (hl : fin.length ≤ 1000) : ∀ (m i : Nat) (zs : List Int) (s : Option Addr) (c : Nat) (G : H), i + m = fin.length → zs.length ≤ i → Grown G s c zs G0.length → G0 <+: G →
    ∃ (s' : Option Addr) (c' : Nat) (G' : H), G0 <+: G' ∧ Grown G' s' c' (zs ++ leftL fin m i) G0.length ∧ ∀ ks,
      goL T [.tmp 4, .tmp 5] [6, 12, 13] c25L2 (.blk 4 [6, 12] :: ks) [(6, .slice (some ⟨o, 0, none⟩) fin.length fin.length), (12, .slice s zs.length c), (13, .int .i64 i)] G =
        go T [.tmp 4, .tmp 5] ks (Fr.of [(6, .slice (some ⟨o, 0, none⟩) fin.length fin.length), (12, .slice s' (zs ++ leftL fin m i).length c')]) G'
  | 0, i, zs, s, c, G, hi, hz, hg, hp => by
    refine ⟨s, c, G, hp, by rw [leftL, List.append_nil]; exact hg, fun ks => ?_⟩
    rw [goL_at c25L2.eq_def, leftL, List.append_nil]
    simp (disch := first | omega | (simp only [Go.Am.len_push, Go.Am.len_set, Go.Am.len_kill] <;> omega) | fail) only [push_cast, Nat.reduceBEq, Nat.reduceAdd, Nat.reduceMul, Nat.reduceSub, Nat.reduceLT, Nat.reduceGT, Nat.reduceLeDiff, Nat.reduceEqDiff, Int.reduceToNat, Int.reduceAdd, Int.reduceMul, Int.reduceSub, Int.reduceNeg, Int.reduceLT, Int.reduceLE, Int.reduceEq, Nat.zero_add, Nat.add_zero, Nat.mul_one, eq_self, ne_eq, not_true, not_false_iff, and_true, true_and, and_self, List.getElem?_cons_zero, List.getElem?_cons_succ, List.map_cons, List.map_nil, wrap64, dec_lt, dec_nlt, dec_le, dec_nle, dec_eq, dec_ne, if_pos, if_neg, Int.natCast_add, Int.natCast_one, Int.natCast_zero, Int.toNat_natCast]
  | m + 1, i, zs, s, c, G, hi, hz, hg, hp => by
    have l1 := ld1_int (row_pre ho hp) (i := (i : Int)) (by omega) (by omega)
    rw [Int.toNat_natCast] at l1
    by_cases h0 : gi fin i < 0
    · obtain ⟨s1, G1, e1, g1, q1, q2, q3⟩ := hg.one (y := (i : Int)) (by omega) hp.length_le
      obtain ⟨s', c', G', k1, k2, k3⟩ := rleft_loop ho hl m (i + 1) (zs ++ [(i : Int)]) s1 (zs.length + 1) G1 (by omega) (by simp; omega) g1 (q3 G0 (Nat.le_refl _) hp)
      have hll : zs ++ leftL fin (m + 1) i = (zs ++ [(i : Int)]) ++ leftL fin m (i + 1) := by rw [leftL, if_pos h0, List.append_assoc]
      rw [hll]
      refine ⟨s', c', G', k1, k2, fun ks => ?_⟩
      have ih := k3 ks
      rw [Int.natCast_add, Int.natCast_one, show (zs ++ [(i : Int)]).length = zs.length + 1 by simp] at ih
      rw [goL_at c25L2.eq_def, ← ih]
      simp (disch := first | omega | (simp only [Go.Am.len_push, Go.Am.len_set, Go.Am.len_kill] <;> omega) | fail) only [push_cast, Nat.reduceBEq, Nat.reduceAdd, Nat.reduceMul, Nat.reduceSub, Nat.reduceLT, Nat.reduceGT, Nat.reduceLeDiff, Nat.reduceEqDiff, Int.reduceToNat, Int.reduceAdd, Int.reduceMul, Int.reduceSub, Int.reduceNeg, Int.reduceLT, Int.reduceLE, Int.reduceEq, Nat.zero_add, Nat.add_zero, Nat.mul_one, eq_self, ne_eq, not_true, not_false_iff, and_true, true_and, and_self, List.getElem?_cons_zero, List.getElem?_cons_succ, List.map_cons, List.map_nil, wrap64, dec_lt, dec_nlt, dec_le, dec_nle, dec_eq, dec_ne, if_pos, if_neg, Int.natCast_add, Int.natCast_one, Int.natCast_zero, Int.toNat_natCast, l1, e1]
    · obtain ⟨s', c', G', k1, k2, k3⟩ := rleft_loop ho hl m (i + 1) zs s c G (by omega) (by omega) hg hp
      have hll : zs ++ leftL fin (m + 1) i = zs ++ leftL fin m (i + 1) := by rw [leftL, if_neg h0, List.nil_append]
      rw [hll]
      refine ⟨s', c', G', k1, k2, fun ks => ?_⟩
      have ih := k3 ks
      rw [Int.natCast_add, Int.natCast_one] at ih
      rw [goL_at c25L2.eq_def, ← ih]
      simp (disch := first | omega | (simp only [Go.Am.len_push, Go.Am.len_set, Go.Am.len_kill] <;> omega) | fail) only [push_cast, Nat.reduceBEq, Nat.reduceAdd, Nat.reduceMul, Nat.reduceSub, Nat.reduceLT, Nat.reduceGT, Nat.reduceLeDiff, Nat.reduceEqDiff, Int.reduceToNat, Int.reduceAdd, Int.reduceMul, Int.reduceSub, Int.reduceNeg, Int.reduceLT, Int.reduceLE, Int.reduceEq, Nat.zero_add, Nat.add_zero, Nat.mul_one, eq_self, ne_eq, not_true, not_false_iff, and_true, true_and, and_self, List.getElem?_cons_zero, List.getElem?_cons_succ, List.map_cons, List.map_nil, wrap64, dec_lt, dec_nlt, dec_le, dec_nle, dec_eq, dec_ne, if_pos, if_neg, Int.natCast_add, Int.natCast_one, Int.natCast_zero, Int.toNat_natCast, l1]
end

/-! ### the answers -/
def peelE (n : Int) (cs : List (List Int)) (w : List Int) : Int := if chkE n cs = 0 then wdE n w (-1) else chkE n cs
def peelF (cs : List (List Int)) (w : List Int) : List Int := peelN cs (neg w) w
def peelL (cs : List (List Int)) (w : List Int) : List Int := leftL (peelF cs w) (peelF cs w).length 0
theorem chkE_ok {n : Int} {cs : List (List Int)} (h : chkE n cs = 0) : 1 ≤ n ∧ n ≤ 64 ∧ chL n cs = 0 := by
  unfold chkE at h
  split at h
  · cases h
  · exact ⟨by omega, by omega, h⟩
theorem peelE_ok {n : Int} {cs : List (List Int)} {w : List Int} (h : peelE n cs w = 0) : chkE n cs = 0 ∧ wdE n w (-1) = 0 := by
  unfold peelE at h
  split at h
  · exact ⟨by assumption, h⟩
  · contradiction
section
variable {h : H} {sa sw : Option Addr} {C cw : Nat} {cs : List (List Int)} {w : List Int}
theorem ppeel_call (hr : RdLL h sa C cs) (hl2 : Len2 cs) (hw : RdI h sw cw w) (hl : w.length ≤ 9223372036854775807) (n : Int) : ∃ (s1 s2 : Option Addr) (c1 c2 : Nat) (h' : H), h <+: h' ∧
    RdI h' s1 c1 (if peelE n cs w = 0 then peelF cs w else []) ∧ RdI h' s2 c2 (if peelE n cs w = 0 then peelL cs w else []) ∧
    call T 26 [.int .i64 n, .slice sa cs.length C, .slice sw w.length cw] h = some (.tuple #[.slice s1 (if peelE n cs w = 0 then peelF cs w else []).length c1, .slice s2 (if peelE n cs w = 0 then peelL cs w else []).length c2, .int .i64 (peelE n cs w)], h') := by
  have e1 := pchk_call (n := n) hr hl2
  by_cases h1 : chkE n cs = 0
  · obtain ⟨hc2, _⟩ := few_of h1
    obtain ⟨h1', p1, e2⟩ := word_call hw (by omega) n (-1)
    have hpe : peelE n cs w = wdE n w (-1) := by unfold peelE; rw [if_pos h1]
    rw [hpe]
    rw [h1] at e1
    by_cases h2 : wdE n w (-1) = 0
    · rw [h2] at e2 ⊢
      rw [if_pos rfl, if_pos rfl]
      obtain ⟨q1, q2, q3⟩ := chkE_ok h1
      obtain ⟨q4, q5⟩ := wdE_ok h2
      obtain ⟨N, rfl⟩ : ∃ N : Nat, n = N := ⟨n.toNat, by omega⟩
      have hwl : w.length = N := by omega
      obtain ⟨o1, G1, ⟨f1, f2, f3⟩, e3⟩ := clone_call (hw.mono p1) (by omega) (by omega)
      obtain ⟨G2, o2, k1, k2, k3, k4, k5, k6⟩ := peel_out (hr.mono p1) hc2 (chL_ok q3) (by omega) (by omega) (.slice none 0 0) (neg w) w G1 o1 (Nat.le_refl _) hwl q5 f2 f1 f3
      have hF : peelN cs (neg w) w = peelF cs w := rfl
      rw [hF] at k3 k4 k5
      obtain ⟨s2, c2, G3, m1, m2, m3⟩ := pleft_loop k3 (by omega) (peelF cs w).length 0 [] none 0 G2 (by omega) (Nat.le_refl _) .nil (List.prefix_refl _)
      have hL : [] ++ leftL (peelF cs w) (peelF cs w).length 0 = peelL cs w := rfl
      rw [hL] at m2 m3
      simp only [List.length_nil, Int.natCast_zero] at m3
      rw [k4] at m3
      refine ⟨some ⟨o2, 0, none⟩, s2, N, c2, G3, p1.trans (k1.trans m1), ?_, m2.rd, ?_⟩
      · have := RdI.ofRow (row_pre k3 m1) rfl; rwa [k4] at this
      · rw [k4, call_at T26 rfl]
        unfold F26 c26
        rw [hwl] at e3
        rw [hwl] at e2 ⊢
        simp (disch := first | omega | (simp only [Go.Am.len_push, Go.Am.len_set, Go.Am.len_kill] <;> omega) | fail) only [push_cast, Nat.reduceBEq, Nat.reduceAdd, Nat.reduceMul, Nat.reduceSub, Nat.reduceLT, Nat.reduceGT, Nat.reduceLeDiff, Nat.reduceEqDiff, Int.reduceToNat, Int.reduceAdd, Int.reduceMul, Int.reduceSub, Int.reduceNeg, Int.reduceLT, Int.reduceLE, Int.reduceEq, Nat.zero_add, Nat.add_zero, Nat.mul_one, eq_self, ne_eq, not_true, not_false_iff, and_true, true_and, and_self, List.getElem?_cons_zero, List.getElem?_cons_succ, List.map_cons, List.map_nil, wrap64, dec_lt, dec_nlt, dec_le, dec_nle, dec_eq, dec_ne, if_pos, if_neg, Int.natCast_add, Int.natCast_one, Int.natCast_zero, Int.toNat_natCast, e1, e2, e3]
        rw [k6]
        simp (disch := first | omega | (simp only [Go.Am.len_push, Go.Am.len_set, Go.Am.len_kill] <;> omega) | fail) only [push_cast, Nat.reduceBEq, Nat.reduceAdd, Nat.reduceMul, Nat.reduceSub, Nat.reduceLT, Nat.reduceGT, Nat.reduceLeDiff, Nat.reduceEqDiff, Int.reduceToNat, Int.reduceAdd, Int.reduceMul, Int.reduceSub, Int.reduceNeg, Int.reduceLT, Int.reduceLE, Int.reduceEq, Nat.zero_add, Nat.add_zero, Nat.mul_one, eq_self, ne_eq, not_true, not_false_iff, and_true, true_and, and_self, List.getElem?_cons_zero, List.getElem?_cons_succ, List.map_cons, List.map_nil]
        rw [m3]
        simp (disch := first | omega | (simp only [Go.Am.len_push, Go.Am.len_set, Go.Am.len_kill] <;> omega) | fail) only [push_cast, Nat.reduceBEq, Nat.reduceAdd, Nat.reduceMul, Nat.reduceSub, Nat.reduceLT, Nat.reduceGT, Nat.reduceLeDiff, Nat.reduceEqDiff, Int.reduceToNat, Int.reduceAdd, Int.reduceMul, Int.reduceSub, Int.reduceNeg, Int.reduceLT, Int.reduceLE, Int.reduceEq, Nat.zero_add, Nat.add_zero, Nat.mul_one, eq_self, ne_eq, not_true, not_false_iff, and_true, true_and, and_self, List.getElem?_cons_zero, List.getElem?_cons_succ, List.map_cons, List.map_nil]
    · rw [if_neg h2, if_neg h2]
      refine ⟨none, none, 0, 0, h1', p1, .nil, .nil, ?_⟩
      rw [call_at T26 rfl]
      unfold F26 c26
      simp (disch := first | omega | (simp only [Go.Am.len_push, Go.Am.len_set, Go.Am.len_kill] <;> omega) | fail) only [push_cast, Nat.reduceBEq, Nat.reduceAdd, Nat.reduceMul, Nat.reduceSub, Nat.reduceLT, Nat.reduceGT, Nat.reduceLeDiff, Nat.reduceEqDiff, Int.reduceToNat, Int.reduceAdd, Int.reduceMul, Int.reduceSub, Int.reduceNeg, Int.reduceLT, Int.reduceLE, Int.reduceEq, Nat.zero_add, Nat.add_zero, Nat.mul_one, eq_self, ne_eq, not_true, not_false_iff, and_true, true_and, and_self, List.getElem?_cons_zero, List.getElem?_cons_succ, List.map_cons, List.map_nil, wrap64, dec_lt, dec_nlt, dec_le, dec_nle, dec_eq, dec_ne, if_pos, if_neg, Int.natCast_add, Int.natCast_one, Int.natCast_zero, Int.toNat_natCast, e1, e2, dec_ne h2]
  · have hpe : peelE n cs w = chkE n cs := by unfold peelE; rw [if_neg h1]
    rw [hpe, if_neg h1, if_neg h1]
    refine ⟨none, none, 0, 0, h, List.prefix_refl _, .nil, .nil, ?_⟩
    rw [call_at T26 rfl]
    unfold F26 c26
    simp (disch := first | omega | (simp only [Go.Am.len_push, Go.Am.len_set, Go.Am.len_kill] <;> omega) | fail) only [push_cast, Nat.reduceBEq, Nat.reduceAdd, Nat.reduceMul, Nat.reduceSub, Nat.reduceLT, Nat.reduceGT, Nat.reduceLeDiff, Nat.reduceEqDiff, Int.reduceToNat, Int.reduceAdd, Int.reduceMul, Int.reduceSub, Int.reduceNeg, Int.reduceLT, Int.reduceLE, Int.reduceEq, Nat.zero_add, Nat.add_zero, Nat.mul_one, eq_self, ne_eq, not_true, not_false_iff, and_true, true_and, and_self, List.getElem?_cons_zero, List.getElem?_cons_succ, List.map_cons, List.map_nil, wrap64, dec_lt, dec_nlt, dec_le, dec_nle, dec_eq, dec_ne, if_pos, if_neg, Int.natCast_add, Int.natCast_one, Int.natCast_zero, Int.toNat_natCast, e1, dec_ne h1]

/-! ### the document's rounds -/
theorem peeled_in {h0 : H} {n : Nat} {now nx0 : List Int} (hr : RdLL h0 sa C cs) (hc2 : Few2 cs) (hf : ∀ c ∈ cs, Fits n c) (hb : Bits3 now) (hn : now.length = n) (hx : nx0.length = n) {o1 o2 : Nat} (hne : o1 ≠ o2) (ho1 : h0.length ≤ o1) (ho2 : h0.length ≤ o2) : ∀ (j : Nat) (G : H), j ≤ cs.length →
    h0 <+: G → G.row o1 = some ⟨ints now, 3, 1, true⟩ → G.row o2 = some ⟨ints (bwd now (cs.drop j) nx0), 3, 1, true⟩ →
    ∃ G' : H, h0 <+: G' ∧ G'.row o1 = some ⟨ints now, 3, 1, true⟩ ∧ G'.row o2 = some ⟨ints (bwd now cs nx0), 3, 1, true⟩ ∧ ∀ ks,
      goL T [.tmp 4, .tmp 5] [0, 6, 7, 8] c25L0 (.blk 2 [0, 6, 7] :: ks) [(0, .slice sa cs.length C), (6, .slice (some ⟨o1, 0, none⟩) n n), (7, .slice (some ⟨o2, 0, none⟩) n n), (8, .int .i64 ((j : Int) - 1))] G =
        go T [.tmp 4, .tmp 5] ks (Fr.of [(0, .slice sa cs.length C), (6, .slice (some ⟨o1, 0, none⟩) n n), (7, .slice (some ⟨o2, 0, none⟩) n n)]) G'
  | 0, G, hj, hp, r1, r2 => by
    refine ⟨G, hp, r1, by rw [List.drop_zero] at r2; exact r2, fun ks => ?_⟩
    rw [goL_at c25L0.eq_def]
    simp (disch := first | omega | (simp only [Go.Am.len_push, Go.Am.len_set, Go.Am.len_kill] <;> omega) | fail) only [push_cast, Nat.reduceBEq, Nat.reduceAdd, Nat.reduceMul, Nat.reduceSub, Nat.reduceLT, Nat.reduceGT, Nat.reduceLeDiff, Nat.reduceEqDiff, Int.reduceToNat, Int.reduceAdd, Int.reduceMul, Int.reduceSub, Int.reduceNeg, Int.reduceLT, Int.reduceLE, Int.reduceEq, Nat.zero_add, Nat.add_zero, Nat.mul_one, eq_self, ne_eq, not_true, not_false_iff, and_true, true_and, and_self, List.getElem?_cons_zero, List.getElem?_cons_succ, List.map_cons, List.map_nil, wrap64, dec_lt, dec_nlt, dec_le, dec_nle, dec_eq, dec_ne, if_pos, if_neg, Int.natCast_add, Int.natCast_one, Int.natCast_zero, Int.toNat_natCast]
  | j + 1, G, hj, hp, r1, r2 => by
    have IH := peeled_in hr hc2 hf hb hn hx hne ho1 ho2 j
    obtain ⟨c, hc⟩ := at_some (l := cs) (i := j) (by omega)
    obtain ⟨o, a, c', rfl, l1, hra⟩ := (hr.mono hp).at hc
    have hcl := hc2.each c (List.mem_of_getElem? hc)
    have hfl := hc2.len
    have hfc := hf c (List.mem_of_getElem? hc)
    have hw1 : RdI G (some ⟨o1, 0, none⟩) n now := by have := RdI.ofRow r1 rfl; rwa [hn] at this
    obtain ⟨x, y, e1, e2⟩ := alone_call hra hw1 hcl hfc hb hn
    rw [hn] at e1
    have hj1 : ((j + 1 : Nat) : Int) - 1 = (j : Int) := by omega
    have hbw : bwd now (cs.drop j) nx0 = match lone now c with
      | some (a, s) => (bwd now (cs.drop (j + 1)) nx0).set a.toNat s
      | none => bwd now (cs.drop (j + 1)) nx0 := by rw [drop_at hc]; rfl
    cases hl : lone now c with
    | none =>
      rw [hl] at hbw
      simp only at hbw
      rw [← hbw] at r2
      obtain ⟨G', k1, k2, k3, k4⟩ := IH G (by omega) hp r1 r2
      refine ⟨G', k1, k2, k3, fun ks => ?_⟩
      rw [hl, Option.isSome_none] at e1
      rw [hj1, goL_at c25L0.eq_def, ← k4 ks]
      simp (disch := first | omega | (simp only [Go.Am.len_push, Go.Am.len_set, Go.Am.len_kill] <;> omega) | fail) only [push_cast, Nat.reduceBEq, Nat.reduceAdd, Nat.reduceMul, Nat.reduceSub, Nat.reduceLT, Nat.reduceGT, Nat.reduceLeDiff, Nat.reduceEqDiff, Int.reduceToNat, Int.reduceAdd, Int.reduceMul, Int.reduceSub, Int.reduceNeg, Int.reduceLT, Int.reduceLE, Int.reduceEq, Nat.zero_add, Nat.add_zero, Nat.mul_one, eq_self, ne_eq, not_true, not_false_iff, and_true, true_and, and_self, List.getElem?_cons_zero, List.getElem?_cons_succ, List.map_cons, List.map_nil, wrap64, dec_lt, dec_nlt, dec_le, dec_nle, dec_eq, dec_ne, if_pos, if_neg, Int.natCast_add, Int.natCast_one, Int.natCast_zero, Int.toNat_natCast, l1, e1]
    | some q =>
      obtain ⟨at', s⟩ := q
      rw [hl] at hbw
      simp only at hbw
      obtain ⟨q1, q2, q3, q4, q5⟩ := lone_ok hfc hl
      obtain ⟨rfl, rfl⟩ := e2 _ _ hl
      have hbl := bwd_len now (cs.drop (j + 1)) nx0
      have es := sts_int r2 (i := x) (v := y) q1 (by omega)
      obtain ⟨G1, eG1⟩ : ∃ G1 : H, G1 = G.set o2 (.row ⟨ints ((bwd now (cs.drop (j + 1)) nx0).set x.toNat y), 3, 1, true⟩) := ⟨_, rfl⟩
      rw [← eG1] at es
      have p1 : h0 <+: G1 := by rw [eG1]; exact pre_set hp ho2
      have r1' : G1.row o1 = some ⟨ints now, 3, 1, true⟩ := by rw [eG1, row_set_other (Ne.symm hne)]; exact r1
      have r2' : G1.row o2 = some ⟨ints (bwd now (cs.drop j) nx0), 3, 1, true⟩ := by rw [hbw, eG1]; exact row_set_same (row_some_lt r2)
      obtain ⟨G', k1, k2, k3, k4⟩ := IH G1 (by omega) p1 r1' r2'
      refine ⟨G', k1, k2, k3, fun ks => ?_⟩
      rw [hl, Option.isSome_some] at e1
      rw [hj1, goL_at c25L0.eq_def, ← k4 ks]
      simp (disch := first | omega | (simp only [Go.Am.len_push, Go.Am.len_set, Go.Am.len_kill] <;> omega) | fail) only [push_cast, Nat.reduceBEq, Nat.reduceAdd, Nat.reduceMul, Nat.reduceSub, Nat.reduceLT, Nat.reduceGT, Nat.reduceLeDiff, Nat.reduceEqDiff, Int.reduceToNat, Int.reduceAdd, Int.reduceMul, Int.reduceSub, Int.reduceNeg, Int.reduceLT, Int.reduceLE, Int.reduceEq, Nat.zero_add, Nat.add_zero, Nat.mul_one, eq_self, ne_eq, not_true, not_false_iff, and_true, true_and, and_self, List.getElem?_cons_zero, List.getElem?_cons_succ, List.map_cons, List.map_nil, wrap64, dec_lt, dec_nlt, dec_le, dec_nle, dec_eq, dec_ne, if_pos, if_neg, Int.natCast_add, Int.natCast_one, Int.natCast_zero, Int.toNat_natCast, l1, e1, es]
theorem peeled_out {h0 : H} {n : Nat} (hr : RdLL h0 sa C cs) (hc2 : Few2 cs) (hf : ∀ c ∈ cs, Fits n c) (hn64 : n ≤ 1000) : ∀ (k : Nat) (now : List Int) (G : H) (o1 : Nat), neg now ≤ k → now.length = n → Bits3 now → h0.length ≤ o1 → h0 <+: G → G.row o1 = some ⟨ints now, 3, 1, true⟩ →
    ∃ (G' : H) (o' : Nat), h0 <+: G' ∧ h0.length ≤ o' ∧ G'.row o' = some ⟨ints (peelN cs k now), 3, 1, true⟩ ∧ (peelN cs k now).length = n ∧ ∀ ks,
      goL T [.tmp 4, .tmp 5] [0, 6] c25L1 (.blk 0 [6] :: ks) [(0, .slice sa cs.length C), (6, .slice (some ⟨o1, 0, none⟩) n n)] G =
        go T [.tmp 4, .tmp 5] ks (Fr.of [(6, .slice (some ⟨o', 0, none⟩) n n)]) G' := by
  intro k
  induction k with
  | zero =>
    intro now G o1 hk hn hb ho1 hp r1
    have hs := neg_zero hf hn (Nat.le_zero.1 hk)
    have hw1 : RdI G (some ⟨o1, 0, none⟩) n now := by have := RdI.ofRow r1 rfl; rwa [hn] at this
    obtain ⟨o2, G1, ⟨f1, f2, f3⟩, e2⟩ := copy_call hw1 (by omega)
    have hlt := row_some_lt r1
    have hfl := hc2.len
    obtain ⟨G', k1, k2, k3, k4⟩ := peeled_in hr hc2 hf hb hn hn (o1 := o1) (o2 := o2) (by omega) ho1 (by have := hp.length_le; omega) cs.length G1 (Nat.le_refl _) (hp.trans f1) (row_pre r1 f1) (by rw [drop_end (Nat.le_refl _)]; exact f3)
    rw [← (bwd_same hf hn).2 hs] at k3
    have e3 := same_call (some ⟨o1, 0, none⟩) (some ⟨o2, 0, none⟩) n n now now G' (by omega) (by have := RdI.ofRow k2 rfl; rwa [hn] at this) (by have := RdI.ofRow k3 rfl; rwa [hn] at this)
    rw [decide_eq_true rfl, hn] at e3
    have hpe : peelN cs 0 now = now := rfl
    rw [hpe]
    refine ⟨G', o1, k1, ho1, k2, hn, fun ks => ?_⟩
    rw [hn] at e2
    rw [goL_at c25L1.eq_def]
    simp (disch := first | omega | (simp only [Go.Am.len_push, Go.Am.len_set, Go.Am.len_kill] <;> omega) | fail) only [push_cast, Nat.reduceBEq, Nat.reduceAdd, Nat.reduceMul, Nat.reduceSub, Nat.reduceLT, Nat.reduceGT, Nat.reduceLeDiff, Nat.reduceEqDiff, Int.reduceToNat, Int.reduceAdd, Int.reduceMul, Int.reduceSub, Int.reduceNeg, Int.reduceLT, Int.reduceLE, Int.reduceEq, Nat.zero_add, Nat.add_zero, Nat.mul_one, eq_self, ne_eq, not_true, not_false_iff, and_true, true_and, and_self, List.getElem?_cons_zero, List.getElem?_cons_succ, List.map_cons, List.map_nil, wrap64, dec_lt, dec_nlt, dec_le, dec_nle, dec_eq, dec_ne, if_pos, if_neg, Int.natCast_add, Int.natCast_one, Int.natCast_zero, Int.toNat_natCast, e2]
    rw [k4]
    simp (disch := first | omega | (simp only [Go.Am.len_push, Go.Am.len_set, Go.Am.len_kill] <;> omega) | fail) only [push_cast, Nat.reduceBEq, Nat.reduceAdd, Nat.reduceMul, Nat.reduceSub, Nat.reduceLT, Nat.reduceGT, Nat.reduceLeDiff, Nat.reduceEqDiff, Int.reduceToNat, Int.reduceAdd, Int.reduceMul, Int.reduceSub, Int.reduceNeg, Int.reduceLT, Int.reduceLE, Int.reduceEq, Nat.zero_add, Nat.add_zero, Nat.mul_one, eq_self, ne_eq, not_true, not_false_iff, and_true, true_and, and_self, List.getElem?_cons_zero, List.getElem?_cons_succ, List.map_cons, List.map_nil, wrap64, dec_lt, dec_nlt, dec_le, dec_nle, dec_eq, dec_ne, if_pos, if_neg, Int.natCast_add, Int.natCast_one, Int.natCast_zero, Int.toNat_natCast, e3]
  | succ k ihk =>
    intro now G o1 hk hn hb ho1 hp r1
    have hw1 : RdI G (some ⟨o1, 0, none⟩) n now := by have := RdI.ofRow r1 rfl; rwa [hn] at this
    obtain ⟨o2, G1, ⟨f1, f2, f3⟩, e2⟩ := copy_call hw1 (by omega)
    have hlt := row_some_lt r1
    have hfl := hc2.len
    have ho2 : h0.length ≤ o2 := by have := hp.length_le; omega
    obtain ⟨G', k1, k2, k3, k4⟩ := peeled_in hr hc2 hf hb hn hn (o1 := o1) (o2 := o2) (by omega) ho1 ho2 cs.length G1 (Nat.le_refl _) (hp.trans f1) (row_pre r1 f1) (by rw [drop_end (Nat.le_refl _)]; exact f3)
    have hbl : (bwd now cs now).length = n := by rw [bwd_len]; exact hn
    have e3 := same_call (some ⟨o1, 0, none⟩) (some ⟨o2, 0, none⟩) n n now (bwd now cs now) G' (by omega) (by have := RdI.ofRow k2 rfl; rwa [hn] at this) (by have := RdI.ofRow k3 rfl; rwa [hbl] at this)
    rw [hn, hbl] at e3
    rw [hn] at e2
    cases hs : someL now cs with
    | false =>
      have hsame := (bwd_same hf hn).2 hs
      rw [decide_eq_true hsame] at e3
      have hpe : peelN cs (k + 1) now = now := by rw [peelN, hs]; rfl
      rw [hpe]
      refine ⟨G', o1, k1, ho1, k2, hn, fun ks => ?_⟩
      rw [goL_at c25L1.eq_def]
      simp (disch := first | omega | (simp only [Go.Am.len_push, Go.Am.len_set, Go.Am.len_kill] <;> omega) | fail) only [push_cast, Nat.reduceBEq, Nat.reduceAdd, Nat.reduceMul, Nat.reduceSub, Nat.reduceLT, Nat.reduceGT, Nat.reduceLeDiff, Nat.reduceEqDiff, Int.reduceToNat, Int.reduceAdd, Int.reduceMul, Int.reduceSub, Int.reduceNeg, Int.reduceLT, Int.reduceLE, Int.reduceEq, Nat.zero_add, Nat.add_zero, Nat.mul_one, eq_self, ne_eq, not_true, not_false_iff, and_true, true_and, and_self, List.getElem?_cons_zero, List.getElem?_cons_succ, List.map_cons, List.map_nil, wrap64, dec_lt, dec_nlt, dec_le, dec_nle, dec_eq, dec_ne, if_pos, if_neg, Int.natCast_add, Int.natCast_one, Int.natCast_zero, Int.toNat_natCast, e2]
      rw [k4]
      simp (disch := first | omega | (simp only [Go.Am.len_push, Go.Am.len_set, Go.Am.len_kill] <;> omega) | fail) only [push_cast, Nat.reduceBEq, Nat.reduceAdd, Nat.reduceMul, Nat.reduceSub, Nat.reduceLT, Nat.reduceGT, Nat.reduceLeDiff, Nat.reduceEqDiff, Int.reduceToNat, Int.reduceAdd, Int.reduceMul, Int.reduceSub, Int.reduceNeg, Int.reduceLT, Int.reduceLE, Int.reduceEq, Nat.zero_add, Nat.add_zero, Nat.mul_one, eq_self, ne_eq, not_true, not_false_iff, and_true, true_and, and_self, List.getElem?_cons_zero, List.getElem?_cons_succ, List.map_cons, List.map_nil, wrap64, dec_lt, dec_nlt, dec_le, dec_nle, dec_eq, dec_ne, if_pos, if_neg, Int.natCast_add, Int.natCast_one, Int.natCast_zero, Int.toNat_natCast, e3]
    | true =>
      have hsame : ¬ now = bwd now cs now := fun he => by rw [(bwd_same hf hn).1 he] at hs; cases hs
      rw [decide_eq_false hsame] at e3
      have hpe : peelN cs (k + 1) now = peelN cs k (bwd now cs now) := by rw [peelN, hs]; rfl
      rw [hpe]
      have hng := neg_bwd hf hn hs
      obtain ⟨G2, o3, m1, m2, m3, m4, m6⟩ := ihk (bwd now cs now) G' o2 (by omega) hbl (bits3_bwd hf hb) ho2 k1 k3
      refine ⟨G2, o3, m1, m2, m3, m4, fun ks => ?_⟩
      rw [goL_at c25L1.eq_def]
      simp (disch := first | omega | (simp only [Go.Am.len_push, Go.Am.len_set, Go.Am.len_kill] <;> omega) | fail) only [push_cast, Nat.reduceBEq, Nat.reduceAdd, Nat.reduceMul, Nat.reduceSub, Nat.reduceLT, Nat.reduceGT, Nat.reduceLeDiff, Nat.reduceEqDiff, Int.reduceToNat, Int.reduceAdd, Int.reduceMul, Int.reduceSub, Int.reduceNeg, Int.reduceLT, Int.reduceLE, Int.reduceEq, Nat.zero_add, Nat.add_zero, Nat.mul_one, eq_self, ne_eq, not_true, not_false_iff, and_true, true_and, and_self, List.getElem?_cons_zero, List.getElem?_cons_succ, List.map_cons, List.map_nil, wrap64, dec_lt, dec_nlt, dec_le, dec_nle, dec_eq, dec_ne, if_pos, if_neg, Int.natCast_add, Int.natCast_one, Int.natCast_zero, Int.toNat_natCast, e2]
      rw [k4]
      simp (disch := first | omega | (simp only [Go.Am.len_push, Go.Am.len_set, Go.Am.len_kill] <;> omega) | fail) only [push_cast, Nat.reduceBEq, Nat.reduceAdd, Nat.reduceMul, Nat.reduceSub, Nat.reduceLT, Nat.reduceGT, Nat.reduceLeDiff, Nat.reduceEqDiff, Int.reduceToNat, Int.reduceAdd, Int.reduceMul, Int.reduceSub, Int.reduceNeg, Int.reduceLT, Int.reduceLE, Int.reduceEq, Nat.zero_add, Nat.add_zero, Nat.mul_one, eq_self, ne_eq, not_true, not_false_iff, and_true, true_and, and_self, List.getElem?_cons_zero, List.getElem?_cons_succ, List.map_cons, List.map_nil, wrap64, dec_lt, dec_nlt, dec_le, dec_nle, dec_eq, dec_ne, if_pos, if_neg, Int.natCast_add, Int.natCast_one, Int.natCast_zero, Int.toNat_natCast, e3]
      rw [m6]
theorem rpeeled_call (hr : RdLL h sa C cs) (hc2 : Few2 cs) (hw : RdI h sw cw w) (hl : w.length ≤ 1000) (hf : ∀ c ∈ cs, Fits w.length c) (hb : Bits3 w) : ∃ (s1 s2 : Option Addr) (c1 c2 : Nat) (h' : H), h <+: h' ∧
    RdI h' s1 c1 (peelF cs w) ∧ RdI h' s2 c2 (peelL cs w) ∧
    call T 25 [.slice sa cs.length C, .slice sw w.length cw] h = some (.tuple #[.slice s1 (peelF cs w).length c1, .slice s2 (peelL cs w).length c2], h') := by
  obtain ⟨o1, G1, ⟨f1, f2, f3⟩, e2⟩ := copy_call hw (by omega)
  obtain ⟨G2, o2, k1, k2, k3, k4, k6⟩ := peeled_out hr hc2 hf (by omega) (neg w) w G1 o1 (Nat.le_refl _) rfl hb f2 f1 f3
  have hF : peelN cs (neg w) w = peelF cs w := rfl
  rw [hF] at k3 k4
  obtain ⟨s2, c2, G3, m1, m2, m3⟩ := rleft_loop k3 (by omega) (peelF cs w).length 0 [] none 0 G2 (by omega) (Nat.le_refl _) .nil (List.prefix_refl _)
  have hL : [] ++ leftL (peelF cs w) (peelF cs w).length 0 = peelL cs w := rfl
  rw [hL] at m2 m3
  simp only [List.length_nil, Int.natCast_zero] at m3
  rw [k4] at m3
  refine ⟨some ⟨o2, 0, none⟩, s2, w.length, c2, G3, k1.trans m1, ?_, m2.rd, ?_⟩
  · have := RdI.ofRow (row_pre k3 m1) rfl; rwa [k4] at this
  · rw [k4, call_at T25 rfl]
    unfold F25 c25
    simp (disch := first | omega | (simp only [Go.Am.len_push, Go.Am.len_set, Go.Am.len_kill] <;> omega) | fail) only [push_cast, Nat.reduceBEq, Nat.reduceAdd, Nat.reduceMul, Nat.reduceSub, Nat.reduceLT, Nat.reduceGT, Nat.reduceLeDiff, Nat.reduceEqDiff, Int.reduceToNat, Int.reduceAdd, Int.reduceMul, Int.reduceSub, Int.reduceNeg, Int.reduceLT, Int.reduceLE, Int.reduceEq, Nat.zero_add, Nat.add_zero, Nat.mul_one, eq_self, ne_eq, not_true, not_false_iff, and_true, true_and, and_self, List.getElem?_cons_zero, List.getElem?_cons_succ, List.map_cons, List.map_nil, wrap64, dec_lt, dec_nlt, dec_le, dec_nle, dec_eq, dec_ne, if_pos, if_neg, Int.natCast_add, Int.natCast_one, Int.natCast_zero, Int.toNat_natCast, e2]
    rw [k6]
    simp (disch := first | omega | (simp only [Go.Am.len_push, Go.Am.len_set, Go.Am.len_kill] <;> omega) | fail) only [push_cast, Nat.reduceBEq, Nat.reduceAdd, Nat.reduceMul, Nat.reduceSub, Nat.reduceLT, Nat.reduceGT, Nat.reduceLeDiff, Nat.reduceEqDiff, Int.reduceToNat, Int.reduceAdd, Int.reduceMul, Int.reduceSub, Int.reduceNeg, Int.reduceLT, Int.reduceLE, Int.reduceEq, Nat.zero_add, Nat.add_zero, Nat.mul_one, eq_self, ne_eq, not_true, not_false_iff, and_true, true_and, and_self, List.getElem?_cons_zero, List.getElem?_cons_succ, List.map_cons, List.map_nil]
    rw [m3]
    simp (disch := first | omega | (simp only [Go.Am.len_push, Go.Am.len_set, Go.Am.len_kill] <;> omega) | fail) only [push_cast, Nat.reduceBEq, Nat.reduceAdd, Nat.reduceMul, Nat.reduceSub, Nat.reduceLT, Nat.reduceGT, Nat.reduceLeDiff, Nat.reduceEqDiff, Int.reduceToNat, Int.reduceAdd, Int.reduceMul, Int.reduceSub, Int.reduceNeg, Int.reduceLT, Int.reduceLE, Int.reduceEq, Nat.zero_add, Nat.add_zero, Nat.mul_one, eq_self, ne_eq, not_true, not_false_iff, and_true, true_and, and_self, List.getElem?_cons_zero, List.getElem?_cons_succ, List.map_cons, List.map_nil]
end
end Go.Proofs.Ytammndhoillliaa
