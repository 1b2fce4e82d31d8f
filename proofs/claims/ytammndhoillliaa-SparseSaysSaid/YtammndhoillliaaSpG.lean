/-
  What sparse.Flip and the document's Odd and Flipped compute. Conditions: checks of places, a word of bits.
-/
import Derived.Test.YtammndhoillliaaSpF
namespace Go.Proofs.Ytammndhoillliaa
open Go.Am
set_option linter.unusedVariables false
set_option linter.unusedSimpArgs false
set_option maxRecDepth 30000

section
variable {h0 : H} {sa sw : Option Addr} {C cw : Nat} {cs : List (List Int)} {w : List Int} {a : Option Addr} {cc : Nat} {c : List Int}
theorem flip_in {l : List Int} {n : Nat} (hl : l.length = n) (hn : n ≤ 1000) {top : Int} (ht : 1 ≤ top) {o1 o2 : Nat} (hne : o1 ≠ o2) (ho1 : h0.length ≤ o1) (V0 V1 V3 V10 : Value) : ∀ (m i : Nat) (w : List Int) (G : H), i + m = n → w.length = n → Bits2 w → h0 <+: G → G.row o1 = some ⟨ints w, 3, 1, true⟩ → G.row o2 = some ⟨ints l, 3, 1, true⟩ →
    ∃ G' : H, h0 <+: G' ∧ G'.row o1 = some ⟨ints (flS l top m i w), 3, 1, true⟩ ∧ ∀ ks,
      goL T [.tmp 8, .tmp 9, .tmp 10, .tmp 11] [0, 1, 3, 8, 10, 14, 60, 61, 62] c30L0 (.blk 2 [0, 1, 3, 8, 10] :: ks) [(0, V0), (1, V1), (3, V3), (8, .slice (some ⟨o1, 0, none⟩) n n), (10, V10), (14, .int .i64 top), (60, .slice (some ⟨o2, 0, none⟩) n n), (61, .int .i64 n), (62, .int .i64 i)] G =
        go T [.tmp 8, .tmp 9, .tmp 10, .tmp 11] ks (Fr.of [(0, V0), (1, V1), (3, V3), (8, .slice (some ⟨o1, 0, none⟩) n n), (10, V10)]) G'
  | 0, i, w, G, hi, hw, hb, hp, r1, r2 => by
    refine ⟨G, hp, r1, fun ks => ?_⟩
    rw [goL_at c30L0.eq_def]
    simp (disch := first | omega | (simp only [Go.Am.len_push, Go.Am.len_set, Go.Am.len_kill] <;> omega) | fail) only [push_cast, Nat.reduceBEq, Nat.reduceAdd, Nat.reduceMul, Nat.reduceSub, Nat.reduceLT, Nat.reduceGT, Nat.reduceLeDiff, Nat.reduceEqDiff, Int.reduceToNat, Int.reduceAdd, Int.reduceMul, Int.reduceSub, Int.reduceNeg, Int.reduceLT, Int.reduceLE, Int.reduceEq, Nat.zero_add, Nat.add_zero, Nat.mul_one, eq_self, ne_eq, not_true, not_false_iff, and_true, true_and, and_self, List.getElem?_cons_zero, List.getElem?_cons_succ, List.map_cons, List.map_nil, wrap64, dec_lt, dec_nlt, dec_le, dec_nle, dec_eq, dec_ne, if_pos, if_neg, Int.natCast_add, Int.natCast_one, Int.natCast_zero, Int.toNat_natCast]
  | m + 1, i, w, G, hi, hw, hb, hp, r1, r2 => by
    have l2 := ld1_int r2 (i := (i : Int)) (by omega) (by omega)
    have l1 := ld1_int r1 (i := (i : Int)) (by omega) (by omega)
    have hx := bits2_get hb (v := (i : Int)) (by omega) (by omega)
    rw [Int.toNat_natCast] at l1 l2
    by_cases he : gi l i = top
    · have hf : flS l top (m + 1) i w = flS l top m (i + 1) (w.set i (1 - gi w i)) := by rw [flS, if_pos he]
      have hxo : bits .xor .i64 (gi w i) 1 = 1 - gi w i := by rw [xor_bit2 hx.1 (by omega) (by omega) (by omega)]; omega
      have es := sts_int r1 (i := (i : Int)) (v := 1 - gi w i) (by omega) (by omega)
      rw [Int.toNat_natCast] at es
      obtain ⟨G1, eG1⟩ : ∃ G1 : H, G1 = G.set o1 (.row ⟨ints (w.set i (1 - gi w i)), 3, 1, true⟩) := ⟨_, rfl⟩
      rw [← eG1] at es
      have p1 : h0 <+: G1 := by rw [eG1]; exact pre_set hp ho1
      have r1' : G1.row o1 = some ⟨ints (w.set i (1 - gi w i)), 3, 1, true⟩ := by rw [eG1]; exact row_set_same (row_some_lt r1)
      have r2' : G1.row o2 = some ⟨ints l, 3, 1, true⟩ := by rw [eG1, row_set_other hne]; exact r2
      obtain ⟨G', k1, k2, k3⟩ := flip_in hl hn ht hne ho1 V0 V1 V3 V10 m (i + 1) _ G1 (by omega) (by simpa using hw) (bits2_set hb (by omega) (by omega)) p1 r1' r2'
      rw [hf]
      refine ⟨G', k1, k2, fun ks => ?_⟩
      have ih := k3 ks
      rw [Int.natCast_add, Int.natCast_one] at ih
      rw [goL_at c30L0.eq_def, ← ih]
      simp (disch := first | omega | (simp only [Go.Am.len_push, Go.Am.len_set, Go.Am.len_kill] <;> omega) | fail) only [push_cast, Nat.reduceBEq, Nat.reduceAdd, Nat.reduceMul, Nat.reduceSub, Nat.reduceLT, Nat.reduceGT, Nat.reduceLeDiff, Nat.reduceEqDiff, Int.reduceToNat, Int.reduceAdd, Int.reduceMul, Int.reduceSub, Int.reduceNeg, Int.reduceLT, Int.reduceLE, Int.reduceEq, Nat.zero_add, Nat.add_zero, Nat.mul_one, eq_self, ne_eq, not_true, not_false_iff, and_true, true_and, and_self, List.getElem?_cons_zero, List.getElem?_cons_succ, List.map_cons, List.map_nil, wrap64, dec_lt, dec_nlt, dec_le, dec_nle, dec_eq, dec_ne, if_pos, if_neg, Int.natCast_add, Int.natCast_one, Int.natCast_zero, Int.toNat_natCast, l1, l2, hxo, es]
    · have hf : flS l top (m + 1) i w = flS l top m (i + 1) w := by rw [flS, if_neg he]
      obtain ⟨G', k1, k2, k3⟩ := flip_in hl hn ht hne ho1 V0 V1 V3 V10 m (i + 1) w G (by omega) hw hb hp r1 r2
      rw [hf]
      refine ⟨G', k1, k2, fun ks => ?_⟩
      have ih := k3 ks
      rw [Int.natCast_add, Int.natCast_one] at ih
      rw [goL_at c30L0.eq_def, ← ih]
      simp (disch := first | omega | (simp only [Go.Am.len_push, Go.Am.len_set, Go.Am.len_kill] <;> omega) | fail) only [push_cast, Nat.reduceBEq, Nat.reduceAdd, Nat.reduceMul, Nat.reduceSub, Nat.reduceLT, Nat.reduceGT, Nat.reduceLeDiff, Nat.reduceEqDiff, Int.reduceToNat, Int.reduceAdd, Int.reduceMul, Int.reduceSub, Int.reduceNeg, Int.reduceLT, Int.reduceLE, Int.reduceEq, Nat.zero_add, Nat.add_zero, Nat.mul_one, eq_self, ne_eq, not_true, not_false_iff, and_true, true_and, and_self, List.getElem?_cons_zero, List.getElem?_cons_succ, List.map_cons, List.map_nil, wrap64, dec_lt, dec_nlt, dec_le, dec_nle, dec_eq, dec_ne, if_pos, if_neg, Int.natCast_add, Int.natCast_one, Int.natCast_zero, Int.toNat_natCast, l1, l2]
theorem any_cnt {α : Type} (p : α → Bool) (l : List α) : l.countP p = 0 ↔ l.any p = false := by
  rw [List.countP_eq_zero, List.any_eq_false]
theorem flip_out (hr : RdLL h0 sa C cs) (hc2 : Few2 cs) (hcs : cs.length ≤ 64) {n : Nat} (hf : ∀ c ∈ cs, Fits n c) (hn0 : 0 < n) (hn : n ≤ 1000) {most : Nat} (hm : most ≤ 1000) {o1 : Nat} (ho1 : h0.length ≤ o1) : ∀ (k : Nat) (w : List Int) (r : Nat) (G : H), r + k = most → w.length = n → Bits2 w → h0 <+: G → G.row o1 = some ⟨ints w, 3, 1, true⟩ →
    ∃ G' : H, h0 <+: G' ∧ G'.row o1 = some ⟨ints (flipN cs k w r).1, 3, 1, true⟩ ∧ ∀ ks,
      goL T [.tmp 8, .tmp 9, .tmp 10, .tmp 11] [0, 1, 3, 8, 10] c30L1 (.blk 0 [] :: ks) [(0, .int .i64 n), (1, .slice sa cs.length C), (3, .int .i64 most), (8, .slice (some ⟨o1, 0, none⟩) n n), (10, .int .i64 r)] G =
        some (.tuple #[.slice (some ⟨o1, 0, none⟩) n n, .bool (flipN cs k w r).2.1, .int .i64 ((flipN cs k w r).2.2 : Nat), .int .i64 0], G')
  | 0, w, r, G, hk, hw, hb, hp, r1 => by
    obtain ⟨o2, G1, p1, q1, q2, e1⟩ := wrong_call (hr.mono hp) hc2 (RdI.ofRow r1 rfl) (by rw [hw]; exact hf) hb (by omega) hcs
    rw [hw] at e1
    refine ⟨G1, hp.trans p1, row_pre r1 p1, fun ks => ?_⟩
    have hfl : flipN cs 0 w r = (w, !cs.any (oddC w), r) := rfl
    rw [hfl]
    obtain rfl : r = most := by omega
    rw [goL_at c30L1.eq_def]
    cases ha : cs.any (oddC w) with
    | false =>
      rw [(any_cnt _ _).2 ha] at e1
      simp (disch := first | omega | (simp only [Go.Am.len_push, Go.Am.len_set, Go.Am.len_kill] <;> omega) | fail) only [push_cast, Nat.reduceBEq, Nat.reduceAdd, Nat.reduceMul, Nat.reduceSub, Nat.reduceLT, Nat.reduceGT, Nat.reduceLeDiff, Nat.reduceEqDiff, Int.reduceToNat, Int.reduceAdd, Int.reduceMul, Int.reduceSub, Int.reduceNeg, Int.reduceLT, Int.reduceLE, Int.reduceEq, Nat.zero_add, Nat.add_zero, Nat.mul_one, eq_self, ne_eq, not_true, not_false_iff, and_true, true_and, and_self, List.getElem?_cons_zero, List.getElem?_cons_succ, List.map_cons, List.map_nil, wrap64, dec_lt, dec_nlt, dec_le, dec_nle, dec_eq, dec_ne, if_pos, if_neg, Int.natCast_add, Int.natCast_one, Int.natCast_zero, Int.toNat_natCast, e1]
    | true =>
      have h1 : ¬ ((cs.countP (oddC w) : Nat) : Int) = 0 := fun e => by
        have := (any_cnt _ _).1 (show cs.countP (oddC w) = 0 by omega)
        rw [ha] at this; cases this
      simp (disch := first | omega | (simp only [Go.Am.len_push, Go.Am.len_set, Go.Am.len_kill] <;> omega) | fail) only [push_cast, Nat.reduceBEq, Nat.reduceAdd, Nat.reduceMul, Nat.reduceSub, Nat.reduceLT, Nat.reduceGT, Nat.reduceLeDiff, Nat.reduceEqDiff, Int.reduceToNat, Int.reduceAdd, Int.reduceMul, Int.reduceSub, Int.reduceNeg, Int.reduceLT, Int.reduceLE, Int.reduceEq, Nat.zero_add, Nat.add_zero, Nat.mul_one, eq_self, ne_eq, not_true, not_false_iff, and_true, true_and, and_self, List.getElem?_cons_zero, List.getElem?_cons_succ, List.map_cons, List.map_nil, wrap64, dec_lt, dec_nlt, dec_le, dec_nle, dec_eq, dec_ne, if_pos, if_neg, Int.natCast_add, Int.natCast_one, Int.natCast_zero, Int.toNat_natCast, e1, dec_ne h1]
  | k + 1, w, r, G, hk, hw, hb, hp, r1 => by
    obtain ⟨o2, G1, p1, q1, q2, e1⟩ := wrong_call (hr.mono hp) hc2 (RdI.ofRow r1 rfl) (by rw [hw]; exact hf) hb (by omega) hcs
    rw [hw] at e1
    cases ha : cs.any (oddC w) with
    | false =>
      have hfl : flipN cs (k + 1) w r = (w, true, r) := by rw [flipN, if_neg (by rw [ha]; decide)]
      rw [(any_cnt _ _).2 ha] at e1
      rw [hfl]
      refine ⟨G1, hp.trans p1, row_pre r1 p1, fun ks => ?_⟩
      rw [goL_at c30L1.eq_def]
      simp (disch := first | omega | (simp only [Go.Am.len_push, Go.Am.len_set, Go.Am.len_kill] <;> omega) | fail) only [push_cast, Nat.reduceBEq, Nat.reduceAdd, Nat.reduceMul, Nat.reduceSub, Nat.reduceLT, Nat.reduceGT, Nat.reduceLeDiff, Nat.reduceEqDiff, Int.reduceToNat, Int.reduceAdd, Int.reduceMul, Int.reduceSub, Int.reduceNeg, Int.reduceLT, Int.reduceLE, Int.reduceEq, Nat.zero_add, Nat.add_zero, Nat.mul_one, eq_self, ne_eq, not_true, not_false_iff, and_true, true_and, and_self, List.getElem?_cons_zero, List.getElem?_cons_succ, List.map_cons, List.map_nil, wrap64, dec_lt, dec_nlt, dec_le, dec_nle, dec_eq, dec_ne, if_pos, if_neg, Int.natCast_add, Int.natCast_one, Int.natCast_zero, Int.toNat_natCast, e1]
    | true =>
      have hfl : flipN cs (k + 1) w r = flipN cs k (turnW cs w) (r + 1) := by rw [flipN, if_pos ha]
      have h1 : ¬ ((cs.countP (oddC w) : Nat) : Int) = 0 := fun e => by
        have := (any_cnt _ _).1 (show cs.countP (oddC w) = 0 by omega)
        rw [ha] at this; cases this
      have htop := cnts_top (by rw [hw]; exact hf) ha
      have hcl : (cnts cs w).length = n := by rw [cnts_len]; exact hw
      have e2 := max_call (RdI.ofRow q2 rfl) (by omega) (by omega) (fun p hp => (cnts_in (by rw [hw]; exact hf) hc2.each p hp).1)
      rw [hcl] at e2
      have hlt := row_some_lt r1
      obtain ⟨G2, m1, m2, m3⟩ := flip_in hcl hn htop (o1 := o1) (o2 := o2) (by omega) ho1 (.int .i64 n) (.slice sa cs.length C) (.int .i64 most) (.int .i64 r) n 0 w G1 (by omega) hw hb (hp.trans p1) (row_pre r1 p1) q2
      have hturn : flS (cnts cs w) (mxL (cnts cs w)) n 0 w = turnW cs w := by unfold turnW; rw [hw]
      rw [hturn] at m2
      simp only [Int.natCast_zero] at m3
      obtain ⟨G3, j1, j2, j3⟩ := flip_out hr hc2 hcs hf hn0 hn hm ho1 k (turnW cs w) (r + 1) G2 (by omega) (by rw [turn_len]; exact hw) (turn_bits hb) m1 m2
      rw [hfl]
      refine ⟨G3, j1, j2, fun ks => ?_⟩
      have ih := j3 ks
      rw [Int.natCast_add, Int.natCast_one] at ih
      have hrm : ¬ (r : Int) = (most : Int) := by omega
      rw [goL_at c30L1.eq_def, ← ih]
      simp (disch := first | omega | (simp only [Go.Am.len_push, Go.Am.len_set, Go.Am.len_kill] <;> omega) | fail) only [push_cast, Nat.reduceBEq, Nat.reduceAdd, Nat.reduceMul, Nat.reduceSub, Nat.reduceLT, Nat.reduceGT, Nat.reduceLeDiff, Nat.reduceEqDiff, Int.reduceToNat, Int.reduceAdd, Int.reduceMul, Int.reduceSub, Int.reduceNeg, Int.reduceLT, Int.reduceLE, Int.reduceEq, Nat.zero_add, Nat.add_zero, Nat.mul_one, eq_self, ne_eq, not_true, not_false_iff, and_true, true_and, and_self, List.getElem?_cons_zero, List.getElem?_cons_succ, List.map_cons, List.map_nil, e1, dec_ne h1, dec_ne hrm, e2]
      rw [m3]
      simp (disch := first | omega | (simp only [Go.Am.len_push, Go.Am.len_set, Go.Am.len_kill] <;> omega) | fail) only [push_cast, Nat.reduceBEq, Nat.reduceAdd, Nat.reduceMul, Nat.reduceSub, Nat.reduceLT, Nat.reduceGT, Nat.reduceLeDiff, Nat.reduceEqDiff, Int.reduceToNat, Int.reduceAdd, Int.reduceMul, Int.reduceSub, Int.reduceNeg, Int.reduceLT, Int.reduceLE, Int.reduceEq, Nat.zero_add, Nat.add_zero, Nat.mul_one, eq_self, ne_eq, not_true, not_false_iff, and_true, true_and, and_self, List.getElem?_cons_zero, List.getElem?_cons_succ, List.map_cons, List.map_nil, wrap64]

def flipE (n : Int) (cs : List (List Int)) (w : List Int) (most : Int) : Int := if chkE n cs = 0 then (if wdE n w 0 = 0 then (if most < 0 ∨ 100 < most then 6 else 0) else wdE n w 0) else chkE n cs
theorem flipE_ok {n : Int} {cs : List (List Int)} {w : List Int} {most : Int} (h : flipE n cs w most = 0) : chkE n cs = 0 ∧ wdE n w 0 = 0 ∧ 0 ≤ most ∧ most ≤ 100 := by
  unfold flipE at h
  split at h
  · split at h
    · split at h
      · cases h
      · exact ⟨by assumption, by assumption, by omega, by omega⟩
    · contradiction
  · contradiction
def flipR (cs : List (List Int)) (w : List Int) (most : Int) : List Int × Bool × Nat := flipN cs most.toNat w 0
theorem pflip_call {h : H} (hr : RdLL h sa C cs) (hl2 : Len2 cs) (hw : RdI h sw cw w) (hl : w.length ≤ 9223372036854775807) (n most : Int) : ∃ (s1 : Option Addr) (c1 : Nat) (h' : H), h <+: h' ∧
    RdI h' s1 c1 (if flipE n cs w most = 0 then (flipR cs w most).1 else []) ∧
    call T 30 [.int .i64 n, .slice sa cs.length C, .slice sw w.length cw, .int .i64 most] h = some (.tuple #[.slice s1 (if flipE n cs w most = 0 then (flipR cs w most).1 else []).length c1,
      .bool (if flipE n cs w most = 0 then (flipR cs w most).2.1 else false), .int .i64 (if flipE n cs w most = 0 then ((flipR cs w most).2.2 : Nat) else 0), .int .i64 (flipE n cs w most)], h') := by
  have e1 := pchk_call (n := n) hr hl2
  by_cases h1 : chkE n cs = 0
  rotate_left
  · have hpe : flipE n cs w most = chkE n cs := by unfold flipE; rw [if_neg h1]
    rw [hpe, if_neg h1, if_neg h1, if_neg h1]
    refine ⟨none, 0, h, List.prefix_refl _, .nil, ?_⟩
    rw [call_at T30 rfl]
    unfold F30 c30
    simp (disch := first | omega | (simp only [Go.Am.len_push, Go.Am.len_set, Go.Am.len_kill] <;> omega) | fail) only [push_cast, Nat.reduceBEq, Nat.reduceAdd, Nat.reduceMul, Nat.reduceSub, Nat.reduceLT, Nat.reduceGT, Nat.reduceLeDiff, Nat.reduceEqDiff, Int.reduceToNat, Int.reduceAdd, Int.reduceMul, Int.reduceSub, Int.reduceNeg, Int.reduceLT, Int.reduceLE, Int.reduceEq, Nat.zero_add, Nat.add_zero, Nat.mul_one, eq_self, ne_eq, not_true, not_false_iff, and_true, true_and, and_self, List.getElem?_cons_zero, List.getElem?_cons_succ, List.map_cons, List.map_nil, wrap64, dec_lt, dec_nlt, dec_le, dec_nle, dec_eq, dec_ne, if_pos, if_neg, Int.natCast_add, Int.natCast_one, Int.natCast_zero, Int.toNat_natCast, e1, dec_ne h1]
  obtain ⟨hc2, _⟩ := few_of h1
  obtain ⟨h1', p1, e2⟩ := word_call hw (by omega) n 0
  rw [h1] at e1
  by_cases h2 : wdE n w 0 = 0
  rotate_left
  · have hpe : flipE n cs w most = wdE n w 0 := by unfold flipE; rw [if_pos h1, if_neg h2]
    rw [hpe, if_neg h2, if_neg h2, if_neg h2]
    refine ⟨none, 0, h1', p1, .nil, ?_⟩
    rw [call_at T30 rfl]
    unfold F30 c30
    simp (disch := first | omega | (simp only [Go.Am.len_push, Go.Am.len_set, Go.Am.len_kill] <;> omega) | fail) only [push_cast, Nat.reduceBEq, Nat.reduceAdd, Nat.reduceMul, Nat.reduceSub, Nat.reduceLT, Nat.reduceGT, Nat.reduceLeDiff, Nat.reduceEqDiff, Int.reduceToNat, Int.reduceAdd, Int.reduceMul, Int.reduceSub, Int.reduceNeg, Int.reduceLT, Int.reduceLE, Int.reduceEq, Nat.zero_add, Nat.add_zero, Nat.mul_one, eq_self, ne_eq, not_true, not_false_iff, and_true, true_and, and_self, List.getElem?_cons_zero, List.getElem?_cons_succ, List.map_cons, List.map_nil, wrap64, dec_lt, dec_nlt, dec_le, dec_nle, dec_eq, dec_ne, if_pos, if_neg, Int.natCast_add, Int.natCast_one, Int.natCast_zero, Int.toNat_natCast, e1, e2, dec_ne h2]
  rw [h2] at e2
  by_cases h3 : most < 0 ∨ 100 < most
  · have hpe : flipE n cs w most = 6 := by unfold flipE; rw [if_pos h1, if_pos h2, if_pos h3]
    have h60 : ¬ (6 : Int) = 0 := by omega
    rw [hpe, if_neg h60, if_neg h60, if_neg h60]
    refine ⟨none, 0, h1', p1, .nil, ?_⟩
    rw [call_at T30 rfl]
    unfold F30 c30
    by_cases h4 : most < 0
    · simp (disch := first | omega | (simp only [Go.Am.len_push, Go.Am.len_set, Go.Am.len_kill] <;> omega) | fail) only [push_cast, Nat.reduceBEq, Nat.reduceAdd, Nat.reduceMul, Nat.reduceSub, Nat.reduceLT, Nat.reduceGT, Nat.reduceLeDiff, Nat.reduceEqDiff, Int.reduceToNat, Int.reduceAdd, Int.reduceMul, Int.reduceSub, Int.reduceNeg, Int.reduceLT, Int.reduceLE, Int.reduceEq, Nat.zero_add, Nat.add_zero, Nat.mul_one, eq_self, ne_eq, not_true, not_false_iff, and_true, true_and, and_self, List.getElem?_cons_zero, List.getElem?_cons_succ, List.map_cons, List.map_nil, wrap64, dec_lt, dec_nlt, dec_le, dec_nle, dec_eq, dec_ne, if_pos, if_neg, Int.natCast_add, Int.natCast_one, Int.natCast_zero, Int.toNat_natCast, e1, e2]
    · simp (disch := first | omega | (simp only [Go.Am.len_push, Go.Am.len_set, Go.Am.len_kill] <;> omega) | fail) only [push_cast, Nat.reduceBEq, Nat.reduceAdd, Nat.reduceMul, Nat.reduceSub, Nat.reduceLT, Nat.reduceGT, Nat.reduceLeDiff, Nat.reduceEqDiff, Int.reduceToNat, Int.reduceAdd, Int.reduceMul, Int.reduceSub, Int.reduceNeg, Int.reduceLT, Int.reduceLE, Int.reduceEq, Nat.zero_add, Nat.add_zero, Nat.mul_one, eq_self, ne_eq, not_true, not_false_iff, and_true, true_and, and_self, List.getElem?_cons_zero, List.getElem?_cons_succ, List.map_cons, List.map_nil, wrap64, dec_lt, dec_nlt, dec_le, dec_nle, dec_eq, dec_ne, if_pos, if_neg, Int.natCast_add, Int.natCast_one, Int.natCast_zero, Int.toNat_natCast, e1, e2]
  · have hpe : flipE n cs w most = 0 := by unfold flipE; rw [if_pos h1, if_pos h2, if_neg h3]
    rw [hpe, if_pos rfl, if_pos rfl, if_pos rfl]
    obtain ⟨q1, q2, q3⟩ := chkE_ok h1
    obtain ⟨q4, q5⟩ := wdE_ok h2
    obtain ⟨N, rfl⟩ : ∃ N : Nat, n = N := ⟨n.toNat, by omega⟩
    obtain ⟨M, rfl⟩ : ∃ M : Nat, most = M := ⟨most.toNat, by omega⟩
    have hwl : w.length = N := by omega
    have hcl : cs.length ≤ 64 := by unfold chkE at h1; split at h1 <;> omega
    obtain ⟨o1, G1, ⟨f1, f2, f3⟩, e3⟩ := clone_call (hw.mono p1) (by omega) (by omega)
    obtain ⟨G2, k1, k2, k3⟩ := flip_out (hr.mono p1) hc2 hcl (chL_ok q3) (by omega) (by omega) (most := M) (by omega) f2 M w 0 G1 (by omega) hwl q5 f1 f3
    have hR : flipN cs M w 0 = flipR cs w M := rfl
    have hfl : (flipN cs M w 0).1.length = N := by rw [flip_len]; exact hwl
    rw [hR] at k2 k3 hfl
    simp only [Int.natCast_zero] at k3
    refine ⟨some ⟨o1, 0, none⟩, N, G2, p1.trans k1, ?_, ?_⟩
    · have := RdI.ofRow k2 rfl; rwa [hfl] at this
    · rw [hfl, call_at T30 rfl]
      unfold F30 c30
      rw [hwl] at e2 e3 ⊢
      simp (disch := first | omega | (simp only [Go.Am.len_push, Go.Am.len_set, Go.Am.len_kill] <;> omega) | fail) only [push_cast, Nat.reduceBEq, Nat.reduceAdd, Nat.reduceMul, Nat.reduceSub, Nat.reduceLT, Nat.reduceGT, Nat.reduceLeDiff, Nat.reduceEqDiff, Int.reduceToNat, Int.reduceAdd, Int.reduceMul, Int.reduceSub, Int.reduceNeg, Int.reduceLT, Int.reduceLE, Int.reduceEq, Nat.zero_add, Nat.add_zero, Nat.mul_one, eq_self, ne_eq, not_true, not_false_iff, and_true, true_and, and_self, List.getElem?_cons_zero, List.getElem?_cons_succ, List.map_cons, List.map_nil, wrap64, dec_lt, dec_nlt, dec_le, dec_nle, dec_eq, dec_ne, if_pos, if_neg, Int.natCast_add, Int.natCast_one, Int.natCast_zero, Int.toNat_natCast, e1, e2, e3]
      rw [k3]
end
end Go.Proofs.Ytammndhoillliaa
