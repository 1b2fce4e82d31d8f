/-
  What the document's Odd and Flipped compute. Conditions: checks of places, a word of bits.
-/
import Derived.Test.YtammndhoillliaaSpG
namespace Go.Proofs.Ytammndhoillliaa
open Go.Am
set_option linter.unusedVariables false
set_option linter.unusedSimpArgs false
set_option maxRecDepth 30000

section
variable {h0 : H} {sa sw : Option Addr} {C cw : Nat} {cs : List (List Int)} {w : List Int} {a : Option Addr} {cc : Nat} {c : List Int}
theorem odd_in (hr : RdLL h0 sa C cs) (hc2 : Few2 cs) (hw : RdI h0 sw cw w) (hb : Bits2 w) {i : Nat} {c : List Int} (hc : cs[i]? = some c) (hf : Fits w.length c) (V5 : Value) : ∀ (m k : Nat) (s : Int) (G : H), k + m = c.length → 0 ≤ s → s ≤ k → h0 <+: G → ∀ ks,
    goL T [.tmp 4] [0, 1, 5, 6, 7, 8] c109L0 (.blk 2 [0, 1, 5, 6, 7] :: ks) [(0, .slice sa cs.length C), (1, .slice sw w.length cw), (5, V5), (6, .int .i64 i), (7, .int .i64 s), (8, .int .i64 k)] G =
      go T [.tmp 4] ks (Fr.of [(0, .slice sa cs.length C), (1, .slice sw w.length cw), (5, V5), (6, .int .i64 i), (7, .int .i64 (sumW w (c.drop k) s))]) G
  | 0, k, s, G, hk, s0, s1, hp, ks => by
    obtain ⟨o, a, c', rfl, l0, hra⟩ := (hr.mono hp).at hc
    have hil := (List.getElem?_eq_some_iff.1 hc).1
    rw [goL_at c109L0.eq_def, drop_end (by omega)]
    have : sumW w [] s = s := rfl
    rw [this]
    simp (disch := first | omega | (simp only [Go.Am.len_push, Go.Am.len_set, Go.Am.len_kill] <;> omega) | fail) only [push_cast, Nat.reduceBEq, Nat.reduceAdd, Nat.reduceMul, Nat.reduceSub, Nat.reduceLT, Nat.reduceGT, Nat.reduceLeDiff, Nat.reduceEqDiff, Int.reduceToNat, Int.reduceAdd, Int.reduceMul, Int.reduceSub, Int.reduceNeg, Int.reduceLT, Int.reduceLE, Int.reduceEq, Nat.zero_add, Nat.add_zero, Nat.mul_one, eq_self, ne_eq, not_true, not_false_iff, and_true, true_and, and_self, List.getElem?_cons_zero, List.getElem?_cons_succ, List.map_cons, List.map_nil, wrap64, dec_lt, dec_nlt, dec_le, dec_nle, dec_eq, dec_ne, if_pos, if_neg, Int.natCast_add, Int.natCast_one, Int.natCast_zero, Int.toNat_natCast, l0]
  | m + 1, k, s, G, hk, s0, s1, hp, ks => by
    have IH := odd_in hr hc2 hw hb hc hf V5 m
    have hv := fits_gi hf (show k < c.length by omega)
    have hx := bits2_get hb hv.1 hv.2
    obtain ⟨o, a, c', rfl, l0, hra⟩ := (hr.mono hp).at hc
    have hil := (List.getElem?_eq_some_iff.1 hc).1
    have hcl := hc2.each c (List.mem_of_getElem? hc)
    obtain ⟨o', off, rfl, _, l1⟩ := hra.at (i := k) (by omega)
    obtain ⟨o2, off2, rfl, _, l2'⟩ := (hw.mono hp).addr (by omega)
    have l2 := l2' (gi c k) hv.1 (by omega)
    have ih := IH (k + 1) (s + gi w (gi c k)) G (by omega) (by omega) (by omega) hp ks
    rw [Int.natCast_add, Int.natCast_one] at ih
    have hd : sumW w (c.drop k) s = sumW w (c.drop (k + 1)) (s + gi w (gi c k)) := by rw [drop_gi (by omega)]; rfl
    rw [goL_at c109L0.eq_def, hd, ← ih]
    simp (disch := first | omega | (simp only [Go.Am.len_push, Go.Am.len_set, Go.Am.len_kill] <;> omega) | fail) only [push_cast, Nat.reduceBEq, Nat.reduceAdd, Nat.reduceMul, Nat.reduceSub, Nat.reduceLT, Nat.reduceGT, Nat.reduceLeDiff, Nat.reduceEqDiff, Int.reduceToNat, Int.reduceAdd, Int.reduceMul, Int.reduceSub, Int.reduceNeg, Int.reduceLT, Int.reduceLE, Int.reduceEq, Nat.zero_add, Nat.add_zero, Nat.mul_one, eq_self, ne_eq, not_true, not_false_iff, and_true, true_and, and_self, List.getElem?_cons_zero, List.getElem?_cons_succ, List.map_cons, List.map_nil, wrap64, dec_lt, dec_nlt, dec_le, dec_nle, dec_eq, dec_ne, if_pos, if_neg, Int.natCast_add, Int.natCast_one, Int.natCast_zero, Int.toNat_natCast, l0, l1, l2]
theorem odd_out (hr : RdLL h0 sa C cs) (hc2 : Few2 cs) (hw : RdI h0 sw cw w) (hb : Bits2 w) (hf : ∀ c ∈ cs, Fits w.length c) : ∀ (m i : Nat) (zs : List Int) (s : Option Addr) (c : Nat) (G : H), i + m = cs.length → zs.length ≤ i → Grown G s c zs h0.length → h0 <+: G →
    ∃ (s' : Option Addr) (c' : Nat) (G' : H), h0 <+: G' ∧ Grown G' s' c' (zs ++ oxL w (cs.drop i) i) h0.length ∧ ∀ ks,
      goL T [.tmp 4] [0, 1, 5, 6] c109L1 (.blk 0 [5] :: ks) [(0, .slice sa cs.length C), (1, .slice sw w.length cw), (5, .slice s zs.length c), (6, .int .i64 i)] G =
        go T [.tmp 4] ks (Fr.of [(5, .slice s' (zs ++ oxL w (cs.drop i) i).length c')]) G'
  | 0, i, zs, s, c, G, hi, hz, hg, hp => by
    have hfl := hc2.len
    refine ⟨s, c, G, hp, by rw [drop_end (by omega), oxL, List.append_nil]; exact hg, fun ks => ?_⟩
    rw [goL_at c109L1.eq_def, drop_end (by omega), oxL, List.append_nil]
    simp (disch := first | omega | (simp only [Go.Am.len_push, Go.Am.len_set, Go.Am.len_kill] <;> omega) | fail) only [push_cast, Nat.reduceBEq, Nat.reduceAdd, Nat.reduceMul, Nat.reduceSub, Nat.reduceLT, Nat.reduceGT, Nat.reduceLeDiff, Nat.reduceEqDiff, Int.reduceToNat, Int.reduceAdd, Int.reduceMul, Int.reduceSub, Int.reduceNeg, Int.reduceLT, Int.reduceLE, Int.reduceEq, Nat.zero_add, Nat.add_zero, Nat.mul_one, eq_self, ne_eq, not_true, not_false_iff, and_true, true_and, and_self, List.getElem?_cons_zero, List.getElem?_cons_succ, List.map_cons, List.map_nil, wrap64, dec_lt, dec_nlt, dec_le, dec_nle, dec_eq, dec_ne, if_pos, if_neg, Int.natCast_add, Int.natCast_one, Int.natCast_zero, Int.toNat_natCast]
  | m + 1, i, zs, s, c, G, hi, hz, hg, hp => by
    have hfl := hc2.len
    obtain ⟨ch, hc⟩ := at_some (l := cs) (i := i) (by omega)
    have hfc := hf ch (List.mem_of_getElem? hc)
    have hcl := hc2.each ch (List.mem_of_getElem? hc)
    have e1 := fun V5 ks => odd_in hr hc2 hw hb hc hfc V5 ch.length 0 0 G (by omega) (by omega) (by omega) hp ks
    rw [List.drop_zero] at e1
    simp only [Int.natCast_zero] at e1
    have hs0 := (sum_in hb ch 0 hfc (by omega))
    have ht : (sumW w ch 0).tmod 2 = sumW w ch 0 % 2 := Int.tmod_eq_emod_of_nonneg (by omega)
    by_cases ho : oddC w ch = true
    · have ho' : sumW w ch 0 % 2 = 1 := by unfold oddC at ho; simpa using ho
      obtain ⟨s1, G1, e2, g1, q1, q2, q3⟩ := hg.one (y := (i : Int)) (by omega) hp.length_le
      obtain ⟨s', c', G', k1, k2, k3⟩ := odd_out hr hc2 hw hb hf m (i + 1) (zs ++ [(i : Int)]) s1 (zs.length + 1) G1 (by omega) (by simp; omega) g1 (q3 h0 (Nat.le_refl _) hp)
      have hll : zs ++ oxL w (cs.drop i) i = (zs ++ [(i : Int)]) ++ oxL w (cs.drop (i + 1)) (i + 1) := by rw [drop_at hc, oxL, if_pos ho, List.append_assoc]
      rw [hll]
      refine ⟨s', c', G', k1, k2, fun ks => ?_⟩
      have ih := k3 ks
      rw [Int.natCast_add, Int.natCast_one, show (zs ++ [(i : Int)]).length = zs.length + 1 by simp] at ih
      rw [goL_at c109L1.eq_def, ← ih]
      simp (disch := first | omega | (simp only [Go.Am.len_push, Go.Am.len_set, Go.Am.len_kill] <;> omega) | fail) only [push_cast, Nat.reduceBEq, Nat.reduceAdd, Nat.reduceMul, Nat.reduceSub, Nat.reduceLT, Nat.reduceGT, Nat.reduceLeDiff, Nat.reduceEqDiff, Int.reduceToNat, Int.reduceAdd, Int.reduceMul, Int.reduceSub, Int.reduceNeg, Int.reduceLT, Int.reduceLE, Int.reduceEq, Nat.zero_add, Nat.add_zero, Nat.mul_one, eq_self, ne_eq, not_true, not_false_iff, and_true, true_and, and_self, List.getElem?_cons_zero, List.getElem?_cons_succ, List.map_cons, List.map_nil, wrap64, dec_lt, dec_nlt, dec_le, dec_nle, dec_eq, dec_ne, if_pos, if_neg, Int.natCast_add, Int.natCast_one, Int.natCast_zero, Int.toNat_natCast]
      rw [e1]
      simp (disch := first | omega | (simp only [Go.Am.len_push, Go.Am.len_set, Go.Am.len_kill] <;> omega) | fail) only [push_cast, Nat.reduceBEq, Nat.reduceAdd, Nat.reduceMul, Nat.reduceSub, Nat.reduceLT, Nat.reduceGT, Nat.reduceLeDiff, Nat.reduceEqDiff, Int.reduceToNat, Int.reduceAdd, Int.reduceMul, Int.reduceSub, Int.reduceNeg, Int.reduceLT, Int.reduceLE, Int.reduceEq, Nat.zero_add, Nat.add_zero, Nat.mul_one, eq_self, ne_eq, not_true, not_false_iff, and_true, true_and, and_self, List.getElem?_cons_zero, List.getElem?_cons_succ, List.map_cons, List.map_nil, wrap64, dec_lt, dec_nlt, dec_le, dec_nle, dec_eq, dec_ne, if_pos, if_neg, Int.natCast_add, Int.natCast_one, Int.natCast_zero, Int.toNat_natCast, ht, ho', e2]
    · have ho' : ¬ sumW w ch 0 % 2 = 1 := by unfold oddC at ho; simpa using ho
      obtain ⟨s', c', G', k1, k2, k3⟩ := odd_out hr hc2 hw hb hf m (i + 1) zs s c G (by omega) (by omega) hg hp
      have hll : zs ++ oxL w (cs.drop i) i = zs ++ oxL w (cs.drop (i + 1)) (i + 1) := by rw [drop_at hc, oxL, if_neg ho, List.nil_append]
      rw [hll]
      refine ⟨s', c', G', k1, k2, fun ks => ?_⟩
      have ih := k3 ks
      rw [Int.natCast_add, Int.natCast_one] at ih
      rw [goL_at c109L1.eq_def, ← ih]
      simp (disch := first | omega | (simp only [Go.Am.len_push, Go.Am.len_set, Go.Am.len_kill] <;> omega) | fail) only [push_cast, Nat.reduceBEq, Nat.reduceAdd, Nat.reduceMul, Nat.reduceSub, Nat.reduceLT, Nat.reduceGT, Nat.reduceLeDiff, Nat.reduceEqDiff, Int.reduceToNat, Int.reduceAdd, Int.reduceMul, Int.reduceSub, Int.reduceNeg, Int.reduceLT, Int.reduceLE, Int.reduceEq, Nat.zero_add, Nat.add_zero, Nat.mul_one, eq_self, ne_eq, not_true, not_false_iff, and_true, true_and, and_self, List.getElem?_cons_zero, List.getElem?_cons_succ, List.map_cons, List.map_nil, wrap64, dec_lt, dec_nlt, dec_le, dec_nle, dec_eq, dec_ne, if_pos, if_neg, Int.natCast_add, Int.natCast_one, Int.natCast_zero, Int.toNat_natCast]
      rw [e1]
      simp (disch := first | omega | (simp only [Go.Am.len_push, Go.Am.len_set, Go.Am.len_kill] <;> omega) | fail) only [push_cast, Nat.reduceBEq, Nat.reduceAdd, Nat.reduceMul, Nat.reduceSub, Nat.reduceLT, Nat.reduceGT, Nat.reduceLeDiff, Nat.reduceEqDiff, Int.reduceToNat, Int.reduceAdd, Int.reduceMul, Int.reduceSub, Int.reduceNeg, Int.reduceLT, Int.reduceLE, Int.reduceEq, Nat.zero_add, Nat.add_zero, Nat.mul_one, eq_self, ne_eq, not_true, not_false_iff, and_true, true_and, and_self, List.getElem?_cons_zero, List.getElem?_cons_succ, List.map_cons, List.map_nil, wrap64, dec_lt, dec_nlt, dec_le, dec_nle, dec_eq, dec_ne, if_pos, if_neg, Int.natCast_add, Int.natCast_one, Int.natCast_zero, Int.toNat_natCast, ht, dec_ne ho']
theorem odd_call (hr : RdLL h0 sa C cs) (hc2 : Few2 cs) (hw : RdI h0 sw cw w) (hb : Bits2 w) (hf : ∀ c ∈ cs, Fits w.length c) : ∃ (s' : Option Addr) (c' : Nat) (G' : H), h0 <+: G' ∧ RdI G' s' c' (oxL w cs 0) ∧
    call T 109 [.slice sa cs.length C, .slice sw w.length cw] h0 = some (.slice s' (oxL w cs 0).length c', G') := by
  have hfl := hc2.len
  obtain ⟨s', c', G', k1, k2, k3⟩ := odd_out hr hc2 hw hb hf cs.length 0 [] none 0 h0 (by omega) (Nat.le_refl _) .nil (List.prefix_refl _)
  rw [List.drop_zero, List.nil_append] at k2
  rw [List.drop_zero, List.nil_append] at k3
  simp only [List.length_nil, Int.natCast_zero] at k3
  refine ⟨s', c', G', k1, k2.rd, ?_⟩
  rw [call_at T109 rfl]
  unfold F109 c109
  simp (disch := first | omega | (simp only [Go.Am.len_push, Go.Am.len_set, Go.Am.len_kill] <;> omega) | fail) only [push_cast, Nat.reduceBEq, Nat.reduceAdd, Nat.reduceMul, Nat.reduceSub, Nat.reduceLT, Nat.reduceGT, Nat.reduceLeDiff, Nat.reduceEqDiff, Int.reduceToNat, Int.reduceAdd, Int.reduceMul, Int.reduceSub, Int.reduceNeg, Int.reduceLT, Int.reduceLE, Int.reduceEq, Nat.zero_add, Nat.add_zero, Nat.mul_one, eq_self, ne_eq, not_true, not_false_iff, and_true, true_and, and_self, List.getElem?_cons_zero, List.getElem?_cons_succ, List.map_cons, List.map_nil]
  rw [k3]
  simp (disch := first | omega | (simp only [Go.Am.len_push, Go.Am.len_set, Go.Am.len_kill] <;> omega) | fail) only [push_cast, Nat.reduceBEq, Nat.reduceAdd, Nat.reduceMul, Nat.reduceSub, Nat.reduceLT, Nat.reduceGT, Nat.reduceLeDiff, Nat.reduceEqDiff, Int.reduceToNat, Int.reduceAdd, Int.reduceMul, Int.reduceSub, Int.reduceNeg, Int.reduceLT, Int.reduceLE, Int.reduceEq, Nat.zero_add, Nat.add_zero, Nat.mul_one, eq_self, ne_eq, not_true, not_false_iff, and_true, true_and, and_self, List.getElem?_cons_zero, List.getElem?_cons_succ, List.map_cons, List.map_nil]

/-! ### Flipped -/
theorem fr0_loop (hr : RdI h0 a cc c) (hl : c.length ≤ 6000) {n : Nat} (hn : n ≤ 1000) (hf : Fits n c) {o : Nat} (ho : h0.length ≤ o) (V0 V1 V2 V9 V10 V13 : Value) : ∀ (m k : Nat) (l : List Int) (M B : Int) (G : H), k + m = c.length → l.length = n → InB l B → B + m ≤ 1000000000 → IsTop l M → h0 <+: G → G.row o = some ⟨ints l, 3, 1, true⟩ →
    ∃ (G' : H) (M' : Int), h0 <+: G' ∧ G'.row o = some ⟨ints (cntC l (c.drop k)), 3, 1, true⟩ ∧ IsTop (cntC l (c.drop k)) M' ∧ (∀ o', h0.length ≤ o' → o' ≠ o → G'.row o' = G.row o') ∧ ∀ ks,
      goL T [.tmp 6, .tmp 7, .tmp 8] [0, 1, 2, 9, 10, 11, 12, 13, 14, 15] c29L0 (.blk 4 [0, 1, 2, 9, 10, 11, 12, 13] :: ks) [(0, V0), (1, V1), (2, V2), (9, V9), (10, V10), (11, .slice (some ⟨o, 0, none⟩) n n), (12, .int .i64 M), (13, V13), (14, .slice a c.length cc), (15, .int .i64 k)] G =
        go T [.tmp 6, .tmp 7, .tmp 8] ks (Fr.of [(0, V0), (1, V1), (2, V2), (9, V9), (10, V10), (11, .slice (some ⟨o, 0, none⟩) n n), (12, .int .i64 M'), (13, V13)]) G'
  | 0, k, l, M, B, G, hk, hln, hB, hb, ht, hp, ro => by
    refine ⟨G, M, hp, by rw [drop_end (by omega)]; exact ro, by rw [drop_end (by omega)]; exact ht, fun _ _ _ => rfl, fun ks => ?_⟩
    rw [goL_at c29L0.eq_def]
    simp (disch := first | omega | (simp only [Go.Am.len_push, Go.Am.len_set, Go.Am.len_kill] <;> omega) | fail) only [push_cast, Nat.reduceBEq, Nat.reduceAdd, Nat.reduceMul, Nat.reduceSub, Nat.reduceLT, Nat.reduceGT, Nat.reduceLeDiff, Nat.reduceEqDiff, Int.reduceToNat, Int.reduceAdd, Int.reduceMul, Int.reduceSub, Int.reduceNeg, Int.reduceLT, Int.reduceLE, Int.reduceEq, Nat.zero_add, Nat.add_zero, Nat.mul_one, eq_self, ne_eq, not_true, not_false_iff, and_true, true_and, and_self, List.getElem?_cons_zero, List.getElem?_cons_succ, List.map_cons, List.map_nil, wrap64, dec_lt, dec_nlt, dec_le, dec_nle, dec_eq, dec_ne, if_pos, if_neg, Int.natCast_add, Int.natCast_one, Int.natCast_zero, Int.toNat_natCast]
  | m + 1, k, l, M, B, G, hk, hln, hB, hb, ht, hp, ro => by
    have IH := fr0_loop hr hl hn hf ho V0 V1 V2 V9 V10 V13 m
    have hv := fits_gi hf (show k < c.length by omega)
    have hvb := hB (gi c k).toNat (by omega)
    rw [show (((gi c k).toNat : Nat) : Int) = gi c k by omega] at hvb
    obtain ⟨o', off, rfl, _, l1'⟩ := hr.at (i := k) (by omega)
    have l1 := ld1_pre l1' hp
    have l2 := ld1_int ro (i := gi c k) hv.1 (by omega)
    have es := sts_int ro (i := gi c k) (v := gi l (gi c k) + 1) hv.1 (by omega)
    obtain ⟨G1, eG1⟩ : ∃ G1 : H, G1 = G.set o (.row ⟨ints (inc l (gi c k)), 3, 1, true⟩) := ⟨_, rfl⟩
    have es' : G.sts o (gi c k).toNat [.int .i64 (gi l (gi c k) + 1)] = some G1 := by rw [es, eG1]; rfl
    have p1 : h0 <+: G1 := by rw [eG1]; exact pre_set hp ho
    have r1 : G1.row o = some ⟨ints (inc l (gi c k)), 3, 1, true⟩ := by rw [eG1]; exact row_set_same (row_some_lt ro)
    have htop := ht.inc (fun p hp => (hB p hp).1) hv.1 (show gi c k < l.length by omega)
    have hgi : gi (inc l (gi c k)) (gi c k) = gi l (gi c k) + 1 := by
      have := inc_get hv.1 (show gi c k < l.length by omega) (gi c k).toNat
      rw [show (((gi c k).toNat : Nat) : Int) = gi c k by omega, if_pos rfl] at this
      exact this
    have l3' := ld1_pre l1' p1
    have l3 := ld1_int r1 (i := gi c k) hv.1 (by rw [inc_len]; omega)
    rw [hgi] at l3
    obtain ⟨G', M', k1, k2, k3, k4, k5⟩ := IH (k + 1) (inc l (gi c k)) (if M < gi l (gi c k) + 1 then gi l (gi c k) + 1 else M) (B + 1) G1 (by omega) (by rw [inc_len]; exact hln) (inc_in hB hv.1 (by omega)) (by omega) htop p1 r1
    have hd : cntC l (c.drop k) = cntC (inc l (gi c k)) (c.drop (k + 1)) := by rw [drop_gi (by omega)]; rfl
    rw [hd]
    refine ⟨G', M', k1, k2, k3, fun o' h1 h2 => by rw [k4 o' h1 h2, eG1, row_set_other (Ne.symm h2)], fun ks => ?_⟩
    have ih := k5 ks
    rw [Int.natCast_add, Int.natCast_one] at ih
    rw [goL_at c29L0.eq_def, ← ih]
    by_cases hM : M < gi l (gi c k) + 1
    · rw [if_pos hM]
      simp (disch := first | omega | (simp only [Go.Am.len_push, Go.Am.len_set, Go.Am.len_kill] <;> omega) | fail) only [push_cast, Nat.reduceBEq, Nat.reduceAdd, Nat.reduceMul, Nat.reduceSub, Nat.reduceLT, Nat.reduceGT, Nat.reduceLeDiff, Nat.reduceEqDiff, Int.reduceToNat, Int.reduceAdd, Int.reduceMul, Int.reduceSub, Int.reduceNeg, Int.reduceLT, Int.reduceLE, Int.reduceEq, Nat.zero_add, Nat.add_zero, Nat.mul_one, eq_self, ne_eq, not_true, not_false_iff, and_true, true_and, and_self, List.getElem?_cons_zero, List.getElem?_cons_succ, List.map_cons, List.map_nil, wrap64, dec_lt, dec_nlt, dec_le, dec_nle, dec_eq, dec_ne, if_pos, if_neg, Int.natCast_add, Int.natCast_one, Int.natCast_zero, Int.toNat_natCast, l1, l2, es', l3, l3']
    · rw [if_neg hM]
      simp (disch := first | omega | (simp only [Go.Am.len_push, Go.Am.len_set, Go.Am.len_kill] <;> omega) | fail) only [push_cast, Nat.reduceBEq, Nat.reduceAdd, Nat.reduceMul, Nat.reduceSub, Nat.reduceLT, Nat.reduceGT, Nat.reduceLeDiff, Nat.reduceEqDiff, Int.reduceToNat, Int.reduceAdd, Int.reduceMul, Int.reduceSub, Int.reduceNeg, Int.reduceLT, Int.reduceLE, Int.reduceEq, Nat.zero_add, Nat.add_zero, Nat.mul_one, eq_self, ne_eq, not_true, not_false_iff, and_true, true_and, and_self, List.getElem?_cons_zero, List.getElem?_cons_succ, List.map_cons, List.map_nil, wrap64, dec_lt, dec_nlt, dec_le, dec_nle, dec_eq, dec_ne, if_pos, if_neg, Int.natCast_add, Int.natCast_one, Int.natCast_zero, Int.toNat_natCast, l1, l2, es', l3, l3']
theorem fr1_loop (hr : RdLL h0 sa C cs) (hc2 : Few2 cs) {n : Nat} (hn : n ≤ 1000) (hf : ∀ c ∈ cs, Fits n c) {xs : List Int} {sx : Option Addr} {cx : Nat} (hx : RdI h0 sx cx xs) (hxl : xs.length ≤ 6000) (hxb : ∀ x ∈ xs, 0 ≤ x ∧ x < cs.length) {o : Nat} (ho : h0.length ≤ o) (V1 V2 V9 : Value) : ∀ (m i : Nat) (l : List Int) (M B : Int) (G : H), i + m = xs.length → l.length = n → InB l B → B + 6000 * m ≤ 100000000 → IsTop l M → h0 <+: G → G.row o = some ⟨ints l, 3, 1, true⟩ →
    ∃ (G' : H) (M' : Int), h0 <+: G' ∧ G'.row o = some ⟨ints ((xs.drop i).foldl (fun l x => cntC l (cs.getD x.toNat [])) l), 3, 1, true⟩ ∧ IsTop ((xs.drop i).foldl (fun l x => cntC l (cs.getD x.toNat [])) l) M' ∧ (∀ o', h0.length ≤ o' → o' ≠ o → G'.row o' = G.row o') ∧ ∀ ks,
      goL T [.tmp 6, .tmp 7, .tmp 8] [0, 1, 2, 9, 10, 11, 12, 13] c29L1 (.blk 2 [0, 1, 2, 9, 11, 12] :: ks) [(0, .slice sa cs.length C), (1, V1), (2, V2), (9, V9), (10, .slice sx xs.length cx), (11, .slice (some ⟨o, 0, none⟩) n n), (12, .int .i64 M), (13, .int .i64 i)] G =
        go T [.tmp 6, .tmp 7, .tmp 8] ks (Fr.of [(0, .slice sa cs.length C), (1, V1), (2, V2), (9, V9), (11, .slice (some ⟨o, 0, none⟩) n n), (12, .int .i64 M')]) G'
  | 0, i, l, M, B, G, hi, hln, hB, hb, ht, hp, ro => by
    refine ⟨G, M, hp, by rw [drop_end (by omega)]; exact ro, by rw [drop_end (by omega)]; exact ht, fun _ _ _ => rfl, fun ks => ?_⟩
    rw [goL_at c29L1.eq_def]
    simp (disch := first | omega | (simp only [Go.Am.len_push, Go.Am.len_set, Go.Am.len_kill] <;> omega) | fail) only [push_cast, Nat.reduceBEq, Nat.reduceAdd, Nat.reduceMul, Nat.reduceSub, Nat.reduceLT, Nat.reduceGT, Nat.reduceLeDiff, Nat.reduceEqDiff, Int.reduceToNat, Int.reduceAdd, Int.reduceMul, Int.reduceSub, Int.reduceNeg, Int.reduceLT, Int.reduceLE, Int.reduceEq, Nat.zero_add, Nat.add_zero, Nat.mul_one, eq_self, ne_eq, not_true, not_false_iff, and_true, true_and, and_self, List.getElem?_cons_zero, List.getElem?_cons_succ, List.map_cons, List.map_nil, wrap64, dec_lt, dec_nlt, dec_le, dec_nle, dec_eq, dec_ne, if_pos, if_neg, Int.natCast_add, Int.natCast_one, Int.natCast_zero, Int.toNat_natCast]
  | m + 1, i, l, M, B, G, hi, hln, hB, hb, ht, hp, ro => by
    have IH := fr1_loop hr hc2 hn hf hx hxl hxb ho V1 V2 V9 m
    have hxi := hxb _ (gi_mem (zs := xs) (i := (i : Int)) (by omega) (by omega))
    have hfl := hc2.len
    obtain ⟨c, hc⟩ := at_some (l := cs) (i := (gi xs i).toNat) (by omega)
    obtain ⟨oa, a, c', rfl, l0', hra⟩ := hr.at hc
    have l0 := ld1_pre l0' hp
    have hcl := hc2.each c (List.mem_of_getElem? hc)
    have hfc := hf c (List.mem_of_getElem? hc)
    obtain ⟨ox, offx, rfl, _, l1'⟩ := hx.at (i := i) (by omega)
    have l1 := ld1_pre l1' hp
    obtain ⟨G1, M1, j1, j2, j3, j4, j5⟩ := fr0_loop hra hcl hn hfc ho (.slice (some ⟨oa, 0, none⟩) cs.length C) V1 V2 V9 (.slice (some ⟨ox, offx, none⟩) xs.length cx) (.int .i64 i) c.length 0 l M B G (by omega) hln hB (by omega) ht hp ro
    rw [List.drop_zero] at j2 j3
    simp only [Int.natCast_zero] at j5
    obtain ⟨G', M', k1, k2, k3, k4, k5⟩ := IH (i + 1) (cntC l c) M1 (B + 6000) G1 (by omega) (by rw [cntC_len]; exact hln) (fun p hp => by have := cntC_in hB (by rw [hln]; exact hfc) p hp; omega) (by omega) j3 j1 j2
    have hd : (xs.drop i).foldl (fun l x => cntC l (cs.getD x.toNat [])) l = (xs.drop (i + 1)).foldl (fun l x => cntC l (cs.getD x.toNat [])) (cntC l c) := by
      rw [drop_gi (by omega), List.foldl_cons, List.getD_eq_getElem?_getD, hc]; rfl
    rw [hd]
    refine ⟨G', M', k1, k2, k3, fun o' h1 h2 => by rw [k4 o' h1 h2, j4 o' h1 h2], fun ks => ?_⟩
    have ih := k5 ks
    rw [Int.natCast_add, Int.natCast_one] at ih
    rw [goL_at c29L1.eq_def, ← ih]
    simp (disch := first | omega | (simp only [Go.Am.len_push, Go.Am.len_set, Go.Am.len_kill] <;> omega) | fail) only [push_cast, Nat.reduceBEq, Nat.reduceAdd, Nat.reduceMul, Nat.reduceSub, Nat.reduceLT, Nat.reduceGT, Nat.reduceLeDiff, Nat.reduceEqDiff, Int.reduceToNat, Int.reduceAdd, Int.reduceMul, Int.reduceSub, Int.reduceNeg, Int.reduceLT, Int.reduceLE, Int.reduceEq, Nat.zero_add, Nat.add_zero, Nat.mul_one, eq_self, ne_eq, not_true, not_false_iff, and_true, true_and, and_self, List.getElem?_cons_zero, List.getElem?_cons_succ, List.map_cons, List.map_nil, wrap64, dec_lt, dec_nlt, dec_le, dec_nle, dec_eq, dec_ne, if_pos, if_neg, Int.natCast_add, Int.natCast_one, Int.natCast_zero, Int.toNat_natCast, l0, l1]
    rw [j5]
    simp (disch := first | omega | (simp only [Go.Am.len_push, Go.Am.len_set, Go.Am.len_kill] <;> omega) | fail) only [push_cast, Nat.reduceBEq, Nat.reduceAdd, Nat.reduceMul, Nat.reduceSub, Nat.reduceLT, Nat.reduceGT, Nat.reduceLeDiff, Nat.reduceEqDiff, Int.reduceToNat, Int.reduceAdd, Int.reduceMul, Int.reduceSub, Int.reduceNeg, Int.reduceLT, Int.reduceLE, Int.reduceEq, Nat.zero_add, Nat.add_zero, Nat.mul_one, eq_self, ne_eq, not_true, not_false_iff, and_true, true_and, and_self, List.getElem?_cons_zero, List.getElem?_cons_succ, List.map_cons, List.map_nil, wrap64]
theorem fr2_loop {l : List Int} {n : Nat} (hl : l.length = n) (hn : n ≤ 1000) {top : Int} {o1 o2 : Nat} (hne : o1 ≠ o2) (ho1 : h0.length ≤ o1) (V0 V2 V9 : Value) : ∀ (m i : Nat) (w : List Int) (G : H), i + m = n → w.length = n → Bits2 w → h0 <+: G → G.row o1 = some ⟨ints w, 3, 1, true⟩ → G.row o2 = some ⟨ints l, 3, 1, true⟩ →
    ∃ G' : H, h0 <+: G' ∧ G'.row o1 = some ⟨ints (flS l top m i w), 3, 1, true⟩ ∧ ∀ ks,
      goL T [.tmp 6, .tmp 7, .tmp 8] [0, 1, 2, 9, 11, 12, 16] c29L2 (.blk 6 [0, 1, 2, 9] :: ks) [(0, V0), (1, .slice (some ⟨o1, 0, none⟩) n n), (2, V2), (9, V9), (11, .slice (some ⟨o2, 0, none⟩) n n), (12, .int .i64 top), (16, .int .i64 i)] G =
        go T [.tmp 6, .tmp 7, .tmp 8] ks (Fr.of [(0, V0), (1, .slice (some ⟨o1, 0, none⟩) n n), (2, V2), (9, V9)]) G'
  | 0, i, w, G, hi, hw, hb, hp, r1, r2 => by
    refine ⟨G, hp, r1, fun ks => ?_⟩
    rw [goL_at c29L2.eq_def]
    simp (disch := first | omega | (simp only [Go.Am.len_push, Go.Am.len_set, Go.Am.len_kill] <;> omega) | fail) only [push_cast, Nat.reduceBEq, Nat.reduceAdd, Nat.reduceMul, Nat.reduceSub, Nat.reduceLT, Nat.reduceGT, Nat.reduceLeDiff, Nat.reduceEqDiff, Int.reduceToNat, Int.reduceAdd, Int.reduceMul, Int.reduceSub, Int.reduceNeg, Int.reduceLT, Int.reduceLE, Int.reduceEq, Nat.zero_add, Nat.add_zero, Nat.mul_one, eq_self, ne_eq, not_true, not_false_iff, and_true, true_and, and_self, List.getElem?_cons_zero, List.getElem?_cons_succ, List.map_cons, List.map_nil, wrap64, dec_lt, dec_nlt, dec_le, dec_nle, dec_eq, dec_ne, if_pos, if_neg, Int.natCast_add, Int.natCast_one, Int.natCast_zero, Int.toNat_natCast]
  | m + 1, i, w, G, hi, hw, hb, hp, r1, r2 => by
    have l2 := ld1_int r2 (i := (i : Int)) (by omega) (by omega)
    have l1 := ld1_int r1 (i := (i : Int)) (by omega) (by omega)
    have hx := bits2_get hb (v := (i : Int)) (by omega) (by omega)
    rw [Int.toNat_natCast] at l1 l2
    by_cases he : gi l i = top
    · have hf : flS l top (m + 1) i w = flS l top m (i + 1) (w.set i (1 - gi w i)) := by rw [flS, if_pos he]
      have es := sts_int r1 (i := (i : Int)) (v := 1 - gi w i) (by omega) (by omega)
      rw [Int.toNat_natCast] at es
      obtain ⟨G1, eG1⟩ : ∃ G1 : H, G1 = G.set o1 (.row ⟨ints (w.set i (1 - gi w i)), 3, 1, true⟩) := ⟨_, rfl⟩
      rw [← eG1] at es
      have p1 : h0 <+: G1 := by rw [eG1]; exact pre_set hp ho1
      have r1' : G1.row o1 = some ⟨ints (w.set i (1 - gi w i)), 3, 1, true⟩ := by rw [eG1]; exact row_set_same (row_some_lt r1)
      have r2' : G1.row o2 = some ⟨ints l, 3, 1, true⟩ := by rw [eG1, row_set_other hne]; exact r2
      obtain ⟨G', k1, k2, k3⟩ := fr2_loop hl hn hne ho1 V0 V2 V9 m (i + 1) _ G1 (by omega) (by simpa using hw) (bits2_set hb (by omega) (by omega)) p1 r1' r2'
      rw [hf]
      refine ⟨G', k1, k2, fun ks => ?_⟩
      have ih := k3 ks
      rw [Int.natCast_add, Int.natCast_one] at ih
      rw [goL_at c29L2.eq_def, ← ih]
      simp (disch := first | omega | (simp only [Go.Am.len_push, Go.Am.len_set, Go.Am.len_kill] <;> omega) | fail) only [push_cast, Nat.reduceBEq, Nat.reduceAdd, Nat.reduceMul, Nat.reduceSub, Nat.reduceLT, Nat.reduceGT, Nat.reduceLeDiff, Nat.reduceEqDiff, Int.reduceToNat, Int.reduceAdd, Int.reduceMul, Int.reduceSub, Int.reduceNeg, Int.reduceLT, Int.reduceLE, Int.reduceEq, Nat.zero_add, Nat.add_zero, Nat.mul_one, eq_self, ne_eq, not_true, not_false_iff, and_true, true_and, and_self, List.getElem?_cons_zero, List.getElem?_cons_succ, List.map_cons, List.map_nil, wrap64, dec_lt, dec_nlt, dec_le, dec_nle, dec_eq, dec_ne, if_pos, if_neg, Int.natCast_add, Int.natCast_one, Int.natCast_zero, Int.toNat_natCast, l1, l2, es]
    · have hf : flS l top (m + 1) i w = flS l top m (i + 1) w := by rw [flS, if_neg he]
      obtain ⟨G', k1, k2, k3⟩ := fr2_loop hl hn hne ho1 V0 V2 V9 m (i + 1) w G (by omega) hw hb hp r1 r2
      rw [hf]
      refine ⟨G', k1, k2, fun ks => ?_⟩
      have ih := k3 ks
      rw [Int.natCast_add, Int.natCast_one] at ih
      rw [goL_at c29L2.eq_def, ← ih]
      simp (disch := first | omega | (simp only [Go.Am.len_push, Go.Am.len_set, Go.Am.len_kill] <;> omega) | fail) only [push_cast, Nat.reduceBEq, Nat.reduceAdd, Nat.reduceMul, Nat.reduceSub, Nat.reduceLT, Nat.reduceGT, Nat.reduceLeDiff, Nat.reduceEqDiff, Int.reduceToNat, Int.reduceAdd, Int.reduceMul, Int.reduceSub, Int.reduceNeg, Int.reduceLT, Int.reduceLE, Int.reduceEq, Nat.zero_add, Nat.add_zero, Nat.mul_one, eq_self, ne_eq, not_true, not_false_iff, and_true, true_and, and_self, List.getElem?_cons_zero, List.getElem?_cons_succ, List.map_cons, List.map_nil, wrap64, dec_lt, dec_nlt, dec_le, dec_nle, dec_eq, dec_ne, if_pos, if_neg, Int.natCast_add, Int.natCast_one, Int.natCast_zero, Int.toNat_natCast, l1, l2]
theorem fr3_loop (hr : RdLL h0 sa C cs) (hc2 : Few2 cs) (hcs : cs.length ≤ 64) {n : Nat} (hf : ∀ c ∈ cs, Fits n c) (hn0 : 0 < n) (hn : n ≤ 1000) {most : Nat} (hm : most ≤ 1000) {o1 : Nat} (ho1 : h0.length ≤ o1) : ∀ (k : Nat) (w : List Int) (r : Nat) (G : H), r + k = most → w.length = n → Bits2 w → h0 <+: G → G.row o1 = some ⟨ints w, 3, 1, true⟩ →
    ∃ G' : H, h0 <+: G' ∧ G'.row o1 = some ⟨ints (flipN cs k w r).1, 3, 1, true⟩ ∧ ∀ ks,
      goL T [.tmp 6, .tmp 7, .tmp 8] [0, 1, 2, 9] c29L3 (.blk 0 [] :: ks) [(0, .slice sa cs.length C), (1, .slice (some ⟨o1, 0, none⟩) n n), (2, .int .i64 most), (9, .int .i64 r)] G =
        some (.tuple #[.slice (some ⟨o1, 0, none⟩) n n, .bool (flipN cs k w r).2.1, .int .i64 ((flipN cs k w r).2.2 : Nat)], G')
  | 0, w, r, G, hk, hw, hb, hp, r1 => by
    obtain ⟨s1, c1, G1, p1, x1, e1⟩ := odd_call (hr.mono hp) hc2 (RdI.ofRow r1 rfl) hb (by rw [hw]; exact hf)
    rw [hw] at e1
    refine ⟨G1, hp.trans p1, row_pre r1 p1, fun ks => ?_⟩
    have hfl : flipN cs 0 w r = (w, !cs.any (oddC w), r) := rfl
    rw [hfl]
    obtain rfl : r = most := by omega
    rw [goL_at c29L3.eq_def]
    cases ha : cs.any (oddC w) with
    | false =>
      rw [(oxL_any w cs 0).2 ha] at e1
      simp (disch := first | omega | (simp only [Go.Am.len_push, Go.Am.len_set, Go.Am.len_kill] <;> omega) | fail) only [push_cast, Nat.reduceBEq, Nat.reduceAdd, Nat.reduceMul, Nat.reduceSub, Nat.reduceLT, Nat.reduceGT, Nat.reduceLeDiff, Nat.reduceEqDiff, Int.reduceToNat, Int.reduceAdd, Int.reduceMul, Int.reduceSub, Int.reduceNeg, Int.reduceLT, Int.reduceLE, Int.reduceEq, Nat.zero_add, Nat.add_zero, Nat.mul_one, eq_self, ne_eq, not_true, not_false_iff, and_true, true_and, and_self, List.getElem?_cons_zero, List.getElem?_cons_succ, List.map_cons, List.map_nil, wrap64, dec_lt, dec_nlt, dec_le, dec_nle, dec_eq, dec_ne, if_pos, if_neg, Int.natCast_add, Int.natCast_one, Int.natCast_zero, Int.toNat_natCast, e1, List.length_nil]
    | true =>
      have h1 : ¬ ((oxL w cs 0).length : Int) = 0 := fun e => by
        have := (oxL_any w cs 0).1 (List.length_eq_zero_iff.1 (by omega))
        rw [ha] at this; cases this
      simp (disch := first | omega | (simp only [Go.Am.len_push, Go.Am.len_set, Go.Am.len_kill] <;> omega) | fail) only [push_cast, Nat.reduceBEq, Nat.reduceAdd, Nat.reduceMul, Nat.reduceSub, Nat.reduceLT, Nat.reduceGT, Nat.reduceLeDiff, Nat.reduceEqDiff, Int.reduceToNat, Int.reduceAdd, Int.reduceMul, Int.reduceSub, Int.reduceNeg, Int.reduceLT, Int.reduceLE, Int.reduceEq, Nat.zero_add, Nat.add_zero, Nat.mul_one, eq_self, ne_eq, not_true, not_false_iff, and_true, true_and, and_self, List.getElem?_cons_zero, List.getElem?_cons_succ, List.map_cons, List.map_nil, wrap64, dec_lt, dec_nlt, dec_le, dec_nle, dec_eq, dec_ne, if_pos, if_neg, Int.natCast_add, Int.natCast_one, Int.natCast_zero, Int.toNat_natCast, e1, dec_ne h1]
  | k + 1, w, r, G, hk, hw, hb, hp, r1 => by
    obtain ⟨s1, c1, G1, p1, x1, e1⟩ := odd_call (hr.mono hp) hc2 (RdI.ofRow r1 rfl) hb (by rw [hw]; exact hf)
    rw [hw] at e1
    cases ha : cs.any (oddC w) with
    | false =>
      have hfl : flipN cs (k + 1) w r = (w, true, r) := by rw [flipN, if_neg (by rw [ha]; decide)]
      rw [(oxL_any w cs 0).2 ha] at e1
      rw [hfl]
      refine ⟨G1, hp.trans p1, row_pre r1 p1, fun ks => ?_⟩
      rw [goL_at c29L3.eq_def]
      simp (disch := first | omega | (simp only [Go.Am.len_push, Go.Am.len_set, Go.Am.len_kill] <;> omega) | fail) only [push_cast, Nat.reduceBEq, Nat.reduceAdd, Nat.reduceMul, Nat.reduceSub, Nat.reduceLT, Nat.reduceGT, Nat.reduceLeDiff, Nat.reduceEqDiff, Int.reduceToNat, Int.reduceAdd, Int.reduceMul, Int.reduceSub, Int.reduceNeg, Int.reduceLT, Int.reduceLE, Int.reduceEq, Nat.zero_add, Nat.add_zero, Nat.mul_one, eq_self, ne_eq, not_true, not_false_iff, and_true, true_and, and_self, List.getElem?_cons_zero, List.getElem?_cons_succ, List.map_cons, List.map_nil, wrap64, dec_lt, dec_nlt, dec_le, dec_nle, dec_eq, dec_ne, if_pos, if_neg, Int.natCast_add, Int.natCast_one, Int.natCast_zero, Int.toNat_natCast, e1, List.length_nil]
    | true =>
      have hfl : flipN cs (k + 1) w r = flipN cs k (turnW cs w) (r + 1) := by rw [flipN, if_pos ha]
      have h1 : ¬ ((oxL w cs 0).length : Int) = 0 := fun e => by
        have := (oxL_any w cs 0).1 (List.length_eq_zero_iff.1 (by omega))
        rw [ha] at this; cases this
      have hxl := oxL_len w cs 0
      obtain ⟨G2, eG2⟩ : ∃ G2 : H, G2 = G1 ++ [.row ⟨ints (zerosL n), 3, 1, true⟩] := ⟨_, rfl⟩
      have r2 : G2.row G1.length = some ⟨ints (zerosL n), 3, 1, true⟩ := by rw [eG2]; exact row_push_new
      have p2 : G1 <+: G2 := by rw [eG2]; exact List.prefix_append _ _
      have hr0 : rep [.int .i64 0] n = ints (zerosL n) := rep_int _ _
      have hz0 : IsTop (zerosL n) 0 := ⟨fun p _ => by rw [zeros_gi]; omega, by omega, .inl rfl⟩
      obtain ⟨G3, M, m1, m2, m3, m4, m5⟩ := fr1_loop (h0 := G1) (hr.mono (hp.trans p1)) hc2 hn hf x1 (by omega) (fun x hx => by have := oxL_mem w cs 0 x hx; omega) (o := G1.length) (Nat.le_refl _) (.slice (some ⟨o1, 0, none⟩) n n) (.int .i64 most) (.int .i64 r) (oxL w cs 0).length 0 (zerosL n) 0 0 G2 (by omega) (by simp [zerosL]) (zeros_in _) (by omega) hz0 p2 r2
      have hcn := oxL_cnt w cs cs.length 0 (zerosL n) (by omega)
      rw [List.drop_zero] at hcn
      have hcn2 : cntL w cs (zerosL n) = cnts cs w := by unfold cnts; rw [hw]
      rw [List.drop_zero, hcn, hcn2] at m2 m3
      simp only [Int.natCast_zero] at m5
      have hM := m3.uni (mxL_top (cnts cs w))
      subst hM
      have hlt := row_some_lt r1
      have hlen1 := p1.length_le
      obtain ⟨G4, j1, j2, j3⟩ := fr2_loop (h0 := h0) (l := cnts cs w) (by rw [cnts_len]; exact hw) hn (top := mxL (cnts cs w)) (o1 := o1) (o2 := G1.length) (by omega) ho1 (.slice sa cs.length C) (.int .i64 most) (.int .i64 r) n 0 w G3 (by omega) hw hb ((hp.trans p1).trans m1) (row_pre (row_pre r1 p1) m1) m2
      have hturn : flS (cnts cs w) (mxL (cnts cs w)) n 0 w = turnW cs w := by unfold turnW; rw [hw]
      rw [hturn] at j2
      simp only [Int.natCast_zero] at j3
      obtain ⟨G5, i1, i2, i3⟩ := fr3_loop hr hc2 hcs hf hn0 hn hm ho1 k (turnW cs w) (r + 1) G4 (by omega) (by rw [turn_len]; exact hw) (turn_bits hb) j1 j2
      rw [hfl]
      refine ⟨G5, i1, i2, fun ks => ?_⟩
      have ih := i3 ks
      rw [Int.natCast_add, Int.natCast_one] at ih
      have hrm : ¬ (r : Int) = (most : Int) := by omega
      rw [goL_at c29L3.eq_def, ← ih]
      simp (disch := first | omega | (simp only [Go.Am.len_push, Go.Am.len_set, Go.Am.len_kill] <;> omega) | fail) only [push_cast, Nat.reduceBEq, Nat.reduceAdd, Nat.reduceMul, Nat.reduceSub, Nat.reduceLT, Nat.reduceGT, Nat.reduceLeDiff, Nat.reduceEqDiff, Int.reduceToNat, Int.reduceAdd, Int.reduceMul, Int.reduceSub, Int.reduceNeg, Int.reduceLT, Int.reduceLE, Int.reduceEq, Nat.zero_add, Nat.add_zero, Nat.mul_one, eq_self, ne_eq, not_true, not_false_iff, and_true, true_and, and_self, List.getElem?_cons_zero, List.getElem?_cons_succ, List.map_cons, List.map_nil, wrap64, dec_lt, dec_nlt, dec_le, dec_nle, dec_eq, dec_ne, if_pos, if_neg, Int.natCast_add, Int.natCast_one, Int.natCast_zero, Int.toNat_natCast, e1, dec_ne h1, dec_ne hrm, hr0, ← eG2]
      rw [m5]
      simp (disch := first | omega | (simp only [Go.Am.len_push, Go.Am.len_set, Go.Am.len_kill] <;> omega) | fail) only [push_cast, Nat.reduceBEq, Nat.reduceAdd, Nat.reduceMul, Nat.reduceSub, Nat.reduceLT, Nat.reduceGT, Nat.reduceLeDiff, Nat.reduceEqDiff, Int.reduceToNat, Int.reduceAdd, Int.reduceMul, Int.reduceSub, Int.reduceNeg, Int.reduceLT, Int.reduceLE, Int.reduceEq, Nat.zero_add, Nat.add_zero, Nat.mul_one, eq_self, ne_eq, not_true, not_false_iff, and_true, true_and, and_self, List.getElem?_cons_zero, List.getElem?_cons_succ, List.map_cons, List.map_nil]
      rw [j3]
      simp (disch := first | omega | (simp only [Go.Am.len_push, Go.Am.len_set, Go.Am.len_kill] <;> omega) | fail) only [push_cast, Nat.reduceBEq, Nat.reduceAdd, Nat.reduceMul, Nat.reduceSub, Nat.reduceLT, Nat.reduceGT, Nat.reduceLeDiff, Nat.reduceEqDiff, Int.reduceToNat, Int.reduceAdd, Int.reduceMul, Int.reduceSub, Int.reduceNeg, Int.reduceLT, Int.reduceLE, Int.reduceEq, Nat.zero_add, Nat.add_zero, Nat.mul_one, eq_self, ne_eq, not_true, not_false_iff, and_true, true_and, and_self, List.getElem?_cons_zero, List.getElem?_cons_succ, List.map_cons, List.map_nil, wrap64]
theorem rflip_call {h : H} (hr : RdLL h sa C cs) (hc2 : Few2 cs) (hw : RdI h sw cw w) (hl : w.length ≤ 1000) (h0 : 0 < w.length) (hcl : cs.length ≤ 64) (hf : ∀ c ∈ cs, Fits w.length c) (hb : Bits2 w) (M : Nat) (hM : M ≤ 1000) : ∃ (s1 : Option Addr) (c1 : Nat) (h' : H), h <+: h' ∧
    RdI h' s1 c1 (flipR cs w M).1 ∧
    call T 29 [.slice sa cs.length C, .slice sw w.length cw, .int .i64 M] h = some (.tuple #[.slice s1 (flipR cs w M).1.length c1, .bool (flipR cs w M).2.1, .int .i64 ((flipR cs w M).2.2 : Nat)], h') := by
  obtain ⟨o1, G1, ⟨f1, f2, f3⟩, e3⟩ := copy_call hw (by omega)
  obtain ⟨G2, k1, k2, k3⟩ := fr3_loop hr hc2 hcl hf h0 hl (most := M) hM f2 M w 0 G1 (by omega) rfl hb f1 f3
  have hR : flipN cs M w 0 = flipR cs w M := rfl
  have hfl : (flipN cs M w 0).1.length = w.length := flip_len _ _ _ _
  rw [hR] at k2 k3 hfl
  simp only [Int.natCast_zero] at k3
  refine ⟨some ⟨o1, 0, none⟩, w.length, G2, k1, ?_, ?_⟩
  · have := RdI.ofRow k2 rfl; rwa [hfl] at this
  · rw [hfl, call_at T29 rfl]
    unfold F29 c29
    simp (disch := first | omega | (simp only [Go.Am.len_push, Go.Am.len_set, Go.Am.len_kill] <;> omega) | fail) only [push_cast, Nat.reduceBEq, Nat.reduceAdd, Nat.reduceMul, Nat.reduceSub, Nat.reduceLT, Nat.reduceGT, Nat.reduceLeDiff, Nat.reduceEqDiff, Int.reduceToNat, Int.reduceAdd, Int.reduceMul, Int.reduceSub, Int.reduceNeg, Int.reduceLT, Int.reduceLE, Int.reduceEq, Nat.zero_add, Nat.add_zero, Nat.mul_one, eq_self, ne_eq, not_true, not_false_iff, and_true, true_and, and_self, List.getElem?_cons_zero, List.getElem?_cons_succ, List.map_cons, List.map_nil, wrap64, dec_lt, dec_nlt, dec_le, dec_nle, dec_eq, dec_ne, if_pos, if_neg, Int.natCast_add, Int.natCast_one, Int.natCast_zero, Int.toNat_natCast, e3]
    rw [k3]
end
end Go.Proofs.Ytammndhoillliaa
