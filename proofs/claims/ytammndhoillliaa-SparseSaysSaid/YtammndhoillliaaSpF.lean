/-
  What sparse.wrong, slices.Max and sparse.Flip compute. Conditions: checks of places, a word of bits.
-/
import Derived.Test.YtammndhoillliaaSpE
namespace Go.Proofs.Ytammndhoillliaa
open Go.Am
set_option linter.unusedVariables false
set_option linter.unusedSimpArgs false
set_option maxRecDepth 30000

section
variable {h0 : H} {sa sw : Option Addr} {C cw : Nat} {cs : List (List Int)} {w : List Int} {a : Option Addr} {cc : Nat} {c : List Int}
theorem wsum_loop (hr : RdI h0 a cc c) (hl : c.length ≤ 6000) (hw : RdI h0 sw cw w) (hf : Fits w.length c) (hb : Bits2 w) (V8 V9 V19 V20 V21 : Value) : ∀ (m k : Nat) (s : Int) (G : H), k + m = c.length → 0 ≤ s → s < 2 → h0 <+: G → ∀ ks,
    goL T [.tmp 6, .tmp 7] [2, 8, 9, 11, 12, 19, 20, 21, 25, 26, 27] c110L0 (.blk 2 [2, 8, 9, 11, 12, 19, 20, 21] :: ks) [(2, .slice sw w.length cw), (8, V8), (9, V9), (11, .slice a c.length cc), (12, .int .i64 s), (19, V19), (20, V20), (21, V21), (25, .slice a c.length cc), (26, .int .i64 c.length), (27, .int .i64 k)] G =
      go T [.tmp 6, .tmp 7] ks (Fr.of [(2, .slice sw w.length cw), (8, V8), (9, V9), (11, .slice a c.length cc), (12, .int .i64 (parW w (c.drop k) s)), (19, V19), (20, V20), (21, V21)]) G
  | 0, k, s, G, hk, s0, s1, hp, ks => by
    rw [goL_at c110L0.eq_def, drop_end (by omega)]
    have : parW w [] s = s := rfl
    rw [this]
    simp (disch := first | omega | (simp only [Go.Am.len_push, Go.Am.len_set, Go.Am.len_kill] <;> omega) | fail) only [push_cast, Nat.reduceBEq, Nat.reduceAdd, Nat.reduceMul, Nat.reduceSub, Nat.reduceLT, Nat.reduceGT, Nat.reduceLeDiff, Nat.reduceEqDiff, Int.reduceToNat, Int.reduceAdd, Int.reduceMul, Int.reduceSub, Int.reduceNeg, Int.reduceLT, Int.reduceLE, Int.reduceEq, Nat.zero_add, Nat.add_zero, Nat.mul_one, eq_self, ne_eq, not_true, not_false_iff, and_true, true_and, and_self, List.getElem?_cons_zero, List.getElem?_cons_succ, List.map_cons, List.map_nil, wrap64, dec_lt, dec_nlt, dec_le, dec_nle, dec_eq, dec_ne, if_pos, if_neg, Int.natCast_add, Int.natCast_one, Int.natCast_zero, Int.toNat_natCast]
  | m + 1, k, s, G, hk, s0, s1, hp, ks => by
    have IH := wsum_loop hr hl hw hf hb V8 V9 V19 V20 V21 m
    have hv := fits_gi hf (show k < c.length by omega)
    have hx := bits2_get hb hv.1 hv.2
    obtain ⟨o, off, rfl, _, l1⟩ := (hr.mono hp).at (i := k) (by omega)
    obtain ⟨o2, off2, rfl, _, l2'⟩ := (hw.mono hp).addr (by omega)
    have l2 := l2' (gi c k) hv.1 (by omega)
    have ih := IH (k + 1) ((s + gi w (gi c k)) % 2) G (by omega) (by omega) (by omega) hp ks
    rw [Int.natCast_add, Int.natCast_one] at ih
    have hd : parW w (c.drop k) s = parW w (c.drop (k + 1)) ((s + gi w (gi c k)) % 2) := by rw [drop_gi (by omega)]; rfl
    have hxo := xor_bit2 s0 s1 hx.1 (show gi w (gi c k) < 2 by omega)
    rw [goL_at c110L0.eq_def, hd, ← ih]
    simp (disch := first | omega | (simp only [Go.Am.len_push, Go.Am.len_set, Go.Am.len_kill] <;> omega) | fail) only [push_cast, Nat.reduceBEq, Nat.reduceAdd, Nat.reduceMul, Nat.reduceSub, Nat.reduceLT, Nat.reduceGT, Nat.reduceLeDiff, Nat.reduceEqDiff, Int.reduceToNat, Int.reduceAdd, Int.reduceMul, Int.reduceSub, Int.reduceNeg, Int.reduceLT, Int.reduceLE, Int.reduceEq, Nat.zero_add, Nat.add_zero, Nat.mul_one, eq_self, ne_eq, not_true, not_false_iff, and_true, true_and, and_self, List.getElem?_cons_zero, List.getElem?_cons_succ, List.map_cons, List.map_nil, wrap64, dec_lt, dec_nlt, dec_le, dec_nle, dec_eq, dec_ne, if_pos, if_neg, Int.natCast_add, Int.natCast_one, Int.natCast_zero, Int.toNat_natCast, l1, l2, hxo]
theorem winc_loop (hr : RdI h0 a cc c) (hl : c.length ≤ 6000) {n : Nat} (hf : Fits n c) {o : Nat} (ho : h0.length ≤ o) (V2 V9 V19 V20 V21 : Value) : ∀ (m k : Nat) (l : List Int) (B : Int) (G : H), k + m = c.length → l.length = n → InB l B → B + m ≤ 1000000000 → h0 <+: G → G.row o = some ⟨ints l, 3, 1, true⟩ →
    ∃ G' : H, h0 <+: G' ∧ G'.row o = some ⟨ints (cntC l (c.drop k)), 3, 1, true⟩ ∧ ∀ ks,
      goL T [.tmp 6, .tmp 7] [2, 8, 9, 19, 20, 21, 42, 43, 44] c110L1 (.blk 4 [2, 8, 9, 19, 20, 21] :: ks) [(2, V2), (8, .slice (some ⟨o, 0, none⟩) n n), (9, V9), (19, V19), (20, V20), (21, V21), (42, .slice a c.length cc), (43, .int .i64 c.length), (44, .int .i64 k)] G =
        go T [.tmp 6, .tmp 7] ks (Fr.of [(2, V2), (8, .slice (some ⟨o, 0, none⟩) n n), (9, V9), (19, V19), (20, V20), (21, V21)]) G'
  | 0, k, l, B, G, hk, hn, hB, hb, hp, ro => by
    refine ⟨G, hp, by rw [drop_end (by omega)]; exact ro, fun ks => ?_⟩
    rw [goL_at c110L1.eq_def]
    simp (disch := first | omega | (simp only [Go.Am.len_push, Go.Am.len_set, Go.Am.len_kill] <;> omega) | fail) only [push_cast, Nat.reduceBEq, Nat.reduceAdd, Nat.reduceMul, Nat.reduceSub, Nat.reduceLT, Nat.reduceGT, Nat.reduceLeDiff, Nat.reduceEqDiff, Int.reduceToNat, Int.reduceAdd, Int.reduceMul, Int.reduceSub, Int.reduceNeg, Int.reduceLT, Int.reduceLE, Int.reduceEq, Nat.zero_add, Nat.add_zero, Nat.mul_one, eq_self, ne_eq, not_true, not_false_iff, and_true, true_and, and_self, List.getElem?_cons_zero, List.getElem?_cons_succ, List.map_cons, List.map_nil, wrap64, dec_lt, dec_nlt, dec_le, dec_nle, dec_eq, dec_ne, if_pos, if_neg, Int.natCast_add, Int.natCast_one, Int.natCast_zero, Int.toNat_natCast]
  | m + 1, k, l, B, G, hk, hn, hB, hb, hp, ro => by
    have IH := winc_loop hr hl hf ho V2 V9 V19 V20 V21 m
    have hv := fits_gi hf (show k < c.length by omega)
    have hvb := hB (gi c k).toNat (by omega)
    rw [show (((gi c k).toNat : Nat) : Int) = gi c k by omega] at hvb
    obtain ⟨o', off, rfl, _, l1⟩ := (hr.mono hp).at (i := k) (by omega)
    have l2 := ld1_int ro (i := gi c k) hv.1 (by omega)
    have es := sts_int ro (i := gi c k) (v := gi l (gi c k) + 1) hv.1 (by omega)
    obtain ⟨G1, eG1⟩ : ∃ G1 : H, G1 = G.set o (.row ⟨ints (inc l (gi c k)), 3, 1, true⟩) := ⟨_, rfl⟩
    have es' : G.sts o (gi c k).toNat [.int .i64 (gi l (gi c k) + 1)] = some G1 := by rw [es, eG1]; rfl
    have p1 : h0 <+: G1 := by rw [eG1]; exact pre_set hp ho
    have r1 : G1.row o = some ⟨ints (inc l (gi c k)), 3, 1, true⟩ := by rw [eG1]; exact row_set_same (row_some_lt ro)
    obtain ⟨G', k1, k2, k3⟩ := IH (k + 1) (inc l (gi c k)) (B + 1) G1 (by omega) (by rw [inc_len]; exact hn) (inc_in hB hv.1 (by omega)) (by omega) p1 r1
    have hd : cntC l (c.drop k) = cntC (inc l (gi c k)) (c.drop (k + 1)) := by rw [drop_gi (by omega)]; rfl
    refine ⟨G', k1, by rw [hd]; exact k2, fun ks => ?_⟩
    have ih := k3 ks
    rw [Int.natCast_add, Int.natCast_one] at ih
    rw [goL_at c110L1.eq_def, ← ih]
    simp (disch := first | omega | (simp only [Go.Am.len_push, Go.Am.len_set, Go.Am.len_kill] <;> omega) | fail) only [push_cast, Nat.reduceBEq, Nat.reduceAdd, Nat.reduceMul, Nat.reduceSub, Nat.reduceLT, Nat.reduceGT, Nat.reduceLeDiff, Nat.reduceEqDiff, Int.reduceToNat, Int.reduceAdd, Int.reduceMul, Int.reduceSub, Int.reduceNeg, Int.reduceLT, Int.reduceLE, Int.reduceEq, Nat.zero_add, Nat.add_zero, Nat.mul_one, eq_self, ne_eq, not_true, not_false_iff, and_true, true_and, and_self, List.getElem?_cons_zero, List.getElem?_cons_succ, List.map_cons, List.map_nil, wrap64, dec_lt, dec_nlt, dec_le, dec_nle, dec_eq, dec_ne, if_pos, if_neg, Int.natCast_add, Int.natCast_one, Int.natCast_zero, Int.toNat_natCast, l1, l2, es']
theorem wrong_loop (hr : RdLL h0 sa C cs) (hc2 : Few2 cs) (hw : RdI h0 sw cw w) (hf : ∀ c ∈ cs, Fits w.length c) (hb : Bits2 w) {o : Nat} (ho : h0.length ≤ o) : ∀ (m i : Nat) (l : List Int) (d : Nat) (B : Int) (G : H), i + m = cs.length → l.length = w.length → InB l B → B + 6000 * m ≤ 100000000 → d ≤ i → h0 <+: G → G.row o = some ⟨ints l, 3, 1, true⟩ →
    ∃ G' : H, h0 <+: G' ∧ G'.row o = some ⟨ints (cntL w (cs.drop i) l), 3, 1, true⟩ ∧ ∀ ks,
      goL T [.tmp 6, .tmp 7] [2, 8, 9, 19, 20, 21] c110L2 (.blk 0 [8, 9] :: ks) [(2, .slice sw w.length cw), (8, .slice (some ⟨o, 0, none⟩) w.length w.length), (9, .int .i64 d), (19, .slice sa cs.length C), (20, .int .i64 cs.length), (21, .int .i64 i)] G =
        go T [.tmp 6, .tmp 7] ks (Fr.of [(8, .slice (some ⟨o, 0, none⟩) w.length w.length), (9, .int .i64 ((d + (cs.drop i).countP (oddC w) : Nat) : Int))]) G'
  | 0, i, l, d, B, G, hi, hn, hB, hb2, hd, hp, ro => by
    refine ⟨G, hp, by rw [drop_end (by omega)]; exact ro, fun ks => ?_⟩
    rw [goL_at c110L2.eq_def, drop_end (by omega), List.countP_nil, Nat.add_zero]
    simp (disch := first | omega | (simp only [Go.Am.len_push, Go.Am.len_set, Go.Am.len_kill] <;> omega) | fail) only [push_cast, Nat.reduceBEq, Nat.reduceAdd, Nat.reduceMul, Nat.reduceSub, Nat.reduceLT, Nat.reduceGT, Nat.reduceLeDiff, Nat.reduceEqDiff, Int.reduceToNat, Int.reduceAdd, Int.reduceMul, Int.reduceSub, Int.reduceNeg, Int.reduceLT, Int.reduceLE, Int.reduceEq, Nat.zero_add, Nat.add_zero, Nat.mul_one, eq_self, ne_eq, not_true, not_false_iff, and_true, true_and, and_self, List.getElem?_cons_zero, List.getElem?_cons_succ, List.map_cons, List.map_nil, wrap64, dec_lt, dec_nlt, dec_le, dec_nle, dec_eq, dec_ne, if_pos, if_neg, Int.natCast_add, Int.natCast_one, Int.natCast_zero, Int.toNat_natCast]
  | m + 1, i, l, d, B, G, hi, hn, hB, hb2, hd, hp, ro => by
    have IH := wrong_loop hr hc2 hw hf hb ho m
    obtain ⟨c, hc⟩ := at_some (l := cs) (i := i) (by omega)
    obtain ⟨oa, a, c', rfl, l1, hra⟩ := hr.at hc
    have l1 := ld1_pre l1 hp
    have hcl := hc2.each c (List.mem_of_getElem? hc)
    have hfl := hc2.len
    have hfc := hf c (List.mem_of_getElem? hc)
    have e1 := fun ks => wsum_loop hra hcl hw hfc hb (.slice (some ⟨o, 0, none⟩) w.length w.length) (.int .i64 d) (.slice (some ⟨oa, 0, none⟩) cs.length C) (.int .i64 cs.length) (.int .i64 i) c.length 0 0 G (by omega) (by omega) (by omega) hp ks
    rw [List.drop_zero] at e1
    simp only [Int.natCast_zero] at e1
    have hcnt : (cs.drop i).countP (oddC w) = (cs.drop (i + 1)).countP (oddC w) + (if oddC w c = true then 1 else 0) := by rw [drop_at hc, List.countP_cons]
    have hcl2 : cntL w (cs.drop i) l = cntL w (cs.drop (i + 1)) (if oddC w c = true then cntC l c else l) := by rw [drop_at hc]; rfl
    have hpo := par_odd w c
    by_cases hod : oddC w c = true
    · rw [if_pos hod] at hcl2 hcnt
      rw [hcl2, hcnt]
      have hpo' : parW w c 0 = 1 := by rw [hod] at hpo; simpa using hpo
      obtain ⟨G1, k1, k2, k3⟩ := winc_loop hra hcl hfc ho (.slice sw w.length cw) (.int .i64 ((d : Int) + 1)) (.slice (some ⟨oa, 0, none⟩) cs.length C) (.int .i64 cs.length) (.int .i64 i) c.length 0 l B G (by omega) hn hB (by omega) hp ro
      rw [List.drop_zero] at k2
      simp only [Int.natCast_zero] at k3
      obtain ⟨G', m1, m2, m3⟩ := IH (i + 1) (cntC l c) (d + 1) (B + 6000) G1 (by omega) (by rw [cntC_len]; exact hn) (fun p hp => by have := cntC_in hB (by rw [hn]; exact hfc) p hp; omega) (by omega) (by omega) k1 k2
      refine ⟨G', m1, m2, fun ks => ?_⟩
      have ih := m3 ks
      have hcnt2 : ((d + 1 + (cs.drop (i + 1)).countP (oddC w) : Nat) : Int) = ((d + ((cs.drop (i + 1)).countP (oddC w) + 1) : Nat) : Int) := by omega
      rw [hcnt2] at ih
      rw [goL_at c110L2.eq_def, ← ih, Int.natCast_add, Int.natCast_one, Int.natCast_add i 1, Int.natCast_one]
      simp (disch := first | omega | (simp only [Go.Am.len_push, Go.Am.len_set, Go.Am.len_kill] <;> omega) | fail) only [push_cast, Nat.reduceBEq, Nat.reduceAdd, Nat.reduceMul, Nat.reduceSub, Nat.reduceLT, Nat.reduceGT, Nat.reduceLeDiff, Nat.reduceEqDiff, Int.reduceToNat, Int.reduceAdd, Int.reduceMul, Int.reduceSub, Int.reduceNeg, Int.reduceLT, Int.reduceLE, Int.reduceEq, Nat.zero_add, Nat.add_zero, Nat.mul_one, eq_self, ne_eq, not_true, not_false_iff, and_true, true_and, and_self, List.getElem?_cons_zero, List.getElem?_cons_succ, List.map_cons, List.map_nil, dec_lt, wrap64, if_pos, l1, Int.toNat_natCast]
      rw [e1]
      simp (disch := first | omega | (simp only [Go.Am.len_push, Go.Am.len_set, Go.Am.len_kill] <;> omega) | fail) only [push_cast, Nat.reduceBEq, Nat.reduceAdd, Nat.reduceMul, Nat.reduceSub, Nat.reduceLT, Nat.reduceGT, Nat.reduceLeDiff, Nat.reduceEqDiff, Int.reduceToNat, Int.reduceAdd, Int.reduceMul, Int.reduceSub, Int.reduceNeg, Int.reduceLT, Int.reduceLE, Int.reduceEq, Nat.zero_add, Nat.add_zero, Nat.mul_one, eq_self, ne_eq, not_true, not_false_iff, and_true, true_and, and_self, List.getElem?_cons_zero, List.getElem?_cons_succ, List.map_cons, List.map_nil, dec_eq hpo', wrap64]
      rw [k3]
      simp (disch := first | omega | (simp only [Go.Am.len_push, Go.Am.len_set, Go.Am.len_kill] <;> omega) | fail) only [push_cast, Nat.reduceBEq, Nat.reduceAdd, Nat.reduceMul, Nat.reduceSub, Nat.reduceLT, Nat.reduceGT, Nat.reduceLeDiff, Nat.reduceEqDiff, Int.reduceToNat, Int.reduceAdd, Int.reduceMul, Int.reduceSub, Int.reduceNeg, Int.reduceLT, Int.reduceLE, Int.reduceEq, Nat.zero_add, Nat.add_zero, Nat.mul_one, eq_self, ne_eq, not_true, not_false_iff, and_true, true_and, and_self, List.getElem?_cons_zero, List.getElem?_cons_succ, List.map_cons, List.map_nil, wrap64]
    · rw [if_neg hod] at hcl2 hcnt
      rw [Nat.add_zero] at hcnt
      rw [hcl2, hcnt]
      have hpo' : ¬ parW w c 0 = 1 := by rw [Bool.not_eq_true] at hod; rw [hod] at hpo; simpa using hpo
      obtain ⟨G', m1, m2, m3⟩ := IH (i + 1) l d B G (by omega) hn hB (by omega) (by omega) hp ro
      refine ⟨G', m1, m2, fun ks => ?_⟩
      have ih := m3 ks
      rw [goL_at c110L2.eq_def, ← ih, Int.natCast_add i 1, Int.natCast_one]
      simp (disch := first | omega | (simp only [Go.Am.len_push, Go.Am.len_set, Go.Am.len_kill] <;> omega) | fail) only [push_cast, Nat.reduceBEq, Nat.reduceAdd, Nat.reduceMul, Nat.reduceSub, Nat.reduceLT, Nat.reduceGT, Nat.reduceLeDiff, Nat.reduceEqDiff, Int.reduceToNat, Int.reduceAdd, Int.reduceMul, Int.reduceSub, Int.reduceNeg, Int.reduceLT, Int.reduceLE, Int.reduceEq, Nat.zero_add, Nat.add_zero, Nat.mul_one, eq_self, ne_eq, not_true, not_false_iff, and_true, true_and, and_self, List.getElem?_cons_zero, List.getElem?_cons_succ, List.map_cons, List.map_nil, dec_lt, wrap64, if_pos, l1, Int.toNat_natCast]
      rw [e1]
      simp (disch := first | omega | (simp only [Go.Am.len_push, Go.Am.len_set, Go.Am.len_kill] <;> omega) | fail) only [push_cast, Nat.reduceBEq, Nat.reduceAdd, Nat.reduceMul, Nat.reduceSub, Nat.reduceLT, Nat.reduceGT, Nat.reduceLeDiff, Nat.reduceEqDiff, Int.reduceToNat, Int.reduceAdd, Int.reduceMul, Int.reduceSub, Int.reduceNeg, Int.reduceLT, Int.reduceLE, Int.reduceEq, Nat.zero_add, Nat.add_zero, Nat.mul_one, eq_self, ne_eq, not_true, not_false_iff, and_true, true_and, and_self, List.getElem?_cons_zero, List.getElem?_cons_succ, List.map_cons, List.map_nil, dec_ne hpo', wrap64]
theorem wrong_call (hr : RdLL h0 sa C cs) (hc2 : Few2 cs) (hw : RdI h0 sw cw w) (hf : ∀ c ∈ cs, Fits w.length c) (hb : Bits2 w) (hl : w.length ≤ 1000) (hcs : cs.length ≤ 64) : ∃ (o : Nat) (h' : H), h0 <+: h' ∧ h0.length ≤ o ∧ h'.row o = some ⟨ints (cnts cs w), 3, 1, true⟩ ∧
    call T 110 [.int .i64 w.length, .slice sa cs.length C, .slice sw w.length cw] h0 = some (.tuple #[.slice (some ⟨o, 0, none⟩) w.length w.length, .int .i64 (cs.countP (oddC w) : Nat)], h') := by
  obtain ⟨G1, eG1⟩ : ∃ G1 : H, G1 = h0 ++ [.row ⟨ints (zerosL w.length), 3, 1, true⟩] := ⟨_, rfl⟩
  have r1 : G1.row h0.length = some ⟨ints (zerosL w.length), 3, 1, true⟩ := by rw [eG1]; exact row_push_new
  have p1 : h0 <+: G1 := by rw [eG1]; exact List.prefix_append _ _
  obtain ⟨G', k1, k2, k3⟩ := wrong_loop hr hc2 hw hf hb (o := h0.length) (Nat.le_refl _) cs.length 0 (zerosL w.length) 0 0 G1 (by omega) (by simp [zerosL]) (zeros_in _) (by omega) (Nat.le_refl _) p1 r1
  rw [List.drop_zero] at k2
  rw [List.drop_zero] at k3
  simp only [Int.natCast_zero, Nat.zero_add] at k3
  refine ⟨h0.length, G', k1, Nat.le_refl _, k2, ?_⟩
  have hr0 : rep [.int .i64 0] w.length = ints (zerosL w.length) := rep_int _ _
  rw [call_at T110 rfl]
  unfold F110 c110
  simp (disch := first | omega | (simp only [Go.Am.len_push, Go.Am.len_set, Go.Am.len_kill] <;> omega) | fail) only [push_cast, Nat.reduceBEq, Nat.reduceAdd, Nat.reduceMul, Nat.reduceSub, Nat.reduceLT, Nat.reduceGT, Nat.reduceLeDiff, Nat.reduceEqDiff, Int.reduceToNat, Int.reduceAdd, Int.reduceMul, Int.reduceSub, Int.reduceNeg, Int.reduceLT, Int.reduceLE, Int.reduceEq, Nat.zero_add, Nat.add_zero, Nat.mul_one, eq_self, ne_eq, not_true, not_false_iff, and_true, true_and, and_self, List.getElem?_cons_zero, List.getElem?_cons_succ, List.map_cons, List.map_nil, wrap64, dec_lt, dec_nlt, dec_le, dec_nle, dec_eq, dec_ne, if_pos, if_neg, Int.natCast_add, Int.natCast_one, Int.natCast_zero, Int.toNat_natCast, hr0, ← eG1]
  rw [k3]
  simp (disch := first | omega | (simp only [Go.Am.len_push, Go.Am.len_set, Go.Am.len_kill] <;> omega) | fail) only [push_cast, Nat.reduceBEq, Nat.reduceAdd, Nat.reduceMul, Nat.reduceSub, Nat.reduceLT, Nat.reduceGT, Nat.reduceLeDiff, Nat.reduceEqDiff, Int.reduceToNat, Int.reduceAdd, Int.reduceMul, Int.reduceSub, Int.reduceNeg, Int.reduceLT, Int.reduceLE, Int.reduceEq, Nat.zero_add, Nat.add_zero, Nat.mul_one, eq_self, ne_eq, not_true, not_false_iff, and_true, true_and, and_self, List.getElem?_cons_zero, List.getElem?_cons_succ, List.map_cons, List.map_nil]

/-! ### the most -/
def mxF (a b : Int) : Int := if a < b then b else a
theorem max_loop {h : H} {l : List Int} {c : Nat} (hr : RdI h sa c l) (hl : l.length ≤ 1000000) : ∀ (m i : Nat) (M : Int), i + m = l.length → ∀ ks,
    goL T [.tmp 2] [0, 3, 4] c111L0 (.blk 0 [3] :: ks) [(0, .slice sa l.length c), (3, .int .i64 M), (4, .int .i64 i)] h =
      go T [.tmp 2] ks (Fr.of [(3, .int .i64 ((l.drop i).foldl mxF M))]) h
  | 0, i, M, hi, ks => by
    rw [goL_at c111L0.eq_def, drop_end (by omega), List.foldl_nil]
    simp (disch := first | omega | (simp only [Go.Am.len_push, Go.Am.len_set, Go.Am.len_kill] <;> omega) | fail) only [push_cast, Nat.reduceBEq, Nat.reduceAdd, Nat.reduceMul, Nat.reduceSub, Nat.reduceLT, Nat.reduceGT, Nat.reduceLeDiff, Nat.reduceEqDiff, Int.reduceToNat, Int.reduceAdd, Int.reduceMul, Int.reduceSub, Int.reduceNeg, Int.reduceLT, Int.reduceLE, Int.reduceEq, Nat.zero_add, Nat.add_zero, Nat.mul_one, eq_self, ne_eq, not_true, not_false_iff, and_true, true_and, and_self, List.getElem?_cons_zero, List.getElem?_cons_succ, List.map_cons, List.map_nil, wrap64, dec_lt, dec_nlt, dec_le, dec_nle, dec_eq, dec_ne, if_pos, if_neg, Int.natCast_add, Int.natCast_one, Int.natCast_zero, Int.toNat_natCast]
  | m + 1, i, M, hi, ks => by
    have IH := max_loop hr hl m
    obtain ⟨o, off, rfl, _, l1⟩ := hr.at (i := i) (by omega)
    have ih := IH (i + 1) (mxF M (gi l i)) (by omega) ks
    rw [Int.natCast_add, Int.natCast_one] at ih
    rw [goL_at c111L0.eq_def, drop_gi (by omega), List.foldl_cons, ← ih]
    unfold mxF
    by_cases hlt : M < gi l i
    · rw [if_pos hlt]
      simp (disch := first | omega | (simp only [Go.Am.len_push, Go.Am.len_set, Go.Am.len_kill] <;> omega) | fail) only [push_cast, Nat.reduceBEq, Nat.reduceAdd, Nat.reduceMul, Nat.reduceSub, Nat.reduceLT, Nat.reduceGT, Nat.reduceLeDiff, Nat.reduceEqDiff, Int.reduceToNat, Int.reduceAdd, Int.reduceMul, Int.reduceSub, Int.reduceNeg, Int.reduceLT, Int.reduceLE, Int.reduceEq, Nat.zero_add, Nat.add_zero, Nat.mul_one, eq_self, ne_eq, not_true, not_false_iff, and_true, true_and, and_self, List.getElem?_cons_zero, List.getElem?_cons_succ, List.map_cons, List.map_nil, wrap64, dec_lt, dec_nlt, dec_le, dec_nle, dec_eq, dec_ne, if_pos, if_neg, Int.natCast_add, Int.natCast_one, Int.natCast_zero, Int.toNat_natCast, l1, List.foldl_cons, List.foldl_nil, hlt]
    · rw [if_neg hlt]
      simp (disch := first | omega | (simp only [Go.Am.len_push, Go.Am.len_set, Go.Am.len_kill] <;> omega) | fail) only [push_cast, Nat.reduceBEq, Nat.reduceAdd, Nat.reduceMul, Nat.reduceSub, Nat.reduceLT, Nat.reduceGT, Nat.reduceLeDiff, Nat.reduceEqDiff, Int.reduceToNat, Int.reduceAdd, Int.reduceMul, Int.reduceSub, Int.reduceNeg, Int.reduceLT, Int.reduceLE, Int.reduceEq, Nat.zero_add, Nat.add_zero, Nat.mul_one, eq_self, ne_eq, not_true, not_false_iff, and_true, true_and, and_self, List.getElem?_cons_zero, List.getElem?_cons_succ, List.map_cons, List.map_nil, wrap64, dec_lt, dec_nlt, dec_le, dec_nle, dec_eq, dec_ne, if_pos, if_neg, Int.natCast_add, Int.natCast_one, Int.natCast_zero, Int.toNat_natCast, l1, List.foldl_cons, List.foldl_nil, hlt]
theorem max_call {h : H} {l : List Int} {c : Nat} (hr : RdI h sa c l) (hl : l.length ≤ 1000000) (h0 : 0 < l.length) (hn : ∀ p : Nat, p < l.length → 0 ≤ gi l p) : call T 111 [.slice sa l.length c] h = some (.int .i64 (mxL l), h) := by
  have e := fun ks => max_loop hr hl (l.length - 1) 1 (gi l 0) (by omega) ks
  have hx := hn 0 h0
  simp only [Int.natCast_zero] at hx
  have he : (l.drop 1).foldl mxF (gi l 0) = mxL l := by
    have h1 := drop_gi (c := l) h0
    rw [List.drop_zero, Nat.zero_add] at h1
    simp only [Int.natCast_zero] at h1
    unfold mxL
    rw [h1, List.foldl_cons]
    have h2 : (if 0 < gi (gi l 0 :: l.drop 1) 0 then gi (gi l 0 :: l.drop 1) 0 else 0) = gi l 0 := by
      have h3 : gi (gi l 0 :: l.drop 1) 0 = gi l 0 := rfl
      rw [h3]; split <;> omega
    have h4 : (if 0 < gi l 0 then gi l 0 else 0) = gi l 0 := by split <;> omega
    rw [h4]
    rfl
  rw [he] at e
  simp only [Int.natCast_one] at e
  obtain ⟨o, off, rfl, _, l1⟩ := hr.at (i := 0) h0
  simp only [Nat.add_zero, Int.natCast_zero] at l1
  rw [call_at T111 rfl]
  unfold F111 c111
  simp (disch := first | omega | (simp only [Go.Am.len_push, Go.Am.len_set, Go.Am.len_kill] <;> omega) | fail) only [push_cast, Nat.reduceBEq, Nat.reduceAdd, Nat.reduceMul, Nat.reduceSub, Nat.reduceLT, Nat.reduceGT, Nat.reduceLeDiff, Nat.reduceEqDiff, Int.reduceToNat, Int.reduceAdd, Int.reduceMul, Int.reduceSub, Int.reduceNeg, Int.reduceLT, Int.reduceLE, Int.reduceEq, Nat.zero_add, Nat.add_zero, Nat.mul_one, eq_self, ne_eq, not_true, not_false_iff, and_true, true_and, and_self, List.getElem?_cons_zero, List.getElem?_cons_succ, List.map_cons, List.map_nil, wrap64, dec_lt, dec_nlt, dec_le, dec_nle, dec_eq, dec_ne, if_pos, if_neg, Int.natCast_add, Int.natCast_one, Int.natCast_zero, Int.toNat_natCast, l1]
  rw [e]
  simp (disch := first | omega | (simp only [Go.Am.len_push, Go.Am.len_set, Go.Am.len_kill] <;> omega) | fail) only [push_cast, Nat.reduceBEq, Nat.reduceAdd, Nat.reduceMul, Nat.reduceSub, Nat.reduceLT, Nat.reduceGT, Nat.reduceLeDiff, Nat.reduceEqDiff, Int.reduceToNat, Int.reduceAdd, Int.reduceMul, Int.reduceSub, Int.reduceNeg, Int.reduceLT, Int.reduceLE, Int.reduceEq, Nat.zero_add, Nat.add_zero, Nat.mul_one, eq_self, ne_eq, not_true, not_false_iff, and_true, true_and, and_self, List.getElem?_cons_zero, List.getElem?_cons_succ, List.map_cons, List.map_nil]
end
end Go.Proofs.Ytammndhoillliaa
