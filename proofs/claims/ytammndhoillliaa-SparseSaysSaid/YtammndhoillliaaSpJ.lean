/-
  SparseSays answers true, whatever checks, word, set and number of rounds. Conditions: the arguments as memory tells them.
-/
import Derived.Test.YtammndhoillliaaSpI
import Derived.Test.YtammndhoillliaaL2
namespace Go.Proofs.Ytammndhoillliaa
open Go.Am
set_option linter.unusedVariables false
set_option linter.unusedSimpArgs false
set_option maxRecDepth 30000

section
variable {h0 : H} {ss : Option Addr} {cset : Nat} {set : List Int}
theorem setl_no (h : H) (n : Int) (V1 : Value) (sa : Option Addr) (L c : Nat) (E i : Int) (hE : ¬ E = 0) (ks : List It) :
    goL T [.tmp 10] [0, 1, 3, 11, 25] c4L0 (.blk 0 [0, 1, 3, 11] :: ks) [(0, .int .i64 n), (1, V1), (3, .slice sa L c), (11, .int .i64 E), (25, .int .i64 i)] h =
      go T [.tmp 10] ks (Fr.of [(0, .int .i64 n), (1, V1), (3, .slice sa L c), (11, .int .i64 E)]) h := by
  rw [goL_at c4L0.eq_def]
  by_cases h0 : i < (L : Int)
  · simp (disch := first | omega | (simp only [Go.Am.len_push, Go.Am.len_set, Go.Am.len_kill] <;> omega) | fail) only [push_cast, Nat.reduceBEq, Nat.reduceAdd, Nat.reduceMul, Nat.reduceSub, Nat.reduceLT, Nat.reduceGT, Nat.reduceLeDiff, Nat.reduceEqDiff, Int.reduceToNat, Int.reduceAdd, Int.reduceMul, Int.reduceSub, Int.reduceNeg, Int.reduceLT, Int.reduceLE, Int.reduceEq, Nat.zero_add, Nat.add_zero, Nat.mul_one, eq_self, ne_eq, not_true, not_false_iff, and_true, true_and, and_self, List.getElem?_cons_zero, List.getElem?_cons_succ, List.map_cons, List.map_nil, dec_lt h0, dec_ne hE]
  · simp (disch := first | omega | (simp only [Go.Am.len_push, Go.Am.len_set, Go.Am.len_kill] <;> omega) | fail) only [push_cast, Nat.reduceBEq, Nat.reduceAdd, Nat.reduceMul, Nat.reduceSub, Nat.reduceLT, Nat.reduceGT, Nat.reduceLeDiff, Nat.reduceEqDiff, Int.reduceToNat, Int.reduceAdd, Int.reduceMul, Int.reduceSub, Int.reduceNeg, Int.reduceLT, Int.reduceLE, Int.reduceEq, Nat.zero_add, Nat.add_zero, Nat.mul_one, eq_self, ne_eq, not_true, not_false_iff, and_true, true_and, and_self, List.getElem?_cons_zero, List.getElem?_cons_succ, List.map_cons, List.map_nil, dec_nlt (Int.not_lt.1 h0)]
theorem setl {h : H} (hs : RdI h ss cset set) (hl : set.length ≤ 9223372036854775807) (n : Int) (V1 : Value) : ∀ (m i : Nat), i + m = set.length → ∀ ks,
    goL T [.tmp 10] [0, 1, 3, 11, 25] c4L0 (.blk 0 [0, 1, 3, 11] :: ks) [(0, .int .i64 n), (1, V1), (3, .slice ss set.length cset), (11, .int .i64 0), (25, .int .i64 i)] h =
      go T [.tmp 10] ks (Fr.of [(0, .int .i64 n), (1, V1), (3, .slice ss set.length cset), (11, .int .i64 (if anyF (outP n) set m i = true then 10 else 0))]) h
  | 0, i, hi, ks => by
    rw [goL_at c4L0.eq_def, anyF, if_neg (by decide)]
    simp (disch := first | omega | (simp only [Go.Am.len_push, Go.Am.len_set, Go.Am.len_kill] <;> omega) | fail) only [push_cast, Nat.reduceBEq, Nat.reduceAdd, Nat.reduceMul, Nat.reduceSub, Nat.reduceLT, Nat.reduceGT, Nat.reduceLeDiff, Nat.reduceEqDiff, Int.reduceToNat, Int.reduceAdd, Int.reduceMul, Int.reduceSub, Int.reduceNeg, Int.reduceLT, Int.reduceLE, Int.reduceEq, Nat.zero_add, Nat.add_zero, Nat.mul_one, eq_self, ne_eq, not_true, not_false_iff, and_true, true_and, and_self, List.getElem?_cons_zero, List.getElem?_cons_succ, List.map_cons, List.map_nil, wrap64, dec_lt, dec_nlt, dec_le, dec_nle, dec_eq, dec_ne, if_pos, if_neg, Int.natCast_add, Int.natCast_one, Int.natCast_zero, Int.toNat_natCast]
  | m + 1, i, hi, ks => by
    have ih := setl hs hl n V1 m (i + 1) (by omega) ks
    obtain ⟨o, off, rfl, _, l1⟩ := hs.at (i := i) (by omega)
    have no := setl_no h n V1 (some ⟨o, off, none⟩) set.length cset 10 ((i : Int) + 1) (by omega) ks
    rw [Int.natCast_add, Int.natCast_one] at ih
    rw [goL_at c4L0.eq_def, anyF]
    by_cases h1 : gi set i < 0
    · have ho : outP n (gi set i) = true := by unfold outP; rw [dec_lt h1, Bool.true_or]
      rw [ho, Bool.true_or, if_pos rfl, ← no]
      simp (disch := first | omega | (simp only [Go.Am.len_push, Go.Am.len_set, Go.Am.len_kill] <;> omega) | fail) only [push_cast, Nat.reduceBEq, Nat.reduceAdd, Nat.reduceMul, Nat.reduceSub, Nat.reduceLT, Nat.reduceGT, Nat.reduceLeDiff, Nat.reduceEqDiff, Int.reduceToNat, Int.reduceAdd, Int.reduceMul, Int.reduceSub, Int.reduceNeg, Int.reduceLT, Int.reduceLE, Int.reduceEq, Nat.zero_add, Nat.add_zero, Nat.mul_one, eq_self, ne_eq, not_true, not_false_iff, and_true, true_and, and_self, List.getElem?_cons_zero, List.getElem?_cons_succ, List.map_cons, List.map_nil, wrap64, dec_lt, dec_nlt, dec_le, dec_nle, dec_eq, dec_ne, if_pos, if_neg, Int.natCast_add, Int.natCast_one, Int.natCast_zero, Int.toNat_natCast, l1]
    · by_cases h2 : n ≤ gi set i
      · have ho : outP n (gi set i) = true := by unfold outP; rw [dec_le h2, Bool.or_true]
        rw [ho, Bool.true_or, if_pos rfl, ← no]
        simp (disch := first | omega | (simp only [Go.Am.len_push, Go.Am.len_set, Go.Am.len_kill] <;> omega) | fail) only [push_cast, Nat.reduceBEq, Nat.reduceAdd, Nat.reduceMul, Nat.reduceSub, Nat.reduceLT, Nat.reduceGT, Nat.reduceLeDiff, Nat.reduceEqDiff, Int.reduceToNat, Int.reduceAdd, Int.reduceMul, Int.reduceSub, Int.reduceNeg, Int.reduceLT, Int.reduceLE, Int.reduceEq, Nat.zero_add, Nat.add_zero, Nat.mul_one, eq_self, ne_eq, not_true, not_false_iff, and_true, true_and, and_self, List.getElem?_cons_zero, List.getElem?_cons_succ, List.map_cons, List.map_nil, wrap64, dec_lt, dec_nlt, dec_le, dec_nle, dec_eq, dec_ne, if_pos, if_neg, Int.natCast_add, Int.natCast_one, Int.natCast_zero, Int.toNat_natCast, l1]
      · have ho : outP n (gi set i) = false := by unfold outP; rw [dec_nlt (Int.not_lt.1 h1), dec_nle (Int.not_le.1 h2)]; rfl
        rw [ho, Bool.false_or, ← ih]
        simp (disch := first | omega | (simp only [Go.Am.len_push, Go.Am.len_set, Go.Am.len_kill] <;> omega) | fail) only [push_cast, Nat.reduceBEq, Nat.reduceAdd, Nat.reduceMul, Nat.reduceSub, Nat.reduceLT, Nat.reduceGT, Nat.reduceLeDiff, Nat.reduceEqDiff, Int.reduceToNat, Int.reduceAdd, Int.reduceMul, Int.reduceSub, Int.reduceNeg, Int.reduceLT, Int.reduceLE, Int.reduceEq, Nat.zero_add, Nat.add_zero, Nat.mul_one, eq_self, ne_eq, not_true, not_false_iff, and_true, true_and, and_self, List.getElem?_cons_zero, List.getElem?_cons_succ, List.map_cons, List.map_nil, wrap64, dec_lt, dec_nlt, dec_le, dec_nle, dec_eq, dec_ne, if_pos, if_neg, Int.natCast_add, Int.natCast_one, Int.natCast_zero, Int.toNat_natCast, l1]
end
theorem outs_eq : outs (-1) = outB true := rfl
theorem outs_eq0 : outs 0 = outB false := rfl
theorem outB_mono {w : List Int} (h : w.any (outB true) = true) : w.any (outB false) = true := by
  rw [List.any_eq_true] at h ⊢
  obtain ⟨x, h1, h2⟩ := h
  refine ⟨x, h1, ?_⟩
  unfold outB at *
  simp only [if_true, Bool.false_eq_true, if_false, Bool.or_eq_true, decide_eq_true_eq] at *
  omega
theorem peelF_len (cs : List (List Int)) : ∀ (k : Nat) (w : List Int), (peelN cs k w).length = w.length
  | 0, _ => rfl
  | k + 1, w => by
    rw [peelN]
    split
    · rw [peelF_len cs k, bwd_len]
    · rfl

section
variable {h : H} {sa sw ss : Option Addr} {C cw cset : Nat} {cs : List (List Int)} {w set : List Int} {n most : Int}

theorem spsays_a (hr : RdLL h sa C cs) (hl2 : Len2 cs) (hw : RdI h sw cw w) (hwl : w.length ≤ 9223372036854775807) (hs : RdI h ss cset set) (hsl : set.length ≤ 9223372036854775807) (hv : call T 22 [.slice sa cs.length C] h = some (.bool false, h)) (hW : IntKind.wrap .i64 ((w.length : Int) + (set.length : Int)) ≤ 200) (hk : ¬ chkE n cs = 0) :
    ∃ h' : H, call T 4 [.int .i64 n, .slice sa cs.length C, .slice sw w.length cw, .slice ss set.length cset, .int .i64 most] h = some (.bool true, h') := by
  have e0 := rchk_call (n := n) hr hl2
  have e0' := pchk_call (n := n) hr hl2
  have hpe : peelE n cs w = chkE n cs := by unfold peelE; rw [if_neg hk]
  have hfe : flipE n cs w most = chkE n cs := by unfold flipE; rw [if_neg hk]
  obtain ⟨a1, a2, d1, d2, h2, p2, y1, y2, e2⟩ := ppeel_call (hr.mono (List.prefix_refl _)) hl2 (hw.mono (List.prefix_refl _)) hwl n
  have hne : ¬ (chkE n cs : Int) = 0 := hk
  rw [hpe] at e2 y1 y2
  rw [if_neg hne] at y1 y2
  rw [if_neg hne, if_neg hne] at e2
  have e3 := listSame_call a1 none d1 0 [] (chkE n cs) h2 (by simp) y1 .nil (.inr rfl)
  have e4 := same_call a2 none d2 0 [] [] h2 (by simp) y2 .nil
  rw [decide_eq_true rfl] at e4
  simp only [List.length_nil] at e3 e4
  have pp2 : h <+: h2 := p2
  obtain ⟨f1, g1, h4, p4, z1, e6⟩ := pflip_call (hr.mono (pp2)) hl2 (hw.mono (pp2)) hwl n most
  have pp4 : h <+: h4 := pp2.trans p4
  have hne2 : ¬ (chkE n cs : Int) = 0 := hk
  rw [hfe] at e6 z1
  rw [if_neg hne2] at z1
  rw [if_neg hne2, if_neg hne2, if_neg hne2] at e6
  have e7 := listSame_call f1 none g1 0 [] (chkE n cs) h4 (by simp) z1 .nil (.inr rfl)
  simp only [List.length_nil] at e7
  obtain ⟨h5, p5, e8⟩ := pstops_call (hr.mono pp4) hl2 (hs.mono pp4) hsl n
  have est := fun ks => setl_no h4 n (.slice sa cs.length C) ss set.length cset (chkE n cs) 0 hk ks
  have hst : stE n cs set = chkE n cs := by unfold stE; rw [if_neg hk]
  rw [hst, dec_ne hk, Bool.false_and] at e8
  refine ⟨h5, ?_⟩
  rw [call_at T4 rfl]
  unfold F4 c4
  simp (disch := first | omega | (simp only [Go.Am.len_push, Go.Am.len_set, Go.Am.len_kill] <;> omega) | fail) only [push_cast, Nat.reduceBEq, Nat.reduceAdd, Nat.reduceMul, Nat.reduceSub, Nat.reduceLT, Nat.reduceGT, Nat.reduceLeDiff, Nat.reduceEqDiff, Int.reduceToNat, Int.reduceAdd, Int.reduceMul, Int.reduceSub, Int.reduceNeg, Int.reduceLT, Int.reduceLE, Int.reduceEq, Nat.zero_add, Nat.add_zero, Nat.mul_one, eq_self, ne_eq, not_true, not_false_iff, and_true, true_and, and_self, List.getElem?_cons_zero, List.getElem?_cons_succ, List.map_cons, List.map_nil, wrap64, dec_lt, dec_nlt, dec_le, dec_nle, dec_eq, dec_ne, if_pos, if_neg, Int.natCast_add, Int.natCast_one, Int.natCast_zero, Int.toNat_natCast, hv, e0, e0', dec_ne hk, e2, e3, e4, e6, e7, List.length_nil]
  rw [est]
  simp (disch := first | omega | (simp only [Go.Am.len_push, Go.Am.len_set, Go.Am.len_kill] <;> omega) | fail) only [push_cast, Nat.reduceBEq, Nat.reduceAdd, Nat.reduceMul, Nat.reduceSub, Nat.reduceLT, Nat.reduceGT, Nat.reduceLeDiff, Nat.reduceEqDiff, Int.reduceToNat, Int.reduceAdd, Int.reduceMul, Int.reduceSub, Int.reduceNeg, Int.reduceLT, Int.reduceLE, Int.reduceEq, Nat.zero_add, Nat.add_zero, Nat.mul_one, eq_self, ne_eq, not_true, not_false_iff, and_true, true_and, and_self, List.getElem?_cons_zero, List.getElem?_cons_succ, List.map_cons, List.map_nil, wrap64, dec_lt, dec_nlt, dec_le, dec_nle, dec_eq, dec_ne, if_pos, if_neg, Int.natCast_add, Int.natCast_one, Int.natCast_zero, Int.toNat_natCast, e8, dec_ne hk]

theorem spsays_b (hr : RdLL h sa C cs) (hl2 : Len2 cs) (hw : RdI h sw cw w) (hwl : w.length ≤ 9223372036854775807) (hs : RdI h ss cset set) (hsl : set.length ≤ 9223372036854775807) (hv : call T 22 [.slice sa cs.length C] h = some (.bool false, h)) (hW : IntKind.wrap .i64 ((w.length : Int) + (set.length : Int)) ≤ 200) (hk : chkE n cs = 0) (hn : ¬ (w.length : Int) = n) :
    ∃ h' : H, call T 4 [.int .i64 n, .slice sa cs.length C, .slice sw w.length cw, .slice ss set.length cset, .int .i64 most] h = some (.bool true, h') := by
  have e0 := rchk_call (n := n) hr hl2
  have e0' := pchk_call (n := n) hr hl2
  rw [hk] at e0 e0'
  obtain ⟨hc2, hcl⟩ := few_of hk
  obtain ⟨n1, n2, hch⟩ := chkE_ok hk
  have hpe : peelE n cs w = 6 := by unfold peelE wdE; rw [if_pos hk, if_neg hn]
  have hfe : flipE n cs w most = 6 := by unfold flipE wdE; rw [if_pos hk, if_neg hn, if_neg (by omega)]
  obtain ⟨a1, a2, d1, d2, h2, p2, y1, y2, e2⟩ := ppeel_call (hr.mono (List.prefix_refl _)) hl2 (hw.mono (List.prefix_refl _)) hwl n
  have hne : ¬ (6 : Int) = 0 := by omega
  rw [hpe] at e2 y1 y2
  rw [if_neg hne] at y1 y2
  rw [if_neg hne, if_neg hne] at e2
  have e3 := listSame_call a1 none d1 0 [] (6) h2 (by simp) y1 .nil (.inr rfl)
  have e4 := same_call a2 none d2 0 [] [] h2 (by simp) y2 .nil
  rw [decide_eq_true rfl] at e4
  simp only [List.length_nil] at e3 e4
  have pp2 : h <+: h2 := p2
  obtain ⟨f1, g1, h4, p4, z1, e6⟩ := pflip_call (hr.mono (pp2)) hl2 (hw.mono (pp2)) hwl n most
  have pp4 : h <+: h4 := pp2.trans p4
  have hne2 : ¬ (6 : Int) = 0 := by omega
  rw [hfe] at e6 z1
  rw [if_neg hne2] at z1
  rw [if_neg hne2, if_neg hne2, if_neg hne2] at e6
  have e7 := listSame_call f1 none g1 0 [] (6) h4 (by simp) z1 .nil (.inr rfl)
  simp only [List.length_nil] at e7
  obtain ⟨h5, p5, e8⟩ := pstops_call (hr.mono pp4) hl2 (hs.mono pp4) hsl n
  have est := fun ks => setl (hs.mono pp4) hsl n (.slice sa cs.length C) set.length 0 (by omega) ks
  have hst : stE n cs set = if anyF (outP n) set set.length 0 = true then 10 else 0 := by unfold stE; rw [if_pos hk, anyF_all]
  rw [← hst] at est
  simp only [Int.natCast_zero] at est
  refine ⟨h5, ?_⟩
  rw [call_at T4 rfl]
  unfold F4 c4
  simp (disch := first | omega | (simp only [Go.Am.len_push, Go.Am.len_set, Go.Am.len_kill] <;> omega) | fail) only [push_cast, Nat.reduceBEq, Nat.reduceAdd, Nat.reduceMul, Nat.reduceSub, Nat.reduceLT, Nat.reduceGT, Nat.reduceLeDiff, Nat.reduceEqDiff, Int.reduceToNat, Int.reduceAdd, Int.reduceMul, Int.reduceSub, Int.reduceNeg, Int.reduceLT, Int.reduceLE, Int.reduceEq, Nat.zero_add, Nat.add_zero, Nat.mul_one, eq_self, ne_eq, not_true, not_false_iff, and_true, true_and, and_self, List.getElem?_cons_zero, List.getElem?_cons_succ, List.map_cons, List.map_nil, wrap64, dec_lt, dec_nlt, dec_le, dec_nle, dec_eq, dec_ne, if_pos, if_neg, Int.natCast_add, Int.natCast_one, Int.natCast_zero, Int.toNat_natCast, hv, e0, e0', e2, e3, e4, e6, e7, List.length_nil]
  rw [est]
  have e9 := rstops_call (hr.mono (pp4.trans p5)) hc2 (hs.mono (pp4.trans p5)) hsl
  obtain ⟨S, hS⟩ : ∃ S, S = stE n cs set := ⟨_, rfl⟩
  rw [← hS] at e8 ⊢
  by_cases hst0 : S = 0
  · rw [dec_eq hst0, Bool.true_and] at e8
    rw [hst0] at e8 ⊢
    have ebq : (stopB cs set == stopB cs set) = true := by simp
    have ebn : (stopB cs set != stopB cs set) = false := by simp
    simp (disch := first | omega | (simp only [Go.Am.len_push, Go.Am.len_set, Go.Am.len_kill] <;> omega) | fail) only [push_cast, Nat.reduceBEq, Nat.reduceAdd, Nat.reduceMul, Nat.reduceSub, Nat.reduceLT, Nat.reduceGT, Nat.reduceLeDiff, Nat.reduceEqDiff, Int.reduceToNat, Int.reduceAdd, Int.reduceMul, Int.reduceSub, Int.reduceNeg, Int.reduceLT, Int.reduceLE, Int.reduceEq, Nat.zero_add, Nat.add_zero, Nat.mul_one, eq_self, ne_eq, not_true, not_false_iff, and_true, true_and, and_self, List.getElem?_cons_zero, List.getElem?_cons_succ, List.map_cons, List.map_nil, wrap64, dec_lt, dec_nlt, dec_le, dec_nle, dec_eq, dec_ne, if_pos, if_neg, Int.natCast_add, Int.natCast_one, Int.natCast_zero, Int.toNat_natCast, e8, e9, ebq, ebn]
  · rw [dec_ne hst0, Bool.false_and] at e8
    simp (disch := first | omega | (simp only [Go.Am.len_push, Go.Am.len_set, Go.Am.len_kill] <;> omega) | fail) only [push_cast, Nat.reduceBEq, Nat.reduceAdd, Nat.reduceMul, Nat.reduceSub, Nat.reduceLT, Nat.reduceGT, Nat.reduceLeDiff, Nat.reduceEqDiff, Int.reduceToNat, Int.reduceAdd, Int.reduceMul, Int.reduceSub, Int.reduceNeg, Int.reduceLT, Int.reduceLE, Int.reduceEq, Nat.zero_add, Nat.add_zero, Nat.mul_one, eq_self, ne_eq, not_true, not_false_iff, and_true, true_and, and_self, List.getElem?_cons_zero, List.getElem?_cons_succ, List.map_cons, List.map_nil, wrap64, dec_lt, dec_nlt, dec_le, dec_nle, dec_eq, dec_ne, if_pos, if_neg, Int.natCast_add, Int.natCast_one, Int.natCast_zero, Int.toNat_natCast, e8, dec_ne hst0]

theorem spsays_c (hr : RdLL h sa C cs) (hl2 : Len2 cs) (hw : RdI h sw cw w) (hwl : w.length ≤ 9223372036854775807) (hs : RdI h ss cset set) (hsl : set.length ≤ 9223372036854775807) (hv : call T 22 [.slice sa cs.length C] h = some (.bool false, h)) (hW : IntKind.wrap .i64 ((w.length : Int) + (set.length : Int)) ≤ 200) (hk : chkE n cs = 0) (hn : (w.length : Int) = n) (b3 : w.any (outB true) = true) :
    ∃ h' : H, call T 4 [.int .i64 n, .slice sa cs.length C, .slice sw w.length cw, .slice ss set.length cset, .int .i64 most] h = some (.bool true, h') := by
  have e0 := rchk_call (n := n) hr hl2
  have e0' := pchk_call (n := n) hr hl2
  rw [hk] at e0 e0'
  obtain ⟨hc2, hcl⟩ := few_of hk
  obtain ⟨n1, n2, hch⟩ := chkE_ok hk
  have hpe : peelE n cs w = 2 := by unfold peelE wdE; rw [if_pos hk, if_pos hn, outs_eq, if_pos b3]
  have b2 := outB_mono b3
  have hfe : flipE n cs w most = 2 := by unfold flipE wdE; rw [if_pos hk, if_pos hn, outs_eq0, if_pos b2, if_neg (by omega)]
  have eb3 := fun (G : H) (hp : h <+: G) => bits_call (hw.mono hp) hwl true
  rw [b3] at eb3
  have eb3' := eb3 h (List.prefix_refl _)
  obtain ⟨a1, a2, d1, d2, h2, p2, y1, y2, e2⟩ := ppeel_call (hr.mono (List.prefix_refl _)) hl2 (hw.mono (List.prefix_refl _)) hwl n
  have hne : ¬ (2 : Int) = 0 := by omega
  rw [hpe] at e2 y1 y2
  rw [if_neg hne] at y1 y2
  rw [if_neg hne, if_neg hne] at e2
  have e3 := listSame_call a1 none d1 0 [] (2) h2 (by simp) y1 .nil (.inr rfl)
  have e4 := same_call a2 none d2 0 [] [] h2 (by simp) y2 .nil
  rw [decide_eq_true rfl] at e4
  simp only [List.length_nil] at e3 e4
  have pp2 : h <+: h2 := p2
  have eb2 := bits_call (hw.mono pp2) hwl false
  rw [b2] at eb2
  obtain ⟨f1, g1, h4, p4, z1, e6⟩ := pflip_call (hr.mono (pp2)) hl2 (hw.mono (pp2)) hwl n most
  have pp4 : h <+: h4 := pp2.trans p4
  have hne2 : ¬ (2 : Int) = 0 := by omega
  rw [hfe] at e6 z1
  rw [if_neg hne2] at z1
  rw [if_neg hne2, if_neg hne2, if_neg hne2] at e6
  have e7 := listSame_call f1 none g1 0 [] (2) h4 (by simp) z1 .nil (.inr rfl)
  simp only [List.length_nil] at e7
  obtain ⟨h5, p5, e8⟩ := pstops_call (hr.mono pp4) hl2 (hs.mono pp4) hsl n
  have est := fun ks => setl (hs.mono pp4) hsl n (.slice sa cs.length C) set.length 0 (by omega) ks
  have hst : stE n cs set = if anyF (outP n) set set.length 0 = true then 10 else 0 := by unfold stE; rw [if_pos hk, anyF_all]
  rw [← hst] at est
  simp only [Int.natCast_zero] at est
  refine ⟨h5, ?_⟩
  rw [call_at T4 rfl]
  unfold F4 c4
  simp (disch := first | omega | (simp only [Go.Am.len_push, Go.Am.len_set, Go.Am.len_kill] <;> omega) | fail) only [push_cast, Nat.reduceBEq, Nat.reduceAdd, Nat.reduceMul, Nat.reduceSub, Nat.reduceLT, Nat.reduceGT, Nat.reduceLeDiff, Nat.reduceEqDiff, Int.reduceToNat, Int.reduceAdd, Int.reduceMul, Int.reduceSub, Int.reduceNeg, Int.reduceLT, Int.reduceLE, Int.reduceEq, Nat.zero_add, Nat.add_zero, Nat.mul_one, eq_self, ne_eq, not_true, not_false_iff, and_true, true_and, and_self, List.getElem?_cons_zero, List.getElem?_cons_succ, List.map_cons, List.map_nil, wrap64, dec_lt, dec_nlt, dec_le, dec_nle, dec_eq, dec_ne, if_pos, if_neg, Int.natCast_add, Int.natCast_one, Int.natCast_zero, Int.toNat_natCast, hv, e0, e0', eb3', e2, e3, e4, eb2, e6, e7, List.length_nil]
  rw [est]
  have e9 := rstops_call (hr.mono (pp4.trans p5)) hc2 (hs.mono (pp4.trans p5)) hsl
  obtain ⟨S, hS⟩ : ∃ S, S = stE n cs set := ⟨_, rfl⟩
  rw [← hS] at e8 ⊢
  by_cases hst0 : S = 0
  · rw [dec_eq hst0, Bool.true_and] at e8
    rw [hst0] at e8 ⊢
    have ebq : (stopB cs set == stopB cs set) = true := by simp
    have ebn : (stopB cs set != stopB cs set) = false := by simp
    simp (disch := first | omega | (simp only [Go.Am.len_push, Go.Am.len_set, Go.Am.len_kill] <;> omega) | fail) only [push_cast, Nat.reduceBEq, Nat.reduceAdd, Nat.reduceMul, Nat.reduceSub, Nat.reduceLT, Nat.reduceGT, Nat.reduceLeDiff, Nat.reduceEqDiff, Int.reduceToNat, Int.reduceAdd, Int.reduceMul, Int.reduceSub, Int.reduceNeg, Int.reduceLT, Int.reduceLE, Int.reduceEq, Nat.zero_add, Nat.add_zero, Nat.mul_one, eq_self, ne_eq, not_true, not_false_iff, and_true, true_and, and_self, List.getElem?_cons_zero, List.getElem?_cons_succ, List.map_cons, List.map_nil, wrap64, dec_lt, dec_nlt, dec_le, dec_nle, dec_eq, dec_ne, if_pos, if_neg, Int.natCast_add, Int.natCast_one, Int.natCast_zero, Int.toNat_natCast, e8, e9, ebq, ebn]
  · rw [dec_ne hst0, Bool.false_and] at e8
    simp (disch := first | omega | (simp only [Go.Am.len_push, Go.Am.len_set, Go.Am.len_kill] <;> omega) | fail) only [push_cast, Nat.reduceBEq, Nat.reduceAdd, Nat.reduceMul, Nat.reduceSub, Nat.reduceLT, Nat.reduceGT, Nat.reduceLeDiff, Nat.reduceEqDiff, Int.reduceToNat, Int.reduceAdd, Int.reduceMul, Int.reduceSub, Int.reduceNeg, Int.reduceLT, Int.reduceLE, Int.reduceEq, Nat.zero_add, Nat.add_zero, Nat.mul_one, eq_self, ne_eq, not_true, not_false_iff, and_true, true_and, and_self, List.getElem?_cons_zero, List.getElem?_cons_succ, List.map_cons, List.map_nil, wrap64, dec_lt, dec_nlt, dec_le, dec_nle, dec_eq, dec_ne, if_pos, if_neg, Int.natCast_add, Int.natCast_one, Int.natCast_zero, Int.toNat_natCast, e8, dec_ne hst0]

theorem spsays_d (hr : RdLL h sa C cs) (hl2 : Len2 cs) (hw : RdI h sw cw w) (hwl : w.length ≤ 9223372036854775807) (hs : RdI h ss cset set) (hsl : set.length ≤ 9223372036854775807) (hv : call T 22 [.slice sa cs.length C] h = some (.bool false, h)) (hW : IntKind.wrap .i64 ((w.length : Int) + (set.length : Int)) ≤ 200) (hk : chkE n cs = 0) (hn : (w.length : Int) = n) (b3 : w.any (outB true) = false) (b2 : w.any (outB false) = true) :
    ∃ h' : H, call T 4 [.int .i64 n, .slice sa cs.length C, .slice sw w.length cw, .slice ss set.length cset, .int .i64 most] h = some (.bool true, h') := by
  have e0 := rchk_call (n := n) hr hl2
  have e0' := pchk_call (n := n) hr hl2
  rw [hk] at e0 e0'
  obtain ⟨hc2, hcl⟩ := few_of hk
  obtain ⟨n1, n2, hch⟩ := chkE_ok hk
  have hpe : peelE n cs w = 0 := by unfold peelE wdE; rw [if_pos hk, if_pos hn, outs_eq, if_neg (by rw [b3]; decide)]
  have hfe : flipE n cs w most = 2 := by unfold flipE wdE; rw [if_pos hk, if_pos hn, outs_eq0, if_pos b2, if_neg (by omega)]
  have eb3 := fun (G : H) (hp : h <+: G) => bits_call (hw.mono hp) hwl true
  rw [b3] at eb3
  have eb3' := eb3 h (List.prefix_refl _)
  have hfit : ∀ c ∈ cs, Fits w.length c := by have := chL_ok (n := w.length) (by rw [hn]; exact hch); exact this
  have hb3 : Bits3 w := fun v hv => by have := List.any_eq_false.1 b3 v hv; unfold outB at this; simp only [if_true, Bool.or_eq_true, decide_eq_true_eq] at this; omega
  obtain ⟨s1, s2, c1, c2, h1, p1, x1, x2, e1⟩ := rpeeled_call hr hc2 hw (by omega) hfit hb3
  obtain ⟨a1, a2, d1, d2, h2, p2, y1, y2, e2⟩ := ppeel_call (hr.mono (p1)) hl2 (hw.mono (p1)) hwl n
  rw [hpe] at e2 y1 y2
  rw [if_pos rfl] at y1 y2
  rw [if_pos rfl, if_pos rfl] at e2
  have hFl : (peelF cs w).length = w.length := peelF_len _ _ _
  have hLl : (peelL cs w).length ≤ (peelF cs w).length := leftL_len _ _ _
  have e3 := listSame_call a1 s1 d1 c1 (peelF cs w) 0 h2 (by omega) y1 (x1.mono p2) (.inl rfl)
  have e4 := same_call a2 s2 d2 c2 (peelL cs w) (peelL cs w) h2 (by omega) y2 (x2.mono p2)
  rw [decide_eq_true rfl] at e4
  have pp2 : h <+: h2 := p1.trans p2
  have eb2 := bits_call (hw.mono pp2) hwl false
  rw [b2] at eb2
  obtain ⟨f1, g1, h4, p4, z1, e6⟩ := pflip_call (hr.mono (pp2)) hl2 (hw.mono (pp2)) hwl n most
  have pp4 : h <+: h4 := pp2.trans p4
  have hne2 : ¬ (2 : Int) = 0 := by omega
  rw [hfe] at e6 z1
  rw [if_neg hne2] at z1
  rw [if_neg hne2, if_neg hne2, if_neg hne2] at e6
  have e7 := listSame_call f1 none g1 0 [] (2) h4 (by simp) z1 .nil (.inr rfl)
  simp only [List.length_nil] at e7
  obtain ⟨h5, p5, e8⟩ := pstops_call (hr.mono pp4) hl2 (hs.mono pp4) hsl n
  have est := fun ks => setl (hs.mono pp4) hsl n (.slice sa cs.length C) set.length 0 (by omega) ks
  have hst : stE n cs set = if anyF (outP n) set set.length 0 = true then 10 else 0 := by unfold stE; rw [if_pos hk, anyF_all]
  rw [← hst] at est
  simp only [Int.natCast_zero] at est
  refine ⟨h5, ?_⟩
  rw [call_at T4 rfl]
  unfold F4 c4
  simp (disch := first | omega | (simp only [Go.Am.len_push, Go.Am.len_set, Go.Am.len_kill] <;> omega) | fail) only [push_cast, Nat.reduceBEq, Nat.reduceAdd, Nat.reduceMul, Nat.reduceSub, Nat.reduceLT, Nat.reduceGT, Nat.reduceLeDiff, Nat.reduceEqDiff, Int.reduceToNat, Int.reduceAdd, Int.reduceMul, Int.reduceSub, Int.reduceNeg, Int.reduceLT, Int.reduceLE, Int.reduceEq, Nat.zero_add, Nat.add_zero, Nat.mul_one, eq_self, ne_eq, not_true, not_false_iff, and_true, true_and, and_self, List.getElem?_cons_zero, List.getElem?_cons_succ, List.map_cons, List.map_nil, wrap64, dec_lt, dec_nlt, dec_le, dec_nle, dec_eq, dec_ne, if_pos, if_neg, Int.natCast_add, Int.natCast_one, Int.natCast_zero, Int.toNat_natCast, hv, e0, e0', eb3', e1, e2, e3, e4, eb2, e6, e7, List.length_nil]
  rw [est]
  have e9 := rstops_call (hr.mono (pp4.trans p5)) hc2 (hs.mono (pp4.trans p5)) hsl
  obtain ⟨S, hS⟩ : ∃ S, S = stE n cs set := ⟨_, rfl⟩
  rw [← hS] at e8 ⊢
  by_cases hst0 : S = 0
  · rw [dec_eq hst0, Bool.true_and] at e8
    rw [hst0] at e8 ⊢
    have ebq : (stopB cs set == stopB cs set) = true := by simp
    have ebn : (stopB cs set != stopB cs set) = false := by simp
    simp (disch := first | omega | (simp only [Go.Am.len_push, Go.Am.len_set, Go.Am.len_kill] <;> omega) | fail) only [push_cast, Nat.reduceBEq, Nat.reduceAdd, Nat.reduceMul, Nat.reduceSub, Nat.reduceLT, Nat.reduceGT, Nat.reduceLeDiff, Nat.reduceEqDiff, Int.reduceToNat, Int.reduceAdd, Int.reduceMul, Int.reduceSub, Int.reduceNeg, Int.reduceLT, Int.reduceLE, Int.reduceEq, Nat.zero_add, Nat.add_zero, Nat.mul_one, eq_self, ne_eq, not_true, not_false_iff, and_true, true_and, and_self, List.getElem?_cons_zero, List.getElem?_cons_succ, List.map_cons, List.map_nil, wrap64, dec_lt, dec_nlt, dec_le, dec_nle, dec_eq, dec_ne, if_pos, if_neg, Int.natCast_add, Int.natCast_one, Int.natCast_zero, Int.toNat_natCast, e8, e9, ebq, ebn]
  · rw [dec_ne hst0, Bool.false_and] at e8
    simp (disch := first | omega | (simp only [Go.Am.len_push, Go.Am.len_set, Go.Am.len_kill] <;> omega) | fail) only [push_cast, Nat.reduceBEq, Nat.reduceAdd, Nat.reduceMul, Nat.reduceSub, Nat.reduceLT, Nat.reduceGT, Nat.reduceLeDiff, Nat.reduceEqDiff, Int.reduceToNat, Int.reduceAdd, Int.reduceMul, Int.reduceSub, Int.reduceNeg, Int.reduceLT, Int.reduceLE, Int.reduceEq, Nat.zero_add, Nat.add_zero, Nat.mul_one, eq_self, ne_eq, not_true, not_false_iff, and_true, true_and, and_self, List.getElem?_cons_zero, List.getElem?_cons_succ, List.map_cons, List.map_nil, wrap64, dec_lt, dec_nlt, dec_le, dec_nle, dec_eq, dec_ne, if_pos, if_neg, Int.natCast_add, Int.natCast_one, Int.natCast_zero, Int.toNat_natCast, e8, dec_ne hst0]

theorem spsays_e (hr : RdLL h sa C cs) (hl2 : Len2 cs) (hw : RdI h sw cw w) (hwl : w.length ≤ 9223372036854775807) (hs : RdI h ss cset set) (hsl : set.length ≤ 9223372036854775807) (hv : call T 22 [.slice sa cs.length C] h = some (.bool false, h)) (hW : IntKind.wrap .i64 ((w.length : Int) + (set.length : Int)) ≤ 200) (hk : chkE n cs = 0) (hn : (w.length : Int) = n) (b3 : w.any (outB true) = false) (b2 : w.any (outB false) = false) (hm : most < 0) :
    ∃ h' : H, call T 4 [.int .i64 n, .slice sa cs.length C, .slice sw w.length cw, .slice ss set.length cset, .int .i64 most] h = some (.bool true, h') := by
  have e0 := rchk_call (n := n) hr hl2
  have e0' := pchk_call (n := n) hr hl2
  rw [hk] at e0 e0'
  obtain ⟨hc2, hcl⟩ := few_of hk
  obtain ⟨n1, n2, hch⟩ := chkE_ok hk
  have hpe : peelE n cs w = 0 := by unfold peelE wdE; rw [if_pos hk, if_pos hn, outs_eq, if_neg (by rw [b3]; decide)]
  have hfe : flipE n cs w most = 6 := by unfold flipE wdE; rw [if_pos hk, if_pos hn, outs_eq0, if_neg (show ¬ w.any (outB false) = true by rw [b2]; decide), if_pos rfl, if_pos (by omega)]
  have eb3 := fun (G : H) (hp : h <+: G) => bits_call (hw.mono hp) hwl true
  rw [b3] at eb3
  have eb3' := eb3 h (List.prefix_refl _)
  have hfit : ∀ c ∈ cs, Fits w.length c := by have := chL_ok (n := w.length) (by rw [hn]; exact hch); exact this
  have hb3 : Bits3 w := fun v hv => by have := List.any_eq_false.1 b3 v hv; unfold outB at this; simp only [if_true, Bool.or_eq_true, decide_eq_true_eq] at this; omega
  obtain ⟨s1, s2, c1, c2, h1, p1, x1, x2, e1⟩ := rpeeled_call hr hc2 hw (by omega) hfit hb3
  obtain ⟨a1, a2, d1, d2, h2, p2, y1, y2, e2⟩ := ppeel_call (hr.mono (p1)) hl2 (hw.mono (p1)) hwl n
  rw [hpe] at e2 y1 y2
  rw [if_pos rfl] at y1 y2
  rw [if_pos rfl, if_pos rfl] at e2
  have hFl : (peelF cs w).length = w.length := peelF_len _ _ _
  have hLl : (peelL cs w).length ≤ (peelF cs w).length := leftL_len _ _ _
  have e3 := listSame_call a1 s1 d1 c1 (peelF cs w) 0 h2 (by omega) y1 (x1.mono p2) (.inl rfl)
  have e4 := same_call a2 s2 d2 c2 (peelL cs w) (peelL cs w) h2 (by omega) y2 (x2.mono p2)
  rw [decide_eq_true rfl] at e4
  have pp2 : h <+: h2 := p1.trans p2
  have eb2 := bits_call (hw.mono pp2) hwl false
  rw [b2] at eb2
  obtain ⟨f1, g1, h4, p4, z1, e6⟩ := pflip_call (hr.mono (pp2)) hl2 (hw.mono (pp2)) hwl n most
  have pp4 : h <+: h4 := pp2.trans p4
  have hne2 : ¬ (6 : Int) = 0 := by omega
  rw [hfe] at e6 z1
  rw [if_neg hne2] at z1
  rw [if_neg hne2, if_neg hne2, if_neg hne2] at e6
  have e7 := listSame_call f1 none g1 0 [] (6) h4 (by simp) z1 .nil (.inr rfl)
  simp only [List.length_nil] at e7
  obtain ⟨h5, p5, e8⟩ := pstops_call (hr.mono pp4) hl2 (hs.mono pp4) hsl n
  have est := fun ks => setl (hs.mono pp4) hsl n (.slice sa cs.length C) set.length 0 (by omega) ks
  have hst : stE n cs set = if anyF (outP n) set set.length 0 = true then 10 else 0 := by unfold stE; rw [if_pos hk, anyF_all]
  rw [← hst] at est
  simp only [Int.natCast_zero] at est
  refine ⟨h5, ?_⟩
  rw [call_at T4 rfl]
  unfold F4 c4
  simp (disch := first | omega | (simp only [Go.Am.len_push, Go.Am.len_set, Go.Am.len_kill] <;> omega) | fail) only [push_cast, Nat.reduceBEq, Nat.reduceAdd, Nat.reduceMul, Nat.reduceSub, Nat.reduceLT, Nat.reduceGT, Nat.reduceLeDiff, Nat.reduceEqDiff, Int.reduceToNat, Int.reduceAdd, Int.reduceMul, Int.reduceSub, Int.reduceNeg, Int.reduceLT, Int.reduceLE, Int.reduceEq, Nat.zero_add, Nat.add_zero, Nat.mul_one, eq_self, ne_eq, not_true, not_false_iff, and_true, true_and, and_self, List.getElem?_cons_zero, List.getElem?_cons_succ, List.map_cons, List.map_nil, wrap64, dec_lt, dec_nlt, dec_le, dec_nle, dec_eq, dec_ne, if_pos, if_neg, Int.natCast_add, Int.natCast_one, Int.natCast_zero, Int.toNat_natCast, hv, e0, e0', eb3', e1, e2, e3, e4, eb2, e6, e7, List.length_nil]
  rw [est]
  have e9 := rstops_call (hr.mono (pp4.trans p5)) hc2 (hs.mono (pp4.trans p5)) hsl
  obtain ⟨S, hS⟩ : ∃ S, S = stE n cs set := ⟨_, rfl⟩
  rw [← hS] at e8 ⊢
  by_cases hst0 : S = 0
  · rw [dec_eq hst0, Bool.true_and] at e8
    rw [hst0] at e8 ⊢
    have ebq : (stopB cs set == stopB cs set) = true := by simp
    have ebn : (stopB cs set != stopB cs set) = false := by simp
    simp (disch := first | omega | (simp only [Go.Am.len_push, Go.Am.len_set, Go.Am.len_kill] <;> omega) | fail) only [push_cast, Nat.reduceBEq, Nat.reduceAdd, Nat.reduceMul, Nat.reduceSub, Nat.reduceLT, Nat.reduceGT, Nat.reduceLeDiff, Nat.reduceEqDiff, Int.reduceToNat, Int.reduceAdd, Int.reduceMul, Int.reduceSub, Int.reduceNeg, Int.reduceLT, Int.reduceLE, Int.reduceEq, Nat.zero_add, Nat.add_zero, Nat.mul_one, eq_self, ne_eq, not_true, not_false_iff, and_true, true_and, and_self, List.getElem?_cons_zero, List.getElem?_cons_succ, List.map_cons, List.map_nil, wrap64, dec_lt, dec_nlt, dec_le, dec_nle, dec_eq, dec_ne, if_pos, if_neg, Int.natCast_add, Int.natCast_one, Int.natCast_zero, Int.toNat_natCast, e8, e9, ebq, ebn]
  · rw [dec_ne hst0, Bool.false_and] at e8
    simp (disch := first | omega | (simp only [Go.Am.len_push, Go.Am.len_set, Go.Am.len_kill] <;> omega) | fail) only [push_cast, Nat.reduceBEq, Nat.reduceAdd, Nat.reduceMul, Nat.reduceSub, Nat.reduceLT, Nat.reduceGT, Nat.reduceLeDiff, Nat.reduceEqDiff, Int.reduceToNat, Int.reduceAdd, Int.reduceMul, Int.reduceSub, Int.reduceNeg, Int.reduceLT, Int.reduceLE, Int.reduceEq, Nat.zero_add, Nat.add_zero, Nat.mul_one, eq_self, ne_eq, not_true, not_false_iff, and_true, true_and, and_self, List.getElem?_cons_zero, List.getElem?_cons_succ, List.map_cons, List.map_nil, wrap64, dec_lt, dec_nlt, dec_le, dec_nle, dec_eq, dec_ne, if_pos, if_neg, Int.natCast_add, Int.natCast_one, Int.natCast_zero, Int.toNat_natCast, e8, dec_ne hst0]

theorem spsays_f (hr : RdLL h sa C cs) (hl2 : Len2 cs) (hw : RdI h sw cw w) (hwl : w.length ≤ 9223372036854775807) (hs : RdI h ss cset set) (hsl : set.length ≤ 9223372036854775807) (hv : call T 22 [.slice sa cs.length C] h = some (.bool false, h)) (hW : IntKind.wrap .i64 ((w.length : Int) + (set.length : Int)) ≤ 200) (hk : chkE n cs = 0) (hn : (w.length : Int) = n) (b3 : w.any (outB true) = false) (b2 : w.any (outB false) = false) (hm : 0 ≤ most) (hm2 : 100 < most) :
    ∃ h' : H, call T 4 [.int .i64 n, .slice sa cs.length C, .slice sw w.length cw, .slice ss set.length cset, .int .i64 most] h = some (.bool true, h') := by
  have e0 := rchk_call (n := n) hr hl2
  have e0' := pchk_call (n := n) hr hl2
  rw [hk] at e0 e0'
  obtain ⟨hc2, hcl⟩ := few_of hk
  obtain ⟨n1, n2, hch⟩ := chkE_ok hk
  have hpe : peelE n cs w = 0 := by unfold peelE wdE; rw [if_pos hk, if_pos hn, outs_eq, if_neg (by rw [b3]; decide)]
  have hfe : flipE n cs w most = 6 := by unfold flipE wdE; rw [if_pos hk, if_pos hn, outs_eq0, if_neg (show ¬ w.any (outB false) = true by rw [b2]; decide), if_pos rfl, if_pos (by omega)]
  have eb3 := fun (G : H) (hp : h <+: G) => bits_call (hw.mono hp) hwl true
  rw [b3] at eb3
  have eb3' := eb3 h (List.prefix_refl _)
  have hfit : ∀ c ∈ cs, Fits w.length c := by have := chL_ok (n := w.length) (by rw [hn]; exact hch); exact this
  have hb3 : Bits3 w := fun v hv => by have := List.any_eq_false.1 b3 v hv; unfold outB at this; simp only [if_true, Bool.or_eq_true, decide_eq_true_eq] at this; omega
  obtain ⟨s1, s2, c1, c2, h1, p1, x1, x2, e1⟩ := rpeeled_call hr hc2 hw (by omega) hfit hb3
  obtain ⟨a1, a2, d1, d2, h2, p2, y1, y2, e2⟩ := ppeel_call (hr.mono (p1)) hl2 (hw.mono (p1)) hwl n
  rw [hpe] at e2 y1 y2
  rw [if_pos rfl] at y1 y2
  rw [if_pos rfl, if_pos rfl] at e2
  have hFl : (peelF cs w).length = w.length := peelF_len _ _ _
  have hLl : (peelL cs w).length ≤ (peelF cs w).length := leftL_len _ _ _
  have e3 := listSame_call a1 s1 d1 c1 (peelF cs w) 0 h2 (by omega) y1 (x1.mono p2) (.inl rfl)
  have e4 := same_call a2 s2 d2 c2 (peelL cs w) (peelL cs w) h2 (by omega) y2 (x2.mono p2)
  rw [decide_eq_true rfl] at e4
  have pp2 : h <+: h2 := p1.trans p2
  have eb2 := bits_call (hw.mono pp2) hwl false
  rw [b2] at eb2
  obtain ⟨f1, g1, h4, p4, z1, e6⟩ := pflip_call (hr.mono (pp2)) hl2 (hw.mono (pp2)) hwl n most
  have pp4 : h <+: h4 := pp2.trans p4
  have hne2 : ¬ (6 : Int) = 0 := by omega
  rw [hfe] at e6 z1
  rw [if_neg hne2] at z1
  rw [if_neg hne2, if_neg hne2, if_neg hne2] at e6
  have e7 := listSame_call f1 none g1 0 [] (6) h4 (by simp) z1 .nil (.inr rfl)
  simp only [List.length_nil] at e7
  obtain ⟨h5, p5, e8⟩ := pstops_call (hr.mono pp4) hl2 (hs.mono pp4) hsl n
  have est := fun ks => setl (hs.mono pp4) hsl n (.slice sa cs.length C) set.length 0 (by omega) ks
  have hst : stE n cs set = if anyF (outP n) set set.length 0 = true then 10 else 0 := by unfold stE; rw [if_pos hk, anyF_all]
  rw [← hst] at est
  simp only [Int.natCast_zero] at est
  refine ⟨h5, ?_⟩
  rw [call_at T4 rfl]
  unfold F4 c4
  simp (disch := first | omega | (simp only [Go.Am.len_push, Go.Am.len_set, Go.Am.len_kill] <;> omega) | fail) only [push_cast, Nat.reduceBEq, Nat.reduceAdd, Nat.reduceMul, Nat.reduceSub, Nat.reduceLT, Nat.reduceGT, Nat.reduceLeDiff, Nat.reduceEqDiff, Int.reduceToNat, Int.reduceAdd, Int.reduceMul, Int.reduceSub, Int.reduceNeg, Int.reduceLT, Int.reduceLE, Int.reduceEq, Nat.zero_add, Nat.add_zero, Nat.mul_one, eq_self, ne_eq, not_true, not_false_iff, and_true, true_and, and_self, List.getElem?_cons_zero, List.getElem?_cons_succ, List.map_cons, List.map_nil, wrap64, dec_lt, dec_nlt, dec_le, dec_nle, dec_eq, dec_ne, if_pos, if_neg, Int.natCast_add, Int.natCast_one, Int.natCast_zero, Int.toNat_natCast, hv, e0, e0', eb3', e1, e2, e3, e4, eb2, e6, e7, List.length_nil]
  rw [est]
  have e9 := rstops_call (hr.mono (pp4.trans p5)) hc2 (hs.mono (pp4.trans p5)) hsl
  obtain ⟨S, hS⟩ : ∃ S, S = stE n cs set := ⟨_, rfl⟩
  rw [← hS] at e8 ⊢
  by_cases hst0 : S = 0
  · rw [dec_eq hst0, Bool.true_and] at e8
    rw [hst0] at e8 ⊢
    have ebq : (stopB cs set == stopB cs set) = true := by simp
    have ebn : (stopB cs set != stopB cs set) = false := by simp
    simp (disch := first | omega | (simp only [Go.Am.len_push, Go.Am.len_set, Go.Am.len_kill] <;> omega) | fail) only [push_cast, Nat.reduceBEq, Nat.reduceAdd, Nat.reduceMul, Nat.reduceSub, Nat.reduceLT, Nat.reduceGT, Nat.reduceLeDiff, Nat.reduceEqDiff, Int.reduceToNat, Int.reduceAdd, Int.reduceMul, Int.reduceSub, Int.reduceNeg, Int.reduceLT, Int.reduceLE, Int.reduceEq, Nat.zero_add, Nat.add_zero, Nat.mul_one, eq_self, ne_eq, not_true, not_false_iff, and_true, true_and, and_self, List.getElem?_cons_zero, List.getElem?_cons_succ, List.map_cons, List.map_nil, wrap64, dec_lt, dec_nlt, dec_le, dec_nle, dec_eq, dec_ne, if_pos, if_neg, Int.natCast_add, Int.natCast_one, Int.natCast_zero, Int.toNat_natCast, e8, e9, ebq, ebn]
  · rw [dec_ne hst0, Bool.false_and] at e8
    simp (disch := first | omega | (simp only [Go.Am.len_push, Go.Am.len_set, Go.Am.len_kill] <;> omega) | fail) only [push_cast, Nat.reduceBEq, Nat.reduceAdd, Nat.reduceMul, Nat.reduceSub, Nat.reduceLT, Nat.reduceGT, Nat.reduceLeDiff, Nat.reduceEqDiff, Int.reduceToNat, Int.reduceAdd, Int.reduceMul, Int.reduceSub, Int.reduceNeg, Int.reduceLT, Int.reduceLE, Int.reduceEq, Nat.zero_add, Nat.add_zero, Nat.mul_one, eq_self, ne_eq, not_true, not_false_iff, and_true, true_and, and_self, List.getElem?_cons_zero, List.getElem?_cons_succ, List.map_cons, List.map_nil, wrap64, dec_lt, dec_nlt, dec_le, dec_nle, dec_eq, dec_ne, if_pos, if_neg, Int.natCast_add, Int.natCast_one, Int.natCast_zero, Int.toNat_natCast, e8, dec_ne hst0]

theorem spsays_g (hr : RdLL h sa C cs) (hl2 : Len2 cs) (hw : RdI h sw cw w) (hwl : w.length ≤ 9223372036854775807) (hs : RdI h ss cset set) (hsl : set.length ≤ 9223372036854775807) (hv : call T 22 [.slice sa cs.length C] h = some (.bool false, h)) (hW : IntKind.wrap .i64 ((w.length : Int) + (set.length : Int)) ≤ 200) (hk : chkE n cs = 0) (hn : (w.length : Int) = n) (b3 : w.any (outB true) = false) (b2 : w.any (outB false) = false) (hm : 0 ≤ most) (hm2 : most ≤ 100) :
    ∃ h' : H, call T 4 [.int .i64 n, .slice sa cs.length C, .slice sw w.length cw, .slice ss set.length cset, .int .i64 most] h = some (.bool true, h') := by
  have e0 := rchk_call (n := n) hr hl2
  have e0' := pchk_call (n := n) hr hl2
  rw [hk] at e0 e0'
  obtain ⟨hc2, hcl⟩ := few_of hk
  obtain ⟨n1, n2, hch⟩ := chkE_ok hk
  have hpe : peelE n cs w = 0 := by unfold peelE wdE; rw [if_pos hk, if_pos hn, outs_eq, if_neg (by rw [b3]; decide)]
  have hfe : flipE n cs w most = 0 := by unfold flipE wdE; rw [if_pos hk, if_pos hn, outs_eq0, if_neg (show ¬ w.any (outB false) = true by rw [b2]; decide), if_pos rfl, if_neg (by omega)]
  have eb3 := fun (G : H) (hp : h <+: G) => bits_call (hw.mono hp) hwl true
  rw [b3] at eb3
  have eb3' := eb3 h (List.prefix_refl _)
  have hfit : ∀ c ∈ cs, Fits w.length c := by have := chL_ok (n := w.length) (by rw [hn]; exact hch); exact this
  have hb3 : Bits3 w := fun v hv => by have := List.any_eq_false.1 b3 v hv; unfold outB at this; simp only [if_true, Bool.or_eq_true, decide_eq_true_eq] at this; omega
  obtain ⟨s1, s2, c1, c2, h1, p1, x1, x2, e1⟩ := rpeeled_call hr hc2 hw (by omega) hfit hb3
  obtain ⟨a1, a2, d1, d2, h2, p2, y1, y2, e2⟩ := ppeel_call (hr.mono (p1)) hl2 (hw.mono (p1)) hwl n
  rw [hpe] at e2 y1 y2
  rw [if_pos rfl] at y1 y2
  rw [if_pos rfl, if_pos rfl] at e2
  have hFl : (peelF cs w).length = w.length := peelF_len _ _ _
  have hLl : (peelL cs w).length ≤ (peelF cs w).length := leftL_len _ _ _
  have e3 := listSame_call a1 s1 d1 c1 (peelF cs w) 0 h2 (by omega) y1 (x1.mono p2) (.inl rfl)
  have e4 := same_call a2 s2 d2 c2 (peelL cs w) (peelL cs w) h2 (by omega) y2 (x2.mono p2)
  rw [decide_eq_true rfl] at e4
  have pp2 : h <+: h2 := p1.trans p2
  have eb2 := bits_call (hw.mono pp2) hwl false
  rw [b2] at eb2
  obtain ⟨M, rfl⟩ : ∃ M : Nat, most = M := ⟨most.toNat, by omega⟩
  have hb2 : Bits2 w := fun v hv => by have := List.any_eq_false.1 b2 v hv; unfold outB at this; simp only [Bool.false_eq_true, if_false, Bool.or_eq_true, decide_eq_true_eq] at this; omega
  obtain ⟨s3, c3, h3, p3, x3, e5⟩ := rflip_call (hr.mono pp2) hc2 (hw.mono pp2) (by omega) (by omega) hcl hfit hb2 M (by omega)
  have pp3 : h <+: h3 := pp2.trans p3
  obtain ⟨f1, g1, h4, p4, z1, e6⟩ := pflip_call (hr.mono (pp3)) hl2 (hw.mono (pp3)) hwl n M
  have pp4 : h <+: h4 := pp3.trans p4
  rw [hfe] at e6 z1
  rw [if_pos rfl] at z1
  rw [if_pos rfl, if_pos rfl, if_pos rfl] at e6
  have hRl : (flipR cs w M).1.length = w.length := flip_len _ _ _ _
  have e7 := listSame_call f1 s3 g1 c3 (flipR cs w M).1 0 h4 (by omega) z1 (x3.mono p4) (.inl rfl)
  have ebb : ((flipR cs w M).2.1 == (flipR cs w M).2.1) = true := by simp
  obtain ⟨h5, p5, e8⟩ := pstops_call (hr.mono pp4) hl2 (hs.mono pp4) hsl n
  have est := fun ks => setl (hs.mono pp4) hsl n (.slice sa cs.length C) set.length 0 (by omega) ks
  have hst : stE n cs set = if anyF (outP n) set set.length 0 = true then 10 else 0 := by unfold stE; rw [if_pos hk, anyF_all]
  rw [← hst] at est
  simp only [Int.natCast_zero] at est
  refine ⟨h5, ?_⟩
  rw [call_at T4 rfl]
  unfold F4 c4
  simp (disch := first | omega | (simp only [Go.Am.len_push, Go.Am.len_set, Go.Am.len_kill] <;> omega) | fail) only [push_cast, Nat.reduceBEq, Nat.reduceAdd, Nat.reduceMul, Nat.reduceSub, Nat.reduceLT, Nat.reduceGT, Nat.reduceLeDiff, Nat.reduceEqDiff, Int.reduceToNat, Int.reduceAdd, Int.reduceMul, Int.reduceSub, Int.reduceNeg, Int.reduceLT, Int.reduceLE, Int.reduceEq, Nat.zero_add, Nat.add_zero, Nat.mul_one, eq_self, ne_eq, not_true, not_false_iff, and_true, true_and, and_self, List.getElem?_cons_zero, List.getElem?_cons_succ, List.map_cons, List.map_nil, wrap64, dec_lt, dec_nlt, dec_le, dec_nle, dec_eq, dec_ne, if_pos, if_neg, Int.natCast_add, Int.natCast_one, Int.natCast_zero, Int.toNat_natCast, hv, e0, e0', eb3', e1, e2, e3, e4, eb2, e5, e6, ebb, e7, List.length_nil]
  rw [est]
  have e9 := rstops_call (hr.mono (pp4.trans p5)) hc2 (hs.mono (pp4.trans p5)) hsl
  obtain ⟨S, hS⟩ : ∃ S, S = stE n cs set := ⟨_, rfl⟩
  rw [← hS] at e8 ⊢
  by_cases hst0 : S = 0
  · rw [dec_eq hst0, Bool.true_and] at e8
    rw [hst0] at e8 ⊢
    have ebq : (stopB cs set == stopB cs set) = true := by simp
    have ebn : (stopB cs set != stopB cs set) = false := by simp
    simp (disch := first | omega | (simp only [Go.Am.len_push, Go.Am.len_set, Go.Am.len_kill] <;> omega) | fail) only [push_cast, Nat.reduceBEq, Nat.reduceAdd, Nat.reduceMul, Nat.reduceSub, Nat.reduceLT, Nat.reduceGT, Nat.reduceLeDiff, Nat.reduceEqDiff, Int.reduceToNat, Int.reduceAdd, Int.reduceMul, Int.reduceSub, Int.reduceNeg, Int.reduceLT, Int.reduceLE, Int.reduceEq, Nat.zero_add, Nat.add_zero, Nat.mul_one, eq_self, ne_eq, not_true, not_false_iff, and_true, true_and, and_self, List.getElem?_cons_zero, List.getElem?_cons_succ, List.map_cons, List.map_nil, wrap64, dec_lt, dec_nlt, dec_le, dec_nle, dec_eq, dec_ne, if_pos, if_neg, Int.natCast_add, Int.natCast_one, Int.natCast_zero, Int.toNat_natCast, e8, e9, ebq, ebn]
  · rw [dec_ne hst0, Bool.false_and] at e8
    simp (disch := first | omega | (simp only [Go.Am.len_push, Go.Am.len_set, Go.Am.len_kill] <;> omega) | fail) only [push_cast, Nat.reduceBEq, Nat.reduceAdd, Nat.reduceMul, Nat.reduceSub, Nat.reduceLT, Nat.reduceGT, Nat.reduceLeDiff, Nat.reduceEqDiff, Int.reduceToNat, Int.reduceAdd, Int.reduceMul, Int.reduceSub, Int.reduceNeg, Int.reduceLT, Int.reduceLE, Int.reduceEq, Nat.zero_add, Nat.add_zero, Nat.mul_one, eq_self, ne_eq, not_true, not_false_iff, and_true, true_and, and_self, List.getElem?_cons_zero, List.getElem?_cons_succ, List.map_cons, List.map_nil, wrap64, dec_lt, dec_nlt, dec_le, dec_nle, dec_eq, dec_ne, if_pos, if_neg, Int.natCast_add, Int.natCast_one, Int.natCast_zero, Int.toNat_natCast, e8, dec_ne hst0]

theorem sparseSays_call (hr : RdLL h sa C cs) (hl2 : Len2 cs) (hw : RdI h sw cw w) (hwl : w.length ≤ 9223372036854775807) (hs : RdI h ss cset set) (hsl : set.length ≤ 9223372036854775807) (n most : Int) :
    ∃ h' : H, call T 4 [.int .i64 n, .slice sa cs.length C, .slice sw w.length cw, .slice ss set.length cset, .int .i64 most] h = some (.bool true, h') := by
  obtain ⟨b, hv⟩ := heavy_call hr hl2
  cases b with
  | true =>
    refine ⟨h, ?_⟩
    rw [call_at T4 rfl]
    unfold F4 c4
    simp (disch := first | omega | (simp only [Go.Am.len_push, Go.Am.len_set, Go.Am.len_kill] <;> omega) | fail) only [push_cast, Nat.reduceBEq, Nat.reduceAdd, Nat.reduceMul, Nat.reduceSub, Nat.reduceLT, Nat.reduceGT, Nat.reduceLeDiff, Nat.reduceEqDiff, Int.reduceToNat, Int.reduceAdd, Int.reduceMul, Int.reduceSub, Int.reduceNeg, Int.reduceLT, Int.reduceLE, Int.reduceEq, Nat.zero_add, Nat.add_zero, Nat.mul_one, eq_self, ne_eq, not_true, not_false_iff, and_true, true_and, and_self, List.getElem?_cons_zero, List.getElem?_cons_succ, List.map_cons, List.map_nil, hv]
  | false =>
    by_cases hW : 200 < IntKind.wrap .i64 ((w.length : Int) + (set.length : Int))
    · refine ⟨h, ?_⟩
      rw [call_at T4 rfl]
      unfold F4 c4
      simp (disch := first | omega | (simp only [Go.Am.len_push, Go.Am.len_set, Go.Am.len_kill] <;> omega) | fail) only [push_cast, Nat.reduceBEq, Nat.reduceAdd, Nat.reduceMul, Nat.reduceSub, Nat.reduceLT, Nat.reduceGT, Nat.reduceLeDiff, Nat.reduceEqDiff, Int.reduceToNat, Int.reduceAdd, Int.reduceMul, Int.reduceSub, Int.reduceNeg, Int.reduceLT, Int.reduceLE, Int.reduceEq, Nat.zero_add, Nat.add_zero, Nat.mul_one, eq_self, ne_eq, not_true, not_false_iff, and_true, true_and, and_self, List.getElem?_cons_zero, List.getElem?_cons_succ, List.map_cons, List.map_nil, hv, dec_lt hW]
    · have hW := Int.not_lt.1 hW
      by_cases hk : chkE n cs = 0
      · by_cases hn : (w.length : Int) = n
        · cases b3 : w.any (outB true) with
          | true => exact spsays_c hr hl2 hw hwl hs hsl hv hW hk hn b3
          | false =>
            cases b2 : w.any (outB false) with
            | true => exact spsays_d hr hl2 hw hwl hs hsl hv hW hk hn b3 b2
            | false =>
              by_cases hm : most < 0
              · exact spsays_e hr hl2 hw hwl hs hsl hv hW hk hn b3 b2 hm
              · by_cases hm2 : 100 < most
                · exact spsays_f hr hl2 hw hwl hs hsl hv hW hk hn b3 b2 (by omega) hm2
                · exact spsays_g hr hl2 hw hwl hs hsl hv hW hk hn b3 b2 (by omega) (by omega)
        · exact spsays_b hr hl2 hw hwl hs hsl hv hW hk hn
      · exact spsays_a hr hl2 hw hwl hs hsl hv hW hk
end
theorem sparseSays_law (h : H) (n : Int) (_ : -9223372036854775808 ≤ n) (_ : n ≤ 9223372036854775807) (sa : Option Addr) (C : Nat) (cs : List (List Int)) (hr : RdLL h sa C cs) (_ : unitOk h 1 sa = true) (hl : cs.length ≤ 9223372036854775807) (hl2 : ∀ l ∈ cs, l.length ≤ 9223372036854775807)
    (sw : Option Addr) (cw : Nat) (w : List Int) (hw : RdI h sw cw w) (_ : unitOk h 1 sw = true) (hwl : w.length ≤ 9223372036854775807) (ss : Option Addr) (cset : Nat) (set : List Int) (hs : RdI h ss cset set) (_ : unitOk h 1 ss = true) (hsl : set.length ≤ 9223372036854775807) (most : Int) (_ : -9223372036854775808 ≤ most) (_ : most ≤ 9223372036854775807) :
    ∃ h' : H, call T 4 [.int .i64 n, .slice sa cs.length C, .slice sw w.length cw, .slice ss set.length cset, .int .i64 most] h = some (.bool true, h') :=
  sparseSays_call hr ⟨hl, hl2⟩ hw hwl hs hsl n most
end Go.Proofs.Ytammndhoillliaa
