/-
  What the document's PolyMay, PAdd, PMul and Curve compute. Conditions: lists as memory tells them.
  What the document's Curve computes; the law ListsCurve answers true. Conditions: lists as memory tells them.
-/
import Derived.Test.YtammndhoillliaaPoD
import Derived.Test.YtammndhoillliaaL2
namespace Go.Proofs.Ytammndhoillliaa
open Go.Am
set_option linter.unusedVariables false
set_option linter.unusedSimpArgs false
set_option maxRecDepth 30000

section
variable {q p g : Int} {m : Nat} {mod : List Int} {om cm B : Nat} {h1 : H}
/-! ### may it be? -/
theorem rmay_loop (hB : h1.row B = some ⟨fvL q p m g (.slice (some ⟨om, 0, none⟩) mod.length cm), 67, 0, true⟩) {sa : Option Addr} {c : Nat} {l : List Int} (hr : RdI h1 sa c l) (hl : l.length ≤ 1000000) : ∀ (n i : Nat) (G : H), i + n = l.length → h1 <+: G →
    ∃ G' : H, h1 <+: G' ∧ ∀ ks, goL T [.tmp 4] [1, 5, 7] c76L0 (.blk 0 [] :: ks) [(1, .slice sa l.length c), (5, .pointer (some ⟨B, 0, none⟩)), (7, .int .i64 i)] G =
      if anyF (fun v => !fok q v) l n i = true then some (.int .i64 2, G') else go T [.tmp 4] ks (Fr.of []) G'
  | 0, i, G, hi, hp => by
    refine ⟨G, hp, fun ks => ?_⟩
    rw [goL_at c76L0.eq_def, anyF, if_neg (by decide)]
    simp (disch := first | omega | (simp only [Go.Am.len_push, Go.Am.len_set, Go.Am.len_kill] <;> omega) | fail) only [push_cast, Nat.reduceBEq, Nat.reduceAdd, Nat.reduceMul, Nat.reduceSub, Nat.reduceLT, Nat.reduceGT, Nat.reduceLeDiff, Nat.reduceEqDiff, Int.reduceToNat, Int.reduceAdd, Int.reduceMul, Int.reduceSub, Int.reduceNeg, Int.reduceLT, Int.reduceLE, Int.reduceEq, Nat.zero_add, Nat.add_zero, Nat.mul_one, eq_self, ne_eq, not_true, not_false_iff, and_true, true_and, and_self, List.getElem?_cons_zero, List.getElem?_cons_succ, List.map_cons, List.map_nil, wrap64, dec_lt, dec_nlt, dec_le, dec_nle, dec_eq, dec_ne, if_pos, if_neg, Int.natCast_add, Int.natCast_one, Int.natCast_zero, Int.toNat_natCast]
  | n + 1, i, G, hi, hp => by
    have IH := rmay_loop hB hr hl n (i + 1)
    obtain ⟨o, off, rfl, _, l1⟩ := (hr.mono hp).at (i := i) (by omega)
    have l2 := lds_all (row_pre hB hp) (n := 5) rfl
    have e1 := rhas_call (q := q) (p := p) (m := m) (g := g) (mod := mod) (om := om) (cm := cm) (h := G) (gi l i)
    obtain ⟨G1, eG1⟩ : ∃ G1 : H, G1 = G ++ [rvR q p m g mod om cm] := ⟨_, rfl⟩
    rw [← eG1] at e1
    have p1 : G <+: G1 := by rw [eG1]; exact List.prefix_append _ _
    have hd : decide (B < G.length) = true := decide_eq_true (row_some_lt (row_pre hB hp))
    obtain ⟨G', k1, k2⟩ := IH G1 (by omega) (hp.trans p1)
    rw [anyF]
    cases hk : fok q (gi l i) with
    | true =>
      rw [hk] at e1
      refine ⟨G', k1, fun ks => ?_⟩
      have ih := k2 ks
      rw [Int.natCast_add, Int.natCast_one] at ih
      rw [goL_at c76L0.eq_def, Bool.not_true, Bool.false_or, ← ih]
      simp (disch := first | omega | (simp only [Go.Am.len_push, Go.Am.len_set, Go.Am.len_kill] <;> omega) | fail) only [push_cast, Nat.reduceBEq, Nat.reduceAdd, Nat.reduceMul, Nat.reduceSub, Nat.reduceLT, Nat.reduceGT, Nat.reduceLeDiff, Nat.reduceEqDiff, Int.reduceToNat, Int.reduceAdd, Int.reduceMul, Int.reduceSub, Int.reduceNeg, Int.reduceLT, Int.reduceLE, Int.reduceEq, Nat.zero_add, Nat.add_zero, Nat.mul_one, eq_self, ne_eq, not_true, not_false_iff, and_true, true_and, and_self, List.getElem?_cons_zero, List.getElem?_cons_succ, List.map_cons, List.map_nil, wrap64, dec_lt, dec_nlt, dec_le, dec_nle, dec_eq, dec_ne, if_pos, if_neg, Int.natCast_add, Int.natCast_one, Int.natCast_zero, Int.toNat_natCast, l1, l2, e1, behind_true p1, hd]
    | false =>
      rw [hk] at e1
      refine ⟨G1, hp.trans p1, fun ks => ?_⟩
      rw [goL_at c76L0.eq_def, Bool.not_false, Bool.true_or, if_pos rfl]
      simp (disch := first | omega | (simp only [Go.Am.len_push, Go.Am.len_set, Go.Am.len_kill] <;> omega) | fail) only [push_cast, Nat.reduceBEq, Nat.reduceAdd, Nat.reduceMul, Nat.reduceSub, Nat.reduceLT, Nat.reduceGT, Nat.reduceLeDiff, Nat.reduceEqDiff, Int.reduceToNat, Int.reduceAdd, Int.reduceMul, Int.reduceSub, Int.reduceNeg, Int.reduceLT, Int.reduceLE, Int.reduceEq, Nat.zero_add, Nat.add_zero, Nat.mul_one, eq_self, ne_eq, not_true, not_false_iff, and_true, true_and, and_self, List.getElem?_cons_zero, List.getElem?_cons_succ, List.map_cons, List.map_nil, wrap64, dec_lt, dec_nlt, dec_le, dec_nle, dec_eq, dec_ne, if_pos, if_neg, Int.natCast_add, Int.natCast_one, Int.natCast_zero, Int.toNat_natCast, l1, l2, e1, behind_true p1, hd]
end
theorem rmay_call (q : Int) {h : H} {sa : Option Addr} {c : Nat} {l : List Int} (hr : RdI h sa c l) (hl : l.length ≤ 9223372036854775807) : ∃ h' : H, h <+: h' ∧ call T 76 [.int .i64 q, .slice sa l.length c] h = some (.int .i64 (pokE q l), h') := by
  unfold pokE
  cases hn : fldN q.toNat with
  | none =>
    obtain ⟨h1, p1, e1⟩ := field_none q hn h
    obtain ⟨h2, eh2⟩ : ∃ h2 : H, h2 = h1 ++ [zrR] := ⟨_, rfl⟩
    have r2 : h2.row h1.length = some ⟨fvL 0 0 0 0 (.slice none 0 0), 67, 0, true⟩ := by rw [eh2]; exact row_push_new
    have s2 := sts_whole (vs := fvL 0 0 0 0 (.slice none 0 0)) r2 rfl
    refine ⟨h2.set h1.length zrR, by rw [eh2, set_push]; exact pre_push p1, ?_⟩
    rw [call_at T76 rfl]
    unfold F76 c76
    simp (disch := first | omega | (simp only [Go.Am.len_push, Go.Am.len_set, Go.Am.len_kill] <;> omega) | fail) only [push_cast, Nat.reduceBEq, Nat.reduceAdd, Nat.reduceMul, Nat.reduceSub, Nat.reduceLT, Nat.reduceGT, Nat.reduceLeDiff, Nat.reduceEqDiff, Int.reduceToNat, Int.reduceAdd, Int.reduceMul, Int.reduceSub, Int.reduceNeg, Int.reduceLT, Int.reduceLE, Int.reduceEq, Nat.zero_add, Nat.add_zero, Nat.mul_one, eq_self, ne_eq, not_true, not_false_iff, and_true, true_and, and_self, List.getElem?_cons_zero, List.getElem?_cons_succ, List.map_cons, List.map_nil, e1, ← eh2, s2]
  | some x =>
    obtain ⟨p, m, g, mod⟩ := x
    obtain ⟨h1, om, cm, p1, rm1, e1⟩ := field_some q hn h
    obtain ⟨h2, eh2⟩ : ∃ h2 : H, h2 = h1 ++ [zrR] := ⟨_, rfl⟩
    have r2 : h2.row h1.length = some ⟨fvL 0 0 0 0 (.slice none 0 0), 67, 0, true⟩ := by rw [eh2]; exact row_push_new
    have s2 := sts_whole (vs := fvL q p m g (.slice (some ⟨om, 0, none⟩) mod.length cm)) r2 rfl
    obtain ⟨h3, eh3⟩ : ∃ h3 : H, h3 = h2.set h1.length (rvR q p m g mod om cm) := ⟨_, rfl⟩
    rw [← eh3] at s2
    have p3 : h1 <+: h3 := by rw [eh3, eh2, set_push]; exact List.prefix_append _ _
    have r3 : h3.row h1.length = some ⟨fvL q p m g (.slice (some ⟨om, 0, none⟩) mod.length cm), 67, 0, true⟩ := by rw [eh3]; exact row_set_same (row_some_lt r2)
    simp only
    by_cases h128 : 128 < l.length
    · rw [if_pos h128]
      refine ⟨h3, p1.trans p3, ?_⟩
      rw [call_at T76 rfl]
      unfold F76 c76
      simp (disch := first | omega | (simp only [Go.Am.len_push, Go.Am.len_set, Go.Am.len_kill] <;> omega) | fail) only [push_cast, Nat.reduceBEq, Nat.reduceAdd, Nat.reduceMul, Nat.reduceSub, Nat.reduceLT, Nat.reduceGT, Nat.reduceLeDiff, Nat.reduceEqDiff, Int.reduceToNat, Int.reduceAdd, Int.reduceMul, Int.reduceSub, Int.reduceNeg, Int.reduceLT, Int.reduceLE, Int.reduceEq, Nat.zero_add, Nat.add_zero, Nat.mul_one, eq_self, ne_eq, not_true, not_false_iff, and_true, true_and, and_self, List.getElem?_cons_zero, List.getElem?_cons_succ, List.map_cons, List.map_nil, wrap64, dec_lt, dec_nlt, dec_le, dec_nle, dec_eq, dec_ne, if_pos, if_neg, Int.natCast_add, Int.natCast_one, Int.natCast_zero, Int.toNat_natCast, e1, ← eh2, s2]
    · rw [if_neg h128]
      obtain ⟨G', k1, e2⟩ := rmay_loop r3 (hr.mono (p1.trans p3)) (by omega) l.length 0 h3 (by omega) (List.prefix_refl _)
      rw [anyF_all] at e2
      simp only [Int.natCast_zero] at e2
      refine ⟨G', (p1.trans p3).trans k1, ?_⟩
      rw [call_at T76 rfl]
      unfold F76 c76
      simp (disch := first | omega | (simp only [Go.Am.len_push, Go.Am.len_set, Go.Am.len_kill] <;> omega) | fail) only [push_cast, Nat.reduceBEq, Nat.reduceAdd, Nat.reduceMul, Nat.reduceSub, Nat.reduceLT, Nat.reduceGT, Nat.reduceLeDiff, Nat.reduceEqDiff, Int.reduceToNat, Int.reduceAdd, Int.reduceMul, Int.reduceSub, Int.reduceNeg, Int.reduceLT, Int.reduceLE, Int.reduceEq, Nat.zero_add, Nat.add_zero, Nat.mul_one, eq_self, ne_eq, not_true, not_false_iff, and_true, true_and, and_self, List.getElem?_cons_zero, List.getElem?_cons_succ, List.map_cons, List.map_nil, wrap64, dec_lt, dec_nlt, dec_le, dec_nle, dec_eq, dec_ne, if_pos, if_neg, Int.natCast_add, Int.natCast_one, Int.natCast_zero, Int.toNat_natCast, e1, ← eh2, s2]
      rw [e2]
      cases ha : l.any fun v => !fok q v with
      | true => rw [if_pos rfl, if_pos rfl]
      | false => rw [if_neg (by decide), if_neg (by decide)]; simp (disch := first | omega | (simp only [Go.Am.len_push, Go.Am.len_set, Go.Am.len_kill] <;> omega) | fail) only [push_cast, Nat.reduceBEq, Nat.reduceAdd, Nat.reduceMul, Nat.reduceSub, Nat.reduceLT, Nat.reduceGT, Nat.reduceLeDiff, Nat.reduceEqDiff, Int.reduceToNat, Int.reduceAdd, Int.reduceMul, Int.reduceSub, Int.reduceNeg, Int.reduceLT, Int.reduceLE, Int.reduceEq, Nat.zero_add, Nat.add_zero, Nat.mul_one, eq_self, ne_eq, not_true, not_false_iff, and_true, true_and, and_self, List.getElem?_cons_zero, List.getElem?_cons_succ, List.map_cons, List.map_nil]

/-! ### sums -/
section
variable {q p g : Int} {m : Nat} {mod : List Int} {om cm B : Nat} {h1 : H}
def sumP (q : Int) (a b : List Int) (n : Nat) : List Int := (List.range n).map fun i : Nat => fadd q (gi a i) (gi b i)
theorem sumP_len (q : Int) (a b : List Int) (n : Nat) : (sumP q a b n).length = n := by simp [sumP]
theorem sumP_succ (q : Int) (a b : List Int) (n : Nat) : sumP q a b (n + 1) = sumP q a b n ++ [fadd q (gi a n) (gi b n)] := by
  unfold sumP; rw [List.range_succ, List.map_append]; rfl
theorem rpadd_loop (u : RUse h1 q p m g mod om cm) (hB : h1.row B = some ⟨fvL q p m g (.slice (some ⟨om, 0, none⟩) mod.length cm), 67, 0, true⟩) {sa sb : Option Addr} {ca cb : Nat} {a b : List Int} (ha : RdI h1 sa ca a) (hb : RdI h1 sb cb b) (la : a.length ≤ 1000) (lb : b.length ≤ 1000) :
    ∀ (n i : Nat) (ss : Option Addr) (c : Nat) (G : H), i + n = max a.length b.length → h1 <+: G → Grown G ss c (sumP q a b i) h1.length →
    ∃ (ss' : Option Addr) (c' : Nat) (G' : H), h1 <+: G' ∧ Grown G' ss' c' (sumL q a b) h1.length ∧ ∀ ks,
      goL T [.tmp 6] [1, 2, 3, 7, 8] c134L0 (.blk 0 [7] :: ks) [(1, .slice sa a.length ca), (2, .slice sb b.length cb), (3, .pointer (some ⟨B, 0, none⟩)), (7, .slice ss i c), (8, .int .i64 i)] G =
        go T [.tmp 6] ks (Fr.of [(7, .slice ss' (sumL q a b).length c')]) G'
  | 0, i, ss, c, G, hi, hp, hg => by
    have hie : i = max a.length b.length := by omega
    have hs : sumP q a b i = sumL q a b := by rw [hie]; rfl
    have hsl := sumP_len q a b i
    rw [hs] at hg hsl
    refine ⟨ss, c, G, hp, hg, fun ks => ?_⟩
    rw [hsl, goL_at c134L0.eq_def]
    simp (disch := first | omega | (simp only [Go.Am.len_push, Go.Am.len_set, Go.Am.len_kill] <;> omega) | fail) only [push_cast, Nat.reduceBEq, Nat.reduceAdd, Nat.reduceMul, Nat.reduceSub, Nat.reduceLT, Nat.reduceGT, Nat.reduceLeDiff, Nat.reduceEqDiff, Int.reduceToNat, Int.reduceAdd, Int.reduceMul, Int.reduceSub, Int.reduceNeg, Int.reduceLT, Int.reduceLE, Int.reduceEq, Nat.zero_add, Nat.add_zero, Nat.mul_one, eq_self, ne_eq, not_true, not_false_iff, and_true, true_and, and_self, List.getElem?_cons_zero, List.getElem?_cons_succ, List.map_cons, List.map_nil, wrap64, dec_lt, dec_nlt, dec_le, dec_nle, dec_eq, dec_ne, if_pos, if_neg, Int.natCast_add, Int.natCast_one, Int.natCast_zero, Int.toNat_natCast]
  | n + 1, i, ss, c, G, hi, hp, hg => by
    have IH := rpadd_loop u hB ha hb la lb n (i + 1)
    have hsl := sumP_len q a b i
    have l2 := lds_all (row_pre hB hp) (n := 5) rfl
    obtain ⟨G1, p1, e1⟩ := radd_call (u.mono hp) (gi a i) (gi b i)
    have hd : decide (B < G.length) = true := decide_eq_true (row_some_lt (row_pre hB hp))
    have hg2 : Grown G1 ss c (sumP q a b i) h1.length := hg.carry (fun o _ ho => row_prefix p1 ho)
    obtain ⟨s3, G3, ea, hg3, _, _, hpre⟩ := hg2.one (y := fadd q (gi a i) (gi b i)) (by omega) (pre_len (hp.trans p1))
    rw [hsl] at ea hg3
    rw [← sumP_succ] at hg3
    obtain ⟨s4, c4, G4, k1, k2, k3⟩ := IH s3 (i + 1) G3 (by omega) (hpre h1 (Nat.le_refl _) (hp.trans p1)) hg3
    refine ⟨s4, c4, G4, k1, k2, fun ks => ?_⟩
    have ih := k3 ks
    rw [Int.natCast_add, Int.natCast_one] at ih
    by_cases hia : i < a.length
    · obtain ⟨oa, fa, rfl, _, l3⟩ := (ha.mono hp).at (i := i) hia
      by_cases hib : i < b.length
      · obtain ⟨ob, fb, rfl, _, l4⟩ := (hb.mono hp).at (i := i) hib
        rw [goL_at c134L0.eq_def, ← ih]
        simp (disch := first | omega | (simp only [Go.Am.len_push, Go.Am.len_set, Go.Am.len_kill] <;> omega) | fail) only [push_cast, Nat.reduceBEq, Nat.reduceAdd, Nat.reduceMul, Nat.reduceSub, Nat.reduceLT, Nat.reduceGT, Nat.reduceLeDiff, Nat.reduceEqDiff, Int.reduceToNat, Int.reduceAdd, Int.reduceMul, Int.reduceSub, Int.reduceNeg, Int.reduceLT, Int.reduceLE, Int.reduceEq, Nat.zero_add, Nat.add_zero, Nat.mul_one, eq_self, ne_eq, not_true, not_false_iff, and_true, true_and, and_self, List.getElem?_cons_zero, List.getElem?_cons_succ, List.map_cons, List.map_nil, wrap64, dec_lt, dec_nlt, dec_le, dec_nle, dec_eq, dec_ne, if_pos, if_neg, Int.natCast_add, Int.natCast_one, Int.natCast_zero, Int.toNat_natCast, l2, l3, l4, e1, ea, behind_true p1, hd]
      · rw [gi_out (l := b) (by omega)] at e1 ea
        rw [goL_at c134L0.eq_def, ← ih]
        simp (disch := first | omega | (simp only [Go.Am.len_push, Go.Am.len_set, Go.Am.len_kill] <;> omega) | fail) only [push_cast, Nat.reduceBEq, Nat.reduceAdd, Nat.reduceMul, Nat.reduceSub, Nat.reduceLT, Nat.reduceGT, Nat.reduceLeDiff, Nat.reduceEqDiff, Int.reduceToNat, Int.reduceAdd, Int.reduceMul, Int.reduceSub, Int.reduceNeg, Int.reduceLT, Int.reduceLE, Int.reduceEq, Nat.zero_add, Nat.add_zero, Nat.mul_one, eq_self, ne_eq, not_true, not_false_iff, and_true, true_and, and_self, List.getElem?_cons_zero, List.getElem?_cons_succ, List.map_cons, List.map_nil, wrap64, dec_lt, dec_nlt, dec_le, dec_nle, dec_eq, dec_ne, if_pos, if_neg, Int.natCast_add, Int.natCast_one, Int.natCast_zero, Int.toNat_natCast, l2, l3, e1, ea, behind_true p1, hd]
    · rw [gi_out (l := a) (by omega)] at e1 ea
      have hib : i < b.length := by omega
      obtain ⟨ob, fb, rfl, _, l4⟩ := (hb.mono hp).at (i := i) hib
      rw [goL_at c134L0.eq_def, ← ih]
      simp (disch := first | omega | (simp only [Go.Am.len_push, Go.Am.len_set, Go.Am.len_kill] <;> omega) | fail) only [push_cast, Nat.reduceBEq, Nat.reduceAdd, Nat.reduceMul, Nat.reduceSub, Nat.reduceLT, Nat.reduceGT, Nat.reduceLeDiff, Nat.reduceEqDiff, Int.reduceToNat, Int.reduceAdd, Int.reduceMul, Int.reduceSub, Int.reduceNeg, Int.reduceLT, Int.reduceLE, Int.reduceEq, Nat.zero_add, Nat.add_zero, Nat.mul_one, eq_self, ne_eq, not_true, not_false_iff, and_true, true_and, and_self, List.getElem?_cons_zero, List.getElem?_cons_succ, List.map_cons, List.map_nil, wrap64, dec_lt, dec_nlt, dec_le, dec_nle, dec_eq, dec_ne, if_pos, if_neg, Int.natCast_add, Int.natCast_one, Int.natCast_zero, Int.toNat_natCast, l2, l4, e1, ea, behind_true p1, hd]
theorem rpadd_call {h : H} (u : RUse h q p m g mod om cm) {sa sb : Option Addr} {ca cb : Nat} {a b : List Int} (ha : RdI h sa ca a) (hb : RdI h sb cb b) (la : a.length ≤ 1000) (lb : b.length ≤ 1000) :
    ∃ (s : Option Addr) (c : Nat) (h' : H), h <+: h' ∧ RdI h' s c (paddL q a b) ∧ call T 134 [rv q p m g mod om cm, .slice sa a.length ca, .slice sb b.length cb] h = some (.slice s (paddL q a b).length c, h') := by
  obtain ⟨h1, eh1⟩ : ∃ h1 : H, h1 = h ++ [rvR q p m g mod om cm] := ⟨_, rfl⟩
  have r1 : h1.row h.length = some ⟨fvL q p m g (.slice (some ⟨om, 0, none⟩) mod.length cm), 67, 0, true⟩ := by rw [eh1]; exact row_push_new
  have p1 : h <+: h1 := by rw [eh1]; exact List.prefix_append _ _
  obtain ⟨s1, c1, G, k1, k2, k3⟩ := rpadd_loop (u.mono p1) r1 (ha.mono p1) (hb.mono p1) la lb (max a.length b.length) 0 none 0 h1 (by omega) (List.prefix_refl _) .nil
  simp only [Int.natCast_zero] at k3
  have hsl : (sumL q a b).length = max a.length b.length := sumP_len q a b _
  obtain ⟨o, h', ⟨j1, j2, j3⟩, e2⟩ := rtrim_call k2.rd (by omega)
  refine ⟨some ⟨o, 0, none⟩, (paddL q a b).length, h', p1.trans (k1.trans j1), RdI.ofRow j3 rfl, ?_⟩
  rw [call_at T134 rfl]
  unfold F134 c134
  simp (disch := first | omega | (simp only [Go.Am.len_push, Go.Am.len_set, Go.Am.len_kill] <;> omega) | fail) only [push_cast, Nat.reduceBEq, Nat.reduceAdd, Nat.reduceMul, Nat.reduceSub, Nat.reduceLT, Nat.reduceGT, Nat.reduceLeDiff, Nat.reduceEqDiff, Int.reduceToNat, Int.reduceAdd, Int.reduceMul, Int.reduceSub, Int.reduceNeg, Int.reduceLT, Int.reduceLE, Int.reduceEq, Nat.zero_add, Nat.add_zero, Nat.mul_one, eq_self, ne_eq, not_true, not_false_iff, and_true, true_and, and_self, List.getElem?_cons_zero, List.getElem?_cons_succ, List.map_cons, List.map_nil, ← eh1]
  rw [k3]
  simp (disch := first | omega | (simp only [Go.Am.len_push, Go.Am.len_set, Go.Am.len_kill] <;> omega) | fail) only [push_cast, Nat.reduceBEq, Nat.reduceAdd, Nat.reduceMul, Nat.reduceSub, Nat.reduceLT, Nat.reduceGT, Nat.reduceLeDiff, Nat.reduceEqDiff, Int.reduceToNat, Int.reduceAdd, Int.reduceMul, Int.reduceSub, Int.reduceNeg, Int.reduceLT, Int.reduceLE, Int.reduceEq, Nat.zero_add, Nat.add_zero, Nat.mul_one, eq_self, ne_eq, not_true, not_false_iff, and_true, true_and, and_self, List.getElem?_cons_zero, List.getElem?_cons_succ, List.map_cons, List.map_nil, e2]
  try rfl

/-! ### products -/
variable {hF : H}
theorem rpmul_in (u : RUse hF q p m g mod om cm) (hB : hF.row B = some ⟨fvL q p m g (.slice (some ⟨om, 0, none⟩) mod.length cm), 67, 0, true⟩) {sa sb : Option Addr} {ca cb : Nat} {a b : List Int} (ha : RdI hF sa ca a) (hb : RdI hF sb cb b) (la : a.length ≤ 128) (lb : b.length ≤ 128) {N : Nat} (hN : N ≤ 1000) {i : Nat} (hia : i < a.length) (hne : gi a i ≠ 0) (hi : i + b.length ≤ N) {o : Nat} (ho : hF.length ≤ o) :
    ∀ (n k : Nat) (out : List Int) (G : H), k + n = b.length → out.length = N → hF <+: G → G.row o = some ⟨ints out, 3, 1, true⟩ →
    ∃ G' : H, hF <+: G' ∧ G'.row o = some ⟨ints (rowM q (gi a i) b i n k out), 3, 1, true⟩ ∧ ∀ ks,
      goL T [.tmp 6] [1, 2, 3, 7, 8, 9] c133L0 (.blk 2 [1, 2, 3, 7, 8] :: ks) [(1, .slice sa a.length ca), (2, .slice sb b.length cb), (3, .pointer (some ⟨B, 0, none⟩)), (7, .slice (some ⟨o, 0, none⟩) N N), (8, .int .i64 i), (9, .int .i64 k)] G =
        go T [.tmp 6] ks (Fr.of [(1, .slice sa a.length ca), (2, .slice sb b.length cb), (3, .pointer (some ⟨B, 0, none⟩)), (7, .slice (some ⟨o, 0, none⟩) N N), (8, .int .i64 i)]) G'
  | 0, k, out, G, hk, hl, hpr, ro => by
    refine ⟨G, hpr, ro, fun ks => ?_⟩
    rw [goL_at c133L0.eq_def]
    simp (disch := first | omega | (simp only [Go.Am.len_push, Go.Am.len_set, Go.Am.len_kill] <;> omega) | fail) only [push_cast, Nat.reduceBEq, Nat.reduceAdd, Nat.reduceMul, Nat.reduceSub, Nat.reduceLT, Nat.reduceGT, Nat.reduceLeDiff, Nat.reduceEqDiff, Int.reduceToNat, Int.reduceAdd, Int.reduceMul, Int.reduceSub, Int.reduceNeg, Int.reduceLT, Int.reduceLE, Int.reduceEq, Nat.zero_add, Nat.add_zero, Nat.mul_one, eq_self, ne_eq, not_true, not_false_iff, and_true, true_and, and_self, List.getElem?_cons_zero, List.getElem?_cons_succ, List.map_cons, List.map_nil, wrap64, dec_lt, dec_nlt, dec_le, dec_nle, dec_eq, dec_ne, if_pos, if_neg, Int.natCast_add, Int.natCast_one, Int.natCast_zero, Int.toNat_natCast]
  | n + 1, k, out, G, hk, hl, hpr, ro => by
    have IH := rpmul_in u hB ha hb la lb hN hia hne hi ho n
    obtain ⟨oa, offa, rfl, _, l0⟩ := (ha.mono hpr).at (i := i) hia
    obtain ⟨ob, offb, rfl, _, l1⟩ := (hb.mono hpr).at (i := k) (by omega)
    have l2 := ld1_int ro (i := ((i + k : Nat) : Int)) (by omega) (by omega)
    rw [Int.toNat_natCast] at l2
    have f1 := lds_all (row_pre hB hpr) (n := 5) rfl
    have hd : decide (B < G.length) = true := decide_eq_true (row_some_lt (row_pre hB hpr))
    have hdo : decide (o < G.length) = true := decide_eq_true (row_some_lt ro)
    obtain ⟨G1, p1, e1⟩ := rmul_call (u.mono hpr) (gi a i) (gi b k)
    have f2 := lds_all (row_pre hB (hpr.trans p1)) (n := 5) rfl
    have l2' := ld1_pre l2 p1
    obtain ⟨G2, p2, e2⟩ := radd_call (u.mono (hpr.trans p1)) (gi out ((i + k : Nat) : Int)) (fmul q (gi a i) (gi b k))
    have ro2 := row_pre (row_pre ro p1) p2
    have es := sts_int ro2 (i := ((i + k : Nat) : Int)) (v := fadd q (gi out ((i + k : Nat) : Int)) (fmul q (gi a i) (gi b k))) (by omega) (by omega)
    rw [Int.toNat_natCast] at es
    obtain ⟨G3, eG3⟩ : ∃ G3 : H, G3 = G2.set o (.row ⟨ints (out.set (i + k) (fadd q (gi out ((i + k : Nat) : Int)) (fmul q (gi a i) (gi b k)))), 3, 1, true⟩) := ⟨_, rfl⟩
    rw [← eG3] at es
    have p3 : hF <+: G3 := by rw [eG3]; exact pre_set (hpr.trans (p1.trans p2)) ho
    have r3 : G3.row o = some ⟨ints (out.set (i + k) (fadd q (gi out ((i + k : Nat) : Int)) (fmul q (gi a i) (gi b k)))), 3, 1, true⟩ := by rw [eG3]; exact row_set_same (row_some_lt ro2)
    obtain ⟨G', k1, k2, k3⟩ := IH (k + 1) _ G3 (by omega) (by simpa using hl) p3 r3
    refine ⟨G', k1, k2, fun ks => ?_⟩
    have ih := k3 ks
    rw [Int.natCast_add, Int.natCast_one] at ih
    have hik : ((i : Int) + (k : Int)).toNat = i + k := by omega
    rw [Int.natCast_add] at l2 l2' e2 es
    rw [goL_at c133L0.eq_def, ← ih]
    simp (disch := first | omega | (simp only [Go.Am.len_push, Go.Am.len_set, Go.Am.len_kill] <;> omega) | fail) only [push_cast, Nat.reduceBEq, Nat.reduceAdd, Nat.reduceMul, Nat.reduceSub, Nat.reduceLT, Nat.reduceGT, Nat.reduceLeDiff, Nat.reduceEqDiff, Int.reduceToNat, Int.reduceAdd, Int.reduceMul, Int.reduceSub, Int.reduceNeg, Int.reduceLT, Int.reduceLE, Int.reduceEq, Nat.zero_add, Nat.add_zero, Nat.mul_one, eq_self, ne_eq, not_true, not_false_iff, and_true, true_and, and_self, List.getElem?_cons_zero, List.getElem?_cons_succ, List.map_cons, List.map_nil, wrap64, dec_lt, dec_nlt, dec_le, dec_nle, dec_eq, dec_ne, if_pos, if_neg, Int.natCast_add, Int.natCast_one, Int.natCast_zero, Int.toNat_natCast, l0, l1, l2, l2', f1, f2, e1, e2, es, hik, dec_ne hne, behind_true p1, behind_true p2, behind_true (p1.trans p2), hd, hdo]
theorem rpmul_out (u : RUse hF q p m g mod om cm) (hB : hF.row B = some ⟨fvL q p m g (.slice (some ⟨om, 0, none⟩) mod.length cm), 67, 0, true⟩) {sa sb : Option Addr} {ca cb : Nat} {a b : List Int} (ha : RdI hF sa ca a) (hb : RdI hF sb cb b) (la : a.length ≤ 128) (lb : b.length ≤ 128) (fa : AllF q a) (fb : AllF q b) {N : Nat} (hN : N + 1 = a.length + b.length) {o : Nat} (ho : hF.length ≤ o) :
    ∀ (n i : Nat) (out : List Int) (G : H), i + n = a.length → out.length = N → AllF q out → hF <+: G → G.row o = some ⟨ints out, 3, 1, true⟩ →
    ∃ G' : H, hF <+: G' ∧ G'.row o = some ⟨ints (mulM q a b n i out), 3, 1, true⟩ ∧ ∀ ks,
      goL T [.tmp 6] [1, 2, 3, 7, 8] c133L1 (.blk 0 [7] :: ks) [(1, .slice sa a.length ca), (2, .slice sb b.length cb), (3, .pointer (some ⟨B, 0, none⟩)), (7, .slice (some ⟨o, 0, none⟩) N N), (8, .int .i64 i)] G =
        go T [.tmp 6] ks (Fr.of [(7, .slice (some ⟨o, 0, none⟩) N N)]) G'
  | 0, i, out, G, hk, hl, fo, hpr, ro => by
    refine ⟨G, hpr, ro, fun ks => ?_⟩
    rw [goL_at c133L1.eq_def]
    simp (disch := first | omega | (simp only [Go.Am.len_push, Go.Am.len_set, Go.Am.len_kill] <;> omega) | fail) only [push_cast, Nat.reduceBEq, Nat.reduceAdd, Nat.reduceMul, Nat.reduceSub, Nat.reduceLT, Nat.reduceGT, Nat.reduceLeDiff, Nat.reduceEqDiff, Int.reduceToNat, Int.reduceAdd, Int.reduceMul, Int.reduceSub, Int.reduceNeg, Int.reduceLT, Int.reduceLE, Int.reduceEq, Nat.zero_add, Nat.add_zero, Nat.mul_one, eq_self, ne_eq, not_true, not_false_iff, and_true, true_and, and_self, List.getElem?_cons_zero, List.getElem?_cons_succ, List.map_cons, List.map_nil, wrap64, dec_lt, dec_nlt, dec_le, dec_nle, dec_eq, dec_ne, if_pos, if_neg, Int.natCast_add, Int.natCast_one, Int.natCast_zero, Int.toNat_natCast]
  | n + 1, i, out, G, hk, hl, fo, hpr, ro => by
    have IH := rpmul_out u hB ha hb la lb fa fb hN ho n
    have hia : i < a.length := by omega
    by_cases h0 : gi a i = 0
    · have hz : rowM q (gi a i) b i b.length 0 out = out := by rw [h0]; exact rowM_zero u.hn fb i b.length 0 out (by omega) (by omega) fo
      obtain ⟨oa, offa, rfl, _, l0⟩ := (ha.mono hpr).at (i := i) hia
      obtain ⟨G', k1, k2, k3⟩ := IH (i + 1) out G (by omega) hl fo hpr ro
      refine ⟨G', k1, by rw [mulM, hz]; exact k2, fun ks => ?_⟩
      have ih := k3 ks
      rw [Int.natCast_add, Int.natCast_one] at ih
      rw [goL_at c133L1.eq_def, ← ih]
      simp (disch := first | omega | (simp only [Go.Am.len_push, Go.Am.len_set, Go.Am.len_kill] <;> omega) | fail) only [push_cast, Nat.reduceBEq, Nat.reduceAdd, Nat.reduceMul, Nat.reduceSub, Nat.reduceLT, Nat.reduceGT, Nat.reduceLeDiff, Nat.reduceEqDiff, Int.reduceToNat, Int.reduceAdd, Int.reduceMul, Int.reduceSub, Int.reduceNeg, Int.reduceLT, Int.reduceLE, Int.reduceEq, Nat.zero_add, Nat.add_zero, Nat.mul_one, eq_self, ne_eq, not_true, not_false_iff, and_true, true_and, and_self, List.getElem?_cons_zero, List.getElem?_cons_succ, List.map_cons, List.map_nil, wrap64, dec_lt, dec_nlt, dec_le, dec_nle, dec_eq, dec_ne, if_pos, if_neg, Int.natCast_add, Int.natCast_one, Int.natCast_zero, Int.toNat_natCast]
      rw [goL_at c133L0.eq_def]
      by_cases hb0 : b.length = 0
      · simp (disch := first | omega | (simp only [Go.Am.len_push, Go.Am.len_set, Go.Am.len_kill] <;> omega) | fail) only [push_cast, Nat.reduceBEq, Nat.reduceAdd, Nat.reduceMul, Nat.reduceSub, Nat.reduceLT, Nat.reduceGT, Nat.reduceLeDiff, Nat.reduceEqDiff, Int.reduceToNat, Int.reduceAdd, Int.reduceMul, Int.reduceSub, Int.reduceNeg, Int.reduceLT, Int.reduceLE, Int.reduceEq, Nat.zero_add, Nat.add_zero, Nat.mul_one, eq_self, ne_eq, not_true, not_false_iff, and_true, true_and, and_self, List.getElem?_cons_zero, List.getElem?_cons_succ, List.map_cons, List.map_nil, wrap64, dec_lt, dec_nlt, dec_le, dec_nle, dec_eq, dec_ne, if_pos, if_neg, Int.natCast_add, Int.natCast_one, Int.natCast_zero, Int.toNat_natCast, l0, dec_eq h0, h0]
      · simp (disch := first | omega | (simp only [Go.Am.len_push, Go.Am.len_set, Go.Am.len_kill] <;> omega) | fail) only [push_cast, Nat.reduceBEq, Nat.reduceAdd, Nat.reduceMul, Nat.reduceSub, Nat.reduceLT, Nat.reduceGT, Nat.reduceLeDiff, Nat.reduceEqDiff, Int.reduceToNat, Int.reduceAdd, Int.reduceMul, Int.reduceSub, Int.reduceNeg, Int.reduceLT, Int.reduceLE, Int.reduceEq, Nat.zero_add, Nat.add_zero, Nat.mul_one, eq_self, ne_eq, not_true, not_false_iff, and_true, true_and, and_self, List.getElem?_cons_zero, List.getElem?_cons_succ, List.map_cons, List.map_nil, wrap64, dec_lt, dec_nlt, dec_le, dec_nle, dec_eq, dec_ne, if_pos, if_neg, Int.natCast_add, Int.natCast_one, Int.natCast_zero, Int.toNat_natCast, l0, dec_eq h0, h0]
    · obtain ⟨G1, j1, j2, j3⟩ := rpmul_in u hB ha hb la lb (N := N) (by omega) hia h0 (by omega) ho b.length 0 out G (by omega) hl hpr ro
      simp only [Int.natCast_zero] at j3
      obtain ⟨G', k1, k2, k3⟩ := IH (i + 1) (rowM q (gi a i) b i b.length 0 out) G1 (by omega) (by rw [rowM_len]; exact hl) (rowM_all u.hn (allF_gi fa hia) fb i b.length 0 out fo) j1 j2
      refine ⟨G', k1, k2, fun ks => ?_⟩
      have ih := k3 ks
      rw [Int.natCast_add, Int.natCast_one] at ih
      rw [goL_at c133L1.eq_def, ← ih]
      simp (disch := first | omega | (simp only [Go.Am.len_push, Go.Am.len_set, Go.Am.len_kill] <;> omega) | fail) only [push_cast, Nat.reduceBEq, Nat.reduceAdd, Nat.reduceMul, Nat.reduceSub, Nat.reduceLT, Nat.reduceGT, Nat.reduceLeDiff, Nat.reduceEqDiff, Int.reduceToNat, Int.reduceAdd, Int.reduceMul, Int.reduceSub, Int.reduceNeg, Int.reduceLT, Int.reduceLE, Int.reduceEq, Nat.zero_add, Nat.add_zero, Nat.mul_one, eq_self, ne_eq, not_true, not_false_iff, and_true, true_and, and_self, List.getElem?_cons_zero, List.getElem?_cons_succ, List.map_cons, List.map_nil, wrap64, dec_lt, dec_nlt, dec_le, dec_nle, dec_eq, dec_ne, if_pos, if_neg, Int.natCast_add, Int.natCast_one, Int.natCast_zero, Int.toNat_natCast]
      rw [j3]
      simp (disch := first | omega | (simp only [Go.Am.len_push, Go.Am.len_set, Go.Am.len_kill] <;> omega) | fail) only [push_cast, Nat.reduceBEq, Nat.reduceAdd, Nat.reduceMul, Nat.reduceSub, Nat.reduceLT, Nat.reduceGT, Nat.reduceLeDiff, Nat.reduceEqDiff, Int.reduceToNat, Int.reduceAdd, Int.reduceMul, Int.reduceSub, Int.reduceNeg, Int.reduceLT, Int.reduceLE, Int.reduceEq, Nat.zero_add, Nat.add_zero, Nat.mul_one, eq_self, ne_eq, not_true, not_false_iff, and_true, true_and, and_self, List.getElem?_cons_zero, List.getElem?_cons_succ, List.map_cons, List.map_nil, wrap64]
theorem rpmul_call {h : H} (u : RUse h q p m g mod om cm) {sa sb : Option Addr} {ca cb : Nat} {a b : List Int} (ha : RdI h sa ca a) (hb : RdI h sb cb b) (la : a.length ≤ 128) (lb : b.length ≤ 128) (fa : AllF q a) (fb : AllF q b) :
    ∃ (s : Option Addr) (c : Nat) (h' : H), h <+: h' ∧ RdI h' s c (pmulL q (trimL a) (trimL b)) ∧ call T 133 [rv q p m g mod om cm, .slice sa a.length ca, .slice sb b.length cb] h = some (.slice s (pmulL q (trimL a) (trimL b)).length c, h') := by
  obtain ⟨h1, eh1⟩ : ∃ h1 : H, h1 = h ++ [rvR q p m g mod om cm] := ⟨_, rfl⟩
  have r1 : h1.row h.length = some ⟨fvL q p m g (.slice (some ⟨om, 0, none⟩) mod.length cm), 67, 0, true⟩ := by rw [eh1]; exact row_push_new
  have p1 : h <+: h1 := by rw [eh1]; exact List.prefix_append _ _
  obtain ⟨oa, h2, ⟨p2, _, ra⟩, e1⟩ := rtrim_call (ha.mono p1) (by omega)
  obtain ⟨ob, h3, ⟨p3, _, rb⟩, e2⟩ := rtrim_call (hb.mono (p1.trans p2)) (by omega)
  have hA : RdI h3 (some ⟨oa, 0, none⟩) (trimL a).length (trimL a) := (RdI.ofRow ra rfl).mono p3
  have hBb : RdI h3 (some ⟨ob, 0, none⟩) (trimL b).length (trimL b) := RdI.ofRow rb rfl
  have l1 := trimL_le a
  have l2 := trimL_le b
  have f1 := trimL_all fa
  have f2 := trimL_all fb
  obtain ⟨A, hAe⟩ : ∃ A, A = trimL a := ⟨_, rfl⟩
  obtain ⟨Bb, hBe⟩ : ∃ Bb, Bb = trimL b := ⟨_, rfl⟩
  rw [← hAe] at hA e1 l1 f1 ⊢
  rw [← hBe] at hBb e2 l2 f2 ⊢
  unfold pmulL
  by_cases ha0 : A.length = 0
  · rw [if_pos (.inl ha0)]
    refine ⟨none, 0, h3, p1.trans (p2.trans p3), .nil, ?_⟩
    rw [call_at T133 rfl]
    unfold F133 c133
    simp (disch := first | omega | (simp only [Go.Am.len_push, Go.Am.len_set, Go.Am.len_kill] <;> omega) | fail) only [push_cast, Nat.reduceBEq, Nat.reduceAdd, Nat.reduceMul, Nat.reduceSub, Nat.reduceLT, Nat.reduceGT, Nat.reduceLeDiff, Nat.reduceEqDiff, Int.reduceToNat, Int.reduceAdd, Int.reduceMul, Int.reduceSub, Int.reduceNeg, Int.reduceLT, Int.reduceLE, Int.reduceEq, Nat.zero_add, Nat.add_zero, Nat.mul_one, eq_self, ne_eq, not_true, not_false_iff, and_true, true_and, and_self, List.getElem?_cons_zero, List.getElem?_cons_succ, List.map_cons, List.map_nil, wrap64, dec_lt, dec_nlt, dec_le, dec_nle, dec_eq, dec_ne, if_pos, if_neg, Int.natCast_add, Int.natCast_one, Int.natCast_zero, Int.toNat_natCast, ← eh1, e1, e2, ha0, List.length_nil]
  · by_cases hb0 : Bb.length = 0
    · rw [if_pos (.inr hb0)]
      refine ⟨none, 0, h3, p1.trans (p2.trans p3), .nil, ?_⟩
      rw [call_at T133 rfl]
      unfold F133 c133
      simp (disch := first | omega | (simp only [Go.Am.len_push, Go.Am.len_set, Go.Am.len_kill] <;> omega) | fail) only [push_cast, Nat.reduceBEq, Nat.reduceAdd, Nat.reduceMul, Nat.reduceSub, Nat.reduceLT, Nat.reduceGT, Nat.reduceLeDiff, Nat.reduceEqDiff, Int.reduceToNat, Int.reduceAdd, Int.reduceMul, Int.reduceSub, Int.reduceNeg, Int.reduceLT, Int.reduceLE, Int.reduceEq, Nat.zero_add, Nat.add_zero, Nat.mul_one, eq_self, ne_eq, not_true, not_false_iff, and_true, true_and, and_self, List.getElem?_cons_zero, List.getElem?_cons_succ, List.map_cons, List.map_nil, wrap64, dec_lt, dec_nlt, dec_le, dec_nle, dec_eq, dec_ne, if_pos, if_neg, Int.natCast_add, Int.natCast_one, Int.natCast_zero, Int.toNat_natCast, ← eh1, e1, e2, hb0, List.length_nil]
    · rw [if_neg (by omega)]
      obtain ⟨N, hN⟩ : ∃ N : Nat, N = A.length + Bb.length - 1 := ⟨_, rfl⟩
      rw [← hN]
      obtain ⟨G1, eG1⟩ : ∃ G1 : H, G1 = h3 ++ [.row ⟨ints (List.replicate N 0), 3, 1, true⟩] := ⟨_, rfl⟩
      have g1 : G1.row h3.length = some ⟨ints (List.replicate N 0), 3, 1, true⟩ := by rw [eG1]; exact row_push_new
      have q1 : h3 <+: G1 := by rw [eG1]; exact List.prefix_append _ _
      obtain ⟨G2, k1, k2, k3⟩ := rpmul_out (u.mono (p1.trans (p2.trans p3))) (row_pre r1 (p2.trans p3)) hA hBb (by omega) (by omega) f1 f2 (N := N) (by omega) (o := h3.length) (Nat.le_refl _) A.length 0 (List.replicate N 0) G1 (by omega) (by simp) (allF_zeros u.hn N) q1 g1
      simp only [Int.natCast_zero] at k3
      have hml : (mulM q A Bb A.length 0 (List.replicate N 0)).length = N := by rw [mulM_len]; simp
      have hrd : RdI G2 (some ⟨h3.length, 0, none⟩) N (mulM q A Bb A.length 0 (List.replicate N 0)) := by have := RdI.ofRow k2 rfl; rwa [hml] at this
      obtain ⟨o', G3, ⟨j1, j2, j3⟩, e3⟩ := rtrim_call hrd (by omega)
      rw [hml] at e3
      refine ⟨some ⟨o', 0, none⟩, _, G3, p1.trans (p2.trans (p3.trans (k1.trans j1))), RdI.ofRow j3 rfl, ?_⟩
      have hr0 : rep [.int .i64 0] N = ints (List.replicate N 0) := rep_int _ _
      have hNi : (A.length : Int) + (Bb.length : Int) - 1 = (N : Int) := by omega
      rw [call_at T133 rfl]
      unfold F133 c133
      simp (disch := first | omega | (simp only [Go.Am.len_push, Go.Am.len_set, Go.Am.len_kill] <;> omega) | fail) only [push_cast, Nat.reduceBEq, Nat.reduceAdd, Nat.reduceMul, Nat.reduceSub, Nat.reduceLT, Nat.reduceGT, Nat.reduceLeDiff, Nat.reduceEqDiff, Int.reduceToNat, Int.reduceAdd, Int.reduceMul, Int.reduceSub, Int.reduceNeg, Int.reduceLT, Int.reduceLE, Int.reduceEq, Nat.zero_add, Nat.add_zero, Nat.mul_one, eq_self, ne_eq, not_true, not_false_iff, and_true, true_and, and_self, List.getElem?_cons_zero, List.getElem?_cons_succ, List.map_cons, List.map_nil, wrap64, dec_lt, dec_nlt, dec_le, dec_nle, dec_eq, dec_ne, if_pos, if_neg, Int.natCast_add, Int.natCast_one, Int.natCast_zero, Int.toNat_natCast, ← eh1, e1, e2, hNi, hr0, ← eG1]
      rw [k3]
      simp (disch := first | omega | (simp only [Go.Am.len_push, Go.Am.len_set, Go.Am.len_kill] <;> omega) | fail) only [push_cast, Nat.reduceBEq, Nat.reduceAdd, Nat.reduceMul, Nat.reduceSub, Nat.reduceLT, Nat.reduceGT, Nat.reduceLeDiff, Nat.reduceEqDiff, Int.reduceToNat, Int.reduceAdd, Int.reduceMul, Int.reduceSub, Int.reduceNeg, Int.reduceLT, Int.reduceLE, Int.reduceEq, Nat.zero_add, Nat.add_zero, Nat.mul_one, eq_self, ne_eq, not_true, not_false_iff, and_true, true_and, and_self, List.getElem?_cons_zero, List.getElem?_cons_succ, List.map_cons, List.map_nil, e3]
end
end Go.Proofs.Ytammndhoillliaa
namespace Go.Proofs.Ytammndhoillliaa
open Go.Am
set_option linter.unusedVariables false
set_option linter.unusedSimpArgs false
set_option maxRecDepth 30000

section
variable {q p g : Int} {m : Nat} {mod : List Int} {om cm B : Nat} {h0 : H}
theorem curN_len (y : List Int) : ∀ (r : List (List Int)) (s : List Int), s.length ≤ 128 → (curN q y r s).2.length ≤ 128
  | [], s, hs => hs
  | c :: r, s, hs => by
    have IH := curN_len y r
    rw [curN]
    split
    · simp
    · rename_i h1
      split
      · rename_i h2
        obtain ⟨_, lc, _⟩ := pokE_ok h2
        have h3 := paddL_len (q := q) (pmulL q s y) c
        have h4 := pmulL_len (q := q) s y
        have h5 : (pmulL q s y).length ≤ 128 := by
          by_cases h0 : s.length = 0 ∨ y.length = 0
          · unfold pmulL; rw [if_pos h0]; simp
          · omega
        exact IH _ (by omega)
      · simp
theorem rcurve_loop (u : RUse h0 q p m g mod om cm) (hB : h0.row B = some ⟨fvL q p m g (.slice (some ⟨om, 0, none⟩) mod.length cm), 67, 0, true⟩) {sa sy : Option Addr} {C cy : Nat} {cs : List (List Int)} {Y : List Int} (hr : RdLL h0 sa C cs) (hl2 : ∀ c ∈ cs, c.length ≤ 9223372036854775807) (hcs : cs.length ≤ 64) (hy : RdI h0 sy cy Y) (tY : Trimmed Y) (lY : Y.length ≤ 128) (fY : AllF q Y) :
    ∀ (j : Nat) (s : List Int) (ss : Option Addr) (cc : Nat) (G : H), j ≤ cs.length → s.length ≤ 128 → AllF q s → Trimmed s → RdI G ss cc s → h0 <+: G →
    ∃ (s' : Option Addr) (c' : Nat) (G' : H), h0 <+: G' ∧ RdI G' s' c' (curN q Y (cs.take j).reverse s).2 ∧ ∀ ks,
      goL T [.tmp 6, .tmp 7] [0, 1, 2, 9, 11, 12] c75L0 (.blk 0 [11] :: ks) [(0, .int .i64 q), (1, .slice sa cs.length C), (2, .slice sy Y.length cy), (9, .pointer (some ⟨B, 0, none⟩)), (11, .slice ss s.length cc), (12, .int .i64 ((j : Int) - 1))] G =
        if (curN q Y (cs.take j).reverse s).1 = 0 then go T [.tmp 6, .tmp 7] ks (Fr.of [(11, .slice s' (curN q Y (cs.take j).reverse s).2.length c')]) G'
        else some (.tuple #[.slice none 0 0, .int .i64 (curN q Y (cs.take j).reverse s).1], G')
  | 0, s, ss, cc, G, hj, ls, fs, ts, hs, hp => by
    refine ⟨ss, cc, G, hp, hs, fun ks => ?_⟩
    have hc : curN q Y (cs.take 0).reverse s = (0, s) := rfl
    rw [goL_at c75L0.eq_def, hc, if_pos rfl]
    simp (disch := first | omega | (simp only [Go.Am.len_push, Go.Am.len_set, Go.Am.len_kill] <;> omega) | fail) only [push_cast, Nat.reduceBEq, Nat.reduceAdd, Nat.reduceMul, Nat.reduceSub, Nat.reduceLT, Nat.reduceGT, Nat.reduceLeDiff, Nat.reduceEqDiff, Int.reduceToNat, Int.reduceAdd, Int.reduceMul, Int.reduceSub, Int.reduceNeg, Int.reduceLT, Int.reduceLE, Int.reduceEq, Nat.zero_add, Nat.add_zero, Nat.mul_one, eq_self, ne_eq, not_true, not_false_iff, and_true, true_and, and_self, List.getElem?_cons_zero, List.getElem?_cons_succ, List.map_cons, List.map_nil, wrap64, dec_lt, dec_nlt, dec_le, dec_nle, dec_eq, dec_ne, if_pos, if_neg, Int.natCast_add, Int.natCast_one, Int.natCast_zero, Int.toNat_natCast]
  | j + 1, s, ss, cc, G, hj, ls, fs, ts, hs, hp => by
    have IH := rcurve_loop u hB hr hl2 hcs hy tY lY fY j
    obtain ⟨c, hc⟩ := at_some (l := cs) (i := j) (by omega)
    have hcl := hl2 c (List.mem_of_getElem? hc)
    obtain ⟨o, a, c', rfl, l1, hra⟩ := (hr.mono hp).at hc
    have hj1 : ((j + 1 : Nat) : Int) - 1 = (j : Int) := by omega
    have htr := take_rev hc
    have f0 := lds_all (row_pre hB hp) (n := 5) rfl
    have hd : decide (B < G.length) = true := decide_eq_true (row_some_lt (row_pre hB hp))
    rw [htr]
    by_cases h128 : s.length ≠ 0 ∧ Y.length ≠ 0 ∧ 128 < s.length + Y.length - 1
    · have hcu : curN q Y (c :: (cs.take j).reverse) s = (4, []) := by rw [curN, if_pos h128]
      rw [hcu]
      refine ⟨none, 0, G, hp, .nil, fun ks => ?_⟩
      rw [if_neg (show ¬ (4 : Int) = 0 by decide), hj1, goL_at c75L0.eq_def]
      simp (disch := first | omega | (simp only [Go.Am.len_push, Go.Am.len_set, Go.Am.len_kill] <;> omega) | fail) only [push_cast, Nat.reduceBEq, Nat.reduceAdd, Nat.reduceMul, Nat.reduceSub, Nat.reduceLT, Nat.reduceGT, Nat.reduceLeDiff, Nat.reduceEqDiff, Int.reduceToNat, Int.reduceAdd, Int.reduceMul, Int.reduceSub, Int.reduceNeg, Int.reduceLT, Int.reduceLE, Int.reduceEq, Nat.zero_add, Nat.add_zero, Nat.mul_one, eq_self, ne_eq, not_true, not_false_iff, and_true, true_and, and_self, List.getElem?_cons_zero, List.getElem?_cons_succ, List.map_cons, List.map_nil, wrap64, dec_lt, dec_nlt, dec_le, dec_nle, dec_eq, dec_ne, if_pos, if_neg, Int.natCast_add, Int.natCast_one, Int.natCast_zero, Int.toNat_natCast]
    · obtain ⟨s1, c1, G1, p1, g1, e1⟩ := rpmul_call (u.mono hp) hs (hy.mono hp) ls lY fs fY
      rw [trimL_id ts, trimL_id tY] at g1 e1
      have hml := pmulL_len (q := q) s Y
      have hml2 : (pmulL q s Y).length ≤ 128 := by
        by_cases h0 : s.length = 0 ∨ Y.length = 0
        · unfold pmulL; rw [if_pos h0]; simp
        · omega
      have fm := pmulL_all u.hn fs fY
      obtain ⟨G2, p2, e2⟩ := rmay_call q (hra.mono p1) hcl
      have hc3 : s.length = 0 ∨ (s.length ≠ 0 ∧ Y.length = 0) ∨ (s.length ≠ 0 ∧ Y.length ≠ 0 ∧ s.length + Y.length - 1 ≤ 128) := by omega
      have l1' := ld1_pre l1 p1
      have l1'' := ld1_pre l1' p2
      have f1 := lds_all (row_pre hB (hp.trans p1)) (n := 5) rfl
      have f2 := lds_all (row_pre hB ((hp.trans p1).trans p2)) (n := 5) rfl
      clear h128
      by_cases hpc : pokE q c = 0
      · have hcu : curN q Y (c :: (cs.take j).reverse) s = curN q Y (cs.take j).reverse (paddL q (pmulL q s Y) c) := by rw [curN, if_neg (by omega), if_pos hpc]
        obtain ⟨_, lc, fc⟩ := pokE_ok hpc
        have hal := paddL_len (q := q) (pmulL q s Y) c
        obtain ⟨s2, c2, G3, p3, g2, e3⟩ := rpadd_call (u.mono ((hp.trans p1).trans p2)) (g1.mono p2) ((hra.mono p1).mono p2) (by omega) (by omega)
        obtain ⟨s3, c3, G4, k1, k2, k3⟩ := IH (paddL q (pmulL q s Y) c) s2 c2 G3 (by omega) (by omega) (paddL_all u.hn fm fc) (paddL_trimmed _ _ _) g2 (((hp.trans p1).trans p2).trans p3)
        rw [hcu]
        refine ⟨s3, c3, G4, k1, k2, fun ks => ?_⟩
        rw [hpc] at e2
        rw [hj1, goL_at c75L0.eq_def, ← k3 ks]
        rcases hc3 with hc3 | hc3 | hc3
        · simp (disch := first | omega | (simp only [Go.Am.len_push, Go.Am.len_set, Go.Am.len_kill] <;> omega) | fail) only [push_cast, Nat.reduceBEq, Nat.reduceAdd, Nat.reduceMul, Nat.reduceSub, Nat.reduceLT, Nat.reduceGT, Nat.reduceLeDiff, Nat.reduceEqDiff, Int.reduceToNat, Int.reduceAdd, Int.reduceMul, Int.reduceSub, Int.reduceNeg, Int.reduceLT, Int.reduceLE, Int.reduceEq, Nat.zero_add, Nat.add_zero, Nat.mul_one, eq_self, ne_eq, not_true, not_false_iff, and_true, true_and, and_self, List.getElem?_cons_zero, List.getElem?_cons_succ, List.map_cons, List.map_nil, wrap64, dec_lt, dec_nlt, dec_le, dec_nle, dec_eq, dec_ne, if_pos, if_neg, Int.natCast_add, Int.natCast_one, Int.natCast_zero, Int.toNat_natCast, l1, l1', l1'', f0, f1, f2, e1, e2, e3, hd, behind_true p1, behind_true p2, behind_true p3, behind_true (p1.trans p2), behind_true (p2.trans p3), behind_true ((p1.trans p2).trans p3)]
        · simp (disch := first | omega | (simp only [Go.Am.len_push, Go.Am.len_set, Go.Am.len_kill] <;> omega) | fail) only [push_cast, Nat.reduceBEq, Nat.reduceAdd, Nat.reduceMul, Nat.reduceSub, Nat.reduceLT, Nat.reduceGT, Nat.reduceLeDiff, Nat.reduceEqDiff, Int.reduceToNat, Int.reduceAdd, Int.reduceMul, Int.reduceSub, Int.reduceNeg, Int.reduceLT, Int.reduceLE, Int.reduceEq, Nat.zero_add, Nat.add_zero, Nat.mul_one, eq_self, ne_eq, not_true, not_false_iff, and_true, true_and, and_self, List.getElem?_cons_zero, List.getElem?_cons_succ, List.map_cons, List.map_nil, wrap64, dec_lt, dec_nlt, dec_le, dec_nle, dec_eq, dec_ne, if_pos, if_neg, Int.natCast_add, Int.natCast_one, Int.natCast_zero, Int.toNat_natCast, l1, l1', l1'', f0, f1, f2, e1, e2, e3, hd, behind_true p1, behind_true p2, behind_true p3, behind_true (p1.trans p2), behind_true (p2.trans p3), behind_true ((p1.trans p2).trans p3)]
        · simp (disch := first | omega | (simp only [Go.Am.len_push, Go.Am.len_set, Go.Am.len_kill] <;> omega) | fail) only [push_cast, Nat.reduceBEq, Nat.reduceAdd, Nat.reduceMul, Nat.reduceSub, Nat.reduceLT, Nat.reduceGT, Nat.reduceLeDiff, Nat.reduceEqDiff, Int.reduceToNat, Int.reduceAdd, Int.reduceMul, Int.reduceSub, Int.reduceNeg, Int.reduceLT, Int.reduceLE, Int.reduceEq, Nat.zero_add, Nat.add_zero, Nat.mul_one, eq_self, ne_eq, not_true, not_false_iff, and_true, true_and, and_self, List.getElem?_cons_zero, List.getElem?_cons_succ, List.map_cons, List.map_nil, wrap64, dec_lt, dec_nlt, dec_le, dec_nle, dec_eq, dec_ne, if_pos, if_neg, Int.natCast_add, Int.natCast_one, Int.natCast_zero, Int.toNat_natCast, l1, l1', l1'', f0, f1, f2, e1, e2, e3, hd, behind_true p1, behind_true p2, behind_true p3, behind_true (p1.trans p2), behind_true (p2.trans p3), behind_true ((p1.trans p2).trans p3)]
      · have hcu : curN q Y (c :: (cs.take j).reverse) s = (pokE q c, []) := by rw [curN, if_neg (by omega), if_neg hpc]
        rw [hcu]
        refine ⟨none, 0, G2, hp.trans (p1.trans p2), .nil, fun ks => ?_⟩
        rw [if_neg hpc, hj1, goL_at c75L0.eq_def]
        rcases hc3 with hc3 | hc3 | hc3
        · simp (disch := first | omega | (simp only [Go.Am.len_push, Go.Am.len_set, Go.Am.len_kill] <;> omega) | fail) only [push_cast, Nat.reduceBEq, Nat.reduceAdd, Nat.reduceMul, Nat.reduceSub, Nat.reduceLT, Nat.reduceGT, Nat.reduceLeDiff, Nat.reduceEqDiff, Int.reduceToNat, Int.reduceAdd, Int.reduceMul, Int.reduceSub, Int.reduceNeg, Int.reduceLT, Int.reduceLE, Int.reduceEq, Nat.zero_add, Nat.add_zero, Nat.mul_one, eq_self, ne_eq, not_true, not_false_iff, and_true, true_and, and_self, List.getElem?_cons_zero, List.getElem?_cons_succ, List.map_cons, List.map_nil, wrap64, dec_lt, dec_nlt, dec_le, dec_nle, dec_eq, dec_ne, if_pos, if_neg, Int.natCast_add, Int.natCast_one, Int.natCast_zero, Int.toNat_natCast, l1, l1', f0, f1, e1, e2, dec_ne hpc, hd, behind_true p1, behind_true p2, behind_true (p1.trans p2)]
        · simp (disch := first | omega | (simp only [Go.Am.len_push, Go.Am.len_set, Go.Am.len_kill] <;> omega) | fail) only [push_cast, Nat.reduceBEq, Nat.reduceAdd, Nat.reduceMul, Nat.reduceSub, Nat.reduceLT, Nat.reduceGT, Nat.reduceLeDiff, Nat.reduceEqDiff, Int.reduceToNat, Int.reduceAdd, Int.reduceMul, Int.reduceSub, Int.reduceNeg, Int.reduceLT, Int.reduceLE, Int.reduceEq, Nat.zero_add, Nat.add_zero, Nat.mul_one, eq_self, ne_eq, not_true, not_false_iff, and_true, true_and, and_self, List.getElem?_cons_zero, List.getElem?_cons_succ, List.map_cons, List.map_nil, wrap64, dec_lt, dec_nlt, dec_le, dec_nle, dec_eq, dec_ne, if_pos, if_neg, Int.natCast_add, Int.natCast_one, Int.natCast_zero, Int.toNat_natCast, l1, l1', f0, f1, e1, e2, dec_ne hpc, hd, behind_true p1, behind_true p2, behind_true (p1.trans p2)]
        · simp (disch := first | omega | (simp only [Go.Am.len_push, Go.Am.len_set, Go.Am.len_kill] <;> omega) | fail) only [push_cast, Nat.reduceBEq, Nat.reduceAdd, Nat.reduceMul, Nat.reduceSub, Nat.reduceLT, Nat.reduceGT, Nat.reduceLeDiff, Nat.reduceEqDiff, Int.reduceToNat, Int.reduceAdd, Int.reduceMul, Int.reduceSub, Int.reduceNeg, Int.reduceLT, Int.reduceLE, Int.reduceEq, Nat.zero_add, Nat.add_zero, Nat.mul_one, eq_self, ne_eq, not_true, not_false_iff, and_true, true_and, and_self, List.getElem?_cons_zero, List.getElem?_cons_succ, List.map_cons, List.map_nil, wrap64, dec_lt, dec_nlt, dec_le, dec_nle, dec_eq, dec_ne, if_pos, if_neg, Int.natCast_add, Int.natCast_one, Int.natCast_zero, Int.toNat_natCast, l1, l1', f0, f1, e1, e2, dec_ne hpc, hd, behind_true p1, behind_true p2, behind_true (p1.trans p2)]
end
section
variable {h : H} {sa sy : Option Addr} {C cy : Nat} {cs : List (List Int)} {y : List Int} {q : Int}
theorem rcurve_call (hr : RdLL h sa C cs) (hl2 : Len2 cs) (hy : RdI h sy cy y) (hly : y.length ≤ 9223372036854775807) : ∃ (s' : Option Addr) (c' : Nat) (h' : H), h <+: h' ∧ RdI h' s' c' (curP q cs y).2 ∧
    call T 75 [.int .i64 q, .slice sa cs.length C, .slice sy y.length cy] h = some (.tuple #[.slice s' (curP q cs y).2.length c', .int .i64 (curP q cs y).1], h') := by
  obtain ⟨h1, p1, e1⟩ := rmay_call q hy hly
  have hll := hl2.len
  by_cases ey : pokE q y = 0
  rotate_left
  · have hc : curP q cs y = (pokE q y, []) := by unfold curP; rw [if_neg ey]
    rw [hc]
    refine ⟨none, 0, h1, p1, .nil, ?_⟩
    rw [call_at T75 rfl]
    unfold F75 c75
    simp (disch := first | omega | (simp only [Go.Am.len_push, Go.Am.len_set, Go.Am.len_kill] <;> omega) | fail) only [push_cast, Nat.reduceBEq, Nat.reduceAdd, Nat.reduceMul, Nat.reduceSub, Nat.reduceLT, Nat.reduceGT, Nat.reduceLeDiff, Nat.reduceEqDiff, Int.reduceToNat, Int.reduceAdd, Int.reduceMul, Int.reduceSub, Int.reduceNeg, Int.reduceLT, Int.reduceLE, Int.reduceEq, Nat.zero_add, Nat.add_zero, Nat.mul_one, eq_self, ne_eq, not_true, not_false_iff, and_true, true_and, and_self, List.getElem?_cons_zero, List.getElem?_cons_succ, List.map_cons, List.map_nil, wrap64, dec_lt, dec_nlt, dec_le, dec_nle, dec_eq, dec_ne, if_pos, if_neg, Int.natCast_add, Int.natCast_one, Int.natCast_zero, Int.toNat_natCast, e1, dec_ne ey, List.length_nil]
  rw [ey] at e1
  by_cases h64 : 64 < cs.length
  · have hc : curP q cs y = (4, []) := by unfold curP; rw [if_pos ey, if_pos h64]
    rw [hc]
    refine ⟨none, 0, h1, p1, .nil, ?_⟩
    rw [call_at T75 rfl]
    unfold F75 c75
    simp (disch := first | omega | (simp only [Go.Am.len_push, Go.Am.len_set, Go.Am.len_kill] <;> omega) | fail) only [push_cast, Nat.reduceBEq, Nat.reduceAdd, Nat.reduceMul, Nat.reduceSub, Nat.reduceLT, Nat.reduceGT, Nat.reduceLeDiff, Nat.reduceEqDiff, Int.reduceToNat, Int.reduceAdd, Int.reduceMul, Int.reduceSub, Int.reduceNeg, Int.reduceLT, Int.reduceLE, Int.reduceEq, Nat.zero_add, Nat.add_zero, Nat.mul_one, eq_self, ne_eq, not_true, not_false_iff, and_true, true_and, and_self, List.getElem?_cons_zero, List.getElem?_cons_succ, List.map_cons, List.map_nil, wrap64, dec_lt, dec_nlt, dec_le, dec_nle, dec_eq, dec_ne, if_pos, if_neg, Int.natCast_add, Int.natCast_one, Int.natCast_zero, Int.toNat_natCast, e1, List.length_nil]
  · have hc : curP q cs y = curN q (trimL y) cs.reverse [] := by unfold curP; rw [if_pos ey, if_neg h64]
    obtain ⟨⟨x, hn⟩, ly, fy⟩ := pokE_ok ey
    obtain ⟨p, m, g, mod⟩ := x
    obtain ⟨h2, om, cm, p2, rm2, e2⟩ := field_some q hn h1
    obtain ⟨h3, eh3⟩ : ∃ h3 : H, h3 = h2 ++ [zrR] := ⟨_, rfl⟩
    have r3 : h3.row h2.length = some ⟨fvL 0 0 0 0 (.slice none 0 0), 67, 0, true⟩ := by rw [eh3]; exact row_push_new
    have s3 := sts_whole (vs := fvL q p m g (.slice (some ⟨om, 0, none⟩) mod.length cm)) r3 rfl
    obtain ⟨h4, eh4⟩ : ∃ h4 : H, h4 = h3.set h2.length (rvR q p m g mod om cm) := ⟨_, rfl⟩
    rw [← eh4] at s3
    have p4 : h2 <+: h4 := by rw [eh4, eh3, set_push]; exact List.prefix_append _ _
    have r4 : h4.row h2.length = some ⟨fvL q p m g (.slice (some ⟨om, 0, none⟩) mod.length cm), 67, 0, true⟩ := by rw [eh4]; exact row_set_same (row_some_lt r3)
    have u4 : RUse h4 q p m g mod om cm := ⟨hn, rm2.mono p4⟩
    have p04 := (p1.trans p2).trans p4
    obtain ⟨oy, h5, ⟨p5, _, ry⟩, e5⟩ := rtrim_call (hy.mono p04) (by omega)
    have hyT : RdI h5 (some ⟨oy, 0, none⟩) (trimL y).length (trimL y) := RdI.ofRow ry rfl
    have lT := trimL_le y
    obtain ⟨s', c', G', k1, k2, k3⟩ := rcurve_loop (u4.mono p5) (row_pre r4 p5) (hr.mono (p04.trans p5)) hl2.each (by omega) hyT (trimL_trimmed y) (by omega) (trimL_all fy) cs.length [] none 0 h5 (Nat.le_refl _) (by simp) (fun v hv => by cases hv) (fun h => absurd rfl h) .nil (List.prefix_refl _)
    rw [List.take_length] at k2 k3
    rw [List.length_nil] at k3
    rw [hc]
    obtain ⟨R, hR⟩ : ∃ R, R = curN q (trimL y) cs.reverse [] := ⟨_, rfl⟩
    have hbad := curN_bad (q := q) (trimL y) cs.reverse []
    rw [← hR] at k2 k3 hbad ⊢
    by_cases hR0 : R.1 = 0
    · refine ⟨s', c', G', (p04.trans p5).trans k1, k2, ?_⟩
      rw [call_at T75 rfl]
      unfold F75 c75
      simp (disch := first | omega | (simp only [Go.Am.len_push, Go.Am.len_set, Go.Am.len_kill] <;> omega) | fail) only [push_cast, Nat.reduceBEq, Nat.reduceAdd, Nat.reduceMul, Nat.reduceSub, Nat.reduceLT, Nat.reduceGT, Nat.reduceLeDiff, Nat.reduceEqDiff, Int.reduceToNat, Int.reduceAdd, Int.reduceMul, Int.reduceSub, Int.reduceNeg, Int.reduceLT, Int.reduceLE, Int.reduceEq, Nat.zero_add, Nat.add_zero, Nat.mul_one, eq_self, ne_eq, not_true, not_false_iff, and_true, true_and, and_self, List.getElem?_cons_zero, List.getElem?_cons_succ, List.map_cons, List.map_nil, wrap64, dec_lt, dec_nlt, dec_le, dec_nle, dec_eq, dec_ne, if_pos, if_neg, Int.natCast_add, Int.natCast_one, Int.natCast_zero, Int.toNat_natCast, e1, e2, ← eh3, s3, e5]
      rw [k3, if_pos hR0]
      simp (disch := first | omega | (simp only [Go.Am.len_push, Go.Am.len_set, Go.Am.len_kill] <;> omega) | fail) only [push_cast, Nat.reduceBEq, Nat.reduceAdd, Nat.reduceMul, Nat.reduceSub, Nat.reduceLT, Nat.reduceGT, Nat.reduceLeDiff, Nat.reduceEqDiff, Int.reduceToNat, Int.reduceAdd, Int.reduceMul, Int.reduceSub, Int.reduceNeg, Int.reduceLT, Int.reduceLE, Int.reduceEq, Nat.zero_add, Nat.add_zero, Nat.mul_one, eq_self, ne_eq, not_true, not_false_iff, and_true, true_and, and_self, List.getElem?_cons_zero, List.getElem?_cons_succ, List.map_cons, List.map_nil, wrap64, dec_lt, dec_nlt, dec_le, dec_nle, dec_eq, dec_ne, if_pos, if_neg, Int.natCast_add, Int.natCast_one, Int.natCast_zero, Int.toNat_natCast, hR0]
    · rw [hbad hR0]
      refine ⟨none, 0, G', (p04.trans p5).trans k1, .nil, ?_⟩
      rw [call_at T75 rfl]
      unfold F75 c75
      simp (disch := first | omega | (simp only [Go.Am.len_push, Go.Am.len_set, Go.Am.len_kill] <;> omega) | fail) only [push_cast, Nat.reduceBEq, Nat.reduceAdd, Nat.reduceMul, Nat.reduceSub, Nat.reduceLT, Nat.reduceGT, Nat.reduceLeDiff, Nat.reduceEqDiff, Int.reduceToNat, Int.reduceAdd, Int.reduceMul, Int.reduceSub, Int.reduceNeg, Int.reduceLT, Int.reduceLE, Int.reduceEq, Nat.zero_add, Nat.add_zero, Nat.mul_one, eq_self, ne_eq, not_true, not_false_iff, and_true, true_and, and_self, List.getElem?_cons_zero, List.getElem?_cons_succ, List.map_cons, List.map_nil, wrap64, dec_lt, dec_nlt, dec_le, dec_nle, dec_eq, dec_ne, if_pos, if_neg, Int.natCast_add, Int.natCast_one, Int.natCast_zero, Int.toNat_natCast, e1, e2, ← eh3, s3, e5]
      rw [k3, if_neg hR0]
      try simp (disch := first | omega | (simp only [Go.Am.len_push, Go.Am.len_set, Go.Am.len_kill] <;> omega) | fail) only [push_cast, Nat.reduceBEq, Nat.reduceAdd, Nat.reduceMul, Nat.reduceSub, Nat.reduceLT, Nat.reduceGT, Nat.reduceLeDiff, Nat.reduceEqDiff, Int.reduceToNat, Int.reduceAdd, Int.reduceMul, Int.reduceSub, Int.reduceNeg, Int.reduceLT, Int.reduceLE, Int.reduceEq, Nat.zero_add, Nat.add_zero, Nat.mul_one, eq_self, ne_eq, not_true, not_false_iff, and_true, true_and, and_self, List.getElem?_cons_zero, List.getElem?_cons_succ, List.map_cons, List.map_nil, List.length_nil]
end
theorem curP_ok (q : Int) (cs : List (List Int)) (y : List Int) : (curP q cs y).2.length ≤ 128 ∧ ((curP q cs y).1 = 0 ∨ (curP q cs y).2 = []) := by
  unfold curP
  split
  · split
    · exact ⟨by simp, .inr rfl⟩
    · refine ⟨curN_len _ _ _ (by simp), ?_⟩
      by_cases h : (curN q (trimL y) cs.reverse []).1 = 0
      · exact .inl h
      · exact .inr (curN_bad _ _ _ h)
  · exact ⟨by simp, .inr rfl⟩
theorem listCurve_law (h : H) (q : Int) (_ : -9223372036854775808 ≤ q) (_ : q ≤ 9223372036854775807)
    (sa : Option Addr) (C : Nat) (cs : List (List Int)) (hr : RdLL h sa C cs) (_ : unitOk h 1 sa = true) (hl1 : cs.length ≤ 9223372036854775807) (hl2 : ∀ l ∈ cs, l.length ≤ 9223372036854775807)
    (sy : Option Addr) (cy : Nat) (y : List Int) (hy : RdI h sy cy y) (_ : unitOk h 1 sy = true) (hly : y.length ≤ 9223372036854775807) :
    ∃ h' : H, call T 10 [.int .i64 q, .slice sa cs.length C, .slice sy y.length cy] h = some (.bool true, h') := by
  have hL : Len2 cs := ⟨hl1, hl2⟩
  obtain ⟨b, hv⟩ := heavy_call hr hL
  cases b with
  | true =>
    refine ⟨h, ?_⟩
    rw [call_at T10 rfl]
    unfold F10 c10
    simp (disch := first | omega | (simp only [Go.Am.len_push, Go.Am.len_set, Go.Am.len_kill] <;> omega) | fail) only [push_cast, Nat.reduceBEq, Nat.reduceAdd, Nat.reduceMul, Nat.reduceSub, Nat.reduceLT, Nat.reduceGT, Nat.reduceLeDiff, Nat.reduceEqDiff, Int.reduceToNat, Int.reduceAdd, Int.reduceMul, Int.reduceSub, Int.reduceNeg, Int.reduceLT, Int.reduceLE, Int.reduceEq, Nat.zero_add, Nat.add_zero, Nat.mul_one, eq_self, ne_eq, not_true, not_false_iff, and_true, true_and, and_self, List.getElem?_cons_zero, List.getElem?_cons_succ, List.map_cons, List.map_nil, wrap64, dec_lt, dec_nlt, dec_le, dec_nle, dec_eq, dec_ne, if_pos, if_neg, Int.natCast_add, Int.natCast_one, Int.natCast_zero, Int.toNat_natCast, hv]
  | false =>
    by_cases h200 : 200 < y.length
    · refine ⟨h, ?_⟩
      rw [call_at T10 rfl]
      unfold F10 c10
      simp (disch := first | omega | (simp only [Go.Am.len_push, Go.Am.len_set, Go.Am.len_kill] <;> omega) | fail) only [push_cast, Nat.reduceBEq, Nat.reduceAdd, Nat.reduceMul, Nat.reduceSub, Nat.reduceLT, Nat.reduceGT, Nat.reduceLeDiff, Nat.reduceEqDiff, Int.reduceToNat, Int.reduceAdd, Int.reduceMul, Int.reduceSub, Int.reduceNeg, Int.reduceLT, Int.reduceLE, Int.reduceEq, Nat.zero_add, Nat.add_zero, Nat.mul_one, eq_self, ne_eq, not_true, not_false_iff, and_true, true_and, and_self, List.getElem?_cons_zero, List.getElem?_cons_succ, List.map_cons, List.map_nil, wrap64, dec_lt, dec_nlt, dec_le, dec_nle, dec_eq, dec_ne, if_pos, if_neg, Int.natCast_add, Int.natCast_one, Int.natCast_zero, Int.toNat_natCast, hv]
    · obtain ⟨s1, c1, h1, p1, g1, e1⟩ := pcurve_call (q := q) hr hL hy hly
      obtain ⟨s2, c2, h2, p2, g2, e2⟩ := rcurve_call (q := q) (hr.mono p1) hL (hy.mono p1) hly
      obtain ⟨k1, k2⟩ := curP_ok q cs y
      have e3 := listSame_call s1 s2 c1 c2 (curP q cs y).2 (curP q cs y).1 h2 (by omega) (g1.mono p2) g2 k2
      refine ⟨h2, ?_⟩
      rw [call_at T10 rfl]
      unfold F10 c10
      simp (disch := first | omega | (simp only [Go.Am.len_push, Go.Am.len_set, Go.Am.len_kill] <;> omega) | fail) only [push_cast, Nat.reduceBEq, Nat.reduceAdd, Nat.reduceMul, Nat.reduceSub, Nat.reduceLT, Nat.reduceGT, Nat.reduceLeDiff, Nat.reduceEqDiff, Int.reduceToNat, Int.reduceAdd, Int.reduceMul, Int.reduceSub, Int.reduceNeg, Int.reduceLT, Int.reduceLE, Int.reduceEq, Nat.zero_add, Nat.add_zero, Nat.mul_one, eq_self, ne_eq, not_true, not_false_iff, and_true, true_and, and_self, List.getElem?_cons_zero, List.getElem?_cons_succ, List.map_cons, List.map_nil, wrap64, dec_lt, dec_nlt, dec_le, dec_nle, dec_eq, dec_ne, if_pos, if_neg, Int.natCast_add, Int.natCast_one, Int.natCast_zero, Int.toNat_natCast, hv, e1, e2, e3]
end Go.Proofs.Ytammndhoillliaa
