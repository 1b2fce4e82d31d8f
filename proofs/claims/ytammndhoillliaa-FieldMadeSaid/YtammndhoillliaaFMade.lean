/-
  Sizes, Pick, and FieldMade: the fields answer as the document's, of elements of any field. Conditions: numbers of Go's int.
-/
import Derived.Test.YtammndhoillliaaFSays
namespace Go.Proofs.Ytammndhoillliaa
open Go.Am
set_option linter.unusedVariables false
set_option linter.unusedSimpArgs false
set_option maxRecDepth 30000

def pickI (c n : Int) : Int := (if c < 0 then -(c + 1) else c) % n
theorem pickI_range (c : Int) {n : Int} (hn : 0 < n) : 0 ≤ pickI c n ∧ pickI c n < n := ⟨Int.emod_nonneg _ (by omega), Int.emod_lt_of_pos _ hn⟩
def I64 (c : Int) : Prop := -9223372036854775808 ≤ c ∧ c ≤ 9223372036854775807
theorem pick_call (c n : Int) (hc : I64 c) (hn : 0 < n) (h : H) : call T 33 [.int .i64 c, .int .i64 n] h = some (.int .i64 (pickI c n), h) := by
  obtain ⟨h1, h2⟩ := hc
  have hn0 : ¬ n = 0 := by omega
  rw [call_at T33 rfl, pickI]
  unfold F33 c33
  by_cases hc : c < 0
  · rw [if_pos hc]
    have q1 : (-(c + 1)).tmod n = -(c + 1) % n := Int.tmod_eq_emod_of_nonneg (by omega)
    have q2 : 0 - (c + 1) = -(c + 1) := by omega
    simp (disch := first | omega | (simp only [Go.Am.len_push, Go.Am.len_set, Go.Am.len_kill] <;> omega) | fail) only [push_cast, Nat.reduceBEq, Nat.reduceAdd, Nat.reduceMul, Nat.reduceSub, Nat.reduceLT, Nat.reduceGT, Nat.reduceLeDiff, Nat.reduceEqDiff, Int.reduceToNat, Int.reduceAdd, Int.reduceMul, Int.reduceSub, Int.reduceNeg, Int.reduceLT, Int.reduceLE, Int.reduceEq, Nat.zero_add, Nat.add_zero, Nat.mul_one, eq_self, ne_eq, not_true, not_false_iff, and_true, true_and, and_self, List.getElem?_cons_zero, List.getElem?_cons_succ, List.map_cons, List.map_nil, dec_lt hc, wrap64, q2, hn0, q1]
  · rw [if_neg hc]
    have q1 : c.tmod n = c % n := Int.tmod_eq_emod_of_nonneg (by omega)
    simp (disch := first | omega | (simp only [Go.Am.len_push, Go.Am.len_set, Go.Am.len_kill] <;> omega) | fail) only [push_cast, Nat.reduceBEq, Nat.reduceAdd, Nat.reduceMul, Nat.reduceSub, Nat.reduceLT, Nat.reduceGT, Nat.reduceLeDiff, Nat.reduceEqDiff, Int.reduceToNat, Int.reduceAdd, Int.reduceMul, Int.reduceSub, Int.reduceNeg, Int.reduceLT, Int.reduceLE, Int.reduceEq, Nat.zero_add, Nat.add_zero, Nat.mul_one, eq_self, ne_eq, not_true, not_false_iff, and_true, true_and, and_self, List.getElem?_cons_zero, List.getElem?_cons_succ, List.map_cons, List.map_nil, dec_nlt (Int.not_lt.1 hc), hn0, q1]

/-- the sizes of fields from one on -/
def sizesN : Nat → Nat → List Int
  | 0, _ => []
  | n + 1, q => bif (fldN q).isSome then (q : Int) :: sizesN n (q + 1) else sizesN n (q + 1)
def sizesL : List Int := sizesN 63 2
theorem sizes_len : sizesL.length = 27 := by kernel_rfl
theorem sizes_all : (sizesL.all fun z => decide (2 ≤ z) && decide (z ≤ 64) && (fldN z.toNat).isSome) = true := by kernel_rfl
theorem sizes_mem {z : Int} (hz : z ∈ sizesL) : 2 ≤ z ∧ z ≤ 64 ∧ (fldN z.toNat).isSome = true := by
  have := List.all_eq_true.1 sizes_all z hz
  simp only [Bool.and_eq_true, decide_eq_true_eq] at this
  exact ⟨this.1.1, this.1.2, this.2⟩

theorem sizes_loop (h : H) : ∀ (n q : Nat) (zs : List Int) (sa : Option Addr) (c : Nat) (G : H), q + n = 65 → 2 ≤ q → zs.length ≤ q → h <+: G → Grown G sa c zs h.length →
    ∃ (sa' : Option Addr) (c' : Nat) (G' : H), h <+: G' ∧ Grown G' sa' c' (zs ++ sizesN n q) h.length ∧
      ∀ ks, goL T [.tmp 0] [1, 2] c73L0 (.blk 0 [1] :: ks) [(1, .slice sa zs.length c), (2, .int .i64 q)] G = go T [.tmp 0] ks (Fr.of [(1, .slice sa' (zs ++ sizesN n q).length c')]) G'
  | 0, q, zs, sa, c, G, hq, hq2, hz, hp, hg => by
    refine ⟨sa, c, G, hp, by rw [sizesN, List.append_nil]; exact hg, fun ks => ?_⟩
    rw [goL_at c73L0.eq_def]
    have : (64 : Int) < (q : Int) := by omega
    simp (disch := first | omega | (simp only [Go.Am.len_push, Go.Am.len_set, Go.Am.len_kill] <;> omega) | fail) only [push_cast, Nat.reduceBEq, Nat.reduceAdd, Nat.reduceMul, Nat.reduceSub, Nat.reduceLT, Nat.reduceGT, Nat.reduceLeDiff, Nat.reduceEqDiff, Int.reduceToNat, Int.reduceAdd, Int.reduceMul, Int.reduceSub, Int.reduceNeg, Int.reduceLT, Int.reduceLE, Int.reduceEq, Nat.zero_add, Nat.add_zero, Nat.mul_one, eq_self, ne_eq, not_true, not_false_iff, and_true, true_and, and_self, List.getElem?_cons_zero, List.getElem?_cons_succ, List.map_cons, List.map_nil, dec_nle, sizesN, List.append_nil]
  | n + 1, q, zs, sa, c, G, hq, hq2, hz, hp, hg => by
    have hle : (q : Int) ≤ 64 := by omega
    cases hs : fldN q with
    | none =>
      have ho := fld_none (n := q) hq2 (by omega) hs
      have ep := prime_call (q : Int) (by omega) G _ ho
      obtain ⟨sa2, c2, G2, p2, hg2, ih⟩ := sizes_loop h n (q + 1) zs sa c G (by omega) (by omega) (by omega) hp hg
      have hw : zs ++ sizesN (n + 1) q = zs ++ sizesN n (q + 1) := by rw [sizesN, hs]; rfl
      refine ⟨sa2, c2, G2, p2, by rw [hw]; exact hg2, fun ks => ?_⟩
      have ih' := ih ks
      rw [Int.natCast_add, Int.natCast_one] at ih'
      rw [hw, ← ih', goL_at c73L0.eq_def]
      simp (disch := first | omega | (simp only [Go.Am.len_push, Go.Am.len_set, Go.Am.len_kill] <;> omega) | fail) only [push_cast, Nat.reduceBEq, Nat.reduceAdd, Nat.reduceMul, Nat.reduceSub, Nat.reduceLT, Nat.reduceGT, Nat.reduceLeDiff, Nat.reduceEqDiff, Int.reduceToNat, Int.reduceAdd, Int.reduceMul, Int.reduceSub, Int.reduceNeg, Int.reduceLT, Int.reduceLE, Int.reduceEq, Nat.zero_add, Nat.add_zero, Nat.mul_one, eq_self, ne_eq, not_true, not_false_iff, and_true, true_and, and_self, List.getElem?_cons_zero, List.getElem?_cons_succ, List.map_cons, List.map_nil, dec_le hle, ep, wrap64, decide_false, Int.lt_irrefl]
    | some x =>
      obtain ⟨p, m, g, mod⟩ := x
      obtain ⟨hf, ho, _⟩ := fld_ok hs
      have hp2 := hf.p2
      have ep := prime_call (q : Int) (by omega) G _ ho
      obtain ⟨sa1, G1, ea, hg1, hl1, _, hpre⟩ := hg.one (y := (q : Int)) (by omega) (pre_len hp)
      obtain ⟨sa2, c2, G2, p2, hg2, ih⟩ := sizes_loop h n (q + 1) (zs ++ [(q : Int)]) sa1 (zs.length + 1) G1 (by omega) (by omega) (by simp; omega) (hpre h (Nat.le_refl _) hp) hg1
      have hw : zs ++ sizesN (n + 1) q = zs ++ [(q : Int)] ++ sizesN n (q + 1) := by rw [sizesN, hs]; simp
      refine ⟨sa2, c2, G2, p2, by rw [hw]; exact hg2, fun ks => ?_⟩
      have ih' := ih ks
      rw [Int.natCast_add, Int.natCast_one] at ih'
      rw [hw, ← ih', goL_at c73L0.eq_def]
      have hlen : (zs ++ [(q : Int)]).length = zs.length + 1 := by simp
      have hpp : 0 < p := by omega
      simp (disch := first | omega | (simp only [Go.Am.len_push, Go.Am.len_set, Go.Am.len_kill] <;> omega) | fail) only [push_cast, Nat.reduceBEq, Nat.reduceAdd, Nat.reduceMul, Nat.reduceSub, Nat.reduceLT, Nat.reduceGT, Nat.reduceLeDiff, Nat.reduceEqDiff, Int.reduceToNat, Int.reduceAdd, Int.reduceMul, Int.reduceSub, Int.reduceNeg, Int.reduceLT, Int.reduceLE, Int.reduceEq, Nat.zero_add, Nat.add_zero, Nat.mul_one, eq_self, ne_eq, not_true, not_false_iff, and_true, true_and, and_self, List.getElem?_cons_zero, List.getElem?_cons_succ, List.map_cons, List.map_nil, dec_le hle, ep, dec_lt hpp, ea, hlen, wrap64]
theorem sizes_call (h : H) : ∃ (o c : Nat) (h' : H), h <+: h' ∧ RdI h' (some ⟨o, 0, none⟩) c sizesL ∧ call T 73 [] h = some (.slice (some ⟨o, 0, none⟩) 27 c, h') := by
  obtain ⟨sa, c, G, p1, hg, lo⟩ := sizes_loop h 63 2 [] none 0 h rfl (by omega) (by simp) (List.prefix_refl _) .nil
  rw [List.nil_append] at hg lo
  change Grown G sa c sizesL h.length at hg
  obtain ⟨o, rfl, _, _, ro⟩ : ∃ o, sa = some ⟨o, 0, none⟩ ∧ h.length ≤ o ∧ c = sizesL.length ∧ G.row o = some ⟨ints sizesL, 3, 1, true⟩ := by
    rcases hg with ⟨_, _, h0⟩ | h0
    · have := sizes_len; rw [h0] at this; cases this
    · exact h0
  refine ⟨o, c, G, p1, by have := RdI.ofRow ro rfl; subst c; exact this, ?_⟩
  have hl : (sizesN 63 2).length = 27 := sizes_len
  rw [call_at T73 rfl]
  unfold F73 c73
  rw [hl] at lo
  rw [show ((2 : Nat) : Int) = 2 from rfl, List.length_nil] at lo
  simp (disch := first | omega | (simp only [Go.Am.len_push, Go.Am.len_set, Go.Am.len_kill] <;> omega) | fail) only [push_cast, Nat.reduceBEq, Nat.reduceAdd, Nat.reduceMul, Nat.reduceSub, Nat.reduceLT, Nat.reduceGT, Nat.reduceLeDiff, Nat.reduceEqDiff, Int.reduceToNat, Int.reduceAdd, Int.reduceMul, Int.reduceSub, Int.reduceNeg, Int.reduceLT, Int.reduceLE, Int.reduceEq, Nat.zero_add, Nat.add_zero, Nat.mul_one, eq_self, ne_eq, not_true, not_false_iff, and_true, true_and, and_self, List.getElem?_cons_zero, List.getElem?_cons_succ, List.map_cons, List.map_nil]
  rw [lo]
  simp (disch := first | omega | (simp only [Go.Am.len_push, Go.Am.len_set, Go.Am.len_kill] <;> omega) | fail) only [push_cast, Nat.reduceBEq, Nat.reduceAdd, Nat.reduceMul, Nat.reduceSub, Nat.reduceLT, Nat.reduceGT, Nat.reduceLeDiff, Nat.reduceEqDiff, Int.reduceToNat, Int.reduceAdd, Int.reduceMul, Int.reduceSub, Int.reduceNeg, Int.reduceLT, Int.reduceLE, Int.reduceEq, Nat.zero_add, Nat.add_zero, Nat.mul_one, eq_self, ne_eq, not_true, not_false_iff, and_true, true_and, and_self, List.getElem?_cons_zero, List.getElem?_cons_succ, List.map_cons, List.map_nil]

theorem fieldMade_call (q a b k s : Int) (hq : I64 q) (ha : I64 a) (hb : I64 b) (hs : I64 s) (h : H) : ∃ h' : H, h <+: h' ∧ call T 9 [.int .i64 q, .int .i64 a, .int .i64 b, .int .i64 k, .int .i64 s] h = some (.bool true, h') := by
  obtain ⟨o, c, h1, p1, rs, e1⟩ := sizes_call h
  have e2 := pick_call q 27 hq (by omega) h1
  have r1 := pickI_range q (n := 27) (by omega)
  have hsl := sizes_len
  have l1 := rs.ld (i := pickI q 27) r1.1 (by rw [hsl]; exact r1.2)
  obtain ⟨z, hz⟩ : ∃ z, z = gi sizesL (pickI q 27) := ⟨_, rfl⟩
  have hzm := sizes_mem (z := z) (by rw [hz]; exact gi_mem r1.1 (by rw [hsl]; exact r1.2))
  rw [← hz] at l1
  have e3 := pick_call a z ha (by omega) h1
  have e4 := pick_call b z hb (by omega) h1
  have e5 := pick_call s 27 hs (by omega) h1
  have r2 := pickI_range s (n := 27) (by omega)
  have l2 := rs.ld (i := pickI s 27) r2.1 (by rw [hsl]; exact r2.2)
  obtain ⟨y, hy⟩ : ∃ y, y = gi sizesL (pickI s 27) := ⟨_, rfl⟩
  rw [← hy] at l2
  obtain ⟨h2, p2, e6⟩ := fieldSays_call z (pickI a z) (pickI b z) k y h1
  have hi1 : 0 ≤ pickI q 27 ∧ pickI q 27 < (27 : Int) := r1
  have hi2 : 0 ≤ pickI s 27 ∧ pickI s 27 < (27 : Int) := r2
  have hc : ((27 : Nat) : Int) = 27 := rfl
  rw [Nat.zero_add] at l1 l2
  refine ⟨h2, p1.trans p2, ?_⟩
  rw [call_at T9 rfl]
  unfold F9 c9
  simp (disch := first | omega | (simp only [Go.Am.len_push, Go.Am.len_set, Go.Am.len_kill] <;> omega) | fail) only [push_cast, Nat.reduceBEq, Nat.reduceAdd, Nat.reduceMul, Nat.reduceSub, Nat.reduceLT, Nat.reduceGT, Nat.reduceLeDiff, Nat.reduceEqDiff, Int.reduceToNat, Int.reduceAdd, Int.reduceMul, Int.reduceSub, Int.reduceNeg, Int.reduceLT, Int.reduceLE, Int.reduceEq, Nat.zero_add, Nat.add_zero, Nat.mul_one, eq_self, ne_eq, not_true, not_false_iff, and_true, true_and, and_self, List.getElem?_cons_zero, List.getElem?_cons_succ, List.map_cons, List.map_nil, e1, hc, e2, hi1, l1, e3, e4, e5, hi2, l2, e6]
end Go.Proofs.Ytammndhoillliaa
