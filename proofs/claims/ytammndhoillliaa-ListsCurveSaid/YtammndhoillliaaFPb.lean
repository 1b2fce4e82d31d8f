/-
  What field.build computes: the field of the table, with its tables. No condition.
  What field.build and field.New compute. No condition.
  What field.New computes. No condition.
  What field.New computes: the whole. No condition.
-/
import Derived.Test.YtammndhoillliaaFPa
namespace Go.Proofs.Ytammndhoillliaa
open Go.Am
set_option linter.unusedVariables false
set_option linter.unusedSimpArgs false
set_option maxRecDepth 30000

def genB (q p : Int) : Nat → Int → Option Int
  | 0, _ => none
  | n + 1, g => bif fillB q p 1 g [0, 1] then some g else genB q p n (g + 1)
def lowB (q p : Int) (m : Nat) : Nat → Int → Option (List Int)
  | 0, _ => none
  | n + 1, low => bif fillB q p m p (digs p m low ++ [1]) then some (digs p m low ++ [1]) else lowB q p m n (low + 1)
def bldCheck (n : Nat) : Bool :=
  match fldN n with
  | none => true
  | some (p, m, g, mod) => (bif decide (m = 1) then decide (genB n p (n - 1) 1 = some g) else decide (lowB n p m n 0 = some mod)) && fillB n p m g mod
theorem bld_checked : ((List.range 63).all fun n => bldCheck (n + 2)) = true := by kernel_rfl
theorem bld_check {n : Nat} (h2 : 2 ≤ n) (h64 : n ≤ 64) : bldCheck n = true := by
  have h := List.all_eq_true.1 bld_checked (n - 2) (List.mem_range.2 (by omega))
  rw [show n - 2 + 2 = n by omega] at h
  exact h
/-- a field's tables -/
def tabs (n : Nat) : List Int × List Int := match fldN n with
  | some (p, m, g, mod) => match fillT n p m g mod with
    | some (e, l, _) => (e, l)
    | none => ([], [])
  | none => ([], [])

section
variable {q p : Int}
theorem gen_bloop (hf : FOk q p 1 [0, 1]) {om fm cm F : Nat} (hom : om ≠ F) : ∀ (n : Nat) (g gen : Int) (G : H) (es ls : Value), 1 ≤ g → g + n ≤ q → genB q p n g = some gen →
      G.row F = some (pfR q p 1 (.slice (some ⟨om, fm, none⟩) 2 cm) g es ls) → RdI G (some ⟨om, fm, none⟩) cm [0, 1] →
    ∃ G' : H, But F G G' ∧ (∀ e l a, fillT q p 1 gen [0, 1] = some (e, l, a) → PTab G' F q p 1 (.slice (some ⟨om, fm, none⟩) 2 cm) gen e l) ∧
      ∀ ks, goL T [.tmp 2] [5] c124L0 (.blk 0 [5] :: ks) [(5, .pointer (some ⟨F, 0, none⟩))] G = go T [.tmp 2] ks (Fr.of [(5, .pointer (some ⟨F, 0, none⟩))]) G'
  | 0, g, gen, G, es, ls, h1, h2, he, hr, hM => by cases he
  | n + 1, g, gen, G, es, ls, h1, h2, he, hr, hM => by
    rw [genB] at he
    have hq64 := hf.q64
    obtain ⟨G1, b1, ⟨es1, ls1, r1⟩, T1, ef⟩ := fill_call hf (g := g) (by omega) G hr hM hom
    rw [show ((1 : Nat) : Int) = 1 from rfl] at r1
    cases hx : fillB q p 1 g [0, 1] with
    | true =>
      rw [hx, cond_true] at he
      cases he
      rw [hx] at ef
      refine ⟨G1, b1, T1, fun ks => ?_⟩
      rw [goL_at c124L0.eq_def]
      simp (disch := first | omega | (simp only [Go.Am.len_push, Go.Am.len_set, Go.Am.len_kill] <;> omega) | fail) only [push_cast, Nat.reduceBEq, Nat.reduceAdd, Nat.reduceMul, Nat.reduceSub, Nat.reduceLT, Nat.reduceGT, Nat.reduceLeDiff, Nat.reduceEqDiff, Int.reduceToNat, Int.reduceAdd, Int.reduceMul, Int.reduceSub, Int.reduceNeg, Int.reduceLT, Int.reduceLE, Int.reduceEq, Nat.zero_add, Nat.add_zero, Nat.mul_one, eq_self, ne_eq, not_true, not_false_iff, and_true, true_and, and_self, List.getElem?_cons_zero, List.getElem?_cons_succ, List.map_cons, List.map_nil, ef]
    | false =>
      rw [hx, cond_false] at he
      rw [hx] at ef
      have b4 : G1.ld1 F 4 = some (.int .i64 g) := ld1_at r1 rfl
      have s1 := sts_cell (off := 4) (v := .int .i64 (g + 1)) r1 (by simp) (l' := pfL q p 1 (.slice (some ⟨om, fm, none⟩) 2 cm) (g + 1) es1 ls1) rfl
      obtain ⟨G2, eG2⟩ : ∃ G2 : H, G2 = G1.set F (.row (pfR q p 1 (.slice (some ⟨om, fm, none⟩) 2 cm) (g + 1) es1 ls1)) := ⟨_, rfl⟩
      rw [← eG2] at s1
      have r2 : G2.row F = some (pfR q p 1 (.slice (some ⟨om, fm, none⟩) 2 cm) (g + 1) es1 ls1) := by rw [eG2]; exact row_set_same (row_some_lt r1)
      have b2 : But F G G2 := b1.trans (by rw [eG2]; exact But.set)
      have hol : om < G.length := by
        obtain ⟨_, _, e, h1, _⟩ := hM.addr (by simp)
        cases e; exact h1
      obtain ⟨G3, b3, T3, ih⟩ := gen_bloop hf hom n (g + 1) gen G2 es1 ls1 (by omega) (by omega) he r2 (RdI.at hM (row_get (b2.get om hol hom)))
      refine ⟨G3, b2.trans b3, T3, fun ks => ?_⟩
      rw [← ih ks, goL_at c124L0.eq_def]
      simp (disch := first | omega | (simp only [Go.Am.len_push, Go.Am.len_set, Go.Am.len_kill] <;> omega) | fail) only [push_cast, Nat.reduceBEq, Nat.reduceAdd, Nat.reduceMul, Nat.reduceSub, Nat.reduceLT, Nat.reduceGT, Nat.reduceLeDiff, Nat.reduceEqDiff, Int.reduceToNat, Int.reduceAdd, Int.reduceMul, Int.reduceSub, Int.reduceNeg, Int.reduceLT, Int.reduceLE, Int.reduceEq, Nat.zero_add, Nat.add_zero, Nat.mul_one, eq_self, ne_eq, not_true, not_false_iff, and_true, true_and, and_self, List.getElem?_cons_zero, List.getElem?_cons_succ, List.map_cons, List.map_nil, ef, b4, wrap64, s1]

theorem low_bloop {m : Nat} (hpq : 0 ≤ p ∧ p < q) (hf : ∀ low, 0 ≤ low → FOk q p m (digs p m low ++ [1])) {F : Nat} :
    ∀ (n : Nat) (low : Int) (mod : List Int) (ms es ls : Value) (G : H), 0 ≤ low → low + n ≤ q → lowB q p m n low = some mod → G.row F = some (pfR q p m ms p es ls) →
    ∃ (G' : H) (om : Nat), But F G G' ∧ F < om ∧ RdI G' (some ⟨om, 0, none⟩) (m + 1) mod ∧ (∀ e l a, fillT q p m p mod = some (e, l, a) → PTab G' F q p m (.slice (some ⟨om, 0, none⟩) mod.length (m + 1)) p e l) ∧
      ∀ ks, goL T [.tmp 2] [3, 4, 5, 43, 44] c124L1 (.blk 2 [] :: ks) [(3, .int .i64 p), (4, .int .i64 m), (5, .pointer (some ⟨F, 0, none⟩)), (43, .int .i64 q), (44, .int .i64 low)] G = some (.pointer (some ⟨F, 0, none⟩), G')
  | 0, low, mod, ms, es, ls, G, h1, h2, he, hr => by cases he
  | n + 1, low, mod, ms, es, ls, G, h1, h2, he, hr => by
    rw [lowB] at he
    have hfl := hf low h1
    have hq64 := hfl.q64
    have hm10 := hfl.m10
    have hp2 := hfl.p2
    have hm1 := hfl.m1
    have hFl := row_some_lt hr
    have ed := pdigits_call low p m G (by omega) (by omega) h1 (by omega)
    obtain ⟨G1, eG1⟩ : ∃ G1 : H, G1 = G ++ [.row ⟨ints (digs p m low), 3, 1, true⟩] := ⟨_, rfl⟩
    rw [← eG1] at ed
    have l1 : G1.length = G.length + 1 := by rw [eG1]; simp
    have gd : Grown G1 (some ⟨G.length, 0, none⟩) m (digs p m low) G.length := .inr ⟨G.length, rfl, Nat.le_refl _, (digs_len _ _ _).symm, by rw [eG1]; exact row_push_new⟩
    obtain ⟨sb, G2, ea, gb, hl2, hk2, hpp2⟩ := gd.one (y := 1) (by rw [digs_len]; omega) (by omega)
    rw [digs_len] at ea gb
    have p2 : G <+: G2 := hpp2 G (Nat.le_refl _) (by rw [eG1]; exact List.prefix_append _ _)
    obtain ⟨mo, hmo⟩ : ∃ mo, mo = digs p m low ++ [1] := ⟨_, rfl⟩
    have hml : mo.length = m + 1 := by rw [hmo]; simp [digs_len]
    rw [← hmo] at gb he hfl
    have r2F := row_pre hr p2
    have s1 := sts_cell (off := 3) (v := .slice sb (m + 1) (m + 1)) r2F (by simp) (l' := pfL q p m (.slice sb (m + 1) (m + 1)) p es ls) rfl
    obtain ⟨G3, eG3⟩ : ∃ G3 : H, G3 = G2.set F (.row (pfR q p m (.slice sb (m + 1) (m + 1)) p es ls)) := ⟨_, rfl⟩
    rw [← eG3] at s1
    have r3F : G3.row F = some (pfR q p m (.slice sb (m + 1) (m + 1)) p es ls) := by rw [eG3]; exact row_set_same (row_some_lt r2F)
    have g3 : Grown G3 sb (m + 1) mo G.length := gb.carry (fun o ho _ => by rw [eG3, row_set_other (by omega)])
    have b3 : But F G G3 := (But.ofPre p2).trans (by rw [eG3]; exact But.set)
    obtain ⟨om, rfl, hom, _, r3o⟩ : ∃ o, sb = some ⟨o, 0, none⟩ ∧ G.length ≤ o ∧ m + 1 = mo.length ∧ G3.row o = some ⟨ints mo, 3, 1, true⟩ := by
      rcases g3 with ⟨_, h0, _⟩ | h0
      · omega
      · exact h0
    have rm : RdI G3 (some ⟨om, 0, none⟩) (m + 1) mo := g3.rd
    rw [← hml] at r3F
    obtain ⟨G4, b4, ⟨es4, ls4, r4⟩, T4, ef⟩ := fill_call hfl hpq G3 (cm := mo.length) r3F (by rw [hml]; exact rm) (by omega)
    have rm4 : RdI G4 (some ⟨om, 0, none⟩) (m + 1) mo := RdI.at rm (row_get (b4.get om (row_some_lt r3o) (by omega)))
    cases hx : fillB q p m p mo with
    | true =>
      rw [hx, cond_true] at he
      have he' : mo = mod := Option.some.inj he
      rw [hx] at ef
      rw [← he']
      refine ⟨G4, om, b3.trans b4, by omega, rm4, by rw [hml] at T4 ⊢; exact T4, fun ks => ?_⟩
      rw [goL_at c124L1.eq_def]
      simp (disch := first | omega | (simp only [Go.Am.len_push, Go.Am.len_set, Go.Am.len_kill] <;> omega) | fail) only [push_cast, Nat.reduceBEq, Nat.reduceAdd, Nat.reduceMul, Nat.reduceSub, Nat.reduceLT, Nat.reduceGT, Nat.reduceLeDiff, Nat.reduceEqDiff, Int.reduceToNat, Int.reduceAdd, Int.reduceMul, Int.reduceSub, Int.reduceNeg, Int.reduceLT, Int.reduceLE, Int.reduceEq, Nat.zero_add, Nat.add_zero, Nat.mul_one, eq_self, ne_eq, not_true, not_false_iff, and_true, true_and, and_self, List.getElem?_cons_zero, List.getElem?_cons_succ, List.map_cons, List.map_nil, dec_lt, ed, ea, s1, ef]
    | false =>
      rw [hx, cond_false] at he
      rw [hx] at ef
      obtain ⟨G5, om5, b5, ho5, rm5, T5, ih⟩ := low_bloop hpq hf n (low + 1) mod _ es4 ls4 G4 (by omega) (by omega) he r4
      refine ⟨G5, om5, (b3.trans b4).trans b5, ho5, rm5, T5, fun ks => ?_⟩
      rw [← ih ks, goL_at c124L1.eq_def]
      simp (disch := first | omega | (simp only [Go.Am.len_push, Go.Am.len_set, Go.Am.len_kill] <;> omega) | fail) only [push_cast, Nat.reduceBEq, Nat.reduceAdd, Nat.reduceMul, Nat.reduceSub, Nat.reduceLT, Nat.reduceGT, Nat.reduceLeDiff, Nat.reduceEqDiff, Int.reduceToNat, Int.reduceAdd, Int.reduceMul, Int.reduceSub, Int.reduceNeg, Int.reduceLT, Int.reduceLE, Int.reduceEq, Nat.zero_add, Nat.add_zero, Nat.mul_one, eq_self, ne_eq, not_true, not_false_iff, and_true, true_and, and_self, List.getElem?_cons_zero, List.getElem?_cons_succ, List.map_cons, List.map_nil, dec_lt, ed, ea, s1, ef, wrap64]
end
end Go.Proofs.Ytammndhoillliaa
namespace Go.Proofs.Ytammndhoillliaa
open Go.Am
set_option linter.unusedVariables false
set_option linter.unusedSimpArgs false
set_option maxRecDepth 30000

/-- the program's field lies there -/
structure PFld (h : H) (F : Nat) (q p : Int) (m : Nat) (g : Int) (mod : List Int) : Prop where
  ok : ∃ om fm cm, F < om ∧ RdI h (some ⟨om, fm, none⟩) cm mod ∧ PTab h F q p m (.slice (some ⟨om, fm, none⟩) mod.length cm) g (tabs q.toNat).1 (tabs q.toNat).2
theorem PFld.keep {h h' : H} {F : Nat} {q p : Int} {m : Nat} {g : Int} {mod : List Int} (hp : PFld h F q p m g mod) (hk : ∀ o, F ≤ o → o < h.length → h'.row o = h.row o) : PFld h' F q p m g mod := by
  obtain ⟨om, fm, cm, ho, hM, ⟨E, L, h1, h2, h3, h4, h5, h6, h7⟩⟩ := hp.ok
  refine ⟨om, fm, cm, ho, ?_, ⟨E, L, h1, h2, ?_, ?_, ?_, h6, h7⟩⟩
  · rcases hM with ⟨hx, _⟩ | ⟨q1, o', off', r, q2, q3, q4⟩
    · cases hx
    · cases q2; exact .inr ⟨q1, om, fm, r, rfl, by rw [hk om (by omega) (row_some_lt q3)]; exact q3, q4⟩
  · rw [hk F (Nat.le_refl _) (row_some_lt h3)]; exact h3
  · rw [hk E (by omega) (row_some_lt h4)]; exact h4
  · rw [hk L (by omega) (row_some_lt h5)]; exact h5
theorem PFld.mono {h h' : H} {F : Nat} {q p : Int} {m : Nat} {g : Int} {mod : List Int} (hp : PFld h F q p m g mod) (hk : h <+: h') : PFld h' F q p m g mod := hp.keep (fun o _ ho => row_prefix hk ho)

theorem sq0 (a b c d e f g x : Value) : splice [a, b, c, d, e, f, g] 0 [x] = [x, b, c, d, e, f, g] := rfl
theorem sq1 (a b c d e f g x : Value) : splice [a, b, c, d, e, f, g] 1 [x] = [a, x, c, d, e, f, g] := rfl
theorem sq2 (a b c d e f g x : Value) : splice [a, b, c, d, e, f, g] 2 [x] = [a, b, x, d, e, f, g] := rfl

theorem build_none (q : Int) (hq : 2 ≤ q ∧ q ≤ 64) (hn : fldN q.toNat = none) (h : H) : call T 124 [.int .i64 q] h = some (.pointer none, h) := by
  have ho := fld_none (n := q.toNat) (by omega) (by omega) hn
  rw [show ((q.toNat : Nat) : Int) = q by omega] at ho
  have hp := pprime_call q hq h _ ho
  rw [call_at T124 rfl]
  unfold F124 c124
  simp (disch := first | omega | (simp only [Go.Am.len_push, Go.Am.len_set, Go.Am.len_kill] <;> omega) | fail) only [push_cast, Nat.reduceBEq, Nat.reduceAdd, Nat.reduceMul, Nat.reduceSub, Nat.reduceLT, Nat.reduceGT, Nat.reduceLeDiff, Nat.reduceEqDiff, Int.reduceToNat, Int.reduceAdd, Int.reduceMul, Int.reduceSub, Int.reduceNeg, Int.reduceLT, Int.reduceLE, Int.reduceEq, Nat.zero_add, Nat.add_zero, Nat.mul_one, eq_self, ne_eq, not_true, not_false_iff, and_true, true_and, and_self, List.getElem?_cons_zero, List.getElem?_cons_succ, List.map_cons, List.map_nil, hp]
theorem build_some (q : Int) {p g : Int} {m : Nat} {mod : List Int} (hn : fldN q.toNat = some (p, m, g, mod)) (h : H) : ∃ (h' : H) (F : Nat), h <+: h' ∧ h.length ≤ F ∧ PFld h' F q p m g mod ∧
    call T 124 [.int .i64 q] h = some (.pointer (some ⟨F, 0, none⟩), h') := by
  obtain ⟨hq2, hq64⟩ := fldN_le hn
  have hqq : ((q.toNat : Nat) : Int) = q := by omega
  obtain ⟨hf, ho, hg1, hg2, _⟩ := fld_ok hn
  have hb := bld_check hq2 hq64
  unfold bldCheck at hb
  rw [hn] at hb
  simp only [Bool.and_eq_true] at hb
  obtain ⟨hb1, hb2⟩ := hb
  rw [hqq] at hf ho hg2 hb1 hb2
  have hp := pprime_call q (by omega) h _ ho
  have hp2 := hf.p2
  have hp0 : ¬ p = 0 := by omega
  -- the tables
  obtain ⟨e, l, a, het⟩ : ∃ e l a, fillT q p m g mod = some (e, l, a) := by
    unfold fillB at hb2
    cases hx : fillT q p m g mod with
    | none => rw [hx] at hb2; cases hb2
    | some x => exact ⟨x.1, x.2.1, x.2.2, rfl⟩
  have htab : tabs q.toNat = (e, l) := by
    unfold tabs
    rw [hn]
    simp only
    rw [hqq, het]
  obtain ⟨h1, eh1⟩ : ∃ h1 : H, h1 = h ++ [.row (pfR q p m (.slice none 0 0) 0 (.slice none 0 0) (.slice none 0 0))] := ⟨_, rfl⟩
  have r1 : h1.row h.length = some (pfR q p m (.slice none 0 0) 0 (.slice none 0 0) (.slice none 0 0)) := by rw [eh1]; exact row_push_new
  have p1 : h <+: h1 := by rw [eh1]; exact List.prefix_append _ _
  have l1 : h1.length = h.length + 1 := by rw [eh1]; simp
  by_cases hm : m = 1
  · subst hm
    rw [show ((1 : Nat) : Int) = 1 from rfl] at hp r1 eh1
    simp only [decide_true, cond_true, decide_eq_true_eq] at hb1
    have hmod : mod = [0, 1] := by
      have := (fld_ok hn).2.2.2.2
      rw [if_pos rfl] at this
      exact this.2
    subst hmod
    obtain ⟨h2, eh2⟩ : ∃ h2 : H, h2 = h1 ++ [.row ⟨[.int .i64 0, .int .i64 1], 3, 1, true⟩] := ⟨_, rfl⟩
    have r2 : h2.row h1.length = some ⟨ints [0, 1], 3, 1, true⟩ := by rw [eh2]; exact row_push_new
    have p2 : h1 <+: h2 := by rw [eh2]; exact List.prefix_append _ _
    have s2 := sts_cell (off := 3) (v := .slice (some ⟨h1.length, 0, none⟩) 2 2) (row_pre r1 p2) (by simp) (l' := pfL q p 1 (.slice (some ⟨h1.length, 0, none⟩) 2 2) 0 (.slice none 0 0) (.slice none 0 0)) rfl
    obtain ⟨h3, eh3⟩ : ∃ h3 : H, h3 = h2.set h.length (.row (pfR q p 1 (.slice (some ⟨h1.length, 0, none⟩) 2 2) 0 (.slice none 0 0) (.slice none 0 0))) := ⟨_, rfl⟩
    rw [← eh3] at s2
    have r3 : h3.row h.length = some (pfR q p 1 (.slice (some ⟨h1.length, 0, none⟩) 2 2) 0 (.slice none 0 0) (.slice none 0 0)) := by rw [eh3]; exact row_set_same (row_some_lt (row_pre r1 p2))
    have s3 := sts_cell (off := 4) (v := .int .i64 1) r3 (by simp) (l' := pfL q p 1 (.slice (some ⟨h1.length, 0, none⟩) 2 2) 1 (.slice none 0 0) (.slice none 0 0)) rfl
    obtain ⟨h4, eh4⟩ : ∃ h4 : H, h4 = h3.set h.length (.row (pfR q p 1 (.slice (some ⟨h1.length, 0, none⟩) 2 2) 1 (.slice none 0 0) (.slice none 0 0))) := ⟨_, rfl⟩
    rw [← eh4] at s3
    have r4 : h4.row h.length = some (pfR q p 1 (.slice (some ⟨h1.length, 0, none⟩) 2 2) 1 (.slice none 0 0) (.slice none 0 0)) := by rw [eh4]; exact row_set_same (row_some_lt r3)
    have r4o : h4.row h1.length = some ⟨ints [0, 1], 3, 1, true⟩ := by rw [eh4, row_set_other (by omega), eh3, row_set_other (by omega)]; exact r2
    have bt : But h.length h h4 := (But.ofPre (p1.trans p2)).trans (by rw [eh4]; exact (But.trans (by rw [eh3]; exact But.set) But.set))
    have hM : RdI h4 (some ⟨h1.length, 0, none⟩) 2 [0, 1] := RdI.ofRow r4o rfl
    obtain ⟨h5, b5, T5, gl⟩ := gen_bloop hf (om := h1.length) (F := h.length) (by omega) (q.toNat - 1) 1 g h4 _ _ (by omega) (by omega) hb1 r4 hM
    have hT := T5 e l a het
    refine ⟨h5, h.length, (bt.trans b5).pre (List.prefix_refl _) (Nat.le_refl _), Nat.le_refl _, ⟨h1.length, 0, 2, by omega, RdI.at hM (row_get (b5.get _ (row_some_lt r4o) (by omega))), by rw [htab]; exact hT⟩, ?_⟩
    rw [call_at T124 rfl]
    unfold F124 c124
    simp (disch := first | omega | (simp only [Go.Am.len_push, Go.Am.len_set, Go.Am.len_kill] <;> omega) | fail) only [push_cast, Nat.reduceBEq, Nat.reduceAdd, Nat.reduceMul, Nat.reduceSub, Nat.reduceLT, Nat.reduceGT, Nat.reduceLeDiff, Nat.reduceEqDiff, Int.reduceToNat, Int.reduceAdd, Int.reduceMul, Int.reduceSub, Int.reduceNeg, Int.reduceLT, Int.reduceLE, Int.reduceEq, Nat.zero_add, Nat.add_zero, Nat.mul_one, eq_self, ne_eq, not_true, not_false_iff, and_true, true_and, and_self, List.getElem?_cons_zero, List.getElem?_cons_succ, List.map_cons, List.map_nil, hp, dec_ne hp0, sq0, sq1, sq2, ← eh1, ← eh2, s2, s3]
    rw [gl]
    simp (disch := first | omega | (simp only [Go.Am.len_push, Go.Am.len_set, Go.Am.len_kill] <;> omega) | fail) only [push_cast, Nat.reduceBEq, Nat.reduceAdd, Nat.reduceMul, Nat.reduceSub, Nat.reduceLT, Nat.reduceGT, Nat.reduceLeDiff, Nat.reduceEqDiff, Int.reduceToNat, Int.reduceAdd, Int.reduceMul, Int.reduceSub, Int.reduceNeg, Int.reduceLT, Int.reduceLE, Int.reduceEq, Nat.zero_add, Nat.add_zero, Nat.mul_one, eq_self, ne_eq, not_true, not_false_iff, and_true, true_and, and_self, List.getElem?_cons_zero, List.getElem?_cons_succ, List.map_cons, List.map_nil]
  · rw [decide_eq_false hm, cond_false, decide_eq_true_eq] at hb1
    have hgp : g = p := by
      have := (fld_ok hn).2.2.2.2
      rw [if_neg hm] at this
      exact this.2
    subst hgp
    have hmi : ¬ ((m : Int) = 1) := by omega
    have s2 := sts_cell (off := 4) (v := .int .i64 g) r1 (by simp) (l' := pfL q g m (.slice none 0 0) g (.slice none 0 0) (.slice none 0 0)) rfl
    obtain ⟨h3, eh3⟩ : ∃ h3 : H, h3 = h1.set h.length (.row (pfR q g m (.slice none 0 0) g (.slice none 0 0) (.slice none 0 0))) := ⟨_, rfl⟩
    rw [← eh3] at s2
    have r3 : h3.row h.length = some (pfR q g m (.slice none 0 0) g (.slice none 0 0) (.slice none 0 0)) := by rw [eh3]; exact row_set_same (row_some_lt r1)
    have hff : ∀ low, 0 ≤ low → FOk q g m (digs g m low ++ [1]) := fun low h0 => ⟨hf.q2, hf.q64, hf.p2, hf.p64, hf.m1, hf.m10, hf.pm, by simp [digs_len], fun z hz => by
      rw [List.mem_append] at hz
      rcases hz with hz | hz
      · exact Dig.digs (by omega) _ _ z hz
      · simp at hz; omega⟩
    have bt : But h.length h h3 := (But.ofPre p1).trans (by rw [eh3]; exact But.set)
    obtain ⟨h4, om, b4, ho4, rm4, T4, gl⟩ := low_bloop ⟨by omega, by omega⟩ hff q.toNat 0 mod _ _ _ h3 (by omega) (by omega) hb1 r3
    refine ⟨h4, h.length, (bt.trans b4).pre (List.prefix_refl _) (Nat.le_refl _), Nat.le_refl _, ⟨om, 0, m + 1, ho4, rm4, by rw [htab]; exact T4 e l a het⟩, ?_⟩
    rw [call_at T124 rfl]
    unfold F124 c124
    simp (disch := first | omega | (simp only [Go.Am.len_push, Go.Am.len_set, Go.Am.len_kill] <;> omega) | fail) only [push_cast, Nat.reduceBEq, Nat.reduceAdd, Nat.reduceMul, Nat.reduceSub, Nat.reduceLT, Nat.reduceGT, Nat.reduceLeDiff, Nat.reduceEqDiff, Int.reduceToNat, Int.reduceAdd, Int.reduceMul, Int.reduceSub, Int.reduceNeg, Int.reduceLT, Int.reduceLE, Int.reduceEq, Nat.zero_add, Nat.add_zero, Nat.mul_one, eq_self, ne_eq, not_true, not_false_iff, and_true, true_and, and_self, List.getElem?_cons_zero, List.getElem?_cons_succ, List.map_cons, List.map_nil, hp, dec_ne hp0, dec_ne hmi, sq0, sq1, sq2, ← eh1, s2]
    rw [gl]
end Go.Proofs.Ytammndhoillliaa
namespace Go.Proofs.Ytammndhoillliaa
open Go.Am
set_option linter.unusedVariables false
set_option linter.unusedSimpArgs false
set_option maxRecDepth 30000

theorem rep3_get (a b c : Value) (r : List Value) : ∀ (n i : Nat), i < n → (rep [a, b, c] n ++ r)[i * 3]? = some a ∧ (rep [a, b, c] n ++ r)[i * 3 + 1]? = some b
  | 0, i, h => by omega
  | n + 1, 0, h => ⟨rfl, rfl⟩
  | n + 1, i + 1, h => by
    have := rep3_get a b c r n i (by omega)
    have e1 : (i + 1) * 3 = i * 3 + 1 + 1 + 1 := by omega
    rw [e1]
    exact this
theorem rep_len (a b c : Value) : ∀ n : Nat, (rep [a, b, c] n).length = n * 3
  | 0 => rfl
  | n + 1 => by rw [rep, List.length_append, rep_len a b c n]; simp; omega
theorem z_eq : z42_0 = rep [.int .u32 0, .int .i32 0, .int .u32 0] 65 ++ List.replicate 65 (.pointer none) := by kernel_rfl
theorem z_get (n : Nat) (hn : n < 65) : z42_0[n * 3]? = some (.int .u32 0) ∧ z42_0[n * 3 + 1]? = some (.int .i32 0) ∧ z42_0.length = 260 := by
  rw [z_eq]
  obtain ⟨h1, h2⟩ := rep3_get (.int .u32 0) (.int .i32 0) (.int .u32 0) (List.replicate 65 (.pointer none)) 65 n hn
  exact ⟨h1, h2, by rw [List.length_append, rep_len, List.length_replicate]⟩
/-- the loads of what was written -/
theorem ld1_set {h : H} {o off : Nat} {l : List Value} {e u : Nat} {v : Value} (hr : h.row o = some ⟨l, e, u, true⟩) (hv : l[off]? = some v) : h.ld1 o off = some v := ld1_at hr hv


theorem once_run (q : Int) (hq : 2 ≤ q ∧ q ≤ 64) (h2 : H) (B S : Nat) (hBS : B ≠ S) (hB : h2.row B = some ⟨[.int .i64 q], 3, 0, true⟩) (hS : h2.row S = some ⟨z42_0, 131, 0, true⟩) :
    ∃ h3 : H, h3 = h2.set S (.row ⟨z42_0.set (q.toNat * 3 + 1) (.int .i32 1), 131, 0, true⟩) ∧ ∀ (h4 : H) (x : Option Addr), h3 <+: h4 → call T 124 [.int .i64 q] h3 = some (.pointer x, h4) →
      ∃ (h7 : H) (Z : List Value), call T 122 [.pointer (some ⟨S, q.toNat * 3, none⟩), .func (.func 123) #[] #[.pointer (some ⟨B, 0, none⟩), .pointer (some ⟨S, 0, none⟩)]] h2 = some (.tuple #[], h7) ∧
        h7.length = h4.length ∧ (∀ o, o ≠ S → h7[o]? = h4[o]?) ∧ h7.row S = some ⟨Z, 131, 0, true⟩ ∧ Z[195 + q.toNat]? = some (.pointer x) := by
  obtain ⟨z0, z1, zl⟩ := z_get q.toNat (by omega)
  generalize hz : z42_0 = z at *
  clear hz
  refine ⟨_, rfl, fun h4 x p4 eb => ?_⟩
  have l0 := ld1_set hS z0
  have l1 := ld1_set hS z1
  have s1 := sts_cell (off := q.toNat * 3 + 1) (v := .int .i32 1) hS (by omega) rfl
  obtain ⟨h3, eh3⟩ : ∃ h3 : H, h3 = h2.set S (.row ⟨z.set (q.toNat * 3 + 1) (.int .i32 1), 131, 0, true⟩) := ⟨_, rfl⟩
  rw [← eh3] at s1 eb p4
  have hSl := row_some_lt hS
  have r3S : h3.row S = some ⟨z.set (q.toNat * 3 + 1) (.int .i32 1), 131, 0, true⟩ := by rw [eh3]; exact row_set_same hSl
  have r3B : h3.row B = some ⟨[.int .i64 q], 3, 0, true⟩ := by rw [eh3, row_set_other (fun e => hBS e.symm)]; exact hB
  have b3 : h3.ld1 B 0 = some (.int .i64 q) := ld1_set r3B rfl
  have s2 := sts_cell (off := 195 + q.toNat) (v := .pointer x) (row_pre r3S p4) (by simp; omega) rfl
  obtain ⟨z2, hz2⟩ : ∃ z2, z2 = (z.set (q.toNat * 3 + 1) (.int .i32 1)).set (195 + q.toNat) (.pointer x) := ⟨_, rfl⟩
  rw [← hz2] at s2
  have z2l : z2.length = 260 := by rw [hz2]; simp [zl]
  obtain ⟨h5, eh5⟩ : ∃ h5 : H, h5 = h4.set S (.row ⟨z2, 131, 0, true⟩) := ⟨_, rfl⟩
  rw [← eh5] at s2
  have r5S : h5.row S = some ⟨z2, 131, 0, true⟩ := by rw [eh5]; exact row_set_same (row_some_lt (row_pre r3S p4))
  have z20 : z2[q.toNat * 3]? = some (.int .u32 0) := by
    rw [hz2, List.getElem?_set_ne (by omega), List.getElem?_set_ne (by omega)]; exact z0
  have z21 : z2[q.toNat * 3 + 1]? = some (.int .i32 1) := by
    rw [hz2, List.getElem?_set_ne (by omega), List.getElem?_set_self (by omega)]
  have z2x : z2[195 + q.toNat]? = some (.pointer x) := by
    rw [hz2, List.getElem?_set_self (by simp; omega)]
  have l50 := ld1_set r5S z20
  have l51 := ld1_set r5S z21
  have s3 := sts_cell (off := q.toNat * 3) (v := .int .u32 1) r5S (by omega) rfl
  obtain ⟨h6, eh6⟩ : ∃ h6 : H, h6 = h5.set S (.row ⟨z2.set (q.toNat * 3) (.int .u32 1), 131, 0, true⟩) := ⟨_, rfl⟩
  rw [← eh6] at s3
  have r6S : h6.row S = some ⟨z2.set (q.toNat * 3) (.int .u32 1), 131, 0, true⟩ := by rw [eh6]; exact row_set_same (row_some_lt r5S)
  have s4 := sts_cell (off := q.toNat * 3 + 1) (v := .int .i32 0) r6S (by simp; omega) rfl
  obtain ⟨h7, eh7⟩ : ∃ h7 : H, h7 = h6.set S (.row ⟨(z2.set (q.toNat * 3) (.int .u32 1)).set (q.toNat * 3 + 1) (.int .i32 0), 131, 0, true⟩) := ⟨_, rfl⟩
  rw [← eh7] at s4
  have hi1 : 0 ≤ q ∧ q < ((65 : Nat) : Int) := by omega
  have hi2 : 0 ≤ q ∧ q < 65 := by omega
  -- the closure
  have ec : call T 123 [.pointer (some ⟨B, 0, none⟩), .pointer (some ⟨S, 0, none⟩)] h3 = some (.tuple #[], h5) := by
    rw [call_at T123 rfl]
    unfold F123 c123
    simp (disch := first | omega | (simp only [Go.Am.len_push, Go.Am.len_set, Go.Am.len_kill] <;> omega) | fail) only [push_cast, Nat.reduceBEq, Nat.reduceAdd, Nat.reduceMul, Nat.reduceSub, Nat.reduceLT, Nat.reduceGT, Nat.reduceLeDiff, Nat.reduceEqDiff, Int.reduceToNat, Int.reduceAdd, Int.reduceMul, Int.reduceSub, Int.reduceNeg, Int.reduceLT, Int.reduceLE, Int.reduceEq, Nat.zero_add, Nat.add_zero, Nat.mul_one, eq_self, ne_eq, not_true, not_false_iff, and_true, true_and, and_self, List.getElem?_cons_zero, List.getElem?_cons_succ, List.map_cons, List.map_nil, b3, eb, behind_true p4, hi2, s2]
  refine ⟨h7, _, ?_, by rw [eh7, eh6, eh5]; simp, fun o ho => ?_, by rw [eh7]; exact row_set_same (row_some_lt r6S), ?_⟩
  · rw [call_at T122 rfl]
    unfold FDo cDo
    simp (disch := first | omega | (simp only [Go.Am.len_push, Go.Am.len_set, Go.Am.len_kill] <;> omega) | fail) only [push_cast, Nat.reduceBEq, Nat.reduceAdd, Nat.reduceMul, Nat.reduceSub, Nat.reduceLT, Nat.reduceGT, Nat.reduceLeDiff, Nat.reduceEqDiff, Int.reduceToNat, Int.reduceAdd, Int.reduceMul, Int.reduceSub, Int.reduceNeg, Int.reduceLT, Int.reduceLE, Int.reduceEq, Nat.zero_add, Nat.add_zero, Nat.mul_one, eq_self, ne_eq, not_true, not_false_iff, and_true, true_and, and_self, List.getElem?_cons_zero, List.getElem?_cons_succ, List.map_cons, List.map_nil, l0, l1, s1, ec, l50, l51, s3, s4]
  · rw [eh7, get_set_ne (fun e => ho e.symm), eh6, get_set_ne (fun e => ho e.symm), eh5, get_set_ne (fun e => ho e.symm)]
  · rw [List.getElem?_set_ne (by omega), List.getElem?_set_ne (by omega)]; exact z2x
end Go.Proofs.Ytammndhoillliaa
namespace Go.Proofs.Ytammndhoillliaa
open Go.Am
set_option linter.unusedVariables false
set_option linter.unusedSimpArgs false
set_option maxRecDepth 30000


theorem new_none (q : Int) (hn : fldN q.toNat = none) (h : H) : ∃ h' : H, h <+: h' ∧ call T 42 [.int .i64 q] h = some (.tuple #[.pointer none, .int .i64 1], h') := by
  obtain ⟨h1, eh1⟩ : ∃ h1 : H, h1 = h ++ [.row ⟨[.int .i64 q], 3, 0, true⟩] := ⟨_, rfl⟩
  have r1 : h1.row h.length = some ⟨[.int .i64 q], 3, 0, true⟩ := by rw [eh1]; exact row_push_new
  have p1 : h <+: h1 := by rw [eh1]; exact List.prefix_append _ _
  have b1 := ld1_set (off := 0) (v := .int .i64 q) r1 rfl
  by_cases hq1 : q < 2
  · refine ⟨h1, p1, ?_⟩
    rw [call_at T42 rfl]
    unfold F42 c42
    simp (disch := first | omega | (simp only [Go.Am.len_push, Go.Am.len_set, Go.Am.len_kill] <;> omega) | fail) only [push_cast, Nat.reduceBEq, Nat.reduceAdd, Nat.reduceMul, Nat.reduceSub, Nat.reduceLT, Nat.reduceGT, Nat.reduceLeDiff, Nat.reduceEqDiff, Int.reduceToNat, Int.reduceAdd, Int.reduceMul, Int.reduceSub, Int.reduceNeg, Int.reduceLT, Int.reduceLE, Int.reduceEq, Nat.zero_add, Nat.add_zero, Nat.mul_one, eq_self, ne_eq, not_true, not_false_iff, and_true, true_and, and_self, List.getElem?_cons_zero, List.getElem?_cons_succ, List.map_cons, List.map_nil, ← eh1, b1, dec_lt hq1]
  by_cases hq2 : 64 < q
  · refine ⟨h1, p1, ?_⟩
    rw [call_at T42 rfl]
    unfold F42 c42
    simp (disch := first | omega | (simp only [Go.Am.len_push, Go.Am.len_set, Go.Am.len_kill] <;> omega) | fail) only [push_cast, Nat.reduceBEq, Nat.reduceAdd, Nat.reduceMul, Nat.reduceSub, Nat.reduceLT, Nat.reduceGT, Nat.reduceLeDiff, Nat.reduceEqDiff, Int.reduceToNat, Int.reduceAdd, Int.reduceMul, Int.reduceSub, Int.reduceNeg, Int.reduceLT, Int.reduceLE, Int.reduceEq, Nat.zero_add, Nat.add_zero, Nat.mul_one, eq_self, ne_eq, not_true, not_false_iff, and_true, true_and, and_self, List.getElem?_cons_zero, List.getElem?_cons_succ, List.map_cons, List.map_nil, ← eh1, b1, dec_nlt (Int.not_lt.1 hq1), dec_lt hq2]
  have hq : 2 ≤ q ∧ q ≤ 64 := by omega
  obtain ⟨h2, eh2⟩ : ∃ h2 : H, h2 = h1 ++ [.row ⟨z42_0, 131, 0, true⟩] := ⟨_, rfl⟩
  have p2 : h1 <+: h2 := by rw [eh2]; exact List.prefix_append _ _
  have r2 : h2.row h1.length = some ⟨z42_0, 131, 0, true⟩ := by rw [eh2]; exact row_push_new
  have l1 : h1.length = h.length + 1 := by rw [eh1]; simp
  obtain ⟨h3, eh3, hrun⟩ := once_run q hq h2 h.length h1.length (by omega) (row_pre r1 p2) r2
  obtain ⟨h7, Z, ed, len7, k7, r7, z7⟩ := hrun h3 none (List.prefix_refl _) (build_none q hq hn h3)
  have k7' : ∀ o, o < h1.length → h7[o]? = h1[o]? := fun o ho => by rw [k7 o (by omega), eh3, get_set_ne (by omega)]; exact pre_get' p2 ho
  have b2 := ld1_pre b1 p2
  have b7 : h7.ld1 h.length 0 = some (.int .i64 q) := ld1_set (by rw [row_get (k7' h.length (by omega))]; exact r1) rfl
  have b7z := ld1_set r7 z7
  have hi2 : 0 ≤ q ∧ q < 65 := by omega
  have hl7 : h1.length ≤ h7.length := by rw [len7, eh3]; simp; exact pre_len p2
  refine ⟨h7, p1.trans (pre_of hl7 k7'), ?_⟩
  rw [call_at T42 rfl]
  unfold F42 c42
  simp (disch := first | omega | (simp only [Go.Am.len_push, Go.Am.len_set, Go.Am.len_kill] <;> omega) | fail) only [push_cast, Nat.reduceBEq, Nat.reduceAdd, Nat.reduceMul, Nat.reduceSub, Nat.reduceLT, Nat.reduceGT, Nat.reduceLeDiff, Nat.reduceEqDiff, Int.reduceToNat, Int.reduceAdd, Int.reduceMul, Int.reduceSub, Int.reduceNeg, Int.reduceLT, Int.reduceLE, Int.reduceEq, Nat.zero_add, Nat.add_zero, Nat.mul_one, eq_self, ne_eq, not_true, not_false_iff, and_true, true_and, and_self, List.getElem?_cons_zero, List.getElem?_cons_succ, List.map_cons, List.map_nil, ← eh1, b1, dec_nlt, ← eh2, b2, hi2, ed, b7, b7z]

theorem new_some (q : Int) {p g : Int} {m : Nat} {mod : List Int} (hn : fldN q.toNat = some (p, m, g, mod)) (h : H) : ∃ (h' : H) (F : Nat), h <+: h' ∧ PFld h' F q p m g mod ∧
    call T 42 [.int .i64 q] h = some (.tuple #[.pointer (some ⟨F, 0, none⟩), .int .i64 0], h') := by
  obtain ⟨hq2, hq64⟩ := fldN_le hn
  have hq : 2 ≤ q ∧ q ≤ 64 := by omega
  obtain ⟨h1, eh1⟩ : ∃ h1 : H, h1 = h ++ [.row ⟨[.int .i64 q], 3, 0, true⟩] := ⟨_, rfl⟩
  have r1 : h1.row h.length = some ⟨[.int .i64 q], 3, 0, true⟩ := by rw [eh1]; exact row_push_new
  have p1 : h <+: h1 := by rw [eh1]; exact List.prefix_append _ _
  have b1 := ld1_set (off := 0) (v := .int .i64 q) r1 rfl
  obtain ⟨h2, eh2⟩ : ∃ h2 : H, h2 = h1 ++ [.row ⟨z42_0, 131, 0, true⟩] := ⟨_, rfl⟩
  have p2 : h1 <+: h2 := by rw [eh2]; exact List.prefix_append _ _
  have r2 : h2.row h1.length = some ⟨z42_0, 131, 0, true⟩ := by rw [eh2]; exact row_push_new
  have l1 : h1.length = h.length + 1 := by rw [eh1]; simp
  obtain ⟨h3, eh3, hrun⟩ := once_run q hq h2 h.length h1.length (by omega) (row_pre r1 p2) r2
  obtain ⟨h4, F, p4, hFl, hPF, eb⟩ := build_some q hn h3
  obtain ⟨h7, Z, ed, len7, k7, r7, z7⟩ := hrun h4 (some ⟨F, 0, none⟩) p4 eb
  have l2 : h2.length = h.length + 2 := by rw [eh2]; simp [l1]
  have l3 : h3.length = h.length + 2 := by rw [eh3]; simp [l2]
  have k7' : ∀ o, o < h1.length → h7[o]? = h1[o]? := fun o ho => by
    rw [k7 o (by omega), pre_get' p4 (by omega), eh3, get_set_ne (by omega)]; exact pre_get' p2 ho
  have b2 := ld1_pre b1 p2
  have b7 : h7.ld1 h.length 0 = some (.int .i64 q) := ld1_set (by rw [row_get (k7' h.length (by omega))]; exact r1) rfl
  have b7z := ld1_set r7 z7
  have hi2 : 0 ≤ q ∧ q < 65 := by omega
  have hl7 : h1.length ≤ h7.length := by have := pre_len p4; omega
  refine ⟨h7, F, p1.trans (pre_of hl7 k7'), hPF.keep (fun o ho hl => row_get (k7 o (by omega))), ?_⟩
  rw [call_at T42 rfl]
  unfold F42 c42
  simp (disch := first | omega | (simp only [Go.Am.len_push, Go.Am.len_set, Go.Am.len_kill] <;> omega) | fail) only [push_cast, Nat.reduceBEq, Nat.reduceAdd, Nat.reduceMul, Nat.reduceSub, Nat.reduceLT, Nat.reduceGT, Nat.reduceLeDiff, Nat.reduceEqDiff, Int.reduceToNat, Int.reduceAdd, Int.reduceMul, Int.reduceSub, Int.reduceNeg, Int.reduceLT, Int.reduceLE, Int.reduceEq, Nat.zero_add, Nat.add_zero, Nat.mul_one, eq_self, ne_eq, not_true, not_false_iff, and_true, true_and, and_self, List.getElem?_cons_zero, List.getElem?_cons_succ, List.map_cons, List.map_nil, ← eh1, b1, dec_nlt, ← eh2, b2, hi2, ed, b7, b7z]
end Go.Proofs.Ytammndhoillliaa
