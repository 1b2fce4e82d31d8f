/-
  What digits.Ring's inner function and digits.Ring compute. Conditions: those of each contract.
-/
import Derived.Test.YtdmgkdaiegdfmaaRing
import Derived.Test.YtdmgkdaiegdfmaaRingPure
import Derived.Test.YtdmgkdaiegdfmaaAm17
namespace Go.Proofs.Ytdmgkdaiegdfmaa
open Go.Am
set_option linter.unusedVariables false
set_option linter.unusedSimpArgs false

/-! ### the state of memory -/
structure RS (h0 : H) (q n : Int) (w out : List Int) (g : H) : Prop where
  pre : h0 <+: g
  qb : g.row h0.length = some ⟨[.int .i64 q], 3, 0, true⟩
  nb : g.row (h0.length + 1) = some ⟨[.int .i64 n], 3, 0, true⟩
  wa : g.row (h0.length + 3) = some ⟨ints w, 3, 1, true⟩
  wb : g.row (h0.length + 4) = some ⟨[.slice (some ⟨h0.length + 3, 0, none⟩) (n + 1).toNat (n + 1).toNat], 26, 0, true⟩
  gb : g.row (h0.length + 5) = some ⟨[.func (.func 21) #[] #[.pointer (some ⟨h0.length + 1, 0, none⟩), .pointer (some ⟨h0.length + 2, 0, none⟩), .pointer (some ⟨h0.length + 4, 0, none⟩), .pointer (some ⟨h0.length + 5, 0, none⟩), .pointer (some ⟨h0.length, 0, none⟩)]], 46, 0, true⟩
  ob : ∃ sa, g.row (h0.length + 2) = some ⟨[.slice sa out.length out.length], 26, 0, true⟩ ∧ Grown g sa out.length out (h0.length + 6)

theorem RS.len {h0 : H} {q n : Int} {w out : List Int} {g : H} (hs : RS h0 q n w out g) : h0.length + 6 ≤ g.length := by
  have := row_some_lt hs.gb; omega
theorem RS.put {h0 : H} {q n : Int} {w out : List Int} {g : H} (hs : RS h0 q n w out g) {i : Nat} {v : Int} : RS h0 q n (w.set i v) out (g.set (h0.length + 3) (.row ⟨ints (w.set i v), 3, 1, true⟩)) := by
  have hl := hs.len
  obtain ⟨sa, h1, h2⟩ := hs.ob
  exact {
    pre := pre_set hs.pre (by omega)
    qb := by rw [row_set_other (by omega)]; exact hs.qb
    nb := by rw [row_set_other (by omega)]; exact hs.nb
    wa := row_set_same (by omega)
    wb := by rw [row_set_other (by omega)]; exact hs.wb
    gb := by rw [row_set_other (by omega)]; exact hs.gb
    ob := ⟨sa, by rw [row_set_other (by omega)]; exact h1, h2.carry (fun o ho _ => row_set_other (by omega))⟩ }

/-- what the captured names are -/
def capt (N : Nat) : List Value := [.pointer (some ⟨N + 1, 0, none⟩), .pointer (some ⟨N + 2, 0, none⟩), .pointer (some ⟨N + 4, 0, none⟩), .pointer (some ⟨N + 5, 0, none⟩), .pointer (some ⟨N, 0, none⟩)]

abbrev growGoal (h0 : H) (q n : Int) (a p : Int) (g : H) (s' : List Int × List Int) : Prop :=
  ∃ g', call T 21 [.int .i64 a, .int .i64 p, .pointer (some ⟨h0.length + 1, 0, none⟩), .pointer (some ⟨h0.length + 2, 0, none⟩), .pointer (some ⟨h0.length + 4, 0, none⟩), .pointer (some ⟨h0.length + 5, 0, none⟩), .pointer (some ⟨h0.length, 0, none⟩)] g = some (.tuple #[], g') ∧ RS h0 q n s'.1 s'.2 g'

theorem vary_loop (h0 : H) (q n a : Int) (hq : q ≤ 10) (hn : n ≤ 10) (ha : 1 ≤ a) (han : a ≤ n) (f : List Int × List Int → Option (List Int × List Int))
    (ih : ∀ w out g s', RS h0 q n w out g → f (w, out) = some s' → growGoal h0 q n (a + 1) a g s')
    (hf : ∀ s s', f s = some s' → s.1.length = (n + 1).toNat) : ∀ (j : Nat) (v : Int) (w out : List Int) (g : H) (s' : List Int × List Int), 0 ≤ v → v ≤ 200 → RS h0 q n w out g → vary f q a.toNat j v (w, out) = some s' →
    ∃ g', goL T [] [0, 4, 5, 6, 9] c21L0 [.blk 0 []] [(0, .int .i64 a), (4, .pointer (some ⟨h0.length + 4, 0, none⟩)), (5, .pointer (some ⟨h0.length + 5, 0, none⟩)), (6, .pointer (some ⟨h0.length, 0, none⟩)), (9, .int .i64 v)] g = some (.tuple #[], g') ∧ RS h0 q n s'.1 s'.2 g'
  | 0, v, w, out, g, s', hv, hv2, hs, he => by
    unfold vary at he
    by_cases hvq : v < q
    · rw [if_pos hvq] at he; cases he
    rw [if_neg hvq] at he
    cases he
    refine ⟨g, ?_, hs⟩
    rw [goL_at c21L0.eq_def]
    have e1 := ld1_of hs.qb 0
    simp (disch := first | omega | (simp only [Go.Am.len_push, Go.Am.len_set, Go.Am.len_kill] <;> omega) | fail) only [push_cast, Nat.reduceBEq, Nat.reduceAdd, Nat.reduceMul, Nat.reduceSub, Nat.reduceLT, Nat.reduceLeDiff, Nat.reduceEqDiff, Int.reduceToNat, Int.reduceAdd, Int.reduceMul, Int.reduceSub, Int.reduceNeg, Int.reduceLT, Int.reduceLE, Int.reduceEq, Nat.zero_add, Nat.add_zero, Nat.mul_one, eq_self, ne_eq, not_true, not_false_iff, and_true, true_and, and_self, List.getElem?_cons_zero, List.getElem?_cons_succ, List.map_cons, List.map_nil, e1, dec_nlt]
  | j + 1, v, w, out, g, s', hv, hv2, hs, he => by
    unfold vary at he
    have e1 := ld1_of hs.qb 0
    by_cases hvq : v < q
    · rw [if_pos hvq] at he
      cases hf' : f (w.set a.toNat v, out) with
      | none => simp only [hf'] at he; cases he
      | some s1 =>
        simp only [hf'] at he
        have hw : w.length = (n + 1).toNat := by have := hf _ _ hf'; simpa using this
        obtain ⟨g1, hc, hs1⟩ := ih _ _ _ _ (hs.put (i := a.toNat) (v := v)) hf'
        obtain ⟨g2, hl, hs2⟩ := vary_loop h0 q n a hq hn ha han f ih hf j (v + 1) s1.1 s1.2 g1 s' (by omega) (by omega) hs1 he
        refine ⟨g2, ?_, hs2⟩
        rw [goL_at c21L0.eq_def]
        have e2 := ld1_of hs.wb 0
        have e3 := ld1_of (hs.put (i := a.toNat) (v := v)).gb 0
        have e4 := sts_int (v := v) hs.wa (i := a) (by omega) (by omega)
        have hi : 0 ≤ a ∧ a < ((n + 1).toNat : Int) := by omega
        simp (disch := first | omega | (simp only [Go.Am.len_push, Go.Am.len_set, Go.Am.len_kill] <;> omega) | fail) only [push_cast, Nat.reduceBEq, Nat.reduceAdd, Nat.reduceMul, Nat.reduceSub, Nat.reduceLT, Nat.reduceLeDiff, Nat.reduceEqDiff, Int.reduceToNat, Int.reduceAdd, Int.reduceMul, Int.reduceSub, Int.reduceNeg, Int.reduceLT, Int.reduceLE, Int.reduceEq, Nat.zero_add, Nat.add_zero, Nat.mul_one, eq_self, ne_eq, not_true, not_false_iff, and_true, true_and, and_self, List.getElem?_cons_zero, List.getElem?_cons_succ, List.map_cons, List.map_nil, e1, e2, dec_lt, hi, e4, e3, wrap64, hc]
        exact hl
    · rw [if_neg hvq] at he
      cases he
      refine ⟨g, ?_, hs⟩
      rw [goL_at c21L0.eq_def]
      simp (disch := first | omega | (simp only [Go.Am.len_push, Go.Am.len_set, Go.Am.len_kill] <;> omega) | fail) only [push_cast, Nat.reduceBEq, Nat.reduceAdd, Nat.reduceMul, Nat.reduceSub, Nat.reduceLT, Nat.reduceLeDiff, Nat.reduceEqDiff, Int.reduceToNat, Int.reduceAdd, Int.reduceMul, Int.reduceSub, Int.reduceNeg, Int.reduceLT, Int.reduceLE, Int.reduceEq, Nat.zero_add, Nat.add_zero, Nat.mul_one, eq_self, ne_eq, not_true, not_false_iff, and_true, true_and, and_self, List.getElem?_cons_zero, List.getElem?_cons_succ, List.map_cons, List.map_nil, e1, dec_nlt]

theorem growP_len {q n : Int} {k : Nat} {a p : Int} {s s' : List Int × List Int} (h : growP q n k a p s = some s') : s.1.length = (n + 1).toNat := by
  cases k with
  | zero =>
    unfold growP at h
    split at h
    · rename_i hc; exact hc.2.2.2
    · cases h
  | succ k =>
    unfold growP at h
    split at h
    · rename_i hc; exact hc.2.2
    · cases h

theorem grow_call (h0 : H) (q n : Int) (hq : q ≤ 10) (hn : n ≤ 10) (hn1 : 1 ≤ n) : ∀ (k : Nat) (a p : Int) (w out : List Int) (g : H) (s' : List Int × List Int), n + 1 = a + k → RS h0 q n w out g → growP q n k a p (w, out) = some s' → growGoal h0 q n a p g s'
  | 0, a, p, w, out, g, s', hk, hs, he => by
    unfold growP at he
    have hc : 1 ≤ p ∧ p ≤ n ∧ out.length ≤ 5000 ∧ w.length = (n + 1).toNat := by
      by_cases hc : 1 ≤ p ∧ p ≤ n ∧ out.length ≤ 5000 ∧ w.length = (n + 1).toNat
      · exact hc
      · simp only [] at he; rw [if_neg hc] at he; cases he
    simp only [] at he
    rw [if_pos hc] at he
    obtain ⟨hc1, hc2, hc3, hc4⟩ := hc
    unfold growGoal
    rw [call_at T21 rfl]
    unfold F21 c21
    have e1 := ld1_of hs.nb 0
    have e2 := ld1_of hs.wb 0
    obtain ⟨sa, hob, hgr⟩ := hs.ob
    have e3 := ld1_of hob 0
    have hp0 : ¬ p = 0 := by omega
    by_cases hm : n.tmod p = 0
    · rw [if_pos hm] at he
      cases he
      have hys : ((w.drop 1).take p.toNat).length = p.toNat := by simp; omega
      obtain ⟨sa', g', ha, hgr', hgl, hkeep, hpre⟩ := hgr.app (x := .slice (some ⟨h0.length + 3, 1, none⟩) p.toNat n.toNat) ⟨_, _, _, rfl, hys.symm⟩ (by
          unfold srcCells
          simp only [hys]
          rw [if_neg (by omega), if_pos (Nat.le_refl _)]
          simp only [none_isNone, if_true, Nat.mul_one]
          exact lds_int hs.wa (by omega)) (by intro e; rw [e] at hys; simp at hys; omega) (by rw [hys]; omega) hs.len
      have hl := hs.len
      have hob' : g'.row (h0.length + 2) = some ⟨[.slice sa out.length out.length], 26, 0, true⟩ := by rw [hkeep _ (by omega)]; exact hob
      have e5 := sts_one (v' := .slice sa' (out ++ (w.drop 1).take p.toNat).length (out ++ (w.drop 1).take p.toNat).length) hob'
      refine ⟨g'.set (h0.length + 2) (.row ⟨[.slice sa' (out ++ (w.drop 1).take p.toNat).length (out ++ (w.drop 1).take p.toNat).length], 26, 0, true⟩), ?_, ?_⟩
      · have hcap : ¬ (((n + 1).toNat : Int) = 1) := by omega
        have hsl : (0 : Int) ≤ 1 ∧ 1 ≤ p + 1 ∧ p + 1 ≤ ((n + 1).toNat : Int) ∧ unitOk g 1 (some ⟨h0.length + 3, 0, none⟩) = true := ⟨by omega, by omega, by omega, by unfold unitOk; simp only [hs.wa]; rfl⟩
        have z1 : (p + 1 - 1).toNat = p.toNat := by omega
        have z2 : (((n + 1).toNat : Int) - 1).toNat = n.toNat := by omega
        simp (disch := first | omega | (simp only [Go.Am.len_push, Go.Am.len_set, Go.Am.len_kill] <;> omega) | fail) only [push_cast, Nat.reduceBEq, Nat.reduceAdd, Nat.reduceMul, Nat.reduceSub, Nat.reduceLT, Nat.reduceLeDiff, Nat.reduceEqDiff, Int.reduceToNat, Int.reduceAdd, Int.reduceMul, Int.reduceSub, Int.reduceNeg, Int.reduceLT, Int.reduceLE, Int.reduceEq, Nat.zero_add, Nat.add_zero, Nat.mul_one, eq_self, ne_eq, not_true, not_false_iff, and_true, true_and, and_self, List.getElem?_cons_zero, List.getElem?_cons_succ, List.map_cons, List.map_nil, e1, e2, e3, dec_lt, wrap64, dec_eq hm, hp0, hsl, hcap, z1, z2, ha, e5]
      · exact {
          pre := pre_set (hpre _ (by omega) hs.pre) (by omega)
          qb := by rw [row_set_other (by omega), hkeep _ (by omega)]; exact hs.qb
          nb := by rw [row_set_other (by omega), hkeep _ (by omega)]; exact hs.nb
          wa := by rw [row_set_other (by omega), hkeep _ (by omega)]; exact hs.wa
          wb := by rw [row_set_other (by omega), hkeep _ (by omega)]; exact hs.wb
          gb := by rw [row_set_other (by omega), hkeep _ (by omega)]; exact hs.gb
          ob := ⟨sa', row_set_same (by omega), hgr'.carry (fun o ho _ => row_set_other (by omega))⟩ }
    · rw [if_neg hm] at he
      cases he
      refine ⟨g, ?_, hs⟩
      simp (disch := first | omega | (simp only [Go.Am.len_push, Go.Am.len_set, Go.Am.len_kill] <;> omega) | fail) only [push_cast, Nat.reduceBEq, Nat.reduceAdd, Nat.reduceMul, Nat.reduceSub, Nat.reduceLT, Nat.reduceLeDiff, Nat.reduceEqDiff, Int.reduceToNat, Int.reduceAdd, Int.reduceMul, Int.reduceSub, Int.reduceNeg, Int.reduceLT, Int.reduceLE, Int.reduceEq, Nat.zero_add, Nat.add_zero, Nat.mul_one, eq_self, ne_eq, not_true, not_false_iff, and_true, true_and, and_self, List.getElem?_cons_zero, List.getElem?_cons_succ, List.map_cons, List.map_nil, e1, e2, e3, dec_lt, dec_ne hm, hp0]
  | k + 1, a, p, w, out, g, s', hk, hs, he => by
    unfold growP at he
    simp only [] at he
    have hc : 1 ≤ p ∧ p ≤ a ∧ w.length = (n + 1).toNat := by
      by_cases hc : 1 ≤ p ∧ p ≤ a ∧ w.length = (n + 1).toNat
      · exact hc
      · rw [if_neg hc] at he; cases he
    rw [if_pos hc] at he
    obtain ⟨hc1, hc2, hc3⟩ := hc
    cases hg1 : growP q n k (a + 1) p (w.set a.toNat (gi w (a - p)), out) with
    | none => simp only [hg1] at he; cases he
    | some s1 =>
      simp only [hg1] at he
      have hd : s1.1.length = (n + 1).toNat ∧ 0 ≤ gi s1.1 (a - p) ∧ gi s1.1 (a - p) ≤ 100 := by
        by_cases hd : s1.1.length = (n + 1).toNat ∧ 0 ≤ gi s1.1 (a - p) ∧ gi s1.1 (a - p) ≤ 100
        · exact hd
        · rw [if_neg hd] at he; cases he
      rw [if_pos hd] at he
      obtain ⟨hd1, hd2, hd3⟩ := hd
      obtain ⟨g1, hcall, hs1⟩ := grow_call h0 q n hq hn hn1 k (a + 1) p _ _ _ _ (by omega) (hs.put (i := a.toNat) (v := gi w (a - p))) hg1
      obtain ⟨g2, hloop, hs2⟩ := vary_loop h0 q n a hq hn (by omega) (by omega) (growP q n k (a + 1) a)
        (fun w' out' g' s'' hs' he' => grow_call h0 q n hq hn hn1 k (a + 1) a w' out' g' s'' (by omega) hs' he') (fun s s'' h' => growP_len h') 11 (gi s1.1 (a - p) + 1) s1.1 s1.2 g1 s' (by omega) (by omega) hs1 he
      refine ⟨g2, ?_, hs2⟩
      rw [call_at T21 rfl]
      unfold F21 c21
      have e1 := ld1_of hs.nb 0
      have e2 := ld1_of hs.wb 0
      have e3 := ld1_of (hs.put (i := a.toNat) (v := gi w (a - p))).gb 0
      have e4 := sts_int (v := gi w (a - p)) hs.wa (i := a) (by omega) (by omega)
      have e5 := ld1_int hs.wa (i := a - p) (by omega) (by omega)
      have e6 := ld1_of hs1.wb 0
      have e7 := ld1_int hs1.wa (i := a - p) (by omega) (by omega)
      have hi : 0 ≤ a ∧ a < ((n + 1).toNat : Int) := by omega
      have hi2 : 0 ≤ a - p ∧ a - p < ((n + 1).toNat : Int) := by omega
      simp (disch := first | omega | (simp only [Go.Am.len_push, Go.Am.len_set, Go.Am.len_kill] <;> omega) | fail) only [push_cast, Nat.reduceBEq, Nat.reduceAdd, Nat.reduceMul, Nat.reduceSub, Nat.reduceLT, Nat.reduceLeDiff, Nat.reduceEqDiff, Int.reduceToNat, Int.reduceAdd, Int.reduceMul, Int.reduceSub, Int.reduceNeg, Int.reduceLT, Int.reduceLE, Int.reduceEq, Nat.zero_add, Nat.add_zero, Nat.mul_one, eq_self, ne_eq, not_true, not_false_iff, and_true, true_and, and_self, List.getElem?_cons_zero, List.getElem?_cons_succ, List.map_cons, List.map_nil, e1, e2, e3, dec_nlt, wrap64, hi, hi2, e4, e5, hcall, e6, e7]
      exact hloop
end Go.Proofs.Ytdmgkdaiegdfmaa
