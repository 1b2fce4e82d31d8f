/-
  The value of a polynomial at an element, by the program and by the document. Conditions: a field that lies there, a list that reads as numbers.
-/
import Derived.Test.YtammndhoillliaaFRd
namespace Go.Proofs.Ytammndhoillliaa
open Go.Am
set_option linter.unusedVariables false
set_option linter.unusedSimpArgs false
set_option maxRecDepth 30000

def fvalue (q x : Int) : List Int → Int
  | [] => 0
  | d :: r => fadd q (fmul q (fvalue q x r) x) d

section
variable {h : H} {F : Nat} {q p : Int} {m : Nat} {g : Int} {mod : List Int} {E L om fm cm : Nat}
theorem pvalue_loop (hn : fldN q.toNat = some (p, m, g, mod)) (u : PUse h F q p m g mod E L om fm cm) (hf : FOk q p m mod) {zs : List Int} {o off c : Nat} (hr : RdI h (some ⟨o, off, none⟩) c zs) (hl : zs.length ≤ 1000) (x : Int) :
    ∀ (k : Nat) (s i : Int), i + 1 = (k : Int) → k ≤ zs.length → s = fvalue q x (zs.drop k) →
    ∀ ks, goL T [.tmp 6] [0, 1, 2, 7, 8] c115L0 (.blk 0 [7] :: ks) [(0, .pointer (some ⟨F, 0, none⟩)), (1, .slice (some ⟨o, off, none⟩) zs.length c), (2, .int .i64 x), (7, .int .i64 s), (8, .int .i64 i)] h =
      go T [.tmp 6] ks (Fr.of [(7, .int .i64 (fvalue q x zs))]) h
  | 0, s, i, hi, hk, hs => fun ks => by
    rw [goL_at c115L0.eq_def]
    have : i = -1 := by omega
    subst this hs
    rw [List.drop_zero]
    simp (disch := first | omega | (simp only [Go.Am.len_push, Go.Am.len_set, Go.Am.len_kill] <;> omega) | fail) only [push_cast, Nat.reduceBEq, Nat.reduceAdd, Nat.reduceMul, Nat.reduceSub, Nat.reduceLT, Nat.reduceGT, Nat.reduceLeDiff, Nat.reduceEqDiff, Int.reduceToNat, Int.reduceAdd, Int.reduceMul, Int.reduceSub, Int.reduceNeg, Int.reduceLT, Int.reduceLE, Int.reduceEq, Nat.zero_add, Nat.add_zero, Nat.mul_one, eq_self, ne_eq, not_true, not_false_iff, and_true, true_and, and_self, List.getElem?_cons_zero, List.getElem?_cons_succ, List.map_cons, List.map_nil, dec_nle]
  | k + 1, s, i, hi, hk, hs => fun ks => by
    obtain rfl : i = (k : Int) := by omega
    have e1 := hr.ld (i := (k : Int)) (by omega) (by omega)
    have hi1 : 0 ≤ (k : Int) ∧ (k : Int) < (zs.length : Int) := by omega
    have hd : zs.drop k = gi zs k :: zs.drop (k + 1) := drop_gi (by omega)
    have em := pmul_call hn u s x
    have ea := padd_call hn u hf (fmul q s x) (gi zs k)
    have hn' : fvalue q x (zs.drop k) = fadd q (fmul q s x) (gi zs k) := by rw [hd, fvalue, ← hs]
    have hol : decide (o < h.length) = true := by
      obtain ⟨_, _, e, h1, _⟩ := hr.addr (by omega)
      cases e; exact decide_eq_true h1
    rw [← pvalue_loop hn u hf hr hl x k (fadd q (fmul q s x) (gi zs k)) ((k : Int) - 1) (by omega) (by omega) hn'.symm ks]
    rw [goL_at c115L0.eq_def]
    simp (disch := first | omega | (simp only [Go.Am.len_push, Go.Am.len_set, Go.Am.len_kill] <;> omega) | fail) only [push_cast, Nat.reduceBEq, Nat.reduceAdd, Nat.reduceMul, Nat.reduceSub, Nat.reduceLT, Nat.reduceGT, Nat.reduceLeDiff, Nat.reduceEqDiff, Int.reduceToNat, Int.reduceAdd, Int.reduceMul, Int.reduceSub, Int.reduceNeg, Int.reduceLT, Int.reduceLE, Int.reduceEq, Nat.zero_add, Nat.add_zero, Nat.mul_one, eq_self, ne_eq, not_true, not_false_iff, and_true, true_and, and_self, List.getElem?_cons_zero, List.getElem?_cons_succ, List.map_cons, List.map_nil, dec_le, em, behind_true (List.prefix_refl h), hi1, hol, e1, ea, wrap64]
theorem pvalue_call (hn : fldN q.toNat = some (p, m, g, mod)) (u : PUse h F q p m g mod E L om fm cm) (hf : FOk q p m mod) {zs : List Int} {o off c : Nat} (hr : RdI h (some ⟨o, off, none⟩) c zs) (hl : zs.length ≤ 1000) (x : Int) :
    call T 115 [.pointer (some ⟨F, 0, none⟩), .slice (some ⟨o, off, none⟩) zs.length c, .int .i64 x] h = some (.int .i64 (fvalue q x zs), h) := by
  have lo := pvalue_loop hn u hf hr hl x zs.length 0 ((zs.length : Int) - 1) (by omega) (Nat.le_refl _) (by rw [List.drop_length]; rfl)
  rw [call_at T115 rfl]
  unfold F115 c115
  simp (disch := first | omega | (simp only [Go.Am.len_push, Go.Am.len_set, Go.Am.len_kill] <;> omega) | fail) only [push_cast, Nat.reduceBEq, Nat.reduceAdd, Nat.reduceMul, Nat.reduceSub, Nat.reduceLT, Nat.reduceGT, Nat.reduceLeDiff, Nat.reduceEqDiff, Int.reduceToNat, Int.reduceAdd, Int.reduceMul, Int.reduceSub, Int.reduceNeg, Int.reduceLT, Int.reduceLE, Int.reduceEq, Nat.zero_add, Nat.add_zero, Nat.mul_one, eq_self, ne_eq, not_true, not_false_iff, and_true, true_and, and_self, List.getElem?_cons_zero, List.getElem?_cons_succ, List.map_cons, List.map_nil, wrap64]
  rw [lo]
  simp (disch := first | omega | (simp only [Go.Am.len_push, Go.Am.len_set, Go.Am.len_kill] <;> omega) | fail) only [push_cast, Nat.reduceBEq, Nat.reduceAdd, Nat.reduceMul, Nat.reduceSub, Nat.reduceLT, Nat.reduceGT, Nat.reduceLeDiff, Nat.reduceEqDiff, Int.reduceToNat, Int.reduceAdd, Int.reduceMul, Int.reduceSub, Int.reduceNeg, Int.reduceLT, Int.reduceLE, Int.reduceEq, Nat.zero_add, Nat.add_zero, Nat.mul_one, eq_self, ne_eq, not_true, not_false_iff, and_true, true_and, and_self, List.getElem?_cons_zero, List.getElem?_cons_succ, List.map_cons, List.map_nil]
end
section
variable {h : H} {q p : Int} {m : Nat} {g : Int} {mod : List Int} {om cm : Nat}
theorem rvalue_loop {h1 : H} {B : Nat} (u : RUse h1 q p m g mod om cm) (hB : h1.row B = some ⟨fvL q p m g (.slice (some ⟨om, 0, none⟩) mod.length cm), 67, 0, true⟩) {zs : List Int} {o off c : Nat} (hr : RdI h1 (some ⟨o, off, none⟩) c zs) (hl : zs.length ≤ 1000) (x : Int) :
    ∀ (k : Nat) (s i : Int) (G : H), i + 1 = (k : Int) → k ≤ zs.length → s = fvalue q x (zs.drop k) → h1 <+: G → ∃ G' : H, h1 <+: G' ∧
    ∀ ks, goL T [.tmp 6] [1, 2, 3, 7, 8] c117L0 (.blk 0 [7] :: ks) [(1, .slice (some ⟨o, off, none⟩) zs.length c), (2, .int .i64 x), (3, .pointer (some ⟨B, 0, none⟩)), (7, .int .i64 s), (8, .int .i64 i)] G =
      go T [.tmp 6] ks (Fr.of [(7, .int .i64 (fvalue q x zs))]) G'
  | 0, s, i, G, hi, hk, hs, hp => by
    refine ⟨G, hp, fun ks => ?_⟩
    rw [goL_at c117L0.eq_def]
    have : i = -1 := by omega
    subst this hs
    rw [List.drop_zero]
    simp (disch := first | omega | (simp only [Go.Am.len_push, Go.Am.len_set, Go.Am.len_kill] <;> omega) | fail) only [push_cast, Nat.reduceBEq, Nat.reduceAdd, Nat.reduceMul, Nat.reduceSub, Nat.reduceLT, Nat.reduceGT, Nat.reduceLeDiff, Nat.reduceEqDiff, Int.reduceToNat, Int.reduceAdd, Int.reduceMul, Int.reduceSub, Int.reduceNeg, Int.reduceLT, Int.reduceLE, Int.reduceEq, Nat.zero_add, Nat.add_zero, Nat.mul_one, eq_self, ne_eq, not_true, not_false_iff, and_true, true_and, and_self, List.getElem?_cons_zero, List.getElem?_cons_succ, List.map_cons, List.map_nil, dec_nle]
  | k + 1, s, i, G, hi, hk, hs, hp => by
    obtain rfl : i = (k : Int) := by omega
    have hi1 : 0 ≤ (k : Int) ∧ (k : Int) < (zs.length : Int) := by omega
    have hd : zs.drop k = gi zs k :: zs.drop (k + 1) := drop_gi (by omega)
    have l1 := lds_all (row_pre hB hp) (n := 5) rfl
    obtain ⟨G1, p1, em⟩ := rmul_call (u.mono hp) s x
    have l2 := lds_all (row_pre hB (hp.trans p1)) (n := 5) rfl
    have e1 := (hr.mono (hp.trans p1)).ld (i := (k : Int)) (by omega) (by omega)
    obtain ⟨G2, p2, ea⟩ := radd_call (u.mono (hp.trans p1)) (fmul q s x) (gi zs k)
    have hn' : fvalue q x (zs.drop k) = fadd q (fmul q s x) (gi zs k) := by rw [hd, fvalue, ← hs]
    obtain ⟨G3, p3, ih⟩ := rvalue_loop u hB hr hl x k (fadd q (fmul q s x) (gi zs k)) ((k : Int) - 1) G2 (by omega) (by omega) hn'.symm ((hp.trans p1).trans p2)
    refine ⟨G3, p3, fun ks => ?_⟩
    rw [← ih ks, goL_at c117L0.eq_def]
    simp (disch := first | omega | (simp only [Go.Am.len_push, Go.Am.len_set, Go.Am.len_kill] <;> omega) | fail) only [push_cast, Nat.reduceBEq, Nat.reduceAdd, Nat.reduceMul, Nat.reduceSub, Nat.reduceLT, Nat.reduceGT, Nat.reduceLeDiff, Nat.reduceEqDiff, Int.reduceToNat, Int.reduceAdd, Int.reduceMul, Int.reduceSub, Int.reduceNeg, Int.reduceLT, Int.reduceLE, Int.reduceEq, Nat.zero_add, Nat.add_zero, Nat.mul_one, eq_self, ne_eq, not_true, not_false_iff, and_true, true_and, and_self, List.getElem?_cons_zero, List.getElem?_cons_succ, List.map_cons, List.map_nil, dec_le, l1, em, l2, hi1, e1, ea, wrap64]
theorem rvalue_call (u : RUse h q p m g mod om cm) {zs : List Int} {o off c : Nat} (hr : RdI h (some ⟨o, off, none⟩) c zs) (hl : zs.length ≤ 1000) (x : Int) :
    ∃ h' : H, h <+: h' ∧ call T 117 [rv q p m g mod om cm, .slice (some ⟨o, off, none⟩) zs.length c, .int .i64 x] h = some (.int .i64 (fvalue q x zs), h') := by
  obtain ⟨h1, eh1⟩ : ∃ h1 : H, h1 = h ++ [rvR q p m g mod om cm] := ⟨_, rfl⟩
  have r1 : h1.row h.length = some ⟨fvL q p m g (.slice (some ⟨om, 0, none⟩) mod.length cm), 67, 0, true⟩ := by rw [eh1]; exact row_push_new
  have p1 : h <+: h1 := by rw [eh1]; exact List.prefix_append _ _
  obtain ⟨h2, p2, lo⟩ := rvalue_loop (u.mono p1) r1 (hr.mono p1) hl x zs.length 0 ((zs.length : Int) - 1) h1 (by omega) (Nat.le_refl _) (by rw [List.drop_length]; rfl) (List.prefix_refl _)
  refine ⟨h2, p1.trans p2, ?_⟩
  rw [call_at T117 rfl]
  unfold F117 c117
  simp (disch := first | omega | (simp only [Go.Am.len_push, Go.Am.len_set, Go.Am.len_kill] <;> omega) | fail) only [push_cast, Nat.reduceBEq, Nat.reduceAdd, Nat.reduceMul, Nat.reduceSub, Nat.reduceLT, Nat.reduceGT, Nat.reduceLeDiff, Nat.reduceEqDiff, Int.reduceToNat, Int.reduceAdd, Int.reduceMul, Int.reduceSub, Int.reduceNeg, Int.reduceLT, Int.reduceLE, Int.reduceEq, Nat.zero_add, Nat.add_zero, Nat.mul_one, eq_self, ne_eq, not_true, not_false_iff, and_true, true_and, and_self, List.getElem?_cons_zero, List.getElem?_cons_succ, List.map_cons, List.map_nil, ← eh1, wrap64]
  rw [lo]
  simp (disch := first | omega | (simp only [Go.Am.len_push, Go.Am.len_set, Go.Am.len_kill] <;> omega) | fail) only [push_cast, Nat.reduceBEq, Nat.reduceAdd, Nat.reduceMul, Nat.reduceSub, Nat.reduceLT, Nat.reduceGT, Nat.reduceLeDiff, Nat.reduceEqDiff, Int.reduceToNat, Int.reduceAdd, Int.reduceMul, Int.reduceSub, Int.reduceNeg, Int.reduceLT, Int.reduceLE, Int.reduceEq, Nat.zero_add, Nat.add_zero, Nat.mul_one, eq_self, ne_eq, not_true, not_false_iff, and_true, true_and, and_self, List.getElem?_cons_zero, List.getElem?_cons_succ, List.map_cons, List.map_nil]
end

/-- the first power of a step at which a polynomial is 0 -/
def rootN (q st : Int) (zs : List Int) : Nat → Int → Option Int
  | 0, _ => none
  | n + 1, j => bif decide (fvalue q (fexp q (j * st % (q - 1))) zs = 0) then some (fexp q (j * st % (q - 1))) else rootN q st zs n (j + 1)
def rootCheck (n s : Nat) : Bool := match fldN n, fldN s with
  | some (p, m, _, mod), some (p', m', _, _) => bif decide (p = p') && decide (m' % m = 0) && decide (1 < m) then (rootN s (((s : Int) - 1) / ((n : Int) - 1)) mod 64 1).isSome else true
  | _, _ => true
theorem root_checked : ((List.range 63).all fun n => (List.range 63).all fun s => rootCheck (n + 2) (s + 2)) = true := by kernel_rfl
theorem root_some {q s p p' g g' : Int} {m m' : Nat} {mod mod' : List Int} (hn : fldN q.toNat = some (p, m, g, mod)) (hs : fldN s.toNat = some (p', m', g', mod')) (hp : p = p') (hm : m' % m = 0) (h1 : 1 < m) :
    ∃ r, rootN s ((s - 1) / (q - 1)) mod 64 1 = some r := by
  obtain ⟨h2, h64⟩ := fldN_le hn
  obtain ⟨s2, s64⟩ := fldN_le hs
  have h := List.all_eq_true.1 (List.all_eq_true.1 root_checked (q.toNat - 2) (List.mem_range.2 (by omega))) (s.toNat - 2) (List.mem_range.2 (by omega))
  rw [show q.toNat - 2 + 2 = q.toNat by omega, show s.toNat - 2 + 2 = s.toNat by omega] at h
  unfold rootCheck at h
  rw [hn, hs] at h
  simp only [decide_eq_true hp, decide_eq_true hm, decide_eq_true h1, Bool.and_self, cond_true] at h
  rw [show ((q.toNat : Nat) : Int) = q by omega, show ((s.toNat : Nat) : Int) = s by omega] at h
  exact Option.isSome_iff_exists.1 h
end Go.Proofs.Ytammndhoillliaa
