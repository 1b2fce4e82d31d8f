/-
  What goes computes, whole. Conditions: those of each contract.
-/
import Derived.Test.YtdmgkdaiegdfmaaGoes
namespace Go.Proofs.Ytdmgkdaiegdfmaa
open Go.Am
set_option linter.unusedVariables false
set_option linter.unusedSimpArgs false

theorem row_is {h : H} {o : Nat} {r : Row} (hr : h.row o = some r) : h[o]? = some (.row r) := by
  unfold H.row at hr
  split at hr
  · rename_i r' he; cases hr; exact he
  · cases hr

theorem goes_call (h : H) (L m all q nodes a v cnt : Nat) (r : Bool) (hL : h.row L = some ⟨bitsV m all, 4, 1, true⟩) (hq : q ≤ 10) (hn : 0 < nodes) (hn2 : nodes ≤ 1024) (hnq : nodes * q = all) (hall : all ≤ 1024)
    (ha : a < nodes) (hv : v < q) (hm : m.testBit (a * q + v) = true) (hcnt : cnt = pop m all) (he : goesR q nodes m cnt (a * q + v) = some r) :
    ∃ h', call T 22 [.slice (some ⟨L, 0, none⟩) all all, .int .i64 q, .int .i64 nodes, .int .i64 a, .int .i64 v] h = some (.bool r, h') ∧ h <+: h' := by
  have hLl := row_some_lt hL
  have haq : a * q + q ≤ all := by rw [← hnq, ← Nat.succ_mul]; exact Nat.mul_le_mul_right q ha
  obtain ⟨b, hb⟩ : ∃ b, b = a * q := ⟨_, rfl⟩
  rw [← hb] at haq hm he
  have hbI : (a : Int) * (q : Int) = (b : Int) := by rw [hb]; exact (Int.natCast_mul a q).symm
  unfold goesR at he
  simp only [force_eq] at he
  obtain ⟨y, hy⟩ : ∃ y, y = (b + v) % nodes := ⟨_, rfl⟩
  rw [← hy] at he
  have hyl : y < nodes := by rw [hy]; exact Nat.mod_lt _ hn
  have hty : ((b : Int) + (v : Int)).tmod (nodes : Int) = (y : Int) := by
    rw [Int.tmod_eq_emod_of_nonneg (by omega), hy, Int.natCast_emod, Int.natCast_add]
  have hnz : ¬ (nodes : Int) = 0 := by omega
  cases hbf : bfsR q (clr m (b + v)) nodes (nodes + 1) (1 <<< y) [y] 0 with
  | none => rw [hbf] at he; cases he
  | some n =>
  rw [hbf] at he
  cases he
  obtain ⟨h1, hh1⟩ : ∃ h1 : H, h1 = h.set L (.row ⟨bitsV (clr m (b + v)) all, 4, 1, true⟩) := ⟨_, rfl⟩
  have e1 := sts_bit (v := false) hL (i := (b : Int) + (v : Int)) (k := b + v) (by omega) (by omega) (bits_off (m := m) (by omega) hm)
  rw [show (m ^^^ 1 <<< (b + v)) = clr m (b + v) from rfl, ← hh1] at e1
  have hlen : h1.length = h.length := by rw [hh1]; exact len_set
  have hL1 : h1.row L = some ⟨bitsV (clr m (b + v)) all, 4, 1, true⟩ := by rw [hh1]; exact row_set_same hLl
  have hi1 : 0 ≤ (b : Int) + (v : Int) ∧ (b : Int) + (v : Int) < (all : Int) := by omega
  have hi2 : 0 ≤ (y : Int) ∧ (y : Int) < (nodes : Int) := by omega
  have hmk : 0 ≤ (nodes : Int) ∧ (nodes : Int) ≤ (nodes : Int) ∧ (nodes : Int) ≤ 1099511627776 ∧ (nodes : Int) * 1 ≤ 140737488355328 := by omega
  obtain ⟨g, hg⟩ : ∃ g : H, g = h1 ++ [Ob.row ⟨bitsV 0 nodes, 4, 1, true⟩] ++ [Ob.row ⟨[.int .i64 y], 3, 1, true⟩] := ⟨_, rfl⟩
  have hgl : g.length = h1.length + 2 := by rw [hg, len_push, len_push]
  have hg1 : g.row h1.length = some ⟨bitsV 0 nodes, 4, 1, true⟩ := by rw [hg, row_old (by rw [len_push]; omega), row_push_new]
  have hg2 : g.row (h1.length + 1) = some ⟨ints [(y : Int)], 3, 1, true⟩ := by rw [hg, row_new (by rw [len_push])]; rfl
  have e2 := sts_bit (v := true) hg1 (i := (y : Int)) (k := y) rfl hyl (bits_on hyl)
  rw [Nat.zero_or] at e2
  have hs : GS h1 (1 <<< y) nodes (some ⟨h1.length + 1, 0, none⟩) 1 [y] (g.set h1.length (.row ⟨bitsV (1 <<< y) nodes, 4, 1, true⟩)) := {
    kp := fun o ho => by rw [List.getElem?_set_ne (by omega), hg, List.getElem?_append_left (by rw [len_push]; omega), List.getElem?_append_left ho]
    ln := by rw [len_set]; omega
    sr := row_set_same (by omega)
    sk := ⟨h1.length + 1, [(y : Int)], rfl, Nat.le_refl _, by rw [row_set_other (by omega)]; exact hg2, rfl, Nat.le_refl _, Nat.le_refl _⟩
    bd := by intro x hx; rw [List.mem_singleton.mp hx]; exact hyl }
  have hfq : (nodes + 1) * q ≤ 100000 := Nat.le_trans (Nat.mul_le_mul (by omega : nodes + 1 ≤ 2000) hq) (by omega)
  obtain ⟨g', hk, hl', hr, hgo⟩ := bfs_loop h1 L (clr m (b + v)) all q nodes (a : Int) (v : Int) hL1 (by omega) hq hn hn2 hnq hall (nodes + 1) 0 0 (1 <<< y) [y] _ 1 _ n rfl (by omega) (by simp only [List.length_cons, List.length_nil]; omega) hs hbf
  have hL2 : g'.row L = some ⟨bitsV (clr m (b + v)) all, 4, 1, true⟩ := by rw [row_get (hk L (by omega))]; exact hL1
  have e3 := sts_bit (v := true) hL2 (i := (b : Int) + (v : Int)) (k := b + v) (by omega) (by omega) (bits_back (m := m) (by omega) hm)
  have hpop := (pop_xor hm all).1 (by omega)
  have hpl := pop_le (clr m (b + v)) all
  have hres : decide ((n : Int) = (pop (clr m (b + v)) all : Int)) = (n + 1 == cnt) := by
    rw [hcnt, ← hpop]
    show decide ((n : Int) = (pop (clr m (b + v)) all : Int)) = (n + 1 == pop (clr m (b + v)) all + 1)
    by_cases hx : n = pop (clr m (b + v)) all
    · rw [hx]; simp
    · rw [decide_eq_false (by omega)]; symm; simpa using hx
  refine ⟨g'.set L (.row ⟨bitsV m all, 4, 1, true⟩), ?_, ?_⟩
  · rw [call_at T22 rfl]
    unfold F22 c22
    have hgo := hgo
    unfold gs22 at hgo
    have hone : (stI [y]).length = 1 := rfl
    rw [hone] at hgo
    have hz2 : Int.toNat 0 = 0 := rfl
    have hz3 : (0 : Int) < 1 := by omega
    have e4 : g.ld1 (h1.length + 1) 0 = some (.int .i64 y) := by rw [ld1_of hg2]; rfl
    rw [hlen] at hgo e2 e4
    rw [Int.toNat_natCast] at e2
    have hp := fun n ks => pop_loop L (clr m (b + v)) all q (a : Int) (v : Int) n ks g' hL2 hall all 0 0 rfl (by omega)
    rw [pop] at hp
    have hzc : ((0 : Nat) : Int) = 0 := rfl
    rw [hzc] at hp
    simp (disch := first | omega | (simp only [Go.Am.len_push, Go.Am.len_set, Go.Am.len_kill] <;> omega) | fail) only [push_cast, Nat.reduceBEq, Nat.reduceAdd, Nat.reduceMul, Nat.reduceSub, Nat.reduceLT, Nat.reduceLeDiff, Nat.reduceEqDiff, Int.reduceToNat, Int.reduceAdd, Int.reduceMul, Int.reduceSub, Int.reduceNeg, Int.reduceLT, Int.reduceLE, Int.reduceEq, Nat.zero_add, Nat.add_zero, Nat.mul_one, eq_self, ne_eq, not_true, not_false_iff, and_true, true_and, and_self, List.getElem?_cons_zero, List.getElem?_cons_succ, List.map_cons, List.map_nil, hbI, wrap64, hi1, e1, hmk, rep_bit, Int.toNat_natCast, hty, hnz, hz3, len_push, hi2, ← hg, hlen, e4, e2, hgo, hp, e3, hres]
  · refine pre_of (by rw [len_set]; omega) fun o ho => ?_
    by_cases hoL : o = L
    · subst hoL; rw [List.getElem?_set_self (by omega), row_is hL]
    · rw [List.getElem?_set_ne (fun e => hoL e.symm), hk o (by omega), hh1, List.getElem?_set_ne (fun e => hoL e.symm)]
end Go.Proofs.Ytdmgkdaiegdfmaa
