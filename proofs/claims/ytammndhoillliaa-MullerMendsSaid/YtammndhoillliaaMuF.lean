/-
  Words of bits: muller.row, add. Condition: few levels.
  muller.add's call, muller.votes. Condition: few levels.
  The document's MullerWord and Apart. Condition: few levels.
  muller.add's call, the document's MullerWord's call, code.Weight. Condition: few levels.
-/
import Derived.Test.YtammndhoillliaaMuC
namespace Go.Proofs.Ytammndhoillliaa
open Go.Am
set_option linter.unusedVariables false
set_option linter.unusedSimpArgs false
set_option maxRecDepth 30000

def bI (b : Bool) : Int := if b then 1 else 0
def wl (N : Nat) (f : Nat → Bool) : List Int := (List.range N).map fun x : Nat => bI (f x)
theorem wl_len (N : Nat) (f : Nat → Bool) : (wl N f).length = N := by simp [wl]
theorem gi_wl {N x : Nat} (f : Nat → Bool) (hx : x < N) : gi (wl N f) x = bI (f x) := by
  unfold gi wl; rw [List.getD_eq_getElem?_getD, Int.toNat_natCast, List.getElem?_map, List.getElem?_range hx]; rfl
theorem wl_congr {N : Nat} {f g : Nat → Bool} (h : ∀ x, x < N → f x = g x) : wl N f = wl N g := by
  unfold wl
  refine List.map_congr_left fun x hx => ?_
  rw [h x (List.mem_range.1 hx)]
theorem wl_set {N i : Nat} (f g : Nat → Bool) (hi : i < N) (h1 : ∀ x, x < N → x ≠ i → g x = f x) : (wl N f).set i (bI (g i)) = wl N g := by
  refine gi_ext (by simp [wl_len]) fun x hx => ?_
  rw [List.length_set, wl_len] at hx
  rw [gi_set (by rw [wl_len]; exact hi), gi_wl g hx]
  by_cases he : i = x
  · rw [if_pos he, he]
  · rw [if_neg he, gi_wl f hx, h1 x hx fun e => he e.symm]
theorem and_checked : ((List.range 32).all fun x : Nat => (List.range 32).all fun s : Nat => decide (Go.bits .and .i64 (x : Int) (s : Int) = ((x &&& s : Nat) : Int))) = true := by kernel_rfl
theorem and_is {x s : Nat} (hx : x < 32) (hs : s < 32) : Go.bits .and .i64 (x : Int) (s : Int) = ((x &&& s : Nat) : Int) :=
  of_decide_eq_true (List.all_eq_true.1 (List.all_eq_true.1 and_checked x (List.mem_range.2 hx)) s (List.mem_range.2 hs))
theorem xor_is (a b : Bool) : Go.bits .xor .i64 (bI a) (bI b) = bI (a ^^ b) := by cases a <;> cases b <;> kernel_rfl
section
variable {hF : H}
theorem prow_loop {s N o : Nat} (hs : s < 32) (hN : N ≤ 32) (ho : hF.length ≤ o) : ∀ (n i : Nat) (G : H), i + n = N → hF <+: G → G.row o = some ⟨ints (wl N fun x => decide (x < i) && inM s x), 3, 1, true⟩ →
    ∃ G' : H, hF <+: G' ∧ G'.row o = some ⟨ints (wl N (inM s)), 3, 1, true⟩ ∧ ∀ ks,
      goL T [.tmp 4] [0, 5, 11, 12] c102L0 (.blk 0 [5] :: ks) [(0, .int .i64 s), (5, .slice (some ⟨o, 0, none⟩) N N), (11, .int .i64 N), (12, .int .i64 i)] G =
        go T [.tmp 4] ks (Fr.of [(5, .slice (some ⟨o, 0, none⟩) N N)]) G'
  | 0, i, G, hi, hp, hr => by
    have hw : wl N (fun x => decide (x < i) && inM s x) = wl N (inM s) := wl_congr fun x hx => by rw [decide_eq_true (by omega), Bool.true_and]
    refine ⟨G, hp, by rw [← hw]; exact hr, fun ks => ?_⟩
    rw [goL_at c102L0.eq_def]
    simp (disch := first | omega | (simp only [Go.Am.len_push, Go.Am.len_set, Go.Am.len_kill] <;> omega) | fail) only [push_cast, Nat.reduceBEq, Nat.reduceAdd, Nat.reduceMul, Nat.reduceSub, Nat.reduceLT, Nat.reduceGT, Nat.reduceLeDiff, Nat.reduceEqDiff, Int.reduceToNat, Int.reduceAdd, Int.reduceMul, Int.reduceSub, Int.reduceNeg, Int.reduceLT, Int.reduceLE, Int.reduceEq, Nat.zero_add, Nat.add_zero, Nat.mul_one, eq_self, ne_eq, not_true, not_false_iff, and_true, true_and, and_self, List.getElem?_cons_zero, List.getElem?_cons_succ, List.map_cons, List.map_nil, wrap64, dec_lt, dec_nlt, dec_le, dec_nle, dec_eq, dec_ne, if_pos, if_neg, Int.natCast_add, Int.natCast_one, Int.natCast_zero, Int.toNat_natCast]
  | n + 1, i, G, hi, hp, hr => by
    have IH := prow_loop hs hN ho n (i + 1)
    have hb := and_is (x := i) (s := s) (by omega) hs
    by_cases hin : i &&& s = s
    · have hi1 : inM s i = true := by unfold inM; simpa using hin
      have es := sts_int hr (i := (i : Int)) (v := 1) (by omega) (by rw [wl_len]; omega)
      rw [Int.toNat_natCast] at es
      have hw : (wl N fun x => decide (x < i) && inM s x).set i 1 = wl N fun x => decide (x < i + 1) && inM s x := by
        have := wl_set (N := N) (i := i) (fun x => decide (x < i) && inM s x) (fun x => decide (x < i + 1) && inM s x) (by omega) fun x hx hne => by
          by_cases h : x < i
          · rw [decide_eq_true h, decide_eq_true (show x < i + 1 by omega)]
          · rw [decide_eq_false h, decide_eq_false (show ¬ x < i + 1 by omega)]
        rw [← this]
        simp [hi1, bI]
      rw [hw] at es
      obtain ⟨G1, eG1⟩ : ∃ G1 : H, G1 = G.set o (.row ⟨ints (wl N fun x => decide (x < i + 1) && inM s x), 3, 1, true⟩) := ⟨_, rfl⟩
      rw [← eG1] at es
      have p1 : hF <+: G1 := by rw [eG1]; exact pre_set hp ho
      have r1 : G1.row o = some ⟨ints (wl N fun x => decide (x < i + 1) && inM s x), 3, 1, true⟩ := by rw [eG1]; exact row_set_same (row_some_lt hr)
      obtain ⟨G', k1, k2, k3⟩ := IH G1 (by omega) p1 r1
      refine ⟨G', k1, k2, fun ks => ?_⟩
      have ih := k3 ks
      rw [Int.natCast_add, Int.natCast_one] at ih
      rw [hin] at hb
      rw [goL_at c102L0.eq_def, ← ih]
      simp (disch := first | omega | (simp only [Go.Am.len_push, Go.Am.len_set, Go.Am.len_kill] <;> omega) | fail) only [push_cast, Nat.reduceBEq, Nat.reduceAdd, Nat.reduceMul, Nat.reduceSub, Nat.reduceLT, Nat.reduceGT, Nat.reduceLeDiff, Nat.reduceEqDiff, Int.reduceToNat, Int.reduceAdd, Int.reduceMul, Int.reduceSub, Int.reduceNeg, Int.reduceLT, Int.reduceLE, Int.reduceEq, Nat.zero_add, Nat.add_zero, Nat.mul_one, eq_self, ne_eq, not_true, not_false_iff, and_true, true_and, and_self, List.getElem?_cons_zero, List.getElem?_cons_succ, List.map_cons, List.map_nil, wrap64, dec_lt, dec_nlt, dec_le, dec_nle, dec_eq, dec_ne, if_pos, if_neg, Int.natCast_add, Int.natCast_one, Int.natCast_zero, Int.toNat_natCast, hb, es]
    · have hi1 : inM s i = false := by unfold inM; simpa using hin
      have hw : (wl N fun x => decide (x < i) && inM s x) = wl N fun x => decide (x < i + 1) && inM s x := wl_congr fun x hx => by
        by_cases he : x = i
        · rw [he, hi1, Bool.and_false, Bool.and_false]
        · by_cases h : x < i
          · rw [decide_eq_true h, decide_eq_true (show x < i + 1 by omega)]
          · rw [decide_eq_false h, decide_eq_false (show ¬ x < i + 1 by omega)]
      rw [hw] at hr
      obtain ⟨G', k1, k2, k3⟩ := IH G (by omega) hp hr
      refine ⟨G', k1, k2, fun ks => ?_⟩
      have ih := k3 ks
      rw [Int.natCast_add, Int.natCast_one] at ih
      obtain ⟨v, hv⟩ : ∃ v : Int, v = ((i &&& s : Nat) : Int) := ⟨_, rfl⟩
      rw [← hv] at hb
      have hne : ¬ v = (s : Int) := by rw [hv]; omega
      rw [goL_at c102L0.eq_def, ← ih]
      simp (disch := first | omega | (simp only [Go.Am.len_push, Go.Am.len_set, Go.Am.len_kill] <;> omega) | fail) only [push_cast, Nat.reduceBEq, Nat.reduceAdd, Nat.reduceMul, Nat.reduceSub, Nat.reduceLT, Nat.reduceGT, Nat.reduceLeDiff, Nat.reduceEqDiff, Int.reduceToNat, Int.reduceAdd, Int.reduceMul, Int.reduceSub, Int.reduceNeg, Int.reduceLT, Int.reduceLE, Int.reduceEq, Nat.zero_add, Nat.add_zero, Nat.mul_one, eq_self, ne_eq, not_true, not_false_iff, and_true, true_and, and_self, List.getElem?_cons_zero, List.getElem?_cons_succ, List.map_cons, List.map_nil, wrap64, dec_lt, dec_nlt, dec_le, dec_nle, dec_eq, dec_ne, if_pos, if_neg, Int.natCast_add, Int.natCast_one, Int.natCast_zero, Int.toNat_natCast, hb, dec_ne hne]
theorem prow_call {h : H} {s m N : Nat} (hm : m ≤ 5) (hM : N = 2 ^ m) (hs : s < 32) : ∃ (o : Nat) (h' : H), h <+: h' ∧ h.length ≤ o ∧ h'.row o = some ⟨ints (wl N (inM s)), 3, 1, true⟩ ∧ call T 102 [.int .i64 s, .int .i64 m] h = some (.slice (some ⟨o, 0, none⟩) N N, h') := by
  have hN := two_le hm
  have hsh := shl_is hm
  rw [← hM] at hN hsh
  obtain ⟨G1, eG1⟩ : ∃ G1 : H, G1 = h ++ [.row ⟨ints (List.replicate N 0), 3, 1, true⟩] := ⟨_, rfl⟩
  have hz : List.replicate N (0 : Int) = wl N (fun x => decide (x < 0) && inM s x) := by
    refine gi_ext (by simp [wl_len]) fun x hx => ?_
    rw [List.length_replicate] at hx
    rw [gi_wl _ hx]
    unfold gi
    simp [hx, bI]
  have r1 : G1.row h.length = some ⟨ints (wl N fun x => decide (x < 0) && inM s x), 3, 1, true⟩ := by rw [← hz, eG1]; exact row_push_new
  have p1 : h <+: G1 := by rw [eG1]; exact List.prefix_append _ _
  obtain ⟨G', k1, k2, k3⟩ := prow_loop (hF := h) hs hN (o := h.length) (Nat.le_refl _) N 0 G1 (by omega) p1 r1
  simp only [Int.natCast_zero] at k3
  refine ⟨h.length, G', k1, Nat.le_refl _, k2, ?_⟩
  have hr0 : rep [.int .i64 0] N = ints (List.replicate N 0) := rep_int _ _
  rw [call_at T102 rfl]
  unfold F102 c102
  simp (disch := first | omega | (simp only [Go.Am.len_push, Go.Am.len_set, Go.Am.len_kill] <;> omega) | fail) only [push_cast, Nat.reduceBEq, Nat.reduceAdd, Nat.reduceMul, Nat.reduceSub, Nat.reduceLT, Nat.reduceGT, Nat.reduceLeDiff, Nat.reduceEqDiff, Int.reduceToNat, Int.reduceAdd, Int.reduceMul, Int.reduceSub, Int.reduceNeg, Int.reduceLT, Int.reduceLE, Int.reduceEq, Nat.zero_add, Nat.add_zero, Nat.mul_one, eq_self, ne_eq, not_true, not_false_iff, and_true, true_and, and_self, List.getElem?_cons_zero, List.getElem?_cons_succ, List.map_cons, List.map_nil, wrap64, dec_lt, dec_nlt, dec_le, dec_nle, dec_eq, dec_ne, if_pos, if_neg, Int.natCast_add, Int.natCast_one, Int.natCast_zero, Int.toNat_natCast, hsh, hr0, ← eG1]
  rw [k3]
  simp (disch := first | omega | (simp only [Go.Am.len_push, Go.Am.len_set, Go.Am.len_kill] <;> omega) | fail) only [push_cast, Nat.reduceBEq, Nat.reduceAdd, Nat.reduceMul, Nat.reduceSub, Nat.reduceLT, Nat.reduceGT, Nat.reduceLeDiff, Nat.reduceEqDiff, Int.reduceToNat, Int.reduceAdd, Int.reduceMul, Int.reduceSub, Int.reduceNeg, Int.reduceLT, Int.reduceLE, Int.reduceEq, Nat.zero_add, Nat.add_zero, Nat.mul_one, eq_self, ne_eq, not_true, not_false_iff, and_true, true_and, and_self, List.getElem?_cons_zero, List.getElem?_cons_succ, List.map_cons, List.map_nil]
theorem paddw_loop {h : H} {N o : Nat} (hN : N ≤ 32) (ho : o < h.length) {sb : Option Addr} {cb : Nat} {g : Nat → Bool} (hb : ∀ z : List Int, RdI (h.set o (.row ⟨ints z, 3, 1, true⟩)) sb cb (wl N g)) (f : Nat → Bool) : ∀ (n i : Nat), i + n = N → ∀ ks,
    goL T [] [0, 1, 6, 7] c101L0 (.blk 0 [] :: ks) [(0, .slice (some ⟨o, 0, none⟩) N N), (1, .slice sb N cb), (6, .int .i64 N), (7, .int .i64 i)] (h.set o (.row ⟨ints (wl N fun x => f x ^^ (decide (x < i) && g x)), 3, 1, true⟩)) =
      go T [] ks (Fr.of []) (h.set o (.row ⟨ints (wl N fun x => f x ^^ g x), 3, 1, true⟩))
  | 0, i, hi, ks => by
    have hw : wl N (fun x => f x ^^ (decide (x < i) && g x)) = wl N (fun x => f x ^^ g x) := wl_congr fun x hx => by rw [decide_eq_true (by omega), Bool.true_and]
    rw [hw, goL_at c101L0.eq_def]
    simp (disch := first | omega | (simp only [Go.Am.len_push, Go.Am.len_set, Go.Am.len_kill] <;> omega) | fail) only [push_cast, Nat.reduceBEq, Nat.reduceAdd, Nat.reduceMul, Nat.reduceSub, Nat.reduceLT, Nat.reduceGT, Nat.reduceLeDiff, Nat.reduceEqDiff, Int.reduceToNat, Int.reduceAdd, Int.reduceMul, Int.reduceSub, Int.reduceNeg, Int.reduceLT, Int.reduceLE, Int.reduceEq, Nat.zero_add, Nat.add_zero, Nat.mul_one, eq_self, ne_eq, not_true, not_false_iff, and_true, true_and, and_self, List.getElem?_cons_zero, List.getElem?_cons_succ, List.map_cons, List.map_nil, wrap64, dec_lt, dec_nlt, dec_le, dec_nle, dec_eq, dec_ne, if_pos, if_neg, Int.natCast_add, Int.natCast_one, Int.natCast_zero, Int.toNat_natCast]
  | n + 1, i, hi, ks => by
    have ih := paddw_loop hN ho hb f n (i + 1) (by omega) ks
    have hr : H.row (h.set o (.row ⟨ints (wl N fun x => f x ^^ (decide (x < i) && g x)), 3, 1, true⟩)) o = some ⟨ints (wl N fun x => f x ^^ (decide (x < i) && g x)), 3, 1, true⟩ := row_set_same ho
    obtain ⟨ob, offb, rfl, _, l1⟩ := (hb (wl N fun x => f x ^^ (decide (x < i) && g x))).at (i := i) (by rw [wl_len]; omega)
    rw [gi_wl g (by omega)] at l1
    have l2 := ld1_int hr (i := (i : Int)) (by omega) (by rw [wl_len]; omega)
    rw [Int.toNat_natCast, gi_wl _ (by omega), decide_eq_false (Nat.lt_irrefl i), Bool.false_and, Bool.xor_false] at l2
    have es := sts_int hr (i := (i : Int)) (v := bI (f i ^^ g i)) (by omega) (by rw [wl_len]; omega)
    rw [Int.toNat_natCast] at es
    have hw := wl_set (N := N) (i := i) (fun x => f x ^^ (decide (x < i) && g x)) (fun x => f x ^^ (decide (x < i + 1) && g x)) (by omega) fun x hx hne => by
      by_cases h : x < i
      · rw [decide_eq_true h, decide_eq_true (show x < i + 1 by omega)]
      · rw [decide_eq_false h, decide_eq_false (show ¬ x < i + 1 by omega)]
    simp only [Nat.lt_add_one, decide_true, Bool.true_and] at hw
    rw [hw, List.set_set] at es
    rw [Int.natCast_add, Int.natCast_one] at ih
    have hx := xor_is (f i) (g i)
    rw [goL_at c101L0.eq_def, ← ih]
    simp (disch := first | omega | (simp only [Go.Am.len_push, Go.Am.len_set, Go.Am.len_kill] <;> omega) | fail) only [push_cast, Nat.reduceBEq, Nat.reduceAdd, Nat.reduceMul, Nat.reduceSub, Nat.reduceLT, Nat.reduceGT, Nat.reduceLeDiff, Nat.reduceEqDiff, Int.reduceToNat, Int.reduceAdd, Int.reduceMul, Int.reduceSub, Int.reduceNeg, Int.reduceLT, Int.reduceLE, Int.reduceEq, Nat.zero_add, Nat.add_zero, Nat.mul_one, eq_self, ne_eq, not_true, not_false_iff, and_true, true_and, and_self, List.getElem?_cons_zero, List.getElem?_cons_succ, List.map_cons, List.map_nil, wrap64, dec_lt, dec_nlt, dec_le, dec_nle, dec_eq, dec_ne, if_pos, if_neg, Int.natCast_add, Int.natCast_one, Int.natCast_zero, Int.toNat_natCast, l1, l2, hx, es]
end
end Go.Proofs.Ytammndhoillliaa
namespace Go.Proofs.Ytammndhoillliaa
open Go.Am
set_option linter.unusedVariables false
set_option linter.unusedSimpArgs false
set_option maxRecDepth 30000

theorem off_checked : ((List.range 32).all fun x : Nat => (List.range 32).all fun s : Nat => decide (Go.bits .andNot .i64 (x : Int) (s : Int) = ((offM s x : Nat) : Int))) = true := by kernel_rfl
theorem off_is {x s : Nat} (hx : x < 32) (hs : s < 32) : Go.bits .andNot .i64 (x : Int) (s : Int) = ((offM s x : Nat) : Int) :=
  of_decide_eq_true (List.all_eq_true.1 (List.all_eq_true.1 off_checked x (List.mem_range.2 hx)) s (List.mem_range.2 hs))
section
variable {h : H} {sw : Option Addr} {cw N : Nat} {f : Nat → Bool}
theorem votes_in (hN : N ≤ 32) (hw : RdI h sw cw (wl N f)) {s b : Nat} (hs : s < 32) (hb : b < 32) (o a : Int) : ∀ (n x : Nat) (acc : Bool), x + n = N → ∀ ks,
    goL T [.tmp 6] [0, 1, 7, 8, 9, 10, 13, 14, 22, 23] c100L0 (.blk 2 [0, 1, 7, 8, 10, 13, 14] :: ks) [(0, .slice sw N cw), (1, .int .i64 s), (7, .int .i64 o), (8, .int .i64 a), (9, .int .i64 b), (10, .int .i64 (bI acc)), (13, .int .i64 N), (14, .int .i64 b), (22, .int .i64 N), (23, .int .i64 x)] h =
      go T [.tmp 6] ks (Fr.of [(0, .slice sw N cw), (1, .int .i64 s), (7, .int .i64 o), (8, .int .i64 a), (10, .int .i64 (bI (acc ^^ xorL ((List.range' x n).filter fun x => offM s x == b) f))), (13, .int .i64 N), (14, .int .i64 b)]) h
  | 0, x, acc, hx, ks => by
    have hz : (acc ^^ xorL ((List.range' x 0).filter fun x => offM s x == b) f) = acc := by simp [xorL]
    rw [hz, goL_at c100L0.eq_def]
    simp (disch := first | omega | (simp only [Go.Am.len_push, Go.Am.len_set, Go.Am.len_kill] <;> omega) | fail) only [push_cast, Nat.reduceBEq, Nat.reduceAdd, Nat.reduceMul, Nat.reduceSub, Nat.reduceLT, Nat.reduceGT, Nat.reduceLeDiff, Nat.reduceEqDiff, Int.reduceToNat, Int.reduceAdd, Int.reduceMul, Int.reduceSub, Int.reduceNeg, Int.reduceLT, Int.reduceLE, Int.reduceEq, Nat.zero_add, Nat.add_zero, Nat.mul_one, eq_self, ne_eq, not_true, not_false_iff, and_true, true_and, and_self, List.getElem?_cons_zero, List.getElem?_cons_succ, List.map_cons, List.map_nil, wrap64, dec_lt, dec_nlt, dec_le, dec_nle, dec_eq, dec_ne, if_pos, if_neg, Int.natCast_add, Int.natCast_one, Int.natCast_zero, Int.toNat_natCast]
  | n + 1, x, acc, hx, ks => by
    have IH := votes_in hN hw hs hb o a n (x + 1)
    have hf := off_is (x := x) (s := s) (by omega) hs
    rw [List.range'_succ, List.filter_cons]
    by_cases he : offM s x = b
    · obtain ⟨ob, offb, rfl, _, l1⟩ := hw.at (i := x) (by rw [wl_len]; omega)
      rw [gi_wl f (by omega)] at l1
      have ih := IH (acc ^^ f x) (by omega) ks
      rw [Int.natCast_add, Int.natCast_one] at ih
      rw [if_pos (by simpa using he), xorL_cons, ← Bool.xor_assoc]
      have hx2 := xor_is acc (f x)
      rw [he] at hf
      rw [goL_at c100L0.eq_def, ← ih]
      simp (disch := first | omega | (simp only [Go.Am.len_push, Go.Am.len_set, Go.Am.len_kill] <;> omega) | fail) only [push_cast, Nat.reduceBEq, Nat.reduceAdd, Nat.reduceMul, Nat.reduceSub, Nat.reduceLT, Nat.reduceGT, Nat.reduceLeDiff, Nat.reduceEqDiff, Int.reduceToNat, Int.reduceAdd, Int.reduceMul, Int.reduceSub, Int.reduceNeg, Int.reduceLT, Int.reduceLE, Int.reduceEq, Nat.zero_add, Nat.add_zero, Nat.mul_one, eq_self, ne_eq, not_true, not_false_iff, and_true, true_and, and_self, List.getElem?_cons_zero, List.getElem?_cons_succ, List.map_cons, List.map_nil, wrap64, dec_lt, dec_nlt, dec_le, dec_nle, dec_eq, dec_ne, if_pos, if_neg, Int.natCast_add, Int.natCast_one, Int.natCast_zero, Int.toNat_natCast, hf, l1, hx2]
    · have ih := IH acc (by omega) ks
      rw [Int.natCast_add, Int.natCast_one] at ih
      rw [if_neg (by simpa using he)]
      obtain ⟨v, hv⟩ : ∃ v : Int, v = ((offM s x : Nat) : Int) := ⟨_, rfl⟩
      rw [← hv] at hf
      have hne : ¬ v = (b : Int) := by rw [hv]; omega
      rw [goL_at c100L0.eq_def, ← ih]
      simp (disch := first | omega | (simp only [Go.Am.len_push, Go.Am.len_set, Go.Am.len_kill] <;> omega) | fail) only [push_cast, Nat.reduceBEq, Nat.reduceAdd, Nat.reduceMul, Nat.reduceSub, Nat.reduceLT, Nat.reduceGT, Nat.reduceLeDiff, Nat.reduceEqDiff, Int.reduceToNat, Int.reduceAdd, Int.reduceMul, Int.reduceSub, Int.reduceNeg, Int.reduceLT, Int.reduceLE, Int.reduceEq, Nat.zero_add, Nat.add_zero, Nat.mul_one, eq_self, ne_eq, not_true, not_false_iff, and_true, true_and, and_self, List.getElem?_cons_zero, List.getElem?_cons_succ, List.map_cons, List.map_nil, wrap64, dec_lt, dec_nlt, dec_le, dec_nle, dec_eq, dec_ne, if_pos, if_neg, Int.natCast_add, Int.natCast_one, Int.natCast_zero, Int.toNat_natCast, hf, dec_ne hne]
def onesN (m s : Nat) (f : Nat → Bool) (l : List Nat) : Nat := ((l.filter fun b => b &&& s == 0).filter fun b => xorL (cosN m s b) f).length
theorem votes_out {m : Nat} (hm : m ≤ 5) (hNe : N = 2 ^ m) (hw : RdI h sw cw (wl N f)) {s : Nat} (hs : s < 32) : ∀ (n b o a : Nat), b + n = N → o + n ≤ 100 → a + n ≤ 100 → ∀ ks,
    goL T [.tmp 6] [0, 1, 7, 8, 13, 14] c100L1 (.blk 0 [7, 8] :: ks) [(0, .slice sw N cw), (1, .int .i64 s), (7, .int .i64 o), (8, .int .i64 a), (13, .int .i64 N), (14, .int .i64 b)] h =
      go T [.tmp 6] ks (Fr.of [(7, .int .i64 (o + onesN m s f (List.range' b n) : Nat)), (8, .int .i64 (a + ((List.range' b n).filter fun b => b &&& s == 0).length : Nat))]) h
  | 0, b, o, a, hb, h1, h2, ks => by
    have hz : onesN m s f (List.range' b 0) = 0 := by simp [onesN]
    have hz2 : ((List.range' b 0).filter fun b => b &&& s == 0).length = 0 := by simp
    rw [hz, hz2, Nat.add_zero, Nat.add_zero, goL_at c100L1.eq_def]
    simp (disch := first | omega | (simp only [Go.Am.len_push, Go.Am.len_set, Go.Am.len_kill] <;> omega) | fail) only [push_cast, Nat.reduceBEq, Nat.reduceAdd, Nat.reduceMul, Nat.reduceSub, Nat.reduceLT, Nat.reduceGT, Nat.reduceLeDiff, Nat.reduceEqDiff, Int.reduceToNat, Int.reduceAdd, Int.reduceMul, Int.reduceSub, Int.reduceNeg, Int.reduceLT, Int.reduceLE, Int.reduceEq, Nat.zero_add, Nat.add_zero, Nat.mul_one, eq_self, ne_eq, not_true, not_false_iff, and_true, true_and, and_self, List.getElem?_cons_zero, List.getElem?_cons_succ, List.map_cons, List.map_nil, wrap64, dec_lt, dec_nlt, dec_le, dec_nle, dec_eq, dec_ne, if_pos, if_neg, Int.natCast_add, Int.natCast_one, Int.natCast_zero, Int.toNat_natCast]
  | n + 1, b, o, a, hb, h1, h2, ks => by
    have hN := two_le hm
    rw [← hNe] at hN
    have IH := votes_out hm hNe hw hs n (b + 1)
    have ha := and_is (x := b) (s := s) (by omega) hs
    by_cases he : b &&& s = 0
    · have e1 := fun ks => votes_in hN hw hs (b := b) (by omega) (o : Int) (a : Int) N 0 false (by omega) ks
      have hc : ((List.range' 0 N).filter fun x => offM s x == b) = cosN m s b := by rw [← List.range_eq_range', hNe]; rfl
      rw [hc, Bool.false_xor] at e1
      obtain ⟨v, hv⟩ : ∃ v, v = xorL (cosN m s b) f := ⟨_, rfl⟩
      rw [← hv] at e1
      have hl : ((List.range' b (n + 1)).filter fun b => b &&& s == 0).length = 1 + ((List.range' (b + 1) n).filter fun b => b &&& s == 0).length := by
        rw [List.range'_succ, List.filter_cons, if_pos (by simpa using he), List.length_cons, Nat.add_comm]
      have ho : onesN m s f (List.range' b (n + 1)) = (if v = true then 1 else 0) + onesN m s f (List.range' (b + 1) n) := by
        unfold onesN
        rw [List.range'_succ, List.filter_cons, if_pos (by simpa using he), List.filter_cons, ← hv]
        cases v with
        | true => rw [if_pos rfl, if_pos rfl, List.length_cons, Nat.add_comm]
        | false => rw [if_neg (by decide), if_neg (by decide), Nat.zero_add]
      have ih := IH (o + if v = true then 1 else 0) (a + 1) (by omega) (by split <;> omega) (by omega) ks
      rw [hl, ho, ← Nat.add_assoc, ← Nat.add_assoc, ← ih]
      have hbv : (((o + if v = true then 1 else 0 : Nat) : Nat) : Int) = (o : Int) + bI v := by cases v <;> simp [bI]
      have hbr : 0 ≤ bI v ∧ bI v ≤ 1 := by cases v <;> simp [bI]
      rw [he, Int.natCast_zero] at ha
      rw [hbv, Int.natCast_add, Int.natCast_one, Int.natCast_add, Int.natCast_one]
      have hf0 : bI false = 0 := rfl
      rw [hf0] at e1
      simp only [Int.natCast_zero] at e1
      rw [goL_at c100L1.eq_def]
      simp (disch := first | omega | (simp only [Go.Am.len_push, Go.Am.len_set, Go.Am.len_kill] <;> omega) | fail) only [push_cast, Nat.reduceBEq, Nat.reduceAdd, Nat.reduceMul, Nat.reduceSub, Nat.reduceLT, Nat.reduceGT, Nat.reduceLeDiff, Nat.reduceEqDiff, Int.reduceToNat, Int.reduceAdd, Int.reduceMul, Int.reduceSub, Int.reduceNeg, Int.reduceLT, Int.reduceLE, Int.reduceEq, Nat.zero_add, Nat.add_zero, Nat.mul_one, eq_self, ne_eq, not_true, not_false_iff, and_true, true_and, and_self, List.getElem?_cons_zero, List.getElem?_cons_succ, List.map_cons, List.map_nil, wrap64, dec_lt, dec_nlt, dec_le, dec_nle, dec_eq, dec_ne, if_pos, if_neg, Int.natCast_add, Int.natCast_one, Int.natCast_zero, Int.toNat_natCast, ha]
      rw [e1]
      simp (disch := first | omega | (simp only [Go.Am.len_push, Go.Am.len_set, Go.Am.len_kill] <;> omega) | fail) only [push_cast, Nat.reduceBEq, Nat.reduceAdd, Nat.reduceMul, Nat.reduceSub, Nat.reduceLT, Nat.reduceGT, Nat.reduceLeDiff, Nat.reduceEqDiff, Int.reduceToNat, Int.reduceAdd, Int.reduceMul, Int.reduceSub, Int.reduceNeg, Int.reduceLT, Int.reduceLE, Int.reduceEq, Nat.zero_add, Nat.add_zero, Nat.mul_one, eq_self, ne_eq, not_true, not_false_iff, and_true, true_and, and_self, List.getElem?_cons_zero, List.getElem?_cons_succ, List.map_cons, List.map_nil, wrap64, dec_lt, dec_nlt, dec_le, dec_nle, dec_eq, dec_ne, if_pos, if_neg, Int.natCast_add, Int.natCast_one, Int.natCast_zero, Int.toNat_natCast]
    · have hl : ((List.range' b (n + 1)).filter fun b => b &&& s == 0).length = ((List.range' (b + 1) n).filter fun b => b &&& s == 0).length := by
        rw [List.range'_succ, List.filter_cons, if_neg (by simpa using he)]
      have ho : onesN m s f (List.range' b (n + 1)) = onesN m s f (List.range' (b + 1) n) := by
        unfold onesN
        rw [List.range'_succ, List.filter_cons, if_neg (by simpa using he)]
      have ih := IH o a (by omega) (by omega) (by omega) ks
      rw [hl, ho, ← ih]
      rw [Int.natCast_add, Int.natCast_one]
      obtain ⟨v, hv⟩ : ∃ v : Int, v = ((b &&& s : Nat) : Int) := ⟨_, rfl⟩
      rw [← hv] at ha
      have hne : ¬ v = (0 : Int) := by rw [hv]; omega
      rw [goL_at c100L1.eq_def]
      simp (disch := first | omega | (simp only [Go.Am.len_push, Go.Am.len_set, Go.Am.len_kill] <;> omega) | fail) only [push_cast, Nat.reduceBEq, Nat.reduceAdd, Nat.reduceMul, Nat.reduceSub, Nat.reduceLT, Nat.reduceGT, Nat.reduceLeDiff, Nat.reduceEqDiff, Int.reduceToNat, Int.reduceAdd, Int.reduceMul, Int.reduceSub, Int.reduceNeg, Int.reduceLT, Int.reduceLE, Int.reduceEq, Nat.zero_add, Nat.add_zero, Nat.mul_one, eq_self, ne_eq, not_true, not_false_iff, and_true, true_and, and_self, List.getElem?_cons_zero, List.getElem?_cons_succ, List.map_cons, List.map_nil, wrap64, dec_lt, dec_nlt, dec_le, dec_nle, dec_eq, dec_ne, if_pos, if_neg, Int.natCast_add, Int.natCast_one, Int.natCast_zero, Int.toNat_natCast, ha, dec_ne hne]
theorem votes_call {m : Nat} (hm : m ≤ 5) (hNe : N = 2 ^ m) (hw : RdI h sw cw (wl N f)) {s : Nat} (hs : s < 32) : call T 100 [.slice sw N cw, .int .i64 s, .int .i64 m] h = some (.bool (voteB m f s), h) := by
  have hN := two_le hm
  have hsh := shl_is hm
  rw [← hNe] at hN hsh
  have e := fun ks => votes_out hm hNe hw hs N 0 0 0 (by omega) (by omega) (by omega) ks
  rw [← List.range_eq_range', Nat.zero_add, Nat.zero_add] at e
  have h1 : onesN m s f (List.range N) = ((basN m s).filter fun b => xorL (cosN m s b) f).length := by rw [hNe]; rfl
  have h2 : ((List.range N).filter fun b => b &&& s == 0).length = (basN m s).length := by rw [hNe]; rfl
  rw [h1, h2] at e
  simp only [Int.natCast_zero] at e
  unfold voteB
  have hb1 : (basN m s).length ≤ N := by rw [← h2]; have := List.length_filter_le (fun b => b &&& s == 0) (List.range N); rwa [List.length_range] at this
  have hb2 := List.length_filter_le (fun b => xorL (cosN m s b) f) (basN m s)
  obtain ⟨O, hO⟩ : ∃ O, O = ((basN m s).filter fun b => xorL (cosN m s b) f).length := ⟨_, rfl⟩
  obtain ⟨A, hA⟩ : ∃ A, A = (basN m s).length := ⟨_, rfl⟩
  rw [← hO] at e hb2 ⊢
  rw [← hA] at e hb1 hb2 ⊢
  rw [call_at T100 rfl]
  unfold F100 c100
  simp (disch := first | omega | (simp only [Go.Am.len_push, Go.Am.len_set, Go.Am.len_kill] <;> omega) | fail) only [push_cast, Nat.reduceBEq, Nat.reduceAdd, Nat.reduceMul, Nat.reduceSub, Nat.reduceLT, Nat.reduceGT, Nat.reduceLeDiff, Nat.reduceEqDiff, Int.reduceToNat, Int.reduceAdd, Int.reduceMul, Int.reduceSub, Int.reduceNeg, Int.reduceLT, Int.reduceLE, Int.reduceEq, Nat.zero_add, Nat.add_zero, Nat.mul_one, eq_self, ne_eq, not_true, not_false_iff, and_true, true_and, and_self, List.getElem?_cons_zero, List.getElem?_cons_succ, List.map_cons, List.map_nil, wrap64, dec_lt, dec_nlt, dec_le, dec_nle, dec_eq, dec_ne, if_pos, if_neg, Int.natCast_add, Int.natCast_one, Int.natCast_zero, Int.toNat_natCast, hsh]
  rw [e]
  by_cases hlt : A < 2 * O
  · rw [decide_eq_true hlt]
    simp (disch := first | omega | (simp only [Go.Am.len_push, Go.Am.len_set, Go.Am.len_kill] <;> omega) | fail) only [push_cast, Nat.reduceBEq, Nat.reduceAdd, Nat.reduceMul, Nat.reduceSub, Nat.reduceLT, Nat.reduceGT, Nat.reduceLeDiff, Nat.reduceEqDiff, Int.reduceToNat, Int.reduceAdd, Int.reduceMul, Int.reduceSub, Int.reduceNeg, Int.reduceLT, Int.reduceLE, Int.reduceEq, Nat.zero_add, Nat.add_zero, Nat.mul_one, eq_self, ne_eq, not_true, not_false_iff, and_true, true_and, and_self, List.getElem?_cons_zero, List.getElem?_cons_succ, List.map_cons, List.map_nil, wrap64, dec_lt, dec_nlt, dec_le, dec_nle, dec_eq, dec_ne, if_pos, if_neg, Int.natCast_add, Int.natCast_one, Int.natCast_zero, Int.toNat_natCast]
  · rw [decide_eq_false hlt]
    simp (disch := first | omega | (simp only [Go.Am.len_push, Go.Am.len_set, Go.Am.len_kill] <;> omega) | fail) only [push_cast, Nat.reduceBEq, Nat.reduceAdd, Nat.reduceMul, Nat.reduceSub, Nat.reduceLT, Nat.reduceGT, Nat.reduceLeDiff, Nat.reduceEqDiff, Int.reduceToNat, Int.reduceAdd, Int.reduceMul, Int.reduceSub, Int.reduceNeg, Int.reduceLT, Int.reduceLE, Int.reduceEq, Nat.zero_add, Nat.add_zero, Nat.mul_one, eq_self, ne_eq, not_true, not_false_iff, and_true, true_and, and_self, List.getElem?_cons_zero, List.getElem?_cons_succ, List.map_cons, List.map_nil, wrap64, dec_lt, dec_nlt, dec_le, dec_nle, dec_eq, dec_ne, if_pos, if_neg, Int.natCast_add, Int.natCast_one, Int.natCast_zero, Int.toNat_natCast]
end
end Go.Proofs.Ytammndhoillliaa
namespace Go.Proofs.Ytammndhoillliaa
open Go.Am
set_option linter.unusedVariables false
set_option linter.unusedSimpArgs false
set_option maxRecDepth 30000

/-- a message: a bit for each monomial -/
def msg (l : List Nat) (c : Nat → Bool) : List Int := l.map fun s => bI (c s)
theorem msg_len (l : List Nat) (c : Nat → Bool) : (msg l c).length = l.length := by simp [msg]
theorem cst_len (l : List Nat) : (cst l).length = l.length := by simp [cst]
theorem gi_cst {l : List Nat} {i s : Nat} (h : l[i]? = some s) : gi (cst l) i = (s : Int) := by
  unfold gi cst; rw [List.getD_eq_getElem?_getD, Int.toNat_natCast, List.getElem?_map, h]; rfl
theorem gi_msg {l : List Nat} {i s : Nat} (c : Nat → Bool) (h : l[i]? = some s) : gi (msg l c) i = bI (c s) := by
  unfold gi msg; rw [List.getD_eq_getElem?_getD, Int.toNat_natCast, List.getElem?_map, h]; rfl
def stB (g : Nat → Bool) (x : Nat) (b : Bool) (y : Nat) : Bool := if y = x then b else g y
theorem one_minus (b : Bool) : 1 - bI b = bI (!b) := by cases b <;> rfl
section
variable {hF : H} {l : List Nat} {c : Nat → Bool} {sm sl : Option Addr} {cm' cl N o : Nat}
theorem rword_in (hl : ∀ s ∈ l, s < 32) (hll : l.length ≤ 1000) (hN : N ≤ 32) (hm : RdI hF sm cm' (msg l c)) (hmon : RdI hF sl cl (cst l)) (ho : hF.length ≤ o) (g : Nat → Bool) {x : Nat} (hx : x < N) : ∀ (n i : Nat) (acc : Bool) (G : H), i + n = l.length → hF <+: G → G.row o = some ⟨ints (wl N (stB g x acc)), 3, 1, true⟩ →
    ∃ G' : H, hF <+: G' ∧ G'.row o = some ⟨ints (wl N (stB g x (acc ^^ xorL (l.drop i) fun s => c s && inM s x))), 3, 1, true⟩ ∧ ∀ ks,
      goL T [.tmp 6] [2, 7, 8, 9, 10] c21L0 (.blk 2 [2, 7, 8, 9] :: ks) [(2, .slice sm l.length cm'), (7, .slice sl l.length cl), (8, .slice (some ⟨o, 0, none⟩) N N), (9, .int .i64 x), (10, .int .i64 i)] G =
        go T [.tmp 6] ks (Fr.of [(2, .slice sm l.length cm'), (7, .slice sl l.length cl), (8, .slice (some ⟨o, 0, none⟩) N N), (9, .int .i64 x)]) G'
  | 0, i, acc, G, hi, hp, hr => by
    have hd : l.drop i = [] := List.drop_eq_nil_of_le (by omega)
    rw [hd, xorL_nil, Bool.xor_false]
    refine ⟨G, hp, hr, fun ks => ?_⟩
    rw [goL_at c21L0.eq_def]
    simp (disch := first | omega | (simp only [Go.Am.len_push, Go.Am.len_set, Go.Am.len_kill] <;> omega) | fail) only [push_cast, Nat.reduceBEq, Nat.reduceAdd, Nat.reduceMul, Nat.reduceSub, Nat.reduceLT, Nat.reduceGT, Nat.reduceLeDiff, Nat.reduceEqDiff, Int.reduceToNat, Int.reduceAdd, Int.reduceMul, Int.reduceSub, Int.reduceNeg, Int.reduceLT, Int.reduceLE, Int.reduceEq, Nat.zero_add, Nat.add_zero, Nat.mul_one, eq_self, ne_eq, not_true, not_false_iff, and_true, true_and, and_self, List.getElem?_cons_zero, List.getElem?_cons_succ, List.map_cons, List.map_nil, wrap64, dec_lt, dec_nlt, dec_le, dec_nle, dec_eq, dec_ne, if_pos, if_neg, Int.natCast_add, Int.natCast_one, Int.natCast_zero, Int.toNat_natCast]
  | n + 1, i, acc, G, hi, hp, hr => by
    have IH := rword_in hl hll hN hm hmon ho g hx n (i + 1)
    obtain ⟨s, hs⟩ := at_some (l := l) (i := i) (by omega)
    have hs32 := hl s (List.mem_of_getElem? hs)
    have hdr : l.drop i = s :: l.drop (i + 1) := by
      obtain ⟨h1, h2⟩ := List.getElem?_eq_some_iff.1 hs
      rw [List.drop_eq_getElem_cons h1, h2]
    obtain ⟨om, fm, rfl, _, l1⟩ := (hm.mono hp).at (i := i) (by rw [msg_len]; omega)
    obtain ⟨ol, fl, rfl, _, l2⟩ := (hmon.mono hp).at (i := i) (by rw [cst_len]; omega)
    rw [gi_msg c hs] at l1
    rw [gi_cst hs] at l2
    have hb := and_is (x := x) (s := s) (by omega) hs32
    rw [hdr, xorL_cons, ← Bool.xor_assoc]
    by_cases hyes : (c s && inM s x) = true
    · rw [hyes, Bool.xor_true]
      rw [Bool.and_eq_true] at hyes
      have hin : x &&& s = s := by have := hyes.2; unfold inM at this; simpa using this
      have hc1 : bI (c s) = 1 := by rw [hyes.1]; rfl
      rw [hc1] at l1
      rw [hin] at hb
      have l3 := ld1_int hr (i := (x : Int)) (by omega) (by rw [wl_len]; omega)
      rw [Int.toNat_natCast, gi_wl _ hx, show stB g x acc x = acc from if_pos rfl] at l3
      have es := sts_int hr (i := (x : Int)) (v := bI (!acc)) (by omega) (by rw [wl_len]; omega)
      rw [Int.toNat_natCast] at es
      have hw := wl_set (N := N) (i := x) (stB g x acc) (stB g x (!acc)) hx fun y hy hne => by unfold stB; rw [if_neg hne, if_neg hne]
      rw [show stB g x (!acc) x = !acc from if_pos rfl] at hw
      rw [hw] at es
      obtain ⟨G1, eG1⟩ : ∃ G1 : H, G1 = G.set o (.row ⟨ints (wl N (stB g x (!acc))), 3, 1, true⟩) := ⟨_, rfl⟩
      rw [← eG1] at es
      have p1 : hF <+: G1 := by rw [eG1]; exact pre_set hp ho
      have r1 : G1.row o = some ⟨ints (wl N (stB g x (!acc))), 3, 1, true⟩ := by rw [eG1]; exact row_set_same (row_some_lt hr)
      obtain ⟨G', k1, k2, k3⟩ := IH (!acc) G1 (by omega) p1 r1
      refine ⟨G', k1, k2, fun ks => ?_⟩
      have ih := k3 ks
      rw [Int.natCast_add, Int.natCast_one] at ih
      have h1m := one_minus acc
      have hbr : 0 ≤ bI (!acc) ∧ bI (!acc) ≤ 1 := by cases acc <;> simp [bI]
      rw [goL_at c21L0.eq_def, ← ih]
      simp (disch := first | omega | (simp only [Go.Am.len_push, Go.Am.len_set, Go.Am.len_kill] <;> omega) | fail) only [push_cast, Nat.reduceBEq, Nat.reduceAdd, Nat.reduceMul, Nat.reduceSub, Nat.reduceLT, Nat.reduceGT, Nat.reduceLeDiff, Nat.reduceEqDiff, Int.reduceToNat, Int.reduceAdd, Int.reduceMul, Int.reduceSub, Int.reduceNeg, Int.reduceLT, Int.reduceLE, Int.reduceEq, Nat.zero_add, Nat.add_zero, Nat.mul_one, eq_self, ne_eq, not_true, not_false_iff, and_true, true_and, and_self, List.getElem?_cons_zero, List.getElem?_cons_succ, List.map_cons, List.map_nil, wrap64, dec_lt, dec_nlt, dec_le, dec_nle, dec_eq, dec_ne, if_pos, if_neg, Int.natCast_add, Int.natCast_one, Int.natCast_zero, Int.toNat_natCast, l1, l2, hb, l3, h1m, es]
    · have hno : (c s && inM s x) = false := by simpa using hyes
      rw [hno, Bool.xor_false]
      obtain ⟨G', k1, k2, k3⟩ := IH acc G (by omega) hp hr
      refine ⟨G', k1, k2, fun ks => ?_⟩
      have ih := k3 ks
      rw [Int.natCast_add, Int.natCast_one] at ih
      cases hcs : c s with
      | false =>
        rw [hcs, show bI false = 0 from rfl] at l1
        rw [goL_at c21L0.eq_def, ← ih]
        simp (disch := first | omega | (simp only [Go.Am.len_push, Go.Am.len_set, Go.Am.len_kill] <;> omega) | fail) only [push_cast, Nat.reduceBEq, Nat.reduceAdd, Nat.reduceMul, Nat.reduceSub, Nat.reduceLT, Nat.reduceGT, Nat.reduceLeDiff, Nat.reduceEqDiff, Int.reduceToNat, Int.reduceAdd, Int.reduceMul, Int.reduceSub, Int.reduceNeg, Int.reduceLT, Int.reduceLE, Int.reduceEq, Nat.zero_add, Nat.add_zero, Nat.mul_one, eq_self, ne_eq, not_true, not_false_iff, and_true, true_and, and_self, List.getElem?_cons_zero, List.getElem?_cons_succ, List.map_cons, List.map_nil, wrap64, dec_lt, dec_nlt, dec_le, dec_nle, dec_eq, dec_ne, if_pos, if_neg, Int.natCast_add, Int.natCast_one, Int.natCast_zero, Int.toNat_natCast, l1]
      | true =>
        rw [hcs, Bool.true_and] at hno
        rw [hcs, show bI true = 1 from rfl] at l1
        have hin : ¬ x &&& s = s := by unfold inM at hno; simpa using hno
        obtain ⟨v, hv⟩ : ∃ v : Int, v = ((x &&& s : Nat) : Int) := ⟨_, rfl⟩
        rw [← hv] at hb
        have hne : ¬ v = (s : Int) := by rw [hv]; omega
        rw [goL_at c21L0.eq_def, ← ih]
        simp (disch := first | omega | (simp only [Go.Am.len_push, Go.Am.len_set, Go.Am.len_kill] <;> omega) | fail) only [push_cast, Nat.reduceBEq, Nat.reduceAdd, Nat.reduceMul, Nat.reduceSub, Nat.reduceLT, Nat.reduceGT, Nat.reduceLeDiff, Nat.reduceEqDiff, Int.reduceToNat, Int.reduceAdd, Int.reduceMul, Int.reduceSub, Int.reduceNeg, Int.reduceLT, Int.reduceLE, Int.reduceEq, Nat.zero_add, Nat.add_zero, Nat.mul_one, eq_self, ne_eq, not_true, not_false_iff, and_true, true_and, and_self, List.getElem?_cons_zero, List.getElem?_cons_succ, List.map_cons, List.map_nil, wrap64, dec_lt, dec_nlt, dec_le, dec_nle, dec_eq, dec_ne, if_pos, if_neg, Int.natCast_add, Int.natCast_one, Int.natCast_zero, Int.toNat_natCast, l1, l2, hb, dec_ne hne]
theorem rword_out (hl : ∀ s ∈ l, s < 32) (hll : l.length ≤ 1000) (hN : N ≤ 32) (hm : RdI hF sm cm' (msg l c)) (hmon : RdI hF sl cl (cst l)) (ho : hF.length ≤ o) : ∀ (n x : Nat) (G : H), x + n = N → hF <+: G → G.row o = some ⟨ints (wl N fun y => decide (y < x) && xorL l fun s => c s && inM s y), 3, 1, true⟩ →
    ∃ G' : H, hF <+: G' ∧ G'.row o = some ⟨ints (wl N fun y => xorL l fun s => c s && inM s y), 3, 1, true⟩ ∧ ∀ ks,
      goL T [.tmp 6] [2, 7, 8, 9] c21L1 (.blk 0 [8] :: ks) [(2, .slice sm l.length cm'), (7, .slice sl l.length cl), (8, .slice (some ⟨o, 0, none⟩) N N), (9, .int .i64 x)] G =
        go T [.tmp 6] ks (Fr.of [(8, .slice (some ⟨o, 0, none⟩) N N)]) G'
  | 0, x, G, hx, hp, hr => by
    have hw : wl N (fun y => decide (y < x) && xorL l fun s => c s && inM s y) = wl N (fun y => xorL l fun s => c s && inM s y) := wl_congr fun y hy => by rw [decide_eq_true (by omega), Bool.true_and]
    refine ⟨G, hp, by rw [← hw]; exact hr, fun ks => ?_⟩
    rw [goL_at c21L1.eq_def]
    simp (disch := first | omega | (simp only [Go.Am.len_push, Go.Am.len_set, Go.Am.len_kill] <;> omega) | fail) only [push_cast, Nat.reduceBEq, Nat.reduceAdd, Nat.reduceMul, Nat.reduceSub, Nat.reduceLT, Nat.reduceGT, Nat.reduceLeDiff, Nat.reduceEqDiff, Int.reduceToNat, Int.reduceAdd, Int.reduceMul, Int.reduceSub, Int.reduceNeg, Int.reduceLT, Int.reduceLE, Int.reduceEq, Nat.zero_add, Nat.add_zero, Nat.mul_one, eq_self, ne_eq, not_true, not_false_iff, and_true, true_and, and_self, List.getElem?_cons_zero, List.getElem?_cons_succ, List.map_cons, List.map_nil, wrap64, dec_lt, dec_nlt, dec_le, dec_nle, dec_eq, dec_ne, if_pos, if_neg, Int.natCast_add, Int.natCast_one, Int.natCast_zero, Int.toNat_natCast]
  | n + 1, x, G, hx, hp, hr => by
    have IH := rword_out hl hll hN hm hmon ho n (x + 1)
    have hw0 : wl N (fun y => decide (y < x) && xorL l fun s => c s && inM s y) = wl N (stB (fun y => decide (y < x) && xorL l fun s => c s && inM s y) x false) := wl_congr fun y hy => by
      unfold stB
      by_cases he : y = x
      · rw [if_pos he, decide_eq_false (by omega), Bool.false_and]
      · rw [if_neg he]
    rw [hw0] at hr
    obtain ⟨G1, j1, j2, j3⟩ := rword_in hl hll hN hm hmon ho _ (x := x) (by omega) l.length 0 false G (by omega) hp hr
    rw [List.drop_zero, Bool.false_xor] at j2
    have hw1 : wl N (stB (fun y => decide (y < x) && xorL l fun s => c s && inM s y) x (xorL l fun s => c s && inM s x)) = wl N (fun y => decide (y < x + 1) && xorL l fun s => c s && inM s y) := wl_congr fun y hy => by
      unfold stB
      by_cases he : y = x
      · rw [if_pos he, he, decide_eq_true (show x < x + 1 by omega), Bool.true_and]
      · rw [if_neg he]
        show (decide (y < x) && xorL l fun s => c s && inM s y) = _
        by_cases h : y < x
        · rw [decide_eq_true h, decide_eq_true (show y < x + 1 by omega)]
        · rw [decide_eq_false h, decide_eq_false (show ¬ y < x + 1 by omega)]
    rw [hw1] at j2
    simp only [Int.natCast_zero] at j3
    obtain ⟨G', k1, k2, k3⟩ := IH G1 (by omega) j1 j2
    refine ⟨G', k1, k2, fun ks => ?_⟩
    have ih := k3 ks
    rw [Int.natCast_add, Int.natCast_one] at ih
    rw [goL_at c21L1.eq_def, ← ih]
    simp (disch := first | omega | (simp only [Go.Am.len_push, Go.Am.len_set, Go.Am.len_kill] <;> omega) | fail) only [push_cast, Nat.reduceBEq, Nat.reduceAdd, Nat.reduceMul, Nat.reduceSub, Nat.reduceLT, Nat.reduceGT, Nat.reduceLeDiff, Nat.reduceEqDiff, Int.reduceToNat, Int.reduceAdd, Int.reduceMul, Int.reduceSub, Int.reduceNeg, Int.reduceLT, Int.reduceLE, Int.reduceEq, Nat.zero_add, Nat.add_zero, Nat.mul_one, eq_self, ne_eq, not_true, not_false_iff, and_true, true_and, and_self, List.getElem?_cons_zero, List.getElem?_cons_succ, List.map_cons, List.map_nil, wrap64, dec_lt, dec_nlt, dec_le, dec_nle, dec_eq, dec_ne, if_pos, if_neg, Int.natCast_add, Int.natCast_one, Int.natCast_zero, Int.toNat_natCast]
    rw [j3]
    simp (disch := first | omega | (simp only [Go.Am.len_push, Go.Am.len_set, Go.Am.len_kill] <;> omega) | fail) only [push_cast, Nat.reduceBEq, Nat.reduceAdd, Nat.reduceMul, Nat.reduceSub, Nat.reduceLT, Nat.reduceGT, Nat.reduceLeDiff, Nat.reduceEqDiff, Int.reduceToNat, Int.reduceAdd, Int.reduceMul, Int.reduceSub, Int.reduceNeg, Int.reduceLT, Int.reduceLE, Int.reduceEq, Nat.zero_add, Nat.add_zero, Nat.mul_one, eq_self, ne_eq, not_true, not_false_iff, and_true, true_and, and_self, List.getElem?_cons_zero, List.getElem?_cons_succ, List.map_cons, List.map_nil, wrap64, dec_lt, dec_nlt, dec_le, dec_nle, dec_eq, dec_ne, if_pos, if_neg, Int.natCast_add, Int.natCast_one, Int.natCast_zero, Int.toNat_natCast]
end
section
variable {h : H} {sa sb : Option Addr} {ca cb N : Nat} {f g : Nat → Bool}
theorem rapart_loop (hN : N ≤ 32) (ha : RdI h sa ca (wl N f)) (hb : RdI h sb cb (wl N g)) : ∀ (n x k : Nat), x + n = N → k + n ≤ 100 → ∀ ks,
    goL T [.tmp 4] [0, 1, 5, 6] c20L0 (.blk 0 [5] :: ks) [(0, .slice sa N ca), (1, .slice sb N cb), (5, .int .i64 k), (6, .int .i64 x)] h =
      go T [.tmp 4] ks (Fr.of [(5, .int .i64 (k + ((List.range' x n).filter fun y => f y ^^ g y).length : Nat))]) h
  | 0, x, k, hx, hk, ks => by
    have hz : ((List.range' x 0).filter fun y => f y ^^ g y).length = 0 := by simp
    rw [hz, Nat.add_zero, goL_at c20L0.eq_def]
    simp (disch := first | omega | (simp only [Go.Am.len_push, Go.Am.len_set, Go.Am.len_kill] <;> omega) | fail) only [push_cast, Nat.reduceBEq, Nat.reduceAdd, Nat.reduceMul, Nat.reduceSub, Nat.reduceLT, Nat.reduceGT, Nat.reduceLeDiff, Nat.reduceEqDiff, Int.reduceToNat, Int.reduceAdd, Int.reduceMul, Int.reduceSub, Int.reduceNeg, Int.reduceLT, Int.reduceLE, Int.reduceEq, Nat.zero_add, Nat.add_zero, Nat.mul_one, eq_self, ne_eq, not_true, not_false_iff, and_true, true_and, and_self, List.getElem?_cons_zero, List.getElem?_cons_succ, List.map_cons, List.map_nil, wrap64, dec_lt, dec_nlt, dec_le, dec_nle, dec_eq, dec_ne, if_pos, if_neg, Int.natCast_add, Int.natCast_one, Int.natCast_zero, Int.toNat_natCast]
  | n + 1, x, k, hx, hk, ks => by
    have IH := rapart_loop hN ha hb n (x + 1)
    obtain ⟨oa, fa, rfl, _, l1⟩ := ha.at (i := x) (by rw [wl_len]; omega)
    obtain ⟨ob, fb, rfl, _, l2⟩ := hb.at (i := x) (by rw [wl_len]; omega)
    rw [gi_wl f (by omega)] at l1
    rw [gi_wl g (by omega)] at l2
    rw [List.range'_succ, List.filter_cons]
    cases hx : (f x ^^ g x) with
    | true =>
      have hne : ¬ bI (f x) = bI (g x) := by revert hx; cases f x <;> cases g x <;> simp [bI]
      have ih := IH (k + 1) (by omega) (by omega) ks
      rw [Int.natCast_add, Int.natCast_one, Int.natCast_add, Int.natCast_one] at ih
      rw [if_pos rfl, List.length_cons, show ∀ a : Nat, k + (a + 1) = k + 1 + a by omega, ← ih, goL_at c20L0.eq_def]
      simp (disch := first | omega | (simp only [Go.Am.len_push, Go.Am.len_set, Go.Am.len_kill] <;> omega) | fail) only [push_cast, Nat.reduceBEq, Nat.reduceAdd, Nat.reduceMul, Nat.reduceSub, Nat.reduceLT, Nat.reduceGT, Nat.reduceLeDiff, Nat.reduceEqDiff, Int.reduceToNat, Int.reduceAdd, Int.reduceMul, Int.reduceSub, Int.reduceNeg, Int.reduceLT, Int.reduceLE, Int.reduceEq, Nat.zero_add, Nat.add_zero, Nat.mul_one, eq_self, ne_eq, not_true, not_false_iff, and_true, true_and, and_self, List.getElem?_cons_zero, List.getElem?_cons_succ, List.map_cons, List.map_nil, wrap64, dec_lt, dec_nlt, dec_le, dec_nle, dec_eq, dec_ne, if_pos, if_neg, Int.natCast_add, Int.natCast_one, Int.natCast_zero, Int.toNat_natCast, l1, l2, dec_ne hne]
    | false =>
      have heq : bI (f x) = bI (g x) := by revert hx; cases f x <;> cases g x <;> simp [bI]
      have ih := IH k (by omega) (by omega) ks
      rw [Int.natCast_add, Int.natCast_one] at ih
      rw [if_neg (by decide), ← ih, goL_at c20L0.eq_def]
      rw [heq] at l1
      simp (disch := first | omega | (simp only [Go.Am.len_push, Go.Am.len_set, Go.Am.len_kill] <;> omega) | fail) only [push_cast, Nat.reduceBEq, Nat.reduceAdd, Nat.reduceMul, Nat.reduceSub, Nat.reduceLT, Nat.reduceGT, Nat.reduceLeDiff, Nat.reduceEqDiff, Int.reduceToNat, Int.reduceAdd, Int.reduceMul, Int.reduceSub, Int.reduceNeg, Int.reduceLT, Int.reduceLE, Int.reduceEq, Nat.zero_add, Nat.add_zero, Nat.mul_one, eq_self, ne_eq, not_true, not_false_iff, and_true, true_and, and_self, List.getElem?_cons_zero, List.getElem?_cons_succ, List.map_cons, List.map_nil, wrap64, dec_lt, dec_nlt, dec_le, dec_nle, dec_eq, dec_ne, if_pos, if_neg, Int.natCast_add, Int.natCast_one, Int.natCast_zero, Int.toNat_natCast, l1, l2]
theorem rapart_call {m : Nat} (hm : m ≤ 5) (hNe : N = 2 ^ m) (ha : RdI h sa ca (wl N f)) (hb : RdI h sb cb (wl N g)) : call T 20 [.slice sa N ca, .slice sb N cb] h = some (.int .i64 (offB m f g), h) := by
  have hN := two_le hm
  rw [← hNe] at hN
  have e := fun ks => rapart_loop hN ha hb N 0 0 (by omega) (by omega) ks
  rw [← List.range_eq_range', Nat.zero_add] at e
  have h1 : ((List.range N).filter fun y => f y ^^ g y).length = offB m f g := by rw [hNe]; rfl
  rw [h1] at e
  simp only [Int.natCast_zero] at e
  rw [call_at T20 rfl]
  unfold F20 c20
  simp (disch := first | omega | (simp only [Go.Am.len_push, Go.Am.len_set, Go.Am.len_kill] <;> omega) | fail) only [push_cast, Nat.reduceBEq, Nat.reduceAdd, Nat.reduceMul, Nat.reduceSub, Nat.reduceLT, Nat.reduceGT, Nat.reduceLeDiff, Nat.reduceEqDiff, Int.reduceToNat, Int.reduceAdd, Int.reduceMul, Int.reduceSub, Int.reduceNeg, Int.reduceLT, Int.reduceLE, Int.reduceEq, Nat.zero_add, Nat.add_zero, Nat.mul_one, eq_self, ne_eq, not_true, not_false_iff, and_true, true_and, and_self, List.getElem?_cons_zero, List.getElem?_cons_succ, List.map_cons, List.map_nil, wrap64, dec_lt, dec_nlt, dec_le, dec_nle, dec_eq, dec_ne, if_pos, if_neg, Int.natCast_add, Int.natCast_one, Int.natCast_zero, Int.toNat_natCast]
  rw [e]
  simp (disch := first | omega | (simp only [Go.Am.len_push, Go.Am.len_set, Go.Am.len_kill] <;> omega) | fail) only [push_cast, Nat.reduceBEq, Nat.reduceAdd, Nat.reduceMul, Nat.reduceSub, Nat.reduceLT, Nat.reduceGT, Nat.reduceLeDiff, Nat.reduceEqDiff, Int.reduceToNat, Int.reduceAdd, Int.reduceMul, Int.reduceSub, Int.reduceNeg, Int.reduceLT, Int.reduceLE, Int.reduceEq, Nat.zero_add, Nat.add_zero, Nat.mul_one, eq_self, ne_eq, not_true, not_false_iff, and_true, true_and, and_self, List.getElem?_cons_zero, List.getElem?_cons_succ, List.map_cons, List.map_nil]
end
end Go.Proofs.Ytammndhoillliaa
namespace Go.Proofs.Ytammndhoillliaa
open Go.Am
set_option linter.unusedVariables false
set_option linter.unusedSimpArgs false
set_option maxRecDepth 30000

section
variable {h : H} {N o : Nat} {f g : Nat → Bool} {sb : Option Addr} {cb : Nat}
theorem set_row {h : H} {o : Nat} {r : Row} (hr : h.row o = some r) : h.set o (.row r) = h := by
  have h0 : h[o]? = some (.row r) := by
    unfold H.row at hr
    split at hr
    · rename_i x hx; cases hr; exact hx
    · cases hr
  obtain ⟨h1, h2⟩ := List.getElem?_eq_some_iff.1 h0
  rw [← h2]; exact List.set_getElem_self h1
theorem paddw_call {o' : Nat} (hN : N ≤ 32) (hne : o ≠ o') (hr : h.row o = some ⟨ints (wl N f), 3, 1, true⟩) (hr' : h.row o' = some ⟨ints (wl N g), 3, 1, true⟩) :
    call T 101 [.slice (some ⟨o, 0, none⟩) N N, .slice (some ⟨o', 0, none⟩) N N] h = some (.tuple #[], h.set o (.row ⟨ints (wl N fun x => f x ^^ g x), 3, 1, true⟩)) := by
  have hw : wl N f = wl N (fun x => f x ^^ (decide (x < 0) && g x)) := wl_congr fun x _ => by rw [decide_eq_false (Nat.not_lt_zero x), Bool.false_and, Bool.xor_false]
  have hb : ∀ z : List Int, RdI (h.set o (.row ⟨ints z, 3, 1, true⟩)) (some ⟨o', 0, none⟩) N (wl N g) := fun z => by
    have h1 : H.row (h.set o (.row ⟨ints z, 3, 1, true⟩)) o' = some ⟨ints (wl N g), 3, 1, true⟩ := by rw [row_set_other hne]; exact hr'
    have := RdI.ofRow h1 rfl
    rwa [wl_len] at this
  have k3 := fun ks => paddw_loop hN (row_some_lt hr) hb f N 0 (by omega) ks
  rw [← hw, set_row hr] at k3
  simp only [Int.natCast_zero] at k3
  rw [call_at T101 rfl]
  unfold F101 c101
  simp (disch := first | omega | (simp only [Go.Am.len_push, Go.Am.len_set, Go.Am.len_kill] <;> omega) | fail) only [push_cast, Nat.reduceBEq, Nat.reduceAdd, Nat.reduceMul, Nat.reduceSub, Nat.reduceLT, Nat.reduceGT, Nat.reduceLeDiff, Nat.reduceEqDiff, Int.reduceToNat, Int.reduceAdd, Int.reduceMul, Int.reduceSub, Int.reduceNeg, Int.reduceLT, Int.reduceLE, Int.reduceEq, Nat.zero_add, Nat.add_zero, Nat.mul_one, eq_self, ne_eq, not_true, not_false_iff, and_true, true_and, and_self, List.getElem?_cons_zero, List.getElem?_cons_succ, List.map_cons, List.map_nil]
  rw [k3]
  simp (disch := first | omega | (simp only [Go.Am.len_push, Go.Am.len_set, Go.Am.len_kill] <;> omega) | fail) only [push_cast, Nat.reduceBEq, Nat.reduceAdd, Nat.reduceMul, Nat.reduceSub, Nat.reduceLT, Nat.reduceGT, Nat.reduceLeDiff, Nat.reduceEqDiff, Int.reduceToNat, Int.reduceAdd, Int.reduceMul, Int.reduceSub, Int.reduceNeg, Int.reduceLT, Int.reduceLE, Int.reduceEq, Nat.zero_add, Nat.add_zero, Nat.mul_one, eq_self, ne_eq, not_true, not_false_iff, and_true, true_and, and_self, List.getElem?_cons_zero, List.getElem?_cons_succ, List.map_cons, List.map_nil]
end
section
variable {h : H} {sa : Option Addr} {ca N : Nat} {f : Nat → Bool}
theorem pweight_loop (hN : N ≤ 32) (ha : RdI h sa ca (wl N f)) : ∀ (n x k : Nat), x + n = N → k + n ≤ 100 → ∀ ks,
    goL T [.tmp 2] [3, 6, 7, 8] c103L0 (.blk 0 [3] :: ks) [(3, .int .i64 k), (6, .slice sa N ca), (7, .int .i64 N), (8, .int .i64 x)] h =
      go T [.tmp 2] ks (Fr.of [(3, .int .i64 (k + ((List.range' x n).filter f).length : Nat))]) h
  | 0, x, k, hx, hk, ks => by
    have hz : ((List.range' x 0).filter f).length = 0 := by simp
    rw [hz, Nat.add_zero, goL_at c103L0.eq_def]
    simp (disch := first | omega | (simp only [Go.Am.len_push, Go.Am.len_set, Go.Am.len_kill] <;> omega) | fail) only [push_cast, Nat.reduceBEq, Nat.reduceAdd, Nat.reduceMul, Nat.reduceSub, Nat.reduceLT, Nat.reduceGT, Nat.reduceLeDiff, Nat.reduceEqDiff, Int.reduceToNat, Int.reduceAdd, Int.reduceMul, Int.reduceSub, Int.reduceNeg, Int.reduceLT, Int.reduceLE, Int.reduceEq, Nat.zero_add, Nat.add_zero, Nat.mul_one, eq_self, ne_eq, not_true, not_false_iff, and_true, true_and, and_self, List.getElem?_cons_zero, List.getElem?_cons_succ, List.map_cons, List.map_nil, wrap64, dec_lt, dec_nlt, dec_le, dec_nle, dec_eq, dec_ne, if_pos, if_neg, Int.natCast_add, Int.natCast_one, Int.natCast_zero, Int.toNat_natCast]
  | n + 1, x, k, hx, hk, ks => by
    have IH := pweight_loop hN ha n (x + 1)
    obtain ⟨oa, fa, rfl, _, l1⟩ := ha.at (i := x) (by rw [wl_len]; omega)
    rw [gi_wl f (by omega)] at l1
    rw [List.range'_succ, List.filter_cons]
    cases hx : f x with
    | true =>
      rw [hx, show bI true = 1 from rfl] at l1
      have ih := IH (k + 1) (by omega) (by omega) ks
      rw [Int.natCast_add, Int.natCast_one, Int.natCast_add, Int.natCast_one] at ih
      rw [if_pos rfl, List.length_cons, show ∀ a : Nat, k + (a + 1) = k + 1 + a by omega, ← ih, goL_at c103L0.eq_def]
      simp (disch := first | omega | (simp only [Go.Am.len_push, Go.Am.len_set, Go.Am.len_kill] <;> omega) | fail) only [push_cast, Nat.reduceBEq, Nat.reduceAdd, Nat.reduceMul, Nat.reduceSub, Nat.reduceLT, Nat.reduceGT, Nat.reduceLeDiff, Nat.reduceEqDiff, Int.reduceToNat, Int.reduceAdd, Int.reduceMul, Int.reduceSub, Int.reduceNeg, Int.reduceLT, Int.reduceLE, Int.reduceEq, Nat.zero_add, Nat.add_zero, Nat.mul_one, eq_self, ne_eq, not_true, not_false_iff, and_true, true_and, and_self, List.getElem?_cons_zero, List.getElem?_cons_succ, List.map_cons, List.map_nil, wrap64, dec_lt, dec_nlt, dec_le, dec_nle, dec_eq, dec_ne, if_pos, if_neg, Int.natCast_add, Int.natCast_one, Int.natCast_zero, Int.toNat_natCast, l1]
    | false =>
      rw [hx, show bI false = 0 from rfl] at l1
      have ih := IH k (by omega) (by omega) ks
      rw [Int.natCast_add, Int.natCast_one] at ih
      rw [if_neg (by decide), ← ih, goL_at c103L0.eq_def]
      simp (disch := first | omega | (simp only [Go.Am.len_push, Go.Am.len_set, Go.Am.len_kill] <;> omega) | fail) only [push_cast, Nat.reduceBEq, Nat.reduceAdd, Nat.reduceMul, Nat.reduceSub, Nat.reduceLT, Nat.reduceGT, Nat.reduceLeDiff, Nat.reduceEqDiff, Int.reduceToNat, Int.reduceAdd, Int.reduceMul, Int.reduceSub, Int.reduceNeg, Int.reduceLT, Int.reduceLE, Int.reduceEq, Nat.zero_add, Nat.add_zero, Nat.mul_one, eq_self, ne_eq, not_true, not_false_iff, and_true, true_and, and_self, List.getElem?_cons_zero, List.getElem?_cons_succ, List.map_cons, List.map_nil, wrap64, dec_lt, dec_nlt, dec_le, dec_nle, dec_eq, dec_ne, if_pos, if_neg, Int.natCast_add, Int.natCast_one, Int.natCast_zero, Int.toNat_natCast, l1]
theorem pweight_call (hN : N ≤ 32) (ha : RdI h sa ca (wl N f)) : call T 103 [.slice sa N ca] h = some (.int .i64 ((List.range N).filter f).length, h) := by
  have e := fun ks => pweight_loop hN ha N 0 0 (by omega) (by omega) ks
  rw [← List.range_eq_range', Nat.zero_add] at e
  simp only [Int.natCast_zero] at e
  rw [call_at T103 rfl]
  unfold F103 c103
  simp (disch := first | omega | (simp only [Go.Am.len_push, Go.Am.len_set, Go.Am.len_kill] <;> omega) | fail) only [push_cast, Nat.reduceBEq, Nat.reduceAdd, Nat.reduceMul, Nat.reduceSub, Nat.reduceLT, Nat.reduceGT, Nat.reduceLeDiff, Nat.reduceEqDiff, Int.reduceToNat, Int.reduceAdd, Int.reduceMul, Int.reduceSub, Int.reduceNeg, Int.reduceLT, Int.reduceLE, Int.reduceEq, Nat.zero_add, Nat.add_zero, Nat.mul_one, eq_self, ne_eq, not_true, not_false_iff, and_true, true_and, and_self, List.getElem?_cons_zero, List.getElem?_cons_succ, List.map_cons, List.map_nil]
  rw [e]
  simp (disch := first | omega | (simp only [Go.Am.len_push, Go.Am.len_set, Go.Am.len_kill] <;> omega) | fail) only [push_cast, Nat.reduceBEq, Nat.reduceAdd, Nat.reduceMul, Nat.reduceSub, Nat.reduceLT, Nat.reduceGT, Nat.reduceLeDiff, Nat.reduceEqDiff, Int.reduceToNat, Int.reduceAdd, Int.reduceMul, Int.reduceSub, Int.reduceNeg, Int.reduceLT, Int.reduceLE, Int.reduceEq, Nat.zero_add, Nat.add_zero, Nat.mul_one, eq_self, ne_eq, not_true, not_false_iff, and_true, true_and, and_self, List.getElem?_cons_zero, List.getElem?_cons_succ, List.map_cons, List.map_nil]
end
section
variable {h : H}
theorem rword_call {r m N : Nat} (hr : r ≤ 5) (hm : m ≤ 5) (hNe : N = 2 ^ m) {c : Nat → Bool} {sm : Option Addr} {cm' : Nat} (hmsg : RdI h sm cm' (msg (monN r m) c)) : ∃ (o : Nat) (h' : H), h <+: h' ∧ h.length ≤ o ∧ h'.row o = some ⟨ints (wl N (wordB r m c)), 3, 1, true⟩ ∧
    call T 21 [.int .i64 r, .int .i64 m, .slice sm (monN r m).length cm'] h = some (.slice (some ⟨o, 0, none⟩) N N, h') := by
  have hN := two_le hm
  have hsh := shl_is hm
  have hl32 : ∀ s ∈ monN r m, s < 32 := fun s hs => by have := (mem_mon.1 hs).2; omega
  rw [← hNe] at hN hsh
  obtain ⟨sl, cl, h1, p1, g1, e1⟩ := rmon_call (h := h) hr hm
  have hll : (monN r m).length ≤ 1000 := by
    have := monR_len m (r + 1) 0
    rw [monR_all, ← hNe] at this
    have h2 : (r + 1) * N ≤ 6 * 32 := Nat.mul_le_mul (by omega) hN
    omega
  obtain ⟨G1, eG1⟩ : ∃ G1 : H, G1 = h1 ++ [.row ⟨ints (List.replicate N 0), 3, 1, true⟩] := ⟨_, rfl⟩
  have hz : List.replicate N (0 : Int) = wl N (fun y => decide (y < 0) && xorL (monN r m) fun s => c s && inM s y) := by
    refine gi_ext (by simp [wl_len]) fun x hx => ?_
    rw [List.length_replicate] at hx
    rw [gi_wl _ hx]
    unfold gi
    simp [hx, bI]
  have r1 : G1.row h1.length = some ⟨ints (wl N (fun y => decide (y < 0) && xorL (monN r m) fun s => c s && inM s y)), 3, 1, true⟩ := by rw [← hz, eG1]; exact row_push_new
  have q1 : h1 <+: G1 := by rw [eG1]; exact List.prefix_append _ _
  obtain ⟨G', k1, k2, k3⟩ := rword_out hl32 hll hN (hmsg.mono p1) g1.rd (o := h1.length) (Nat.le_refl _) N 0 G1 (by omega) q1 r1
  simp only [Int.natCast_zero] at k3
  refine ⟨h1.length, G', p1.trans k1, p1.length_le, k2, ?_⟩
  have hr0 : rep [.int .i64 0] N = ints (List.replicate N 0) := rep_int _ _
  rw [call_at T21 rfl]
  unfold F21 c21
  simp (disch := first | omega | (simp only [Go.Am.len_push, Go.Am.len_set, Go.Am.len_kill] <;> omega) | fail) only [push_cast, Nat.reduceBEq, Nat.reduceAdd, Nat.reduceMul, Nat.reduceSub, Nat.reduceLT, Nat.reduceGT, Nat.reduceLeDiff, Nat.reduceEqDiff, Int.reduceToNat, Int.reduceAdd, Int.reduceMul, Int.reduceSub, Int.reduceNeg, Int.reduceLT, Int.reduceLE, Int.reduceEq, Nat.zero_add, Nat.add_zero, Nat.mul_one, eq_self, ne_eq, not_true, not_false_iff, and_true, true_and, and_self, List.getElem?_cons_zero, List.getElem?_cons_succ, List.map_cons, List.map_nil, wrap64, dec_lt, dec_nlt, dec_le, dec_nle, dec_eq, dec_ne, if_pos, if_neg, Int.natCast_add, Int.natCast_one, Int.natCast_zero, Int.toNat_natCast, e1, hsh, hr0, ← eG1]
  rw [k3]
  simp (disch := first | omega | (simp only [Go.Am.len_push, Go.Am.len_set, Go.Am.len_kill] <;> omega) | fail) only [push_cast, Nat.reduceBEq, Nat.reduceAdd, Nat.reduceMul, Nat.reduceSub, Nat.reduceLT, Nat.reduceGT, Nat.reduceLeDiff, Nat.reduceEqDiff, Int.reduceToNat, Int.reduceAdd, Int.reduceMul, Int.reduceSub, Int.reduceNeg, Int.reduceLT, Int.reduceLE, Int.reduceEq, Nat.zero_add, Nat.add_zero, Nat.mul_one, eq_self, ne_eq, not_true, not_false_iff, and_true, true_and, and_self, List.getElem?_cons_zero, List.getElem?_cons_succ, List.map_cons, List.map_nil]
end
end Go.Proofs.Ytammndhoillliaa
