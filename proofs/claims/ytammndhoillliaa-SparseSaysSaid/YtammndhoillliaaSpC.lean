/-
  What sparse.Peel and the document's Peeled compute. Conditions: checks of places, a word of bits (some lost).
-/
import Derived.Test.YtammndhoillliaaSpB
import Derived.Test.YtammndhoillliaaSame
namespace Go.Proofs.Ytammndhoillliaa
open Go.Am
set_option linter.unusedVariables false
set_option linter.unusedSimpArgs false
set_option maxRecDepth 30000

def PS.has (s : PS) : Prop := 0 ≤ s.sum ∧ s.sum < 2
theorem xor_bit2 {a b : Int} (h1 : 0 ≤ a) (h2 : a < 2) (h3 : 0 ≤ b) (h4 : b < 2) : bits .xor .i64 a b = (a + b) % 2 := by
  have ha : a = 0 ∨ a = 1 := by omega
  have hb : b = 0 ∨ b = 1 := by omega
  rcases ha with rfl | rfl <;> rcases hb with rfl | rfl <;> rfl
theorem ps_lost (now : List Int) : ∀ (c : List Int) (s : PS), s.lost ≤ (c.foldl (psStep now) s).lost ∧ (c.foldl (psStep now) s).lost ≤ s.lost + c.length
  | [], s => ⟨Nat.le_refl _, Nat.le_refl _⟩
  | v :: c, s => by
    obtain ⟨h1, h2⟩ := ps_lost now c (psStep now s v)
    rw [List.foldl_cons, List.length_cons]
    have h3 : (psStep now s v).lost = s.lost ∨ (psStep now s v).lost = s.lost + 1 := by unfold psStep; split <;> simp
    omega
theorem ps_has {now : List Int} (hb : Bits3 now) {n : Nat} (hn : now.length = n) {s : PS} (hs : s.has) {v : Int} (h0 : 0 ≤ v) (h1 : v < n) : (psStep now s v).has := by
  unfold psStep PS.has at *
  split
  · exact hs
  · simp only; omega

section
variable {h : H} {n : Nat} {now : List Int} {a : Option Addr} {cc : Nat} {c : List Int}
theorem fits_gi (hf : Fits n c) {k : Nat} (hk : k < c.length) : 0 ≤ gi c k ∧ gi c k < n := hf _ (gi_mem (by omega) (by omega))
theorem drop_gi {k : Nat} (hk : k < c.length) : c.drop k = gi c k :: c.drop (k + 1) := by
  rw [List.drop_eq_getElem_cons hk, gi_nat hk]
theorem peel_in (hr : RdI h a cc c) (hl : c.length ≤ 6000) (hf : Fits n c) (hb : Bits3 now) (hn : now.length = n) {o : Nat} (ho : h.row o = some ⟨ints now, 3, 1, true⟩) (V1 V7 V10 V11 V37 V38 V39 : Value) : ∀ (m k : Nat) (s : PS), k + m = c.length → s.has → s.lost ≤ k → ∀ ks,
    goL T [.tmp 6, .tmp 7, .tmp 8] [1, 7, 9, 10, 11, 14, 15, 16, 37, 38, 39, 43, 44, 45] c26L0 (.blk 4 [1, 7, 9, 10, 11, 14, 15, 16, 37, 38, 39] :: ks)
      [(1, V1), (7, V7), (9, .slice (some ⟨o, 0, none⟩) n n), (10, V10), (11, V11), (14, .int .i64 s.lost), (15, .int .i64 s.at'), (16, .int .i64 s.sum), (37, V37), (38, V38), (39, V39), (43, .slice a c.length cc), (44, .int .i64 c.length), (45, .int .i64 k)] h =
    go T [.tmp 6, .tmp 7, .tmp 8] ks (Fr.of [(1, V1), (7, V7), (9, .slice (some ⟨o, 0, none⟩) n n), (10, V10), (11, V11), (14, .int .i64 ((c.drop k).foldl (psStep now) s).lost), (15, .int .i64 ((c.drop k).foldl (psStep now) s).at'), (16, .int .i64 ((c.drop k).foldl (psStep now) s).sum), (37, V37), (38, V38), (39, V39)]) h
  | 0, k, s, hk, hs, hlk, ks => by
    rw [goL_at c26L0.eq_def, drop_end (by omega), List.foldl_nil]
    simp (disch := first | omega | (simp only [Go.Am.len_push, Go.Am.len_set, Go.Am.len_kill] <;> omega) | fail) only [push_cast, Nat.reduceBEq, Nat.reduceAdd, Nat.reduceMul, Nat.reduceSub, Nat.reduceLT, Nat.reduceGT, Nat.reduceLeDiff, Nat.reduceEqDiff, Int.reduceToNat, Int.reduceAdd, Int.reduceMul, Int.reduceSub, Int.reduceNeg, Int.reduceLT, Int.reduceLE, Int.reduceEq, Nat.zero_add, Nat.add_zero, Nat.mul_one, eq_self, ne_eq, not_true, not_false_iff, and_true, true_and, and_self, List.getElem?_cons_zero, List.getElem?_cons_succ, List.map_cons, List.map_nil, wrap64, dec_lt, dec_nlt, dec_le, dec_nle, dec_eq, dec_ne, if_pos, if_neg, Int.natCast_add, Int.natCast_one, Int.natCast_zero, Int.toNat_natCast]
  | m + 1, k, s, hk, hs, hlk, ks => by
    have hv := fits_gi hf (show k < c.length by omega)
    have IH := peel_in hr hl hf hb hn ho V1 V7 V10 V11 V37 V38 V39 m
    obtain ⟨o', off, rfl, _, l1⟩ := hr.at (i := k) (by omega)
    have l2 := ld1_int ho (i := gi c k) hv.1 (by omega)
    have hbv := bits3_get hb hv.1 (by omega)
    have ih := IH (k + 1) (psStep now s (gi c k)) (by omega) (ps_has hb hn hs hv.1 hv.2) (by unfold psStep; split <;> simp <;> omega) ks
    rw [Int.natCast_add, Int.natCast_one] at ih
    rw [goL_at c26L0.eq_def, drop_gi (by omega), List.foldl_cons, ← ih]
    unfold psStep
    by_cases h0 : gi now (gi c k) < 0
    · rw [if_pos h0]
      simp (disch := first | omega | (simp only [Go.Am.len_push, Go.Am.len_set, Go.Am.len_kill] <;> omega) | fail) only [push_cast, Nat.reduceBEq, Nat.reduceAdd, Nat.reduceMul, Nat.reduceSub, Nat.reduceLT, Nat.reduceGT, Nat.reduceLeDiff, Nat.reduceEqDiff, Int.reduceToNat, Int.reduceAdd, Int.reduceMul, Int.reduceSub, Int.reduceNeg, Int.reduceLT, Int.reduceLE, Int.reduceEq, Nat.zero_add, Nat.add_zero, Nat.mul_one, eq_self, ne_eq, not_true, not_false_iff, and_true, true_and, and_self, List.getElem?_cons_zero, List.getElem?_cons_succ, List.map_cons, List.map_nil, wrap64, dec_lt, dec_nlt, dec_le, dec_nle, dec_eq, dec_ne, if_pos, if_neg, Int.natCast_add, Int.natCast_one, Int.natCast_zero, Int.toNat_natCast, l1, l2]
    · rw [if_neg h0]
      have hx : bits .xor .i64 s.sum (gi now (gi c k)) = (s.sum + gi now (gi c k)) % 2 := xor_bit2 hs.1 hs.2 (by omega) (by omega)
      simp (disch := first | omega | (simp only [Go.Am.len_push, Go.Am.len_set, Go.Am.len_kill] <;> omega) | fail) only [push_cast, Nat.reduceBEq, Nat.reduceAdd, Nat.reduceMul, Nat.reduceSub, Nat.reduceLT, Nat.reduceGT, Nat.reduceLeDiff, Nat.reduceEqDiff, Int.reduceToNat, Int.reduceAdd, Int.reduceMul, Int.reduceSub, Int.reduceNeg, Int.reduceLT, Int.reduceLE, Int.reduceEq, Nat.zero_add, Nat.add_zero, Nat.mul_one, eq_self, ne_eq, not_true, not_false_iff, and_true, true_and, and_self, List.getElem?_cons_zero, List.getElem?_cons_succ, List.map_cons, List.map_nil, wrap64, dec_lt, dec_nlt, dec_le, dec_nle, dec_eq, dec_ne, if_pos, if_neg, Int.natCast_add, Int.natCast_one, Int.natCast_zero, Int.toNat_natCast, l1, l2, hx]

theorem alone_loop {ca : Nat} {sw : Option Addr} {cw : Nat} (hr : RdI h a ca c) (hw : RdI h sw cw now) (hl : c.length ≤ 6000) (hf : Fits n c) (hb : Bits3 now) (hn : now.length = n) : ∀ (m k : Nat) (s : PS) (at' : Int), k + m = c.length → s.has → ((s.lost = 0 ∧ at' = -1) ∨ (s.lost = 1 ∧ at' = s.at' ∧ 0 ≤ at')) → ∀ ks,
    goL T [.tmp 4, .tmp 5, .tmp 6] [0, 1, 7, 8, 9] c107L0 (.blk 0 [7, 8] :: ks) [(0, .slice a c.length ca), (1, .slice sw now.length cw), (7, .int .i64 at'), (8, .int .i64 s.sum), (9, .int .i64 k)] h =
    if 2 ≤ ((c.drop k).foldl (psStep now) s).lost then some (.tuple #[.int .i64 0, .int .i64 0, .bool false], h) else
      go T [.tmp 4, .tmp 5, .tmp 6] ks (Fr.of [(7, .int .i64 (if ((c.drop k).foldl (psStep now) s).lost = 0 then -1 else ((c.drop k).foldl (psStep now) s).at')), (8, .int .i64 ((c.drop k).foldl (psStep now) s).sum)]) h
  | 0, k, s, at', hk, hs, hst, ks => by
    rw [goL_at c107L0.eq_def, drop_end (by omega), List.foldl_nil, if_neg (by omega)]
    have he : (if s.lost = 0 then -1 else s.at') = at' := by
      rcases hst with ⟨h1, h2⟩ | ⟨h1, h2, h3⟩
      · rw [if_pos h1, h2]
      · rw [if_neg (by omega), h2]
    rw [he]
    simp (disch := first | omega | (simp only [Go.Am.len_push, Go.Am.len_set, Go.Am.len_kill] <;> omega) | fail) only [push_cast, Nat.reduceBEq, Nat.reduceAdd, Nat.reduceMul, Nat.reduceSub, Nat.reduceLT, Nat.reduceGT, Nat.reduceLeDiff, Nat.reduceEqDiff, Int.reduceToNat, Int.reduceAdd, Int.reduceMul, Int.reduceSub, Int.reduceNeg, Int.reduceLT, Int.reduceLE, Int.reduceEq, Nat.zero_add, Nat.add_zero, Nat.mul_one, eq_self, ne_eq, not_true, not_false_iff, and_true, true_and, and_self, List.getElem?_cons_zero, List.getElem?_cons_succ, List.map_cons, List.map_nil, wrap64, dec_lt, dec_nlt, dec_le, dec_nle, dec_eq, dec_ne, if_pos, if_neg, Int.natCast_add, Int.natCast_one, Int.natCast_zero, Int.toNat_natCast]
  | m + 1, k, s, at', hk, hs, hst, ks => by
    have hv := fits_gi hf (show k < c.length by omega)
    have IH := alone_loop hr hw hl hf hb hn m
    obtain ⟨o', off, rfl, _, l1⟩ := hr.at (i := k) (by omega)
    obtain ⟨o2, off2, rfl, _, l2'⟩ := hw.addr (by omega)
    have l2 := l2' (gi c k) hv.1 (by omega)
    have hbv := bits3_get hb hv.1 (by omega)
    rw [goL_at c107L0.eq_def, drop_gi (by omega), List.foldl_cons]
    by_cases h0 : gi now (gi c k) < 0
    · have hst' : psStep now s (gi c k) = ⟨s.lost + 1, gi c k, s.sum⟩ := by unfold psStep; rw [if_pos h0]
      rcases hst with ⟨q1, q2⟩ | ⟨q1, q2, q3⟩
      · have ih := IH (k + 1) (psStep now s (gi c k)) (gi c k) (by omega) (ps_has hb hn hs hv.1 hv.2) (.inr ⟨by rw [hst']; simp only; omega, by rw [hst'], hv.1⟩) ks
        rw [Int.natCast_add, Int.natCast_one] at ih
        rw [← ih, hst']
        subst q2
        simp (disch := first | omega | (simp only [Go.Am.len_push, Go.Am.len_set, Go.Am.len_kill] <;> omega) | fail) only [push_cast, Nat.reduceBEq, Nat.reduceAdd, Nat.reduceMul, Nat.reduceSub, Nat.reduceLT, Nat.reduceGT, Nat.reduceLeDiff, Nat.reduceEqDiff, Int.reduceToNat, Int.reduceAdd, Int.reduceMul, Int.reduceSub, Int.reduceNeg, Int.reduceLT, Int.reduceLE, Int.reduceEq, Nat.zero_add, Nat.add_zero, Nat.mul_one, eq_self, ne_eq, not_true, not_false_iff, and_true, true_and, and_self, List.getElem?_cons_zero, List.getElem?_cons_succ, List.map_cons, List.map_nil, wrap64, dec_lt, dec_nlt, dec_le, dec_nle, dec_eq, dec_ne, if_pos, if_neg, Int.natCast_add, Int.natCast_one, Int.natCast_zero, Int.toNat_natCast, l1, l2]
      · have hl2 := (ps_lost now (c.drop (k + 1)) (psStep now s (gi c k))).1
        rw [if_pos (by rw [hst'] at hl2 ⊢; simp only at hl2; omega)]
        simp (disch := first | omega | (simp only [Go.Am.len_push, Go.Am.len_set, Go.Am.len_kill] <;> omega) | fail) only [push_cast, Nat.reduceBEq, Nat.reduceAdd, Nat.reduceMul, Nat.reduceSub, Nat.reduceLT, Nat.reduceGT, Nat.reduceLeDiff, Nat.reduceEqDiff, Int.reduceToNat, Int.reduceAdd, Int.reduceMul, Int.reduceSub, Int.reduceNeg, Int.reduceLT, Int.reduceLE, Int.reduceEq, Nat.zero_add, Nat.add_zero, Nat.mul_one, eq_self, ne_eq, not_true, not_false_iff, and_true, true_and, and_self, List.getElem?_cons_zero, List.getElem?_cons_succ, List.map_cons, List.map_nil, wrap64, dec_lt, dec_nlt, dec_le, dec_nle, dec_eq, dec_ne, if_pos, if_neg, Int.natCast_add, Int.natCast_one, Int.natCast_zero, Int.toNat_natCast, l1, l2]
    · have hst' : psStep now s (gi c k) = ⟨s.lost, s.at', (s.sum + gi now (gi c k)) % 2⟩ := by unfold psStep; rw [if_neg h0]
      have ih := IH (k + 1) (psStep now s (gi c k)) at' (by omega) (ps_has hb hn hs hv.1 hv.2) (by rw [hst']; exact hst) ks
      rw [Int.natCast_add, Int.natCast_one] at ih
      rw [← ih, hst']
      have hs' := hs
      unfold PS.has at hs'
      have ht : (s.sum + gi now (gi c k)).tmod 2 = (s.sum + gi now (gi c k)) % 2 := Int.tmod_eq_emod_of_nonneg (by omega)
      simp (disch := first | omega | (simp only [Go.Am.len_push, Go.Am.len_set, Go.Am.len_kill] <;> omega) | fail) only [push_cast, Nat.reduceBEq, Nat.reduceAdd, Nat.reduceMul, Nat.reduceSub, Nat.reduceLT, Nat.reduceGT, Nat.reduceLeDiff, Nat.reduceEqDiff, Int.reduceToNat, Int.reduceAdd, Int.reduceMul, Int.reduceSub, Int.reduceNeg, Int.reduceLT, Int.reduceLE, Int.reduceEq, Nat.zero_add, Nat.add_zero, Nat.mul_one, eq_self, ne_eq, not_true, not_false_iff, and_true, true_and, and_self, List.getElem?_cons_zero, List.getElem?_cons_succ, List.map_cons, List.map_nil, wrap64, dec_lt, dec_nlt, dec_le, dec_nle, dec_eq, dec_ne, if_pos, if_neg, Int.natCast_add, Int.natCast_one, Int.natCast_zero, Int.toNat_natCast, l1, l2, ht]
theorem alone_call {ca : Nat} {sw : Option Addr} {cw : Nat} (hr : RdI h a ca c) (hw : RdI h sw cw now) (hl : c.length ≤ 6000) (hf : Fits n c) (hb : Bits3 now) (hn : now.length = n) :
    ∃ (x y : Int), call T 107 [.slice a c.length ca, .slice sw now.length cw] h = some (.tuple #[.int .i64 x, .int .i64 y, .bool (lone now c).isSome], h) ∧ ∀ p s, lone now c = some (p, s) → x = p ∧ y = s := by
  have e := fun ks => alone_loop hr hw hl hf hb hn c.length 0 ⟨0, 0, 0⟩ (-1) (by omega) (by unfold PS.has; simp) (.inl ⟨rfl, rfl⟩) ks
  rw [List.drop_zero] at e
  simp only [Int.natCast_zero] at e
  have hinv := (ps_inv (now := now) (n := n) (c := c) (s := ⟨0, 0, 0⟩) hf (.inl rfl) (by simp)).1
  have hd : c.foldl (psStep now) ⟨0, 0, 0⟩ = psOf now c := rfl
  rw [hd] at e hinv
  by_cases h2 : 2 ≤ (psOf now c).lost
  · refine ⟨0, 0, ?_, fun p s hp => ?_⟩
    · have hl0 : (lone now c).isSome = false := by unfold lone; rw [if_neg (by omega)]; rfl
      rw [hl0, call_at T107 rfl]
      unfold F107 c107
      simp (disch := first | omega | (simp only [Go.Am.len_push, Go.Am.len_set, Go.Am.len_kill] <;> omega) | fail) only [push_cast, Nat.reduceBEq, Nat.reduceAdd, Nat.reduceMul, Nat.reduceSub, Nat.reduceLT, Nat.reduceGT, Nat.reduceLeDiff, Nat.reduceEqDiff, Int.reduceToNat, Int.reduceAdd, Int.reduceMul, Int.reduceSub, Int.reduceNeg, Int.reduceLT, Int.reduceLE, Int.reduceEq, Nat.zero_add, Nat.add_zero, Nat.mul_one, eq_self, ne_eq, not_true, not_false_iff, and_true, true_and, and_self, List.getElem?_cons_zero, List.getElem?_cons_succ, List.map_cons, List.map_nil]
      rw [e, if_pos h2]
    · unfold lone at hp; rw [if_neg (by omega)] at hp; cases hp
  · by_cases h1 : (psOf now c).lost = 1
    · have hl1 : lone now c = some ((psOf now c).at', (psOf now c).sum) := by unfold lone; rw [if_pos h1]
      refine ⟨(psOf now c).at', (psOf now c).sum, ?_, fun p s hp => by rw [hl1] at hp; cases hp; exact ⟨rfl, rfl⟩⟩
      rw [hl1, call_at T107 rfl]
      unfold F107 c107
      simp (disch := first | omega | (simp only [Go.Am.len_push, Go.Am.len_set, Go.Am.len_kill] <;> omega) | fail) only [push_cast, Nat.reduceBEq, Nat.reduceAdd, Nat.reduceMul, Nat.reduceSub, Nat.reduceLT, Nat.reduceGT, Nat.reduceLeDiff, Nat.reduceEqDiff, Int.reduceToNat, Int.reduceAdd, Int.reduceMul, Int.reduceSub, Int.reduceNeg, Int.reduceLT, Int.reduceLE, Int.reduceEq, Nat.zero_add, Nat.add_zero, Nat.mul_one, eq_self, ne_eq, not_true, not_false_iff, and_true, true_and, and_self, List.getElem?_cons_zero, List.getElem?_cons_succ, List.map_cons, List.map_nil]
      rw [e, if_neg h2, if_neg (by omega)]
      simp (disch := first | omega | (simp only [Go.Am.len_push, Go.Am.len_set, Go.Am.len_kill] <;> omega) | fail) only [push_cast, Nat.reduceBEq, Nat.reduceAdd, Nat.reduceMul, Nat.reduceSub, Nat.reduceLT, Nat.reduceGT, Nat.reduceLeDiff, Nat.reduceEqDiff, Int.reduceToNat, Int.reduceAdd, Int.reduceMul, Int.reduceSub, Int.reduceNeg, Int.reduceLT, Int.reduceLE, Int.reduceEq, Nat.zero_add, Nat.add_zero, Nat.mul_one, eq_self, ne_eq, not_true, not_false_iff, and_true, true_and, and_self, List.getElem?_cons_zero, List.getElem?_cons_succ, List.map_cons, List.map_nil, wrap64, dec_lt, dec_nlt, dec_le, dec_nle, dec_eq, dec_ne, if_pos, if_neg, Int.natCast_add, Int.natCast_one, Int.natCast_zero, Int.toNat_natCast, Option.isSome_some]
    · have h0 : (psOf now c).lost = 0 := by omega
      refine ⟨-1, (psOf now c).sum, ?_, fun p s hp => ?_⟩
      · have hl0 : (lone now c).isSome = false := by unfold lone; rw [if_neg (by omega)]; rfl
        rw [hl0, call_at T107 rfl]
        unfold F107 c107
        simp (disch := first | omega | (simp only [Go.Am.len_push, Go.Am.len_set, Go.Am.len_kill] <;> omega) | fail) only [push_cast, Nat.reduceBEq, Nat.reduceAdd, Nat.reduceMul, Nat.reduceSub, Nat.reduceLT, Nat.reduceGT, Nat.reduceLeDiff, Nat.reduceEqDiff, Int.reduceToNat, Int.reduceAdd, Int.reduceMul, Int.reduceSub, Int.reduceNeg, Int.reduceLT, Int.reduceLE, Int.reduceEq, Nat.zero_add, Nat.add_zero, Nat.mul_one, eq_self, ne_eq, not_true, not_false_iff, and_true, true_and, and_self, List.getElem?_cons_zero, List.getElem?_cons_succ, List.map_cons, List.map_nil]
        rw [e, if_neg h2, if_pos h0]
        simp (disch := first | omega | (simp only [Go.Am.len_push, Go.Am.len_set, Go.Am.len_kill] <;> omega) | fail) only [push_cast, Nat.reduceBEq, Nat.reduceAdd, Nat.reduceMul, Nat.reduceSub, Nat.reduceLT, Nat.reduceGT, Nat.reduceLeDiff, Nat.reduceEqDiff, Int.reduceToNat, Int.reduceAdd, Int.reduceMul, Int.reduceSub, Int.reduceNeg, Int.reduceLT, Int.reduceLE, Int.reduceEq, Nat.zero_add, Nat.add_zero, Nat.mul_one, eq_self, ne_eq, not_true, not_false_iff, and_true, true_and, and_self, List.getElem?_cons_zero, List.getElem?_cons_succ, List.map_cons, List.map_nil, wrap64, dec_lt, dec_nlt, dec_le, dec_nle, dec_eq, dec_ne, if_pos, if_neg, Int.natCast_add, Int.natCast_one, Int.natCast_zero, Int.toNat_natCast]
      · unfold lone at hp; rw [if_neg (by omega)] at hp; cases hp
end

/-! ### the program's rounds -/
section
variable {h0 : H} {n : Nat} {now : List Int} {sa : Option Addr} {C : Nat} {cs : List (List Int)}
theorem pre_row {h h' : H} {o : Nat} {r : Row} (hp : h <+: h') (hr : h.row o = some r) : h'.row o = some r := row_pre hr hp
theorem peel_mid (hr : RdLL h0 sa C cs) (hc2 : Few2 cs) (hf : ∀ c ∈ cs, Fits n c) (hb : Bits3 now) (hn : now.length = n) (hn0 : 0 < n) {o1 o2 : Nat} (hne : o1 ≠ o2) (ho1 : h0.length ≤ o1) (ho2 : h0.length ≤ o2) (V7 : Value) : ∀ (m i : Nat) (next : List Int) (more : Bool) (G : H), i + m = cs.length → next.length = n → (more = false → next = now) →
    h0 <+: G → G.row o1 = some ⟨ints now, 3, 1, true⟩ → G.row o2 = some ⟨ints next, 3, 1, true⟩ →
    ∃ G' : H, h0 <+: G' ∧ G'.row o1 = some ⟨ints now, 3, 1, true⟩ ∧ G'.row o2 = some ⟨ints (fwd now (cs.drop i) next), 3, 1, true⟩ ∧ ∀ ks,
      goL T [.tmp 6, .tmp 7, .tmp 8] [1, 7, 9, 10, 11, 37, 38, 39] c26L1 (.blk 2 [1, 7, 10, 11] :: ks) [(1, .slice sa cs.length C), (7, V7), (9, .slice (some ⟨o1, 0, none⟩) n n), (10, .bool more), (11, .slice (some ⟨o2, 0, none⟩) n n), (37, .slice sa cs.length C), (38, .int .i64 cs.length), (39, .int .i64 i)] G =
        go T [.tmp 6, .tmp 7, .tmp 8] ks (Fr.of [(1, .slice sa cs.length C), (7, V7), (10, .bool (more || someL now (cs.drop i))), (11, .slice (some ⟨o2, 0, none⟩) n n)]) G'
  | 0, i, next, more, G, hi, hnl, hmo, hp, r1, r2 => by
    refine ⟨G, hp, r1, by rw [drop_end (by omega)]; exact r2, fun ks => ?_⟩
    rw [goL_at c26L1.eq_def, drop_end (by omega)]
    have hs : someL now [] = false := rfl
    rw [hs, Bool.or_false]
    simp (disch := first | omega | (simp only [Go.Am.len_push, Go.Am.len_set, Go.Am.len_kill] <;> omega) | fail) only [push_cast, Nat.reduceBEq, Nat.reduceAdd, Nat.reduceMul, Nat.reduceSub, Nat.reduceLT, Nat.reduceGT, Nat.reduceLeDiff, Nat.reduceEqDiff, Int.reduceToNat, Int.reduceAdd, Int.reduceMul, Int.reduceSub, Int.reduceNeg, Int.reduceLT, Int.reduceLE, Int.reduceEq, Nat.zero_add, Nat.add_zero, Nat.mul_one, eq_self, ne_eq, not_true, not_false_iff, and_true, true_and, and_self, List.getElem?_cons_zero, List.getElem?_cons_succ, List.map_cons, List.map_nil, wrap64, dec_lt, dec_nlt, dec_le, dec_nle, dec_eq, dec_ne, if_pos, if_neg, Int.natCast_add, Int.natCast_one, Int.natCast_zero, Int.toNat_natCast]
  | m + 1, i, next, more, G, hi, hnl, hmo, hp, r1, r2 => by
    obtain ⟨c, hc⟩ := at_some (l := cs) (i := i) (by omega)
    have IH := peel_mid hr hc2 hf hb hn hn0 hne ho1 ho2 V7 m
    obtain ⟨o, a, c', rfl, l1, hra⟩ := (hr.mono hp).at hc
    have hcl := hc2.each c (List.mem_of_getElem? hc)
    have hfl := hc2.len
    have hfc := hf c (List.mem_of_getElem? hc)
    have e1 := fun V11 ks => peel_in hra hcl hfc hb hn r1 (.slice (some ⟨o, 0, none⟩) cs.length C) V7 (.bool more) V11 (.slice (some ⟨o, 0, none⟩) cs.length C) (.int .i64 cs.length) (.int .i64 i) c.length 0 ⟨0, 0, 0⟩ (by omega) (by unfold PS.has; simp) (Nat.le_refl _) ks
    rw [List.drop_zero] at e1
    simp only [Int.natCast_zero] at e1
    have hd : c.foldl (psStep now) ⟨0, 0, 0⟩ = psOf now c := rfl
    rw [hd] at e1
    have hsl : someL now (cs.drop i) = ((lone now c).isSome || someL now (cs.drop (i + 1))) := by rw [drop_at hc]; rfl
    have hfw : fwd now (cs.drop i) next = match lone now c with
      | some (a, s) => if gi next a < 0 then fwd now (cs.drop (i + 1)) (next.set a.toNat s) else fwd now (cs.drop (i + 1)) next
      | none => fwd now (cs.drop (i + 1)) next := by rw [drop_at hc]; rfl
    rw [hsl, hfw]
    by_cases hl1 : (psOf now c).lost = 1
    · have hlo : lone now c = some ((psOf now c).at', (psOf now c).sum) := by unfold lone; rw [if_pos hl1]
      obtain ⟨q1, q2, q3, q4, q5⟩ := lone_ok hfc hlo
      rw [hlo]
      simp only
      have l2 := ld1_int r2 (i := (psOf now c).at') q1 (by omega)
      by_cases hx : gi next (psOf now c).at' < 0
      · rw [if_pos hx]
        have es := sts_int r2 (i := (psOf now c).at') (v := (psOf now c).sum) q1 (by omega)
        obtain ⟨G1, eG1⟩ : ∃ G1 : H, G1 = G.set o2 (.row ⟨ints (next.set (psOf now c).at'.toNat (psOf now c).sum), 3, 1, true⟩) := ⟨_, rfl⟩
        rw [← eG1] at es
        have p1 : h0 <+: G1 := by rw [eG1]; exact pre_set hp ho2
        have r1' : G1.row o1 = some ⟨ints now, 3, 1, true⟩ := by rw [eG1, row_set_other (Ne.symm hne)]; exact r1
        have r2' : G1.row o2 = some ⟨ints (next.set (psOf now c).at'.toNat (psOf now c).sum), 3, 1, true⟩ := by rw [eG1]; exact row_set_same (row_some_lt r2)
        obtain ⟨G', k1, k2, k3, k4⟩ := IH (i + 1) _ true G1 (by omega) (by simpa using hnl) (fun hh => by cases hh) p1 r1' r2'
        refine ⟨G', k1, k2, k3, fun ks => ?_⟩
        have ih := k4 ks
        rw [Int.natCast_add, Int.natCast_one, Bool.true_or] at ih
        rw [goL_at c26L1.eq_def, Option.isSome_some, Bool.true_or, Bool.or_true, ← ih]
        have hl1' : ((psOf now c).lost : Int) = 1 := by omega
        simp (disch := first | omega | (simp only [Go.Am.len_push, Go.Am.len_set, Go.Am.len_kill] <;> omega) | fail) only [push_cast, Nat.reduceBEq, Nat.reduceAdd, Nat.reduceMul, Nat.reduceSub, Nat.reduceLT, Nat.reduceGT, Nat.reduceLeDiff, Nat.reduceEqDiff, Int.reduceToNat, Int.reduceAdd, Int.reduceMul, Int.reduceSub, Int.reduceNeg, Int.reduceLT, Int.reduceLE, Int.reduceEq, Nat.zero_add, Nat.add_zero, Nat.mul_one, eq_self, ne_eq, not_true, not_false_iff, and_true, true_and, and_self, List.getElem?_cons_zero, List.getElem?_cons_succ, List.map_cons, List.map_nil, wrap64, dec_lt, dec_nlt, dec_le, dec_nle, dec_eq, dec_ne, if_pos, if_neg, Int.natCast_add, Int.natCast_one, Int.natCast_zero, Int.toNat_natCast, l1]
        rw [e1]
        simp (disch := first | omega | (simp only [Go.Am.len_push, Go.Am.len_set, Go.Am.len_kill] <;> omega) | fail) only [push_cast, Nat.reduceBEq, Nat.reduceAdd, Nat.reduceMul, Nat.reduceSub, Nat.reduceLT, Nat.reduceGT, Nat.reduceLeDiff, Nat.reduceEqDiff, Int.reduceToNat, Int.reduceAdd, Int.reduceMul, Int.reduceSub, Int.reduceNeg, Int.reduceLT, Int.reduceLE, Int.reduceEq, Nat.zero_add, Nat.add_zero, Nat.mul_one, eq_self, ne_eq, not_true, not_false_iff, and_true, true_and, and_self, List.getElem?_cons_zero, List.getElem?_cons_succ, List.map_cons, List.map_nil, wrap64, dec_lt, dec_nlt, dec_le, dec_nle, dec_eq, dec_ne, if_pos, if_neg, Int.natCast_add, Int.natCast_one, Int.natCast_zero, Int.toNat_natCast, hl1', l2, es]
      · rw [if_neg hx]
        have hmt : more = true := by
          cases more with
          | true => rfl
          | false => exact absurd q3 (by rw [hmo rfl] at hx; exact hx)
        subst hmt
        obtain ⟨G', k1, k2, k3, k4⟩ := IH (i + 1) next true G (by omega) hnl hmo hp r1 r2
        refine ⟨G', k1, k2, k3, fun ks => ?_⟩
        have ih := k4 ks
        rw [Int.natCast_add, Int.natCast_one, Bool.true_or] at ih
        rw [goL_at c26L1.eq_def, Option.isSome_some, Bool.true_or, ← ih]
        have hl1' : ((psOf now c).lost : Int) = 1 := by omega
        simp (disch := first | omega | (simp only [Go.Am.len_push, Go.Am.len_set, Go.Am.len_kill] <;> omega) | fail) only [push_cast, Nat.reduceBEq, Nat.reduceAdd, Nat.reduceMul, Nat.reduceSub, Nat.reduceLT, Nat.reduceGT, Nat.reduceLeDiff, Nat.reduceEqDiff, Int.reduceToNat, Int.reduceAdd, Int.reduceMul, Int.reduceSub, Int.reduceNeg, Int.reduceLT, Int.reduceLE, Int.reduceEq, Nat.zero_add, Nat.add_zero, Nat.mul_one, eq_self, ne_eq, not_true, not_false_iff, and_true, true_and, and_self, List.getElem?_cons_zero, List.getElem?_cons_succ, List.map_cons, List.map_nil, wrap64, dec_lt, dec_nlt, dec_le, dec_nle, dec_eq, dec_ne, if_pos, if_neg, Int.natCast_add, Int.natCast_one, Int.natCast_zero, Int.toNat_natCast, l1]
        rw [e1]
        simp (disch := first | omega | (simp only [Go.Am.len_push, Go.Am.len_set, Go.Am.len_kill] <;> omega) | fail) only [push_cast, Nat.reduceBEq, Nat.reduceAdd, Nat.reduceMul, Nat.reduceSub, Nat.reduceLT, Nat.reduceGT, Nat.reduceLeDiff, Nat.reduceEqDiff, Int.reduceToNat, Int.reduceAdd, Int.reduceMul, Int.reduceSub, Int.reduceNeg, Int.reduceLT, Int.reduceLE, Int.reduceEq, Nat.zero_add, Nat.add_zero, Nat.mul_one, eq_self, ne_eq, not_true, not_false_iff, and_true, true_and, and_self, List.getElem?_cons_zero, List.getElem?_cons_succ, List.map_cons, List.map_nil, wrap64, dec_lt, dec_nlt, dec_le, dec_nle, dec_eq, dec_ne, if_pos, if_neg, Int.natCast_add, Int.natCast_one, Int.natCast_zero, Int.toNat_natCast, hl1', l2]
    · have hlo : lone now c = none := by unfold lone; rw [if_neg hl1]
      rw [hlo]
      simp only
      obtain ⟨G', k1, k2, k3, k4⟩ := IH (i + 1) next more G (by omega) hnl hmo hp r1 r2
      refine ⟨G', k1, k2, k3, fun ks => ?_⟩
      have ih := k4 ks
      rw [Int.natCast_add, Int.natCast_one] at ih
      rw [goL_at c26L1.eq_def, Option.isSome_none, Bool.false_or, ← ih]
      have hl1' : ¬ ((psOf now c).lost : Int) = 1 := by omega
      simp (disch := first | omega | (simp only [Go.Am.len_push, Go.Am.len_set, Go.Am.len_kill] <;> omega) | fail) only [push_cast, Nat.reduceBEq, Nat.reduceAdd, Nat.reduceMul, Nat.reduceSub, Nat.reduceLT, Nat.reduceGT, Nat.reduceLeDiff, Nat.reduceEqDiff, Int.reduceToNat, Int.reduceAdd, Int.reduceMul, Int.reduceSub, Int.reduceNeg, Int.reduceLT, Int.reduceLE, Int.reduceEq, Nat.zero_add, Nat.add_zero, Nat.mul_one, eq_self, ne_eq, not_true, not_false_iff, and_true, true_and, and_self, List.getElem?_cons_zero, List.getElem?_cons_succ, List.map_cons, List.map_nil, wrap64, dec_lt, dec_nlt, dec_le, dec_nle, dec_eq, dec_ne, if_pos, if_neg, Int.natCast_add, Int.natCast_one, Int.natCast_zero, Int.toNat_natCast, l1]
      rw [e1]
      simp (disch := first | omega | (simp only [Go.Am.len_push, Go.Am.len_set, Go.Am.len_kill] <;> omega) | fail) only [push_cast, Nat.reduceBEq, Nat.reduceAdd, Nat.reduceMul, Nat.reduceSub, Nat.reduceLT, Nat.reduceGT, Nat.reduceLeDiff, Nat.reduceEqDiff, Int.reduceToNat, Int.reduceAdd, Int.reduceMul, Int.reduceSub, Int.reduceNeg, Int.reduceLT, Int.reduceLE, Int.reduceEq, Nat.zero_add, Nat.add_zero, Nat.mul_one, eq_self, ne_eq, not_true, not_false_iff, and_true, true_and, and_self, List.getElem?_cons_zero, List.getElem?_cons_succ, List.map_cons, List.map_nil, wrap64, dec_lt, dec_nlt, dec_le, dec_nle, dec_eq, dec_ne, if_pos, if_neg, Int.natCast_add, Int.natCast_one, Int.natCast_zero, Int.toNat_natCast, dec_ne hl1']
theorem peel_out (hr : RdLL h0 sa C cs) (hc2 : Few2 cs) (hf : ∀ c ∈ cs, Fits n c) (hn0 : 0 < n) (hn64 : n ≤ 64) (V7 : Value) : ∀ (k : Nat) (now : List Int) (G : H) (o1 : Nat), neg now ≤ k → now.length = n → Bits3 now → h0.length ≤ o1 → h0 <+: G → G.row o1 = some ⟨ints now, 3, 1, true⟩ →
    ∃ (G' : H) (o' : Nat), h0 <+: G' ∧ h0.length ≤ o' ∧ G'.row o' = some ⟨ints (peelN cs k now), 3, 1, true⟩ ∧ (peelN cs k now).length = n ∧ Bits3 (peelN cs k now) ∧ ∀ ks,
      goL T [.tmp 6, .tmp 7, .tmp 8] [1, 7, 9, 10] c26L2 (.blk 0 [7, 9] :: ks) [(1, .slice sa cs.length C), (7, V7), (9, .slice (some ⟨o1, 0, none⟩) n n), (10, .bool true)] G =
        go T [.tmp 6, .tmp 7, .tmp 8] ks (Fr.of [(7, V7), (9, .slice (some ⟨o', 0, none⟩) n n)]) G' := by
  intro k
  induction k with
  | zero =>
    intro now G o1 hk hn hb ho1 hp r1
    have hs := neg_zero hf hn (Nat.le_zero.1 hk)
    obtain ⟨o2, G1, ⟨f1, f2, f3⟩, e2⟩ := clone_call (RdI.ofRow r1 rfl) (by omega) (by omega)
    have hlt := row_some_lt r1
    obtain ⟨G', k1, k2, k3, k4⟩ := peel_mid hr hc2 hf hb hn hn0 (o1 := o1) (o2 := o2) (by omega) ho1 (by have := hp.length_le; omega) V7 cs.length 0 now false G1 (by omega) hn (fun _ => rfl) (hp.trans f1) (row_pre r1 f1) f3
    rw [List.drop_zero, fwd_bwd hf hn, ← (bwd_same hf hn).2 hs] at k3
    rw [List.drop_zero, hs] at k4
    simp only [Int.natCast_zero, Bool.or_self] at k4
    have hpe : peelN cs 0 now = now := rfl
    rw [hpe]
    refine ⟨G', o2, k1, by have := hp.length_le; omega, k3, hn, hb, fun ks => ?_⟩
    rw [hn] at e2
    rw [goL_at c26L2.eq_def]
    simp (disch := first | omega | (simp only [Go.Am.len_push, Go.Am.len_set, Go.Am.len_kill] <;> omega) | fail) only [push_cast, Nat.reduceBEq, Nat.reduceAdd, Nat.reduceMul, Nat.reduceSub, Nat.reduceLT, Nat.reduceGT, Nat.reduceLeDiff, Nat.reduceEqDiff, Int.reduceToNat, Int.reduceAdd, Int.reduceMul, Int.reduceSub, Int.reduceNeg, Int.reduceLT, Int.reduceLE, Int.reduceEq, Nat.zero_add, Nat.add_zero, Nat.mul_one, eq_self, ne_eq, not_true, not_false_iff, and_true, true_and, and_self, List.getElem?_cons_zero, List.getElem?_cons_succ, List.map_cons, List.map_nil, wrap64, dec_lt, dec_nlt, dec_le, dec_nle, dec_eq, dec_ne, if_pos, if_neg, Int.natCast_add, Int.natCast_one, Int.natCast_zero, Int.toNat_natCast, e2]
    rw [k4]
    simp (disch := first | omega | (simp only [Go.Am.len_push, Go.Am.len_set, Go.Am.len_kill] <;> omega) | fail) only [push_cast, Nat.reduceBEq, Nat.reduceAdd, Nat.reduceMul, Nat.reduceSub, Nat.reduceLT, Nat.reduceGT, Nat.reduceLeDiff, Nat.reduceEqDiff, Int.reduceToNat, Int.reduceAdd, Int.reduceMul, Int.reduceSub, Int.reduceNeg, Int.reduceLT, Int.reduceLE, Int.reduceEq, Nat.zero_add, Nat.add_zero, Nat.mul_one, eq_self, ne_eq, not_true, not_false_iff, and_true, true_and, and_self, List.getElem?_cons_zero, List.getElem?_cons_succ, List.map_cons, List.map_nil]
    rw [goL_at c26L2.eq_def]
    simp (disch := first | omega | (simp only [Go.Am.len_push, Go.Am.len_set, Go.Am.len_kill] <;> omega) | fail) only [push_cast, Nat.reduceBEq, Nat.reduceAdd, Nat.reduceMul, Nat.reduceSub, Nat.reduceLT, Nat.reduceGT, Nat.reduceLeDiff, Nat.reduceEqDiff, Int.reduceToNat, Int.reduceAdd, Int.reduceMul, Int.reduceSub, Int.reduceNeg, Int.reduceLT, Int.reduceLE, Int.reduceEq, Nat.zero_add, Nat.add_zero, Nat.mul_one, eq_self, ne_eq, not_true, not_false_iff, and_true, true_and, and_self, List.getElem?_cons_zero, List.getElem?_cons_succ, List.map_cons, List.map_nil]
  | succ k ihk =>
    intro now G o1 hk hn hb ho1 hp r1
    obtain ⟨o2, G1, ⟨f1, f2, f3⟩, e2⟩ := clone_call (RdI.ofRow r1 rfl) (by omega) (by omega)
    have hlt := row_some_lt r1
    have ho2 : h0.length ≤ o2 := by have := hp.length_le; omega
    obtain ⟨G', k1, k2, k3, k4⟩ := peel_mid hr hc2 hf hb hn hn0 (o1 := o1) (o2 := o2) (by omega) ho1 ho2 V7 cs.length 0 now false G1 (by omega) hn (fun _ => rfl) (hp.trans f1) (row_pre r1 f1) f3
    rw [List.drop_zero, fwd_bwd hf hn] at k3
    rw [List.drop_zero] at k4
    simp only [Int.natCast_zero, Bool.false_or] at k4
    rw [hn] at e2
    cases hs : someL now cs with
    | false =>
      rw [hs] at k4
      rw [← (bwd_same hf hn).2 hs] at k3
      have hpe : peelN cs (k + 1) now = now := by rw [peelN, hs]; rfl
      rw [hpe]
      refine ⟨G', o2, k1, ho2, k3, hn, hb, fun ks => ?_⟩
      rw [goL_at c26L2.eq_def]
      simp (disch := first | omega | (simp only [Go.Am.len_push, Go.Am.len_set, Go.Am.len_kill] <;> omega) | fail) only [push_cast, Nat.reduceBEq, Nat.reduceAdd, Nat.reduceMul, Nat.reduceSub, Nat.reduceLT, Nat.reduceGT, Nat.reduceLeDiff, Nat.reduceEqDiff, Int.reduceToNat, Int.reduceAdd, Int.reduceMul, Int.reduceSub, Int.reduceNeg, Int.reduceLT, Int.reduceLE, Int.reduceEq, Nat.zero_add, Nat.add_zero, Nat.mul_one, eq_self, ne_eq, not_true, not_false_iff, and_true, true_and, and_self, List.getElem?_cons_zero, List.getElem?_cons_succ, List.map_cons, List.map_nil, wrap64, dec_lt, dec_nlt, dec_le, dec_nle, dec_eq, dec_ne, if_pos, if_neg, Int.natCast_add, Int.natCast_one, Int.natCast_zero, Int.toNat_natCast, e2]
      rw [k4]
      simp (disch := first | omega | (simp only [Go.Am.len_push, Go.Am.len_set, Go.Am.len_kill] <;> omega) | fail) only [push_cast, Nat.reduceBEq, Nat.reduceAdd, Nat.reduceMul, Nat.reduceSub, Nat.reduceLT, Nat.reduceGT, Nat.reduceLeDiff, Nat.reduceEqDiff, Int.reduceToNat, Int.reduceAdd, Int.reduceMul, Int.reduceSub, Int.reduceNeg, Int.reduceLT, Int.reduceLE, Int.reduceEq, Nat.zero_add, Nat.add_zero, Nat.mul_one, eq_self, ne_eq, not_true, not_false_iff, and_true, true_and, and_self, List.getElem?_cons_zero, List.getElem?_cons_succ, List.map_cons, List.map_nil]
      rw [goL_at c26L2.eq_def]
      simp (disch := first | omega | (simp only [Go.Am.len_push, Go.Am.len_set, Go.Am.len_kill] <;> omega) | fail) only [push_cast, Nat.reduceBEq, Nat.reduceAdd, Nat.reduceMul, Nat.reduceSub, Nat.reduceLT, Nat.reduceGT, Nat.reduceLeDiff, Nat.reduceEqDiff, Int.reduceToNat, Int.reduceAdd, Int.reduceMul, Int.reduceSub, Int.reduceNeg, Int.reduceLT, Int.reduceLE, Int.reduceEq, Nat.zero_add, Nat.add_zero, Nat.mul_one, eq_self, ne_eq, not_true, not_false_iff, and_true, true_and, and_self, List.getElem?_cons_zero, List.getElem?_cons_succ, List.map_cons, List.map_nil]
    | true =>
      rw [hs] at k4
      have hpe : peelN cs (k + 1) now = peelN cs k (bwd now cs now) := by rw [peelN, hs]; rfl
      rw [hpe]
      have hng := neg_bwd hf hn hs
      obtain ⟨G2, o3, m1, m2, m3, m4, m5, m6⟩ := ihk (bwd now cs now) G' o2 (by omega) (by rw [bwd_len]; exact hn) (bits3_bwd hf hb) ho2 k1 k3
      refine ⟨G2, o3, m1, m2, m3, m4, m5, fun ks => ?_⟩
      rw [goL_at c26L2.eq_def]
      simp (disch := first | omega | (simp only [Go.Am.len_push, Go.Am.len_set, Go.Am.len_kill] <;> omega) | fail) only [push_cast, Nat.reduceBEq, Nat.reduceAdd, Nat.reduceMul, Nat.reduceSub, Nat.reduceLT, Nat.reduceGT, Nat.reduceLeDiff, Nat.reduceEqDiff, Int.reduceToNat, Int.reduceAdd, Int.reduceMul, Int.reduceSub, Int.reduceNeg, Int.reduceLT, Int.reduceLE, Int.reduceEq, Nat.zero_add, Nat.add_zero, Nat.mul_one, eq_self, ne_eq, not_true, not_false_iff, and_true, true_and, and_self, List.getElem?_cons_zero, List.getElem?_cons_succ, List.map_cons, List.map_nil, wrap64, dec_lt, dec_nlt, dec_le, dec_nle, dec_eq, dec_ne, if_pos, if_neg, Int.natCast_add, Int.natCast_one, Int.natCast_zero, Int.toNat_natCast, e2]
      rw [k4]
      simp (disch := first | omega | (simp only [Go.Am.len_push, Go.Am.len_set, Go.Am.len_kill] <;> omega) | fail) only [push_cast, Nat.reduceBEq, Nat.reduceAdd, Nat.reduceMul, Nat.reduceSub, Nat.reduceLT, Nat.reduceGT, Nat.reduceLeDiff, Nat.reduceEqDiff, Int.reduceToNat, Int.reduceAdd, Int.reduceMul, Int.reduceSub, Int.reduceNeg, Int.reduceLT, Int.reduceLE, Int.reduceEq, Nat.zero_add, Nat.add_zero, Nat.mul_one, eq_self, ne_eq, not_true, not_false_iff, and_true, true_and, and_self, List.getElem?_cons_zero, List.getElem?_cons_succ, List.map_cons, List.map_nil]
      rw [m6]
end
end Go.Proofs.Ytammndhoillliaa
