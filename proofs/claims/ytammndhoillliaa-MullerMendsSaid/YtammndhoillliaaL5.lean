/-
  The document's Bits and Next. Conditions: lists as memory tells them.
-/
import Derived.Test.YtammndhoillliaaL4
import Derived.Test.YtammndhoillliaaAm24
namespace Go.Proofs.Ytammndhoillliaa
open Go.Am
set_option linter.unusedVariables false
set_option linter.unusedSimpArgs false
set_option maxRecDepth 30000

section
variable {h : H}
/-! ### bits -/
def outB (lost : Bool) (v : Int) : Bool := decide (v < (if lost = true then -1 else 0)) || decide (1 < v)
theorem bits_loop {w : List Int} {sw : Option Addr} {cw : Nat} (hw : RdI h sw cw w) (hl : w.length ≤ 9223372036854775807) (lost : Bool) : ∀ (m i : Nat), i + m = w.length → ∀ ks,
    goL T [.tmp 4] [0, 1, 5] c16L0 (.blk 0 [] :: ks) [(0, .slice sw w.length cw), (1, .bool lost), (5, .int .i64 i)] h =
      if anyF (outB lost) w m i = true then some (.bool false, h) else go T [.tmp 4] ks (Fr.of []) h
  | 0, i, hi, ks => by
    rw [goL_at c16L0.eq_def, anyF, if_neg (by decide)]
    simp (disch := first | omega | (simp only [Go.Am.len_push, Go.Am.len_set, Go.Am.len_kill] <;> omega) | fail) only [push_cast, Nat.reduceBEq, Nat.reduceAdd, Nat.reduceMul, Nat.reduceSub, Nat.reduceLT, Nat.reduceGT, Nat.reduceLeDiff, Nat.reduceEqDiff, Int.reduceToNat, Int.reduceAdd, Int.reduceMul, Int.reduceSub, Int.reduceNeg, Int.reduceLT, Int.reduceLE, Int.reduceEq, Nat.zero_add, Nat.add_zero, Nat.mul_one, eq_self, ne_eq, not_true, not_false_iff, and_true, true_and, and_self, List.getElem?_cons_zero, List.getElem?_cons_succ, List.map_cons, List.map_nil, wrap64, dec_lt, dec_nlt, dec_le, dec_nle, dec_eq, dec_ne, if_pos, if_neg, Int.natCast_add, Int.natCast_one, Int.natCast_zero, Int.toNat_natCast]
  | m + 1, i, hi, ks => by
    have ih := bits_loop hw hl lost m (i + 1) (by omega) ks
    obtain ⟨o, off, rfl, _, l1⟩ := hw.at (i := i) (by omega)
    rw [Int.natCast_add, Int.natCast_one] at ih
    rw [goL_at c16L0.eq_def, anyF]
    obtain ⟨x, hx⟩ : ∃ x, x = gi w i := ⟨_, rfl⟩
    rw [← hx] at l1 ⊢
    by_cases h0 : 1 < x
    · have ho : outB lost x = true := by unfold outB; rw [dec_lt h0, Bool.or_true]
      rw [ho, Bool.true_or, if_pos rfl]
      simp (disch := first | omega | (simp only [Go.Am.len_push, Go.Am.len_set, Go.Am.len_kill] <;> omega) | fail) only [push_cast, Nat.reduceBEq, Nat.reduceAdd, Nat.reduceMul, Nat.reduceSub, Nat.reduceLT, Nat.reduceGT, Nat.reduceLeDiff, Nat.reduceEqDiff, Int.reduceToNat, Int.reduceAdd, Int.reduceMul, Int.reduceSub, Int.reduceNeg, Int.reduceLT, Int.reduceLE, Int.reduceEq, Nat.zero_add, Nat.add_zero, Nat.mul_one, eq_self, ne_eq, not_true, not_false_iff, and_true, true_and, and_self, List.getElem?_cons_zero, List.getElem?_cons_succ, List.map_cons, List.map_nil, wrap64, dec_lt, dec_nlt, dec_le, dec_nle, dec_eq, dec_ne, if_pos, if_neg, Int.natCast_add, Int.natCast_one, Int.natCast_zero, Int.toNat_natCast, l1]
    · by_cases h1 : x < -1
      · have ho : outB lost x = true := by unfold outB; rw [decide_eq_true (by split <;> omega), Bool.true_or]
        rw [ho, Bool.true_or, if_pos rfl]
        simp (disch := first | omega | (simp only [Go.Am.len_push, Go.Am.len_set, Go.Am.len_kill] <;> omega) | fail) only [push_cast, Nat.reduceBEq, Nat.reduceAdd, Nat.reduceMul, Nat.reduceSub, Nat.reduceLT, Nat.reduceGT, Nat.reduceLeDiff, Nat.reduceEqDiff, Int.reduceToNat, Int.reduceAdd, Int.reduceMul, Int.reduceSub, Int.reduceNeg, Int.reduceLT, Int.reduceLE, Int.reduceEq, Nat.zero_add, Nat.add_zero, Nat.mul_one, eq_self, ne_eq, not_true, not_false_iff, and_true, true_and, and_self, List.getElem?_cons_zero, List.getElem?_cons_succ, List.map_cons, List.map_nil, wrap64, dec_lt, dec_nlt, dec_le, dec_nle, dec_eq, dec_ne, if_pos, if_neg, Int.natCast_add, Int.natCast_one, Int.natCast_zero, Int.toNat_natCast, l1]
      · by_cases h2 : x = -1
        · cases lost with
          | true =>
            have ho : outB true x = false := by unfold outB; simp [h2]
            rw [ho, Bool.false_or, ← ih]
            simp (disch := first | omega | (simp only [Go.Am.len_push, Go.Am.len_set, Go.Am.len_kill] <;> omega) | fail) only [push_cast, Nat.reduceBEq, Nat.reduceAdd, Nat.reduceMul, Nat.reduceSub, Nat.reduceLT, Nat.reduceGT, Nat.reduceLeDiff, Nat.reduceEqDiff, Int.reduceToNat, Int.reduceAdd, Int.reduceMul, Int.reduceSub, Int.reduceNeg, Int.reduceLT, Int.reduceLE, Int.reduceEq, Nat.zero_add, Nat.add_zero, Nat.mul_one, eq_self, ne_eq, not_true, not_false_iff, and_true, true_and, and_self, List.getElem?_cons_zero, List.getElem?_cons_succ, List.map_cons, List.map_nil, wrap64, dec_lt, dec_nlt, dec_le, dec_nle, dec_eq, dec_ne, if_pos, if_neg, Int.natCast_add, Int.natCast_one, Int.natCast_zero, Int.toNat_natCast, l1]
          | false =>
            have ho : outB false x = true := by unfold outB; simp [h2]
            rw [ho, Bool.true_or, if_pos rfl]
            simp (disch := first | omega | (simp only [Go.Am.len_push, Go.Am.len_set, Go.Am.len_kill] <;> omega) | fail) only [push_cast, Nat.reduceBEq, Nat.reduceAdd, Nat.reduceMul, Nat.reduceSub, Nat.reduceLT, Nat.reduceGT, Nat.reduceLeDiff, Nat.reduceEqDiff, Int.reduceToNat, Int.reduceAdd, Int.reduceMul, Int.reduceSub, Int.reduceNeg, Int.reduceLT, Int.reduceLE, Int.reduceEq, Nat.zero_add, Nat.add_zero, Nat.mul_one, eq_self, ne_eq, not_true, not_false_iff, and_true, true_and, and_self, List.getElem?_cons_zero, List.getElem?_cons_succ, List.map_cons, List.map_nil, wrap64, dec_lt, dec_nlt, dec_le, dec_nle, dec_eq, dec_ne, if_pos, if_neg, Int.natCast_add, Int.natCast_one, Int.natCast_zero, Int.toNat_natCast, l1]
        · have ho : outB lost x = false := by unfold outB; rw [decide_eq_false (by split <;> omega), dec_nlt (Int.not_lt.1 h0)]; rfl
          rw [ho, Bool.false_or, ← ih]
          simp (disch := first | omega | (simp only [Go.Am.len_push, Go.Am.len_set, Go.Am.len_kill] <;> omega) | fail) only [push_cast, Nat.reduceBEq, Nat.reduceAdd, Nat.reduceMul, Nat.reduceSub, Nat.reduceLT, Nat.reduceGT, Nat.reduceLeDiff, Nat.reduceEqDiff, Int.reduceToNat, Int.reduceAdd, Int.reduceMul, Int.reduceSub, Int.reduceNeg, Int.reduceLT, Int.reduceLE, Int.reduceEq, Nat.zero_add, Nat.add_zero, Nat.mul_one, eq_self, ne_eq, not_true, not_false_iff, and_true, true_and, and_self, List.getElem?_cons_zero, List.getElem?_cons_succ, List.map_cons, List.map_nil, wrap64, dec_lt, dec_nlt, dec_le, dec_nle, dec_eq, dec_ne, if_pos, if_neg, Int.natCast_add, Int.natCast_one, Int.natCast_zero, Int.toNat_natCast, l1]
theorem bits_call {w : List Int} {sw : Option Addr} {cw : Nat} (hw : RdI h sw cw w) (hl : w.length ≤ 9223372036854775807) (lost : Bool) : call T 16 [.slice sw w.length cw, .bool lost] h = some (.bool (!w.any (outB lost)), h) := by
  have e := fun ks => bits_loop hw hl lost w.length 0 (by omega) ks
  rw [anyF_all] at e
  simp only [Int.natCast_zero] at e
  rw [call_at T16 rfl]
  unfold F16 c16
  simp (disch := first | omega | (simp only [Go.Am.len_push, Go.Am.len_set, Go.Am.len_kill] <;> omega) | fail) only [push_cast, Nat.reduceBEq, Nat.reduceAdd, Nat.reduceMul, Nat.reduceSub, Nat.reduceLT, Nat.reduceGT, Nat.reduceLeDiff, Nat.reduceEqDiff, Int.reduceToNat, Int.reduceAdd, Int.reduceMul, Int.reduceSub, Int.reduceNeg, Int.reduceLT, Int.reduceLE, Int.reduceEq, Nat.zero_add, Nat.add_zero, Nat.mul_one, eq_self, ne_eq, not_true, not_false_iff, and_true, true_and, and_self, List.getElem?_cons_zero, List.getElem?_cons_succ, List.map_cons, List.map_nil]
  rw [e]
  cases hb : w.any (outB lost) with
  | true => rw [if_pos rfl]; rfl
  | false => rw [if_neg (by decide)]; simp (disch := first | omega | (simp only [Go.Am.len_push, Go.Am.len_set, Go.Am.len_kill] <;> omega) | fail) only [push_cast, Nat.reduceBEq, Nat.reduceAdd, Nat.reduceMul, Nat.reduceSub, Nat.reduceLT, Nat.reduceGT, Nat.reduceLeDiff, Nat.reduceEqDiff, Int.reduceToNat, Int.reduceAdd, Int.reduceMul, Int.reduceSub, Int.reduceNeg, Int.reduceLT, Int.reduceLE, Int.reduceEq, Nat.zero_add, Nat.add_zero, Nat.mul_one, eq_self, ne_eq, not_true, not_false_iff, and_true, true_and, and_self, List.getElem?_cons_zero, List.getElem?_cons_succ, List.map_cons, List.map_nil]
end

/-! ### the next list of numbers -/
/-- the next list, and whether there is one -/
def nextS (q : Int) : List Int → List Int × Bool
  | [] => ([], false)
  | a :: l => match nextS q l with
    | (l', true) => (a :: l', true)
    | (l', false) => if a + 1 < q then ((a + 1) :: l', true) else (0 :: l', false)
theorem nextS_len (q : Int) : ∀ l, (nextS q l).1.length = l.length
  | [] => rfl
  | a :: l => by
    have ih := nextS_len q l
    rw [nextS]
    generalize nextS q l = x at ih ⊢
    obtain ⟨l', b⟩ := x
    cases b
    · simp only
      split <;> simpa using ih
    · simpa using ih
theorem nextS_done {q : Int} {s s' : List Int} (h : nextS q s = (s', true)) : ∀ p : List Int, nextS q (p ++ s) = (p ++ s', true)
  | [] => h
  | a :: p => by rw [List.cons_append, nextS, nextS_done h p]; rfl
/-- a list of digits as a number -/
def valS (q : Nat) : List Int → Nat
  | [] => 0
  | a :: l => a.toNat * q ^ l.length + valS q l
def digS (q : Int) (l : List Int) : Prop := ∀ a ∈ l, 0 ≤ a ∧ a < q
theorem valS_lt {q : Nat} : ∀ {l : List Int}, digS q l → valS q l < q ^ l.length
  | [], _ => by simp [valS]
  | a :: l, h => by
    have h1 := h a (by simp)
    have ih := valS_lt (l := l) fun b hb => h b (by simp [hb])
    rw [valS, List.length_cons, Nat.pow_succ, Nat.mul_comm (q ^ l.length)]
    have h2 : (a.toNat + 1) * q ^ l.length ≤ q * q ^ l.length := Nat.mul_le_mul_right _ (by omega)
    rw [Nat.add_mul, Nat.one_mul] at h2
    omega
theorem nextS_val {q : Nat} (hq : 0 < q) : ∀ {l : List Int}, digS q l → digS q (nextS q l).1 ∧ (if (nextS q l).2 = true then valS q (nextS q l).1 = valS q l + 1 else valS q l + 1 = q ^ l.length ∧ ∀ a ∈ (nextS q l).1, a = 0)
  | [], _ => by simp [nextS, valS, digS]
  | a :: l, h => by
    have h1 := h a (by simp)
    obtain ⟨k1, k2⟩ := nextS_val hq (l := l) fun b hb => h b (by simp [hb])
    have hl := nextS_len q l
    rw [nextS]
    generalize hx : nextS q l = x at k1 k2 hl ⊢
    obtain ⟨l', b⟩ := x
    simp only at k1 k2 hl
    cases b with
    | true =>
      simp only [if_true] at k2 ⊢
      refine ⟨fun c hc => ?_, ?_⟩
      · rcases List.mem_cons.1 hc with rfl | hc
        · exact h1
        · exact k1 c hc
      · rw [valS, valS, hl, k2]; omega
    | false =>
      simp only [Bool.false_eq_true, if_false] at k2 ⊢
      have hz : ∀ {m : List Int}, (∀ a ∈ m, a = 0) → valS q m = 0 := by
        intro m
        induction m with
        | nil => intro _; rfl
        | cons c m ih => intro hm; rw [valS, ih fun a ha => hm a (by simp [ha]), hm c (by simp)]; simp
      by_cases hlt : a + 1 < q
      · rw [if_pos hlt]
        simp only [if_true]
        refine ⟨fun c hc => ?_, ?_⟩
        · rcases List.mem_cons.1 hc with rfl | hc
          · omega
          · exact k1 c hc
        · rw [valS, valS, hz k2.2, hl, Nat.add_zero, Nat.add_assoc, k2.1, show (a + 1).toNat = a.toNat + 1 by omega, Nat.add_mul, Nat.one_mul]
      · rw [if_neg hlt]
        simp only [Bool.false_eq_true, if_false]
        refine ⟨fun c hc => ?_, ?_, fun c hc => ?_⟩
        · rcases List.mem_cons.1 hc with rfl | hc
          · omega
          · exact k1 c hc
        · rw [valS, List.length_cons, Nat.add_assoc, k2.1, show a.toNat = q - 1 by omega, Nat.pow_succ, Nat.mul_comm (q ^ l.length), Nat.sub_mul, Nat.one_mul]
          have : q ^ l.length ≤ q * q ^ l.length := Nat.le_mul_of_pos_left _ hq
          omega
        · rcases List.mem_cons.1 hc with rfl | hc
          · rfl
          · exact k2.2 c hc
section
variable {hF : H} {q : Int}
theorem gi_app_at {p s : List Int} {a : Int} {i : Nat} (hi : p.length = i) : gi (p ++ a :: s) i = a := by
  subst hi; unfold gi; simp [List.getD_eq_getElem?_getD]
theorem set_app_at {p s : List Int} {a b : Int} {i : Nat} (hi : p.length = i) : (p ++ a :: s).set i b = p ++ b :: s := by
  subst hi; simp
theorem next_loop {o N : Nat} (ho : hF.length ≤ o) (hN : N ≤ 1000000) (hq : q ≤ 1000000) : ∀ (i : Nat) (p s s' : List Int) (G : H), p.length = i → (p ++ s).length = N → (∀ a ∈ p, 0 ≤ a ∧ a < q) → nextS q s = (s', false) → hF <+: G → G.row o = some ⟨ints (p ++ s'), 3, 1, true⟩ →
    ∃ G' : H, hF <+: G' ∧ G'.row o = some ⟨ints (nextS q (p ++ s)).1, 3, 1, true⟩ ∧ (∀ o', o ≠ o' → G'.row o' = G.row o') ∧ G'.length = G.length ∧ ∀ ks,
      goL T [.tmp 4] [0, 1, 5] c105L0 (.blk 0 [] :: ks) [(0, .slice (some ⟨o, 0, none⟩) N N), (1, .int .i64 q), (5, .int .i64 ((i : Int) - 1))] G =
        if (nextS q (p ++ s)).2 = true then some (.bool true, G') else go T [.tmp 4] ks (Fr.of []) G'
  | 0, p, s, s', G, hi, hn, hd, hs, hp, hr => by
    obtain rfl : p = [] := List.eq_nil_of_length_eq_zero hi
    rw [List.nil_append] at hr ⊢
    rw [hs]
    refine ⟨G, hp, hr, fun _ _ => rfl, rfl, fun ks => ?_⟩
    rw [if_neg Bool.false_ne_true, goL_at c105L0.eq_def]
    simp (disch := first | omega | (simp only [Go.Am.len_push, Go.Am.len_set, Go.Am.len_kill] <;> omega) | fail) only [push_cast, Nat.reduceBEq, Nat.reduceAdd, Nat.reduceMul, Nat.reduceSub, Nat.reduceLT, Nat.reduceGT, Nat.reduceLeDiff, Nat.reduceEqDiff, Int.reduceToNat, Int.reduceAdd, Int.reduceMul, Int.reduceSub, Int.reduceNeg, Int.reduceLT, Int.reduceLE, Int.reduceEq, Nat.zero_add, Nat.add_zero, Nat.mul_one, eq_self, ne_eq, not_true, not_false_iff, and_true, true_and, and_self, List.getElem?_cons_zero, List.getElem?_cons_succ, List.map_cons, List.map_nil, wrap64, dec_lt, dec_nlt, dec_le, dec_nle, dec_eq, dec_ne, if_pos, if_neg, Int.natCast_add, Int.natCast_one, Int.natCast_zero, Int.toNat_natCast]
  | i + 1, p, s, s', G, hi, hn, hd, hs, hp, hr => by
    obtain ⟨p', a, rfl⟩ : ∃ p' a, p = p' ++ [a] := ⟨p.dropLast, p.getLast (by intro h; subst h; simp at hi), (List.dropLast_concat_getLast _).symm⟩
    have hp'l : p'.length = i := by simpa using hi
    have ha := hd a (by simp)
    rw [List.append_assoc, List.singleton_append] at hn hr ⊢
    have hsl : s'.length = s.length := by have := nextS_len q s; rw [hs] at this; exact this
    have hlen : (p' ++ a :: s').length = N := by rw [← hn]; simp [hsl]
    have hNi : i < (p' ++ a :: s').length := by simp [← hp'l]
    have l1 := own_ld hr hNi
    rw [gi_app_at hp'l] at l1
    obtain ⟨G1, es, p1, q1, f1, g1⟩ := own_set hp ho hr hNi (a + 1)
    rw [set_app_at hp'l] at q1
    have l2 := own_ld q1 (i := i) (by simp [← hp'l])
    rw [gi_app_at hp'l] at l2
    have hw : ((i + 1 : Nat) : Int) - 1 = (i : Int) := by omega
    have hiN : i < N := by omega
    rw [hw]
    by_cases hlt : a + 1 < q
    · have hnx : nextS q (a :: s) = ((a + 1) :: s', true) := by rw [nextS, hs]; simp only; rw [if_pos hlt]
      rw [nextS_done hnx p']
      refine ⟨G1, p1, q1, f1, g1, fun ks => ?_⟩
      rw [if_pos rfl, goL_at c105L0.eq_def]
      simp (disch := first | omega | (simp only [Go.Am.len_push, Go.Am.len_set, Go.Am.len_kill] <;> omega) | fail) only [push_cast, Nat.reduceBEq, Nat.reduceAdd, Nat.reduceMul, Nat.reduceSub, Nat.reduceLT, Nat.reduceGT, Nat.reduceLeDiff, Nat.reduceEqDiff, Int.reduceToNat, Int.reduceAdd, Int.reduceMul, Int.reduceSub, Int.reduceNeg, Int.reduceLT, Int.reduceLE, Int.reduceEq, Nat.zero_add, Nat.add_zero, Nat.mul_one, eq_self, ne_eq, not_true, not_false_iff, and_true, true_and, and_self, List.getElem?_cons_zero, List.getElem?_cons_succ, List.map_cons, List.map_nil, wrap64, dec_lt, dec_nlt, dec_le, dec_nle, dec_eq, dec_ne, if_pos, if_neg, Int.natCast_add, Int.natCast_one, Int.natCast_zero, Int.toNat_natCast, l1, es, l2]
    · have hnx : nextS q (a :: s) = (0 :: s', false) := by rw [nextS, hs]; simp only; rw [if_neg hlt]
      obtain ⟨G2, es2, p2, q2, f2, g2⟩ := own_set p1 ho q1 (i := i) (by simp [← hp'l]) 0
      rw [set_app_at hp'l] at q2
      obtain ⟨G', k1, k2, k3, k4, k5⟩ := next_loop ho hN hq i p' (a :: s) (0 :: s') G2 hp'l hn (fun b hb => hd b (by simp [hb])) hnx p2 q2
      refine ⟨G', k1, k2, fun o' hne => (k3 o' hne).trans ((f2 o' hne).trans (f1 o' hne)), by omega, fun ks => ?_⟩
      rw [← k5 ks, goL_at c105L0.eq_def]
      simp (disch := first | omega | (simp only [Go.Am.len_push, Go.Am.len_set, Go.Am.len_kill] <;> omega) | fail) only [push_cast, Nat.reduceBEq, Nat.reduceAdd, Nat.reduceMul, Nat.reduceSub, Nat.reduceLT, Nat.reduceGT, Nat.reduceLeDiff, Nat.reduceEqDiff, Int.reduceToNat, Int.reduceAdd, Int.reduceMul, Int.reduceSub, Int.reduceNeg, Int.reduceLT, Int.reduceLE, Int.reduceEq, Nat.zero_add, Nat.add_zero, Nat.mul_one, eq_self, ne_eq, not_true, not_false_iff, and_true, true_and, and_self, List.getElem?_cons_zero, List.getElem?_cons_succ, List.map_cons, List.map_nil, wrap64, dec_lt, dec_nlt, dec_le, dec_nle, dec_eq, dec_ne, if_pos, if_neg, Int.natCast_add, Int.natCast_one, Int.natCast_zero, Int.toNat_natCast, l1, es, l2, es2]
theorem next_call {G : H} {o N : Nat} {l : List Int} (ho : hF.length ≤ o) (hN : l.length = N) (hN2 : N ≤ 1000000) (hq : q ≤ 1000000) (hd : digS q l) (hp : hF <+: G) (hr : G.row o = some ⟨ints l, 3, 1, true⟩) :
    ∃ G' : H, hF <+: G' ∧ G'.row o = some ⟨ints (nextS q l).1, 3, 1, true⟩ ∧ (∀ o', o ≠ o' → G'.row o' = G.row o') ∧ G'.length = G.length ∧ call T 105 [.slice (some ⟨o, 0, none⟩) N N, .int .i64 q] G = some (.bool (nextS q l).2, G') := by
  obtain ⟨G', k1, k2, k3, k4, k5⟩ := next_loop (s := []) (s' := []) ho hN2 hq N l G (by omega) (by simpa using hN) hd rfl hp (by simpa using hr)
  rw [List.append_nil] at k2 k5
  refine ⟨G', k1, k2, k3, k4, ?_⟩
  rw [call_at T105 rfl]
  unfold F105 c105
  simp (disch := first | omega | (simp only [Go.Am.len_push, Go.Am.len_set, Go.Am.len_kill] <;> omega) | fail) only [push_cast, Nat.reduceBEq, Nat.reduceAdd, Nat.reduceMul, Nat.reduceSub, Nat.reduceLT, Nat.reduceGT, Nat.reduceLeDiff, Nat.reduceEqDiff, Int.reduceToNat, Int.reduceAdd, Int.reduceMul, Int.reduceSub, Int.reduceNeg, Int.reduceLT, Int.reduceLE, Int.reduceEq, Nat.zero_add, Nat.add_zero, Nat.mul_one, eq_self, ne_eq, not_true, not_false_iff, and_true, true_and, and_self, List.getElem?_cons_zero, List.getElem?_cons_succ, List.map_cons, List.map_nil, wrap64, dec_lt, dec_nlt, dec_le, dec_nle, dec_eq, dec_ne, if_pos, if_neg, Int.natCast_add, Int.natCast_one, Int.natCast_zero, Int.toNat_natCast]
  rw [k5]
  cases hb : (nextS q l).2 with
  | true => rw [if_pos rfl]
  | false => rw [if_neg (by decide)]; simp (disch := first | omega | (simp only [Go.Am.len_push, Go.Am.len_set, Go.Am.len_kill] <;> omega) | fail) only [push_cast, Nat.reduceBEq, Nat.reduceAdd, Nat.reduceMul, Nat.reduceSub, Nat.reduceLT, Nat.reduceGT, Nat.reduceLeDiff, Nat.reduceEqDiff, Int.reduceToNat, Int.reduceAdd, Int.reduceMul, Int.reduceSub, Int.reduceNeg, Int.reduceLT, Int.reduceLE, Int.reduceEq, Nat.zero_add, Nat.add_zero, Nat.mul_one, eq_self, ne_eq, not_true, not_false_iff, and_true, true_and, and_self, List.getElem?_cons_zero, List.getElem?_cons_succ, List.map_cons, List.map_nil]
end
end Go.Proofs.Ytammndhoillliaa
