/-
  SparseMade answers true. Conditions: numbers of Go's int; the list as memory tells it.
-/
import Derived.Test.YtammndhoillliaaSpJ
import Derived.Test.YtammndhoillliaaL3
namespace Go.Proofs.Ytammndhoillliaa
open Go.Am
set_option linter.unusedVariables false
set_option linter.unusedSimpArgs false
set_option maxRecDepth 30000

section
variable {h0 : H} {sr : Option Addr} {cr : Nat} {raw : List Int}
theorem co_in (hr : RdI h0 sr cr raw) (hrl : raw.length ≤ 1000000) {n N : Nat} (hn : n ≤ 100) (hN : N ≤ 100) {i : Nat} (hi : i < N) (V7 : Value) {G0 : H} (hp0 : h0 <+: G0) : ∀ (m k : Nat) (zs : List Int) (s : Option Addr) (c : Nat) (G : H), k + m = n → zs.length ≤ k → (zs = [] → s = none ∧ c = 0) → Grown G s c zs G0.length → G0 <+: G →
    ∃ (zs' : List Int) (s' : Option Addr) (c' : Nat) (G' : H), zs'.length ≤ n ∧ (zs' = [] → s' = none ∧ c' = 0) ∧ G0 <+: G' ∧ Grown G' s' c' zs' G0.length ∧ ∀ ks,
      goL T [.tmp 6] [0, 1, 2, 7, 8, 9, 10] c34L0 (.blk 2 [0, 1, 2, 7, 8, 9] :: ks) [(0, .slice sr raw.length cr), (1, .int .i64 n), (2, .int .i64 N), (7, V7), (8, .int .i64 i), (9, .slice s zs.length c), (10, .int .i64 k)] G =
        go T [.tmp 6] ks (Fr.of [(0, .slice sr raw.length cr), (1, .int .i64 n), (2, .int .i64 N), (7, V7), (8, .int .i64 i), (9, .slice s' zs'.length c')]) G'
  | 0, k, zs, s, c, G, hk, hz, hzn, hg, hp => by
    refine ⟨zs, s, c, G, by omega, hzn, hp, hg, fun ks => ?_⟩
    rw [goL_at c34L0.eq_def]
    simp (disch := first | omega | (simp only [Go.Am.len_push, Go.Am.len_set, Go.Am.len_kill] <;> omega) | fail) only [push_cast, Nat.reduceBEq, Nat.reduceAdd, Nat.reduceMul, Nat.reduceSub, Nat.reduceLT, Nat.reduceGT, Nat.reduceLeDiff, Nat.reduceEqDiff, Int.reduceToNat, Int.reduceAdd, Int.reduceMul, Int.reduceSub, Int.reduceNeg, Int.reduceLT, Int.reduceLE, Int.reduceEq, Nat.zero_add, Nat.add_zero, Nat.mul_one, eq_self, ne_eq, not_true, not_false_iff, and_true, true_and, and_self, List.getElem?_cons_zero, List.getElem?_cons_succ, List.map_cons, List.map_nil, wrap64, dec_lt, dec_nlt, dec_le, dec_nle, dec_eq, dec_ne, if_pos, if_neg, Int.natCast_add, Int.natCast_one, Int.natCast_zero, Int.toNat_natCast]
  | m + 1, k, zs, s, c, G, hk, hz, hzn, hg, hp => by
    have hmul : 0 ≤ (i : Int) * (n : Int) ∧ (i : Int) * (n : Int) ≤ 10000 := ⟨Int.mul_nonneg (by omega) (by omega), by
      have := Int.mul_le_mul (show (i : Int) ≤ 100 by omega) (show (n : Int) ≤ 100 by omega) (by omega) (by omega); omega⟩
    obtain ⟨x, hx⟩ : ∃ x, x = (i : Int) * (n : Int) := ⟨_, rfl⟩
    rw [← hx] at hmul
    have e1 := raw_call (hr.mono (hp0.trans hp)) (x + k) (by omega) hrl
    have hri := rawI_in (l := raw) (i := x + k) (by omega) (by omega)
    have e2 := pick_call (rawI raw (x + k)) 3 hri.1 hri.2 (by omega) (by omega) G
    by_cases h1 : pickI (rawI raw (x + k)) 3 = 0
    · obtain ⟨s1, G1, e3, g1, q1, q2, q3⟩ := hg.one (y := (k : Int)) (by omega) hp.length_le
      obtain ⟨zs', s', c', G', j1, j2, j3, j4, j5⟩ := co_in hr hrl hn hN hi V7 hp0 m (k + 1) (zs ++ [(k : Int)]) s1 (zs.length + 1) G1 (by omega) (by simp; omega) (fun hh => by simp at hh) g1 (q3 G0 (Nat.le_refl _) hp)
      refine ⟨zs', s', c', G', j1, j2, j3, j4, fun ks => ?_⟩
      have ih := j5 ks
      rw [Int.natCast_add, Int.natCast_one, show (zs ++ [(k : Int)]).length = zs.length + 1 by simp] at ih
      rw [goL_at c34L0.eq_def, ← ih]
      simp (disch := first | omega | (simp only [Go.Am.len_push, Go.Am.len_set, Go.Am.len_kill] <;> omega) | fail) only [push_cast, Nat.reduceBEq, Nat.reduceAdd, Nat.reduceMul, Nat.reduceSub, Nat.reduceLT, Nat.reduceGT, Nat.reduceLeDiff, Nat.reduceEqDiff, Int.reduceToNat, Int.reduceAdd, Int.reduceMul, Int.reduceSub, Int.reduceNeg, Int.reduceLT, Int.reduceLE, Int.reduceEq, Nat.zero_add, Nat.add_zero, Nat.mul_one, eq_self, ne_eq, not_true, not_false_iff, and_true, true_and, and_self, List.getElem?_cons_zero, List.getElem?_cons_succ, List.map_cons, List.map_nil, wrap64, dec_lt, dec_nlt, dec_le, dec_nle, dec_eq, dec_ne, if_pos, if_neg, Int.natCast_add, Int.natCast_one, Int.natCast_zero, Int.toNat_natCast, ← hx, e1, e2, e3]
    · obtain ⟨zs', s', c', G', j1, j2, j3, j4, j5⟩ := co_in hr hrl hn hN hi V7 hp0 m (k + 1) zs s c G (by omega) (by omega) hzn hg hp
      refine ⟨zs', s', c', G', j1, j2, j3, j4, fun ks => ?_⟩
      have ih := j5 ks
      rw [Int.natCast_add, Int.natCast_one] at ih
      rw [goL_at c34L0.eq_def, ← ih]
      simp (disch := first | omega | (simp only [Go.Am.len_push, Go.Am.len_set, Go.Am.len_kill] <;> omega) | fail) only [push_cast, Nat.reduceBEq, Nat.reduceAdd, Nat.reduceMul, Nat.reduceSub, Nat.reduceLT, Nat.reduceGT, Nat.reduceLeDiff, Nat.reduceEqDiff, Int.reduceToNat, Int.reduceAdd, Int.reduceMul, Int.reduceSub, Int.reduceNeg, Int.reduceLT, Int.reduceLE, Int.reduceEq, Nat.zero_add, Nat.add_zero, Nat.mul_one, eq_self, ne_eq, not_true, not_false_iff, and_true, true_and, and_self, List.getElem?_cons_zero, List.getElem?_cons_succ, List.map_cons, List.map_nil, wrap64, dec_lt, dec_nlt, dec_le, dec_nle, dec_eq, dec_ne, if_pos, if_neg, Int.natCast_add, Int.natCast_one, Int.natCast_zero, Int.toNat_natCast, ← hx, e1, e2, dec_ne h1]
theorem co_out (hr : RdI h0 sr cr raw) (hrl : raw.length ≤ 1000000) {n N : Nat} (hn : n ≤ 100) (hN : N ≤ 100) : ∀ (m i : Nat) (ll : List (List Int)) (s : Option Addr) (c : Nat) (G : H), i + m = N → ll.length = i → (∀ l ∈ ll, l.length ≤ n) → GL 22 G s c ll h0.length → h0 <+: G → (∀ x, s = some x → x.block < G.length) →
    ∃ (ll' : List (List Int)) (s' : Option Addr) (c' : Nat) (G' : H), ll'.length = N ∧ (∀ l ∈ ll', l.length ≤ n) ∧ h0 <+: G' ∧ GL 22 G' s' c' ll' h0.length ∧ ∀ ks,
      goL T [.tmp 6] [0, 1, 2, 7, 8] c34L1 (.blk 0 [7] :: ks) [(0, .slice sr raw.length cr), (1, .int .i64 n), (2, .int .i64 N), (7, .slice s ll.length c), (8, .int .i64 i)] G =
        go T [.tmp 6] ks (Fr.of [(7, .slice s' ll'.length c')]) G'
  | 0, i, ll, s, c, G, hi, hl, hb, hg, hp, hs => by
    refine ⟨ll, s, c, G, by omega, hb, hp, hg, fun ks => ?_⟩
    rw [goL_at c34L1.eq_def]
    simp (disch := first | omega | (simp only [Go.Am.len_push, Go.Am.len_set, Go.Am.len_kill] <;> omega) | fail) only [push_cast, Nat.reduceBEq, Nat.reduceAdd, Nat.reduceMul, Nat.reduceSub, Nat.reduceLT, Nat.reduceGT, Nat.reduceLeDiff, Nat.reduceEqDiff, Int.reduceToNat, Int.reduceAdd, Int.reduceMul, Int.reduceSub, Int.reduceNeg, Int.reduceLT, Int.reduceLE, Int.reduceEq, Nat.zero_add, Nat.add_zero, Nat.mul_one, eq_self, ne_eq, not_true, not_false_iff, and_true, true_and, and_self, List.getElem?_cons_zero, List.getElem?_cons_succ, List.map_cons, List.map_nil, wrap64, dec_lt, dec_nlt, dec_le, dec_nle, dec_eq, dec_ne, if_pos, if_neg, Int.natCast_add, Int.natCast_one, Int.natCast_zero, Int.toNat_natCast]
  | m + 1, i, ll, s, c, G, hi, hl, hb, hg, hp, hs => by
    obtain ⟨zs, s1, c1, G1, j1, j2, j3, j4, j5⟩ := co_in hr hrl hn hN (i := i) (by omega) (.slice s ll.length c) hp n 0 [] none 0 G (by omega) (Nat.le_refl _) (fun _ => ⟨rfl, rfl⟩) .nil (List.prefix_refl _)
    simp only [List.length_nil, Int.natCast_zero] at j5
    have hd : ∀ x y, s = some x → s1 = some y → y.block ≠ x.block := by
      intro x y hx hy
      have h1 := hs x hx
      rcases j4 with ⟨h2, _⟩ | ⟨o, h2, h3, _⟩
      · rw [h2] at hy; cases hy
      · rw [h2] at hy; cases hy; simp only; omega
    obtain ⟨s2, G2, e1, g1, q1, q2, q3, q4, q5⟩ := (hg.mono j3).app j4.rd j2 hd (by omega) (by have := hp.length_le; have := j3.length_le; omega)
    have hs2 : ∀ x, s2 = some x → x.block < G2.length := by
      intro x hx
      rcases g1 with ⟨h1, _⟩ | ⟨o, vs, h1, _, _, h2, _⟩
      · rw [h1] at hx; cases hx
      · rw [h1] at hx; cases hx; exact row_some_lt h2
    obtain ⟨ll', s', c', G', k1, k2, k3, k4, k5⟩ := co_out hr hrl hn hN m (i + 1) (ll ++ [zs]) s2 (ll.length + 1) G2 (by omega) (by simp; omega) (fun l hl => by rcases List.mem_append.1 hl with h | h; exact hb l h; rw [List.mem_singleton.1 h]; exact j1) g1 (q3 h0 (Nat.le_refl _) (hp.trans j3)) hs2
    refine ⟨ll', s', c', G', k1, k2, k3, k4, fun ks => ?_⟩
    have ih := k5 ks
    rw [Int.natCast_add, Int.natCast_one, show (ll ++ [zs]).length = ll.length + 1 by simp] at ih
    rw [goL_at c34L1.eq_def, ← ih]
    simp (disch := first | omega | (simp only [Go.Am.len_push, Go.Am.len_set, Go.Am.len_kill] <;> omega) | fail) only [push_cast, Nat.reduceBEq, Nat.reduceAdd, Nat.reduceMul, Nat.reduceSub, Nat.reduceLT, Nat.reduceGT, Nat.reduceLeDiff, Nat.reduceEqDiff, Int.reduceToNat, Int.reduceAdd, Int.reduceMul, Int.reduceSub, Int.reduceNeg, Int.reduceLT, Int.reduceLE, Int.reduceEq, Nat.zero_add, Nat.add_zero, Nat.mul_one, eq_self, ne_eq, not_true, not_false_iff, and_true, true_and, and_self, List.getElem?_cons_zero, List.getElem?_cons_succ, List.map_cons, List.map_nil, wrap64, dec_lt, dec_nlt, dec_le, dec_nle, dec_eq, dec_ne, if_pos, if_neg, Int.natCast_add, Int.natCast_one, Int.natCast_zero, Int.toNat_natCast]
    rw [j5]
    simp (disch := first | omega | (simp only [Go.Am.len_push, Go.Am.len_set, Go.Am.len_kill] <;> omega) | fail) only [push_cast, Nat.reduceBEq, Nat.reduceAdd, Nat.reduceMul, Nat.reduceSub, Nat.reduceLT, Nat.reduceGT, Nat.reduceLeDiff, Nat.reduceEqDiff, Int.reduceToNat, Int.reduceAdd, Int.reduceMul, Int.reduceSub, Int.reduceNeg, Int.reduceLT, Int.reduceLE, Int.reduceEq, Nat.zero_add, Nat.add_zero, Nat.mul_one, eq_self, ne_eq, not_true, not_false_iff, and_true, true_and, and_self, List.getElem?_cons_zero, List.getElem?_cons_succ, List.map_cons, List.map_nil, wrap64, dec_lt, dec_nlt, dec_le, dec_nle, dec_eq, dec_ne, if_pos, if_neg, Int.natCast_add, Int.natCast_one, Int.natCast_zero, Int.toNat_natCast, e1]
theorem checksOf_call (hr : RdI h0 sr cr raw) (hrl : raw.length ≤ 1000000) {n N : Nat} (hn : n ≤ 100) (hN : N ≤ 100) : ∃ (ll : List (List Int)) (s' : Option Addr) (c' : Nat) (G' : H), ll.length = N ∧ (∀ l ∈ ll, l.length ≤ n) ∧ h0 <+: G' ∧ RdLL G' s' c' ll ∧
    call T 34 [.slice sr raw.length cr, .int .i64 n, .int .i64 N] h0 = some (.slice s' ll.length c', G') := by
  obtain ⟨ll, s', c', G', k1, k2, k3, k4, k5⟩ := co_out hr hrl hn hN N 0 [] none 0 h0 (by omega) rfl (fun l hl => by cases hl) .nil (List.prefix_refl _) (fun x hx => by cases hx)
  simp only [List.length_nil, Int.natCast_zero] at k5
  refine ⟨ll, s', c', G', k1, k2, k3, k4.rd, ?_⟩
  rw [call_at T34 rfl]
  unfold F34 c34
  simp (disch := first | omega | (simp only [Go.Am.len_push, Go.Am.len_set, Go.Am.len_kill] <;> omega) | fail) only [push_cast, Nat.reduceBEq, Nat.reduceAdd, Nat.reduceMul, Nat.reduceSub, Nat.reduceLT, Nat.reduceGT, Nat.reduceLeDiff, Nat.reduceEqDiff, Int.reduceToNat, Int.reduceAdd, Int.reduceMul, Int.reduceSub, Int.reduceNeg, Int.reduceLT, Int.reduceLE, Int.reduceEq, Nat.zero_add, Nat.add_zero, Nat.mul_one, eq_self, ne_eq, not_true, not_false_iff, and_true, true_and, and_self, List.getElem?_cons_zero, List.getElem?_cons_succ, List.map_cons, List.map_nil]
  rw [k5]
  simp (disch := first | omega | (simp only [Go.Am.len_push, Go.Am.len_set, Go.Am.len_kill] <;> omega) | fail) only [push_cast, Nat.reduceBEq, Nat.reduceAdd, Nat.reduceMul, Nat.reduceSub, Nat.reduceLT, Nat.reduceGT, Nat.reduceLeDiff, Nat.reduceEqDiff, Int.reduceToNat, Int.reduceAdd, Int.reduceMul, Int.reduceSub, Int.reduceNeg, Int.reduceLT, Int.reduceLE, Int.reduceEq, Nat.zero_add, Nat.add_zero, Nat.mul_one, eq_self, ne_eq, not_true, not_false_iff, and_true, true_and, and_self, List.getElem?_cons_zero, List.getElem?_cons_succ, List.map_cons, List.map_nil]
end
theorem sparseMade_law (h : H) (sa : Option Addr) (c : Nat) (zs : List Int) (hr : RdI h sa c zs) (_ : unitOk h 1 sa = true) (n : Int) (n1 : -9223372036854775808 ≤ n) (n2 : n ≤ 9223372036854775807) (many : Int) (m1 : -9223372036854775808 ≤ many) (m2 : many ≤ 9223372036854775807) (most : Int) (o1 : -9223372036854775808 ≤ most) (o2 : most ≤ 9223372036854775807) (lost : Bool) :
    ∃ h' : H, call T 5 [.slice sa zs.length c, .int .i64 n, .int .i64 many, .int .i64 most, .bool lost] h = some (.bool true, h') := by
  by_cases hl : 256 < (zs.length : Int)
  · refine ⟨h, ?_⟩
    rw [call_at T5 rfl]
    unfold F5 c5
    simp (disch := first | omega | (simp only [Go.Am.len_push, Go.Am.len_set, Go.Am.len_kill] <;> omega) | fail) only [push_cast, Nat.reduceBEq, Nat.reduceAdd, Nat.reduceMul, Nat.reduceSub, Nat.reduceLT, Nat.reduceGT, Nat.reduceLeDiff, Nat.reduceEqDiff, Int.reduceToNat, Int.reduceAdd, Int.reduceMul, Int.reduceSub, Int.reduceNeg, Int.reduceLT, Int.reduceLE, Int.reduceEq, Nat.zero_add, Nat.add_zero, Nat.mul_one, eq_self, ne_eq, not_true, not_false_iff, and_true, true_and, and_self, List.getElem?_cons_zero, List.getElem?_cons_succ, List.map_cons, List.map_nil, dec_lt hl]
  have e1 := pick_call n 16 n1 n2 (by omega) (by omega) h
  have b1 := pickI_ok (a := n) (n := 16) (by omega)
  obtain ⟨N, hN⟩ : ∃ N : Nat, (N : Int) = 1 + pickI n 16 := ⟨(1 + pickI n 16).toNat, by omega⟩
  have e2 := pick_call many 12 m1 m2 (by omega) (by omega) h
  have b2 := pickI_ok (a := many) (n := 12) (by omega)
  obtain ⟨M, hM⟩ : ∃ M : Nat, (M : Int) = pickI many 12 := ⟨(pickI many 12).toNat, by omega⟩
  rw [← hM] at e2
  obtain ⟨ll, s1, c1, h1, l1, l2, p1, x1, e3⟩ := checksOf_call hr (by omega) (n := N) (N := M) (by omega) (by omega)
  obtain ⟨s2, c2, h2, p2, x2, e4⟩ := wordOf_call (hr.mono p1) (by omega) (frm := 9) (by omega) (by omega) lost (N := N) (by omega)
  have e5 := pick_call most N o1 o2 (by omega) (by omega) h2
  have b3 := pickI_ok (a := most) (n := (N : Int)) (by omega)
  obtain ⟨K, hK⟩ : ∃ K : Nat, (K : Int) = pickI most N := ⟨(pickI most N).toNat, by omega⟩
  rw [← hK] at e5
  obtain ⟨s3, c3, h3, p3, x3, e6⟩ := nums_call (hr.mono (p1.trans p2)) (by omega) (frm := 4) (q := N) (by omega) (by omega) (by omega) (by omega) (N := K) (by omega)
  have e7 := fun G : H => pick_call most 30 o1 o2 (by omega) (by omega) G
  have hw := wordL_len zs 9 lost N 0
  have hnl := numsL_len zs 4 N K 0
  obtain ⟨h4, e8⟩ := sparseSays_call (x1.mono (p2.trans p3)) ⟨by omega, fun c hc => by have := l2 c hc; omega⟩ (x2.rd.mono p3) (by omega) x3.rd (by omega) (N : Int) (pickI most 30)
  refine ⟨h4, ?_⟩
  rw [call_at T5 rfl]
  unfold F5 c5
  simp (disch := first | omega | (simp only [Go.Am.len_push, Go.Am.len_set, Go.Am.len_kill] <;> omega) | fail) only [push_cast, Nat.reduceBEq, Nat.reduceAdd, Nat.reduceMul, Nat.reduceSub, Nat.reduceLT, Nat.reduceGT, Nat.reduceLeDiff, Nat.reduceEqDiff, Int.reduceToNat, Int.reduceAdd, Int.reduceMul, Int.reduceSub, Int.reduceNeg, Int.reduceLT, Int.reduceLE, Int.reduceEq, Nat.zero_add, Nat.add_zero, Nat.mul_one, eq_self, ne_eq, not_true, not_false_iff, and_true, true_and, and_self, List.getElem?_cons_zero, List.getElem?_cons_succ, List.map_cons, List.map_nil, wrap64, dec_lt, dec_nlt, dec_le, dec_nle, dec_eq, dec_ne, if_pos, if_neg, Int.natCast_add, Int.natCast_one, Int.natCast_zero, Int.toNat_natCast, e1, ← hN, e2, e3, e4, e5, e6, e7, e8, behind_true p1, behind_true p2, behind_true p3]
end Go.Proofs.Ytammndhoillliaa
