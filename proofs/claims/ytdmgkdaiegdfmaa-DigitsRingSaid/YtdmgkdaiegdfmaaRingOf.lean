/-
  What RingOf computes. Conditions: those of each contract.
-/
import Derived.Test.YtdmgkdaiegdfmaaGoesCall
namespace Go.Proofs.Ytdmgkdaiegdfmaa
open Go.Am
set_option linter.unusedVariables false
set_option linter.unusedSimpArgs false

theorem row_pre {h h' : H} {o : Nat} {r : Row} (hp : h <+: h') (hr : h.row o = some r) : h'.row o = some r := by rw [row_prefix hp (row_some_lt hr)]; exact hr
theorem pre_get {h h' : H} {o : Nat} (hp : h <+: h') (ho : o < h.length) : h'[o]? = h[o]? := by
  obtain ⟨t, rfl⟩ := hp
  exact List.getElem?_append_left ho
theorem pickR_some {q nodes m cnt a : Nat} : ∀ (j v v' : Nat), pickR q nodes m cnt a j v = some v' → v' < v + j ∧ m.testBit (a * q + v') = true
  | 0, v, v', h => by rw [pickR] at h; cases h
  | j + 1, v, v', h => by
    rw [pickR] at h
    simp only [force_eq] at h
    cases hb : m.testBit (a * q + v) with
    | false =>
      rw [hb] at h
      have := pickR_some j (v + 1) v' h
      exact ⟨by omega, this.2⟩
    | true =>
      rw [hb] at h
      simp only [cond_true] at h
      split at h
      · cases h; exact ⟨by omega, hb⟩
      · have := pickR_some j (v + 1) v' h
        exact ⟨by omega, this.2⟩
      · cases h

theorem pick_loop (L m all q n nodes a cnt : Nat) (so : Value) (hq : q ≤ 10) (hn : 0 < nodes) (hn2 : nodes ≤ 1024) (hnq : nodes * q = all) (hall : all ≤ 1024) (ha : a < nodes) (hcnt : cnt = pop m all) :
    ∀ (j : Nat) (v : Int) (vN v' : Nat) (g : H), v = (vN : Int) → vN + j = q → g.row L = some ⟨bitsV m all, 4, 1, true⟩ → pickR q nodes m cnt a j vN = some v' →
    ∃ g', g <+: g' ∧ ∀ ks, goL T [.tmp 6] [0, 1, 2, 7, 8, 10, 11, 12] c10L1 (.blk 4 [0, 1, 2, 7, 8, 10, 11, 12] :: ks) [(0, .int .i64 q), (1, .int .i64 n), (2, .int .i64 all), (7, .int .i64 nodes), (8, .slice (some ⟨L, 0, none⟩) all all), (10, so), (11, .int .i64 a), (12, .int .i64 v)] g =
      go T [.tmp 6] ks (Fr.of [(0, .int .i64 q), (1, .int .i64 n), (2, .int .i64 all), (7, .int .i64 nodes), (8, .slice (some ⟨L, 0, none⟩) all all), (10, so), (11, .int .i64 a), (12, .int .i64 v')]) g'
  | 0, v, vN, v', g, hv, hj, hrow, he => by rw [pickR] at he; cases he
  | j + 1, v, vN, v', g, hv, hj, hrow, he => by
    subst hv
    rw [pickR] at he
    simp only [force_eq] at he
    have haq : a * q + q ≤ all := by rw [← hnq, ← Nat.succ_mul]; exact Nat.mul_le_mul_right q ha
    obtain ⟨b, hb⟩ : ∃ b, b = a * q := ⟨_, rfl⟩
    have hbI : (a : Int) * (q : Int) = (b : Int) := by rw [hb]; exact (Int.natCast_mul a q).symm
    have hi1 : 0 ≤ (b : Int) + (vN : Int) ∧ (b : Int) + (vN : Int) < (all : Int) := by omega
    cases hbit : m.testBit (a * q + vN) with
    | false =>
      rw [hbit] at he
      simp only [cond_false] at he
      obtain ⟨g', hp, hgo⟩ := pick_loop L m all q n nodes a cnt so hq hn hn2 hnq hall ha hcnt j ((vN : Int) + 1) (vN + 1) v' g (by omega) (by omega) hrow he
      refine ⟨g', hp, fun ks => ?_⟩
      have hgo := hgo ks
      rw [goL_at c10L1.eq_def]
      have e1 := ld1_bit hrow (i := (b : Int) + (vN : Int)) (k := b + vN) (by omega) (by omega)
      rw [hb, hbit, ← hb] at e1
      simp (disch := first | omega | (simp only [Go.Am.len_push, Go.Am.len_set, Go.Am.len_kill] <;> omega) | fail) only [push_cast, Nat.reduceBEq, Nat.reduceAdd, Nat.reduceMul, Nat.reduceSub, Nat.reduceLT, Nat.reduceLeDiff, Nat.reduceEqDiff, Int.reduceToNat, Int.reduceAdd, Int.reduceMul, Int.reduceSub, Int.reduceNeg, Int.reduceLT, Int.reduceLE, Int.reduceEq, Nat.zero_add, Nat.add_zero, Nat.mul_one, eq_self, ne_eq, not_true, not_false_iff, and_true, true_and, and_self, List.getElem?_cons_zero, List.getElem?_cons_succ, List.map_cons, List.map_nil, dec_lt, wrap64, hbI, hi1, e1]
      exact hgo
    | true =>
      rw [hbit] at he
      simp only [cond_true] at he
      have e1 := ld1_bit hrow (i := (b : Int) + (vN : Int)) (k := b + vN) (by omega) (by omega)
      rw [hb, hbit, ← hb] at e1
      cases hg : goesR q nodes m cnt (a * q + vN) with
      | none => rw [hg] at he; cases he
      | some r =>
        rw [hg] at he
        obtain ⟨g1, hcall, hp1⟩ := goes_call g L m all q nodes a vN cnt r hrow hq hn hn2 hnq hall ha (by omega) hbit hcnt hg
        cases r with
        | true =>
          cases he
          refine ⟨g1, hp1, fun ks => ?_⟩
          rw [goL_at c10L1.eq_def]
          simp (disch := first | omega | (simp only [Go.Am.len_push, Go.Am.len_set, Go.Am.len_kill] <;> omega) | fail) only [push_cast, Nat.reduceBEq, Nat.reduceAdd, Nat.reduceMul, Nat.reduceSub, Nat.reduceLT, Nat.reduceLeDiff, Nat.reduceEqDiff, Int.reduceToNat, Int.reduceAdd, Int.reduceMul, Int.reduceSub, Int.reduceNeg, Int.reduceLT, Int.reduceLE, Int.reduceEq, Nat.zero_add, Nat.add_zero, Nat.mul_one, eq_self, ne_eq, not_true, not_false_iff, and_true, true_and, and_self, List.getElem?_cons_zero, List.getElem?_cons_succ, List.map_cons, List.map_nil, dec_lt, wrap64, hbI, hi1, e1, hcall]
        | false =>
          simp only [] at he
          obtain ⟨g', hp, hgo⟩ := pick_loop L m all q n nodes a cnt so hq hn hn2 hnq hall ha hcnt j ((vN : Int) + 1) (vN + 1) v' g1 (by omega) (by omega) (row_pre hp1 hrow) he
          refine ⟨g', hp1.trans hp, fun ks => ?_⟩
          have hgo := hgo ks
          rw [goL_at c10L1.eq_def]
          simp (disch := first | omega | (simp only [Go.Am.len_push, Go.Am.len_set, Go.Am.len_kill] <;> omega) | fail) only [push_cast, Nat.reduceBEq, Nat.reduceAdd, Nat.reduceMul, Nat.reduceSub, Nat.reduceLT, Nat.reduceLeDiff, Nat.reduceEqDiff, Int.reduceToNat, Int.reduceAdd, Int.reduceMul, Int.reduceSub, Int.reduceNeg, Int.reduceLT, Int.reduceLE, Int.reduceEq, Nat.zero_add, Nat.add_zero, Nat.mul_one, eq_self, ne_eq, not_true, not_false_iff, and_true, true_and, and_self, List.getElem?_cons_zero, List.getElem?_cons_succ, List.map_cons, List.map_nil, dec_lt, wrap64, hbI, hi1, e1, hcall]
          exact hgo

/-- what RingOf has put together so far -/
def outI (n : Nat) (out : List Nat) : List Int := (List.replicate (n - 1) 0 ++ out.reverse).map Int.ofNat
theorem outI_cons (n v : Nat) (out : List Nat) : outI n (v :: out) = outI n out ++ [(v : Int)] := by simp [outI]
theorem outI_len (n : Nat) (out : List Nat) : (outI n out).length = n - 1 + out.length := by simp [outI]

theorem ringOf_loop (h : H) (all q n nodes : Nat) (hq : q ≤ 10) (hn : 0 < nodes) (hn2 : nodes ≤ 1024) (hnq : nodes * q = all) (hall : all ≤ 1024) (hn1 : 1 ≤ n) (hn3 : n ≤ 20) :
    ∀ (k m cnt a : Nat) (out : List Nat) (sa : Option Addr) (g : H) (r : Nat × Nat × Nat × List Nat), a < nodes → cnt = pop m all → out.length + k = all → h <+: g → g.row h.length = some ⟨bitsV m all, 4, 1, true⟩ → Stk g sa (outI n out).length (outI n out) (h.length + 1) → ringR q nodes k m cnt a out = some r →
    ∃ g' sa', h <+: g' ∧ Stk g' sa' (outI n r.2.2.2).length (outI n r.2.2.2) (h.length + 1) ∧ r.2.2.2.length = all ∧ ∀ ks, goL T [.tmp 6] [0, 1, 2, 7, 8, 10, 11] c10L2 (.blk 2 [2, 10] :: ks) [(0, .int .i64 q), (1, .int .i64 n), (2, .int .i64 all), (7, .int .i64 nodes), (8, .slice (some ⟨h.length, 0, none⟩) all all), (10, .slice sa (outI n out).length (outI n out).length), (11, .int .i64 a)] g =
      go T [.tmp 6] ks (Fr.of [(2, .int .i64 all), (10, .slice sa' (outI n r.2.2.2).length (outI n r.2.2.2).length)]) g'
  | 0, m, cnt, a, out, sa, g, r, ha, hcnt, hout, hp, hrow, hsk, he => by
    rw [ringR] at he
    cases he
    refine ⟨g, sa, hp, hsk, by omega, fun ks => ?_⟩
    rw [goL_at c10L2.eq_def]
    have hl := outI_len n out
    simp (disch := first | omega | (simp only [Go.Am.len_push, Go.Am.len_set, Go.Am.len_kill] <;> omega) | fail) only [push_cast, Nat.reduceBEq, Nat.reduceAdd, Nat.reduceMul, Nat.reduceSub, Nat.reduceLT, Nat.reduceLeDiff, Nat.reduceEqDiff, Int.reduceToNat, Int.reduceAdd, Int.reduceMul, Int.reduceSub, Int.reduceNeg, Int.reduceLT, Int.reduceLE, Int.reduceEq, Nat.zero_add, Nat.add_zero, Nat.mul_one, eq_self, ne_eq, not_true, not_false_iff, and_true, true_and, and_self, List.getElem?_cons_zero, List.getElem?_cons_succ, List.map_cons, List.map_nil, dec_nlt, wrap64]
  | k + 1, m, cnt, a, out, sa, g, r, ha, hcnt, hout, hp, hrow, hsk, he => by
    rw [ringR] at he
    simp only [force_eq] at he
    cases hpk : pickR q nodes m cnt a q 0 with
    | none => rw [hpk] at he; cases he
    | some v =>
      rw [hpk] at he
      simp only [] at he
      obtain ⟨hv, hbit⟩ := pickR_some q 0 v hpk
      rw [Nat.zero_add] at hv
      obtain ⟨g1, hp1, hgo1⟩ := pick_loop h.length m all q n nodes a cnt (.slice sa (outI n out).length (outI n out).length) hq hn hn2 hnq hall ha hcnt q 0 0 v g rfl (by omega) hrow hpk
      have haq : a * q + q ≤ all := by rw [← hnq, ← Nat.succ_mul]; exact Nat.mul_le_mul_right q ha
      obtain ⟨b, hb⟩ : ∃ b, b = a * q := ⟨_, rfl⟩
      rw [← hb] at haq hbit he
      have hbI : (a : Int) * (q : Int) = (b : Int) := by rw [hb]; exact (Int.natCast_mul a q).symm
      have hi1 : 0 ≤ (b : Int) + (v : Int) ∧ (b : Int) + (v : Int) < (all : Int) := by omega
      have hrow1 := row_pre hp1 hrow
      have hr1l := row_some_lt hrow1
      have e1 := sts_bit (v := false) hrow1 (i := (b : Int) + (v : Int)) (k := b + v) (by omega) (by omega) (bits_off (m := m) (by omega) hbit)
      obtain ⟨g2, hg2⟩ : ∃ g2 : H, g2 = g1.set h.length (.row ⟨bitsV (clr m (b + v)) all, 4, 1, true⟩) := ⟨_, rfl⟩
      rw [show (m ^^^ 1 <<< (b + v)) = clr m (b + v) from rfl, ← hg2] at e1
      have hsk2 : Stk g2 sa (outI n out).length (outI n out) (h.length + 1) := by
        refine hsk.carry fun o ho hol => ?_
        rw [hg2, row_set_other (by omega), row_prefix hp1 hol]
      obtain ⟨sa3, g3, happ, hsk3, hgl3, hk3⟩ := hsk2.app (y := (v : Int)) (by rw [outI_len]; omega)
      rw [← outI_cons] at hsk3
      have hlc : (outI n (v :: out)).length = (outI n out).length + 1 := by rw [outI_len, outI_len]; simp only [List.length_cons]; omega
      have hl := outI_len n out
      have hg2l : g2.length = g1.length := by rw [hg2, len_set]
      obtain ⟨y, hy⟩ : ∃ y, y = (b + v) % nodes := ⟨_, rfl⟩
      rw [← hy] at he
      have hyl : y < nodes := by rw [hy]; exact Nat.mod_lt _ hn
      have hty : ((b : Int) + (v : Int)).tmod (nodes : Int) = (y : Int) := by
        rw [Int.tmod_eq_emod_of_nonneg (by omega), hy, Int.natCast_emod, Int.natCast_add]
      have hnz : ¬ (nodes : Int) = 0 := by omega
      have hpop := (pop_xor hbit all).1 (by omega)
      have hp3 : h <+: g3 := by
        have hl1 := (hp.trans hp1).length_le
        refine pre_of (by omega) fun o ho => ?_
        rw [hk3 o (by omega), hg2, List.getElem?_set_ne (by omega)]
        exact pre_get (hp.trans hp1) ho
      have hrow3 : g3.row h.length = some ⟨bitsV (clr m (b + v)) all, 4, 1, true⟩ := by rw [row_get (hk3 _ (by omega)), hg2]; exact row_set_same hr1l
      obtain ⟨g', sa', h1, h2, h3, hgo⟩ := ringOf_loop h all q n nodes hq hn hn2 hnq hall hn1 hn3 k (clr m (b + v)) (cnt - 1) y (v :: out) sa3 g3 r hyl (by unfold clr; omega) (by simp only [List.length_cons]; omega) hp3 hrow3 (by rw [hlc]; exact hsk3) he
      refine ⟨g', sa', h1, h2, h3, fun ks => ?_⟩
      have hgo := hgo ks
      rw [goL_at c10L2.eq_def]
      rw [hlc] at hgo
      simp (disch := first | omega | (simp only [Go.Am.len_push, Go.Am.len_set, Go.Am.len_kill] <;> omega) | fail) only [push_cast, Nat.reduceBEq, Nat.reduceAdd, Nat.reduceMul, Nat.reduceSub, Nat.reduceLT, Nat.reduceLeDiff, Nat.reduceEqDiff, Int.reduceToNat, Int.reduceAdd, Int.reduceMul, Int.reduceSub, Int.reduceNeg, Int.reduceLT, Int.reduceLE, Int.reduceEq, Nat.zero_add, Nat.add_zero, Nat.mul_one, eq_self, ne_eq, not_true, not_false_iff, and_true, true_and, and_self, List.getElem?_cons_zero, List.getElem?_cons_succ, List.map_cons, List.map_nil, dec_lt, wrap64, hbI, hi1, hgo1, e1, happ, hty, hnz]
      exact hgo
end Go.Proofs.Ytdmgkdaiegdfmaa
