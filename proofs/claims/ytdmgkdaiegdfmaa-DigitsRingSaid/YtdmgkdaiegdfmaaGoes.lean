/-
  What goes computes. Conditions: those of each contract.
-/
import Derived.Test.YtdmgkdaiegdfmaaRinged
import Derived.Test.YtdmgkdaiegdfmaaAm18
namespace Go.Proofs.Ytdmgkdaiegdfmaa
open Go.Am
set_option linter.unusedVariables false
set_option linter.unusedSimpArgs false

def stI (st : List Nat) : List Int := st.reverse.map Int.ofNat
theorem stI_cons (y : Nat) (st : List Nat) : stI (y :: st) = stI st ++ [(y : Int)] := by simp [stI]
theorem stI_len (st : List Nat) : (stI st).length = st.length := by simp [stI]
structure GS (h1 : H) (seen nodes : Nat) (sa : Option Addr) (c : Nat) (st : List Nat) (g : H) : Prop where
  kp : ∀ o, o < h1.length → g[o]? = h1[o]?
  ln : h1.length + 1 ≤ g.length
  sr : g.row h1.length = some ⟨bitsV seen nodes, 4, 1, true⟩
  sk : Stk g sa c (stI st) (h1.length + 1)
  bd : ∀ x ∈ st, x < nodes

theorem scanR_le (m nodes : Nat) : ∀ (j i seen : Nat) (st : List Nat) (n : Nat), (scanR m nodes j i seen st n).2.1.length ≤ st.length + j ∧ (scanR m nodes j i seen st n).2.2 ≤ n + j
  | 0, i, seen, st, n => by simp [scanR]
  | j + 1, i, seen, st, n => by
    rw [scanR]
    simp only [force_eq]
    cases m.testBit i <;> simp only [cond_true, cond_false]
    · have := scanR_le m nodes j (i + 1) seen st n; omega
    · cases seen.testBit (i % nodes) <;> simp only [cond_true, cond_false]
      · have := scanR_le m nodes j (i + 1) (seen ||| 1 <<< (i % nodes)) (i % nodes :: st) (n + 1); simp only [List.length_cons] at this; omega
      · have := scanR_le m nodes j (i + 1) seen st (n + 1); omega

abbrev gs22 (L all q nodes : Nat) (at' v : Int) (N nd : Nat) (sa : Option Addr) (st : List Nat) (cp : Nat) (n : Int) : List (Nat × Value) :=
  [(0, .slice (some ⟨L, 0, none⟩) all all), (1, .int .i64 q), (2, .int .i64 nodes), (3, .int .i64 at'), (4, .int .i64 v), (11, .slice (some ⟨N, 0, none⟩) nd nd), (12, .slice sa (stI st).length cp), (13, .int .i64 n)]

theorem scan_loop (h1 : H) (L m all q nodes : Nat) (at' v x : Int) (b : Nat) (hL : h1.row L = some ⟨bitsV m all, 4, 1, true⟩) (hLl : L < h1.length) (hq : q ≤ 10) (hn : 0 < nodes) (hn2 : nodes ≤ 1024) (hb : x * (q : Int) = (b : Int)) (hba : b + q ≤ all) (hall : all ≤ 1024) :
    ∀ (j : Nat) (c n : Int) (cN nN seen : Nat) (st : List Nat) (sa : Option Addr) (cp : Nat) (g : H), c = (cN : Int) → cN + j = q → n = (nN : Int) → nN + j ≤ 1000000 → st.length + j ≤ 1000000 → GS h1 seen nodes sa cp st g →
    ∃ g' sa' cp', GS h1 (scanR m nodes j (b + cN) seen st nN).1 nodes sa' cp' (scanR m nodes j (b + cN) seen st nN).2.1 g' ∧
      ∀ ks, goL T [.tmp 10] [0, 1, 2, 3, 4, 11, 12, 13, 14, 15] c22L0 (.blk 2 [0, 1, 2, 3, 4, 11, 12, 13] :: ks) (gs22 L all q nodes at' v h1.length nodes sa st cp n ++ [(14, .int .i64 x), (15, .int .i64 c)]) g =
      go T [.tmp 10] ks (Fr.of (gs22 L all q nodes at' v h1.length nodes sa' (scanR m nodes j (b + cN) seen st nN).2.1 cp' ((scanR m nodes j (b + cN) seen st nN).2.2 : Nat))) g'
  | 0, c, n, cN, nN, seen, st, sa, cp, g, hc, hj, hnN, hn3, hst, hs => by
    subst hnN
    refine ⟨g, sa, cp, hs, fun ks => ?_⟩
    unfold gs22
    rw [goL_at c22L0.eq_def]
    simp (disch := first | omega | (simp only [Go.Am.len_push, Go.Am.len_set, Go.Am.len_kill] <;> omega) | fail) only [push_cast, Nat.reduceBEq, Nat.reduceAdd, Nat.reduceMul, Nat.reduceSub, Nat.reduceLT, Nat.reduceLeDiff, Nat.reduceEqDiff, Int.reduceToNat, Int.reduceAdd, Int.reduceMul, Int.reduceSub, Int.reduceNeg, Int.reduceLT, Int.reduceLE, Int.reduceEq, Nat.zero_add, Nat.add_zero, Nat.mul_one, eq_self, ne_eq, not_true, not_false_iff, and_true, true_and, and_self, List.getElem?_cons_zero, List.getElem?_cons_succ, List.map_cons, List.map_nil, dec_nlt]
    simp only [scanR]
  | j + 1, c, n, cN, nN, seen, st, sa, cp, g, hc, hj, hnN, hn3, hst, hs => by
    subst hc hnN
    have hrow : g.row L = some ⟨bitsV m all, 4, 1, true⟩ := by rw [row_get (hs.kp L hLl)]; exact hL
    have e1 := ld1_bit hrow (i := (b : Int) + (cN : Int)) (k := b + cN) (by omega) (by omega)
    have hi1 : 0 ≤ (b : Int) + (cN : Int) ∧ (b : Int) + (cN : Int) < (all : Int) := by omega
    obtain ⟨y, hy⟩ : ∃ y, y = (b + cN) % nodes := ⟨_, rfl⟩
    have hyl : y < nodes := by rw [hy]; exact Nat.mod_lt _ hn
    have hty : ((b : Int) + (cN : Int)).tmod (nodes : Int) = (y : Int) := by
      rw [Int.tmod_eq_emod_of_nonneg (by omega), hy, Int.natCast_emod, Int.natCast_add]
    have hnz : ¬ (nodes : Int) = 0 := by omega
    have e2 := ld1_bit hs.sr (i := (y : Int)) (k := y) rfl hyl
    have hi2 : 0 ≤ (y : Int) ∧ (y : Int) < (nodes : Int) := by omega
    rw [scanR]
    simp only [force_eq, ← hy]
    unfold gs22
    cases hbit : m.testBit (b + cN) with
    | false =>
      rw [hbit] at e1
      obtain ⟨g', sa', cp', hs', hl'⟩ := scan_loop h1 L m all q nodes at' v x b hL hLl hq hn hn2 hb hba hall j ((cN : Int) + 1) nN (cN + 1) nN seen st sa cp g (by omega) (by omega) rfl (by omega) (by omega) hs
      refine ⟨g', sa', cp', hs', fun ks => ?_⟩
      unfold gs22 at hl'
      have hl' := hl' ks
      rw [goL_at c22L0.eq_def]
      simp (disch := first | omega | (simp only [Go.Am.len_push, Go.Am.len_set, Go.Am.len_kill] <;> omega) | fail) only [push_cast, Nat.reduceBEq, Nat.reduceAdd, Nat.reduceMul, Nat.reduceSub, Nat.reduceLT, Nat.reduceLeDiff, Nat.reduceEqDiff, Int.reduceToNat, Int.reduceAdd, Int.reduceMul, Int.reduceSub, Int.reduceNeg, Int.reduceLT, Int.reduceLE, Int.reduceEq, Nat.zero_add, Nat.add_zero, Nat.mul_one, eq_self, ne_eq, not_true, not_false_iff, and_true, true_and, and_self, List.getElem?_cons_zero, List.getElem?_cons_succ, List.map_cons, List.map_nil, dec_lt, wrap64, hb, hi1, e1]
      exact hl'
    | true =>
      rw [hbit] at e1
      simp only [cond_true]
      cases hsn : seen.testBit y with
      | true =>
        rw [hsn] at e2
        obtain ⟨g', sa', cp', hs', hl'⟩ := scan_loop h1 L m all q nodes at' v x b hL hLl hq hn hn2 hb hba hall j ((cN : Int) + 1) ((nN : Int) + 1) (cN + 1) (nN + 1) seen st sa cp g (by omega) (by omega) (by omega) (by omega) (by omega) hs
        refine ⟨g', sa', cp', hs', fun ks => ?_⟩
        unfold gs22 at hl'
        have hl' := hl' ks
        rw [goL_at c22L0.eq_def]
        simp (disch := first | omega | (simp only [Go.Am.len_push, Go.Am.len_set, Go.Am.len_kill] <;> omega) | fail) only [push_cast, Nat.reduceBEq, Nat.reduceAdd, Nat.reduceMul, Nat.reduceSub, Nat.reduceLT, Nat.reduceLeDiff, Nat.reduceEqDiff, Int.reduceToNat, Int.reduceAdd, Int.reduceMul, Int.reduceSub, Int.reduceNeg, Int.reduceLT, Int.reduceLE, Int.reduceEq, Nat.zero_add, Nat.add_zero, Nat.mul_one, eq_self, ne_eq, not_true, not_false_iff, and_true, true_and, and_self, List.getElem?_cons_zero, List.getElem?_cons_succ, List.map_cons, List.map_nil, dec_lt, wrap64, hb, hi1, e1, hty, hnz, hi2, e2]
        exact hl'
      | false =>
        rw [hsn] at e2
        have e3 := sts_bit (v := true) hs.sr (i := (y : Int)) (k := y) rfl hyl (bits_on hyl)
        have hsk : Stk (g.set h1.length (.row ⟨bitsV (seen ||| 1 <<< y) nodes, 4, 1, true⟩)) sa cp (stI st) (h1.length + 1) := hs.sk.carry (fun o ho _ => row_set_other (by omega))
        obtain ⟨sa1, g1, ha, hsk1, hgl, hkeep⟩ := hsk.app (y := (y : Int)) (by rw [stI_len]; omega)
        rw [← stI_cons] at hsk1
        have hln := hs.ln
        have hs1 : GS h1 (seen ||| 1 <<< y) nodes sa1 ((stI st).length + 1) (y :: st) g1 := {
          kp := fun o ho => by rw [hkeep o (by omega), List.getElem?_set_ne (by omega)]; exact hs.kp o ho
          ln := by rw [len_set] at hgl; omega
          sr := by rw [row_get (hkeep _ (by omega))]; exact row_set_same (by omega)
          sk := hsk1
          bd := by intro z hz; rcases List.mem_cons.mp hz with rfl | hz; exact hyl; exact hs.bd z hz }
        obtain ⟨g', sa', cp', hs', hl'⟩ := scan_loop h1 L m all q nodes at' v x b hL hLl hq hn hn2 hb hba hall j ((cN : Int) + 1) ((nN : Int) + 1) (cN + 1) (nN + 1) (seen ||| 1 <<< y) (y :: st) sa1 ((stI st).length + 1) g1 (by omega) (by omega) (by omega) (by omega) (by simp only [List.length_cons]; omega) hs1
        refine ⟨g', sa', cp', hs', fun ks => ?_⟩
        unfold gs22 at hl'
        have hl' := hl' ks
        rw [show (stI (y :: st)).length = (stI st).length + 1 by rw [stI_len, stI_len]; rfl] at hl'
        rw [goL_at c22L0.eq_def]
        simp (disch := first | omega | (simp only [Go.Am.len_push, Go.Am.len_set, Go.Am.len_kill] <;> omega) | fail) only [push_cast, Nat.reduceBEq, Nat.reduceAdd, Nat.reduceMul, Nat.reduceSub, Nat.reduceLT, Nat.reduceLeDiff, Nat.reduceEqDiff, Int.reduceToNat, Int.reduceAdd, Int.reduceMul, Int.reduceSub, Int.reduceNeg, Int.reduceLT, Int.reduceLE, Int.reduceEq, Nat.zero_add, Nat.add_zero, Nat.mul_one, eq_self, ne_eq, not_true, not_false_iff, and_true, true_and, and_self, List.getElem?_cons_zero, List.getElem?_cons_succ, List.map_cons, List.map_nil, dec_lt, wrap64, hb, hi1, e1, hty, hnz, hi2, e2, e3, ha]
        exact hl'

theorem pop_loop (L m all q : Nat) (at' v n : Int) (ks : List It) (g : H) (hrow : g.row L = some ⟨bitsV m all, 4, 1, true⟩) (hall : all ≤ 1024) : ∀ (j : Nat) (i : Int) (iN : Nat), i = (iN : Int) → iN + j = all →
    goL T [.tmp 10] [0, 1, 3, 4, 13, 17, 18] c22L2 (.blk 4 [0, 1, 3, 4, 13, 17] :: ks) [(0, .slice (some ⟨L, 0, none⟩) all all), (1, .int .i64 q), (3, .int .i64 at'), (4, .int .i64 v), (13, .int .i64 n), (17, .int .i64 (pop m iN : Nat)), (18, .int .i64 i)] g =
      go T [.tmp 10] ks (Fr.of [(0, .slice (some ⟨L, 0, none⟩) all all), (1, .int .i64 q), (3, .int .i64 at'), (4, .int .i64 v), (13, .int .i64 n), (17, .int .i64 (pop m all : Nat))]) g
  | 0, i, iN, hi, hj => by
    subst hi
    rw [goL_at c22L2.eq_def]
    have : iN = all := by omega
    subst this
    simp (disch := first | omega | (simp only [Go.Am.len_push, Go.Am.len_set, Go.Am.len_kill] <;> omega) | fail) only [push_cast, Nat.reduceBEq, Nat.reduceAdd, Nat.reduceMul, Nat.reduceSub, Nat.reduceLT, Nat.reduceLeDiff, Nat.reduceEqDiff, Int.reduceToNat, Int.reduceAdd, Int.reduceMul, Int.reduceSub, Int.reduceNeg, Int.reduceLT, Int.reduceLE, Int.reduceEq, Nat.zero_add, Nat.add_zero, Nat.mul_one, eq_self, ne_eq, not_true, not_false_iff, and_true, true_and, and_self, List.getElem?_cons_zero, List.getElem?_cons_succ, List.map_cons, List.map_nil, dec_nlt]
  | j + 1, i, iN, hi, hj => by
    subst hi
    rw [goL_at c22L2.eq_def]
    have e1 := ld1_bit hrow (i := (iN : Int)) (k := iN) rfl (by omega)
    have hi1 : 0 ≤ (iN : Int) ∧ (iN : Int) < (all : Int) := by omega
    have hp := pop_le m iN
    have ih := pop_loop L m all q at' v n ks g hrow hall j ((iN : Int) + 1) (iN + 1) (by omega) (by omega)
    rw [pop] at ih
    cases hbit : m.testBit iN with
    | false =>
      rw [hbit] at e1 ih
      simp (disch := first | omega | (simp only [Go.Am.len_push, Go.Am.len_set, Go.Am.len_kill] <;> omega) | fail) only [push_cast, Nat.reduceBEq, Nat.reduceAdd, Nat.reduceMul, Nat.reduceSub, Nat.reduceLT, Nat.reduceLeDiff, Nat.reduceEqDiff, Int.reduceToNat, Int.reduceAdd, Int.reduceMul, Int.reduceSub, Int.reduceNeg, Int.reduceLT, Int.reduceLE, Int.reduceEq, Nat.zero_add, Nat.add_zero, Nat.mul_one, eq_self, ne_eq, not_true, not_false_iff, and_true, true_and, and_self, List.getElem?_cons_zero, List.getElem?_cons_succ, List.map_cons, List.map_nil, dec_lt, wrap64, hi1, e1]
      exact ih
    | true =>
      rw [hbit] at e1 ih
      rw [show ((pop m iN + true.toNat : Nat) : Int) = (pop m iN : Int) + 1 by simp] at ih
      simp (disch := first | omega | (simp only [Go.Am.len_push, Go.Am.len_set, Go.Am.len_kill] <;> omega) | fail) only [push_cast, Nat.reduceBEq, Nat.reduceAdd, Nat.reduceMul, Nat.reduceSub, Nat.reduceLT, Nat.reduceLeDiff, Nat.reduceEqDiff, Int.reduceToNat, Int.reduceAdd, Int.reduceMul, Int.reduceSub, Int.reduceNeg, Int.reduceLT, Int.reduceLE, Int.reduceEq, Nat.zero_add, Nat.add_zero, Nat.mul_one, eq_self, ne_eq, not_true, not_false_iff, and_true, true_and, and_self, List.getElem?_cons_zero, List.getElem?_cons_succ, List.map_cons, List.map_nil, dec_lt, wrap64, hi1, e1]
      exact ih

theorem bfs_loop (h1 : H) (L m all q nodes : Nat) (at' v : Int) (hL : h1.row L = some ⟨bitsV m all, 4, 1, true⟩) (hLl : L < h1.length) (hq : q ≤ 10) (hn : 0 < nodes) (hn2 : nodes ≤ 1024) (hnq : nodes * q = all) (hall : all ≤ 1024) :
    ∀ (f : Nat) (n : Int) (nN seen : Nat) (st : List Nat) (sa : Option Addr) (cp : Nat) (g : H) (r : Nat), n = (nN : Int) → nN + f * q ≤ 1000000 → st.length + f * q ≤ 1000000 → GS h1 seen nodes sa cp st g → bfsR q m nodes f seen st nN = some r →
    ∃ g', (∀ o, o < h1.length → g'[o]? = h1[o]?) ∧ h1.length ≤ g'.length ∧ r ≤ nN + f * q ∧
      ∀ ks, goL T [.tmp 10] [0, 1, 2, 3, 4, 11, 12, 13] c22L1 (.blk 0 [0, 1, 3, 4, 13] :: ks) (gs22 L all q nodes at' v h1.length nodes sa st cp n) g =
      go T [.tmp 10] ks (Fr.of [(0, .slice (some ⟨L, 0, none⟩) all all), (1, .int .i64 q), (3, .int .i64 at'), (4, .int .i64 v), (13, .int .i64 (r : Nat))]) g'
  | 0, n, nN, seen, st, sa, cp, g, r, hnN, hn3, hst, hs, he => by rw [bfsR] at he; cases he
  | f + 1, n, nN, seen, [], sa, cp, g, r, hnN, hn3, hst, hs, he => by
    subst hnN
    rw [bfsR] at he
    cases he
    have := hs.ln
    refine ⟨g, hs.kp, by omega, by omega, fun ks => ?_⟩
    unfold gs22
    rw [goL_at c22L1.eq_def]
    have hz : (stI ([] : List Nat)).length = 0 := rfl
    simp (disch := first | omega | (simp only [Go.Am.len_push, Go.Am.len_set, Go.Am.len_kill] <;> omega) | fail) only [push_cast, Nat.reduceBEq, Nat.reduceAdd, Nat.reduceMul, Nat.reduceSub, Nat.reduceLT, Nat.reduceLeDiff, Nat.reduceEqDiff, Int.reduceToNat, Int.reduceAdd, Int.reduceMul, Int.reduceSub, Int.reduceNeg, Int.reduceLT, Int.reduceLE, Int.reduceEq, Nat.zero_add, Nat.add_zero, Nat.mul_one, eq_self, ne_eq, not_true, not_false_iff, and_true, true_and, and_self, List.getElem?_cons_zero, List.getElem?_cons_succ, List.map_cons, List.map_nil, dec_nlt, hz]
  | f + 1, n, nN, seen, x :: st, sa, cp, g, r, hnN, hn3, hst, hs, he => by
    subst hnN
    rw [bfsR] at he
    simp only [force_eq] at he
    rw [Nat.succ_mul] at hn3 hst
    simp only [List.length_cons] at hst
    have hx : x < nodes := hs.bd x (List.mem_cons_self ..)
    have hxq : x * q + q ≤ all := by rw [← hnq, ← Nat.succ_mul]; exact Nat.mul_le_mul_right q hx
    have hsk := hs.sk
    rw [stI_cons] at hsk
    obtain ⟨o, rfl, ho, hol, hld, hcp, huo, hsk1⟩ := hsk.last
    have hs1 : GS h1 seen nodes (some ⟨o, 0, none⟩) cp st g := ⟨hs.kp, hs.ln, hs.sr, hsk1, fun z hz => hs.bd z (List.mem_cons_of_mem _ hz)⟩
    obtain ⟨g1, sa1, cp1, hs2, hl2⟩ := scan_loop h1 L m all q nodes at' v (x : Int) (x * q) hL hLl hq hn hn2 (Int.natCast_mul x q).symm hxq hall q 0 (nN : Int) 0 nN seen st _ cp g rfl (by omega) rfl (by omega) (by omega) hs1
    rw [Nat.add_zero] at hs2 hl2
    have hle := scanR_le m nodes q (x * q) seen st nN
    obtain ⟨g2, hk3, hl3, hr, hgo⟩ := bfs_loop h1 L m all q nodes at' v hL hLl hq hn hn2 hnq hall f ((scanR m nodes q (x * q) seen st nN).2.2 : Nat) (scanR m nodes q (x * q) seen st nN).2.2 (scanR m nodes q (x * q) seen st nN).1 (scanR m nodes q (x * q) seen st nN).2.1 sa1 cp1 g1 r rfl (by omega) (by omega) hs2 he
    refine ⟨g2, hk3, hl3, by rw [Nat.succ_mul]; omega, fun ks => ?_⟩
    have hl2 := hl2 (.blk 1 [0, 1, 2, 3, 4, 11, 12, 13] :: .lp [0, 1, 2, 3, 4, 11, 12, 13] c22L1 :: .blk 0 [0, 1, 3, 4, 13] :: ks)
    have hgo := hgo ks
    rw [goL_at c22L1.eq_def]
    unfold gs22 at hl2 hgo ⊢
    have hsl : (stI (x :: st)).length = (stI st).length + 1 := by rw [stI_len, stI_len]; rfl
    have hlen := stI_len st
    have hi1 : 0 ≤ ((stI st).length : Int) ∧ ((stI st).length : Int) < ((stI st).length : Int) + 1 := by omega
    have hi2 : (0 : Int) ≤ 0 ∧ 0 ≤ ((stI st).length : Int) ∧ ((stI st).length : Int) ≤ (cp : Int) ∧ unitOk g 1 (some ⟨o, 0, none⟩) = true := ⟨by omega, by omega, by omega, huo⟩
    have hz1 : ((stI st).length : Int) + 1 - 1 = ((stI st).length : Int) := by omega
    have hcp0 : ¬ (cp : Int) = 0 := by omega
    have hz2 : Int.toNat 0 = 0 := rfl
    simp (disch := first | omega | (simp only [Go.Am.len_push, Go.Am.len_set, Go.Am.len_kill] <;> omega) | fail) only [push_cast, Nat.reduceBEq, Nat.reduceAdd, Nat.reduceMul, Nat.reduceSub, Nat.reduceLT, Nat.reduceLeDiff, Nat.reduceEqDiff, Int.reduceToNat, Int.reduceAdd, Int.reduceMul, Int.reduceSub, Int.reduceNeg, Int.reduceLT, Int.reduceLE, Int.reduceEq, Nat.zero_add, Nat.add_zero, Nat.mul_one, eq_self, ne_eq, not_true, not_false_iff, and_true, true_and, and_self, List.getElem?_cons_zero, List.getElem?_cons_succ, List.map_cons, List.map_nil, dec_lt, wrap64, hsl, Int.natCast_add, hz1, hi1, hi2, Int.toNat_natCast, hld, hcp0, Int.sub_zero, Nat.zero_mul]
    simp only [app_cons, app_nil] at hl2
    refine hl2.trans ?_
    simp (disch := first | omega | (simp only [Go.Am.len_push, Go.Am.len_set, Go.Am.len_kill] <;> omega) | fail) only [push_cast, Nat.reduceBEq, Nat.reduceAdd, Nat.reduceMul, Nat.reduceSub, Nat.reduceLT, Nat.reduceLeDiff, Nat.reduceEqDiff, Int.reduceToNat, Int.reduceAdd, Int.reduceMul, Int.reduceSub, Int.reduceNeg, Int.reduceLT, Int.reduceLE, Int.reduceEq, Nat.zero_add, Nat.add_zero, Nat.mul_one, eq_self, ne_eq, not_true, not_false_iff, and_true, true_and, and_self, List.getElem?_cons_zero, List.getElem?_cons_succ, List.map_cons, List.map_nil]
    exact hgo
end Go.Proofs.Ytdmgkdaiegdfmaa
