/-
  muller.Decode's rounds. Condition: few levels.
  muller.Decode whole. Condition: few levels.
  muller.Decode's answer, the document's MullerNear. Condition: few levels.
  The law MullerMends. No condition.
-/
import Derived.Test.YtammndhoillliaaMuF
import Derived.Test.YtammndhoillliaaAm24
import Derived.Test.YtammndhoillliaaL5
namespace Go.Proofs.Ytammndhoillliaa
open Go.Am
set_option linter.unusedVariables false
set_option linter.unusedSimpArgs false
set_option maxRecDepth 30000

/-- a message of which the first i bits are new -/
def mixM (l : List Nat) (a b : Nat → Bool) (i : Nat) : List Int := msg (l.take i) a ++ msg (l.drop i) b
theorem mix_zero (l : List Nat) (a b : Nat → Bool) : mixM l a b 0 = msg l b := by simp [mixM, msg]
theorem mix_all (l : List Nat) (a b : Nat → Bool) : mixM l a b l.length = msg l a := by simp [mixM, msg]
theorem mix_len (l : List Nat) (a b : Nat → Bool) (i : Nat) : (mixM l a b i).length = l.length := by
  simp only [mixM, List.length_append, msg_len, List.length_take, List.length_drop]; omega
theorem mix_set {l : List Nat} {i s : Nat} (a b : Nat → Bool) (hs : l[i]? = some s) : (mixM l a b i).set i (bI (a s)) = mixM l a b (i + 1) := by
  obtain ⟨h1, h2⟩ := List.getElem?_eq_some_iff.1 hs
  have hl : (msg (l.take i) a).length = i := by rw [msg_len, List.length_take]; omega
  unfold mixM
  rw [List.set_append_right _ _ (by omega), hl, Nat.sub_self, List.drop_eq_getElem_cons h1, List.take_succ_eq_append_getElem h1, h2]
  simp [msg]
theorem mix_same {l : List Nat} {i s : Nat} (a b : Nat → Bool) (hs : l[i]? = some s) (he : a s = b s) : mixM l a b i = mixM l a b (i + 1) := by
  obtain ⟨h1, h2⟩ := List.getElem?_eq_some_iff.1 hs
  unfold mixM
  rw [List.drop_eq_getElem_cons h1, List.take_succ_eq_append_getElem h1, h2]
  simp [msg, he]
theorem xorL_snoc {α : Type} (l : List α) (a : α) (p : α → Bool) : xorL (l ++ [a]) p = (xorL l p ^^ p a) := by rw [xorL_app, xorL_cons, xorL_nil, Bool.xor_false]
theorem row_keep {h h' : H} {o : Nat} {r : Row} (hr : h.row o = some r) (hp : h <+: h') : h'.row o = some r := by rw [row_prefix hp (row_some_lt hr)]; exact hr
section
variable {hF : H} {l : List Nat} {r m N n o1 o2 o3 : Nat} {f M : Nat → Bool} {sl : Option Addr} {cl : Nat}
theorem pdec_in (hr : r ≤ 5) (hm : m ≤ 5) (hNe : N = 2 ^ m) (hn : n ≤ 5) (hl : ∀ s ∈ l, s < 32) (hll : l.length ≤ 1000) (hmon : RdI hF sl cl (cst l)) (ho : hF.length ≤ o1) (h13 : o1 < o3) (h32 : o3 < o2) : ∀ (k i : Nat) (G : H), i + k = l.length → hF <+: G →
    G.row o1 = some ⟨ints (mixM l (fun s => M s || (popT s == n && voteB m f s)) M i), 3, 1, true⟩ → G.row o3 = some ⟨ints (wl N f), 3, 1, true⟩ → G.row o2 = some ⟨ints (wl N fun x => xorL (l.take i) fun s => (popT s == n && voteB m f s) && inM s x), 3, 1, true⟩ →
    ∃ G' : H, hF <+: G' ∧ G'.row o1 = some ⟨ints (msg l fun s => M s || (popT s == n && voteB m f s)), 3, 1, true⟩ ∧ G'.row o3 = some ⟨ints (wl N f), 3, 1, true⟩ ∧ G'.row o2 = some ⟨ints (wl N fun x => xorL l fun s => (popT s == n && voteB m f s) && inM s x), 3, 1, true⟩ ∧ ∀ ks,
      goL T [.tmp 6, .tmp 7, .tmp 8, .tmp 9] [0, 1, 6, 11, 12, 13, 14, 46, 47, 48] c17L0 (.blk 2 [0, 1, 6, 11, 12, 13, 14] :: ks) [(0, .int .i64 r), (1, .int .i64 m), (6, .slice (some ⟨o1, 0, none⟩) l.length l.length), (11, .slice sl l.length cl), (12, .slice (some ⟨o3, 0, none⟩) N N), (13, .int .i64 n), (14, .slice (some ⟨o2, 0, none⟩) N N), (46, .slice sl l.length cl), (47, .int .i64 l.length), (48, .int .i64 i)] G =
        go T [.tmp 6, .tmp 7, .tmp 8, .tmp 9] ks (Fr.of [(0, .int .i64 r), (1, .int .i64 m), (6, .slice (some ⟨o1, 0, none⟩) l.length l.length), (11, .slice sl l.length cl), (12, .slice (some ⟨o3, 0, none⟩) N N), (13, .int .i64 n), (14, .slice (some ⟨o2, 0, none⟩) N N)]) G'
  | 0, i, G, hi, hp, r1, r3, r2 => by
    have hie : i = l.length := by omega
    subst hie
    rw [mix_all] at r1
    rw [List.take_length] at r2
    refine ⟨G, hp, r1, r3, r2, fun ks => ?_⟩
    rw [goL_at c17L0.eq_def]
    simp (disch := first | omega | (simp only [Go.Am.len_push, Go.Am.len_set, Go.Am.len_kill] <;> omega) | fail) only [push_cast, Nat.reduceBEq, Nat.reduceAdd, Nat.reduceMul, Nat.reduceSub, Nat.reduceLT, Nat.reduceGT, Nat.reduceLeDiff, Nat.reduceEqDiff, Int.reduceToNat, Int.reduceAdd, Int.reduceMul, Int.reduceSub, Int.reduceNeg, Int.reduceLT, Int.reduceLE, Int.reduceEq, Nat.zero_add, Nat.add_zero, Nat.mul_one, eq_self, ne_eq, not_true, not_false_iff, and_true, true_and, and_self, List.getElem?_cons_zero, List.getElem?_cons_succ, List.map_cons, List.map_nil, wrap64, dec_lt, dec_nlt, dec_le, dec_nle, dec_eq, dec_ne, if_pos, if_neg, Int.natCast_add, Int.natCast_one, Int.natCast_zero, Int.toNat_natCast]
  | k + 1, i, G, hi, hp, r1, r3, r2 => by
    have IH := pdec_in hr hm hNe hn hl hll hmon ho h13 h32 k (i + 1)
    have hN := two_le hm
    rw [← hNe] at hN
    obtain ⟨s, hs⟩ := at_some (l := l) (i := i) (by omega)
    have hs32 := hl s (List.mem_of_getElem? hs)
    have htk : l.take (i + 1) = l.take i ++ [s] := by
      obtain ⟨h1, h2⟩ := List.getElem?_eq_some_iff.1 hs
      rw [List.take_succ_eq_append_getElem h1, h2]
    obtain ⟨ol, fl, rfl, _, l1⟩ := (hmon.mono hp).at (i := i) (by rw [cst_len]; omega)
    rw [gi_cst hs] at l1
    have e1 := ones_call (h := G) hs32
    have w1 := (pc_is hs32).2
    have e2 := votes_call (f := f) hm hNe (own_rd r3 (wl_len _ _)) hs32
    rw [htk] at IH
    simp only [xorL_snoc] at IH
    by_cases hyes : (popT s == n && voteB m f s) = true
    · have hat : (M s || (popT s == n && voteB m f s)) = true := by rw [hyes, Bool.or_true]
      obtain ⟨G1, es, p1, q1, f1, g1⟩ := own_set hp ho r1 (i := i) (by rw [mix_len]; omega) 1
      have hms := mix_set (i := i) (fun s => M s || (popT s == n && voteB m f s)) M hs
      rw [show bI ((fun s => M s || (popT s == n && voteB m f s)) s) = 1 by rw [show (fun s => M s || (popT s == n && voteB m f s)) s = true from hat]; rfl] at hms
      rw [hms] at q1
      obtain ⟨o4, G2, p2, ho4, q4, e4⟩ := prow_call (h := G1) (s := s) hm hNe hs32
      have q2 : G1.row o2 = _ := (f1 o2 (by omega)).trans r2
      have q3 : G1.row o3 = _ := (f1 o3 (by omega)).trans r3
      have u2 := row_keep q2 p2
      have hlt := row_some_lt q2
      have e5 := paddw_call (h := G2) (o := o2) (o' := o4) hN (by omega) u2 q4
      obtain ⟨G3, eG3⟩ : ∃ G3 : H, G3 = G2.set o2 (.row ⟨ints (wl N fun x => (xorL (l.take i) fun s => (popT s == n && voteB m f s) && inM s x) ^^ inM s x), 3, 1, true⟩) := ⟨_, rfl⟩
      rw [← eG3] at e5
      obtain ⟨G', k1, k2, k3, k4, k5⟩ := IH G3 (by omega) (by rw [eG3]; exact pre_set (p1.trans p2) (by omega)) (by rw [eG3, row_set_other (by omega)]; exact row_keep q1 p2) (by rw [eG3, row_set_other (by omega)]; exact row_keep q3 p2) (by
        simp only [hyes, Bool.true_and]
        rw [eG3]; exact row_set_same (row_some_lt u2))
      refine ⟨G', k1, k2, k3, k4, fun ks => ?_⟩
      have ih := k5 ks
      rw [Int.natCast_add, Int.natCast_one] at ih
      rw [Bool.and_eq_true, beq_iff_eq] at hyes
      rw [hyes.2] at e2
      have hpn := hyes.1
      rw [hpn] at e1
      rw [goL_at c17L0.eq_def, ← ih]
      simp (disch := first | omega | (simp only [Go.Am.len_push, Go.Am.len_set, Go.Am.len_kill] <;> omega) | fail) only [push_cast, Nat.reduceBEq, Nat.reduceAdd, Nat.reduceMul, Nat.reduceSub, Nat.reduceLT, Nat.reduceGT, Nat.reduceLeDiff, Nat.reduceEqDiff, Int.reduceToNat, Int.reduceAdd, Int.reduceMul, Int.reduceSub, Int.reduceNeg, Int.reduceLT, Int.reduceLE, Int.reduceEq, Nat.zero_add, Nat.add_zero, Nat.mul_one, eq_self, ne_eq, not_true, not_false_iff, and_true, true_and, and_self, List.getElem?_cons_zero, List.getElem?_cons_succ, List.map_cons, List.map_nil, wrap64, dec_lt, dec_nlt, dec_le, dec_nle, dec_eq, dec_ne, if_pos, if_neg, Int.natCast_add, Int.natCast_one, Int.natCast_zero, Int.toNat_natCast, l1, e1, w1, e2, es, e4, e5]
    · have hno : (popT s == n && voteB m f s) = false := by simpa using hyes
      obtain ⟨G', k1, k2, k3, k4, k5⟩ := IH G (by omega) hp (by rw [← mix_same (fun s => M s || (popT s == n && voteB m f s)) M hs (by simp only [hno, Bool.or_false])]; exact r1) r3 (by
        simp only [hno, Bool.false_and, Bool.xor_false]; exact r2)
      refine ⟨G', k1, k2, k3, k4, fun ks => ?_⟩
      have ih := k5 ks
      rw [Int.natCast_add, Int.natCast_one] at ih
      by_cases hpn : popT s = n
      · rw [hpn, beq_self_eq_true, Bool.true_and] at hno
        rw [hno] at e2
        rw [hpn] at e1
        rw [goL_at c17L0.eq_def, ← ih]
        simp (disch := first | omega | (simp only [Go.Am.len_push, Go.Am.len_set, Go.Am.len_kill] <;> omega) | fail) only [push_cast, Nat.reduceBEq, Nat.reduceAdd, Nat.reduceMul, Nat.reduceSub, Nat.reduceLT, Nat.reduceGT, Nat.reduceLeDiff, Nat.reduceEqDiff, Int.reduceToNat, Int.reduceAdd, Int.reduceMul, Int.reduceSub, Int.reduceNeg, Int.reduceLT, Int.reduceLE, Int.reduceEq, Nat.zero_add, Nat.add_zero, Nat.mul_one, eq_self, ne_eq, not_true, not_false_iff, and_true, true_and, and_self, List.getElem?_cons_zero, List.getElem?_cons_succ, List.map_cons, List.map_nil, wrap64, dec_lt, dec_nlt, dec_le, dec_nle, dec_eq, dec_ne, if_pos, if_neg, Int.natCast_add, Int.natCast_one, Int.natCast_zero, Int.toNat_natCast, l1, e1, w1, e2]
      · have hne : ¬ ((popT s : Nat) : Int) = (n : Int) := by omega
        obtain ⟨v, hv⟩ : ∃ v : Int, v = ((popT s : Nat) : Int) := ⟨_, rfl⟩
        rw [← hv] at e1 hne
        rw [goL_at c17L0.eq_def, ← ih]
        simp (disch := first | omega | (simp only [Go.Am.len_push, Go.Am.len_set, Go.Am.len_kill] <;> omega) | fail) only [push_cast, Nat.reduceBEq, Nat.reduceAdd, Nat.reduceMul, Nat.reduceSub, Nat.reduceLT, Nat.reduceGT, Nat.reduceLeDiff, Nat.reduceEqDiff, Int.reduceToNat, Int.reduceAdd, Int.reduceMul, Int.reduceSub, Int.reduceNeg, Int.reduceLT, Int.reduceLE, Int.reduceEq, Nat.zero_add, Nat.add_zero, Nat.mul_one, eq_self, ne_eq, not_true, not_false_iff, and_true, true_and, and_self, List.getElem?_cons_zero, List.getElem?_cons_succ, List.map_cons, List.map_nil, wrap64, dec_lt, dec_nlt, dec_le, dec_nle, dec_eq, dec_ne, if_pos, if_neg, Int.natCast_add, Int.natCast_one, Int.natCast_zero, Int.toNat_natCast, l1, e1, w1, dec_ne hne]
end
end Go.Proofs.Ytammndhoillliaa
namespace Go.Proofs.Ytammndhoillliaa
open Go.Am
set_option linter.unusedVariables false
set_option linter.unusedSimpArgs false
set_option maxRecDepth 30000

theorem msg_congr {l : List Nat} {c d : Nat → Bool} (h : ∀ s ∈ l, c s = d s) : msg l c = msg l d := by
  unfold msg
  exact List.map_congr_left fun s hs => by rw [h s hs]
section
variable {hF : H} {r m N o1 o3 : Nat} {w : Nat → Bool} {sl : Option Addr} {cl : Nat}
theorem pdec_out (hr : r ≤ 5) (hm : m ≤ 5) (hNe : N = 2 ^ m) (hll : (monN r m).length ≤ 1000) (hmon : RdI hF sl cl (cst (monN r m))) (ho : hF.length ≤ o1) (h13 : o1 < o3) : ∀ (j k : Nat) (G : H), k + j = r + 1 → hF <+: G →
    G.row o1 = some ⟨ints (msg (monN r m) fun s => decide (r < popT s + k) && coefB r m w s), 3, 1, true⟩ → G.row o3 = some ⟨ints (wl N (leftB r m w k)), 3, 1, true⟩ →
    ∃ G' : H, hF <+: G' ∧ G'.row o1 = some ⟨ints (msg (monN r m) (coefB r m w)), 3, 1, true⟩ ∧ G'.row o3 = some ⟨ints (wl N (leftB r m w (r + 1))), 3, 1, true⟩ ∧ ∀ ks,
      goL T [.tmp 6, .tmp 7, .tmp 8, .tmp 9] [0, 1, 6, 11, 12, 13] c17L1 (.blk 0 [0, 1, 6, 12] :: ks) [(0, .int .i64 r), (1, .int .i64 m), (6, .slice (some ⟨o1, 0, none⟩) ((monN r m).length) ((monN r m).length)), (11, .slice sl ((monN r m).length) cl), (12, .slice (some ⟨o3, 0, none⟩) N N), (13, .int .i64 ((r : Int) - (k : Int)))] G =
        go T [.tmp 6, .tmp 7, .tmp 8, .tmp 9] ks (Fr.of [(0, .int .i64 r), (1, .int .i64 m), (6, .slice (some ⟨o1, 0, none⟩) ((monN r m).length) ((monN r m).length)), (12, .slice (some ⟨o3, 0, none⟩) N N)]) G'
  | 0, k, G, hk, hp, r1, r3 => by
    have hke : k = r + 1 := by omega
    subst hke
    have hmm : (msg (monN r m) fun s => decide (r < popT s + (r + 1)) && coefB r m w s) = msg (monN r m) (coefB r m w) := msg_congr fun s _ => by rw [decide_eq_true (by omega), Bool.true_and]
    rw [hmm] at r1
    refine ⟨G, hp, r1, r3, fun ks => ?_⟩
    rw [goL_at c17L1.eq_def]
    simp (disch := first | omega | (simp only [Go.Am.len_push, Go.Am.len_set, Go.Am.len_kill] <;> omega) | fail) only [push_cast, Nat.reduceBEq, Nat.reduceAdd, Nat.reduceMul, Nat.reduceSub, Nat.reduceLT, Nat.reduceGT, Nat.reduceLeDiff, Nat.reduceEqDiff, Int.reduceToNat, Int.reduceAdd, Int.reduceMul, Int.reduceSub, Int.reduceNeg, Int.reduceLT, Int.reduceLE, Int.reduceEq, Nat.zero_add, Nat.add_zero, Nat.mul_one, eq_self, ne_eq, not_true, not_false_iff, and_true, true_and, and_self, List.getElem?_cons_zero, List.getElem?_cons_succ, List.map_cons, List.map_nil, wrap64, dec_lt, dec_nlt, dec_le, dec_nle, dec_eq, dec_ne, if_pos, if_neg, Int.natCast_add, Int.natCast_one, Int.natCast_zero, Int.toNat_natCast]
  | j + 1, k, G, hk, hp, r1, r3 => by
    have IH := pdec_out hr hm hNe hll hmon ho h13 j (k + 1)
    have hN := two_le hm
    have hsh := shl_is hm
    rw [← hNe] at hN hsh
    have hl32 : ∀ s ∈ monN r m, s < 32 := fun s hs => by have := (mem_mon.1 hs).2; omega
    obtain ⟨G1, eG1, p1, q1, g1⟩ := own_mk G N 0
    have hz : List.replicate N (0 : Int) = wl N (fun x => xorL ((monN r m).take 0) fun s => (popT s == r - k && voteB m (leftB r m w k) s) && inM s x) := by
      refine gi_ext (by simp [wl_len]) fun x hx => ?_
      rw [List.length_replicate] at hx
      rw [gi_wl _ hx]
      unfold gi
      simp [hx, bI, xorL]
    rw [hz] at q1
    have h3l := row_some_lt r3
    have hmix : (msg (monN r m) fun s => decide (r < popT s + k) && coefB r m w s) = mixM (monN r m) (fun s => (decide (r < popT s + k) && coefB r m w s) || (popT s == r - k && voteB m (leftB r m w k) s)) (fun s => decide (r < popT s + k) && coefB r m w s) 0 := (mix_zero _ _ _).symm
    have r1' := row_keep r1 p1
    rw [hmix] at r1'
    obtain ⟨G2, p2, u1, u3, u2, e2⟩ := pdec_in (hF := hF) (M := fun s => decide (r < popT s + k) && coefB r m w s) (f := leftB r m w k) (n := r - k) (o2 := G.length) hr hm hNe (by omega) hl32 hll hmon ho h13 h3l (monN r m).length 0 G1 (by omega) (hp.trans p1) r1' (row_keep r3 p1) q1
    have hM : (msg (monN r m) fun s => (decide (r < popT s + k) && coefB r m w s) || (popT s == r - k && voteB m (leftB r m w k) s)) = msg (monN r m) fun s => decide (r < popT s + (k + 1)) && coefB r m w s := msg_congr fun s hs => by
      have hle := (mem_mon.1 hs).1
      by_cases h1 : popT s = r - k
      · have hc : coefB r m w s = voteB m (leftB r m w k) s := by unfold coefB; rw [h1, show r - (r - k) = k by omega]
        rw [decide_eq_false (by omega), decide_eq_true (show r < popT s + (k + 1) by omega), hc, h1]
        simp
      · rw [show (popT s == r - k) = false by simpa using h1]
        by_cases h2 : r < popT s + k
        · rw [decide_eq_true h2, decide_eq_true (show r < popT s + (k + 1) by omega)]; simp
        · rw [decide_eq_false h2, decide_eq_false (show ¬ r < popT s + (k + 1) by omega)]; simp
    rw [hM] at u1
    have e3 := paddw_call (h := G2) (o := o3) (o' := G.length) hN (by omega) u3 u2
    obtain ⟨G3, eG3⟩ : ∃ G3 : H, G3 = G2.set o3 (.row ⟨ints (wl N fun x => leftB r m w k x ^^ xorL (monN r m) fun s => (popT s == r - k && voteB m (leftB r m w k) s) && inM s x), 3, 1, true⟩) := ⟨_, rfl⟩
    rw [← eG3] at e3
    obtain ⟨G', k1, k2, k3, k4⟩ := IH G3 (by omega) (by rw [eG3]; exact pre_set p2 (by omega)) (by rw [eG3, row_set_other (by omega)]; exact u1) (by rw [eG3]; exact row_set_same (row_some_lt u3))
    refine ⟨G', k1, k2, k3, fun ks => ?_⟩
    have ih := k4 ks
    have hnk : ((r - k : Nat) : Int) = (r : Int) - (k : Int) := by omega
    rw [hnk] at e2
    rw [Int.natCast_add, Int.natCast_one] at ih
    have hnx : (r : Int) - (k : Int) - 1 = (r : Int) - ((k : Int) + 1) := by omega
    simp only [Int.natCast_zero] at e2
    rw [goL_at c17L1.eq_def, ← ih]
    simp (disch := first | omega | (simp only [Go.Am.len_push, Go.Am.len_set, Go.Am.len_kill] <;> omega) | fail) only [push_cast, Nat.reduceBEq, Nat.reduceAdd, Nat.reduceMul, Nat.reduceSub, Nat.reduceLT, Nat.reduceGT, Nat.reduceLeDiff, Nat.reduceEqDiff, Int.reduceToNat, Int.reduceAdd, Int.reduceMul, Int.reduceSub, Int.reduceNeg, Int.reduceLT, Int.reduceLE, Int.reduceEq, Nat.zero_add, Nat.add_zero, Nat.mul_one, eq_self, ne_eq, not_true, not_false_iff, and_true, true_and, and_self, List.getElem?_cons_zero, List.getElem?_cons_succ, List.map_cons, List.map_nil, wrap64, dec_lt, dec_nlt, dec_le, dec_nle, dec_eq, dec_ne, if_pos, if_neg, Int.natCast_add, Int.natCast_one, Int.natCast_zero, Int.toNat_natCast, hsh, eG1]
    rw [e2]
    simp (disch := first | omega | (simp only [Go.Am.len_push, Go.Am.len_set, Go.Am.len_kill] <;> omega) | fail) only [push_cast, Nat.reduceBEq, Nat.reduceAdd, Nat.reduceMul, Nat.reduceSub, Nat.reduceLT, Nat.reduceGT, Nat.reduceLeDiff, Nat.reduceEqDiff, Int.reduceToNat, Int.reduceAdd, Int.reduceMul, Int.reduceSub, Int.reduceNeg, Int.reduceLT, Int.reduceLE, Int.reduceEq, Nat.zero_add, Nat.add_zero, Nat.mul_one, eq_self, ne_eq, not_true, not_false_iff, and_true, true_and, and_self, List.getElem?_cons_zero, List.getElem?_cons_succ, List.map_cons, List.map_nil, wrap64, dec_lt, dec_nlt, dec_le, dec_nle, dec_eq, dec_ne, if_pos, if_neg, Int.natCast_add, Int.natCast_one, Int.natCast_zero, Int.toNat_natCast, e3, hnx]
end
def anyBad (l : List Int) : Bool := l.any fun v => !(decide (v = 0) || decide (v = 1))
section
variable {h : H}
theorem bitf_call (v : Int) : call T 95 [.int .i64 v] h = some (.bool (!(decide (v = 0) || decide (v = 1))), h) := by
  have e1 : call T 96 [.int .i64 v] h = some (.bool (decide (v = 0) || decide (v = 1)), h) := by
    rw [call_at T96 rfl]
    unfold F96 c96
    by_cases h0 : v = 0
    · subst h0
      simp (disch := first | omega | (simp only [Go.Am.len_push, Go.Am.len_set, Go.Am.len_kill] <;> omega) | fail) only [push_cast, Nat.reduceBEq, Nat.reduceAdd, Nat.reduceMul, Nat.reduceSub, Nat.reduceLT, Nat.reduceGT, Nat.reduceLeDiff, Nat.reduceEqDiff, Int.reduceToNat, Int.reduceAdd, Int.reduceMul, Int.reduceSub, Int.reduceNeg, Int.reduceLT, Int.reduceLE, Int.reduceEq, Nat.zero_add, Nat.add_zero, Nat.mul_one, eq_self, ne_eq, not_true, not_false_iff, and_true, true_and, and_self, List.getElem?_cons_zero, List.getElem?_cons_succ, List.map_cons, List.map_nil, wrap64, dec_lt, dec_nlt, dec_le, dec_nle, dec_eq, dec_ne, if_pos, if_neg, Int.natCast_add, Int.natCast_one, Int.natCast_zero, Int.toNat_natCast]
    · rw [decide_eq_false h0]
      simp (disch := first | omega | (simp only [Go.Am.len_push, Go.Am.len_set, Go.Am.len_kill] <;> omega) | fail) only [push_cast, Nat.reduceBEq, Nat.reduceAdd, Nat.reduceMul, Nat.reduceSub, Nat.reduceLT, Nat.reduceGT, Nat.reduceLeDiff, Nat.reduceEqDiff, Int.reduceToNat, Int.reduceAdd, Int.reduceMul, Int.reduceSub, Int.reduceNeg, Int.reduceLT, Int.reduceLE, Int.reduceEq, Nat.zero_add, Nat.add_zero, Nat.mul_one, eq_self, ne_eq, not_true, not_false_iff, and_true, true_and, and_self, List.getElem?_cons_zero, List.getElem?_cons_succ, List.map_cons, List.map_nil, wrap64, dec_lt, dec_nlt, dec_le, dec_nle, dec_eq, dec_ne, if_pos, if_neg, Int.natCast_add, Int.natCast_one, Int.natCast_zero, Int.toNat_natCast, dec_ne h0]
  rw [call_at T95 rfl]
  unfold F95 c95
  simp (disch := first | omega | (simp only [Go.Am.len_push, Go.Am.len_set, Go.Am.len_kill] <;> omega) | fail) only [push_cast, Nat.reduceBEq, Nat.reduceAdd, Nat.reduceMul, Nat.reduceSub, Nat.reduceLT, Nat.reduceGT, Nat.reduceLeDiff, Nat.reduceEqDiff, Int.reduceToNat, Int.reduceAdd, Int.reduceMul, Int.reduceSub, Int.reduceNeg, Int.reduceLT, Int.reduceLE, Int.reduceEq, Nat.zero_add, Nat.add_zero, Nat.mul_one, eq_self, ne_eq, not_true, not_false_iff, and_true, true_and, and_self, List.getElem?_cons_zero, List.getElem?_cons_succ, List.map_cons, List.map_nil, wrap64, dec_lt, dec_nlt, dec_le, dec_nle, dec_eq, dec_ne, if_pos, if_neg, Int.natCast_add, Int.natCast_one, Int.natCast_zero, Int.toNat_natCast, e1]
def mulE (r m : Int) (w : List Int) : Int := if mulE0 r m ≠ 0 then mulE0 r m else if (w.length : Int) ≠ ((2 ^ m.toNat : Nat) : Int) then 6 else if anyBad w = true then 2 else 0
theorem mulE_ok {r m : Int} {w : List Int} (h : mulE r m w = 0) : mulE0 r m = 0 ∧ w.length = 2 ^ m.toNat ∧ anyBad w = false := by
  unfold mulE at h
  split at h
  · contradiction
  · split at h
    · cases h
    · split at h
      · cases h
      · rename_i h1 h2 h3
        exact ⟨by simpa using h1, by omega, by simpa using h3⟩
theorem pdec_bad {r m : Int} {w : List Int} {sa : Option Addr} {c : Nat} (hw : RdI h sa c w) (hl : w.length ≤ 9223372036854775807) (he : ¬ mulE r m w = 0) : call T 17 [.int .i64 r, .int .i64 m, .slice sa w.length c] h = some (.tuple #[.slice none 0 0, .int .i64 0, .bool false, .int .i64 (mulE r m w)], h) := by
  have e1 := pchk0_call (h := h) r m
  rw [call_at T17 rfl]
  unfold F17 c17
  unfold mulE at he ⊢
  by_cases h0 : mulE0 r m = 0
  · rw [if_neg (by simpa using h0)] at he ⊢
    obtain ⟨b1, b2, b3, b4⟩ := mulE0_ok h0
    obtain ⟨M, rfl⟩ : ∃ M : Nat, m = M := ⟨m.toNat, by omega⟩
    rw [Int.toNat_natCast] at he ⊢
    have hsh := shl_is (m := M) (by omega)
    obtain ⟨N, hN⟩ : ∃ N, N = 2 ^ M := ⟨_, rfl⟩
    rw [← hN] at hsh he ⊢
    rw [h0] at e1
    by_cases h1 : (w.length : Int) = (N : Int)
    · rw [if_neg (by simpa using h1)] at he ⊢
      by_cases h2 : anyBad w = true
      · rw [if_pos h2]
        have e2 := containsFunc_call (cap := #[]) hw hl (fun v => bitf_call (h := h) v)
        unfold anyBad at h2
        rw [h2] at e2
        have h1' : w.length = N := by omega
        rw [h1'] at e2 ⊢
        simp (disch := first | omega | (simp only [Go.Am.len_push, Go.Am.len_set, Go.Am.len_kill] <;> omega) | fail) only [push_cast, Nat.reduceBEq, Nat.reduceAdd, Nat.reduceMul, Nat.reduceSub, Nat.reduceLT, Nat.reduceGT, Nat.reduceLeDiff, Nat.reduceEqDiff, Int.reduceToNat, Int.reduceAdd, Int.reduceMul, Int.reduceSub, Int.reduceNeg, Int.reduceLT, Int.reduceLE, Int.reduceEq, Nat.zero_add, Nat.add_zero, Nat.mul_one, eq_self, ne_eq, not_true, not_false_iff, and_true, true_and, and_self, List.getElem?_cons_zero, List.getElem?_cons_succ, List.map_cons, List.map_nil, wrap64, dec_lt, dec_nlt, dec_le, dec_nle, dec_eq, dec_ne, if_pos, if_neg, Int.natCast_add, Int.natCast_one, Int.natCast_zero, Int.toNat_natCast, e1, hsh, e2]
      · rw [if_neg h2] at he; exact absurd rfl he
    · rw [if_pos h1]
      simp (disch := first | omega | (simp only [Go.Am.len_push, Go.Am.len_set, Go.Am.len_kill] <;> omega) | fail) only [push_cast, Nat.reduceBEq, Nat.reduceAdd, Nat.reduceMul, Nat.reduceSub, Nat.reduceLT, Nat.reduceGT, Nat.reduceLeDiff, Nat.reduceEqDiff, Int.reduceToNat, Int.reduceAdd, Int.reduceMul, Int.reduceSub, Int.reduceNeg, Int.reduceLT, Int.reduceLE, Int.reduceEq, Nat.zero_add, Nat.add_zero, Nat.mul_one, eq_self, ne_eq, not_true, not_false_iff, and_true, true_and, and_self, List.getElem?_cons_zero, List.getElem?_cons_succ, List.map_cons, List.map_nil, wrap64, dec_lt, dec_nlt, dec_le, dec_nle, dec_eq, dec_ne, if_pos, if_neg, Int.natCast_add, Int.natCast_one, Int.natCast_zero, Int.toNat_natCast, e1, hsh, dec_ne h1]
  · rw [if_pos h0]
    simp (disch := first | omega | (simp only [Go.Am.len_push, Go.Am.len_set, Go.Am.len_kill] <;> omega) | fail) only [push_cast, Nat.reduceBEq, Nat.reduceAdd, Nat.reduceMul, Nat.reduceSub, Nat.reduceLT, Nat.reduceGT, Nat.reduceLeDiff, Nat.reduceEqDiff, Int.reduceToNat, Int.reduceAdd, Int.reduceMul, Int.reduceSub, Int.reduceNeg, Int.reduceLT, Int.reduceLE, Int.reduceEq, Nat.zero_add, Nat.add_zero, Nat.mul_one, eq_self, ne_eq, not_true, not_false_iff, and_true, true_and, and_self, List.getElem?_cons_zero, List.getElem?_cons_succ, List.map_cons, List.map_nil, wrap64, dec_lt, dec_nlt, dec_le, dec_nle, dec_eq, dec_ne, if_pos, if_neg, Int.natCast_add, Int.natCast_one, Int.natCast_zero, Int.toNat_natCast, e1, dec_ne h0]
end
end Go.Proofs.Ytammndhoillliaa
namespace Go.Proofs.Ytammndhoillliaa
open Go.Am
set_option linter.unusedVariables false
set_option linter.unusedSimpArgs false
set_option maxRecDepth 30000

theorem two_pos' (m : Nat) : 0 < 2 ^ m := Nat.pow_pos (by decide)
theorem mon_len_le {r m : Nat} (hr : r ≤ 5) (hm : m ≤ 5) : (monN r m).length ≤ 1000 := by
  have := monR_len m (r + 1) 0
  rw [monR_all] at this
  have hN := two_le hm
  have h2 : (r + 1) * 2 ^ m ≤ 6 * 32 := Nat.mul_le_mul (by omega) hN
  omega
section
variable {h : H} {r m N : Nat} {f : Nat → Bool} {sw : Option Addr} {cw : Nat}
/-- how far what came is from the message that is found -/
def offD (r m : Nat) (f : Nat → Bool) : Nat := offB m (wordB r m (coefB r m f)) f
theorem off_left (hNe : N = 2 ^ m) : ((List.range N).filter (leftB r m f (r + 1))).length = offD r m f := by
  rw [hNe]; unfold offD offB
  refine congrArg List.length (List.filter_congr fun x _ => ?_)
  rw [left_end, Bool.xor_comm]
theorem pdec_ok (hr : r ≤ m) (hm : m ≤ 5) (hNe : N = 2 ^ m) (hw : RdI h sw cw (wl N f)) (hb : anyBad (wl N f) = false) (hm1 : 1 ≤ m) : ∃ (o : Nat) (h' : H), h <+: h' ∧ h'.row o = some ⟨ints (msg (monN r m) (coefB r m f)), 3, 1, true⟩ ∧
    call T 17 [.int .i64 r, .int .i64 m, .slice sw N cw] h = some (if 2 * offD r m f < 2 ^ (m - r) then .tuple #[.slice (some ⟨o, 0, none⟩) (monN r m).length (monN r m).length, .int .i64 (offD r m f), .bool true, .int .i64 0] else .tuple #[.slice none 0 0, .int .i64 0, .bool false, .int .i64 0], h') := by
  have hN := two_le hm
  have hsh := shl_is hm
  have hN0 := two_pos' m
  rw [← hNe] at hN hsh hN0
  have hll := mon_len_le (r := r) (m := m) (by omega) hm
  have e0 := pchk0_call (h := h) r m
  have hz0 : mulE0 (r : Int) (m : Int) = 0 := by unfold mulE0; rw [if_neg (by omega), if_neg (by omega)]
  rw [hz0] at e0
  have e1 := containsFunc_call (cap := #[]) hw (by rw [wl_len]; omega) (fun v => bitf_call (h := h) v)
  unfold anyBad at hb
  rw [hb, wl_len] at e1
  obtain ⟨sl, cl, h1, p1, g1, e2⟩ := pmon_call (h := h) (r := r) (by omega) hm
  obtain ⟨L, hL⟩ : ∃ L, L = (monN r m).length := ⟨_, rfl⟩
  rw [← hL] at hll e2 ⊢
  obtain ⟨G1, eG1, p2, q1, g2⟩ := own_mk h1 L 0
  have hw2 := hw.mono (p1.trans p2)
  obtain ⟨o3, h3, ⟨p3, ho3, q3⟩, e3⟩ := clone_call hw2 (by rw [wl_len]; omega) (by rw [wl_len]; omega)
  rw [wl_len] at e3
  have hz : List.replicate L (0 : Int) = msg (monN r m) fun s => decide (r < popT s + 0) && coefB r m f s := by
    refine gi_ext (by rw [msg_len, List.length_replicate, hL]) fun i k1 => ?_
    rw [List.length_replicate, hL] at k1
    obtain ⟨s, hs⟩ := at_some k1
    rw [gi_msg _ hs]
    have := (mem_mon.1 (List.mem_of_getElem? hs)).1
    rw [decide_eq_false (by omega)]
    unfold gi
    simp [hL, k1, bI]
  rw [hz] at q1
  have q3' : h3.row o3 = some ⟨ints (wl N (leftB r m f 0)), 3, 1, true⟩ := q3
  obtain ⟨G', k1, k2, k3, k4⟩ := pdec_out (hF := h1) (w := f) (by omega) hm hNe (by rw [← hL]; exact hll) g1.rd (Nat.le_refl _) (by omega) (r + 1) 0 h3 (by omega) (p2.trans p3) (row_keep q1 p3) q3'
  have e4 := pweight_call (f := leftB r m f (r + 1)) hN (own_rd k3 (wl_len _ _))
  rw [off_left hNe] at e4
  have hoff : offD r m f ≤ N := by
    unfold offD offB
    have := List.length_filter_le (fun x => wordB r m (coefB r m f) x ^^ f x) (List.range (2 ^ m))
    rw [List.length_range] at this; omega
  refine ⟨h1.length, G', p1.trans k1, k2, ?_⟩
  obtain ⟨K, hK⟩ : ∃ K, K = m - r := ⟨_, rfl⟩
  have hmr : (m : Int) - (r : Int) = (K : Int) := by omega
  have hs2 := shl_is (m := K) (by omega)
  have hN2 := two_le (m := K) (by omega)
  obtain ⟨D, hD⟩ : ∃ D, D = 2 ^ K := ⟨_, rfl⟩
  rw [← hK, ← hD]
  rw [← hD] at hs2 hN2
  rw [← hL] at k4
  obtain ⟨O, hO⟩ : ∃ O, O = offD r m f := ⟨_, rfl⟩
  rw [← hO] at hoff e4 ⊢
  simp only [Int.natCast_zero, Int.sub_zero] at k4
  rw [call_at T17 rfl]
  unfold F17 c17
  simp (disch := first | omega | (simp only [Go.Am.len_push, Go.Am.len_set, Go.Am.len_kill] <;> omega) | fail) only [push_cast, Nat.reduceBEq, Nat.reduceAdd, Nat.reduceMul, Nat.reduceSub, Nat.reduceLT, Nat.reduceGT, Nat.reduceLeDiff, Nat.reduceEqDiff, Int.reduceToNat, Int.reduceAdd, Int.reduceMul, Int.reduceSub, Int.reduceNeg, Int.reduceLT, Int.reduceLE, Int.reduceEq, Nat.zero_add, Nat.add_zero, Nat.mul_one, eq_self, ne_eq, not_true, not_false_iff, and_true, true_and, and_self, List.getElem?_cons_zero, List.getElem?_cons_succ, List.map_cons, List.map_nil, wrap64, dec_lt, dec_nlt, dec_le, dec_nle, dec_eq, dec_ne, if_pos, if_neg, Int.natCast_add, Int.natCast_one, Int.natCast_zero, Int.toNat_natCast, e0, hsh, e1, e2, eG1, e3]
  rw [k4]
  by_cases hlt : 2 * O < D
  · rw [if_pos hlt]
    simp (disch := first | omega | (simp only [Go.Am.len_push, Go.Am.len_set, Go.Am.len_kill] <;> omega) | fail) only [push_cast, Nat.reduceBEq, Nat.reduceAdd, Nat.reduceMul, Nat.reduceSub, Nat.reduceLT, Nat.reduceGT, Nat.reduceLeDiff, Nat.reduceEqDiff, Int.reduceToNat, Int.reduceAdd, Int.reduceMul, Int.reduceSub, Int.reduceNeg, Int.reduceLT, Int.reduceLE, Int.reduceEq, Nat.zero_add, Nat.add_zero, Nat.mul_one, eq_self, ne_eq, not_true, not_false_iff, and_true, true_and, and_self, List.getElem?_cons_zero, List.getElem?_cons_succ, List.map_cons, List.map_nil, wrap64, dec_lt, dec_nlt, dec_le, dec_nle, dec_eq, dec_ne, if_pos, if_neg, Int.natCast_add, Int.natCast_one, Int.natCast_zero, Int.toNat_natCast, e4, hmr, hs2]
  · rw [if_neg hlt]
    simp (disch := first | omega | (simp only [Go.Am.len_push, Go.Am.len_set, Go.Am.len_kill] <;> omega) | fail) only [push_cast, Nat.reduceBEq, Nat.reduceAdd, Nat.reduceMul, Nat.reduceSub, Nat.reduceLT, Nat.reduceGT, Nat.reduceLeDiff, Nat.reduceEqDiff, Int.reduceToNat, Int.reduceAdd, Int.reduceMul, Int.reduceSub, Int.reduceNeg, Int.reduceLT, Int.reduceLE, Int.reduceEq, Nat.zero_add, Nat.add_zero, Nat.mul_one, eq_self, ne_eq, not_true, not_false_iff, and_true, true_and, and_self, List.getElem?_cons_zero, List.getElem?_cons_succ, List.map_cons, List.map_nil, wrap64, dec_lt, dec_nlt, dec_le, dec_nle, dec_eq, dec_ne, if_pos, if_neg, Int.natCast_add, Int.natCast_one, Int.natCast_zero, Int.toNat_natCast, e4, hmr, hs2]
end
/-! ### all messages -/
theorem bits_msg {l : List Nat} (hl : l.Nodup) : ∀ {z : List Int}, z.length = l.length → digS 2 z → ∃ c : Nat → Bool, z = msg l c := by
  intro z hz hd
  refine ⟨fun s => decide (gi z (l.idxOf s : Nat) = 1), gi_ext (by rw [msg_len, hz]) fun i hi => ?_⟩
  obtain ⟨s, hs⟩ := at_some (l := l) (i := i) (by omega)
  rw [gi_msg _ hs]
  have hix : l.idxOf s = i := by
    obtain ⟨h1, h2⟩ := List.getElem?_eq_some_iff.1 hs
    rw [← h2]; exact hl.idxOf_getElem i h1
  rw [hix]
  have := hd _ (gi_mem (zs := z) (i := (i : Int)) (by omega) (by omega))
  by_cases h1 : gi z i = 1
  · rw [decide_eq_true h1, h1]; rfl
  · rw [decide_eq_false h1]; show _ = (0 : Int); omega
section
variable {hF : H} {r m N : Nat} {f : Nat → Bool} {sw : Option Addr} {cw : Nat}
theorem near_loop (hr : r ≤ m) (hm : m ≤ 5) (hNe : N = 2 ^ m) (hw : RdI hF sw cw (wl N f)) (hno : ∀ c : Nat → Bool, ¬ 2 * offB m (wordB r m c) f < 2 ^ (m - r)) {o : Nat} (ho : hF.length ≤ o) : ∀ (n : Nat) (z : List Int) (G : H), z.length = (monN r m).length → digS 2 z → valS 2 z + n + 1 = 2 ^ (monN r m).length → hF <+: G → G.row o = some ⟨ints z, 3, 1, true⟩ →
    ∃ G' : H, ∀ ks,
      goL T [.tmp 6, .tmp 7, .tmp 8] [0, 1, 2, 9, 10] c19L0 (.blk 0 [] :: ks) [(0, .int .i64 r), (1, .int .i64 m), (2, .slice sw N cw), (9, .slice (some ⟨o, 0, none⟩) ((monN r m).length) ((monN r m).length)), (10, .bool true)] G =
        go T [.tmp 6, .tmp 7, .tmp 8] ks (Fr.of []) G' := by
  intro n
  induction n with
  | zero =>
    intro z G hz hd hv hp hr'
    obtain ⟨c, hc⟩ := bits_msg (mon_nodup hm hr) hz hd
    have hrd := own_rd hr' hz
    rw [hc] at hrd
    obtain ⟨o2, G1, p1, ho2, q1, e1⟩ := rword_call (r := r) (by omega) hm hNe hrd
    have e2 := rapart_call hm hNe (own_rd q1 (wl_len _ _)) (hw.mono (hp.trans p1))
    have hN := two_le hm
    obtain ⟨G2, k1, k2, k3, k4, e3⟩ := next_call ho hz (by have := mon_len_le (r := r) (m := m) (by omega) hm; omega) (q := 2) (by omega) hd (hp.trans p1) (row_keep hr' p1)
    have hnv := nextS_val (q := 2) (by omega) hd
    have hb : (nextS 2 z).2 = false := by
      cases hb : (nextS 2 z).2 with
      | false => rfl
      | true =>
        have h1 := hnv.2
        rw [show ((2 : Nat) : Int) = 2 from rfl, hb, if_pos rfl] at h1
        have h2 := valS_lt hnv.1
        rw [nextS_len, hz] at h2
        rw [show ((2 : Nat) : Int) = 2 from rfl] at h2
        omega
    rw [hb] at e3
    refine ⟨G2, fun ks => ?_⟩
    obtain ⟨K, hK⟩ : ∃ K, K = m - r := ⟨_, rfl⟩
    have hmr : (m : Int) - (r : Int) = (K : Int) := by omega
    have hs2 := shl_is (m := K) (by omega)
    have hN2 := two_le (m := K) (by omega)
    have hn := hno c
    have hoff : offB m (wordB r m c) f ≤ N := by
      unfold offB
      have := List.length_filter_le (fun x => wordB r m c x ^^ f x) (List.range (2 ^ m))
      rw [List.length_range] at this; omega
    rw [← hNe] at hN
    obtain ⟨D, hD⟩ : ∃ D, D = 2 ^ K := ⟨_, rfl⟩
    rw [← hK, ← hD] at hn
    rw [← hD] at hs2 hN2
    obtain ⟨O, hO⟩ : ∃ O, O = offB m (wordB r m c) f := ⟨_, rfl⟩
    rw [← hO] at hoff e2 hn
    rw [goL_at c19L0.eq_def]
    simp (disch := first | omega | (simp only [Go.Am.len_push, Go.Am.len_set, Go.Am.len_kill] <;> omega) | fail) only [push_cast, Nat.reduceBEq, Nat.reduceAdd, Nat.reduceMul, Nat.reduceSub, Nat.reduceLT, Nat.reduceGT, Nat.reduceLeDiff, Nat.reduceEqDiff, Int.reduceToNat, Int.reduceAdd, Int.reduceMul, Int.reduceSub, Int.reduceNeg, Int.reduceLT, Int.reduceLE, Int.reduceEq, Nat.zero_add, Nat.add_zero, Nat.mul_one, eq_self, ne_eq, not_true, not_false_iff, and_true, true_and, and_self, List.getElem?_cons_zero, List.getElem?_cons_succ, List.map_cons, List.map_nil, wrap64, dec_lt, dec_nlt, dec_le, dec_nle, dec_eq, dec_ne, if_pos, if_neg, Int.natCast_add, Int.natCast_one, Int.natCast_zero, Int.toNat_natCast, e1, e2, hmr, hs2, e3]
    rw [goL_at c19L0.eq_def]
    simp (disch := first | omega | (simp only [Go.Am.len_push, Go.Am.len_set, Go.Am.len_kill] <;> omega) | fail) only [push_cast, Nat.reduceBEq, Nat.reduceAdd, Nat.reduceMul, Nat.reduceSub, Nat.reduceLT, Nat.reduceGT, Nat.reduceLeDiff, Nat.reduceEqDiff, Int.reduceToNat, Int.reduceAdd, Int.reduceMul, Int.reduceSub, Int.reduceNeg, Int.reduceLT, Int.reduceLE, Int.reduceEq, Nat.zero_add, Nat.add_zero, Nat.mul_one, eq_self, ne_eq, not_true, not_false_iff, and_true, true_and, and_self, List.getElem?_cons_zero, List.getElem?_cons_succ, List.map_cons, List.map_nil, wrap64, dec_lt, dec_nlt, dec_le, dec_nle, dec_eq, dec_ne, if_pos, if_neg, Int.natCast_add, Int.natCast_one, Int.natCast_zero, Int.toNat_natCast]
  | succ n IH =>
    intro z G hz hd hv hp hr'
    obtain ⟨c, hc⟩ := bits_msg (mon_nodup hm hr) hz hd
    have hrd := own_rd hr' hz
    rw [hc] at hrd
    obtain ⟨o2, G1, p1, ho2, q1, e1⟩ := rword_call (r := r) (by omega) hm hNe hrd
    have e2 := rapart_call hm hNe (own_rd q1 (wl_len _ _)) (hw.mono (hp.trans p1))
    have hN := two_le hm
    obtain ⟨G2, k1, k2, k3, k4, e3⟩ := next_call ho hz (by have := mon_len_le (r := r) (m := m) (by omega) hm; omega) (q := 2) (by omega) hd (hp.trans p1) (row_keep hr' p1)
    have hnv := nextS_val (q := 2) (by omega) hd
    rw [show ((2 : Nat) : Int) = 2 from rfl] at hnv
    have hb : (nextS 2 z).2 = true := by
      cases hb : (nextS 2 z).2 with
      | true => rfl
      | false =>
        have h1 := hnv.2
        rw [hb, if_neg Bool.false_ne_true, hz] at h1
        omega
    have h1 := hnv.2
    rw [hb, if_pos rfl] at h1
    rw [hb] at e3
    obtain ⟨G', k5⟩ := IH (nextS 2 z).1 G2 (by rw [nextS_len, hz]) hnv.1 (by omega) k1 k2
    refine ⟨G', fun ks => ?_⟩
    obtain ⟨K, hK⟩ : ∃ K, K = m - r := ⟨_, rfl⟩
    have hmr : (m : Int) - (r : Int) = (K : Int) := by omega
    have hs2 := shl_is (m := K) (by omega)
    have hN2 := two_le (m := K) (by omega)
    have hn := hno c
    have hoff : offB m (wordB r m c) f ≤ N := by
      unfold offB
      have := List.length_filter_le (fun x => wordB r m c x ^^ f x) (List.range (2 ^ m))
      rw [List.length_range] at this; omega
    rw [← hNe] at hN
    obtain ⟨D, hD⟩ : ∃ D, D = 2 ^ K := ⟨_, rfl⟩
    rw [← hK, ← hD] at hn
    rw [← hD] at hs2 hN2
    obtain ⟨O, hO⟩ : ∃ O, O = offB m (wordB r m c) f := ⟨_, rfl⟩
    rw [← hO] at hoff e2 hn
    rw [goL_at c19L0.eq_def, ← k5 ks]
    simp (disch := first | omega | (simp only [Go.Am.len_push, Go.Am.len_set, Go.Am.len_kill] <;> omega) | fail) only [push_cast, Nat.reduceBEq, Nat.reduceAdd, Nat.reduceMul, Nat.reduceSub, Nat.reduceLT, Nat.reduceGT, Nat.reduceLeDiff, Nat.reduceEqDiff, Int.reduceToNat, Int.reduceAdd, Int.reduceMul, Int.reduceSub, Int.reduceNeg, Int.reduceLT, Int.reduceLE, Int.reduceEq, Nat.zero_add, Nat.add_zero, Nat.mul_one, eq_self, ne_eq, not_true, not_false_iff, and_true, true_and, and_self, List.getElem?_cons_zero, List.getElem?_cons_succ, List.map_cons, List.map_nil, wrap64, dec_lt, dec_nlt, dec_le, dec_nle, dec_eq, dec_ne, if_pos, if_neg, Int.natCast_add, Int.natCast_one, Int.natCast_zero, Int.toNat_natCast, e1, e2, hmr, hs2, e3]
theorem near_call {h : H} (hr : r ≤ m) (hm : m ≤ 5) (hNe : N = 2 ^ m) (hw : RdI h sw cw (wl N f)) (hno : ∀ c : Nat → Bool, ¬ 2 * offB m (wordB r m c) f < 2 ^ (m - r)) : ∃ h' : H, call T 19 [.int .i64 r, .int .i64 m, .slice sw N cw] h = some (.tuple #[.slice none 0 0, .int .i64 0, .bool false], h') := by
  obtain ⟨sl, cl, h1, p1, g1, e1⟩ := rmon_call (h := h) (r := r) (by omega) hm
  obtain ⟨L, hL⟩ : ∃ L, L = (monN r m).length := ⟨_, rfl⟩
  have hll := mon_len_le (r := r) (m := m) (by omega) hm
  obtain ⟨G1, eG1, p2, q1, g2⟩ := own_mk h1 (monN r m).length 0
  have hz : ∀ (k : Nat), valS 2 (List.replicate k 0) = 0 := by
    intro k
    induction k with
    | zero => rfl
    | succ k ih => rw [List.replicate_succ, valS, ih]; simp
  obtain ⟨G', k⟩ := near_loop hr hm hNe (hw.mono p1) hno (o := h1.length) (hF := h1) (Nat.le_refl _) (2 ^ (monN r m).length - 1) (List.replicate (monN r m).length 0) G1 (by simp) (fun a ha => by rw [List.eq_of_mem_replicate ha]; omega) (by rw [hz]; have := two_pos' (monN r m).length; omega) p2 q1
  refine ⟨G', ?_⟩
  rw [← hL] at e1 eG1 k hll
  rw [call_at T19 rfl]
  unfold F19 c19
  simp (disch := first | omega | (simp only [Go.Am.len_push, Go.Am.len_set, Go.Am.len_kill] <;> omega) | fail) only [push_cast, Nat.reduceBEq, Nat.reduceAdd, Nat.reduceMul, Nat.reduceSub, Nat.reduceLT, Nat.reduceGT, Nat.reduceLeDiff, Nat.reduceEqDiff, Int.reduceToNat, Int.reduceAdd, Int.reduceMul, Int.reduceSub, Int.reduceNeg, Int.reduceLT, Int.reduceLE, Int.reduceEq, Nat.zero_add, Nat.add_zero, Nat.mul_one, eq_self, ne_eq, not_true, not_false_iff, and_true, true_and, and_self, List.getElem?_cons_zero, List.getElem?_cons_succ, List.map_cons, List.map_nil, wrap64, dec_lt, dec_nlt, dec_le, dec_nle, dec_eq, dec_ne, if_pos, if_neg, Int.natCast_add, Int.natCast_one, Int.natCast_zero, Int.toNat_natCast, e1, eG1]
  rw [k]
  simp (disch := first | omega | (simp only [Go.Am.len_push, Go.Am.len_set, Go.Am.len_kill] <;> omega) | fail) only [push_cast, Nat.reduceBEq, Nat.reduceAdd, Nat.reduceMul, Nat.reduceSub, Nat.reduceLT, Nat.reduceGT, Nat.reduceLeDiff, Nat.reduceEqDiff, Int.reduceToNat, Int.reduceAdd, Int.reduceMul, Int.reduceSub, Int.reduceNeg, Int.reduceLT, Int.reduceLE, Int.reduceEq, Nat.zero_add, Nat.add_zero, Nat.mul_one, eq_self, ne_eq, not_true, not_false_iff, and_true, true_and, and_self, List.getElem?_cons_zero, List.getElem?_cons_succ, List.map_cons, List.map_nil]
end
end Go.Proofs.Ytammndhoillliaa
namespace Go.Proofs.Ytammndhoillliaa
open Go.Am
set_option linter.unusedVariables false
set_option linter.unusedSimpArgs false
set_option maxRecDepth 30000

theorem offB_comm (m : Nat) (a b : Nat → Bool) : offB m a b = offB m b a := by
  unfold offB
  refine congrArg List.length (List.filter_congr fun x _ => ?_)
  rw [Bool.xor_comm]
theorem off_near {r m : Nat} (hm : m ≤ 5) (hr : r ≤ m) (f c : Nat → Bool) (he : 2 * offB m (wordB r m c) f < 2 ^ (m - r)) : offD r m f = offB m (wordB r m c) f := by
  have h1 := near_end hm hr f c (by rw [offB_comm]; exact he)
  rw [← off_left (r := r) (m := m) (f := f) rfl]
  unfold offB
  refine congrArg List.length (List.filter_congr fun x _ => ?_)
  rw [h1, Bool.xor_comm]
theorem out_bad (w : List Int) : w.any (outB false) = anyBad w := by
  unfold anyBad
  congr 1
  funext v
  unfold outB
  rw [if_neg (by decide)]
  by_cases h0 : v = 0
  · subst h0; rfl
  · by_cases h1 : v = 1
    · subst h1; rfl
    · rw [decide_eq_false h0, decide_eq_false h1]
      by_cases h2 : v < 0
      · rw [decide_eq_true h2]; rfl
      · rw [decide_eq_true (show 1 < v by omega), Bool.or_true]; rfl
theorem wl_of {w : List Int} {N : Nat} (hN : w.length = N) (hb : anyBad w = false) : w = wl N fun x => decide (gi w (x : Nat) = 1) := by
  refine gi_ext (by rw [wl_len, hN]) fun i hi => ?_
  rw [gi_wl _ (by omega)]
  unfold anyBad at hb
  have := List.any_eq_false.1 hb _ (gi_mem (zs := w) (i := (i : Int)) (by omega) (by omega))
  by_cases h1 : gi w i = 1
  · rw [decide_eq_true h1, h1]; rfl
  · rw [decide_eq_false h1]
    simp [h1] at this
    rw [this]; rfl
theorem bad_msg (l : List Nat) (c : Nat → Bool) : anyBad (msg l c) = false := by
  unfold anyBad msg
  rw [List.any_eq_false]
  intro v hv
  obtain ⟨s, _, rfl⟩ := List.mem_map.1 hv
  cases c s <;> simp [bI]
theorem muller_law (h : H) (r : Int) (hr1 : -9223372036854775808 ≤ r) (hr2 : r ≤ 9223372036854775807) (m : Int) (hm1 : -9223372036854775808 ≤ m) (hm2 : m ≤ 9223372036854775807)
    (sa : Option Addr) (c : Nat) (w : List Int) (hw : RdI h sa c w) (hu : unitOk h 1 sa = true) (hl : w.length ≤ 9223372036854775807) : ∃ h' : H, call T 3 [.int .i64 r, .int .i64 m, .slice sa w.length c] h = some (.bool true, h') := by
  by_cases h100 : 100 < w.length
  · refine ⟨h, ?_⟩
    rw [call_at T3 rfl]
    unfold F3 c3
    simp (disch := first | omega | (simp only [Go.Am.len_push, Go.Am.len_set, Go.Am.len_kill] <;> omega) | fail) only [push_cast, Nat.reduceBEq, Nat.reduceAdd, Nat.reduceMul, Nat.reduceSub, Nat.reduceLT, Nat.reduceGT, Nat.reduceLeDiff, Nat.reduceEqDiff, Int.reduceToNat, Int.reduceAdd, Int.reduceMul, Int.reduceSub, Int.reduceNeg, Int.reduceLT, Int.reduceLE, Int.reduceEq, Nat.zero_add, Nat.add_zero, Nat.mul_one, eq_self, ne_eq, not_true, not_false_iff, and_true, true_and, and_self, List.getElem?_cons_zero, List.getElem?_cons_succ, List.map_cons, List.map_nil, wrap64, dec_lt, dec_nlt, dec_le, dec_nle, dec_eq, dec_ne, if_pos, if_neg, Int.natCast_add, Int.natCast_one, Int.natCast_zero, Int.toNat_natCast]
  have e0 := rchk0_call (h := h) r m
  have e1 := bits_call hw hl false
  rw [out_bad] at e1
  by_cases he : mulE r m w = 0
  · obtain ⟨b0, b1, b2⟩ := mulE_ok he
    obtain ⟨k1, k2, k3, k4⟩ := mulE0_ok b0
    obtain ⟨M, rfl⟩ : ∃ M : Nat, m = M := ⟨m.toNat, by omega⟩
    obtain ⟨R, rfl⟩ : ∃ R : Nat, r = R := ⟨r.toNat, by omega⟩
    rw [Int.toNat_natCast] at b1
    have hsh := shl_is (m := M) (by omega)
    obtain ⟨N, hN⟩ : ∃ N, N = 2 ^ M := ⟨_, rfl⟩
    rw [← hN] at b1 hsh
    obtain ⟨f, hf⟩ : ∃ f : Nat → Bool, f = fun x => decide (gi w (x : Nat) = 1) := ⟨_, rfl⟩
    have hwf := wl_of b1 b2
    rw [← hf] at hwf
    have hw' := hw
    rw [hwf] at hw'
    have hbf := b2
    rw [hwf] at hbf
    obtain ⟨o, h1, p1, q1, e2⟩ := pdec_ok (r := R) (m := M) (by omega) (by omega) hN hw' hbf (by omega)
    rw [b0] at e0
    rw [b2, b1] at e1
    obtain ⟨sl, cl, h2, p2, g2, e3⟩ := rmon_call (h := h1) (r := R) (m := M) (by omega) (by omega)
    have hll := mon_len_le (r := R) (m := M) (by omega) (by omega)
    obtain ⟨K, hK⟩ : ∃ K, K = M - R := ⟨_, rfl⟩
    have hmr : (M : Int) - (R : Int) = (K : Int) := by omega
    have hs2 := shl_is (m := K) (by omega)
    have hN2 := two_le (m := K) (by omega)
    by_cases hlt : 2 * offD R M f < 2 ^ (M - R)
    · rw [if_pos hlt] at e2
      have hm2 := own_rd (row_keep q1 p2) (msg_len _ _)
      have e4 := bits_call (own_rd (row_keep q1 p2) rfl) (by rw [msg_len]; omega) false
      rw [out_bad, bad_msg, msg_len] at e4
      obtain ⟨o3, h3, p3, _, q3, e5⟩ := rword_call (r := R) (by omega) (by omega) hN hm2
      have e6 := rapart_call (by omega) hN (own_rd q3 (wl_len _ _)) (hw'.mono (p1.trans (p2.trans p3)))
      have hd : offB M (wordB R M (coefB R M f)) f = offD R M f := rfl
      rw [hd] at e6
      have hoff : offD R M f ≤ N := by
        unfold offD offB
        have := List.length_filter_le (fun x => wordB R M (coefB R M f) x ^^ f x) (List.range (2 ^ M))
        rw [List.length_range] at this; omega
      have hN3 := two_le (m := M) (by omega)
      rw [← hN] at hN3
      rw [← hK] at hlt
      obtain ⟨D, hD⟩ : ∃ D, D = 2 ^ K := ⟨_, rfl⟩
      rw [← hD] at hlt hs2 hN2
      obtain ⟨O, hO⟩ : ∃ O, O = offD R M f := ⟨_, rfl⟩
      rw [← hO] at e2 e6 hoff hlt
      obtain ⟨L, hL⟩ : ∃ L, L = (monN R M).length := ⟨_, rfl⟩
      rw [← hL] at e2 e3 e4 e5 hll
      refine ⟨h3, ?_⟩
      rw [b1, call_at T3 rfl]
      unfold F3 c3
      simp (disch := first | omega | (simp only [Go.Am.len_push, Go.Am.len_set, Go.Am.len_kill] <;> omega) | fail) only [push_cast, Nat.reduceBEq, Nat.reduceAdd, Nat.reduceMul, Nat.reduceSub, Nat.reduceLT, Nat.reduceGT, Nat.reduceLeDiff, Nat.reduceEqDiff, Int.reduceToNat, Int.reduceAdd, Int.reduceMul, Int.reduceSub, Int.reduceNeg, Int.reduceLT, Int.reduceLE, Int.reduceEq, Nat.zero_add, Nat.add_zero, Nat.mul_one, eq_self, ne_eq, not_true, not_false_iff, and_true, true_and, and_self, List.getElem?_cons_zero, List.getElem?_cons_succ, List.map_cons, List.map_nil, wrap64, dec_lt, dec_nlt, dec_le, dec_nle, dec_eq, dec_ne, if_pos, if_neg, Int.natCast_add, Int.natCast_one, Int.natCast_zero, Int.toNat_natCast, e0, hsh, e1, e2, e3, e4, e5, e6, hmr, hs2]
    · rw [if_neg hlt] at e2
      have hno : ∀ c : Nat → Bool, ¬ 2 * offB M (wordB R M c) f < 2 ^ (M - R) := fun c hc => by
        rw [off_near (by omega) (by omega) f c hc] at hlt; exact hlt hc
      obtain ⟨h3, e4⟩ := near_call (h := h2) (by omega) (by omega) hN (hw'.mono (p1.trans p2)) hno
      obtain ⟨L, hL⟩ : ∃ L, L = (monN R M).length := ⟨_, rfl⟩
      rw [← hL] at e3 hll
      by_cases h11 : 11 < L
      · refine ⟨h2, ?_⟩
        rw [b1, call_at T3 rfl]
        unfold F3 c3
        simp (disch := first | omega | (simp only [Go.Am.len_push, Go.Am.len_set, Go.Am.len_kill] <;> omega) | fail) only [push_cast, Nat.reduceBEq, Nat.reduceAdd, Nat.reduceMul, Nat.reduceSub, Nat.reduceLT, Nat.reduceGT, Nat.reduceLeDiff, Nat.reduceEqDiff, Int.reduceToNat, Int.reduceAdd, Int.reduceMul, Int.reduceSub, Int.reduceNeg, Int.reduceLT, Int.reduceLE, Int.reduceEq, Nat.zero_add, Nat.add_zero, Nat.mul_one, eq_self, ne_eq, not_true, not_false_iff, and_true, true_and, and_self, List.getElem?_cons_zero, List.getElem?_cons_succ, List.map_cons, List.map_nil, wrap64, dec_lt, dec_nlt, dec_le, dec_nle, dec_eq, dec_ne, if_pos, if_neg, Int.natCast_add, Int.natCast_one, Int.natCast_zero, Int.toNat_natCast, e0, hsh, e1, e2, e3]
      · refine ⟨h3, ?_⟩
        rw [b1, call_at T3 rfl]
        unfold F3 c3
        simp (disch := first | omega | (simp only [Go.Am.len_push, Go.Am.len_set, Go.Am.len_kill] <;> omega) | fail) only [push_cast, Nat.reduceBEq, Nat.reduceAdd, Nat.reduceMul, Nat.reduceSub, Nat.reduceLT, Nat.reduceGT, Nat.reduceLeDiff, Nat.reduceEqDiff, Int.reduceToNat, Int.reduceAdd, Int.reduceMul, Int.reduceSub, Int.reduceNeg, Int.reduceLT, Int.reduceLE, Int.reduceEq, Nat.zero_add, Nat.add_zero, Nat.mul_one, eq_self, ne_eq, not_true, not_false_iff, and_true, true_and, and_self, List.getElem?_cons_zero, List.getElem?_cons_succ, List.map_cons, List.map_nil, wrap64, dec_lt, dec_nlt, dec_le, dec_nle, dec_eq, dec_ne, if_pos, if_neg, Int.natCast_add, Int.natCast_one, Int.natCast_zero, Int.toNat_natCast, e0, hsh, e1, e2, e3, e4]
  · have e2 := pdec_bad hw hl he
    refine ⟨h, ?_⟩
    rw [call_at T3 rfl]
    unfold F3 c3
    unfold mulE at he e2
    by_cases h0 : mulE0 r m = 0
    · rw [if_neg (by simpa using h0)] at he e2
      obtain ⟨k1, k2, k3, k4⟩ := mulE0_ok h0
      obtain ⟨M, rfl⟩ : ∃ M : Nat, m = M := ⟨m.toNat, by omega⟩
      rw [Int.toNat_natCast] at he e2
      have hsh := shl_is (m := M) (by omega)
      obtain ⟨N, hN⟩ : ∃ N, N = 2 ^ M := ⟨_, rfl⟩
      rw [← hN] at hsh he e2
      rw [h0] at e0
      by_cases h1 : (w.length : Int) = (N : Int)
      · rw [if_neg (by simpa using h1)] at he e2
        have h1' : w.length = N := by omega
        by_cases h2 : anyBad w = true
        · rw [if_pos h2] at e2
          rw [h2] at e1
          rw [h1'] at e1 e2 ⊢
          simp (disch := first | omega | (simp only [Go.Am.len_push, Go.Am.len_set, Go.Am.len_kill] <;> omega) | fail) only [push_cast, Nat.reduceBEq, Nat.reduceAdd, Nat.reduceMul, Nat.reduceSub, Nat.reduceLT, Nat.reduceGT, Nat.reduceLeDiff, Nat.reduceEqDiff, Int.reduceToNat, Int.reduceAdd, Int.reduceMul, Int.reduceSub, Int.reduceNeg, Int.reduceLT, Int.reduceLE, Int.reduceEq, Nat.zero_add, Nat.add_zero, Nat.mul_one, eq_self, ne_eq, not_true, not_false_iff, and_true, true_and, and_self, List.getElem?_cons_zero, List.getElem?_cons_succ, List.map_cons, List.map_nil, wrap64, dec_lt, dec_nlt, dec_le, dec_nle, dec_eq, dec_ne, if_pos, if_neg, Int.natCast_add, Int.natCast_one, Int.natCast_zero, Int.toNat_natCast, e0, hsh, e1, e2]
        · rw [if_neg h2] at he; exact absurd rfl he
      · rw [if_pos h1] at e2
        simp (disch := first | omega | (simp only [Go.Am.len_push, Go.Am.len_set, Go.Am.len_kill] <;> omega) | fail) only [push_cast, Nat.reduceBEq, Nat.reduceAdd, Nat.reduceMul, Nat.reduceSub, Nat.reduceLT, Nat.reduceGT, Nat.reduceLeDiff, Nat.reduceEqDiff, Int.reduceToNat, Int.reduceAdd, Int.reduceMul, Int.reduceSub, Int.reduceNeg, Int.reduceLT, Int.reduceLE, Int.reduceEq, Nat.zero_add, Nat.add_zero, Nat.mul_one, eq_self, ne_eq, not_true, not_false_iff, and_true, true_and, and_self, List.getElem?_cons_zero, List.getElem?_cons_succ, List.map_cons, List.map_nil, wrap64, dec_lt, dec_nlt, dec_le, dec_nle, dec_eq, dec_ne, if_pos, if_neg, Int.natCast_add, Int.natCast_one, Int.natCast_zero, Int.toNat_natCast, e0, hsh, dec_ne h1, e2]
    · rw [if_pos h0] at e2
      simp (disch := first | omega | (simp only [Go.Am.len_push, Go.Am.len_set, Go.Am.len_kill] <;> omega) | fail) only [push_cast, Nat.reduceBEq, Nat.reduceAdd, Nat.reduceMul, Nat.reduceSub, Nat.reduceLT, Nat.reduceGT, Nat.reduceLeDiff, Nat.reduceEqDiff, Int.reduceToNat, Int.reduceAdd, Int.reduceMul, Int.reduceSub, Int.reduceNeg, Int.reduceLT, Int.reduceLE, Int.reduceEq, Nat.zero_add, Nat.add_zero, Nat.mul_one, eq_self, ne_eq, not_true, not_false_iff, and_true, true_and, and_self, List.getElem?_cons_zero, List.getElem?_cons_succ, List.map_cons, List.map_nil, wrap64, dec_lt, dec_nlt, dec_le, dec_nle, dec_eq, dec_ne, if_pos, if_neg, Int.natCast_add, Int.natCast_one, Int.natCast_zero, Int.toNat_natCast, e0, dec_ne h0, e2]
end Go.Proofs.Ytammndhoillliaa
