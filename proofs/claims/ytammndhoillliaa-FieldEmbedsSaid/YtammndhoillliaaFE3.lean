/-
  What syndromeref's Embed computes. No condition.
-/
import Derived.Test.YtammndhoillliaaFE2
import Derived.Test.YtammndhoillliaaSame
namespace Go.Proofs.Ytammndhoillliaa
open Go.Am
set_option linter.unusedVariables false
set_option linter.unusedSimpArgs false
set_option maxRecDepth 30000

section
variable {q p : Int} {m : Nat} {g : Int} {mod : List Int} {om cm : Nat} {s p' : Int} {m' : Nat} {g' : Int} {mod' : List Int} {om' cm' : Nat} {B B' : Nat} {h1 : H}
theorem rroot_loop (u : RUse h1 q p m g mod om cm) (hB : h1.row B = some ⟨fvL q p m g (.slice (some ⟨om, 0, none⟩) mod.length cm), 67, 0, true⟩)
    (v : RUse h1 s p' m' g' mod' om' cm') (hB' : h1.row B' = some ⟨fvL s p' m' g' (.slice (some ⟨om', 0, none⟩) mod'.length cm'), 67, 0, true⟩) (hm2 : 1 < m) (hs3 : 3 ≤ s) (hst : 1 ≤ (s - 1) / (q - 1) ∧ (s - 1) / (q - 1) ≤ 64) :
    ∀ (n : Nat) (j r : Int) (G : H), 1 ≤ j → j + n ≤ 1000 → rootN s ((s - 1) / (q - 1)) mod n j = some r → h1 <+: G →
    ∃ G' : H, h1 <+: G' ∧ ∀ ks, goL T [.tmp 4, .tmp 5] [0, 6, 8, 9, 10] c38L0 (.blk 0 [0, 6, 8, 9] :: ks) [(0, .int .i64 q), (6, .pointer (some ⟨B, 0, none⟩)), (8, .pointer (some ⟨B', 0, none⟩)), (9, .int .i64 0), (10, .int .i64 j)] G =
      go T [.tmp 4, .tmp 5] ks (Fr.of [(0, .int .i64 q), (6, .pointer (some ⟨B, 0, none⟩)), (8, .pointer (some ⟨B', 0, none⟩)), (9, .int .i64 r)]) G'
  | 0, j, r, G, hj, hjn, he, hp => by cases he
  | n + 1, j, r, G, hj, hjn, he, hp => by
    rw [rootN] at he
    have q2 := u.ok.q2
    have q64 := u.ok.q64
    have s64 := v.ok.q64
    have hml := u.ok.ml
    have hm10 := u.ok.m10
    have hN : ¬ q - 1 = 0 := by omega
    have hN0 : ¬ s - 1 = 0 := by omega
    have hmi2 : (1 : Int) < (m : Int) := by omega
    have qd : (s - 1).tdiv (q - 1) = (s - 1) / (q - 1) := Int.tdiv_eq_ediv_of_nonneg (by omega)
    obtain ⟨st, hstd⟩ : ∃ st, st = (s - 1) / (q - 1) := ⟨_, rfl⟩
    rw [← hstd] at he hst qd
    have hjs : 1 * 1 ≤ j * st := Int.mul_le_mul hj hst.1 (by omega) (by omega)
    have hjs2 : j * st ≤ 1000 * 64 := Int.mul_le_mul (by omega) (by omega) (by omega) (by omega)
    have b2 : G.ld1 B 2 = some (.int .i64 m) := ld1_at (row_pre hB hp) rfl
    have b0 : G.ld1 B 0 = some (.int .i64 q) := ld1_at (row_pre hB hp) rfl
    have c0 : G.ld1 B' 0 = some (.int .i64 s) := ld1_at (row_pre hB' hp) rfl
    have c3 : G.ld1 B' 3 = some (.int .i64 g') := ld1_at (row_pre hB' hp) rfl
    have l1 := lds_all (row_pre hB' hp) (n := 5) rfl
    obtain ⟨G1, p1, ep⟩ := rpow_call (v.mono hp) g' (j * st)
    have hx : fpow s g' (j * st) = fexp s (j * st % (s - 1)) := by
      have hg := v.gen
      rw [fpow, fok_t ⟨by omega, hg.2⟩, show (g' == 0) = false by simp; omega, show (j * st == 0) = false by simp; omega]
      show fexp s (flog s g' * (j * st % (s - 1)) % (s - 1)) = _
      rw [v.tabs.lg, Int.emod_eq_of_lt (a := 1) (by omega) (by omega), Int.one_mul, Int.emod_emod_of_dvd _ (Int.dvd_refl _)]
    rw [hx] at ep
    obtain ⟨x, hxd⟩ : ∃ x, x = fexp s (j * st % (s - 1)) := ⟨_, rfl⟩
    rw [← hxd] at ep he
    have l2 := lds_all (row_pre hB' (hp.trans p1)) (n := 5) rfl
    have b4 : G1.ld1 B 4 = some (.slice (some ⟨om, 0, none⟩) mod.length cm) := ld1_at (row_pre hB (hp.trans p1)) rfl
    obtain ⟨G2, p2, ev⟩ := rvalue_call (v.mono (hp.trans p1)) (u.mono (hp.trans p1)).rm (by omega) x
    have hd : decide (B < G.length) = true := decide_eq_true (row_some_lt (row_pre hB hp))
    have hd' : decide (B' < G.length) = true := decide_eq_true (row_some_lt (row_pre hB' hp))
    have hz : (0 : Int) = 0 := rfl
    by_cases hv0 : fvalue s x mod = 0
    · rw [decide_eq_true hv0, cond_true] at he
      cases he
      have hxr := exp_ok v.tabs (by omega) (j * st)
      rw [← hxd] at hxr
      have hx0 : ¬ r = 0 := by omega
      have b22 : G2.ld1 B 2 = some (.int .i64 m) := ld1_at (row_pre hB ((hp.trans p1).trans p2)) rfl
      refine ⟨G2, (hp.trans p1).trans p2, fun ks => ?_⟩
      rw [goL_at c38L0.eq_def]
      simp (disch := first | omega | (simp only [Go.Am.len_push, Go.Am.len_set, Go.Am.len_kill] <;> omega) | fail) only [push_cast, Nat.reduceBEq, Nat.reduceAdd, Nat.reduceMul, Nat.reduceSub, Nat.reduceLT, Nat.reduceGT, Nat.reduceLeDiff, Nat.reduceEqDiff, Int.reduceToNat, Int.reduceAdd, Int.reduceMul, Int.reduceSub, Int.reduceNeg, Int.reduceLT, Int.reduceLE, Int.reduceEq, Nat.zero_add, Nat.add_zero, Nat.mul_one, eq_self, ne_eq, not_true, not_false_iff, and_true, true_and, and_self, List.getElem?_cons_zero, List.getElem?_cons_succ, List.map_cons, List.map_nil, b2, dec_lt hmi2, dec_eq hz, l1, c3, c0, b0, wrap64, hN, qd, ep, behind_true p1, hd, hd', l2, b4, ev, dec_eq hv0]
      rw [goL_at c38L0.eq_def]
      simp (disch := first | omega | (simp only [Go.Am.len_push, Go.Am.len_set, Go.Am.len_kill] <;> omega) | fail) only [push_cast, Nat.reduceBEq, Nat.reduceAdd, Nat.reduceMul, Nat.reduceSub, Nat.reduceLT, Nat.reduceGT, Nat.reduceLeDiff, Nat.reduceEqDiff, Int.reduceToNat, Int.reduceAdd, Int.reduceMul, Int.reduceSub, Int.reduceNeg, Int.reduceLT, Int.reduceLE, Int.reduceEq, Nat.zero_add, Nat.add_zero, Nat.mul_one, eq_self, ne_eq, not_true, not_false_iff, and_true, true_and, and_self, List.getElem?_cons_zero, List.getElem?_cons_succ, List.map_cons, List.map_nil, b22, dec_lt hmi2, dec_ne hx0]
    · rw [decide_eq_false hv0, cond_false] at he
      rw [hstd] at he
      obtain ⟨G3, p3, ih⟩ := rroot_loop u hB v hB' hm2 hs3 (by rw [← hstd]; exact hst) n (j + 1) r G2 (by omega) (by omega) he ((hp.trans p1).trans p2)
      refine ⟨G3, p3, fun ks => ?_⟩
      rw [← ih ks, goL_at c38L0.eq_def]
      simp (disch := first | omega | (simp only [Go.Am.len_push, Go.Am.len_set, Go.Am.len_kill] <;> omega) | fail) only [push_cast, Nat.reduceBEq, Nat.reduceAdd, Nat.reduceMul, Nat.reduceSub, Nat.reduceLT, Nat.reduceGT, Nat.reduceLeDiff, Nat.reduceEqDiff, Int.reduceToNat, Int.reduceAdd, Int.reduceMul, Int.reduceSub, Int.reduceNeg, Int.reduceLT, Int.reduceLE, Int.reduceEq, Nat.zero_add, Nat.add_zero, Nat.mul_one, eq_self, ne_eq, not_true, not_false_iff, and_true, true_and, and_self, List.getElem?_cons_zero, List.getElem?_cons_succ, List.map_cons, List.map_nil, b2, dec_lt hmi2, dec_eq hz, l1, c3, c0, b0, wrap64, hN, qd, ep, behind_true p1, hd, hd', l2, b4, ev, dec_ne hv0]

theorem remb_loop (u : RUse h1 q p m g mod om cm) (hB : h1.row B = some ⟨fvL q p m g (.slice (some ⟨om, 0, none⟩) mod.length cm), 67, 0, true⟩)
    (v : RUse h1 s p' m' g' mod' om' cm') (hB' : h1.row B' = some ⟨fvL s p' m' g' (.slice (some ⟨om', 0, none⟩) mod'.length cm'), 67, 0, true⟩) (r : Int) :
    ∀ (n a : Nat) (zs : List Int) (sa : Option Addr) (c : Nat) (G : H), (a : Int) + n = q → zs.length = a → h1 <+: G → Grown G sa c zs h1.length →
    ∃ (sa' : Option Addr) (c' : Nat) (G' : H), h1 <+: G' ∧ Grown G' sa' c' (zs ++ embN s r p m n a) h1.length ∧
      ∀ ks, goL T [.tmp 4, .tmp 5] [0, 6, 8, 9, 12, 13] c38L1 (.blk 2 [12] :: ks) [(0, .int .i64 q), (6, .pointer (some ⟨B, 0, none⟩)), (8, .pointer (some ⟨B', 0, none⟩)), (9, .int .i64 r), (12, .slice sa zs.length c), (13, .int .i64 a)] G =
        go T [.tmp 4, .tmp 5] ks (Fr.of [(12, .slice sa' (zs ++ embN s r p m n a).length c')]) G'
  | 0, a, zs, sa, c, G, ha, hz, hp, hg => by
    refine ⟨sa, c, G, hp, by rw [embN, List.append_nil]; exact hg, fun ks => ?_⟩
    rw [goL_at c38L1.eq_def]
    have : q ≤ (a : Int) := by omega
    simp (disch := first | omega | (simp only [Go.Am.len_push, Go.Am.len_set, Go.Am.len_kill] <;> omega) | fail) only [push_cast, Nat.reduceBEq, Nat.reduceAdd, Nat.reduceMul, Nat.reduceSub, Nat.reduceLT, Nat.reduceGT, Nat.reduceLeDiff, Nat.reduceEqDiff, Int.reduceToNat, Int.reduceAdd, Int.reduceMul, Int.reduceSub, Int.reduceNeg, Int.reduceLT, Int.reduceLE, Int.reduceEq, Nat.zero_add, Nat.add_zero, Nat.mul_one, eq_self, ne_eq, not_true, not_false_iff, and_true, true_and, and_self, List.getElem?_cons_zero, List.getElem?_cons_succ, List.map_cons, List.map_nil, dec_nlt, embN, List.append_nil]
  | n + 1, a, zs, sa, c, G, ha, hz, hp, hg => by
    have q64 := u.ok.q64
    have hp2 := u.ok.p2
    have hm10 := u.ok.m10
    have hm1 := u.ok.m1
    have b1 : G.ld1 B 1 = some (.int .i64 p) := ld1_at (row_pre hB hp) rfl
    have b2 : G.ld1 B 2 = some (.int .i64 m) := ld1_at (row_pre hB hp) rfl
    have l1 := lds_all (row_pre hB' hp) (n := 5) rfl
    have hd : decide (B < G.length) = true := decide_eq_true (row_some_lt (row_pre hB hp))
    have hd' : decide (B' < G.length) = true := decide_eq_true (row_some_lt (row_pre hB' hp))
    obtain ⟨sx, cx, G1, ed, p1, gx⟩ := digits_call (a : Int) p m G (by omega) (by omega) (by omega) (by omega)
    have hdl := digs_len p m (a : Int)
    obtain ⟨ox, fx, rfl, _, _⟩ := gx.rd.addr (by omega)
    obtain ⟨G2, p2, ev⟩ := rvalue_call (v.mono (hp.trans p1)) gx.rd (by omega) r
    rw [hdl] at ev
    obtain ⟨w, hw⟩ : ∃ w, w = fvalue s r (digs p m a) := ⟨_, rfl⟩
    rw [← hw] at ev
    have hg2 : Grown G2 sa c zs h1.length := hg.carry (fun o _ ho => row_prefix (p1.trans p2) ho)
    obtain ⟨sa3, G3, ea, hg3, _, _, hpre⟩ := hg2.one (y := w) (by omega) (pre_len ((hp.trans p1).trans p2))
    obtain ⟨sa4, c4, G4, p4, hg4, ih⟩ := remb_loop u hB v hB' r n (a + 1) (zs ++ [w]) sa3 (zs.length + 1) G3 (by omega) (by simp; omega) (hpre h1 (Nat.le_refl _) ((hp.trans p1).trans p2)) hg3
    have he : zs ++ embN s r p m (n + 1) a = zs ++ [w] ++ embN s r p m n (a + 1) := by rw [embN, hw]; simp
    refine ⟨sa4, c4, G4, p4, by rw [he]; exact hg4, fun ks => ?_⟩
    have ih' := ih ks
    rw [Int.natCast_add, Int.natCast_one] at ih'
    have hlen : (zs ++ [w]).length = zs.length + 1 := by simp
    have hi3 : (a : Int) < q := by omega
    rw [he, ← ih', goL_at c38L1.eq_def]
    simp (disch := first | omega | (simp only [Go.Am.len_push, Go.Am.len_set, Go.Am.len_kill] <;> omega) | fail) only [push_cast, Nat.reduceBEq, Nat.reduceAdd, Nat.reduceMul, Nat.reduceSub, Nat.reduceLT, Nat.reduceGT, Nat.reduceLeDiff, Nat.reduceEqDiff, Int.reduceToNat, Int.reduceAdd, Int.reduceMul, Int.reduceSub, Int.reduceNeg, Int.reduceLT, Int.reduceLE, Int.reduceEq, Nat.zero_add, Nat.add_zero, Nat.mul_one, eq_self, ne_eq, not_true, not_false_iff, and_true, true_and, and_self, List.getElem?_cons_zero, List.getElem?_cons_succ, List.map_cons, List.map_nil, dec_lt, l1, b1, b2, ed, behind_true p1, hd, hd', ev, ea, hlen, wrap64]
end

theorem rembed_call (q s : Int) (h : H) : ∃ (sa : Option Addr) (c : Nat) (h' : H), h <+: h' ∧ RdI h' sa c (embP q s).2 ∧ call T 38 [.int .i64 q, .int .i64 s] h = some (.tuple #[.slice sa (embP q s).2.length c, .int .i64 (embP q s).1], h') := by
  cases hn : fldN q.toNat with
  | none =>
    have he : embP q s = (1, []) := by unfold embP; rw [hn]
    obtain ⟨h1, p1, e1⟩ := field_none q hn h
    obtain ⟨h2, eh2⟩ : ∃ h2 : H, h2 = h1 ++ [zrR] := ⟨_, rfl⟩
    have r2 : h2.row h1.length = some ⟨fvL 0 0 0 0 (.slice none 0 0), 67, 0, true⟩ := by rw [eh2]; exact row_push_new
    have s2 := sts_whole (vs := fvL 0 0 0 0 (.slice none 0 0)) r2 rfl
    rw [he]
    refine ⟨none, 0, h2.set h1.length zrR, by rw [eh2, set_push]; exact pre_push p1, .nil, ?_⟩
    rw [call_at T38 rfl]
    unfold F38 c38
    simp (disch := first | omega | (simp only [Go.Am.len_push, Go.Am.len_set, Go.Am.len_kill] <;> omega) | fail) only [push_cast, Nat.reduceBEq, Nat.reduceAdd, Nat.reduceMul, Nat.reduceSub, Nat.reduceLT, Nat.reduceGT, Nat.reduceLeDiff, Nat.reduceEqDiff, Int.reduceToNat, Int.reduceAdd, Int.reduceMul, Int.reduceSub, Int.reduceNeg, Int.reduceLT, Int.reduceLE, Int.reduceEq, Nat.zero_add, Nat.add_zero, Nat.mul_one, eq_self, ne_eq, not_true, not_false_iff, and_true, true_and, and_self, List.getElem?_cons_zero, List.getElem?_cons_succ, List.map_cons, List.map_nil, e1, ← eh2, s2]
  | some x =>
    obtain ⟨p, m, g, mod⟩ := x
    obtain ⟨hl2, hl64⟩ := fldN_le hn
    have hf : FOk q p m mod := by have := (fld_ok hn).1; rw [show ((q.toNat : Nat) : Int) = q by omega] at this; exact this
    have hml := hf.ml
    have hm10 := hf.m10
    have hm1 := hf.m1
    obtain ⟨h1, om, cm, p1, rm1, e1⟩ := field_some q hn h
    obtain ⟨h2, eh2⟩ : ∃ h2 : H, h2 = h1 ++ [zrR] := ⟨_, rfl⟩
    have r2 : h2.row h1.length = some ⟨fvL 0 0 0 0 (.slice none 0 0), 67, 0, true⟩ := by rw [eh2]; exact row_push_new
    have s2 := sts_whole (vs := fvL q p m g (.slice (some ⟨om, 0, none⟩) mod.length cm)) r2 rfl
    obtain ⟨h3, eh3⟩ : ∃ h3 : H, h3 = h2.set h1.length (rvR q p m g mod om cm) := ⟨_, rfl⟩
    rw [← eh3] at s2
    have p3 : h1 <+: h3 := by rw [eh3, eh2, set_push]; exact List.prefix_append _ _
    have r3 : h3.row h1.length = some ⟨fvL q p m g (.slice (some ⟨om, 0, none⟩) mod.length cm), 67, 0, true⟩ := by rw [eh3]; exact row_set_same (row_some_lt r2)
    have u3 : RUse h3 q p m g mod om cm := ⟨hn, rm1.mono p3⟩
    cases hs : fldN s.toNat with
    | none =>
      have he : embP q s = (1, []) := by unfold embP; rw [hn, hs]
      obtain ⟨h4, p4, e4⟩ := field_none s hs h3
      obtain ⟨h5, eh5⟩ : ∃ h5 : H, h5 = h4 ++ [zrR] := ⟨_, rfl⟩
      have r5 : h5.row h4.length = some ⟨fvL 0 0 0 0 (.slice none 0 0), 67, 0, true⟩ := by rw [eh5]; exact row_push_new
      have s5 := sts_whole (vs := fvL 0 0 0 0 (.slice none 0 0)) r5 rfl
      rw [he]
      refine ⟨none, 0, h5.set h4.length zrR, by rw [eh5, set_push]; exact pre_push ((p1.trans p3).trans p4), .nil, ?_⟩
      rw [call_at T38 rfl]
      unfold F38 c38
      simp (disch := first | omega | (simp only [Go.Am.len_push, Go.Am.len_set, Go.Am.len_kill] <;> omega) | fail) only [push_cast, Nat.reduceBEq, Nat.reduceAdd, Nat.reduceMul, Nat.reduceSub, Nat.reduceLT, Nat.reduceGT, Nat.reduceLeDiff, Nat.reduceEqDiff, Int.reduceToNat, Int.reduceAdd, Int.reduceMul, Int.reduceSub, Int.reduceNeg, Int.reduceLT, Int.reduceLE, Int.reduceEq, Nat.zero_add, Nat.add_zero, Nat.mul_one, eq_self, ne_eq, not_true, not_false_iff, and_true, true_and, and_self, List.getElem?_cons_zero, List.getElem?_cons_succ, List.map_cons, List.map_nil, e1, ← eh2, s2, e4, ← eh5, s5]
    | some y =>
      obtain ⟨p', m', g', mod'⟩ := y
      obtain ⟨sl2, sl64⟩ := fldN_le hs
      have hf' : FOk s p' m' mod' := by have := (fld_ok hs).1; rw [show ((s.toNat : Nat) : Int) = s by omega] at this; exact this
      obtain ⟨h4, om', cm', p4, rm4, e4⟩ := field_some s hs h3
      obtain ⟨h5, eh5⟩ : ∃ h5 : H, h5 = h4 ++ [zrR] := ⟨_, rfl⟩
      have r5 : h5.row h4.length = some ⟨fvL 0 0 0 0 (.slice none 0 0), 67, 0, true⟩ := by rw [eh5]; exact row_push_new
      have s5 := sts_whole (vs := fvL s p' m' g' (.slice (some ⟨om', 0, none⟩) mod'.length cm')) r5 rfl
      obtain ⟨h6, eh6⟩ : ∃ h6 : H, h6 = h5.set h4.length (rvR s p' m' g' mod' om' cm') := ⟨_, rfl⟩
      rw [← eh6] at s5
      have p6 : h4 <+: h6 := by rw [eh6, eh5, set_push]; exact List.prefix_append _ _
      have r6 : h6.row h4.length = some ⟨fvL s p' m' g' (.slice (some ⟨om', 0, none⟩) mod'.length cm'), 67, 0, true⟩ := by rw [eh6]; exact row_set_same (row_some_lt r5)
      have v6 : RUse h6 s p' m' g' mod' om' cm' := ⟨hs, rm4.mono p6⟩
      have u6 := u3.mono (p4.trans p6)
      have r36 := row_pre r3 (p4.trans p6)
      have pp : h <+: h6 := p1.trans (p3.trans (p4.trans p6))
      have b1 : h6.ld1 h1.length 1 = some (.int .i64 p) := ld1_at r36 rfl
      have b2 : h6.ld1 h1.length 2 = some (.int .i64 m) := ld1_at r36 rfl
      have c1 : h6.ld1 h4.length 1 = some (.int .i64 p') := ld1_at r6 rfl
      have c2 : h6.ld1 h4.length 2 = some (.int .i64 m') := ld1_at r6 rfl
      have hm0 : ¬ (m : Int) = 0 := by omega
      have q1 : (m' : Int).tmod (m : Int) = (m' : Int) % (m : Int) := Int.tmod_eq_emod_of_nonneg (by omega)
      by_cases hpp : p = p'
      rotate_left
      · have he : embP q s = (3, []) := by unfold embP; rw [hn, hs]; simp [hpp]
        rw [he]
        refine ⟨none, 0, h6, pp, .nil, ?_⟩
        rw [call_at T38 rfl]
        unfold F38 c38
        simp (disch := first | omega | (simp only [Go.Am.len_push, Go.Am.len_set, Go.Am.len_kill] <;> omega) | fail) only [push_cast, Nat.reduceBEq, Nat.reduceAdd, Nat.reduceMul, Nat.reduceSub, Nat.reduceLT, Nat.reduceGT, Nat.reduceLeDiff, Nat.reduceEqDiff, Int.reduceToNat, Int.reduceAdd, Int.reduceMul, Int.reduceSub, Int.reduceNeg, Int.reduceLT, Int.reduceLE, Int.reduceEq, Nat.zero_add, Nat.add_zero, Nat.mul_one, eq_self, ne_eq, not_true, not_false_iff, and_true, true_and, and_self, List.getElem?_cons_zero, List.getElem?_cons_succ, List.map_cons, List.map_nil, e1, ← eh2, s2, e4, ← eh5, s5, b1, c1, dec_ne hpp]
      by_cases hmm : m' % m = 0
      rotate_left
      · have he : embP q s = (3, []) := by unfold embP; rw [hn, hs]; simp [hmm]
        have hmi : ¬ (m' : Int) % (m : Int) = 0 := by rw [← Int.natCast_emod]; omega
        rw [he]
        refine ⟨none, 0, h6, pp, .nil, ?_⟩
        rw [call_at T38 rfl]
        unfold F38 c38
        simp (disch := first | omega | (simp only [Go.Am.len_push, Go.Am.len_set, Go.Am.len_kill] <;> omega) | fail) only [push_cast, Nat.reduceBEq, Nat.reduceAdd, Nat.reduceMul, Nat.reduceSub, Nat.reduceLT, Nat.reduceGT, Nat.reduceLeDiff, Nat.reduceEqDiff, Int.reduceToNat, Int.reduceAdd, Int.reduceMul, Int.reduceSub, Int.reduceNeg, Int.reduceLT, Int.reduceLE, Int.reduceEq, Nat.zero_add, Nat.add_zero, Nat.mul_one, eq_self, ne_eq, not_true, not_false_iff, and_true, true_and, and_self, List.getElem?_cons_zero, List.getElem?_cons_succ, List.map_cons, List.map_nil, e1, ← eh2, s2, e4, ← eh5, s5, b1, c1, dec_eq hpp, b2, c2, hm0, q1, dec_ne hmi]
      have hmi : (m' : Int) % (m : Int) = 0 := by rw [← Int.natCast_emod]; omega
      have he : embP q s = (0, embN s (embR q s) p m q.toNat 0) := by unfold embP; rw [hn, hs]; simp [hmm, hpp]
      rw [he]
      obtain ⟨r, hr⟩ : ∃ r, r = embR q s := ⟨_, rfl⟩
      rw [← hr]
      have hrl : ∃ G' : H, h6 <+: G' ∧ ∀ ks, goL T [.tmp 4, .tmp 5] [0, 6, 8, 9, 10] c38L0 (.blk 0 [0, 6, 8, 9] :: ks) [(0, .int .i64 q), (6, .pointer (some ⟨h1.length, 0, none⟩)), (8, .pointer (some ⟨h4.length, 0, none⟩)), (9, .int .i64 0), (10, .int .i64 1)] h6 =
          go T [.tmp 4, .tmp 5] ks (Fr.of [(0, .int .i64 q), (6, .pointer (some ⟨h1.length, 0, none⟩)), (8, .pointer (some ⟨h4.length, 0, none⟩)), (9, .int .i64 r)]) G' := by
        by_cases hm2 : 1 < m
        · obtain ⟨r', hr'⟩ := root_some hn hs hpp hmm hm2
          have hrr : r = r' := by rw [hr]; unfold embR; rw [hn]; simp [hm2, hr']
          have hst0 : q ≤ s := by
            have h5 : p ^ m ≤ p ^ m' := ipow_mono (by have := hf.p2; omega) (Nat.le_of_dvd (by have := hf'.m1; omega) (Nat.dvd_of_mod_eq_zero hmm))
            have h6 := hf'.pm
            rw [← hpp] at h6
            rw [hf.pm, h6] at h5
            exact h5
          have hq4 : 4 ≤ q := by
            have h5 : p ^ 2 ≤ p ^ m := ipow_mono (by have := hf.p2; omega) (by omega)
            rw [hf.pm] at h5
            have h6 : 2 * 2 ≤ p * p := Int.mul_le_mul hf.p2 hf.p2 (by omega) (by have := hf.p2; omega)
            rw [Int.pow_succ, Int.pow_succ, Int.pow_zero, Int.one_mul] at h5
            omega
          have hst : 1 ≤ (s - 1) / (q - 1) ∧ (s - 1) / (q - 1) ≤ 64 := by
            refine ⟨Int.le_ediv_of_mul_le (by omega) (by omega), ?_⟩
            have := Int.ediv_le_self (q - 1) (show 0 ≤ s - 1 by omega)
            omega
          rw [hrr]
          exact rroot_loop u6 r36 v6 r6 hm2 (by omega) hst 64 1 r' h6 (by omega) (by omega) hr' (List.prefix_refl _)
        · have hmi2 : ¬ (1 : Int) < (m : Int) := by omega
          have hrr : r = 0 := by rw [hr]; unfold embR; rw [hn]; simp [hm2]
          rw [hrr]
          refine ⟨h6, List.prefix_refl _, fun ks => ?_⟩
          rw [goL_at c38L0.eq_def]
          simp (disch := first | omega | (simp only [Go.Am.len_push, Go.Am.len_set, Go.Am.len_kill] <;> omega) | fail) only [push_cast, Nat.reduceBEq, Nat.reduceAdd, Nat.reduceMul, Nat.reduceSub, Nat.reduceLT, Nat.reduceGT, Nat.reduceLeDiff, Nat.reduceEqDiff, Int.reduceToNat, Int.reduceAdd, Int.reduceMul, Int.reduceSub, Int.reduceNeg, Int.reduceLT, Int.reduceLE, Int.reduceEq, Nat.zero_add, Nat.add_zero, Nat.mul_one, eq_self, ne_eq, not_true, not_false_iff, and_true, true_and, and_self, List.getElem?_cons_zero, List.getElem?_cons_succ, List.map_cons, List.map_nil, b2, dec_nlt (Int.not_lt.1 hmi2)]
      obtain ⟨h7, p7, rl⟩ := hrl
      obtain ⟨sa, c, h8, p8, g8, lo⟩ := remb_loop (u6.mono p7) (row_pre r36 p7) (v6.mono p7) (row_pre r6 p7) r q.toNat 0 [] none 0 h7 (by omega) rfl (List.prefix_refl _) .nil
      rw [List.nil_append] at g8 lo
      rw [show ((0 : Nat) : Int) = 0 from rfl, List.length_nil] at lo
      refine ⟨sa, c, h8, pp.trans (p7.trans p8), g8.rd, ?_⟩
      rw [call_at T38 rfl]
      unfold F38 c38
      simp (disch := first | omega | (simp only [Go.Am.len_push, Go.Am.len_set, Go.Am.len_kill] <;> omega) | fail) only [push_cast, Nat.reduceBEq, Nat.reduceAdd, Nat.reduceMul, Nat.reduceSub, Nat.reduceLT, Nat.reduceGT, Nat.reduceLeDiff, Nat.reduceEqDiff, Int.reduceToNat, Int.reduceAdd, Int.reduceMul, Int.reduceSub, Int.reduceNeg, Int.reduceLT, Int.reduceLE, Int.reduceEq, Nat.zero_add, Nat.add_zero, Nat.mul_one, eq_self, ne_eq, not_true, not_false_iff, and_true, true_and, and_self, List.getElem?_cons_zero, List.getElem?_cons_succ, List.map_cons, List.map_nil, e1, ← eh2, s2, e4, ← eh5, s5, b1, c1, dec_eq hpp, b2, c2, hm0, q1, dec_eq hmi]
      rw [rl]
      simp (disch := first | omega | (simp only [Go.Am.len_push, Go.Am.len_set, Go.Am.len_kill] <;> omega) | fail) only [push_cast, Nat.reduceBEq, Nat.reduceAdd, Nat.reduceMul, Nat.reduceSub, Nat.reduceLT, Nat.reduceGT, Nat.reduceLeDiff, Nat.reduceEqDiff, Int.reduceToNat, Int.reduceAdd, Int.reduceMul, Int.reduceSub, Int.reduceNeg, Int.reduceLT, Int.reduceLE, Int.reduceEq, Nat.zero_add, Nat.add_zero, Nat.mul_one, eq_self, ne_eq, not_true, not_false_iff, and_true, true_and, and_self, List.getElem?_cons_zero, List.getElem?_cons_succ, List.map_cons, List.map_nil]
      rw [lo]
      simp (disch := first | omega | (simp only [Go.Am.len_push, Go.Am.len_set, Go.Am.len_kill] <;> omega) | fail) only [push_cast, Nat.reduceBEq, Nat.reduceAdd, Nat.reduceMul, Nat.reduceSub, Nat.reduceLT, Nat.reduceGT, Nat.reduceLeDiff, Nat.reduceEqDiff, Int.reduceToNat, Int.reduceAdd, Int.reduceMul, Int.reduceSub, Int.reduceNeg, Int.reduceLT, Int.reduceLE, Int.reduceEq, Nat.zero_add, Nat.add_zero, Nat.mul_one, eq_self, ne_eq, not_true, not_false_iff, and_true, true_and, and_self, List.getElem?_cons_zero, List.getElem?_cons_succ, List.map_cons, List.map_nil]

/-- list -/
theorem list_same (sa sb : Option Addr) (ca cb : Nat) (zs : List Int) (e : Int) (h : H) (hl : zs.length ≤ 140737488351232) (ha : RdI h sa ca zs) (hb : RdI h sb cb zs) (he : e = 0 ∨ zs = []) :
    call T 27 [.slice sa zs.length ca, .int .i64 e, .slice sb zs.length cb, .int .i64 e] h = some (.bool true, h) := by
  have es := same_call sa sb ca cb zs zs h hl ha hb
  rw [call_at T27 rfl]
  unfold F27 c27
  by_cases h0 : e = 0
  · simp (disch := first | omega | (simp only [Go.Am.len_push, Go.Am.len_set, Go.Am.len_kill] <;> omega) | fail) only [push_cast, Nat.reduceBEq, Nat.reduceAdd, Nat.reduceMul, Nat.reduceSub, Nat.reduceLT, Nat.reduceGT, Nat.reduceLeDiff, Nat.reduceEqDiff, Int.reduceToNat, Int.reduceAdd, Int.reduceMul, Int.reduceSub, Int.reduceNeg, Int.reduceLT, Int.reduceLE, Int.reduceEq, Nat.zero_add, Nat.add_zero, Nat.mul_one, eq_self, ne_eq, not_true, not_false_iff, and_true, true_and, and_self, List.getElem?_cons_zero, List.getElem?_cons_succ, List.map_cons, List.map_nil, dec_eq h0, es]
  · have hz : zs = [] := by rcases he with h1 | h1; exact absurd h1 h0; exact h1
    subst hz
    simp (disch := first | omega | (simp only [Go.Am.len_push, Go.Am.len_set, Go.Am.len_kill] <;> omega) | fail) only [push_cast, Nat.reduceBEq, Nat.reduceAdd, Nat.reduceMul, Nat.reduceSub, Nat.reduceLT, Nat.reduceGT, Nat.reduceLeDiff, Nat.reduceEqDiff, Int.reduceToNat, Int.reduceAdd, Int.reduceMul, Int.reduceSub, Int.reduceNeg, Int.reduceLT, Int.reduceLE, Int.reduceEq, Nat.zero_add, Nat.add_zero, Nat.mul_one, eq_self, ne_eq, not_true, not_false_iff, and_true, true_and, and_self, List.getElem?_cons_zero, List.getElem?_cons_succ, List.map_cons, List.map_nil, dec_ne h0, decide_true]
theorem embP_nil (q s : Int) : (embP q s).1 = 0 ∨ (embP q s).2 = [] := by
  unfold embP
  split
  · simp only [Bool.cond_eq_ite]
    split
    · exact .inl rfl
    · exact .inr rfl
  · exact .inr rfl
theorem embP_len (q s : Int) : (embP q s).2.length ≤ 64 := by
  unfold embP
  split
  · rename_i hn _
    have := (fldN_le hn).2
    simp only [Bool.cond_eq_ite]
    split
    · simp only [embN_len]; exact this
    · simp
  · simp
theorem fieldEmbeds_call (q s : Int) (h : H) : ∃ h' : H, h <+: h' ∧ call T 6 [.int .i64 q, .int .i64 s] h = some (.bool true, h') := by
  obtain ⟨sa, c, h1, p1, r1, e1⟩ := pembed_call q s h
  obtain ⟨sb, cb, h2, p2, r2, e2⟩ := rembed_call q s h1
  have e3 := list_same sa sb c cb (embP q s).2 (embP q s).1 h2 (by have := embP_len q s; omega) (r1.mono p2) r2 (embP_nil q s)
  refine ⟨h2, p1.trans p2, ?_⟩
  rw [call_at T6 rfl]
  unfold F6 c6
  simp (disch := first | omega | (simp only [Go.Am.len_push, Go.Am.len_set, Go.Am.len_kill] <;> omega) | fail) only [push_cast, Nat.reduceBEq, Nat.reduceAdd, Nat.reduceMul, Nat.reduceSub, Nat.reduceLT, Nat.reduceGT, Nat.reduceLeDiff, Nat.reduceEqDiff, Int.reduceToNat, Int.reduceAdd, Int.reduceMul, Int.reduceSub, Int.reduceNeg, Int.reduceLT, Int.reduceLE, Int.reduceEq, Nat.zero_add, Nat.add_zero, Nat.mul_one, eq_self, ne_eq, not_true, not_false_iff, and_true, true_and, and_self, List.getElem?_cons_zero, List.getElem?_cons_succ, List.map_cons, List.map_nil, e1, e2, e3]
end Go.Proofs.Ytammndhoillliaa
