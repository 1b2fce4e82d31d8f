/-
  What field.Embed computes. No condition.
-/
import Derived.Test.YtammndhoillliaaFE1
namespace Go.Proofs.Ytammndhoillliaa
open Go.Am
set_option linter.unusedVariables false
set_option linter.unusedSimpArgs false
set_option maxRecDepth 30000

/-- what the elements become -/
def embN (s r p : Int) (m : Nat) : Nat → Nat → List Int
  | 0, _ => []
  | n + 1, a => fvalue s r (digs p m a) :: embN s r p m n (a + 1)
theorem embN_len (s r p : Int) (m : Nat) : ∀ n a, (embN s r p m n a).length = n
  | 0, _ => rfl
  | n + 1, a => by simp [embN, embN_len s r p m n]
/-- the root -/
def embR (q s : Int) : Int := match fldN q.toNat with
  | some (_, m, _, mod) => bif decide (1 < m) then (rootN s ((s - 1) / (q - 1)) mod 64 1).getD 0 else 0
  | none => 0
/-- the whole: error and list -/
def embP (q s : Int) : Int × List Int := match fldN q.toNat, fldN s.toNat with
  | some (p, m, _, _), some (p', m', _, _) => bif decide (p = p') && decide (m' % m = 0) then (0, embN s (embR q s) p m q.toNat 0) else (3, [])
  | _, _ => (1, [])

section
variable {h : H} {F F' : Nat} {q p : Int} {m : Nat} {g : Int} {mod : List Int} {E L om fm cm : Nat} {s p' : Int} {m' : Nat} {g' : Int} {mod' : List Int} {E' L' om' fm' cm' : Nat}
theorem proot_loop (hn : fldN q.toNat = some (p, m, g, mod)) (u : PUse h F q p m g mod E L om fm cm) (hs : fldN s.toNat = some (p', m', g', mod')) (v : PUse h F' s p' m' g' mod' E' L' om' fm' cm') (hf : FOk q p m mod) (hf' : FOk s p' m' mod') (st : Int) (hst : 1 ≤ st ∧ st ≤ 64) :
    ∀ (n : Nat) (j R r : Int), 1 ≤ j → j + n ≤ 1000 → (R = 0 ∨ ¬ fvalue s R mod = 0) → rootN s st mod n j = some r →
    ∀ ks, goL T [.tmp 4, .tmp 5] [0, 6, 8, 9, 10, 11] c37L0 (.blk 0 [0, 6, 8, 9] :: ks) [(0, .int .i64 q), (6, .pointer (some ⟨F, 0, none⟩)), (8, .pointer (some ⟨F', 0, none⟩)), (9, .int .i64 R), (10, .int .i64 st), (11, .int .i64 (j * st))] h =
      go T [.tmp 4, .tmp 5] ks (Fr.of [(0, .int .i64 q), (6, .pointer (some ⟨F, 0, none⟩)), (8, .pointer (some ⟨F', 0, none⟩)), (9, .int .i64 r)]) h
  | 0, j, R, r, hj, hjn, hR, he => by cases he
  | n + 1, j, R, r, hj, hjn, hR, he => fun ks => by
    rw [rootN] at he
    have hml := hf.ml
    have hm10 := hf.m10
    have s2 := hf'.q2
    have s64 := hf'.q64
    have hN0 : ¬ s - 1 = 0 := by omega
    have f3 := u.f3
    have v0 := v.f0
    have v5 := v.f5
    have hjs : 0 ≤ j * st := Int.mul_nonneg (by omega) (by omega)
    have hjs2 : j * st ≤ 1000 * 64 := Int.mul_le_mul (by omega) (by omega) (by omega) (by omega)
    obtain ⟨i, hi⟩ : ∃ i, i = j * st % (s - 1) := ⟨_, rfl⟩
    have hi0 : 0 ≤ i := by rw [hi]; exact Int.emod_nonneg _ hN0
    have hil : i < s - 1 := by rw [hi]; exact Int.emod_lt_of_pos _ (by omega)
    have q1 : (j * st).tmod (s - 1) = i := by rw [hi]; exact Int.tmod_eq_emod_of_nonneg hjs
    have e3 := v.le i hi0 hil
    have hi3 : 0 ≤ i ∧ i < (((s - 1).toNat : Nat) : Int) := by omega
    have hi4 : i < max (s - 1) 0 := by omega
    obtain ⟨x, hx⟩ : ∃ x, x = fexp s i := ⟨_, rfl⟩
    have hxr := (tabs_ok hs).er i hi0 hil
    rw [← hi, ← hx] at he
    rw [← hx] at e3 hxr
    have ev := pvalue_call hs v hf' u.rm (by omega) R
    have hstep : j * st + st = (j + 1) * st := by rw [Int.add_mul, Int.one_mul]
    -- the head lets it in, the body sets the next one
    have hhead : goL T [.tmp 4, .tmp 5] [0, 6, 8, 9, 10, 11] c37L0 (.blk 0 [0, 6, 8, 9] :: ks) [(0, .int .i64 q), (6, .pointer (some ⟨F, 0, none⟩)), (8, .pointer (some ⟨F', 0, none⟩)), (9, .int .i64 R), (10, .int .i64 st), (11, .int .i64 (j * st))] h =
        goL T [.tmp 4, .tmp 5] [0, 6, 8, 9, 10, 11] c37L0 (.blk 0 [0, 6, 8, 9] :: ks) [(0, .int .i64 q), (6, .pointer (some ⟨F, 0, none⟩)), (8, .pointer (some ⟨F', 0, none⟩)), (9, .int .i64 x), (10, .int .i64 st), (11, .int .i64 ((j + 1) * st))] h := by
      rw [goL_at c37L0.eq_def]
      by_cases hz : R = 0
      · simp (disch := first | omega | (simp only [Go.Am.len_push, Go.Am.len_set, Go.Am.len_kill] <;> omega) | fail) only [push_cast, Nat.reduceBEq, Nat.reduceAdd, Nat.reduceMul, Nat.reduceSub, Nat.reduceLT, Nat.reduceGT, Nat.reduceLeDiff, Nat.reduceEqDiff, Int.reduceToNat, Int.reduceAdd, Int.reduceMul, Int.reduceSub, Int.reduceNeg, Int.reduceLT, Int.reduceLE, Int.reduceEq, Nat.zero_add, Nat.add_zero, Nat.mul_one, eq_self, ne_eq, not_true, not_false_iff, and_true, true_and, and_self, List.getElem?_cons_zero, List.getElem?_cons_succ, List.map_cons, List.map_nil, dec_eq hz, v5, v0, wrap64, hN0, q1, hi3, hi4, e3, hstep]
      · have hnv : ¬ fvalue s R mod = 0 := by rcases hR with h0 | h0; exact absurd h0 hz; exact h0
        simp (disch := first | omega | (simp only [Go.Am.len_push, Go.Am.len_set, Go.Am.len_kill] <;> omega) | fail) only [push_cast, Nat.reduceBEq, Nat.reduceAdd, Nat.reduceMul, Nat.reduceSub, Nat.reduceLT, Nat.reduceGT, Nat.reduceLeDiff, Nat.reduceEqDiff, Int.reduceToNat, Int.reduceAdd, Int.reduceMul, Int.reduceSub, Int.reduceNeg, Int.reduceLT, Int.reduceLE, Int.reduceEq, Nat.zero_add, Nat.add_zero, Nat.mul_one, eq_self, ne_eq, not_true, not_false_iff, and_true, true_and, and_self, List.getElem?_cons_zero, List.getElem?_cons_succ, List.map_cons, List.map_nil, dec_ne hz, f3, ev, dec_ne hnv, v5, v0, wrap64, hN0, q1, hi3, hi4, e3, hstep]
    rw [hhead]
    have evx := pvalue_call hs v hf' u.rm (by omega) x
    by_cases hv0 : fvalue s x mod = 0
    · rw [decide_eq_true hv0, cond_true] at he
      cases he
      have hx0 : ¬ r = 0 := by omega
      rw [goL_at c37L0.eq_def]
      simp (disch := first | omega | (simp only [Go.Am.len_push, Go.Am.len_set, Go.Am.len_kill] <;> omega) | fail) only [push_cast, Nat.reduceBEq, Nat.reduceAdd, Nat.reduceMul, Nat.reduceSub, Nat.reduceLT, Nat.reduceGT, Nat.reduceLeDiff, Nat.reduceEqDiff, Int.reduceToNat, Int.reduceAdd, Int.reduceMul, Int.reduceSub, Int.reduceNeg, Int.reduceLT, Int.reduceLE, Int.reduceEq, Nat.zero_add, Nat.add_zero, Nat.mul_one, eq_self, ne_eq, not_true, not_false_iff, and_true, true_and, and_self, List.getElem?_cons_zero, List.getElem?_cons_succ, List.map_cons, List.map_nil, dec_ne hx0, f3, evx, dec_eq hv0]
    · rw [decide_eq_false hv0, cond_false] at he
      exact proot_loop hn u hs v hf hf' st hst n (j + 1) x r (by omega) (by omega) (.inr hv0) he ks

theorem pemb_loop {h2 : H} (hn : fldN q.toNat = some (p, m, g, mod)) (u : PUse h2 F q p m g mod E L om fm cm) (hs : fldN s.toNat = some (p', m', g', mod')) (v : PUse h2 F' s p' m' g' mod' E' L' om' fm' cm') (hf : FOk q p m mod) (hf' : FOk s p' m' mod') (r : Int) :
    ∀ (n a : Nat) (done : List Int) (G : H), (a : Int) + n = q → done.length = a → h2 <+: G → G.row h2.length = some ⟨ints (done ++ List.replicate n 0), 3, 1, true⟩ →
    ∃ G' : H, h2 <+: G' ∧ G'.row h2.length = some ⟨ints (done ++ embN s r p m n a), 3, 1, true⟩ ∧
      ∀ ks, goL T [.tmp 4, .tmp 5] [6, 8, 9, 12, 99, 100] c37L1 (.blk 2 [12] :: ks) [(6, .pointer (some ⟨F, 0, none⟩)), (8, .pointer (some ⟨F', 0, none⟩)), (9, .int .i64 r), (12, .slice (some ⟨h2.length, 0, none⟩) q.toNat q.toNat), (99, .int .i64 q), (100, .int .i64 a)] G =
        go T [.tmp 4, .tmp 5] ks (Fr.of [(12, .slice (some ⟨h2.length, 0, none⟩) q.toNat q.toNat)]) G'
  | 0, a, done, G, ha, hd, hp, hr => by
    refine ⟨G, hp, by rw [embN]; exact hr, fun ks => ?_⟩
    rw [goL_at c37L1.eq_def]
    have : q ≤ (a : Int) := by omega
    simp (disch := first | omega | (simp only [Go.Am.len_push, Go.Am.len_set, Go.Am.len_kill] <;> omega) | fail) only [push_cast, Nat.reduceBEq, Nat.reduceAdd, Nat.reduceMul, Nat.reduceSub, Nat.reduceLT, Nat.reduceGT, Nat.reduceLeDiff, Nat.reduceEqDiff, Int.reduceToNat, Int.reduceAdd, Int.reduceMul, Int.reduceSub, Int.reduceNeg, Int.reduceLT, Int.reduceLE, Int.reduceEq, Nat.zero_add, Nat.add_zero, Nat.mul_one, eq_self, ne_eq, not_true, not_false_iff, and_true, true_and, and_self, List.getElem?_cons_zero, List.getElem?_cons_succ, List.map_cons, List.map_nil, dec_nlt]
  | n + 1, a, done, G, ha, hd, hp, hr => by
    have q64 := hf.q64
    have hp2 := hf.p2
    have hm10 := hf.m10
    have hm1 := hf.m1
    have uG := u.mono hp
    have vG := v.mono hp
    have f1 := uG.f1
    have f2 := uG.f2
    have ed := pdigits_call (a : Int) p m G (by omega) (by omega) (by omega) (by omega)
    obtain ⟨G1, eG1⟩ : ∃ G1 : H, G1 = G ++ [.row ⟨ints (digs p m a), 3, 1, true⟩] := ⟨_, rfl⟩
    rw [← eG1] at ed
    have p1 : G <+: G1 := by rw [eG1]; exact List.prefix_append _ _
    have hdl := digs_len p m (a : Int)
    have rd : RdI G1 (some ⟨G.length, 0, none⟩) m (digs p m a) := by
      have : G1.row G.length = some ⟨ints (digs p m a), 3, 1, true⟩ := by rw [eG1]; exact row_push_new
      have h2 := RdI.ofRow this rfl
      rw [hdl] at h2; exact h2
    have ev := pvalue_call hs (vG.mono p1) hf' rd (by omega) r
    rw [hdl] at ev
    have r1 := row_pre hr p1
    have es := sts_int r1 (i := (a : Int)) (v := fvalue s r (digs p m a)) (by omega) (by simp; omega)
    have hset : (done ++ List.replicate (n + 1) 0).set ((a : Int)).toNat (fvalue s r (digs p m a)) = done ++ [fvalue s r (digs p m a)] ++ List.replicate n 0 := by
      rw [List.replicate_succ, set_mid (by omega)]; simp
    rw [hset] at es
    obtain ⟨G2, eG2⟩ : ∃ G2 : H, G2 = G1.set h2.length (.row ⟨ints (done ++ [fvalue s r (digs p m a)] ++ List.replicate n 0), 3, 1, true⟩) := ⟨_, rfl⟩
    rw [← eG2] at es
    have r2 : G2.row h2.length = some ⟨ints (done ++ [fvalue s r (digs p m a)] ++ List.replicate n 0), 3, 1, true⟩ := by rw [eG2]; exact row_set_same (row_some_lt r1)
    have p2 : h2 <+: G2 := by rw [eG2]; exact pre_set (hp.trans p1) (Nat.le_refl _)
    obtain ⟨G3, p3, r3, ih⟩ := pemb_loop hn u hs v hf hf' r n (a + 1) (done ++ [fvalue s r (digs p m a)]) G2 (by omega) (by simp; omega) p2 r2
    have he : done ++ embN s r p m (n + 1) a = done ++ [fvalue s r (digs p m a)] ++ embN s r p m n (a + 1) := by rw [embN]; simp
    refine ⟨G3, p3, by rw [he]; exact r3, fun ks => ?_⟩
    have ih' := ih ks
    rw [Int.natCast_add, Int.natCast_one] at ih'
    have hi1 : 0 ≤ (a : Int) ∧ (a : Int) < ((q.toNat : Nat) : Int) := by omega
    have hi2 : (a : Int) < max q 0 := by omega
    have hi3 : (a : Int) < q := by omega
    rw [← ih', goL_at c37L1.eq_def]
    simp (disch := first | omega | (simp only [Go.Am.len_push, Go.Am.len_set, Go.Am.len_kill] <;> omega) | fail) only [push_cast, Nat.reduceBEq, Nat.reduceAdd, Nat.reduceMul, Nat.reduceSub, Nat.reduceLT, Nat.reduceGT, Nat.reduceLeDiff, Nat.reduceEqDiff, Int.reduceToNat, Int.reduceAdd, Int.reduceMul, Int.reduceSub, Int.reduceNeg, Int.reduceLT, Int.reduceLE, Int.reduceEq, Nat.zero_add, Nat.add_zero, Nat.mul_one, eq_self, ne_eq, not_true, not_false_iff, and_true, true_and, and_self, List.getElem?_cons_zero, List.getElem?_cons_succ, List.map_cons, List.map_nil, dec_lt, f1, f2, ed, ev, hi1, hi2, es, wrap64]
end

theorem pembed_call (q s : Int) (h : H) : ∃ (sa : Option Addr) (c : Nat) (h' : H), h <+: h' ∧ RdI h' sa c (embP q s).2 ∧ call T 37 [.int .i64 q, .int .i64 s] h = some (.tuple #[.slice sa (embP q s).2.length c, .int .i64 (embP q s).1], h') := by
  cases hn : fldN q.toNat with
  | none =>
    have he : embP q s = (1, []) := by unfold embP; rw [hn]
    obtain ⟨h1, p1, e1⟩ := new_none q hn h
    rw [he]
    refine ⟨none, 0, h1, p1, .nil, ?_⟩
    rw [call_at T37 rfl]
    unfold F37 c37
    simp (disch := first | omega | (simp only [Go.Am.len_push, Go.Am.len_set, Go.Am.len_kill] <;> omega) | fail) only [push_cast, Nat.reduceBEq, Nat.reduceAdd, Nat.reduceMul, Nat.reduceSub, Nat.reduceLT, Nat.reduceGT, Nat.reduceLeDiff, Nat.reduceEqDiff, Int.reduceToNat, Int.reduceAdd, Int.reduceMul, Int.reduceSub, Int.reduceNeg, Int.reduceLT, Int.reduceLE, Int.reduceEq, Nat.zero_add, Nat.add_zero, Nat.mul_one, eq_self, ne_eq, not_true, not_false_iff, and_true, true_and, and_self, List.getElem?_cons_zero, List.getElem?_cons_succ, List.map_cons, List.map_nil, e1]
  | some x =>
    obtain ⟨p, m, g, mod⟩ := x
    obtain ⟨hl2, hl64⟩ := fldN_le hn
    have hf : FOk q p m mod := by have := (fld_ok hn).1; rw [show ((q.toNat : Nat) : Int) = q by omega] at this; exact this
    have hml := hf.ml
    have hm10 := hf.m10
    have hm1 := hf.m1
    obtain ⟨h1, F, p1, hPF, e1⟩ := new_some q hn h
    cases hs : fldN s.toNat with
    | none =>
      have he : embP q s = (1, []) := by unfold embP; rw [hn, hs]
      obtain ⟨h2, p2, e2⟩ := new_none s hs h1
      rw [he]
      refine ⟨none, 0, h2, p1.trans p2, .nil, ?_⟩
      rw [call_at T37 rfl]
      unfold F37 c37
      simp (disch := first | omega | (simp only [Go.Am.len_push, Go.Am.len_set, Go.Am.len_kill] <;> omega) | fail) only [push_cast, Nat.reduceBEq, Nat.reduceAdd, Nat.reduceMul, Nat.reduceSub, Nat.reduceLT, Nat.reduceGT, Nat.reduceLeDiff, Nat.reduceEqDiff, Int.reduceToNat, Int.reduceAdd, Int.reduceMul, Int.reduceSub, Int.reduceNeg, Int.reduceLT, Int.reduceLE, Int.reduceEq, Nat.zero_add, Nat.add_zero, Nat.mul_one, eq_self, ne_eq, not_true, not_false_iff, and_true, true_and, and_self, List.getElem?_cons_zero, List.getElem?_cons_succ, List.map_cons, List.map_nil, e1, e2]
    | some y =>
      obtain ⟨p', m', g', mod'⟩ := y
      obtain ⟨sl2, sl64⟩ := fldN_le hs
      have hf' : FOk s p' m' mod' := by have := (fld_ok hs).1; rw [show ((s.toNat : Nat) : Int) = s by omega] at this; exact this
      obtain ⟨h2, F', p2, hPF', e2⟩ := new_some s hs h1
      obtain ⟨E, L, om, fm, cm, u⟩ := (hPF.mono p2).use hn
      obtain ⟨E', L', om', fm', cm', v⟩ := hPF'.use hs
      have u1 := u.f1
      have u2 := u.f2
      have v1 := v.f1
      have v2 := v.f2
      have hm0 : ¬ (m : Int) = 0 := by omega
      have q1 : (m' : Int).tmod (m : Int) = (m' : Int) % (m : Int) := Int.tmod_eq_emod_of_nonneg (by omega)
      have d1 : decide (F < h2.length) = true := by
        have := u.f0
        unfold H.ld1 at this
        split at this
        · exact decide_eq_true (row_some_lt ‹_›)
        · cases this
      by_cases hpp : p = p'
      rotate_left
      · have he : embP q s = (3, []) := by unfold embP; rw [hn, hs]; simp [hpp]
        rw [he]
        refine ⟨none, 0, h2, p1.trans p2, .nil, ?_⟩
        rw [call_at T37 rfl]
        unfold F37 c37
        simp (disch := first | omega | (simp only [Go.Am.len_push, Go.Am.len_set, Go.Am.len_kill] <;> omega) | fail) only [push_cast, Nat.reduceBEq, Nat.reduceAdd, Nat.reduceMul, Nat.reduceSub, Nat.reduceLT, Nat.reduceGT, Nat.reduceLeDiff, Nat.reduceEqDiff, Int.reduceToNat, Int.reduceAdd, Int.reduceMul, Int.reduceSub, Int.reduceNeg, Int.reduceLT, Int.reduceLE, Int.reduceEq, Nat.zero_add, Nat.add_zero, Nat.mul_one, eq_self, ne_eq, not_true, not_false_iff, and_true, true_and, and_self, List.getElem?_cons_zero, List.getElem?_cons_succ, List.map_cons, List.map_nil, e1, e2, u1, v1, dec_ne hpp]
      by_cases hmm : m' % m = 0
      rotate_left
      · have he : embP q s = (3, []) := by unfold embP; rw [hn, hs]; simp [hmm]
        have hmi : ¬ (m' : Int) % (m : Int) = 0 := by rw [← Int.natCast_emod]; omega
        rw [he]
        refine ⟨none, 0, h2, p1.trans p2, .nil, ?_⟩
        rw [call_at T37 rfl]
        unfold F37 c37
        simp (disch := first | omega | (simp only [Go.Am.len_push, Go.Am.len_set, Go.Am.len_kill] <;> omega) | fail) only [push_cast, Nat.reduceBEq, Nat.reduceAdd, Nat.reduceMul, Nat.reduceSub, Nat.reduceLT, Nat.reduceGT, Nat.reduceLeDiff, Nat.reduceEqDiff, Int.reduceToNat, Int.reduceAdd, Int.reduceMul, Int.reduceSub, Int.reduceNeg, Int.reduceLT, Int.reduceLE, Int.reduceEq, Nat.zero_add, Nat.add_zero, Nat.mul_one, eq_self, ne_eq, not_true, not_false_iff, and_true, true_and, and_self, List.getElem?_cons_zero, List.getElem?_cons_succ, List.map_cons, List.map_nil, e1, e2, u1, v1, dec_eq hpp, u2, v2, hm0, q1, dec_ne hmi]
      have hmi : (m' : Int) % (m : Int) = 0 := by rw [← Int.natCast_emod]; omega
      have he : embP q s = (0, embN s (embR q s) p m q.toNat 0) := by unfold embP; rw [hn, hs]; simp [hmm, hpp]
      rw [he]
      obtain ⟨r, hr⟩ : ∃ r, r = embR q s := ⟨_, rfl⟩
      rw [← hr]
      obtain ⟨h3, eh3⟩ : ∃ h3 : H, h3 = h2 ++ [.row ⟨ints ([] ++ List.replicate q.toNat 0), 3, 1, true⟩] := ⟨_, rfl⟩
      have p3 : h2 <+: h3 := by rw [eh3]; exact List.prefix_append _ _
      obtain ⟨h4, p4, r4, lo⟩ := pemb_loop hn u hs v hf hf' r q.toNat 0 [] h3 (by omega) rfl p3 (by rw [eh3]; exact row_push_new)
      rw [List.nil_append] at r4 eh3
      have hel := embN_len s r p m q.toNat 0
      have c1 : 0 ≤ q ∧ q ≤ q ∧ q ≤ 1099511627776 ∧ q * 8 ≤ 140737488355328 := by omega
      have hqn : ((q.toNat : Nat) : Int) = q := by omega
      rw [show ((0 : Nat) : Int) = 0 from rfl] at lo
      refine ⟨some ⟨h2.length, 0, none⟩, q.toNat, h4, (p1.trans p2).trans p4, by have := RdI.ofRow r4 rfl; rw [hel] at this; exact this, ?_⟩
      rw [call_at T37 rfl]
      unfold F37 c37
      rw [hel]
      by_cases hm2 : 1 < m
      · have hmi2 : (1 : Int) < (m : Int) := by omega
        obtain ⟨r', hr'⟩ := root_some hn hs hpp hmm hm2
        have hrr : r = r' := by rw [hr]; unfold embR; rw [hn]; simp [hm2, hr']
        have hst0 : q - 1 ≤ s - 1 := by
          have h5 : p ^ m ≤ p ^ m' := ipow_mono (by have := hf.p2; omega) (Nat.le_of_dvd (by have := hf'.m1; omega) (Nat.dvd_of_mod_eq_zero hmm))
          have h6 := hf'.pm
          rw [← hpp] at h6
          rw [hf.pm, h6] at h5
          omega
        have hst : 1 ≤ (s - 1) / (q - 1) ∧ (s - 1) / (q - 1) ≤ 64 := by
          refine ⟨Int.le_ediv_of_mul_le (by omega) (by omega), ?_⟩
          have := Int.ediv_le_self (q - 1) (show 0 ≤ s - 1 by omega)
          omega
        have pl := proot_loop hn u hs v hf hf' ((s - 1) / (q - 1)) hst 64 1 0 r' (by omega) (by omega) (.inl rfl) hr'
        rw [Int.one_mul, ← hrr] at pl
        have q2 : (s - 1).tdiv (q - 1) = (s - 1) / (q - 1) := Int.tdiv_eq_ediv_of_nonneg (by omega)
        have hN : ¬ q - 1 = 0 := by omega
        have u0 := u.f0
        have v0 := v.f0
        simp (disch := first | omega | (simp only [Go.Am.len_push, Go.Am.len_set, Go.Am.len_kill] <;> omega) | fail) only [push_cast, Nat.reduceBEq, Nat.reduceAdd, Nat.reduceMul, Nat.reduceSub, Nat.reduceLT, Nat.reduceGT, Nat.reduceLeDiff, Nat.reduceEqDiff, Int.reduceToNat, Int.reduceAdd, Int.reduceMul, Int.reduceSub, Int.reduceNeg, Int.reduceLT, Int.reduceLE, Int.reduceEq, Nat.zero_add, Nat.add_zero, Nat.mul_one, eq_self, ne_eq, not_true, not_false_iff, and_true, true_and, and_self, List.getElem?_cons_zero, List.getElem?_cons_succ, List.map_cons, List.map_nil, e1, e2, u1, v1, dec_eq hpp, u2, v2, hm0, q1, dec_eq hmi, dec_lt hmi2, u0, v0, wrap64, hN, q2]
        rw [pl]
        simp (disch := first | omega | (simp only [Go.Am.len_push, Go.Am.len_set, Go.Am.len_kill] <;> omega) | fail) only [push_cast, Nat.reduceBEq, Nat.reduceAdd, Nat.reduceMul, Nat.reduceSub, Nat.reduceLT, Nat.reduceGT, Nat.reduceLeDiff, Nat.reduceEqDiff, Int.reduceToNat, Int.reduceAdd, Int.reduceMul, Int.reduceSub, Int.reduceNeg, Int.reduceLT, Int.reduceLE, Int.reduceEq, Nat.zero_add, Nat.add_zero, Nat.mul_one, eq_self, ne_eq, not_true, not_false_iff, and_true, true_and, and_self, List.getElem?_cons_zero, List.getElem?_cons_succ, List.map_cons, List.map_nil, c1, rep_int, ← eh3, hqn]
        rw [lo]
        simp (disch := first | omega | (simp only [Go.Am.len_push, Go.Am.len_set, Go.Am.len_kill] <;> omega) | fail) only [push_cast, Nat.reduceBEq, Nat.reduceAdd, Nat.reduceMul, Nat.reduceSub, Nat.reduceLT, Nat.reduceGT, Nat.reduceLeDiff, Nat.reduceEqDiff, Int.reduceToNat, Int.reduceAdd, Int.reduceMul, Int.reduceSub, Int.reduceNeg, Int.reduceLT, Int.reduceLE, Int.reduceEq, Nat.zero_add, Nat.add_zero, Nat.mul_one, eq_self, ne_eq, not_true, not_false_iff, and_true, true_and, and_self, List.getElem?_cons_zero, List.getElem?_cons_succ, List.map_cons, List.map_nil]
      · have hmi2 : ¬ (1 : Int) < (m : Int) := by omega
        have hrr : r = 0 := by rw [hr]; unfold embR; rw [hn]; simp [hm2]
        rw [hrr] at lo
        simp (disch := first | omega | (simp only [Go.Am.len_push, Go.Am.len_set, Go.Am.len_kill] <;> omega) | fail) only [push_cast, Nat.reduceBEq, Nat.reduceAdd, Nat.reduceMul, Nat.reduceSub, Nat.reduceLT, Nat.reduceGT, Nat.reduceLeDiff, Nat.reduceEqDiff, Int.reduceToNat, Int.reduceAdd, Int.reduceMul, Int.reduceSub, Int.reduceNeg, Int.reduceLT, Int.reduceLE, Int.reduceEq, Nat.zero_add, Nat.add_zero, Nat.mul_one, eq_self, ne_eq, not_true, not_false_iff, and_true, true_and, and_self, List.getElem?_cons_zero, List.getElem?_cons_succ, List.map_cons, List.map_nil, e1, e2, u1, v1, dec_eq hpp, u2, v2, hm0, q1, dec_eq hmi, dec_nlt (Int.not_lt.1 hmi2), c1, rep_int, ← eh3, hqn]
        rw [lo]
        simp (disch := first | omega | (simp only [Go.Am.len_push, Go.Am.len_set, Go.Am.len_kill] <;> omega) | fail) only [push_cast, Nat.reduceBEq, Nat.reduceAdd, Nat.reduceMul, Nat.reduceSub, Nat.reduceLT, Nat.reduceGT, Nat.reduceLeDiff, Nat.reduceEqDiff, Int.reduceToNat, Int.reduceAdd, Int.reduceMul, Int.reduceSub, Int.reduceNeg, Int.reduceLT, Int.reduceLE, Int.reduceEq, Nat.zero_add, Nat.add_zero, Nat.mul_one, eq_self, ne_eq, not_true, not_false_iff, and_true, true_and, and_self, List.getElem?_cons_zero, List.getElem?_cons_succ, List.map_cons, List.map_nil]
end Go.Proofs.Ytammndhoillliaa
