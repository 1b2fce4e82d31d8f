/-
  What syndromeref's F.Inv, Pow, Log and Frob compute. Conditions: a field of the table.
  What syndromeref's F.Log, Frob, Trace, Norm and Within compute. Conditions: a field of the table.
  What syndromeref's F.Within computes. Conditions: a field of the table.
-/
import Derived.Test.YtammndhoillliaaFRc
namespace Go.Proofs.Ytammndhoillliaa
open Go.Am
set_option linter.unusedVariables false
set_option linter.unusedSimpArgs false
set_option maxRecDepth 30000

/-! ### powers and their places -/
section
variable {q p g : Int} {m : Nat} {mod : List Int}
theorem fmul_ne (t : Tabs q g) {a b : Int} (ha : 1 ≤ a ∧ a < q) (hb : 1 ≤ b ∧ b < q) : fmul q a b = fexp q ((flog q a + flog q b) % (q - 1)) := by
  rw [fmul, fok_t ⟨by omega, ha.2⟩, fok_t ⟨by omega, hb.2⟩, show (a == 0) = false by simp; omega, show (b == 0) = false by simp; omega]; rfl
theorem exp_ok (t : Tabs q g) (hq : 2 ≤ q) (i : Int) : 1 ≤ fexp q (i % (q - 1)) ∧ fexp q (i % (q - 1)) < q ∧ flog q (fexp q (i % (q - 1))) = i % (q - 1) :=
  t.er _ (Int.emod_nonneg _ (by omega)) (Int.emod_lt_of_pos _ (by omega))
theorem finv_eq (t : Tabs q g) {a : Int} (ha : 1 ≤ a ∧ a < q) : finv q a = fexp q ((q - 1 - flog q a) % (q - 1)) := by
  rw [finv, fok_t ⟨by omega, ha.2⟩, show (a == 0) = false by simp; omega]; rfl
theorem fmul_inv (t : Tabs q g) (hq : 2 ≤ q) {a : Int} (ha : 1 ≤ a ∧ a < q) : (1 ≤ finv q a ∧ finv q a < q) ∧ fmul q a (finv q a) = 1 := by
  have h1 := exp_ok t hq (q - 1 - flog q a)
  rw [← finv_eq t ha] at h1
  refine ⟨⟨h1.1, h1.2.1⟩, ?_⟩
  rw [fmul_ne t ha ⟨h1.1, h1.2.1⟩, h1.2.2, Int.add_emod_emod, show flog q a + (q - 1 - flog q a) = q - 1 by omega, Int.emod_self]
  exact t.e0
theorem inv_uniq (t : Tabs q g) (hq : 2 ≤ q) {a b : Int} (ha : 1 ≤ a ∧ a < q) (hb : 1 ≤ b ∧ b < q) (h : fmul q a b = 1) : b = finv q a := by
  rw [fmul_ne t ha hb] at h
  have h1 := (exp_ok t hq (flog q a + flog q b)).2.2
  have l1 := t.lr a ha.1 ha.2
  have l2 := t.lr b hb.1 hb.2
  have h0 := (t.er 0 (by omega) (by omega)).2.2
  rw [t.e0] at h0
  rw [h, h0] at h1
  -- the places add up to a multiple of q - 1
  have h2 : flog q b = (q - 1 - flog q a) % (q - 1) := by
    by_cases hz : flog q a = 0
    · rw [hz, Int.zero_add, Int.emod_eq_of_lt l2.1 l2.2.1] at h1
      rw [hz, Int.sub_zero, Int.emod_self]; exact h1.symm
    · rw [Int.emod_eq_of_lt (by omega) (by omega)]
      by_cases hlt : flog q a + flog q b < q - 1
      · rw [Int.emod_eq_of_lt (by omega) hlt] at h1; omega
      · have h3 : (flog q a + flog q b - (q - 1)) % (q - 1) = 0 := by rw [Int.sub_emod_right]; exact h1.symm
        rw [Int.emod_eq_of_lt (by omega) (by omega)] at h3
        omega
  rw [finv_eq t ha, ← h2, l2.2.2]

/-- a product again and again -/
def powI (q a : Int) : Nat → Int
  | 0 => 1
  | n + 1 => fmul q (powI q a n) a
theorem powI_ne (t : Tabs q g) (hq : 2 ≤ q) {a : Int} (ha : 1 ≤ a ∧ a < q) : ∀ n : Nat, powI q a n = fexp q (flog q a * n % (q - 1))
  | 0 => by rw [powI, Int.natCast_zero, Int.mul_zero, Int.zero_emod]; exact t.e0.symm
  | n + 1 => by
    have h1 := exp_ok t hq (flog q a * n)
    rw [powI, powI_ne t hq ha n, fmul_ne t ⟨h1.1, h1.2.1⟩ ha, h1.2.2, Int.emod_add_emod]
    congr 2
    rw [Int.natCast_add, Int.natCast_one, Int.mul_add, Int.mul_one]
theorem powI_zero (hq : 2 ≤ q) : ∀ n : Nat, powI q 0 (n + 1) = 0
  | 0 => by
    rw [powI, powI, fmul, fok_t (a := 1) ⟨by omega, by omega⟩, fok_t (a := 0) ⟨by omega, by omega⟩]; rfl
  | n + 1 => by
    rw [powI, powI_zero hq n, fmul, fok_t (a := 0) ⟨by omega, by omega⟩]; rfl
theorem powI_pow (t : Tabs q g) (hq : 2 ≤ q) {a : Int} (ha : 0 ≤ a ∧ a < q) (n : Nat) (hn : 1 ≤ n) : powI q a n = fpow q a n := by
  have hk : ¬ (n : Int) < 0 := by omega
  have hk0 : ((n : Int) == 0) = false := by simp; omega
  by_cases hz : a = 0
  · subst hz
    obtain ⟨k, rfl⟩ : ∃ k, n = k + 1 := ⟨n - 1, by omega⟩
    rw [powI_zero hq, fpow, fok_t ha, decide_eq_false hk, hk0]; rfl
  · rw [powI_ne t hq ⟨by omega, ha.2⟩, fpow, fok_t ha, show (a == 0) = false by simpa using hz, hk0]
    show fexp q (flog q a * n % (q - 1)) = fexp q (flog q a * ((n : Int) % (q - 1)) % (q - 1))
    congr 1
    rw [Int.mul_emod, Int.mul_emod (flog q a) ((n : Int) % (q - 1)), Int.emod_emod_of_dvd _ (Int.dvd_refl _)]
theorem powI_emod (t : Tabs q g) (hq : 2 ≤ q) {a k : Int} (ha : 1 ≤ a ∧ a < q) : powI q a (k % (q - 1)).toNat = fexp q (flog q a * (k % (q - 1)) % (q - 1)) := by
  rw [powI_ne t hq ha, show (((k % (q - 1)).toNat : Nat) : Int) = k % (q - 1) by have := Int.emod_nonneg k (show q - 1 ≠ 0 by omega); omega]
theorem exp_gen (t : Tabs q g) (hq : 2 ≤ q) (hg : 1 ≤ g ∧ g < q) (k : Int) : fmul q (fexp q (k % (q - 1))) g = fexp q ((k + 1) % (q - 1)) := by
  have h1 := exp_ok t hq k
  rw [fmul_ne t ⟨h1.1, h1.2.1⟩ hg, h1.2.2, t.lg, Int.emod_add_emod, Int.add_emod_emod]
end

section
variable {h : H} {q p : Int} {m : Nat} {g : Int} {mod : List Int} {om cm : Nat}
theorem RUse.tabs (u : RUse h q p m g mod om cm) : Tabs q g := tabs_ok u.hn
theorem RUse.gen (u : RUse h q p m g mod om cm) : 1 ≤ g ∧ g < q := by
  obtain ⟨h2, _⟩ := fldN_le u.hn
  have := (fld_ok u.hn).2.2.1
  have h3 := (fld_ok u.hn).2.2.2.1
  omega

theorem rinv_loop {h1 : H} {B : Nat} (u : RUse h1 q p m g mod om cm) (hB : h1.row B = some ⟨fvL q p m g (.slice (some ⟨om, 0, none⟩) mod.length cm), 67, 0, true⟩) {a : Int} (ha : 1 ≤ a ∧ a < q) :
    ∀ (n : Nat) (b : Int) (G : H), b + n = finv q a → 1 ≤ b → h1 <+: G → ∃ G' : H, h1 <+: G' ∧
      ∀ ks, goL T [.tmp 4] [1, 2, 5] c60L0 (.blk 0 [] :: ks) [(1, .int .i64 a), (2, .pointer (some ⟨B, 0, none⟩)), (5, .int .i64 b)] G = some (.int .i64 (finv q a), G')
  | n, b, G, hb, hb1, hp => by
    have hq2 := u.ok.q2
    have hq64 := u.ok.q64
    have hi := fmul_inv u.tabs hq2 ha
    have b0 : G.ld1 B 0 = some (.int .i64 q) := ld1_at (row_pre hB hp) rfl
    have lB := lds_all (row_pre hB hp) (n := 5) rfl
    obtain ⟨G1, p1, em⟩ := rmul_call (u.mono hp) a b
    have hlt : b < q := by omega
    match n, hb with
    | 0, hb =>
      have hbe : b = finv q a := by omega
      have he : fmul q a b = 1 := by rw [hbe]; exact hi.2
      refine ⟨G1, hp.trans p1, fun ks => ?_⟩
      rw [goL_at c60L0.eq_def, ← hbe]
      simp (disch := first | omega | (simp only [Go.Am.len_push, Go.Am.len_set, Go.Am.len_kill] <;> omega) | fail) only [push_cast, Nat.reduceBEq, Nat.reduceAdd, Nat.reduceMul, Nat.reduceSub, Nat.reduceLT, Nat.reduceGT, Nat.reduceLeDiff, Nat.reduceEqDiff, Int.reduceToNat, Int.reduceAdd, Int.reduceMul, Int.reduceSub, Int.reduceNeg, Int.reduceLT, Int.reduceLE, Int.reduceEq, Nat.zero_add, Nat.add_zero, Nat.mul_one, eq_self, ne_eq, not_true, not_false_iff, and_true, true_and, and_self, List.getElem?_cons_zero, List.getElem?_cons_succ, List.map_cons, List.map_nil, dec_lt, b0, lB, em, dec_eq he]
    | n + 1, hb =>
      have hne : ¬ fmul q a b = 1 := fun e => by have := inv_uniq u.tabs hq2 ha ⟨hb1, hlt⟩ e; omega
      obtain ⟨G2, p2, ih⟩ := rinv_loop u hB ha n (b + 1) G1 (by omega) (by omega) (hp.trans p1)
      refine ⟨G2, p2, fun ks => ?_⟩
      rw [← ih ks, goL_at c60L0.eq_def]
      simp (disch := first | omega | (simp only [Go.Am.len_push, Go.Am.len_set, Go.Am.len_kill] <;> omega) | fail) only [push_cast, Nat.reduceBEq, Nat.reduceAdd, Nat.reduceMul, Nat.reduceSub, Nat.reduceLT, Nat.reduceGT, Nat.reduceLeDiff, Nat.reduceEqDiff, Int.reduceToNat, Int.reduceAdd, Int.reduceMul, Int.reduceSub, Int.reduceNeg, Int.reduceLT, Int.reduceLE, Int.reduceEq, Nat.zero_add, Nat.add_zero, Nat.mul_one, eq_self, ne_eq, not_true, not_false_iff, and_true, true_and, and_self, List.getElem?_cons_zero, List.getElem?_cons_succ, List.map_cons, List.map_nil, dec_lt, b0, lB, em, dec_ne hne, wrap64]
theorem rinv_call (u : RUse h q p m g mod om cm) (a : Int) : ∃ h' : H, h <+: h' ∧ call T 60 [rv q p m g mod om cm, .int .i64 a] h = some (.int .i64 (finv q a), h') := by
  obtain ⟨h1, eh1⟩ : ∃ h1 : H, h1 = h ++ [rvR q p m g mod om cm] := ⟨_, rfl⟩
  have r1 : h1.row h.length = some ⟨fvL q p m g (.slice (some ⟨om, 0, none⟩) mod.length cm), 67, 0, true⟩ := by rw [eh1]; exact row_push_new
  have p1 : h <+: h1 := by rw [eh1]; exact List.prefix_append _ _
  have l1 := lds_all r1 (n := 5) rfl
  obtain ⟨h2, eh2⟩ : ∃ h2 : H, h2 = h1 ++ [rvR q p m g mod om cm] := ⟨_, rfl⟩
  have p2 : h1 <+: h2 := by rw [eh2]; exact List.prefix_append _ _
  have hasA : call T 50 [rv q p m g mod om cm, .int .i64 a] h1 = some (.bool (fok q a), h2) := by rw [eh2]; exact rhas_call a
  rcases fok_cases q a with ⟨ho, h0, ha1⟩ | ho
  rotate_left
  · rw [ho] at hasA
    refine ⟨h2, p1.trans p2, ?_⟩
    rw [call_at T60 rfl, finv, ho]
    unfold F60 c60
    simp (disch := first | omega | (simp only [Go.Am.len_push, Go.Am.len_set, Go.Am.len_kill] <;> omega) | fail) only [push_cast, Nat.reduceBEq, Nat.reduceAdd, Nat.reduceMul, Nat.reduceSub, Nat.reduceLT, Nat.reduceGT, Nat.reduceLeDiff, Nat.reduceEqDiff, Int.reduceToNat, Int.reduceAdd, Int.reduceMul, Int.reduceSub, Int.reduceNeg, Int.reduceLT, Int.reduceLE, Int.reduceEq, Nat.zero_add, Nat.add_zero, Nat.mul_one, eq_self, ne_eq, not_true, not_false_iff, and_true, true_and, and_self, List.getElem?_cons_zero, List.getElem?_cons_succ, List.map_cons, List.map_nil, ← eh1, l1, hasA]
  rw [ho] at hasA
  by_cases hz : a = 0
  · refine ⟨h2, p1.trans p2, ?_⟩
    rw [call_at T60 rfl, finv, ho, show (a == 0) = true by simpa using hz]
    unfold F60 c60
    simp (disch := first | omega | (simp only [Go.Am.len_push, Go.Am.len_set, Go.Am.len_kill] <;> omega) | fail) only [push_cast, Nat.reduceBEq, Nat.reduceAdd, Nat.reduceMul, Nat.reduceSub, Nat.reduceLT, Nat.reduceGT, Nat.reduceLeDiff, Nat.reduceEqDiff, Int.reduceToNat, Int.reduceAdd, Int.reduceMul, Int.reduceSub, Int.reduceNeg, Int.reduceLT, Int.reduceLE, Int.reduceEq, Nat.zero_add, Nat.add_zero, Nat.mul_one, eq_self, ne_eq, not_true, not_false_iff, and_true, true_and, and_self, List.getElem?_cons_zero, List.getElem?_cons_succ, List.map_cons, List.map_nil, ← eh1, l1, hasA, dec_eq hz]
  have hq2 := u.ok.q2
  have hi := fmul_inv u.tabs hq2 (a := a) ⟨by omega, ha1⟩
  obtain ⟨h3, p3, lo⟩ := rinv_loop (u.mono (p1.trans p2)) (row_pre r1 p2) (a := a) ⟨by omega, ha1⟩ (finv q a - 1).toNat 1 h2 (by omega) (by omega) (List.prefix_refl _)
  refine ⟨h3, (p1.trans p2).trans p3, ?_⟩
  rw [call_at T60 rfl]
  unfold F60 c60
  simp (disch := first | omega | (simp only [Go.Am.len_push, Go.Am.len_set, Go.Am.len_kill] <;> omega) | fail) only [push_cast, Nat.reduceBEq, Nat.reduceAdd, Nat.reduceMul, Nat.reduceSub, Nat.reduceLT, Nat.reduceGT, Nat.reduceLeDiff, Nat.reduceEqDiff, Int.reduceToNat, Int.reduceAdd, Int.reduceMul, Int.reduceSub, Int.reduceNeg, Int.reduceLT, Int.reduceLE, Int.reduceEq, Nat.zero_add, Nat.add_zero, Nat.mul_one, eq_self, ne_eq, not_true, not_false_iff, and_true, true_and, and_self, List.getElem?_cons_zero, List.getElem?_cons_succ, List.map_cons, List.map_nil, ← eh1, l1, hasA, dec_ne hz]
  rw [lo]

theorem rpow_loop {h1 : H} {B : Nat} (u : RUse h1 q p m g mod om cm) (hB : h1.row B = some ⟨fvL q p m g (.slice (some ⟨om, 0, none⟩) mod.length cm), 67, 0, true⟩) (a k : Int) (hk : k ≤ 1000) :
    ∀ (n j : Nat) (G : H), (j : Int) + n = k → h1 <+: G → ∃ G' : H, h1 <+: G' ∧
      ∀ ks, goL T [.tmp 6] [1, 2, 3, 7, 8] c62L0 (.blk 0 [7] :: ks) [(1, .int .i64 a), (2, .int .i64 k), (3, .pointer (some ⟨B, 0, none⟩)), (7, .int .i64 (powI q a j)), (8, .int .i64 j)] G = go T [.tmp 6] ks (Fr.of [(7, .int .i64 (powI q a k.toNat))]) G'
  | 0, j, G, hj, hp => by
    refine ⟨G, hp, fun ks => ?_⟩
    rw [goL_at c62L0.eq_def]
    have : k.toNat = j := by omega
    have h2 : k ≤ (j : Int) := by omega
    simp (disch := first | omega | (simp only [Go.Am.len_push, Go.Am.len_set, Go.Am.len_kill] <;> omega) | fail) only [push_cast, Nat.reduceBEq, Nat.reduceAdd, Nat.reduceMul, Nat.reduceSub, Nat.reduceLT, Nat.reduceGT, Nat.reduceLeDiff, Nat.reduceEqDiff, Int.reduceToNat, Int.reduceAdd, Int.reduceMul, Int.reduceSub, Int.reduceNeg, Int.reduceLT, Int.reduceLE, Int.reduceEq, Nat.zero_add, Nat.add_zero, Nat.mul_one, eq_self, ne_eq, not_true, not_false_iff, and_true, true_and, and_self, List.getElem?_cons_zero, List.getElem?_cons_succ, List.map_cons, List.map_nil, dec_nlt, this]
  | n + 1, j, G, hj, hp => by
    have lB := lds_all (row_pre hB hp) (n := 5) rfl
    obtain ⟨G1, p1, em⟩ := rmul_call (u.mono hp) (powI q a j) a
    obtain ⟨G2, p2, ih⟩ := rpow_loop u hB a k hk n (j + 1) G1 (by omega) (hp.trans p1)
    refine ⟨G2, p2, fun ks => ?_⟩
    have ih' := ih ks
    rw [Int.natCast_add, Int.natCast_one, powI] at ih'
    rw [← ih', goL_at c62L0.eq_def]
    simp (disch := first | omega | (simp only [Go.Am.len_push, Go.Am.len_set, Go.Am.len_kill] <;> omega) | fail) only [push_cast, Nat.reduceBEq, Nat.reduceAdd, Nat.reduceMul, Nat.reduceSub, Nat.reduceLT, Nat.reduceGT, Nat.reduceLeDiff, Nat.reduceEqDiff, Int.reduceToNat, Int.reduceAdd, Int.reduceMul, Int.reduceSub, Int.reduceNeg, Int.reduceLT, Int.reduceLE, Int.reduceEq, Nat.zero_add, Nat.add_zero, Nat.mul_one, eq_self, ne_eq, not_true, not_false_iff, and_true, true_and, and_self, List.getElem?_cons_zero, List.getElem?_cons_succ, List.map_cons, List.map_nil, dec_lt, lB, em, wrap64]
theorem rpow_call (u : RUse h q p m g mod om cm) (a k : Int) : ∃ h' : H, h <+: h' ∧ call T 62 [rv q p m g mod om cm, .int .i64 a, .int .i64 k] h = some (.int .i64 (fpow q a k), h') := by
  have hq2 := u.ok.q2
  have hq64 := u.ok.q64
  obtain ⟨h1, eh1⟩ : ∃ h1 : H, h1 = h ++ [rvR q p m g mod om cm] := ⟨_, rfl⟩
  have r1 : h1.row h.length = some ⟨fvL q p m g (.slice (some ⟨om, 0, none⟩) mod.length cm), 67, 0, true⟩ := by rw [eh1]; exact row_push_new
  have p1 : h <+: h1 := by rw [eh1]; exact List.prefix_append _ _
  have l1 := lds_all r1 (n := 5) rfl
  obtain ⟨h2, eh2⟩ : ∃ h2 : H, h2 = h1 ++ [rvR q p m g mod om cm] := ⟨_, rfl⟩
  have p2 : h1 <+: h2 := by rw [eh2]; exact List.prefix_append _ _
  have hasA : call T 50 [rv q p m g mod om cm, .int .i64 a] h1 = some (.bool (fok q a), h2) := by rw [eh2]; exact rhas_call a
  have b0 : h2.ld1 h.length 0 = some (.int .i64 q) := ld1_at (row_pre r1 p2) rfl
  rcases fok_cases q a with ⟨ho, h0, ha1⟩ | ho
  rotate_left
  · rw [ho] at hasA
    refine ⟨h2, p1.trans p2, ?_⟩
    rw [call_at T62 rfl, fpow, ho]
    unfold F62 c62
    simp (disch := first | omega | (simp only [Go.Am.len_push, Go.Am.len_set, Go.Am.len_kill] <;> omega) | fail) only [push_cast, Nat.reduceBEq, Nat.reduceAdd, Nat.reduceMul, Nat.reduceSub, Nat.reduceLT, Nat.reduceGT, Nat.reduceLeDiff, Nat.reduceEqDiff, Int.reduceToNat, Int.reduceAdd, Int.reduceMul, Int.reduceSub, Int.reduceNeg, Int.reduceLT, Int.reduceLE, Int.reduceEq, Nat.zero_add, Nat.add_zero, Nat.mul_one, eq_self, ne_eq, not_true, not_false_iff, and_true, true_and, and_self, List.getElem?_cons_zero, List.getElem?_cons_succ, List.map_cons, List.map_nil, ← eh1, l1, hasA]
  rw [ho] at hasA
  by_cases hz : a = 0
  · refine ⟨h2, p1.trans p2, ?_⟩
    rw [call_at T62 rfl, fpow, ho, show (a == 0) = true by simpa using hz]
    unfold F62 c62
    by_cases hk : k < 0
    · rw [decide_eq_true hk]
      simp (disch := first | omega | (simp only [Go.Am.len_push, Go.Am.len_set, Go.Am.len_kill] <;> omega) | fail) only [push_cast, Nat.reduceBEq, Nat.reduceAdd, Nat.reduceMul, Nat.reduceSub, Nat.reduceLT, Nat.reduceGT, Nat.reduceLeDiff, Nat.reduceEqDiff, Int.reduceToNat, Int.reduceAdd, Int.reduceMul, Int.reduceSub, Int.reduceNeg, Int.reduceLT, Int.reduceLE, Int.reduceEq, Nat.zero_add, Nat.add_zero, Nat.mul_one, eq_self, ne_eq, not_true, not_false_iff, and_true, true_and, and_self, List.getElem?_cons_zero, List.getElem?_cons_succ, List.map_cons, List.map_nil, ← eh1, l1, hasA, dec_eq hz, dec_lt hk]
    rw [decide_eq_false hk]
    by_cases hk0 : k = 0
    · rw [show (k == 0) = true by simpa using hk0]
      simp (disch := first | omega | (simp only [Go.Am.len_push, Go.Am.len_set, Go.Am.len_kill] <;> omega) | fail) only [push_cast, Nat.reduceBEq, Nat.reduceAdd, Nat.reduceMul, Nat.reduceSub, Nat.reduceLT, Nat.reduceGT, Nat.reduceLeDiff, Nat.reduceEqDiff, Int.reduceToNat, Int.reduceAdd, Int.reduceMul, Int.reduceSub, Int.reduceNeg, Int.reduceLT, Int.reduceLE, Int.reduceEq, Nat.zero_add, Nat.add_zero, Nat.mul_one, eq_self, ne_eq, not_true, not_false_iff, and_true, true_and, and_self, List.getElem?_cons_zero, List.getElem?_cons_succ, List.map_cons, List.map_nil, ← eh1, l1, hasA, dec_eq hz, dec_nlt (Int.not_lt.1 hk), dec_eq hk0]
    · rw [show (k == 0) = false by simpa using hk0]
      simp (disch := first | omega | (simp only [Go.Am.len_push, Go.Am.len_set, Go.Am.len_kill] <;> omega) | fail) only [push_cast, Nat.reduceBEq, Nat.reduceAdd, Nat.reduceMul, Nat.reduceSub, Nat.reduceLT, Nat.reduceGT, Nat.reduceLeDiff, Nat.reduceEqDiff, Int.reduceToNat, Int.reduceAdd, Int.reduceMul, Int.reduceSub, Int.reduceNeg, Int.reduceLT, Int.reduceLE, Int.reduceEq, Nat.zero_add, Nat.add_zero, Nat.mul_one, eq_self, ne_eq, not_true, not_false_iff, and_true, true_and, and_self, List.getElem?_cons_zero, List.getElem?_cons_succ, List.map_cons, List.map_nil, ← eh1, l1, hasA, dec_eq hz, dec_nlt (Int.not_lt.1 hk), dec_ne hk0]
  have hzb : (a == 0) = false := by simpa using hz
  by_cases hk0 : k = 0
  · refine ⟨h2, p1.trans p2, ?_⟩
    rw [call_at T62 rfl, fpow, ho, hzb, show (k == 0) = true by simpa using hk0]
    unfold F62 c62
    simp (disch := first | omega | (simp only [Go.Am.len_push, Go.Am.len_set, Go.Am.len_kill] <;> omega) | fail) only [push_cast, Nat.reduceBEq, Nat.reduceAdd, Nat.reduceMul, Nat.reduceSub, Nat.reduceLT, Nat.reduceGT, Nat.reduceLeDiff, Nat.reduceEqDiff, Int.reduceToNat, Int.reduceAdd, Int.reduceMul, Int.reduceSub, Int.reduceNeg, Int.reduceLT, Int.reduceLE, Int.reduceEq, Nat.zero_add, Nat.add_zero, Nat.mul_one, eq_self, ne_eq, not_true, not_false_iff, and_true, true_and, and_self, List.getElem?_cons_zero, List.getElem?_cons_succ, List.map_cons, List.map_nil, ← eh1, l1, hasA, dec_ne hz, dec_eq hk0]
  have hq0 : ¬ q - 1 = 0 := by omega
  obtain ⟨j, hj⟩ : ∃ j, j = k % (q - 1) := ⟨_, rfl⟩
  have hj1 : 0 ≤ j := by rw [hj]; exact Int.emod_nonneg _ hq0
  have hj2 : j < q - 1 := by rw [hj]; exact Int.emod_lt_of_pos _ (by omega)
  obtain ⟨h3, p3, lo⟩ := rpow_loop (u.mono (p1.trans p2)) (row_pre r1 p2) a j (by omega) j.toNat 0 h2 (by omega) (List.prefix_refl _)
  have hv : powI q a j.toNat = fpow q a k := by
    rw [hj, powI_emod u.tabs hq2 ⟨by omega, ha1⟩, fpow, ho, hzb, show (k == 0) = false by simpa using hk0]; rfl
  rw [hv, powI, show ((0 : Nat) : Int) = 0 from rfl] at lo
  have hte : k.tmod (q - 1) = if 0 ≤ k ∨ k % (q - 1) = 0 then j else j - (q - 1) := by
    rw [Int.tmod_eq_emod, hj]
    by_cases hc : 0 ≤ k ∨ (q - 1) ∣ k
    · rw [if_pos hc, if_pos (by rcases hc with h | h; exact .inl h; exact .inr (Int.emod_eq_zero_of_dvd h))]; simp
    · rw [if_neg hc, if_neg (fun h => hc (by rcases h with h | h; exact .inl h; exact .inr (Int.dvd_of_emod_eq_zero h)))]
      have : ((q - 1).natAbs : Int) = q - 1 := by omega
      rw [this]
  refine ⟨h3, (p1.trans p2).trans p3, ?_⟩
  rw [call_at T62 rfl]
  unfold F62 c62
  by_cases hc : 0 ≤ k ∨ k % (q - 1) = 0
  · rw [if_pos hc] at hte
    simp (disch := first | omega | (simp only [Go.Am.len_push, Go.Am.len_set, Go.Am.len_kill] <;> omega) | fail) only [push_cast, Nat.reduceBEq, Nat.reduceAdd, Nat.reduceMul, Nat.reduceSub, Nat.reduceLT, Nat.reduceGT, Nat.reduceLeDiff, Nat.reduceEqDiff, Int.reduceToNat, Int.reduceAdd, Int.reduceMul, Int.reduceSub, Int.reduceNeg, Int.reduceLT, Int.reduceLE, Int.reduceEq, Nat.zero_add, Nat.add_zero, Nat.mul_one, eq_self, ne_eq, not_true, not_false_iff, and_true, true_and, and_self, List.getElem?_cons_zero, List.getElem?_cons_succ, List.map_cons, List.map_nil, ← eh1, l1, hasA, dec_ne hz, dec_ne hk0, b0, wrap64, hq0, hte, dec_nlt hj1]
    rw [lo]
    simp (disch := first | omega | (simp only [Go.Am.len_push, Go.Am.len_set, Go.Am.len_kill] <;> omega) | fail) only [push_cast, Nat.reduceBEq, Nat.reduceAdd, Nat.reduceMul, Nat.reduceSub, Nat.reduceLT, Nat.reduceGT, Nat.reduceLeDiff, Nat.reduceEqDiff, Int.reduceToNat, Int.reduceAdd, Int.reduceMul, Int.reduceSub, Int.reduceNeg, Int.reduceLT, Int.reduceLE, Int.reduceEq, Nat.zero_add, Nat.add_zero, Nat.mul_one, eq_self, ne_eq, not_true, not_false_iff, and_true, true_and, and_self, List.getElem?_cons_zero, List.getElem?_cons_succ, List.map_cons, List.map_nil]
  · rw [if_neg hc] at hte
    have hneg : j - (q - 1) < 0 := by omega
    have hb : j - (q - 1) + q - 1 = j := by omega
    have hb2 : -9223372036854775808 ≤ j - (q - 1) + q := by omega
    simp (disch := first | omega | (simp only [Go.Am.len_push, Go.Am.len_set, Go.Am.len_kill] <;> omega) | fail) only [push_cast, Nat.reduceBEq, Nat.reduceAdd, Nat.reduceMul, Nat.reduceSub, Nat.reduceLT, Nat.reduceGT, Nat.reduceLeDiff, Nat.reduceEqDiff, Int.reduceToNat, Int.reduceAdd, Int.reduceMul, Int.reduceSub, Int.reduceNeg, Int.reduceLT, Int.reduceLE, Int.reduceEq, Nat.zero_add, Nat.add_zero, Nat.mul_one, eq_self, ne_eq, not_true, not_false_iff, and_true, true_and, and_self, List.getElem?_cons_zero, List.getElem?_cons_succ, List.map_cons, List.map_nil, ← eh1, l1, hasA, dec_ne hz, dec_ne hk0, b0, wrap64, hq0, hte, dec_lt hneg, hb]
    rw [lo]
    simp (disch := first | omega | (simp only [Go.Am.len_push, Go.Am.len_set, Go.Am.len_kill] <;> omega) | fail) only [push_cast, Nat.reduceBEq, Nat.reduceAdd, Nat.reduceMul, Nat.reduceSub, Nat.reduceLT, Nat.reduceGT, Nat.reduceLeDiff, Nat.reduceEqDiff, Int.reduceToNat, Int.reduceAdd, Int.reduceMul, Int.reduceSub, Int.reduceNeg, Int.reduceLT, Int.reduceLE, Int.reduceEq, Nat.zero_add, Nat.add_zero, Nat.mul_one, eq_self, ne_eq, not_true, not_false_iff, and_true, true_and, and_self, List.getElem?_cons_zero, List.getElem?_cons_succ, List.map_cons, List.map_nil]
end
end Go.Proofs.Ytammndhoillliaa
namespace Go.Proofs.Ytammndhoillliaa
open Go.Am
set_option linter.unusedVariables false
set_option linter.unusedSimpArgs false
set_option maxRecDepth 30000

section
variable {h : H} {q p : Int} {m : Nat} {g : Int} {mod : List Int} {om cm : Nat}

theorem rlog_loop {h1 : H} {B : Nat} (u : RUse h1 q p m g mod om cm) (hB : h1.row B = some ⟨fvL q p m g (.slice (some ⟨om, 0, none⟩) mod.length cm), 67, 0, true⟩) {a : Int} (ha : 0 ≤ a ∧ a < q) :
    ∀ (n : Nat) (k : Int) (G : H), k + n = q - 1 → 0 ≤ k → (1 ≤ a → k ≤ flog q a) → h1 <+: G → ∃ G' : H, h1 <+: G' ∧
      ∀ ks, goL T [.tmp 4] [1, 2, 5, 6] c64L0 (.blk 0 [] :: ks) [(1, .int .i64 a), (2, .pointer (some ⟨B, 0, none⟩)), (5, .int .i64 (fexp q (k % (q - 1)))), (6, .int .i64 k)] G =
        if a = 0 then go T [.tmp 4] ks (Fr.of []) G' else some (.int .i64 (flog q a), G')
  | 0, k, G, hk, hk0, hkl, hp => by
    have hq2 := u.ok.q2
    have hq64 := u.ok.q64
    have b0 : G.ld1 B 0 = some (.int .i64 q) := ld1_at (row_pre hB hp) rfl
    have ha0 : a = 0 := by
      by_cases h0 : a = 0
      · exact h0
      · have := u.tabs.lr a (by omega) ha.2
        have := hkl (by omega)
        omega
    refine ⟨G, hp, fun ks => ?_⟩
    rw [goL_at c64L0.eq_def, if_pos ha0]
    simp (disch := first | omega | (simp only [Go.Am.len_push, Go.Am.len_set, Go.Am.len_kill] <;> omega) | fail) only [push_cast, Nat.reduceBEq, Nat.reduceAdd, Nat.reduceMul, Nat.reduceSub, Nat.reduceLT, Nat.reduceGT, Nat.reduceLeDiff, Nat.reduceEqDiff, Int.reduceToNat, Int.reduceAdd, Int.reduceMul, Int.reduceSub, Int.reduceNeg, Int.reduceLT, Int.reduceLE, Int.reduceEq, Nat.zero_add, Nat.add_zero, Nat.mul_one, eq_self, ne_eq, not_true, not_false_iff, and_true, true_and, and_self, List.getElem?_cons_zero, List.getElem?_cons_succ, List.map_cons, List.map_nil, dec_nlt, b0, wrap64]
  | n + 1, k, G, hk, hk0, hkl, hp => by
    have hq2 := u.ok.q2
    have hq64 := u.ok.q64
    have b0 : G.ld1 B 0 = some (.int .i64 q) := ld1_at (row_pre hB hp) rfl
    have b3 : G.ld1 B 3 = some (.int .i64 g) := ld1_at (row_pre hB hp) rfl
    have lB := lds_all (row_pre hB hp) (n := 5) rfl
    have hkm : k % (q - 1) = k := Int.emod_eq_of_lt hk0 (by omega)
    have hx := u.tabs.er k hk0 (by omega)
    rw [hkm]
    have hkl' : k < q - 1 := by omega
    by_cases he : fexp q k = a
    · have hfl : flog q a = k := by rw [← he]; exact hx.2.2
      have ha0 : ¬ a = 0 := by omega
      refine ⟨G, hp, fun ks => ?_⟩
      rw [goL_at c64L0.eq_def, if_neg ha0, hfl]
      simp (disch := first | omega | (simp only [Go.Am.len_push, Go.Am.len_set, Go.Am.len_kill] <;> omega) | fail) only [push_cast, Nat.reduceBEq, Nat.reduceAdd, Nat.reduceMul, Nat.reduceSub, Nat.reduceLT, Nat.reduceGT, Nat.reduceLeDiff, Nat.reduceEqDiff, Int.reduceToNat, Int.reduceAdd, Int.reduceMul, Int.reduceSub, Int.reduceNeg, Int.reduceLT, Int.reduceLE, Int.reduceEq, Nat.zero_add, Nat.add_zero, Nat.mul_one, eq_self, ne_eq, not_true, not_false_iff, and_true, true_and, and_self, List.getElem?_cons_zero, List.getElem?_cons_succ, List.map_cons, List.map_nil, dec_lt, b0, wrap64, dec_eq he]
    · obtain ⟨G1, p1, em⟩ := rmul_call (u.mono hp) (fexp q k) g
      have hmul : fmul q (fexp q k) g = fexp q ((k + 1) % (q - 1)) := by rw [← exp_gen u.tabs hq2 u.gen k, hkm]
      rw [hmul] at em
      obtain ⟨G2, p2, ih⟩ := rlog_loop u hB ha n (k + 1) G1 (by omega) (by omega) (fun h1 => by
        have := hkl h1
        have h3 := (u.tabs.lr a h1 ha.2).2.2
        have : k ≠ flog q a := fun e => he (by rw [e]; exact h3)
        omega) (hp.trans p1)
      refine ⟨G2, p2, fun ks => ?_⟩
      rw [← ih ks, goL_at c64L0.eq_def]
      simp (disch := first | omega | (simp only [Go.Am.len_push, Go.Am.len_set, Go.Am.len_kill] <;> omega) | fail) only [push_cast, Nat.reduceBEq, Nat.reduceAdd, Nat.reduceMul, Nat.reduceSub, Nat.reduceLT, Nat.reduceGT, Nat.reduceLeDiff, Nat.reduceEqDiff, Int.reduceToNat, Int.reduceAdd, Int.reduceMul, Int.reduceSub, Int.reduceNeg, Int.reduceLT, Int.reduceLE, Int.reduceEq, Nat.zero_add, Nat.add_zero, Nat.mul_one, eq_self, ne_eq, not_true, not_false_iff, and_true, true_and, and_self, List.getElem?_cons_zero, List.getElem?_cons_succ, List.map_cons, List.map_nil, dec_lt, b0, b3, lB, wrap64, dec_ne he, em]
theorem rlog_call (u : RUse h q p m g mod om cm) (a : Int) : ∃ h' : H, h <+: h' ∧ call T 64 [rv q p m g mod om cm, .int .i64 a] h = some (.int .i64 (flogS q a), h') := by
  have hq2 := u.ok.q2
  obtain ⟨h1, eh1⟩ : ∃ h1 : H, h1 = h ++ [rvR q p m g mod om cm] := ⟨_, rfl⟩
  have r1 : h1.row h.length = some ⟨fvL q p m g (.slice (some ⟨om, 0, none⟩) mod.length cm), 67, 0, true⟩ := by rw [eh1]; exact row_push_new
  have p1 : h <+: h1 := by rw [eh1]; exact List.prefix_append _ _
  have l1 := lds_all r1 (n := 5) rfl
  obtain ⟨h2, eh2⟩ : ∃ h2 : H, h2 = h1 ++ [rvR q p m g mod om cm] := ⟨_, rfl⟩
  have p2 : h1 <+: h2 := by rw [eh2]; exact List.prefix_append _ _
  have hasA : call T 50 [rv q p m g mod om cm, .int .i64 a] h1 = some (.bool (fok q a), h2) := by rw [eh2]; exact rhas_call a
  rcases fok_cases q a with ⟨ho, h0, ha1⟩ | ho
  rotate_left
  · rw [ho] at hasA
    refine ⟨h2, p1.trans p2, ?_⟩
    rw [call_at T64 rfl, flogS, ho]
    unfold F64 c64
    simp (disch := first | omega | (simp only [Go.Am.len_push, Go.Am.len_set, Go.Am.len_kill] <;> omega) | fail) only [push_cast, Nat.reduceBEq, Nat.reduceAdd, Nat.reduceMul, Nat.reduceSub, Nat.reduceLT, Nat.reduceGT, Nat.reduceLeDiff, Nat.reduceEqDiff, Int.reduceToNat, Int.reduceAdd, Int.reduceMul, Int.reduceSub, Int.reduceNeg, Int.reduceLT, Int.reduceLE, Int.reduceEq, Nat.zero_add, Nat.add_zero, Nat.mul_one, eq_self, ne_eq, not_true, not_false_iff, and_true, true_and, and_self, List.getElem?_cons_zero, List.getElem?_cons_succ, List.map_cons, List.map_nil, ← eh1, l1, hasA]
  rw [ho] at hasA
  obtain ⟨h3, p3, lo⟩ := rlog_loop (u.mono (p1.trans p2)) (row_pre r1 p2) (a := a) ⟨h0, ha1⟩ (q - 1).toNat 0 h2 (by omega) (by omega) (fun hh => (u.tabs.lr a hh ha1).1) (List.prefix_refl _)
  rw [Int.zero_emod, u.tabs.e0] at lo
  refine ⟨h3, (p1.trans p2).trans p3, ?_⟩
  rw [call_at T64 rfl, flogS, ho]
  unfold F64 c64
  simp (disch := first | omega | (simp only [Go.Am.len_push, Go.Am.len_set, Go.Am.len_kill] <;> omega) | fail) only [push_cast, Nat.reduceBEq, Nat.reduceAdd, Nat.reduceMul, Nat.reduceSub, Nat.reduceLT, Nat.reduceGT, Nat.reduceLeDiff, Nat.reduceEqDiff, Int.reduceToNat, Int.reduceAdd, Int.reduceMul, Int.reduceSub, Int.reduceNeg, Int.reduceLT, Int.reduceLE, Int.reduceEq, Nat.zero_add, Nat.add_zero, Nat.mul_one, eq_self, ne_eq, not_true, not_false_iff, and_true, true_and, and_self, List.getElem?_cons_zero, List.getElem?_cons_succ, List.map_cons, List.map_nil, ← eh1, l1, hasA]
  rw [lo]
  by_cases hz : a = 0
  · rw [if_pos hz, hz]
    simp (disch := first | omega | (simp only [Go.Am.len_push, Go.Am.len_set, Go.Am.len_kill] <;> omega) | fail) only [push_cast, Nat.reduceBEq, Nat.reduceAdd, Nat.reduceMul, Nat.reduceSub, Nat.reduceLT, Nat.reduceGT, Nat.reduceLeDiff, Nat.reduceEqDiff, Int.reduceToNat, Int.reduceAdd, Int.reduceMul, Int.reduceSub, Int.reduceNeg, Int.reduceLT, Int.reduceLE, Int.reduceEq, Nat.zero_add, Nat.add_zero, Nat.mul_one, eq_self, ne_eq, not_true, not_false_iff, and_true, true_and, and_self, List.getElem?_cons_zero, List.getElem?_cons_succ, List.map_cons, List.map_nil]
    rfl
  · rw [if_neg hz]

theorem rfrob_in {h1 : H} {B : Nat} (u : RUse h1 q p m g mod om cm) (hB : h1.row B = some ⟨fvL q p m g (.slice (some ⟨om, 0, none⟩) mod.length cm), 67, 0, true⟩) (a t i : Int) :
    ∀ (n j : Nat) (G : H), (j : Int) + n = p → h1 <+: G → ∃ G' : H, h1 <+: G' ∧
      ∀ ks, goL T [.tmp 6] [1, 2, 3, 7, 8, 9] c66L0 (.blk 2 [2, 3, 7, 8] :: ks) [(1, .int .i64 a), (2, .int .i64 t), (3, .pointer (some ⟨B, 0, none⟩)), (7, .int .i64 i), (8, .int .i64 (powI q a j)), (9, .int .i64 j)] G =
        go T [.tmp 6] ks (Fr.of [(2, .int .i64 t), (3, .pointer (some ⟨B, 0, none⟩)), (7, .int .i64 i), (8, .int .i64 (powI q a p.toNat))]) G'
  | 0, j, G, hj, hp => by
    have b1 : G.ld1 B 1 = some (.int .i64 p) := ld1_at (row_pre hB hp) rfl
    refine ⟨G, hp, fun ks => ?_⟩
    rw [goL_at c66L0.eq_def]
    have : p.toNat = j := by omega
    have h2 : p ≤ (j : Int) := by omega
    simp (disch := first | omega | (simp only [Go.Am.len_push, Go.Am.len_set, Go.Am.len_kill] <;> omega) | fail) only [push_cast, Nat.reduceBEq, Nat.reduceAdd, Nat.reduceMul, Nat.reduceSub, Nat.reduceLT, Nat.reduceGT, Nat.reduceLeDiff, Nat.reduceEqDiff, Int.reduceToNat, Int.reduceAdd, Int.reduceMul, Int.reduceSub, Int.reduceNeg, Int.reduceLT, Int.reduceLE, Int.reduceEq, Nat.zero_add, Nat.add_zero, Nat.mul_one, eq_self, ne_eq, not_true, not_false_iff, and_true, true_and, and_self, List.getElem?_cons_zero, List.getElem?_cons_succ, List.map_cons, List.map_nil, dec_nlt, this, b1]
  | n + 1, j, G, hj, hp => by
    have hp64 := u.ok.p64
    have b1 : G.ld1 B 1 = some (.int .i64 p) := ld1_at (row_pre hB hp) rfl
    have lB := lds_all (row_pre hB hp) (n := 5) rfl
    obtain ⟨G1, p1, em⟩ := rmul_call (u.mono hp) (powI q a j) a
    obtain ⟨G2, p2, ih⟩ := rfrob_in u hB a t i n (j + 1) G1 (by omega) (hp.trans p1)
    refine ⟨G2, p2, fun ks => ?_⟩
    have ih' := ih ks
    rw [Int.natCast_add, Int.natCast_one, powI] at ih'
    rw [← ih', goL_at c66L0.eq_def]
    simp (disch := first | omega | (simp only [Go.Am.len_push, Go.Am.len_set, Go.Am.len_kill] <;> omega) | fail) only [push_cast, Nat.reduceBEq, Nat.reduceAdd, Nat.reduceMul, Nat.reduceSub, Nat.reduceLT, Nat.reduceGT, Nat.reduceLeDiff, Nat.reduceEqDiff, Int.reduceToNat, Int.reduceAdd, Int.reduceMul, Int.reduceSub, Int.reduceNeg, Int.reduceLT, Int.reduceLE, Int.reduceEq, Nat.zero_add, Nat.add_zero, Nat.mul_one, eq_self, ne_eq, not_true, not_false_iff, and_true, true_and, and_self, List.getElem?_cons_zero, List.getElem?_cons_succ, List.map_cons, List.map_nil, dec_lt, b1, lB, em, wrap64]
theorem fpow_ok {q g : Int} (t : Tabs q g) (hq : 2 ≤ q) {a k : Int} (ha : 0 ≤ a ∧ a < q) (hk : 0 ≤ k) : 0 ≤ fpow q a k ∧ fpow q a k < q := by
  rw [fpow, fok_t ha, decide_eq_false (Int.not_lt.2 hk)]
  simp only [Bool.not_true, Bool.and_false, Bool.or_false, cond_false]
  by_cases hk0 : k = 0
  · rw [show (k == 0) = true by simpa using hk0, cond_true]; omega
  rw [show (k == 0) = false by simpa using hk0, cond_false]
  by_cases hz : a = 0
  · rw [show (a == 0) = true by simpa using hz, cond_true]; omega
  rw [show (a == 0) = false by simpa using hz, cond_false]
  have := exp_ok t hq (flog q a * (k % (q - 1)))
  omega
theorem rfrob_out {h1 : H} {B : Nat} (u : RUse h1 q p m g mod om cm) (hB : h1.row B = some ⟨fvL q p m g (.slice (some ⟨om, 0, none⟩) mod.length cm), 67, 0, true⟩) (t : Int) (ht : t ≤ 1000) :
    ∀ (n : Nat) (a i : Int) (G : H), i + n = t → 0 ≤ i → 0 ≤ a ∧ a < q → h1 <+: G → ∃ G' : H, h1 <+: G' ∧
      ∀ ks, goL T [.tmp 6] [1, 2, 3, 7] c66L1 (.blk 0 [1] :: ks) [(1, .int .i64 a), (2, .int .i64 t), (3, .pointer (some ⟨B, 0, none⟩)), (7, .int .i64 i)] G = go T [.tmp 6] ks (Fr.of [(1, .int .i64 (frobN q n a))]) G'
  | 0, a, i, G, hi, hi0, ha, hp => by
    refine ⟨G, hp, fun ks => ?_⟩
    rw [goL_at c66L1.eq_def]
    simp (disch := first | omega | (simp only [Go.Am.len_push, Go.Am.len_set, Go.Am.len_kill] <;> omega) | fail) only [push_cast, Nat.reduceBEq, Nat.reduceAdd, Nat.reduceMul, Nat.reduceSub, Nat.reduceLT, Nat.reduceGT, Nat.reduceLeDiff, Nat.reduceEqDiff, Int.reduceToNat, Int.reduceAdd, Int.reduceMul, Int.reduceSub, Int.reduceNeg, Int.reduceLT, Int.reduceLE, Int.reduceEq, Nat.zero_add, Nat.add_zero, Nat.mul_one, eq_self, ne_eq, not_true, not_false_iff, and_true, true_and, and_self, List.getElem?_cons_zero, List.getElem?_cons_succ, List.map_cons, List.map_nil, dec_nlt, frobN]
  | n + 1, a, i, G, hi, hi0, ha, hp => by
    have hp2 := u.ok.p2
    have hq2 := u.ok.q2
    obtain ⟨G1, p1, i1⟩ := rfrob_in u hB a t i p.toNat 0 G (by omega) hp
    have hv : powI q a p.toNat = fpow q a p := by rw [powI_pow u.tabs hq2 ha p.toNat (by omega), show ((p.toNat : Nat) : Int) = p by omega]
    rw [hv, powI, show ((0 : Nat) : Int) = 0 from rfl] at i1
    obtain ⟨G2, p2, ih⟩ := rfrob_out u hB t ht n (fpow q a p) (i + 1) G1 (by omega) (by omega) (fpow_ok u.tabs hq2 ha (by omega)) p1
    refine ⟨G2, p2, fun ks => ?_⟩
    rw [frobN, (fdat_eq u.hn).1, ← ih ks, goL_at c66L1.eq_def]
    simp (disch := first | omega | (simp only [Go.Am.len_push, Go.Am.len_set, Go.Am.len_kill] <;> omega) | fail) only [push_cast, Nat.reduceBEq, Nat.reduceAdd, Nat.reduceMul, Nat.reduceSub, Nat.reduceLT, Nat.reduceGT, Nat.reduceLeDiff, Nat.reduceEqDiff, Int.reduceToNat, Int.reduceAdd, Int.reduceMul, Int.reduceSub, Int.reduceNeg, Int.reduceLT, Int.reduceLE, Int.reduceEq, Nat.zero_add, Nat.add_zero, Nat.mul_one, eq_self, ne_eq, not_true, not_false_iff, and_true, true_and, and_self, List.getElem?_cons_zero, List.getElem?_cons_succ, List.map_cons, List.map_nil, dec_lt]
    rw [i1]
    simp (disch := first | omega | (simp only [Go.Am.len_push, Go.Am.len_set, Go.Am.len_kill] <;> omega) | fail) only [push_cast, Nat.reduceBEq, Nat.reduceAdd, Nat.reduceMul, Nat.reduceSub, Nat.reduceLT, Nat.reduceGT, Nat.reduceLeDiff, Nat.reduceEqDiff, Int.reduceToNat, Int.reduceAdd, Int.reduceMul, Int.reduceSub, Int.reduceNeg, Int.reduceLT, Int.reduceLE, Int.reduceEq, Nat.zero_add, Nat.add_zero, Nat.mul_one, eq_self, ne_eq, not_true, not_false_iff, and_true, true_and, and_self, List.getElem?_cons_zero, List.getElem?_cons_succ, List.map_cons, List.map_nil, wrap64]
theorem rfrob_call (u : RUse h q p m g mod om cm) (a t : Int) : ∃ h' : H, h <+: h' ∧ call T 66 [rv q p m g mod om cm, .int .i64 a, .int .i64 t] h = some (.int .i64 (ffrob q a t), h') := by
  have hq2 := u.ok.q2
  have hm1 := u.ok.m1
  have hm10 := u.ok.m10
  obtain ⟨h1, eh1⟩ : ∃ h1 : H, h1 = h ++ [rvR q p m g mod om cm] := ⟨_, rfl⟩
  have r1 : h1.row h.length = some ⟨fvL q p m g (.slice (some ⟨om, 0, none⟩) mod.length cm), 67, 0, true⟩ := by rw [eh1]; exact row_push_new
  have p1 : h <+: h1 := by rw [eh1]; exact List.prefix_append _ _
  have l1 := lds_all r1 (n := 5) rfl
  obtain ⟨h2, eh2⟩ : ∃ h2 : H, h2 = h1 ++ [rvR q p m g mod om cm] := ⟨_, rfl⟩
  have p2 : h1 <+: h2 := by rw [eh2]; exact List.prefix_append _ _
  have hasA : call T 50 [rv q p m g mod om cm, .int .i64 a] h1 = some (.bool (fok q a), h2) := by rw [eh2]; exact rhas_call a
  have b2 : h2.ld1 h.length 2 = some (.int .i64 m) := ld1_at (row_pre r1 p2) rfl
  rcases fok_cases q a with ⟨ho, h0, ha1⟩ | ho
  rotate_left
  · rw [ho] at hasA
    refine ⟨h2, p1.trans p2, ?_⟩
    rw [call_at T66 rfl, ffrob, ho]
    unfold F66 c66
    simp (disch := first | omega | (simp only [Go.Am.len_push, Go.Am.len_set, Go.Am.len_kill] <;> omega) | fail) only [push_cast, Nat.reduceBEq, Nat.reduceAdd, Nat.reduceMul, Nat.reduceSub, Nat.reduceLT, Nat.reduceGT, Nat.reduceLeDiff, Nat.reduceEqDiff, Int.reduceToNat, Int.reduceAdd, Int.reduceMul, Int.reduceSub, Int.reduceNeg, Int.reduceLT, Int.reduceLE, Int.reduceEq, Nat.zero_add, Nat.add_zero, Nat.mul_one, eq_self, ne_eq, not_true, not_false_iff, and_true, true_and, and_self, List.getElem?_cons_zero, List.getElem?_cons_succ, List.map_cons, List.map_nil, ← eh1, l1, hasA]
  rw [ho] at hasA
  have hm0 : ¬ (m : Int) = 0 := by omega
  obtain ⟨j, hj⟩ : ∃ j, j = t % (m : Int) := ⟨_, rfl⟩
  have hj1 : 0 ≤ j := by rw [hj]; exact Int.emod_nonneg _ hm0
  have hj2 : j < m := by rw [hj]; exact Int.emod_lt_of_pos _ (by omega)
  obtain ⟨h3, p3, lo⟩ := rfrob_out (u.mono (p1.trans p2)) (row_pre r1 p2) j (by omega) j.toNat a 0 h2 (by omega) (by omega) ⟨h0, ha1⟩ (List.prefix_refl _)
  have hte : t.tmod (m : Int) = if 0 ≤ t ∨ t % (m : Int) = 0 then j else j - m := by
    rw [Int.tmod_eq_emod, hj]
    by_cases hc : 0 ≤ t ∨ (m : Int) ∣ t
    · rw [if_pos hc, if_pos (by rcases hc with h | h; exact .inl h; exact .inr (Int.emod_eq_zero_of_dvd h))]; simp
    · rw [if_neg hc, if_neg (fun h => hc (by rcases h with h | h; exact .inl h; exact .inr (Int.dvd_of_emod_eq_zero h)))]
      rfl
  refine ⟨h3, (p1.trans p2).trans p3, ?_⟩
  rw [call_at T66 rfl, ffrob, ho, (fdat_eq u.hn).2, ← hj]
  unfold F66 c66
  by_cases hc : 0 ≤ t ∨ t % (m : Int) = 0
  · rw [if_pos hc] at hte
    simp (disch := first | omega | (simp only [Go.Am.len_push, Go.Am.len_set, Go.Am.len_kill] <;> omega) | fail) only [push_cast, Nat.reduceBEq, Nat.reduceAdd, Nat.reduceMul, Nat.reduceSub, Nat.reduceLT, Nat.reduceGT, Nat.reduceLeDiff, Nat.reduceEqDiff, Int.reduceToNat, Int.reduceAdd, Int.reduceMul, Int.reduceSub, Int.reduceNeg, Int.reduceLT, Int.reduceLE, Int.reduceEq, Nat.zero_add, Nat.add_zero, Nat.mul_one, eq_self, ne_eq, not_true, not_false_iff, and_true, true_and, and_self, List.getElem?_cons_zero, List.getElem?_cons_succ, List.map_cons, List.map_nil, ← eh1, l1, hasA, b2, hm0, hte, dec_nlt hj1]
    rw [lo]
    simp (disch := first | omega | (simp only [Go.Am.len_push, Go.Am.len_set, Go.Am.len_kill] <;> omega) | fail) only [push_cast, Nat.reduceBEq, Nat.reduceAdd, Nat.reduceMul, Nat.reduceSub, Nat.reduceLT, Nat.reduceGT, Nat.reduceLeDiff, Nat.reduceEqDiff, Int.reduceToNat, Int.reduceAdd, Int.reduceMul, Int.reduceSub, Int.reduceNeg, Int.reduceLT, Int.reduceLE, Int.reduceEq, Nat.zero_add, Nat.add_zero, Nat.mul_one, eq_self, ne_eq, not_true, not_false_iff, and_true, true_and, and_self, List.getElem?_cons_zero, List.getElem?_cons_succ, List.map_cons, List.map_nil]
  · rw [if_neg hc] at hte
    have hneg : j - (m : Int) < 0 := by omega
    have hb : j - (m : Int) + m = j := by omega
    simp (disch := first | omega | (simp only [Go.Am.len_push, Go.Am.len_set, Go.Am.len_kill] <;> omega) | fail) only [push_cast, Nat.reduceBEq, Nat.reduceAdd, Nat.reduceMul, Nat.reduceSub, Nat.reduceLT, Nat.reduceGT, Nat.reduceLeDiff, Nat.reduceEqDiff, Int.reduceToNat, Int.reduceAdd, Int.reduceMul, Int.reduceSub, Int.reduceNeg, Int.reduceLT, Int.reduceLE, Int.reduceEq, Nat.zero_add, Nat.add_zero, Nat.mul_one, eq_self, ne_eq, not_true, not_false_iff, and_true, true_and, and_self, List.getElem?_cons_zero, List.getElem?_cons_succ, List.map_cons, List.map_nil, ← eh1, l1, hasA, b2, hm0, hte, dec_lt hneg, hb, wrap64]
    rw [lo]
    simp (disch := first | omega | (simp only [Go.Am.len_push, Go.Am.len_set, Go.Am.len_kill] <;> omega) | fail) only [push_cast, Nat.reduceBEq, Nat.reduceAdd, Nat.reduceMul, Nat.reduceSub, Nat.reduceLT, Nat.reduceGT, Nat.reduceLeDiff, Nat.reduceEqDiff, Int.reduceToNat, Int.reduceAdd, Int.reduceMul, Int.reduceSub, Int.reduceNeg, Int.reduceLT, Int.reduceLE, Int.reduceEq, Nat.zero_add, Nat.add_zero, Nat.mul_one, eq_self, ne_eq, not_true, not_false_iff, and_true, true_and, and_self, List.getElem?_cons_zero, List.getElem?_cons_succ, List.map_cons, List.map_nil]

theorem rtrace_loop {h1 : H} {B : Nat} (u : RUse h1 q p m g mod om cm) (hB : h1.row B = some ⟨fvL q p m g (.slice (some ⟨om, 0, none⟩) mod.length cm), 67, 0, true⟩) (a : Int) :
    ∀ (n k : Nat) (s : Int) (G : H), k + n = m → h1 <+: G → ∃ G' : H, h1 <+: G' ∧
      ∀ ks, goL T [.tmp 4] [1, 2, 5, 6] c68L0 (.blk 0 [5] :: ks) [(1, .int .i64 a), (2, .pointer (some ⟨B, 0, none⟩)), (5, .int .i64 s), (6, .int .i64 k)] G = go T [.tmp 4] ks (Fr.of [(5, .int .i64 (traceN q a n k s))]) G'
  | 0, k, s, G, hk, hp => by
    have b2 : G.ld1 B 2 = some (.int .i64 m) := ld1_at (row_pre hB hp) rfl
    refine ⟨G, hp, fun ks => ?_⟩
    rw [goL_at c68L0.eq_def]
    have : (m : Int) ≤ (k : Int) := by omega
    simp (disch := first | omega | (simp only [Go.Am.len_push, Go.Am.len_set, Go.Am.len_kill] <;> omega) | fail) only [push_cast, Nat.reduceBEq, Nat.reduceAdd, Nat.reduceMul, Nat.reduceSub, Nat.reduceLT, Nat.reduceGT, Nat.reduceLeDiff, Nat.reduceEqDiff, Int.reduceToNat, Int.reduceAdd, Int.reduceMul, Int.reduceSub, Int.reduceNeg, Int.reduceLT, Int.reduceLE, Int.reduceEq, Nat.zero_add, Nat.add_zero, Nat.mul_one, eq_self, ne_eq, not_true, not_false_iff, and_true, true_and, and_self, List.getElem?_cons_zero, List.getElem?_cons_succ, List.map_cons, List.map_nil, dec_nlt, traceN, b2]
  | n + 1, k, s, G, hk, hp => by
    have hm10 := u.ok.m10
    have b2 : G.ld1 B 2 = some (.int .i64 m) := ld1_at (row_pre hB hp) rfl
    have l1 := lds_all (row_pre hB hp) (n := 5) rfl
    obtain ⟨G1, p1, e1⟩ := rfrob_call (u.mono hp) a k
    have l2 := lds_all (row_pre hB (hp.trans p1)) (n := 5) rfl
    obtain ⟨G2, p2, e2⟩ := radd_call (u.mono (hp.trans p1)) s (ffrob q a k)
    obtain ⟨G3, p3, ih⟩ := rtrace_loop u hB a n (k + 1) (fadd q s (ffrob q a k)) G2 (by omega) ((hp.trans p1).trans p2)
    refine ⟨G3, p3, fun ks => ?_⟩
    have ih' := ih ks
    rw [Int.natCast_add, Int.natCast_one] at ih'
    rw [traceN, ← ih', goL_at c68L0.eq_def]
    simp (disch := first | omega | (simp only [Go.Am.len_push, Go.Am.len_set, Go.Am.len_kill] <;> omega) | fail) only [push_cast, Nat.reduceBEq, Nat.reduceAdd, Nat.reduceMul, Nat.reduceSub, Nat.reduceLT, Nat.reduceGT, Nat.reduceLeDiff, Nat.reduceEqDiff, Int.reduceToNat, Int.reduceAdd, Int.reduceMul, Int.reduceSub, Int.reduceNeg, Int.reduceLT, Int.reduceLE, Int.reduceEq, Nat.zero_add, Nat.add_zero, Nat.mul_one, eq_self, ne_eq, not_true, not_false_iff, and_true, true_and, and_self, List.getElem?_cons_zero, List.getElem?_cons_succ, List.map_cons, List.map_nil, dec_lt, b2, l1, e1, l2, e2, wrap64]
theorem rtrace_call (u : RUse h q p m g mod om cm) (a : Int) : ∃ h' : H, h <+: h' ∧ call T 68 [rv q p m g mod om cm, .int .i64 a] h = some (.int .i64 (ftrace q a), h') := by
  obtain ⟨h1, eh1⟩ : ∃ h1 : H, h1 = h ++ [rvR q p m g mod om cm] := ⟨_, rfl⟩
  have r1 : h1.row h.length = some ⟨fvL q p m g (.slice (some ⟨om, 0, none⟩) mod.length cm), 67, 0, true⟩ := by rw [eh1]; exact row_push_new
  have p1 : h <+: h1 := by rw [eh1]; exact List.prefix_append _ _
  have l1 := lds_all r1 (n := 5) rfl
  obtain ⟨h2, eh2⟩ : ∃ h2 : H, h2 = h1 ++ [rvR q p m g mod om cm] := ⟨_, rfl⟩
  have p2 : h1 <+: h2 := by rw [eh2]; exact List.prefix_append _ _
  have hasA : call T 50 [rv q p m g mod om cm, .int .i64 a] h1 = some (.bool (fok q a), h2) := by rw [eh2]; exact rhas_call a
  rcases fok_cases q a with ⟨ho, h0, ha1⟩ | ho
  rotate_left
  · rw [ho] at hasA
    refine ⟨h2, p1.trans p2, ?_⟩
    rw [call_at T68 rfl, ftrace, ho]
    unfold F68 c68
    simp (disch := first | omega | (simp only [Go.Am.len_push, Go.Am.len_set, Go.Am.len_kill] <;> omega) | fail) only [push_cast, Nat.reduceBEq, Nat.reduceAdd, Nat.reduceMul, Nat.reduceSub, Nat.reduceLT, Nat.reduceGT, Nat.reduceLeDiff, Nat.reduceEqDiff, Int.reduceToNat, Int.reduceAdd, Int.reduceMul, Int.reduceSub, Int.reduceNeg, Int.reduceLT, Int.reduceLE, Int.reduceEq, Nat.zero_add, Nat.add_zero, Nat.mul_one, eq_self, ne_eq, not_true, not_false_iff, and_true, true_and, and_self, List.getElem?_cons_zero, List.getElem?_cons_succ, List.map_cons, List.map_nil, ← eh1, l1, hasA]
  rw [ho] at hasA
  obtain ⟨h3, p3, lo⟩ := rtrace_loop (u.mono (p1.trans p2)) (row_pre r1 p2) a m 0 0 h2 (by omega) (List.prefix_refl _)
  rw [show ((0 : Nat) : Int) = 0 from rfl] at lo
  refine ⟨h3, (p1.trans p2).trans p3, ?_⟩
  rw [call_at T68 rfl, ftrace, ho, (fdat_eq u.hn).2]
  unfold F68 c68
  simp (disch := first | omega | (simp only [Go.Am.len_push, Go.Am.len_set, Go.Am.len_kill] <;> omega) | fail) only [push_cast, Nat.reduceBEq, Nat.reduceAdd, Nat.reduceMul, Nat.reduceSub, Nat.reduceLT, Nat.reduceGT, Nat.reduceLeDiff, Nat.reduceEqDiff, Int.reduceToNat, Int.reduceAdd, Int.reduceMul, Int.reduceSub, Int.reduceNeg, Int.reduceLT, Int.reduceLE, Int.reduceEq, Nat.zero_add, Nat.add_zero, Nat.mul_one, eq_self, ne_eq, not_true, not_false_iff, and_true, true_and, and_self, List.getElem?_cons_zero, List.getElem?_cons_succ, List.map_cons, List.map_nil, ← eh1, l1, hasA]
  rw [lo]
  simp (disch := first | omega | (simp only [Go.Am.len_push, Go.Am.len_set, Go.Am.len_kill] <;> omega) | fail) only [push_cast, Nat.reduceBEq, Nat.reduceAdd, Nat.reduceMul, Nat.reduceSub, Nat.reduceLT, Nat.reduceGT, Nat.reduceLeDiff, Nat.reduceEqDiff, Int.reduceToNat, Int.reduceAdd, Int.reduceMul, Int.reduceSub, Int.reduceNeg, Int.reduceLT, Int.reduceLE, Int.reduceEq, Nat.zero_add, Nat.add_zero, Nat.mul_one, eq_self, ne_eq, not_true, not_false_iff, and_true, true_and, and_self, List.getElem?_cons_zero, List.getElem?_cons_succ, List.map_cons, List.map_nil]
theorem rnorm_loop {h1 : H} {B : Nat} (u : RUse h1 q p m g mod om cm) (hB : h1.row B = some ⟨fvL q p m g (.slice (some ⟨om, 0, none⟩) mod.length cm), 67, 0, true⟩) (a : Int) :
    ∀ (n k : Nat) (s : Int) (G : H), k + n = m → h1 <+: G → ∃ G' : H, h1 <+: G' ∧
      ∀ ks, goL T [.tmp 4] [1, 2, 5, 6] c70L0 (.blk 0 [5] :: ks) [(1, .int .i64 a), (2, .pointer (some ⟨B, 0, none⟩)), (5, .int .i64 s), (6, .int .i64 k)] G = go T [.tmp 4] ks (Fr.of [(5, .int .i64 (normN q a n k s))]) G'
  | 0, k, s, G, hk, hp => by
    have b2 : G.ld1 B 2 = some (.int .i64 m) := ld1_at (row_pre hB hp) rfl
    refine ⟨G, hp, fun ks => ?_⟩
    rw [goL_at c70L0.eq_def]
    have : (m : Int) ≤ (k : Int) := by omega
    simp (disch := first | omega | (simp only [Go.Am.len_push, Go.Am.len_set, Go.Am.len_kill] <;> omega) | fail) only [push_cast, Nat.reduceBEq, Nat.reduceAdd, Nat.reduceMul, Nat.reduceSub, Nat.reduceLT, Nat.reduceGT, Nat.reduceLeDiff, Nat.reduceEqDiff, Int.reduceToNat, Int.reduceAdd, Int.reduceMul, Int.reduceSub, Int.reduceNeg, Int.reduceLT, Int.reduceLE, Int.reduceEq, Nat.zero_add, Nat.add_zero, Nat.mul_one, eq_self, ne_eq, not_true, not_false_iff, and_true, true_and, and_self, List.getElem?_cons_zero, List.getElem?_cons_succ, List.map_cons, List.map_nil, dec_nlt, normN, b2]
  | n + 1, k, s, G, hk, hp => by
    have hm10 := u.ok.m10
    have b2 : G.ld1 B 2 = some (.int .i64 m) := ld1_at (row_pre hB hp) rfl
    have l1 := lds_all (row_pre hB hp) (n := 5) rfl
    obtain ⟨G1, p1, e1⟩ := rfrob_call (u.mono hp) a k
    have l2 := lds_all (row_pre hB (hp.trans p1)) (n := 5) rfl
    obtain ⟨G2, p2, e2⟩ := rmul_call (u.mono (hp.trans p1)) s (ffrob q a k)
    obtain ⟨G3, p3, ih⟩ := rnorm_loop u hB a n (k + 1) (fmul q s (ffrob q a k)) G2 (by omega) ((hp.trans p1).trans p2)
    refine ⟨G3, p3, fun ks => ?_⟩
    have ih' := ih ks
    rw [Int.natCast_add, Int.natCast_one] at ih'
    rw [normN, ← ih', goL_at c70L0.eq_def]
    simp (disch := first | omega | (simp only [Go.Am.len_push, Go.Am.len_set, Go.Am.len_kill] <;> omega) | fail) only [push_cast, Nat.reduceBEq, Nat.reduceAdd, Nat.reduceMul, Nat.reduceSub, Nat.reduceLT, Nat.reduceGT, Nat.reduceLeDiff, Nat.reduceEqDiff, Int.reduceToNat, Int.reduceAdd, Int.reduceMul, Int.reduceSub, Int.reduceNeg, Int.reduceLT, Int.reduceLE, Int.reduceEq, Nat.zero_add, Nat.add_zero, Nat.mul_one, eq_self, ne_eq, not_true, not_false_iff, and_true, true_and, and_self, List.getElem?_cons_zero, List.getElem?_cons_succ, List.map_cons, List.map_nil, dec_lt, b2, l1, e1, l2, e2, wrap64]
theorem rnorm_call (u : RUse h q p m g mod om cm) (a : Int) : ∃ h' : H, h <+: h' ∧ call T 70 [rv q p m g mod om cm, .int .i64 a] h = some (.int .i64 (fnorm q a), h') := by
  obtain ⟨h1, eh1⟩ : ∃ h1 : H, h1 = h ++ [rvR q p m g mod om cm] := ⟨_, rfl⟩
  have r1 : h1.row h.length = some ⟨fvL q p m g (.slice (some ⟨om, 0, none⟩) mod.length cm), 67, 0, true⟩ := by rw [eh1]; exact row_push_new
  have p1 : h <+: h1 := by rw [eh1]; exact List.prefix_append _ _
  have l1 := lds_all r1 (n := 5) rfl
  obtain ⟨h2, eh2⟩ : ∃ h2 : H, h2 = h1 ++ [rvR q p m g mod om cm] := ⟨_, rfl⟩
  have p2 : h1 <+: h2 := by rw [eh2]; exact List.prefix_append _ _
  have hasA : call T 50 [rv q p m g mod om cm, .int .i64 a] h1 = some (.bool (fok q a), h2) := by rw [eh2]; exact rhas_call a
  rcases fok_cases q a with ⟨ho, h0, ha1⟩ | ho
  rotate_left
  · rw [ho] at hasA
    refine ⟨h2, p1.trans p2, ?_⟩
    rw [call_at T70 rfl, fnorm, ho]
    unfold F70 c70
    simp (disch := first | omega | (simp only [Go.Am.len_push, Go.Am.len_set, Go.Am.len_kill] <;> omega) | fail) only [push_cast, Nat.reduceBEq, Nat.reduceAdd, Nat.reduceMul, Nat.reduceSub, Nat.reduceLT, Nat.reduceGT, Nat.reduceLeDiff, Nat.reduceEqDiff, Int.reduceToNat, Int.reduceAdd, Int.reduceMul, Int.reduceSub, Int.reduceNeg, Int.reduceLT, Int.reduceLE, Int.reduceEq, Nat.zero_add, Nat.add_zero, Nat.mul_one, eq_self, ne_eq, not_true, not_false_iff, and_true, true_and, and_self, List.getElem?_cons_zero, List.getElem?_cons_succ, List.map_cons, List.map_nil, ← eh1, l1, hasA]
  rw [ho] at hasA
  obtain ⟨h3, p3, lo⟩ := rnorm_loop (u.mono (p1.trans p2)) (row_pre r1 p2) a m 0 1 h2 (by omega) (List.prefix_refl _)
  rw [show ((0 : Nat) : Int) = 0 from rfl] at lo
  refine ⟨h3, (p1.trans p2).trans p3, ?_⟩
  rw [call_at T70 rfl, fnorm, ho, (fdat_eq u.hn).2]
  unfold F70 c70
  simp (disch := first | omega | (simp only [Go.Am.len_push, Go.Am.len_set, Go.Am.len_kill] <;> omega) | fail) only [push_cast, Nat.reduceBEq, Nat.reduceAdd, Nat.reduceMul, Nat.reduceSub, Nat.reduceLT, Nat.reduceGT, Nat.reduceLeDiff, Nat.reduceEqDiff, Int.reduceToNat, Int.reduceAdd, Int.reduceMul, Int.reduceSub, Int.reduceNeg, Int.reduceLT, Int.reduceLE, Int.reduceEq, Nat.zero_add, Nat.add_zero, Nat.mul_one, eq_self, ne_eq, not_true, not_false_iff, and_true, true_and, and_self, List.getElem?_cons_zero, List.getElem?_cons_succ, List.map_cons, List.map_nil, ← eh1, l1, hasA]
  rw [lo]
  simp (disch := first | omega | (simp only [Go.Am.len_push, Go.Am.len_set, Go.Am.len_kill] <;> omega) | fail) only [push_cast, Nat.reduceBEq, Nat.reduceAdd, Nat.reduceMul, Nat.reduceSub, Nat.reduceLT, Nat.reduceGT, Nat.reduceLeDiff, Nat.reduceEqDiff, Int.reduceToNat, Int.reduceAdd, Int.reduceMul, Int.reduceSub, Int.reduceNeg, Int.reduceLT, Int.reduceLE, Int.reduceEq, Nat.zero_add, Nat.add_zero, Nat.mul_one, eq_self, ne_eq, not_true, not_false_iff, and_true, true_and, and_self, List.getElem?_cons_zero, List.getElem?_cons_succ, List.map_cons, List.map_nil]
end
end Go.Proofs.Ytammndhoillliaa
namespace Go.Proofs.Ytammndhoillliaa
open Go.Am
set_option linter.unusedVariables false
set_option linter.unusedSimpArgs false
set_option maxRecDepth 30000

/-- the same elements by Frobenius and by powers -/
def withCheck (n s : Nat) : Bool := match fldN n, fldN s with
  | some (p, m, _, _), some (p', m', _, _) => bif decide (p' = p) && decide (m % m' = 0) then (List.range n).all fun a => decide (decide (ffrob n a m' = a) = decide (fpow n a s = a)) else true
  | _, _ => true
theorem with_checked : ((List.range 63).all fun n => (List.range 63).all fun s => withCheck (n + 2) (s + 2)) = true := by kernel_rfl
theorem with_eq {q s p p' g g' : Int} {m m' : Nat} {mod mod' : List Int} (hn : fldN q.toNat = some (p, m, g, mod)) (hs : fldN s.toNat = some (p', m', g', mod')) (hp : p' = p) (hm : m % m' = 0) {a : Int} (ha : 0 ≤ a ∧ a < q) :
    (ffrob q a m' = a) ↔ (fpow q a s = a) := by
  obtain ⟨h2, h64⟩ := fldN_le hn
  obtain ⟨s2, s64⟩ := fldN_le hs
  have h := List.all_eq_true.1 (List.all_eq_true.1 with_checked (q.toNat - 2) (List.mem_range.2 (by omega))) (s.toNat - 2) (List.mem_range.2 (by omega))
  rw [show q.toNat - 2 + 2 = q.toNat by omega, show s.toNat - 2 + 2 = s.toNat by omega] at h
  unfold withCheck at h
  rw [hn, hs] at h
  simp only [decide_eq_true hp, decide_eq_true hm, Bool.and_self, cond_true, List.all_eq_true, List.mem_range, decide_eq_true_eq] at h
  have := h a.toNat (by omega)
  rw [show ((a.toNat : Nat) : Int) = a by omega, show ((q.toNat : Nat) : Int) = q by omega, show ((s.toNat : Nat) : Int) = s by omega] at this
  simpa using this

section
variable {h : H} {q p : Int} {m : Nat} {g : Int} {mod : List Int} {om cm : Nat}
theorem rwith_loop {h1 : H} {B : Nat} (u : RUse h1 q p m g mod om cm) (hB : h1.row B = some ⟨fvL q p m g (.slice (some ⟨om, 0, none⟩) mod.length cm), 67, 0, true⟩) (s : Int) {p' g' : Int} {m' : Nat} {mod' : List Int}
    (hs : fldN s.toNat = some (p', m', g', mod')) (hpp : p' = p) (hmm : m % m' = 0) :
    ∀ (n k : Nat) (zs : List Int) (sa : Option Addr) (c : Nat) (G : H), (k : Int) + n = q → zs.length ≤ k → h1 <+: G → Grown G sa c zs h1.length →
    ∃ (sa' : Option Addr) (c' : Nat) (G' : H), h1 <+: G' ∧ Grown G' sa' c' (zs ++ withN q s n k) h1.length ∧
      ∀ ks, goL T [.tmp 4] [2, 6, 7, 8] c72L0 (.blk 0 [7] :: ks) [(2, .pointer (some ⟨B, 0, none⟩)), (6, .int .i64 m'), (7, .slice sa zs.length c), (8, .int .i64 k)] G =
        go T [.tmp 4] ks (Fr.of [(7, .slice sa' (zs ++ withN q s n k).length c')]) G'
  | 0, k, zs, sa, c, G, hk, hz, hp, hg => by
    have b0 : G.ld1 B 0 = some (.int .i64 q) := ld1_at (row_pre hB hp) rfl
    refine ⟨sa, c, G, hp, by rw [withN, List.append_nil]; exact hg, fun ks => ?_⟩
    rw [goL_at c72L0.eq_def]
    have : q ≤ (k : Int) := by omega
    simp (disch := first | omega | (simp only [Go.Am.len_push, Go.Am.len_set, Go.Am.len_kill] <;> omega) | fail) only [push_cast, Nat.reduceBEq, Nat.reduceAdd, Nat.reduceMul, Nat.reduceSub, Nat.reduceLT, Nat.reduceGT, Nat.reduceLeDiff, Nat.reduceEqDiff, Int.reduceToNat, Int.reduceAdd, Int.reduceMul, Int.reduceSub, Int.reduceNeg, Int.reduceLT, Int.reduceLE, Int.reduceEq, Nat.zero_add, Nat.add_zero, Nat.mul_one, eq_self, ne_eq, not_true, not_false_iff, and_true, true_and, and_self, List.getElem?_cons_zero, List.getElem?_cons_succ, List.map_cons, List.map_nil, dec_nlt, b0, withN, List.append_nil]
  | n + 1, k, zs, sa, c, G, hk, hz, hp, hg => by
    have q64 := u.ok.q64
    have b0 : G.ld1 B 0 = some (.int .i64 q) := ld1_at (row_pre hB hp) rfl
    have l1 := lds_all (row_pre hB hp) (n := 5) rfl
    obtain ⟨G0, p0, e1⟩ := rfrob_call (u.mono hp) (k : Int) (m' : Int)
    have hiff := with_eq u.hn hs hpp hmm (a := (k : Int)) ⟨by omega, by omega⟩
    have hg0 : Grown G0 sa c zs h1.length := hg.carry (fun o _ ho => row_prefix p0 ho)
    by_cases he : fpow q k s = k
    · have he' := hiff.2 he
      obtain ⟨sa1, G1, ea, hg1, hl1, _, hpre⟩ := hg0.one (y := (k : Int)) (by omega) (pre_len (hp.trans p0))
      obtain ⟨sa2, c2, G2, p2, hg2, ih⟩ := rwith_loop u hB s hs hpp hmm n (k + 1) (zs ++ [(k : Int)]) sa1 (zs.length + 1) G1 (by omega) (by simp; omega) (hpre h1 (Nat.le_refl _) (hp.trans p0)) hg1
      have hw : zs ++ withN q s (n + 1) k = zs ++ [(k : Int)] ++ withN q s n (k + 1) := by rw [withN, decide_eq_true he, cond_true]; simp
      refine ⟨sa2, c2, G2, p2, by rw [hw]; exact hg2, fun ks => ?_⟩
      have ih' := ih ks
      rw [Int.natCast_add, Int.natCast_one] at ih'
      rw [hw, ← ih', goL_at c72L0.eq_def]
      have hlen : (zs ++ [(k : Int)]).length = zs.length + 1 := by simp
      simp (disch := first | omega | (simp only [Go.Am.len_push, Go.Am.len_set, Go.Am.len_kill] <;> omega) | fail) only [push_cast, Nat.reduceBEq, Nat.reduceAdd, Nat.reduceMul, Nat.reduceSub, Nat.reduceLT, Nat.reduceGT, Nat.reduceLeDiff, Nat.reduceEqDiff, Int.reduceToNat, Int.reduceAdd, Int.reduceMul, Int.reduceSub, Int.reduceNeg, Int.reduceLT, Int.reduceLE, Int.reduceEq, Nat.zero_add, Nat.add_zero, Nat.mul_one, eq_self, ne_eq, not_true, not_false_iff, and_true, true_and, and_self, List.getElem?_cons_zero, List.getElem?_cons_succ, List.map_cons, List.map_nil, dec_lt, b0, l1, e1, dec_eq he', ea, hlen, wrap64]
    · have he' : ¬ ffrob q k m' = k := fun e => he (hiff.1 e)
      obtain ⟨sa2, c2, G2, p2, hg2, ih⟩ := rwith_loop u hB s hs hpp hmm n (k + 1) zs sa c G0 (by omega) (by omega) (hp.trans p0) hg0
      have hw : zs ++ withN q s (n + 1) k = zs ++ withN q s n (k + 1) := by rw [withN, decide_eq_false he, cond_false]
      refine ⟨sa2, c2, G2, p2, by rw [hw]; exact hg2, fun ks => ?_⟩
      have ih' := ih ks
      rw [Int.natCast_add, Int.natCast_one] at ih'
      rw [hw, ← ih', goL_at c72L0.eq_def]
      simp (disch := first | omega | (simp only [Go.Am.len_push, Go.Am.len_set, Go.Am.len_kill] <;> omega) | fail) only [push_cast, Nat.reduceBEq, Nat.reduceAdd, Nat.reduceMul, Nat.reduceSub, Nat.reduceLT, Nat.reduceGT, Nat.reduceLeDiff, Nat.reduceEqDiff, Int.reduceToNat, Int.reduceAdd, Int.reduceMul, Int.reduceSub, Int.reduceNeg, Int.reduceLT, Int.reduceLE, Int.reduceEq, Nat.zero_add, Nat.add_zero, Nat.mul_one, eq_self, ne_eq, not_true, not_false_iff, and_true, true_and, and_self, List.getElem?_cons_zero, List.getElem?_cons_succ, List.map_cons, List.map_nil, dec_lt, b0, l1, e1, dec_ne he', wrap64]

theorem rwithin_call (u : RUse h q p m g mod om cm) (s : Int) : ∃ (sa : Option Addr) (c : Nat) (h' : H), h <+: h' ∧ RdI h' sa c (withP q s) ∧
    call T 72 [rv q p m g mod om cm, .int .i64 s] h = some (.slice sa (withP q s).length c, h') := by
  have hq2 := u.ok.q2
  have hp2 := u.ok.p2
  obtain ⟨hc, hd⟩ := fdat_eq u.hn
  have hp0 : ¬ (0 : Int) = p := by omega
  obtain ⟨h1, eh1⟩ : ∃ h1 : H, h1 = h ++ [rvR q p m g mod om cm] := ⟨_, rfl⟩
  have r1 : h1.row h.length = some ⟨fvL q p m g (.slice (some ⟨om, 0, none⟩) mod.length cm), 67, 0, true⟩ := by rw [eh1]; exact row_push_new
  have p1 : h <+: h1 := by rw [eh1]; exact List.prefix_append _ _
  have b1 : h1.ld1 h.length 1 = some (.int .i64 p) := ld1_at r1 rfl
  have b2 : h1.ld1 h.length 2 = some (.int .i64 m) := ld1_at r1 rfl
  cases hs : fldN s.toNat with
  | none =>
    have hw : withP q s = [] := by unfold withP; rw [hs]
    rw [hw]
    refine ⟨none, 0, h1, p1, .nil, ?_⟩
    rw [call_at T72 rfl]
    unfold F72 c72
    by_cases hs1 : s < 2
    · simp (disch := first | omega | (simp only [Go.Am.len_push, Go.Am.len_set, Go.Am.len_kill] <;> omega) | fail) only [push_cast, Nat.reduceBEq, Nat.reduceAdd, Nat.reduceMul, Nat.reduceSub, Nat.reduceLT, Nat.reduceGT, Nat.reduceLeDiff, Nat.reduceEqDiff, Int.reduceToNat, Int.reduceAdd, Int.reduceMul, Int.reduceSub, Int.reduceNeg, Int.reduceLT, Int.reduceLE, Int.reduceEq, Nat.zero_add, Nat.add_zero, Nat.mul_one, eq_self, ne_eq, not_true, not_false_iff, and_true, true_and, and_self, List.getElem?_cons_zero, List.getElem?_cons_succ, List.map_cons, List.map_nil, ← eh1, dec_lt hs1]
    by_cases hs2 : 64 < s
    · simp (disch := first | omega | (simp only [Go.Am.len_push, Go.Am.len_set, Go.Am.len_kill] <;> omega) | fail) only [push_cast, Nat.reduceBEq, Nat.reduceAdd, Nat.reduceMul, Nat.reduceSub, Nat.reduceLT, Nat.reduceGT, Nat.reduceLeDiff, Nat.reduceEqDiff, Int.reduceToNat, Int.reduceAdd, Int.reduceMul, Int.reduceSub, Int.reduceNeg, Int.reduceLT, Int.reduceLE, Int.reduceEq, Nat.zero_add, Nat.add_zero, Nat.mul_one, eq_self, ne_eq, not_true, not_false_iff, and_true, true_and, and_self, List.getElem?_cons_zero, List.getElem?_cons_succ, List.map_cons, List.map_nil, ← eh1, dec_nlt (Int.not_lt.1 hs1), dec_lt hs2]
    have ho := fld_none (n := s.toNat) (by omega) (by omega) hs
    rw [show ((s.toNat : Nat) : Int) = s by omega] at ho
    have ep := prime_call s (by omega) h1 _ ho
    simp (disch := first | omega | (simp only [Go.Am.len_push, Go.Am.len_set, Go.Am.len_kill] <;> omega) | fail) only [push_cast, Nat.reduceBEq, Nat.reduceAdd, Nat.reduceMul, Nat.reduceSub, Nat.reduceLT, Nat.reduceGT, Nat.reduceLeDiff, Nat.reduceEqDiff, Int.reduceToNat, Int.reduceAdd, Int.reduceMul, Int.reduceSub, Int.reduceNeg, Int.reduceLT, Int.reduceLE, Int.reduceEq, Nat.zero_add, Nat.add_zero, Nat.mul_one, eq_self, ne_eq, not_true, not_false_iff, and_true, true_and, and_self, List.getElem?_cons_zero, List.getElem?_cons_succ, List.map_cons, List.map_nil, ← eh1, dec_nlt (Int.not_lt.1 hs1), dec_nlt (Int.not_lt.1 hs2), ep, b1, dec_ne hp0]
  | some x =>
    obtain ⟨p', m', g', mod'⟩ := x
    obtain ⟨hs2, hs64⟩ := fldN_le hs
    obtain ⟨hf', ho, _⟩ := fld_ok hs
    rw [show ((s.toNat : Nat) : Int) = s by omega] at ho
    have hsa : 2 ≤ s := by omega
    have hsb : s ≤ 64 := by omega
    have ep := prime_call s ⟨hsa, hsb⟩ h1 _ ho
    have hm1 := hf'.m1
    have hm0 : ¬ (m' : Int) = 0 := by omega
    by_cases hpp : p' = p
    rotate_left
    · have hw : withP q s = [] := by unfold withP; rw [hs, hc]; simp [hpp]
      rw [hw]
      refine ⟨none, 0, h1, p1, .nil, ?_⟩
      rw [call_at T72 rfl]
      unfold F72 c72
      simp (disch := first | omega | (simp only [Go.Am.len_push, Go.Am.len_set, Go.Am.len_kill] <;> omega) | fail) only [push_cast, Nat.reduceBEq, Nat.reduceAdd, Nat.reduceMul, Nat.reduceSub, Nat.reduceLT, Nat.reduceGT, Nat.reduceLeDiff, Nat.reduceEqDiff, Int.reduceToNat, Int.reduceAdd, Int.reduceMul, Int.reduceSub, Int.reduceNeg, Int.reduceLT, Int.reduceLE, Int.reduceEq, Nat.zero_add, Nat.add_zero, Nat.mul_one, eq_self, ne_eq, not_true, not_false_iff, and_true, true_and, and_self, List.getElem?_cons_zero, List.getElem?_cons_succ, List.map_cons, List.map_nil, ← eh1, dec_nlt hsa, dec_nlt hsb, ep, b1, dec_ne hpp]
    have q1 : (m : Int).tmod (m' : Int) = (m : Int) % (m' : Int) := Int.tmod_eq_emod_of_nonneg (by omega)
    by_cases hmm : m % m' = 0
    rotate_left
    · have hw : withP q s = [] := by unfold withP; rw [hs, hc, hd]; simp [hmm]
      have hmi : ¬ (m : Int) % (m' : Int) = 0 := by rw [← Int.natCast_emod]; omega
      rw [hw]
      refine ⟨none, 0, h1, p1, .nil, ?_⟩
      rw [call_at T72 rfl]
      unfold F72 c72
      simp (disch := first | omega | (simp only [Go.Am.len_push, Go.Am.len_set, Go.Am.len_kill] <;> omega) | fail) only [push_cast, Nat.reduceBEq, Nat.reduceAdd, Nat.reduceMul, Nat.reduceSub, Nat.reduceLT, Nat.reduceGT, Nat.reduceLeDiff, Nat.reduceEqDiff, Int.reduceToNat, Int.reduceAdd, Int.reduceMul, Int.reduceSub, Int.reduceNeg, Int.reduceLT, Int.reduceLE, Int.reduceEq, Nat.zero_add, Nat.add_zero, Nat.mul_one, eq_self, ne_eq, not_true, not_false_iff, and_true, true_and, and_self, List.getElem?_cons_zero, List.getElem?_cons_succ, List.map_cons, List.map_nil, ← eh1, dec_nlt hsa, dec_nlt hsb, ep, b1, dec_eq hpp, dec_ne hm0, b2, hm0, q1, dec_ne hmi]
    have hw : withP q s = withN q s q.toNat 0 := by unfold withP; rw [hs, hc, hd]; simp [hmm, hpp]
    have hmi : (m : Int) % (m' : Int) = 0 := by rw [← Int.natCast_emod]; omega
    obtain ⟨sa, c, G, p2, hg, lo⟩ := rwith_loop (u.mono p1) r1 s hs hpp hmm q.toNat 0 [] none 0 h1 (by omega) (by simp) (List.prefix_refl _) .nil
    rw [List.nil_append] at hg lo
    rw [hw]
    refine ⟨sa, c, G, p1.trans p2, hg.rd, ?_⟩
    rw [call_at T72 rfl]
    unfold F72 c72
    rw [show ((0 : Nat) : Int) = 0 from rfl, List.length_nil] at lo
    simp (disch := first | omega | (simp only [Go.Am.len_push, Go.Am.len_set, Go.Am.len_kill] <;> omega) | fail) only [push_cast, Nat.reduceBEq, Nat.reduceAdd, Nat.reduceMul, Nat.reduceSub, Nat.reduceLT, Nat.reduceGT, Nat.reduceLeDiff, Nat.reduceEqDiff, Int.reduceToNat, Int.reduceAdd, Int.reduceMul, Int.reduceSub, Int.reduceNeg, Int.reduceLT, Int.reduceLE, Int.reduceEq, Nat.zero_add, Nat.add_zero, Nat.mul_one, eq_self, ne_eq, not_true, not_false_iff, and_true, true_and, and_self, List.getElem?_cons_zero, List.getElem?_cons_succ, List.map_cons, List.map_nil, ← eh1, dec_nlt hsa, dec_nlt hsb, ep, b1, dec_eq hpp, dec_ne hm0, b2, hm0, q1, dec_eq hmi]
    rw [lo]
    simp (disch := first | omega | (simp only [Go.Am.len_push, Go.Am.len_set, Go.Am.len_kill] <;> omega) | fail) only [push_cast, Nat.reduceBEq, Nat.reduceAdd, Nat.reduceMul, Nat.reduceSub, Nat.reduceLT, Nat.reduceGT, Nat.reduceLeDiff, Nat.reduceEqDiff, Int.reduceToNat, Int.reduceAdd, Int.reduceMul, Int.reduceSub, Int.reduceNeg, Int.reduceLT, Int.reduceLE, Int.reduceEq, Nat.zero_add, Nat.add_zero, Nat.mul_one, eq_self, ne_eq, not_true, not_false_iff, and_true, true_and, and_self, List.getElem?_cons_zero, List.getElem?_cons_succ, List.map_cons, List.map_nil]
end
end Go.Proofs.Ytammndhoillliaa
