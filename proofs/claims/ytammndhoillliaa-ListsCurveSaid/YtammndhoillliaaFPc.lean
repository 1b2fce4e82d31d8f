/-
  What the program's field methods without loops compute. Conditions: a field that lies there.
  What the program's field methods with loops compute: sums, opposites, Frobenius, traces, norms. Conditions: a field that lies there.
  What the program's Trace, Norm and Within compute. Conditions: a field that lies there.
-/
import Derived.Test.YtammndhoillliaaFS1
namespace Go.Proofs.Ytammndhoillliaa
open Go.Am
set_option linter.unusedVariables false
set_option linter.unusedSimpArgs false
set_option maxRecDepth 30000

/-- a field that lies at F, as loads -/
structure PUse (h : H) (F : Nat) (q p : Int) (m : Nat) (g : Int) (mod : List Int) (E L om fm cm : Nat) : Prop where
  q2 : 2 ≤ q
  q64 : q ≤ 64
  f0 : h.ld1 F 0 = some (.int .i64 q)
  f1 : h.ld1 F 1 = some (.int .i64 p)
  f2 : h.ld1 F 2 = some (.int .i64 m)
  f3 : h.ld1 F 3 = some (.slice (some ⟨om, fm, none⟩) mod.length cm)
  f4 : h.ld1 F 4 = some (.int .i64 g)
  f5 : h.ld1 F 5 = some (.slice (some ⟨E, 0, none⟩) (q - 1).toNat (q - 1).toNat)
  f6 : h.ld1 F 6 = some (.slice (some ⟨L, 0, none⟩) q.toNat q.toNat)
  le : ∀ i, 0 ≤ i → i < q - 1 → h.ld1 E i.toNat = some (.int .i64 (fexp q i))
  ll : ∀ a, 0 ≤ a → a < q → h.ld1 L a.toNat = some (.int .i64 (flog q a))
  rm : RdI h (some ⟨om, fm, none⟩) cm mod
theorem PFld.use {h : H} {F : Nat} {q p : Int} {m : Nat} {g : Int} {mod : List Int} (hn : fldN q.toNat = some (p, m, g, mod)) (hp : PFld h F q p m g mod) : ∃ E L om fm cm, PUse h F q p m g mod E L om fm cm := by
  obtain ⟨h2, h64⟩ := fldN_le hn
  obtain ⟨om, fm, cm, _, hM, ⟨E, L, _, _, hF, hE, hL, he, hl⟩⟩ := hp.ok
  have ht := (tabs_ok hn).tab
  rw [ht] at hE hL he hl
  refine ⟨E, L, om, fm, cm, by omega, by omega, ld1_at hF rfl, ld1_at hF rfl, ld1_at hF rfl, ld1_at hF rfl, ld1_at hF rfl, ld1_at hF rfl, ld1_at hF rfl, fun i h0 hi => ?_, fun a h0 ha => ?_, hM⟩
  · rw [ld1_int hE h0 (by simp; omega)]
    congr 2
    unfold gi
    rw [List.getD_eq_getElem?_getD, List.getElem?_map, List.getElem?_range (by omega)]
    show fexp q ((i.toNat : Nat) : Int) = _
    rw [show ((i.toNat : Nat) : Int) = i by omega]
  · rw [ld1_int hL h0 (by simp; omega)]
    congr 2
    unfold gi
    rw [List.getD_eq_getElem?_getD, List.getElem?_map, List.getElem?_range (by omega)]
    show flog q ((a.toNat : Nat) : Int) = _
    rw [show ((a.toNat : Nat) : Int) = a by omega]
theorem fok_iff {q a : Int} : fok q a = true ↔ 0 ≤ a ∧ a < q := by unfold fok; simp
theorem fok_t {q a : Int} (h : 0 ≤ a ∧ a < q) : fok q a = true := fok_iff.2 h
theorem fok_f {q a : Int} (h : ¬ (0 ≤ a ∧ a < q)) : fok q a = false := by
  cases hx : fok q a with
  | false => rfl
  | true => exact absurd (fok_iff.1 hx) h
theorem fok_cases (q a : Int) : (fok q a = true ∧ 0 ≤ a ∧ a < q) ∨ fok q a = false := by
  cases hx : fok q a with
  | false => exact .inr rfl
  | true => exact .inl ⟨rfl, fok_iff.1 hx⟩

section
variable {h : H} {F : Nat} {q p : Int} {m : Nat} {g : Int} {mod : List Int} {E L om fm cm : Nat}

theorem phas_call (u : PUse h F q p m g mod E L om fm cm) (a : Int) : call T 49 [.pointer (some ⟨F, 0, none⟩), .int .i64 a] h = some (.bool (fok q a), h) := by
  have f0 := u.f0
  rw [call_at T49 rfl]
  unfold F49 c49 fok
  by_cases h0 : 0 ≤ a
  · simp (disch := first | omega | (simp only [Go.Am.len_push, Go.Am.len_set, Go.Am.len_kill] <;> omega) | fail) only [push_cast, Nat.reduceBEq, Nat.reduceAdd, Nat.reduceMul, Nat.reduceSub, Nat.reduceLT, Nat.reduceGT, Nat.reduceLeDiff, Nat.reduceEqDiff, Int.reduceToNat, Int.reduceAdd, Int.reduceMul, Int.reduceSub, Int.reduceNeg, Int.reduceLT, Int.reduceLE, Int.reduceEq, Nat.zero_add, Nat.add_zero, Nat.mul_one, eq_self, ne_eq, not_true, not_false_iff, and_true, true_and, and_self, List.getElem?_cons_zero, List.getElem?_cons_succ, List.map_cons, List.map_nil, dec_le h0, f0]
  · simp (disch := first | omega | (simp only [Go.Am.len_push, Go.Am.len_set, Go.Am.len_kill] <;> omega) | fail) only [push_cast, Nat.reduceBEq, Nat.reduceAdd, Nat.reduceMul, Nat.reduceSub, Nat.reduceLT, Nat.reduceGT, Nat.reduceLeDiff, Nat.reduceEqDiff, Int.reduceToNat, Int.reduceAdd, Int.reduceMul, Int.reduceSub, Int.reduceNeg, Int.reduceLT, Int.reduceLE, Int.reduceEq, Nat.zero_add, Nat.add_zero, Nat.mul_one, eq_self, ne_eq, not_true, not_false_iff, and_true, true_and, and_self, List.getElem?_cons_zero, List.getElem?_cons_succ, List.map_cons, List.map_nil, dec_nle (Int.lt_of_not_ge h0)]
theorem psize_call (u : PUse h F q p m g mod E L om fm cm) : call T 44 [.pointer (some ⟨F, 0, none⟩)] h = some (.int .i64 q, h) := by
  have f0 := u.f0
  rw [call_at T44 rfl]
  unfold F44 c44
  simp (disch := first | omega | (simp only [Go.Am.len_push, Go.Am.len_set, Go.Am.len_kill] <;> omega) | fail) only [push_cast, Nat.reduceBEq, Nat.reduceAdd, Nat.reduceMul, Nat.reduceSub, Nat.reduceLT, Nat.reduceGT, Nat.reduceLeDiff, Nat.reduceEqDiff, Int.reduceToNat, Int.reduceAdd, Int.reduceMul, Int.reduceSub, Int.reduceNeg, Int.reduceLT, Int.reduceLE, Int.reduceEq, Nat.zero_add, Nat.add_zero, Nat.mul_one, eq_self, ne_eq, not_true, not_false_iff, and_true, true_and, and_self, List.getElem?_cons_zero, List.getElem?_cons_succ, List.map_cons, List.map_nil, f0]
theorem pchar_call (u : PUse h F q p m g mod E L om fm cm) : call T 45 [.pointer (some ⟨F, 0, none⟩)] h = some (.int .i64 p, h) := by
  have f0 := u.f1
  rw [call_at T45 rfl]
  unfold F45 c45
  simp (disch := first | omega | (simp only [Go.Am.len_push, Go.Am.len_set, Go.Am.len_kill] <;> omega) | fail) only [push_cast, Nat.reduceBEq, Nat.reduceAdd, Nat.reduceMul, Nat.reduceSub, Nat.reduceLT, Nat.reduceGT, Nat.reduceLeDiff, Nat.reduceEqDiff, Int.reduceToNat, Int.reduceAdd, Int.reduceMul, Int.reduceSub, Int.reduceNeg, Int.reduceLT, Int.reduceLE, Int.reduceEq, Nat.zero_add, Nat.add_zero, Nat.mul_one, eq_self, ne_eq, not_true, not_false_iff, and_true, true_and, and_self, List.getElem?_cons_zero, List.getElem?_cons_succ, List.map_cons, List.map_nil, f0]
theorem pdegree_call (u : PUse h F q p m g mod E L om fm cm) : call T 46 [.pointer (some ⟨F, 0, none⟩)] h = some (.int .i64 m, h) := by
  have f0 := u.f2
  rw [call_at T46 rfl]
  unfold F46 c46
  simp (disch := first | omega | (simp only [Go.Am.len_push, Go.Am.len_set, Go.Am.len_kill] <;> omega) | fail) only [push_cast, Nat.reduceBEq, Nat.reduceAdd, Nat.reduceMul, Nat.reduceSub, Nat.reduceLT, Nat.reduceGT, Nat.reduceLeDiff, Nat.reduceEqDiff, Int.reduceToNat, Int.reduceAdd, Int.reduceMul, Int.reduceSub, Int.reduceNeg, Int.reduceLT, Int.reduceLE, Int.reduceEq, Nat.zero_add, Nat.add_zero, Nat.mul_one, eq_self, ne_eq, not_true, not_false_iff, and_true, true_and, and_self, List.getElem?_cons_zero, List.getElem?_cons_succ, List.map_cons, List.map_nil, f0]
theorem pgen_call (u : PUse h F q p m g mod E L om fm cm) : call T 47 [.pointer (some ⟨F, 0, none⟩)] h = some (.int .i64 g, h) := by
  have f0 := u.f4
  rw [call_at T47 rfl]
  unfold F47 c47
  simp (disch := first | omega | (simp only [Go.Am.len_push, Go.Am.len_set, Go.Am.len_kill] <;> omega) | fail) only [push_cast, Nat.reduceBEq, Nat.reduceAdd, Nat.reduceMul, Nat.reduceSub, Nat.reduceLT, Nat.reduceGT, Nat.reduceLeDiff, Nat.reduceEqDiff, Int.reduceToNat, Int.reduceAdd, Int.reduceMul, Int.reduceSub, Int.reduceNeg, Int.reduceLT, Int.reduceLE, Int.reduceEq, Nat.zero_add, Nat.add_zero, Nat.mul_one, eq_self, ne_eq, not_true, not_false_iff, and_true, true_and, and_self, List.getElem?_cons_zero, List.getElem?_cons_succ, List.map_cons, List.map_nil, f0]
theorem plog_call (u : PUse h F q p m g mod E L om fm cm) (a : Int) : call T 63 [.pointer (some ⟨F, 0, none⟩), .int .i64 a] h = some (.int .i64 (flogS q a), h) := by
  have f6 := u.f6
  have q2 := u.q2
  have eh := phas_call u a
  rw [call_at T63 rfl, flogS]
  unfold F63 c63
  rcases fok_cases q a with ⟨ho, h0, h1⟩ | ho
  · have e1 := u.ll a h0 h1
    have hi1 : 0 ≤ a ∧ a < ((q.toNat : Nat) : Int) := by omega
    have hi2 : a < max q 0 := by omega
    rw [ho] at eh ⊢
    simp (disch := first | omega | (simp only [Go.Am.len_push, Go.Am.len_set, Go.Am.len_kill] <;> omega) | fail) only [push_cast, Nat.reduceBEq, Nat.reduceAdd, Nat.reduceMul, Nat.reduceSub, Nat.reduceLT, Nat.reduceGT, Nat.reduceLeDiff, Nat.reduceEqDiff, Int.reduceToNat, Int.reduceAdd, Int.reduceMul, Int.reduceSub, Int.reduceNeg, Int.reduceLT, Int.reduceLE, Int.reduceEq, Nat.zero_add, Nat.add_zero, Nat.mul_one, eq_self, ne_eq, not_true, not_false_iff, and_true, true_and, and_self, List.getElem?_cons_zero, List.getElem?_cons_succ, List.map_cons, List.map_nil, eh, f6, hi1, hi2, e1]
  · rw [ho] at eh ⊢
    simp (disch := first | omega | (simp only [Go.Am.len_push, Go.Am.len_set, Go.Am.len_kill] <;> omega) | fail) only [push_cast, Nat.reduceBEq, Nat.reduceAdd, Nat.reduceMul, Nat.reduceSub, Nat.reduceLT, Nat.reduceGT, Nat.reduceLeDiff, Nat.reduceEqDiff, Int.reduceToNat, Int.reduceAdd, Int.reduceMul, Int.reduceSub, Int.reduceNeg, Int.reduceLT, Int.reduceLE, Int.reduceEq, Nat.zero_add, Nat.add_zero, Nat.mul_one, eq_self, ne_eq, not_true, not_false_iff, and_true, true_and, and_self, List.getElem?_cons_zero, List.getElem?_cons_succ, List.map_cons, List.map_nil, eh]
theorem pmul_call (hn : fldN q.toNat = some (p, m, g, mod)) (u : PUse h F q p m g mod E L om fm cm) (a b : Int) : call T 55 [.pointer (some ⟨F, 0, none⟩), .int .i64 a, .int .i64 b] h = some (.int .i64 (fmul q a b), h) := by
  have f0 := u.f0
  have f5 := u.f5
  have f6 := u.f6
  have q2 := u.q2
  have q64 := u.q64
  have eh := phas_call u a
  have ehb := phas_call u b
  rw [call_at T55 rfl, fmul]
  unfold F55 c55
  rcases fok_cases q a with ⟨ho, h0, h1⟩ | ho
  rotate_left
  · rw [ho] at eh ⊢
    simp (disch := first | omega | (simp only [Go.Am.len_push, Go.Am.len_set, Go.Am.len_kill] <;> omega) | fail) only [push_cast, Nat.reduceBEq, Nat.reduceAdd, Nat.reduceMul, Nat.reduceSub, Nat.reduceLT, Nat.reduceGT, Nat.reduceLeDiff, Nat.reduceEqDiff, Int.reduceToNat, Int.reduceAdd, Int.reduceMul, Int.reduceSub, Int.reduceNeg, Int.reduceLT, Int.reduceLE, Int.reduceEq, Nat.zero_add, Nat.add_zero, Nat.mul_one, eq_self, ne_eq, not_true, not_false_iff, and_true, true_and, and_self, List.getElem?_cons_zero, List.getElem?_cons_succ, List.map_cons, List.map_nil, eh]
  rw [ho] at eh ⊢
  rcases fok_cases q b with ⟨hob, h0b, h1b⟩ | hob
  rotate_left
  · rw [hob] at ehb ⊢
    simp (disch := first | omega | (simp only [Go.Am.len_push, Go.Am.len_set, Go.Am.len_kill] <;> omega) | fail) only [push_cast, Nat.reduceBEq, Nat.reduceAdd, Nat.reduceMul, Nat.reduceSub, Nat.reduceLT, Nat.reduceGT, Nat.reduceLeDiff, Nat.reduceEqDiff, Int.reduceToNat, Int.reduceAdd, Int.reduceMul, Int.reduceSub, Int.reduceNeg, Int.reduceLT, Int.reduceLE, Int.reduceEq, Nat.zero_add, Nat.add_zero, Nat.mul_one, eq_self, ne_eq, not_true, not_false_iff, and_true, true_and, and_self, List.getElem?_cons_zero, List.getElem?_cons_succ, List.map_cons, List.map_nil, eh, ehb]
  rw [hob] at ehb ⊢
  by_cases ha : a = 0
  · rw [show (a == 0) = true by simpa using ha]
    simp (disch := first | omega | (simp only [Go.Am.len_push, Go.Am.len_set, Go.Am.len_kill] <;> omega) | fail) only [push_cast, Nat.reduceBEq, Nat.reduceAdd, Nat.reduceMul, Nat.reduceSub, Nat.reduceLT, Nat.reduceGT, Nat.reduceLeDiff, Nat.reduceEqDiff, Int.reduceToNat, Int.reduceAdd, Int.reduceMul, Int.reduceSub, Int.reduceNeg, Int.reduceLT, Int.reduceLE, Int.reduceEq, Nat.zero_add, Nat.add_zero, Nat.mul_one, eq_self, ne_eq, not_true, not_false_iff, and_true, true_and, and_self, List.getElem?_cons_zero, List.getElem?_cons_succ, List.map_cons, List.map_nil, eh, ehb, dec_eq ha]
  rw [show (a == 0) = false by simpa using ha]
  by_cases hb : b = 0
  · rw [show (b == 0) = true by simpa using hb]
    simp (disch := first | omega | (simp only [Go.Am.len_push, Go.Am.len_set, Go.Am.len_kill] <;> omega) | fail) only [push_cast, Nat.reduceBEq, Nat.reduceAdd, Nat.reduceMul, Nat.reduceSub, Nat.reduceLT, Nat.reduceGT, Nat.reduceLeDiff, Nat.reduceEqDiff, Int.reduceToNat, Int.reduceAdd, Int.reduceMul, Int.reduceSub, Int.reduceNeg, Int.reduceLT, Int.reduceLE, Int.reduceEq, Nat.zero_add, Nat.add_zero, Nat.mul_one, eq_self, ne_eq, not_true, not_false_iff, and_true, true_and, and_self, List.getElem?_cons_zero, List.getElem?_cons_succ, List.map_cons, List.map_nil, eh, ehb, dec_ne ha, dec_eq hb]
  rw [show (b == 0) = false by simpa using hb]
  have e1 := u.ll a h0 h1
  have e2 := u.ll b h0b h1b
  have t := tabs_ok hn
  have l1 := t.lr a (by omega) h1
  have l2 := t.lr b (by omega) h1b
  obtain ⟨k, hk⟩ : ∃ k, k = (flog q a + flog q b) % (q - 1) := ⟨_, rfl⟩
  have hk0 : 0 ≤ k := by rw [hk]; exact Int.emod_nonneg _ (by omega)
  have hk1 : k < q - 1 := by rw [hk]; exact Int.emod_lt_of_pos _ (by omega)
  have e3 := u.le k hk0 hk1
  have q1 : (flog q a + flog q b).tmod (q - 1) = k := by rw [hk]; exact Int.tmod_eq_emod_of_nonneg (by omega)
  have hi1 : 0 ≤ a ∧ a < ((q.toNat : Nat) : Int) := by omega
  have hi2 : a < max q 0 := by omega
  have hi1b : 0 ≤ b ∧ b < ((q.toNat : Nat) : Int) := by omega
  have hi2b : b < max q 0 := by omega
  have hi3 : 0 ≤ k ∧ k < (((q - 1).toNat : Nat) : Int) := by omega
  have hi4 : k < max (q - 1) 0 := by omega
  have hq0 : ¬ q - 1 = 0 := by omega
  rw [← hk]
  simp (disch := first | omega | (simp only [Go.Am.len_push, Go.Am.len_set, Go.Am.len_kill] <;> omega) | fail) only [push_cast, Nat.reduceBEq, Nat.reduceAdd, Nat.reduceMul, Nat.reduceSub, Nat.reduceLT, Nat.reduceGT, Nat.reduceLeDiff, Nat.reduceEqDiff, Int.reduceToNat, Int.reduceAdd, Int.reduceMul, Int.reduceSub, Int.reduceNeg, Int.reduceLT, Int.reduceLE, Int.reduceEq, Nat.zero_add, Nat.add_zero, Nat.mul_one, eq_self, ne_eq, not_true, not_false_iff, and_true, true_and, and_self, List.getElem?_cons_zero, List.getElem?_cons_succ, List.map_cons, List.map_nil, eh, ehb, dec_ne ha, dec_ne hb, f0, f5, f6, hi1, hi2, hi1b, hi2b, e1, e2, wrap64, hq0, q1, hi3, hi4, e3]
theorem pinv_call (hn : fldN q.toNat = some (p, m, g, mod)) (u : PUse h F q p m g mod E L om fm cm) (a : Int) : call T 59 [.pointer (some ⟨F, 0, none⟩), .int .i64 a] h = some (.int .i64 (finv q a), h) := by
  have f0 := u.f0
  have f5 := u.f5
  have f6 := u.f6
  have q2 := u.q2
  have q64 := u.q64
  have eh := phas_call u a
  rw [call_at T59 rfl, finv]
  unfold F59 c59
  rcases fok_cases q a with ⟨ho, h0, h1⟩ | ho
  rotate_left
  · rw [ho] at eh ⊢
    simp (disch := first | omega | (simp only [Go.Am.len_push, Go.Am.len_set, Go.Am.len_kill] <;> omega) | fail) only [push_cast, Nat.reduceBEq, Nat.reduceAdd, Nat.reduceMul, Nat.reduceSub, Nat.reduceLT, Nat.reduceGT, Nat.reduceLeDiff, Nat.reduceEqDiff, Int.reduceToNat, Int.reduceAdd, Int.reduceMul, Int.reduceSub, Int.reduceNeg, Int.reduceLT, Int.reduceLE, Int.reduceEq, Nat.zero_add, Nat.add_zero, Nat.mul_one, eq_self, ne_eq, not_true, not_false_iff, and_true, true_and, and_self, List.getElem?_cons_zero, List.getElem?_cons_succ, List.map_cons, List.map_nil, eh]
  rw [ho] at eh ⊢
  by_cases ha : a = 0
  · rw [show (a == 0) = true by simpa using ha]
    simp (disch := first | omega | (simp only [Go.Am.len_push, Go.Am.len_set, Go.Am.len_kill] <;> omega) | fail) only [push_cast, Nat.reduceBEq, Nat.reduceAdd, Nat.reduceMul, Nat.reduceSub, Nat.reduceLT, Nat.reduceGT, Nat.reduceLeDiff, Nat.reduceEqDiff, Int.reduceToNat, Int.reduceAdd, Int.reduceMul, Int.reduceSub, Int.reduceNeg, Int.reduceLT, Int.reduceLE, Int.reduceEq, Nat.zero_add, Nat.add_zero, Nat.mul_one, eq_self, ne_eq, not_true, not_false_iff, and_true, true_and, and_self, List.getElem?_cons_zero, List.getElem?_cons_succ, List.map_cons, List.map_nil, eh, dec_eq ha]
  rw [show (a == 0) = false by simpa using ha]
  have e1 := u.ll a h0 h1
  have t := tabs_ok hn
  have l1 := t.lr a (by omega) h1
  obtain ⟨k, hk⟩ : ∃ k, k = (q - 1 - flog q a) % (q - 1) := ⟨_, rfl⟩
  have hk0 : 0 ≤ k := by rw [hk]; exact Int.emod_nonneg _ (by omega)
  have hk1 : k < q - 1 := by rw [hk]; exact Int.emod_lt_of_pos _ (by omega)
  have e3 := u.le k hk0 hk1
  have q1 : (q - 1 - flog q a).tmod (q - 1) = k := by rw [hk]; exact Int.tmod_eq_emod_of_nonneg (by omega)
  have hi1 : 0 ≤ a ∧ a < ((q.toNat : Nat) : Int) := by omega
  have hi2 : a < max q 0 := by omega
  have hi3 : 0 ≤ k ∧ k < (((q - 1).toNat : Nat) : Int) := by omega
  have hi4 : k < max (q - 1) 0 := by omega
  have hq0 : ¬ q - 1 = 0 := by omega
  rw [← hk]
  simp (disch := first | omega | (simp only [Go.Am.len_push, Go.Am.len_set, Go.Am.len_kill] <;> omega) | fail) only [push_cast, Nat.reduceBEq, Nat.reduceAdd, Nat.reduceMul, Nat.reduceSub, Nat.reduceLT, Nat.reduceGT, Nat.reduceLeDiff, Nat.reduceEqDiff, Int.reduceToNat, Int.reduceAdd, Int.reduceMul, Int.reduceSub, Int.reduceNeg, Int.reduceLT, Int.reduceLE, Int.reduceEq, Nat.zero_add, Nat.add_zero, Nat.mul_one, eq_self, ne_eq, not_true, not_false_iff, and_true, true_and, and_self, List.getElem?_cons_zero, List.getElem?_cons_succ, List.map_cons, List.map_nil, eh, dec_ne ha, f0, f5, f6, hi1, hi2, e1, wrap64, hq0, q1, hi3, hi4, e3]
theorem ppow_call (hn : fldN q.toNat = some (p, m, g, mod)) (u : PUse h F q p m g mod E L om fm cm) (a k : Int) : call T 61 [.pointer (some ⟨F, 0, none⟩), .int .i64 a, .int .i64 k] h = some (.int .i64 (fpow q a k), h) := by
  have f0 := u.f0
  have f5 := u.f5
  have f6 := u.f6
  have q2 := u.q2
  have q64 := u.q64
  have eh := phas_call u a
  rw [call_at T61 rfl, fpow]
  unfold F61 c61
  rcases fok_cases q a with ⟨ho, h0, h1⟩ | ho
  rotate_left
  · rw [ho] at eh ⊢
    simp (disch := first | omega | (simp only [Go.Am.len_push, Go.Am.len_set, Go.Am.len_kill] <;> omega) | fail) only [push_cast, Nat.reduceBEq, Nat.reduceAdd, Nat.reduceMul, Nat.reduceSub, Nat.reduceLT, Nat.reduceGT, Nat.reduceLeDiff, Nat.reduceEqDiff, Int.reduceToNat, Int.reduceAdd, Int.reduceMul, Int.reduceSub, Int.reduceNeg, Int.reduceLT, Int.reduceLE, Int.reduceEq, Nat.zero_add, Nat.add_zero, Nat.mul_one, eq_self, ne_eq, not_true, not_false_iff, and_true, true_and, and_self, List.getElem?_cons_zero, List.getElem?_cons_succ, List.map_cons, List.map_nil, eh]
  rw [ho] at eh ⊢
  by_cases ha : a = 0
  · rw [show (a == 0) = true by simpa using ha]
    by_cases hk : k < 0
    · rw [decide_eq_true hk]
      simp (disch := first | omega | (simp only [Go.Am.len_push, Go.Am.len_set, Go.Am.len_kill] <;> omega) | fail) only [push_cast, Nat.reduceBEq, Nat.reduceAdd, Nat.reduceMul, Nat.reduceSub, Nat.reduceLT, Nat.reduceGT, Nat.reduceLeDiff, Nat.reduceEqDiff, Int.reduceToNat, Int.reduceAdd, Int.reduceMul, Int.reduceSub, Int.reduceNeg, Int.reduceLT, Int.reduceLE, Int.reduceEq, Nat.zero_add, Nat.add_zero, Nat.mul_one, eq_self, ne_eq, not_true, not_false_iff, and_true, true_and, and_self, List.getElem?_cons_zero, List.getElem?_cons_succ, List.map_cons, List.map_nil, eh, dec_eq ha, dec_lt hk]
    rw [decide_eq_false hk]
    by_cases hk0 : k = 0
    · rw [show (k == 0) = true by simpa using hk0]
      simp (disch := first | omega | (simp only [Go.Am.len_push, Go.Am.len_set, Go.Am.len_kill] <;> omega) | fail) only [push_cast, Nat.reduceBEq, Nat.reduceAdd, Nat.reduceMul, Nat.reduceSub, Nat.reduceLT, Nat.reduceGT, Nat.reduceLeDiff, Nat.reduceEqDiff, Int.reduceToNat, Int.reduceAdd, Int.reduceMul, Int.reduceSub, Int.reduceNeg, Int.reduceLT, Int.reduceLE, Int.reduceEq, Nat.zero_add, Nat.add_zero, Nat.mul_one, eq_self, ne_eq, not_true, not_false_iff, and_true, true_and, and_self, List.getElem?_cons_zero, List.getElem?_cons_succ, List.map_cons, List.map_nil, eh, dec_eq ha, dec_nlt (Int.not_lt.1 hk), dec_eq hk0]
    · rw [show (k == 0) = false by simpa using hk0]
      simp (disch := first | omega | (simp only [Go.Am.len_push, Go.Am.len_set, Go.Am.len_kill] <;> omega) | fail) only [push_cast, Nat.reduceBEq, Nat.reduceAdd, Nat.reduceMul, Nat.reduceSub, Nat.reduceLT, Nat.reduceGT, Nat.reduceLeDiff, Nat.reduceEqDiff, Int.reduceToNat, Int.reduceAdd, Int.reduceMul, Int.reduceSub, Int.reduceNeg, Int.reduceLT, Int.reduceLE, Int.reduceEq, Nat.zero_add, Nat.add_zero, Nat.mul_one, eq_self, ne_eq, not_true, not_false_iff, and_true, true_and, and_self, List.getElem?_cons_zero, List.getElem?_cons_succ, List.map_cons, List.map_nil, eh, dec_eq ha, dec_nlt (Int.not_lt.1 hk), dec_ne hk0]
  rw [show (a == 0) = false by simpa using ha]
  by_cases hk0 : k = 0
  · rw [show (k == 0) = true by simpa using hk0]
    simp (disch := first | omega | (simp only [Go.Am.len_push, Go.Am.len_set, Go.Am.len_kill] <;> omega) | fail) only [push_cast, Nat.reduceBEq, Nat.reduceAdd, Nat.reduceMul, Nat.reduceSub, Nat.reduceLT, Nat.reduceGT, Nat.reduceLeDiff, Nat.reduceEqDiff, Int.reduceToNat, Int.reduceAdd, Int.reduceMul, Int.reduceSub, Int.reduceNeg, Int.reduceLT, Int.reduceLE, Int.reduceEq, Nat.zero_add, Nat.add_zero, Nat.mul_one, eq_self, ne_eq, not_true, not_false_iff, and_true, true_and, and_self, List.getElem?_cons_zero, List.getElem?_cons_succ, List.map_cons, List.map_nil, eh, dec_ne ha, dec_eq hk0]
  rw [show (k == 0) = false by simpa using hk0]
  have e1 := u.ll a h0 h1
  have t := tabs_ok hn
  have l1 := t.lr a (by omega) h1
  have hq0 : ¬ q - 1 = 0 := by omega
  have hk1 : 0 ≤ k % (q - 1) := Int.emod_nonneg _ hq0
  have hk2 : k % (q - 1) < q - 1 := Int.emod_lt_of_pos _ (by omega)
  obtain ⟨j, hj⟩ : ∃ j, j = k % (q - 1) := ⟨_, rfl⟩
  rw [← hj] at hk1 hk2 ⊢
  have hlj : flog q a * j ≤ 64 * 64 := Int.mul_le_mul (by omega) (by omega) (by omega) (by omega)
  have hlj0 : 0 ≤ flog q a * j := Int.mul_nonneg (by omega) hk1
  obtain ⟨i, hi⟩ : ∃ i, i = flog q a * j % (q - 1) := ⟨_, rfl⟩
  have hi0 : 0 ≤ i := by rw [hi]; exact Int.emod_nonneg _ (by omega)
  have hil : i < q - 1 := by rw [hi]; exact Int.emod_lt_of_pos _ (by omega)
  have e3 := u.le i hi0 hil
  have q1 : (flog q a * j).tmod (q - 1) = i := by rw [hi]; exact Int.tmod_eq_emod_of_nonneg hlj0
  have hi1 : 0 ≤ a ∧ a < ((q.toNat : Nat) : Int) := by omega
  have hi2 : a < max q 0 := by omega
  have hi3 : 0 ≤ i ∧ i < (((q - 1).toNat : Nat) : Int) := by omega
  have hi4 : i < max (q - 1) 0 := by omega
  rw [← hi]
  have hte : k.tmod (q - 1) = if 0 ≤ k ∨ k % (q - 1) = 0 then j else j - (q - 1) := by
    rw [Int.tmod_eq_emod, hj]
    by_cases hc : 0 ≤ k ∨ (q - 1) ∣ k
    · rw [if_pos hc, if_pos (by rcases hc with h | h; exact .inl h; exact .inr (Int.emod_eq_zero_of_dvd h))]; simp
    · rw [if_neg hc, if_neg (fun h => hc (by rcases h with h | h; exact .inl h; exact .inr (Int.dvd_of_emod_eq_zero h)))]
      have : ((q - 1).natAbs : Int) = q - 1 := by omega
      rw [this]
  by_cases hc : 0 ≤ k ∨ k % (q - 1) = 0
  · rw [if_pos hc] at hte
    simp (disch := first | omega | (simp only [Go.Am.len_push, Go.Am.len_set, Go.Am.len_kill] <;> omega) | fail) only [push_cast, Nat.reduceBEq, Nat.reduceAdd, Nat.reduceMul, Nat.reduceSub, Nat.reduceLT, Nat.reduceGT, Nat.reduceLeDiff, Nat.reduceEqDiff, Int.reduceToNat, Int.reduceAdd, Int.reduceMul, Int.reduceSub, Int.reduceNeg, Int.reduceLT, Int.reduceLE, Int.reduceEq, Nat.zero_add, Nat.add_zero, Nat.mul_one, eq_self, ne_eq, not_true, not_false_iff, and_true, true_and, and_self, List.getElem?_cons_zero, List.getElem?_cons_succ, List.map_cons, List.map_nil, eh, dec_ne ha, dec_ne hk0, f0, f5, f6, hi1, hi2, e1, wrap64, hq0, hte, dec_nlt hk1, q1, hi3, hi4, e3]
  · rw [if_neg hc] at hte
    have hneg : j - (q - 1) < 0 := by omega
    have hb : j - (q - 1) + (q - 1) = j := by omega
    simp (disch := first | omega | (simp only [Go.Am.len_push, Go.Am.len_set, Go.Am.len_kill] <;> omega) | fail) only [push_cast, Nat.reduceBEq, Nat.reduceAdd, Nat.reduceMul, Nat.reduceSub, Nat.reduceLT, Nat.reduceGT, Nat.reduceLeDiff, Nat.reduceEqDiff, Int.reduceToNat, Int.reduceAdd, Int.reduceMul, Int.reduceSub, Int.reduceNeg, Int.reduceLT, Int.reduceLE, Int.reduceEq, Nat.zero_add, Nat.add_zero, Nat.mul_one, eq_self, ne_eq, not_true, not_false_iff, and_true, true_and, and_self, List.getElem?_cons_zero, List.getElem?_cons_succ, List.map_cons, List.map_nil, eh, dec_ne ha, dec_ne hk0, f0, f5, f6, hi1, hi2, e1, wrap64, hq0, hte, dec_lt hneg, hb, q1, hi3, hi4, e3]
end
end Go.Proofs.Ytammndhoillliaa
namespace Go.Proofs.Ytammndhoillliaa
open Go.Am
set_option linter.unusedVariables false
set_option linter.unusedSimpArgs false
set_option maxRecDepth 30000

/-- a copy of a list in a row of its own -/
theorem app_copy {h : H} {a : Option Addr} {c e : Nat} {l : List Int} (hr : RdI h a c l) (hl : l.length ≤ 1000000) :
    aapp e 1 8 (h ++ [.row ⟨[], e, 1, true⟩]) (.slice (some ⟨h.length, 0, none⟩) 0 0) (.slice a l.length c) =
      some (.slice (some ⟨h.length + 1, 0, none⟩) l.length l.length, kill (h ++ [.row ⟨[], e, 1, true⟩]) h.length ++ [.row ⟨ints l, e, 1, true⟩]) := by
  have hs := (hr.mono (List.prefix_append h [.row ⟨[], e, 1, true⟩])).src
  unfold aapp
  simp only [hs, row_push_new]
  rw [if_pos (by simp [few]; omega), len_push, Nat.zero_add]
  rfl
theorem copy_pre {h : H} {b b' : Ob} : h <+: kill (h ++ [b]) h.length ++ [b'] := pre_of (by rw [front_len]; omega) (fun o ho => front_keep ho)

theorem fdat_eq {q p g : Int} {m : Nat} {mod : List Int} (hn : fldN q.toNat = some (p, m, g, mod)) : fch q = p ∧ fdg q = m := by
  unfold fch fdg; rw [hn]; exact ⟨rfl, rfl⟩

section
variable {h : H} {F : Nat} {q p : Int} {m : Nat} {g : Int} {mod : List Int} {E L om fm cm : Nat}

theorem ppoly_call (u : PUse h F q p m g mod E L om fm cm) (hml : mod.length ≤ 1000000) : ∃ (h' : H) (o : Nat), h <+: h' ∧ RdI h' (some ⟨o, 0, none⟩) mod.length mod ∧ call T 48 [.pointer (some ⟨F, 0, none⟩)] h = some (.slice (some ⟨o, 0, none⟩) mod.length mod.length, h') := by
  have f3 : H.ld1 (h ++ [.row ⟨[], 3, 1, true⟩]) F 3 = some (.slice (some ⟨om, fm, none⟩) mod.length cm) := ld1_pre u.f3 (List.prefix_append _ _)
  have ea := app_copy (e := 3) u.rm hml
  refine ⟨kill (h ++ [.row ⟨[], 3, 1, true⟩]) h.length ++ [.row ⟨ints mod, 3, 1, true⟩], h.length + 1, copy_pre, RdI.ofRow front_row rfl, ?_⟩
  rw [call_at T48 rfl]
  unfold F48 c48
  simp (disch := first | omega | (simp only [Go.Am.len_push, Go.Am.len_set, Go.Am.len_kill] <;> omega) | fail) only [push_cast, Nat.reduceBEq, Nat.reduceAdd, Nat.reduceMul, Nat.reduceSub, Nat.reduceLT, Nat.reduceGT, Nat.reduceLeDiff, Nat.reduceEqDiff, Int.reduceToNat, Int.reduceAdd, Int.reduceMul, Int.reduceSub, Int.reduceNeg, Int.reduceLT, Int.reduceLE, Int.reduceEq, Nat.zero_add, Nat.add_zero, Nat.mul_one, eq_self, ne_eq, not_true, not_false_iff, and_true, true_and, and_self, List.getElem?_cons_zero, List.getElem?_cons_succ, List.map_cons, List.map_nil, f3, ea]

theorem addN_bound {p : Int} (hp : 0 < p) : ∀ (n : Nat) (a b : Int), 0 ≤ addN p n a b ∧ addN p n a b < p ^ n
  | 0, a, b => by simp [addN]
  | n + 1, a, b => by
    have h1 := addN_bound hp n (a / p) (b / p)
    have h2 := Int.emod_nonneg (a % p + b % p) (show p ≠ 0 by omega)
    have h3 := Int.emod_lt_of_pos (a % p + b % p) hp
    have h4 : 0 ≤ p * addN p n (a / p) (b / p) := Int.mul_nonneg (by omega) h1.1
    have h5 : p * (addN p n (a / p) (b / p) + 1) ≤ p * p ^ n := Int.mul_le_mul_of_nonneg_left (by omega) (by omega)
    rw [addN, Int.pow_succ, Int.mul_comm (p ^ n) p]
    rw [Int.mul_add, Int.mul_one] at h5
    omega
theorem negN_bound {p : Int} (hp : 0 < p) : ∀ (n : Nat) (a : Int), 0 ≤ negN p n a ∧ negN p n a < p ^ n
  | 0, a => by simp [negN]
  | n + 1, a => by
    have h1 := negN_bound hp n (a / p)
    have h2 := Int.emod_nonneg (p - a % p) (show p ≠ 0 by omega)
    have h3 := Int.emod_lt_of_pos (p - a % p) hp
    have h4 : 0 ≤ p * negN p n (a / p) := Int.mul_nonneg (by omega) h1.1
    have h5 : p * (negN p n (a / p) + 1) ≤ p * p ^ n := Int.mul_le_mul_of_nonneg_left (by omega) (by omega)
    rw [negN, Int.pow_succ, Int.mul_comm (p ^ n) p]
    rw [Int.mul_add, Int.mul_one] at h5
    omega

theorem padd_loop (u : PUse h F q p m g mod E L om fm cm) (hf : FOk q p m mod) : ∀ (n : Nat) (a b s w i : Int), i + n = m → 0 ≤ i → 0 ≤ a → a ≤ 64 → 0 ≤ b → b ≤ 64 → 0 ≤ s → s + 4096 * n ≤ 100000 → 1 ≤ w → w * p ^ n ≤ 64 →
    ∀ ks, goL T [.tmp 6] [0, 1, 2, 7, 8, 22, 23] c51L0 (.blk 0 [7] :: ks) [(0, .pointer (some ⟨F, 0, none⟩)), (1, .int .i64 a), (2, .int .i64 b), (7, .int .i64 s), (8, .int .i64 w), (22, .int .i64 m), (23, .int .i64 i)] h =
      go T [.tmp 6] ks (Fr.of [(7, .int .i64 (s + w * addN p n a b))]) h
  | 0, a, b, s, w, i, hi, hi0, ha, ha2, hb, hb2, hs, hs2, hw, hw2 => fun ks => by
    rw [goL_at c51L0.eq_def]
    simp (disch := first | omega | (simp only [Go.Am.len_push, Go.Am.len_set, Go.Am.len_kill] <;> omega) | fail) only [push_cast, Nat.reduceBEq, Nat.reduceAdd, Nat.reduceMul, Nat.reduceSub, Nat.reduceLT, Nat.reduceGT, Nat.reduceLeDiff, Nat.reduceEqDiff, Int.reduceToNat, Int.reduceAdd, Int.reduceMul, Int.reduceSub, Int.reduceNeg, Int.reduceLT, Int.reduceLE, Int.reduceEq, Nat.zero_add, Nat.add_zero, Nat.mul_one, eq_self, ne_eq, not_true, not_false_iff, and_true, true_and, and_self, List.getElem?_cons_zero, List.getElem?_cons_succ, List.map_cons, List.map_nil, dec_nlt, addN, Int.mul_zero, Int.add_zero]
  | n + 1, a, b, s, w, i, hi, hi0, ha, ha2, hb, hb2, hs, hs2, hw, hw2 => fun ks => by
    have f1 := u.f1
    have hp := hf.p2
    have hp64 := hf.p64
    have hm := hf.m10
    have hp0 : ¬ p = 0 := by omega
    have a1 := Int.emod_nonneg a hp0
    have a2 := Int.emod_lt_of_pos a (show 0 < p by omega)
    have b1 := Int.emod_nonneg b hp0
    have b2 := Int.emod_lt_of_pos b (show 0 < p by omega)
    have a3 : 0 ≤ a / p := Int.ediv_nonneg ha (by omega)
    have a4 : a / p ≤ a := Int.ediv_le_self _ ha
    have b3 : 0 ≤ b / p := Int.ediv_nonneg hb (by omega)
    have b4 : b / p ≤ b := Int.ediv_le_self _ hb
    obtain ⟨d, hd⟩ : ∃ d, d = (a % p + b % p) % p := ⟨_, rfl⟩
    have d1 : 0 ≤ d := by rw [hd]; exact Int.emod_nonneg _ hp0
    have d2 : d < p := by rw [hd]; exact Int.emod_lt_of_pos _ (by omega)
    have q1 : a.tmod p = a % p := Int.tmod_eq_emod_of_nonneg ha
    have q2 : b.tmod p = b % p := Int.tmod_eq_emod_of_nonneg hb
    have q3 : (a % p + b % p).tmod p = d := by rw [hd]; exact Int.tmod_eq_emod_of_nonneg (by omega)
    have q4 : a.tdiv p = a / p := Int.tdiv_eq_ediv_of_nonneg ha
    have q5 : b.tdiv p = b / p := Int.tdiv_eq_ediv_of_nonneg hb
    have hpn : 1 ≤ p ^ n := by have := ipow_mono (p := p) (by omega) (Nat.zero_le n); simpa using this
    have w1 : w * p * p ^ n ≤ 64 := by rw [Int.pow_succ] at hw2; rw [Int.mul_assoc, Int.mul_comm p]; exact hw2
    have hwp : 0 ≤ w * p := Int.mul_nonneg (by omega) (by omega)
    have w2 : w * p * 1 ≤ w * p * p ^ n := Int.mul_le_mul_of_nonneg_left hpn hwp
    have w3 : 1 * 1 ≤ w * p := Int.mul_le_mul hw (by omega) (by omega) (by omega)
    have w4 : w * 1 ≤ w * p := Int.mul_le_mul_of_nonneg_left (by omega) (by omega)
    have dw : d * w ≤ 64 * 64 := Int.mul_le_mul (by omega) (by omega) (by omega) (by omega)
    have dw0 : 0 ≤ d * w := Int.mul_nonneg d1 (by omega)
    have e1 : s + w * addN p (n + 1) a b = s + d * w + w * p * addN p n (a / p) (b / p) := by
      rw [addN, ← hd, Int.mul_add, Int.mul_comm w d, Int.mul_assoc]; omega
    have ih := padd_loop u hf n (a / p) (b / p) (s + d * w) (w * p) (i + 1) (by omega) (by omega) a3 (by omega) b3 (by omega) (by omega) (by omega) (by omega) w1 ks
    rw [e1, ← ih, goL_at c51L0.eq_def]
    simp (disch := first | omega | (simp only [Go.Am.len_push, Go.Am.len_set, Go.Am.len_kill] <;> omega) | fail) only [push_cast, Nat.reduceBEq, Nat.reduceAdd, Nat.reduceMul, Nat.reduceSub, Nat.reduceLT, Nat.reduceGT, Nat.reduceLeDiff, Nat.reduceEqDiff, Int.reduceToNat, Int.reduceAdd, Int.reduceMul, Int.reduceSub, Int.reduceNeg, Int.reduceLT, Int.reduceLE, Int.reduceEq, Nat.zero_add, Nat.add_zero, Nat.mul_one, eq_self, ne_eq, not_true, not_false_iff, and_true, true_and, and_self, List.getElem?_cons_zero, List.getElem?_cons_succ, List.map_cons, List.map_nil, dec_lt, f1, hp0, q1, q2, q3, q4, q5, wrap64]
theorem padd_call (hn : fldN q.toNat = some (p, m, g, mod)) (u : PUse h F q p m g mod E L om fm cm) (hf : FOk q p m mod) (a b : Int) : call T 51 [.pointer (some ⟨F, 0, none⟩), .int .i64 a, .int .i64 b] h = some (.int .i64 (fadd q a b), h) := by
  have f2 := u.f2
  have q64 := u.q64
  have hm := hf.m10
  have eh := phas_call u a
  have ehb := phas_call u b
  obtain ⟨hc, hd⟩ := fdat_eq hn
  rw [call_at T51 rfl, fadd, hc, hd]
  unfold F51 c51
  rcases fok_cases q a with ⟨ho, h0, h1⟩ | ho
  rotate_left
  · rw [ho] at eh ⊢
    simp (disch := first | omega | (simp only [Go.Am.len_push, Go.Am.len_set, Go.Am.len_kill] <;> omega) | fail) only [push_cast, Nat.reduceBEq, Nat.reduceAdd, Nat.reduceMul, Nat.reduceSub, Nat.reduceLT, Nat.reduceGT, Nat.reduceLeDiff, Nat.reduceEqDiff, Int.reduceToNat, Int.reduceAdd, Int.reduceMul, Int.reduceSub, Int.reduceNeg, Int.reduceLT, Int.reduceLE, Int.reduceEq, Nat.zero_add, Nat.add_zero, Nat.mul_one, eq_self, ne_eq, not_true, not_false_iff, and_true, true_and, and_self, List.getElem?_cons_zero, List.getElem?_cons_succ, List.map_cons, List.map_nil, eh]
  rw [ho] at eh ⊢
  rcases fok_cases q b with ⟨hob, h0b, h1b⟩ | hob
  rotate_left
  · rw [hob] at ehb ⊢
    simp (disch := first | omega | (simp only [Go.Am.len_push, Go.Am.len_set, Go.Am.len_kill] <;> omega) | fail) only [push_cast, Nat.reduceBEq, Nat.reduceAdd, Nat.reduceMul, Nat.reduceSub, Nat.reduceLT, Nat.reduceGT, Nat.reduceLeDiff, Nat.reduceEqDiff, Int.reduceToNat, Int.reduceAdd, Int.reduceMul, Int.reduceSub, Int.reduceNeg, Int.reduceLT, Int.reduceLE, Int.reduceEq, Nat.zero_add, Nat.add_zero, Nat.mul_one, eq_self, ne_eq, not_true, not_false_iff, and_true, true_and, and_self, List.getElem?_cons_zero, List.getElem?_cons_succ, List.map_cons, List.map_nil, eh, ehb]
  rw [hob] at ehb ⊢
  have lo := padd_loop u hf m a b 0 1 0 (by omega) (by omega) h0 (by omega) h0b (by omega) (by omega) (by omega) (by omega) (by rw [Int.one_mul, hf.pm]; exact q64)
  rw [Int.zero_add, Int.one_mul] at lo
  simp (disch := first | omega | (simp only [Go.Am.len_push, Go.Am.len_set, Go.Am.len_kill] <;> omega) | fail) only [push_cast, Nat.reduceBEq, Nat.reduceAdd, Nat.reduceMul, Nat.reduceSub, Nat.reduceLT, Nat.reduceGT, Nat.reduceLeDiff, Nat.reduceEqDiff, Int.reduceToNat, Int.reduceAdd, Int.reduceMul, Int.reduceSub, Int.reduceNeg, Int.reduceLT, Int.reduceLE, Int.reduceEq, Nat.zero_add, Nat.add_zero, Nat.mul_one, eq_self, ne_eq, not_true, not_false_iff, and_true, true_and, and_self, List.getElem?_cons_zero, List.getElem?_cons_succ, List.map_cons, List.map_nil, eh, ehb, f2]
  rw [lo]
  simp (disch := first | omega | (simp only [Go.Am.len_push, Go.Am.len_set, Go.Am.len_kill] <;> omega) | fail) only [push_cast, Nat.reduceBEq, Nat.reduceAdd, Nat.reduceMul, Nat.reduceSub, Nat.reduceLT, Nat.reduceGT, Nat.reduceLeDiff, Nat.reduceEqDiff, Int.reduceToNat, Int.reduceAdd, Int.reduceMul, Int.reduceSub, Int.reduceNeg, Int.reduceLT, Int.reduceLE, Int.reduceEq, Nat.zero_add, Nat.add_zero, Nat.mul_one, eq_self, ne_eq, not_true, not_false_iff, and_true, true_and, and_self, List.getElem?_cons_zero, List.getElem?_cons_succ, List.map_cons, List.map_nil]

theorem pneg_loop (u : PUse h F q p m g mod E L om fm cm) (hf : FOk q p m mod) : ∀ (n : Nat) (a s w i : Int), i + n = m → 0 ≤ i → 0 ≤ a → a ≤ 64 → 0 ≤ s → s + 4096 * n ≤ 100000 → 1 ≤ w → w * p ^ n ≤ 64 →
    ∀ ks, goL T [.tmp 4] [0, 1, 5, 6, 14, 15] c57L0 (.blk 0 [5] :: ks) [(0, .pointer (some ⟨F, 0, none⟩)), (1, .int .i64 a), (5, .int .i64 s), (6, .int .i64 w), (14, .int .i64 m), (15, .int .i64 i)] h =
      go T [.tmp 4] ks (Fr.of [(5, .int .i64 (s + w * negN p n a))]) h
  | 0, a, s, w, i, hi, hi0, ha, ha2, hs, hs2, hw, hw2 => fun ks => by
    rw [goL_at c57L0.eq_def]
    simp (disch := first | omega | (simp only [Go.Am.len_push, Go.Am.len_set, Go.Am.len_kill] <;> omega) | fail) only [push_cast, Nat.reduceBEq, Nat.reduceAdd, Nat.reduceMul, Nat.reduceSub, Nat.reduceLT, Nat.reduceGT, Nat.reduceLeDiff, Nat.reduceEqDiff, Int.reduceToNat, Int.reduceAdd, Int.reduceMul, Int.reduceSub, Int.reduceNeg, Int.reduceLT, Int.reduceLE, Int.reduceEq, Nat.zero_add, Nat.add_zero, Nat.mul_one, eq_self, ne_eq, not_true, not_false_iff, and_true, true_and, and_self, List.getElem?_cons_zero, List.getElem?_cons_succ, List.map_cons, List.map_nil, dec_nlt, negN, Int.mul_zero, Int.add_zero]
  | n + 1, a, s, w, i, hi, hi0, ha, ha2, hs, hs2, hw, hw2 => fun ks => by
    have f1 := u.f1
    have hp := hf.p2
    have hp64 := hf.p64
    have hm := hf.m10
    have hp0 : ¬ p = 0 := by omega
    have a1 := Int.emod_nonneg a hp0
    have a2 := Int.emod_lt_of_pos a (show 0 < p by omega)
    have a3 : 0 ≤ a / p := Int.ediv_nonneg ha (by omega)
    have a4 : a / p ≤ a := Int.ediv_le_self _ ha
    obtain ⟨d, hd⟩ : ∃ d, d = (p - a % p) % p := ⟨_, rfl⟩
    have d1 : 0 ≤ d := by rw [hd]; exact Int.emod_nonneg _ hp0
    have d2 : d < p := by rw [hd]; exact Int.emod_lt_of_pos _ (by omega)
    have q1 : a.tmod p = a % p := Int.tmod_eq_emod_of_nonneg ha
    have q3 : (p - a % p).tmod p = d := by rw [hd]; exact Int.tmod_eq_emod_of_nonneg (by omega)
    have q4 : a.tdiv p = a / p := Int.tdiv_eq_ediv_of_nonneg ha
    have hpn : 1 ≤ p ^ n := by have := ipow_mono (p := p) (by omega) (Nat.zero_le n); simpa using this
    have w1 : w * p * p ^ n ≤ 64 := by rw [Int.pow_succ] at hw2; rw [Int.mul_assoc, Int.mul_comm p]; exact hw2
    have hwp : 0 ≤ w * p := Int.mul_nonneg (by omega) (by omega)
    have w2 : w * p * 1 ≤ w * p * p ^ n := Int.mul_le_mul_of_nonneg_left hpn hwp
    have w3 : 1 * 1 ≤ w * p := Int.mul_le_mul hw (by omega) (by omega) (by omega)
    have w4 : w * 1 ≤ w * p := Int.mul_le_mul_of_nonneg_left (by omega) (by omega)
    have dw : d * w ≤ 64 * 64 := Int.mul_le_mul (by omega) (by omega) (by omega) (by omega)
    have dw0 : 0 ≤ d * w := Int.mul_nonneg d1 (by omega)
    have e1 : s + w * negN p (n + 1) a = s + d * w + w * p * negN p n (a / p) := by
      rw [negN, ← hd, Int.mul_add, Int.mul_comm w d, Int.mul_assoc]; omega
    have ih := pneg_loop u hf n (a / p) (s + d * w) (w * p) (i + 1) (by omega) (by omega) a3 (by omega) (by omega) (by omega) (by omega) w1 ks
    rw [e1, ← ih, goL_at c57L0.eq_def]
    simp (disch := first | omega | (simp only [Go.Am.len_push, Go.Am.len_set, Go.Am.len_kill] <;> omega) | fail) only [push_cast, Nat.reduceBEq, Nat.reduceAdd, Nat.reduceMul, Nat.reduceSub, Nat.reduceLT, Nat.reduceGT, Nat.reduceLeDiff, Nat.reduceEqDiff, Int.reduceToNat, Int.reduceAdd, Int.reduceMul, Int.reduceSub, Int.reduceNeg, Int.reduceLT, Int.reduceLE, Int.reduceEq, Nat.zero_add, Nat.add_zero, Nat.mul_one, eq_self, ne_eq, not_true, not_false_iff, and_true, true_and, and_self, List.getElem?_cons_zero, List.getElem?_cons_succ, List.map_cons, List.map_nil, dec_lt, f1, hp0, q1, q3, q4, wrap64]
theorem pneg_call (hn : fldN q.toNat = some (p, m, g, mod)) (u : PUse h F q p m g mod E L om fm cm) (hf : FOk q p m mod) (a : Int) : call T 57 [.pointer (some ⟨F, 0, none⟩), .int .i64 a] h = some (.int .i64 (fneg q a), h) := by
  have f2 := u.f2
  have q64 := u.q64
  have hm := hf.m10
  have eh := phas_call u a
  obtain ⟨hc, hd⟩ := fdat_eq hn
  rw [call_at T57 rfl, fneg, hc, hd]
  unfold F57 c57
  rcases fok_cases q a with ⟨ho, h0, h1⟩ | ho
  rotate_left
  · rw [ho] at eh ⊢
    simp (disch := first | omega | (simp only [Go.Am.len_push, Go.Am.len_set, Go.Am.len_kill] <;> omega) | fail) only [push_cast, Nat.reduceBEq, Nat.reduceAdd, Nat.reduceMul, Nat.reduceSub, Nat.reduceLT, Nat.reduceGT, Nat.reduceLeDiff, Nat.reduceEqDiff, Int.reduceToNat, Int.reduceAdd, Int.reduceMul, Int.reduceSub, Int.reduceNeg, Int.reduceLT, Int.reduceLE, Int.reduceEq, Nat.zero_add, Nat.add_zero, Nat.mul_one, eq_self, ne_eq, not_true, not_false_iff, and_true, true_and, and_self, List.getElem?_cons_zero, List.getElem?_cons_succ, List.map_cons, List.map_nil, eh]
  rw [ho] at eh ⊢
  have lo := pneg_loop u hf m a 0 1 0 (by omega) (by omega) h0 (by omega) (by omega) (by omega) (by omega) (by rw [Int.one_mul, hf.pm]; exact q64)
  rw [Int.zero_add, Int.one_mul] at lo
  simp (disch := first | omega | (simp only [Go.Am.len_push, Go.Am.len_set, Go.Am.len_kill] <;> omega) | fail) only [push_cast, Nat.reduceBEq, Nat.reduceAdd, Nat.reduceMul, Nat.reduceSub, Nat.reduceLT, Nat.reduceGT, Nat.reduceLeDiff, Nat.reduceEqDiff, Int.reduceToNat, Int.reduceAdd, Int.reduceMul, Int.reduceSub, Int.reduceNeg, Int.reduceLT, Int.reduceLE, Int.reduceEq, Nat.zero_add, Nat.add_zero, Nat.mul_one, eq_self, ne_eq, not_true, not_false_iff, and_true, true_and, and_self, List.getElem?_cons_zero, List.getElem?_cons_succ, List.map_cons, List.map_nil, eh, f2]
  rw [lo]
  simp (disch := first | omega | (simp only [Go.Am.len_push, Go.Am.len_set, Go.Am.len_kill] <;> omega) | fail) only [push_cast, Nat.reduceBEq, Nat.reduceAdd, Nat.reduceMul, Nat.reduceSub, Nat.reduceLT, Nat.reduceGT, Nat.reduceLeDiff, Nat.reduceEqDiff, Int.reduceToNat, Int.reduceAdd, Int.reduceMul, Int.reduceSub, Int.reduceNeg, Int.reduceLT, Int.reduceLE, Int.reduceEq, Nat.zero_add, Nat.add_zero, Nat.mul_one, eq_self, ne_eq, not_true, not_false_iff, and_true, true_and, and_self, List.getElem?_cons_zero, List.getElem?_cons_succ, List.map_cons, List.map_nil]
theorem psub_call (hn : fldN q.toNat = some (p, m, g, mod)) (u : PUse h F q p m g mod E L om fm cm) (hf : FOk q p m mod) (a b : Int) : call T 53 [.pointer (some ⟨F, 0, none⟩), .int .i64 a, .int .i64 b] h = some (.int .i64 (fsub q a b), h) := by
  have e1 := pneg_call hn u hf b
  have e2 := padd_call hn u hf a (fneg q b)
  rw [call_at T53 rfl, fsub]
  unfold F53 c53
  simp (disch := first | omega | (simp only [Go.Am.len_push, Go.Am.len_set, Go.Am.len_kill] <;> omega) | fail) only [push_cast, Nat.reduceBEq, Nat.reduceAdd, Nat.reduceMul, Nat.reduceSub, Nat.reduceLT, Nat.reduceGT, Nat.reduceLeDiff, Nat.reduceEqDiff, Int.reduceToNat, Int.reduceAdd, Int.reduceMul, Int.reduceSub, Int.reduceNeg, Int.reduceLT, Int.reduceLE, Int.reduceEq, Nat.zero_add, Nat.add_zero, Nat.mul_one, eq_self, ne_eq, not_true, not_false_iff, and_true, true_and, and_self, List.getElem?_cons_zero, List.getElem?_cons_succ, List.map_cons, List.map_nil, e1, e2]

theorem pfrob_loop (hn : fldN q.toNat = some (p, m, g, mod)) (u : PUse h F q p m g mod E L om fm cm) (t : Int) (ht : t ≤ 1000) : ∀ (n : Nat) (a i : Int), i + n = t → 0 ≤ i →
    ∀ ks, goL T [.tmp 6] [0, 1, 25, 26] c65L0 (.blk 0 [1] :: ks) [(0, .pointer (some ⟨F, 0, none⟩)), (1, .int .i64 a), (25, .int .i64 t), (26, .int .i64 i)] h = go T [.tmp 6] ks (Fr.of [(1, .int .i64 (frobN q n a))]) h
  | 0, a, i, hi, hi0 => fun ks => by
    rw [goL_at c65L0.eq_def]
    simp (disch := first | omega | (simp only [Go.Am.len_push, Go.Am.len_set, Go.Am.len_kill] <;> omega) | fail) only [push_cast, Nat.reduceBEq, Nat.reduceAdd, Nat.reduceMul, Nat.reduceSub, Nat.reduceLT, Nat.reduceGT, Nat.reduceLeDiff, Nat.reduceEqDiff, Int.reduceToNat, Int.reduceAdd, Int.reduceMul, Int.reduceSub, Int.reduceNeg, Int.reduceLT, Int.reduceLE, Int.reduceEq, Nat.zero_add, Nat.add_zero, Nat.mul_one, eq_self, ne_eq, not_true, not_false_iff, and_true, true_and, and_self, List.getElem?_cons_zero, List.getElem?_cons_succ, List.map_cons, List.map_nil, dec_nlt, frobN]
  | n + 1, a, i, hi, hi0 => fun ks => by
    have f1 := u.f1
    have e1 := ppow_call hn u a p
    have ih := pfrob_loop hn u t ht n (fpow q a p) (i + 1) (by omega) (by omega) ks
    rw [frobN, (fdat_eq hn).1, ← ih, goL_at c65L0.eq_def]
    simp (disch := first | omega | (simp only [Go.Am.len_push, Go.Am.len_set, Go.Am.len_kill] <;> omega) | fail) only [push_cast, Nat.reduceBEq, Nat.reduceAdd, Nat.reduceMul, Nat.reduceSub, Nat.reduceLT, Nat.reduceGT, Nat.reduceLeDiff, Nat.reduceEqDiff, Int.reduceToNat, Int.reduceAdd, Int.reduceMul, Int.reduceSub, Int.reduceNeg, Int.reduceLT, Int.reduceLE, Int.reduceEq, Nat.zero_add, Nat.add_zero, Nat.mul_one, eq_self, ne_eq, not_true, not_false_iff, and_true, true_and, and_self, List.getElem?_cons_zero, List.getElem?_cons_succ, List.map_cons, List.map_nil, dec_lt, f1, e1, wrap64]
theorem pfrob_call (hn : fldN q.toNat = some (p, m, g, mod)) (u : PUse h F q p m g mod E L om fm cm) (hf : FOk q p m mod) (a t : Int) : call T 65 [.pointer (some ⟨F, 0, none⟩), .int .i64 a, .int .i64 t] h = some (.int .i64 (ffrob q a t), h) := by
  have f2 := u.f2
  have hm1 := hf.m1
  have hm := hf.m10
  have eh := phas_call u a
  rw [call_at T65 rfl, ffrob, (fdat_eq hn).2]
  unfold F65 c65
  rcases fok_cases q a with ⟨ho, h0, h1⟩ | ho
  rotate_left
  · rw [ho] at eh ⊢
    simp (disch := first | omega | (simp only [Go.Am.len_push, Go.Am.len_set, Go.Am.len_kill] <;> omega) | fail) only [push_cast, Nat.reduceBEq, Nat.reduceAdd, Nat.reduceMul, Nat.reduceSub, Nat.reduceLT, Nat.reduceGT, Nat.reduceLeDiff, Nat.reduceEqDiff, Int.reduceToNat, Int.reduceAdd, Int.reduceMul, Int.reduceSub, Int.reduceNeg, Int.reduceLT, Int.reduceLE, Int.reduceEq, Nat.zero_add, Nat.add_zero, Nat.mul_one, eq_self, ne_eq, not_true, not_false_iff, and_true, true_and, and_self, List.getElem?_cons_zero, List.getElem?_cons_succ, List.map_cons, List.map_nil, eh]
  rw [ho] at eh ⊢
  have hm0 : ¬ (m : Int) = 0 := by omega
  obtain ⟨j, hj⟩ : ∃ j, j = t % (m : Int) := ⟨_, rfl⟩
  have hj1 : 0 ≤ j := by rw [hj]; exact Int.emod_nonneg _ hm0
  have hj2 : j < m := by rw [hj]; exact Int.emod_lt_of_pos _ (by omega)
  have lo := pfrob_loop hn u j (by omega) j.toNat a 0 (by omega) (by omega)
  rw [← hj]
  have hte : t.tmod (m : Int) = if 0 ≤ t ∨ t % (m : Int) = 0 then j else j - m := by
    rw [Int.tmod_eq_emod, hj]
    by_cases hc : 0 ≤ t ∨ (m : Int) ∣ t
    · rw [if_pos hc, if_pos (by rcases hc with h | h; exact .inl h; exact .inr (Int.emod_eq_zero_of_dvd h))]; simp
    · rw [if_neg hc, if_neg (fun h => hc (by rcases h with h | h; exact .inl h; exact .inr (Int.dvd_of_emod_eq_zero h)))]
      rfl
  by_cases hc : 0 ≤ t ∨ t % (m : Int) = 0
  · rw [if_pos hc] at hte
    simp (disch := first | omega | (simp only [Go.Am.len_push, Go.Am.len_set, Go.Am.len_kill] <;> omega) | fail) only [push_cast, Nat.reduceBEq, Nat.reduceAdd, Nat.reduceMul, Nat.reduceSub, Nat.reduceLT, Nat.reduceGT, Nat.reduceLeDiff, Nat.reduceEqDiff, Int.reduceToNat, Int.reduceAdd, Int.reduceMul, Int.reduceSub, Int.reduceNeg, Int.reduceLT, Int.reduceLE, Int.reduceEq, Nat.zero_add, Nat.add_zero, Nat.mul_one, eq_self, ne_eq, not_true, not_false_iff, and_true, true_and, and_self, List.getElem?_cons_zero, List.getElem?_cons_succ, List.map_cons, List.map_nil, eh, f2, hm0, hte, dec_nlt hj1]
    rw [lo]
    simp (disch := first | omega | (simp only [Go.Am.len_push, Go.Am.len_set, Go.Am.len_kill] <;> omega) | fail) only [push_cast, Nat.reduceBEq, Nat.reduceAdd, Nat.reduceMul, Nat.reduceSub, Nat.reduceLT, Nat.reduceGT, Nat.reduceLeDiff, Nat.reduceEqDiff, Int.reduceToNat, Int.reduceAdd, Int.reduceMul, Int.reduceSub, Int.reduceNeg, Int.reduceLT, Int.reduceLE, Int.reduceEq, Nat.zero_add, Nat.add_zero, Nat.mul_one, eq_self, ne_eq, not_true, not_false_iff, and_true, true_and, and_self, List.getElem?_cons_zero, List.getElem?_cons_succ, List.map_cons, List.map_nil]
  · rw [if_neg hc] at hte
    have hneg : j - (m : Int) < 0 := by omega
    have hb : j - (m : Int) + m = j := by omega
    simp (disch := first | omega | (simp only [Go.Am.len_push, Go.Am.len_set, Go.Am.len_kill] <;> omega) | fail) only [push_cast, Nat.reduceBEq, Nat.reduceAdd, Nat.reduceMul, Nat.reduceSub, Nat.reduceLT, Nat.reduceGT, Nat.reduceLeDiff, Nat.reduceEqDiff, Int.reduceToNat, Int.reduceAdd, Int.reduceMul, Int.reduceSub, Int.reduceNeg, Int.reduceLT, Int.reduceLE, Int.reduceEq, Nat.zero_add, Nat.add_zero, Nat.mul_one, eq_self, ne_eq, not_true, not_false_iff, and_true, true_and, and_self, List.getElem?_cons_zero, List.getElem?_cons_succ, List.map_cons, List.map_nil, eh, f2, hm0, hte, dec_lt hneg, hb, wrap64]
    rw [lo]
    simp (disch := first | omega | (simp only [Go.Am.len_push, Go.Am.len_set, Go.Am.len_kill] <;> omega) | fail) only [push_cast, Nat.reduceBEq, Nat.reduceAdd, Nat.reduceMul, Nat.reduceSub, Nat.reduceLT, Nat.reduceGT, Nat.reduceLeDiff, Nat.reduceEqDiff, Int.reduceToNat, Int.reduceAdd, Int.reduceMul, Int.reduceSub, Int.reduceNeg, Int.reduceLT, Int.reduceLE, Int.reduceEq, Nat.zero_add, Nat.add_zero, Nat.mul_one, eq_self, ne_eq, not_true, not_false_iff, and_true, true_and, and_self, List.getElem?_cons_zero, List.getElem?_cons_succ, List.map_cons, List.map_nil]
end
end Go.Proofs.Ytammndhoillliaa
namespace Go.Proofs.Ytammndhoillliaa
open Go.Am
set_option linter.unusedVariables false
set_option linter.unusedSimpArgs false
set_option maxRecDepth 30000

section
variable {h : H} {F : Nat} {q p : Int} {m : Nat} {g : Int} {mod : List Int} {E L om fm cm : Nat}

theorem ptrace_loop (hn : fldN q.toNat = some (p, m, g, mod)) (u : PUse h F q p m g mod E L om fm cm) (hf : FOk q p m mod) (a : Int) : ∀ (n : Nat) (s : Int) (k : Nat), k + n = m →
    ∀ ks, goL T [.tmp 4] [0, 1, 5, 14, 15] c67L0 (.blk 0 [5] :: ks) [(0, .pointer (some ⟨F, 0, none⟩)), (1, .int .i64 a), (5, .int .i64 s), (14, .int .i64 m), (15, .int .i64 k)] h = go T [.tmp 4] ks (Fr.of [(5, .int .i64 (traceN q a n k s))]) h
  | 0, s, k, hk => fun ks => by
    rw [goL_at c67L0.eq_def]
    have : (m : Int) ≤ (k : Int) := by omega
    simp (disch := first | omega | (simp only [Go.Am.len_push, Go.Am.len_set, Go.Am.len_kill] <;> omega) | fail) only [push_cast, Nat.reduceBEq, Nat.reduceAdd, Nat.reduceMul, Nat.reduceSub, Nat.reduceLT, Nat.reduceGT, Nat.reduceLeDiff, Nat.reduceEqDiff, Int.reduceToNat, Int.reduceAdd, Int.reduceMul, Int.reduceSub, Int.reduceNeg, Int.reduceLT, Int.reduceLE, Int.reduceEq, Nat.zero_add, Nat.add_zero, Nat.mul_one, eq_self, ne_eq, not_true, not_false_iff, and_true, true_and, and_self, List.getElem?_cons_zero, List.getElem?_cons_succ, List.map_cons, List.map_nil, dec_nlt, traceN]
  | n + 1, s, k, hk => fun ks => by
    have hm := hf.m10
    have e1 := pfrob_call hn u hf a k
    have e2 := padd_call hn u hf s (ffrob q a k)
    have ih := ptrace_loop hn u hf a n (fadd q s (ffrob q a k)) (k + 1) (by omega) ks
    rw [Int.natCast_add, Int.natCast_one] at ih
    rw [traceN, ← ih, goL_at c67L0.eq_def]
    simp (disch := first | omega | (simp only [Go.Am.len_push, Go.Am.len_set, Go.Am.len_kill] <;> omega) | fail) only [push_cast, Nat.reduceBEq, Nat.reduceAdd, Nat.reduceMul, Nat.reduceSub, Nat.reduceLT, Nat.reduceGT, Nat.reduceLeDiff, Nat.reduceEqDiff, Int.reduceToNat, Int.reduceAdd, Int.reduceMul, Int.reduceSub, Int.reduceNeg, Int.reduceLT, Int.reduceLE, Int.reduceEq, Nat.zero_add, Nat.add_zero, Nat.mul_one, eq_self, ne_eq, not_true, not_false_iff, and_true, true_and, and_self, List.getElem?_cons_zero, List.getElem?_cons_succ, List.map_cons, List.map_nil, dec_lt, e1, e2, wrap64]
theorem ptrace_call (hn : fldN q.toNat = some (p, m, g, mod)) (u : PUse h F q p m g mod E L om fm cm) (hf : FOk q p m mod) (a : Int) : call T 67 [.pointer (some ⟨F, 0, none⟩), .int .i64 a] h = some (.int .i64 (ftrace q a), h) := by
  have f2 := u.f2
  have eh := phas_call u a
  rw [call_at T67 rfl, ftrace, (fdat_eq hn).2]
  unfold F67 c67
  rcases fok_cases q a with ⟨ho, h0, h1⟩ | ho
  rotate_left
  · rw [ho] at eh ⊢
    simp (disch := first | omega | (simp only [Go.Am.len_push, Go.Am.len_set, Go.Am.len_kill] <;> omega) | fail) only [push_cast, Nat.reduceBEq, Nat.reduceAdd, Nat.reduceMul, Nat.reduceSub, Nat.reduceLT, Nat.reduceGT, Nat.reduceLeDiff, Nat.reduceEqDiff, Int.reduceToNat, Int.reduceAdd, Int.reduceMul, Int.reduceSub, Int.reduceNeg, Int.reduceLT, Int.reduceLE, Int.reduceEq, Nat.zero_add, Nat.add_zero, Nat.mul_one, eq_self, ne_eq, not_true, not_false_iff, and_true, true_and, and_self, List.getElem?_cons_zero, List.getElem?_cons_succ, List.map_cons, List.map_nil, eh]
  rw [ho] at eh ⊢
  have lo := ptrace_loop hn u hf a m 0 0 (by omega)
  rw [show ((0 : Nat) : Int) = 0 from rfl] at lo
  simp (disch := first | omega | (simp only [Go.Am.len_push, Go.Am.len_set, Go.Am.len_kill] <;> omega) | fail) only [push_cast, Nat.reduceBEq, Nat.reduceAdd, Nat.reduceMul, Nat.reduceSub, Nat.reduceLT, Nat.reduceGT, Nat.reduceLeDiff, Nat.reduceEqDiff, Int.reduceToNat, Int.reduceAdd, Int.reduceMul, Int.reduceSub, Int.reduceNeg, Int.reduceLT, Int.reduceLE, Int.reduceEq, Nat.zero_add, Nat.add_zero, Nat.mul_one, eq_self, ne_eq, not_true, not_false_iff, and_true, true_and, and_self, List.getElem?_cons_zero, List.getElem?_cons_succ, List.map_cons, List.map_nil, eh, f2]
  rw [lo]
  simp (disch := first | omega | (simp only [Go.Am.len_push, Go.Am.len_set, Go.Am.len_kill] <;> omega) | fail) only [push_cast, Nat.reduceBEq, Nat.reduceAdd, Nat.reduceMul, Nat.reduceSub, Nat.reduceLT, Nat.reduceGT, Nat.reduceLeDiff, Nat.reduceEqDiff, Int.reduceToNat, Int.reduceAdd, Int.reduceMul, Int.reduceSub, Int.reduceNeg, Int.reduceLT, Int.reduceLE, Int.reduceEq, Nat.zero_add, Nat.add_zero, Nat.mul_one, eq_self, ne_eq, not_true, not_false_iff, and_true, true_and, and_self, List.getElem?_cons_zero, List.getElem?_cons_succ, List.map_cons, List.map_nil]
theorem pnorm_loop (hn : fldN q.toNat = some (p, m, g, mod)) (u : PUse h F q p m g mod E L om fm cm) (hf : FOk q p m mod) (a : Int) : ∀ (n : Nat) (s : Int) (k : Nat), k + n = m →
    ∀ ks, goL T [.tmp 4] [0, 1, 5, 14, 15] c69L0 (.blk 0 [5] :: ks) [(0, .pointer (some ⟨F, 0, none⟩)), (1, .int .i64 a), (5, .int .i64 s), (14, .int .i64 m), (15, .int .i64 k)] h = go T [.tmp 4] ks (Fr.of [(5, .int .i64 (normN q a n k s))]) h
  | 0, s, k, hk => fun ks => by
    rw [goL_at c69L0.eq_def]
    have : (m : Int) ≤ (k : Int) := by omega
    simp (disch := first | omega | (simp only [Go.Am.len_push, Go.Am.len_set, Go.Am.len_kill] <;> omega) | fail) only [push_cast, Nat.reduceBEq, Nat.reduceAdd, Nat.reduceMul, Nat.reduceSub, Nat.reduceLT, Nat.reduceGT, Nat.reduceLeDiff, Nat.reduceEqDiff, Int.reduceToNat, Int.reduceAdd, Int.reduceMul, Int.reduceSub, Int.reduceNeg, Int.reduceLT, Int.reduceLE, Int.reduceEq, Nat.zero_add, Nat.add_zero, Nat.mul_one, eq_self, ne_eq, not_true, not_false_iff, and_true, true_and, and_self, List.getElem?_cons_zero, List.getElem?_cons_succ, List.map_cons, List.map_nil, dec_nlt, normN]
  | n + 1, s, k, hk => fun ks => by
    have hm := hf.m10
    have e1 := pfrob_call hn u hf a k
    have e2 := pmul_call hn u s (ffrob q a k)
    have ih := pnorm_loop hn u hf a n (fmul q s (ffrob q a k)) (k + 1) (by omega) ks
    rw [Int.natCast_add, Int.natCast_one] at ih
    rw [normN, ← ih, goL_at c69L0.eq_def]
    simp (disch := first | omega | (simp only [Go.Am.len_push, Go.Am.len_set, Go.Am.len_kill] <;> omega) | fail) only [push_cast, Nat.reduceBEq, Nat.reduceAdd, Nat.reduceMul, Nat.reduceSub, Nat.reduceLT, Nat.reduceGT, Nat.reduceLeDiff, Nat.reduceEqDiff, Int.reduceToNat, Int.reduceAdd, Int.reduceMul, Int.reduceSub, Int.reduceNeg, Int.reduceLT, Int.reduceLE, Int.reduceEq, Nat.zero_add, Nat.add_zero, Nat.mul_one, eq_self, ne_eq, not_true, not_false_iff, and_true, true_and, and_self, List.getElem?_cons_zero, List.getElem?_cons_succ, List.map_cons, List.map_nil, dec_lt, e1, e2, wrap64]
theorem pnorm_call (hn : fldN q.toNat = some (p, m, g, mod)) (u : PUse h F q p m g mod E L om fm cm) (hf : FOk q p m mod) (a : Int) : call T 69 [.pointer (some ⟨F, 0, none⟩), .int .i64 a] h = some (.int .i64 (fnorm q a), h) := by
  have f2 := u.f2
  have eh := phas_call u a
  rw [call_at T69 rfl, fnorm, (fdat_eq hn).2]
  unfold F69 c69
  rcases fok_cases q a with ⟨ho, h0, h1⟩ | ho
  rotate_left
  · rw [ho] at eh ⊢
    simp (disch := first | omega | (simp only [Go.Am.len_push, Go.Am.len_set, Go.Am.len_kill] <;> omega) | fail) only [push_cast, Nat.reduceBEq, Nat.reduceAdd, Nat.reduceMul, Nat.reduceSub, Nat.reduceLT, Nat.reduceGT, Nat.reduceLeDiff, Nat.reduceEqDiff, Int.reduceToNat, Int.reduceAdd, Int.reduceMul, Int.reduceSub, Int.reduceNeg, Int.reduceLT, Int.reduceLE, Int.reduceEq, Nat.zero_add, Nat.add_zero, Nat.mul_one, eq_self, ne_eq, not_true, not_false_iff, and_true, true_and, and_self, List.getElem?_cons_zero, List.getElem?_cons_succ, List.map_cons, List.map_nil, eh]
  rw [ho] at eh ⊢
  have lo := pnorm_loop hn u hf a m 1 0 (by omega)
  rw [show ((0 : Nat) : Int) = 0 from rfl] at lo
  simp (disch := first | omega | (simp only [Go.Am.len_push, Go.Am.len_set, Go.Am.len_kill] <;> omega) | fail) only [push_cast, Nat.reduceBEq, Nat.reduceAdd, Nat.reduceMul, Nat.reduceSub, Nat.reduceLT, Nat.reduceGT, Nat.reduceLeDiff, Nat.reduceEqDiff, Int.reduceToNat, Int.reduceAdd, Int.reduceMul, Int.reduceSub, Int.reduceNeg, Int.reduceLT, Int.reduceLE, Int.reduceEq, Nat.zero_add, Nat.add_zero, Nat.mul_one, eq_self, ne_eq, not_true, not_false_iff, and_true, true_and, and_self, List.getElem?_cons_zero, List.getElem?_cons_succ, List.map_cons, List.map_nil, eh, f2]
  rw [lo]
  simp (disch := first | omega | (simp only [Go.Am.len_push, Go.Am.len_set, Go.Am.len_kill] <;> omega) | fail) only [push_cast, Nat.reduceBEq, Nat.reduceAdd, Nat.reduceMul, Nat.reduceSub, Nat.reduceLT, Nat.reduceGT, Nat.reduceLeDiff, Nat.reduceEqDiff, Int.reduceToNat, Int.reduceAdd, Int.reduceMul, Int.reduceSub, Int.reduceNeg, Int.reduceLT, Int.reduceLE, Int.reduceEq, Nat.zero_add, Nat.add_zero, Nat.mul_one, eq_self, ne_eq, not_true, not_false_iff, and_true, true_and, and_self, List.getElem?_cons_zero, List.getElem?_cons_succ, List.map_cons, List.map_nil]
end

/-- the elements from one on that a power leaves -/
def withN (q s : Int) : Nat → Nat → List Int
  | 0, _ => []
  | n + 1, a => bif decide (fpow q a s = a) then (a : Int) :: withN q s n (a + 1) else withN q s n (a + 1)
def withP (q s : Int) : List Int := match fldN s.toNat with
  | some (p, m, _, _) => bif decide (p = fch q) && decide (fdg q % m = 0) then withN q s q.toNat 0 else []
  | none => []
theorem withN_len (q s : Int) : ∀ (n a : Nat), (withN q s n a).length ≤ n
  | 0, a => Nat.le_refl _
  | n + 1, a => by
    rw [withN]
    have := withN_len q s n (a + 1)
    cases decide (fpow q a s = a)
    · simp only [cond_false]; omega
    · simp only [cond_true, List.length_cons]; omega

section
variable {h : H} {F : Nat} {q p : Int} {m : Nat} {g : Int} {mod : List Int} {E L om fm cm : Nat}
theorem PUse.mono {h' : H} (u : PUse h F q p m g mod E L om fm cm) (hp : h <+: h') : PUse h' F q p m g mod E L om fm cm :=
  ⟨u.q2, u.q64, ld1_pre u.f0 hp, ld1_pre u.f1 hp, ld1_pre u.f2 hp, ld1_pre u.f3 hp, ld1_pre u.f4 hp, ld1_pre u.f5 hp, ld1_pre u.f6 hp, fun i h0 hi => ld1_pre (u.le i h0 hi) hp, fun i h0 hi => ld1_pre (u.ll i h0 hi) hp, u.rm.mono hp⟩

theorem pwith_loop (hn : fldN q.toNat = some (p, m, g, mod)) (u : PUse h F q p m g mod E L om fm cm) (s : Int) : ∀ (n k : Nat) (zs : List Int) (sa : Option Addr) (c : Nat) (G : H), (k : Int) + n = q → zs.length ≤ k → h <+: G → Grown G sa c zs h.length →
    ∃ (sa' : Option Addr) (c' : Nat) (G' : H), h <+: G' ∧ Grown G' sa' c' (zs ++ withN q s n k) h.length ∧
      ∀ ks, goL T [.tmp 4] [0, 1, 7, 38, 39] c71L0 (.blk 0 [7] :: ks) [(0, .pointer (some ⟨F, 0, none⟩)), (1, .int .i64 s), (7, .slice sa zs.length c), (38, .int .i64 q), (39, .int .i64 k)] G =
        go T [.tmp 4] ks (Fr.of [(7, .slice sa' (zs ++ withN q s n k).length c')]) G'
  | 0, k, zs, sa, c, G, hk, hz, hp, hg => by
    refine ⟨sa, c, G, hp, by rw [withN, List.append_nil]; exact hg, fun ks => ?_⟩
    rw [goL_at c71L0.eq_def]
    have : q ≤ (k : Int) := by omega
    simp (disch := first | omega | (simp only [Go.Am.len_push, Go.Am.len_set, Go.Am.len_kill] <;> omega) | fail) only [push_cast, Nat.reduceBEq, Nat.reduceAdd, Nat.reduceMul, Nat.reduceSub, Nat.reduceLT, Nat.reduceGT, Nat.reduceLeDiff, Nat.reduceEqDiff, Int.reduceToNat, Int.reduceAdd, Int.reduceMul, Int.reduceSub, Int.reduceNeg, Int.reduceLT, Int.reduceLE, Int.reduceEq, Nat.zero_add, Nat.add_zero, Nat.mul_one, eq_self, ne_eq, not_true, not_false_iff, and_true, true_and, and_self, List.getElem?_cons_zero, List.getElem?_cons_succ, List.map_cons, List.map_nil, dec_nlt, withN, List.append_nil]
  | n + 1, k, zs, sa, c, G, hk, hz, hp, hg => by
    have q64 := u.q64
    have e1 := ppow_call hn (u.mono hp) (k : Int) s
    by_cases he : fpow q k s = k
    · obtain ⟨sa1, G1, ea, hg1, hl1, _, hpre⟩ := hg.one (y := (k : Int)) (by omega) (pre_len hp)
      obtain ⟨sa2, c2, G2, p2, hg2, ih⟩ := pwith_loop hn u s n (k + 1) (zs ++ [(k : Int)]) sa1 (zs.length + 1) G1 (by omega) (by simp; omega) (hpre h (Nat.le_refl _) hp) hg1
      have hw : zs ++ withN q s (n + 1) k = zs ++ [(k : Int)] ++ withN q s n (k + 1) := by rw [withN, decide_eq_true he, cond_true]; simp
      refine ⟨sa2, c2, G2, p2, by rw [hw]; exact hg2, fun ks => ?_⟩
      have ih' := ih ks
      rw [Int.natCast_add, Int.natCast_one] at ih'
      rw [hw, ← ih', goL_at c71L0.eq_def]
      have hlen : (zs ++ [(k : Int)]).length = zs.length + 1 := by simp
      simp (disch := first | omega | (simp only [Go.Am.len_push, Go.Am.len_set, Go.Am.len_kill] <;> omega) | fail) only [push_cast, Nat.reduceBEq, Nat.reduceAdd, Nat.reduceMul, Nat.reduceSub, Nat.reduceLT, Nat.reduceGT, Nat.reduceLeDiff, Nat.reduceEqDiff, Int.reduceToNat, Int.reduceAdd, Int.reduceMul, Int.reduceSub, Int.reduceNeg, Int.reduceLT, Int.reduceLE, Int.reduceEq, Nat.zero_add, Nat.add_zero, Nat.mul_one, eq_self, ne_eq, not_true, not_false_iff, and_true, true_and, and_self, List.getElem?_cons_zero, List.getElem?_cons_succ, List.map_cons, List.map_nil, dec_lt, e1, dec_eq he, ea, hlen, wrap64]
    · obtain ⟨sa2, c2, G2, p2, hg2, ih⟩ := pwith_loop hn u s n (k + 1) zs sa c G (by omega) (by omega) hp hg
      have hw : zs ++ withN q s (n + 1) k = zs ++ withN q s n (k + 1) := by rw [withN, decide_eq_false he, cond_false]
      refine ⟨sa2, c2, G2, p2, by rw [hw]; exact hg2, fun ks => ?_⟩
      have ih' := ih ks
      rw [Int.natCast_add, Int.natCast_one] at ih'
      rw [hw, ← ih', goL_at c71L0.eq_def]
      simp (disch := first | omega | (simp only [Go.Am.len_push, Go.Am.len_set, Go.Am.len_kill] <;> omega) | fail) only [push_cast, Nat.reduceBEq, Nat.reduceAdd, Nat.reduceMul, Nat.reduceSub, Nat.reduceLT, Nat.reduceGT, Nat.reduceLeDiff, Nat.reduceEqDiff, Int.reduceToNat, Int.reduceAdd, Int.reduceMul, Int.reduceSub, Int.reduceNeg, Int.reduceLT, Int.reduceLE, Int.reduceEq, Nat.zero_add, Nat.add_zero, Nat.mul_one, eq_self, ne_eq, not_true, not_false_iff, and_true, true_and, and_self, List.getElem?_cons_zero, List.getElem?_cons_succ, List.map_cons, List.map_nil, dec_lt, e1, dec_ne he, wrap64]

theorem pwithin_call (hn : fldN q.toNat = some (p, m, g, mod)) (u : PUse h F q p m g mod E L om fm cm) (hf : FOk q p m mod) (s : Int) : ∃ (sa : Option Addr) (c : Nat) (h' : H), h <+: h' ∧ RdI h' sa c (withP q s) ∧
    call T 71 [.pointer (some ⟨F, 0, none⟩), .int .i64 s] h = some (.slice sa (withP q s).length c, h') := by
  have f0 := u.f0
  have f1 := u.f1
  have f2 := u.f2
  have q2 := u.q2
  have hp2 := hf.p2
  obtain ⟨hc, hd⟩ := fdat_eq hn
  have hp0 : ¬ (0 : Int) = p := by omega
  cases hs : fldN s.toNat with
  | none =>
    have hw : withP q s = [] := by unfold withP; rw [hs]
    rw [hw]
    refine ⟨none, 0, h, List.prefix_refl _, .nil, ?_⟩
    rw [call_at T71 rfl]
    unfold F71 c71
    by_cases h1 : 2 ≤ s
    · by_cases h2 : s ≤ 64
      · have ho := fld_none (n := s.toNat) (by omega) (by omega) hs
        rw [show ((s.toNat : Nat) : Int) = s by omega] at ho
        have ep := pprime_call s ⟨h1, h2⟩ h _ ho
        simp (disch := first | omega | (simp only [Go.Am.len_push, Go.Am.len_set, Go.Am.len_kill] <;> omega) | fail) only [push_cast, Nat.reduceBEq, Nat.reduceAdd, Nat.reduceMul, Nat.reduceSub, Nat.reduceLT, Nat.reduceGT, Nat.reduceLeDiff, Nat.reduceEqDiff, Int.reduceToNat, Int.reduceAdd, Int.reduceMul, Int.reduceSub, Int.reduceNeg, Int.reduceLT, Int.reduceLE, Int.reduceEq, Nat.zero_add, Nat.add_zero, Nat.mul_one, eq_self, ne_eq, not_true, not_false_iff, and_true, true_and, and_self, List.getElem?_cons_zero, List.getElem?_cons_succ, List.map_cons, List.map_nil, dec_le h1, dec_le h2, ep, f1, dec_ne hp0]
      · simp (disch := first | omega | (simp only [Go.Am.len_push, Go.Am.len_set, Go.Am.len_kill] <;> omega) | fail) only [push_cast, Nat.reduceBEq, Nat.reduceAdd, Nat.reduceMul, Nat.reduceSub, Nat.reduceLT, Nat.reduceGT, Nat.reduceLeDiff, Nat.reduceEqDiff, Int.reduceToNat, Int.reduceAdd, Int.reduceMul, Int.reduceSub, Int.reduceNeg, Int.reduceLT, Int.reduceLE, Int.reduceEq, Nat.zero_add, Nat.add_zero, Nat.mul_one, eq_self, ne_eq, not_true, not_false_iff, and_true, true_and, and_self, List.getElem?_cons_zero, List.getElem?_cons_succ, List.map_cons, List.map_nil, dec_le h1, dec_nle (Int.not_le.1 h2), f1, dec_ne hp0]
    · simp (disch := first | omega | (simp only [Go.Am.len_push, Go.Am.len_set, Go.Am.len_kill] <;> omega) | fail) only [push_cast, Nat.reduceBEq, Nat.reduceAdd, Nat.reduceMul, Nat.reduceSub, Nat.reduceLT, Nat.reduceGT, Nat.reduceLeDiff, Nat.reduceEqDiff, Int.reduceToNat, Int.reduceAdd, Int.reduceMul, Int.reduceSub, Int.reduceNeg, Int.reduceLT, Int.reduceLE, Int.reduceEq, Nat.zero_add, Nat.add_zero, Nat.mul_one, eq_self, ne_eq, not_true, not_false_iff, and_true, true_and, and_self, List.getElem?_cons_zero, List.getElem?_cons_succ, List.map_cons, List.map_nil, dec_nle (Int.not_le.1 h1), f1, dec_ne hp0]
  | some x =>
    obtain ⟨p', m', g', mod'⟩ := x
    obtain ⟨hs2, hs64⟩ := fldN_le hs
    obtain ⟨hf', ho, _⟩ := fld_ok hs
    rw [show ((s.toNat : Nat) : Int) = s by omega] at ho
    have h1 : 2 ≤ s := by omega
    have h2 : s ≤ 64 := by omega
    have ep := pprime_call s ⟨h1, h2⟩ h _ ho
    have hm1 := hf'.m1
    have hm0 : ¬ (m' : Int) = 0 := by omega
    by_cases hpp : p' = p
    rotate_left
    · have hw : withP q s = [] := by unfold withP; rw [hs, hc]; simp [hpp]
      rw [hw]
      refine ⟨none, 0, h, List.prefix_refl _, .nil, ?_⟩
      rw [call_at T71 rfl]
      unfold F71 c71
      simp (disch := first | omega | (simp only [Go.Am.len_push, Go.Am.len_set, Go.Am.len_kill] <;> omega) | fail) only [push_cast, Nat.reduceBEq, Nat.reduceAdd, Nat.reduceMul, Nat.reduceSub, Nat.reduceLT, Nat.reduceGT, Nat.reduceLeDiff, Nat.reduceEqDiff, Int.reduceToNat, Int.reduceAdd, Int.reduceMul, Int.reduceSub, Int.reduceNeg, Int.reduceLT, Int.reduceLE, Int.reduceEq, Nat.zero_add, Nat.add_zero, Nat.mul_one, eq_self, ne_eq, not_true, not_false_iff, and_true, true_and, and_self, List.getElem?_cons_zero, List.getElem?_cons_succ, List.map_cons, List.map_nil, dec_le h1, dec_le h2, ep, f1, dec_ne hpp]
    have q1 : (m : Int).tmod (m' : Int) = (m : Int) % (m' : Int) := Int.tmod_eq_emod_of_nonneg (by omega)
    by_cases hmm : m % m' = 0
    rotate_left
    · have hw : withP q s = [] := by unfold withP; rw [hs, hc, hd]; simp [hmm]
      have hmi : ¬ (m : Int) % (m' : Int) = 0 := by rw [← Int.natCast_emod]; omega
      rw [hw]
      refine ⟨none, 0, h, List.prefix_refl _, .nil, ?_⟩
      rw [call_at T71 rfl]
      unfold F71 c71
      simp (disch := first | omega | (simp only [Go.Am.len_push, Go.Am.len_set, Go.Am.len_kill] <;> omega) | fail) only [push_cast, Nat.reduceBEq, Nat.reduceAdd, Nat.reduceMul, Nat.reduceSub, Nat.reduceLT, Nat.reduceGT, Nat.reduceLeDiff, Nat.reduceEqDiff, Int.reduceToNat, Int.reduceAdd, Int.reduceMul, Int.reduceSub, Int.reduceNeg, Int.reduceLT, Int.reduceLE, Int.reduceEq, Nat.zero_add, Nat.add_zero, Nat.mul_one, eq_self, ne_eq, not_true, not_false_iff, and_true, true_and, and_self, List.getElem?_cons_zero, List.getElem?_cons_succ, List.map_cons, List.map_nil, dec_le h1, dec_le h2, ep, f1, dec_eq hpp, f2, hm0, q1, dec_ne hmi]
    have hw : withP q s = withN q s q.toNat 0 := by unfold withP; rw [hs, hc, hd]; simp [hmm, hpp]
    have hmi : (m : Int) % (m' : Int) = 0 := by rw [← Int.natCast_emod]; omega
    obtain ⟨sa, c, G, p1, hg, lo⟩ := pwith_loop hn u s q.toNat 0 [] none 0 h (by omega) (by simp) (List.prefix_refl _) .nil
    rw [List.nil_append] at hg lo
    rw [hw]
    refine ⟨sa, c, G, p1, hg.rd, ?_⟩
    rw [call_at T71 rfl]
    unfold F71 c71
    rw [show ((0 : Nat) : Int) = 0 from rfl, List.length_nil] at lo
    simp (disch := first | omega | (simp only [Go.Am.len_push, Go.Am.len_set, Go.Am.len_kill] <;> omega) | fail) only [push_cast, Nat.reduceBEq, Nat.reduceAdd, Nat.reduceMul, Nat.reduceSub, Nat.reduceLT, Nat.reduceGT, Nat.reduceLeDiff, Nat.reduceEqDiff, Int.reduceToNat, Int.reduceAdd, Int.reduceMul, Int.reduceSub, Int.reduceNeg, Int.reduceLT, Int.reduceLE, Int.reduceEq, Nat.zero_add, Nat.add_zero, Nat.mul_one, eq_self, ne_eq, not_true, not_false_iff, and_true, true_and, and_self, List.getElem?_cons_zero, List.getElem?_cons_succ, List.map_cons, List.map_nil, dec_le h1, dec_le h2, ep, f0, f1, dec_eq hpp, f2, hm0, q1, dec_eq hmi]
    rw [lo]
    simp (disch := first | omega | (simp only [Go.Am.len_push, Go.Am.len_set, Go.Am.len_kill] <;> omega) | fail) only [push_cast, Nat.reduceBEq, Nat.reduceAdd, Nat.reduceMul, Nat.reduceSub, Nat.reduceLT, Nat.reduceGT, Nat.reduceLeDiff, Nat.reduceEqDiff, Int.reduceToNat, Int.reduceAdd, Int.reduceMul, Int.reduceSub, Int.reduceNeg, Int.reduceLT, Int.reduceLE, Int.reduceEq, Nat.zero_add, Nat.add_zero, Nat.mul_one, eq_self, ne_eq, not_true, not_false_iff, and_true, true_and, and_self, List.getElem?_cons_zero, List.getElem?_cons_succ, List.map_cons, List.map_nil]
end
end Go.Proofs.Ytammndhoillliaa
