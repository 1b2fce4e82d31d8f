/-
  What the program's field methods without loops compute. Conditions: a field that lies there. What the program's field methods with loops compute: sums, opposites, Frobenius, traces, norms. Conditions: a field that lies there. What the program's Trace, Norm and Within compute. Conditions: a field that lies there.
  What syndromeref's F.Mul, Neg, Add and Sub compute, as the table's numbers. Conditions: a field of the table. What syndromeref's F.Add and F.Sub compute. Conditions: a field of the table.
  What syndromeref's F.Inv, Pow, Log and Frob compute. Conditions: a field of the table. What syndromeref's F.Log, Frob, Trace, Norm and Within compute. Conditions: a field of the table. What syndromeref's F.Within computes. Conditions: a field of the table.
-/
import Derived.Test.YtammndhoillliaaK2
import Derived.Test.YtammndhoillliaaKFM0
import Derived.Test.YtammndhoillliaaKFM1
import Derived.Test.YtammndhoillliaaKFM2
import Derived.Test.YtammndhoillliaaKFM3
import Derived.Test.YtammndhoillliaaKFM4
namespace Go.Proofs.Ytammndhoillliaa
open Go.Am
set_option linter.unusedVariables false
set_option linter.unusedSimpArgs false
set_option maxRecDepth 30000

/-- a field that lies at F, as loads -/
structure PUse (h : H) (F : Nat) (q p : Int) (m : Nat) (g : Int) (mod : List Int) (E L om fm cm : Nat) : Prop where
  q2 : 2 ≤ q
  q64 : q ≤ 64
  f0 : h.ld1 F 0 = some (.int .i64 q)
  f1 : h.ld1 F 1 = some (.int .i64 p)
  f2 : h.ld1 F 2 = some (.int .i64 m)
  f3 : h.ld1 F 3 = some (.slice (some ⟨om, fm, none⟩) mod.length cm)
  f4 : h.ld1 F 4 = some (.int .i64 g)
  f5 : h.ld1 F 5 = some (.slice (some ⟨E, 0, none⟩) (q - 1).toNat (q - 1).toNat)
  f6 : h.ld1 F 6 = some (.slice (some ⟨L, 0, none⟩) q.toNat q.toNat)
  le : ∀ i, 0 ≤ i → i < q - 1 → h.ld1 E i.toNat = some (.int .i64 (fexp q i))
  ll : ∀ a, 0 ≤ a → a < q → h.ld1 L a.toNat = some (.int .i64 (flog q a))
  rm : RdI h (some ⟨om, fm, none⟩) cm mod
theorem PFld.use {h : H} {F : Nat} {q p : Int} {m : Nat} {g : Int} {mod : List Int} (hn : fldN q.toNat = some (p, m, g, mod)) (hp : PFld h F q p m g mod) : ∃ E L om fm cm, PUse h F q p m g mod E L om fm cm := by
  obtain ⟨h2, h64⟩ := fldN_le hn
  obtain ⟨om, fm, cm, _, hM, ⟨E, L, _, _, hF, hE, hL, he, hl⟩⟩ := hp.ok
  have ht := (tabs_ok hn).tab
  rw [ht] at hE hL he hl
  refine ⟨E, L, om, fm, cm, by omega, by omega, ld1_at hF rfl, ld1_at hF rfl, ld1_at hF rfl, ld1_at hF rfl, ld1_at hF rfl, ld1_at hF rfl, ld1_at hF rfl, fun i h0 hi => ?_, fun a h0 ha => ?_, hM⟩
  · rw [ld1_int hE h0 (by simp; omega)]
    congr 2
    unfold gi
    rw [List.getD_eq_getElem?_getD, List.getElem?_map, List.getElem?_range (by omega)]
    show fexp q ((i.toNat : Nat) : Int) = _
    rw [show ((i.toNat : Nat) : Int) = i by omega]
  · rw [ld1_int hL h0 (by simp; omega)]
    congr 2
    unfold gi
    rw [List.getD_eq_getElem?_getD, List.getElem?_map, List.getElem?_range (by omega)]
    show flog q ((a.toNat : Nat) : Int) = _
    rw [show ((a.toNat : Nat) : Int) = a by omega]
theorem fok_iff {q a : Int} : fok q a = true ↔ 0 ≤ a ∧ a < q := by unfold fok; simp
theorem fok_t {q a : Int} (h : 0 ≤ a ∧ a < q) : fok q a = true := fok_iff.2 h
theorem fok_f {q a : Int} (h : ¬ (0 ≤ a ∧ a < q)) : fok q a = false := by
  cases hx : fok q a with
  | false => rfl
  | true => exact absurd (fok_iff.1 hx) h
theorem fok_cases (q a : Int) : (fok q a = true ∧ 0 ≤ a ∧ a < q) ∨ fok q a = false := by
  cases hx : fok q a with
  | false => exact .inr rfl
  | true => exact .inl ⟨rfl, fok_iff.1 hx⟩

section
variable {h : H} {F : Nat} {q p : Int} {m : Nat} {g : Int} {mod : List Int} {E L om fm cm : Nat}

theorem phas_call (u : PUse h F q p m g mod E L om fm cm) (a : Int) : call T 49 [.pointer (some ⟨F, 0, none⟩), .int .i64 a] h = some (.bool (fok q a), h) := by
  have f0 := u.f0
  rw [call_at T49 rfl]
  unfold F49 c49 fok
  by_cases h0 : 0 ≤ a
  · simp (disch := first | omega | (simp only [Go.Am.len_push, Go.Am.len_set, Go.Am.len_kill] <;> omega) | fail) only [push_cast, seval, dec_le h0, f0]
  · simp (disch := first | omega | (simp only [Go.Am.len_push, Go.Am.len_set, Go.Am.len_kill] <;> omega) | fail) only [push_cast, seval, dec_nle (Int.lt_of_not_ge h0)]
theorem psize_call (u : PUse h F q p m g mod E L om fm cm) : call T 44 [.pointer (some ⟨F, 0, none⟩)] h = some (.int .i64 q, h) := by
  have f0 := u.f0
  rw [call_at T44 rfl]
  unfold F44 c44
  simp (disch := first | omega | (simp only [Go.Am.len_push, Go.Am.len_set, Go.Am.len_kill] <;> omega) | fail) only [push_cast, seval, f0]
theorem pchar_call (u : PUse h F q p m g mod E L om fm cm) : call T 45 [.pointer (some ⟨F, 0, none⟩)] h = some (.int .i64 p, h) := by
  have f0 := u.f1
  rw [call_at T45 rfl]
  unfold F45 c45
  simp (disch := first | omega | (simp only [Go.Am.len_push, Go.Am.len_set, Go.Am.len_kill] <;> omega) | fail) only [push_cast, seval, f0]
theorem pdegree_call (u : PUse h F q p m g mod E L om fm cm) : call T 46 [.pointer (some ⟨F, 0, none⟩)] h = some (.int .i64 m, h) := by
  have f0 := u.f2
  rw [call_at T46 rfl]
  unfold F46 c46
  simp (disch := first | omega | (simp only [Go.Am.len_push, Go.Am.len_set, Go.Am.len_kill] <;> omega) | fail) only [push_cast, seval, f0]
theorem pgen_call (u : PUse h F q p m g mod E L om fm cm) : call T 47 [.pointer (some ⟨F, 0, none⟩)] h = some (.int .i64 g, h) := by
  have f0 := u.f4
  rw [call_at T47 rfl]
  unfold F47 c47
  simp (disch := first | omega | (simp only [Go.Am.len_push, Go.Am.len_set, Go.Am.len_kill] <;> omega) | fail) only [push_cast, seval, f0]
theorem plog_call (u : PUse h F q p m g mod E L om fm cm) (a : Int) : call T 63 [.pointer (some ⟨F, 0, none⟩), .int .i64 a] h = some (.int .i64 (flogS q a), h) := by
  have f6 := u.f6
  have q2 := u.q2
  have eh := phas_call u a
  rw [call_at T63 rfl, flogS]
  unfold F63 c63
  rcases fok_cases q a with ⟨ho, h0, h1⟩ | ho
  · have e1 := u.ll a h0 h1
    have hi1 : 0 ≤ a ∧ a < ((q.toNat : Nat) : Int) := by omega
    have hi2 : a < max q 0 := by omega
    rw [ho] at eh ⊢
    simp (disch := first | omega | (simp only [Go.Am.len_push, Go.Am.len_set, Go.Am.len_kill] <;> omega) | fail) only [push_cast, seval, eh, f6, hi1, hi2, e1]
  · rw [ho] at eh ⊢
    simp (disch := first | omega | (simp only [Go.Am.len_push, Go.Am.len_set, Go.Am.len_kill] <;> omega) | fail) only [push_cast, seval, eh]
theorem pmul_call (hn : fldN q.toNat = some (p, m, g, mod)) (u : PUse h F q p m g mod E L om fm cm) (a b : Int) : call T 55 [.pointer (some ⟨F, 0, none⟩), .int .i64 a, .int .i64 b] h = some (.int .i64 (fmul q a b), h) := by
  have f0 := u.f0
  have f5 := u.f5
  have f6 := u.f6
  have q2 := u.q2
  have q64 := u.q64
  have eh := phas_call u a
  have ehb := phas_call u b
  rw [call_at T55 rfl, fmul]
  unfold F55 c55
  rcases fok_cases q a with ⟨ho, h0, h1⟩ | ho
  rotate_left
  · rw [ho] at eh ⊢
    simp (disch := first | omega | (simp only [Go.Am.len_push, Go.Am.len_set, Go.Am.len_kill] <;> omega) | fail) only [push_cast, seval, eh]
  rw [ho] at eh ⊢
  rcases fok_cases q b with ⟨hob, h0b, h1b⟩ | hob
  rotate_left
  · rw [hob] at ehb ⊢
    simp (disch := first | omega | (simp only [Go.Am.len_push, Go.Am.len_set, Go.Am.len_kill] <;> omega) | fail) only [push_cast, seval, eh, ehb]
  rw [hob] at ehb ⊢
  by_cases ha : a = 0
  · rw [show (a == 0) = true by simpa using ha]
    simp (disch := first | omega | (simp only [Go.Am.len_push, Go.Am.len_set, Go.Am.len_kill] <;> omega) | fail) only [push_cast, seval, eh, ehb, dec_eq ha]
  rw [show (a == 0) = false by simpa using ha]
  by_cases hb : b = 0
  · rw [show (b == 0) = true by simpa using hb]
    simp (disch := first | omega | (simp only [Go.Am.len_push, Go.Am.len_set, Go.Am.len_kill] <;> omega) | fail) only [push_cast, seval, eh, ehb, dec_ne ha, dec_eq hb]
  rw [show (b == 0) = false by simpa using hb]
  have e1 := u.ll a h0 h1
  have e2 := u.ll b h0b h1b
  have t := tabs_ok hn
  have l1 := t.lr a (by omega) h1
  have l2 := t.lr b (by omega) h1b
  obtain ⟨k, hk⟩ : ∃ k, k = (flog q a + flog q b) % (q - 1) := ⟨_, rfl⟩
  have hk0 : 0 ≤ k := by rw [hk]; exact Int.emod_nonneg _ (by omega)
  have hk1 : k < q - 1 := by rw [hk]; exact Int.emod_lt_of_pos _ (by omega)
  have e3 := u.le k hk0 hk1
  have q1 : (flog q a + flog q b).tmod (q - 1) = k := by rw [hk]; exact Int.tmod_eq_emod_of_nonneg (by omega)
  have hi1 : 0 ≤ a ∧ a < ((q.toNat : Nat) : Int) := by omega
  have hi2 : a < max q 0 := by omega
  have hi1b : 0 ≤ b ∧ b < ((q.toNat : Nat) : Int) := by omega
  have hi2b : b < max q 0 := by omega
  have hi3 : 0 ≤ k ∧ k < (((q - 1).toNat : Nat) : Int) := by omega
  have hi4 : k < max (q - 1) 0 := by omega
  have hq0 : ¬ q - 1 = 0 := by omega
  rw [← hk]
  simp (disch := first | omega | (simp only [Go.Am.len_push, Go.Am.len_set, Go.Am.len_kill] <;> omega) | fail) only [push_cast, seval, eh, ehb, dec_ne ha, dec_ne hb, f0, f5, f6, hi1, hi2, hi1b, hi2b, e1, e2, wrap64, hq0, q1, hi3, hi4, e3]
theorem pinv_call (hn : fldN q.toNat = some (p, m, g, mod)) (u : PUse h F q p m g mod E L om fm cm) (a : Int) : call T 59 [.pointer (some ⟨F, 0, none⟩), .int .i64 a] h = some (.int .i64 (finv q a), h) := by
  have f0 := u.f0
  have f5 := u.f5
  have f6 := u.f6
  have q2 := u.q2
  have q64 := u.q64
  have eh := phas_call u a
  rw [call_at T59 rfl, finv]
  unfold F59 c59
  rcases fok_cases q a with ⟨ho, h0, h1⟩ | ho
  rotate_left
  · rw [ho] at eh ⊢
    simp (disch := first | omega | (simp only [Go.Am.len_push, Go.Am.len_set, Go.Am.len_kill] <;> omega) | fail) only [push_cast, seval, eh]
  rw [ho] at eh ⊢
  by_cases ha : a = 0
  · rw [show (a == 0) = true by simpa using ha]
    simp (disch := first | omega | (simp only [Go.Am.len_push, Go.Am.len_set, Go.Am.len_kill] <;> omega) | fail) only [push_cast, seval, eh, dec_eq ha]
  rw [show (a == 0) = false by simpa using ha]
  have e1 := u.ll a h0 h1
  have t := tabs_ok hn
  have l1 := t.lr a (by omega) h1
  obtain ⟨k, hk⟩ : ∃ k, k = (q - 1 - flog q a) % (q - 1) := ⟨_, rfl⟩
  have hk0 : 0 ≤ k := by rw [hk]; exact Int.emod_nonneg _ (by omega)
  have hk1 : k < q - 1 := by rw [hk]; exact Int.emod_lt_of_pos _ (by omega)
  have e3 := u.le k hk0 hk1
  have q1 : (q - 1 - flog q a).tmod (q - 1) = k := by rw [hk]; exact Int.tmod_eq_emod_of_nonneg (by omega)
  have hi1 : 0 ≤ a ∧ a < ((q.toNat : Nat) : Int) := by omega
  have hi2 : a < max q 0 := by omega
  have hi3 : 0 ≤ k ∧ k < (((q - 1).toNat : Nat) : Int) := by omega
  have hi4 : k < max (q - 1) 0 := by omega
  have hq0 : ¬ q - 1 = 0 := by omega
  rw [← hk]
  simp (disch := first | omega | (simp only [Go.Am.len_push, Go.Am.len_set, Go.Am.len_kill] <;> omega) | fail) only [push_cast, seval, eh, dec_ne ha, f0, f5, f6, hi1, hi2, e1, wrap64, hq0, q1, hi3, hi4, e3]
theorem ppow_call (hn : fldN q.toNat = some (p, m, g, mod)) (u : PUse h F q p m g mod E L om fm cm) (a k : Int) : call T 61 [.pointer (some ⟨F, 0, none⟩), .int .i64 a, .int .i64 k] h = some (.int .i64 (fpow q a k), h) := by
  have f0 := u.f0
  have f5 := u.f5
  have f6 := u.f6
  have q2 := u.q2
  have q64 := u.q64
  have eh := phas_call u a
  rw [call_at T61 rfl, fpow]
  unfold F61 c61
  rcases fok_cases q a with ⟨ho, h0, h1⟩ | ho
  rotate_left
  · rw [ho] at eh ⊢
    simp (disch := first | omega | (simp only [Go.Am.len_push, Go.Am.len_set, Go.Am.len_kill] <;> omega) | fail) only [push_cast, seval, eh]
  rw [ho] at eh ⊢
  by_cases ha : a = 0
  · rw [show (a == 0) = true by simpa using ha]
    by_cases hk : k < 0
    · rw [decide_eq_true hk]
      simp (disch := first | omega | (simp only [Go.Am.len_push, Go.Am.len_set, Go.Am.len_kill] <;> omega) | fail) only [push_cast, seval, eh, dec_eq ha, dec_lt hk]
    rw [decide_eq_false hk]
    by_cases hk0 : k = 0
    · rw [show (k == 0) = true by simpa using hk0]
      simp (disch := first | omega | (simp only [Go.Am.len_push, Go.Am.len_set, Go.Am.len_kill] <;> omega) | fail) only [push_cast, seval, eh, dec_eq ha, dec_nlt (Int.not_lt.1 hk), dec_eq hk0]
    · rw [show (k == 0) = false by simpa using hk0]
      simp (disch := first | omega | (simp only [Go.Am.len_push, Go.Am.len_set, Go.Am.len_kill] <;> omega) | fail) only [push_cast, seval, eh, dec_eq ha, dec_nlt (Int.not_lt.1 hk), dec_ne hk0]
  rw [show (a == 0) = false by simpa using ha]
  by_cases hk0 : k = 0
  · rw [show (k == 0) = true by simpa using hk0]
    simp (disch := first | omega | (simp only [Go.Am.len_push, Go.Am.len_set, Go.Am.len_kill] <;> omega) | fail) only [push_cast, seval, eh, dec_ne ha, dec_eq hk0]
  rw [show (k == 0) = false by simpa using hk0]
  have e1 := u.ll a h0 h1
  have t := tabs_ok hn
  have l1 := t.lr a (by omega) h1
  have hq0 : ¬ q - 1 = 0 := by omega
  have hk1 : 0 ≤ k % (q - 1) := Int.emod_nonneg _ hq0
  have hk2 : k % (q - 1) < q - 1 := Int.emod_lt_of_pos _ (by omega)
  obtain ⟨j, hj⟩ : ∃ j, j = k % (q - 1) := ⟨_, rfl⟩
  rw [← hj] at hk1 hk2 ⊢
  have hlj : flog q a * j ≤ 64 * 64 := Int.mul_le_mul (by omega) (by omega) (by omega) (by omega)
  have hlj0 : 0 ≤ flog q a * j := Int.mul_nonneg (by omega) hk1
  obtain ⟨i, hi⟩ : ∃ i, i = flog q a * j % (q - 1) := ⟨_, rfl⟩
  have hi0 : 0 ≤ i := by rw [hi]; exact Int.emod_nonneg _ (by omega)
  have hil : i < q - 1 := by rw [hi]; exact Int.emod_lt_of_pos _ (by omega)
  have e3 := u.le i hi0 hil
  have q1 : (flog q a * j).tmod (q - 1) = i := by rw [hi]; exact Int.tmod_eq_emod_of_nonneg hlj0
  have hi1 : 0 ≤ a ∧ a < ((q.toNat : Nat) : Int) := by omega
  have hi2 : a < max q 0 := by omega
  have hi3 : 0 ≤ i ∧ i < (((q - 1).toNat : Nat) : Int) := by omega
  have hi4 : i < max (q - 1) 0 := by omega
  rw [← hi]
  have hte : k.tmod (q - 1) = if 0 ≤ k ∨ k % (q - 1) = 0 then j else j - (q - 1) := by
    rw [Int.tmod_eq_emod, hj]
    by_cases hc : 0 ≤ k ∨ (q - 1) ∣ k
    · rw [if_pos hc, if_pos (by rcases hc with h | h; exact .inl h; exact .inr (Int.emod_eq_zero_of_dvd h))]; simp
    · rw [if_neg hc, if_neg (fun h => hc (by rcases h with h | h; exact .inl h; exact .inr (Int.dvd_of_emod_eq_zero h)))]
      have : ((q - 1).natAbs : Int) = q - 1 := by omega
      rw [this]
  by_cases hc : 0 ≤ k ∨ k % (q - 1) = 0
  · rw [if_pos hc] at hte
    simp (disch := first | omega | (simp only [Go.Am.len_push, Go.Am.len_set, Go.Am.len_kill] <;> omega) | fail) only [push_cast, seval, eh, dec_ne ha, dec_ne hk0, f0, f5, f6, hi1, hi2, e1, wrap64, hq0, hte, dec_nlt hk1, q1, hi3, hi4, e3]
  · rw [if_neg hc] at hte
    have hneg : j - (q - 1) < 0 := by omega
    have hb : j - (q - 1) + (q - 1) = j := by omega
    simp (disch := first | omega | (simp only [Go.Am.len_push, Go.Am.len_set, Go.Am.len_kill] <;> omega) | fail) only [push_cast, seval, eh, dec_ne ha, dec_ne hk0, f0, f5, f6, hi1, hi2, e1, wrap64, hq0, hte, dec_lt hneg, hb, q1, hi3, hi4, e3]
end
end Go.Proofs.Ytammndhoillliaa
namespace Go.Proofs.Ytammndhoillliaa
open Go.Am
set_option linter.unusedVariables false
set_option linter.unusedSimpArgs false
set_option maxRecDepth 30000

/-- a copy of a list in a row of its own -/
theorem app_copy {h : H} {a : Option Addr} {c e : Nat} {l : List Int} (hr : RdI h a c l) (hl : l.length ≤ 1000000) :
    aapp e 1 8 (h ++ [.row ⟨[], e, 1, true⟩]) (.slice (some ⟨h.length, 0, none⟩) 0 0) (.slice a l.length c) =
      some (.slice (some ⟨h.length + 1, 0, none⟩) l.length l.length, kill (h ++ [.row ⟨[], e, 1, true⟩]) h.length ++ [.row ⟨ints l, e, 1, true⟩]) := by
  have hs := (hr.mono (List.prefix_append h [.row ⟨[], e, 1, true⟩])).src
  unfold aapp
  simp only [hs, row_push_new]
  rw [if_pos (by simp [few]; omega), len_push, Nat.zero_add]
  rfl
theorem copy_pre {h : H} {b b' : Ob} : h <+: kill (h ++ [b]) h.length ++ [b'] := pre_of (by rw [front_len]; omega) (fun o ho => front_keep ho)

theorem fdat_eq {q p g : Int} {m : Nat} {mod : List Int} (hn : fldN q.toNat = some (p, m, g, mod)) : fch q = p ∧ fdg q = m := by
  unfold fch fdg; rw [hn]; exact ⟨rfl, rfl⟩

section
variable {h : H} {F : Nat} {q p : Int} {m : Nat} {g : Int} {mod : List Int} {E L om fm cm : Nat}

theorem ppoly_call (u : PUse h F q p m g mod E L om fm cm) (hml : mod.length ≤ 1000000) : ∃ (h' : H) (o : Nat), h <+: h' ∧ RdI h' (some ⟨o, 0, none⟩) mod.length mod ∧ call T 48 [.pointer (some ⟨F, 0, none⟩)] h = some (.slice (some ⟨o, 0, none⟩) mod.length mod.length, h') := by
  have f3 : H.ld1 (h ++ [.row ⟨[], 3, 1, true⟩]) F 3 = some (.slice (some ⟨om, fm, none⟩) mod.length cm) := ld1_pre u.f3 (List.prefix_append _ _)
  have ea := app_copy (e := 3) u.rm hml
  refine ⟨kill (h ++ [.row ⟨[], 3, 1, true⟩]) h.length ++ [.row ⟨ints mod, 3, 1, true⟩], h.length + 1, copy_pre, RdI.ofRow front_row rfl, ?_⟩
  rw [call_at T48 rfl]
  unfold F48 c48
  simp (disch := first | omega | (simp only [Go.Am.len_push, Go.Am.len_set, Go.Am.len_kill] <;> omega) | fail) only [push_cast, seval, f3, ea]

theorem addN_bound {p : Int} (hp : 0 < p) : ∀ (n : Nat) (a b : Int), 0 ≤ addN p n a b ∧ addN p n a b < p ^ n
  | 0, a, b => by simp [addN]
  | n + 1, a, b => by
    have h1 := addN_bound hp n (a / p) (b / p)
    have h2 := Int.emod_nonneg (a % p + b % p) (show p ≠ 0 by omega)
    have h3 := Int.emod_lt_of_pos (a % p + b % p) hp
    have h4 : 0 ≤ p * addN p n (a / p) (b / p) := Int.mul_nonneg (by omega) h1.1
    have h5 : p * (addN p n (a / p) (b / p) + 1) ≤ p * p ^ n := Int.mul_le_mul_of_nonneg_left (by omega) (by omega)
    rw [addN, Int.pow_succ, Int.mul_comm (p ^ n) p]
    rw [Int.mul_add, Int.mul_one] at h5
    omega
theorem negN_bound {p : Int} (hp : 0 < p) : ∀ (n : Nat) (a : Int), 0 ≤ negN p n a ∧ negN p n a < p ^ n
  | 0, a => by simp [negN]
  | n + 1, a => by
    have h1 := negN_bound hp n (a / p)
    have h2 := Int.emod_nonneg (p - a % p) (show p ≠ 0 by omega)
    have h3 := Int.emod_lt_of_pos (p - a % p) hp
    have h4 : 0 ≤ p * negN p n (a / p) := Int.mul_nonneg (by omega) h1.1
    have h5 : p * (negN p n (a / p) + 1) ≤ p * p ^ n := Int.mul_le_mul_of_nonneg_left (by omega) (by omega)
    rw [negN, Int.pow_succ, Int.mul_comm (p ^ n) p]
    rw [Int.mul_add, Int.mul_one] at h5
    omega

theorem padd_loop (u : PUse h F q p m g mod E L om fm cm) (hf : FOk q p m mod) : ∀ (n : Nat) (a b s w i : Int), i + n = m → 0 ≤ i → 0 ≤ a → a ≤ 64 → 0 ≤ b → b ≤ 64 → 0 ≤ s → s + 4096 * n ≤ 100000 → 1 ≤ w → w * p ^ n ≤ 64 →
    ∀ ks, goL T [.tmp 6] [0, 1, 2, 7, 8, 22, 23] c51L0 (.blk 0 [7] :: ks) [(0, .pointer (some ⟨F, 0, none⟩)), (1, .int .i64 a), (2, .int .i64 b), (7, .int .i64 s), (8, .int .i64 w), (22, .int .i64 m), (23, .int .i64 i)] h =
      go T [.tmp 6] ks (Fr.of [(7, .int .i64 (s + w * addN p n a b))]) h
  | 0, a, b, s, w, i, hi, hi0, ha, ha2, hb, hb2, hs, hs2, hw, hw2 => fun ks => by
    rw [goL_at c51L0.eq_def]
    simp (disch := first | omega | (simp only [Go.Am.len_push, Go.Am.len_set, Go.Am.len_kill] <;> omega) | fail) only [push_cast, seval, dec_nlt, addN, Int.mul_zero, Int.add_zero]
  | n + 1, a, b, s, w, i, hi, hi0, ha, ha2, hb, hb2, hs, hs2, hw, hw2 => fun ks => by
    have f1 := u.f1
    have hp := hf.p2
    have hp64 := hf.p64
    have hm := hf.m10
    have hp0 : ¬ p = 0 := by omega
    have a1 := Int.emod_nonneg a hp0
    have a2 := Int.emod_lt_of_pos a (show 0 < p by omega)
    have b1 := Int.emod_nonneg b hp0
    have b2 := Int.emod_lt_of_pos b (show 0 < p by omega)
    have a3 : 0 ≤ a / p := Int.ediv_nonneg ha (by omega)
    have a4 : a / p ≤ a := Int.ediv_le_self _ ha
    have b3 : 0 ≤ b / p := Int.ediv_nonneg hb (by omega)
    have b4 : b / p ≤ b := Int.ediv_le_self _ hb
    obtain ⟨d, hd⟩ : ∃ d, d = (a % p + b % p) % p := ⟨_, rfl⟩
    have d1 : 0 ≤ d := by rw [hd]; exact Int.emod_nonneg _ hp0
    have d2 : d < p := by rw [hd]; exact Int.emod_lt_of_pos _ (by omega)
    have q1 : a.tmod p = a % p := Int.tmod_eq_emod_of_nonneg ha
    have q2 : b.tmod p = b % p := Int.tmod_eq_emod_of_nonneg hb
    have q3 : (a % p + b % p).tmod p = d := by rw [hd]; exact Int.tmod_eq_emod_of_nonneg (by omega)
    have q4 : a.tdiv p = a / p := Int.tdiv_eq_ediv_of_nonneg ha
    have q5 : b.tdiv p = b / p := Int.tdiv_eq_ediv_of_nonneg hb
    have hpn : 1 ≤ p ^ n := by have := ipow_mono (p := p) (by omega) (Nat.zero_le n); simpa using this
    have w1 : w * p * p ^ n ≤ 64 := by rw [Int.pow_succ] at hw2; rw [Int.mul_assoc, Int.mul_comm p]; exact hw2
    have hwp : 0 ≤ w * p := Int.mul_nonneg (by omega) (by omega)
    have w2 : w * p * 1 ≤ w * p * p ^ n := Int.mul_le_mul_of_nonneg_left hpn hwp
    have w3 : 1 * 1 ≤ w * p := Int.mul_le_mul hw (by omega) (by omega) (by omega)
    have w4 : w * 1 ≤ w * p := Int.mul_le_mul_of_nonneg_left (by omega) (by omega)
    have dw : d * w ≤ 64 * 64 := Int.mul_le_mul (by omega) (by omega) (by omega) (by omega)
    have dw0 : 0 ≤ d * w := Int.mul_nonneg d1 (by omega)
    have e1 : s + w * addN p (n + 1) a b = s + d * w + w * p * addN p n (a / p) (b / p) := by
      rw [addN, ← hd, Int.mul_add, Int.mul_comm w d, Int.mul_assoc]; omega
    have ih := padd_loop u hf n (a / p) (b / p) (s + d * w) (w * p) (i + 1) (by omega) (by omega) a3 (by omega) b3 (by omega) (by omega) (by omega) (by omega) w1 ks
    rw [e1, ← ih, goL_at c51L0.eq_def]
    simp (disch := first | omega | (simp only [Go.Am.len_push, Go.Am.len_set, Go.Am.len_kill] <;> omega) | fail) only [push_cast, seval, dec_lt, f1, hp0, q1, q2, q3, q4, q5, wrap64]
theorem padd_call (hn : fldN q.toNat = some (p, m, g, mod)) (u : PUse h F q p m g mod E L om fm cm) (hf : FOk q p m mod) (a b : Int) : call T 51 [.pointer (some ⟨F, 0, none⟩), .int .i64 a, .int .i64 b] h = some (.int .i64 (fadd q a b), h) := by
  have f2 := u.f2
  have q64 := u.q64
  have hm := hf.m10
  have eh := phas_call u a
  have ehb := phas_call u b
  obtain ⟨hc, hd⟩ := fdat_eq hn
  rw [call_at T51 rfl, fadd, hc, hd]
  unfold F51 c51
  rcases fok_cases q a with ⟨ho, h0, h1⟩ | ho
  rotate_left
  · rw [ho] at eh ⊢
    simp (disch := first | omega | (simp only [Go.Am.len_push, Go.Am.len_set, Go.Am.len_kill] <;> omega) | fail) only [push_cast, seval, eh]
  rw [ho] at eh ⊢
  rcases fok_cases q b with ⟨hob, h0b, h1b⟩ | hob
  rotate_left
  · rw [hob] at ehb ⊢
    simp (disch := first | omega | (simp only [Go.Am.len_push, Go.Am.len_set, Go.Am.len_kill] <;> omega) | fail) only [push_cast, seval, eh, ehb]
  rw [hob] at ehb ⊢
  have lo := padd_loop u hf m a b 0 1 0 (by omega) (by omega) h0 (by omega) h0b (by omega) (by omega) (by omega) (by omega) (by rw [Int.one_mul, hf.pm]; exact q64)
  rw [Int.zero_add, Int.one_mul] at lo
  simp (disch := first | omega | (simp only [Go.Am.len_push, Go.Am.len_set, Go.Am.len_kill] <;> omega) | fail) only [push_cast, seval, eh, ehb, f2]
  rw [lo]
  simp (disch := first | omega | (simp only [Go.Am.len_push, Go.Am.len_set, Go.Am.len_kill] <;> omega) | fail) only [push_cast, seval]

theorem pneg_loop (u : PUse h F q p m g mod E L om fm cm) (hf : FOk q p m mod) : ∀ (n : Nat) (a s w i : Int), i + n = m → 0 ≤ i → 0 ≤ a → a ≤ 64 → 0 ≤ s → s + 4096 * n ≤ 100000 → 1 ≤ w → w * p ^ n ≤ 64 →
    ∀ ks, goL T [.tmp 4] [0, 1, 5, 6, 14, 15] c57L0 (.blk 0 [5] :: ks) [(0, .pointer (some ⟨F, 0, none⟩)), (1, .int .i64 a), (5, .int .i64 s), (6, .int .i64 w), (14, .int .i64 m), (15, .int .i64 i)] h =
      go T [.tmp 4] ks (Fr.of [(5, .int .i64 (s + w * negN p n a))]) h
  | 0, a, s, w, i, hi, hi0, ha, ha2, hs, hs2, hw, hw2 => fun ks => by
    rw [goL_at c57L0.eq_def]
    simp (disch := first | omega | (simp only [Go.Am.len_push, Go.Am.len_set, Go.Am.len_kill] <;> omega) | fail) only [push_cast, seval, dec_nlt, negN, Int.mul_zero, Int.add_zero]
  | n + 1, a, s, w, i, hi, hi0, ha, ha2, hs, hs2, hw, hw2 => fun ks => by
    have f1 := u.f1
    have hp := hf.p2
    have hp64 := hf.p64
    have hm := hf.m10
    have hp0 : ¬ p = 0 := by omega
    have a1 := Int.emod_nonneg a hp0
    have a2 := Int.emod_lt_of_pos a (show 0 < p by omega)
    have a3 : 0 ≤ a / p := Int.ediv_nonneg ha (by omega)
    have a4 : a / p ≤ a := Int.ediv_le_self _ ha
    obtain ⟨d, hd⟩ : ∃ d, d = (p - a % p) % p := ⟨_, rfl⟩
    have d1 : 0 ≤ d := by rw [hd]; exact Int.emod_nonneg _ hp0
    have d2 : d < p := by rw [hd]; exact Int.emod_lt_of_pos _ (by omega)
    have q1 : a.tmod p = a % p := Int.tmod_eq_emod_of_nonneg ha
    have q3 : (p - a % p).tmod p = d := by rw [hd]; exact Int.tmod_eq_emod_of_nonneg (by omega)
    have q4 : a.tdiv p = a / p := Int.tdiv_eq_ediv_of_nonneg ha
    have hpn : 1 ≤ p ^ n := by have := ipow_mono (p := p) (by omega) (Nat.zero_le n); simpa using this
    have w1 : w * p * p ^ n ≤ 64 := by rw [Int.pow_succ] at hw2; rw [Int.mul_assoc, Int.mul_comm p]; exact hw2
    have hwp : 0 ≤ w * p := Int.mul_nonneg (by omega) (by omega)
    have w2 : w * p * 1 ≤ w * p * p ^ n := Int.mul_le_mul_of_nonneg_left hpn hwp
    have w3 : 1 * 1 ≤ w * p := Int.mul_le_mul hw (by omega) (by omega) (by omega)
    have w4 : w * 1 ≤ w * p := Int.mul_le_mul_of_nonneg_left (by omega) (by omega)
    have dw : d * w ≤ 64 * 64 := Int.mul_le_mul (by omega) (by omega) (by omega) (by omega)
    have dw0 : 0 ≤ d * w := Int.mul_nonneg d1 (by omega)
    have e1 : s + w * negN p (n + 1) a = s + d * w + w * p * negN p n (a / p) := by
      rw [negN, ← hd, Int.mul_add, Int.mul_comm w d, Int.mul_assoc]; omega
    have ih := pneg_loop u hf n (a / p) (s + d * w) (w * p) (i + 1) (by omega) (by omega) a3 (by omega) (by omega) (by omega) (by omega) w1 ks
    rw [e1, ← ih, goL_at c57L0.eq_def]
    simp (disch := first | omega | (simp only [Go.Am.len_push, Go.Am.len_set, Go.Am.len_kill] <;> omega) | fail) only [push_cast, seval, dec_lt, f1, hp0, q1, q3, q4, wrap64]
theorem pneg_call (hn : fldN q.toNat = some (p, m, g, mod)) (u : PUse h F q p m g mod E L om fm cm) (hf : FOk q p m mod) (a : Int) : call T 57 [.pointer (some ⟨F, 0, none⟩), .int .i64 a] h = some (.int .i64 (fneg q a), h) := by
  have f2 := u.f2
  have q64 := u.q64
  have hm := hf.m10
  have eh := phas_call u a
  obtain ⟨hc, hd⟩ := fdat_eq hn
  rw [call_at T57 rfl, fneg, hc, hd]
  unfold F57 c57
  rcases fok_cases q a with ⟨ho, h0, h1⟩ | ho
  rotate_left
  · rw [ho] at eh ⊢
    simp (disch := first | omega | (simp only [Go.Am.len_push, Go.Am.len_set, Go.Am.len_kill] <;> omega) | fail) only [push_cast, seval, eh]
  rw [ho] at eh ⊢
  have lo := pneg_loop u hf m a 0 1 0 (by omega) (by omega) h0 (by omega) (by omega) (by omega) (by omega) (by rw [Int.one_mul, hf.pm]; exact q64)
  rw [Int.zero_add, Int.one_mul] at lo
  simp (disch := first | omega | (simp only [Go.Am.len_push, Go.Am.len_set, Go.Am.len_kill] <;> omega) | fail) only [push_cast, seval, eh, f2]
  rw [lo]
  simp (disch := first | omega | (simp only [Go.Am.len_push, Go.Am.len_set, Go.Am.len_kill] <;> omega) | fail) only [push_cast, seval]
theorem psub_call (hn : fldN q.toNat = some (p, m, g, mod)) (u : PUse h F q p m g mod E L om fm cm) (hf : FOk q p m mod) (a b : Int) : call T 53 [.pointer (some ⟨F, 0, none⟩), .int .i64 a, .int .i64 b] h = some (.int .i64 (fsub q a b), h) := by
  have e1 := pneg_call hn u hf b
  have e2 := padd_call hn u hf a (fneg q b)
  rw [call_at T53 rfl, fsub]
  unfold F53 c53
  simp (disch := first | omega | (simp only [Go.Am.len_push, Go.Am.len_set, Go.Am.len_kill] <;> omega) | fail) only [push_cast, seval, e1, e2]

theorem pfrob_loop (hn : fldN q.toNat = some (p, m, g, mod)) (u : PUse h F q p m g mod E L om fm cm) (t : Int) (ht : t ≤ 1000) : ∀ (n : Nat) (a i : Int), i + n = t → 0 ≤ i →
    ∀ ks, goL T [.tmp 6] [0, 1, 25, 26] c65L0 (.blk 0 [1] :: ks) [(0, .pointer (some ⟨F, 0, none⟩)), (1, .int .i64 a), (25, .int .i64 t), (26, .int .i64 i)] h = go T [.tmp 6] ks (Fr.of [(1, .int .i64 (frobN q n a))]) h
  | 0, a, i, hi, hi0 => fun ks => by
    rw [goL_at c65L0.eq_def]
    simp (disch := first | omega | (simp only [Go.Am.len_push, Go.Am.len_set, Go.Am.len_kill] <;> omega) | fail) only [push_cast, seval, dec_nlt, frobN]
  | n + 1, a, i, hi, hi0 => fun ks => by
    have f1 := u.f1
    have e1 := ppow_call hn u a p
    have ih := pfrob_loop hn u t ht n (fpow q a p) (i + 1) (by omega) (by omega) ks
    rw [frobN, (fdat_eq hn).1, ← ih, goL_at c65L0.eq_def]
    simp (disch := first | omega | (simp only [Go.Am.len_push, Go.Am.len_set, Go.Am.len_kill] <;> omega) | fail) only [push_cast, seval, dec_lt, f1, e1, wrap64]
theorem pfrob_call (hn : fldN q.toNat = some (p, m, g, mod)) (u : PUse h F q p m g mod E L om fm cm) (hf : FOk q p m mod) (a t : Int) : call T 65 [.pointer (some ⟨F, 0, none⟩), .int .i64 a, .int .i64 t] h = some (.int .i64 (ffrob q a t), h) := by
  have f2 := u.f2
  have hm1 := hf.m1
  have hm := hf.m10
  have eh := phas_call u a
  rw [call_at T65 rfl, ffrob, (fdat_eq hn).2]
  unfold F65 c65
  rcases fok_cases q a with ⟨ho, h0, h1⟩ | ho
  rotate_left
  · rw [ho] at eh ⊢
    simp (disch := first | omega | (simp only [Go.Am.len_push, Go.Am.len_set, Go.Am.len_kill] <;> omega) | fail) only [push_cast, seval, eh]
  rw [ho] at eh ⊢
  have hm0 : ¬ (m : Int) = 0 := by omega
  obtain ⟨j, hj⟩ : ∃ j, j = t % (m : Int) := ⟨_, rfl⟩
  have hj1 : 0 ≤ j := by rw [hj]; exact Int.emod_nonneg _ hm0
  have hj2 : j < m := by rw [hj]; exact Int.emod_lt_of_pos _ (by omega)
  have lo := pfrob_loop hn u j (by omega) j.toNat a 0 (by omega) (by omega)
  rw [← hj]
  have hte : t.tmod (m : Int) = if 0 ≤ t ∨ t % (m : Int) = 0 then j else j - m := by
    rw [Int.tmod_eq_emod, hj]
    by_cases hc : 0 ≤ t ∨ (m : Int) ∣ t
    · rw [if_pos hc, if_pos (by rcases hc with h | h; exact .inl h; exact .inr (Int.emod_eq_zero_of_dvd h))]; simp
    · rw [if_neg hc, if_neg (fun h => hc (by rcases h with h | h; exact .inl h; exact .inr (Int.dvd_of_emod_eq_zero h)))]
      rfl
  by_cases hc : 0 ≤ t ∨ t % (m : Int) = 0
  · rw [if_pos hc] at hte
    simp (disch := first | omega | (simp only [Go.Am.len_push, Go.Am.len_set, Go.Am.len_kill] <;> omega) | fail) only [push_cast, seval, eh, f2, hm0, hte, dec_nlt hj1]
    rw [lo]
    simp (disch := first | omega | (simp only [Go.Am.len_push, Go.Am.len_set, Go.Am.len_kill] <;> omega) | fail) only [push_cast, seval]
  · rw [if_neg hc] at hte
    have hneg : j - (m : Int) < 0 := by omega
    have hb : j - (m : Int) + m = j := by omega
    simp (disch := first | omega | (simp only [Go.Am.len_push, Go.Am.len_set, Go.Am.len_kill] <;> omega) | fail) only [push_cast, seval, eh, f2, hm0, hte, dec_lt hneg, hb, wrap64]
    rw [lo]
    simp (disch := first | omega | (simp only [Go.Am.len_push, Go.Am.len_set, Go.Am.len_kill] <;> omega) | fail) only [push_cast, seval]
end
end Go.Proofs.Ytammndhoillliaa
namespace Go.Proofs.Ytammndhoillliaa
open Go.Am
set_option linter.unusedVariables false
set_option linter.unusedSimpArgs false
set_option maxRecDepth 30000

section
variable {h : H} {F : Nat} {q p : Int} {m : Nat} {g : Int} {mod : List Int} {E L om fm cm : Nat}

theorem ptrace_loop (hn : fldN q.toNat = some (p, m, g, mod)) (u : PUse h F q p m g mod E L om fm cm) (hf : FOk q p m mod) (a : Int) : ∀ (n : Nat) (s : Int) (k : Nat), k + n = m →
    ∀ ks, goL T [.tmp 4] [0, 1, 5, 14, 15] c67L0 (.blk 0 [5] :: ks) [(0, .pointer (some ⟨F, 0, none⟩)), (1, .int .i64 a), (5, .int .i64 s), (14, .int .i64 m), (15, .int .i64 k)] h = go T [.tmp 4] ks (Fr.of [(5, .int .i64 (traceN q a n k s))]) h
  | 0, s, k, hk => fun ks => by
    rw [goL_at c67L0.eq_def]
    have : (m : Int) ≤ (k : Int) := by omega
    simp (disch := first | omega | (simp only [Go.Am.len_push, Go.Am.len_set, Go.Am.len_kill] <;> omega) | fail) only [push_cast, seval, dec_nlt, traceN]
  | n + 1, s, k, hk => fun ks => by
    have hm := hf.m10
    have e1 := pfrob_call hn u hf a k
    have e2 := padd_call hn u hf s (ffrob q a k)
    have ih := ptrace_loop hn u hf a n (fadd q s (ffrob q a k)) (k + 1) (by omega) ks
    rw [Int.natCast_add, Int.natCast_one] at ih
    rw [traceN, ← ih, goL_at c67L0.eq_def]
    simp (disch := first | omega | (simp only [Go.Am.len_push, Go.Am.len_set, Go.Am.len_kill] <;> omega) | fail) only [push_cast, seval, dec_lt, e1, e2, wrap64]
theorem ptrace_call (hn : fldN q.toNat = some (p, m, g, mod)) (u : PUse h F q p m g mod E L om fm cm) (hf : FOk q p m mod) (a : Int) : call T 67 [.pointer (some ⟨F, 0, none⟩), .int .i64 a] h = some (.int .i64 (ftrace q a), h) := by
  have f2 := u.f2
  have eh := phas_call u a
  rw [call_at T67 rfl, ftrace, (fdat_eq hn).2]
  unfold F67 c67
  rcases fok_cases q a with ⟨ho, h0, h1⟩ | ho
  rotate_left
  · rw [ho] at eh ⊢
    simp (disch := first | omega | (simp only [Go.Am.len_push, Go.Am.len_set, Go.Am.len_kill] <;> omega) | fail) only [push_cast, seval, eh]
  rw [ho] at eh ⊢
  have lo := ptrace_loop hn u hf a m 0 0 (by omega)
  rw [show ((0 : Nat) : Int) = 0 from rfl] at lo
  simp (disch := first | omega | (simp only [Go.Am.len_push, Go.Am.len_set, Go.Am.len_kill] <;> omega) | fail) only [push_cast, seval, eh, f2]
  rw [lo]
  simp (disch := first | omega | (simp only [Go.Am.len_push, Go.Am.len_set, Go.Am.len_kill] <;> omega) | fail) only [push_cast, seval]
theorem pnorm_loop (hn : fldN q.toNat = some (p, m, g, mod)) (u : PUse h F q p m g mod E L om fm cm) (hf : FOk q p m mod) (a : Int) : ∀ (n : Nat) (s : Int) (k : Nat), k + n = m →
    ∀ ks, goL T [.tmp 4] [0, 1, 5, 14, 15] c69L0 (.blk 0 [5] :: ks) [(0, .pointer (some ⟨F, 0, none⟩)), (1, .int .i64 a), (5, .int .i64 s), (14, .int .i64 m), (15, .int .i64 k)] h = go T [.tmp 4] ks (Fr.of [(5, .int .i64 (normN q a n k s))]) h
  | 0, s, k, hk => fun ks => by
    rw [goL_at c69L0.eq_def]
    have : (m : Int) ≤ (k : Int) := by omega
    simp (disch := first | omega | (simp only [Go.Am.len_push, Go.Am.len_set, Go.Am.len_kill] <;> omega) | fail) only [push_cast, seval, dec_nlt, normN]
  | n + 1, s, k, hk => fun ks => by
    have hm := hf.m10
    have e1 := pfrob_call hn u hf a k
    have e2 := pmul_call hn u s (ffrob q a k)
    have ih := pnorm_loop hn u hf a n (fmul q s (ffrob q a k)) (k + 1) (by omega) ks
    rw [Int.natCast_add, Int.natCast_one] at ih
    rw [normN, ← ih, goL_at c69L0.eq_def]
    simp (disch := first | omega | (simp only [Go.Am.len_push, Go.Am.len_set, Go.Am.len_kill] <;> omega) | fail) only [push_cast, seval, dec_lt, e1, e2, wrap64]
theorem pnorm_call (hn : fldN q.toNat = some (p, m, g, mod)) (u : PUse h F q p m g mod E L om fm cm) (hf : FOk q p m mod) (a : Int) : call T 69 [.pointer (some ⟨F, 0, none⟩), .int .i64 a] h = some (.int .i64 (fnorm q a), h) := by
  have f2 := u.f2
  have eh := phas_call u a
  rw [call_at T69 rfl, fnorm, (fdat_eq hn).2]
  unfold F69 c69
  rcases fok_cases q a with ⟨ho, h0, h1⟩ | ho
  rotate_left
  · rw [ho] at eh ⊢
    simp (disch := first | omega | (simp only [Go.Am.len_push, Go.Am.len_set, Go.Am.len_kill] <;> omega) | fail) only [push_cast, seval, eh]
  rw [ho] at eh ⊢
  have lo := pnorm_loop hn u hf a m 1 0 (by omega)
  rw [show ((0 : Nat) : Int) = 0 from rfl] at lo
  simp (disch := first | omega | (simp only [Go.Am.len_push, Go.Am.len_set, Go.Am.len_kill] <;> omega) | fail) only [push_cast, seval, eh, f2]
  rw [lo]
  simp (disch := first | omega | (simp only [Go.Am.len_push, Go.Am.len_set, Go.Am.len_kill] <;> omega) | fail) only [push_cast, seval]
end

/-- the elements from one on that a power leaves -/
def withN (q s : Int) : Nat → Nat → List Int
  | 0, _ => []
  | n + 1, a => bif decide (fpow q a s = a) then (a : Int) :: withN q s n (a + 1) else withN q s n (a + 1)
def withP (q s : Int) : List Int := match fldN s.toNat with
  | some (p, m, _, _) => bif decide (p = fch q) && decide (fdg q % m = 0) then withN q s q.toNat 0 else []
  | none => []
theorem withN_len (q s : Int) : ∀ (n a : Nat), (withN q s n a).length ≤ n
  | 0, a => Nat.le_refl _
  | n + 1, a => by
    rw [withN]
    have := withN_len q s n (a + 1)
    cases decide (fpow q a s = a)
    · simp only [cond_false]; omega
    · simp only [cond_true, List.length_cons]; omega

section
variable {h : H} {F : Nat} {q p : Int} {m : Nat} {g : Int} {mod : List Int} {E L om fm cm : Nat}
theorem PUse.mono {h' : H} (u : PUse h F q p m g mod E L om fm cm) (hp : h <+: h') : PUse h' F q p m g mod E L om fm cm :=
  ⟨u.q2, u.q64, ld1_pre u.f0 hp, ld1_pre u.f1 hp, ld1_pre u.f2 hp, ld1_pre u.f3 hp, ld1_pre u.f4 hp, ld1_pre u.f5 hp, ld1_pre u.f6 hp, fun i h0 hi => ld1_pre (u.le i h0 hi) hp, fun i h0 hi => ld1_pre (u.ll i h0 hi) hp, u.rm.mono hp⟩

theorem pwith_loop (hn : fldN q.toNat = some (p, m, g, mod)) (u : PUse h F q p m g mod E L om fm cm) (s : Int) : ∀ (n k : Nat) (zs : List Int) (sa : Option Addr) (c : Nat) (G : H), (k : Int) + n = q → zs.length ≤ k → h <+: G → Grown G sa c zs h.length →
    ∃ (sa' : Option Addr) (c' : Nat) (G' : H), h <+: G' ∧ Grown G' sa' c' (zs ++ withN q s n k) h.length ∧
      ∀ ks, goL T [.tmp 4] [0, 1, 7, 38, 39] c71L0 (.blk 0 [7] :: ks) [(0, .pointer (some ⟨F, 0, none⟩)), (1, .int .i64 s), (7, .slice sa zs.length c), (38, .int .i64 q), (39, .int .i64 k)] G =
        go T [.tmp 4] ks (Fr.of [(7, .slice sa' (zs ++ withN q s n k).length c')]) G'
  | 0, k, zs, sa, c, G, hk, hz, hp, hg => by
    refine ⟨sa, c, G, hp, by rw [withN, List.append_nil]; exact hg, fun ks => ?_⟩
    rw [goL_at c71L0.eq_def]
    have : q ≤ (k : Int) := by omega
    simp (disch := first | omega | (simp only [Go.Am.len_push, Go.Am.len_set, Go.Am.len_kill] <;> omega) | fail) only [push_cast, seval, dec_nlt, withN, List.append_nil]
  | n + 1, k, zs, sa, c, G, hk, hz, hp, hg => by
    have q64 := u.q64
    have e1 := ppow_call hn (u.mono hp) (k : Int) s
    by_cases he : fpow q k s = k
    · obtain ⟨sa1, G1, ea, hg1, hl1, _, hpre⟩ := hg.one (y := (k : Int)) (by omega) (pre_len hp)
      obtain ⟨sa2, c2, G2, p2, hg2, ih⟩ := pwith_loop hn u s n (k + 1) (zs ++ [(k : Int)]) sa1 (zs.length + 1) G1 (by omega) (by simp; omega) (hpre h (Nat.le_refl _) hp) hg1
      have hw : zs ++ withN q s (n + 1) k = zs ++ [(k : Int)] ++ withN q s n (k + 1) := by rw [withN, decide_eq_true he, cond_true]; simp
      refine ⟨sa2, c2, G2, p2, by rw [hw]; exact hg2, fun ks => ?_⟩
      have ih' := ih ks
      rw [Int.natCast_add, Int.natCast_one] at ih'
      rw [hw, ← ih', goL_at c71L0.eq_def]
      have hlen : (zs ++ [(k : Int)]).length = zs.length + 1 := by simp
      simp (disch := first | omega | (simp only [Go.Am.len_push, Go.Am.len_set, Go.Am.len_kill] <;> omega) | fail) only [push_cast, seval, dec_lt, e1, dec_eq he, ea, hlen, wrap64]
    · obtain ⟨sa2, c2, G2, p2, hg2, ih⟩ := pwith_loop hn u s n (k + 1) zs sa c G (by omega) (by omega) hp hg
      have hw : zs ++ withN q s (n + 1) k = zs ++ withN q s n (k + 1) := by rw [withN, decide_eq_false he, cond_false]
      refine ⟨sa2, c2, G2, p2, by rw [hw]; exact hg2, fun ks => ?_⟩
      have ih' := ih ks
      rw [Int.natCast_add, Int.natCast_one] at ih'
      rw [hw, ← ih', goL_at c71L0.eq_def]
      simp (disch := first | omega | (simp only [Go.Am.len_push, Go.Am.len_set, Go.Am.len_kill] <;> omega) | fail) only [push_cast, seval, dec_lt, e1, dec_ne he, wrap64]

theorem pwithin_call (hn : fldN q.toNat = some (p, m, g, mod)) (u : PUse h F q p m g mod E L om fm cm) (hf : FOk q p m mod) (s : Int) : ∃ (sa : Option Addr) (c : Nat) (h' : H), h <+: h' ∧ RdI h' sa c (withP q s) ∧
    call T 71 [.pointer (some ⟨F, 0, none⟩), .int .i64 s] h = some (.slice sa (withP q s).length c, h') := by
  have f0 := u.f0
  have f1 := u.f1
  have f2 := u.f2
  have q2 := u.q2
  have hp2 := hf.p2
  obtain ⟨hc, hd⟩ := fdat_eq hn
  have hp0 : ¬ (0 : Int) = p := by omega
  cases hs : fldN s.toNat with
  | none =>
    have hw : withP q s = [] := by unfold withP; rw [hs]
    rw [hw]
    refine ⟨none, 0, h, List.prefix_refl _, .nil, ?_⟩
    rw [call_at T71 rfl]
    unfold F71 c71
    by_cases h1 : 2 ≤ s
    · by_cases h2 : s ≤ 64
      · have ho := fld_none (n := s.toNat) (by omega) (by omega) hs
        rw [show ((s.toNat : Nat) : Int) = s by omega] at ho
        have ep := pprime_call s ⟨h1, h2⟩ h _ ho
        simp (disch := first | omega | (simp only [Go.Am.len_push, Go.Am.len_set, Go.Am.len_kill] <;> omega) | fail) only [push_cast, seval, dec_le h1, dec_le h2, ep, f1, dec_ne hp0]
      · simp (disch := first | omega | (simp only [Go.Am.len_push, Go.Am.len_set, Go.Am.len_kill] <;> omega) | fail) only [push_cast, seval, dec_le h1, dec_nle (Int.not_le.1 h2), f1, dec_ne hp0]
    · simp (disch := first | omega | (simp only [Go.Am.len_push, Go.Am.len_set, Go.Am.len_kill] <;> omega) | fail) only [push_cast, seval, dec_nle (Int.not_le.1 h1), f1, dec_ne hp0]
  | some x =>
    obtain ⟨p', m', g', mod'⟩ := x
    obtain ⟨hs2, hs64⟩ := fldN_le hs
    obtain ⟨hf', ho, _⟩ := fld_ok hs
    rw [show ((s.toNat : Nat) : Int) = s by omega] at ho
    have h1 : 2 ≤ s := by omega
    have h2 : s ≤ 64 := by omega
    have ep := pprime_call s ⟨h1, h2⟩ h _ ho
    have hm1 := hf'.m1
    have hm0 : ¬ (m' : Int) = 0 := by omega
    by_cases hpp : p' = p
    rotate_left
    · have hw : withP q s = [] := by unfold withP; rw [hs, hc]; simp [hpp]
      rw [hw]
      refine ⟨none, 0, h, List.prefix_refl _, .nil, ?_⟩
      rw [call_at T71 rfl]
      unfold F71 c71
      simp (disch := first | omega | (simp only [Go.Am.len_push, Go.Am.len_set, Go.Am.len_kill] <;> omega) | fail) only [push_cast, seval, dec_le h1, dec_le h2, ep, f1, dec_ne hpp]
    have q1 : (m : Int).tmod (m' : Int) = (m : Int) % (m' : Int) := Int.tmod_eq_emod_of_nonneg (by omega)
    by_cases hmm : m % m' = 0
    rotate_left
    · have hw : withP q s = [] := by unfold withP; rw [hs, hc, hd]; simp [hmm]
      have hmi : ¬ (m : Int) % (m' : Int) = 0 := by rw [← Int.natCast_emod]; omega
      rw [hw]
      refine ⟨none, 0, h, List.prefix_refl _, .nil, ?_⟩
      rw [call_at T71 rfl]
      unfold F71 c71
      simp (disch := first | omega | (simp only [Go.Am.len_push, Go.Am.len_set, Go.Am.len_kill] <;> omega) | fail) only [push_cast, seval, dec_le h1, dec_le h2, ep, f1, dec_eq hpp, f2, hm0, q1, dec_ne hmi]
    have hw : withP q s = withN q s q.toNat 0 := by unfold withP; rw [hs, hc, hd]; simp [hmm, hpp]
    have hmi : (m : Int) % (m' : Int) = 0 := by rw [← Int.natCast_emod]; omega
    obtain ⟨sa, c, G, p1, hg, lo⟩ := pwith_loop hn u s q.toNat 0 [] none 0 h (by omega) (by simp) (List.prefix_refl _) .nil
    rw [List.nil_append] at hg lo
    rw [hw]
    refine ⟨sa, c, G, p1, hg.rd, ?_⟩
    rw [call_at T71 rfl]
    unfold F71 c71
    rw [show ((0 : Nat) : Int) = 0 from rfl, List.length_nil] at lo
    simp (disch := first | omega | (simp only [Go.Am.len_push, Go.Am.len_set, Go.Am.len_kill] <;> omega) | fail) only [push_cast, seval, dec_le h1, dec_le h2, ep, f0, f1, dec_eq hpp, f2, hm0, q1, dec_eq hmi]
    rw [lo]
    simp (disch := first | omega | (simp only [Go.Am.len_push, Go.Am.len_set, Go.Am.len_kill] <;> omega) | fail) only [push_cast, seval]
end
end Go.Proofs.Ytammndhoillliaa
namespace Go.Proofs.Ytammndhoillliaa
open Go.Am
set_option linter.unusedVariables false
set_option linter.unusedSimpArgs false
set_option maxRecDepth 30000

theorem rows_of {n lo c : Nat} {p g : Int} {m : Nat} {mod : List Int} (hn : fldN n = some (p, m, g, mod)) (h : mulRows n lo c = true) {a b : Nat} (ha : lo ≤ a) (ha2 : a < lo + c) (hb : b < n) : mulR n p m mod a b = fmul n a b := by
  unfold mulRows at h
  rw [hn] at h
  simp only [List.all_eq_true, List.mem_range, decide_eq_true_eq] at h
  have := h (a - lo) (by omega) b hb
  rw [show a - lo + lo = a by omega] at this
  exact this
theorem check_of {n : Nat} {p g : Int} {m : Nat} {mod : List Int} (hn : fldN n = some (p, m, g, mod)) (h : mulCheck n = true) {a b : Nat} (ha : a < n) (hb : b < n) : mulR n p m mod a b = fmul n a b := by
  unfold mulCheck at h
  rw [hn] at h
  simp only [List.all_eq_true, List.mem_range, decide_eq_true_eq] at h
  exact h a ha b hb
theorem mulR_nat {n : Nat} {p g : Int} {m : Nat} {mod : List Int} (hn : fldN n = some (p, m, g, mod)) {a b : Nat} (ha : a < n) (hb : b < n) : mulR n p m mod a b = fmul n a b := by
  obtain ⟨h2, h64⟩ := fldN_le hn
  by_cases c1 : n < 31
  · have := List.all_eq_true.1 mul_checked0 (n - 2) (List.mem_range.2 (by omega))
    rw [show n - 2 + 2 = n by omega] at this
    exact check_of hn this ha hb
  by_cases c2 : n < 48
  · have := List.all_eq_true.1 mul_checked1 (n - 31) (List.mem_range.2 (by omega))
    rw [show n - 31 + 31 = n by omega] at this
    exact check_of hn this ha hb
  by_cases c3 : n < 63
  · have := List.all_eq_true.1 mul_checked2 (n - 48) (List.mem_range.2 (by omega))
    rw [show n - 48 + 48 = n by omega] at this
    exact check_of hn this ha hb
  by_cases c4 : n = 63
  · subst c4; cases hn
  obtain rfl : n = 64 := by omega
  by_cases d0 : a < 8
  · exact rows_of hn mul_row0 (by omega) (by omega) hb
  by_cases d1 : a < 16
  · exact rows_of hn mul_row1 (by omega) (by omega) hb
  by_cases d2 : a < 24
  · exact rows_of hn mul_row2 (by omega) (by omega) hb
  by_cases d3 : a < 32
  · exact rows_of hn mul_row3 (by omega) (by omega) hb
  by_cases d4 : a < 40
  · exact rows_of hn mul_row4 (by omega) (by omega) hb
  by_cases d5 : a < 48
  · exact rows_of hn mul_row5 (by omega) (by omega) hb
  by_cases d6 : a < 56
  · exact rows_of hn mul_row6 (by omega) (by omega) hb
  · exact rows_of hn mul_row7 (by omega) (by omega) hb
theorem mulR_eq {q p g : Int} {m : Nat} {mod : List Int} (hn : fldN q.toNat = some (p, m, g, mod)) (a b : Int) : mulR q p m mod a b = fmul q a b := by
  obtain ⟨h2, h64⟩ := fldN_le hn
  by_cases ha : 0 ≤ a ∧ a < q
  rotate_left
  · rw [mulR, if_neg ha, fmul, fok_f ha]; rfl
  by_cases hb : 0 ≤ b ∧ b < q
  rotate_left
  · rw [mulR, if_pos ha, if_neg hb, fmul, fok_t ha, fok_f hb]; rfl
  have := mulR_nat hn (a := a.toNat) (b := b.toNat) (by omega) (by omega)
  rw [show ((q.toNat : Nat) : Int) = q by omega, show ((a.toNat : Nat) : Int) = a by omega, show ((b.toNat : Nat) : Int) = b by omega] at this
  exact this

/-- a field of the document's lies there -/
structure RUse (h : H) (q p : Int) (m : Nat) (g : Int) (mod : List Int) (om cm : Nat) : Prop where
  hn : fldN q.toNat = some (p, m, g, mod)
  rm : RdI h (some ⟨om, 0, none⟩) cm mod
theorem RUse.mono {h h' : H} {q p : Int} {m : Nat} {g : Int} {mod : List Int} {om cm : Nat} (u : RUse h q p m g mod om cm) (hp : h <+: h') : RUse h' q p m g mod om cm := ⟨u.hn, u.rm.mono hp⟩
theorem RUse.ok {h : H} {q p : Int} {m : Nat} {g : Int} {mod : List Int} {om cm : Nat} (u : RUse h q p m g mod om cm) : FOk q p m mod := by
  obtain ⟨h2, _⟩ := fldN_le u.hn
  have := (fld_ok u.hn).1
  rw [show ((q.toNat : Nat) : Int) = q by omega] at this
  exact this
abbrev rv (q p : Int) (m : Nat) (g : Int) (mod : List Int) (om cm : Nat) : Value := fv q p m g (.slice (some ⟨om, 0, none⟩) mod.length cm)
abbrev rvR (q p : Int) (m : Nat) (g : Int) (mod : List Int) (om cm : Nat) : Ob := fvR q p m g (.slice (some ⟨om, 0, none⟩) mod.length cm)

section
variable {h : H} {q p : Int} {m : Nat} {g : Int} {mod : List Int} {om cm : Nat}
theorem rhas_call (a : Int) : call T 50 [rv q p m g mod om cm, .int .i64 a] h = some (.bool (fok q a), h ++ [rvR q p m g mod om cm]) := has_call q p m g a _ h
theorem rmul_call (u : RUse h q p m g mod om cm) (a b : Int) : ∃ h' : H, h <+: h' ∧ call T 56 [rv q p m g mod om cm, .int .i64 a, .int .i64 b] h = some (.int .i64 (fmul q a b), h') := by
  obtain ⟨h', p1, e⟩ := u.ok.mul (g0 := g) h u.rm a b
  rw [mulR_eq u.hn] at e
  exact ⟨h', p1, e⟩

/-! ### opposites -/
theorem numb_neg (p : Int) : ∀ (n : Nat) (a : Int), numb p ((digs p n a).map fun d => (p - d) % p) = negN p n a
  | 0, a => rfl
  | n + 1, a => by rw [digs, List.map_cons, numb, negN, numb_neg p n (a / p), Int.mul_comm]; omega
theorem numb_add (p : Int) : ∀ (n : Nat) (a b : Int), numb p (List.zipWith (fun x y => (x + y) % p) (digs p n a) (digs p n b)) = addN p n a b
  | 0, a, b => rfl
  | n + 1, a, b => by rw [digs, digs, List.zipWith_cons_cons, numb, addN, numb_add p n (a / p) (b / p), Int.mul_comm]; omega
theorem rneg_loop {h1 : H} {B o : Nat} {ms : Value} (hf : FOk q p m mod) (hB : h1.row B = some ⟨fvL q p m g ms, 67, 0, true⟩) (ho : h1.length ≤ o) :
    ∀ (n : Nat) (k : Int) (pre rest : List Int) (G : H), k = (pre.length : Int) → pre.length + n = m → rest.length = n → Dig p rest → h1 <+: G → G.row o = some ⟨ints (pre ++ rest), 3, 1, true⟩ →
    ∃ G' : H, h1 <+: G' ∧ G'.row o = some ⟨ints (pre ++ rest.map fun d => (p - d) % p), 3, 1, true⟩ ∧
      ∀ ks, goL T [.tmp 4] [2, 5, 6] c58L0 (.blk 0 [2, 5] :: ks) [(2, .pointer (some ⟨B, 0, none⟩)), (5, .slice (some ⟨o, 0, none⟩) m m), (6, .int .i64 k)] G =
        go T [.tmp 4] ks (Fr.of [(2, .pointer (some ⟨B, 0, none⟩)), (5, .slice (some ⟨o, 0, none⟩) m m)]) G'
  | 0, k, pre, rest, G, hk, hn, hl, hd, hp1, hr => by
    subst hk
    obtain rfl := List.eq_nil_of_length_eq_zero hl
    refine ⟨G, hp1, hr, fun ks => ?_⟩
    have b2 : G.ld1 B 2 = some (.int .i64 m) := ld1_at (row_pre hB hp1) rfl
    rw [goL_at c58L0.eq_def]
    simp (disch := first | omega | (simp only [Go.Am.len_push, Go.Am.len_set, Go.Am.len_kill] <;> omega) | fail) only [push_cast, seval, dec_nlt, b2]
  | n + 1, k, pre, rest, G, hk, hn, hl, hd, hp1, hr => by
    subst hk
    have hp := hf.p2
    have hp64 := hf.p64
    have hm10 := hf.m10
    obtain ⟨a, r, rfl⟩ : ∃ a r, rest = a :: r := cons_of_len (by omega)
    have b1 : G.ld1 B 1 = some (.int .i64 p) := ld1_at (row_pre hB hp1) rfl
    have b2 : G.ld1 B 2 = some (.int .i64 m) := ld1_at (row_pre hB hp1) rfl
    have ge : gi (pre ++ a :: r) (pre.length : Int) = a := gi_mid rfl
    have el := ld1_int hr (i := (pre.length : Int)) (by omega) (by simp; omega)
    rw [ge] at el
    have hi3 : 0 ≤ (pre.length : Int) ∧ (pre.length : Int) < (m : Int) := by omega
    have ha := hd a (by simp)
    obtain ⟨v, hv⟩ : ∃ v, v = (p - a) % p := ⟨_, rfl⟩
    have es' := sts_int hr (i := (pre.length : Int)) (v := v) (by omega) (by simp; omega)
    have hset : (pre ++ a :: r).set ((pre.length : Int)).toNat v = pre ++ [v] ++ r := by rw [set_mid (by omega)]; simp
    have q1 : (p - a).tmod p = v := by rw [hv]; exact Int.tmod_eq_emod_of_nonneg (by omega)
    rw [hset] at es'
    have hrow' : H.row (G.set o (.row ⟨ints (pre ++ [v] ++ r), 3, 1, true⟩)) o = some ⟨ints (pre ++ [v] ++ r), 3, 1, true⟩ := row_set_same (row_some_lt hr)
    obtain ⟨G', p', r', ih⟩ := rneg_loop hf hB ho n ((pre.length : Int) + 1) (pre ++ [v]) r _ (by simp) (by simp; omega) (by simpa using hl) (fun z hz => hd z (by simp [hz])) (pre_set hp1 ho) hrow'
    have he : pre ++ (a :: r).map (fun d => (p - d) % p) = pre ++ [v] ++ r.map (fun d => (p - d) % p) := by rw [List.map_cons, ← hv]; simp
    refine ⟨G', p', by rw [he]; exact r', fun ks => ?_⟩
    rw [← ih ks, goL_at c58L0.eq_def]
    have hp0 : ¬ p = 0 := by omega
    simp (disch := first | omega | (simp only [Go.Am.len_push, Go.Am.len_set, Go.Am.len_kill] <;> omega) | fail) only [push_cast, seval, dec_lt, wrap64, b1, b2, el, hi3, hp0, q1, es']
theorem digs_map_dig {p : Int} (hp : 0 < p) (l : List Int) : Dig p (l.map fun d => (p - d) % p) := fun z hz => by
  obtain ⟨d, _, rfl⟩ := List.mem_map.1 hz
  exact ⟨Int.emod_nonneg _ (by omega), Int.emod_lt_of_pos _ hp⟩
theorem rneg_call (u : RUse h q p m g mod om cm) (a : Int) : ∃ h' : H, h <+: h' ∧ call T 58 [rv q p m g mod om cm, .int .i64 a] h = some (.int .i64 (fneg q a), h') := by
  have hf := u.ok
  have hp := hf.p2
  have hp64 := hf.p64
  have hq64 := hf.q64
  have hm1 := hf.m1
  have hm10 := hf.m10
  obtain ⟨hc, hdg⟩ := fdat_eq u.hn
  obtain ⟨ms, hms⟩ : ∃ ms, ms = Value.slice (some ⟨om, 0, none⟩) mod.length cm := ⟨_, rfl⟩
  obtain ⟨h1, eh1⟩ : ∃ h1 : H, h1 = h ++ [fvR q p m g ms] := ⟨_, rfl⟩
  have r1 : h1.row h.length = some ⟨fvL q p m g ms, 67, 0, true⟩ := by rw [eh1]; exact row_push_new
  have p1 : h <+: h1 := by rw [eh1]; exact List.prefix_append _ _
  have l1 := lds_all r1 (n := 5) rfl
  obtain ⟨h2, eh2⟩ : ∃ h2 : H, h2 = h1 ++ [fvR q p m g ms] := ⟨_, rfl⟩
  have p2 : h1 <+: h2 := by rw [eh2]; exact List.prefix_append _ _
  have hasA : call T 50 [fv q p m g ms, .int .i64 a] h1 = some (.bool (fok q a), h2) := by rw [eh2]; exact has_call q p m g a ms h1
  have e0 : rv q p m g mod om cm = fv q p m g ms := by rw [hms]
  rw [fneg, hc, hdg, e0]
  rcases fok_cases q a with ⟨ho, h0, ha1⟩ | ho
  rotate_left
  · rw [ho] at hasA ⊢
    refine ⟨h2, p1.trans p2, ?_⟩
    rw [call_at T58 rfl]
    unfold F58 c58
    simp (disch := first | omega | (simp only [Go.Am.len_push, Go.Am.len_set, Go.Am.len_kill] <;> omega) | fail) only [push_cast, seval, ← eh1, l1, hasA]
  rw [ho] at hasA ⊢
  have r2 := row_pre r1 p2
  have b1 : h2.ld1 h.length 1 = some (.int .i64 p) := ld1_at r2 rfl
  have b2 : h2.ld1 h.length 2 = some (.int .i64 m) := ld1_at r2 rfl
  obtain ⟨sx, cx, h3, ex, p3, gx⟩ := digits_call a p m h2 (by omega) (by omega) h0 (by omega)
  obtain ⟨ds, hds⟩ : ∃ ds, ds = digs p m a := ⟨_, rfl⟩
  have hdl : ds.length = m := by rw [hds]; exact digs_len _ _ _
  rw [← hds] at gx
  obtain ⟨o, rfl, hol, rfl, ro⟩ : ∃ o, sx = some ⟨o, 0, none⟩ ∧ h2.length ≤ o ∧ cx = ds.length ∧ h3.row o = some ⟨ints ds, 3, 1, true⟩ := by
    rcases gx with ⟨_, _, h0⟩ | h0
    · rw [h0] at hdl; simp at hdl; omega
    · exact h0
  rw [hdl] at ex
  obtain ⟨h4, p4, r4, lo⟩ := rneg_loop hf r2 hol m 0 [] ds h3 rfl (by simp) hdl (by rw [hds]; exact Dig.digs (by omega) _ _) p3 ro
  simp only [List.nil_append] at r4
  obtain ⟨z, hz⟩ : ∃ z, z = ds.map fun d => (p - d) % p := ⟨_, rfl⟩
  rw [← hz] at r4
  have hzl : z.length = m := by rw [hz]; simpa using hdl
  have hzd : Dig p z := by rw [hz]; exact digs_map_dig (by omega) ds
  have rz : RdI h4 (some ⟨o, 0, none⟩) m z := by have := RdI.ofRow r4 rfl; rw [hzl] at this; exact this
  have hb : ∀ j, j ≤ z.length → 0 ≤ numb p (z.drop j) ∧ numb p (z.drop j) ≤ 1000000 := by
    intro j hj
    have h1 := numb_bound (p := p) (by omega) (l := z.drop j) (fun x hx => hzd x (List.mem_of_mem_drop hx))
    have h2 : p ^ (z.drop j).length ≤ p ^ m := ipow_mono (by omega) (by rw [List.length_drop]; omega)
    rw [hf.pm] at h2
    omega
  have hnum := number_call p z (some ⟨o, 0, none⟩) m h4 rz (by omega) hp64 (fun x hx => by have := hzd x hx; omega) (by omega) (by omega) hb
  have hv : numb p z = negN p m a := by rw [hz, hds]; exact numb_neg p m a
  rw [hzl, hv] at hnum
  have b14 : h4.ld1 h.length 1 = some (.int .i64 p) := ld1_at (row_pre r2 p4) rfl
  refine ⟨h4, (p1.trans p2).trans p4, ?_⟩
  rw [call_at T58 rfl]
  unfold F58 c58
  simp (disch := first | omega | (simp only [Go.Am.len_push, Go.Am.len_set, Go.Am.len_kill] <;> omega) | fail) only [push_cast, seval, ← eh1, l1, hasA, b1, b2, ex]
  rw [lo]
  simp (disch := first | omega | (simp only [Go.Am.len_push, Go.Am.len_set, Go.Am.len_kill] <;> omega) | fail) only [push_cast, seval, b14, hnum]
end
end Go.Proofs.Ytammndhoillliaa
namespace Go.Proofs.Ytammndhoillliaa
open Go.Am
set_option linter.unusedVariables false
set_option linter.unusedSimpArgs false
set_option maxRecDepth 30000

def xorCheck (n : Nat) : Bool := match fldN n with
  | none => true
  | some (p, m, _, _) => bif decide (p = 2) then (List.range n).all fun a => (List.range n).all fun b => decide (Go.bits .xor .i64 (a : Int) (b : Int) = addN 2 m a b) else true
theorem xor_checked : ((List.range 63).all fun n => xorCheck (n + 2)) = true := by kernel_rfl
theorem xor_add {q g : Int} {m : Nat} {mod : List Int} (hn : fldN q.toNat = some (2, m, g, mod)) {a b : Int} (ha : 0 ≤ a ∧ a < q) (hb : 0 ≤ b ∧ b < q) : Go.bits .xor .i64 a b = addN 2 m a b := by
  obtain ⟨h2, h64⟩ := fldN_le hn
  have h := List.all_eq_true.1 xor_checked (q.toNat - 2) (List.mem_range.2 (by omega))
  rw [show q.toNat - 2 + 2 = q.toNat by omega] at h
  unfold xorCheck at h
  rw [hn] at h
  simp only [decide_true, cond_true, List.all_eq_true, List.mem_range, decide_eq_true_eq] at h
  have := h a.toNat (by omega) b.toNat (by omega)
  rw [show ((a.toNat : Nat) : Int) = a by omega, show ((b.toNat : Nat) : Int) = b by omega] at this
  exact this

section
variable {h : H} {q p : Int} {m : Nat} {g : Int} {mod : List Int} {om cm : Nat}
theorem radd_loop {h1 : H} {B o oy fy cy : Nat} {ms : Value} {ys : List Int} (hf : FOk q p m mod) (hB : h1.row B = some ⟨fvL q p m g ms, 67, 0, true⟩) (ho : h1.length ≤ o) (hyl : ys.length = m) (hyd : Dig p ys) :
    ∀ (n : Nat) (k : Int) (pre rest : List Int) (G : H), k = (pre.length : Int) → pre.length + n = m → rest.length = n → Dig p rest → h1 <+: G → G.row o = some ⟨ints (pre ++ rest), 3, 1, true⟩ →
      (∀ i : Int, 0 ≤ i → i < m → G.ld1 oy (fy + i.toNat) = some (.int .i64 (gi ys i))) → oy ≠ o →
    ∃ G' : H, h1 <+: G' ∧ G'.row o = some ⟨ints (pre ++ List.zipWith (fun x y => (x + y) % p) rest (ys.drop pre.length)), 3, 1, true⟩ ∧
      ∀ ks, goL T [.tmp 6] [3, 7, 8, 9] c52L0 (.blk 0 [3, 7] :: ks) [(3, .pointer (some ⟨B, 0, none⟩)), (7, .slice (some ⟨o, 0, none⟩) m m), (8, .slice (some ⟨oy, fy, none⟩) m cy), (9, .int .i64 k)] G =
        go T [.tmp 6] ks (Fr.of [(3, .pointer (some ⟨B, 0, none⟩)), (7, .slice (some ⟨o, 0, none⟩) m m)]) G'
  | 0, k, pre, rest, G, hk, hn, hl, hd, hp1, hr, hy, hne => by
    subst hk
    obtain rfl := List.eq_nil_of_length_eq_zero hl
    refine ⟨G, hp1, by rw [List.zipWith_nil_left]; exact hr, fun ks => ?_⟩
    have b2 : G.ld1 B 2 = some (.int .i64 m) := ld1_at (row_pre hB hp1) rfl
    rw [goL_at c52L0.eq_def]
    simp (disch := first | omega | (simp only [Go.Am.len_push, Go.Am.len_set, Go.Am.len_kill] <;> omega) | fail) only [push_cast, seval, dec_nlt, b2]
  | n + 1, k, pre, rest, G, hk, hn, hl, hd, hp1, hr, hy, hne => by
    subst hk
    have hp := hf.p2
    have hp64 := hf.p64
    have hm10 := hf.m10
    obtain ⟨a, r, rfl⟩ : ∃ a r, rest = a :: r := cons_of_len (by omega)
    have b1 : G.ld1 B 1 = some (.int .i64 p) := ld1_at (row_pre hB hp1) rfl
    have b2 : G.ld1 B 2 = some (.int .i64 m) := ld1_at (row_pre hB hp1) rfl
    have ge : gi (pre ++ a :: r) (pre.length : Int) = a := gi_mid rfl
    have el := ld1_int hr (i := (pre.length : Int)) (by omega) (by simp; omega)
    rw [ge] at el
    have ey := hy (pre.length : Int) (by omega) (by omega)
    have hi3 : 0 ≤ (pre.length : Int) ∧ (pre.length : Int) < (m : Int) := by omega
    have ha := hd a (by simp)
    have hb := gi_nonneg (p := p) (by omega) hyd (pre.length : Int)
    obtain ⟨v, hv⟩ : ∃ v, v = (a + gi ys (pre.length : Int)) % p := ⟨_, rfl⟩
    have es' := sts_int hr (i := (pre.length : Int)) (v := v) (by omega) (by simp; omega)
    have hset : (pre ++ a :: r).set ((pre.length : Int)).toNat v = pre ++ [v] ++ r := by rw [set_mid (by omega)]; simp
    have q1 : (a + gi ys (pre.length : Int)).tmod p = v := by rw [hv]; exact Int.tmod_eq_emod_of_nonneg (by omega)
    rw [hset] at es'
    have hrow' : H.row (G.set o (.row ⟨ints (pre ++ [v] ++ r), 3, 1, true⟩)) o = some ⟨ints (pre ++ [v] ++ r), 3, 1, true⟩ := row_set_same (row_some_lt hr)
    obtain ⟨G', p', r', ih⟩ := radd_loop (cy := cy) hf hB ho hyl hyd n ((pre.length : Int) + 1) (pre ++ [v]) r _ (by simp) (by simp; omega) (by simpa using hl) (fun z hz => hd z (by simp [hz])) (pre_set hp1 ho) hrow'
      (fun i h0 hi => by rw [ld1_other (fun e => hne e.symm)]; exact hy i h0 hi) hne
    have hpl : (pre ++ [v]).length = pre.length + 1 := by simp
    have he : pre ++ List.zipWith (fun x y => (x + y) % p) (a :: r) (ys.drop pre.length) = pre ++ [v] ++ List.zipWith (fun x y => (x + y) % p) r (ys.drop (pre ++ [v]).length) := by
      rw [drop_gi (by omega), List.zipWith_cons_cons, ← hv, hpl]; simp
    refine ⟨G', p', by rw [he]; exact r', fun ks => ?_⟩
    rw [← ih ks, goL_at c52L0.eq_def]
    have hp0 : ¬ p = 0 := by omega
    simp (disch := first | omega | (simp only [Go.Am.len_push, Go.Am.len_set, Go.Am.len_kill] <;> omega) | fail) only [push_cast, seval, dec_lt, wrap64, b1, b2, el, ey, hi3, hp0, q1, es']
theorem radd_call (u : RUse h q p m g mod om cm) (a b : Int) : ∃ h' : H, h <+: h' ∧ call T 52 [rv q p m g mod om cm, .int .i64 a, .int .i64 b] h = some (.int .i64 (fadd q a b), h') := by
  have hf := u.ok
  have hp := hf.p2
  have hp64 := hf.p64
  have hq64 := hf.q64
  have hm1 := hf.m1
  have hm10 := hf.m10
  obtain ⟨hc, hdg⟩ := fdat_eq u.hn
  obtain ⟨ms, hms⟩ : ∃ ms, ms = Value.slice (some ⟨om, 0, none⟩) mod.length cm := ⟨_, rfl⟩
  have e0 : rv q p m g mod om cm = fv q p m g ms := by rw [hms]
  obtain ⟨h1, eh1⟩ : ∃ h1 : H, h1 = h ++ [fvR q p m g ms] := ⟨_, rfl⟩
  have r1 : h1.row h.length = some ⟨fvL q p m g ms, 67, 0, true⟩ := by rw [eh1]; exact row_push_new
  have p1 : h <+: h1 := by rw [eh1]; exact List.prefix_append _ _
  have l1 := lds_all r1 (n := 5) rfl
  obtain ⟨h2, eh2⟩ : ∃ h2 : H, h2 = h1 ++ [fvR q p m g ms] := ⟨_, rfl⟩
  have p2 : h1 <+: h2 := by rw [eh2]; exact List.prefix_append _ _
  have hasA : call T 50 [fv q p m g ms, .int .i64 a] h1 = some (.bool (fok q a), h2) := by rw [eh2]; exact has_call q p m g a ms h1
  have r2 := row_pre r1 p2
  have l2 := lds_all r2 (n := 5) rfl
  obtain ⟨h3, eh3⟩ : ∃ h3 : H, h3 = h2 ++ [fvR q p m g ms] := ⟨_, rfl⟩
  have p3 : h2 <+: h3 := by rw [eh3]; exact List.prefix_append _ _
  have hasB : call T 50 [fv q p m g ms, .int .i64 b] h2 = some (.bool (fok q b), h3) := by rw [eh3]; exact has_call q p m g b ms h2
  have r3 := row_pre r2 p3
  rw [fadd, hc, hdg, e0]
  rcases fok_cases q a with ⟨ho, h0, ha1⟩ | ho
  rotate_left
  · rw [ho] at hasA ⊢
    refine ⟨h2, p1.trans p2, ?_⟩
    rw [call_at T52 rfl]
    unfold F52 c52
    simp (disch := first | omega | (simp only [Go.Am.len_push, Go.Am.len_set, Go.Am.len_kill] <;> omega) | fail) only [push_cast, seval, ← eh1, l1, hasA]
  rw [ho] at hasA ⊢
  rcases fok_cases q b with ⟨hob, h0b, hb1⟩ | hob
  rotate_left
  · rw [hob] at hasB ⊢
    refine ⟨h3, (p1.trans p2).trans p3, ?_⟩
    rw [call_at T52 rfl]
    unfold F52 c52
    simp (disch := first | omega | (simp only [Go.Am.len_push, Go.Am.len_set, Go.Am.len_kill] <;> omega) | fail) only [push_cast, seval, ← eh1, l1, hasA, l2, hasB]
  rw [hob] at hasB ⊢
  have b1 : h3.ld1 h.length 1 = some (.int .i64 p) := ld1_at r3 rfl
  have b2 : h3.ld1 h.length 2 = some (.int .i64 m) := ld1_at r3 rfl
  have hp0 : ¬ p = 0 := by omega
  by_cases hone : m = 1
  · refine ⟨h3, (p1.trans p2).trans p3, ?_⟩
    have hmi : (m : Int) = 1 := by omega
    have q1 : (a + b).tmod p = (a + b) % p := Int.tmod_eq_emod_of_nonneg (by omega)
    have ev : addN p m a b = (a + b) % p := by subst hone; rw [addN, addN, Int.mul_zero, Int.add_zero, ← Int.add_emod]
    rw [ev, call_at T52 rfl]
    unfold F52 c52
    simp (disch := first | omega | (simp only [Go.Am.len_push, Go.Am.len_set, Go.Am.len_kill] <;> omega) | fail) only [push_cast, seval, ← eh1, l1, hasA, l2, hasB, b1, b2, dec_eq hmi, wrap64, hp0, q1]
  have hmi : ¬ (m : Int) = 1 := by omega
  by_cases htwo : p = 2
  · refine ⟨h3, (p1.trans p2).trans p3, ?_⟩
    have hx : Go.bits .xor .i64 a b = addN p m a b := by
      have hn := u.hn
      rw [htwo] at hn ⊢
      exact xor_add hn ⟨h0, ha1⟩ ⟨h0b, hb1⟩
    rw [call_at T52 rfl]
    unfold F52 c52
    simp (disch := first | omega | (simp only [Go.Am.len_push, Go.Am.len_set, Go.Am.len_kill] <;> omega) | fail) only [push_cast, seval, ← eh1, l1, hasA, l2, hasB, b1, b2, dec_ne hmi, dec_eq htwo, hx]
  obtain ⟨sx, cx, h4, ex, p4, gx⟩ := digits_call a p m h3 (by omega) (by omega) h0 (by omega)
  obtain ⟨xs, hxs⟩ : ∃ ds, ds = digs p m a := ⟨_, rfl⟩
  have hxl : xs.length = m := by rw [hxs]; exact digs_len _ _ _
  have hxd : Dig p xs := by rw [hxs]; exact Dig.digs (by omega) _ _
  rw [← hxs] at gx
  obtain ⟨o, rfl, hol, rfl, ro⟩ : ∃ o, sx = some ⟨o, 0, none⟩ ∧ h3.length ≤ o ∧ cx = xs.length ∧ h4.row o = some ⟨ints xs, 3, 1, true⟩ := by
    rcases gx with ⟨_, _, h0⟩ | h0
    · rw [h0] at hxl; simp at hxl; omega
    · exact h0
  rw [hxl] at ex
  have b14 : h4.ld1 h.length 1 = some (.int .i64 p) := ld1_pre b1 p4
  have b24 : h4.ld1 h.length 2 = some (.int .i64 m) := ld1_pre b2 p4
  obtain ⟨sy, cy, h5, ey, p5, gy⟩ := digits_call b p m h4 (by omega) (by omega) h0b (by omega)
  obtain ⟨ys, hys⟩ : ∃ ds, ds = digs p m b := ⟨_, rfl⟩
  have hyl : ys.length = m := by rw [hys]; exact digs_len _ _ _
  have hyd : Dig p ys := by rw [hys]; exact Dig.digs (by omega) _ _
  rw [← hys] at gy
  obtain ⟨oy, rfl, holy, rfl, roy⟩ : ∃ o, sy = some ⟨o, 0, none⟩ ∧ h4.length ≤ o ∧ cy = ys.length ∧ h5.row o = some ⟨ints ys, 3, 1, true⟩ := by
    rcases gy with ⟨_, _, h0⟩ | h0
    · rw [h0] at hyl; simp at hyl; omega
    · exact h0
  rw [hyl] at ey
  have hoo : o < h4.length := row_some_lt ro
  have hld : ∀ i : Int, 0 ≤ i → i < m → h5.ld1 oy (0 + i.toNat) = some (.int .i64 (gi ys i)) := fun i hi0 hi => by rw [Nat.zero_add]; exact ld1_int roy hi0 (by omega)
  obtain ⟨h6, p6, r6, lo⟩ := radd_loop (oy := oy) (fy := 0) (cy := m) hf r3 hol hyl hyd m 0 [] xs h5 rfl (by simp) hxl hxd (p4.trans p5) (row_pre ro p5) hld (by omega)
  simp only [List.nil_append, List.length_nil, List.drop_zero] at r6
  obtain ⟨z, hz⟩ : ∃ z, z = List.zipWith (fun x y => (x + y) % p) xs ys := ⟨_, rfl⟩
  rw [← hz] at r6
  have hzl : z.length = m := by rw [hz, List.length_zipWith]; omega
  have hv : numb p z = addN p m a b := by rw [hz, hxs, hys]; exact numb_add p m a b
  have hzd : Dig p z := by
    rw [hz]
    intro w hw
    rw [List.mem_iff_getElem?] at hw
    obtain ⟨i, hi⟩ := hw
    rw [List.getElem?_zipWith] at hi
    cases hx : xs[i]? with
    | none => rw [hx] at hi; cases hi
    | some x =>
      cases hy : ys[i]? with
      | none => rw [hx, hy] at hi; cases hi
      | some y =>
        rw [hx, hy] at hi
        cases hi
        exact ⟨Int.emod_nonneg _ hp0, Int.emod_lt_of_pos _ (by omega)⟩
  have rz : RdI h6 (some ⟨o, 0, none⟩) m z := by have := RdI.ofRow r6 rfl; rw [hzl] at this; exact this
  have hb : ∀ j, j ≤ z.length → 0 ≤ numb p (z.drop j) ∧ numb p (z.drop j) ≤ 1000000 := by
    intro j hj
    have h1 := numb_bound (p := p) (by omega) (l := z.drop j) (fun x hx => hzd x (List.mem_of_mem_drop hx))
    have h2 : p ^ (z.drop j).length ≤ p ^ m := ipow_mono (by omega) (by rw [List.length_drop]; omega)
    rw [hf.pm] at h2
    omega
  have hnum := number_call p z (some ⟨o, 0, none⟩) m h6 rz (by omega) hp64 (fun x hx => by have := hzd x hx; omega) (by omega) (by omega) hb
  rw [hzl, hv] at hnum
  have b16 : h6.ld1 h.length 1 = some (.int .i64 p) := ld1_at (row_pre r3 p6) rfl
  refine ⟨h6, ((p1.trans p2).trans p3).trans p6, ?_⟩
  rw [call_at T52 rfl]
  unfold F52 c52
  simp (disch := first | omega | (simp only [Go.Am.len_push, Go.Am.len_set, Go.Am.len_kill] <;> omega) | fail) only [push_cast, seval, ← eh1, l1, hasA, l2, hasB, b1, b2, dec_ne hmi, dec_ne htwo, ex, b14, b24, ey]
  rw [lo]
  simp (disch := first | omega | (simp only [Go.Am.len_push, Go.Am.len_set, Go.Am.len_kill] <;> omega) | fail) only [push_cast, seval, b16, hnum]
theorem rsub_call (u : RUse h q p m g mod om cm) (a b : Int) : ∃ h' : H, h <+: h' ∧ call T 54 [rv q p m g mod om cm, .int .i64 a, .int .i64 b] h = some (.int .i64 (fsub q a b), h') := by
  obtain ⟨ms, hms⟩ : ∃ ms, ms = Value.slice (some ⟨om, 0, none⟩) mod.length cm := ⟨_, rfl⟩
  have e0 : rv q p m g mod om cm = fv q p m g ms := by rw [hms]
  obtain ⟨h1, eh1⟩ : ∃ h1 : H, h1 = h ++ [fvR q p m g ms] := ⟨_, rfl⟩
  have r1 : h1.row h.length = some ⟨fvL q p m g ms, 67, 0, true⟩ := by rw [eh1]; exact row_push_new
  have p1 : h <+: h1 := by rw [eh1]; exact List.prefix_append _ _
  have l1 := lds_all r1 (n := 5) rfl
  obtain ⟨h2, p2, en⟩ := rneg_call (u.mono p1) b
  have l2 := lds_all (row_pre r1 p2) (n := 5) rfl
  obtain ⟨h3, p3, ea⟩ := radd_call (u.mono (p1.trans p2)) a (fneg q b)
  rw [e0] at en ea ⊢
  refine ⟨h3, (p1.trans p2).trans p3, ?_⟩
  rw [call_at T54 rfl, fsub]
  unfold F54 c54
  simp (disch := first | omega | (simp only [Go.Am.len_push, Go.Am.len_set, Go.Am.len_kill] <;> omega) | fail) only [push_cast, seval, ← eh1, l1, en, l2, ea]
end
end Go.Proofs.Ytammndhoillliaa
namespace Go.Proofs.Ytammndhoillliaa
open Go.Am
set_option linter.unusedVariables false
set_option linter.unusedSimpArgs false
set_option maxRecDepth 30000

/-! ### powers and their places -/
section
variable {q p g : Int} {m : Nat} {mod : List Int}
theorem fmul_ne (t : Tabs q g) {a b : Int} (ha : 1 ≤ a ∧ a < q) (hb : 1 ≤ b ∧ b < q) : fmul q a b = fexp q ((flog q a + flog q b) % (q - 1)) := by
  rw [fmul, fok_t ⟨by omega, ha.2⟩, fok_t ⟨by omega, hb.2⟩, show (a == 0) = false by simp; omega, show (b == 0) = false by simp; omega]; rfl
theorem exp_ok (t : Tabs q g) (hq : 2 ≤ q) (i : Int) : 1 ≤ fexp q (i % (q - 1)) ∧ fexp q (i % (q - 1)) < q ∧ flog q (fexp q (i % (q - 1))) = i % (q - 1) :=
  t.er _ (Int.emod_nonneg _ (by omega)) (Int.emod_lt_of_pos _ (by omega))
theorem finv_eq (t : Tabs q g) {a : Int} (ha : 1 ≤ a ∧ a < q) : finv q a = fexp q ((q - 1 - flog q a) % (q - 1)) := by
  rw [finv, fok_t ⟨by omega, ha.2⟩, show (a == 0) = false by simp; omega]; rfl
theorem fmul_inv (t : Tabs q g) (hq : 2 ≤ q) {a : Int} (ha : 1 ≤ a ∧ a < q) : (1 ≤ finv q a ∧ finv q a < q) ∧ fmul q a (finv q a) = 1 := by
  have h1 := exp_ok t hq (q - 1 - flog q a)
  rw [← finv_eq t ha] at h1
  refine ⟨⟨h1.1, h1.2.1⟩, ?_⟩
  rw [fmul_ne t ha ⟨h1.1, h1.2.1⟩, h1.2.2, Int.add_emod_emod, show flog q a + (q - 1 - flog q a) = q - 1 by omega, Int.emod_self]
  exact t.e0
theorem inv_uniq (t : Tabs q g) (hq : 2 ≤ q) {a b : Int} (ha : 1 ≤ a ∧ a < q) (hb : 1 ≤ b ∧ b < q) (h : fmul q a b = 1) : b = finv q a := by
  rw [fmul_ne t ha hb] at h
  have h1 := (exp_ok t hq (flog q a + flog q b)).2.2
  have l1 := t.lr a ha.1 ha.2
  have l2 := t.lr b hb.1 hb.2
  have h0 := (t.er 0 (by omega) (by omega)).2.2
  rw [t.e0] at h0
  rw [h, h0] at h1
  -- the places add up to a multiple of q - 1
  have h2 : flog q b = (q - 1 - flog q a) % (q - 1) := by
    by_cases hz : flog q a = 0
    · rw [hz, Int.zero_add, Int.emod_eq_of_lt l2.1 l2.2.1] at h1
      rw [hz, Int.sub_zero, Int.emod_self]; exact h1.symm
    · rw [Int.emod_eq_of_lt (by omega) (by omega)]
      by_cases hlt : flog q a + flog q b < q - 1
      · rw [Int.emod_eq_of_lt (by omega) hlt] at h1; omega
      · have h3 : (flog q a + flog q b - (q - 1)) % (q - 1) = 0 := by rw [Int.sub_emod_right]; exact h1.symm
        rw [Int.emod_eq_of_lt (by omega) (by omega)] at h3
        omega
  rw [finv_eq t ha, ← h2, l2.2.2]

/-- a product again and again -/
def powI (q a : Int) : Nat → Int
  | 0 => 1
  | n + 1 => fmul q (powI q a n) a
theorem powI_ne (t : Tabs q g) (hq : 2 ≤ q) {a : Int} (ha : 1 ≤ a ∧ a < q) : ∀ n : Nat, powI q a n = fexp q (flog q a * n % (q - 1))
  | 0 => by rw [powI, Int.natCast_zero, Int.mul_zero, Int.zero_emod]; exact t.e0.symm
  | n + 1 => by
    have h1 := exp_ok t hq (flog q a * n)
    rw [powI, powI_ne t hq ha n, fmul_ne t ⟨h1.1, h1.2.1⟩ ha, h1.2.2, Int.emod_add_emod]
    congr 2
    rw [Int.natCast_add, Int.natCast_one, Int.mul_add, Int.mul_one]
theorem powI_zero (hq : 2 ≤ q) : ∀ n : Nat, powI q 0 (n + 1) = 0
  | 0 => by
    rw [powI, powI, fmul, fok_t (a := 1) ⟨by omega, by omega⟩, fok_t (a := 0) ⟨by omega, by omega⟩]; rfl
  | n + 1 => by
    rw [powI, powI_zero hq n, fmul, fok_t (a := 0) ⟨by omega, by omega⟩]; rfl
theorem powI_pow (t : Tabs q g) (hq : 2 ≤ q) {a : Int} (ha : 0 ≤ a ∧ a < q) (n : Nat) (hn : 1 ≤ n) : powI q a n = fpow q a n := by
  have hk : ¬ (n : Int) < 0 := by omega
  have hk0 : ((n : Int) == 0) = false := by simp; omega
  by_cases hz : a = 0
  · subst hz
    obtain ⟨k, rfl⟩ : ∃ k, n = k + 1 := ⟨n - 1, by omega⟩
    rw [powI_zero hq, fpow, fok_t ha, decide_eq_false hk, hk0]; rfl
  · rw [powI_ne t hq ⟨by omega, ha.2⟩, fpow, fok_t ha, show (a == 0) = false by simpa using hz, hk0]
    show fexp q (flog q a * n % (q - 1)) = fexp q (flog q a * ((n : Int) % (q - 1)) % (q - 1))
    congr 1
    rw [Int.mul_emod, Int.mul_emod (flog q a) ((n : Int) % (q - 1)), Int.emod_emod_of_dvd _ (Int.dvd_refl _)]
theorem powI_emod (t : Tabs q g) (hq : 2 ≤ q) {a k : Int} (ha : 1 ≤ a ∧ a < q) : powI q a (k % (q - 1)).toNat = fexp q (flog q a * (k % (q - 1)) % (q - 1)) := by
  rw [powI_ne t hq ha, show (((k % (q - 1)).toNat : Nat) : Int) = k % (q - 1) by have := Int.emod_nonneg k (show q - 1 ≠ 0 by omega); omega]
theorem exp_gen (t : Tabs q g) (hq : 2 ≤ q) (hg : 1 ≤ g ∧ g < q) (k : Int) : fmul q (fexp q (k % (q - 1))) g = fexp q ((k + 1) % (q - 1)) := by
  have h1 := exp_ok t hq k
  rw [fmul_ne t ⟨h1.1, h1.2.1⟩ hg, h1.2.2, t.lg, Int.emod_add_emod, Int.add_emod_emod]
end

section
variable {h : H} {q p : Int} {m : Nat} {g : Int} {mod : List Int} {om cm : Nat}
theorem RUse.tabs (u : RUse h q p m g mod om cm) : Tabs q g := tabs_ok u.hn
theorem RUse.gen (u : RUse h q p m g mod om cm) : 1 ≤ g ∧ g < q := by
  obtain ⟨h2, _⟩ := fldN_le u.hn
  have := (fld_ok u.hn).2.2.1
  have h3 := (fld_ok u.hn).2.2.2.1
  omega

theorem rinv_loop {h1 : H} {B : Nat} (u : RUse h1 q p m g mod om cm) (hB : h1.row B = some ⟨fvL q p m g (.slice (some ⟨om, 0, none⟩) mod.length cm), 67, 0, true⟩) {a : Int} (ha : 1 ≤ a ∧ a < q) :
    ∀ (n : Nat) (b : Int) (G : H), b + n = finv q a → 1 ≤ b → h1 <+: G → ∃ G' : H, h1 <+: G' ∧
      ∀ ks, goL T [.tmp 4] [1, 2, 5] c60L0 (.blk 0 [] :: ks) [(1, .int .i64 a), (2, .pointer (some ⟨B, 0, none⟩)), (5, .int .i64 b)] G = some (.int .i64 (finv q a), G')
  | n, b, G, hb, hb1, hp => by
    have hq2 := u.ok.q2
    have hq64 := u.ok.q64
    have hi := fmul_inv u.tabs hq2 ha
    have b0 : G.ld1 B 0 = some (.int .i64 q) := ld1_at (row_pre hB hp) rfl
    have lB := lds_all (row_pre hB hp) (n := 5) rfl
    obtain ⟨G1, p1, em⟩ := rmul_call (u.mono hp) a b
    have hlt : b < q := by omega
    match n, hb with
    | 0, hb =>
      have hbe : b = finv q a := by omega
      have he : fmul q a b = 1 := by rw [hbe]; exact hi.2
      refine ⟨G1, hp.trans p1, fun ks => ?_⟩
      rw [goL_at c60L0.eq_def, ← hbe]
      simp (disch := first | omega | (simp only [Go.Am.len_push, Go.Am.len_set, Go.Am.len_kill] <;> omega) | fail) only [push_cast, seval, dec_lt, b0, lB, em, dec_eq he]
    | n + 1, hb =>
      have hne : ¬ fmul q a b = 1 := fun e => by have := inv_uniq u.tabs hq2 ha ⟨hb1, hlt⟩ e; omega
      obtain ⟨G2, p2, ih⟩ := rinv_loop u hB ha n (b + 1) G1 (by omega) (by omega) (hp.trans p1)
      refine ⟨G2, p2, fun ks => ?_⟩
      rw [← ih ks, goL_at c60L0.eq_def]
      simp (disch := first | omega | (simp only [Go.Am.len_push, Go.Am.len_set, Go.Am.len_kill] <;> omega) | fail) only [push_cast, seval, dec_lt, b0, lB, em, dec_ne hne, wrap64]
theorem rinv_call (u : RUse h q p m g mod om cm) (a : Int) : ∃ h' : H, h <+: h' ∧ call T 60 [rv q p m g mod om cm, .int .i64 a] h = some (.int .i64 (finv q a), h') := by
  obtain ⟨h1, eh1⟩ : ∃ h1 : H, h1 = h ++ [rvR q p m g mod om cm] := ⟨_, rfl⟩
  have r1 : h1.row h.length = some ⟨fvL q p m g (.slice (some ⟨om, 0, none⟩) mod.length cm), 67, 0, true⟩ := by rw [eh1]; exact row_push_new
  have p1 : h <+: h1 := by rw [eh1]; exact List.prefix_append _ _
  have l1 := lds_all r1 (n := 5) rfl
  obtain ⟨h2, eh2⟩ : ∃ h2 : H, h2 = h1 ++ [rvR q p m g mod om cm] := ⟨_, rfl⟩
  have p2 : h1 <+: h2 := by rw [eh2]; exact List.prefix_append _ _
  have hasA : call T 50 [rv q p m g mod om cm, .int .i64 a] h1 = some (.bool (fok q a), h2) := by rw [eh2]; exact rhas_call a
  rcases fok_cases q a with ⟨ho, h0, ha1⟩ | ho
  rotate_left
  · rw [ho] at hasA
    refine ⟨h2, p1.trans p2, ?_⟩
    rw [call_at T60 rfl, finv, ho]
    unfold F60 c60
    simp (disch := first | omega | (simp only [Go.Am.len_push, Go.Am.len_set, Go.Am.len_kill] <;> omega) | fail) only [push_cast, seval, ← eh1, l1, hasA]
  rw [ho] at hasA
  by_cases hz : a = 0
  · refine ⟨h2, p1.trans p2, ?_⟩
    rw [call_at T60 rfl, finv, ho, show (a == 0) = true by simpa using hz]
    unfold F60 c60
    simp (disch := first | omega | (simp only [Go.Am.len_push, Go.Am.len_set, Go.Am.len_kill] <;> omega) | fail) only [push_cast, seval, ← eh1, l1, hasA, dec_eq hz]
  have hq2 := u.ok.q2
  have hi := fmul_inv u.tabs hq2 (a := a) ⟨by omega, ha1⟩
  obtain ⟨h3, p3, lo⟩ := rinv_loop (u.mono (p1.trans p2)) (row_pre r1 p2) (a := a) ⟨by omega, ha1⟩ (finv q a - 1).toNat 1 h2 (by omega) (by omega) (List.prefix_refl _)
  refine ⟨h3, (p1.trans p2).trans p3, ?_⟩
  rw [call_at T60 rfl]
  unfold F60 c60
  simp (disch := first | omega | (simp only [Go.Am.len_push, Go.Am.len_set, Go.Am.len_kill] <;> omega) | fail) only [push_cast, seval, ← eh1, l1, hasA, dec_ne hz]
  rw [lo]

theorem rpow_loop {h1 : H} {B : Nat} (u : RUse h1 q p m g mod om cm) (hB : h1.row B = some ⟨fvL q p m g (.slice (some ⟨om, 0, none⟩) mod.length cm), 67, 0, true⟩) (a k : Int) (hk : k ≤ 1000) :
    ∀ (n j : Nat) (G : H), (j : Int) + n = k → h1 <+: G → ∃ G' : H, h1 <+: G' ∧
      ∀ ks, goL T [.tmp 6] [1, 2, 3, 7, 8] c62L0 (.blk 0 [7] :: ks) [(1, .int .i64 a), (2, .int .i64 k), (3, .pointer (some ⟨B, 0, none⟩)), (7, .int .i64 (powI q a j)), (8, .int .i64 j)] G = go T [.tmp 6] ks (Fr.of [(7, .int .i64 (powI q a k.toNat))]) G'
  | 0, j, G, hj, hp => by
    refine ⟨G, hp, fun ks => ?_⟩
    rw [goL_at c62L0.eq_def]
    have : k.toNat = j := by omega
    have h2 : k ≤ (j : Int) := by omega
    simp (disch := first | omega | (simp only [Go.Am.len_push, Go.Am.len_set, Go.Am.len_kill] <;> omega) | fail) only [push_cast, seval, dec_nlt, this]
  | n + 1, j, G, hj, hp => by
    have lB := lds_all (row_pre hB hp) (n := 5) rfl
    obtain ⟨G1, p1, em⟩ := rmul_call (u.mono hp) (powI q a j) a
    obtain ⟨G2, p2, ih⟩ := rpow_loop u hB a k hk n (j + 1) G1 (by omega) (hp.trans p1)
    refine ⟨G2, p2, fun ks => ?_⟩
    have ih' := ih ks
    rw [Int.natCast_add, Int.natCast_one, powI] at ih'
    rw [← ih', goL_at c62L0.eq_def]
    simp (disch := first | omega | (simp only [Go.Am.len_push, Go.Am.len_set, Go.Am.len_kill] <;> omega) | fail) only [push_cast, seval, dec_lt, lB, em, wrap64]
theorem rpow_call (u : RUse h q p m g mod om cm) (a k : Int) : ∃ h' : H, h <+: h' ∧ call T 62 [rv q p m g mod om cm, .int .i64 a, .int .i64 k] h = some (.int .i64 (fpow q a k), h') := by
  have hq2 := u.ok.q2
  have hq64 := u.ok.q64
  obtain ⟨h1, eh1⟩ : ∃ h1 : H, h1 = h ++ [rvR q p m g mod om cm] := ⟨_, rfl⟩
  have r1 : h1.row h.length = some ⟨fvL q p m g (.slice (some ⟨om, 0, none⟩) mod.length cm), 67, 0, true⟩ := by rw [eh1]; exact row_push_new
  have p1 : h <+: h1 := by rw [eh1]; exact List.prefix_append _ _
  have l1 := lds_all r1 (n := 5) rfl
  obtain ⟨h2, eh2⟩ : ∃ h2 : H, h2 = h1 ++ [rvR q p m g mod om cm] := ⟨_, rfl⟩
  have p2 : h1 <+: h2 := by rw [eh2]; exact List.prefix_append _ _
  have hasA : call T 50 [rv q p m g mod om cm, .int .i64 a] h1 = some (.bool (fok q a), h2) := by rw [eh2]; exact rhas_call a
  have b0 : h2.ld1 h.length 0 = some (.int .i64 q) := ld1_at (row_pre r1 p2) rfl
  rcases fok_cases q a with ⟨ho, h0, ha1⟩ | ho
  rotate_left
  · rw [ho] at hasA
    refine ⟨h2, p1.trans p2, ?_⟩
    rw [call_at T62 rfl, fpow, ho]
    unfold F62 c62
    simp (disch := first | omega | (simp only [Go.Am.len_push, Go.Am.len_set, Go.Am.len_kill] <;> omega) | fail) only [push_cast, seval, ← eh1, l1, hasA]
  rw [ho] at hasA
  by_cases hz : a = 0
  · refine ⟨h2, p1.trans p2, ?_⟩
    rw [call_at T62 rfl, fpow, ho, show (a == 0) = true by simpa using hz]
    unfold F62 c62
    by_cases hk : k < 0
    · rw [decide_eq_true hk]
      simp (disch := first | omega | (simp only [Go.Am.len_push, Go.Am.len_set, Go.Am.len_kill] <;> omega) | fail) only [push_cast, seval, ← eh1, l1, hasA, dec_eq hz, dec_lt hk]
    rw [decide_eq_false hk]
    by_cases hk0 : k = 0
    · rw [show (k == 0) = true by simpa using hk0]
      simp (disch := first | omega | (simp only [Go.Am.len_push, Go.Am.len_set, Go.Am.len_kill] <;> omega) | fail) only [push_cast, seval, ← eh1, l1, hasA, dec_eq hz, dec_nlt (Int.not_lt.1 hk), dec_eq hk0]
    · rw [show (k == 0) = false by simpa using hk0]
      simp (disch := first | omega | (simp only [Go.Am.len_push, Go.Am.len_set, Go.Am.len_kill] <;> omega) | fail) only [push_cast, seval, ← eh1, l1, hasA, dec_eq hz, dec_nlt (Int.not_lt.1 hk), dec_ne hk0]
  have hzb : (a == 0) = false := by simpa using hz
  by_cases hk0 : k = 0
  · refine ⟨h2, p1.trans p2, ?_⟩
    rw [call_at T62 rfl, fpow, ho, hzb, show (k == 0) = true by simpa using hk0]
    unfold F62 c62
    simp (disch := first | omega | (simp only [Go.Am.len_push, Go.Am.len_set, Go.Am.len_kill] <;> omega) | fail) only [push_cast, seval, ← eh1, l1, hasA, dec_ne hz, dec_eq hk0]
  have hq0 : ¬ q - 1 = 0 := by omega
  obtain ⟨j, hj⟩ : ∃ j, j = k % (q - 1) := ⟨_, rfl⟩
  have hj1 : 0 ≤ j := by rw [hj]; exact Int.emod_nonneg _ hq0
  have hj2 : j < q - 1 := by rw [hj]; exact Int.emod_lt_of_pos _ (by omega)
  obtain ⟨h3, p3, lo⟩ := rpow_loop (u.mono (p1.trans p2)) (row_pre r1 p2) a j (by omega) j.toNat 0 h2 (by omega) (List.prefix_refl _)
  have hv : powI q a j.toNat = fpow q a k := by
    rw [hj, powI_emod u.tabs hq2 ⟨by omega, ha1⟩, fpow, ho, hzb, show (k == 0) = false by simpa using hk0]; rfl
  rw [hv, powI, show ((0 : Nat) : Int) = 0 from rfl] at lo
  have hte : k.tmod (q - 1) = if 0 ≤ k ∨ k % (q - 1) = 0 then j else j - (q - 1) := by
    rw [Int.tmod_eq_emod, hj]
    by_cases hc : 0 ≤ k ∨ (q - 1) ∣ k
    · rw [if_pos hc, if_pos (by rcases hc with h | h; exact .inl h; exact .inr (Int.emod_eq_zero_of_dvd h))]; simp
    · rw [if_neg hc, if_neg (fun h => hc (by rcases h with h | h; exact .inl h; exact .inr (Int.dvd_of_emod_eq_zero h)))]
      have : ((q - 1).natAbs : Int) = q - 1 := by omega
      rw [this]
  refine ⟨h3, (p1.trans p2).trans p3, ?_⟩
  rw [call_at T62 rfl]
  unfold F62 c62
  by_cases hc : 0 ≤ k ∨ k % (q - 1) = 0
  · rw [if_pos hc] at hte
    simp (disch := first | omega | (simp only [Go.Am.len_push, Go.Am.len_set, Go.Am.len_kill] <;> omega) | fail) only [push_cast, seval, ← eh1, l1, hasA, dec_ne hz, dec_ne hk0, b0, wrap64, hq0, hte, dec_nlt hj1]
    rw [lo]
    simp (disch := first | omega | (simp only [Go.Am.len_push, Go.Am.len_set, Go.Am.len_kill] <;> omega) | fail) only [push_cast, seval]
  · rw [if_neg hc] at hte
    have hneg : j - (q - 1) < 0 := by omega
    have hb : j - (q - 1) + q - 1 = j := by omega
    have hb2 : -9223372036854775808 ≤ j - (q - 1) + q := by omega
    simp (disch := first | omega | (simp only [Go.Am.len_push, Go.Am.len_set, Go.Am.len_kill] <;> omega) | fail) only [push_cast, seval, ← eh1, l1, hasA, dec_ne hz, dec_ne hk0, b0, wrap64, hq0, hte, dec_lt hneg, hb]
    rw [lo]
    simp (disch := first | omega | (simp only [Go.Am.len_push, Go.Am.len_set, Go.Am.len_kill] <;> omega) | fail) only [push_cast, seval]
end
end Go.Proofs.Ytammndhoillliaa
namespace Go.Proofs.Ytammndhoillliaa
open Go.Am
set_option linter.unusedVariables false
set_option linter.unusedSimpArgs false
set_option maxRecDepth 30000

section
variable {h : H} {q p : Int} {m : Nat} {g : Int} {mod : List Int} {om cm : Nat}

theorem rlog_loop {h1 : H} {B : Nat} (u : RUse h1 q p m g mod om cm) (hB : h1.row B = some ⟨fvL q p m g (.slice (some ⟨om, 0, none⟩) mod.length cm), 67, 0, true⟩) {a : Int} (ha : 0 ≤ a ∧ a < q) :
    ∀ (n : Nat) (k : Int) (G : H), k + n = q - 1 → 0 ≤ k → (1 ≤ a → k ≤ flog q a) → h1 <+: G → ∃ G' : H, h1 <+: G' ∧
      ∀ ks, goL T [.tmp 4] [1, 2, 5, 6] c64L0 (.blk 0 [] :: ks) [(1, .int .i64 a), (2, .pointer (some ⟨B, 0, none⟩)), (5, .int .i64 (fexp q (k % (q - 1)))), (6, .int .i64 k)] G =
        if a = 0 then go T [.tmp 4] ks (Fr.of []) G' else some (.int .i64 (flog q a), G')
  | 0, k, G, hk, hk0, hkl, hp => by
    have hq2 := u.ok.q2
    have hq64 := u.ok.q64
    have b0 : G.ld1 B 0 = some (.int .i64 q) := ld1_at (row_pre hB hp) rfl
    have ha0 : a = 0 := by
      by_cases h0 : a = 0
      · exact h0
      · have := u.tabs.lr a (by omega) ha.2
        have := hkl (by omega)
        omega
    refine ⟨G, hp, fun ks => ?_⟩
    rw [goL_at c64L0.eq_def, if_pos ha0]
    simp (disch := first | omega | (simp only [Go.Am.len_push, Go.Am.len_set, Go.Am.len_kill] <;> omega) | fail) only [push_cast, seval, dec_nlt, b0, wrap64]
  | n + 1, k, G, hk, hk0, hkl, hp => by
    have hq2 := u.ok.q2
    have hq64 := u.ok.q64
    have b0 : G.ld1 B 0 = some (.int .i64 q) := ld1_at (row_pre hB hp) rfl
    have b3 : G.ld1 B 3 = some (.int .i64 g) := ld1_at (row_pre hB hp) rfl
    have lB := lds_all (row_pre hB hp) (n := 5) rfl
    have hkm : k % (q - 1) = k := Int.emod_eq_of_lt hk0 (by omega)
    have hx := u.tabs.er k hk0 (by omega)
    rw [hkm]
    have hkl' : k < q - 1 := by omega
    by_cases he : fexp q k = a
    · have hfl : flog q a = k := by rw [← he]; exact hx.2.2
      have ha0 : ¬ a = 0 := by omega
      refine ⟨G, hp, fun ks => ?_⟩
      rw [goL_at c64L0.eq_def, if_neg ha0, hfl]
      simp (disch := first | omega | (simp only [Go.Am.len_push, Go.Am.len_set, Go.Am.len_kill] <;> omega) | fail) only [push_cast, seval, dec_lt, b0, wrap64, dec_eq he]
    · obtain ⟨G1, p1, em⟩ := rmul_call (u.mono hp) (fexp q k) g
      have hmul : fmul q (fexp q k) g = fexp q ((k + 1) % (q - 1)) := by rw [← exp_gen u.tabs hq2 u.gen k, hkm]
      rw [hmul] at em
      obtain ⟨G2, p2, ih⟩ := rlog_loop u hB ha n (k + 1) G1 (by omega) (by omega) (fun h1 => by
        have := hkl h1
        have h3 := (u.tabs.lr a h1 ha.2).2.2
        have : k ≠ flog q a := fun e => he (by rw [e]; exact h3)
        omega) (hp.trans p1)
      refine ⟨G2, p2, fun ks => ?_⟩
      rw [← ih ks, goL_at c64L0.eq_def]
      simp (disch := first | omega | (simp only [Go.Am.len_push, Go.Am.len_set, Go.Am.len_kill] <;> omega) | fail) only [push_cast, seval, dec_lt, b0, b3, lB, wrap64, dec_ne he, em]
theorem rlog_call (u : RUse h q p m g mod om cm) (a : Int) : ∃ h' : H, h <+: h' ∧ call T 64 [rv q p m g mod om cm, .int .i64 a] h = some (.int .i64 (flogS q a), h') := by
  have hq2 := u.ok.q2
  obtain ⟨h1, eh1⟩ : ∃ h1 : H, h1 = h ++ [rvR q p m g mod om cm] := ⟨_, rfl⟩
  have r1 : h1.row h.length = some ⟨fvL q p m g (.slice (some ⟨om, 0, none⟩) mod.length cm), 67, 0, true⟩ := by rw [eh1]; exact row_push_new
  have p1 : h <+: h1 := by rw [eh1]; exact List.prefix_append _ _
  have l1 := lds_all r1 (n := 5) rfl
  obtain ⟨h2, eh2⟩ : ∃ h2 : H, h2 = h1 ++ [rvR q p m g mod om cm] := ⟨_, rfl⟩
  have p2 : h1 <+: h2 := by rw [eh2]; exact List.prefix_append _ _
  have hasA : call T 50 [rv q p m g mod om cm, .int .i64 a] h1 = some (.bool (fok q a), h2) := by rw [eh2]; exact rhas_call a
  rcases fok_cases q a with ⟨ho, h0, ha1⟩ | ho
  rotate_left
  · rw [ho] at hasA
    refine ⟨h2, p1.trans p2, ?_⟩
    rw [call_at T64 rfl, flogS, ho]
    unfold F64 c64
    simp (disch := first | omega | (simp only [Go.Am.len_push, Go.Am.len_set, Go.Am.len_kill] <;> omega) | fail) only [push_cast, seval, ← eh1, l1, hasA]
  rw [ho] at hasA
  obtain ⟨h3, p3, lo⟩ := rlog_loop (u.mono (p1.trans p2)) (row_pre r1 p2) (a := a) ⟨h0, ha1⟩ (q - 1).toNat 0 h2 (by omega) (by omega) (fun hh => (u.tabs.lr a hh ha1).1) (List.prefix_refl _)
  rw [Int.zero_emod, u.tabs.e0] at lo
  refine ⟨h3, (p1.trans p2).trans p3, ?_⟩
  rw [call_at T64 rfl, flogS, ho]
  unfold F64 c64
  simp (disch := first | omega | (simp only [Go.Am.len_push, Go.Am.len_set, Go.Am.len_kill] <;> omega) | fail) only [push_cast, seval, ← eh1, l1, hasA]
  rw [lo]
  by_cases hz : a = 0
  · rw [if_pos hz, hz]
    simp (disch := first | omega | (simp only [Go.Am.len_push, Go.Am.len_set, Go.Am.len_kill] <;> omega) | fail) only [push_cast, seval]
    rfl
  · rw [if_neg hz]

theorem rfrob_in {h1 : H} {B : Nat} (u : RUse h1 q p m g mod om cm) (hB : h1.row B = some ⟨fvL q p m g (.slice (some ⟨om, 0, none⟩) mod.length cm), 67, 0, true⟩) (a t i : Int) :
    ∀ (n j : Nat) (G : H), (j : Int) + n = p → h1 <+: G → ∃ G' : H, h1 <+: G' ∧
      ∀ ks, goL T [.tmp 6] [1, 2, 3, 7, 8, 9] c66L0 (.blk 2 [2, 3, 7, 8] :: ks) [(1, .int .i64 a), (2, .int .i64 t), (3, .pointer (some ⟨B, 0, none⟩)), (7, .int .i64 i), (8, .int .i64 (powI q a j)), (9, .int .i64 j)] G =
        go T [.tmp 6] ks (Fr.of [(2, .int .i64 t), (3, .pointer (some ⟨B, 0, none⟩)), (7, .int .i64 i), (8, .int .i64 (powI q a p.toNat))]) G'
  | 0, j, G, hj, hp => by
    have b1 : G.ld1 B 1 = some (.int .i64 p) := ld1_at (row_pre hB hp) rfl
    refine ⟨G, hp, fun ks => ?_⟩
    rw [goL_at c66L0.eq_def]
    have : p.toNat = j := by omega
    have h2 : p ≤ (j : Int) := by omega
    simp (disch := first | omega | (simp only [Go.Am.len_push, Go.Am.len_set, Go.Am.len_kill] <;> omega) | fail) only [push_cast, seval, dec_nlt, this, b1]
  | n + 1, j, G, hj, hp => by
    have hp64 := u.ok.p64
    have b1 : G.ld1 B 1 = some (.int .i64 p) := ld1_at (row_pre hB hp) rfl
    have lB := lds_all (row_pre hB hp) (n := 5) rfl
    obtain ⟨G1, p1, em⟩ := rmul_call (u.mono hp) (powI q a j) a
    obtain ⟨G2, p2, ih⟩ := rfrob_in u hB a t i n (j + 1) G1 (by omega) (hp.trans p1)
    refine ⟨G2, p2, fun ks => ?_⟩
    have ih' := ih ks
    rw [Int.natCast_add, Int.natCast_one, powI] at ih'
    rw [← ih', goL_at c66L0.eq_def]
    simp (disch := first | omega | (simp only [Go.Am.len_push, Go.Am.len_set, Go.Am.len_kill] <;> omega) | fail) only [push_cast, seval, dec_lt, b1, lB, em, wrap64]
theorem fpow_ok {q g : Int} (t : Tabs q g) (hq : 2 ≤ q) {a k : Int} (ha : 0 ≤ a ∧ a < q) (hk : 0 ≤ k) : 0 ≤ fpow q a k ∧ fpow q a k < q := by
  rw [fpow, fok_t ha, decide_eq_false (Int.not_lt.2 hk)]
  simp only [Bool.not_true, Bool.and_false, Bool.or_false, cond_false]
  by_cases hk0 : k = 0
  · rw [show (k == 0) = true by simpa using hk0, cond_true]; omega
  rw [show (k == 0) = false by simpa using hk0, cond_false]
  by_cases hz : a = 0
  · rw [show (a == 0) = true by simpa using hz, cond_true]; omega
  rw [show (a == 0) = false by simpa using hz, cond_false]
  have := exp_ok t hq (flog q a * (k % (q - 1)))
  omega
theorem rfrob_out {h1 : H} {B : Nat} (u : RUse h1 q p m g mod om cm) (hB : h1.row B = some ⟨fvL q p m g (.slice (some ⟨om, 0, none⟩) mod.length cm), 67, 0, true⟩) (t : Int) (ht : t ≤ 1000) :
    ∀ (n : Nat) (a i : Int) (G : H), i + n = t → 0 ≤ i → 0 ≤ a ∧ a < q → h1 <+: G → ∃ G' : H, h1 <+: G' ∧
      ∀ ks, goL T [.tmp 6] [1, 2, 3, 7] c66L1 (.blk 0 [1] :: ks) [(1, .int .i64 a), (2, .int .i64 t), (3, .pointer (some ⟨B, 0, none⟩)), (7, .int .i64 i)] G = go T [.tmp 6] ks (Fr.of [(1, .int .i64 (frobN q n a))]) G'
  | 0, a, i, G, hi, hi0, ha, hp => by
    refine ⟨G, hp, fun ks => ?_⟩
    rw [goL_at c66L1.eq_def]
    simp (disch := first | omega | (simp only [Go.Am.len_push, Go.Am.len_set, Go.Am.len_kill] <;> omega) | fail) only [push_cast, seval, dec_nlt, frobN]
  | n + 1, a, i, G, hi, hi0, ha, hp => by
    have hp2 := u.ok.p2
    have hq2 := u.ok.q2
    obtain ⟨G1, p1, i1⟩ := rfrob_in u hB a t i p.toNat 0 G (by omega) hp
    have hv : powI q a p.toNat = fpow q a p := by rw [powI_pow u.tabs hq2 ha p.toNat (by omega), show ((p.toNat : Nat) : Int) = p by omega]
    rw [hv, powI, show ((0 : Nat) : Int) = 0 from rfl] at i1
    obtain ⟨G2, p2, ih⟩ := rfrob_out u hB t ht n (fpow q a p) (i + 1) G1 (by omega) (by omega) (fpow_ok u.tabs hq2 ha (by omega)) p1
    refine ⟨G2, p2, fun ks => ?_⟩
    rw [frobN, (fdat_eq u.hn).1, ← ih ks, goL_at c66L1.eq_def]
    simp (disch := first | omega | (simp only [Go.Am.len_push, Go.Am.len_set, Go.Am.len_kill] <;> omega) | fail) only [push_cast, seval, dec_lt]
    rw [i1]
    simp (disch := first | omega | (simp only [Go.Am.len_push, Go.Am.len_set, Go.Am.len_kill] <;> omega) | fail) only [push_cast, seval, wrap64]
theorem rfrob_call (u : RUse h q p m g mod om cm) (a t : Int) : ∃ h' : H, h <+: h' ∧ call T 66 [rv q p m g mod om cm, .int .i64 a, .int .i64 t] h = some (.int .i64 (ffrob q a t), h') := by
  have hq2 := u.ok.q2
  have hm1 := u.ok.m1
  have hm10 := u.ok.m10
  obtain ⟨h1, eh1⟩ : ∃ h1 : H, h1 = h ++ [rvR q p m g mod om cm] := ⟨_, rfl⟩
  have r1 : h1.row h.length = some ⟨fvL q p m g (.slice (some ⟨om, 0, none⟩) mod.length cm), 67, 0, true⟩ := by rw [eh1]; exact row_push_new
  have p1 : h <+: h1 := by rw [eh1]; exact List.prefix_append _ _
  have l1 := lds_all r1 (n := 5) rfl
  obtain ⟨h2, eh2⟩ : ∃ h2 : H, h2 = h1 ++ [rvR q p m g mod om cm] := ⟨_, rfl⟩
  have p2 : h1 <+: h2 := by rw [eh2]; exact List.prefix_append _ _
  have hasA : call T 50 [rv q p m g mod om cm, .int .i64 a] h1 = some (.bool (fok q a), h2) := by rw [eh2]; exact rhas_call a
  have b2 : h2.ld1 h.length 2 = some (.int .i64 m) := ld1_at (row_pre r1 p2) rfl
  rcases fok_cases q a with ⟨ho, h0, ha1⟩ | ho
  rotate_left
  · rw [ho] at hasA
    refine ⟨h2, p1.trans p2, ?_⟩
    rw [call_at T66 rfl, ffrob, ho]
    unfold F66 c66
    simp (disch := first | omega | (simp only [Go.Am.len_push, Go.Am.len_set, Go.Am.len_kill] <;> omega) | fail) only [push_cast, seval, ← eh1, l1, hasA]
  rw [ho] at hasA
  have hm0 : ¬ (m : Int) = 0 := by omega
  obtain ⟨j, hj⟩ : ∃ j, j = t % (m : Int) := ⟨_, rfl⟩
  have hj1 : 0 ≤ j := by rw [hj]; exact Int.emod_nonneg _ hm0
  have hj2 : j < m := by rw [hj]; exact Int.emod_lt_of_pos _ (by omega)
  obtain ⟨h3, p3, lo⟩ := rfrob_out (u.mono (p1.trans p2)) (row_pre r1 p2) j (by omega) j.toNat a 0 h2 (by omega) (by omega) ⟨h0, ha1⟩ (List.prefix_refl _)
  have hte : t.tmod (m : Int) = if 0 ≤ t ∨ t % (m : Int) = 0 then j else j - m := by
    rw [Int.tmod_eq_emod, hj]
    by_cases hc : 0 ≤ t ∨ (m : Int) ∣ t
    · rw [if_pos hc, if_pos (by rcases hc with h | h; exact .inl h; exact .inr (Int.emod_eq_zero_of_dvd h))]; simp
    · rw [if_neg hc, if_neg (fun h => hc (by rcases h with h | h; exact .inl h; exact .inr (Int.dvd_of_emod_eq_zero h)))]
      rfl
  refine ⟨h3, (p1.trans p2).trans p3, ?_⟩
  rw [call_at T66 rfl, ffrob, ho, (fdat_eq u.hn).2, ← hj]
  unfold F66 c66
  by_cases hc : 0 ≤ t ∨ t % (m : Int) = 0
  · rw [if_pos hc] at hte
    simp (disch := first | omega | (simp only [Go.Am.len_push, Go.Am.len_set, Go.Am.len_kill] <;> omega) | fail) only [push_cast, seval, ← eh1, l1, hasA, b2, hm0, hte, dec_nlt hj1]
    rw [lo]
    simp (disch := first | omega | (simp only [Go.Am.len_push, Go.Am.len_set, Go.Am.len_kill] <;> omega) | fail) only [push_cast, seval]
  · rw [if_neg hc] at hte
    have hneg : j - (m : Int) < 0 := by omega
    have hb : j - (m : Int) + m = j := by omega
    simp (disch := first | omega | (simp only [Go.Am.len_push, Go.Am.len_set, Go.Am.len_kill] <;> omega) | fail) only [push_cast, seval, ← eh1, l1, hasA, b2, hm0, hte, dec_lt hneg, hb, wrap64]
    rw [lo]
    simp (disch := first | omega | (simp only [Go.Am.len_push, Go.Am.len_set, Go.Am.len_kill] <;> omega) | fail) only [push_cast, seval]

theorem rtrace_loop {h1 : H} {B : Nat} (u : RUse h1 q p m g mod om cm) (hB : h1.row B = some ⟨fvL q p m g (.slice (some ⟨om, 0, none⟩) mod.length cm), 67, 0, true⟩) (a : Int) :
    ∀ (n k : Nat) (s : Int) (G : H), k + n = m → h1 <+: G → ∃ G' : H, h1 <+: G' ∧
      ∀ ks, goL T [.tmp 4] [1, 2, 5, 6] c68L0 (.blk 0 [5] :: ks) [(1, .int .i64 a), (2, .pointer (some ⟨B, 0, none⟩)), (5, .int .i64 s), (6, .int .i64 k)] G = go T [.tmp 4] ks (Fr.of [(5, .int .i64 (traceN q a n k s))]) G'
  | 0, k, s, G, hk, hp => by
    have b2 : G.ld1 B 2 = some (.int .i64 m) := ld1_at (row_pre hB hp) rfl
    refine ⟨G, hp, fun ks => ?_⟩
    rw [goL_at c68L0.eq_def]
    have : (m : Int) ≤ (k : Int) := by omega
    simp (disch := first | omega | (simp only [Go.Am.len_push, Go.Am.len_set, Go.Am.len_kill] <;> omega) | fail) only [push_cast, seval, dec_nlt, traceN, b2]
  | n + 1, k, s, G, hk, hp => by
    have hm10 := u.ok.m10
    have b2 : G.ld1 B 2 = some (.int .i64 m) := ld1_at (row_pre hB hp) rfl
    have l1 := lds_all (row_pre hB hp) (n := 5) rfl
    obtain ⟨G1, p1, e1⟩ := rfrob_call (u.mono hp) a k
    have l2 := lds_all (row_pre hB (hp.trans p1)) (n := 5) rfl
    obtain ⟨G2, p2, e2⟩ := radd_call (u.mono (hp.trans p1)) s (ffrob q a k)
    obtain ⟨G3, p3, ih⟩ := rtrace_loop u hB a n (k + 1) (fadd q s (ffrob q a k)) G2 (by omega) ((hp.trans p1).trans p2)
    refine ⟨G3, p3, fun ks => ?_⟩
    have ih' := ih ks
    rw [Int.natCast_add, Int.natCast_one] at ih'
    rw [traceN, ← ih', goL_at c68L0.eq_def]
    simp (disch := first | omega | (simp only [Go.Am.len_push, Go.Am.len_set, Go.Am.len_kill] <;> omega) | fail) only [push_cast, seval, dec_lt, b2, l1, e1, l2, e2, wrap64]
theorem rtrace_call (u : RUse h q p m g mod om cm) (a : Int) : ∃ h' : H, h <+: h' ∧ call T 68 [rv q p m g mod om cm, .int .i64 a] h = some (.int .i64 (ftrace q a), h') := by
  obtain ⟨h1, eh1⟩ : ∃ h1 : H, h1 = h ++ [rvR q p m g mod om cm] := ⟨_, rfl⟩
  have r1 : h1.row h.length = some ⟨fvL q p m g (.slice (some ⟨om, 0, none⟩) mod.length cm), 67, 0, true⟩ := by rw [eh1]; exact row_push_new
  have p1 : h <+: h1 := by rw [eh1]; exact List.prefix_append _ _
  have l1 := lds_all r1 (n := 5) rfl
  obtain ⟨h2, eh2⟩ : ∃ h2 : H, h2 = h1 ++ [rvR q p m g mod om cm] := ⟨_, rfl⟩
  have p2 : h1 <+: h2 := by rw [eh2]; exact List.prefix_append _ _
  have hasA : call T 50 [rv q p m g mod om cm, .int .i64 a] h1 = some (.bool (fok q a), h2) := by rw [eh2]; exact rhas_call a
  rcases fok_cases q a with ⟨ho, h0, ha1⟩ | ho
  rotate_left
  · rw [ho] at hasA
    refine ⟨h2, p1.trans p2, ?_⟩
    rw [call_at T68 rfl, ftrace, ho]
    unfold F68 c68
    simp (disch := first | omega | (simp only [Go.Am.len_push, Go.Am.len_set, Go.Am.len_kill] <;> omega) | fail) only [push_cast, seval, ← eh1, l1, hasA]
  rw [ho] at hasA
  obtain ⟨h3, p3, lo⟩ := rtrace_loop (u.mono (p1.trans p2)) (row_pre r1 p2) a m 0 0 h2 (by omega) (List.prefix_refl _)
  rw [show ((0 : Nat) : Int) = 0 from rfl] at lo
  refine ⟨h3, (p1.trans p2).trans p3, ?_⟩
  rw [call_at T68 rfl, ftrace, ho, (fdat_eq u.hn).2]
  unfold F68 c68
  simp (disch := first | omega | (simp only [Go.Am.len_push, Go.Am.len_set, Go.Am.len_kill] <;> omega) | fail) only [push_cast, seval, ← eh1, l1, hasA]
  rw [lo]
  simp (disch := first | omega | (simp only [Go.Am.len_push, Go.Am.len_set, Go.Am.len_kill] <;> omega) | fail) only [push_cast, seval]
theorem rnorm_loop {h1 : H} {B : Nat} (u : RUse h1 q p m g mod om cm) (hB : h1.row B = some ⟨fvL q p m g (.slice (some ⟨om, 0, none⟩) mod.length cm), 67, 0, true⟩) (a : Int) :
    ∀ (n k : Nat) (s : Int) (G : H), k + n = m → h1 <+: G → ∃ G' : H, h1 <+: G' ∧
      ∀ ks, goL T [.tmp 4] [1, 2, 5, 6] c70L0 (.blk 0 [5] :: ks) [(1, .int .i64 a), (2, .pointer (some ⟨B, 0, none⟩)), (5, .int .i64 s), (6, .int .i64 k)] G = go T [.tmp 4] ks (Fr.of [(5, .int .i64 (normN q a n k s))]) G'
  | 0, k, s, G, hk, hp => by
    have b2 : G.ld1 B 2 = some (.int .i64 m) := ld1_at (row_pre hB hp) rfl
    refine ⟨G, hp, fun ks => ?_⟩
    rw [goL_at c70L0.eq_def]
    have : (m : Int) ≤ (k : Int) := by omega
    simp (disch := first | omega | (simp only [Go.Am.len_push, Go.Am.len_set, Go.Am.len_kill] <;> omega) | fail) only [push_cast, seval, dec_nlt, normN, b2]
  | n + 1, k, s, G, hk, hp => by
    have hm10 := u.ok.m10
    have b2 : G.ld1 B 2 = some (.int .i64 m) := ld1_at (row_pre hB hp) rfl
    have l1 := lds_all (row_pre hB hp) (n := 5) rfl
    obtain ⟨G1, p1, e1⟩ := rfrob_call (u.mono hp) a k
    have l2 := lds_all (row_pre hB (hp.trans p1)) (n := 5) rfl
    obtain ⟨G2, p2, e2⟩ := rmul_call (u.mono (hp.trans p1)) s (ffrob q a k)
    obtain ⟨G3, p3, ih⟩ := rnorm_loop u hB a n (k + 1) (fmul q s (ffrob q a k)) G2 (by omega) ((hp.trans p1).trans p2)
    refine ⟨G3, p3, fun ks => ?_⟩
    have ih' := ih ks
    rw [Int.natCast_add, Int.natCast_one] at ih'
    rw [normN, ← ih', goL_at c70L0.eq_def]
    simp (disch := first | omega | (simp only [Go.Am.len_push, Go.Am.len_set, Go.Am.len_kill] <;> omega) | fail) only [push_cast, seval, dec_lt, b2, l1, e1, l2, e2, wrap64]
theorem rnorm_call (u : RUse h q p m g mod om cm) (a : Int) : ∃ h' : H, h <+: h' ∧ call T 70 [rv q p m g mod om cm, .int .i64 a] h = some (.int .i64 (fnorm q a), h') := by
  obtain ⟨h1, eh1⟩ : ∃ h1 : H, h1 = h ++ [rvR q p m g mod om cm] := ⟨_, rfl⟩
  have r1 : h1.row h.length = some ⟨fvL q p m g (.slice (some ⟨om, 0, none⟩) mod.length cm), 67, 0, true⟩ := by rw [eh1]; exact row_push_new
  have p1 : h <+: h1 := by rw [eh1]; exact List.prefix_append _ _
  have l1 := lds_all r1 (n := 5) rfl
  obtain ⟨h2, eh2⟩ : ∃ h2 : H, h2 = h1 ++ [rvR q p m g mod om cm] := ⟨_, rfl⟩
  have p2 : h1 <+: h2 := by rw [eh2]; exact List.prefix_append _ _
  have hasA : call T 50 [rv q p m g mod om cm, .int .i64 a] h1 = some (.bool (fok q a), h2) := by rw [eh2]; exact rhas_call a
  rcases fok_cases q a with ⟨ho, h0, ha1⟩ | ho
  rotate_left
  · rw [ho] at hasA
    refine ⟨h2, p1.trans p2, ?_⟩
    rw [call_at T70 rfl, fnorm, ho]
    unfold F70 c70
    simp (disch := first | omega | (simp only [Go.Am.len_push, Go.Am.len_set, Go.Am.len_kill] <;> omega) | fail) only [push_cast, seval, ← eh1, l1, hasA]
  rw [ho] at hasA
  obtain ⟨h3, p3, lo⟩ := rnorm_loop (u.mono (p1.trans p2)) (row_pre r1 p2) a m 0 1 h2 (by omega) (List.prefix_refl _)
  rw [show ((0 : Nat) : Int) = 0 from rfl] at lo
  refine ⟨h3, (p1.trans p2).trans p3, ?_⟩
  rw [call_at T70 rfl, fnorm, ho, (fdat_eq u.hn).2]
  unfold F70 c70
  simp (disch := first | omega | (simp only [Go.Am.len_push, Go.Am.len_set, Go.Am.len_kill] <;> omega) | fail) only [push_cast, seval, ← eh1, l1, hasA]
  rw [lo]
  simp (disch := first | omega | (simp only [Go.Am.len_push, Go.Am.len_set, Go.Am.len_kill] <;> omega) | fail) only [push_cast, seval]
end
end Go.Proofs.Ytammndhoillliaa
namespace Go.Proofs.Ytammndhoillliaa
open Go.Am
set_option linter.unusedVariables false
set_option linter.unusedSimpArgs false
set_option maxRecDepth 30000

/-- the same elements by Frobenius and by powers -/
def withCheck (n s : Nat) : Bool := match fldN n, fldN s with
  | some (p, m, _, _), some (p', m', _, _) => bif decide (p' = p) && decide (m % m' = 0) then (List.range n).all fun a => decide (decide (ffrob n a m' = a) = decide (fpow n a s = a)) else true
  | _, _ => true
theorem with_checked : ((List.range 63).all fun n => (List.range 63).all fun s => withCheck (n + 2) (s + 2)) = true := by kernel_rfl
theorem with_eq {q s p p' g g' : Int} {m m' : Nat} {mod mod' : List Int} (hn : fldN q.toNat = some (p, m, g, mod)) (hs : fldN s.toNat = some (p', m', g', mod')) (hp : p' = p) (hm : m % m' = 0) {a : Int} (ha : 0 ≤ a ∧ a < q) :
    (ffrob q a m' = a) ↔ (fpow q a s = a) := by
  obtain ⟨h2, h64⟩ := fldN_le hn
  obtain ⟨s2, s64⟩ := fldN_le hs
  have h := List.all_eq_true.1 (List.all_eq_true.1 with_checked (q.toNat - 2) (List.mem_range.2 (by omega))) (s.toNat - 2) (List.mem_range.2 (by omega))
  rw [show q.toNat - 2 + 2 = q.toNat by omega, show s.toNat - 2 + 2 = s.toNat by omega] at h
  unfold withCheck at h
  rw [hn, hs] at h
  simp only [decide_eq_true hp, decide_eq_true hm, Bool.and_self, cond_true, List.all_eq_true, List.mem_range, decide_eq_true_eq] at h
  have := h a.toNat (by omega)
  rw [show ((a.toNat : Nat) : Int) = a by omega, show ((q.toNat : Nat) : Int) = q by omega, show ((s.toNat : Nat) : Int) = s by omega] at this
  simpa using this

section
variable {h : H} {q p : Int} {m : Nat} {g : Int} {mod : List Int} {om cm : Nat}
theorem rwith_loop {h1 : H} {B : Nat} (u : RUse h1 q p m g mod om cm) (hB : h1.row B = some ⟨fvL q p m g (.slice (some ⟨om, 0, none⟩) mod.length cm), 67, 0, true⟩) (s : Int) {p' g' : Int} {m' : Nat} {mod' : List Int}
    (hs : fldN s.toNat = some (p', m', g', mod')) (hpp : p' = p) (hmm : m % m' = 0) :
    ∀ (n k : Nat) (zs : List Int) (sa : Option Addr) (c : Nat) (G : H), (k : Int) + n = q → zs.length ≤ k → h1 <+: G → Grown G sa c zs h1.length →
    ∃ (sa' : Option Addr) (c' : Nat) (G' : H), h1 <+: G' ∧ Grown G' sa' c' (zs ++ withN q s n k) h1.length ∧
      ∀ ks, goL T [.tmp 4] [2, 6, 7, 8] c72L0 (.blk 0 [7] :: ks) [(2, .pointer (some ⟨B, 0, none⟩)), (6, .int .i64 m'), (7, .slice sa zs.length c), (8, .int .i64 k)] G =
        go T [.tmp 4] ks (Fr.of [(7, .slice sa' (zs ++ withN q s n k).length c')]) G'
  | 0, k, zs, sa, c, G, hk, hz, hp, hg => by
    have b0 : G.ld1 B 0 = some (.int .i64 q) := ld1_at (row_pre hB hp) rfl
    refine ⟨sa, c, G, hp, by rw [withN, List.append_nil]; exact hg, fun ks => ?_⟩
    rw [goL_at c72L0.eq_def]
    have : q ≤ (k : Int) := by omega
    simp (disch := first | omega | (simp only [Go.Am.len_push, Go.Am.len_set, Go.Am.len_kill] <;> omega) | fail) only [push_cast, seval, dec_nlt, b0, withN, List.append_nil]
  | n + 1, k, zs, sa, c, G, hk, hz, hp, hg => by
    have q64 := u.ok.q64
    have b0 : G.ld1 B 0 = some (.int .i64 q) := ld1_at (row_pre hB hp) rfl
    have l1 := lds_all (row_pre hB hp) (n := 5) rfl
    obtain ⟨G0, p0, e1⟩ := rfrob_call (u.mono hp) (k : Int) (m' : Int)
    have hiff := with_eq u.hn hs hpp hmm (a := (k : Int)) ⟨by omega, by omega⟩
    have hg0 : Grown G0 sa c zs h1.length := hg.carry (fun o _ ho => row_prefix p0 ho)
    by_cases he : fpow q k s = k
    · have he' := hiff.2 he
      obtain ⟨sa1, G1, ea, hg1, hl1, _, hpre⟩ := hg0.one (y := (k : Int)) (by omega) (pre_len (hp.trans p0))
      obtain ⟨sa2, c2, G2, p2, hg2, ih⟩ := rwith_loop u hB s hs hpp hmm n (k + 1) (zs ++ [(k : Int)]) sa1 (zs.length + 1) G1 (by omega) (by simp; omega) (hpre h1 (Nat.le_refl _) (hp.trans p0)) hg1
      have hw : zs ++ withN q s (n + 1) k = zs ++ [(k : Int)] ++ withN q s n (k + 1) := by rw [withN, decide_eq_true he, cond_true]; simp
      refine ⟨sa2, c2, G2, p2, by rw [hw]; exact hg2, fun ks => ?_⟩
      have ih' := ih ks
      rw [Int.natCast_add, Int.natCast_one] at ih'
      rw [hw, ← ih', goL_at c72L0.eq_def]
      have hlen : (zs ++ [(k : Int)]).length = zs.length + 1 := by simp
      simp (disch := first | omega | (simp only [Go.Am.len_push, Go.Am.len_set, Go.Am.len_kill] <;> omega) | fail) only [push_cast, seval, dec_lt, b0, l1, e1, dec_eq he', ea, hlen, wrap64]
    · have he' : ¬ ffrob q k m' = k := fun e => he (hiff.1 e)
      obtain ⟨sa2, c2, G2, p2, hg2, ih⟩ := rwith_loop u hB s hs hpp hmm n (k + 1) zs sa c G0 (by omega) (by omega) (hp.trans p0) hg0
      have hw : zs ++ withN q s (n + 1) k = zs ++ withN q s n (k + 1) := by rw [withN, decide_eq_false he, cond_false]
      refine ⟨sa2, c2, G2, p2, by rw [hw]; exact hg2, fun ks => ?_⟩
      have ih' := ih ks
      rw [Int.natCast_add, Int.natCast_one] at ih'
      rw [hw, ← ih', goL_at c72L0.eq_def]
      simp (disch := first | omega | (simp only [Go.Am.len_push, Go.Am.len_set, Go.Am.len_kill] <;> omega) | fail) only [push_cast, seval, dec_lt, b0, l1, e1, dec_ne he', wrap64]

theorem rwithin_call (u : RUse h q p m g mod om cm) (s : Int) : ∃ (sa : Option Addr) (c : Nat) (h' : H), h <+: h' ∧ RdI h' sa c (withP q s) ∧
    call T 72 [rv q p m g mod om cm, .int .i64 s] h = some (.slice sa (withP q s).length c, h') := by
  have hq2 := u.ok.q2
  have hp2 := u.ok.p2
  obtain ⟨hc, hd⟩ := fdat_eq u.hn
  have hp0 : ¬ (0 : Int) = p := by omega
  obtain ⟨h1, eh1⟩ : ∃ h1 : H, h1 = h ++ [rvR q p m g mod om cm] := ⟨_, rfl⟩
  have r1 : h1.row h.length = some ⟨fvL q p m g (.slice (some ⟨om, 0, none⟩) mod.length cm), 67, 0, true⟩ := by rw [eh1]; exact row_push_new
  have p1 : h <+: h1 := by rw [eh1]; exact List.prefix_append _ _
  have b1 : h1.ld1 h.length 1 = some (.int .i64 p) := ld1_at r1 rfl
  have b2 : h1.ld1 h.length 2 = some (.int .i64 m) := ld1_at r1 rfl
  cases hs : fldN s.toNat with
  | none =>
    have hw : withP q s = [] := by unfold withP; rw [hs]
    rw [hw]
    refine ⟨none, 0, h1, p1, .nil, ?_⟩
    rw [call_at T72 rfl]
    unfold F72 c72
    by_cases hs1 : s < 2
    · simp (disch := first | omega | (simp only [Go.Am.len_push, Go.Am.len_set, Go.Am.len_kill] <;> omega) | fail) only [push_cast, seval, ← eh1, dec_lt hs1]
    by_cases hs2 : 64 < s
    · simp (disch := first | omega | (simp only [Go.Am.len_push, Go.Am.len_set, Go.Am.len_kill] <;> omega) | fail) only [push_cast, seval, ← eh1, dec_nlt (Int.not_lt.1 hs1), dec_lt hs2]
    have ho := fld_none (n := s.toNat) (by omega) (by omega) hs
    rw [show ((s.toNat : Nat) : Int) = s by omega] at ho
    have ep := prime_call s (by omega) h1 _ ho
    simp (disch := first | omega | (simp only [Go.Am.len_push, Go.Am.len_set, Go.Am.len_kill] <;> omega) | fail) only [push_cast, seval, ← eh1, dec_nlt (Int.not_lt.1 hs1), dec_nlt (Int.not_lt.1 hs2), ep, b1, dec_ne hp0]
  | some x =>
    obtain ⟨p', m', g', mod'⟩ := x
    obtain ⟨hs2, hs64⟩ := fldN_le hs
    obtain ⟨hf', ho, _⟩ := fld_ok hs
    rw [show ((s.toNat : Nat) : Int) = s by omega] at ho
    have hsa : 2 ≤ s := by omega
    have hsb : s ≤ 64 := by omega
    have ep := prime_call s ⟨hsa, hsb⟩ h1 _ ho
    have hm1 := hf'.m1
    have hm0 : ¬ (m' : Int) = 0 := by omega
    by_cases hpp : p' = p
    rotate_left
    · have hw : withP q s = [] := by unfold withP; rw [hs, hc]; simp [hpp]
      rw [hw]
      refine ⟨none, 0, h1, p1, .nil, ?_⟩
      rw [call_at T72 rfl]
      unfold F72 c72
      simp (disch := first | omega | (simp only [Go.Am.len_push, Go.Am.len_set, Go.Am.len_kill] <;> omega) | fail) only [push_cast, seval, ← eh1, dec_nlt hsa, dec_nlt hsb, ep, b1, dec_ne hpp]
    have q1 : (m : Int).tmod (m' : Int) = (m : Int) % (m' : Int) := Int.tmod_eq_emod_of_nonneg (by omega)
    by_cases hmm : m % m' = 0
    rotate_left
    · have hw : withP q s = [] := by unfold withP; rw [hs, hc, hd]; simp [hmm]
      have hmi : ¬ (m : Int) % (m' : Int) = 0 := by rw [← Int.natCast_emod]; omega
      rw [hw]
      refine ⟨none, 0, h1, p1, .nil, ?_⟩
      rw [call_at T72 rfl]
      unfold F72 c72
      simp (disch := first | omega | (simp only [Go.Am.len_push, Go.Am.len_set, Go.Am.len_kill] <;> omega) | fail) only [push_cast, seval, ← eh1, dec_nlt hsa, dec_nlt hsb, ep, b1, dec_eq hpp, dec_ne hm0, b2, hm0, q1, dec_ne hmi]
    have hw : withP q s = withN q s q.toNat 0 := by unfold withP; rw [hs, hc, hd]; simp [hmm, hpp]
    have hmi : (m : Int) % (m' : Int) = 0 := by rw [← Int.natCast_emod]; omega
    obtain ⟨sa, c, G, p2, hg, lo⟩ := rwith_loop (u.mono p1) r1 s hs hpp hmm q.toNat 0 [] none 0 h1 (by omega) (by simp) (List.prefix_refl _) .nil
    rw [List.nil_append] at hg lo
    rw [hw]
    refine ⟨sa, c, G, p1.trans p2, hg.rd, ?_⟩
    rw [call_at T72 rfl]
    unfold F72 c72
    rw [show ((0 : Nat) : Int) = 0 from rfl, List.length_nil] at lo
    simp (disch := first | omega | (simp only [Go.Am.len_push, Go.Am.len_set, Go.Am.len_kill] <;> omega) | fail) only [push_cast, seval, ← eh1, dec_nlt hsa, dec_nlt hsb, ep, b1, dec_eq hpp, dec_ne hm0, b2, hm0, q1, dec_eq hmi]
    rw [lo]
    simp (disch := first | omega | (simp only [Go.Am.len_push, Go.Am.len_set, Go.Am.len_kill] <;> omega) | fail) only [push_cast, seval]
end
end Go.Proofs.Ytammndhoillliaa
