/-
  Polynomials in plain lists: trimmed, added, multiplied; what of the fields' sums and products they need. Condition: a field.
  What poly.trim, Check and the document's Trim, PolyMay compute. Conditions: lists as memory tells them. What poly.both, times, Mul and Add compute. Conditions: lists as memory tells them. What poly.Add and lists.Curve compute. Conditions: lists as memory tells them.
  reed.Massey. Conditions: elements of a field of the table, few.
  reed.Massey, all of it. Conditions: elements of a field of the table, few.
  The document's Elements, Rules, Shortest. Conditions: elements of a field of the table, few.
  The document's Shortest; the law ReedRules. Conditions: elements of a field of the table, few.
  What the document's PolyMay computes. Conditions: lists as memory tells them.
  The document's sizes of fields. No condition.
  The laws ReedRules and ReedRulesMade. No condition.
-/
import Derived.Test.YtammndhoillliaaK3
import Derived.Test.YtammndhoillliaaK4
import Derived.Test.YtammndhoillliaaK1
namespace Go.Proofs.Ytammndhoillliaa
open Go.Am
set_option linter.unusedVariables false
set_option linter.unusedSimpArgs false

/-! ### sums and products -/
theorem addN_comm (p : Int) : ∀ (n : Nat) (a b : Int), addN p n a b = addN p n b a
  | 0, _, _ => rfl
  | n + 1, a, b => by simp only [addN]; rw [addN_comm p n, Int.add_comm (a % p)]
theorem addN_zero {p : Int} (hp : 2 ≤ p) : ∀ (n : Nat) (a : Int), 0 ≤ a → a < p ^ n → addN p n a 0 = a
  | 0, a, h0, h1 => by simp at h1; simp only [addN]; omega
  | n + 1, a, h0, h1 => by
    simp only [addN]
    have h2 : a / p < p ^ n := Int.ediv_lt_of_lt_mul (by omega) (by rwa [Int.pow_succ] at h1)
    rw [Int.zero_emod, Int.zero_ediv, Int.add_zero, Int.emod_emod, addN_zero hp n (a / p) (Int.ediv_nonneg h0 (by omega)) h2, Int.emod_add_mul_ediv]
theorem addN_in {p : Int} (hp : 2 ≤ p) : ∀ (n : Nat) (a b : Int), 0 ≤ addN p n a b ∧ addN p n a b < p ^ n
  | 0, a, b => by simp [addN]
  | n + 1, a, b => by
    obtain ⟨h1, h2⟩ := addN_in hp n (a / p) (b / p)
    simp only [addN]
    have h3 := Int.emod_nonneg (a % p + b % p) (show p ≠ 0 by omega)
    have h4 := Int.emod_lt_of_pos (a % p + b % p) (show 0 < p by omega)
    have h5 : p * addN p n (a / p) (b / p) ≤ p * (p ^ n - 1) := Int.mul_le_mul_of_nonneg_left (by omega) (by omega)
    have h6 : 0 ≤ p * addN p n (a / p) (b / p) := Int.mul_nonneg (by omega) h1
    rw [Int.pow_succ, Int.mul_comm (p ^ n) p]
    rw [Int.mul_sub, Int.mul_one] at h5
    omega
section
variable {q p g : Int} {m : Nat} {mod : List Int}
theorem fch_is (hn : fldN q.toNat = some (p, m, g, mod)) : fch q = p := by unfold fch; rw [hn]
theorem fdg_is (hn : fldN q.toNat = some (p, m, g, mod)) : fdg q = m := by unfold fdg; rw [hn]
theorem fld_pm (hn : fldN q.toNat = some (p, m, g, mod)) : 2 ≤ p ∧ p ^ m = q := by
  obtain ⟨h2, _⟩ := fldN_le hn
  have := (fld_ok hn).1
  rw [show ((q.toNat : Nat) : Int) = q by omega] at this
  exact ⟨this.p2, this.pm⟩
theorem fadd_comm (a b : Int) : fadd q a b = fadd q b a := by unfold fadd; rw [addN_comm, Bool.and_comm]
theorem fadd_ok (hn : fldN q.toNat = some (p, m, g, mod)) {a b : Int} (ha : fok q a = true) (hb : fok q b = true) : fok q (fadd q a b) = true := by
  unfold fadd
  rw [ha, hb, Bool.and_self, cond_true, fch_is hn, fdg_is hn, fok_iff]
  obtain ⟨h1, h2⟩ := fld_pm hn
  rw [← h2]
  exact addN_in h1 _ _ _
theorem fok_zero (hn : fldN q.toNat = some (p, m, g, mod)) : fok q 0 = true := by
  obtain ⟨h2, _⟩ := fldN_le hn
  rw [fok_iff]; omega
theorem fadd_zero (hn : fldN q.toNat = some (p, m, g, mod)) {a : Int} (ha : fok q a = true) : fadd q a 0 = a := by
  unfold fadd
  rw [ha, fok_zero hn, Bool.and_self, cond_true, fch_is hn, fdg_is hn]
  obtain ⟨h1, h2⟩ := fld_pm hn
  rw [fok_iff, ← h2] at ha
  exact addN_zero h1 m a ha.1 ha.2
theorem fmul_ok (hn : fldN q.toNat = some (p, m, g, mod)) {a b : Int} (ha : fok q a = true) (hb : fok q b = true) : fok q (fmul q a b) = true := by
  unfold fmul
  obtain ⟨h2, _⟩ := fldN_le hn
  rw [ha, hb, Bool.and_self, cond_true]
  cases h0 : (a == 0) || (b == 0) with
  | true => exact fok_zero hn
  | false =>
    have h3 := Int.emod_nonneg (flog q a + flog q b) (show q - 1 ≠ 0 by omega)
    have h4 := Int.emod_lt_of_pos (flog q a + flog q b) (show 0 < q - 1 by omega)
    have := (tabs_ok hn).er _ h3 h4
    rw [cond_false, fok_iff]; omega
theorem fmul_zero (hn : fldN q.toNat = some (p, m, g, mod)) {b : Int} (hb : fok q b = true) : fmul q 0 b = 0 := by
  unfold fmul
  rw [fok_zero hn, hb]; rfl
end

/-! ### lists of elements -/
def AllF (q : Int) (l : List Int) : Prop := ∀ v ∈ l, fok q v = true
theorem allF_gi {q : Int} {l : List Int} (h : AllF q l) {i : Nat} (hi : i < l.length) : fok q (gi l i) = true := h _ (gi_mem (by omega) (by omega))
theorem gi_out {l : List Int} {i : Nat} (h : l.length ≤ i) : gi l i = 0 := by
  unfold gi; rw [Int.toNat_natCast, List.getD_eq_getElem?_getD, List.getElem?_eq_none h]; rfl
theorem allF_gi0 {q p g : Int} {m : Nat} {mod : List Int} (hn : fldN q.toNat = some (p, m, g, mod)) {l : List Int} (h : AllF q l) (i : Nat) : fok q (gi l i) = true := by
  by_cases hi : i < l.length
  · exact allF_gi h hi
  · rw [gi_out (by omega)]; exact fok_zero hn
theorem gi_take {l : List Int} {n i : Nat} (h : i < n) : gi (l.take n) i = gi l i := by
  unfold gi; rw [List.getD_eq_getElem?_getD, List.getD_eq_getElem?_getD, Int.toNat_natCast, List.getElem?_take, if_pos h]
/-- how long without noughts at the end -/
def trimN (a : List Int) : Nat → Nat
  | 0 => 0
  | n + 1 => if gi a n = 0 then trimN a n else n + 1
def trimL (a : List Int) : List Int := a.take (trimN a a.length)
theorem trimN_le (a : List Int) : ∀ n, trimN a n ≤ n
  | 0 => Nat.le_refl _
  | n + 1 => by have := trimN_le a n; rw [trimN]; split <;> omega
theorem trimN_zero (a : List Int) : ∀ (n i : Nat), trimN a n ≤ i → i < n → gi a i = 0
  | 0, i, _, h => by omega
  | n + 1, i, h1, h2 => by
    rw [trimN] at h1
    split at h1
    · by_cases he : i = n
      · subst he; assumption
      · exact trimN_zero a n i h1 (by omega)
    · omega
theorem trimN_last (a : List Int) : ∀ n, trimN a n ≠ 0 → gi a ((trimN a n - 1 : Nat) : Int) ≠ 0
  | 0, h => absurd rfl h
  | n + 1, h => by
    rw [trimN] at h ⊢
    split
    · rename_i h0
      rw [if_pos h0] at h
      exact trimN_last a n h
    · rw [Nat.add_sub_cancel]; assumption
theorem trimL_len (a : List Int) : (trimL a).length = trimN a a.length := by
  unfold trimL; rw [List.length_take]; have := trimN_le a a.length; omega
theorem trimL_le (a : List Int) : (trimL a).length ≤ a.length := by rw [trimL_len]; exact trimN_le _ _
theorem trimL_gi (a : List Int) (i : Nat) : gi (trimL a) i = gi a i := by
  by_cases h : i < trimN a a.length
  · exact gi_take h
  · rw [gi_out (by rw [trimL_len]; omega)]
    by_cases h2 : i < a.length
    · exact (trimN_zero a a.length i (by omega) h2).symm
    · exact (gi_out (by omega)).symm
theorem trimL_all {q : Int} {a : List Int} (h : AllF q a) : AllF q (trimL a) := fun v hv => h v (List.mem_of_mem_take hv)
/-- trimmed: none at its end is 0 -/
def Trimmed (a : List Int) : Prop := a.length ≠ 0 → gi a ((a.length - 1 : Nat) : Int) ≠ 0
theorem trimL_trimmed (a : List Int) : Trimmed (trimL a) := by
  intro h
  rw [trimL_gi, trimL_len]
  rw [trimL_len] at h
  exact trimN_last a a.length h
theorem trimmed_eq {a b : List Int} (ha : Trimmed a) (hb : Trimmed b) (h : ∀ i : Nat, gi a i = gi b i) : a = b := by
  have key : ∀ {a b : List Int}, Trimmed a → (∀ i : Nat, gi a i = gi b i) → a.length ≤ b.length := by
    intro a b ha h
    by_cases hl : a.length ≤ b.length
    · exact hl
    · exact absurd (by rw [h, gi_out (by omega)]) (ha (by omega))
  exact gi_ext (Nat.le_antisymm (key ha h) (key hb fun i => (h i).symm)) fun i _ => h i
theorem trimL_id {a : List Int} (h : Trimmed a) : trimL a = a := trimmed_eq (trimL_trimmed a) h (trimL_gi a)
theorem trimL_congr {a b : List Int} (h : ∀ i : Nat, gi a i = gi b i) : trimL a = trimL b := trimmed_eq (trimL_trimmed a) (trimL_trimmed b) fun i => by rw [trimL_gi, trimL_gi, h]
theorem trim_nil : trimL [] = [] := rfl

/-! ### sums -/
def sumL (q : Int) (a b : List Int) : List Int := (List.range (max a.length b.length)).map fun i : Nat => fadd q (gi a i) (gi b i)
def paddL (q : Int) (a b : List Int) : List Int := trimL (sumL q a b)
theorem gi_map_range {f : Nat → Int} {n i : Nat} (hi : i < n) : gi ((List.range n).map f) i = f i := by
  unfold gi; rw [List.getD_eq_getElem?_getD, Int.toNat_natCast, List.getElem?_map, List.getElem?_range hi]; rfl
section
variable {q p g : Int} {m : Nat} {mod : List Int}
theorem sumL_gi (hn : fldN q.toNat = some (p, m, g, mod)) (a b : List Int) (i : Nat) : gi (sumL q a b) i = fadd q (gi a i) (gi b i) := by
  unfold sumL
  by_cases hi : i < max a.length b.length
  · exact gi_map_range hi
  · rw [gi_out (by simp; omega), gi_out (l := a) (by omega), gi_out (l := b) (by omega), fadd_zero hn (fok_zero hn)]
theorem sumL_all (hn : fldN q.toNat = some (p, m, g, mod)) {a b : List Int} (ha : AllF q a) (hb : AllF q b) : AllF q (sumL q a b) := by
  intro v hv
  obtain ⟨i, hi, rfl⟩ := List.mem_map.1 hv
  exact fadd_ok hn (allF_gi0 hn ha i) (allF_gi0 hn hb i)
theorem paddL_trim (hn : fldN q.toNat = some (p, m, g, mod)) (a b : List Int) : paddL q (trimL a) (trimL b) = paddL q a b := by
  unfold paddL
  exact trimL_congr fun i => by rw [sumL_gi hn, sumL_gi hn, trimL_gi, trimL_gi]
theorem paddL_comm (a b : List Int) : paddL q a b = paddL q b a := by
  unfold paddL sumL
  rw [Nat.max_comm]
  congr 1
  exact List.map_congr_left fun i _ => fadd_comm _ _
theorem paddL_all (hn : fldN q.toNat = some (p, m, g, mod)) {a b : List Int} (ha : AllF q a) (hb : AllF q b) : AllF q (paddL q a b) := trimL_all (sumL_all hn ha hb)
theorem paddL_len (a b : List Int) : (paddL q a b).length ≤ max a.length b.length := by
  have := trimL_le (sumL q a b)
  unfold paddL
  simp only [sumL, List.length_map, List.length_range] at this ⊢
  omega
end

/-! ### products -/
/-- one number's row, from the k-th on -/
def rowM (q v : Int) (b : List Int) (i : Nat) : Nat → Nat → List Int → List Int
  | 0, _, out => out
  | n + 1, k, out => rowM q v b i n (k + 1) (out.set (i + k) (fadd q (gi out ((i + k : Nat) : Int)) (fmul q v (gi b k))))
def mulM (q : Int) (a b : List Int) : Nat → Nat → List Int → List Int
  | 0, _, out => out
  | n + 1, i, out => mulM q a b n (i + 1) (rowM q (gi a i) b i b.length 0 out)
def pmulL (q : Int) (a b : List Int) : List Int := if a.length = 0 ∨ b.length = 0 then [] else trimL (mulM q a b a.length 0 (List.replicate (a.length + b.length - 1) 0))
theorem rowM_len (q v : Int) (b : List Int) (i : Nat) : ∀ (n k : Nat) (out : List Int), (rowM q v b i n k out).length = out.length
  | 0, _, _ => rfl
  | n + 1, k, out => by rw [rowM, rowM_len q v b i n]; simp
theorem mulM_len (q : Int) (a b : List Int) : ∀ (n i : Nat) (out : List Int), (mulM q a b n i out).length = out.length
  | 0, _, _ => rfl
  | n + 1, i, out => by rw [mulM, mulM_len q a b n, rowM_len]
section
variable {q p g : Int} {m : Nat} {mod : List Int}
theorem allF_set {l : List Int} (h : AllF q l) {k : Nat} {v : Int} (hv : fok q v = true) : AllF q (l.set k v) := by
  intro x hx
  rcases List.mem_or_eq_of_mem_set hx with h1 | rfl
  · exact h x h1
  · exact hv
theorem rowM_all (hn : fldN q.toNat = some (p, m, g, mod)) {v : Int} (hv : fok q v = true) {b : List Int} (hb : AllF q b) (i : Nat) : ∀ (n k : Nat) (out : List Int), AllF q out → AllF q (rowM q v b i n k out)
  | 0, _, _, h => h
  | n + 1, k, out, h => by
    rw [rowM]
    exact rowM_all hn hv hb i n (k + 1) _ (allF_set h (fadd_ok hn (allF_gi0 hn h _) (fmul_ok hn hv (allF_gi0 hn hb k))))
theorem mulM_all (hn : fldN q.toNat = some (p, m, g, mod)) {a b : List Int} (ha : AllF q a) (hb : AllF q b) : ∀ (n i : Nat) (out : List Int), AllF q out → AllF q (mulM q a b n i out)
  | 0, _, _, h => h
  | n + 1, i, out, h => by
    rw [mulM]
    exact mulM_all hn ha hb n (i + 1) _ (rowM_all hn (allF_gi0 hn ha i) hb i _ _ _ h)
theorem allF_zeros (hn : fldN q.toNat = some (p, m, g, mod)) (n : Nat) : AllF q (List.replicate n 0) := fun v hv => by rw [List.eq_of_mem_replicate hv]; exact fok_zero hn
theorem pmulL_all (hn : fldN q.toNat = some (p, m, g, mod)) {a b : List Int} (ha : AllF q a) (hb : AllF q b) : AllF q (pmulL q a b) := by
  unfold pmulL
  split
  · intro v hv; cases hv
  · exact trimL_all (mulM_all hn ha hb _ _ _ (allF_zeros hn _))
theorem pmulL_len (a b : List Int) : (pmulL q a b).length ≤ a.length + b.length - 1 := by
  unfold pmulL
  split
  · simp
  · have := trimL_le (mulM q a b a.length 0 (List.replicate (a.length + b.length - 1) 0))
    rw [mulM_len, List.length_replicate] at this
    exact this
theorem set_same {l : List Int} {i : Nat} (hi : i < l.length) : l.set i (gi l i) = l := by
  rw [gi_nat hi]; exact List.set_getElem_self hi
/-- a nought's row changes nothing -/
theorem rowM_zero (hn : fldN q.toNat = some (p, m, g, mod)) {b : List Int} (hb : AllF q b) (i : Nat) : ∀ (n k : Nat) (out : List Int), k + n = b.length → i + b.length ≤ out.length → AllF q out → rowM q 0 b i n k out = out
  | 0, _, _, _, _, _ => rfl
  | n + 1, k, out, hk, hl, h => by
    rw [rowM, fmul_zero hn (allF_gi0 hn hb k), fadd_zero hn (allF_gi0 hn h _), set_same (by omega)]
    exact rowM_zero hn hb i n (k + 1) out (by omega) hl h
end

/-! ### may it be? -/
def pokE (q : Int) (a : List Int) : Int := match fldN q.toNat with
  | none => 1
  | some _ => if 128 < a.length then 4 else if (a.any fun v => !fok q v) = true then 2 else 0
theorem pokE_ok {q : Int} {a : List Int} (h : pokE q a = 0) : (∃ x, fldN q.toNat = some x) ∧ a.length ≤ 128 ∧ AllF q a := by
  unfold pokE at h
  split at h
  · cases h
  · rename_i x hx
    split at h
    · cases h
    · split at h
      · cases h
      · rename_i h1 h2
        refine ⟨⟨x, hx⟩, by omega, fun v hv => ?_⟩
        rw [Bool.not_eq_true, List.any_eq_false] at h2
        have := h2 v hv
        simpa using this
theorem pokE_mk {q : Int} {a : List Int} {x} (hx : fldN q.toNat = some x) (hl : a.length ≤ 128) (ha : AllF q a) : pokE q a = 0 := by
  unfold pokE
  rw [hx]
  simp only
  rw [if_neg (by omega), if_neg]
  rw [Bool.not_eq_true, List.any_eq_false]
  intro v hv
  simp [ha v hv]
/-- a polynomial of polynomials, from the last on -/
def curN (q : Int) (y : List Int) : List (List Int) → List Int → Int × List Int
  | [], s => (0, s)
  | c :: r, s => if s.length ≠ 0 ∧ y.length ≠ 0 ∧ 128 < s.length + y.length - 1 then (4, []) else if pokE q c = 0 then curN q y r (paddL q (pmulL q s y) c) else (pokE q c, [])
def curP (q : Int) (a : List (List Int)) (y : List Int) : Int × List Int := if pokE q y = 0 then (if 64 < a.length then (4, []) else curN q (trimL y) a.reverse []) else (pokE q y, [])
end Go.Proofs.Ytammndhoillliaa
namespace Go.Proofs.Ytammndhoillliaa
open Go.Am
set_option linter.unusedVariables false
set_option linter.unusedSimpArgs false
set_option maxRecDepth 30000

section
variable {h : H} {sa : Option Addr} {c : Nat} {l : List Int}
theorem sl_pre (hr : RdI h sa c l) : (if (c : Int) = 0 then sa else Option.map (fun a => (⟨a.block, a.off, none⟩ : Addr)) sa) = sa := by
  rcases hr with ⟨rfl, _⟩ | ⟨_, o, off, r, rfl, _⟩
  · split <;> rfl
  · split <;> rfl
theorem sl_ok (hr : RdI h sa c l) {n : Nat} (hn : n ≤ l.length) : (0 : Int) ≤ 0 ∧ (0 : Int) ≤ (n : Int) ∧ (n : Int) ≤ (c : Int) ∧ unitOk h 1 sa = true := by
  have hc : l.length ≤ c := by
    rcases hr with ⟨_, rfl, rfl⟩ | ⟨h1, _⟩
    · simp
    · exact h1
  exact ⟨by omega, by omega, by omega, hr.unit⟩
/-- a clone, nil where it was nil -/
theorem clone2_call (hr : RdI h sa c l) (hl : l.length ≤ 1000000) : ∃ (s' : Option Addr) (c' : Nat) (h' : H), h <+: h' ∧ Grown h' s' c' l h.length ∧ call T 98 [.slice sa l.length c] h = some (.slice s' l.length c', h') := by
  cases sa with
  | none =>
    have hl0 : l = [] ∧ c = 0 := by
      rcases hr with ⟨_, h1, h2⟩ | ⟨_, o, off, r, h1, _⟩
      · exact ⟨h2, h1⟩
      · cases h1
    obtain ⟨rfl, rfl⟩ := hl0
    refine ⟨none, 0, h, List.prefix_refl _, .nil, ?_⟩
    rw [call_at T98 rfl]
    unfold F98 c98
    simp (disch := first | omega | (simp only [Go.Am.len_push, Go.Am.len_set, Go.Am.len_kill] <;> omega) | fail) only [push_cast, seval]
  | some x =>
    obtain ⟨o, off, rfl⟩ : ∃ o off, x = ⟨o, off, none⟩ := by
      rcases hr with ⟨h1, _⟩ | ⟨_, o, off, r, h1, _⟩
      · cases h1
      · cases h1; exact ⟨o, off, rfl⟩
    have hs := (hr.mono (List.prefix_append h [.row ⟨[], 3, 1, true⟩])).src
    have e : aapp 3 1 8 (h ++ [.row ⟨[], 3, 1, true⟩]) (.slice (some ⟨h.length, 0, none⟩) 0 0) (.slice (some ⟨o, off, none⟩) l.length c) = some (.slice (some ⟨h.length + 1, 0, none⟩) l.length l.length, kill (h ++ [.row ⟨[], 3, 1, true⟩]) h.length ++ [.row ⟨ints l, 3, 1, true⟩]) := by
      unfold aapp
      simp only [hs, row_push_new]
      rw [if_pos (by simp [few]; omega), len_push, Nat.zero_add]
      rfl
    refine ⟨some ⟨h.length + 1, 0, none⟩, l.length, kill (h ++ [.row ⟨[], 3, 1, true⟩]) h.length ++ [.row ⟨ints l, 3, 1, true⟩], pre_push (pre_kill (List.prefix_append _ _) (Nat.le_refl _)), .inr ⟨h.length + 1, rfl, by omega, rfl, front_row⟩, ?_⟩
    rw [call_at T98 rfl]
    unfold F98 c98
    simp (disch := first | omega | (simp only [Go.Am.len_push, Go.Am.len_set, Go.Am.len_kill] <;> omega) | fail) only [push_cast, seval, e]

/-! ### trim -/
theorem ptrim_loop (hr : RdI h sa c l) (hl : l.length ≤ 1000000) : ∀ (n : Nat), n ≤ l.length → ∀ ks,
    goL T [.tmp 2] [0, 3] c160L0 (.blk 0 [0, 3] :: ks) [(0, .slice sa l.length c), (3, .int .i64 n)] h = go T [.tmp 2] ks (Fr.of [(0, .slice sa l.length c), (3, .int .i64 (trimN l n : Nat))]) h
  | 0, hn, ks => by
    rw [goL_at c160L0.eq_def, trimN]
    simp (disch := first | omega | (simp only [Go.Am.len_push, Go.Am.len_set, Go.Am.len_kill] <;> omega) | fail) only [push_cast, seval, wrap64, dec_lt, dec_nlt, dec_le, dec_nle, dec_eq, dec_ne, if_pos, if_neg, Int.natCast_add, Int.natCast_one, Int.natCast_zero, Int.toNat_natCast]
  | n + 1, hn, ks => by
    have ih := ptrim_loop hr hl n (by omega) ks
    obtain ⟨o, off, rfl, _, l1⟩ := hr.at (i := n) (by omega)
    have w1 : IntKind.wrap .i64 (((n + 1 : Nat) : Int) - 1) = (n : Int) := by rw [wrap64 (by omega) (by omega)]; omega
    rw [Int.natCast_add, Int.natCast_one] at w1
    rw [goL_at c160L0.eq_def, trimN]
    by_cases h0 : gi l n = 0
    · rw [if_pos h0, ← ih]
      simp (disch := first | omega | (simp only [Go.Am.len_push, Go.Am.len_set, Go.Am.len_kill] <;> omega) | fail) only [push_cast, seval, wrap64, dec_lt, dec_nlt, dec_le, dec_nle, dec_eq, dec_ne, if_pos, if_neg, Int.natCast_add, Int.natCast_one, Int.natCast_zero, Int.toNat_natCast, w1, l1]
    · rw [if_neg h0]
      simp (disch := first | omega | (simp only [Go.Am.len_push, Go.Am.len_set, Go.Am.len_kill] <;> omega) | fail) only [push_cast, seval, wrap64, dec_lt, dec_nlt, dec_le, dec_nle, dec_eq, dec_ne, if_pos, if_neg, Int.natCast_add, Int.natCast_one, Int.natCast_zero, Int.toNat_natCast, w1, l1, dec_ne h0]
theorem ptrim_call (hr : RdI h sa c l) (hl : l.length ≤ 1000000) : ∃ (s' : Option Addr) (c' : Nat) (h' : H), h <+: h' ∧ Grown h' s' c' (trimL l) h.length ∧
    call T 160 [.slice sa l.length c] h = some (.slice s' (trimL l).length c', h') := by
  have hsub := hr.sub (trimN l l.length)
  have hle := trimN_le l l.length
  obtain ⟨s', c', h', k1, k2, e1⟩ := clone2_call hsub (by rw [List.length_take]; omega)
  have hlen : (l.take (trimN l l.length)).length = trimN l l.length := trimL_len l
  rw [hlen] at e1
  have hlen2 : (trimL l).length = trimN l l.length := trimL_len l
  rw [hlen2]
  refine ⟨s', c', h', k1, k2, ?_⟩
  have e2 := fun ks => ptrim_loop hr hl l.length (Nat.le_refl _) ks
  have hp := sl_pre hr
  have ho := sl_ok hr hle
  rw [call_at T160 rfl]
  unfold F160 c160
  simp (disch := first | omega | (simp only [Go.Am.len_push, Go.Am.len_set, Go.Am.len_kill] <;> omega) | fail) only [push_cast, seval]
  rw [e2]
  simp (disch := first | omega | (simp only [Go.Am.len_push, Go.Am.len_set, Go.Am.len_kill] <;> omega) | fail) only [push_cast, seval, ho, ho.2.2.2, hp, Int.sub_zero, Int.toNat_natCast, e1]
theorem rtrim_loop (hr : RdI h sa c l) (hl : l.length ≤ 1000000) : ∀ (n : Nat), n ≤ l.length → ∀ ks,
    goL T [.tmp 2] [0, 3] c132L0 (.blk 0 [0, 3] :: ks) [(0, .slice sa l.length c), (3, .int .i64 n)] h = go T [.tmp 2] ks (Fr.of [(0, .slice sa l.length c), (3, .int .i64 (trimN l n : Nat))]) h
  | 0, hn, ks => by
    rw [goL_at c132L0.eq_def, trimN]
    simp (disch := first | omega | (simp only [Go.Am.len_push, Go.Am.len_set, Go.Am.len_kill] <;> omega) | fail) only [push_cast, seval, wrap64, dec_lt, dec_nlt, dec_le, dec_nle, dec_eq, dec_ne, if_pos, if_neg, Int.natCast_add, Int.natCast_one, Int.natCast_zero, Int.toNat_natCast]
  | n + 1, hn, ks => by
    have ih := rtrim_loop hr hl n (by omega) ks
    obtain ⟨o, off, rfl, _, l1⟩ := hr.at (i := n) (by omega)
    have w1 : IntKind.wrap .i64 (((n + 1 : Nat) : Int) - 1) = (n : Int) := by rw [wrap64 (by omega) (by omega)]; omega
    rw [Int.natCast_add, Int.natCast_one] at w1
    rw [goL_at c132L0.eq_def, trimN]
    by_cases h0 : gi l n = 0
    · rw [if_pos h0, ← ih]
      simp (disch := first | omega | (simp only [Go.Am.len_push, Go.Am.len_set, Go.Am.len_kill] <;> omega) | fail) only [push_cast, seval, wrap64, dec_lt, dec_nlt, dec_le, dec_nle, dec_eq, dec_ne, if_pos, if_neg, Int.natCast_add, Int.natCast_one, Int.natCast_zero, Int.toNat_natCast, w1, l1]
    · rw [if_neg h0]
      simp (disch := first | omega | (simp only [Go.Am.len_push, Go.Am.len_set, Go.Am.len_kill] <;> omega) | fail) only [push_cast, seval, wrap64, dec_lt, dec_nlt, dec_le, dec_nle, dec_eq, dec_ne, if_pos, if_neg, Int.natCast_add, Int.natCast_one, Int.natCast_zero, Int.toNat_natCast, w1, l1, dec_ne h0]
theorem rtrim_call (hr : RdI h sa c l) (hl : l.length ≤ 1000000) : ∃ (o : Nat) (h' : H), Fresh h h' o (trimL l) ∧
    call T 132 [.slice sa l.length c] h = some (.slice (some ⟨o, 0, none⟩) (trimL l).length (trimL l).length, h') := by
  have hsub := hr.sub (trimN l l.length)
  have hle := trimN_le l l.length
  obtain ⟨o, h', k1, e1⟩ := copy_call hsub (by rw [List.length_take]; omega)
  have hlen : (l.take (trimN l l.length)).length = trimN l l.length := trimL_len l
  rw [hlen] at e1
  have hlen2 : (trimL l).length = trimN l l.length := trimL_len l
  rw [hlen2]
  refine ⟨o, h', k1, ?_⟩
  have e2 := fun ks => rtrim_loop hr hl l.length (Nat.le_refl _) ks
  have hp := sl_pre hr
  have ho := sl_ok hr hle
  rw [call_at T132 rfl]
  unfold F132 c132
  simp (disch := first | omega | (simp only [Go.Am.len_push, Go.Am.len_set, Go.Am.len_kill] <;> omega) | fail) only [push_cast, seval]
  rw [e2]
  simp (disch := first | omega | (simp only [Go.Am.len_push, Go.Am.len_set, Go.Am.len_kill] <;> omega) | fail) only [push_cast, seval, ho, ho.2.2.2, hp, Int.sub_zero, Int.toNat_natCast, e1]

/-! ### may it be? -/
section
variable {q p g : Int} {m : Nat} {mod : List Int} {F E L om fm cm : Nat}
theorem pchk2_loop (u : PUse h F q p m g mod E L om fm cm) (hr : RdI h sa c l) (hl : l.length ≤ 1000000) : ∀ (n i : Nat), i + n = l.length → ∀ ks,
    goL T [.tmp 4] [5, 20, 21, 22] c129L0 (.blk 0 [] :: ks) [(5, .pointer (some ⟨F, 0, none⟩)), (20, .slice sa l.length c), (21, .int .i64 l.length), (22, .int .i64 i)] h =
      if anyF (fun v => !fok q v) l n i = true then some (.int .i64 2, h) else go T [.tmp 4] ks (Fr.of []) h
  | 0, i, hi, ks => by
    rw [goL_at c129L0.eq_def, anyF, if_neg (by decide)]
    simp (disch := first | omega | (simp only [Go.Am.len_push, Go.Am.len_set, Go.Am.len_kill] <;> omega) | fail) only [push_cast, seval, wrap64, dec_lt, dec_nlt, dec_le, dec_nle, dec_eq, dec_ne, if_pos, if_neg, Int.natCast_add, Int.natCast_one, Int.natCast_zero, Int.toNat_natCast]
  | n + 1, i, hi, ks => by
    have ih := pchk2_loop u hr hl n (i + 1) (by omega) ks
    obtain ⟨o, off, rfl, _, l1⟩ := hr.at (i := i) (by omega)
    have e1 := phas_call u (gi l i)
    rw [Int.natCast_add, Int.natCast_one] at ih
    rw [goL_at c129L0.eq_def, anyF]
    cases hk : fok q (gi l i) with
    | true =>
      rw [hk] at e1
      rw [Bool.not_true, Bool.false_or, ← ih]
      simp (disch := first | omega | (simp only [Go.Am.len_push, Go.Am.len_set, Go.Am.len_kill] <;> omega) | fail) only [push_cast, seval, wrap64, dec_lt, dec_nlt, dec_le, dec_nle, dec_eq, dec_ne, if_pos, if_neg, Int.natCast_add, Int.natCast_one, Int.natCast_zero, Int.toNat_natCast, l1, e1]
    | false =>
      rw [hk] at e1
      rw [Bool.not_false, Bool.true_or, if_pos rfl]
      simp (disch := first | omega | (simp only [Go.Am.len_push, Go.Am.len_set, Go.Am.len_kill] <;> omega) | fail) only [push_cast, seval, wrap64, dec_lt, dec_nlt, dec_le, dec_nle, dec_eq, dec_ne, if_pos, if_neg, Int.natCast_add, Int.natCast_one, Int.natCast_zero, Int.toNat_natCast, l1, e1]
end
theorem pcheck2_call (q : Int) (hr : RdI h sa c l) (hl : l.length ≤ 9223372036854775807) : ∃ h' : H, h <+: h' ∧ call T 129 [.int .i64 q, .slice sa l.length c] h = some (.int .i64 (pokE q l), h') := by
  unfold pokE
  cases hq : fldN q.toNat with
  | none =>
    obtain ⟨h1, p1, e1⟩ := new_none q hq h
    refine ⟨h1, p1, ?_⟩
    rw [call_at T129 rfl]
    unfold F129 c129
    simp (disch := first | omega | (simp only [Go.Am.len_push, Go.Am.len_set, Go.Am.len_kill] <;> omega) | fail) only [push_cast, seval, wrap64, dec_lt, dec_nlt, dec_le, dec_nle, dec_eq, dec_ne, if_pos, if_neg, Int.natCast_add, Int.natCast_one, Int.natCast_zero, Int.toNat_natCast, e1]
  | some x =>
    obtain ⟨p, m, g, mod⟩ := x
    obtain ⟨h1, F, p1, hp, e1⟩ := new_some q hq h
    obtain ⟨E, L, om, fm, cm, u⟩ := hp.use hq
    refine ⟨h1, p1, ?_⟩
    simp only
    by_cases h128 : 128 < l.length
    · rw [if_pos h128, call_at T129 rfl]
      unfold F129 c129
      simp (disch := first | omega | (simp only [Go.Am.len_push, Go.Am.len_set, Go.Am.len_kill] <;> omega) | fail) only [push_cast, seval, wrap64, dec_lt, dec_nlt, dec_le, dec_nle, dec_eq, dec_ne, if_pos, if_neg, Int.natCast_add, Int.natCast_one, Int.natCast_zero, Int.toNat_natCast, e1]
    · rw [if_neg h128]
      have e2 := fun ks => pchk2_loop u (hr.mono p1) (by omega) l.length 0 (by omega) ks
      rw [anyF_all] at e2
      simp only [Int.natCast_zero] at e2
      rw [call_at T129 rfl]
      unfold F129 c129
      simp (disch := first | omega | (simp only [Go.Am.len_push, Go.Am.len_set, Go.Am.len_kill] <;> omega) | fail) only [push_cast, seval, wrap64, dec_lt, dec_nlt, dec_le, dec_nle, dec_eq, dec_ne, if_pos, if_neg, Int.natCast_add, Int.natCast_one, Int.natCast_zero, Int.toNat_natCast, e1]
      rw [e2]
      cases ha : l.any fun v => !fok q v with
      | true => rw [if_pos rfl, if_pos rfl]
      | false => rw [if_neg (by decide), if_neg (by decide)]; simp (disch := first | omega | (simp only [Go.Am.len_push, Go.Am.len_set, Go.Am.len_kill] <;> omega) | fail) only [push_cast, seval]
end
end Go.Proofs.Ytammndhoillliaa
namespace Go.Proofs.Ytammndhoillliaa
open Go.Am
set_option linter.unusedVariables false
set_option linter.unusedSimpArgs false
set_option maxRecDepth 30000

def bothE (q : Int) (a b : List Int) : Int := if pokE q a = 0 then pokE q b else pokE q a
section
variable {h : H} {sa sb : Option Addr} {ca cb : Nat} {a b : List Int} {q : Int}
theorem pboth_bad (ha : RdI h sa ca a) (hb : RdI h sb cb b) (hla : a.length ≤ 9223372036854775807) (hlb : b.length ≤ 9223372036854775807) (he : ¬ bothE q a b = 0) : ∃ h' : H, h <+: h' ∧
    call T 158 [.int .i64 q, .slice sa a.length ca, .slice sb b.length cb] h = some (.tuple #[.pointer none, .slice none 0 0, .slice none 0 0, .int .i64 (bothE q a b)], h') := by
  unfold bothE at he ⊢
  obtain ⟨h1, p1, e1⟩ := pcheck2_call q ha hla
  by_cases h0 : pokE q a = 0
  · rw [if_pos h0] at he ⊢
    obtain ⟨h2, p2, e2⟩ := pcheck2_call q (hb.mono p1) hlb
    rw [h0] at e1
    refine ⟨h2, p1.trans p2, ?_⟩
    rw [call_at T158 rfl]
    unfold F158 c158
    simp (disch := first | omega | (simp only [Go.Am.len_push, Go.Am.len_set, Go.Am.len_kill] <;> omega) | fail) only [push_cast, seval, wrap64, dec_lt, dec_nlt, dec_le, dec_nle, dec_eq, dec_ne, if_pos, if_neg, Int.natCast_add, Int.natCast_one, Int.natCast_zero, Int.toNat_natCast, e1, e2, dec_ne he]
  · rw [if_neg h0] at he ⊢
    refine ⟨h1, p1, ?_⟩
    rw [call_at T158 rfl]
    unfold F158 c158
    simp (disch := first | omega | (simp only [Go.Am.len_push, Go.Am.len_set, Go.Am.len_kill] <;> omega) | fail) only [push_cast, seval, wrap64, dec_lt, dec_nlt, dec_le, dec_nle, dec_eq, dec_ne, if_pos, if_neg, Int.natCast_add, Int.natCast_one, Int.natCast_zero, Int.toNat_natCast, e1, dec_ne he]
theorem bothE_ok {q : Int} {a b : List Int} (h : bothE q a b = 0) : pokE q a = 0 ∧ pokE q b = 0 := by
  unfold bothE at h
  split at h
  · exact ⟨by assumption, h⟩
  · contradiction
theorem grown_block {h : H} {s : Option Addr} {c lo : Nat} {zs : List Int} (hg : Grown h s c zs lo) {x : Addr} (hx : s = some x) : lo ≤ x.block ∧ x.block < h.length ∧ x = ⟨x.block, 0, none⟩ := by
  rcases hg with ⟨rfl, _⟩ | ⟨o, rfl, h1, h2, h3⟩
  · cases hx
  · cases hx; exact ⟨h1, row_some_lt h3, rfl⟩
theorem _root_.Go.Am.Grown.mono {h h' : H} {s : Option Addr} {c lo : Nat} {zs : List Int} (hg : Grown h s c zs lo) (hp : h <+: h') : Grown h' s c zs lo := hg.carry fun o _ ho => row_prefix hp ho
theorem _root_.Go.Am.Grown.low {h : H} {s : Option Addr} {c lo lo' : Nat} {zs : List Int} (hg : Grown h s c zs lo) (hl : lo' ≤ lo) : Grown h s c zs lo' := by
  rcases hg with h1 | ⟨o, h1, h2, h3, h4⟩
  · exact .inl h1
  · exact .inr ⟨o, h1, by omega, h3, h4⟩
theorem pboth_ok {p g : Int} {m : Nat} {mod : List Int} (hn : fldN q.toNat = some (p, m, g, mod)) (ha : RdI h sa ca a) (hb : RdI h sb cb b) (ea : pokE q a = 0) (eb : pokE q b = 0) : ∃ (hF : H) (F : Nat) (s1 s2 : Option Addr) (c1 c2 : Nat) (h' : H),
    h <+: hF ∧ hF <+: h' ∧ PFld hF F q p m g mod ∧ Grown h' s1 c1 (trimL a) hF.length ∧ Grown h' s2 c2 (trimL b) hF.length ∧ (∀ x y, s1 = some x → s2 = some y → x.block ≠ y.block) ∧
    call T 158 [.int .i64 q, .slice sa a.length ca, .slice sb b.length cb] h = some (.tuple #[.pointer (some ⟨F, 0, none⟩), .slice s1 (trimL a).length c1, .slice s2 (trimL b).length c2, .int .i64 0], h') := by
  obtain ⟨_, la, _⟩ := pokE_ok ea
  obtain ⟨_, lb, _⟩ := pokE_ok eb
  obtain ⟨h1, p1, e1⟩ := pcheck2_call q ha (by omega)
  obtain ⟨h2, p2, e2⟩ := pcheck2_call q (hb.mono p1) (by omega)
  obtain ⟨h3, F, p3, hF, e3⟩ := new_some q hn h2
  obtain ⟨s1, c1, h4, p4, g1, e4⟩ := ptrim_call (ha.mono (p1.trans (p2.trans p3))) (by omega)
  obtain ⟨s2, c2, h5, p5, g2, e5⟩ := ptrim_call (hb.mono (p1.trans (p2.trans (p3.trans p4)))) (by omega)
  rw [ea] at e1
  rw [eb] at e2
  refine ⟨h3, F, s1, s2, c1, c2, h5, p1.trans (p2.trans p3), p4.trans p5, hF, g1.mono p5, g2.low p4.length_le, fun x y hx hy => ?_, ?_⟩
  · have := grown_block g1 hx
    have := grown_block g2 hy
    omega
  · rw [call_at T158 rfl]
    unfold F158 c158
    simp (disch := first | omega | (simp only [Go.Am.len_push, Go.Am.len_set, Go.Am.len_kill] <;> omega) | fail) only [push_cast, seval, wrap64, dec_lt, dec_nlt, dec_le, dec_nle, dec_eq, dec_ne, if_pos, if_neg, Int.natCast_add, Int.natCast_one, Int.natCast_zero, Int.toNat_natCast, e1, e2, e3, e4, e5]
end

/-! ### products -/
section
variable {hF : H} {q p g : Int} {m : Nat} {mod : List Int} {F : Nat} {sb : Option Addr} {cb : Nat} {b : List Int}
theorem ptimes_in (hn : fldN q.toNat = some (p, m, g, mod)) (hf : FOk q p m mod) (hp : PFld hF F q p m g mod) (hb : RdI hF sb cb b) (hlb : b.length ≤ 128) {N : Nat} (hN : N ≤ 1000) (v : Int) {i : Nat} (hi : i + b.length ≤ N) {o : Nat} (ho : hF.length ≤ o) (V27 V28 V29 : Value) : ∀ (n k : Nat) (out : List Int) (G : H), k + n = b.length → out.length = N → hF <+: G → G.row o = some ⟨ints out, 3, 1, true⟩ →
    ∃ G' : H, hF <+: G' ∧ G'.row o = some ⟨ints (rowM q v b i n k out), 3, 1, true⟩ ∧ ∀ ks,
      goL T [.tmp 6] [0, 2, 7, 8, 9, 27, 28, 29, 34, 35, 36] c159L0 (.blk 2 [0, 2, 7, 27, 28, 29] :: ks) [(0, .pointer (some ⟨F, 0, none⟩)), (2, .slice sb b.length cb), (7, .slice (some ⟨o, 0, none⟩) N N), (8, .int .i64 i), (9, .int .i64 v), (27, V27), (28, V28), (29, V29), (34, .slice sb b.length cb), (35, .int .i64 b.length), (36, .int .i64 k)] G =
        go T [.tmp 6] ks (Fr.of [(0, .pointer (some ⟨F, 0, none⟩)), (2, .slice sb b.length cb), (7, .slice (some ⟨o, 0, none⟩) N N), (27, V27), (28, V28), (29, V29)]) G'
  | 0, k, out, G, hk, hl, hpr, ro => by
    refine ⟨G, hpr, ro, fun ks => ?_⟩
    rw [goL_at c159L0.eq_def]
    simp (disch := first | omega | (simp only [Go.Am.len_push, Go.Am.len_set, Go.Am.len_kill] <;> omega) | fail) only [push_cast, seval, wrap64, dec_lt, dec_nlt, dec_le, dec_nle, dec_eq, dec_ne, if_pos, if_neg, Int.natCast_add, Int.natCast_one, Int.natCast_zero, Int.toNat_natCast]
  | n + 1, k, out, G, hk, hl, hpr, ro => by
    have IH := ptimes_in hn hf hp hb hlb hN v hi ho V27 V28 V29 n
    obtain ⟨E, L, om, fm, cm, u⟩ := (hp.mono hpr).use hn
    obtain ⟨ob, offb, rfl, _, l1⟩ := (hb.mono hpr).at (i := k) (by omega)
    have l2 := ld1_int ro (i := ((i + k : Nat) : Int)) (by omega) (by omega)
    rw [Int.toNat_natCast] at l2
    have e1 := pmul_call hn u v (gi b k)
    have e2 := padd_call hn u hf (gi out ((i + k : Nat) : Int)) (fmul q v (gi b k))
    have es := sts_int ro (i := ((i + k : Nat) : Int)) (v := fadd q (gi out ((i + k : Nat) : Int)) (fmul q v (gi b k))) (by omega) (by omega)
    rw [Int.toNat_natCast] at es
    obtain ⟨G1, eG1⟩ : ∃ G1 : H, G1 = G.set o (.row ⟨ints (out.set (i + k) (fadd q (gi out ((i + k : Nat) : Int)) (fmul q v (gi b k)))), 3, 1, true⟩) := ⟨_, rfl⟩
    rw [← eG1] at es
    have p1 : hF <+: G1 := by rw [eG1]; exact pre_set hpr ho
    have r1 : G1.row o = some ⟨ints (out.set (i + k) (fadd q (gi out ((i + k : Nat) : Int)) (fmul q v (gi b k)))), 3, 1, true⟩ := by rw [eG1]; exact row_set_same (row_some_lt ro)
    obtain ⟨G', k1, k2, k3⟩ := IH (k + 1) _ G1 (by omega) (by simpa using hl) p1 r1
    refine ⟨G', k1, k2, fun ks => ?_⟩
    have ih := k3 ks
    rw [Int.natCast_add, Int.natCast_one] at ih
    have hik : ((i : Int) + (k : Int)).toNat = i + k := by omega
    rw [Int.natCast_add] at l2 e2 es
    rw [goL_at c159L0.eq_def, ← ih]
    simp (disch := first | omega | (simp only [Go.Am.len_push, Go.Am.len_set, Go.Am.len_kill] <;> omega) | fail) only [push_cast, seval, wrap64, dec_lt, dec_nlt, dec_le, dec_nle, dec_eq, dec_ne, if_pos, if_neg, Int.natCast_add, Int.natCast_one, Int.natCast_zero, Int.toNat_natCast, l1, l2, e1, e2, es, hik]
theorem ptimes_out (hn : fldN q.toNat = some (p, m, g, mod)) (hf : FOk q p m mod) (hp : PFld hF F q p m g mod) {sa : Option Addr} {ca : Nat} {a : List Int} (ha : RdI hF sa ca a) (hla : a.length ≤ 128) (hb : RdI hF sb cb b) (hlb : b.length ≤ 128) {N : Nat} (hN : N + 1 = a.length + b.length) {o : Nat} (ho : hF.length ≤ o) : ∀ (n i : Nat) (out : List Int) (G : H), i + n = a.length → out.length = N → hF <+: G → G.row o = some ⟨ints out, 3, 1, true⟩ →
    ∃ G' : H, hF <+: G' ∧ G'.row o = some ⟨ints (mulM q a b n i out), 3, 1, true⟩ ∧ ∀ ks,
      goL T [.tmp 6] [0, 2, 7, 27, 28, 29] c159L1 (.blk 0 [7] :: ks) [(0, .pointer (some ⟨F, 0, none⟩)), (2, .slice sb b.length cb), (7, .slice (some ⟨o, 0, none⟩) N N), (27, .slice sa a.length ca), (28, .int .i64 a.length), (29, .int .i64 i)] G =
        go T [.tmp 6] ks (Fr.of [(7, .slice (some ⟨o, 0, none⟩) N N)]) G'
  | 0, i, out, G, hk, hl, hpr, ro => by
    refine ⟨G, hpr, ro, fun ks => ?_⟩
    rw [goL_at c159L1.eq_def]
    simp (disch := first | omega | (simp only [Go.Am.len_push, Go.Am.len_set, Go.Am.len_kill] <;> omega) | fail) only [push_cast, seval, wrap64, dec_lt, dec_nlt, dec_le, dec_nle, dec_eq, dec_ne, if_pos, if_neg, Int.natCast_add, Int.natCast_one, Int.natCast_zero, Int.toNat_natCast]
  | n + 1, i, out, G, hk, hl, hpr, ro => by
    have IH := ptimes_out hn hf hp ha hla hb hlb hN ho n
    obtain ⟨oa, offa, rfl, _, l1⟩ := (ha.mono hpr).at (i := i) (by omega)
    obtain ⟨G1, j1, j2, j3⟩ := ptimes_in hn hf hp hb hlb (N := N) (by omega) (gi a i) (i := i) (by omega) ho (.slice (some ⟨oa, offa, none⟩) a.length ca) (.int .i64 a.length) (.int .i64 i) b.length 0 out G (by omega) hl hpr ro
    simp only [Int.natCast_zero] at j3
    obtain ⟨G', k1, k2, k3⟩ := IH (i + 1) (rowM q (gi a i) b i b.length 0 out) G1 (by omega) (by rw [rowM_len]; exact hl) j1 j2
    refine ⟨G', k1, k2, fun ks => ?_⟩
    have ih := k3 ks
    rw [Int.natCast_add, Int.natCast_one] at ih
    rw [goL_at c159L1.eq_def, ← ih]
    simp (disch := first | omega | (simp only [Go.Am.len_push, Go.Am.len_set, Go.Am.len_kill] <;> omega) | fail) only [push_cast, seval, wrap64, dec_lt, dec_nlt, dec_le, dec_nle, dec_eq, dec_ne, if_pos, if_neg, Int.natCast_add, Int.natCast_one, Int.natCast_zero, Int.toNat_natCast, l1]
    rw [j3]
    simp (disch := first | omega | (simp only [Go.Am.len_push, Go.Am.len_set, Go.Am.len_kill] <;> omega) | fail) only [push_cast, seval, wrap64]
theorem ptimes_call {h : H} (hn : fldN q.toNat = some (p, m, g, mod)) (hp : PFld h F q p m g mod) {sa : Option Addr} {ca : Nat} {a : List Int} (ha : RdI h sa ca a) (hla : a.length ≤ 128) (hb : RdI h sb cb b) (hlb : b.length ≤ 128) : ∃ (s : Option Addr) (c : Nat) (h' : H), h <+: h' ∧ Grown h' s c (pmulL q a b) h.length ∧
    call T 159 [.pointer (some ⟨F, 0, none⟩), .slice sa a.length ca, .slice sb b.length cb] h = some (.slice s (pmulL q a b).length c, h') := by
  have hf : FOk q p m mod := by
    obtain ⟨h2, _⟩ := fldN_le hn
    have := (fld_ok hn).1
    rwa [show ((q.toNat : Nat) : Int) = q by omega] at this
  unfold pmulL
  by_cases ha0 : a.length = 0
  · rw [if_pos (.inl ha0)]
    refine ⟨none, 0, h, List.prefix_refl _, .nil, ?_⟩
    have ha0' : (a.length : Int) = 0 := by omega
    rw [call_at T159 rfl]
    unfold F159 c159
    simp (disch := first | omega | (simp only [Go.Am.len_push, Go.Am.len_set, Go.Am.len_kill] <;> omega) | fail) only [push_cast, seval, wrap64, dec_lt, dec_nlt, dec_le, dec_nle, dec_eq, dec_ne, if_pos, if_neg, Int.natCast_add, Int.natCast_one, Int.natCast_zero, Int.toNat_natCast, List.length_nil]
  · by_cases hb0 : b.length = 0
    · rw [if_pos (.inr hb0)]
      refine ⟨none, 0, h, List.prefix_refl _, .nil, ?_⟩
      rw [call_at T159 rfl]
      unfold F159 c159
      simp (disch := first | omega | (simp only [Go.Am.len_push, Go.Am.len_set, Go.Am.len_kill] <;> omega) | fail) only [push_cast, seval, wrap64, dec_lt, dec_nlt, dec_le, dec_nle, dec_eq, dec_ne, if_pos, if_neg, Int.natCast_add, Int.natCast_one, Int.natCast_zero, Int.toNat_natCast, List.length_nil]
    · rw [if_neg (by omega)]
      obtain ⟨N, hN⟩ : ∃ N : Nat, N = a.length + b.length - 1 := ⟨_, rfl⟩
      rw [← hN]
      obtain ⟨G1, eG1⟩ : ∃ G1 : H, G1 = h ++ [.row ⟨ints (List.replicate N 0), 3, 1, true⟩] := ⟨_, rfl⟩
      have r1 : G1.row h.length = some ⟨ints (List.replicate N 0), 3, 1, true⟩ := by rw [eG1]; exact row_push_new
      have p1 : h <+: G1 := by rw [eG1]; exact List.prefix_append _ _
      obtain ⟨G2, k1, k2, k3⟩ := ptimes_out hn hf hp ha hla hb hlb (N := N) (by omega) (o := h.length) (Nat.le_refl _) a.length 0 (List.replicate N 0) G1 (by omega) (by simp) p1 r1
      simp only [Int.natCast_zero] at k3
      have hml : (mulM q a b a.length 0 (List.replicate N 0)).length = N := by rw [mulM_len]; simp
      have hrd : RdI G2 (some ⟨h.length, 0, none⟩) N (mulM q a b a.length 0 (List.replicate N 0)) := by have := RdI.ofRow k2 rfl; rwa [hml] at this
      obtain ⟨s', c', G3, p3, g3, e3⟩ := ptrim_call hrd (by omega)
      rw [hml] at e3
      refine ⟨s', c', G3, k1.trans p3, g3.low k1.length_le, ?_⟩
      have hr0 : rep [.int .i64 0] N = ints (List.replicate N 0) := rep_int _ _
      have hNi : (a.length : Int) + (b.length : Int) - 1 = (N : Int) := by omega
      rw [call_at T159 rfl]
      unfold F159 c159
      simp (disch := first | omega | (simp only [Go.Am.len_push, Go.Am.len_set, Go.Am.len_kill] <;> omega) | fail) only [push_cast, seval, wrap64, dec_lt, dec_nlt, dec_le, dec_nle, dec_eq, dec_ne, if_pos, if_neg, Int.natCast_add, Int.natCast_one, Int.natCast_zero, Int.toNat_natCast, hNi, hr0, ← eG1]
      rw [k3]
      simp (disch := first | omega | (simp only [Go.Am.len_push, Go.Am.len_set, Go.Am.len_kill] <;> omega) | fail) only [push_cast, seval, e3]
end

def mulE (q : Int) (a b : List Int) : Int := if bothE q a b = 0 then (if (trimL a).length ≠ 0 ∧ (trimL b).length ≠ 0 ∧ 128 < (trimL a).length + (trimL b).length - 1 then 4 else 0) else bothE q a b
def mulV (q : Int) (a b : List Int) : List Int := if mulE q a b = 0 then pmulL q (trimL a) (trimL b) else []
theorem mulE_ok {q : Int} {a b : List Int} (h : mulE q a b = 0) : bothE q a b = 0 ∧ ((trimL a).length = 0 ∨ (trimL b).length = 0 ∨ (trimL a).length + (trimL b).length - 1 ≤ 128) := by
  unfold mulE at h
  split at h
  · split at h
    · cases h
    · exact ⟨by assumption, by omega⟩
  · contradiction
section
variable {h : H} {sa sb : Option Addr} {ca cb : Nat} {a b : List Int} {q : Int}
theorem pmul2_call (ha : RdI h sa ca a) (hb : RdI h sb cb b) (hla : a.length ≤ 9223372036854775807) (hlb : b.length ≤ 9223372036854775807) : ∃ (s : Option Addr) (c : Nat) (h' : H), h <+: h' ∧ Grown h' s c (mulV q a b) h.length ∧
    call T 130 [.int .i64 q, .slice sa a.length ca, .slice sb b.length cb] h = some (.tuple #[.slice s (mulV q a b).length c, .int .i64 (mulE q a b)], h') := by
  by_cases he : bothE q a b = 0
  rotate_left
  · obtain ⟨h1, p1, e1⟩ := pboth_bad ha hb hla hlb he
    have hE : mulE q a b = bothE q a b := by unfold mulE; rw [if_neg he]
    have hV : mulV q a b = [] := by unfold mulV; rw [hE, if_neg he]
    rw [hE, hV]
    refine ⟨none, 0, h1, p1, .nil, ?_⟩
    rw [call_at T130 rfl]
    unfold F130 c130
    simp (disch := first | omega | (simp only [Go.Am.len_push, Go.Am.len_set, Go.Am.len_kill] <;> omega) | fail) only [push_cast, seval, wrap64, dec_lt, dec_nlt, dec_le, dec_nle, dec_eq, dec_ne, if_pos, if_neg, Int.natCast_add, Int.natCast_one, Int.natCast_zero, Int.toNat_natCast, e1, dec_ne he, List.length_nil]
  obtain ⟨ea, eb⟩ := bothE_ok he
  obtain ⟨⟨x, hx⟩, la, _⟩ := pokE_ok ea
  obtain ⟨_, lb, _⟩ := pokE_ok eb
  obtain ⟨p, m, g, mod⟩ := x
  obtain ⟨hF, F, s1, s2, c1, c2, h1, p0, p1, hp, g1, g2, _, e1⟩ := pboth_ok hx ha hb ea eb
  have l1 := trimL_le a
  have l2 := trimL_le b
  by_cases ha0 : (trimL a).length = 0
  · have hE : mulE q a b = 0 := by unfold mulE; rw [if_pos he, if_neg (by omega)]
    have hV : mulV q a b = [] := by unfold mulV pmulL; rw [if_pos hE, if_pos (.inl ha0)]
    rw [hE, hV]
    refine ⟨none, 0, h1, p0.trans p1, .nil, ?_⟩
    rw [call_at T130 rfl]
    unfold F130 c130
    simp (disch := first | omega | (simp only [Go.Am.len_push, Go.Am.len_set, Go.Am.len_kill] <;> omega) | fail) only [push_cast, seval, wrap64, dec_lt, dec_nlt, dec_le, dec_nle, dec_eq, dec_ne, if_pos, if_neg, Int.natCast_add, Int.natCast_one, Int.natCast_zero, Int.toNat_natCast, e1, List.length_nil]
  · by_cases hb0 : (trimL b).length = 0
    · have hE : mulE q a b = 0 := by unfold mulE; rw [if_pos he, if_neg (by omega)]
      have hV : mulV q a b = [] := by unfold mulV pmulL; rw [if_pos hE, if_pos (.inr hb0)]
      rw [hE, hV]
      refine ⟨none, 0, h1, p0.trans p1, .nil, ?_⟩
      rw [call_at T130 rfl]
      unfold F130 c130
      simp (disch := first | omega | (simp only [Go.Am.len_push, Go.Am.len_set, Go.Am.len_kill] <;> omega) | fail) only [push_cast, seval, wrap64, dec_lt, dec_nlt, dec_le, dec_nle, dec_eq, dec_ne, if_pos, if_neg, Int.natCast_add, Int.natCast_one, Int.natCast_zero, Int.toNat_natCast, e1, List.length_nil]
    · by_cases h128 : 128 < (trimL a).length + (trimL b).length - 1
      · have hE : mulE q a b = 4 := by unfold mulE; rw [if_pos he, if_pos ⟨ha0, hb0, h128⟩]
        have hV : mulV q a b = [] := by unfold mulV; rw [hE, if_neg (by decide)]
        rw [hE, hV]
        refine ⟨none, 0, h1, p0.trans p1, .nil, ?_⟩
        rw [call_at T130 rfl]
        unfold F130 c130
        simp (disch := first | omega | (simp only [Go.Am.len_push, Go.Am.len_set, Go.Am.len_kill] <;> omega) | fail) only [push_cast, seval, wrap64, dec_lt, dec_nlt, dec_le, dec_nle, dec_eq, dec_ne, if_pos, if_neg, Int.natCast_add, Int.natCast_one, Int.natCast_zero, Int.toNat_natCast, e1, List.length_nil]
      · have hE : mulE q a b = 0 := by unfold mulE; rw [if_pos he, if_neg (by omega)]
        have hV : mulV q a b = pmulL q (trimL a) (trimL b) := by unfold mulV; rw [if_pos hE]
        obtain ⟨s, c, h2, p2, g3, e2⟩ := ptimes_call hx (hp.mono p1) g1.rd (by omega) g2.rd (by omega)
        rw [hE, hV]
        refine ⟨s, c, h2, p0.trans (p1.trans p2), g3.low (by have := (p0.trans p1).length_le; omega), ?_⟩
        rw [call_at T130 rfl]
        unfold F130 c130
        simp (disch := first | omega | (simp only [Go.Am.len_push, Go.Am.len_set, Go.Am.len_kill] <;> omega) | fail) only [push_cast, seval, wrap64, dec_lt, dec_nlt, dec_le, dec_nle, dec_eq, dec_ne, if_pos, if_neg, Int.natCast_add, Int.natCast_one, Int.natCast_zero, Int.toNat_natCast, e1, e2]
end
end Go.Proofs.Ytammndhoillliaa
namespace Go.Proofs.Ytammndhoillliaa
open Go.Am
set_option linter.unusedVariables false
set_option linter.unusedSimpArgs false
set_option maxRecDepth 30000

def addR (q : Int) (b : List Int) : Nat → Nat → List Int → List Int
  | 0, _, a => a
  | n + 1, i, a => addR q b n (i + 1) (a.set i (fadd q (gi a i) (gi b i)))
theorem addR_len (q : Int) (b : List Int) : ∀ (n i : Nat) (a : List Int), (addR q b n i a).length = a.length
  | 0, _, _ => rfl
  | n + 1, i, a => by rw [addR, addR_len q b n]; simp
theorem addR_gi (q : Int) (b : List Int) : ∀ (n i : Nat) (a : List Int), i + n = b.length → b.length ≤ a.length → ∀ j : Nat, gi (addR q b n i a) j = if i ≤ j ∧ j < b.length then fadd q (gi a j) (gi b j) else gi a j
  | 0, i, a, hi, hl, j => by rw [addR, if_neg (by omega)]
  | n + 1, i, a, hi, hl, j => by
    rw [addR, addR_gi q b n (i + 1) _ (by omega) (by simpa using hl) j, gi_set (by omega)]
    by_cases h1 : i = j
    · subst h1
      rw [if_neg (by omega), if_pos rfl, if_pos ⟨Nat.le_refl _, by omega⟩]
    · by_cases h2 : i + 1 ≤ j ∧ j < b.length
      · rw [if_pos h2, if_neg h1, if_pos ⟨by omega, h2.2⟩]
      · rw [if_neg h2, if_neg h1, if_neg (by omega)]
section
variable {q p g : Int} {m : Nat} {mod : List Int}
theorem addR_eq (hn : fldN q.toNat = some (p, m, g, mod)) {a b : List Int} (ha : AllF q a) (hl : b.length ≤ a.length) : trimL (addR q b b.length 0 a) = paddL q a b := by
  unfold paddL
  refine trimL_congr fun i => ?_
  rw [addR_gi q b b.length 0 a (by omega) hl, sumL_gi hn]
  by_cases hi : i < b.length
  · rw [if_pos ⟨by omega, hi⟩]
  · rw [if_neg (by omega), gi_out (l := b) (by omega), fadd_zero hn (allF_gi0 hn ha i)]
variable {hF : H} {F : Nat}
theorem padd_in (hn : fldN q.toNat = some (p, m, g, mod)) (hf : FOk q p m mod) (hp : PFld hF F q p m g mod) {b : List Int} {o o2 N : Nat} (hN : N ≤ 1000) (hb : b.length ≤ N) (hne : o ≠ o2) (ho : hF.length ≤ o) : ∀ (n i : Nat) (a : List Int) (G : H), i + n = b.length → a.length = N → hF <+: G → G.row o = some ⟨ints a, 3, 1, true⟩ → G.row o2 = some ⟨ints b, 3, 1, true⟩ →
    ∃ G' : H, hF <+: G' ∧ G'.row o = some ⟨ints (addR q b n i a), 3, 1, true⟩ ∧ ∀ ks,
      goL T [.tmp 6, .tmp 7] [1, 8, 31, 32, 33] c131L0 (.blk 0 [1] :: ks) [(1, .slice (some ⟨o, 0, none⟩) N N), (8, .pointer (some ⟨F, 0, none⟩)), (31, .slice (some ⟨o2, 0, none⟩) b.length b.length), (32, .int .i64 b.length), (33, .int .i64 i)] G =
        go T [.tmp 6, .tmp 7] ks (Fr.of [(1, .slice (some ⟨o, 0, none⟩) N N)]) G'
  | 0, i, a, G, hi, hl, hpr, r1, r2 => by
    refine ⟨G, hpr, r1, fun ks => ?_⟩
    rw [goL_at c131L0.eq_def]
    simp (disch := first | omega | (simp only [Go.Am.len_push, Go.Am.len_set, Go.Am.len_kill] <;> omega) | fail) only [push_cast, seval, wrap64, dec_lt, dec_nlt, dec_le, dec_nle, dec_eq, dec_ne, if_pos, if_neg, Int.natCast_add, Int.natCast_one, Int.natCast_zero, Int.toNat_natCast]
  | n + 1, i, a, G, hi, hl, hpr, r1, r2 => by
    obtain ⟨E, L, om, fm, cm, u⟩ := (hp.mono hpr).use hn
    have l1 := ld1_int r1 (i := (i : Int)) (by omega) (by omega)
    have l2 := ld1_int r2 (i := (i : Int)) (by omega) (by omega)
    rw [Int.toNat_natCast] at l1 l2
    have e1 := padd_call hn u hf (gi a i) (gi b i)
    have es := sts_int r1 (i := (i : Int)) (v := fadd q (gi a i) (gi b i)) (by omega) (by omega)
    rw [Int.toNat_natCast] at es
    obtain ⟨G1, eG1⟩ : ∃ G1 : H, G1 = G.set o (.row ⟨ints (a.set i (fadd q (gi a i) (gi b i))), 3, 1, true⟩) := ⟨_, rfl⟩
    rw [← eG1] at es
    have p1 : hF <+: G1 := by rw [eG1]; exact pre_set hpr ho
    have r1' : G1.row o = some ⟨ints (a.set i (fadd q (gi a i) (gi b i))), 3, 1, true⟩ := by rw [eG1]; exact row_set_same (row_some_lt r1)
    have r2' : G1.row o2 = some ⟨ints b, 3, 1, true⟩ := by rw [eG1, row_set_other hne]; exact r2
    obtain ⟨G', k1, k2, k3⟩ := padd_in hn hf hp hN hb hne ho n (i + 1) _ G1 (by omega) (by simpa using hl) p1 r1' r2'
    refine ⟨G', k1, k2, fun ks => ?_⟩
    have ih := k3 ks
    rw [Int.natCast_add, Int.natCast_one] at ih
    rw [goL_at c131L0.eq_def, ← ih]
    simp (disch := first | omega | (simp only [Go.Am.len_push, Go.Am.len_set, Go.Am.len_kill] <;> omega) | fail) only [push_cast, seval, wrap64, dec_lt, dec_nlt, dec_le, dec_nle, dec_eq, dec_ne, if_pos, if_neg, Int.natCast_add, Int.natCast_one, Int.natCast_zero, Int.toNat_natCast, l1, l2, e1, es]
/-- from where both are made on: the greater takes the less -/
theorem padd_tail (hn : fldN q.toNat = some (p, m, g, mod)) (hp : PFld hF F q p m g mod) {a b : List Int} (ha : AllF q a) (hla : a.length ≤ 128) (hl : b.length ≤ a.length) {h1 : H} (p1 : hF <+: h1) {s1 s2 : Option Addr} {c1 c2 : Nat} (g1 : Grown h1 s1 c1 a hF.length) (g2 : Grown h1 s2 c2 b hF.length) (hd : ∀ x y, s1 = some x → s2 = some y → x.block ≠ y.block) :
    ∃ (s : Option Addr) (c : Nat) (G h' : H), hF <+: G ∧ G <+: h' ∧ Grown h' s c (paddL q a b) hF.length ∧ call T 160 [.slice s1 a.length c1] G = some (.slice s (paddL q a b).length c, h') ∧ ∀ ks,
      goL T [.tmp 6, .tmp 7] [1, 8, 31, 32, 33] c131L0 (.blk 0 [1] :: ks) [(1, .slice s1 a.length c1), (8, .pointer (some ⟨F, 0, none⟩)), (31, .slice s2 b.length c2), (32, .int .i64 b.length), (33, .int .i64 0)] h1 =
        go T [.tmp 6, .tmp 7] ks (Fr.of [(1, .slice s1 a.length c1)]) G := by
  have hf : FOk q p m mod := by
    obtain ⟨h2, _⟩ := fldN_le hn
    have := (fld_ok hn).1
    rwa [show ((q.toNat : Nat) : Int) = q by omega] at this
  by_cases hb0 : b.length = 0
  · have hbn : b = [] := List.eq_nil_of_length_eq_zero hb0
    subst hbn
    obtain ⟨s, c, h', k1, k2, k3⟩ := ptrim_call g1.rd (by omega)
    have hpa : paddL q a [] = trimL a := by rw [← addR_eq hn ha (by simp)]; rfl
    rw [hpa]
    refine ⟨s, c, h1, h', p1, k1, k2.low p1.length_le, k3, fun ks => ?_⟩
    rw [goL_at c131L0.eq_def]
    simp (disch := first | omega | (simp only [Go.Am.len_push, Go.Am.len_set, Go.Am.len_kill] <;> omega) | fail) only [push_cast, seval, wrap64, dec_lt, dec_nlt, dec_le, dec_nle, dec_eq, dec_ne, if_pos, if_neg, Int.natCast_add, Int.natCast_one, Int.natCast_zero, Int.toNat_natCast, List.length_nil]
  · rcases g2 with ⟨_, _, rfl⟩ | ⟨o2, rfl, ho2, rfl, r2⟩
    · exact absurd rfl hb0
    rcases g1 with ⟨_, _, rfl⟩ | ⟨o1, rfl, ho1, rfl, r1⟩
    · exact absurd (by simpa using hl) hb0
    obtain ⟨G, k1, k2, k3⟩ := padd_in hn hf hp (N := a.length) (by omega) hl (hd _ _ rfl rfl) ho1 b.length 0 a h1 (by omega) rfl p1 r1 r2
    simp only [Int.natCast_zero] at k3
    have hal := addR_len q b b.length 0 a
    have hrd : RdI G (some ⟨o1, 0, none⟩) a.length (addR q b b.length 0 a) := by have := RdI.ofRow k2 rfl; rwa [hal] at this
    obtain ⟨s, c, h', j1, j2, j3⟩ := ptrim_call hrd (by omega)
    rw [addR_eq hn ha hl] at j2 j3
    rw [hal] at j3
    exact ⟨s, c, G, h', k1, j1, j2.low k1.length_le, j3, k3⟩
end
def addV (q : Int) (a b : List Int) : List Int := if bothE q a b = 0 then paddL q a b else []
section
variable {h : H} {sa sb : Option Addr} {ca cb : Nat} {a b : List Int} {q : Int}
theorem padd2_call (ha : RdI h sa ca a) (hb : RdI h sb cb b) (hla : a.length ≤ 9223372036854775807) (hlb : b.length ≤ 9223372036854775807) : ∃ (s : Option Addr) (c : Nat) (h' : H), h <+: h' ∧ Grown h' s c (addV q a b) h.length ∧
    call T 131 [.int .i64 q, .slice sa a.length ca, .slice sb b.length cb] h = some (.tuple #[.slice s (addV q a b).length c, .int .i64 (bothE q a b)], h') := by
  by_cases he : bothE q a b = 0
  rotate_left
  · obtain ⟨h1, p1, e1⟩ := pboth_bad ha hb hla hlb he
    have hV : addV q a b = [] := by unfold addV; rw [if_neg he]
    rw [hV]
    refine ⟨none, 0, h1, p1, .nil, ?_⟩
    rw [call_at T131 rfl]
    unfold F131 c131
    simp (disch := first | omega | (simp only [Go.Am.len_push, Go.Am.len_set, Go.Am.len_kill] <;> omega) | fail) only [push_cast, seval, wrap64, dec_lt, dec_nlt, dec_le, dec_nle, dec_eq, dec_ne, if_pos, if_neg, Int.natCast_add, Int.natCast_one, Int.natCast_zero, Int.toNat_natCast, e1, dec_ne he, List.length_nil]
  obtain ⟨ea, eb⟩ := bothE_ok he
  obtain ⟨⟨x, hx⟩, la, fa⟩ := pokE_ok ea
  obtain ⟨_, lb, fb⟩ := pokE_ok eb
  obtain ⟨p, m, g, mod⟩ := x
  obtain ⟨hF, F, s1, s2, c1, c2, h1, p0, p1, hp, g1, g2, hd, e1⟩ := pboth_ok hx ha hb ea eb
  have l1 := trimL_le a
  have l2 := trimL_le b
  have hV : addV q a b = paddL q (trimL a) (trimL b) := by unfold addV; rw [if_pos he, paddL_trim hx]
  rw [hV, he]
  by_cases hlt : (trimL a).length < (trimL b).length
  · obtain ⟨s, c, G, h', q1, q2, q3, q4, q5⟩ := padd_tail hx hp (trimL_all fb) (by omega) (Nat.le_of_lt hlt) p1 g2 g1 (fun x y hx hy => (hd y x hy hx).symm)
    rw [paddL_comm]
    refine ⟨s, c, h', p0.trans (q1.trans q2), q3.low p0.length_le, ?_⟩
    rw [call_at T131 rfl]
    unfold F131 c131
    simp (disch := first | omega | (simp only [Go.Am.len_push, Go.Am.len_set, Go.Am.len_kill] <;> omega) | fail) only [push_cast, seval, wrap64, dec_lt, dec_nlt, dec_le, dec_nle, dec_eq, dec_ne, if_pos, if_neg, Int.natCast_add, Int.natCast_one, Int.natCast_zero, Int.toNat_natCast, e1]
    rw [q5]
    simp (disch := first | omega | (simp only [Go.Am.len_push, Go.Am.len_set, Go.Am.len_kill] <;> omega) | fail) only [push_cast, seval, q4]
  · obtain ⟨s, c, G, h', q1, q2, q3, q4, q5⟩ := padd_tail hx hp (trimL_all fa) (by omega) (by omega) p1 g1 g2 hd
    refine ⟨s, c, h', p0.trans (q1.trans q2), q3.low p0.length_le, ?_⟩
    rw [call_at T131 rfl]
    unfold F131 c131
    simp (disch := first | omega | (simp only [Go.Am.len_push, Go.Am.len_set, Go.Am.len_kill] <;> omega) | fail) only [push_cast, seval, wrap64, dec_lt, dec_nlt, dec_le, dec_nle, dec_eq, dec_ne, if_pos, if_neg, Int.natCast_add, Int.natCast_one, Int.natCast_zero, Int.toNat_natCast, e1]
    rw [q5]
    simp (disch := first | omega | (simp only [Go.Am.len_push, Go.Am.len_set, Go.Am.len_kill] <;> omega) | fail) only [push_cast, seval, q4]
end

/-! ### lists.Curve -/
theorem paddL_trimmed (q : Int) (a b : List Int) : Trimmed (paddL q a b) := trimL_trimmed _
section
variable {h0 : H} {sa sy : Option Addr} {C cy : Nat} {cs : List (List Int)} {y : List Int} {q : Int}
theorem take_rev {α : Type} {l : List α} {j : Nat} {x : α} (h : l[j]? = some x) : (l.take (j + 1)).reverse = x :: (l.take j).reverse := by
  obtain ⟨hj, he⟩ := List.getElem?_eq_some_iff.1 h
  rw [List.take_succ_eq_append_getElem hj, List.reverse_append, he]; rfl
theorem pcurve_loop (hr : RdLL h0 sa C cs) (hl2 : ∀ c ∈ cs, c.length ≤ 9223372036854775807) (hcs : cs.length ≤ 64) (hy : RdI h0 sy cy y) (ey : pokE q y = 0) : ∀ (j : Nat) (s : List Int) (ss : Option Addr) (cc : Nat) (G : H), j ≤ cs.length → pokE q s = 0 → Trimmed s → RdI G ss cc s → h0 <+: G →
    ∃ (s' : Option Addr) (c' : Nat) (G' : H), h0 <+: G' ∧ RdI G' s' c' (curN q (trimL y) (cs.take j).reverse s).2 ∧ ∀ ks,
      goL T [.tmp 6, .tmp 7] [0, 1, 2, 9, 10] c74L0 (.blk 0 [9] :: ks) [(0, .int .i64 q), (1, .slice sa cs.length C), (2, .slice sy y.length cy), (9, .slice ss s.length cc), (10, .int .i64 ((j : Int) - 1))] G =
        if (curN q (trimL y) (cs.take j).reverse s).1 = 0 then go T [.tmp 6, .tmp 7] ks (Fr.of [(9, .slice s' (curN q (trimL y) (cs.take j).reverse s).2.length c')]) G'
        else some (.tuple #[.slice none 0 0, .int .i64 (curN q (trimL y) (cs.take j).reverse s).1], G')
  | 0, s, ss, cc, G, hj, es, ts, hs, hp => by
    refine ⟨ss, cc, G, hp, hs, fun ks => ?_⟩
    have hc : curN q (trimL y) (cs.take 0).reverse s = (0, s) := rfl
    rw [goL_at c74L0.eq_def, hc, if_pos rfl]
    simp (disch := first | omega | (simp only [Go.Am.len_push, Go.Am.len_set, Go.Am.len_kill] <;> omega) | fail) only [push_cast, seval, wrap64, dec_lt, dec_nlt, dec_le, dec_nle, dec_eq, dec_ne, if_pos, if_neg, Int.natCast_add, Int.natCast_one, Int.natCast_zero, Int.toNat_natCast]
  | j + 1, s, ss, cc, G, hj, es, ts, hs, hp => by
    have IH := pcurve_loop hr hl2 hcs hy ey j
    obtain ⟨c, hc⟩ := at_some (l := cs) (i := j) (by omega)
    have hcl := hl2 c (List.mem_of_getElem? hc)
    obtain ⟨⟨x, hx⟩, ls, fs⟩ := pokE_ok es
    obtain ⟨_, ly, fy⟩ := pokE_ok ey
    obtain ⟨p, m, g, mod⟩ := x
    obtain ⟨o, a, c', rfl, l1, hra⟩ := (hr.mono hp).at hc
    obtain ⟨s1, c1, G1, p1, g1, e1⟩ := pmul2_call (q := q) hs (hy.mono hp) (by omega) (by omega)
    have hj1 : ((j + 1 : Nat) : Int) - 1 = (j : Int) := by omega
    have hbe : bothE q s y = 0 := by unfold bothE; rw [if_pos es, ey]
    have hts := trimL_id ts
    have htr := take_rev hc
    rw [htr]
    by_cases h128 : s.length ≠ 0 ∧ (trimL y).length ≠ 0 ∧ 128 < s.length + (trimL y).length - 1
    · have hcu : curN q (trimL y) (c :: (cs.take j).reverse) s = (4, []) := by rw [curN, if_pos h128]
      have hmE : mulE q s y = 4 := by unfold mulE; rw [if_pos hbe, hts, if_pos h128]
      rw [hcu]
      refine ⟨none, 0, G1, hp.trans p1, .nil, fun ks => ?_⟩
      rw [hmE] at e1
      rw [if_neg (show ¬ (4 : Int) = 0 by decide), hj1, goL_at c74L0.eq_def]
      simp (disch := first | omega | (simp only [Go.Am.len_push, Go.Am.len_set, Go.Am.len_kill] <;> omega) | fail) only [push_cast, seval, wrap64, dec_lt, dec_nlt, dec_le, dec_nle, dec_eq, dec_ne, if_pos, if_neg, Int.natCast_add, Int.natCast_one, Int.natCast_zero, Int.toNat_natCast, e1]
    · have hmE : mulE q s y = 0 := by unfold mulE; rw [if_pos hbe, hts, if_neg h128]
      have hmV : mulV q s y = pmulL q s (trimL y) := by unfold mulV; rw [if_pos hmE, hts]
      rw [hmE, hmV] at e1
      rw [hmV] at g1
      have hml := pmulL_len (q := q) s (trimL y)
      have hml2 : (pmulL q s (trimL y)).length ≤ 128 := by
        by_cases h0 : s.length = 0 ∨ (trimL y).length = 0
        · unfold pmulL; rw [if_pos h0]; simp
        · omega
      have fm := pmulL_all hx fs (trimL_all fy)
      have em := pokE_mk hx hml2 fm
      obtain ⟨s2, c2, G2, p2, g2, e2⟩ := padd2_call (q := q) g1.rd (hra.mono p1) (by omega) hcl
      have hbe2 : bothE q (pmulL q s (trimL y)) c = pokE q c := by unfold bothE; rw [if_pos em]
      by_cases hpc : pokE q c = 0
      · have hcu : curN q (trimL y) (c :: (cs.take j).reverse) s = curN q (trimL y) (cs.take j).reverse (paddL q (pmulL q s (trimL y)) c) := by rw [curN, if_neg h128, if_pos hpc]
        have hV : addV q (pmulL q s (trimL y)) c = paddL q (pmulL q s (trimL y)) c := by unfold addV; rw [hbe2, if_pos hpc]
        obtain ⟨_, lc, fc⟩ := pokE_ok hpc
        have hal := paddL_len (q := q) (pmulL q s (trimL y)) c
        obtain ⟨s3, c3, G3, k1, k2, k3⟩ := IH (paddL q (pmulL q s (trimL y)) c) s2 c2 G2 (by omega) (pokE_mk hx (by omega) (paddL_all hx fm fc)) (paddL_trimmed _ _ _) (by rw [← hV]; exact g2.rd) (hp.trans (p1.trans p2))
        rw [hcu]
        refine ⟨s3, c3, G3, k1, k2, fun ks => ?_⟩
        rw [hbe2, hpc, hV] at e2
        rw [hj1, goL_at c74L0.eq_def, ← k3 ks]
        have l1' := ld1_pre l1 p1
        simp (disch := first | omega | (simp only [Go.Am.len_push, Go.Am.len_set, Go.Am.len_kill] <;> omega) | fail) only [push_cast, seval, wrap64, dec_lt, dec_nlt, dec_le, dec_nle, dec_eq, dec_ne, if_pos, if_neg, Int.natCast_add, Int.natCast_one, Int.natCast_zero, Int.toNat_natCast, e1, l1', e2]
      · have hcu : curN q (trimL y) (c :: (cs.take j).reverse) s = (pokE q c, []) := by rw [curN, if_neg h128, if_neg hpc]
        rw [hcu]
        refine ⟨none, 0, G2, hp.trans (p1.trans p2), .nil, fun ks => ?_⟩
        rw [hbe2] at e2
        rw [if_neg hpc, hj1, goL_at c74L0.eq_def]
        have l1' := ld1_pre l1 p1
        simp (disch := first | omega | (simp only [Go.Am.len_push, Go.Am.len_set, Go.Am.len_kill] <;> omega) | fail) only [push_cast, seval, wrap64, dec_lt, dec_nlt, dec_le, dec_nle, dec_eq, dec_ne, if_pos, if_neg, Int.natCast_add, Int.natCast_one, Int.natCast_zero, Int.toNat_natCast, e1, l1', e2, dec_ne hpc]
theorem curN_bad (y : List Int) : ∀ (r : List (List Int)) (s : List Int), (curN q y r s).1 ≠ 0 → (curN q y r s).2 = []
  | [], s, h => absurd rfl h
  | c :: r, s, h => by
    rw [curN] at h ⊢
    split
    · rfl
    · rename_i h1
      rw [if_neg h1] at h
      split
      · rename_i h2
        rw [if_pos h2] at h
        exact curN_bad y r _ h
      · rfl
theorem pcurve_call {h : H} (hr : RdLL h sa C cs) (hl2 : Len2 cs) (hy : RdI h sy cy y) (hly : y.length ≤ 9223372036854775807) : ∃ (s' : Option Addr) (c' : Nat) (h' : H), h <+: h' ∧ RdI h' s' c' (curP q cs y).2 ∧
    call T 74 [.int .i64 q, .slice sa cs.length C, .slice sy y.length cy] h = some (.tuple #[.slice s' (curP q cs y).2.length c', .int .i64 (curP q cs y).1], h') := by
  obtain ⟨h1, p1, e1⟩ := pcheck2_call q hy hly
  have hll := hl2.len
  by_cases ey : pokE q y = 0
  rotate_left
  · have hc : curP q cs y = (pokE q y, []) := by unfold curP; rw [if_neg ey]
    rw [hc]
    refine ⟨none, 0, h1, p1, .nil, ?_⟩
    rw [call_at T74 rfl]
    unfold F74 c74
    simp (disch := first | omega | (simp only [Go.Am.len_push, Go.Am.len_set, Go.Am.len_kill] <;> omega) | fail) only [push_cast, seval, wrap64, dec_lt, dec_nlt, dec_le, dec_nle, dec_eq, dec_ne, if_pos, if_neg, Int.natCast_add, Int.natCast_one, Int.natCast_zero, Int.toNat_natCast, e1, dec_ne ey, List.length_nil]
  rw [ey] at e1
  by_cases h64 : 64 < cs.length
  · have hc : curP q cs y = (4, []) := by unfold curP; rw [if_pos ey, if_pos h64]
    rw [hc]
    refine ⟨none, 0, h1, p1, .nil, ?_⟩
    rw [call_at T74 rfl]
    unfold F74 c74
    simp (disch := first | omega | (simp only [Go.Am.len_push, Go.Am.len_set, Go.Am.len_kill] <;> omega) | fail) only [push_cast, seval, wrap64, dec_lt, dec_nlt, dec_le, dec_nle, dec_eq, dec_ne, if_pos, if_neg, Int.natCast_add, Int.natCast_one, Int.natCast_zero, Int.toNat_natCast, e1, List.length_nil]
  · have hc : curP q cs y = curN q (trimL y) cs.reverse [] := by unfold curP; rw [if_pos ey, if_neg h64]
    obtain ⟨⟨x, hx⟩, _, _⟩ := pokE_ok ey
    obtain ⟨s', c', G', k1, k2, k3⟩ := pcurve_loop (q := q) (hr.mono p1) hl2.each (by omega) (hy.mono p1) ey cs.length [] none 0 h1 (Nat.le_refl _) (pokE_mk hx (by simp) (fun v hv => by cases hv)) (fun h => absurd rfl h) .nil (List.prefix_refl _)
    rw [List.take_length] at k2 k3
    rw [List.length_nil] at k3
    rw [hc]
    obtain ⟨R, hR⟩ : ∃ R, R = curN q (trimL y) cs.reverse [] := ⟨_, rfl⟩
    have hbad := curN_bad (q := q) (trimL y) cs.reverse []
    rw [← hR] at k2 k3 hbad ⊢
    by_cases h0 : R.1 = 0
    · refine ⟨s', c', G', p1.trans k1, k2, ?_⟩
      rw [call_at T74 rfl]
      unfold F74 c74
      simp (disch := first | omega | (simp only [Go.Am.len_push, Go.Am.len_set, Go.Am.len_kill] <;> omega) | fail) only [push_cast, seval, wrap64, dec_lt, dec_nlt, dec_le, dec_nle, dec_eq, dec_ne, if_pos, if_neg, Int.natCast_add, Int.natCast_one, Int.natCast_zero, Int.toNat_natCast, e1]
      rw [k3, if_pos h0]
      simp (disch := first | omega | (simp only [Go.Am.len_push, Go.Am.len_set, Go.Am.len_kill] <;> omega) | fail) only [push_cast, seval, wrap64, dec_lt, dec_nlt, dec_le, dec_nle, dec_eq, dec_ne, if_pos, if_neg, Int.natCast_add, Int.natCast_one, Int.natCast_zero, Int.toNat_natCast, h0]
    · rw [hbad h0]
      refine ⟨none, 0, G', p1.trans k1, .nil, ?_⟩
      rw [call_at T74 rfl]
      unfold F74 c74
      simp (disch := first | omega | (simp only [Go.Am.len_push, Go.Am.len_set, Go.Am.len_kill] <;> omega) | fail) only [push_cast, seval, wrap64, dec_lt, dec_nlt, dec_le, dec_nle, dec_eq, dec_ne, if_pos, if_neg, Int.natCast_add, Int.natCast_one, Int.natCast_zero, Int.toNat_natCast, e1]
      rw [k3, if_neg h0]
      try simp (disch := first | omega | (simp only [Go.Am.len_push, Go.Am.len_set, Go.Am.len_kill] <;> omega) | fail) only [push_cast, seval, List.length_nil]
end
end Go.Proofs.Ytammndhoillliaa
namespace Go.Proofs.Ytammndhoillliaa
open Go.Am Go.Alg
set_option linter.unusedVariables false
set_option linter.unusedSimpArgs false
set_option maxRecDepth 30000

theorem allF_vs {q : Int} (l : List (El q)) : AllF q (vs l) := fun z hz => by
  obtain ⟨a, _, rfl⟩ := List.mem_map.1 hz
  exact a.ok
section
variable {q p : Int} {m : Nat} {g : Int} {mod : List Int} [IsFld q]
/-- a sum of polynomials as the program makes it -/
theorem add_typed (hn : fldN q.toNat = some (p, m, g, mod)) {a b : List (El q)} (ha : a.length ≤ 128) (hb : b.length ≤ 128) : ∃ c : List (El q), addV q (vs a) (vs b) = vs c ∧ bothE q (vs a) (vs b) = 0 ∧ (∀ k, wf c k = wf a k + wf b k) ∧ c.length ≤ max a.length b.length ∧ Trimmed (vs c) := by
  have ea := pokE_mk (q := q) (a := vs a) hn (by rw [vs_len]; exact ha) (allF_vs a)
  have eb := pokE_mk (q := q) (a := vs b) hn (by rw [vs_len]; exact hb) (allF_vs b)
  have hbo : bothE q (vs a) (vs b) = 0 := by unfold bothE; rw [if_pos ea]; exact eb
  obtain ⟨c, hc⟩ := vs_lift (paddL_all hn (allF_vs a) (allF_vs b))
  refine ⟨c, by unfold addV; rw [if_pos hbo, hc], hbo, fun k => El.ext' ?_, ?_, ?_⟩
  · rw [← gi_wf, ← hc, paddL, trimL_gi, sumL_gi hn, gi_wf, gi_wf, v_add]
  · have := paddL_len (q := q) (vs a) (vs b)
    rw [hc, vs_len, vs_len, vs_len] at this
    exact this
  · rw [← hc]; exact trimL_trimmed _
/-- what a rule says, term by term -/
def dS (C s : List (El q)) (i j : Nat) : El q := sumN j fun k => if k ≤ i then wf C k * wf s (i - k) else 0
theorem dS_disc (C s : List (El q)) (i : Nat) : dS C s i C.length = disc (wf C) (wf s) i := by
  unfold dS disc
  by_cases h : C.length ≤ i + 1
  · rw [sumN_cut (n := i + 1) h fun k hk _ => by rw [wf_out hk, zero_mul]]
    exact sumN_congr fun k hk => if_pos (by omega)
  · rw [sumN_cut (m := i + 1) (by omega) fun k hk _ => if_neg (by omega)]
    exact sumN_congr fun k hk => if_pos (by omega)
end
section
variable {h : H} {F : Nat} {q p : Int} {m : Nat} {g : Int} {mod : List Int} {E L om fm cm : Nat} [IsFld q] {V0 V5 V10 V11 V12 V36 V37 : Value}
theorem mas_d (hn : fldN q.toNat = some (p, m, g, mod)) (u : PUse h F q p m g mod E L om fm cm) {C s : List (El q)} {rs ss : Option Addr} {rc sc i : Nat} (hr : RdI h rs rc (vs C)) (hs : RdI h ss sc (vs s)) (hi : i < s.length) (hsl : s.length ≤ 1000) (hCl : C.length ≤ 1000) :
    ∀ (n k : Nat), k + n = C.length → ∀ ks,
      goL T [.tmp 4, .tmp 5, .tmp 6] [0, 1, 4, 5, 8, 10, 11, 12, 13, 14, 36, 37, 40, 41, 42] c77L0 (.blk 2 [0, 1, 4, 5, 8, 10, 11, 12, 13, 14, 36, 37] :: ks) [(0, V0), (1, .slice ss s.length sc), (4, .slice rs C.length rc), (5, V5), (8, .pointer (some ⟨F, 0, none⟩)), (10, V10), (11, V11), (12, V12), (13, .int .i64 i), (14, .int .i64 ((dS C s i k).v)), (36, V36), (37, V37), (40, .slice rs C.length rc), (41, .int .i64 C.length), (42, .int .i64 k)] h =
        go T [.tmp 4, .tmp 5, .tmp 6] ks (Fr.of [(0, V0), (1, .slice ss s.length sc), (4, .slice rs C.length rc), (5, V5), (8, .pointer (some ⟨F, 0, none⟩)), (10, V10), (11, V11), (12, V12), (13, .int .i64 i), (14, .int .i64 ((dS C s i C.length).v)), (36, V36), (37, V37)]) h
  | 0, k, hk, ks => by
    obtain rfl : k = C.length := by omega
    rw [goL_at c77L0.eq_def]
    simp (disch := first | omega | (simp only [Go.Am.len_push, Go.Am.len_set, Go.Am.len_kill] <;> omega) | fail) only [push_cast, seval, wrap64, dec_lt, dec_nlt, dec_le, dec_nle, dec_eq, dec_ne, if_pos, if_neg, Int.natCast_add, Int.natCast_one, Int.natCast_zero, Int.toNat_natCast]
  | n + 1, k, hk, ks => by
    have IH := mas_d hn u hr hs hi hsl hCl n (k + 1) (by omega) ks
    have hd : dS C s i (k + 1) = dS C s i k + if k ≤ i then wf C k * wf s (i - k) else 0 := sumN_succ _ _
    rw [hd, Int.natCast_add, Int.natCast_one] at IH
    obtain ⟨o1, f1, rfl, _, l1⟩ := rd_at hr (i := k) (by omega)
    by_cases hki : k ≤ i
    · rw [if_pos hki, v_add, v_mul] at IH
      obtain ⟨o2, f2, rfl, _, l2⟩ := rd_at hs (i := i - k) (by omega)
      have e1 := pmul_call hn u (wf C k).v (wf s (i - k)).v
      have e2 := padd_call hn u (fld_fok hn).1 (dS C s i k).v (fmul q (wf C k).v (wf s (i - k)).v)
      have hik : (i : Int) - (k : Int) = ((i - k : Nat) : Int) := by omega
      obtain ⟨d, hd2⟩ : ∃ d, d = i - k := ⟨_, rfl⟩
      rw [← hd2] at hik l2 e1 e2 IH
      rw [goL_at c77L0.eq_def, ← IH]
      simp (disch := first | omega | (simp only [Go.Am.len_push, Go.Am.len_set, Go.Am.len_kill] <;> omega) | fail) only [push_cast, seval, wrap64, dec_lt, dec_nlt, dec_le, dec_nle, dec_eq, dec_ne, if_pos, if_neg, Int.natCast_add, Int.natCast_one, Int.natCast_zero, Int.toNat_natCast, l1, hik, l2, e1, e2]
    · rw [if_neg hki, FK.add_zero] at IH
      rw [goL_at c77L0.eq_def, ← IH]
      simp (disch := first | omega | (simp only [Go.Am.len_push, Go.Am.len_set, Go.Am.len_kill] <;> omega) | fail) only [push_cast, seval, wrap64, dec_lt, dec_nlt, dec_le, dec_nle, dec_eq, dec_ne, if_pos, if_neg, Int.natCast_add, Int.natCast_one, Int.natCast_zero, Int.toNat_natCast, l1]
end
section
variable {hF : H} {F : Nat} {q p : Int} {m : Nat} {g : Int} {mod : List Int} {E L om fm cm : Nat} [IsFld q] {V0 V1 V4 V5 V10 V11 V12 V13 V14 V36 V37 : Value}
theorem mas_turn (hn : fldN q.toNat = some (p, m, g, mod)) (u : PUse hF F q p m g mod E L om fm cm) {T0 : List (Value × Tr)} {t : List (El q)} {W : Nat} (htl : t.length = W) (hW : W ≤ 1000) {c : El q} {s17 : Option Addr} {c17 k0 : Nat} (hk0 : T0.length = k0) :
    ∀ (n j : Nat) (G : H), j + n = W → St hF G (T0 ++ [(.slice s17 W c17, il (vs ((scaleL c t).take j ++ t.drop j)))]) →
      ∃ G' : H, St hF G' (T0 ++ [(.slice s17 W c17, il (vs (scaleL c t)))]) ∧ ∀ ks,
        goL T [.tmp 4, .tmp 5, .tmp 6] [0, 1, 4, 5, 8, 10, 11, 12, 13, 14, 17, 18, 36, 37, 80, 81] c77L1 (.blk 4 [0, 1, 4, 5, 8, 10, 11, 12, 13, 14, 17, 36, 37] :: ks) [(0, V0), (1, V1), (4, V4), (5, V5), (8, .pointer (some ⟨F, 0, none⟩)), (10, V10), (11, V11), (12, V12), (13, V13), (14, V14), (17, .slice s17 W c17), (18, .int .i64 c.v), (36, V36), (37, V37), (80, .int .i64 W), (81, .int .i64 j)] G =
          go T [.tmp 4, .tmp 5, .tmp 6] ks (Fr.of [(0, V0), (1, V1), (4, V4), (5, V5), (8, .pointer (some ⟨F, 0, none⟩)), (10, V10), (11, V11), (12, V12), (13, V13), (14, V14), (17, .slice s17 W c17), (36, V36), (37, V37)]) G'
  | 0, j, G, hj, S => by
    have hjl : j = t.length := by omega
    subst hjl
    unfold scaleL at S ⊢
    rw [chg_all] at S
    refine ⟨G, S, fun ks => ?_⟩
    rw [← htl] at *
    rw [goL_at c77L1.eq_def]
    simp (disch := first | omega | (simp only [Go.Am.len_push, Go.Am.len_set, Go.Am.len_kill] <;> omega) | fail) only [push_cast, seval, wrap64, dec_lt, dec_nlt, dec_le, dec_nle, dec_eq, dec_ne, if_pos, if_neg, Int.natCast_add, Int.natCast_one, Int.natCast_zero, Int.toNat_natCast]
  | n + 1, j, G, hj, S => by
    have IH := mas_turn (c := c) (s17 := s17) (c17 := c17) hn u htl hW hk0 n (j + 1)
    obtain ⟨a, ha⟩ := at_some (l := t) (i := j) (by omega)
    have hcl := chg_len (fun x => x * c) t j
    have hat := chg_at (f := fun x => x * c) (l := t) (j := j) (by omega)
    have hset := chg_set (f := fun x => x * c) ha
    have hsc : ∀ x : List (El q), scaleL c x = x.map fun x => x * c := fun _ => rfl
    rw [hsc] at S IH ⊢
    generalize hy : (t.map fun x => x * c).take j ++ t.drop j = y at S hcl hat hset
    have hwy : wf y j = a := by
      unfold wf; rw [List.getD_eq_getElem?_getD, hat, ha]; rfl
    have hk : (T0 ++ [(Value.slice s17 W c17, il (vs y))])[k0]? = some (.slice s17 W c17, il (vs y)) := by subst hk0; simp
    obtain ⟨o9, f9, he9, _, l3⟩ := rd_at (S.rd hk) (i := j) (by omega)
    rw [hwy] at l3
    have em := pmul_call hn (u.mono S.pre) a.v c.v
    obtain ⟨o, G2, he, es, S2, _⟩ := S.sti hk (i := j) (by rw [vs_len]; omega) (a * c).v
    rw [vs_set, hset] at S2
    have hset2 : (T0 ++ [(Value.slice s17 W c17, il (vs y))]).set k0 (Value.slice s17 W c17, il (vs ((t.map fun x => x * c).take (j + 1) ++ t.drop (j + 1)))) = T0 ++ [(Value.slice s17 W c17, il (vs ((t.map fun x => x * c).take (j + 1) ++ t.drop (j + 1))))] := by subst hk0; simp
    rw [hset2] at S2
    obtain ⟨G', k1, k2⟩ := IH G2 (by omega) S2
    rw [he] at he9
    cases he9
    rw [Nat.zero_add] at l3
    rw [v_mul] at es
    refine ⟨G', k1, fun ks => ?_⟩
    have ih := k2 ks
    rw [Int.natCast_add, Int.natCast_one] at ih
    rw [he] at ih ⊢
    rw [goL_at c77L1.eq_def, ← ih]
    simp (disch := first | omega | (simp only [Go.Am.len_push, Go.Am.len_set, Go.Am.len_kill] <;> omega) | fail) only [push_cast, seval, wrap64, dec_lt, dec_nlt, dec_le, dec_nle, dec_eq, dec_ne, if_pos, if_neg, Int.natCast_add, Int.natCast_one, Int.natCast_zero, Int.toNat_natCast, l3, em, es]
end
end Go.Proofs.Ytammndhoillliaa
namespace Go.Proofs.Ytammndhoillliaa
open Go.Am Go.Alg
set_option linter.unusedVariables false
set_option linter.unusedSimpArgs false
set_option maxRecDepth 30000

section
variable {q : Int} [IsFld q]
theorem wf_rep_app (gap : Nat) (B : List (El q)) (k : Nat) : wf (List.replicate gap 0 ++ B) k = shift gap (wf B) k := by
  unfold shift wf
  rw [List.getD_eq_getElem?_getD]
  by_cases h : k < gap
  · rw [if_pos h, List.getElem?_append_left (by simpa using h), List.getElem?_replicate, if_pos h]; rfl
  · rw [if_neg h, List.getElem?_append_right (by simp; omega), List.length_replicate, List.getD_eq_getElem?_getD]
/-- where Massey's loop stands -/
structure MasI (s : List (El q)) (i : Nat) (C B : List (El q)) (gap : Nat) (last : El q) (L : Nat) : Prop where
  mas : Mas (wf s) i (wf C) (wf B) gap last L
  cl : C.length ≤ i + 1
  bl : gap + B.length ≤ i + 2
  tr : Trimmed (vs C)
end
section
variable {hF : H} {F : Nat} {q p : Int} {m : Nat} {g : Int} {mod : List Int} {E L om fm cm : Nat} [IsFld q]
theorem mas_loop (hn : fldN q.toNat = some (p, m, g, mod)) (u : PUse hF F q p m g mod E L om fm cm) {s : List (El q)} {ss : Option Addr} {sc : Nat} (hs : RdI hF ss sc (vs s)) (hsl : s.length ≤ 100) :
    ∀ (n i : Nat) (C B : List (El q)) (gap l : Nat) (last : El q) (s4 s10 : Option Addr) (c4 c10 : Nat) (G : H), i + n = s.length → MasI s i C B gap last l →
      St hF G [(.slice s4 C.length c4, il (vs C)), (.slice s10 B.length c10, il (vs B))] →
      ∃ (C' B' : List (El q)) (gap' l' : Nat) (last' : El q) (s4' : Option Addr) (c4' : Nat) (G' : H), MasI s s.length C' B' gap' last' l' ∧ St hF G' [(.slice s4' C'.length c4', il (vs C'))] ∧ ∀ ks,
        goL T [.tmp 4, .tmp 5, .tmp 6] [0, 1, 4, 5, 8, 10, 11, 12, 36, 37] c77L2 (.blk 0 [4, 5] :: ks) [(0, .int .i64 q), (1, .slice ss s.length sc), (4, .slice s4 C.length c4), (5, .int .i64 l), (8, .pointer (some ⟨F, 0, none⟩)), (10, .slice s10 B.length c10), (11, .int .i64 gap), (12, .int .i64 last.v), (36, .int .i64 s.length), (37, .int .i64 i)] G =
          go T [.tmp 4, .tmp 5, .tmp 6] ks (Fr.of [(4, .slice s4' C'.length c4'), (5, .int .i64 l')]) G'
  | 0, i, C, B, gap, l, last, s4, s10, c4, c10, G, hi, M, S => by
    obtain rfl : i = s.length := by omega
    refine ⟨C, B, gap, l, last, s4, c4, G, M, S.drop 1, fun ks => ?_⟩
    rw [goL_at c77L2.eq_def]
    simp (disch := first | omega | (simp only [Go.Am.len_push, Go.Am.len_set, Go.Am.len_kill] <;> omega) | fail) only [push_cast, seval, wrap64, dec_lt, dec_nlt, dec_le, dec_nle, dec_eq, dec_ne, if_pos, if_neg, Int.natCast_add, Int.natCast_one, Int.natCast_zero, Int.toNat_natCast]
  | n + 1, i, C, B, gap, l, last, s4, s10, c4, c10, G, hi, M, S => by
    have IH := mas_loop hn u hs hsl n (i + 1)
    have hf := (fld_fok hn).1
    have M1 := M.cl
    have M2 := M.bl
    have M3 := M.mas.le
    have hC := S.rd (k := 0) rfl
    have uG := u.mono S.pre
    have e1 := fun ks => mas_d (V0 := .int .i64 q) (V5 := .int .i64 l) (V10 := .slice s10 B.length c10) (V11 := .int .i64 gap) (V12 := .int .i64 last.v) (V36 := .int .i64 s.length) (V37 := .int .i64 i) hn uG hC (hs.mono S.pre) (i := i) (by omega) (by omega) (by omega) C.length 0 (by omega) ks
    rw [dS_disc, show (dS C s i 0).v = 0 from rfl] at e1
    simp only [Int.natCast_zero] at e1
    by_cases hd : disc (wf C) (wf s) i = 0
    · have hdv := v_z hd
      rw [hdv] at e1
      obtain ⟨C', B', gap', l', last', s4', c4', G', k1, k2, k3⟩ := IH C B (gap + 1) l last s4 s10 c4 c10 G (by omega) ⟨M.mas.same hd, by omega, by omega, M.tr⟩ S
      refine ⟨C', B', gap', l', last', s4', c4', G', k1, k2, fun ks => ?_⟩
      have ih := k3 ks
      rw [Int.natCast_add, Int.natCast_one, Int.natCast_add, Int.natCast_one] at ih
      rw [goL_at c77L2.eq_def, ← ih]
      simp (disch := first | omega | (simp only [Go.Am.len_push, Go.Am.len_set, Go.Am.len_kill] <;> omega) | fail) only [push_cast, seval, wrap64, dec_lt, dec_nlt, dec_le, dec_nle, dec_eq, dec_ne, if_pos, if_neg, Int.natCast_add, Int.natCast_one, Int.natCast_zero, Int.toNat_natCast]
      rw [e1]
      simp (disch := first | omega | (simp only [Go.Am.len_push, Go.Am.len_set, Go.Am.len_kill] <;> omega) | fail) only [push_cast, seval, wrap64, dec_lt, dec_nlt, dec_le, dec_nle, dec_eq, dec_ne, if_pos, if_neg, Int.natCast_add, Int.natCast_one, Int.natCast_zero, Int.toNat_natCast]
    · obtain ⟨d, hde⟩ : ∃ d, disc (wf C) (wf s) i = d := ⟨_, rfl⟩
      have hT := M.mas.turn (N := fun k => wf C k + -(d * FK.inv last) * shift gap (wf B) k) hd (fun k => by rw [hde])
      rw [hde] at e1 hd hT
      -- the other rule, put off
      obtain ⟨G1, eG1, p1, q1, g1⟩ := own_mk G gap 0
      have hB := S.rd (k := 1) rfl
      have hsrc := (hB.mono p1).src
      rw [vs_len] at hsrc
      obtain ⟨o17, G2, e2, p2, ho17, q17⟩ := app_own (b := 8) p1 (Nat.le_refl _) q1 (n := gap) (by rw [ints_len, List.length_replicate]) hsrc (by rw [ints_len, vs_len]) (by omega) (by omega)
      have hz : List.replicate gap (0 : Int) = vs (List.replicate gap (0 : El q)) := by rw [← vs_rep]; rfl
      rw [ints_app, hz, ← vs_app] at q17
      obtain ⟨t, ht⟩ : ∃ t, List.replicate gap (0 : El q) ++ B = t := ⟨_, rfl⟩
      rw [ht] at q17
      have htl : t.length = gap + B.length := by rw [← ht, List.length_append, List.length_replicate]
      have S1 := S.join (St.ofRow (n := gap + B.length) p2 q17 ho17 (by rw [vs_len, htl]))
      -- c
      have u2 := uG.mono p2
      have e3 := pinv_call hn u2 last.v
      rw [← v_inv M.mas.ne] at e3
      have e4 := pmul_call hn u2 d.v (FK.inv last).v
      rw [← v_mul] at e4
      have e5 := pneg_call hn u2 hf (d * FK.inv last).v
      rw [← v_neg] at e5
      obtain ⟨c, hc⟩ : ∃ c, -(d * FK.inv last) = c := ⟨_, rfl⟩
      rw [hc] at e5 hT
      obtain ⟨G3, S3, e6⟩ := mas_turn (V0 := .int .i64 q) (V1 := .slice ss s.length sc) (V4 := .slice s4 C.length c4) (V5 := .int .i64 l) (V10 := .slice s10 B.length c10) (V11 := .int .i64 gap) (V12 := .int .i64 last.v) (V13 := .int .i64 i) (V14 := .int .i64 d.v) (V36 := .int .i64 s.length) (V37 := .int .i64 i) hn u (T0 := [_, _]) htl (by omega) (c := c) rfl (gap + B.length) 0 G2 (by omega) (by simp only [List.take_zero, List.nil_append, List.drop_zero]; exact S1)
      simp only [Int.natCast_zero, Int.natCast_add] at e6
      have hsc : (scaleL c t).length = gap + B.length := by unfold scaleL; rw [List.length_map, htl]
      -- the sum
      obtain ⟨N, hN1, hN2, hN3, hN4, hN5⟩ := add_typed hn (a := C) (b := scaleL c t) (by omega) (by omega)
      obtain ⟨s20, c20, G4, p4, g4, e7⟩ := padd2_call (q := q) (S3.rd (k := 0) rfl) (S3.rd (k := 2) rfl) (by rw [vs_len]; omega) (by rw [vs_len]; omega)
      rw [hN1] at g4 e7
      rw [hN2, vs_len, vs_len, vs_len, hsc] at e7
      have S4 := S3.join (St.ofGrown p4 g4)
      rw [vs_len] at S4
      have hNw : (fun k => wf C k + c * shift gap (wf B) k) = wf N := by
        funext k
        rw [hN3, wf_scale, ← ht]
        show _ = wf C k + c * wf (List.replicate gap 0 ++ B) k
        rw [wf_rep_app]
      rw [hNw] at hT
      by_cases h2 : 2 * l ≤ i
      · rw [if_pos h2] at hT
        have S5 : St hF G4 [(.slice s20 N.length c20, il (vs N)), (.slice s4 C.length c4, il (vs C))] := St.rot (L := [_]) (M := [_]) ((S4.drop 1).drop 1)
        obtain ⟨C', B', gap', l', last', s4', c4', G', k1, k2, k3⟩ := IH N C 1 (i + 1 - l) d s20 s4 c20 c4 G4 (by omega) ⟨hT, by omega, by omega, hN5⟩ S5
        refine ⟨C', B', gap', l', last', s4', c4', G', k1, k2, fun ks => ?_⟩
        have ih := k3 ks
        have hw : ((i + 1 - l : Nat) : Int) = (i : Int) + 1 - (l : Int) := by omega
        rw [hw, Int.natCast_add, Int.natCast_one] at ih
        rw [goL_at c77L2.eq_def, ← ih]
        simp (disch := first | omega | (simp only [Go.Am.len_push, Go.Am.len_set, Go.Am.len_kill] <;> omega) | fail) only [push_cast, seval, wrap64, dec_lt, dec_nlt, dec_le, dec_nle, dec_eq, dec_ne, if_pos, if_neg, Int.natCast_add, Int.natCast_one, Int.natCast_zero, Int.toNat_natCast]
        rw [e1]
        simp (disch := first | omega | (simp only [Go.Am.len_push, Go.Am.len_set, Go.Am.len_kill] <;> omega) | fail) only [push_cast, seval, wrap64, dec_lt, dec_nlt, dec_le, dec_nle, dec_eq, dec_ne, if_pos, if_neg, Int.natCast_add, Int.natCast_one, Int.natCast_zero, Int.toNat_natCast, dec_ne (v_ne hd), eG1, e2, e3, e4, e5]
        rw [e6]
        simp (disch := first | omega | (simp only [Go.Am.len_push, Go.Am.len_set, Go.Am.len_kill] <;> omega) | fail) only [push_cast, seval, wrap64, dec_lt, dec_nlt, dec_le, dec_nle, dec_eq, dec_ne, if_pos, if_neg, Int.natCast_add, Int.natCast_one, Int.natCast_zero, Int.toNat_natCast, e7]
      · rw [if_neg h2] at hT
        have S5 : St hF G4 [(.slice s20 N.length c20, il (vs N)), (.slice s10 B.length c10, il (vs B))] := St.rot (L := [_]) (M := [_]) ((S4.drop 0).drop 1)
        obtain ⟨C', B', gap', l', last', s4', c4', G', k1, k2, k3⟩ := IH N B (gap + 1) l last s20 s10 c20 c10 G4 (by omega) ⟨hT, by omega, by omega, hN5⟩ S5
        refine ⟨C', B', gap', l', last', s4', c4', G', k1, k2, fun ks => ?_⟩
        have ih := k3 ks
        rw [Int.natCast_add, Int.natCast_one, Int.natCast_add, Int.natCast_one] at ih
        rw [goL_at c77L2.eq_def, ← ih]
        simp (disch := first | omega | (simp only [Go.Am.len_push, Go.Am.len_set, Go.Am.len_kill] <;> omega) | fail) only [push_cast, seval, wrap64, dec_lt, dec_nlt, dec_le, dec_nle, dec_eq, dec_ne, if_pos, if_neg, Int.natCast_add, Int.natCast_one, Int.natCast_zero, Int.toNat_natCast]
        rw [e1]
        simp (disch := first | omega | (simp only [Go.Am.len_push, Go.Am.len_set, Go.Am.len_kill] <;> omega) | fail) only [push_cast, seval, wrap64, dec_lt, dec_nlt, dec_le, dec_nle, dec_eq, dec_ne, if_pos, if_neg, Int.natCast_add, Int.natCast_one, Int.natCast_zero, Int.toNat_natCast, dec_ne (v_ne hd), eG1, e2, e3, e4, e5]
        rw [e6]
        simp (disch := first | omega | (simp only [Go.Am.len_push, Go.Am.len_set, Go.Am.len_kill] <;> omega) | fail) only [push_cast, seval, wrap64, dec_lt, dec_nlt, dec_le, dec_nle, dec_eq, dec_ne, if_pos, if_neg, Int.natCast_add, Int.natCast_one, Int.natCast_zero, Int.toNat_natCast, e7]
end
section
variable {h : H} {q : Int}
theorem massey_bad {l : List Int} {ss : Option Addr} {sc : Nat} (hs : RdI h ss sc l) (hl : l.length ≤ 9223372036854775807) (he : ¬ pokE q l = 0) : ∃ G : H, h <+: G ∧ call T 77 [.int .i64 q, .slice ss l.length sc] h = some (.tuple #[.slice none 0 0, .int .i64 0, .int .i64 (pokE q l)], G) := by
  obtain ⟨h1, p1, e1⟩ := pcheck2_call q hs hl
  refine ⟨h1, p1, ?_⟩
  rw [call_at T77 rfl]
  unfold F77 c77
  simp (disch := first | omega | (simp only [Go.Am.len_push, Go.Am.len_set, Go.Am.len_kill] <;> omega) | fail) only [push_cast, seval, wrap64, dec_lt, dec_nlt, dec_le, dec_nle, dec_eq, dec_ne, if_pos, if_neg, Int.natCast_add, Int.natCast_one, Int.natCast_zero, Int.toNat_natCast, e1, dec_ne he]
theorem massey_ok [IsFld q] {s : List (El q)} {ss : Option Addr} {sc : Nat} (hs : RdI h ss sc (vs s)) (hsl : s.length ≤ 100) :
    ∃ (C : List (El q)) (B : List (El q)) (gap l : Nat) (last : El q) (s4 : Option Addr) (c4 : Nat) (G : H), MasI s s.length C B gap last l ∧ St h G [(.slice s4 C.length c4, il (vs C))] ∧ call T 77 [.int .i64 q, .slice ss s.length sc] h = some (.tuple #[.slice s4 C.length c4, .int .i64 l, .int .i64 0], G) := by
  obtain ⟨p, m, g, mod, hn⟩ := ‹IsFld q›.ok
  have hok := pokE_mk (q := q) (a := vs s) hn (by rw [vs_len]; omega) (allF_vs s)
  obtain ⟨h1, p1, e1⟩ := pcheck2_call q hs (by rw [vs_len]; omega)
  rw [hok, vs_len] at e1
  obtain ⟨h2, F, p2, hp, e2⟩ := new_some q hn h1
  obtain ⟨E, L, om, fm, cm, u⟩ := hp.use hn
  obtain ⟨h3, eh3⟩ : ∃ h3 : H, h2 ++ [.row ⟨[.int .i64 1], 3, 1, true⟩] = h3 := ⟨_, rfl⟩
  obtain ⟨h4, eh4⟩ : ∃ h4 : H, h3 ++ [.row ⟨[.int .i64 1], 3, 1, true⟩] = h4 := ⟨_, rfl⟩
  have p3 : h2 <+: h3 := by rw [← eh3]; exact List.prefix_append _ _
  have p4 : h3 <+: h4 := by rw [← eh4]; exact List.prefix_append _ _
  have hone : vs ([1] : List (El q)) = [1] := rfl
  have S1 : St h2 h3 [(.slice (some ⟨h2.length, 0, none⟩) 1 1, il (vs ([1] : List (El q))))] := St.ofRow p3 (by rw [← eh3, hone]; exact row_push_new) (Nat.le_refl _) rfl
  have S2 : St h3 h4 [(.slice (some ⟨h3.length, 0, none⟩) 1 1, il (vs ([1] : List (El q))))] := St.ofRow p4 (by rw [← eh4, hone]; exact row_push_new) (Nat.le_refl _) rfl
  have hw1 : ∀ k, 0 < k → wf ([1] : List (El q)) k = 0 := fun k hk => wf_out (by simp; omega)
  obtain ⟨C, B, gap, l, last, s4, c4, G, k1, k2, k3⟩ := mas_loop hn u (hs.mono (p1.trans p2)) hsl s.length 0 [1] [1] 1 0 1 (some ⟨h2.length, 0, none⟩) (some ⟨h3.length, 0, none⟩) 1 1 h4 (by omega) ⟨Mas.start _ rfl hw1 hw1, by simp, by simp, fun _ => by rw [hone]; decide⟩ (S1.join S2)
  refine ⟨C, B, gap, l, last, s4, c4, G, k1, k2.low (p1.trans p2), ?_⟩
  simp only [Int.natCast_zero, Int.natCast_one, v_one, List.length_singleton] at k3
  rw [call_at T77 rfl]
  unfold F77 c77
  simp (disch := first | omega | (simp only [Go.Am.len_push, Go.Am.len_set, Go.Am.len_kill] <;> omega) | fail) only [push_cast, seval, wrap64, dec_lt, dec_nlt, dec_le, dec_nle, dec_eq, dec_ne, if_pos, if_neg, Int.natCast_add, Int.natCast_one, Int.natCast_zero, Int.toNat_natCast, e1, e2, eh3, eh4]
  rw [k3]
  simp (disch := first | omega | (simp only [Go.Am.len_push, Go.Am.len_set, Go.Am.len_kill] <;> omega) | fail) only [push_cast, seval]
end
end Go.Proofs.Ytammndhoillliaa
namespace Go.Proofs.Ytammndhoillliaa
open Go.Am Go.Alg
set_option linter.unusedVariables false
set_option linter.unusedSimpArgs false
set_option maxRecDepth 30000

section
variable {hF : H} {q p : Int} {m : Nat} {g : Int} {mod : List Int} {om cm B : Nat}
theorem relem_loop (hB : hF.row B = some ⟨fvL q p m g (.slice (some ⟨om, 0, none⟩) mod.length cm), 67, 0, true⟩) {l : List Int} {sl : Option Addr} {cl : Nat} (hr : RdI hF sl cl l) (hl : l.length ≤ 9223372036854775807) :
    ∀ (n i : Nat) (G : H), i + n = l.length → hF <+: G → ∃ G' : H, hF <+: G' ∧ ∀ ks,
      goL T [.tmp 4] [1, 2, 5] c78L0 (.blk 0 [] :: ks) [(1, .slice sl l.length cl), (2, .pointer (some ⟨B, 0, none⟩)), (5, .int .i64 i)] G =
        if anyF (fun v => !fok q v) l n i = true then some (.bool false, G') else go T [.tmp 4] ks (Fr.of []) G'
  | 0, i, G, hi, hp => by
    refine ⟨G, hp, fun ks => ?_⟩
    rw [goL_at c78L0.eq_def, anyF, if_neg (by decide)]
    simp (disch := first | omega | (simp only [Go.Am.len_push, Go.Am.len_set, Go.Am.len_kill] <;> omega) | fail) only [push_cast, seval, wrap64, dec_lt, dec_nlt, dec_le, dec_nle, dec_eq, dec_ne, if_pos, if_neg, Int.natCast_add, Int.natCast_one, Int.natCast_zero, Int.toNat_natCast]
  | n + 1, i, G, hi, hp => by
    obtain ⟨o, off, rfl, _, l1⟩ := (hr.mono hp).at (i := i) (by omega)
    have lB := lds_all (row_keep' hB hp) (n := 5) rfl
    have e1 := rhas_call (h := G) (q := q) (p := p) (m := m) (g := g) (mod := mod) (om := om) (cm := cm) (gi l i)
    cases hk : fok q (gi l i) with
    | true =>
      obtain ⟨G', k1, k2⟩ := relem_loop hB hr hl n (i + 1) (G ++ [rvR q p m g mod om cm]) (by omega) (pre_push hp)
      refine ⟨G', k1, fun ks => ?_⟩
      have ih := k2 ks
      rw [Int.natCast_add, Int.natCast_one] at ih
      rw [hk] at e1
      rw [goL_at c78L0.eq_def, anyF, hk, Bool.not_true, Bool.false_or, ← ih]
      simp (disch := first | omega | (simp only [Go.Am.len_push, Go.Am.len_set, Go.Am.len_kill] <;> omega) | fail) only [push_cast, seval, wrap64, dec_lt, dec_nlt, dec_le, dec_nle, dec_eq, dec_ne, if_pos, if_neg, Int.natCast_add, Int.natCast_one, Int.natCast_zero, Int.toNat_natCast, l1, lB, e1]
    | false =>
      refine ⟨G ++ [rvR q p m g mod om cm], pre_push hp, fun ks => ?_⟩
      rw [hk] at e1
      rw [goL_at c78L0.eq_def, anyF, hk, Bool.not_false, Bool.true_or, if_pos rfl]
      simp (disch := first | omega | (simp only [Go.Am.len_push, Go.Am.len_set, Go.Am.len_kill] <;> omega) | fail) only [push_cast, seval, wrap64, dec_lt, dec_nlt, dec_le, dec_nle, dec_eq, dec_ne, if_pos, if_neg, Int.natCast_add, Int.natCast_one, Int.natCast_zero, Int.toNat_natCast, l1, lB, e1]
end
section
variable {h : H} {q p : Int} {m : Nat} {g : Int} {mod : List Int} {om cm : Nat}
theorem box_mk : ∃ h1 : H, h ++ [rvR q p m g mod om cm] = h1 ∧ h <+: h1 ∧ h1.row h.length = some ⟨fvL q p m g (.slice (some ⟨om, 0, none⟩) mod.length cm), 67, 0, true⟩ :=
  ⟨_, rfl, List.prefix_append _ _, row_push_new⟩
theorem relem_call {l : List Int} {sl : Option Addr} {cl : Nat} (hr : RdI h sl cl l) (hl : l.length ≤ 9223372036854775807) : ∃ G : H, h <+: G ∧ call T 78 [rv q p m g mod om cm, .slice sl l.length cl] h = some (.bool (!l.any fun v => !fok q v), G) := by
  obtain ⟨h1, eh1, p1, hB⟩ := box_mk (h := h) (q := q) (p := p) (m := m) (g := g) (mod := mod) (om := om) (cm := cm)
  obtain ⟨G, k1, k2⟩ := relem_loop hB (hr.mono p1) hl l.length 0 h1 (by omega) (List.prefix_refl _)
  rw [anyF_all] at k2
  simp only [Int.natCast_zero] at k2
  refine ⟨G, p1.trans k1, ?_⟩
  rw [call_at T78 rfl]
  unfold F78 c78
  simp (disch := first | omega | (simp only [Go.Am.len_push, Go.Am.len_set, Go.Am.len_kill] <;> omega) | fail) only [push_cast, seval, eh1]
  rw [k2]
  cases ha : l.any fun v => !fok q v with
  | true => rw [if_pos rfl]; rfl
  | false => rw [if_neg (by decide)]; simp (disch := first | omega | (simp only [Go.Am.len_push, Go.Am.len_set, Go.Am.len_kill] <;> omega) | fail) only [push_cast, seval]
end
section
variable {hF : H} {q p : Int} {m : Nat} {g : Int} {mod : List Int} {om cm B : Nat} [IsFld q]
theorem rule_d (u : RUse hF q p m g mod om cm) (hB : hF.row B = some ⟨fvL q p m g (.slice (some ⟨om, 0, none⟩) mod.length cm), 67, 0, true⟩)
    {C s : List (El q)} {rs ss : Option Addr} {rc sc i : Nat} (hr : RdI hF rs rc (vs C)) (hs : RdI hF ss sc (vs s)) (hi : i < s.length) (hsl : s.length ≤ 1000) (hCl : C.length ≤ i + 1) :
    ∀ (n k : Nat) (G : H), k + n = C.length → hF <+: G → ∃ G' : H, hF <+: G' ∧ ∀ ks,
      goL T [.tmp 8] [1, 2, 4, 9, 10, 11] c79L0 (.blk 2 [1, 2, 4, 9, 10] :: ks) [(1, .slice ss s.length sc), (2, .slice rs C.length rc), (4, .pointer (some ⟨B, 0, none⟩)), (9, .int .i64 i), (10, .int .i64 ((dS C s i k).v)), (11, .int .i64 k)] G =
        go T [.tmp 8] ks (Fr.of [(1, .slice ss s.length sc), (2, .slice rs C.length rc), (4, .pointer (some ⟨B, 0, none⟩)), (9, .int .i64 i), (10, .int .i64 ((dS C s i C.length).v))]) G'
  | 0, k, G, hk, hp => by
    obtain rfl : k = C.length := by omega
    refine ⟨G, hp, fun ks => ?_⟩
    rw [goL_at c79L0.eq_def]
    simp (disch := first | omega | (simp only [Go.Am.len_push, Go.Am.len_set, Go.Am.len_kill] <;> omega) | fail) only [push_cast, seval, wrap64, dec_lt, dec_nlt, dec_le, dec_nle, dec_eq, dec_ne, if_pos, if_neg, Int.natCast_add, Int.natCast_one, Int.natCast_zero, Int.toNat_natCast]
  | n + 1, k, G, hk, hp => by
    have IH := rule_d u hB hr hs hi hsl hCl n (k + 1)
    have hd : dS C s i (k + 1) = dS C s i k + if k ≤ i then wf C k * wf s (i - k) else 0 := sumN_succ _ _
    rw [if_pos (by omega)] at hd
    obtain ⟨o1, f1, rfl, _, l1⟩ := rd_at (hr.mono hp) (i := k) (by omega)
    obtain ⟨o2, f2, rfl, _, l2⟩ := rd_at (hs.mono hp) (i := i - k) (by omega)
    have lB := lds_all (row_keep' hB hp) (n := 5) rfl
    obtain ⟨G1, p1, e1⟩ := rmul_call (u.mono hp) (wf C k).v (wf s (i - k)).v
    obtain ⟨G2, p2, e2⟩ := radd_call (u.mono (hp.trans p1)) (dS C s i k).v (fmul q (wf C k).v (wf s (i - k)).v)
    obtain ⟨G', k1, k2⟩ := IH G2 (by omega) (hp.trans (p1.trans p2))
    refine ⟨G', k1, fun ks => ?_⟩
    have ih := k2 ks
    rw [hd, v_add, v_mul, Int.natCast_add, Int.natCast_one] at ih
    have hik : (i : Int) - (k : Int) = ((i - k : Nat) : Int) := by omega
    obtain ⟨d, hd2⟩ : ∃ d, d = i - k := ⟨_, rfl⟩
    rw [← hd2] at hik l2 e1 e2 ih
    rw [goL_at c79L0.eq_def, ← ih]
    simp (disch := first | omega | (simp only [Go.Am.len_push, Go.Am.len_set, Go.Am.len_kill] <;> omega) | fail) only [push_cast, seval, wrap64, dec_lt, dec_nlt, dec_le, dec_nle, dec_eq, dec_ne, if_pos, if_neg, Int.natCast_add, Int.natCast_one, Int.natCast_zero, Int.toNat_natCast, l1, hik, l2, lB, e1, behind_true p1, e2]
theorem rule_loop (u : RUse hF q p m g mod om cm) (hB : hF.row B = some ⟨fvL q p m g (.slice (some ⟨om, 0, none⟩) mod.length cm), 67, 0, true⟩)
    {C s : List (El q)} {rs ss : Option Addr} {rc sc l : Nat} (hr : RdI hF rs rc (vs C)) (hs : RdI hF ss sc (vs s)) (hsl : s.length ≤ 1000) (hCl : C.length ≤ l + 1) (hd : ∀ j, l ≤ j → j < s.length → disc (wf C) (wf s) j = 0) :
    ∀ (n i : Nat) (G : H), i + n = s.length → l ≤ i → hF <+: G → ∃ G' : H, hF <+: G' ∧ ∀ ks,
      goL T [.tmp 8] [1, 2, 4, 9] c79L1 (.blk 0 [] :: ks) [(1, .slice ss s.length sc), (2, .slice rs C.length rc), (4, .pointer (some ⟨B, 0, none⟩)), (9, .int .i64 i)] G =
        go T [.tmp 8] ks (Fr.of []) G'
  | 0, i, G, hi, hli, hp => by
    refine ⟨G, hp, fun ks => ?_⟩
    rw [goL_at c79L1.eq_def]
    simp (disch := first | omega | (simp only [Go.Am.len_push, Go.Am.len_set, Go.Am.len_kill] <;> omega) | fail) only [push_cast, seval, wrap64, dec_lt, dec_nlt, dec_le, dec_nle, dec_eq, dec_ne, if_pos, if_neg, Int.natCast_add, Int.natCast_one, Int.natCast_zero, Int.toNat_natCast]
  | n + 1, i, G, hi, hli, hp => by
    obtain ⟨G1, p1, e1⟩ := rule_d u hB hr hs (i := i) (by omega) hsl (by omega) C.length 0 G (by omega) hp
    rw [dS_disc, hd i hli (by omega), show (dS C s i 0).v = 0 from rfl, v_zero] at e1
    simp only [Int.natCast_zero] at e1
    obtain ⟨G', k1, k2⟩ := rule_loop u hB hr hs hsl hCl hd n (i + 1) G1 (by omega) (by omega) p1
    refine ⟨G', k1, fun ks => ?_⟩
    have ih := k2 ks
    rw [Int.natCast_add, Int.natCast_one] at ih
    rw [goL_at c79L1.eq_def, ← ih]
    simp (disch := first | omega | (simp only [Go.Am.len_push, Go.Am.len_set, Go.Am.len_kill] <;> omega) | fail) only [push_cast, seval, wrap64, dec_lt, dec_nlt, dec_le, dec_nle, dec_eq, dec_ne, if_pos, if_neg, Int.natCast_add, Int.natCast_one, Int.natCast_zero, Int.toNat_natCast]
    rw [e1]
    simp (disch := first | omega | (simp only [Go.Am.len_push, Go.Am.len_set, Go.Am.len_kill] <;> omega) | fail) only [push_cast, seval, wrap64, dec_lt, dec_nlt, dec_le, dec_nle, dec_eq, dec_ne, if_pos, if_neg, Int.natCast_add, Int.natCast_one, Int.natCast_zero, Int.toNat_natCast]
end
section
variable {h : H} {q p : Int} {m : Nat} {g : Int} {mod : List Int} {om cm : Nat} [IsFld q]
theorem rrules_call (u : RUse h q p m g mod om cm) {C s : List (El q)} {rs ss : Option Addr} {rc sc l : Nat} (hr : RdI h rs rc (vs C)) (hs : RdI h ss sc (vs s)) (hsl : s.length ≤ 1000) (hCl : C.length ≤ l + 1) (hls : l ≤ s.length) (hone : wf C 0 = 1) (htr : Trimmed (vs C)) (hd : ∀ j, l ≤ j → j < s.length → disc (wf C) (wf s) j = 0) :
    ∃ G : H, h <+: G ∧ call T 79 [rv q p m g mod om cm, .slice ss s.length sc, .slice rs C.length rc, .int .i64 l] h = some (.bool true, G) := by
  obtain ⟨h1, eh1, p1, hB⟩ := box_mk (h := h) (q := q) (p := p) (m := m) (g := g) (mod := mod) (om := om) (cm := cm)
  obtain ⟨G, k1, k2⟩ := rule_loop (u.mono p1) hB (hr.mono p1) (hs.mono p1) hsl hCl hd (s.length - l) l h1 (by omega) (Nat.le_refl _) (List.prefix_refl _)
  have hC0 : 0 < C.length := by
    refine Nat.pos_of_ne_zero fun h0 => ?_
    rw [wf_out (by omega)] at hone
    exact FK.zero_ne hone
  have hlast := htr (by rw [vs_len]; omega)
  rw [vs_len, gi_wf] at hlast
  obtain ⟨o1, f1, rfl, _, l1⟩ := rd_at (hr.mono p1) (i := 0) hC0
  obtain ⟨_, _, he, _, l2⟩ := rd_at (hr.mono p1) (i := C.length - 1) (by omega)
  cases he
  rw [hone, v_one] at l1
  refine ⟨G, p1.trans k1, ?_⟩
  obtain ⟨d, hd2⟩ : ∃ d, d = C.length - 1 := ⟨_, rfl⟩
  have hcl : (C.length : Int) - 1 = (d : Int) := by omega
  rw [← hd2] at l2 hlast
  rw [Nat.add_zero] at l1
  have hne : ¬ (C.length : Int) = 0 := by omega
  rw [call_at T79 rfl]
  unfold F79 c79
  simp (disch := first | omega | (simp only [Go.Am.len_push, Go.Am.len_set, Go.Am.len_kill] <;> omega) | fail) only [push_cast, seval, wrap64, dec_lt, dec_nlt, dec_le, dec_nle, dec_eq, dec_ne, if_pos, if_neg, Int.natCast_add, Int.natCast_one, Int.natCast_zero, Int.toNat_natCast, eh1, l1, hcl, l2, dec_ne hlast, dec_ne hne]
  rw [k2]
  simp (disch := first | omega | (simp only [Go.Am.len_push, Go.Am.len_set, Go.Am.len_kill] <;> omega) | fail) only [push_cast, seval]
end
/-! ### none is shorter -/
def rowS {q : Int} [IsFld q] (s : List (El q)) (n i : Nat) : List (El q) := (List.range n).map fun k => wf s (i - 1 - k)
def matS {q : Int} [IsFld q] (s : List (El q)) (n t : Nat) : List (List (El q)) := (List.range t).map fun t => rowS s n (n + t)
def rhsS {q : Int} [IsFld q] (s : List (El q)) (n t : Nat) : List (El q) := (List.range t).map fun t => -wf s (n + t)
section
variable {q : Int} [IsFld q]
theorem rowS_len (s : List (El q)) (n i : Nat) : (rowS s n i).length = n := by simp [rowS]
theorem matS_len (s : List (El q)) (n t : Nat) : (matS s n t).length = t := by simp [matS]
theorem rhsS_len (s : List (El q)) (n t : Nat) : (rhsS s n t).length = t := by simp [rhsS]
theorem rowS_take (s : List (El q)) (n i k : Nat) (hk : k < n) : (rowS s n i).take (k + 1) = (rowS s n i).take k ++ [wf s (i - 1 - k)] := by
  rw [List.take_succ_eq_append_getElem (by rw [rowS_len]; exact hk)]
  simp [rowS]
/-- if the equations have an answer there is a rule so long -/
theorem sol_rule {s : List (El q)} {n : Nat} (h0 : 0 < n) (hn : n ≤ s.length) {x : List (El q)} (h : solR n (matS s n (s.length - n)) (rhsS s n (s.length - n)) = some x) : ∃ C : Nat → El q, Rule (wf s) C n s.length := by
  obtain ⟨hx, he⟩ := sol_ok (n := n) (fun r hr => by
    obtain ⟨t, _, rfl⟩ := List.mem_map.1 hr
    exact rowS_len _ _ _) (by rw [matS_len, rhsS_len]) h
  refine ⟨fun k => if k = 0 then 1 else if k ≤ n then wf x (k - 1) else 0, if_pos rfl, fun k hk => by show (if k = 0 then _ else _) = _; rw [if_neg (by omega), if_neg (by omega)], fun j h1 h2 => ?_⟩
  have hj := he (j - n) (by rw [matS_len]; omega)
  have hrow : (matS s n (s.length - n)).getD (j - n) [] = rowS s n j := by
    unfold matS
    rw [List.getD_eq_getElem?_getD, List.getElem?_map, List.getElem?_range (by omega)]
    show rowS s n (n + (j - n)) = _
    rw [show n + (j - n) = j by omega]
  have hb : wf (rhsS s n (s.length - n)) (j - n) = -wf s j := by
    unfold wf rhsS
    rw [List.getD_eq_getElem?_getD, List.getElem?_map, List.getElem?_range (by omega)]
    show -wf s (n + (j - n)) = _
    rw [show n + (j - n) = j by omega]; rfl
  rw [hrow, hb] at hj
  rw [disc_cut (L := n) (fun k hk => by show (if k = 0 then _ else _) = _; rw [if_neg (by omega), if_neg (by omega)]) h1, sumN_front]
  have hs : sumN n (fun i => (if i + 1 = 0 then (1 : El q) else if i + 1 ≤ n then wf x (i + 1 - 1) else 0) * wf s (j - (i + 1))) = sumN n fun i => wf (rowS s n j) i * wf x i := sumN_congr fun a ha => by
    rw [if_neg (by omega), if_pos (by omega), show a + 1 - 1 = a by omega, FK.mul_comm]
    have : wf (rowS s n j) a = wf s (j - 1 - a) := by
      conv => lhs; unfold wf rowS
      rw [List.getD_eq_getElem?_getD, List.getElem?_map, List.getElem?_range ha]; rfl
    rw [this, show j - (a + 1) = j - 1 - a by omega]
  rw [hs, hj, if_pos rfl, one_mul, Nat.sub_zero, FK.add_neg]
theorem zero_rule {s : List (El q)} (h : ∀ j, j < s.length → wf s j = 0) : Rule (wf s) (fun k => if k = 0 then 1 else 0) 0 s.length := by
  refine ⟨if_pos rfl, fun k hk => if_neg (by omega), fun j _ h2 => ?_⟩
  unfold disc
  rw [sumN_one (s := 0) (by omega) fun k _ hk => (by show (if k = 0 then (1 : El q) else 0) * _ = 0; rw [if_neg hk, zero_mul])]
  show (if (0 : Nat) = 0 then (1 : El q) else 0) * wf s (j - 0) = 0
  rw [if_pos rfl, one_mul, Nat.sub_zero, h j h2]
end
end Go.Proofs.Ytammndhoillliaa
namespace Go.Proofs.Ytammndhoillliaa
open Go.Am Go.Alg
set_option linter.unusedVariables false
set_option linter.unusedSimpArgs false
set_option maxRecDepth 30000

section
variable {hF : H} {q p : Int} {m : Nat} {g : Int} {mod : List Int} {om cm B : Nat} [IsFld q] {V2 V8 V9 V10 : Value}
theorem short_row {s : List (El q)} {ss : Option Addr} {sc N i : Nat} (hs : RdI hF ss sc (vs s)) (hsl : s.length ≤ 1000) (hi : i < s.length) (hNi : N ≤ i) {T0 : List (Value × Tr)} {V3 : Value} {k0 : Nat} (hk0 : T0.length = k0) :
    ∀ (n k : Nat) (s12 : Option Addr) (c12 : Nat) (G : H), k + n = N → St hF G (T0 ++ [(.slice s12 k c12, il (vs ((rowS s N i).take k)))]) →
      ∃ (s' : Option Addr) (c' : Nat) (G' : H), St hF G' (T0 ++ [(.slice s' N c', il (vs (rowS s N i)))]) ∧ ∀ ks,
        goL T [.tmp 6] [1, 2, 3, 7, 8, 9, 10, 11, 12, 13] c80L0 (.blk 4 [1, 2, 3, 7, 8, 9, 10, 11, 12] :: ks) [(1, .slice ss s.length sc), (2, V2), (3, V3), (7, .int .i64 N), (8, V8), (9, V9), (10, V10), (11, .int .i64 i), (12, .slice s12 k c12), (13, .int .i64 ((k : Int) + 1))] G =
          go T [.tmp 6] ks (Fr.of [(1, .slice ss s.length sc), (2, V2), (3, V3), (7, .int .i64 N), (8, V8), (9, V9), (10, V10), (11, .int .i64 i), (12, .slice s' N c')]) G'
  | 0, k, s12, c12, G, hk, S => by
    obtain rfl : k = N := by omega
    rw [List.take_of_length_le (by rw [rowS_len]; exact Nat.le_refl _)] at S
    refine ⟨s12, c12, G, S, fun ks => ?_⟩
    rw [goL_at c80L0.eq_def]
    simp (disch := first | omega | (simp only [Go.Am.len_push, Go.Am.len_set, Go.Am.len_kill] <;> omega) | fail) only [push_cast, seval, wrap64, dec_lt, dec_nlt, dec_le, dec_nle, dec_eq, dec_ne, if_pos, if_neg, Int.natCast_add, Int.natCast_one, Int.natCast_zero, Int.toNat_natCast]
  | n + 1, k, s12, c12, G, hk, S => by
    have IH := short_row (V3 := V3) hs hsl hi hNi hk0 n (k + 1)
    rw [rowS_take s N i k (by omega), vs_app, vs_cons, vs_nil] at IH
    obtain ⟨o1, f1, rfl, _, l1⟩ := rd_at (hs.mono S.pre) (i := i - 1 - k) (by omega)
    have hkk : (T0 ++ [(Value.slice s12 k c12, il (vs ((rowS s N i).take k)))])[k0]? = some (.slice s12 k c12, il (vs ((rowS s N i).take k))) := by subst hk0; simp
    obtain ⟨s1, G1, e1, S1⟩ := S.appI hkk (wf s (i - 1 - k)).v (by omega)
    have hset : ∀ (x y : Value × Tr), (T0 ++ [x]).set k0 y = T0 ++ [y] := fun x y => by subst hk0; simp
    rw [hset] at S1
    obtain ⟨s', c', G', k1, k2⟩ := IH s1 (k + 1) G1 (by omega) S1
    refine ⟨s', c', G', k1, fun ks => ?_⟩
    have ih := k2 ks
    rw [Int.natCast_add, Int.natCast_one] at ih
    obtain ⟨d, hd⟩ : ∃ d, d = i - 1 - k := ⟨_, rfl⟩
    have hik : (i : Int) - ((k : Int) + 1) = (d : Int) := by omega
    rw [← hd] at l1 e1
    rw [goL_at c80L0.eq_def, ← ih]
    simp (disch := first | omega | (simp only [Go.Am.len_push, Go.Am.len_set, Go.Am.len_kill] <;> omega) | fail) only [push_cast, seval, wrap64, dec_lt, dec_nlt, dec_le, dec_nle, dec_eq, dec_ne, if_pos, if_neg, Int.natCast_add, Int.natCast_one, Int.natCast_zero, Int.toNat_natCast, hik, l1, e1]
theorem matS_succ (s : List (El q)) (n t : Nat) : (matS s n (t + 1)).map vs = (matS s n t).map vs ++ [vs (rowS s n (n + t))] := by
  unfold matS; rw [List.range_succ, List.map_append, List.map_append]; rfl
theorem rhsS_succ (s : List (El q)) (n t : Nat) : vs (rhsS s n (t + 1)) = vs (rhsS s n t) ++ [(-wf s (n + t)).v] := by
  unfold rhsS; rw [List.range_succ, List.map_append, vs_app]; rfl
def zerB (s : List (El q)) (n t : Nat) : Bool := (List.range t).all fun t => decide (wf s (n + t) = 0)
theorem zerB_succ (s : List (El q)) (n t : Nat) : zerB s n (t + 1) = (zerB s n t && decide (wf s (n + t) = 0)) := by
  unfold zerB; rw [List.range_succ, List.all_append]; simp
theorem short_mat (u : RUse hF q p m g mod om cm) (hB : hF.row B = some ⟨fvL q p m g (.slice (some ⟨om, 0, none⟩) mod.length cm), 67, 0, true⟩)
    {s : List (El q)} {ss : Option Addr} {sc N : Nat} (hs : RdI hF ss sc (vs s)) (hsl : s.length ≤ 200) (hN : N ≤ s.length) :
    ∀ (n t : Nat) (s8 s9 : Option Addr) (c8 c9 : Nat) (G : H), N + t + n = s.length → St hF G [(.slice s8 t c8, ll 22 ((matS s N t).map vs)), (.slice s9 t c9, il (vs (rhsS s N t)))] →
      ∃ (s8' s9' : Option Addr) (c8' c9' : Nat) (G' : H), St hF G' [(.slice s8' (s.length - N) c8', ll 22 ((matS s N (s.length - N)).map vs)), (.slice s9' (s.length - N) c9', il (vs (rhsS s N (s.length - N))))] ∧ ∀ ks,
        goL T [.tmp 6] [1, 2, 3, 7, 8, 9, 10, 11] c80L1 (.blk 2 [1, 2, 3, 7, 8, 9, 10] :: ks) [(1, .slice ss s.length sc), (2, V2), (3, .pointer (some ⟨B, 0, none⟩)), (7, .int .i64 N), (8, .slice s8 t c8), (9, .slice s9 t c9), (10, .bool (zerB s N t)), (11, .int .i64 ((N : Int) + (t : Int)))] G =
          go T [.tmp 6] ks (Fr.of [(1, .slice ss s.length sc), (2, V2), (3, .pointer (some ⟨B, 0, none⟩)), (7, .int .i64 N), (8, .slice s8' (s.length - N) c8'), (9, .slice s9' (s.length - N) c9'), (10, .bool (zerB s N (s.length - N)))]) G'
  | 0, t, s8, s9, c8, c9, G, ht, S => by
    obtain rfl : t = s.length - N := by omega
    refine ⟨s8, s9, c8, c9, G, S, fun ks => ?_⟩
    have hw : (N : Int) + ((s.length - N : Nat) : Int) = (s.length : Int) := by omega
    rw [hw, goL_at c80L1.eq_def]
    simp (disch := first | omega | (simp only [Go.Am.len_push, Go.Am.len_set, Go.Am.len_kill] <;> omega) | fail) only [push_cast, seval, wrap64, dec_lt, dec_nlt, dec_le, dec_nle, dec_eq, dec_ne, if_pos, if_neg, Int.natCast_add, Int.natCast_one, Int.natCast_zero, Int.toNat_natCast]
  | n + 1, t, s8, s9, c8, c9, G, ht, S => by
    have IH := short_mat u hB hs hsl hN n (t + 1)
    rw [matS_succ, rhsS_succ, zerB_succ] at IH
    have S1 := S.join (St.nils (hF := G) (e := 3) (u := 1) (List.prefix_refl _))
    obtain ⟨s12, c12, G1, S2, e1⟩ := short_row (V2 := V2) (V3 := .pointer (some ⟨B, 0, none⟩)) (V8 := .slice s8 t c8) (V9 := .slice s9 t c9) (V10 := .bool (zerB s N t)) (N := N) hs (by omega) (i := N + t) (by omega) (by omega) (T0 := [_, _]) rfl N 0 none 0 G (by omega) (by rw [List.take_zero]; exact S1)
    simp only [Int.natCast_zero, Int.zero_add, Int.natCast_add] at e1
    have hrl : (vs (rowS s N (N + t))).length = N := by rw [vs_len, rowS_len]
    obtain ⟨s8', G2, e2, S3⟩ := St.pushL (k := 0) (L := [_, _]) (l := vs (rowS s N (N + t))) (by rw [hrl]; exact S2) rfl (by simp) (by omega)
    rw [hrl] at e2
    have lB := lds_all (row_keep' hB S3.pre) (n := 5) rfl
    obtain ⟨o1, f1, rfl, _, l1⟩ := rd_at (hs.mono S3.pre) (i := N + t) (by omega)
    obtain ⟨G3, p3, e3⟩ := rneg_call (u.mono S3.pre) (wf s (N + t)).v
    rw [← v_neg] at e3
    obtain ⟨s9', G4, e4, S4⟩ := (S3.grow p3).appI (k := 1) rfl (-wf s (N + t)).v (by omega)
    obtain ⟨_, _, he, _, l2⟩ := rd_at (hs.mono S4.pre) (i := N + t) (by omega)
    cases he
    obtain ⟨s8'', s9'', c8', c9', G', k1, k2⟩ := IH s8' s9' (t + 1) (t + 1) G4 (by omega) S4
    refine ⟨s8'', s9'', c8', c9', G', k1, fun ks => ?_⟩
    have ih := k2 ks
    rw [Int.natCast_add, Int.natCast_one, ← Int.add_assoc] at ih
    have hnt : ((N : Int) + (t : Int)).toNat = N + t := by omega
    rw [goL_at c80L1.eq_def, ← ih]
    simp (disch := first | omega | (simp only [Go.Am.len_push, Go.Am.len_set, Go.Am.len_kill] <;> omega) | fail) only [push_cast, seval, wrap64, dec_lt, dec_nlt, dec_le, dec_nle, dec_eq, dec_ne, if_pos, if_neg, Int.natCast_add, Int.natCast_one, Int.natCast_zero, Int.toNat_natCast]
    rw [e1]
    cases hz : zerB s N t with
    | true =>
      by_cases h0 : wf s (N + t) = 0
      · have hv := v_z h0
        rw [hv] at l1 l2 e3
        rw [decide_eq_true h0]
        simp (disch := first | omega | (simp only [Go.Am.len_push, Go.Am.len_set, Go.Am.len_kill] <;> omega) | fail) only [push_cast, seval, wrap64, dec_lt, dec_nlt, dec_le, dec_nle, dec_eq, dec_ne, if_pos, if_neg, Int.natCast_add, Int.natCast_one, Int.natCast_zero, Int.toNat_natCast, e2, hnt, lB, l1, e3, e4, l2]
      · rw [decide_eq_false h0]
        simp (disch := first | omega | (simp only [Go.Am.len_push, Go.Am.len_set, Go.Am.len_kill] <;> omega) | fail) only [push_cast, seval, wrap64, dec_lt, dec_nlt, dec_le, dec_nle, dec_eq, dec_ne, if_pos, if_neg, Int.natCast_add, Int.natCast_one, Int.natCast_zero, Int.toNat_natCast, e2, hnt, lB, l1, e3, e4, l2, dec_ne (v_ne h0)]
    | false =>
      simp (disch := first | omega | (simp only [Go.Am.len_push, Go.Am.len_set, Go.Am.len_kill] <;> omega) | fail) only [push_cast, seval, wrap64, dec_lt, dec_nlt, dec_le, dec_nle, dec_eq, dec_ne, if_pos, if_neg, Int.natCast_add, Int.natCast_one, Int.natCast_zero, Int.toNat_natCast, e2, hnt, lB, l1, e3, e4]
theorem short_loop (u : RUse hF q p m g mod om cm) (hB : hF.row B = some ⟨fvL q p m g (.slice (some ⟨om, 0, none⟩) mod.length cm), 67, 0, true⟩)
    {s : List (El q)} {ss : Option Addr} {sc l : Nat} (hs : RdI hF ss sc (vs s)) (hsl : s.length ≤ 200) (hl : l ≤ s.length) (hlow : ∀ (C' : Nat → El q) (L' : Nat), Rule (wf s) C' L' s.length → l ≤ L') :
    ∀ (n N : Nat) (G : H), N + n = l → hF <+: G → ∃ G' : H, hF <+: G' ∧ ∀ ks,
      goL T [.tmp 6] [1, 2, 3, 7] c80L2 (.blk 0 [] :: ks) [(1, .slice ss s.length sc), (2, .int .i64 l), (3, .pointer (some ⟨B, 0, none⟩)), (7, .int .i64 N)] G =
        go T [.tmp 6] ks (Fr.of []) G'
  | 0, N, G, hN, hp => by
    refine ⟨G, hp, fun ks => ?_⟩
    rw [goL_at c80L2.eq_def]
    simp (disch := first | omega | (simp only [Go.Am.len_push, Go.Am.len_set, Go.Am.len_kill] <;> omega) | fail) only [push_cast, seval, wrap64, dec_lt, dec_nlt, dec_le, dec_nle, dec_eq, dec_ne, if_pos, if_neg, Int.natCast_add, Int.natCast_one, Int.natCast_zero, Int.toNat_natCast]
  | n + 1, N, G, hN, hp => by
    have IH := short_loop u hB hs hsl hl hlow n (N + 1)
    have S0 : St G G [(.slice none 0 0, ll 22 ((matS s N 0).map vs)), (.slice none 0 0, il (vs (rhsS s N 0)))] := St.join (L := [_]) (M := [_]) (St.nils (List.prefix_refl _)) (St.nils (List.prefix_refl _))
    obtain ⟨s8, s9, c8, c9, G1, S1, e1⟩ := short_mat (V2 := .int .i64 l) (u.mono hp) (row_keep' hB hp) (hs.mono hp) hsl (N := N) (by omega) (s.length - N) 0 none none 0 0 G (by omega) S0
    simp only [Int.natCast_zero, Int.add_zero, show zerB s N 0 = true from rfl] at e1
    by_cases hN0 : N = 0
    · subst hN0
      have hz : zerB s 0 (s.length - 0) = false := by
        cases hz : zerB s 0 (s.length - 0) with
        | false => rfl
        | true =>
          have := hlow _ _ (zero_rule (s := s) fun j hj => by
            have := List.all_eq_true.1 hz j (List.mem_range.2 (by omega))
            have := of_decide_eq_true this
            rwa [Nat.zero_add] at this)
          omega
      rw [hz] at e1
      obtain ⟨G', k1, k2⟩ := IH G1 (by omega) (hp.trans S1.pre)
      refine ⟨G', k1, fun ks => ?_⟩
      have ih := k2 ks
      rw [Int.natCast_add, Int.natCast_one] at ih
      rw [goL_at c80L2.eq_def, ← ih]
      simp (disch := first | omega | (simp only [Go.Am.len_push, Go.Am.len_set, Go.Am.len_kill] <;> omega) | fail) only [push_cast, seval, wrap64, dec_lt, dec_nlt, dec_le, dec_nle, dec_eq, dec_ne, if_pos, if_neg, Int.natCast_add, Int.natCast_one, Int.natCast_zero, Int.toNat_natCast]
      simp only [Int.natCast_zero] at e1
      rw [e1]
      simp (disch := first | omega | (simp only [Go.Am.len_push, Go.Am.len_set, Go.Am.len_kill] <;> omega) | fail) only [push_cast, seval, wrap64, dec_lt, dec_nlt, dec_le, dec_nle, dec_eq, dec_ne, if_pos, if_neg, Int.natCast_add, Int.natCast_one, Int.natCast_zero, Int.toNat_natCast]
    · obtain ⟨hM, _⟩ := S1.rdL (k := 0) rfl
      have lB := lds_all (row_keep' hB (hp.trans S1.pre)) (n := 5) rfl
      have hsol : solR N (matS s N (s.length - N)) (rhsS s N (s.length - N)) = none := by
        cases h : solR N (matS s N (s.length - N)) (rhsS s N (s.length - N)) with
        | none => rfl
        | some x =>
          obtain ⟨C, hC⟩ := sol_rule (by omega) (by omega) h
          have := hlow C N hC
          omega
      obtain ⟨G2, p2, e2⟩ := rsolve_call (N := N) (u.mono (hp.trans S1.pre)) hM (S1.rd (k := 1) rfl) (by rw [matS_len, rhsS_len]) (fun r hr => by
        obtain ⟨t, _, rfl⟩ := List.mem_map.1 hr
        exact rowS_len _ _ _) (by rw [matS_len]; omega) (by rw [matS_len]; omega) (by omega)
      rw [hsol, matS_len, rhsS_len] at e2
      obtain ⟨G', k1, k2⟩ := IH G2 (by omega) (hp.trans (S1.pre.trans p2))
      refine ⟨G', k1, fun ks => ?_⟩
      have ih := k2 ks
      rw [Int.natCast_add, Int.natCast_one] at ih
      obtain ⟨D, hD⟩ : ∃ D, D = s.length - N := ⟨_, rfl⟩
      have hD0 : ¬ (D : Int) = 0 := by omega
      have hNi : ¬ (N : Int) = 0 := by omega
      rw [← hD] at e1 e2
      rw [goL_at c80L2.eq_def, ← ih]
      simp (disch := first | omega | (simp only [Go.Am.len_push, Go.Am.len_set, Go.Am.len_kill] <;> omega) | fail) only [push_cast, seval, wrap64, dec_lt, dec_nlt, dec_le, dec_nle, dec_eq, dec_ne, if_pos, if_neg, Int.natCast_add, Int.natCast_one, Int.natCast_zero, Int.toNat_natCast]
      rw [e1]
      simp (disch := first | omega | (simp only [Go.Am.len_push, Go.Am.len_set, Go.Am.len_kill] <;> omega) | fail) only [push_cast, seval, wrap64, dec_lt, dec_nlt, dec_le, dec_nle, dec_eq, dec_ne, if_pos, if_neg, Int.natCast_add, Int.natCast_one, Int.natCast_zero, Int.toNat_natCast, dec_ne hNi, dec_ne hD0, lB, e2]
end
section
variable {h : H} {q p : Int} {m : Nat} {g : Int} {mod : List Int} {om cm : Nat} [IsFld q]
theorem rshort_call (u : RUse h q p m g mod om cm) {s : List (El q)} {ss : Option Addr} {sc l : Nat} (hs : RdI h ss sc (vs s)) (hsl : s.length ≤ 200) (hl : l ≤ s.length) (hlow : ∀ (C' : Nat → El q) (L' : Nat), Rule (wf s) C' L' s.length → l ≤ L') :
    ∃ G : H, h <+: G ∧ call T 80 [rv q p m g mod om cm, .slice ss s.length sc, .int .i64 l] h = some (.bool true, G) := by
  obtain ⟨h1, eh1, p1, hB⟩ := box_mk (h := h) (q := q) (p := p) (m := m) (g := g) (mod := mod) (om := om) (cm := cm)
  obtain ⟨G, k1, k2⟩ := short_loop (u.mono p1) hB (hs.mono p1) hsl hl hlow l 0 h1 (by omega) (List.prefix_refl _)
  simp only [Int.natCast_zero] at k2
  refine ⟨G, p1.trans k1, ?_⟩
  rw [call_at T80 rfl]
  unfold F80 c80
  simp (disch := first | omega | (simp only [Go.Am.len_push, Go.Am.len_set, Go.Am.len_kill] <;> omega) | fail) only [push_cast, seval, eh1]
  rw [k2]
  simp (disch := first | omega | (simp only [Go.Am.len_push, Go.Am.len_set, Go.Am.len_kill] <;> omega) | fail) only [push_cast, seval]
end
end Go.Proofs.Ytammndhoillliaa
namespace Go.Proofs.Ytammndhoillliaa
open Go.Am
set_option linter.unusedVariables false
set_option linter.unusedSimpArgs false
set_option maxRecDepth 30000

section
variable {q p g : Int} {m : Nat} {mod : List Int} {om cm B : Nat} {h1 : H}
/-! ### may it be? -/
theorem rmay_loop (hB : h1.row B = some ⟨fvL q p m g (.slice (some ⟨om, 0, none⟩) mod.length cm), 67, 0, true⟩) {sa : Option Addr} {c : Nat} {l : List Int} (hr : RdI h1 sa c l) (hl : l.length ≤ 1000000) : ∀ (n i : Nat) (G : H), i + n = l.length → h1 <+: G →
    ∃ G' : H, h1 <+: G' ∧ ∀ ks, goL T [.tmp 4] [1, 5, 7] c76L0 (.blk 0 [] :: ks) [(1, .slice sa l.length c), (5, .pointer (some ⟨B, 0, none⟩)), (7, .int .i64 i)] G =
      if anyF (fun v => !fok q v) l n i = true then some (.int .i64 2, G') else go T [.tmp 4] ks (Fr.of []) G'
  | 0, i, G, hi, hp => by
    refine ⟨G, hp, fun ks => ?_⟩
    rw [goL_at c76L0.eq_def, anyF, if_neg (by decide)]
    simp (disch := first | omega | (simp only [Go.Am.len_push, Go.Am.len_set, Go.Am.len_kill] <;> omega) | fail) only [push_cast, seval, wrap64, dec_lt, dec_nlt, dec_le, dec_nle, dec_eq, dec_ne, if_pos, if_neg, Int.natCast_add, Int.natCast_one, Int.natCast_zero, Int.toNat_natCast]
  | n + 1, i, G, hi, hp => by
    have IH := rmay_loop hB hr hl n (i + 1)
    obtain ⟨o, off, rfl, _, l1⟩ := (hr.mono hp).at (i := i) (by omega)
    have l2 := lds_all (row_pre hB hp) (n := 5) rfl
    have e1 := rhas_call (q := q) (p := p) (m := m) (g := g) (mod := mod) (om := om) (cm := cm) (h := G) (gi l i)
    obtain ⟨G1, eG1⟩ : ∃ G1 : H, G1 = G ++ [rvR q p m g mod om cm] := ⟨_, rfl⟩
    rw [← eG1] at e1
    have p1 : G <+: G1 := by rw [eG1]; exact List.prefix_append _ _
    have hd : decide (B < G.length) = true := decide_eq_true (row_some_lt (row_pre hB hp))
    obtain ⟨G', k1, k2⟩ := IH G1 (by omega) (hp.trans p1)
    rw [anyF]
    cases hk : fok q (gi l i) with
    | true =>
      rw [hk] at e1
      refine ⟨G', k1, fun ks => ?_⟩
      have ih := k2 ks
      rw [Int.natCast_add, Int.natCast_one] at ih
      rw [goL_at c76L0.eq_def, Bool.not_true, Bool.false_or, ← ih]
      simp (disch := first | omega | (simp only [Go.Am.len_push, Go.Am.len_set, Go.Am.len_kill] <;> omega) | fail) only [push_cast, seval, wrap64, dec_lt, dec_nlt, dec_le, dec_nle, dec_eq, dec_ne, if_pos, if_neg, Int.natCast_add, Int.natCast_one, Int.natCast_zero, Int.toNat_natCast, l1, l2, e1, behind_true p1, hd]
    | false =>
      rw [hk] at e1
      refine ⟨G1, hp.trans p1, fun ks => ?_⟩
      rw [goL_at c76L0.eq_def, Bool.not_false, Bool.true_or, if_pos rfl]
      simp (disch := first | omega | (simp only [Go.Am.len_push, Go.Am.len_set, Go.Am.len_kill] <;> omega) | fail) only [push_cast, seval, wrap64, dec_lt, dec_nlt, dec_le, dec_nle, dec_eq, dec_ne, if_pos, if_neg, Int.natCast_add, Int.natCast_one, Int.natCast_zero, Int.toNat_natCast, l1, l2, e1, behind_true p1, hd]
end
theorem rmay_call (q : Int) {h : H} {sa : Option Addr} {c : Nat} {l : List Int} (hr : RdI h sa c l) (hl : l.length ≤ 9223372036854775807) : ∃ h' : H, h <+: h' ∧ call T 76 [.int .i64 q, .slice sa l.length c] h = some (.int .i64 (pokE q l), h') := by
  unfold pokE
  cases hn : fldN q.toNat with
  | none =>
    obtain ⟨h1, p1, e1⟩ := field_none q hn h
    obtain ⟨h2, eh2⟩ : ∃ h2 : H, h2 = h1 ++ [zrR] := ⟨_, rfl⟩
    have r2 : h2.row h1.length = some ⟨fvL 0 0 0 0 (.slice none 0 0), 67, 0, true⟩ := by rw [eh2]; exact row_push_new
    have s2 := sts_whole (vs := fvL 0 0 0 0 (.slice none 0 0)) r2 rfl
    refine ⟨h2.set h1.length zrR, by rw [eh2, set_push]; exact pre_push p1, ?_⟩
    rw [call_at T76 rfl]
    unfold F76 c76
    simp (disch := first | omega | (simp only [Go.Am.len_push, Go.Am.len_set, Go.Am.len_kill] <;> omega) | fail) only [push_cast, seval, e1, ← eh2, s2]
  | some x =>
    obtain ⟨p, m, g, mod⟩ := x
    obtain ⟨h1, om, cm, p1, rm1, e1⟩ := field_some q hn h
    obtain ⟨h2, eh2⟩ : ∃ h2 : H, h2 = h1 ++ [zrR] := ⟨_, rfl⟩
    have r2 : h2.row h1.length = some ⟨fvL 0 0 0 0 (.slice none 0 0), 67, 0, true⟩ := by rw [eh2]; exact row_push_new
    have s2 := sts_whole (vs := fvL q p m g (.slice (some ⟨om, 0, none⟩) mod.length cm)) r2 rfl
    obtain ⟨h3, eh3⟩ : ∃ h3 : H, h3 = h2.set h1.length (rvR q p m g mod om cm) := ⟨_, rfl⟩
    rw [← eh3] at s2
    have p3 : h1 <+: h3 := by rw [eh3, eh2, set_push]; exact List.prefix_append _ _
    have r3 : h3.row h1.length = some ⟨fvL q p m g (.slice (some ⟨om, 0, none⟩) mod.length cm), 67, 0, true⟩ := by rw [eh3]; exact row_set_same (row_some_lt r2)
    simp only
    by_cases h128 : 128 < l.length
    · rw [if_pos h128]
      refine ⟨h3, p1.trans p3, ?_⟩
      rw [call_at T76 rfl]
      unfold F76 c76
      simp (disch := first | omega | (simp only [Go.Am.len_push, Go.Am.len_set, Go.Am.len_kill] <;> omega) | fail) only [push_cast, seval, wrap64, dec_lt, dec_nlt, dec_le, dec_nle, dec_eq, dec_ne, if_pos, if_neg, Int.natCast_add, Int.natCast_one, Int.natCast_zero, Int.toNat_natCast, e1, ← eh2, s2]
    · rw [if_neg h128]
      obtain ⟨G', k1, e2⟩ := rmay_loop r3 (hr.mono (p1.trans p3)) (by omega) l.length 0 h3 (by omega) (List.prefix_refl _)
      rw [anyF_all] at e2
      simp only [Int.natCast_zero] at e2
      refine ⟨G', (p1.trans p3).trans k1, ?_⟩
      rw [call_at T76 rfl]
      unfold F76 c76
      simp (disch := first | omega | (simp only [Go.Am.len_push, Go.Am.len_set, Go.Am.len_kill] <;> omega) | fail) only [push_cast, seval, wrap64, dec_lt, dec_nlt, dec_le, dec_nle, dec_eq, dec_ne, if_pos, if_neg, Int.natCast_add, Int.natCast_one, Int.natCast_zero, Int.toNat_natCast, e1, ← eh2, s2]
      rw [e2]
      cases ha : l.any fun v => !fok q v with
      | true => rw [if_pos rfl, if_pos rfl]
      | false => rw [if_neg (by decide), if_neg (by decide)]; simp (disch := first | omega | (simp only [Go.Am.len_push, Go.Am.len_set, Go.Am.len_kill] <;> omega) | fail) only [push_cast, seval]

end Go.Proofs.Ytammndhoillliaa
namespace Go.Proofs.Ytammndhoillliaa
open Go.Am
set_option linter.unusedVariables false
set_option linter.unusedSimpArgs false
set_option maxRecDepth 30000

/-- the sizes of fields from one on -/
def sizesN : Nat → Nat → List Int
  | 0, _ => []
  | n + 1, q => bif (fldN q).isSome then (q : Int) :: sizesN n (q + 1) else sizesN n (q + 1)
def sizesL : List Int := sizesN 63 2
theorem sizes_len : sizesL.length = 27 := by kernel_rfl
theorem sizes_all : (sizesL.all fun z => decide (2 ≤ z) && decide (z ≤ 64) && (fldN z.toNat).isSome) = true := by kernel_rfl
theorem sizes_mem {z : Int} (hz : z ∈ sizesL) : 2 ≤ z ∧ z ≤ 64 ∧ (fldN z.toNat).isSome = true := by
  have := List.all_eq_true.1 sizes_all z hz
  simp only [Bool.and_eq_true, decide_eq_true_eq] at this
  exact ⟨this.1.1, this.1.2, this.2⟩

theorem sizes_loop (h : H) : ∀ (n q : Nat) (zs : List Int) (sa : Option Addr) (c : Nat) (G : H), q + n = 65 → 2 ≤ q → zs.length ≤ q → h <+: G → Grown G sa c zs h.length →
    ∃ (sa' : Option Addr) (c' : Nat) (G' : H), h <+: G' ∧ Grown G' sa' c' (zs ++ sizesN n q) h.length ∧
      ∀ ks, goL T [.tmp 0] [1, 2] c73L0 (.blk 0 [1] :: ks) [(1, .slice sa zs.length c), (2, .int .i64 q)] G = go T [.tmp 0] ks (Fr.of [(1, .slice sa' (zs ++ sizesN n q).length c')]) G'
  | 0, q, zs, sa, c, G, hq, hq2, hz, hp, hg => by
    refine ⟨sa, c, G, hp, by rw [sizesN, List.append_nil]; exact hg, fun ks => ?_⟩
    rw [goL_at c73L0.eq_def]
    have : (64 : Int) < (q : Int) := by omega
    simp (disch := first | omega | (simp only [Go.Am.len_push, Go.Am.len_set, Go.Am.len_kill] <;> omega) | fail) only [push_cast, seval, dec_nle, sizesN, List.append_nil]
  | n + 1, q, zs, sa, c, G, hq, hq2, hz, hp, hg => by
    have hle : (q : Int) ≤ 64 := by omega
    cases hs : fldN q with
    | none =>
      have ho := fld_none (n := q) hq2 (by omega) hs
      have ep := prime_call (q : Int) (by omega) G _ ho
      obtain ⟨sa2, c2, G2, p2, hg2, ih⟩ := sizes_loop h n (q + 1) zs sa c G (by omega) (by omega) (by omega) hp hg
      have hw : zs ++ sizesN (n + 1) q = zs ++ sizesN n (q + 1) := by rw [sizesN, hs]; rfl
      refine ⟨sa2, c2, G2, p2, by rw [hw]; exact hg2, fun ks => ?_⟩
      have ih' := ih ks
      rw [Int.natCast_add, Int.natCast_one] at ih'
      rw [hw, ← ih', goL_at c73L0.eq_def]
      simp (disch := first | omega | (simp only [Go.Am.len_push, Go.Am.len_set, Go.Am.len_kill] <;> omega) | fail) only [push_cast, seval, dec_le hle, ep, wrap64, decide_false, Int.lt_irrefl]
    | some x =>
      obtain ⟨p, m, g, mod⟩ := x
      obtain ⟨hf, ho, _⟩ := fld_ok hs
      have hp2 := hf.p2
      have ep := prime_call (q : Int) (by omega) G _ ho
      obtain ⟨sa1, G1, ea, hg1, hl1, _, hpre⟩ := hg.one (y := (q : Int)) (by omega) (pre_len hp)
      obtain ⟨sa2, c2, G2, p2, hg2, ih⟩ := sizes_loop h n (q + 1) (zs ++ [(q : Int)]) sa1 (zs.length + 1) G1 (by omega) (by omega) (by simp; omega) (hpre h (Nat.le_refl _) hp) hg1
      have hw : zs ++ sizesN (n + 1) q = zs ++ [(q : Int)] ++ sizesN n (q + 1) := by rw [sizesN, hs]; simp
      refine ⟨sa2, c2, G2, p2, by rw [hw]; exact hg2, fun ks => ?_⟩
      have ih' := ih ks
      rw [Int.natCast_add, Int.natCast_one] at ih'
      rw [hw, ← ih', goL_at c73L0.eq_def]
      have hlen : (zs ++ [(q : Int)]).length = zs.length + 1 := by simp
      have hpp : 0 < p := by omega
      simp (disch := first | omega | (simp only [Go.Am.len_push, Go.Am.len_set, Go.Am.len_kill] <;> omega) | fail) only [push_cast, seval, dec_le hle, ep, dec_lt hpp, ea, hlen, wrap64]
theorem sizes_call (h : H) : ∃ (o c : Nat) (h' : H), h <+: h' ∧ RdI h' (some ⟨o, 0, none⟩) c sizesL ∧ call T 73 [] h = some (.slice (some ⟨o, 0, none⟩) 27 c, h') := by
  obtain ⟨sa, c, G, p1, hg, lo⟩ := sizes_loop h 63 2 [] none 0 h rfl (by omega) (by simp) (List.prefix_refl _) .nil
  rw [List.nil_append] at hg lo
  change Grown G sa c sizesL h.length at hg
  obtain ⟨o, rfl, _, _, ro⟩ : ∃ o, sa = some ⟨o, 0, none⟩ ∧ h.length ≤ o ∧ c = sizesL.length ∧ G.row o = some ⟨ints sizesL, 3, 1, true⟩ := by
    rcases hg with ⟨_, _, h0⟩ | h0
    · have := sizes_len; rw [h0] at this; cases this
    · exact h0
  refine ⟨o, c, G, p1, by have := RdI.ofRow ro rfl; subst c; exact this, ?_⟩
  have hl : (sizesN 63 2).length = 27 := sizes_len
  rw [call_at T73 rfl]
  unfold F73 c73
  rw [hl] at lo
  rw [show ((2 : Nat) : Int) = 2 from rfl, List.length_nil] at lo
  simp (disch := first | omega | (simp only [Go.Am.len_push, Go.Am.len_set, Go.Am.len_kill] <;> omega) | fail) only [push_cast, seval]
  rw [lo]
  simp (disch := first | omega | (simp only [Go.Am.len_push, Go.Am.len_set, Go.Am.len_kill] <;> omega) | fail) only [push_cast, seval]
theorem sizeOf_call (c : Int) (h1 : -9223372036854775808 ≤ c) (h2 : c ≤ 9223372036854775807) (h : H) : ∃ (z : Int) (h' : H), h <+: h' ∧ z ∈ sizesL ∧ call T 81 [.int .i64 c] h = some (.int .i64 z, h') := by
  obtain ⟨o, c', G, p1, rs, e1⟩ := sizes_call h
  have e2 := pick_call c 100 h1 h2 (by omega) (by omega) G
  have r1 := pickI_ok (a := c) (n := 100) (by omega)
  have hsl := sizes_len
  obtain ⟨k, hk⟩ : ∃ k, k = pickI c 100 := ⟨_, rfl⟩
  rw [← hk] at e2 r1
  by_cases h60 : k < 60
  · have b1 : 0 ≤ k.tmod 7 := Int.tmod_nonneg _ (by omega)
    have b2 : k.tmod 7 < 7 := Int.tmod_lt_of_pos _ (by omega)
    have l1 := rs.ld (i := k.tmod 7) b1 (by rw [hsl]; omega)
    rw [Nat.zero_add] at l1
    refine ⟨gi sizesL (k.tmod 7), G, p1, gi_mem b1 (by rw [hsl]; omega), ?_⟩
    rw [call_at T81 rfl]
    unfold F81 c81
    simp (disch := first | omega | (simp only [Go.Am.len_push, Go.Am.len_set, Go.Am.len_kill] <;> omega) | fail) only [push_cast, seval, wrap64, dec_lt, dec_nlt, dec_le, dec_nle, dec_eq, dec_ne, if_pos, if_neg, Int.natCast_add, Int.natCast_one, Int.natCast_zero, Int.toNat_natCast, e1, e2, l1]
  · have hq := wrap_i64_in (c.tdiv 100)
    have e3 := pick_call (IntKind.wrap .i64 (c.tdiv 100)) 27 hq.1 hq.2 (by omega) (by omega) G
    have r2 := pickI_ok (a := IntKind.wrap .i64 (c.tdiv 100)) (n := 27) (by omega)
    obtain ⟨j, hj⟩ : ∃ j, j = pickI (IntKind.wrap .i64 (c.tdiv 100)) 27 := ⟨_, rfl⟩
    rw [← hj] at e3 r2
    have l1 := rs.ld (i := j) r2.1 (by rw [hsl]; omega)
    rw [Nat.zero_add] at l1
    have hc : ((27 : Nat) : Int) = 27 := rfl
    refine ⟨gi sizesL j, G, p1, gi_mem r2.1 (by rw [hsl]; omega), ?_⟩
    obtain ⟨w, hw⟩ : ∃ w, w = IntKind.wrap .i64 (c.tdiv 100) := ⟨_, rfl⟩
    rw [← hw] at e3
    rw [call_at T81 rfl]
    unfold F81 c81
    simp (disch := first | omega | fail) only [← hw, Int.reduceMul, push_cast, Nat.reduceBEq, Nat.reduceAdd, Nat.zero_add, e1, e2, e3, hc, l1, dec_nlt, dec_lt, List.getElem?_cons_zero, List.getElem?_cons_succ, List.map_cons, List.map_nil, r2, and_self, if_pos, Int.reduceEq, not_false_iff, if_neg, eq_self, Nat.mul_one, Nat.add_zero]
end Go.Proofs.Ytammndhoillliaa
namespace Go.Proofs.Ytammndhoillliaa
open Go.Am Go.Alg
set_option linter.unusedVariables false
set_option linter.unusedSimpArgs false
set_option maxRecDepth 30000

theorem any_vs {q : Int} (l : List (El q)) : ((vs l).any fun v => !fok q v) = false := by
  rw [List.any_eq_false]
  intro v hv
  rw [allF_vs l v hv]; decide
theorem reedRules_call {h : H} (q : Int) {l : List Int} {sa : Option Addr} {c : Nat} (hr : RdI h sa c l) (hl : l.length ≤ 9223372036854775807) : ∃ h' : H, call T 11 [.int .i64 q, .slice sa l.length c] h = some (.bool true, h') := by
  by_cases h24 : 24 < l.length ∧ l.length ≤ 128
  · refine ⟨h, ?_⟩
    rw [call_at T11 rfl]
    unfold F11 c11
    simp (disch := first | omega | (simp only [Go.Am.len_push, Go.Am.len_set, Go.Am.len_kill] <;> omega) | fail) only [push_cast, seval, wrap64, dec_lt, dec_nlt, dec_le, dec_nle, dec_eq, dec_ne, if_pos, if_neg, Int.natCast_add, Int.natCast_one, Int.natCast_zero, Int.toNat_natCast]
  obtain ⟨h1, p1, e1⟩ := rmay_call q hr hl
  by_cases he : pokE q l = 0
  · obtain ⟨⟨x, hx⟩, hl128, hall⟩ := pokE_ok he
    obtain ⟨p, m, g, mod⟩ := x
    haveI : IsFld q := ⟨p, m, g, mod, hx⟩
    obtain ⟨s, rfl⟩ := vs_lift hall
    rw [vs_len] at h24 hl128
    rw [vs_len] at e1 ⊢
    rw [he] at e1
    obtain ⟨C, B, gap, n, last, s4, c4, h2, M, S, e2⟩ := massey_ok (hr.mono p1) (by omega)
    obtain ⟨h3, om, cm, p3, rm3, e3⟩ := field_some q hx h2
    obtain ⟨h4, eh4⟩ : ∃ h4 : H, h4 = h3 ++ [zrR] := ⟨_, rfl⟩
    have r4 : h4.row h3.length = some ⟨fvL 0 0 0 0 (.slice none 0 0), 67, 0, true⟩ := by rw [eh4]; exact row_push_new
    have s4' := sts_whole (vs := fvL q p m g (.slice (some ⟨om, 0, none⟩) mod.length cm)) r4 rfl
    obtain ⟨h5, eh5⟩ : ∃ h5 : H, h5 = h4.set h3.length (rvR q p m g mod om cm) := ⟨_, rfl⟩
    rw [← eh5] at s4'
    have p5 : h3 <+: h5 := by rw [eh5, eh4, set_push]; exact List.prefix_append _ _
    have r5 : h5.row h3.length = some ⟨fvL q p m g (.slice (some ⟨om, 0, none⟩) mod.length cm), 67, 0, true⟩ := by rw [eh5]; exact row_set_same (row_some_lt r4)
    have u : RUse h5 q p m g mod om cm := ⟨hx, rm3.mono p5⟩
    have hC := (S.rd (k := 0) rfl).mono (p3.trans p5)
    have hs := hr.mono (p1.trans (S.pre.trans (p3.trans p5)))
    have hle := M.mas.le
    have hCl : C.length ≤ n + 1 := by
      refine Nat.le_of_not_lt fun hlt => ?_
      have h1 := M.tr (by rw [vs_len]; omega)
      rw [vs_len, gi_wf] at h1
      exact h1 (v_z (M.mas.rule.end' _ (by omega)))
    obtain ⟨h6, p6, e6⟩ := relem_call (q := q) (p := p) (m := m) (g := g) (mod := mod) (om := om) (cm := cm) hC (by rw [vs_len]; have := M.cl; omega)
    rw [any_vs, vs_len] at e6
    obtain ⟨h7, p7, e7⟩ := rrules_call (u.mono p6) (hC.mono p6) (hs.mono p6) (by omega) hCl hle M.mas.rule.one M.tr M.mas.rule.holds
    obtain ⟨h8, p8, e8⟩ := rshort_call (u.mono (p6.trans p7)) (hs.mono (p6.trans p7)) (by omega) hle M.mas.low
    have lB5 := lds_all r5 (n := 5) rfl
    have lB6 := lds_all (row_keep' r5 p6) (n := 5) rfl
    have lB7 := lds_all (row_keep' r5 (p6.trans p7)) (n := 5) rfl
    refine ⟨h8, ?_⟩
    rw [call_at T11 rfl]
    unfold F11 c11
    by_cases h0 : s.length ≤ 24
    · simp (disch := first | omega | (simp only [Go.Am.len_push, Go.Am.len_set, Go.Am.len_kill] <;> omega) | fail) only [push_cast, seval, wrap64, dec_lt, dec_nlt, dec_le, dec_nle, dec_eq, dec_ne, if_pos, if_neg, Int.natCast_add, Int.natCast_one, Int.natCast_zero, Int.toNat_natCast, e1, e2, e3, ← eh4, s4', lB5, e6, lB6, e7, lB7, e8]
    · omega
  · obtain ⟨h2, p2, e2⟩ := massey_bad (hr.mono p1) hl he
    refine ⟨h2, ?_⟩
    rw [call_at T11 rfl]
    unfold F11 c11
    by_cases h0 : l.length ≤ 24
    · simp (disch := first | omega | (simp only [Go.Am.len_push, Go.Am.len_set, Go.Am.len_kill] <;> omega) | fail) only [push_cast, seval, wrap64, dec_lt, dec_nlt, dec_le, dec_nle, dec_eq, dec_ne, if_pos, if_neg, Int.natCast_add, Int.natCast_one, Int.natCast_zero, Int.toNat_natCast, e1, e2, dec_ne he]
    · simp (disch := first | omega | (simp only [Go.Am.len_push, Go.Am.len_set, Go.Am.len_kill] <;> omega) | fail) only [push_cast, seval, wrap64, dec_lt, dec_nlt, dec_le, dec_nle, dec_eq, dec_ne, if_pos, if_neg, Int.natCast_add, Int.natCast_one, Int.natCast_zero, Int.toNat_natCast, e1, e2, dec_ne he]
theorem reedRules_law (h : H) (q : Int) (hq1 : -9223372036854775808 ≤ q) (hq2 : q ≤ 9223372036854775807) (sa : Option Addr) (c : Nat) (l : List Int) (hr : RdI h sa c l) (hu : unitOk h 1 sa = true) (hl : l.length ≤ 9223372036854775807) :
    ∃ h' : H, call T 11 [.int .i64 q, .slice sa l.length c] h = some (.bool true, h') := reedRules_call q hr hl
theorem reedRulesMade_law (h : H) (sa : Option Addr) (c : Nat) (raw : List Int) (hr : RdI h sa c raw) (hu : unitOk h 1 sa = true) (hl : raw.length ≤ 9223372036854775807) (q : Int) (hq1 : -9223372036854775808 ≤ q) (hq2 : q ≤ 9223372036854775807) (n : Int) (hn1 : -9223372036854775808 ≤ n) (hn2 : n ≤ 9223372036854775807) :
    ∃ h' : H, call T 12 [.slice sa raw.length c, .int .i64 q, .int .i64 n] h = some (.bool true, h') := by
  by_cases h256 : 256 < raw.length
  · refine ⟨h, ?_⟩
    rw [call_at T12 rfl]
    unfold F12 c12
    simp (disch := first | omega | (simp only [Go.Am.len_push, Go.Am.len_set, Go.Am.len_kill] <;> omega) | fail) only [push_cast, seval, wrap64, dec_lt, dec_nlt, dec_le, dec_nle, dec_eq, dec_ne, if_pos, if_neg, Int.natCast_add, Int.natCast_one, Int.natCast_zero, Int.toNat_natCast]
  obtain ⟨z, h1, p1, hz, e1⟩ := sizeOf_call q hq1 hq2 h
  obtain ⟨z2, z64, _⟩ := sizes_mem hz
  have e2 := pick_call n 15 hn1 hn2 (by omega) (by omega) h1
  have r2 := pickI_ok (a := n) (n := 15) (by omega)
  obtain ⟨k, hk⟩ : ∃ k : Nat, pickI n 15 = k := ⟨(pickI n 15).toNat, by omega⟩
  rw [hk] at e2 r2
  obtain ⟨s', c', h2, p2, g2, e3⟩ := nums_call (hr.mono p1) (by omega) (frm := 0) (q := z) (by omega) (by omega) (by omega) (by omega) (N := k) (by omega)
  obtain ⟨h3, e4⟩ := reedRules_call z g2.rd (by rw [numsL_len]; omega)
  refine ⟨h3, ?_⟩
  rw [call_at T12 rfl]
  unfold F12 c12
  simp (disch := first | omega | (simp only [Go.Am.len_push, Go.Am.len_set, Go.Am.len_kill] <;> omega) | fail) only [push_cast, seval, wrap64, dec_lt, dec_nlt, dec_le, dec_nle, dec_eq, dec_ne, if_pos, if_neg, Int.natCast_add, Int.natCast_one, Int.natCast_zero, Int.toNat_natCast, e1, e2, e3, e4]
end Go.Proofs.Ytammndhoillliaa
