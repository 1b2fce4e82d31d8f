/-
  Polynomials in plain lists: trimmed, added, multiplied; what of the fields' sums and products they need. Condition: a field.
-/
import Derived.Test.YtammndhoillliaaFPc
import Derived.Test.YtammndhoillliaaFRd
import Derived.Test.YtammndhoillliaaL3
namespace Go.Proofs.Ytammndhoillliaa
open Go.Am
set_option linter.unusedVariables false
set_option linter.unusedSimpArgs false

/-! ### sums and products -/
theorem addN_comm (p : Int) : ∀ (n : Nat) (a b : Int), addN p n a b = addN p n b a
  | 0, _, _ => rfl
  | n + 1, a, b => by simp only [addN]; rw [addN_comm p n, Int.add_comm (a % p)]
theorem addN_zero {p : Int} (hp : 2 ≤ p) : ∀ (n : Nat) (a : Int), 0 ≤ a → a < p ^ n → addN p n a 0 = a
  | 0, a, h0, h1 => by simp at h1; simp only [addN]; omega
  | n + 1, a, h0, h1 => by
    simp only [addN]
    have h2 : a / p < p ^ n := Int.ediv_lt_of_lt_mul (by omega) (by rwa [Int.pow_succ] at h1)
    rw [Int.zero_emod, Int.zero_ediv, Int.add_zero, Int.emod_emod, addN_zero hp n (a / p) (Int.ediv_nonneg h0 (by omega)) h2, Int.emod_add_mul_ediv]
theorem addN_in {p : Int} (hp : 2 ≤ p) : ∀ (n : Nat) (a b : Int), 0 ≤ addN p n a b ∧ addN p n a b < p ^ n
  | 0, a, b => by simp [addN]
  | n + 1, a, b => by
    obtain ⟨h1, h2⟩ := addN_in hp n (a / p) (b / p)
    simp only [addN]
    have h3 := Int.emod_nonneg (a % p + b % p) (show p ≠ 0 by omega)
    have h4 := Int.emod_lt_of_pos (a % p + b % p) (show 0 < p by omega)
    have h5 : p * addN p n (a / p) (b / p) ≤ p * (p ^ n - 1) := Int.mul_le_mul_of_nonneg_left (by omega) (by omega)
    have h6 : 0 ≤ p * addN p n (a / p) (b / p) := Int.mul_nonneg (by omega) h1
    rw [Int.pow_succ, Int.mul_comm (p ^ n) p]
    rw [Int.mul_sub, Int.mul_one] at h5
    omega
section
variable {q p g : Int} {m : Nat} {mod : List Int}
theorem fch_is (hn : fldN q.toNat = some (p, m, g, mod)) : fch q = p := by unfold fch; rw [hn]
theorem fdg_is (hn : fldN q.toNat = some (p, m, g, mod)) : fdg q = m := by unfold fdg; rw [hn]
theorem fld_pm (hn : fldN q.toNat = some (p, m, g, mod)) : 2 ≤ p ∧ p ^ m = q := by
  obtain ⟨h2, _⟩ := fldN_le hn
  have := (fld_ok hn).1
  rw [show ((q.toNat : Nat) : Int) = q by omega] at this
  exact ⟨this.p2, this.pm⟩
theorem fadd_comm (a b : Int) : fadd q a b = fadd q b a := by unfold fadd; rw [addN_comm, Bool.and_comm]
theorem fadd_ok (hn : fldN q.toNat = some (p, m, g, mod)) {a b : Int} (ha : fok q a = true) (hb : fok q b = true) : fok q (fadd q a b) = true := by
  unfold fadd
  rw [ha, hb, Bool.and_self, cond_true, fch_is hn, fdg_is hn, fok_iff]
  obtain ⟨h1, h2⟩ := fld_pm hn
  rw [← h2]
  exact addN_in h1 _ _ _
theorem fok_zero (hn : fldN q.toNat = some (p, m, g, mod)) : fok q 0 = true := by
  obtain ⟨h2, _⟩ := fldN_le hn
  rw [fok_iff]; omega
theorem fadd_zero (hn : fldN q.toNat = some (p, m, g, mod)) {a : Int} (ha : fok q a = true) : fadd q a 0 = a := by
  unfold fadd
  rw [ha, fok_zero hn, Bool.and_self, cond_true, fch_is hn, fdg_is hn]
  obtain ⟨h1, h2⟩ := fld_pm hn
  rw [fok_iff, ← h2] at ha
  exact addN_zero h1 m a ha.1 ha.2
theorem fmul_ok (hn : fldN q.toNat = some (p, m, g, mod)) {a b : Int} (ha : fok q a = true) (hb : fok q b = true) : fok q (fmul q a b) = true := by
  unfold fmul
  obtain ⟨h2, _⟩ := fldN_le hn
  rw [ha, hb, Bool.and_self, cond_true]
  cases h0 : (a == 0) || (b == 0) with
  | true => exact fok_zero hn
  | false =>
    have h3 := Int.emod_nonneg (flog q a + flog q b) (show q - 1 ≠ 0 by omega)
    have h4 := Int.emod_lt_of_pos (flog q a + flog q b) (show 0 < q - 1 by omega)
    have := (tabs_ok hn).er _ h3 h4
    rw [cond_false, fok_iff]; omega
theorem fmul_zero (hn : fldN q.toNat = some (p, m, g, mod)) {b : Int} (hb : fok q b = true) : fmul q 0 b = 0 := by
  unfold fmul
  rw [fok_zero hn, hb]; rfl
end

/-! ### lists of elements -/
def AllF (q : Int) (l : List Int) : Prop := ∀ v ∈ l, fok q v = true
theorem allF_gi {q : Int} {l : List Int} (h : AllF q l) {i : Nat} (hi : i < l.length) : fok q (gi l i) = true := h _ (gi_mem (by omega) (by omega))
theorem gi_out {l : List Int} {i : Nat} (h : l.length ≤ i) : gi l i = 0 := by
  unfold gi; rw [Int.toNat_natCast, List.getD_eq_getElem?_getD, List.getElem?_eq_none h]; rfl
theorem allF_gi0 {q p g : Int} {m : Nat} {mod : List Int} (hn : fldN q.toNat = some (p, m, g, mod)) {l : List Int} (h : AllF q l) (i : Nat) : fok q (gi l i) = true := by
  by_cases hi : i < l.length
  · exact allF_gi h hi
  · rw [gi_out (by omega)]; exact fok_zero hn
theorem gi_take {l : List Int} {n i : Nat} (h : i < n) : gi (l.take n) i = gi l i := by
  unfold gi; rw [List.getD_eq_getElem?_getD, List.getD_eq_getElem?_getD, Int.toNat_natCast, List.getElem?_take, if_pos h]
/-- how long without noughts at the end -/
def trimN (a : List Int) : Nat → Nat
  | 0 => 0
  | n + 1 => if gi a n = 0 then trimN a n else n + 1
def trimL (a : List Int) : List Int := a.take (trimN a a.length)
theorem trimN_le (a : List Int) : ∀ n, trimN a n ≤ n
  | 0 => Nat.le_refl _
  | n + 1 => by have := trimN_le a n; rw [trimN]; split <;> omega
theorem trimN_zero (a : List Int) : ∀ (n i : Nat), trimN a n ≤ i → i < n → gi a i = 0
  | 0, i, _, h => by omega
  | n + 1, i, h1, h2 => by
    rw [trimN] at h1
    split at h1
    · by_cases he : i = n
      · subst he; assumption
      · exact trimN_zero a n i h1 (by omega)
    · omega
theorem trimN_last (a : List Int) : ∀ n, trimN a n ≠ 0 → gi a ((trimN a n - 1 : Nat) : Int) ≠ 0
  | 0, h => absurd rfl h
  | n + 1, h => by
    rw [trimN] at h ⊢
    split
    · rename_i h0
      rw [if_pos h0] at h
      exact trimN_last a n h
    · rw [Nat.add_sub_cancel]; assumption
theorem trimL_len (a : List Int) : (trimL a).length = trimN a a.length := by
  unfold trimL; rw [List.length_take]; have := trimN_le a a.length; omega
theorem trimL_le (a : List Int) : (trimL a).length ≤ a.length := by rw [trimL_len]; exact trimN_le _ _
theorem trimL_gi (a : List Int) (i : Nat) : gi (trimL a) i = gi a i := by
  by_cases h : i < trimN a a.length
  · exact gi_take h
  · rw [gi_out (by rw [trimL_len]; omega)]
    by_cases h2 : i < a.length
    · exact (trimN_zero a a.length i (by omega) h2).symm
    · exact (gi_out (by omega)).symm
theorem trimL_all {q : Int} {a : List Int} (h : AllF q a) : AllF q (trimL a) := fun v hv => h v (List.mem_of_mem_take hv)
/-- trimmed: none at its end is 0 -/
def Trimmed (a : List Int) : Prop := a.length ≠ 0 → gi a ((a.length - 1 : Nat) : Int) ≠ 0
theorem trimL_trimmed (a : List Int) : Trimmed (trimL a) := by
  intro h
  rw [trimL_gi, trimL_len]
  rw [trimL_len] at h
  exact trimN_last a a.length h
theorem trimmed_eq {a b : List Int} (ha : Trimmed a) (hb : Trimmed b) (h : ∀ i : Nat, gi a i = gi b i) : a = b := by
  have key : ∀ {a b : List Int}, Trimmed a → (∀ i : Nat, gi a i = gi b i) → a.length ≤ b.length := by
    intro a b ha h
    by_cases hl : a.length ≤ b.length
    · exact hl
    · exact absurd (by rw [h, gi_out (by omega)]) (ha (by omega))
  exact gi_ext (Nat.le_antisymm (key ha h) (key hb fun i => (h i).symm)) fun i _ => h i
theorem trimL_id {a : List Int} (h : Trimmed a) : trimL a = a := trimmed_eq (trimL_trimmed a) h (trimL_gi a)
theorem trimL_congr {a b : List Int} (h : ∀ i : Nat, gi a i = gi b i) : trimL a = trimL b := trimmed_eq (trimL_trimmed a) (trimL_trimmed b) fun i => by rw [trimL_gi, trimL_gi, h]
theorem trim_nil : trimL [] = [] := rfl

/-! ### sums -/
def sumL (q : Int) (a b : List Int) : List Int := (List.range (max a.length b.length)).map fun i : Nat => fadd q (gi a i) (gi b i)
def paddL (q : Int) (a b : List Int) : List Int := trimL (sumL q a b)
theorem gi_map_range {f : Nat → Int} {n i : Nat} (hi : i < n) : gi ((List.range n).map f) i = f i := by
  unfold gi; rw [List.getD_eq_getElem?_getD, Int.toNat_natCast, List.getElem?_map, List.getElem?_range hi]; rfl
section
variable {q p g : Int} {m : Nat} {mod : List Int}
theorem sumL_gi (hn : fldN q.toNat = some (p, m, g, mod)) (a b : List Int) (i : Nat) : gi (sumL q a b) i = fadd q (gi a i) (gi b i) := by
  unfold sumL
  by_cases hi : i < max a.length b.length
  · exact gi_map_range hi
  · rw [gi_out (by simp; omega), gi_out (l := a) (by omega), gi_out (l := b) (by omega), fadd_zero hn (fok_zero hn)]
theorem sumL_all (hn : fldN q.toNat = some (p, m, g, mod)) {a b : List Int} (ha : AllF q a) (hb : AllF q b) : AllF q (sumL q a b) := by
  intro v hv
  obtain ⟨i, hi, rfl⟩ := List.mem_map.1 hv
  exact fadd_ok hn (allF_gi0 hn ha i) (allF_gi0 hn hb i)
theorem paddL_trim (hn : fldN q.toNat = some (p, m, g, mod)) (a b : List Int) : paddL q (trimL a) (trimL b) = paddL q a b := by
  unfold paddL
  exact trimL_congr fun i => by rw [sumL_gi hn, sumL_gi hn, trimL_gi, trimL_gi]
theorem paddL_comm (a b : List Int) : paddL q a b = paddL q b a := by
  unfold paddL sumL
  rw [Nat.max_comm]
  congr 1
  exact List.map_congr_left fun i _ => fadd_comm _ _
theorem paddL_all (hn : fldN q.toNat = some (p, m, g, mod)) {a b : List Int} (ha : AllF q a) (hb : AllF q b) : AllF q (paddL q a b) := trimL_all (sumL_all hn ha hb)
theorem paddL_len (a b : List Int) : (paddL q a b).length ≤ max a.length b.length := by
  have := trimL_le (sumL q a b)
  unfold paddL
  simp only [sumL, List.length_map, List.length_range] at this ⊢
  omega
end

/-! ### products -/
/-- one number's row, from the k-th on -/
def rowM (q v : Int) (b : List Int) (i : Nat) : Nat → Nat → List Int → List Int
  | 0, _, out => out
  | n + 1, k, out => rowM q v b i n (k + 1) (out.set (i + k) (fadd q (gi out ((i + k : Nat) : Int)) (fmul q v (gi b k))))
def mulM (q : Int) (a b : List Int) : Nat → Nat → List Int → List Int
  | 0, _, out => out
  | n + 1, i, out => mulM q a b n (i + 1) (rowM q (gi a i) b i b.length 0 out)
def pmulL (q : Int) (a b : List Int) : List Int := if a.length = 0 ∨ b.length = 0 then [] else trimL (mulM q a b a.length 0 (List.replicate (a.length + b.length - 1) 0))
theorem rowM_len (q v : Int) (b : List Int) (i : Nat) : ∀ (n k : Nat) (out : List Int), (rowM q v b i n k out).length = out.length
  | 0, _, _ => rfl
  | n + 1, k, out => by rw [rowM, rowM_len q v b i n]; simp
theorem mulM_len (q : Int) (a b : List Int) : ∀ (n i : Nat) (out : List Int), (mulM q a b n i out).length = out.length
  | 0, _, _ => rfl
  | n + 1, i, out => by rw [mulM, mulM_len q a b n, rowM_len]
section
variable {q p g : Int} {m : Nat} {mod : List Int}
theorem allF_set {l : List Int} (h : AllF q l) {k : Nat} {v : Int} (hv : fok q v = true) : AllF q (l.set k v) := by
  intro x hx
  rcases List.mem_or_eq_of_mem_set hx with h1 | rfl
  · exact h x h1
  · exact hv
theorem rowM_all (hn : fldN q.toNat = some (p, m, g, mod)) {v : Int} (hv : fok q v = true) {b : List Int} (hb : AllF q b) (i : Nat) : ∀ (n k : Nat) (out : List Int), AllF q out → AllF q (rowM q v b i n k out)
  | 0, _, _, h => h
  | n + 1, k, out, h => by
    rw [rowM]
    exact rowM_all hn hv hb i n (k + 1) _ (allF_set h (fadd_ok hn (allF_gi0 hn h _) (fmul_ok hn hv (allF_gi0 hn hb k))))
theorem mulM_all (hn : fldN q.toNat = some (p, m, g, mod)) {a b : List Int} (ha : AllF q a) (hb : AllF q b) : ∀ (n i : Nat) (out : List Int), AllF q out → AllF q (mulM q a b n i out)
  | 0, _, _, h => h
  | n + 1, i, out, h => by
    rw [mulM]
    exact mulM_all hn ha hb n (i + 1) _ (rowM_all hn (allF_gi0 hn ha i) hb i _ _ _ h)
theorem allF_zeros (hn : fldN q.toNat = some (p, m, g, mod)) (n : Nat) : AllF q (List.replicate n 0) := fun v hv => by rw [List.eq_of_mem_replicate hv]; exact fok_zero hn
theorem pmulL_all (hn : fldN q.toNat = some (p, m, g, mod)) {a b : List Int} (ha : AllF q a) (hb : AllF q b) : AllF q (pmulL q a b) := by
  unfold pmulL
  split
  · intro v hv; cases hv
  · exact trimL_all (mulM_all hn ha hb _ _ _ (allF_zeros hn _))
theorem pmulL_len (a b : List Int) : (pmulL q a b).length ≤ a.length + b.length - 1 := by
  unfold pmulL
  split
  · simp
  · have := trimL_le (mulM q a b a.length 0 (List.replicate (a.length + b.length - 1) 0))
    rw [mulM_len, List.length_replicate] at this
    exact this
theorem set_same {l : List Int} {i : Nat} (hi : i < l.length) : l.set i (gi l i) = l := by
  rw [gi_nat hi]; exact List.set_getElem_self hi
/-- a nought's row changes nothing -/
theorem rowM_zero (hn : fldN q.toNat = some (p, m, g, mod)) {b : List Int} (hb : AllF q b) (i : Nat) : ∀ (n k : Nat) (out : List Int), k + n = b.length → i + b.length ≤ out.length → AllF q out → rowM q 0 b i n k out = out
  | 0, _, _, _, _, _ => rfl
  | n + 1, k, out, hk, hl, h => by
    rw [rowM, fmul_zero hn (allF_gi0 hn hb k), fadd_zero hn (allF_gi0 hn h _), set_same (by omega)]
    exact rowM_zero hn hb i n (k + 1) out (by omega) hl h
end

/-! ### may it be? -/
def pokE (q : Int) (a : List Int) : Int := match fldN q.toNat with
  | none => 1
  | some _ => if 128 < a.length then 4 else if (a.any fun v => !fok q v) = true then 2 else 0
theorem pokE_ok {q : Int} {a : List Int} (h : pokE q a = 0) : (∃ x, fldN q.toNat = some x) ∧ a.length ≤ 128 ∧ AllF q a := by
  unfold pokE at h
  split at h
  · cases h
  · rename_i x hx
    split at h
    · cases h
    · split at h
      · cases h
      · rename_i h1 h2
        refine ⟨⟨x, hx⟩, by omega, fun v hv => ?_⟩
        rw [Bool.not_eq_true, List.any_eq_false] at h2
        have := h2 v hv
        simpa using this
theorem pokE_mk {q : Int} {a : List Int} {x} (hx : fldN q.toNat = some x) (hl : a.length ≤ 128) (ha : AllF q a) : pokE q a = 0 := by
  unfold pokE
  rw [hx]
  simp only
  rw [if_neg (by omega), if_neg]
  rw [Bool.not_eq_true, List.any_eq_false]
  intro v hv
  simp [ha v hv]
/-- a polynomial of polynomials, from the last on -/
def curN (q : Int) (y : List Int) : List (List Int) → List Int → Int × List Int
  | [], s => (0, s)
  | c :: r, s => if s.length ≠ 0 ∧ y.length ≠ 0 ∧ 128 < s.length + y.length - 1 then (4, []) else if pokE q c = 0 then curN q y r (paddL q (pmulL q s y) c) else (pokE q c, [])
def curP (q : Int) (a : List (List Int)) (y : List Int) : Int × List Int := if pokE q y = 0 then (if 64 < a.length then (4, []) else curN q (trimL y) a.reverse []) else (pokE q y, [])
end Go.Proofs.Ytammndhoillliaa
