/-
  Lists in Gray's order in plain terms: the k-th is what Gray tells, and Place finds each. Conditions: sizes from 2 to 10.
-/
import Derived.Test.YtdmgkdaiegdfmaaGrays
import Derived.Test.YtdmgkdaiegdfmaaGrayCall
namespace Go.Proofs.Ytdmgkdaiegdfmaa
open Go.Am
set_option linter.unusedVariables false
set_option linter.unusedSimpArgs false

theorem layers_get (L : List (List Int)) : ∀ (j v d p : Nat), d < j → p < L.length → (layers L v j)[d * L.length + p]? = (layer L (v + d))[p]?
  | 0, v, d, p, hd, hp => by omega
  | j + 1, v, 0, p, hd, hp => by
    rw [layers, Nat.zero_mul, Nat.zero_add, List.getElem?_append_left (by rw [layer_len]; exact hp)]; rfl
  | j + 1, v, d + 1, p, hd, hp => by
    rw [layers, Nat.succ_mul, List.getElem?_append_right (by rw [layer_len]; omega), layer_len, show d * L.length + L.length + p - L.length = d * L.length + p by omega, layers_get L j (v + 1) d p (by omega) hp]
    congr 2
    omega

theorem gray_get : ∀ {zs : List Int} {k : Int}, OkS zs → 0 ≤ k → k < prodL zs → (grays zs)[k.toNat]? = some (grayP zs k)
  | [], k, hs, h0, h1 => by
    have : k = 0 := by simp only [prodL] at h1; omega
    subst this; rfl
  | s :: r, k, hs, h0, h1 => by
    have hh := hs.head
    have hpp := prodL_pos hs.tail
    have hgl := grays_len hs.tail
    rw [prodL] at h1
    obtain ⟨m, hm⟩ : ∃ m, m = prodL r := ⟨_, rfl⟩
    rw [grayP, grays, ← hm]
    rw [← hm] at hpp hgl h1
    have d0 : 0 ≤ k / m := Int.ediv_nonneg h0 (by omega)
    have d1 : k / m < s := Int.ediv_lt_of_lt_mul (by omega) h1
    have r0 : 0 ≤ k % m := Int.emod_nonneg _ (by omega)
    have r1 : k % m < m := Int.emod_lt_of_pos _ (by omega)
    have hk : k.toNat = (k / m).toNat * (grays r).length + (k % m).toNat := by
      have e := Int.mul_ediv_add_emod k m
      have : ((k.toNat : Nat) : Int) = (((k / m).toNat * (grays r).length + (k % m).toNat : Nat) : Int) := by
        rw [Int.natCast_add, Int.natCast_mul, Int.toNat_of_nonneg h0, Int.toNat_of_nonneg d0, Int.toNat_of_nonneg r0, hgl, Int.mul_comm]
        omega
      omega
    rw [hk, layers_get _ _ _ _ _ (by omega) (by omega), Nat.zero_add]
    unfold layer turned
    rw [List.getElem?_map]
    have hdI : ((k / m).toNat : Int) = k / m := Int.toNat_of_nonneg d0
    by_cases ho : k / m % 2 = 1
    · rw [if_pos (by omega), if_pos ho, List.getElem?_reverse (by omega)]
      have ih := gray_get (k := m - 1 - k % m) hs.tail (by omega) (by omega)
      rw [show (grays r).length - 1 - (k % m).toNat = (m - 1 - k % m).toNat by omega, ih]
      show some _ = some _
      rw [hdI]
    · rw [if_neg (by omega), if_neg ho]
      have ih := gray_get (k := k % m) hs.tail (by omega) (by omega)
      rw [ih]
      show some _ = some _
      rw [hdI]

def back' (L : List (List Int)) (b : Bool) : List (List Int) := if b = true then L.reverse else L
theorem place_get : ∀ {zs ls : List Int} {k p : Int} {b : Bool}, OkS zs → ls.length = zs.length → placeP zs ls k b = some p → ∃ q, p = k * prodL zs + q ∧ 0 ≤ q ∧ q < prodL zs ∧ (back' (grays zs) b)[q.toNat]? = some ls
  | [], [], k, p, b, hs, hl, h => by
    rw [placeP] at h
    · cases h
      refine ⟨0, by simp [prodL], by omega, by simp [prodL], ?_⟩
      cases b <;> rfl
    · intro _ _ _ _ h; cases h
  | [], _ :: _, k, p, b, hs, hl, h => by simp at hl
  | s :: r, [], k, p, b, hs, hl, h => by simp at hl
  | s :: r, d :: t, k, p, b, hs, hl, h => by
    rw [placeP] at h
    by_cases hd : d < 0 ∨ s ≤ d
    · rw [if_pos hd] at h; cases h
    rw [if_neg hd] at h
    have hh := hs.head
    have hpp := prodL_pos hs.tail
    have hgl := grays_len hs.tail
    obtain ⟨q', hq1, hq2, hq3, hq4⟩ := place_get hs.tail (by simpa using hl) h
    obtain ⟨m, hm⟩ : ∃ m, m = prodL r := ⟨_, rfl⟩
    rw [← hm] at hpp hgl hq1 hq3
    obtain ⟨d', hd'⟩ : ∃ d', d' = if b = true then s - 1 - d else d := ⟨_, rfl⟩
    rw [← hd'] at hq1
    have hd0 : 0 ≤ d' ∧ d' < s := by rw [hd']; split <;> omega
    have b1 : (d' + 1) * m ≤ s * m := Int.mul_le_mul_of_nonneg_right (by omega) (by omega)
    rw [Int.add_mul] at b1
    have b2 : 0 ≤ d' * m := Int.mul_nonneg hd0.1 (by omega)
    refine ⟨d' * m + q', ?_, by omega, by rw [prodL, ← hm]; omega, ?_⟩
    · rw [prodL, ← hm, hq1, Int.add_mul, Int.mul_assoc, Int.add_assoc]
    have hlen : (grays (s :: r)).length = s.toNat * (grays r).length := by rw [grays, layers_len]
    obtain ⟨M, hM⟩ : ∃ M, M = (grays r).length := ⟨_, rfl⟩
    rw [← hM] at hgl hlen
    have e1 : (d' * m + q').toNat = d'.toNat * M + q'.toNat := by
      have : (((d' * m + q').toNat : Nat) : Int) = ((d'.toNat * M + q'.toNat : Nat) : Int) := by
        rw [Int.natCast_add, Int.natCast_mul, Int.toNat_of_nonneg (by omega), Int.toNat_of_nonneg hd0.1, Int.toNat_of_nonneg hq2, hgl]
      omega
    have hdI : (d.toNat : Int) = d := Int.toNat_of_nonneg (by omega)
    have key : ∀ x, x < M → (grays (s :: r))[d.toNat * M + x]? = (layer (grays r) d.toNat)[x]? := fun x hx => by
      rw [grays, hM, layers_get _ _ _ _ _ (by omega) (by omega), Nat.zero_add]
    rw [e1]
    cases b with
    | false =>
      rw [if_neg (by decide)] at hd'
      subst hd'
      show (grays (s :: r))[d'.toNat * M + q'.toNat]? = _
      rw [key _ (by omega)]
      unfold layer turned
      rw [List.getElem?_map]
      unfold back' at hq4
      by_cases ho : d' % 2 = 1
      · rw [decide_eq_true ho, if_pos (by decide)] at hq4
        rw [if_pos (by omega), hq4]
        show some _ = some _
        rw [hdI]
      · rw [decide_eq_false ho, if_neg (by decide)] at hq4
        rw [if_neg (by omega), hq4]
        show some _ = some _
        rw [hdI]
    | true =>
      rw [if_pos rfl] at hd'
      subst hd'
      show (grays (s :: r)).reverse[(s - 1 - d).toNat * M + q'.toNat]? = _
      have hsd : (s - 1 - d).toNat + 1 + d.toNat = s.toNat := by omega
      have e2 : s.toNat * M = (s - 1 - d).toNat * M + M + d.toNat * M := by rw [← hsd, Nat.add_mul, Nat.add_mul, Nat.one_mul]
      rw [List.getElem?_reverse (by rw [hlen]; omega), hlen, show s.toNat * M - 1 - ((s - 1 - d).toNat * M + q'.toNat) = d.toNat * M + (M - 1 - q'.toNat) by omega, key _ (by omega)]
      unfold layer turned
      rw [List.getElem?_map]
      unfold back' at hq4
      by_cases ho : d % 2 = 1
      · rw [decide_eq_true ho, if_neg (by decide)] at hq4
        rw [if_pos (by omega), List.getElem?_reverse (by omega), ← hM, show M - 1 - (M - 1 - q'.toNat) = q'.toNat by omega, hq4]
        show some _ = some _
        rw [hdI]
      · rw [decide_eq_false ho, if_pos (by decide), List.getElem?_reverse (by omega), ← hM] at hq4
        rw [if_neg (by omega), hq4]
        show some _ = some _
        rw [hdI]

def badP : List Int → List Int → Bool
  | s :: r, d :: t => if d < 0 ∨ s ≤ d then true else badP r t
  | _, _ => false
theorem placeP_bad : ∀ {zs ls : List Int} {k : Int} {b : Bool}, placeP zs ls k b = none ↔ badP zs ls = true
  | [], _, k, b => by simp [placeP, badP]
  | _ :: _, [], k, b => by simp [placeP, badP]
  | s :: r, d :: t, k, b => by
    rw [placeP, badP]
    by_cases hd : d < 0 ∨ s ≤ d
    · rw [if_pos hd, if_pos hd]; simp
    · rw [if_neg hd, if_neg hd]; exact placeP_bad

theorem may_check : ∀ {zs : List Int} {a a' : Int}, 1 ≤ a → 1 ≤ a' → (a ≤ 1024 → a' = a) → (1024 < a → 1024 < a') →
    (mayLoop zs a = none ∧ checkLoop zs a' = none) ∨ ∃ x x', mayLoop zs a = some x ∧ checkLoop zs a' = some x' ∧ (x ≤ 1024 → x' = x) ∧ (1024 < x → 1024 < x')
  | [], a, a', h1, h2, h3, h4 => .inr ⟨a, a', rfl, rfl, h3, h4⟩
  | z :: r, a, a', h1, h2, h3, h4 => by
    rw [mayLoop, checkLoop]
    by_cases hz : z < 2 ∨ 10 < z
    · rw [if_pos hz, if_pos hz]; exact .inl ⟨rfl, rfl⟩
    · rw [if_neg hz, if_neg hz]
      have e1 : 1 * 1 ≤ a' * z := Int.mul_le_mul h2 (by omega) (by omega) (by omega)
      have e2 : 1 * 1 ≤ a * z := Int.mul_le_mul h1 (by omega) (by omega) (by omega)
      have e3 : a' * 1 ≤ a' * z := Int.mul_le_mul_of_nonneg_left (by omega) (by omega)
      by_cases ha : a ≤ 1024
      · rw [if_pos ha, h3 ha]
        exact may_check (by omega) (by omega) (fun _ => rfl) (fun h => h)
      · rw [if_neg ha]
        exact may_check h1 (by omega) (fun h => absurd h ha) (fun h => by have := h4 h; omega)
theorem sizesMay_check (zs : List Int) : (sizesMay zs).2 = checkP zs ∧ (checkP zs = 0 → (sizesMay zs).1 = prodL zs) := by
  unfold sizesMay checkP
  by_cases h : zs.length < 1 ∨ 10 < zs.length
  · rw [if_pos h, if_pos h]; exact ⟨rfl, fun h => by cases h⟩
  rw [if_neg h, if_neg h]
  rcases may_check (zs := zs) (a := 1) (a' := 1) (by omega) (by omega) (fun _ => rfl) (fun h => h) with ⟨h1, h2⟩ | ⟨x, x', h1, h2, h3, h4⟩
  · rw [h1, h2]; exact ⟨rfl, fun h => by cases h⟩
  · rw [h1, h2]
    obtain ⟨_, h5⟩ := checkLoop_some h2
    simp only []
    by_cases hx : 1024 < x
    · rw [if_pos hx, if_pos (h4 hx)]; exact ⟨rfl, fun h => by cases h⟩
    · have := h3 (by omega)
      rw [if_neg hx, if_neg (by omega)]; exact ⟨rfl, fun _ => by show x = _; omega⟩
end Go.Proofs.Ytdmgkdaiegdfmaa
