/-
  Krawtchouk's numbers two ways: as a sum of products of binomials, and row by row. Plain numbers. No condition.
-/
import Derived.Test.YtammndhoillliaaAm22
namespace Go.Am
set_option linter.unusedVariables false
set_option linter.unusedSimpArgs false

/-! ### binomials -/
def bin : Nat → Nat → Nat
  | _, 0 => 1
  | 0, _ + 1 => 0
  | n + 1, k + 1 => bin n k + bin n (k + 1)
theorem bin_zero (n : Nat) : bin n 0 = 1 := by cases n <;> rfl
theorem bin_abs : ∀ n k : Nat, (k + 1) * bin n (k + 1) + k * bin n k = n * bin n k
  | 0, 0 => rfl
  | 0, k + 1 => by simp [bin]
  | n + 1, 0 => by have := bin_abs n 0; simp [bin, bin_zero] at this ⊢; omega
  | n + 1, k + 1 => by
    have h1 := bin_abs n k
    have h2 := bin_abs n (k + 1)
    simp only [bin]
    generalize bin n k = a at *
    generalize bin n (k + 1) = b at *
    generalize bin n (k + 1 + 1) = c at *
    grind
theorem bin_big : ∀ n k : Nat, n < k → bin n k = 0
  | 0, 0, h => by omega
  | 0, k + 1, _ => rfl
  | n + 1, 0, h => by omega
  | n + 1, k + 1, h => by simp only [bin]; rw [bin_big n k (by omega), bin_big n (k + 1) (by omega)]
theorem bin_le : ∀ n k : Nat, bin n k ≤ 2 ^ n
  | 0, 0 => by simp [bin]
  | 0, k + 1 => by simp [bin]
  | n + 1, 0 => by have := Nat.one_le_two_pow (n := n + 1); simp only [bin]; omega
  | n + 1, k + 1 => by
    have h1 := bin_le n k
    have h2 := bin_le n (k + 1)
    simp only [bin]
    rw [Nat.pow_succ]; omega
theorem bin_step {n i : Nat} (hi : i < n) : (((bin n i : Nat) : Int) * ((n : Int) - (i : Int))).tdiv ((i : Int) + 1) = ((bin n (i + 1) : Nat) : Int) := by
  have h := bin_abs n i
  have e : (((bin n i : Nat) : Int) * ((n : Int) - (i : Int))) = ((bin n (i + 1) : Nat) : Int) * ((i : Int) + 1) := by
    have h' : (((i + 1) * bin n (i + 1) + i * bin n i : Nat) : Int) = ((n * bin n i : Nat) : Int) := by rw [h]
    simp only [Int.natCast_add, Int.natCast_mul, Int.natCast_one] at h'
    grind
  rw [e, Int.mul_tdiv_cancel _ (by omega)]

/-! ### sums -/
def sm (f : Nat → Int) : Nat → Int
  | 0 => 0
  | n + 1 => sm f n + f n
theorem sm_congr {f g : Nat → Int} : ∀ {n : Nat}, (∀ t, t < n → f t = g t) → sm f n = sm g n
  | 0, _ => rfl
  | n + 1, h => by simp only [sm]; rw [sm_congr fun t ht => h t (by omega), h n (by omega)]
theorem sm_add (f g : Nat → Int) : ∀ n : Nat, sm (fun t => f t + g t) n = sm f n + sm g n
  | 0 => rfl
  | n + 1 => by simp only [sm]; rw [sm_add f g n]; omega
theorem sm_mul (c : Int) (f : Nat → Int) : ∀ n : Nat, sm (fun t => c * f t) n = c * sm f n
  | 0 => by simp [sm]
  | n + 1 => by simp only [sm]; rw [sm_mul c f n, Int.mul_add]
theorem sm_zero {f : Nat → Int} {n : Nat} (h : ∀ t, t < n → f t = 0) : sm f n = 0 := by
  induction n with
  | zero => rfl
  | succ n ih => simp only [sm]; rw [ih fun t ht => h t (by omega), h n (by omega)]; rfl

/-! ### the two ways -/
def sgn (j : Nat) : Int := if j % 2 = 1 then -1 else 1
theorem sgn_succ (j : Nat) : sgn (j + 1) = - sgn j := by
  unfold sgn
  by_cases h : j % 2 = 1
  · rw [if_neg (by omega), if_pos h]; rfl
  · rw [if_pos (by omega), if_neg h]
/-- a number of the row of (1 + Q z)^r -/
def qb (Q : Int) (r i : Nat) : Int := ((bin r i : Nat) : Int) * Q ^ i
theorem qb_zero (Q : Int) (r : Nat) : qb Q r 0 = 1 := by simp [qb, bin_zero]
theorem qb_succ (Q : Int) (r i : Nat) : qb Q (r + 1) (i + 1) = qb Q r (i + 1) + Q * qb Q r i := by
  unfold qb
  simp only [bin, Int.natCast_add]
  rw [Int.pow_succ]
  grind
/-- a number of the row of (1 - z)^x -/
def sb (x j : Nat) : Int := sgn j * ((bin x j : Nat) : Int)
theorem sb_succ (x j : Nat) : sb (x + 1) (j + 1) = sb x (j + 1) - sb x j := by
  unfold sb
  simp only [bin, Int.natCast_add]
  rw [sgn_succ]
  grind
/-- the document's rows -/
def kA (Q : Int) (x : Nat) : Nat → Nat → Int
  | 0, 0 => 1
  | 0, _ + 1 => 0
  | i + 1, 0 => kA Q x i 0
  | i + 1, j + 1 => kA Q x i (j + 1) + (if i < x then -1 else Q) * kA Q x i j
/-- the program's sum -/
def kS (Q : Int) (x r k : Nat) : Int := sm (fun t => sb x t * qb Q r (k - t)) (k + 1)
theorem kA_low (Q : Int) (x : Nat) : ∀ i j : Nat, i ≤ x → kA Q x i j = sb i j
  | 0, 0, _ => by simp [kA, sb, sgn, bin]
  | 0, j + 1, _ => by simp [kA, sb, bin]
  | i + 1, 0, h => by rw [kA, kA_low Q x i 0 (by omega)]; simp [sb, bin_zero]
  | i + 1, j + 1, h => by
    rw [kA, kA_low Q x i _ (by omega), kA_low Q x i _ (by omega), if_pos (by omega), sb_succ]
    omega
theorem kS_succ (Q : Int) (x r k : Nat) : kS Q x (r + 1) (k + 1) = kS Q x r (k + 1) + Q * kS Q x r k := by
  unfold kS
  have s : ∀ f : Nat → Int, sm f (k + 1 + 1) = sm f (k + 1) + f (k + 1) := fun _ => rfl
  rw [s, s]
  have e : ∀ t, t < k + 1 → sb x t * qb Q (r + 1) (k + 1 - t) = sb x t * qb Q r (k + 1 - t) + Q * (sb x t * qb Q r (k - t)) := by
    intro t ht
    rw [show k + 1 - t = (k - t) + 1 by omega, qb_succ]
    grind
  rw [sm_congr e, sm_add, sm_mul, Nat.sub_self, qb_zero, qb_zero]
  omega
theorem kA_eq (Q : Int) (x : Nat) : ∀ r j : Nat, kA Q x (x + r) j = kS Q x r j
  | 0, j => by
    rw [Nat.add_zero, kA_low Q x x j (Nat.le_refl _)]
    unfold kS
    rw [sm, Nat.sub_self, qb_zero, sm_zero fun t ht => ?_]
    · omega
    · unfold qb
      rw [show j - t = (j - t - 1) + 1 by omega]
      simp [bin]
  | r + 1, 0 => by
    rw [← Nat.add_assoc, kA, kA_eq Q x r 0]
    simp [kS, sm, qb_zero]
  | r + 1, j + 1 => by
    rw [← Nat.add_assoc, kA, kA_eq Q x r (j + 1), kA_eq Q x r j, if_neg (by omega), kS_succ]

/-! ### numbers that wrap -/
def W (x : Int) : Int := IntKind.wrap .i64 x
theorem W_def (x : Int) : IntKind.wrap .i64 x = W x := rfl
theorem W_ex (x : Int) : ∃ t : Int, W x = x + 18446744073709551616 * t := by
  unfold W; rw [IntKind.wrap_i64]
  exact ⟨-((x + 9223372036854775808) / 18446744073709551616), by omega⟩
theorem W_shift (x t : Int) : W (x + 18446744073709551616 * t) = W x := by
  unfold W; rw [IntKind.wrap_i64, IntKind.wrap_i64]; omega
theorem W_add_l (a b : Int) : W (W a + b) = W (a + b) := by
  obtain ⟨t, ht⟩ := W_ex a
  rw [ht, ← W_shift (a + b) t]; congr 1; omega
theorem W_add_r (a b : Int) : W (a + W b) = W (a + b) := by rw [Int.add_comm, W_add_l, Int.add_comm]
theorem W_mul_l (a b : Int) : W (W a * b) = W (a * b) := by
  obtain ⟨t, ht⟩ := W_ex a
  rw [ht, ← W_shift (a * b) (t * b)]; congr 1; grind
theorem W_mul_r (a b : Int) : W (a * W b) = W (a * b) := by rw [Int.mul_comm, W_mul_l, Int.mul_comm]
theorem W_W (a : Int) : W (W a) = W a := by have := W_add_l a 0; simpa using this
theorem W_neg (a : Int) : W (0 - W a) = W (0 - a) := by
  obtain ⟨t, ht⟩ := W_ex a
  rw [ht, ← W_shift (0 - a) (-t)]; congr 1; omega
theorem W_id {a : Int} (h1 : -9223372036854775808 ≤ a) (h2 : a ≤ 9223372036854775807) : W a = a := wrap64 h1 h2
end Go.Am
