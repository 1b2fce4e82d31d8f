/-
  The majority's answers: what they leave, and that they are a near message's. No condition.
-/
import Derived.Test.YtammndhoillliaaMuA
namespace Go.Proofs.Ytammndhoillliaa
open Go.Am
set_option linter.unusedVariables false
set_option linter.unusedSimpArgs false

def popT (s : Nat) : Nat := s % 2 + s / 2 % 2 + s / 4 % 2 + s / 8 % 2 + s / 16 % 2
def inM (s x : Nat) : Bool := x &&& s == s
def offM (s x : Nat) : Nat := x ^^^ (x &&& s)
def monN (r m : Nat) : List Nat := (List.range (r + 1)).flatMap fun k => (List.range (2 ^ m)).filter fun s => popT s == k
def basN (m s : Nat) : List Nat := (List.range (2 ^ m)).filter fun b => b &&& s == 0
def cosN (m s b : Nat) : List Nat := (List.range (2 ^ m)).filter fun x => offM s x == b
def voteB (m : Nat) (f : Nat → Bool) (s : Nat) : Bool := decide ((basN m s).length < 2 * ((basN m s).filter fun b => xorL (cosN m s b) f).length)
def roundB (r m n : Nat) (f : Nat → Bool) : Nat → Bool := fun x => f x ^^ xorL (monN r m) fun s => (popT s == n && voteB m f s) && inM s x
def leftB (r m : Nat) (w : Nat → Bool) : Nat → Nat → Bool
  | 0 => w
  | k + 1 => roundB r m (r - k) (leftB r m w k)
def coefB (r m : Nat) (w : Nat → Bool) (s : Nat) : Bool := voteB m (leftB r m w (r - popT s)) s
def wordB (r m : Nat) (c : Nat → Bool) (x : Nat) : Bool := xorL (monN r m) fun s => c s && inM s x
def offB (m : Nat) (a b : Nat → Bool) : Nat := ((List.range (2 ^ m)).filter fun x => a x ^^ b x).length

def cosOK (m : Nat) : Bool := (List.range (2 ^ m)).all fun s => (basN m s).length == 2 ^ (m - popT s) && (basN m s).all fun b => (List.range (2 ^ m)).all fun t => decide (popT s < popT t) || (xorL (cosN m s b) (inM t) == (t == s))
theorem cos_checked : ((List.range 6).all cosOK) = true := by kernel_rfl
theorem mon_checked : ((List.range 6).all fun m => (List.range (m + 1)).all fun r => decide (monN r m).Nodup) = true := by kernel_rfl
theorem mem_mon {r m s : Nat} : s ∈ monN r m ↔ popT s ≤ r ∧ s < 2 ^ m := by
  unfold monN
  rw [List.mem_flatMap]
  constructor
  · rintro ⟨k, hk, hs⟩
    rw [List.mem_range] at hk
    rw [List.mem_filter, List.mem_range, beq_iff_eq] at hs
    exact ⟨by omega, hs.1⟩
  · rintro ⟨h1, h2⟩
    exact ⟨popT s, List.mem_range.2 (by omega), List.mem_filter.2 ⟨List.mem_range.2 h2, by simp⟩⟩
section
variable {r m : Nat}
theorem mon_nodup (hm : m ≤ 5) (hr : r ≤ m) : (monN r m).Nodup := by
  have h := List.all_eq_true.1 (List.all_eq_true.1 mon_checked m (List.mem_range.2 (by omega))) r (List.mem_range.2 (by omega))
  exact of_decide_eq_true h
theorem bas_len (hm : m ≤ 5) {s : Nat} (hs : s < 2 ^ m) : (basN m s).length = 2 ^ (m - popT s) := by
  have h := List.all_eq_true.1 (List.all_eq_true.1 cos_checked m (List.mem_range.2 (by omega))) s (List.mem_range.2 hs)
  rw [Bool.and_eq_true] at h
  exact beq_iff_eq.1 h.1
theorem cos_par (hm : m ≤ 5) {s b t : Nat} (hs : s < 2 ^ m) (hb : b ∈ basN m s) (ht : t < 2 ^ m) (hp : popT t ≤ popT s) : xorL (cosN m s b) (inM t) = (t == s) := by
  have h := List.all_eq_true.1 (List.all_eq_true.1 cos_checked m (List.mem_range.2 (by omega))) s (List.mem_range.2 hs)
  rw [Bool.and_eq_true] at h
  have h2 := List.all_eq_true.1 (List.all_eq_true.1 h.2 b hb) t (List.mem_range.2 ht)
  rw [Bool.or_eq_true] at h2
  rcases h2 with h2 | h2
  · have := of_decide_eq_true h2; omega
  · exact beq_iff_eq.1 h2
/-- all that is added was voted for -/
theorem left_is (w : Nat → Bool) : ∀ (k : Nat), k ≤ r + 1 → ∀ x, leftB r m w k x = (w x ^^ xorL (monN r m) fun s => (decide (r < popT s + k) && coefB r m w s) && inM s x)
  | 0, hk, x => by
    rw [xorL_false (p := fun s => (decide (r < popT s + 0) && coefB r m w s) && inM s x) (l := monN r m), Bool.xor_false]
    · rfl
    · intro s hs
      have := (mem_mon.1 hs).1
      rw [decide_eq_false (by omega)]; rfl
  | k + 1, hk, x => by
    show (leftB r m w k x ^^ _) = _
    rw [left_is w k (by omega) x, Bool.xor_assoc, ← xorL_xor]
    congr 1
    refine xorL_congr fun s hs => ?_
    by_cases h1 : popT s = r - k
    · have hc : coefB r m w s = voteB m (leftB r m w k) s := by unfold coefB; rw [h1, show r - (r - k) = k by omega]
      rw [decide_eq_false (by omega), decide_eq_true (show r < popT s + (k + 1) by omega), hc, h1]
      simp
    · rw [show (popT s == r - k) = false by simpa using h1]
      by_cases h2 : r < popT s + k
      · rw [decide_eq_true h2, decide_eq_true (show r < popT s + (k + 1) by omega)]; simp
      · rw [decide_eq_false h2, decide_eq_false (show ¬ r < popT s + (k + 1) by omega)]; simp
theorem left_end (w : Nat → Bool) (x : Nat) : leftB r m w (r + 1) x = (w x ^^ wordB r m (coefB r m w) x) := by
  rw [left_is w (r + 1) (Nat.le_refl _)]
  unfold wordB
  congr 1
  refine xorL_congr fun s hs => ?_
  rw [decide_eq_true (by omega), Bool.true_and]
theorem filt_not {α : Type} (p : α → Bool) : ∀ l : List α, (l.filter p).length + (l.filter fun a => !p a).length = l.length
  | [] => rfl
  | a :: l => by
    have h := filt_not p l
    rw [List.filter_cons, List.filter_cons]
    cases hp : p a with
    | true => rw [if_pos rfl, if_neg (by decide)]; simp only [List.length_cons]; omega
    | false => rw [if_neg (by decide), if_pos (show (!false) = true from rfl)]; simp only [List.length_cons]; omega
/-- most ways tell what the coefficient is -/
theorem vote_ok (hm : m ≤ 5) (hr : r ≤ m) (e c : Nat → Bool) {s : Nat} (hs : s ∈ monN r m) (he : 2 * ((List.range (2 ^ m)).filter e).length < 2 ^ (m - r)) :
    voteB m (fun x => e x ^^ xorL (monN r m) fun t => (decide (popT t ≤ popT s) && c t) && inM t x) s = c s := by
  obtain ⟨hsr, hsm⟩ := mem_mon.1 hs
  have hnd := mon_nodup hm hr
  have hbl := bas_len hm hsm
  have hpw : 2 ^ (m - r) ≤ 2 ^ (m - popT s) := Nat.pow_le_pow_right (by omega) (by omega)
  have hpar : ∀ b ∈ basN m s, xorL (cosN m s b) (fun x => e x ^^ xorL (monN r m) fun t => (decide (popT t ≤ popT s) && c t) && inM t x) = (xorL (cosN m s b) e ^^ c s) := by
    intro b hb
    rw [xorL_xor, xorL_swap (fun x t => (decide (popT t ≤ popT s) && c t) && inM t x)]
    congr 1
    rw [xorL_one (s := s) hnd hs]
    · rw [xorL_and, cos_par hm hsm hb hsm (Nat.le_refl _), decide_eq_true (Nat.le_refl _)]; simp
    · intro t ht hne
      rw [xorL_and]
      by_cases hp : popT t ≤ popT s
      · rw [cos_par hm hsm hb (mem_mon.1 ht).2 hp, show (t == s) = false by simpa using hne, Bool.and_false]
      · rw [decide_eq_false hp]; simp
  have hodd : ((basN m s).filter fun b => xorL (cosN m s b) e).length ≤ ((List.range (2 ^ m)).filter e).length := by
    refine count_parts (offM s) e (List.range (2 ^ m)) (List.nodup_range.filter _ |>.filter _) fun b hb => ?_
    obtain ⟨x, hx, h1⟩ := xorL_true_mem (List.mem_filter.1 hb).2
    rw [cosN, List.mem_filter, beq_iff_eq] at hx
    exact ⟨x, hx.1, hx.2, h1⟩
  have hf : ((basN m s).filter fun b => xorL (cosN m s b) (fun x => e x ^^ xorL (monN r m) fun t => (decide (popT t ≤ popT s) && c t) && inM t x)) = (basN m s).filter fun b => xorL (cosN m s b) e ^^ c s := List.filter_congr hpar
  unfold voteB
  rw [hf]
  cases hc : c s with
  | false =>
    simp only [Bool.xor_false]
    exact decide_eq_false (by omega)
  | true =>
    have h1 := filt_not (fun b => xorL (cosN m s b) e) (basN m s)
    simp only [Bool.xor_true]
    exact decide_eq_true (by omega)
theorem near_left (hm : m ≤ 5) (hr : r ≤ m) (w c : Nat → Bool) (he : 2 * offB m w (wordB r m c) < 2 ^ (m - r)) : ∀ k : Nat, k ≤ r + 1 → ∀ x, leftB r m w k x = (w x ^^ xorL (monN r m) fun s => (decide (r < popT s + k) && c s) && inM s x)
  | 0, hk, x => by
    rw [xorL_false (p := fun s => (decide (r < popT s + 0) && c s) && inM s x) (l := monN r m), Bool.xor_false]
    · rfl
    · intro s hs
      have := (mem_mon.1 hs).1
      rw [decide_eq_false (by omega)]; rfl
  | k + 1, hk, x => by
    have IH := near_left hm hr w c he k (by omega)
    show (leftB r m w k x ^^ _) = _
    rw [IH x, Bool.xor_assoc, ← xorL_xor]
    congr 1
    refine xorL_congr fun s hs => ?_
    by_cases h1 : popT s = r - k
    · have hl : leftB r m w k = fun x => (w x ^^ wordB r m c x) ^^ xorL (monN r m) fun t => (decide (popT t ≤ popT s) && c t) && inM t x := by
        funext y
        rw [IH y, wordB, Bool.xor_assoc, ← xorL_xor]
        congr 1
        refine xorL_congr fun t ht => ?_
        by_cases h2 : r < popT t + k
        · rw [decide_eq_true h2, decide_eq_false (show ¬ popT t ≤ popT s by omega)]; simp
        · rw [decide_eq_false h2, decide_eq_true (show popT t ≤ popT s by omega)]; simp
      have hv : voteB m (leftB r m w k) s = c s := by rw [hl]; exact vote_ok hm hr _ c hs he
      rw [decide_eq_false (show ¬ r < popT s + k by omega), decide_eq_true (show r < popT s + (k + 1) by omega), hv, h1]
      simp
    · rw [show (popT s == r - k) = false by simpa using h1]
      by_cases h2 : r < popT s + k
      · rw [decide_eq_true h2, decide_eq_true (show r < popT s + (k + 1) by omega)]; simp
      · rw [decide_eq_false h2, decide_eq_false (show ¬ r < popT s + (k + 1) by omega)]; simp
/-- what is near of a message leaves as much as it is off -/
theorem near_end (hm : m ≤ 5) (hr : r ≤ m) (w c : Nat → Bool) (he : 2 * offB m w (wordB r m c) < 2 ^ (m - r)) (x : Nat) : leftB r m w (r + 1) x = (w x ^^ wordB r m c x) := by
  rw [near_left hm hr w c he (r + 1) (Nat.le_refl _)]
  unfold wordB
  congr 1
  refine xorL_congr fun s hs => ?_
  rw [decide_eq_true (by omega), Bool.true_and]
end
end Go.Proofs.Ytammndhoillliaa
