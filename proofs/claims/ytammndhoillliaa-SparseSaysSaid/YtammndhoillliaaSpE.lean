/-
  Flipping in plain lists: which checks are odd, in how many odd ones each bit is, what is turned. No condition.
-/
import Derived.Test.YtammndhoillliaaSpD
namespace Go.Proofs.Ytammndhoillliaa
open Go.Am
set_option linter.unusedVariables false
set_option linter.unusedSimpArgs false

/-! ### odd checks -/
def sumW (w c : List Int) (s : Int) : Int := c.foldl (fun s v => s + gi w v) s
def parW (w c : List Int) (s : Int) : Int := c.foldl (fun s v => (s + gi w v) % 2) s
def oddC (w c : List Int) : Bool := decide (sumW w c 0 % 2 = 1)
theorem par_sum (w : List Int) : ∀ (c : List Int) (s t : Int), s = t % 2 → parW w c s = sumW w c t % 2
  | [], s, t, h => h
  | v :: c, s, t, h => by
    unfold parW sumW at *
    rw [List.foldl_cons, List.foldl_cons]
    exact par_sum w c _ _ (by omega)
theorem par_odd (w c : List Int) : decide (parW w c 0 = 1) = oddC w c := by rw [par_sum w c 0 0 rfl]; rfl
def Bits2 (l : List Int) : Prop := ∀ v ∈ l, 0 ≤ v ∧ v ≤ 1
theorem bits2_get {l : List Int} (h : Bits2 l) {v : Int} (h0 : 0 ≤ v) (h1 : v < l.length) : 0 ≤ gi l v ∧ gi l v ≤ 1 := h _ (gi_mem h0 h1)
theorem sum_in {w : List Int} (hb : Bits2 w) : ∀ (c : List Int) (s : Int), Fits w.length c → 0 ≤ s → s ≤ sumW w c s ∧ sumW w c s ≤ s + c.length
  | [], s, _, h => by simp [sumW]
  | v :: c, s, hf, h => by
    have hv := hf v (by simp)
    have hx := bits2_get hb hv.1 hv.2
    have := sum_in hb c (s + gi w v) (fun x hx => hf x (by simp [hx])) (by omega)
    unfold sumW at *
    rw [List.foldl_cons, List.length_cons]
    omega
theorem odd_ne {w c : List Int} (h : oddC w c = true) : c ≠ [] := by
  rintro rfl
  simp [oddC, sumW] at h

/-! ### in how many -/
def inc (l : List Int) (v : Int) : List Int := l.set v.toNat (gi l v + 1)
def cntC (l c : List Int) : List Int := c.foldl inc l
def cntL (w : List Int) (cs : List (List Int)) (l : List Int) : List Int := cs.foldl (fun l c => if oddC w c = true then cntC l c else l) l
theorem inc_len (l : List Int) (v : Int) : (inc l v).length = l.length := by simp [inc]
theorem cntC_len : ∀ (c l : List Int), (cntC l c).length = l.length
  | [], l => rfl
  | v :: c, l => by
    show (cntC (inc l v) c).length = _
    rw [cntC_len c, inc_len]
theorem cntL_len (w : List Int) : ∀ (cs : List (List Int)) (l : List Int), (cntL w cs l).length = l.length
  | [], l => rfl
  | c :: cs, l => by
    show (cntL w cs (if oddC w c = true then cntC l c else l)).length = _
    rw [cntL_len w cs]
    split
    · exact cntC_len c l
    · rfl
theorem inc_get {l : List Int} {v : Int} (h0 : 0 ≤ v) (h1 : v < l.length) (p : Nat) : gi (inc l v) p = if v = p then gi l p + 1 else gi l p := by
  unfold inc
  rw [gi_set' h0 h1]
  split
  · rename_i e; rw [e]
  · rfl
def InB (l : List Int) (B : Int) : Prop := ∀ p : Nat, p < l.length → 0 ≤ gi l p ∧ gi l p ≤ B
theorem inc_in {l : List Int} {B : Int} (h : InB l B) {v : Int} (h0 : 0 ≤ v) (h1 : v < l.length) : InB (inc l v) (B + 1) := by
  intro p hp
  rw [inc_len] at hp
  rw [inc_get h0 h1]
  have := h p hp
  split <;> omega
theorem cntC_in : ∀ {c l : List Int} {B : Int}, InB l B → Fits l.length c → InB (cntC l c) (B + c.length)
  | [], l, B, h, _ => by intro p hp; have := h p hp; unfold cntC at *; simp only [List.foldl_nil, List.length_nil] at *; omega
  | v :: c, l, B, h, hf => by
    have hv := hf v (by simp)
    have := cntC_in (c := c) (inc_in h hv.1 hv.2) (by rw [inc_len]; exact fun x hx => hf x (by simp [hx]))
    unfold cntC at *
    rw [List.foldl_cons, List.length_cons]
    intro p hp
    have := this p hp
    omega
theorem cntL_in {w : List Int} : ∀ {cs : List (List Int)} {l : List Int} {B : Int}, InB l B → (∀ c ∈ cs, Fits l.length c) → (∀ c ∈ cs, c.length ≤ 6000) → InB (cntL w cs l) (B + 6000 * cs.length)
  | [], l, B, h, _, _ => by intro p hp; have := h p hp; unfold cntL at *; simp only [List.foldl_nil, List.length_nil] at *; omega
  | c :: cs, l, B, h, hf, h6 => by
    have hc := hf c (by simp)
    have h6c := h6 c (by simp)
    have h2 : InB (if oddC w c = true then cntC l c else l) (B + 6000) := by
      split
      · intro p hp; have := cntC_in h hc p hp; omega
      · intro p hp; have := h p hp; omega
    have hlen : (if oddC w c = true then cntC l c else l).length = l.length := by
      split
      · exact cntC_len c l
      · rfl
    have := cntL_in (w := w) (cs := cs) h2 (by rw [hlen]; exact fun x hx => hf x (by simp [hx])) (fun x hx => h6 x (by simp [hx]))
    unfold cntL at *
    rw [List.foldl_cons, List.length_cons]
    intro p hp
    have := this p hp
    omega
theorem cntC_ge : ∀ {c l : List Int}, Fits l.length c → ∀ p : Nat, gi l p ≤ gi (cntC l c) p ∧ ((p : Int) ∈ c → gi l p < gi (cntC l c) p)
  | [], l, _, p => ⟨Int.le_refl _, fun h => by cases h⟩
  | v :: c, l, hf, p => by
    have hv := hf v (by simp)
    obtain ⟨i1, i2⟩ := cntC_ge (c := c) (l := inc l v) (by rw [inc_len]; exact fun x hx => hf x (by simp [hx])) p
    have hi := inc_get hv.1 hv.2 p
    unfold cntC at *
    rw [List.foldl_cons]
    refine ⟨by split at hi <;> omega, fun hm => ?_⟩
    rcases List.mem_cons.1 hm with he | hm
    · rw [if_pos he.symm] at hi; omega
    · have := i2 hm; split at hi <;> omega
theorem cntL_ge {w : List Int} : ∀ {cs : List (List Int)} {l : List Int}, (∀ c ∈ cs, Fits l.length c) → ∀ p : Nat, gi l p ≤ gi (cntL w cs l) p
  | [], l, _, p => Int.le_refl _
  | c :: cs, l, hf, p => by
    have hlen : (if oddC w c = true then cntC l c else l).length = l.length := by
      split
      · exact cntC_len c l
      · rfl
    have h1 := cntL_ge (w := w) (cs := cs) (l := if oddC w c = true then cntC l c else l) (by rw [hlen]; exact fun x hx => hf x (by simp [hx])) p
    have h2 : gi l p ≤ gi (if oddC w c = true then cntC l c else l) p := by
      split
      · exact (cntC_ge (hf c (by simp)) p).1
      · exact Int.le_refl _
    unfold cntL at *
    rw [List.foldl_cons]
    omega
theorem cntL_pos {w : List Int} : ∀ {cs : List (List Int)} {l : List Int}, (∀ c ∈ cs, Fits l.length c) → (∀ p : Nat, 0 ≤ gi l p) → cs.any (oddC w) = true → ∃ p : Nat, p < l.length ∧ 1 ≤ gi (cntL w cs l) p
  | [], l, _, _, h => by cases h
  | c :: cs, l, hf, h0, h => by
    have hlen : (if oddC w c = true then cntC l c else l).length = l.length := by
      split
      · exact cntC_len c l
      · rfl
    have hf' : ∀ x ∈ cs, Fits (if oddC w c = true then cntC l c else l).length x := by rw [hlen]; exact fun x hx => hf x (by simp [hx])
    have hcl : cntL w (c :: cs) l = cntL w cs (if oddC w c = true then cntC l c else l) := rfl
    rw [hcl]
    by_cases ho : oddC w c = true
    · rw [if_pos ho] at hf' ⊢
      obtain ⟨v, hv⟩ := List.exists_mem_of_ne_nil _ (odd_ne ho)
      have hvf := hf c (by simp) v hv
      refine ⟨v.toNat, by omega, ?_⟩
      have h1 := cntL_ge (w := w) hf' v.toNat
      have h2 := (cntC_ge (hf c (by simp)) v.toNat).2 (by rw [show ((v.toNat : Nat) : Int) = v by omega]; exact hv)
      have := h0 v.toNat
      omega
    · rw [if_neg ho] at hf' ⊢
      rw [List.any_cons, Bool.not_eq_true] at *
      rw [ho, Bool.false_or] at h
      exact cntL_pos hf' h0 h

/-! ### the most -/
def IsTop (l : List Int) (M : Int) : Prop := (∀ p : Nat, p < l.length → gi l p ≤ M) ∧ 0 ≤ M ∧ (M = 0 ∨ ∃ p : Nat, p < l.length ∧ gi l p = M)
theorem IsTop.uni {l : List Int} {M M' : Int} (h : IsTop l M) (h' : IsTop l M') : M = M' := by
  obtain ⟨a1, a2, a3⟩ := h
  obtain ⟨b1, b2, b3⟩ := h'
  have h1 : M ≤ M' := by
    rcases a3 with rfl | ⟨p, hp, rfl⟩
    · exact b2
    · exact b1 p hp
  have h2 : M' ≤ M := by
    rcases b3 with rfl | ⟨p, hp, rfl⟩
    · exact a2
    · exact a1 p hp
  omega
theorem IsTop.inc {l : List Int} {M : Int} (h : IsTop l M) (hl : ∀ p : Nat, p < l.length → 0 ≤ gi l p) {v : Int} (h0 : 0 ≤ v) (h1 : v < l.length) : IsTop (inc l v) (if M < gi l v + 1 then gi l v + 1 else M) := by
  obtain ⟨a1, a2, a3⟩ := h
  have hv : ((v.toNat : Nat) : Int) = v := by omega
  have hvl := hl v.toNat (by omega)
  rw [hv] at hvl
  refine ⟨fun p hp => ?_, by split <;> omega, ?_⟩
  · rw [inc_len] at hp
    rw [inc_get h0 h1]
    have := a1 p hp
    split
    · rename_i e; rw [← e]; split <;> omega
    · split <;> omega
  · split
    · exact .inr ⟨v.toNat, by rw [inc_len]; omega, by rw [inc_get h0 h1, if_pos hv.symm, hv]⟩
    · rename_i hm
      rcases a3 with h | ⟨p, hp, h⟩
      · exact .inl h
      · refine .inr ⟨p, by rw [inc_len]; exact hp, ?_⟩
        rw [inc_get h0 h1, if_neg, h]
        intro e
        rw [e] at hm; omega
def mxL (l : List Int) : Int := l.foldl (fun a b => if a < b then b else a) 0
theorem mx_top : ∀ (l : List Int) (pre : List Int) (M : Int), IsTop pre M → IsTop (pre ++ l) (l.foldl (fun a b => if a < b then b else a) M)
  | [], pre, M, h => by rw [List.append_nil]; exact h
  | x :: l, pre, M, h => by
    rw [List.foldl_cons, show pre ++ x :: l = (pre ++ [x]) ++ l by simp]
    refine mx_top l (pre ++ [x]) _ ?_
    obtain ⟨a1, a2, a3⟩ := h
    refine ⟨fun p hp => ?_, by split <;> omega, ?_⟩
    · by_cases hpl : p < pre.length
      · rw [gi_app hpl]; have := a1 p hpl; split <;> omega
      · simp at hp
        obtain rfl : p = pre.length := by omega
        rw [gi_last]; split <;> omega
    · split
      · exact .inr ⟨pre.length, by simp, gi_last⟩
      · rcases a3 with h | ⟨p, hp, h⟩
        · exact .inl h
        · exact .inr ⟨p, by simp; omega, by rw [gi_app hp, h]⟩
theorem mxL_top (l : List Int) : IsTop l (mxL l) := by
  have := mx_top l [] 0 ⟨fun p hp => by simp at hp, Int.le_refl _, .inl rfl⟩
  rwa [List.nil_append] at this

/-! ### what is turned -/
def flS (l : List Int) (top : Int) : Nat → Nat → List Int → List Int
  | 0, _, w => w
  | m + 1, i, w => flS l top m (i + 1) (if gi l i = top then w.set i (1 - gi w i) else w)
theorem flS_len (l : List Int) (top : Int) : ∀ (m i : Nat) (w : List Int), (flS l top m i w).length = w.length
  | 0, _, _ => rfl
  | m + 1, i, w => by
    rw [flS, flS_len l top m]
    split <;> simp
theorem bits2_set {l : List Int} (h : Bits2 l) {k : Nat} {s : Int} (h0 : 0 ≤ s) (h1 : s ≤ 1) : Bits2 (l.set k s) := by
  intro v hv
  rcases List.mem_or_eq_of_mem_set hv with h2 | rfl
  · exact h v h2
  · omega
theorem flS_bits (l : List Int) (top : Int) : ∀ (m i : Nat) (w : List Int), i + m ≤ w.length → Bits2 w → Bits2 (flS l top m i w)
  | 0, _, _, _, h => h
  | m + 1, i, w, hi, h => by
    rw [flS]
    refine flS_bits l top m (i + 1) _ (by split <;> first | (rw [List.length_set]; omega) | omega) ?_
    split
    · have := bits2_get h (v := (i : Int)) (by omega) (by omega)
      exact bits2_set h (by omega) (by omega)
    · exact h
def zerosL (n : Nat) : List Int := List.replicate n 0
theorem zeros_gi (n p : Nat) : gi (zerosL n) p = 0 := by
  unfold gi zerosL
  rw [List.getD_eq_getElem?_getD, List.getElem?_replicate]
  split <;> rfl
theorem zeros_in (n : Nat) : InB (zerosL n) 0 := fun p _ => by rw [zeros_gi]; omega
def cnts (cs : List (List Int)) (w : List Int) : List Int := cntL w cs (zerosL w.length)
def turnW (cs : List (List Int)) (w : List Int) : List Int := flS (cnts cs w) (mxL (cnts cs w)) w.length 0 w
def flipN (cs : List (List Int)) : Nat → List Int → Nat → List Int × Bool × Nat
  | 0, w, r => (w, !cs.any (oddC w), r)
  | k + 1, w, r => if cs.any (oddC w) = true then flipN cs k (turnW cs w) (r + 1) else (w, true, r)
theorem cnts_len (cs : List (List Int)) (w : List Int) : (cnts cs w).length = w.length := by unfold cnts; rw [cntL_len]; simp [zerosL]
theorem turn_len (cs : List (List Int)) (w : List Int) : (turnW cs w).length = w.length := flS_len _ _ _ _ _
theorem turn_bits {cs : List (List Int)} {w : List Int} (h : Bits2 w) : Bits2 (turnW cs w) := flS_bits _ _ _ _ _ (by omega) h
theorem flip_len (cs : List (List Int)) : ∀ (k : Nat) (w : List Int) (r : Nat), (flipN cs k w r).1.length = w.length
  | 0, _, _ => rfl
  | k + 1, w, r => by
    rw [flipN]
    split
    · rw [flip_len cs k, turn_len]
    · rfl
theorem cnts_top {cs : List (List Int)} {w : List Int} (hf : ∀ c ∈ cs, Fits w.length c) (h : cs.any (oddC w) = true) : 1 ≤ mxL (cnts cs w) := by
  obtain ⟨p, hp, h1⟩ := cntL_pos (w := w) (l := zerosL w.length) (by simpa [zerosL] using hf) (fun p => by rw [zeros_gi]; omega) h
  have := (mxL_top (cnts cs w)).1 p (by rw [cnts_len]; simpa [zerosL] using hp)
  unfold cnts at *
  omega
theorem cnts_in {cs : List (List Int)} {w : List Int} (hf : ∀ c ∈ cs, Fits w.length c) (h6 : ∀ c ∈ cs, c.length ≤ 6000) : InB (cnts cs w) (6000 * cs.length) := by
  have := cntL_in (w := w) (zeros_in w.length) (by simpa [zerosL] using hf) h6
  intro p hp
  have := this p hp
  unfold cnts
  omega

/-! ### which checks are odd, by their numbers -/
def oxL (w : List Int) : List (List Int) → Nat → List Int
  | [], _ => []
  | c :: r, i => (if oddC w c = true then [(i : Int)] else []) ++ oxL w r (i + 1)
theorem oxL_len (w : List Int) : ∀ (cs : List (List Int)) (i : Nat), (oxL w cs i).length ≤ cs.length
  | [], _ => Nat.le_refl _
  | c :: r, i => by
    have := oxL_len w r (i + 1)
    rw [oxL, List.length_append, List.length_cons]
    split <;> simp <;> omega
theorem oxL_any (w : List Int) : ∀ (cs : List (List Int)) (i : Nat), (oxL w cs i = []) ↔ cs.any (oddC w) = false
  | [], _ => by simp [oxL]
  | c :: r, i => by
    rw [oxL, List.any_cons, List.append_eq_nil_iff, Bool.or_eq_false_iff, oxL_any w r (i + 1)]
    refine and_congr_left' ?_
    cases oddC w c <;> simp
theorem oxL_mem (w : List Int) : ∀ (cs : List (List Int)) (i : Nat) (x : Int), x ∈ oxL w cs i → (i : Int) ≤ x ∧ x < i + cs.length
  | [], _, x, h => by cases h
  | c :: r, i, x, h => by
    rw [oxL, List.mem_append] at h
    rw [List.length_cons]
    rcases h with h | h
    · split at h
      · rw [List.mem_singleton.1 h]; omega
      · cases h
    · have := oxL_mem w r (i + 1) x h; omega
theorem oxL_cnt (w : List Int) (cs : List (List Int)) : ∀ (m i : Nat) (l : List Int), i + m = cs.length → (oxL w (cs.drop i) i).foldl (fun l x => cntC l (cs.getD x.toNat [])) l = cntL w (cs.drop i) l
  | 0, i, l, hi => by rw [drop_end (by omega)]; rfl
  | m + 1, i, l, hi => by
    obtain ⟨c, hc⟩ := at_some (l := cs) (i := i) (by omega)
    rw [drop_at hc, oxL]
    have hcl : cntL w (c :: cs.drop (i + 1)) l = cntL w (cs.drop (i + 1)) (if oddC w c = true then cntC l c else l) := rfl
    rw [hcl, ← oxL_cnt w cs m (i + 1) _ (by omega)]
    by_cases ho : oddC w c = true
    · rw [if_pos ho, if_pos ho, List.foldl_append, List.foldl_cons, List.foldl_nil, Int.toNat_natCast, List.getD_eq_getElem?_getD, hc]; rfl
    · rw [if_neg ho, if_neg ho, List.nil_append]
end Go.Proofs.Ytammndhoillliaa
