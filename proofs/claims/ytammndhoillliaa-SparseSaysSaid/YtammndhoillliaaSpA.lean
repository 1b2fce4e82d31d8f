/-
  Codes of few checks in plain lists: what may be, what peeling fills in, what flipping turns, which sets stop. No condition.
-/
import Derived.Test.YtammndhoillliaaL1
namespace Go.Proofs.Ytammndhoillliaa
open Go.Am
set_option linter.unusedVariables false
set_option linter.unusedSimpArgs false

/-! ### may checks be? -/
def cE (n : Int) (c : List Int) : Nat → Nat → Int
  | 0, _ => 0
  | m + 1, k => if gi c k < 0 ∨ n ≤ gi c k then 10 else if 0 < k ∧ gi c k ≤ gi c ((k : Int) - 1) then 3 else cE n c m (k + 1)
def chL (n : Int) : List (List Int) → Int
  | [] => 0
  | c :: r => if cE n c c.length 0 = 0 then chL n r else cE n c c.length 0
def chkE (n : Int) (cs : List (List Int)) : Int := if n < 1 ∨ 64 < n ∨ 64 < cs.length then 4 else chL n cs
theorem cE_ok {n : Int} {c : List Int} : ∀ (m k : Nat), k + m = c.length → cE n c m k = 0 → ∀ j : Nat, k ≤ j → j < c.length → 0 ≤ gi c j ∧ gi c j < n
  | 0, k, hk, _, j, h1, h2 => by omega
  | m + 1, k, hk, h, j, h1, h2 => by
    rw [cE] at h
    split at h
    · cases h
    · split at h
      · cases h
      · by_cases e : j = k
        · subst e; omega
        · exact cE_ok m (k + 1) (by omega) h j (by omega) h2
/-- each place of a check is one of n -/
def Fits (n : Nat) (c : List Int) : Prop := ∀ v ∈ c, 0 ≤ v ∧ v < n
theorem gi_mem' {l : List Int} {v : Int} (h : v ∈ l) : ∃ j : Nat, j < l.length ∧ gi l j = v := by
  obtain ⟨i, hi, he⟩ := List.getElem_of_mem h
  exact ⟨i, hi, by rw [gi_nat hi, he]⟩
theorem chL_ok {n : Nat} : ∀ {cs : List (List Int)}, chL n cs = 0 → ∀ c ∈ cs, Fits n c
  | [], _, c, hc => by cases hc
  | x :: r, h, c, hc => by
    rw [chL] at h
    split at h
    · rename_i h0
      rcases List.mem_cons.1 hc with rfl | hc
      · intro v hv
        obtain ⟨j, hj, rfl⟩ := gi_mem' hv
        exact cE_ok c.length 0 (by omega) h0 j (by omega) hj
      · exact chL_ok h c hc
    · contradiction

/-! ### one check, of what came -/
structure PS where
  lost : Nat
  at' : Int
  sum : Int
def psStep (now : List Int) (s : PS) (v : Int) : PS := if gi now v < 0 then ⟨s.lost + 1, v, s.sum⟩ else ⟨s.lost, s.at', (s.sum + gi now v) % 2⟩
def psOf (now c : List Int) : PS := c.foldl (psStep now) ⟨0, 0, 0⟩
/-- what a check that has just one lost place says of it -/
def lone (now c : List Int) : Option (Int × Int) := if (psOf now c).lost = 1 then some ((psOf now c).at', (psOf now c).sum) else none
theorem ps_inv {now : List Int} {n : Nat} : ∀ {c : List Int} {s : PS}, Fits n c → (s.lost = 0 ∨ (0 ≤ s.at' ∧ s.at' < n ∧ gi now s.at' < 0)) → (0 ≤ s.sum ∧ s.sum < 2) →
    ((c.foldl (psStep now) s).lost = 0 ∨ (0 ≤ (c.foldl (psStep now) s).at' ∧ (c.foldl (psStep now) s).at' < n ∧ gi now (c.foldl (psStep now) s).at' < 0)) ∧ (0 ≤ (c.foldl (psStep now) s).sum ∧ (c.foldl (psStep now) s).sum < 2)
  | [], s, _, h1, h2 => ⟨h1, h2⟩
  | v :: c, s, hf, h1, h2 => by
    rw [List.foldl_cons]
    have hv := hf v (by simp)
    refine ps_inv (fun x hx => hf x (by simp [hx])) ?_ ?_
    · unfold psStep; split
      · exact .inr ⟨hv.1, hv.2, by assumption⟩
      · exact h1
    · unfold psStep; split
      · exact h2
      · simp only; omega
theorem lone_ok {now c : List Int} {n : Nat} (hf : Fits n c) {a s : Int} (h : lone now c = some (a, s)) : 0 ≤ a ∧ a < n ∧ gi now a < 0 ∧ 0 ≤ s ∧ s < 2 := by
  unfold lone at h
  split at h
  · rename_i h1
    cases h
    have := ps_inv (now := now) (n := n) (c := c) (s := ⟨0, 0, 0⟩) hf (.inl rfl) (by simp)
    unfold psOf at h1 ⊢
    omega
  · cases h

/-! ### a round of peeling, from the front and from the back -/
/-- what the first check says that speaks of a place alone -/
def sel (now : List Int) : List (List Int) → Int → Option Int
  | [], _ => none
  | c :: cs, p => match lone now c with
    | some (a, s) => if a = p then some s else sel now cs p
    | none => sel now cs p
def fwd (now : List Int) : List (List Int) → List Int → List Int
  | [], next => next
  | c :: cs, next => match lone now c with
    | some (a, s) => if gi next a < 0 then fwd now cs (next.set a.toNat s) else fwd now cs next
    | none => fwd now cs next
def bwd (now : List Int) : List (List Int) → List Int → List Int
  | [], next => next
  | c :: cs, next => match lone now c with
    | some (a, s) => (bwd now cs next).set a.toNat s
    | none => bwd now cs next
theorem fwd_len (now : List Int) : ∀ (cs : List (List Int)) (next : List Int), (fwd now cs next).length = next.length
  | [], next => rfl
  | c :: cs, next => by
    rw [fwd]
    split
    · split
      · rw [fwd_len now cs]; simp
      · rw [fwd_len now cs]
    · rw [fwd_len now cs]
theorem bwd_len (now : List Int) : ∀ (cs : List (List Int)) (next : List Int), (bwd now cs next).length = next.length
  | [], next => rfl
  | c :: cs, next => by
    rw [bwd]
    split
    · simp [bwd_len now cs]
    · rw [bwd_len now cs]
theorem gi_set' {zs : List Int} {a : Int} {v : Int} (h0 : 0 ≤ a) (h1 : a < zs.length) (p : Nat) : gi (zs.set a.toNat v) p = if a = p then v else gi zs p := by
  rw [gi_set (by omega)]
  by_cases he : a.toNat = p
  · rw [if_pos he, if_pos (by omega)]
  · rw [if_neg he, if_neg (by omega)]
theorem fwd_get {now : List Int} {n : Nat} : ∀ {cs : List (List Int)} {next : List Int}, (∀ c ∈ cs, Fits n c) → next.length = n → ∀ p : Nat, gi (fwd now cs next) p = if gi next p < 0 then (sel now cs p).getD (gi next p) else gi next p
  | [], next, _, _, p => by simp [fwd, sel]
  | c :: cs, next, hf, hn, p => by
    rw [fwd, sel]
    have hf' : ∀ x ∈ cs, Fits n x := fun x hx => hf x (by simp [hx])
    cases hl : lone now c with
    | none => exact fwd_get hf' hn p
    | some q =>
      obtain ⟨a, s⟩ := q
      obtain ⟨h1, h2, h3, h4, h5⟩ := lone_ok (hf c (by simp)) hl
      simp only
      split
      · rename_i hlt
        rw [fwd_get hf' (by simpa using hn) p, gi_set' h1 (by omega)]
        by_cases he : a = p
        · subst he
          simp only [if_true]
          rw [if_neg (by omega), if_pos hlt]; rfl
        · simp only [if_neg he]
      · rename_i hge
        rw [fwd_get hf' hn p]
        by_cases he : a = p
        · subst he
          rw [if_neg hge, if_neg hge]
        · simp only [if_neg he]
theorem bwd_get {now : List Int} {n : Nat} : ∀ {cs : List (List Int)} {next : List Int}, (∀ c ∈ cs, Fits n c) → next.length = n → ∀ p : Nat, gi (bwd now cs next) p = (sel now cs p).getD (gi next p)
  | [], next, _, _, p => rfl
  | c :: cs, next, hf, hn, p => by
    rw [bwd, sel]
    have hf' : ∀ x ∈ cs, Fits n x := fun x hx => hf x (by simp [hx])
    cases hl : lone now c with
    | none => exact bwd_get hf' hn p
    | some q =>
      obtain ⟨a, s⟩ := q
      obtain ⟨h1, h2, h3, h4, h5⟩ := lone_ok (hf c (by simp)) hl
      simp only
      rw [gi_set' h1 (by rw [bwd_len]; omega)]
      by_cases he : a = p
      · simp only [if_pos he]; rfl
      · simp only [if_neg he]; exact bwd_get hf' hn p
theorem sel_ok {now : List Int} {n : Nat} : ∀ {cs : List (List Int)}, (∀ c ∈ cs, Fits n c) → ∀ {p s : Int}, sel now cs p = some s → gi now p < 0 ∧ 0 ≤ s ∧ s < 2
  | [], _, p, s, h => by cases h
  | c :: cs, hf, p, s, h => by
    rw [sel] at h
    split at h
    · rename_i a t hl
      obtain ⟨h1, h2, h3, h4, h5⟩ := lone_ok (hf c (by simp)) hl
      split at h
      · rename_i he
        cases h; subst he; exact ⟨h3, h4, h5⟩
      · exact sel_ok (fun x hx => hf x (by simp [hx])) h
    · exact sel_ok (fun x hx => hf x (by simp [hx])) h
theorem gi_ext {a b : List Int} (hl : a.length = b.length) (h : ∀ p : Nat, p < a.length → gi a p = gi b p) : a = b := by
  refine List.ext_getElem hl fun i h1 h2 => ?_
  have := h i h1
  rwa [gi_nat h1, gi_nat h2] at this
theorem fwd_bwd {now : List Int} {n : Nat} {cs : List (List Int)} (hf : ∀ c ∈ cs, Fits n c) (hn : now.length = n) : fwd now cs now = bwd now cs now := by
  refine gi_ext (by rw [fwd_len, bwd_len]) fun p hp => ?_
  rw [fwd_get hf hn, bwd_get hf hn]
  split
  · rfl
  · cases hs : sel now cs p with
    | none => rfl
    | some s => have := (sel_ok hf hs).1; omega
/-- does any check speak of a place alone? -/
def someL (now : List Int) (cs : List (List Int)) : Bool := cs.any fun c => (lone now c).isSome
theorem sel_none {now : List Int} : ∀ {cs : List (List Int)}, someL now cs = false → ∀ p, sel now cs p = none
  | [], _, p => rfl
  | c :: cs, h, p => by
    rw [someL, List.any_cons, Bool.or_eq_false_iff] at h
    rw [sel]
    cases hl : lone now c with
    | none => exact sel_none h.2 p
    | some q => rw [hl] at h; cases h.1
theorem sel_some {now : List Int} {n : Nat} : ∀ {cs : List (List Int)}, (∀ c ∈ cs, Fits n c) → someL now cs = true → ∃ p : Nat, p < n ∧ ∃ s, sel now cs p = some s
  | [], _, h => by cases h
  | c :: cs, hf, h => by
    cases hl : lone now c with
    | none =>
      rw [someL, List.any_cons, hl, Option.isSome_none, Bool.false_or] at h
      obtain ⟨p, hp, s, hs⟩ := sel_some (now := now) (cs := cs) (fun x hx => hf x (by simp [hx])) h
      exact ⟨p, hp, s, by rw [sel, hl]; exact hs⟩
    | some q =>
      obtain ⟨a, s⟩ := q
      obtain ⟨h1, h2, _⟩ := lone_ok (hf c (by simp)) hl
      exact ⟨a.toNat, by omega, s, by rw [sel, hl]; simp only; rw [if_pos (by omega)]⟩
theorem bwd_same {now : List Int} {n : Nat} {cs : List (List Int)} (hf : ∀ c ∈ cs, Fits n c) (hn : now.length = n) : now = bwd now cs now ↔ someL now cs = false := by
  constructor
  · intro he
    cases hs : someL now cs with
    | false => rfl
    | true =>
      obtain ⟨p, hp, s, h1⟩ := sel_some hf hs
      have h2 := bwd_get hf hn p (next := now) (now := now)
      rw [← he, h1] at h2
      have := sel_ok hf h1
      simp at h2
      omega
  · intro hs
    refine gi_ext (by rw [bwd_len]) fun p hp => ?_
    rw [bwd_get hf hn, sel_none hs]; rfl

/-! ### rounds -/
def neg (l : List Int) : Nat := l.countP fun v => decide (v < 0)
def peelN (cs : List (List Int)) : Nat → List Int → List Int
  | 0, now => now
  | k + 1, now => if someL now cs then peelN cs k (bwd now cs now) else now
theorem neg_zero {now : List Int} {n : Nat} {cs : List (List Int)} (hf : ∀ c ∈ cs, Fits n c) (hn : now.length = n) (h : neg now = 0) : someL now cs = false := by
  cases hs : someL now cs with
  | false => rfl
  | true =>
    obtain ⟨p, hp, s, h1⟩ := sel_some hf hs
    have h2 := (sel_ok hf h1).1
    rw [gi_nat (by omega)] at h2
    unfold neg at h
    rw [List.countP_eq_zero] at h
    have := h _ (List.getElem_mem (show p < now.length by omega))
    simp only [decide_eq_true_eq] at this
    omega
theorem neg_le : ∀ {a b : List Int}, a.length = b.length → (∀ p : Nat, p < a.length → 0 ≤ gi b p → 0 ≤ gi a p) → neg a ≤ neg b ∧ (∀ p : Nat, p < a.length → 0 ≤ gi a p → gi b p < 0 → neg a < neg b)
  | [], [], _, _ => ⟨Nat.le_refl _, fun p hp => by simp at hp⟩
  | [], _ :: _, h, _ => by simp at h
  | _ :: _, [], h, _ => by simp at h
  | x :: a, y :: b, hl, h => by
    have h0 := h 0 (by simp)
    have g0 : ∀ (x : Int) (a : List Int), gi (x :: a) ((0 : Nat) : Int) = x := fun _ _ => rfl
    rw [g0, g0] at h0
    obtain ⟨i1, i2⟩ := neg_le (a := a) (b := b) (by simpa using hl) (fun p hp => by have := h (p + 1) (by simpa using hp); rwa [gi_cons_succ, gi_cons_succ] at this)
    unfold neg at *
    rw [List.countP_cons, List.countP_cons]
    refine ⟨?_, fun p hp ha hb => ?_⟩
    · by_cases hx : x < 0
      · have hy : y < 0 := by omega
        rw [decide_eq_true hx, decide_eq_true hy]; simp; exact i1
      · rw [decide_eq_false hx]; simp; omega
    · cases p with
      | zero =>
        rw [g0] at ha hb
        rw [decide_eq_false (show ¬ x < 0 by omega), decide_eq_true hb]; simp; omega
      | succ p =>
        rw [gi_cons_succ] at ha hb
        have := i2 p (by simpa using hp) ha hb
        by_cases hx : x < 0
        · have hy : y < 0 := by omega
          rw [decide_eq_true hx, decide_eq_true hy]; simp; exact this
        · rw [decide_eq_false hx]; simp; omega
theorem neg_bwd {now : List Int} {n : Nat} {cs : List (List Int)} (hf : ∀ c ∈ cs, Fits n c) (hn : now.length = n) (hs : someL now cs = true) : neg (bwd now cs now) < neg now := by
  obtain ⟨p, hp, s, h1⟩ := sel_some hf hs
  have h2 := sel_ok hf h1
  refine (neg_le (bwd_len _ _ _) (fun q hq h0 => ?_)).2 p (by rw [bwd_len]; omega) ?_ h2.1
  · rw [bwd_get hf hn]
    cases hq : sel now cs q with
    | none => exact h0
    | some t => exact (sel_ok hf hq).2.1
  · rw [bwd_get hf hn, h1]; exact h2.2.1
/-- bits, and what is lost -/
def Bits3 (l : List Int) : Prop := ∀ v ∈ l, -1 ≤ v ∧ v ≤ 1
theorem bits3_set {l : List Int} (h : Bits3 l) {k : Nat} {s : Int} (h0 : 0 ≤ s) (h1 : s < 2) : Bits3 (l.set k s) := by
  intro v hv
  rcases List.mem_or_eq_of_mem_set hv with h2 | rfl
  · exact h v h2
  · omega
theorem bits3_bwd {now : List Int} {n : Nat} : ∀ {cs : List (List Int)} {next : List Int}, (∀ c ∈ cs, Fits n c) → Bits3 next → Bits3 (bwd now cs next)
  | [], next, _, h => h
  | c :: cs, next, hf, h => by
    rw [bwd]
    cases hl : lone now c with
    | none => exact bits3_bwd (fun x hx => hf x (by simp [hx])) h
    | some q =>
      obtain ⟨a, s⟩ := q
      obtain ⟨_, _, _, h4, h5⟩ := lone_ok (hf c (by simp)) hl
      exact bits3_set (bits3_bwd (fun x hx => hf x (by simp [hx])) h) h4 h5
theorem bits3_get {l : List Int} (h : Bits3 l) {v : Int} (h0 : 0 ≤ v) (h1 : v < l.length) : -1 ≤ gi l v ∧ gi l v ≤ 1 := h _ (gi_mem h0 h1)

/-! ### which are left -/
def leftL (now : List Int) : Nat → Nat → List Int
  | 0, _ => []
  | m + 1, i => (if gi now i < 0 then [(i : Int)] else []) ++ leftL now m (i + 1)
theorem leftL_len (now : List Int) : ∀ m i, (leftL now m i).length ≤ m
  | 0, _ => by simp [leftL]
  | m + 1, i => by
    have := leftL_len now m (i + 1)
    rw [leftL, List.length_append]
    split <;> simp <;> omega
end Go.Proofs.Ytammndhoillliaa
