/-
  Codes of Reed and Muller in plain numbers: majority finds each message of which a word is near. No condition.
-/
import Derived.Test.YtammndhoillliaaL1
namespace Go.Proofs.Ytammndhoillliaa
open Go.Am
set_option linter.unusedVariables false
set_option linter.unusedSimpArgs false

/-! ### parities -/
def xorL {α : Type} (l : List α) (p : α → Bool) : Bool := l.foldr (fun a b => p a ^^ b) false
section
variable {α : Type}
theorem xorL_nil (p : α → Bool) : xorL [] p = false := rfl
theorem xorL_cons (a : α) (l : List α) (p : α → Bool) : xorL (a :: l) p = (p a ^^ xorL l p) := rfl
theorem xorL_app (p : α → Bool) : ∀ l l' : List α, xorL (l ++ l') p = (xorL l p ^^ xorL l' p)
  | [], l' => by rw [List.nil_append, xorL_nil, Bool.false_xor]
  | a :: l, l' => by rw [List.cons_append, xorL_cons, xorL_cons, xorL_app p l l', Bool.xor_assoc]
theorem xorL_xor (p r : α → Bool) : ∀ l : List α, xorL l (fun a => p a ^^ r a) = (xorL l p ^^ xorL l r)
  | [] => rfl
  | a :: l => by
    rw [xorL_cons, xorL_cons, xorL_cons, xorL_xor p r l]
    cases p a <;> cases r a <;> cases xorL l p <;> cases xorL l r <;> rfl
theorem xorL_and (b : Bool) (p : α → Bool) : ∀ l : List α, xorL l (fun a => b && p a) = (b && xorL l p)
  | [] => by cases b <;> rfl
  | a :: l => by
    rw [xorL_cons, xorL_cons, xorL_and b p l]
    cases b <;> cases p a <;> cases xorL l p <;> rfl
theorem xorL_congr {p r : α → Bool} : ∀ {l : List α}, (∀ a ∈ l, p a = r a) → xorL l p = xorL l r
  | [], _ => rfl
  | a :: l, h => by rw [xorL_cons, xorL_cons, h a (by simp), xorL_congr fun b hb => h b (by simp [hb])]
theorem xorL_false {p : α → Bool} {l : List α} (h : ∀ a ∈ l, p a = false) : xorL l p = false := by
  induction l with
  | nil => rfl
  | cons a l ih => rw [xorL_cons, h a (by simp), ih fun b hb => h b (by simp [hb]), Bool.xor_false]
theorem xorL_swap {β : Type} (p : α → β → Bool) (l' : List β) : ∀ l : List α, xorL l (fun a => xorL l' (p a)) = xorL l' (fun b => xorL l (fun a => p a b))
  | [] => by rw [xorL_nil]; exact (xorL_false fun _ _ => rfl).symm
  | a :: l => by rw [xorL_cons, xorL_swap p l' l, ← xorL_xor]; rfl
theorem xorL_filter (p q : α → Bool) : ∀ l : List α, xorL (l.filter q) p = xorL l (fun a => q a && p a)
  | [] => rfl
  | a :: l => by
    rw [xorL_cons, ← xorL_filter p q l, List.filter_cons]
    cases hq : q a with
    | true => rw [if_pos rfl, xorL_cons, Bool.true_and]
    | false => rw [if_neg (by decide), Bool.false_and, Bool.false_xor]
theorem xorL_one {p : α → Bool} {s : α} [DecidableEq α] : ∀ {l : List α}, l.Nodup → s ∈ l → (∀ a ∈ l, a ≠ s → p a = false) → xorL l p = p s
  | [], _, h, _ => by cases h
  | a :: l, hn, h, h0 => by
    rw [List.nodup_cons] at hn
    rw [xorL_cons]
    by_cases ha : a = s
    · subst ha
      rw [xorL_false fun b hb => h0 b (by simp [hb]) fun e => hn.1 (e ▸ hb), Bool.xor_false]
    · rw [h0 a (by simp) ha, Bool.false_xor]
      refine xorL_one hn.2 ?_ fun b hb => h0 b (by simp [hb])
      rcases List.mem_cons.1 h with h | h
      · exact absurd h.symm ha
      · exact h
theorem xorL_true_mem {p : α → Bool} {l : List α} (h : xorL l p = true) : ∃ a ∈ l, p a = true := by
  induction l with
  | nil => cases h
  | cons a l ih =>
    cases hp : p a with
    | true => exact ⟨a, by simp, hp⟩
    | false =>
      rw [xorL_cons, hp, Bool.false_xor] at h
      obtain ⟨b, hb, h1⟩ := ih h
      exact ⟨b, by simp [hb], h1⟩
end

/-! ### what is counted -/
/-- parts of which each holds a thing that counts are no more than what counts -/
theorem count_parts (key : Nat → Nat) (e : Nat → Bool) (l : List Nat) : ∀ {bs : List Nat}, bs.Nodup → (∀ b ∈ bs, ∃ x ∈ l, key x = b ∧ e x = true) → bs.length ≤ (l.filter e).length := by
  induction l with
  | nil =>
    intro bs _ h
    cases bs with
    | nil => simp
    | cons b bs => obtain ⟨x, hx, _⟩ := h b (by simp); cases hx
  | cons y l ih =>
    intro bs hn h
    by_cases he : e y = true
    · have h1 := ih (bs := bs.erase (key y)) (hn.erase _) fun b hb => by
        obtain ⟨x, hx, hk, hex⟩ := h b (List.mem_of_mem_erase hb)
        rcases List.mem_cons.1 hx with rfl | hx
        · rw [hk] at hb
          exact absurd hb (List.Nodup.not_mem_erase hn)
        · exact ⟨x, hx, hk, hex⟩
      rw [List.filter_cons, if_pos he, List.length_cons]
      have h2 := List.length_erase (a := key y) (l := bs)
      split at h2 <;> omega
    · rw [List.filter_cons, if_neg he]
      refine ih hn fun b hb => ?_
      obtain ⟨x, hx, hk, hex⟩ := h b hb
      rcases List.mem_cons.1 hx with rfl | hx
      · exact absurd hex he
      · exact ⟨x, hx, hk, hex⟩
end Go.Proofs.Ytammndhoillliaa
