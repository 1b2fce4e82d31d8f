/-
  Two memories of the small machine that are the same but for the names of their objects, and for objects that one of them has besides: values, frames and rows. No condition.
-/
import Derived.Test.YtammndhoillliaaAm10
namespace Go.Am
set_option linter.unusedVariables false
set_option linter.unusedSimpArgs false

/-- a value that names no object, and has no parts -/
def plain : Value → Bool
  | .pointer (some _) | .slice (some _) _ _ | .func .. | .agg _ | .tuple _ => false
  | _ => true
abbrev Rel := Nat → Nat → Prop
/-- values that are the same but for names (those of the first are below n) -/
inductive E (ρ : Rel) (n : Nat) : Value → Value → Prop
  | atom (v : Value) : plain v = true → E ρ n v v
  | ptr (o o2 off : Nat) : ρ o o2 → o < n → E ρ n (.pointer (some ⟨o, off, none⟩)) (.pointer (some ⟨o2, off, none⟩))
  | sl (o o2 off l c : Nat) : ρ o o2 → o < n → E ρ n (.slice (some ⟨o, off, none⟩) l c) (.slice (some ⟨o2, off, none⟩) l c)
  | func (f : FuncId) (cs cs2 : Array Value) : cs.size = cs2.size → (∀ i (h : i < cs.size) (h' : i < cs2.size), E ρ n cs[i] cs2[i]) → E ρ n (.func (.func f) #[] cs) (.func (.func f) #[] cs2)
  | agg (cs cs2 : Array Value) : cs.size = cs2.size → (∀ i (h : i < cs.size) (h' : i < cs2.size), E ρ n cs[i] cs2[i]) → E ρ n (.agg cs) (.agg cs2)
  | tuple (cs cs2 : Array Value) : cs.size = cs2.size → (∀ i (h : i < cs.size) (h' : i < cs2.size), E ρ n cs[i] cs2[i]) → E ρ n (.tuple cs) (.tuple cs2)

theorem E.mono {ρ ρ' : Rel} {n n' : Nat} {v v2 : Value} (h : E ρ n v v2) (hr : ∀ o o2, o < n → ρ o o2 → ρ' o o2 ∧ o < n') : E ρ' n' v v2 := by
  induction h with
  | atom v hp => exact .atom v hp
  | ptr o o2 off h1 h2 => exact .ptr o o2 off (hr _ _ h2 h1).1 (hr _ _ h2 h1).2
  | sl o o2 off l c h1 h2 => exact .sl o o2 off l c (hr _ _ h2 h1).1 (hr _ _ h2 h1).2
  | func f cs cs2 hs _ ih => exact .func f cs cs2 hs ih
  | agg cs cs2 hs _ ih => exact .agg cs cs2 hs ih
  | tuple cs cs2 hs _ ih => exact .tuple cs cs2 hs ih
theorem E.up {ρ : Rel} {n n' : Nat} {v v2 : Value} (h : E ρ n v v2) (hn : n ≤ n') : E ρ n' v v2 := h.mono fun o o2 h1 h2 => ⟨h2, by omega⟩
/-- one after the other -/
theorem E.comp {ρ σ τ : Rel} {n m k : Nat} {v v2 v3 : Value} (h : E ρ n v v2) (h2 : E σ m v2 v3) (hr : ∀ o o2 o3, ρ o o2 → o < n → σ o2 o3 → o2 < m → τ o o3 ∧ o < k) : E τ k v v3 := by
  induction h generalizing v3 with
  | atom v hp =>
    cases h2 with
    | atom _ _ => exact .atom v hp
    | ptr => cases hp
    | sl => cases hp
    | func => cases hp
    | agg => cases hp
    | tuple => cases hp
  | ptr o o2 off h1 hn => cases h2 with
    | ptr _ o3 _ h3 hm => exact .ptr _ _ _ (hr _ _ _ h1 hn h3 hm).1 (hr _ _ _ h1 hn h3 hm).2
    | atom _ hp => cases hp
  | sl o o2 off l c h1 hn => cases h2 with
    | sl _ o3 _ _ _ h3 hm => exact .sl _ _ _ _ _ (hr _ _ _ h1 hn h3 hm).1 (hr _ _ _ h1 hn h3 hm).2
    | atom _ hp => cases hp
  | func f cs cs2 hs _ ih => cases h2 with
    | func _ _ cs3 hs2 h4 => exact .func _ _ _ (hs.trans hs2) fun i h h' => ih i h (by omega) (h4 i (by omega) h')
    | atom _ hp => cases hp
  | agg cs cs2 hs _ ih => cases h2 with
    | agg _ cs3 hs2 h4 => exact .agg _ _ (hs.trans hs2) fun i h h' => ih i h (by omega) (h4 i (by omega) h')
    | atom _ hp => cases hp
  | tuple cs cs2 hs _ ih => cases h2 with
    | tuple _ cs3 hs2 h4 => exact .tuple _ _ (hs.trans hs2) fun i h h' => ih i h (by omega) (h4 i (by omega) h')
    | atom _ hp => cases hp
/-- names that name one thing make values that are one -/
theorem E.eq {n : Nat} {v v2 : Value} (h : E Eq n v v2) : v = v2 := by
  have arr : ∀ {cs cs2 : Array Value}, cs.size = cs2.size → (∀ i (h : i < cs.size) (h' : i < cs2.size), cs[i] = cs2[i]) → cs = cs2 := fun hs ih => Array.ext hs ih
  induction h with
  | atom v hp => rfl
  | ptr o o2 off h1 hn => cases h1; rfl
  | sl o o2 off l c h1 hn => cases h1; rfl
  | func f cs cs2 hs _ ih => rw [arr hs ih]
  | agg cs cs2 hs _ ih => rw [arr hs ih]
  | tuple cs cs2 hs _ ih => rw [arr hs ih]
theorem E.symm {ρ : Rel} {n m : Nat} {v v2 : Value} (h : E ρ n v v2) (hr : ∀ o o2, ρ o o2 → o < n → o2 < m) : E (fun a b => ρ b a) m v2 v := by
  induction h with
  | atom v hp => exact .atom v hp
  | ptr o o2 off h1 h2 => exact .ptr _ _ _ h1 (hr _ _ h1 h2)
  | sl o o2 off l c h1 h2 => exact .sl _ _ _ _ _ h1 (hr _ _ h1 h2)
  | func f cs cs2 hs _ ih => exact .func _ _ _ hs.symm fun i h h' => ih i h' h
  | agg cs cs2 hs _ ih => exact .agg _ _ hs.symm fun i h h' => ih i h' h
  | tuple cs cs2 hs _ ih => exact .tuple _ _ hs.symm fun i h h' => ih i h' h

/-! ### lists -/
def LE (ρ : Rel) (n : Nat) (l l2 : List Value) : Prop := l.length = l2.length ∧ ∀ (i : Nat) (v : Value), l[i]? = some v → ∃ v2, l2[i]? = some v2 ∧ E ρ n v v2
section
variable {ρ : Rel} {n : Nat}
theorem LE.nil : LE ρ n [] [] := ⟨rfl, fun i v h => by simp at h⟩
theorem LE.cons {v v2 : Value} {l l2 : List Value} (hv : E ρ n v v2) (hl : LE ρ n l l2) : LE ρ n (v :: l) (v2 :: l2) := by
  refine ⟨by simp [hl.1], fun i u h => ?_⟩
  cases i with
  | zero => simp at h; subst h; exact ⟨v2, rfl, hv⟩
  | succ i => simpa using hl.2 i u (by simpa using h)
theorem LE.mono {ρ' : Rel} {n' : Nat} {l l2 : List Value} (h : LE ρ n l l2) (hr : ∀ o o2, o < n → ρ o o2 → ρ' o o2 ∧ o < n') : LE ρ' n' l l2 :=
  ⟨h.1, fun i v hv => let ⟨v2, h1, h2⟩ := h.2 i v hv; ⟨v2, h1, h2.mono hr⟩⟩
theorem LE.up {n' : Nat} {l l2 : List Value} (h : LE ρ n l l2) (hn : n ≤ n') : LE ρ n' l l2 := h.mono fun o o2 h1 h2 => ⟨h2, by omega⟩
theorem LE.append {a a2 b b2 : List Value} (ha : LE ρ n a a2) (hb : LE ρ n b b2) : LE ρ n (a ++ b) (a2 ++ b2) := by
  refine ⟨by simp [ha.1, hb.1], fun i v h => ?_⟩
  by_cases hi : i < a.length
  · rw [List.getElem?_append_left hi] at h
    rw [List.getElem?_append_left (by rw [← ha.1]; exact hi)]
    exact ha.2 i v h
  · rw [List.getElem?_append_right (by omega)] at h
    rw [List.getElem?_append_right (by rw [← ha.1]; omega), ← ha.1]
    exact hb.2 _ v h
theorem LE.take {a a2 : List Value} (ha : LE ρ n a a2) (k : Nat) : LE ρ n (a.take k) (a2.take k) := by
  refine ⟨by simp [ha.1], fun i v h => ?_⟩
  rw [List.getElem?_take] at h ⊢
  split at h
  · rw [if_pos ‹_›]; exact ha.2 i v h
  · cases h
theorem LE.drop {a a2 : List Value} (ha : LE ρ n a a2) (k : Nat) : LE ρ n (a.drop k) (a2.drop k) := by
  refine ⟨by simp [ha.1], fun i v h => ?_⟩
  rw [List.getElem?_drop] at h ⊢
  exact ha.2 _ v h
theorem LE.splice {a a2 b b2 : List Value} (ha : LE ρ n a a2) (hb : LE ρ n b b2) (off : Nat) : LE ρ n (splice a off b) (splice a2 off b2) := by
  unfold Am.splice
  rw [hb.1]
  exact ((ha.take off).append hb).append (ha.drop _)
theorem LE.of_arrays {cs cs2 : Array Value} (hs : cs.size = cs2.size) (h : ∀ i (h : i < cs.size) (h' : i < cs2.size), E ρ n cs[i] cs2[i]) : LE ρ n cs.toList cs2.toList := by
  refine ⟨by simpa using hs, fun i v hv => ?_⟩
  rw [Array.getElem?_toList] at hv ⊢
  obtain ⟨hi, he⟩ := Array.getElem?_eq_some_iff.1 hv
  exact ⟨cs2[i]'(by omega), by simp [hs ▸ hi], he ▸ h i hi (by omega)⟩
theorem LE.arrays {l l2 : List Value} (h : LE ρ n l l2) : ∀ i (h : i < l.toArray.size) (h' : i < l2.toArray.size), E ρ n l.toArray[i] l2.toArray[i] := by
  intro i h1 h2
  obtain ⟨v', h3, h4⟩ := h.2 i l[i] (by simp [List.getElem?_eq_getElem (show i < l.length by simpa using h1)])
  simp at h1 h2 ⊢
  rw [List.getElem?_eq_getElem h2] at h3
  simp at h3
  rw [h3]; exact h4
theorem LE.agg {l l2 : List Value} (h : LE ρ n l l2) : E ρ n (.agg l.toArray) (.agg l2.toArray) := .agg _ _ (by simpa using h.1) h.arrays
theorem LE.tuple {l l2 : List Value} (h : LE ρ n l l2) : E ρ n (.tuple l.toArray) (.tuple l2.toArray) := .tuple _ _ (by simpa using h.1) h.arrays
theorem LE.func {l l2 : List Value} (f : FuncId) (h : LE ρ n l l2) : E ρ n (.func (.func f) #[] l.toArray) (.func (.func f) #[] l2.toArray) := .func _ _ _ (by simpa using h.1) h.arrays
theorem LE.none {l l2 : List Value} (h : LE ρ n l l2) {i : Nat} (hi : l[i]? = Option.none) : l2[i]? = Option.none := by
  rw [List.getElem?_eq_none_iff] at hi ⊢; rw [← h.1]; exact hi
theorem LE.comp {σ τ : Rel} {m k : Nat} {l l2 l3 : List Value} (h : LE ρ n l l2) (h2 : LE σ m l2 l3) (hr : ∀ o o2 o3, ρ o o2 → o < n → σ o2 o3 → o2 < m → τ o o3 ∧ o < k) : LE τ k l l3 :=
  ⟨h.1.trans h2.1, fun i v hv => let ⟨v2, h3, h4⟩ := h.2 i v hv; let ⟨v3, h5, h6⟩ := h2.2 i v2 h3; ⟨v3, h5, h4.comp h6 hr⟩⟩
theorem LE.symm {m : Nat} {l l2 : List Value} (h : LE ρ n l l2) (hr : ∀ o o2, ρ o o2 → o < n → o2 < m) : LE (fun a b => ρ b a) m l2 l :=
  ⟨h.1.symm, fun i v hv => by
    have hi : i < l.length := by rw [h.1]; exact (List.getElem?_eq_some_iff.1 hv).1
    obtain ⟨v2, h1, h2⟩ := h.2 i l[i] (List.getElem?_eq_getElem hi)
    rw [hv] at h1; cases h1
    exact ⟨_, List.getElem?_eq_getElem hi, h2.symm hr⟩⟩
theorem LE.eq {l l2 : List Value} (h : LE Eq n l l2) : l = l2 := by
  refine List.ext_getElem? fun i => ?_
  cases hl : l[i]? with
  | none => rw [h.none hl]
  | some v => obtain ⟨v2, h1, h2⟩ := h.2 i v hl; rw [h1, h2.eq]

/-! ### what a value is, seen from the other -/
theorem E.pl {v v2 : Value} (h : E ρ n v v2) (hp : plain v = true) : v2 = v := by
  cases h <;> first | rfl | cases hp
theorem E.int {k : IntKind} {i : Int} {v2 : Value} (h : E ρ n (.int k i) v2) : v2 = .int k i := h.pl rfl
theorem E.bool {b : Bool} {v2 : Value} (h : E ρ n (.bool b) v2) : v2 = .bool b := h.pl rfl
theorem E.str {b : ByteArray} {v2 : Value} (h : E ρ n (.string b) v2) : v2 = .string b := h.pl rfl
theorem E.ptr_inv {a : Addr} {v2 : Value} (h : E ρ n (.pointer (some a)) v2) : ∃ o2, a.spot = none ∧ ρ a.block o2 ∧ a.block < n ∧ v2 = .pointer (some ⟨o2, a.off, none⟩) := by
  cases h with
  | ptr o o2 off h1 h2 => exact ⟨o2, rfl, h1, h2, rfl⟩
  | atom _ hp => cases hp
theorem E.sl_inv {a : Addr} {l c : Nat} {v2 : Value} (h : E ρ n (.slice (some a) l c) v2) : ∃ o2, a.spot = none ∧ ρ a.block o2 ∧ a.block < n ∧ v2 = .slice (some ⟨o2, a.off, none⟩) l c := by
  cases h with
  | sl o o2 off l c h1 h2 => exact ⟨o2, rfl, h1, h2, rfl⟩
  | atom _ hp => cases hp
theorem E.agg_inv {cs : Array Value} {v2 : Value} (h : E ρ n (.agg cs) v2) : ∃ cs2, v2 = .agg cs2 ∧ LE ρ n cs.toList cs2.toList := by
  cases h with
  | agg _ cs2 hs hh => exact ⟨cs2, rfl, LE.of_arrays hs hh⟩
  | atom _ hp => cases hp
theorem E.tuple_inv {cs : Array Value} {v2 : Value} (h : E ρ n (.tuple cs) v2) : ∃ cs2, v2 = .tuple cs2 ∧ LE ρ n cs.toList cs2.toList := by
  cases h with
  | tuple _ cs2 hs hh => exact ⟨cs2, rfl, LE.of_arrays hs hh⟩
  | atom _ hp => cases hp
theorem E.func_inv {c : Fn} {first cs : Array Value} {v2 : Value} (h : E ρ n (.func c first cs) v2) : ∃ f cs2, c = .func f ∧ first = #[] ∧ v2 = .func (.func f) #[] cs2 ∧ LE ρ n cs.toList cs2.toList := by
  cases h with
  | func f _ cs2 hs hh => exact ⟨f, cs2, rfl, rfl, rfl, LE.of_arrays hs hh⟩
  | atom _ hp => cases hp
theorem E.cells {v v2 : Value} (h : E ρ n v v2) : LE ρ n v.cells.toList v2.cells.toList := by
  cases h with
  | agg cs cs2 hs hh => exact LE.of_arrays hs hh
  | atom v hp =>
    cases v <;> first | (cases hp; done) | exact LE.cons (.atom _ hp) LE.nil
  | ptr o o2 off h1 h2 => exact LE.cons (.ptr _ _ _ h1 h2) LE.nil
  | sl o o2 off l c h1 h2 => exact LE.cons (.sl _ _ _ _ _ h1 h2) LE.nil
  | func f cs cs2 hs hh => exact LE.cons (.func _ _ _ hs hh) LE.nil
  | tuple cs cs2 hs hh => exact LE.cons (.tuple _ _ hs hh) LE.nil
theorem E.cells_size {v v2 : Value} (h : E ρ n v v2) : v2.cells.size = v.cells.size := by have := h.cells.1; simpa using this.symm
theorem E.flat {v v2 : Value} (h : E ρ n v v2) : flat v2 = flat v := by cases h <;> rfl
theorem closed1_E {v : Value} (h : closed1 v = true) : E ρ n v v := by
  unfold closed1 at h
  split at h <;> first | (cases h; done) | exact .atom _ rfl
theorem closed_E {v : Value} (h : closed v = true) : E ρ n v v := by
  unfold closed at h
  split at h
  · rename_i cs
    rw [Array.all_eq_true] at h
    exact .agg cs cs rfl fun i hi _ => closed1_E (h i hi)
  · rename_i cs
    rw [Array.all_eq_true] at h
    exact .tuple cs cs rfl fun i hi _ => closed1_E (h i hi)
  · exact closed1_E h
theorem LE.rep {l l2 : List Value} (h : LE ρ n l l2) : ∀ k, LE ρ n (rep l k) (rep l2 k)
  | 0 => LE.nil
  | k + 1 => h.append (LE.rep h k)
end
end Go.Am
