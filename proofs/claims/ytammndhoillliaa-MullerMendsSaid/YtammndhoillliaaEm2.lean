/-
  Two memories that are the same but for names: what an operation gives in one of them it gives in the other. No condition.
-/
import Derived.Test.YtammndhoillliaaEm1
namespace Go.Am
set_option linter.unusedVariables false
set_option linter.unusedSimpArgs false

def OE (ρ : Rel) (n : Nat) : Option Ob → Option Ob → Prop
  | none, none => True
  | some .dead, some .dead => True
  | some (.row r), some (.row r2) => r.elem = r2.elem ∧ r.unit = r2.unit ∧ r.own = r2.own ∧ LE ρ n r.cells r2.cells
  | _, _ => False
theorem OE.mono {ρ ρ' : Rel} {n n' : Nat} {a b : Option Ob} (h : OE ρ n a b) (hr : ∀ o o2, o < n → ρ o o2 → ρ' o o2 ∧ o < n') : OE ρ' n' a b := by
  unfold OE at h ⊢
  split at h
  · trivial
  · trivial
  · exact ⟨h.1, h.2.1, h.2.2.1, h.2.2.2.mono hr⟩
  · cases h
theorem OE.comp {ρ σ τ : Rel} {n m k : Nat} {a b c : Option Ob} (h : OE ρ n a b) (h2 : OE σ m b c) (hr : ∀ o o2 o3, ρ o o2 → o < n → σ o2 o3 → o2 < m → τ o o3 ∧ o < k) : OE τ k a c := by
  unfold OE at h
  split at h
  · cases c with
    | none => trivial
    | some c => cases c <;> cases h2
  · cases c with
    | none => cases h2
    | some c => cases c with
      | dead => trivial
      | row _ => cases h2
  · cases c with
    | none => cases h2
    | some c => cases c with
      | dead => cases h2
      | row _ => exact ⟨h.1.trans h2.1, h.2.1.trans h2.2.1, h.2.2.1.trans h2.2.2.1, h.2.2.2.comp h2.2.2.2 hr⟩
  · cases h
theorem OE.symm {ρ : Rel} {n m : Nat} {a b : Option Ob} (h : OE ρ n a b) (hr : ∀ o o2, ρ o o2 → o < n → o2 < m) : OE (fun x y => ρ y x) m b a := by
  unfold OE at h
  split at h
  · trivial
  · trivial
  · exact ⟨h.1.symm, h.2.1.symm, h.2.2.1.symm, h.2.2.2.symm hr⟩
  · cases h
theorem OE.eq {n : Nat} {a b : Option Ob} (h : OE Eq n a b) : a = b := by
  unfold OE at h
  split at h
  · rfl
  · rfl
  · rename_i r r2
    obtain ⟨h1, h2, h3, h4⟩ := h
    have := h4.eq
    cases r; cases r2; simp_all
  · cases h

/-- memories that are the same but for names -/
structure ME (ρ : Rel) (h h2 : H) : Prop where
  uni : ∀ o o2 p p2, ρ o o2 → ρ p p2 → (o = p ↔ o2 = p2)
  new : ∀ j, ρ (h.length + j) (h2.length + j)
  get : ∀ o o2, ρ o o2 → OE ρ h.length h[o]? h2[o2]?
/-- what comes behind them, of as many more objects -/
structure Post (ρ : Rel) (h h' h2 h2' : H) : Prop where
  me : ME ρ h' h2'
  more : ∃ m, h'.length = h.length + m ∧ h2'.length = h2.length + m
  keep : ∀ o, o < h.length → (∀ o2, ¬ρ o o2) → h'[o]? = h[o]?
  keep2 : ∀ o2, o2 < h2.length → (∀ o, ¬ρ o o2) → h2'[o2]? = h2[o2]?

section
variable {ρ : Rel} {h h2 h' h2' : H}
theorem ME.lt (hm : ME ρ h h2) {o o2 : Nat} (hr : ρ o o2) (ho : o < h.length) : o2 < h2.length := by
  by_cases hlt : o2 < h2.length
  · exact hlt
  · have := (hm.uni _ _ _ _ hr (hm.new (o2 - h2.length))).2 (by omega)
    omega
theorem ME.lt' (hm : ME ρ h h2) {o o2 : Nat} (hr : ρ o o2) (ho : o2 < h2.length) : o < h.length := by
  by_cases hlt : o < h.length
  · exact hlt
  · have := (hm.uni _ _ _ _ hr (hm.new (o - h.length))).1 (by omega)
    omega
theorem ME.symm (hm : ME ρ h h2) : ME (fun a b => ρ b a) h2 h :=
  ⟨fun o o2 p p2 h1 h2 => (hm.uni _ _ _ _ h1 h2).symm, hm.new, fun o o2 hr => (hm.get _ _ hr).symm fun a b h1 h2 => hm.lt h1 h2⟩
theorem ME.row (hm : ME ρ h h2) {o o2 : Nat} (hr : ρ o o2) {r : Row} (h1 : h.row o = some r) : ∃ r2, h2.row o2 = some r2 ∧ r2.elem = r.elem ∧ r2.unit = r.unit ∧ r2.own = r.own ∧ LE ρ h.length r.cells r2.cells := by
  have hg := hm.get _ _ hr
  unfold H.row at h1
  split at h1
  · rename_i r' he
    cases h1
    rw [he] at hg
    cases hh : h2[o2]? with
    | none => rw [hh] at hg; cases hg
    | some b => rw [hh] at hg; cases b with
      | dead => cases hg
      | row r2 => exact ⟨r2, by unfold H.row; rw [hh], hg.1.symm, hg.2.1.symm, hg.2.2.1.symm, hg.2.2.2⟩
  · cases h1
theorem Post.refl (hm : ME ρ h h2) : Post ρ h h h2 h2 := ⟨hm, ⟨0, rfl, rfl⟩, fun _ _ _ => rfl, fun _ _ _ => rfl⟩
theorem Post.trans {h'' h2'' : H} (a : Post ρ h h' h2 h2') (b : Post ρ h' h'' h2' h2'') : Post ρ h h'' h2 h2'' := by
  obtain ⟨m, m1, m2⟩ := a.more
  obtain ⟨k, k1, k2⟩ := b.more
  exact ⟨b.me, ⟨m + k, by omega, by omega⟩, fun o ho hn => (b.keep o (by omega) hn).trans (a.keep o ho hn), fun o ho hn => (b.keep2 o (by omega) hn).trans (a.keep2 o ho hn)⟩
theorem Post.len (a : Post ρ h h' h2 h2') : h.length ≤ h'.length := by obtain ⟨m, m1, _⟩ := a.more; omega
theorem Post.len2 (a : Post ρ h h' h2 h2') : h2.length ≤ h2'.length := by obtain ⟨m, _, m1⟩ := a.more; omega
/-- what only adds, only adds -/
theorem Post.pre (hm : ME ρ h h2) (a : Post ρ h h' h2 h2') (hp : h <+: h') : h2 <+: h2' := by
  rw [List.prefix_iff_getElem?]
  intro k hk
  have hl2 := a.len2
  by_cases hc : ∃ o, ρ o k
  · obtain ⟨o, ho⟩ := hc
    have hol := hm.lt' ho hk
    obtain ⟨t, rfl⟩ := hp
    have g1 := hm.get _ _ ho
    have g2 := a.me.get _ _ ho
    rw [List.getElem?_append_left hol] at g2
    have hlt : ∀ x y, ρ x y → x < h.length → y < h2.length := fun x y h1 h2 => hm.lt h1 h2
    have := (g1.symm (m := h2.length) hlt).comp (τ := Eq) (k := h2.length) g2 (fun x y z h1 h3 h4 h5 => ⟨(a.me.uni _ _ _ _ h1 h4).1 rfl, h3⟩)
    rw [← this.eq, List.getElem?_eq_getElem hk]
  · rw [a.keep2 k hk (fun o ho => hc ⟨o, ho⟩), List.getElem?_eq_getElem hk]
theorem ME.push (hm : ME ρ h h2) {r r2 : Row} (h1 : r.elem = r2.elem) (h3 : r.unit = r2.unit) (h4 : r.own = r2.own) (hc : LE ρ h.length r.cells r2.cells) : Post ρ h (h ++ [.row r]) h2 (h2 ++ [.row r2]) := by
  refine ⟨⟨hm.uni, fun j => ?_, fun o o2 ho => ?_⟩, ⟨1, by simp, by simp⟩, fun o ho _ => List.getElem?_append_left ho, fun o ho _ => List.getElem?_append_left ho⟩
  · have := hm.new (j + 1)
    simp only [List.length_append, List.length_cons, List.length_nil]
    rw [show h.length + (0 + 1) + j = h.length + (j + 1) by omega, show h2.length + (0 + 1) + j = h2.length + (j + 1) by omega]
    exact this
  · have hup : ∀ {a b}, OE ρ h.length a b → OE ρ (h ++ [Ob.row r]).length a b := fun h => h.mono fun _ _ h1 h2 => ⟨h2, by simp; omega⟩
    by_cases hol : o < h.length
    · have := hm.lt ho hol
      rw [List.getElem?_append_left hol, List.getElem?_append_left this]
      exact hup (hm.get _ _ ho)
    · have he := (hm.uni _ _ _ _ ho (hm.new (o - h.length))).1 (by omega)
      rw [he, List.getElem?_append_right (by omega), List.getElem?_append_right (by omega), Nat.add_sub_cancel_left]
      cases hk : o - h.length with
      | zero => exact hup ⟨h1, h3, h4, hc⟩
      | succ k => simp [OE]
theorem ME.push' (hm : ME ρ h h2) {cs cs2 : List Value} {e u : Nat} {o : Bool} (hc : LE ρ h.length cs cs2) : Post ρ h (h ++ [.row ⟨cs, e, u, o⟩]) h2 (h2 ++ [.row ⟨cs2, e, u, o⟩]) := hm.push rfl rfl rfl hc
theorem ME.set (hm : ME ρ h h2) {o o2 : Nat} (ho : ρ o o2) {b b2 : Ob} (hb : OE ρ h.length (some b) (some b2)) : Post ρ h (h.set o b) h2 (h2.set o2 b2) := by
  refine ⟨⟨hm.uni, fun j => by simpa using hm.new j, fun p p2 hp => ?_⟩, ⟨0, by simp, by simp⟩, fun p hp hn => ?_, fun p hp hn => ?_⟩
  · rw [List.length_set, List.getElem?_set, List.getElem?_set]
    by_cases he : o = p
    · have he2 := (hm.uni _ _ _ _ ho hp).1 he
      subst he; subst he2
      by_cases hl : o < h.length
      · have := hm.lt ho hl
        simp only [hl, this, if_true]; exact hb
      · have : ¬ o2 < h2.length := fun h => hl (hm.lt' ho h)
        simp only [hl, this, if_true, if_false]; trivial
    · rw [if_neg he, if_neg fun e => he ((hm.uni _ _ _ _ ho hp).2 e)]
      exact hm.get _ _ hp
  · rw [List.getElem?_set_ne]; rintro rfl; exact hn _ ho
  · rw [List.getElem?_set_ne]; rintro rfl; exact hn _ ho
theorem ME.kill (hm : ME ρ h h2) {o o2 : Nat} (ho : ρ o o2) : Post ρ h (Go.Am.kill h o) h2 (Go.Am.kill h2 o2) := hm.set ho trivial
theorem ME.ld1 (hm : ME ρ h h2) {o o2 off : Nat} (ho : ρ o o2) {v : Value} (hl : h.ld1 o off = some v) : ∃ v2, h2.ld1 o2 off = some v2 ∧ E ρ h.length v v2 := by
  unfold H.ld1 at hl ⊢
  split at hl
  · rename_i r hr
    obtain ⟨r2, h1, _, _, _, h5⟩ := hm.row ho hr
    rw [h1]; exact h5.2 _ _ hl
  · cases hl
theorem ME.lds (hm : ME ρ h h2) {o o2 off n : Nat} (ho : ρ o o2) {vs : List Value} (hl : h.lds o off n = some vs) : ∃ vs2, h2.lds o2 off n = some vs2 ∧ LE ρ h.length vs vs2 := by
  unfold H.lds at hl ⊢
  split at hl
  · rename_i r hr
    obtain ⟨r2, h1, _, _, _, h5⟩ := hm.row ho hr
    rw [h1]
    split at hl
    · rename_i hn
      cases hl
      exact ⟨_, if_pos (by rw [← h5.1]; exact hn), (h5.drop _).take _⟩
    · cases hl
  · cases hl
theorem ME.sts (hm : ME ρ h h2) {o o2 off : Nat} (ho : ρ o o2) {vs vs2 : List Value} (hv : LE ρ h.length vs vs2) (hs : h.sts o off vs = some h') : ∃ h2', h2.sts o2 off vs2 = some h2' ∧ Post ρ h h' h2 h2' := by
  unfold H.sts at hs ⊢
  split at hs
  · rename_i r hr
    obtain ⟨r2, h1, h3, h4, h5, h6⟩ := hm.row ho hr
    rw [h1]
    split at hs
    · rename_i hn
      cases hs
      refine ⟨_, if_pos (by rw [← h6.1, ← hv.1, h5]; exact hn), hm.set ho ⟨h3.symm, h4.symm, h5.symm, h6.splice hv _⟩⟩
    · cases hs
  · cases hs
theorem ME.src (hm : ME ρ h h2) {size n : Nat} {x x2 : Value} (hx : E ρ h.length x x2) {vs : List Value} (hs : srcCells h size n x = some vs) : ∃ vs2, srcCells h2 size n x2 = some vs2 ∧ LE ρ h.length vs vs2 := by
  unfold srcCells at hs
  split at hs
  · rename_i a l c
    cases a with
    | none =>
      rw [hx.pl rfl]
      unfold srcCells
      simp only at hs ⊢
      split at hs
      · cases hs; exact ⟨[], by rw [if_pos ‹_›], LE.nil⟩
      · split at hs <;> cases hs
    | some a =>
      obtain ⟨o2, q1, q2, q3, rfl⟩ := hx.sl_inv
      unfold srcCells
      simp only at hs ⊢
      split at hs
      · cases hs; exact ⟨[], by rw [if_pos ‹_›], LE.nil⟩
      · rw [if_neg ‹_›]
        split at hs
        · rw [if_pos ‹_›]
          split at hs
          · obtain ⟨vs2, k1, k2⟩ := hm.lds q2 hs
            exact ⟨vs2, by simp [k1], k2⟩
          · cases hs
        · cases hs
  · cases hs

def OVE (ρ : Rel) (n : Nat) : Option Value → Option Value → Prop
  | none, none => True
  | some v, some v2 => E ρ n v v2
  | _, _ => False
/-- what the frame of the first tells, that of the second tells -/
def FE (ρ : Rel) (n : Nat) (fr fr2 : Fr) : Prop := ∀ t v, fr t = some v → ∃ v2, fr2 t = some v2 ∧ E ρ n v v2
variable {fr fr2 : Fr}
theorem FE.mono {ρ' : Rel} {n n' : Nat} (hF : FE ρ n fr fr2) (hr : ∀ o o2, o < n → ρ o o2 → ρ' o o2 ∧ o < n') : FE ρ' n' fr fr2 := fun t v hv => let ⟨v2, h1, h2⟩ := hF t v hv; ⟨v2, h1, h2.mono hr⟩
theorem FE.up {n n' : Nat} (hF : FE ρ n fr fr2) (hn : n ≤ n') : FE ρ n' fr fr2 := hF.mono fun _ _ h1 h2 => ⟨h2, by omega⟩
theorem FE.put {n : Nat} (hF : FE ρ n fr fr2) (d : Option Nat) {v v2 : Option Value} (hv : OVE ρ n v v2) : FE ρ n (fr.put d v) (fr2.put d v2) := by
  intro t u hu
  cases d with
  | none => exact hF t u hu
  | some s =>
    cases v with
    | none =>
      cases v2 with
      | none =>
        simp only [Fr.put, Fr.del] at hu ⊢
        cases hb : Nat.beq t s with
        | true => rw [hb] at hu; cases hu
        | false => rw [hb] at hu; exact hF t u hu
      | some _ => cases hv
    | some v =>
      cases v2 with
      | none => cases hv
      | some v2 =>
        simp only [Fr.put, Fr.set] at hu ⊢
        cases hb : Nat.beq t s with
        | true => rw [hb] at hu; cases hu; exact ⟨v2, rfl, hv⟩
        | false => rw [hb] at hu; exact hF t u hu
theorem ev_emb {n : Nat} (hF : FE ρ n fr fr2) {x : Operand} {v : Value} (hx : ev fr x = some v) : ∃ v2, ev fr2 x = some v2 ∧ E ρ n v v2 := by
  cases x with
  | tmp t => exact hF t v hx
  | const c =>
    simp only [ev] at hx ⊢
    split at hx
    · rename_i hcl; cases hx; exact ⟨v, by rw [if_pos hcl], closed_E hcl⟩
    · cases hx
  | global g => cases hx
  | func f => cases hx; exact ⟨_, rfl, .func f #[] #[] rfl (fun i h _ => by simp at h)⟩
theorem evs_emb {n : Nat} (hF : FE ρ n fr fr2) : ∀ {xs : List Operand} {vs : List Value}, evs fr xs = some vs → ∃ vs2, evs fr2 xs = some vs2 ∧ LE ρ n vs vs2
  | [], vs, hx => by cases hx; exact ⟨[], rfl, LE.nil⟩
  | x :: xs, vs, hx => by
    simp only [evs] at hx
    split at hx
    · rename_i v vs' h1 h2
      cases hx
      obtain ⟨v2, e1, e2⟩ := ev_emb hF h1
      obtain ⟨vs2, e3, e4⟩ := evs_emb hF h2
      exact ⟨v2 :: vs2, by simp [evs, e1, e3], LE.cons e2 e4⟩
    · cases hx
theorem evo_emb {n : Nat} (hF : FE ρ n fr fr2) {x : Option Operand} {r : Option Int} (hx : evo fr x = some r) : evo fr2 x = some r := by
  cases x with
  | none => exact hx
  | some x =>
    simp only [evo] at hx ⊢
    split at hx
    · rename_i v hv
      obtain ⟨v2, e1, e2⟩ := ev_emb hF hv
      rw [e1]
      split at hx
      · rename_i i hi
        cases hx
        cases v <;> first | (cases hi; done) | skip
        rw [e2.int]; cases hi; rfl
      · cases hx
    · cases hx
def LPE (ρ : Rel) (n : Nat) : List (Nat × Value) → List (Nat × Value) → Prop
  | [], [] => True
  | (i, v) :: l, (j, v2) :: l2 => i = j ∧ E ρ n v v2 ∧ LPE ρ n l l2
  | _, _ => False
theorem evp_emb {n : Nat} (hF : FE ρ n fr fr2) : ∀ {xs : List (Nat × Operand)} {vs : List (Nat × Value)}, evp fr xs = some vs → ∃ vs2, evp fr2 xs = some vs2 ∧ LPE ρ n vs vs2
  | [], vs, hx => by cases hx; exact ⟨[], rfl, trivial⟩
  | (i, x) :: xs, vs, hx => by
    simp only [evp] at hx
    split at hx
    · rename_i v vs' h1 h2
      cases hx
      obtain ⟨v2, e1, e2⟩ := ev_emb hF h1
      obtain ⟨vs2, e3, e4⟩ := evp_emb hF h2
      exact ⟨(i, v2) :: vs2, by simp [evp, e1, e3], rfl, e2, e4⟩
    · cases hx
theorem afill_emb {n : Nat} {pl : Nat → Option (Nat × Nat)} : ∀ {vs vs2 : List (Nat × Value)} {cs cs2 out : List Value}, LPE ρ n vs vs2 → LE ρ n cs cs2 → afill pl cs vs = some out → ∃ out2, afill pl cs2 vs2 = some out2 ∧ LE ρ n out out2
  | [], [], cs, cs2, out, _, hc, he => by cases he; exact ⟨cs2, rfl, hc⟩
  | [], _ :: _, _, _, _, hl, _, _ => by cases hl
  | _ :: _, [], _, _, _, hl, _, _ => by simp [LPE] at hl
  | (i, v) :: vs, (j, v2) :: vs2, cs, cs2, out, hl, hc, he => by
    simp only [LPE] at hl
    obtain ⟨rfl, h1, h2⟩ := hl
    simp only [afill] at he ⊢
    split at he
    · cases he
    · rename_i off size hp
      rw [h1.cells_size, h1.flat, ← hc.1]
      split at he
      · cases he
      · rename_i hcond
        rw [if_neg hcond]
        exact afill_emb h2 (hc.splice h1.cells off) he
end
end Go.Am
