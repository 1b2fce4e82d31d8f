/-
  Two memories that are the same but for names: what an operation gives in one of them it gives in the other. No condition.
  Two memories that are the same but for names: each operation other than a call. No condition.
  Two memories that are the same but for names: what a whole run gives in one of them it gives in the other. Condition: the code makes only values that name nothing.
  Two operations that hang on nothing of one another, one behind the other either way: the same but for names. Condition: values name only what there is.
  Whatever order is drawn for a region's operations, the small machine comes to what it comes to in the text's order. No condition.
  A whole function: what the small machine computes of it is what the model's call returns. No condition.
  THE SMALL MACHINE IS TRUE TO THE MODEL: where it computes a result of a call, the model's call returns that result, whatever the tape, and leaves all that was there as it was. No condition.
  A program's functions turned into the small machine's by one function, and that what is turned so is true to the model. No condition.
  The small machine's equations, as rules to reckon with. No condition.
  What a field is, in plain Lean; sums. No condition.
  The shortest rule by which each number of a list hangs on those ahead: Massey's way, in plain Lean. No condition.
  sync.Once's Do, told by hand: not yet done and the lock free, it calls what it is given, and lays 'done'. No condition.
  sync.Once's Do in the small machine: its code, and that it is true to the model. No condition.
-/
import Derived.Test.YtammndhoillliaaK0
import Derived.Orders
import Derived.Test.YtammndhoillliaaProg
import Derived.Tactics
import Derived.Tactics2
import Derived.Defers
import Derived.Laws.Pointers
import Derived.Laws.LoneSync
import Derived.Laws.NewBlocks
import Derived.RegionTactic
import Derived.RegionCalls
import Derived.ChangeAlike
namespace Go.Am
set_option linter.unusedVariables false
set_option linter.unusedSimpArgs false

def OE (ρ : Rel) (n : Nat) : Option Ob → Option Ob → Prop
  | none, none => True
  | some .dead, some .dead => True
  | some (.row r), some (.row r2) => r.elem = r2.elem ∧ r.unit = r2.unit ∧ r.own = r2.own ∧ LE ρ n r.cells r2.cells
  | _, _ => False
theorem OE.mono {ρ ρ' : Rel} {n n' : Nat} {a b : Option Ob} (h : OE ρ n a b) (hr : ∀ o o2, o < n → ρ o o2 → ρ' o o2 ∧ o < n') : OE ρ' n' a b := by
  unfold OE at h ⊢
  split at h
  · trivial
  · trivial
  · exact ⟨h.1, h.2.1, h.2.2.1, h.2.2.2.mono hr⟩
  · cases h
theorem OE.comp {ρ σ τ : Rel} {n m k : Nat} {a b c : Option Ob} (h : OE ρ n a b) (h2 : OE σ m b c) (hr : ∀ o o2 o3, ρ o o2 → o < n → σ o2 o3 → o2 < m → τ o o3 ∧ o < k) : OE τ k a c := by
  unfold OE at h
  split at h
  · cases c with
    | none => trivial
    | some c => cases c <;> cases h2
  · cases c with
    | none => cases h2
    | some c => cases c with
      | dead => trivial
      | row _ => cases h2
  · cases c with
    | none => cases h2
    | some c => cases c with
      | dead => cases h2
      | row _ => exact ⟨h.1.trans h2.1, h.2.1.trans h2.2.1, h.2.2.1.trans h2.2.2.1, h.2.2.2.comp h2.2.2.2 hr⟩
  · cases h
theorem OE.symm {ρ : Rel} {n m : Nat} {a b : Option Ob} (h : OE ρ n a b) (hr : ∀ o o2, ρ o o2 → o < n → o2 < m) : OE (fun x y => ρ y x) m b a := by
  unfold OE at h
  split at h
  · trivial
  · trivial
  · exact ⟨h.1.symm, h.2.1.symm, h.2.2.1.symm, h.2.2.2.symm hr⟩
  · cases h
theorem OE.eq {n : Nat} {a b : Option Ob} (h : OE Eq n a b) : a = b := by
  unfold OE at h
  split at h
  · rfl
  · rfl
  · rename_i r r2
    obtain ⟨h1, h2, h3, h4⟩ := h
    have := h4.eq
    cases r; cases r2; simp_all
  · cases h

/-- memories that are the same but for names -/
structure ME (ρ : Rel) (h h2 : H) : Prop where
  uni : ∀ o o2 p p2, ρ o o2 → ρ p p2 → (o = p ↔ o2 = p2)
  new : ∀ j, ρ (h.length + j) (h2.length + j)
  get : ∀ o o2, ρ o o2 → OE ρ h.length h[o]? h2[o2]?
/-- what comes behind them, of as many more objects -/
structure Post (ρ : Rel) (h h' h2 h2' : H) : Prop where
  me : ME ρ h' h2'
  more : ∃ m, h'.length = h.length + m ∧ h2'.length = h2.length + m
  keep : ∀ o, o < h.length → (∀ o2, ¬ρ o o2) → h'[o]? = h[o]?
  keep2 : ∀ o2, o2 < h2.length → (∀ o, ¬ρ o o2) → h2'[o2]? = h2[o2]?

section
variable {ρ : Rel} {h h2 h' h2' : H}
theorem ME.lt (hm : ME ρ h h2) {o o2 : Nat} (hr : ρ o o2) (ho : o < h.length) : o2 < h2.length := by
  by_cases hlt : o2 < h2.length
  · exact hlt
  · have := (hm.uni _ _ _ _ hr (hm.new (o2 - h2.length))).2 (by omega)
    omega
theorem ME.lt' (hm : ME ρ h h2) {o o2 : Nat} (hr : ρ o o2) (ho : o2 < h2.length) : o < h.length := by
  by_cases hlt : o < h.length
  · exact hlt
  · have := (hm.uni _ _ _ _ hr (hm.new (o - h.length))).1 (by omega)
    omega
theorem ME.symm (hm : ME ρ h h2) : ME (fun a b => ρ b a) h2 h :=
  ⟨fun o o2 p p2 h1 h2 => (hm.uni _ _ _ _ h1 h2).symm, hm.new, fun o o2 hr => (hm.get _ _ hr).symm fun a b h1 h2 => hm.lt h1 h2⟩
theorem ME.row (hm : ME ρ h h2) {o o2 : Nat} (hr : ρ o o2) {r : Row} (h1 : h.row o = some r) : ∃ r2, h2.row o2 = some r2 ∧ r2.elem = r.elem ∧ r2.unit = r.unit ∧ r2.own = r.own ∧ LE ρ h.length r.cells r2.cells := by
  have hg := hm.get _ _ hr
  unfold H.row at h1
  split at h1
  · rename_i r' he
    cases h1
    rw [he] at hg
    cases hh : h2[o2]? with
    | none => rw [hh] at hg; cases hg
    | some b => rw [hh] at hg; cases b with
      | dead => cases hg
      | row r2 => exact ⟨r2, by unfold H.row; rw [hh], hg.1.symm, hg.2.1.symm, hg.2.2.1.symm, hg.2.2.2⟩
  · cases h1
theorem Post.refl (hm : ME ρ h h2) : Post ρ h h h2 h2 := ⟨hm, ⟨0, rfl, rfl⟩, fun _ _ _ => rfl, fun _ _ _ => rfl⟩
theorem Post.trans {h'' h2'' : H} (a : Post ρ h h' h2 h2') (b : Post ρ h' h'' h2' h2'') : Post ρ h h'' h2 h2'' := by
  obtain ⟨m, m1, m2⟩ := a.more
  obtain ⟨k, k1, k2⟩ := b.more
  exact ⟨b.me, ⟨m + k, by omega, by omega⟩, fun o ho hn => (b.keep o (by omega) hn).trans (a.keep o ho hn), fun o ho hn => (b.keep2 o (by omega) hn).trans (a.keep2 o ho hn)⟩
theorem Post.len (a : Post ρ h h' h2 h2') : h.length ≤ h'.length := by obtain ⟨m, m1, _⟩ := a.more; omega
theorem Post.len2 (a : Post ρ h h' h2 h2') : h2.length ≤ h2'.length := by obtain ⟨m, _, m1⟩ := a.more; omega
/-- what only adds, only adds -/
theorem Post.pre (hm : ME ρ h h2) (a : Post ρ h h' h2 h2') (hp : h <+: h') : h2 <+: h2' := by
  rw [List.prefix_iff_getElem?]
  intro k hk
  have hl2 := a.len2
  by_cases hc : ∃ o, ρ o k
  · obtain ⟨o, ho⟩ := hc
    have hol := hm.lt' ho hk
    obtain ⟨t, rfl⟩ := hp
    have g1 := hm.get _ _ ho
    have g2 := a.me.get _ _ ho
    rw [List.getElem?_append_left hol] at g2
    have hlt : ∀ x y, ρ x y → x < h.length → y < h2.length := fun x y h1 h2 => hm.lt h1 h2
    have := (g1.symm (m := h2.length) hlt).comp (τ := Eq) (k := h2.length) g2 (fun x y z h1 h3 h4 h5 => ⟨(a.me.uni _ _ _ _ h1 h4).1 rfl, h3⟩)
    rw [← this.eq, List.getElem?_eq_getElem hk]
  · rw [a.keep2 k hk (fun o ho => hc ⟨o, ho⟩), List.getElem?_eq_getElem hk]
theorem ME.push (hm : ME ρ h h2) {r r2 : Row} (h1 : r.elem = r2.elem) (h3 : r.unit = r2.unit) (h4 : r.own = r2.own) (hc : LE ρ h.length r.cells r2.cells) : Post ρ h (h ++ [.row r]) h2 (h2 ++ [.row r2]) := by
  refine ⟨⟨hm.uni, fun j => ?_, fun o o2 ho => ?_⟩, ⟨1, by simp, by simp⟩, fun o ho _ => List.getElem?_append_left ho, fun o ho _ => List.getElem?_append_left ho⟩
  · have := hm.new (j + 1)
    simp only [List.length_append, List.length_cons, List.length_nil]
    rw [show h.length + (0 + 1) + j = h.length + (j + 1) by omega, show h2.length + (0 + 1) + j = h2.length + (j + 1) by omega]
    exact this
  · have hup : ∀ {a b}, OE ρ h.length a b → OE ρ (h ++ [Ob.row r]).length a b := fun h => h.mono fun _ _ h1 h2 => ⟨h2, by simp; omega⟩
    by_cases hol : o < h.length
    · have := hm.lt ho hol
      rw [List.getElem?_append_left hol, List.getElem?_append_left this]
      exact hup (hm.get _ _ ho)
    · have he := (hm.uni _ _ _ _ ho (hm.new (o - h.length))).1 (by omega)
      rw [he, List.getElem?_append_right (by omega), List.getElem?_append_right (by omega), Nat.add_sub_cancel_left]
      cases hk : o - h.length with
      | zero => exact hup ⟨h1, h3, h4, hc⟩
      | succ k => simp [OE]
theorem ME.push' (hm : ME ρ h h2) {cs cs2 : List Value} {e u : Nat} {o : Bool} (hc : LE ρ h.length cs cs2) : Post ρ h (h ++ [.row ⟨cs, e, u, o⟩]) h2 (h2 ++ [.row ⟨cs2, e, u, o⟩]) := hm.push rfl rfl rfl hc
theorem ME.set (hm : ME ρ h h2) {o o2 : Nat} (ho : ρ o o2) {b b2 : Ob} (hb : OE ρ h.length (some b) (some b2)) : Post ρ h (h.set o b) h2 (h2.set o2 b2) := by
  refine ⟨⟨hm.uni, fun j => by simpa using hm.new j, fun p p2 hp => ?_⟩, ⟨0, by simp, by simp⟩, fun p hp hn => ?_, fun p hp hn => ?_⟩
  · rw [List.length_set, List.getElem?_set, List.getElem?_set]
    by_cases he : o = p
    · have he2 := (hm.uni _ _ _ _ ho hp).1 he
      subst he; subst he2
      by_cases hl : o < h.length
      · have := hm.lt ho hl
        simp only [hl, this, if_true]; exact hb
      · have : ¬ o2 < h2.length := fun h => hl (hm.lt' ho h)
        simp only [hl, this, if_true, if_false]; trivial
    · rw [if_neg he, if_neg fun e => he ((hm.uni _ _ _ _ ho hp).2 e)]
      exact hm.get _ _ hp
  · rw [List.getElem?_set_ne]; rintro rfl; exact hn _ ho
  · rw [List.getElem?_set_ne]; rintro rfl; exact hn _ ho
theorem ME.kill (hm : ME ρ h h2) {o o2 : Nat} (ho : ρ o o2) : Post ρ h (Go.Am.kill h o) h2 (Go.Am.kill h2 o2) := hm.set ho trivial
theorem ME.ld1 (hm : ME ρ h h2) {o o2 off : Nat} (ho : ρ o o2) {v : Value} (hl : h.ld1 o off = some v) : ∃ v2, h2.ld1 o2 off = some v2 ∧ E ρ h.length v v2 := by
  unfold H.ld1 at hl ⊢
  split at hl
  · rename_i r hr
    obtain ⟨r2, h1, _, _, _, h5⟩ := hm.row ho hr
    rw [h1]; exact h5.2 _ _ hl
  · cases hl
theorem ME.lds (hm : ME ρ h h2) {o o2 off n : Nat} (ho : ρ o o2) {vs : List Value} (hl : h.lds o off n = some vs) : ∃ vs2, h2.lds o2 off n = some vs2 ∧ LE ρ h.length vs vs2 := by
  unfold H.lds at hl ⊢
  split at hl
  · rename_i r hr
    obtain ⟨r2, h1, _, _, _, h5⟩ := hm.row ho hr
    rw [h1]
    split at hl
    · rename_i hn
      cases hl
      exact ⟨_, if_pos (by rw [← h5.1]; exact hn), (h5.drop _).take _⟩
    · cases hl
  · cases hl
theorem ME.sts (hm : ME ρ h h2) {o o2 off : Nat} (ho : ρ o o2) {vs vs2 : List Value} (hv : LE ρ h.length vs vs2) (hs : h.sts o off vs = some h') : ∃ h2', h2.sts o2 off vs2 = some h2' ∧ Post ρ h h' h2 h2' := by
  unfold H.sts at hs ⊢
  split at hs
  · rename_i r hr
    obtain ⟨r2, h1, h3, h4, h5, h6⟩ := hm.row ho hr
    rw [h1]
    split at hs
    · rename_i hn
      cases hs
      refine ⟨_, if_pos (by rw [← h6.1, ← hv.1, h5]; exact hn), hm.set ho ⟨h3.symm, h4.symm, h5.symm, h6.splice hv _⟩⟩
    · cases hs
  · cases hs
theorem ME.src (hm : ME ρ h h2) {size n : Nat} {x x2 : Value} (hx : E ρ h.length x x2) {vs : List Value} (hs : srcCells h size n x = some vs) : ∃ vs2, srcCells h2 size n x2 = some vs2 ∧ LE ρ h.length vs vs2 := by
  unfold srcCells at hs
  split at hs
  · rename_i a l c
    cases a with
    | none =>
      rw [hx.pl rfl]
      unfold srcCells
      simp only at hs ⊢
      split at hs
      · cases hs; exact ⟨[], by rw [if_pos ‹_›], LE.nil⟩
      · split at hs <;> cases hs
    | some a =>
      obtain ⟨o2, q1, q2, q3, rfl⟩ := hx.sl_inv
      unfold srcCells
      simp only at hs ⊢
      split at hs
      · cases hs; exact ⟨[], by rw [if_pos ‹_›], LE.nil⟩
      · rw [if_neg ‹_›]
        split at hs
        · rw [if_pos ‹_›]
          split at hs
          · obtain ⟨vs2, k1, k2⟩ := hm.lds q2 hs
            exact ⟨vs2, by simp [k1], k2⟩
          · cases hs
        · cases hs
  · cases hs

def OVE (ρ : Rel) (n : Nat) : Option Value → Option Value → Prop
  | none, none => True
  | some v, some v2 => E ρ n v v2
  | _, _ => False
/-- what the frame of the first tells, that of the second tells -/
def FE (ρ : Rel) (n : Nat) (fr fr2 : Fr) : Prop := ∀ t v, fr t = some v → ∃ v2, fr2 t = some v2 ∧ E ρ n v v2
variable {fr fr2 : Fr}
theorem FE.mono {ρ' : Rel} {n n' : Nat} (hF : FE ρ n fr fr2) (hr : ∀ o o2, o < n → ρ o o2 → ρ' o o2 ∧ o < n') : FE ρ' n' fr fr2 := fun t v hv => let ⟨v2, h1, h2⟩ := hF t v hv; ⟨v2, h1, h2.mono hr⟩
theorem FE.up {n n' : Nat} (hF : FE ρ n fr fr2) (hn : n ≤ n') : FE ρ n' fr fr2 := hF.mono fun _ _ h1 h2 => ⟨h2, by omega⟩
theorem FE.put {n : Nat} (hF : FE ρ n fr fr2) (d : Option Nat) {v v2 : Option Value} (hv : OVE ρ n v v2) : FE ρ n (fr.put d v) (fr2.put d v2) := by
  intro t u hu
  cases d with
  | none => exact hF t u hu
  | some s =>
    cases v with
    | none =>
      cases v2 with
      | none =>
        simp only [Fr.put, Fr.del] at hu ⊢
        cases hb : Nat.beq t s with
        | true => rw [hb] at hu; cases hu
        | false => rw [hb] at hu; exact hF t u hu
      | some _ => cases hv
    | some v =>
      cases v2 with
      | none => cases hv
      | some v2 =>
        simp only [Fr.put, Fr.set] at hu ⊢
        cases hb : Nat.beq t s with
        | true => rw [hb] at hu; cases hu; exact ⟨v2, rfl, hv⟩
        | false => rw [hb] at hu; exact hF t u hu
theorem ev_emb {n : Nat} (hF : FE ρ n fr fr2) {x : Operand} {v : Value} (hx : ev fr x = some v) : ∃ v2, ev fr2 x = some v2 ∧ E ρ n v v2 := by
  cases x with
  | tmp t => exact hF t v hx
  | const c =>
    simp only [ev] at hx ⊢
    split at hx
    · rename_i hcl; cases hx; exact ⟨v, by rw [if_pos hcl], closed_E hcl⟩
    · cases hx
  | global g => cases hx
  | func f => cases hx; exact ⟨_, rfl, .func f #[] #[] rfl (fun i h _ => by simp at h)⟩
theorem evs_emb {n : Nat} (hF : FE ρ n fr fr2) : ∀ {xs : List Operand} {vs : List Value}, evs fr xs = some vs → ∃ vs2, evs fr2 xs = some vs2 ∧ LE ρ n vs vs2
  | [], vs, hx => by cases hx; exact ⟨[], rfl, LE.nil⟩
  | x :: xs, vs, hx => by
    simp only [evs] at hx
    split at hx
    · rename_i v vs' h1 h2
      cases hx
      obtain ⟨v2, e1, e2⟩ := ev_emb hF h1
      obtain ⟨vs2, e3, e4⟩ := evs_emb hF h2
      exact ⟨v2 :: vs2, by simp [evs, e1, e3], LE.cons e2 e4⟩
    · cases hx
theorem evo_emb {n : Nat} (hF : FE ρ n fr fr2) {x : Option Operand} {r : Option Int} (hx : evo fr x = some r) : evo fr2 x = some r := by
  cases x with
  | none => exact hx
  | some x =>
    simp only [evo] at hx ⊢
    split at hx
    · rename_i v hv
      obtain ⟨v2, e1, e2⟩ := ev_emb hF hv
      rw [e1]
      split at hx
      · rename_i i hi
        cases hx
        cases v <;> first | (cases hi; done) | skip
        rw [e2.int]; cases hi; rfl
      · cases hx
    · cases hx
def LPE (ρ : Rel) (n : Nat) : List (Nat × Value) → List (Nat × Value) → Prop
  | [], [] => True
  | (i, v) :: l, (j, v2) :: l2 => i = j ∧ E ρ n v v2 ∧ LPE ρ n l l2
  | _, _ => False
theorem evp_emb {n : Nat} (hF : FE ρ n fr fr2) : ∀ {xs : List (Nat × Operand)} {vs : List (Nat × Value)}, evp fr xs = some vs → ∃ vs2, evp fr2 xs = some vs2 ∧ LPE ρ n vs vs2
  | [], vs, hx => by cases hx; exact ⟨[], rfl, trivial⟩
  | (i, x) :: xs, vs, hx => by
    simp only [evp] at hx
    split at hx
    · rename_i v vs' h1 h2
      cases hx
      obtain ⟨v2, e1, e2⟩ := ev_emb hF h1
      obtain ⟨vs2, e3, e4⟩ := evp_emb hF h2
      exact ⟨(i, v2) :: vs2, by simp [evp, e1, e3], rfl, e2, e4⟩
    · cases hx
theorem afill_emb {n : Nat} {pl : Nat → Option (Nat × Nat)} : ∀ {vs vs2 : List (Nat × Value)} {cs cs2 out : List Value}, LPE ρ n vs vs2 → LE ρ n cs cs2 → afill pl cs vs = some out → ∃ out2, afill pl cs2 vs2 = some out2 ∧ LE ρ n out out2
  | [], [], cs, cs2, out, _, hc, he => by cases he; exact ⟨cs2, rfl, hc⟩
  | [], _ :: _, _, _, _, hl, _, _ => by cases hl
  | _ :: _, [], _, _, _, hl, _, _ => by simp [LPE] at hl
  | (i, v) :: vs, (j, v2) :: vs2, cs, cs2, out, hl, hc, he => by
    simp only [LPE] at hl
    obtain ⟨rfl, h1, h2⟩ := hl
    simp only [afill] at he ⊢
    split at he
    · cases he
    · rename_i off size hp
      rw [h1.cells_size, h1.flat, ← hc.1]
      split at he
      · cases he
      · rename_i hcond
        rw [if_neg hcond]
        exact afill_emb h2 (hc.splice h1.cells off) he
end
end Go.Am
namespace Go.Am
set_option linter.unusedVariables false
set_option linter.unusedSimpArgs false

theorem abin_plain {op : BinOp} {a b v : Value} (h : abin op a b = some v) : plain a = true ∧ plain b = true ∧ plain v = true := by
  unfold abin at h
  split at h
  · refine ⟨rfl, rfl, ?_⟩
    split at h
    · unfold ashift at h; split at h <;> first | (cases h; done) | (cases h; rfl)
    · unfold ashift at h; split at h <;> first | (cases h; done) | (cases h; rfl)
    · split at h
      · unfold aint at h
        split at h <;> first | (cases h; done) | (cases h; rfl) | (split at h <;> first | (cases h; done) | (cases h; rfl))
      · cases h
  · refine ⟨rfl, rfl, ?_⟩
    unfold astr at h
    split at h <;> first | (cases h; done) | (cases h; rfl) | (split at h <;> first | (cases h; done) | (cases h; rfl))
  · cases h
theorem aun_plain {op : UnOp} {a v : Value} (h : aun op a = some v) : plain a = true ∧ plain v = true := by
  unfold aun at h
  split at h <;> first | (cases h; done) | (cases h; exact ⟨rfl, rfl⟩)
theorem anil_emb {ρ : Rel} {n k : Nat} {v v2 : Value} {b : Bool} (hv : E ρ n v v2) (h : anil k v = some b) : anil k v2 = some b := by
  unfold anil at h ⊢
  cases hv <;> (split at h <;> first | (cases h; done) | (simp_all; done) | (rename_i heq; cases heq; simpa using h) | (rename_i heq; obtain ⟨h1, h2, h3⟩ := heq; cases h1; simpa using h))
theorem aints_emb {ρ : Rel} {n : Nat} {k : IntKind} : ∀ {vs vs2 : List Value} {l : List Int}, LE ρ n vs vs2 → aints k vs = some l → vs2 = vs
  | [], vs2, l, hl, _ => List.length_eq_zero_iff.1 hl.1.symm
  | v :: vs, vs2, l, hl, h => by
    cases v <;> simp only [aints] at h <;> first | (cases h; done) | skip
    split at h
    · split at h
      · rename_i l' hl'
        cases vs2 with
        | nil => have := hl.1; simp at this
        | cons u us =>
          obtain ⟨u', h1, h2⟩ := hl.2 0 _ rfl
          simp at h1; subst h1
          have := aints_emb (vs := vs) (vs2 := us) ⟨by have := hl.1; simpa using this, fun i v hv => by simpa using hl.2 (i + 1) v (by simpa using hv)⟩ hl'
          rw [h2.int, this]
      · cases h
    · cases h
theorem sized_emb {ρ : Rel} {n size : Nat} : ∀ {vs vs2 : List Value}, LE ρ n vs vs2 → sized size vs2 = sized size vs ∧ LE ρ n (cat vs) (cat vs2)
  | [], vs2, hl => by rw [List.length_eq_zero_iff.1 hl.1.symm]; exact ⟨rfl, LE.nil⟩
  | v :: vs, [], hl => by have := hl.1; simp at this
  | v :: vs, u :: us, hl => by
    obtain ⟨u', h1, h2⟩ := hl.2 0 _ rfl
    simp at h1; subst h1
    obtain ⟨h3, h4⟩ := sized_emb (size := size) (vs := vs) (vs2 := us) ⟨by have := hl.1; simpa using this, fun i v hv => by simpa using hl.2 (i + 1) v (by simpa using hv)⟩
    exact ⟨by simp only [sized]; rw [h2.cells_size, h2.flat, h3], h2.cells.append h4⟩
theorem LE.self {ρ : Rel} {n : Nat} {l : List Value} (h : l.all closed1 = true) : LE ρ n l l := by
  rw [List.all_eq_true] at h
  exact ⟨rfl, fun i v hv => ⟨v, hv, closed1_E (h v (List.mem_of_getElem? hv))⟩⟩
theorem arr_extract {l : Array Value} {a b : Nat} : (l.extract a b) = ((l.toList.drop a).take (b - a)).toArray := by
  apply Array.toList_inj.1
  simp only [Array.toList_extract, List.extract_eq_take_drop]

section
variable {ρ : Rel} {h h2 h' h2' : H} {fr fr2 : Fr}
theorem unitOk_emb (hm : ME ρ h h2) {size l c : Nat} {a : Addr} {o2 : Nat} (hr : ρ a.block o2) (hu : unitOk h size (some a) = true) : unitOk h2 size (some ⟨o2, a.off, none⟩) = true := by
  unfold unitOk at hu ⊢
  simp only at hu ⊢
  split at hu
  · rename_i r hrow
    obtain ⟨r2, h1, _, h3, h4, _⟩ := hm.row hr hrow
    rw [h1]; simp only [h3, h4]; exact hu
  · cases hu
theorem aapp_emb (hm : ME ρ h h2) {elem : TypeId} {size bytes : Nat} {s x s2 x2 v : Value} (hs : E ρ h.length s s2) (hx : E ρ h.length x x2) (ha : aapp elem size bytes h s x = some (v, h')) :
    ∃ v2 h2', aapp elem size bytes h2 s2 x2 = some (v2, h2') ∧ E ρ h'.length v v2 ∧ Post ρ h h' h2 h2' := by
  unfold aapp at ha
  split at ha
  · rename_i sa n c b m d
    split at ha
    · rename_i news hnews
      obtain ⟨news2, k1, k2⟩ := hm.src hx hnews
      obtain ⟨b2, rfl⟩ : ∃ b2, x2 = .slice b2 m d := by
        cases b with
        | none => exact ⟨none, hx.pl rfl⟩
        | some b => obtain ⟨_, _, _, _, rfl⟩ := hx.sl_inv; exact ⟨_, rfl⟩
      split at ha
      · -- onto nothing
        have := hs.pl rfl
        subst this
        unfold aapp
        simp only [k1]
        split at ha
        · rename_i h0
          rw [if_pos h0]
          split at ha
          · cases ha; rw [if_pos ‹_›]
            exact ⟨_, _, rfl, .atom _ rfl, .refl hm⟩
          · rw [if_neg ‹_›]
            split at ha
            · cases ha
              rw [if_pos ‹_›]
              refine ⟨_, _, rfl, .sl _ _ _ _ _ ?_ (by simp), hm.push rfl rfl rfl k2⟩
              have := hm.new 0; simpa using this
            · cases ha
        · cases ha
      · -- onto a row
        rename_i a
        obtain ⟨o2, q1, q2, q3, rfl⟩ := hs.sl_inv
        unfold aapp
        simp only [k1]
        split at ha
        · rename_i r hr
          obtain ⟨r2, e1, e2, e3, e4, e5⟩ := hm.row q2 hr
          simp only [e1]
          split at ha
          · rename_i hc
            cases ha
            rw [if_pos (by rw [e2, e3, e4, ← e5.1]; simp only [q1] at hc; exact hc)]
            have hk := hm.kill q2
            have hp := hk.me.push (r := ⟨(r.cells.drop a.off).take (n * size) ++ news, elem, size, true⟩) (r2 := ⟨(r2.cells.drop a.off).take (n * size) ++ news2, elem, size, true⟩) rfl rfl rfl
              ((((e5.drop _).take _).append k2).up (by simp [kill]))
            refine ⟨_, _, rfl, .sl _ _ _ _ _ ?_ (by simp [kill]), hk.trans hp⟩
            have := hm.new 0; simpa using this
          · cases ha
        · cases ha
    · cases ha
  · cases ha
theorem acpy_emb (hm : ME ρ h h2) {size : Nat} {s x s2 x2 v : Value} (hs : E ρ h.length s s2) (hx : E ρ h.length x x2) (ha : acpy size h s x = some (v, h')) :
    ∃ v2 h2', acpy size h2 s2 x2 = some (v2, h2') ∧ E ρ h'.length v v2 ∧ Post ρ h h' h2 h2' := by
  unfold acpy at ha
  split at ha
  · rename_i da dl dc sa sl sc
    split at ha
    · rename_i cs hcs
      obtain ⟨cs2, k1, k2⟩ := hm.src hx hcs
      obtain ⟨b2, rfl⟩ : ∃ b2, x2 = .slice b2 sl sc := by
        cases sa with
        | none => exact ⟨none, hx.pl rfl⟩
        | some b => obtain ⟨_, _, _, _, rfl⟩ := hx.sl_inv; exact ⟨_, rfl⟩
      have hd : ∃ da2, s2 = .slice da2 dl dc := by
        cases da with
        | none => exact ⟨none, hs.pl rfl⟩
        | some b => obtain ⟨_, _, _, _, rfl⟩ := hs.sl_inv; exact ⟨_, rfl⟩
      split at ha
      · cases ha
        obtain ⟨da2, rfl⟩ := hd
        unfold acpy
        simp only [k1]
        rw [if_pos ‹_›]
        exact ⟨_, _, rfl, .atom _ rfl, .refl hm⟩
      · rename_i h0
        split at ha
        · rename_i a
          obtain ⟨o2, q1, q2, q3, rfl⟩ := hs.sl_inv
          unfold acpy
          simp only [k1]
          rw [if_neg h0]
          split at ha
          · split at ha
            · rename_i h3 hst
              cases ha
              obtain ⟨h2', e1, e2⟩ := hm.sts q2 k2 hst
              exact ⟨_, h2', by simp [e1], .atom _ rfl, e2⟩
            · cases ha
          · cases ha
        · cases ha
    · cases ha
  · cases ha

/-- what is made is made of values that name nothing -/
def AOp.good : AOp → Bool
  | .alloc _ zs | .build zs _ _ | .mks _ _ _ zs _ _ => zs.all closed1
  | _ => true
theorem aop_emb (hF : FE ρ h.length fr fr2) (hm : ME ρ h h2) {op : AOp} (hg : op.good = true) {v : Option Value} (ha : aop fr h op = some (v, h')) :
    ∃ v2 h2', aop fr2 h2 op = some (v2, h2') ∧ OVE ρ h'.length v v2 ∧ Post ρ h h' h2 h2' := by
  have pure : ∀ {u u2 : Value}, aop fr2 h2 op = some (some u2, h2) → E ρ h.length u u2 → ∃ v2 h2', aop fr2 h2 op = some (v2, h2') ∧ OVE ρ h.length (some u) v2 ∧ Post ρ h h h2 h2' :=
    fun h1 h2' => ⟨_, _, h1, h2', .refl hm⟩
  have new0 : ρ h.length h2.length := by have := hm.new 0; simpa using this
  cases op with
  | mv x =>
    simp only [aop] at ha
    split at ha
    · rename_i u hu
      cases ha
      obtain ⟨u2, e1, e2⟩ := ev_emb hF hu
      exact pure (by simp only [aop, e1]) e2
    · cases ha
  | pick c a b =>
    simp only [aop] at ha
    split at ha
    · rename_i t ht
      obtain ⟨c2, e1, e2⟩ := ev_emb hF ht
      rw [e2.bool] at e1
      split at ha
      · rename_i u hu
        cases ha
        obtain ⟨u2, e3, e4⟩ := ev_emb hF hu
        exact pure (by simp only [aop, e1, e3]) e4
      · cases ha
    · cases ha
  | bin o x y =>
    simp only [aop] at ha
    split at ha
    · rename_i a b h3 h4
      split at ha
      · rename_i u hu
        cases ha
        obtain ⟨p1, p2, p3⟩ := abin_plain hu
        obtain ⟨a2, e1, e2⟩ := ev_emb hF h3
        obtain ⟨b2, e3, e4⟩ := ev_emb hF h4
        rw [e2.pl p1] at e1
        rw [e4.pl p2] at e3
        exact pure (by simp only [aop, e1, e3, hu]) (.atom _ p3)
      · cases ha
    · cases ha
  | eqb neg x y =>
    simp only [aop] at ha
    split at ha
    · rename_i a b h3 h4
      cases ha
      obtain ⟨a2, e1, e2⟩ := ev_emb hF h3
      obtain ⟨b2, e3, e4⟩ := ev_emb hF h4
      rw [e2.bool] at e1
      rw [e4.bool] at e3
      exact pure (by simp only [aop, e1, e3]) (.atom _ rfl)
    · cases ha
  | eqn neg k x =>
    simp only [aop] at ha
    split at ha
    · rename_i a h3
      split at ha
      · rename_i b hb
        cases ha
        obtain ⟨a2, e1, e2⟩ := ev_emb hF h3
        exact pure (by simp only [aop, e1, anil_emb e2 hb]) (.atom _ rfl)
      · cases ha
    · cases ha
  | un o x =>
    simp only [aop] at ha
    split at ha
    · rename_i a h3
      split at ha
      · rename_i u hu
        cases ha
        obtain ⟨p1, p3⟩ := aun_plain hu
        obtain ⟨a2, e1, e2⟩ := ev_emb hF h3
        rw [e2.pl p1] at e1
        exact pure (by simp only [aop, e1, hu]) (.atom _ p3)
      · cases ha
    · cases ha
  | conv k x =>
    simp only [aop] at ha
    split at ha
    · rename_i h3
      cases ha
      obtain ⟨a2, e1, e2⟩ := ev_emb hF h3
      rw [e2.int] at e1
      exact pure (by simp only [aop, e1]) (.atom _ rfl)
    · cases ha
  | alloc elem zs =>
    simp only [aop] at ha
    cases ha
    exact ⟨some (.pointer (some ⟨h2.length, 0, none⟩)), h2 ++ [.row ⟨zs, elem, 0, true⟩], rfl, E.ptr _ _ _ new0 (by simp), hm.push' (LE.self (show zs.all closed1 = true from hg))⟩
  | box elem size x =>
    simp only [aop] at ha
    split at ha
    · rename_i u hu
      split at ha
      · rename_i hc
        cases ha
        obtain ⟨u2, e1, e2⟩ := ev_emb hF hu
        exact ⟨some (.pointer (some ⟨h2.length, 0, none⟩)), h2 ++ [.row ⟨u2.cells.toList, elem, 0, true⟩], by simp only [aop, e1]; rw [if_pos (by rw [e2.cells_size, e2.flat]; exact hc)], E.ptr _ _ _ new0 (by simp), hm.push' e2.cells⟩
      · cases ha
    · cases ha
  | build zs places parts =>
    simp only [aop] at ha
    split at ha
    · rename_i vs hvs
      split at ha
      · rename_i cs hcs
        cases ha
        obtain ⟨vs2, e1, e2⟩ := evp_emb hF hvs
        obtain ⟨cs2, e3, e4⟩ := afill_emb e2 (LE.self (show zs.all closed1 = true from hg)) hcs
        exact pure (by simp only [aop, e1, e3]) e4.agg
      · cases ha
    · cases ha
  | mkSl elem size len parts =>
    simp only [aop] at ha
    split at ha
    · rename_i vs hvs
      split at ha
      · rename_i hc
        cases ha
        obtain ⟨vs2, e1, e2⟩ := evs_emb hF hvs
        obtain ⟨e3, e4⟩ := sized_emb (size := size) e2
        exact ⟨some (.slice (some ⟨h2.length, 0, none⟩) len len), h2 ++ [.row ⟨cat vs2, elem, size, true⟩], by simp only [aop, e1]; rw [if_pos (by rw [e3, ← e2.1]; exact hc)], E.sl _ _ _ _ _ new0 (by simp), hm.push' e4⟩
      · cases ha
    · cases ha
  | ld agg n x =>
    simp only [aop] at ha
    split at ha
    · rename_i a h3
      obtain ⟨a2, e1, e2⟩ := ev_emb hF h3
      obtain ⟨o2, q1, q2, q3, rfl⟩ := e2.ptr_inv
      split at ha
      · cases ha
      · split at ha
        · split at ha
          · rename_i cs hcs
            cases ha
            obtain ⟨cs2, e3, e4⟩ := hm.lds q2 hcs
            exact pure (by simp [aop, e1, e3]) e4.agg
          · cases ha
        · split at ha
          · rename_i u hu
            cases ha
            obtain ⟨u2, e3, e4⟩ := hm.ld1 q2 hu
            exact pure (by simp [aop, e1, e3]) e4
          · cases ha
    · cases ha
  | st n x y =>
    simp only [aop] at ha
    split at ha
    · rename_i a u h3 h4
      obtain ⟨a2, e1, e2⟩ := ev_emb hF h3
      obtain ⟨u2, e3, e4⟩ := ev_emb hF h4
      obtain ⟨o2, q1, q2, q3, rfl⟩ := e2.ptr_inv
      split at ha
      · cases ha
      · rename_i hc
        split at ha
        · rename_i h3' hst
          cases ha
          obtain ⟨h2', k1, k2⟩ := hm.sts q2 e4.cells hst
          exact ⟨none, h2', by simp only [aop, e1, e3]; rw [if_neg (by rw [e4.cells_size, e4.flat]; rw [q1] at hc; exact hc)]; simp only [k1], trivial, k2⟩
        · cases ha
    · cases ha
  | nilck x =>
    simp only [aop] at ha
    split at ha
    · rename_i a h3
      cases ha
      obtain ⟨a2, e1, e2⟩ := ev_emb hF h3
      obtain ⟨o2, q1, q2, q3, rfl⟩ := e2.ptr_inv
      exact pure (by simp only [aop, e1]) e2
    · cases ha
  | mkf f cap =>
    simp only [aop] at ha
    split at ha
    · rename_i vs hvs
      cases ha
      obtain ⟨vs2, e1, e2⟩ := evs_emb hF hvs
      exact pure (by simp only [aop, e1]) (e2.func f)
    · cases ha
  | mks elem size bytes zs l c =>
    simp only [aop] at ha
    split at ha
    · rename_i kl l' kc c' h3 h4
      split at ha
      · rename_i hc
        cases ha
        obtain ⟨l2, e1, e2⟩ := ev_emb hF h3
        obtain ⟨c2, e3, e4⟩ := ev_emb hF h4
        rw [e2.int] at e1
        rw [e4.int] at e3
        exact ⟨some (.slice (some ⟨h2.length, 0, none⟩) l'.toNat c'.toNat), h2 ++ [.row ⟨rep zs c'.toNat, elem, size, true⟩], by simp only [aop, e1, e3]; rw [if_pos hc], E.sl _ _ _ _ _ new0 (by simp), hm.push' (LE.rep (LE.self (show zs.all closed1 = true from hg)) _)⟩
      · cases ha
    · cases ha
  | sl size x lo hi =>
    simp only [aop] at ha
    split at ha
    · rename_i a l c lo' hi' h3 h4 h5
      split at ha
      · rename_i hc
        cases ha
        obtain ⟨x2, e1, e2⟩ := ev_emb hF h3
        have e3 := evo_emb hF h4
        have e4 := evo_emb hF h5
        cases a with
        | none =>
          rw [e2.pl rfl] at e1
          exact pure (by simp only [aop, e1, e3, e4]; rw [if_pos ⟨hc.1, hc.2.1, hc.2.2.1, rfl⟩]) (.atom _ (by split <;> rfl))
        | some a =>
          obtain ⟨o2, q1, q2, q3, rfl⟩ := e2.sl_inv
          refine pure (by simp only [aop, e1, e3, e4]; rw [if_pos ⟨hc.1, hc.2.1, hc.2.2.1, unitOk_emb (l := l) (c := c) hm q2 hc.2.2.2⟩]) ?_
          have hsp : a = ⟨a.block, a.off, none⟩ := by rw [← q1]
          split
          · rw [hsp]; exact .sl _ _ _ _ _ q2 q3
          · exact .sl _ _ _ _ _ q2 q3
      · cases ha
    · cases ha
  | sls x lo hi =>
    simp only [aop] at ha
    split at ha
    · rename_i s lo' hi' h3 h4 h5
      split at ha
      · rename_i hc
        cases ha
        obtain ⟨x2, e1, e2⟩ := ev_emb hF h3
        rw [e2.str] at e1
        exact pure (by simp only [aop, e1, evo_emb hF h4, evo_emb hF h5]; rw [if_pos hc]) (.atom _ rfl)
      · cases ha
    · cases ha
  | faddr off x =>
    simp only [aop] at ha
    split at ha
    · rename_i a h3
      obtain ⟨a2, e1, e2⟩ := ev_emb hF h3
      obtain ⟨o2, q1, q2, q3, rfl⟩ := e2.ptr_inv
      split at ha
      · cases ha
      · cases ha
        exact pure (by simp [aop, e1]) (.ptr _ _ _ q2 q3)
    · cases ha
  | fld agg off n x =>
    simp only [aop] at ha
    split at ha
    · rename_i cs h3
      obtain ⟨x2, e1, e2⟩ := ev_emb hF h3
      obtain ⟨cs2, rfl, e3⟩ := e2.agg_inv
      split at ha
      · cases ha
        refine pure (by simp only [aop, e1]; rfl) ?_
        rw [arr_extract, arr_extract]
        exact ((e3.drop _).take _).agg
      · split at ha
        · rename_i u hu
          cases ha
          obtain ⟨u2, k1, k2⟩ := e3.2 off u (by simpa using hu)
          exact pure (by simp only [aop, e1]; rw [show cs2[off]? = some u2 by simpa using k1]) k2
        · cases ha
    · cases ha
  | iaddr size x i =>
    simp only [aop] at ha
    split at ha
    · rename_i a l c k j h3 h4
      obtain ⟨x2, e1, e2⟩ := ev_emb hF h3
      obtain ⟨i2, e3, e4⟩ := ev_emb hF h4
      rw [e4.int] at e3
      obtain ⟨o2, q1, q2, q3, rfl⟩ := e2.sl_inv
      split at ha
      · rename_i hc
        split at ha
        · cases ha
        · cases ha
          exact pure (by simp only [aop, e1, e3]; rw [if_pos hc]; rfl) (.ptr _ _ _ q2 q3)
      · cases ha
    · cases ha
  | iaddrA len size x i =>
    simp only [aop] at ha
    split at ha
    · rename_i a k j h3 h4
      obtain ⟨x2, e1, e2⟩ := ev_emb hF h3
      obtain ⟨i2, e3, e4⟩ := ev_emb hF h4
      rw [e4.int] at e3
      obtain ⟨o2, q1, q2, q3, rfl⟩ := e2.ptr_inv
      split at ha
      · rename_i hc
        split at ha
        · cases ha
        · cases ha
          exact pure (by simp only [aop, e1, e3]; rw [if_pos hc]; rfl) (.ptr _ _ _ q2 q3)
      · cases ha
    · cases ha
  | idxA len size agg x i =>
    simp only [aop] at ha
    split at ha
    · rename_i cs k j h3 h4
      obtain ⟨x2, e1, e2⟩ := ev_emb hF h3
      obtain ⟨i2, e3, e4⟩ := ev_emb hF h4
      rw [e4.int] at e3
      obtain ⟨cs2, rfl, e5⟩ := e2.agg_inv
      split at ha
      · rename_i hc
        split at ha
        · cases ha
          refine pure (by simp only [aop, e1, e3]; rw [if_pos hc]) ?_
          rw [arr_extract, arr_extract]
          exact ((e5.drop _).take _).agg
        · split at ha
          · rename_i u hu
            cases ha
            obtain ⟨u2, k1, k2⟩ := e5.2 _ u (by simpa using hu)
            exact pure (by simp only [aop, e1, e3]; rw [if_pos hc, show cs2[j.toNat * size]? = some u2 by simpa using k1]) k2
          · cases ha
      · cases ha
    · cases ha
  | idxS x i =>
    simp only [aop] at ha
    split at ha
    · rename_i s k j h3 h4
      obtain ⟨x2, e1, e2⟩ := ev_emb hF h3
      obtain ⟨i2, e3, e4⟩ := ev_emb hF h4
      rw [e4.int] at e3
      rw [e2.str] at e1
      split at ha
      · rename_i hc
        split at ha
        · rename_i b hb
          cases ha
          exact pure (by simp only [aop, e1, e3]; rw [if_pos hc, hb]) (.atom _ rfl)
        · cases ha
      · cases ha
    · cases ha
  | len x =>
    simp only [aop] at ha
    split at ha
    · rename_i a n c h3
      cases ha
      obtain ⟨x2, e1, e2⟩ := ev_emb hF h3
      cases a with
      | none => rw [e2.pl rfl] at e1; exact pure (by simp only [aop, e1]) (.atom _ rfl)
      | some a =>
        obtain ⟨o2, q1, q2, q3, rfl⟩ := e2.sl_inv
        exact pure (by simp only [aop, e1]) (.atom _ rfl)
    · cases ha
  | lenS x =>
    simp only [aop] at ha
    split at ha
    · rename_i s h3
      cases ha
      obtain ⟨x2, e1, e2⟩ := ev_emb hF h3
      rw [e2.str] at e1
      exact pure (by simp only [aop, e1]) (.atom _ rfl)
    · cases ha
  | lenK n =>
    simp only [aop] at ha
    cases ha
    exact pure (by simp only [aop]) (.atom _ rfl)
  | minmax mx xs =>
    simp only [aop] at ha
    split at ha
    · rename_i vs hvs
      obtain ⟨vs2, e1, e2⟩ := evs_emb hF hvs
      split at ha
      · rename_i k n r
        split at ha
        · rename_i l hl
          cases ha
          have hall : aints k (.int k n :: r) = some (n :: l) := by simp [aints, hl]
          have := aints_emb e2 hall
          subst this
          exact pure (by simp only [aop, e1, hl]) (.atom _ rfl)
        · cases ha
      · cases ha
    · cases ha
  | app elem size bytes s x =>
    simp only [aop] at ha
    split at ha
    · rename_i s' x' h3 h4
      obtain ⟨s2, e1, e2⟩ := ev_emb hF h3
      obtain ⟨x2, e3, e4⟩ := ev_emb hF h4
      split at ha
      · rename_i u h3' hap
        cases ha
        obtain ⟨v2, h2', k1, k2, k3⟩ := aapp_emb hm e2 e4 hap
        exact ⟨some v2, h2', by simp only [aop, e1, e3, k1], k2, k3⟩
      · cases ha
    · cases ha
  | cpy size s x =>
    simp only [aop] at ha
    split at ha
    · rename_i s' x' h3 h4
      obtain ⟨s2, e1, e2⟩ := ev_emb hF h3
      obtain ⟨x2, e3, e4⟩ := ev_emb hF h4
      split at ha
      · rename_i u h3' hap
        cases ha
        obtain ⟨v2, h2', k1, k2, k3⟩ := acpy_emb hm e2 e4 hap
        exact ⟨some v2, h2', by simp only [aop, e1, e3, k1], k2, k3⟩
      · cases ha
    · cases ha
  | ext i x =>
    simp only [aop] at ha
    split at ha
    · rename_i vs h3
      obtain ⟨x2, e1, e2⟩ := ev_emb hF h3
      obtain ⟨vs2, rfl, e3⟩ := e2.tuple_inv
      split at ha
      · rename_i u hu
        cases ha
        obtain ⟨u2, k1, k2⟩ := e3.2 i u (by simpa using hu)
        exact pure (by simp only [aop, e1]; rw [show vs2[i]? = some u2 by simpa using k1]) k2
      · cases ha
    · cases ha
  | call f args => cases ha
  | calld x args => cases ha
end
end Go.Am
namespace Go.Am
set_option linter.unusedVariables false
set_option linter.unusedSimpArgs false

def goodC : ACode → Bool
  | .region l => l.all fun o => o.op.good
  | .seq a b | .cond _ a b => goodC a && goodC b
  | .block _ _ c | .loop _ c => goodC c
  | _ => true
def goodI : List It → Bool
  | [] => true
  | .code c :: ks => goodC c && goodI ks
  | .blk .. :: ks => goodI ks
  | .lp _ c :: ks => goodC c && goodI ks
def GoodT (T : Tab) : Prop := ∀ f F, T f = some F → goodC F.code = true
def EmbG (ρ : Rel) (g : List ARes → List It → Fr → H → Res) : Prop :=
  ∀ rs ks fr fr2 h h2 v h', goodI ks = true → FE ρ h.length fr fr2 → ME ρ h h2 → g rs ks fr h = some (v, h') → ∃ v2 h2', g rs ks fr2 h2 = some (v2, h2') ∧ E ρ h'.length v v2 ∧ Post ρ h h' h2 h2'

section
variable {ρ : Rel} {h h2 h' : H} {fr fr2 : Fr} {T : Tab} {g : List ARes → List It → Fr → H → Res}
theorem gd_emb {n : Nat} (hF : FE ρ n fr fr2) {x : Option (Nat × Bool)} {b : Bool} (hg : gd fr x = some b) : gd fr2 x = some b := by
  cases x with
  | none => exact hg
  | some p =>
    obtain ⟨s, want⟩ := p
    simp only [gd] at hg ⊢
    split at hg
    · rename_i b' hb
      obtain ⟨v2, e1, e2⟩ := hF _ _ hb
      rw [e2.bool] at e1
      rw [e1]; exact hg
    · rename_i vs hb
      obtain ⟨v2, e1, e2⟩ := hF _ _ hb
      obtain ⟨cs2, rfl, _⟩ := e2.tuple_inv
      rw [e1]; exact hg
    · cases hg
theorem args_emb {n : Nat} : ∀ {vs vs2 : List Value} (k : Nat), LE ρ n vs vs2 → FE ρ n (Fr.args k vs) (Fr.args k vs2)
  | [], vs2, k, hl, t, v, hv => by cases hv
  | u :: vs, [], k, hl, t, v, hv => by have := hl.1; simp at this
  | u :: vs, u2 :: vs2, k, hl, t, v, hv => by
    obtain ⟨u', h1, h2⟩ := hl.2 0 _ rfl
    simp at h1; subst h1
    simp only [Fr.args] at hv ⊢
    cases hb : Nat.beq t k with
    | true => rw [hb] at hv; cases hv; exact ⟨u2, rfl, h2⟩
    | false =>
      rw [hb] at hv
      exact args_emb (k + 1) (vs := vs) (vs2 := vs2) ⟨by have := hl.1; simpa using this, fun i v hv => by simpa using hl.2 (i + 1) v (by simpa using hv)⟩ t v hv
theorem enter_emb (hg : EmbG ρ g) (hT : GoodT T) (hm : ME ρ h h2) {f : FuncId} {vs vs2 : List Value} (hl : LE ρ h.length vs vs2) {v : Value} (he : enter T g f vs h = some (v, h')) :
    ∃ v2 h2', enter T g f vs2 h2 = some (v2, h2') ∧ E ρ h'.length v v2 ∧ Post ρ h h' h2 h2' := by
  unfold enter at he ⊢
  split at he
  · rename_i F hF
    split at he
    · rename_i hn
      obtain ⟨v2, h2', k1, k2⟩ := hg _ _ _ _ _ _ _ _ (by simp [goodI, hT f F hF]) (args_emb 0 hl) hm he
      exact ⟨v2, h2', by rw [if_pos (by rw [← hl.1]; exact hn)]; exact k1, k2⟩
    · cases he
  · cases he
theorem older_emb {n n0 n02 : Nat} (hF : FE ρ n fr fr2) (hold : ∀ o o2, ρ o o2 → o < n0 → o2 < n02) {o : AOper} (ho : older n0 fr o = true) : older n02 fr2 o = true := by
  obtain ⟨dst, op, guard, chk⟩ := o
  cases chk with
  | false => cases op <;> rfl
  | true =>
    cases op <;> first | rfl | skip
    rename_i agg k a
    simp only [older] at ho ⊢
    split at ho
    · rename_i p hp
      obtain ⟨v2, e1, e2⟩ := ev_emb hF hp
      obtain ⟨o2, q1, q2, q3, rfl⟩ := e2.ptr_inv
      rw [e1]
      simp only [decide_eq_true_eq] at ho ⊢
      exact hold _ _ q2 ho
    · cases ho
theorem behind_emb {chk : Bool} (hm : ME ρ h h2) {h2' : H} (hp : Post ρ h h' h2 h2') {α : Type} {r : Option α} {x : α} (hb : behind chk h h' r = some x) {β : Type} {r2 : Option β} : behind chk h2 h2' r2 = r2 :=
  behind_mk fun hc => hp.pre hm ((behind_some hb).2 hc)
theorem core_emb (hg : EmbG ρ g) (hT : GoodT T) {n0 n02 : Nat} (hold : ∀ o o2, ρ o o2 → o < n0 → o2 < n02) {o : AOper} (ho : o.op.good = true) (hF : FE ρ h.length fr fr2) (hm : ME ρ h h2) {v : Option Value} (hs : core T g n0 o fr h = some (v, h')) :
    ∃ v2 h2', core T g n02 o fr2 h2 = some (v2, h2') ∧ OVE ρ h'.length v v2 ∧ Post ρ h h' h2 h2' := by
  unfold core at hs
  split at hs
  · rename_i hgd
    cases hs
    exact ⟨some (.tuple #[]), h2, by unfold core; rw [gd_emb hF hgd], E.tuple #[] #[] rfl (fun i hi => absurd hi (by simp)), .refl hm⟩
  · rename_i hgd
    split at hs
    · rename_i f args hop
      split at hs
      · rename_i vs hvs
        obtain ⟨vs2, e1, e2⟩ := evs_emb hF hvs
        split at hs
        · rename_i u h3 he
          have hb := (behind_some hs).1
          cases hb
          obtain ⟨v2, h2', k1, k2, k3⟩ := enter_emb hg hT hm e2 he
          exact ⟨some v2, h2', by unfold core; simp only [gd_emb hF hgd, hop, e1, k1]; exact behind_emb hm k3 hs, k2, k3⟩
        · cases hs
      · cases hs
    · rename_i x args hop
      split at hs
      · rename_i f first cap vs hx hvs
        obtain ⟨x2, e1, e2⟩ := ev_emb hF hx
        obtain ⟨vs2, e3, e4⟩ := evs_emb hF hvs
        obtain ⟨f', cap2, q1, rfl, rfl, q3⟩ := e2.func_inv
        cases q1
        split at hs
        · split at hs
          · rename_i u h3 he
            have hb := (behind_some hs).1
            cases hb
            obtain ⟨v2, h2', k1, k2, k3⟩ := enter_emb hg hT hm (e4.append q3) he
            exact ⟨some v2, h2', by unfold core; simp only [gd_emb hF hgd, hop, e1, e3]; rw [if_pos (show (#[] : Array Value).isEmpty = true from rfl)]; simp only [k1]; exact behind_emb hm k3 hs, k2, k3⟩
          · cases hs
        · cases hs
      · cases hs
    · rename_i hne1 hne2
      split at hs
      · rename_i hol
        obtain ⟨v2, h2', k1, k2, k3⟩ := aop_emb hF hm ho hs
        refine ⟨v2, h2', ?_, k2, k3⟩
        unfold core
        simp only [gd_emb hF hgd]
        rw [if_pos (older_emb hF hold hol)]; exact k1
      · cases hs
  · cases hs
theorem stepO_emb (hg : EmbG ρ g) (hT : GoodT T) {n0 n02 : Nat} (hold : ∀ o o2, ρ o o2 → o < n0 → o2 < n02) {o : AOper} (ho : o.op.good = true) (hF : FE ρ h.length fr fr2) (hm : ME ρ h h2) {fr' : Fr} (hs : stepO T g n0 o fr h = some (fr', h')) :
    ∃ fr2' h2', stepO T g n02 o fr2 h2 = some (fr2', h2') ∧ FE ρ h'.length fr' fr2' ∧ Post ρ h h' h2 h2' := by
  unfold stepO at hs
  split at hs
  · rename_i v h3 hc
    cases hs
    obtain ⟨v2, h2', k1, k2, k3⟩ := core_emb hg hT hold ho hF hm hc
    exact ⟨_, h2', by unfold stepO; rw [k1], (hF.up k3.len).put _ k2, k3⟩
  · cases hs
theorem runOps_emb (hg : EmbG ρ g) (hT : GoodT T) {n0 n02 : Nat} (hold : ∀ o o2, ρ o o2 → o < n0 → o2 < n02) : ∀ {l : List AOper} {fr fr2 : Fr} {h h2 h' : H} {fr' : Fr}, (l.all fun o => o.op.good) = true → FE ρ h.length fr fr2 → ME ρ h h2 → runOps T g n0 l fr h = some (fr', h') →
    ∃ fr2' h2', runOps T g n02 l fr2 h2 = some (fr2', h2') ∧ FE ρ h'.length fr' fr2' ∧ Post ρ h h' h2 h2'
  | [], fr, fr2, h, h2, h', fr', _, hF, hm, hs => by cases hs; exact ⟨fr2, h2, rfl, hF, .refl hm⟩
  | o :: l, fr, fr2, h, h2, h', fr', ho, hF, hm, hs => by
    simp only [List.all_cons, Bool.and_eq_true] at ho
    simp only [runOps] at hs
    split at hs
    · rename_i fr1 h1 h3
      obtain ⟨fr21, h21, k1, k2, k3⟩ := stepO_emb hg hT hold ho.1 hF hm h3
      obtain ⟨fr22, h22, k4, k5, k6⟩ := runOps_emb hg hT hold ho.2 k2 k3.me hs
      exact ⟨fr22, h22, by simp only [runOps, k1]; exact k4, k5, k3.trans k6⟩
    · cases hs
theorem keep_emb {n : Nat} (hF : FE ρ n fr fr2) (ks : List Nat) : FE ρ n (Fr.of (keepL fr ks)) (Fr.of (keepL fr2 ks)) := by
  have spec : ∀ (fr : Fr) (ks : List Nat) (t : Nat), Fr.of (keepL fr ks) t = if t ∈ ks then fr t else none := by
    intro fr ks t
    induction ks with
    | nil => rfl
    | cons k ks ih =>
      simp only [keepL]
      cases hk : fr k with
      | none =>
        simp only [ih, List.mem_cons]
        by_cases ht : t = k
        · subst ht; simp [hk]
        · simp [ht]
      | some v =>
        simp only [Fr.of, ih, List.mem_cons]
        cases hb : Nat.beq t k with
        | true => obtain rfl := Nat.eq_of_beq_eq_true hb; simp [hk]
        | false =>
          have : t ≠ k := by rintro rfl; rw [Nat.beq_refl] at hb; cases hb
          simp [this]
  intro t v hv
  rw [spec] at hv ⊢
  split at hv
  · rw [if_pos ‹_›]; exact hF t v hv
  · cases hv
theorem ress_emb (hF : FE ρ h.length fr fr2) (hm : ME ρ h h2) : ∀ {rs : List ARes} {vs : List Value}, ress fr h rs = some vs → ∃ vs2, ress fr2 h2 rs = some vs2 ∧ LE ρ h.length vs vs2
  | [], vs, hs => by cases hs; exact ⟨[], rfl, LE.nil⟩
  | r :: rs, vs, hs => by
    simp only [ress] at hs
    split at hs
    · rename_i v vs' h3 h4
      cases hs
      obtain ⟨vs2, k1, k2⟩ := ress_emb hF hm h4
      have : ∃ v2, res1 fr2 h2 r = some v2 ∧ E ρ h.length v v2 := by
        cases r with
        | tmp t => exact hF t v h3
        | cell t agg n =>
          simp only [res1] at h3 ⊢
          split at h3
          · rename_i a ha
            obtain ⟨a2, e1, e2⟩ := hF t _ ha
            obtain ⟨o2, q1, q2, q3, rfl⟩ := e2.ptr_inv
            rw [e1]
            split at h3
            · cases h3
            · split at h3
              · split at h3
                · rename_i cs hcs
                  cases h3
                  obtain ⟨cs2, e3, e4⟩ := hm.lds q2 hcs
                  exact ⟨_, by simp [e3], e4.agg⟩
                · cases h3
              · obtain ⟨u2, e3, e4⟩ := hm.ld1 q2 h3
                exact ⟨u2, by simp [e3], e4⟩
          · cases h3
      obtain ⟨v2, k3, k4⟩ := this
      exact ⟨v2 :: vs2, by simp [ress, k1, k3], LE.cons k4 k2⟩
    · cases hs
theorem retv_emb (hF : FE ρ h.length fr fr2) (hm : ME ρ h h2) {rs : List ARes} {v : Value} (hs : retv rs fr h = some (v, h')) : ∃ v2 h2', retv rs fr2 h2 = some (v2, h2') ∧ E ρ h'.length v v2 ∧ Post ρ h h' h2 h2' := by
  unfold retv at hs
  split at hs
  · rename_i u hu
    cases hs
    obtain ⟨vs2, k1, k2⟩ := ress_emb hF hm hu
    obtain ⟨u2, k3, k4⟩ := k2.2 0 _ rfl
    obtain rfl : vs2 = [u2] := by
      have hl := k2.1
      match vs2, hl, k3 with
      | [x], _, k3 => simp at k3; rw [k3]
    exact ⟨u2, h2, by unfold retv; rw [k1], k4, .refl hm⟩
  · rename_i vs hne hu
    cases hs
    obtain ⟨vs2, k1, k2⟩ := ress_emb hF hm hu
    refine ⟨.tuple vs2.toArray, h2, ?_, k2.tuple, .refl hm⟩
    unfold retv
    rw [k1]
    split
    · rename_i u he
      cases he
      have hl := k2.1
      match vs, hl, hne with
      | [x], _, hne => exact absurd rfl (hne x)
    · rename_i he; cases he; rfl
    · rename_i he; cases he
  · cases hs
theorem popTo_good {id : Nat} : ∀ {ks : List It} {ko : List Nat} {k : List It}, goodI ks = true → popTo id ks = some (ko, k) → goodI k = true
  | [], _, _, _, h => by cases h
  | .code c :: ks, _, _, hg, h => by simp only [goodI, Bool.and_eq_true] at hg; exact popTo_good hg.2 h
  | .lp _ c :: ks, _, _, hg, h => by simp only [goodI, Bool.and_eq_true] at hg; exact popTo_good hg.2 h
  | .blk id' ko :: ks, _, _, hg, h => by
    simp only [popTo] at h
    simp only [goodI] at hg
    split at h
    · cases h; exact hg
    · exact popTo_good hg h
theorem gF_emb (hg : EmbG ρ g) (hT : GoodT T) : EmbG ρ (gF T g) := by
  intro rs ks fr fr2 h h2 v h' hgood hF hm hs
  unfold gF at hs
  split at hs
  · exact retv_emb hF hm hs
  · exact retv_emb hF hm hs
  · simp only [goodI, goodC, Bool.true_and] at hgood
    exact hg _ _ _ _ _ _ _ _ hgood hF hm hs
  · cases hs
  · simp only [goodI, goodC, Bool.and_eq_true] at hgood
    exact hg _ _ _ _ _ _ _ _ (by simp [goodI, hgood]) hF hm hs
  · split at hs
    · rename_i t ht
      obtain ⟨c2, e1, e2⟩ := ev_emb hF ht
      rw [e2.bool] at e1
      simp only [goodI, goodC, Bool.and_eq_true] at hgood
      obtain ⟨v2, h2', k1, k2⟩ := hg _ _ _ _ _ _ _ _ (by cases t <;> simp [goodI, hgood]) hF hm hs
      exact ⟨v2, h2', by unfold gF; simp only [e1]; exact k1, k2⟩
    · cases hs
  · simp only [goodI, goodC, Bool.and_eq_true] at hgood
    exact hg _ _ _ _ _ _ _ _ (by simp [goodI, hgood]) hF hm hs
  · simp only [goodI, goodC, Bool.and_eq_true] at hgood
    exact hg _ _ _ _ _ _ _ _ (by simp [goodI, hgood]) (keep_emb hF _) hm hs
  · split at hs
    · rename_i ko k hp
      simp only [goodI, goodC, Bool.true_and] at hgood
      obtain ⟨v2, h2', k1, k2⟩ := hg _ _ _ _ _ _ _ _ (popTo_good hgood hp) (keep_emb hF ko) hm hs
      exact ⟨v2, h2', by unfold gF; simp only [hp]; exact k1, k2⟩
    · cases hs
  · split at hs
    · rename_i fr1 h1 hrun
      simp only [goodI, goodC, Bool.and_eq_true] at hgood
      obtain ⟨fr21, h21, k1, k2, k3⟩ := runOps_emb hg hT (fun o o2 hr ho => hm.lt hr ho) hgood.1 hF hm hrun
      obtain ⟨v2, h2', k4, k5, k6⟩ := hg _ _ _ _ _ _ _ _ hgood.2 k2 k3.me hs
      exact ⟨v2, h2', by unfold gF; simp only [k1]; exact k4, k5, k3.trans k6⟩
    · cases hs
  · simp only [goodI] at hgood
    exact hg _ _ _ _ _ _ _ _ hgood (keep_emb hF _) hm hs
  · simp only [goodI, Bool.and_eq_true] at hgood
    exact hg _ _ _ _ _ _ _ _ (by simp [goodI, hgood]) (keep_emb hF _) hm hs
theorem goN_emb (hT : GoodT T) : ∀ n, EmbG ρ (goN T n)
  | 0 => fun _ _ _ _ _ _ _ _ _ _ _ hs => by cases hs
  | n + 1 => gF_emb (goN_emb hT n) hT
end
end Go.Am
namespace Go.Am
set_option linter.unusedVariables false
set_option linter.unusedSimpArgs false

/-- values name only what there is -/
structure WFs (fr : Fr) (h : H) : Prop where
  fe : FE Eq h.length fr fr
  me : ME Eq h h
/-- the same but for names of what is new -/
structure Eqv (n0 : Nat) (fr : Fr) (h : H) (fr2 : Fr) (h2 : H) : Prop where
  ex : ∃ π : Rel, FE π h.length fr fr2 ∧ ME π h h2 ∧ h.length = h2.length ∧ (∀ o, o < n0 → π o o) ∧ (∀ o, o < h.length → ∃ o2, π o o2)

theorem WFs.eqv {fr : Fr} {h : H} (hw : WFs fr h) (n0 : Nat) : Eqv n0 fr h fr h := ⟨Eq, hw.fe, hw.me, rfl, fun _ _ => rfl, fun o _ => ⟨o, rfl⟩⟩
theorem ME.comp {ρ σ : Rel} {h h2 h3 : H} (a : ME ρ h h2) (b : ME σ h2 h3) : ME (fun o o3 => ∃ o2, ρ o o2 ∧ σ o2 o3) h h3 := by
  refine ⟨fun o o3 p p3 ⟨o2, h1, h2⟩ ⟨p2, h3, h4⟩ => (a.uni _ _ _ _ h1 h3).trans (b.uni _ _ _ _ h2 h4), fun j => ⟨_, a.new j, b.new j⟩, fun o o3 ⟨o2, h1, h2⟩ => ?_⟩
  exact (a.get _ _ h1).comp (b.get _ _ h2) fun x y z h1 h2 h3 h4 => ⟨⟨y, h1, h3⟩, h2⟩
theorem Eqv.trans {n0 : Nat} {fr fr2 fr3 : Fr} {h h2 h3 : H} (a : Eqv n0 fr h fr2 h2) (b : Eqv n0 fr2 h2 fr3 h3) : Eqv n0 fr h fr3 h3 := by
  obtain ⟨π, a1, a2, a3, a4, a5⟩ := a.ex
  obtain ⟨σ, b1, b2, b3, b4, b5⟩ := b.ex
  refine ⟨_, fun t v hv => ?_, a2.comp b2, a3.trans b3, fun o ho => ⟨o, a4 o ho, b4 o ho⟩, fun o ho => ?_⟩
  · obtain ⟨v2, k1, k2⟩ := a1 t v hv
    obtain ⟨v3, k3, k4⟩ := b1 t v2 k1
    exact ⟨v3, k3, k2.comp k4 fun x y z h1 h2 h3 h4 => ⟨⟨y, h1, h3⟩, h2⟩⟩
  · obtain ⟨o2, h1⟩ := a5 o ho
    obtain ⟨o3, h2⟩ := b5 o2 (a2.lt h1 ho)
    exact ⟨o3, o2, h1, h2⟩

section
variable {T : Tab} {g : List ARes → List It → Fr → H → Res} {n0 : Nat}
theorem WFs.run (hg : ∀ ρ, EmbG ρ g) (hT : GoodT T) {l : List AOper} (hl : (l.all fun o => o.op.good) = true) {fr fr' : Fr} {h h' : H} (hw : WFs fr h) (hs : runOps T g n0 l fr h = some (fr', h')) : WFs fr' h' := by
  obtain ⟨fr2, h2, k1, k2, k3⟩ := runOps_emb (hg Eq) hT (n0 := n0) (n02 := n0) (fun o o2 h1 h2 => h1 ▸ h2) hl hw.fe hw.me hs
  rw [hs] at k1
  cases k1
  exact ⟨k2, k3.me⟩
theorem Eqv.run (hg : ∀ ρ, EmbG ρ g) (hT : GoodT T) {l : List AOper} (hl : (l.all fun o => o.op.good) = true) {fr fr2 fr' : Fr} {h h2 h' : H} (hn : n0 ≤ h.length) (he : Eqv n0 fr h fr2 h2) (hs : runOps T g n0 l fr h = some (fr', h')) :
    ∃ fr2' h2', runOps T g n0 l fr2 h2 = some (fr2', h2') ∧ Eqv n0 fr' h' fr2' h2' := by
  obtain ⟨π, a1, a2, a3, a4, a5⟩ := he.ex
  obtain ⟨fr2', h2', k1, k2, k3⟩ := runOps_emb (hg π) hT (n0 := n0) (n02 := n0) (fun o o2 h1 h2 => by
    have := (a2.uni _ _ _ _ h1 (a4 o h2)).1 rfl; omega) hl a1 a2 hs
  obtain ⟨m, m1, m2⟩ := k3.more
  refine ⟨fr2', h2', k1, π, k2, k3.me, by omega, a4, fun o ho => ?_⟩
  by_cases hlt : o < h.length
  · exact a5 o hlt
  · exact ⟨h2.length + (o - h.length), by have := a2.new (o - h.length); rwa [show h.length + (o - h.length) = o by omega] at this⟩

/-! ### operations that make one object of what the frame tells alone -/
def AOp.isNew : AOp → Bool
  | .alloc .. | .box .. | .mkSl .. | .mks .. => true
  | _ => false
theorem aop_new {op : AOp} (hn : op.isNew = true) (hgood : op.good = true) {fr : Fr} {h h' : H} {v : Option Value} (ha : aop fr h op = some (v, h')) :
    ∃ (mk : Nat → Value) (r : Row), (∀ h2, aop fr h2 op = some (some (mk h2.length), h2 ++ [.row r])) ∧ (∀ (ρ : Rel) n o o2, ρ o o2 → o < n → E ρ n (mk o) (mk o2)) ∧ (∀ n, FE Eq n fr fr → LE Eq n r.cells r.cells) := by
  cases op <;> first | (cases hn; done) | skip
  case alloc elem zs =>
    exact ⟨fun o => .pointer (some ⟨o, 0, none⟩), ⟨zs, elem, 0, true⟩, fun h2 => rfl, fun ρ n o o2 h1 h2 => .ptr _ _ _ h1 h2, fun n _ => LE.self (show zs.all closed1 = true from hgood)⟩
  case box elem size x =>
    simp only [aop] at ha
    split at ha
    · rename_i u hu
      split at ha
      · rename_i hc
        refine ⟨fun o => .pointer (some ⟨o, 0, none⟩), ⟨u.cells.toList, elem, 0, true⟩, fun h2 => by simp only [aop, hu]; rw [if_pos hc], fun ρ n o o2 h1 h2 => .ptr _ _ _ h1 h2, fun n hF => ?_⟩
        obtain ⟨u2, e1, e2⟩ := ev_emb hF hu
        rw [hu] at e1; cases e1
        exact e2.cells
      · cases ha
    · cases ha
  case mkSl elem size len parts =>
    simp only [aop] at ha
    split at ha
    · rename_i vs hvs
      split at ha
      · rename_i hc
        refine ⟨fun o => .slice (some ⟨o, 0, none⟩) len len, ⟨cat vs, elem, size, true⟩, fun h2 => by simp only [aop, hvs]; rw [if_pos hc], fun ρ n o o2 h1 h2 => .sl _ _ _ _ _ h1 h2, fun n hF => ?_⟩
        obtain ⟨vs2, e1, e2⟩ := evs_emb hF hvs
        rw [hvs] at e1; cases e1
        exact (sized_emb (size := size) e2).2
      · cases ha
    · cases ha
  case mks elem size bytes zs l c =>
    simp only [aop] at ha
    split at ha
    · rename_i kl l' kc c' h3 h4
      split at ha
      · rename_i hc
        exact ⟨fun o => .slice (some ⟨o, 0, none⟩) l'.toNat c'.toNat, ⟨rep zs c'.toNat, elem, size, true⟩, fun h2 => by simp only [aop, h3, h4]; rw [if_pos hc], fun ρ n o o2 h1 h2 => .sl _ _ _ _ _ h1 h2, fun n hF => LE.rep (LE.self (show zs.all closed1 = true from hgood)) _⟩
      · cases ha
    · cases ha
theorem core_new {o : AOper} (hn : o.op.isNew = true) (hgood : o.op.good = true) {fr : Fr} {h h' : H} {v : Option Value} (ha : core T g n0 o fr h = some (v, h')) :
    (∀ h2, core T g n0 o fr h2 = some (v, h2)) ∨
    ∃ (mk : Nat → Value) (r : Row), (∀ h2, core T g n0 o fr h2 = some (some (mk h2.length), h2 ++ [.row r])) ∧ (∀ (ρ : Rel) n o o2, ρ o o2 → o < n → E ρ n (mk o) (mk o2)) ∧ (∀ n, FE Eq n fr fr → LE Eq n r.cells r.cells) := by
  unfold core at ha
  split at ha
  · rename_i hgd
    cases ha
    exact .inl fun h2 => by unfold core; rw [hgd]
  · rename_i hgd
    split at ha
    · rename_i hop; rw [hop] at hn; cases hn
    · rename_i hop; rw [hop] at hn; cases hn
    · rename_i hne1 hne2
      split at ha
      · rename_i hol
        obtain ⟨mk, r, k1, k2, k3⟩ := aop_new hn hgood ha
        refine .inr ⟨mk, r, fun h2 => ?_, k2, k3⟩
        unfold core
        simp only [hgd]
        rw [if_pos hol]
        exact k1 h2
      · cases ha
  · cases ha

/-- what only looks, looks the same where there is more to see -/
theorem core_sub {o : AOper} (hc : o.op.cls = 1) {fr : Fr} {h hx : H} {n : Nat} (hF : FE Eq n fr fr) (hsub : ∀ x r, x < n → H.row hx x = some r → h.row x = some r) {v : Option Value} {h' : H} (hs : core T g n0 o fr hx = some (v, h')) : core T g n0 o fr h = some (v, h) := by
  have hx' := (core_read hc hs).1
  simp only at hx'
  subst hx'
  unfold core at hs ⊢
  split at hs
  · cases hs; rfl
  · split at hs
    · rename_i hop; rw [hop] at hc; cases hc
    · rename_i hop; rw [hop] at hc; cases hc
    · rename_i hne1 hne2
      split at hs
      · rename_i hold
        rw [if_pos hold]
        cases hop : o.op <;> rw [hop] at hc <;> simp only [AOp.cls] at hc <;> first | (exfalso; revert hc; decide) | skip
        case ld agg k a =>
          rw [hop] at hs
          simp only [aop] at hs ⊢
          split at hs
          · rename_i ad had
            obtain ⟨v2, e1, e2⟩ := ev_emb hF had
            obtain ⟨o2, q1, q2, q3, rfl⟩ := e2.ptr_inv
            split at hs
            · cases hs
            · rename_i hsp
              rw [if_neg hsp]
              split at hs
              · unfold H.lds at hs ⊢
                split at hs
                · rename_i cs hcs
                  split at hcs
                  · rename_i r hr
                    rw [hsub _ _ q3 hr]
                    cases hs
                    simp only [hcs]
                  · cases hcs
                · cases hs
              · unfold H.ld1 at hs ⊢
                split at hs
                · rename_i u hu
                  split at hu
                  · rename_i r hr
                    rw [hsub _ _ q3 hr]
                    cases hs
                    simp only [hu]
                  · cases hu
                · cases hs
          · cases hs
        case sl size x lo hi =>
          rw [hop] at hs
          simp only [aop] at hs ⊢
          split at hs
          · rename_i a l c lo' hi' h3 h4 h5
            split at hs
            · rename_i hcond
              cases hs
              have hu : unitOk h size a = true := by
                have hu := hcond.2.2.2
                cases a with
                | none => rfl
                | some a =>
                  obtain ⟨v2, e1, e2⟩ := ev_emb hF h3
                  obtain ⟨o2, q1, q2, q3, rfl⟩ := e2.sl_inv
                  unfold unitOk at hu ⊢
                  simp only at hu ⊢
                  split at hu
                  · rename_i r hr; rw [hsub _ _ q3 hr]; exact hu
                  · cases hu
              rw [if_pos ⟨hcond.1, hcond.2.1, hcond.2.2.1, hu⟩]
            · cases hs
          · cases hs
      · cases hs
  · cases hs
def AOp.isApp : AOp → Bool
  | .app .. => true
  | _ => false
theorem kill_sub {h : H} {x y : Nat} {r : Row} (hx : x < h.length) (hr : H.row (kill h y) x = some r) : h.row x = some r := by
  unfold H.row kill at *
  by_cases he : y = x
  · rw [he, List.getElem?_set_self hx] at hr; cases hr
  · rw [List.getElem?_set_ne he] at hr; exact hr
/-- behind an append there are but rows that were there before it -/
theorem core_app {o : AOper} (hc : o.op.isApp = true) {fr : Fr} {h h' : H} {v : Option Value} (hs : core T g n0 o fr h = some (v, h')) : ∀ x r, x < h.length → H.row h' x = some r → h.row x = some r := by
  have happ : ∀ {elem size bytes s x v h'}, aapp elem size bytes h s x = some (v, h') → ∀ x r, x < h.length → H.row h' x = some r → h.row x = some r := by
    intro elem size bytes s x v h' hap x r hx hr
    unfold aapp at hap
    split at hap <;> first | (cases hap; done) | skip
    split at hap <;> first | (cases hap; done) | skip
    split at hap
    · split at hap <;> first | (cases hap; done) | skip
      split at hap
      · cases hap; exact hr
      · split at hap
        · cases hap; rwa [row_app hx] at hr
        · cases hap
    · split at hap <;> first | (cases hap; done) | skip
      split at hap
      · cases hap
        rw [row_app (by simp [kill]; exact hx)] at hr
        exact kill_sub hx hr
      · cases hap
  unfold core at hs
  split at hs
  · cases hs; exact fun _ _ _ h => h
  · cases hop : o.op <;> rw [hop] at hc <;> first | (cases hc; done) | skip
    rw [hop] at hs
    simp only at hs
    split at hs
    · simp only [aop] at hs
      split at hs
      · split at hs
        · rename_i hap
          cases hs
          exact happ hap
        · cases hs
      · cases hs
    · cases hs
  · cases hs

/-- does it only add to memory? -/
def adds (o : AOper) : Bool := Nat.ble o.op.cls 2 && (!o.op.isCall || o.chk)
theorem core_adds {o : AOper} (ha : adds o = true) {fr : Fr} {h : H} {p} (hs : core T g n0 o fr h = some p) : h <+: p.2 := by
  simp only [adds, Bool.and_eq_true] at ha
  have h2 := Nat.le_of_ble_eq_true ha.1
  by_cases h0 : o.op.cls = 0
  · rw [(core_pure h0 hs).1]; exact List.prefix_refl _
  · by_cases h1 : o.op.cls = 1
    · rw [(core_read h1 hs).1]; exact List.prefix_refl _
    · exact core_ext (by omega) ha.2 hs

/-- p objects from N on are left out -/
def cut (N p : Nat) : Rel := fun o o2 => (o < N ∧ o2 = o) ∨ (N + p ≤ o ∧ o2 + p = o)
/-- room for p objects from N on -/
def ins (N p : Nat) : Rel := fun o o2 => (o < N ∧ o2 = o) ∨ (N ≤ o ∧ o2 = o + p)
/-- p objects from N on, and q behind them, change places -/
def flip (N p q : Nat) : Rel := fun o o2 => (o < N ∧ o2 = o) ∨ (N ≤ o ∧ o < N + p ∧ o2 = o + q) ∨ (N + p ≤ o ∧ o < N + p + q ∧ o2 + p = o) ∨ (N + p + q ≤ o ∧ o2 = o)

theorem pre_get {h h' : H} {o : Nat} (hp : h <+: h') (ho : o < h.length) : h'[o]? = h[o]? := by
  obtain ⟨t, rfl⟩ := hp
  exact List.getElem?_append_left ho
theorem OE.none {ρ : Rel} {n : Nat} {h h2 : H} {o o2 : Nat} (h1 : h.length ≤ o) (h3 : h2.length ≤ o2) : OE ρ n h[o]? h2[o2]? := by
  rw [List.getElem?_eq_none h1, List.getElem?_eq_none h3]; trivial
theorem ME.cut {h h1 : H} (hw : ME Eq h h) (hp : h <+: h1) : ME (cut h.length (h1.length - h.length)) h1 h := by
  have hl := hp.length_le
  refine ⟨fun o o2 p p2 h3 h4 => by unfold Am.cut at h3 h4; omega, fun j => by unfold Am.cut; omega, fun o o2 ho => ?_⟩
  unfold Am.cut at ho
  rcases ho with ⟨h3, rfl⟩ | ⟨h3, h4⟩
  · rw [pre_get hp h3]
    exact (hw.get _ _ rfl).mono fun x y h5 h6 => ⟨.inl ⟨h5, h6.symm⟩, by omega⟩
  · exact OE.none (by omega) (by omega)
theorem ME.ins {h h1 : H} (hw : ME Eq h h) (hp : h <+: h1) : ME (ins h.length (h1.length - h.length)) h h1 := by
  have hl := hp.length_le
  refine ⟨fun o o2 p p2 h3 h4 => by unfold Am.ins at h3 h4; omega, fun j => by unfold Am.ins; omega, fun o o2 ho => ?_⟩
  unfold Am.ins at ho
  rcases ho with ⟨h3, rfl⟩ | ⟨h3, h4⟩
  · rw [pre_get hp h3]
    exact (hw.get _ _ rfl).mono fun x y h5 h6 => ⟨.inl ⟨h5, h6.symm⟩, by omega⟩
  · exact OE.none (by omega) (by omega)
theorem FE.into {ρ : Rel} {n m : Nat} {fr : Fr} (hF : FE Eq n fr fr) (hr : ∀ o, o < n → ρ o o) (hn : n ≤ m) : FE ρ m fr fr := hF.mono fun x y h5 h6 => ⟨h6 ▸ hr x h5, by omega⟩

/-- may the first of two that stand so be put behind the second, but for names? -/
def swapOK2 (a b : AOper) : Bool :=
  (match a.dst with | some d => !b.looks.contains d && b.dst != some d | none => true) && (match b.dst with | some d => !a.looks.contains d | none => true) &&
  (a.op.isNew || b.op.isNew || (adds a && adds b) || (a.op.isApp && b.op.cls == 1))

theorem OVE.mono {ρ ρ' : Rel} {n n' : Nat} {v v2 : Option Value} (h : OVE ρ n v v2) (hr : ∀ o o2, o < n → ρ o o2 → ρ' o o2 ∧ o < n') : OVE ρ' n' v v2 := by
  cases v <;> cases v2 <;> first | exact h | exact E.mono h hr

/-- two ways to one end -/
theorem flip_eqv {N p q : Nat} (hn : n0 ≤ N) {fr : Fr} {hc hs : H} (hF : FE Eq N fr fr) (lc : hc.length = N + p + q) (ls : hs.length = N + p + q)
    (g1 : ∀ o, o < N → OE (flip N p q) hc.length hc[o]? hs[o]?) (g2 : ∀ o, N ≤ o → o < N + p → OE (flip N p q) hc.length hc[o]? hs[o + q]?) (g3 : ∀ o, N ≤ o → o < N + q → OE (flip N p q) hc.length hc[o + p]? hs[o]?)
    {d1 d2 : Option Nat} (hd : ∀ s, d1 = some s → d2 ≠ some s) {v1 v2 u1 u2 : Option Value} (hv1 : OVE (flip N p q) hc.length v1 u1) (hv2 : OVE (flip N p q) hc.length v2 u2) :
    Eqv n0 ((fr.put d1 v1).put d2 v2) hc ((fr.put d2 u2).put d1 u1) hs := by
  refine ⟨flip N p q, ?_, ⟨fun o o2 x x2 h3 h4 => by unfold flip at h3 h4; omega, fun j => by unfold flip; omega, fun o o2 ho => ?_⟩, by omega, fun o ho => by unfold flip; omega, fun o ho => ?_⟩
  · rw [← put_comm hd]
    exact ((hF.into (fun o ho => .inl ⟨ho, rfl⟩) (by omega)).put _ hv1).put _ hv2
  · unfold flip at ho
    rcases ho with ⟨h1, rfl⟩ | ⟨h1, h2, rfl⟩ | ⟨h1, h2, h3⟩ | ⟨h1, rfl⟩
    · exact g1 _ h1
    · exact g2 _ h1 h2
    · obtain rfl : o = o2 + p := h3.symm
      exact g3 o2 (by omega) (by omega)
    · exact OE.none (by omega) (by omega)
  · by_cases h1 : o < N
    · exact ⟨o, .inl ⟨h1, rfl⟩⟩
    · by_cases h2 : o < N + p
      · exact ⟨o + q, .inr (.inl ⟨by omega, h2, rfl⟩)⟩
      · exact ⟨o - p, .inr (.inr (.inl ⟨by omega, by omega, by omega⟩))⟩

theorem swap2 (hg : ∀ ρ, EmbG ρ g) (hT : GoodT T) {o1 o2 : AOper} (hs : swapOK2 o1 o2 = true) (q1 : o1.op.good = true) (q2 : o2.op.good = true) {fr fr1 fr2 : Fr} {h h1 h2 : H} (hn : n0 ≤ h.length) (hw : WFs fr h)
    (s1 : stepO T g n0 o1 fr h = some (fr1, h1)) (s2 : stepO T g n0 o2 fr1 h1 = some (fr2, h2)) :
    ∃ fr1' h1' fr2' h2', stepO T g n0 o2 fr h = some (fr1', h1') ∧ stepO T g n0 o1 fr1' h1' = some (fr2', h2') ∧ Eqv n0 fr2 h2 fr2' h2' := by
  have hwf : WFs fr2 h2 := WFs.run (n0 := n0) hg hT (l := [o1, o2]) (by simp [q1, q2]) hw (by simp only [runOps, s1, s2])
  simp only [swapOK2, Bool.and_eq_true] at hs
  obtain ⟨⟨ha, hb⟩, hcls⟩ := hs
  have d1 : ∀ d, o1.dst = some d → d ∉ o2.looks ∧ o2.dst ≠ some d := by
    intro d hd
    rw [hd] at ha
    simpa using ha
  have d2 : ∀ d, o2.dst = some d → d ∉ o1.looks := by
    intro d hd
    rw [hd] at hb
    simpa using hb
  have dd : ∀ s, o1.dst = some s → o2.dst ≠ some s := fun s hs => (d1 s hs).2
  rw [stepO_core] at s1 s2
  cases c1 : core T g n0 o1 fr h with
  | none => rw [c1] at s1; cases s1
  | some p1 =>
    obtain ⟨v1, hx⟩ := p1
    rw [c1] at s1
    simp only [Option.map_some, Option.some.injEq, Prod.mk.injEq] at s1
    obtain ⟨rfl, rfl⟩ := s1
    cases c2 : core T g n0 o2 (fr.put o1.dst v1) hx with
    | none => rw [c2] at s2; cases s2
    | some p2 =>
      obtain ⟨v2, hy⟩ := p2
      rw [c2] at s2
      simp only [Option.map_some, Option.some.injEq, Prod.mk.injEq] at s2
      obtain ⟨rfl, rfl⟩ := s2
      have e2 : ∀ u h, core T g n0 o2 (fr.put o1.dst u) h = core T g n0 o2 fr h := fun u h => core_eq fun t ht => put_get fun hd => (d1 t hd).1 ht
      have e1 : ∀ u h, core T g n0 o1 (fr.put o2.dst u) h = core T g n0 o1 fr h := fun u h => core_eq fun t ht => put_get fun hd => d2 t hd ht
      rw [e2] at c2
      have fin : ∀ {u2 hb u1 hs}, core T g n0 o2 fr h = some (u2, hb) → core T g n0 o1 fr hb = some (u1, hs) → Eqv n0 ((fr.put o1.dst v1).put o2.dst v2) hy ((fr.put o2.dst u2).put o1.dst u1) hs →
          ∃ fr1' h1' fr2' h2', stepO T g n0 o2 fr h = some (fr1', h1') ∧ stepO T g n0 o1 fr1' h1' = some (fr2', h2') ∧ Eqv n0 ((fr.put o1.dst v1).put o2.dst v2) hy fr2' h2' := by
        intro u2 hb u1 hs k1 k2 k3
        exact ⟨fr.put o2.dst u2, hb, _, hs, by rw [stepO_core, k1]; rfl, by rw [stepO_core, e1, k2]; rfl, k3⟩
      have same : core T g n0 o2 fr h = some (v2, h) ∧ core T g n0 o1 fr h = some (v1, hy) ∨ (core T g n0 o2 fr h = some (v2, hy) ∧ core T g n0 o1 fr hy = some (v1, hy)) →
          ∃ fr1' h1' fr2' h2', stepO T g n0 o2 fr h = some (fr1', h1') ∧ stepO T g n0 o1 fr1' h1' = some (fr2', h2') ∧ Eqv n0 ((fr.put o1.dst v1).put o2.dst v2) hy fr2' h2' := by
        rintro (⟨k1, k2⟩ | ⟨k1, k2⟩)
        · exact fin k1 k2 (by rw [← put_comm dd]; exact hwf.eqv n0)
        · exact fin k1 k2 (by rw [← put_comm dd]; exact hwf.eqv n0)
      have cutS : ∀ {k : Nat}, h.length + k ≤ hx.length → h <+: hx → ∃ u2 hb, core T g n0 o2 fr h = some (u2, hb) ∧ OVE (cut h.length (hx.length - h.length)) hy.length v2 u2 ∧ Post (cut h.length (hx.length - h.length)) hx hy h hb := by
        intro k hk hp
        exact core_emb (hg _) hT (n0 := n0) (n02 := n0) (fun o o2 h3 h4 => by unfold cut at h3; omega) q2 (hw.fe.into (fun o ho => .inl ⟨ho, rfl⟩) hp.length_le) (hw.me.cut hp) c2
      have insS : ∀ {hb : H}, h <+: hb → ∃ u1 hs, core T g n0 o1 fr hb = some (u1, hs) ∧ OVE (ins h.length (hb.length - h.length)) hx.length v1 u1 ∧ Post (ins h.length (hb.length - h.length)) h hx hb hs := by
        intro hb hp
        exact core_emb (hg _) hT (n0 := n0) (n02 := n0) (fun o o2 h3 h4 => by unfold ins at h3; omega) q1 (hw.fe.into (fun o ho => .inl ⟨ho, rfl⟩) (Nat.le_refl _)) (hw.me.ins hp) c1
      simp only [Bool.or_eq_true, Bool.and_eq_true] at hcls
      rcases hcls with ((h0 | h0) | ⟨h0, h0'⟩) | ⟨h0, h0'⟩
      · -- the first makes one object
        rcases core_new h0 q1 c1 with k | ⟨mk, r, k1, k2, k3⟩
        · have := k h
          rw [c1] at this; cases this
          exact same (.inr ⟨c2, k _⟩)
        · have := k1 h
          rw [c1] at this; cases this
          have hp : h <+: h ++ [Ob.row r] := List.prefix_append _ _
          have hl : (h ++ [Ob.row r]).length - h.length = 1 := by simp
          obtain ⟨u2, hb, m1, m2, m3⟩ := cutS (k := 0) (by simp) hp
          rw [hl] at m2 m3
          obtain ⟨m, l1, l2⟩ := m3.more
          simp only [List.length_append, List.length_cons, List.length_nil] at l1
          refine fin m1 (k1 hb) (flip_eqv (p := 1) (q := m) hn hw.fe (by omega) (by simp; omega) (fun o ho => ?_) (fun o ho1 ho2 => ?_) (fun o ho1 ho2 => ?_) dd ?_ (m2.mono ?_))
          · rw [List.getElem?_append_left (by omega)]
            exact (m3.me.get o o (.inl ⟨ho, rfl⟩)).mono fun x y h5 h6 => ⟨by unfold cut at h6; unfold flip; omega, h5⟩
          · obtain rfl : o = h.length := by omega
            rw [m3.keep _ (by simp) (fun o2 ho => by unfold cut at ho; omega), show h.length + m = hb.length by omega]
            simp only [List.length_append, List.length_cons, List.length_nil, List.getElem?_append_right (Nat.le_refl _), Nat.sub_self, List.getElem?_cons_zero]
            exact ⟨rfl, rfl, rfl, (k3 _ hw.fe).mono fun x y h5 h6 => ⟨.inl ⟨h5, h6.symm⟩, by omega⟩⟩
          · rw [List.getElem?_append_left (by omega)]
            exact (m3.me.get (o + 1) o (.inr ⟨by omega, rfl⟩)).mono fun x y h5 h6 => ⟨by unfold cut at h6; unfold flip; omega, h5⟩
          · exact k2 _ _ _ _ (by unfold flip; omega) (by omega)
          · exact fun x y h5 h6 => ⟨by unfold cut at h6; unfold flip; omega, h5⟩
      · -- the second does
        rcases core_new h0 q2 c2 with k | ⟨mk, r, k1, k2, k3⟩
        · have := k hx
          rw [c2] at this; cases this
          exact same (.inl ⟨k _, c1⟩)
        · have := k1 hx
          rw [c2] at this; cases this
          have hp : h <+: h ++ [Ob.row r] := List.prefix_append _ _
          have hl : (h ++ [Ob.row r]).length - h.length = 1 := by simp
          obtain ⟨u1, hs, m1, m2, m3⟩ := insS hp
          rw [hl] at m2 m3
          obtain ⟨m, l1, l2⟩ := m3.more
          simp only [List.length_append, List.length_cons, List.length_nil] at l2
          refine fin (k1 h) m1 (flip_eqv (p := m) (q := 1) hn hw.fe (by simp; omega) (by omega) (fun o ho => ?_) (fun o ho1 ho2 => ?_) (fun o ho1 ho2 => ?_) dd (m2.mono ?_) ?_)
          · rw [List.getElem?_append_left (by omega)]
            exact (m3.me.get o o (.inl ⟨ho, rfl⟩)).mono fun x y h5 h6 => ⟨by unfold ins at h6; unfold flip; omega, by simp; omega⟩
          · rw [List.getElem?_append_left (by omega)]
            exact (m3.me.get o (o + 1) (.inr ⟨by omega, rfl⟩)).mono fun x y h5 h6 => ⟨by unfold ins at h6; unfold flip; omega, by simp; omega⟩
          · obtain rfl : o = h.length := by omega
            rw [m3.keep2 _ (by simp) (fun o2 ho => by unfold ins at ho; omega), show h.length + m = hx.length by omega]
            simp only [List.getElem?_append_right (Nat.le_refl _), Nat.sub_self, List.getElem?_cons_zero]
            exact ⟨rfl, rfl, rfl, (k3 _ hw.fe).mono fun x y h5 h6 => ⟨.inl ⟨h5, h6.symm⟩, by simp; omega⟩⟩
          · exact fun x y h5 h6 => ⟨by unfold ins at h6; unfold flip; omega, by simp; omega⟩
          · exact k2 _ _ _ _ (by unfold flip; omega) (by simp)
      · -- both only add
        have p1 := core_adds h0 c1
        have p2 := core_adds h0' c2
        simp only at p1 p2
        obtain ⟨u2, hb, m1, m2, m3⟩ := cutS (k := 0) (by simpa using p1.length_le) p1
        have p3 := m3.pre (hw.me.cut p1) p2
        obtain ⟨u1, hs, n1, n2, n3⟩ := insS p3
        have p4 := n3.pre (hw.me.ins p3) p1
        have L1 := p1.length_le
        have L2 := p2.length_le
        have L3 := p3.length_le
        obtain ⟨a, a1, a2⟩ := m3.more
        obtain ⟨b, b1, b2⟩ := n3.more
        refine fin m1 n1 (flip_eqv (p := b) (q := a) hn hw.fe (by omega) (by omega) (fun o ho => ?_) (fun o ho1 ho2 => ?_) (fun o ho1 ho2 => ?_) dd (n2.mono ?_) (m2.mono ?_))
        · rw [pre_get p2 (by omega), pre_get p1 ho, pre_get p4 (by omega), pre_get p3 ho]
          exact (hw.me.get o o rfl).mono fun x y h5 h6 => ⟨.inl ⟨h5, h6.symm⟩, by omega⟩
        · rw [pre_get p2 (by omega)]
          exact (n3.me.get o (o + a) (.inr ⟨by omega, by omega⟩)).mono fun x y h5 h6 => ⟨by unfold ins at h6; unfold flip; omega, by omega⟩
        · rw [pre_get p4 (by omega)]
          exact (m3.me.get (o + b) o (.inr ⟨by omega, by omega⟩)).mono fun x y h5 h6 => ⟨by unfold cut at h6; unfold flip; omega, by omega⟩
        · exact fun x y h5 h6 => ⟨by unfold ins at h6; unfold flip; omega, by omega⟩
        · exact fun x y h5 h6 => ⟨by unfold cut at h6; unfold flip; omega, by omega⟩
      · -- an append, and a look at what is still there
        have h1 : o2.op.cls = 1 := by simpa using h0'
        have e := (core_read h1 c2).1
        simp only at e
        subst e
        exact same (.inl ⟨core_sub h1 hw.fe (core_app h0 c1) c2, c1⟩)
end
end Go.Am
namespace Go.Am
set_option linter.unusedVariables false
set_option linter.unusedSimpArgs false

section
variable {T : Tab} {g : List ARes → List It → Fr → H → Res} {n0 : Nat}

theorem runOps_append : ∀ {l1 l2 : List AOper} {fr : Fr} {h : H} {r}, runOps T g n0 (l1 ++ l2) fr h = some r ↔ ∃ fr1 h1, runOps T g n0 l1 fr h = some (fr1, h1) ∧ runOps T g n0 l2 fr1 h1 = some r
  | [], l2, fr, h, r => by
    constructor
    · intro hr; exact ⟨fr, h, rfl, hr⟩
    · rintro ⟨fr1, h1, he, hr⟩; cases he; exact hr
  | o :: l1, l2, fr, h, r => by
    simp only [List.cons_append, runOps]
    cases stepO T g n0 o fr h with
    | none => simp
    | some p => obtain ⟨fr1, h1⟩ := p; simp only; exact runOps_append

/-- may the first of two that stand so be put behind the second? -/
def swapAny (a b : AOper) : Bool := swapOK a b || swapOK2 a b
theorem swapA (hg : ∀ rs ks fr h v h', g rs ks fr h = some (v, h') → h.length ≤ h'.length) (hE : ∀ ρ, EmbG ρ g) (hT : GoodT T) {o1 o2 : AOper} (hs : swapAny o1 o2 = true) (q1 : o1.op.good = true) (q2 : o2.op.good = true) {fr fr1 fr2 : Fr} {h h1 h2 : H} (hn : n0 ≤ h.length) (hw : WFs fr h)
    (s1 : stepO T g n0 o1 fr h = some (fr1, h1)) (s2 : stepO T g n0 o2 fr1 h1 = some (fr2, h2)) :
    ∃ fr1' h1' fr2' h2', stepO T g n0 o2 fr h = some (fr1', h1') ∧ stepO T g n0 o1 fr1' h1' = some (fr2', h2') ∧ Eqv n0 fr2 h2 fr2' h2' := by
  simp only [swapAny, Bool.or_eq_true] at hs
  rcases hs with hs | hs
  · obtain ⟨fr1', h1', k1, k2⟩ := swap hs hn s1 s2
    have hwf : WFs fr2 h2 := WFs.run (n0 := n0) hE hT (l := [o1, o2]) (by simp [q1, q2]) hw (by simp only [runOps, s1, s2])
    exact ⟨fr1', h1', fr2, h2, k1, k2, hwf.eqv n0⟩
  · exact swap2 hE hT hs q1 q2 hn hw s1 s2

/-- an operation goes behind all those that it may go behind -/
theorem run_past (hg : ∀ rs ks fr h v h', g rs ks fr h = some (v, h') → h.length ≤ h'.length) (hE : ∀ ρ, EmbG ρ g) (hT : GoodT T) {o : AOper} (ho : o.op.good = true) : ∀ {l : List AOper} {fr fr' : Fr} {h h' : H}, (l.all fun o => o.op.good) = true → n0 ≤ h.length → WFs fr h → (∀ x ∈ l, swapAny o x = true) →
    runOps T g n0 (o :: l) fr h = some (fr', h') → ∃ fr2 h2, runOps T g n0 (l ++ [o]) fr h = some (fr2, h2) ∧ Eqv n0 fr' h' fr2 h2
  | [], fr, fr', h, h', _, hn, hw, _, hr => ⟨fr', h', hr, (WFs.run (n0 := n0) hE hT (l := [o]) (by simp [ho]) hw hr).eqv n0⟩
  | x :: l, fr, fr', h, h', hl, hn, hw, hs, hr => by
    simp only [List.all_cons, Bool.and_eq_true] at hl
    simp only [runOps] at hr
    cases h1 : stepO T g n0 o fr h with
    | none => rw [h1] at hr; cases hr
    | some p1 =>
      obtain ⟨f1, g1⟩ := p1
      rw [h1] at hr
      simp only at hr
      cases h2 : stepO T g n0 x f1 g1 with
      | none => rw [h2] at hr; cases hr
      | some p2 =>
        obtain ⟨f2, g2⟩ := p2
        rw [h2] at hr
        simp only at hr
        obtain ⟨f3, g3, f4, g4, k1, k2, k3⟩ := swapA hg hE hT (hs x (by simp)) ho hl.1 hn hw h1 h2
        have l1 := stepO_len hg h1
        have l2 := stepO_len hg h2
        have l3 := stepO_len hg k1
        have l4 := stepO_len hg k2
        obtain ⟨f5, g5, k4, k5⟩ := k3.run hE hT hl.2 (by omega) hr
        have hw3 : WFs f3 g3 := WFs.run (n0 := n0) hE hT (l := [x]) (by simp [hl.1]) hw (by simp only [runOps, k1])
        obtain ⟨f6, g6, k6, k7⟩ := run_past hg hE hT ho (l := l) (fr := f3) (h := g3) hl.2 (by omega) hw3 (fun y hy => hs y (by simp [hy])) (by simp only [runOps, k2]; exact k4)
        exact ⟨f6, g6, by simp only [List.cons_append, runOps, k1]; exact k6, k5.trans k7⟩

/-- any order in which whatever may not be put behind stays ahead -/
theorem run_perm (hg : ∀ rs ks fr h v h', g rs ks fr h = some (v, h') → h.length ≤ h'.length) (hE : ∀ ρ, EmbG ρ g) (hT : GoodT T) (A : Nat → AOper) (hA : ∀ i, (A i).op.good = true) : ∀ (S L : List Nat) {fr fr' : Fr} {h h' : H}, n0 ≤ h.length → WFs fr h → S.Pairwise (· < ·) → L.Perm S →
    (∀ L1 x L2, L = L1 ++ x :: L2 → ∀ i ∈ S, i < x → swapAny (A i) (A x) = false → i ∈ L1) →
    runOps T g n0 (S.map A) fr h = some (fr', h') → ∃ fr2 h2, runOps T g n0 (L.map A) fr h = some (fr2, h2) ∧ Eqv n0 fr' h' fr2 h2
  | [], L, fr, fr', h, h', hn, hw, _, hp, _, hr => by
    obtain rfl := List.perm_nil.1 hp
    cases hr
    exact ⟨fr, h, rfl, hw.eqv n0⟩
  | i :: S, L, fr, fr', h, h', hn, hw, hsrt, hp, hord, hr => by
    have hall : ∀ M : List Nat, ((M.map A).all fun o => o.op.good) = true := fun M => by rw [List.all_eq_true]; intro x hx; obtain ⟨y, _, rfl⟩ := List.mem_map.1 hx; exact hA y
    have hnd : L.Nodup := (hp.nodup_iff).2 (hsrt.imp fun h => Nat.ne_of_lt h)
    have hi : i ∈ L := hp.mem_iff.2 (by simp)
    obtain ⟨L1, L2, rfl⟩ := List.append_of_mem hi
    have hp' : (L1 ++ L2).Perm S := (List.Perm.cons_inv ((List.perm_middle.symm).trans hp))
    have hsrt' : S.Pairwise (· < ·) := hsrt.of_cons
    have hmin : ∀ x ∈ S, i < x := fun x hx => List.rel_of_pairwise_cons hsrt hx
    simp only [List.map_cons, runOps] at hr
    cases h1 : stepO T g n0 (A i) fr h with
    | none => rw [h1] at hr; cases hr
    | some p1 =>
      obtain ⟨f1, g1⟩ := p1
      rw [h1] at hr
      simp only at hr
      have hn1 : n0 ≤ g1.length := Nat.le_trans hn (stepO_len hg h1)
      have hw1 : WFs f1 g1 := WFs.run (n0 := n0) hE hT (l := [A i]) (by simp [hA]) hw (by simp only [runOps, h1])
      obtain ⟨f2, g2, e2, ih⟩ := run_perm hg hE hT A hA S (L1 ++ L2) (fr := f1) (h := g1) hn1 hw1 hsrt' hp' (fun M1 x M2 he k hk hkx hsw => by
        have hki : k ≠ i := fun e => by have := hmin k hk; omega
        rcases List.append_eq_append_iff.1 he with ⟨a', e1, e2⟩ | ⟨c', e1, e2⟩
        · -- x lies in L2
          have := hord (L1 ++ i :: a') x M2 (by rw [e2]; simp) k (by simp [hk]) hkx hsw
          rw [e1]
          simp only [List.mem_append, List.mem_cons] at this ⊢
          rcases this with h | h | h
          · exact .inl h
          · exact absurd h hki
          · exact .inr h
        · cases c' with
          | nil =>
            simp only [List.nil_append] at e2
            have := hord (L1 ++ [i]) x M2 (by rw [← e2]; simp) k (by simp [hk]) hkx hsw
            simp only [List.append_nil] at e1
            rw [← e1]
            simp only [List.mem_append, List.mem_singleton] at this
            rcases this with h | h
            · exact h
            · exact absurd h hki
          | cons y c' =>
            simp only [List.cons_append, List.cons.injEq] at e2
            obtain ⟨rfl, e2⟩ := e2
            exact hord M1 x (c' ++ i :: L2) (by rw [e1]; simp) k (by simp [hk]) hkx hsw) hr
      rw [List.map_append, runOps_append] at e2
      obtain ⟨fr2, h2, k1, k2⟩ := e2
      obtain ⟨f3, g3, k3, k4⟩ : ∃ f3 g3, runOps T g n0 (L1.map A ++ [A i]) fr h = some (f3, g3) ∧ Eqv n0 fr2 h2 f3 g3 := by
        refine run_past hg hE hT (hA i) (hall L1) hn hw (fun x hx => ?_) (by simp only [runOps, h1]; exact k1)
        obtain ⟨y, hy, rfl⟩ := List.mem_map.1 hx
        cases hsw : swapAny (A i) (A y) with
        | true => rfl
        | false =>
          obtain ⟨M1, M2, e⟩ := List.append_of_mem hy
          have hyS : y ∈ S := hp'.mem_iff.1 (by simp [hy])
          have := hord M1 y (M2 ++ i :: L2) (by rw [e]; simp) i (by simp) (hmin y hyS) hsw
          have hiL1 : i ∈ L1 := by rw [e]; simp [this]
          exact absurd rfl ((List.nodup_append.1 hnd).2.2 i hiL1 i (by simp))
      obtain ⟨f4, g4, k5, k6⟩ := k4.run hE hT (hall L2) (Nat.le_trans hn1 (runOps_len hg k1)) k2
      refine ⟨f4, g4, ?_, ih.trans k6⟩
      rw [show (L1 ++ i :: L2).map A = (L1.map A ++ [A i]) ++ L2.map A by simp, runOps_append]
      exact ⟨f3, g3, k3, k5⟩
end

/-! ### the model's orders -/
/-- i must stand ahead of j -/
inductive Dep (ops : Array Oper) : Nat → Nat → Prop
  | edge {i j : Nat} {o : Oper} {e : Edge} : ops[j]? = some o → e ∈ o.after → Region.binds .any e = true → e.on = i → Dep ops i j
  | trans {i k j : Nat} : Dep ops i k → Dep ops k j → Dep ops i j

/-- a number worked out ahead of its use -/
def force {α : Sort _} : Nat → (Nat → α) → α
  | 0, k => k 0
  | n + 1, k => k (n + 1)
theorem force_eq {α : Sort _} (n : Nat) (k : Nat → α) : force n k = k n := by cases n <;> rfl
/-- the operations that must stand ahead of each, as bits: W for each operation -/
def maskE (W acc : Nat) : List Edge → Nat
  | [] => 0
  | e :: l => if Region.binds .any e && decide (e.on < W) then (2 ^ e.on ||| ((acc >>> (W * e.on)) % 2 ^ W)) ||| maskE W acc l else maskE W acc l
def befN (W : Nat) : List Oper → Nat → Nat → Nat
  | [], _, acc => acc
  | o :: r, j, acc => force (acc ||| (maskE W acc o.after.toList <<< (W * j))) fun a => befN W r (j + 1) a
theorem maskE_spec {W acc k : Nat} : ∀ {l : List Edge}, (maskE W acc l).testBit k = true → k < W ∧ ∃ e ∈ l, Region.binds .any e = true ∧ (k = e.on ∨ acc.testBit (W * e.on + k) = true)
  | [], h => by simp [maskE] at h
  | e :: l, h => by
    simp only [maskE] at h
    split at h
    · rename_i hb
      simp only [Bool.and_eq_true, decide_eq_true_eq] at hb
      simp only [Nat.testBit_or, Nat.testBit_two_pow, Nat.testBit_mod_two_pow, Nat.testBit_shiftRight, Bool.or_eq_true, Bool.and_eq_true, decide_eq_true_eq] at h
      rcases h with (h | h) | h
      · exact ⟨by omega, e, by simp, hb.1, .inl h.symm⟩
      · exact ⟨h.1, e, by simp, hb.1, .inr h.2⟩
      · obtain ⟨h1, e', h2, h3⟩ := maskE_spec h
        exact ⟨h1, e', by simp [h2], h3⟩
    · obtain ⟨h1, e', h2, h3⟩ := maskE_spec h
      exact ⟨h1, e', by simp [h2], h3⟩
theorem befN_spec (ops : Array Oper) (W : Nat) : ∀ (r : List Oper) (j acc : Nat), (∀ k, r[k]? = ops[j + k]?) → (∀ j' i, i < W → acc.testBit (W * j' + i) = true → Dep ops i j') →
    ∀ j' i, i < W → (befN W r j acc).testBit (W * j' + i) = true → Dep ops i j'
  | [], j, acc, _, hacc => hacc
  | o :: r, j, acc, hr, hacc => by
    simp only [befN, force_eq]
    refine befN_spec ops W r (j + 1) _ (fun k => ?_) ?_
    · have := hr (k + 1)
      rw [show j + 1 + k = j + (k + 1) by omega, ← this]
      rfl
    · intro j' i hi h
      simp only [Nat.testBit_or, Nat.testBit_shiftLeft, Bool.or_eq_true, Bool.and_eq_true, decide_eq_true_eq] at h
      rcases h with h | ⟨h1, h2⟩
      · exact hacc j' i hi h
      · obtain ⟨h3, e, he, hb, h4⟩ := maskE_spec h2
        have ho : ops[j]? = some o := by have := hr 0; simpa using this.symm
        have q1 : W * j < W * (j' + 1) := by rw [Nat.mul_succ]; omega
        have q2 : W * j' < W * (j + 1) := by rw [Nat.mul_succ]; omega
        have r1 := Nat.lt_of_mul_lt_mul_left q1
        have r2 := Nat.lt_of_mul_lt_mul_left q2
        obtain rfl : j' = j := by omega
        have hk : W * j' + i - W * j' = i := by omega
        rw [hk] at h4
        rcases h4 with h4 | h4
        · exact .edge ho (by simpa using he) hb h4.symm
        · exact .trans (hacc _ _ hi h4) (.edge ho (by simpa using he) hb rfl)

/-- each edge leads to what stands ahead -/
def edgesDown (ops : Array Oper) : Bool := ops.toList.zipIdx.all fun (o, j) => o.after.toList.all fun e => !Region.binds .any e || decide (e.on < j)
theorem edgesDown_spec {ops : Array Oper} (h : edgesDown ops = true) {j : Nat} {o : Oper} (ho : ops[j]? = some o) {e : Edge} (he : e ∈ o.after) (hb : Region.binds .any e = true) : e.on < j := by
  unfold edgesDown at h
  rw [List.all_eq_true] at h
  have hm : (o, j) ∈ ops.toList.zipIdx := by
    rw [List.mem_zipIdx_iff_getElem?]; simpa using ho
  have := h (o, j) hm
  simp only [List.all_eq_true] at this
  have := this e (by simpa using he)
  simpa [hb] using this

/-- what a list of orders keeps -/
structure Topo (ops : Array Oper) (L : List Nat) : Prop where
  perm : L.Perm (List.range ops.size)
  ahead : ∀ L1 j L2, L = L1 ++ j :: L2 → ∀ o, ops[j]? = some o → ∀ e ∈ o.after, Region.binds .any e = true → e.on ∈ L1

theorem Topo.dep {ops : Array Oper} {L : List Nat} (h : Topo ops L) {i j : Nat} (hd : Dep ops i j) : ∀ L1 L2, L = L1 ++ j :: L2 → i ∈ L1 := by
  induction hd with
  | edge ho he hb hi => intro L1 L2 hl; rw [← hi]; exact h.ahead L1 _ L2 hl _ ho _ he hb
  | @trans i k j hik hkj ih1 ih2 =>
    intro L1 L2 hl
    have hk := ih2 L1 L2 hl
    obtain ⟨A, C, rfl⟩ := List.append_of_mem hk
    have := ih1 A (C ++ j :: L2) (by rw [hl]; simp)
    simp [this]

theorem linearise_go_spec (ops : Array Oper) (hdn : edgesDown ops = true) : ∀ (fuel t : Nat) (listed : Array Bool) (D : List Nat), listed.size = ops.size → (∀ i, i < ops.size → (listed.getD i true = true ↔ i ∈ D)) → D.Nodup → (∀ i ∈ D, i < ops.size) →
    D.length + fuel = ops.size →
    ∃ L, Region.linearise.go .any ops fuel t listed [] = L ∧ (D ++ L).Perm (List.range ops.size) ∧
      ∀ L1 j L2, L = L1 ++ j :: L2 → ∀ o, ops[j]? = some o → ∀ e ∈ o.after, Region.binds .any e = true → e.on ∈ D ∨ e.on ∈ L1
  | 0, t, listed, D, hs, hl, hnd, hlt, hlen => by
    refine ⟨[], rfl, ?_, fun L1 j L2 h => by simp at h⟩
    rw [List.append_nil, List.perm_ext_iff_of_nodup hnd List.nodup_range]
    intro i
    constructor
    · intro hi; exact List.mem_range.2 (hlt i hi)
    · intro hi
      by_cases hD : i ∈ D
      · exact hD
      · have hc : (i :: D).Nodup := List.nodup_cons.2 ⟨hD, hnd⟩
        have := hc.length_le_of_subset (l₂ := List.range ops.size) (fun x hx => by
          rcases List.mem_cons.1 hx with rfl | hx
          · exact hi
          · exact List.mem_range.2 (hlt x hx))
        simp at this
        omega
  | fuel + 1, t, listed, D, hs, hl, hnd, hlt, hlen => by
    have hfalse : ∀ i, i < ops.size → (listed.getD i false = true ↔ i ∈ D) := by
      intro i hi
      rw [← hl i hi]
      have : i < listed.size := by omega
      simp [Array.getD_eq_getD_getElem?, this]
    have hne : Region.ready .any ops listed ≠ [] := by
      intro hnil
      have hall : ∀ k i, i < k → i < ops.size → i ∈ D := by
        intro k
        induction k with
        | zero => intro i hi; omega
        | succ k ih =>
          intro i hik hi
          cases hli : listed.getD i true with
          | true => exact (hl i hi).1 hli
          | false =>
            exfalso
            have : i ∈ Region.ready .any ops listed := by
              rw [mem_ready]
              refine ⟨hli, ops[i], Array.getElem?_eq_getElem hi, fun e he hb => ?_⟩
              have hdn' := edgesDown_spec hdn (Array.getElem?_eq_getElem hi) he hb
              exact (hfalse _ (by omega)).2 (ih _ (by omega) (by omega))
            rw [hnil] at this
            cases this
      have hsub : List.range ops.size ⊆ D := fun i hi => hall ops.size i (List.mem_range.1 hi) (List.mem_range.1 hi)
      have := (List.nodup_range (n := ops.size)).length_le_of_subset hsub
      simp at this
      omega
    have hlen0 : 0 < (Region.ready .any ops listed).length := List.length_pos_iff.2 hne
    have hmod : t % (Region.ready .any ops listed).length < (Region.ready .any ops listed).length := Nat.mod_lt _ hlen0
    have hget : (Region.ready .any ops listed)[t % (Region.ready .any ops listed).length]? = some ((Region.ready .any ops listed)[t % (Region.ready .any ops listed).length]) := List.getElem?_eq_getElem hmod
    generalize hi : (Region.ready .any ops listed)[t % (Region.ready .any ops listed).length] = i at hget
    have him : i ∈ Region.ready .any ops listed := by rw [← hi]; exact List.getElem_mem _
    obtain ⟨h1, o, ho, hedges⟩ := mem_ready.1 him
    have hin : i < ops.size := (Array.getElem?_eq_some_iff.1 ho).1
    have hiD : i ∉ D := fun h => by rw [(hl i hin).2 h] at h1; cases h1
    obtain ⟨L, hL, hp, ha⟩ := linearise_go_spec ops hdn fuel (t / (Region.ready .any ops listed).length) (listed.setIfInBounds i true) (D ++ [i]) (by simpa using hs) (fun j hj => by
      by_cases hij : i = j
      · subst hij
        have : i < listed.size := by omega
        simp [Array.getD_eq_getD_getElem?, this]
      · rw [getD_set_ne true hij, hl j hj]
        simp [Ne.symm hij]) (by
      rw [List.nodup_append]
      exact ⟨hnd, by simp, fun a ha b hb => by simp at hb; subst hb; exact fun e => hiD (e ▸ ha)⟩) (fun j hj => by
      simp only [List.mem_append, List.mem_singleton] at hj
      rcases hj with hj | rfl
      · exact hlt j hj
      · exact hin) (by simp; omega)
    refine ⟨i :: L, ?_, by simpa using hp, fun L1 j L2 he o' ho' e hem hb => ?_⟩
    · simp only [Region.linearise.go]
      change (match (Region.ready .any ops listed)[t % (Region.ready .any ops listed).length]? with
        | some i => Region.linearise.go .any ops fuel (t / (Region.ready .any ops listed).length) (listed.setIfInBounds i true) [i]
        | none => [].reverse) = i :: L
      rw [hget]
      simp only
      rw [linearise_go_acc, hL]
      rfl
    · cases L1 with
      | nil =>
        simp only [List.nil_append, List.cons.injEq] at he
        obtain ⟨rfl, _⟩ := he
        rw [ho] at ho'
        cases ho'
        have := hedges e hem hb
        have hlt' : e.on < ops.size := by have := edgesDown_spec hdn ho hem hb; omega
        exact .inl ((hfalse _ hlt').1 this)
      | cons x L1 =>
        simp only [List.cons_append, List.cons.injEq] at he
        obtain ⟨rfl, he⟩ := he
        rcases ha L1 j L2 he o' ho' e hem hb with h | h
        · simp only [List.mem_append, List.mem_singleton] at h
          rcases h with h | h
          · exact .inl h
          · exact .inr (by simp [h])
        · exact .inr (by simp [h])

theorem schedule_topo {ops : Array Oper} (hdn : edgesDown ops = true) (t : Nat) : Topo ops (Region.schedule true ops t) := by
  obtain ⟨L, hL, hp, ha⟩ := linearise_go_spec ops hdn ops.size t (Array.replicate ops.size false) [] (by simp) (fun i hi => by simp [hi]) (by simp) (by simp) (by simp)
  have e : Region.schedule true ops t = L := by
    simp only [Region.schedule, Bool.true_or, if_true]
    exact hL
  rw [e]
  refine ⟨by simpa using hp, fun L1 j L2 he o ho e hem hb => ?_⟩
  rcases ha L1 j L2 he o ho e hem hb with h | h
  · cases h
  · exact h

/-- whatever hangs on nothing of one another may be put behind one another -/
def commutes (ops : List Oper) (l : List AOper) : Bool :=
  force (befN ops.length ops 0 0) fun b =>
  l.zipIdx.all fun (x, j) => (l.take j).zipIdx.all fun (y, i) => (decide (i < ops.length) && b.testBit (ops.length * j + i)) || swapAny y x

theorem commutes_spec {ops : Array Oper} {l : List AOper} (h : commutes ops.toList l = true) {i j : Nat} (hij : i < j) {x y : AOper} (hx : l[j]? = some x) (hy : l[i]? = some y) : Dep ops i j ∨ swapAny y x = true := by
  unfold commutes at h
  rw [force_eq, List.all_eq_true] at h
  have h1 := h (x, j) (List.mem_zipIdx_iff_getElem?.2 hx)
  simp only [List.all_eq_true] at h1
  have h2 := h1 (y, i) (List.mem_zipIdx_iff_getElem?.2 (by simp only; rw [List.getElem?_take, if_pos hij]; exact hy))
  simp only [Bool.or_eq_true, Bool.and_eq_true, decide_eq_true_eq] at h2
  rcases h2 with h2 | h2
  · exact .inl (befN_spec ops _ ops.toList 0 0 (fun k => by simp) (fun j' i hi h => by simp at h) j i h2.1 h2.2)
  · exact .inr h2

/-- whatever order is drawn -/
theorem run_schedule {T : Tab} {g : List ARes → List It → Fr → H → Res} (hg : ∀ rs ks fr h v h', g rs ks fr h = some (v, h') → h.length ≤ h'.length) (hE : ∀ ρ, EmbG ρ g) (hT : GoodT T) {ops : Array Oper} {l : List AOper} (hlen : l.length = ops.size) (hgood : (l.all fun o => o.op.good) = true)
    (hdn : edgesDown ops = true) (hc : commutes ops.toList l = true) (t : Nat) {fr fr' : Fr} {h h' : H} (hw : WFs fr h) (hr : runOps T g h.length l fr h = some (fr', h')) (d : AOper) (hd : d.op.good = true) :
    ∃ fr2 h2, runOps T g h.length ((Region.schedule true ops t).map fun i => l.getD i d) fr h = some (fr2, h2) ∧ Eqv h.length fr' h' fr2 h2 := by
  have ht := schedule_topo hdn t
  have hid : (List.range ops.size).map (fun i => l.getD i d) = l := by
    apply List.ext_getElem?
    intro i
    by_cases hi : i < ops.size
    · simp [hi, hlen, List.getD_eq_getElem?_getD]
    · rw [List.getElem?_eq_none (by simp; omega), List.getElem?_eq_none (by omega)]
  refine run_perm hg hE hT (fun i => l.getD i d) (fun i => ?_) (List.range ops.size) _ (Nat.le_refl _) hw List.pairwise_lt_range ht.perm (fun L1 x L2 he i hi hix hsw => ?_) (by rw [hid]; exact hr)
  · simp only [List.getD_eq_getElem?_getD]
    cases hi : l[i]? with
    | none => exact hd
    | some o => exact (List.all_eq_true.1 hgood) o (List.mem_of_getElem? hi)
  have hx : x < ops.size := List.mem_range.1 (ht.perm.mem_iff.1 (by rw [he]; simp))
  have hi' := List.mem_range.1 hi
  rcases commutes_spec hc hix (x := l.getD x d) (y := l.getD i d) (by simp [List.getD_eq_getElem?_getD, hlen, hx]) (by simp [List.getD_eq_getElem?_getD, hlen, hi']) with hd | hd
  · exact ht.dep hd L1 L2 he
  · rw [hd] at hsw; cases hsw
end Go.Am
namespace Go.Am
set_option linter.unusedVariables false
set_option linter.unusedSimpArgs false
open Go.RowKit (Below)

/-! ### code turned -/
structure CO (P : Program) (nt : Nat) (ops : Array Oper) (o : Oper) (ao : AOper) : Prop where
  dst : ao.dst = o.dst
  lt : ∀ d, o.dst = some d → d < nt
  op : comp1 P o = some ao.op
  gd : (o.guard = none ∧ ao.guard = none) ∨ ∃ j b s, o.guard = some (j, b) ∧ (ops[j]?).bind (·.dst) = some s ∧ ao.guard = some (s, b)
structure RegOK (P : Program) (nt : Nat) (ops : Array Oper) (draw : Bool) (l : List AOper) : Prop where
  len : l.length = ops.size
  op : ∀ (i : Nat) o, ops[i]? = some o → ∃ ao, l[i]? = some ao ∧ CO P nt ops o ao
  dr : draw = true → edgesDown ops = true ∧ commutes ops.toList l = true
inductive CR (P : Program) (nt : Nat) : Code → ACode → Prop
  | skip : CR P nt .skip .skip
  | region (id : Nat) (ops : Array Oper) (draw : Bool) (l : List AOper) : RegOK P nt ops draw l → CR P nt (.region id ops draw) (.region l)
  | seq {a b : Code} {a' b' : ACode} : CR P nt a a' → CR P nt b b' → CR P nt (.seq a b) (.seq a' b')
  | cond {c : Operand} {a b : Code} {a' b' : ACode} : CR P nt a a' → CR P nt b b' → CR P nt (.cond c a b) (.cond c a' b')
  | block {id : Nat} {ko : List Nat} {a : Code} {a' : ACode} : CR P nt a a' → CR P nt (.block id a) (.block id ko a')
  | loop {kh : List Nat} {a : Code} {a' : ACode} : CR P nt a a' → CR P nt (.loop a) (.loop kh a')
  | exit {id : Nat} : CR P nt (.exit id) (.exit id)
  | ret : CR P nt .ret .ret
  | stuck {c : Code} : CR P nt c .stuck
inductive IR (P : Program) (nt : Nat) : List It → List Item → Prop
  | nil : IR P nt [] []
  | code {c : Code} {c' : ACode} {ks k} : CR P nt c c' → IR P nt ks k → IR P nt (.code c' :: ks) (.code c :: k)
  | blk {id : Nat} {ko : List Nat} {ks k} : IR P nt ks k → IR P nt (.blk id ko :: ks) (.inBlock id :: k)
  | lp {kh : List Nat} {c : Code} {c' : ACode} {ks k} : CR P nt c c' → IR P nt ks k → IR P nt (.lp kh c' :: ks) (.inLoop c :: k)
def RR (P : Program) : List ResultVar → List ARes → Prop
  | [], [] => True
  | .tmp t :: r, .tmp t' :: r' => t = t' ∧ RR P r r'
  | .cell a t :: r, .cell a' agg n :: r' => a = a' ∧ (∃ d i, P.underlying t = some d ∧ P.info? t = some i ∧ agg = isAggD d ∧ n = i.size) ∧ RR P r r'
  | _, _ => False
structure FunOK (P : Program) (f : FuncId) (F : AFun) : Prop where
  ok : ∃ fn body, P.funcs[f]? = some fn ∧ fn.body = some body ∧ CR P F.ntmps body F.code ∧ fn.ntmps = F.ntmps ∧ RR P fn.results.toList F.results ∧ (fn.name == "runtime.NumGoroutine") = false

theorem comp1_good {P : Program} {o : Oper} {op : AOp} (h : comp1 P o = some op) : op.good = true := by
  have arr : ∀ {cs : Array Value}, cs.all closed1 = true → cs.toList.all closed1 = true := fun h => by simpa using h
  unfold comp1 at h
  split at h <;> first
    | (cases h; done)
    | (cases h; rfl)
    | ((repeat' split at h) <;> first
        | (cases h; done)
        | (cases h; rfl)
        | (rename_i hz; cases h; exact arr hz)
        | (rename_i hz; cases h; simp only [Bool.and_eq_true] at hz; exact arr hz.1.1))
theorem RegOK.good {P : Program} {nt : Nat} {ops : Array Oper} {draw : Bool} {l : List AOper} (h : RegOK P nt ops draw l) : (l.all fun o => o.op.good) = true := by
  rw [List.all_eq_true]
  intro x hx
  obtain ⟨i, hi, rfl⟩ := List.getElem_of_mem hx
  have hi' : i < ops.size := by rw [← h.len]; exact hi
  obtain ⟨ao, e1, e2⟩ := h.op i ops[i] (Array.getElem?_eq_getElem hi')
  rw [List.getElem?_eq_getElem hi] at e1
  cases e1
  exact comp1_good e2.op
theorem CR.good {P : Program} {nt : Nat} {c : Code} {c' : ACode} (h : CR P nt c c') : goodC c' = true := by
  induction h with
  | region _ _ _ _ h => exact h.good
  | seq _ _ h1 h2 => simp [goodC, h1, h2]
  | cond _ _ h1 h2 => simp [goodC, h1, h2]
  | block _ h => exact h
  | loop _ h => exact h
  | _ => rfl
theorem popTo_sound {P : Program} {nt : Nat} {id : Nat} {ko : List Nat} {ks' : List It} : ∀ {ks : List It} {k : List Item}, IR P nt ks k → popTo id ks = some (ko, ks') → ∃ k', exitTo id k = some k' ∧ IR P nt ks' k'
  | _, _, .nil, h => by cases h
  | _, _, .code _ hk, h => by simp only [popTo] at h; simp only [exitTo]; exact popTo_sound hk h
  | _, _, .lp _ hk, h => by simp only [popTo] at h; simp only [exitTo]; exact popTo_sound hk h
  | _, _, .blk (id := id') hk, h => by
    simp only [popTo] at h
    simp only [exitTo]
    split at h
    · rename_i he
      cases h
      exact ⟨_, by rw [if_pos (by simpa using he)], hk⟩
    · rename_i he
      rw [if_neg (by simpa using he)]
      exact popTo_sound hk h

section
variable {P : Program} {B : Nat}

/-! ### results -/
def resRd (tmps : Array Value) : ResultVar → Sem Value
  | .tmp t => pure (tmps.getD t undef)
  | .cell a t => do loadVar t (← asAddr (tmps.getD a undef))
theorem results_rd (fn : Func) (tmps : Array Value) : results fn tmps = (do
    let vs ← fn.results.mapM (resRd tmps)
    pure (if h : vs.size = 1 then vs[0] else .tuple vs)) := by
  unfold results
  congr 1
theorem ress_sound {φ : Ren} {nt : Nat} {fr : Fr} {h : H} {tmps : Array Value} {w : World} (hF : FR φ h.length nt fr tmps) (hH : HR φ B h w) : ∀ {rs : List ResultVar} {ars : List ARes} {vs : List Value}, RR P rs ars → ress fr h ars = some vs →
    ∃ vs', (rs.mapM (resRd tmps)).run P w = .ok vs' w ∧ LR φ h.length vs vs'
  | [], [], vs, _, hs => by cases hs; exact ⟨[], by simp, LR.nil _ _⟩
  | [], _ :: _, _, hr, _ => by simp [RR] at hr
  | .tmp _ :: _, [], _, hr, _ => by simp [RR] at hr
  | .cell _ _ :: _, [], _, hr, _ => by simp [RR] at hr
  | .tmp t :: rs, .cell _ _ _ :: ars, vs, hr, _ => by simp [RR] at hr
  | .cell _ _ :: rs, .tmp t :: ars, vs, hr, _ => by simp [RR] at hr
  | .tmp t :: rs, .tmp t' :: ars, vs, hr, hs => by
    simp only [RR] at hr
    obtain ⟨rfl, hr⟩ := hr
    simp only [ress, res1] at hs
    split at hs
    · rename_i v vs2 h1 h2
      cases hs
      obtain ⟨v', e1, e2⟩ := hF.2 t v h1
      obtain ⟨vs', e3, e4⟩ := ress_sound hF hH hr h2
      refine ⟨v' :: vs', ?_, LR.cons e2 e4⟩
      simp [List.mapM_cons, resRd, e1, e3]
    · cases hs
  | .cell a t :: rs, .cell a' agg n :: ars, vs, hr, hs => by
    simp only [RR] at hr
    obtain ⟨rfl, ⟨d, i, hd, hi, rfl, rfl⟩, hr⟩ := hr
    simp only [ress, res1] at hs
    split at hs
    · rename_i v vs2 h1 h2
      cases hs
      obtain ⟨vs', e3, e4⟩ := ress_sound hF hH hr h2
      split at h1
      · rename_i p hp
        obtain ⟨v', e1, e2⟩ := hF.2 a _ hp
        obtain ⟨hsp, hlt, rfl⟩ := ptr_inv e2
        simp only [hsp, Option.isSome_none, Bool.false_eq_true, if_false] at h1
        have key : ∃ u, (loadVar t ⟨(φ p.block).blk, (φ p.block).sh + p.off, none⟩).run P w = .ok u w ∧ VR φ h.length v u := by
          split at h1
          · rename_i hag
            split at h1
            · rename_i cs hcs
              cases h1
              obtain ⟨hlen, hone, cs', k1, k2⟩ := hH.cells hcs
              have hl := run_loadCells_list (P := P) w ⟨(φ p.block).blk, (φ p.block).sh + p.off, none⟩ cs' k2
              rw [← k1.1, hlen] at hl
              exact ⟨_, by simp [loadVar, run_isAgg hd, hag, run_sizeOf hi, hl], k1.agg hone⟩
            · cases h1
          · rename_i hag
            unfold H.ld1 at h1
            split at h1
            · rename_i r hr2
              obtain ⟨u, k1, k2⟩ := hH.cell hr2 h1
              exact ⟨u, by simp [loadVar, run_isAgg hd, hag, k1], k2⟩
            · cases h1
        obtain ⟨u, k1, k2⟩ := key
        refine ⟨u :: vs', ?_, LR.cons k2 e4⟩
        simp [List.mapM_cons, resRd, e1, asAddr, k1, e3]
      · cases h1
    · cases hs

theorem retv_sound {φ : Ren} {nt : Nat} {fr : Fr} {h h' : H} {tmps : Array Value} {w : World} {fn : Func} {ars : List ARes} {v : Value} (hF : FR φ h.length nt fr tmps) (hH : HR φ B h w) (hr : RR P fn.results.toList ars) (hs : retv ars fr h = some (v, h')) :
    h' = h ∧ ∃ v', (results fn tmps).run P w = .ok v' w ∧ VR φ h.length v v' := by
  unfold retv at hs
  have key : ∀ vs, ress fr h ars = some vs → ∃ vs', (fn.results.mapM (resRd tmps)).run P w = .ok vs'.toArray w ∧ LR φ h.length vs vs' := by
    intro vs hvs
    obtain ⟨vs', h1, h2⟩ := ress_sound (P := P) hF hH hr hvs
    exact ⟨vs', by rw [Array.mapM_eq_mapM_toList]; simp [h1], h2⟩
  split at hs
  · rename_i v1 h1
    cases hs
    obtain ⟨vs', h2, h3⟩ := key _ h1
    obtain ⟨v', h4, h5⟩ := h3.2 0 v rfl
    have hl : vs'.length = 1 := by rw [← h3.1]; rfl
    obtain rfl : vs' = [v'] := by
      match vs', hl, h4 with
      | [x], _, h4 => simp at h4; rw [h4]
    refine ⟨rfl, v', ?_, h5⟩
    rw [results_rd]
    simp only [Sem.run_bind, h2]
    simp
  · rename_i vs hne h1
    cases hs
    obtain ⟨vs', h2, h3⟩ := key _ h1
    refine ⟨rfl, .tuple vs'.toArray, ?_, h3.tuple⟩
    have hl : vs'.length ≠ 1 := by
      intro hl
      rw [← h3.1] at hl
      match vs, hl, hne with
      | [x], _, hne => exact hne x rfl
    rw [results_rd]
    simp only [Sem.run_bind, h2]
    simp [hl]
  · cases hs

/-! ### the run -/
def Sim (P : Program) (B : Nat) (T : Tab) (g : List ARes → List It → Fr → H → Res) : Prop :=
  ∀ rs ks fr h v h', g rs ks fr h = some (v, h') → ∀ (φ : Ren) (w : World) (a : Act) (b : Frame) (cs : List Frame) (k : List Item) (nt : Nat) (fn : Func),
    P.funcs[b.fn]? = some fn → RR P fn.results.toList rs → b.kind = .normal → IR P nt ks k → a.defers = [] → FR φ h.length nt fr a.tmps → HR φ B h w →
    ∃ φ' w' v' fr', Steps P (lone (b.at a k) cs w) (lone fr' cs w') ∧ fr'.fn = b.fn ∧ fr'.leaving P w' (.returned v') ∧ VR φ' h'.length v v' ∧ HR φ' B h' w' ∧ Ext φ h.length φ' ∧ Below B w w'

variable {T : Tab} {g : List ARes → List It → Fr → H → Res}

/-- what a call of f gives is what the model's call gives -/
def CallOK (P : Program) (B : Nat) (T : Tab) (g : List ARes → List It → Fr → H → Res) (f : FuncId) : Prop :=
  ∀ vs vs' h h' v, enter T g f vs h = some (v, h') → ∀ (φ : Ren) (w : World), LR φ h.length vs vs' → HR φ B h w →
    Calls P f vs'.toArray w fun e w' => ∃ φ' v', e = .returned v' ∧ VR φ' h'.length v v' ∧ HR φ' B h' w' ∧ Ext φ h.length φ' ∧ Below B w w'
def HasBody (P : Program) (f : FuncId) : Prop := ∃ fn body, P.funcs[f]? = some fn ∧ fn.body = some body ∧ (fn.name == "runtime.NumGoroutine") = false
/-- a function that is not turned, but told: its small code is shown to be true by hand -/
structure PrimOK (P : Program) (T : Tab) (f : FuncId) : Prop where
  body : HasBody P f
  good : ∀ F, T f = some F → goodC F.code = true
  ok : (∀ f F, T f = some F → HasBody P f) → ∀ B n, (∀ m, m < n → ∀ f', CallOK P B T (goN T m) f') → CallOK P B T (goN T n) f
def TabOK (P : Program) (T : Tab) : Prop := ∀ f F, T f = some F → FunOK P f F ∨ PrimOK P T f
theorem TabOK.body (hT : TabOK P T) (f : FuncId) (F : AFun) (hF : T f = some F) : HasBody P f := by
  rcases hT f F hF with h1 | h1
  · obtain ⟨fn, body, h1, h2, _, _, _, h6⟩ := h1.ok
    exact ⟨fn, body, h1, h2, h6⟩
  · exact h1.body
theorem TabOK.good (hT : TabOK P T) : GoodT T := fun f F hF => by
  rcases hT f F hF with h1 | h1
  · obtain ⟨fn, body, _, _, h3, _⟩ := h1.ok; exact h3.good
  · exact h1.good F hF
theorem enter_fun {f : FuncId} {vs vs' : List Value} {h h' : H} {v : Value} (hT : ∀ f F, T f = some F → HasBody P f) (he : enter T g f vs h = some (v, h')) (w : World) :
    (callFunc f vs'.toArray).run P w = .ok (.enter f vs'.toArray) w := by
  have key : HasBody P f := by
    unfold enter at he
    split at he
    · rename_i F hF
      exact hT f F hF
    · cases he
  obtain ⟨fn, body, h1, h2, h6⟩ := key
  have h7 : ¬ fn.name = "runtime.NumGoroutine" := by simpa using h6
  simp [callFunc, h1, h7, h2]
theorem fun_call (hS : Sim P B T g) {f : FuncId} (hF : ∀ F, T f = some F → FunOK P f F) : CallOK P B T g f := by
  intro vs vs' h h' v he φ w hv hH cs
  unfold enter at he
  split at he
  · rename_i F hF'
    split at he
    · rename_i hlen
      obtain ⟨fn, body, h1, h2, h3, h4, h5, h6⟩ := (hF F hF').ok
      have henter : Frame.enter P f vs'.toArray .normal =
          ({ (default : Frame) with fn := f, kind := .normal } : Frame).at { tmps := vs'.toArray ++ Array.replicate (fn.ntmps - vs'.toArray.size) undef, defers := [] } [.code body] := by
        simp [Frame.enter, Frame.at, h1, h2]
      rw [henter]
      obtain ⟨φ', w', v', fr', s1, s2, s3, s4, s5, s6, s7⟩ := hS _ _ _ _ _ _ he φ w { tmps := vs'.toArray ++ Array.replicate (fn.ntmps - vs'.toArray.size) undef, defers := [] } { (default : Frame) with fn := f, kind := .normal } cs [.code body] F.ntmps fn h1 h5 rfl (.code h3 .nil) rfl ⟨by simp; omega, fun t u hu => by
        obtain ⟨_, h7⟩ := args_get vs 0 t u hu
        obtain ⟨u', h8, h9⟩ := hv.2 t u h7
        have hlt := (List.getElem?_eq_some_iff.1 h8).1
        refine ⟨u', ?_, h9⟩
        rw [Array.getElem?_append_left (by simpa using hlt)]
        simpa using h8⟩ hH
      exact ⟨.returned v', w', fr', ⟨φ', v', rfl, s4, s5, s6, s7⟩, s1, s2, s3⟩
    · cases he
  · cases he

/-- what an operation of a region does, in the model's machine -/
theorem step_sound (hT : TabOK P T) (hC : ∀ f, CallOK P B T g f) (hg : ∀ rs ks fr h v h', g rs ks fr h = some (v, h') → h.length ≤ h'.length) {nt : Nat} {ops : Array Oper} {i : Nat} {rest : List Nat} {o : Oper} {ao : AOper} (ho : ops[i]? = some o) (hc : CO P nt ops o ao) {n0 : Nat} {fr fr1 : Fr} {h h1 : H}
    (hs : stepO T g n0 ao fr h = some (fr1, h1)) {φ : Ren} {w : World} {a : Act} {b : Frame} {cs : List Frame} {k : List Item} (hF : FR φ h.length nt fr a.tmps) (hH : HR φ B h w) :
    ∃ φ' w' v', Steps P (lone (b.at a (.inRegion ops (i :: rest) :: k)) cs w) (lone (b.at (a.put o.dst v') (.inRegion ops rest :: k)) cs w') ∧ FR φ' h1.length nt fr1 (a.put o.dst v').tmps ∧ HR φ' B h1 w' ∧ Ext φ h.length φ' ∧ h.length ≤ h1.length ∧ Below B w w' := by
  have hlen := stepO_len hg hs
  unfold stepO at hs
  split at hs
  · rename_i v h2 hcore
    cases hs
    -- the guard
    have hguard : ∀ bb, gd fr ao.guard = some bb → Region.wanted o (yielded ops a.tmps) = bb := by
      intro bb hb
      rcases hc.gd with ⟨g1, g2⟩ | ⟨j, want, s, g1, g2, g3⟩
      · rw [g2] at hb; cases hb; simp [Region.wanted, g1]
      · rw [g3] at hb
        simp only [gd] at hb
        split at hb
        · rename_i b' hb'
          cases hb
          obtain ⟨v', e1, e2⟩ := hF.2 s _ hb'
          rw [bool_inv e2] at e1
          have : yielded ops a.tmps j = some b' := by
            unfold yielded; rw [g2]; simp [e1]
          simp [Region.wanted, g1, this]
        · rename_i vs' hb'
          cases hb
          obtain ⟨v', e1, e2⟩ := hF.2 s _ hb'
          have : yielded ops a.tmps j = none := by
            unfold yielded; rw [g2]; cases e2; simp [e1]
          simp [Region.wanted, g1, this]
        · cases hb
    have hput : ∀ {φ' : Ren} {v' : Value}, FR φ' h1.length nt fr a.tmps → (∀ u, v = some u → VR φ' h1.length u v') → FR φ' h1.length nt (fr.put ao.dst v) (a.put o.dst v').tmps := by
      intro φ' v' q1 q3
      rw [hc.dst]
      exact q1.put o.dst hc.lt v v' q3
    have hfin : ∀ v, (b.at a (.inRegion ops (i :: rest) :: k)).finish v = b.at (a.put o.dst v) (.inRegion ops rest :: k) := by
      intro v; rw [Frame.finish_at, ho]; rfl
    unfold core at hcore
    split at hcore
    · rename_i hgd
      cases hcore
      have hw := hguard false hgd
      have hst := step_op_skip (P := P) (b := b) (a := a) (k := k) (cs := cs) (w := w) (ops := ops) (i := i) (rest := rest) (by simp [ho, hw])
      rw [ho] at hst
      exact ⟨φ, w, undef, .one hst, hput hF (fun u hu => by cases hu; exact .tuple #[] #[] rfl (fun i hi => absurd hi (by simp))), hH, Ext.refl _ _, Nat.le_refl _, Below.refl _ _⟩
    · rename_i hgd
      have hw := hguard true hgd
      have hG := stepG_op (P := P) (b := b) (a := a) (k := k) (cs := cs) (w := w) (rest := rest) ho hw
      have hcall : ∀ {f : FuncId} {vs vs' : List Value} {u : Value}, enter T g f vs h = some (u, h1) → v = some u → LR φ h.length vs vs' → (execOp a.eval o).run P w = (callFunc f vs'.toArray).run P w →
          ∃ φ' w' v', Steps P (lone (b.at a (.inRegion ops (i :: rest) :: k)) cs w) (lone (b.at (a.put o.dst v') (.inRegion ops rest :: k)) cs w') ∧ FR φ' h1.length nt (fr.put ao.dst v) (a.put o.dst v').tmps ∧ HR φ' B h1 w' ∧ Ext φ h.length φ' ∧ h.length ≤ h1.length ∧ Below B w w' := by
        intro f vs vs' u he hvu hL hrun
        have e1 := enter_fun (vs' := vs') hT.body he w
        obtain ⟨_, w', fr', ⟨φ', v', rfl, e5, e6, e7, e8⟩, e2, e3, e4⟩ := hC f vs vs' h h1 u he φ w hL hH (b.at a (.inRegion ops (i :: rest) :: k) :: cs)
        rw [e1] at hrun
        have henter : step P (lone (b.at a (.inRegion ops (i :: rest) :: k)) cs w) = .next (lone (Frame.enter P f vs'.toArray .normal) (b.at a (.inRegion ops (i :: rest) :: k) :: cs) w) :=
          step_lone_go (by rw [hG]; simp [stepG.apply, hrun, Frame.at])
        refine ⟨φ', w', v', .head henter (Steps.trans e2 (.one ?_)), hput (hF.mono e7 hlen) (fun x hx => ?_), e6, e7, hlen, e8⟩
        · rw [← hfin]; exact step_leave_returned e4
        · rw [hvu] at hx; cases hx; exact e5
      split at hcore
      · -- a call by name
        rename_i f args hop
        split at hcore
        · rename_i vs hvs
          split at hcore
          · rename_i u h3 he
            have hb := (behind_some hcore).1
            cases hb
            have hL := evs_sound hF hvs
            refine hcall he rfl hL ?_
            have hco := hc.op
            rw [hop] at hco
            -- read off the operation
            have hopc : ∃ c : Call, o.op = .call c ∧ c.callee = .value (.func f) ∧ c.args.toList = args := by
              unfold comp1 at hco
              split at hco <;> first
                | (cases hco; done)
                | ((repeat' split at hco) <;> first | (cases hco; done) | skip)
              all_goals first
                | (cases hco; exact ⟨_, ‹_›, ‹_›, rfl⟩)
            obtain ⟨c, hc1, hc2, hc3⟩ := hopc
            have hev : c.args.map a.eval = (args.map a.eval).toArray := by rw [← hc3]; apply Array.toList_inj.1; simp
            simp [execOp, hc1, resolve, hc2, hev, Act.eval, Deferred.ofValue, invoke]
          · cases hcore
        · cases hcore
      · rename_i x args hop
        split at hcore
        · rename_i f first cap vs hx hvs
          split at hcore
          · rename_i hemp
            split at hcore
            · rename_i u h3 he
              have hb := (behind_some hcore).1
              cases hb
              have hL := evs_sound hF hvs
              have hxv := ev_sound hF hx
              have hcap : ∃ cap', a.eval x = .func (.func f) #[] cap' ∧ LR φ h.length cap.toList cap'.toList := by
                generalize a.eval x = y at hxv
                cases hxv with
                | func _ _ cs' hsz hh => exact ⟨cs', rfl, LR.of_arrays hsz hh⟩
              obtain ⟨cap', hx1, hx2⟩ := hcap
              refine hcall he rfl (hL.append hx2) ?_
              have hco := hc.op
              rw [hop] at hco
              have hopc : ∃ c : Call, o.op = .call c ∧ c.callee = .value x ∧ c.args.toList = args := by
                unfold comp1 at hco
                split at hco <;> first
                  | (cases hco; done)
                  | ((repeat' split at hco) <;> first | (cases hco; done) | skip)
                all_goals first
                  | (cases hco; exact ⟨_, ‹_›, ‹_›, rfl⟩)
              obtain ⟨c, hc1, hc2, hc3⟩ := hopc
              have hev : c.args.map a.eval = (args.map a.eval).toArray := by rw [← hc3]; apply Array.toList_inj.1; simp
              have happ : ((args.map a.eval).toArray ++ cap') = (args.map a.eval ++ cap'.toList).toArray := by apply Array.toList_inj.1; simp
              simp [execOp, hc1, resolve, hc2, hev, hx1, Deferred.ofValue, invoke]
              rw [← happ]
            · cases hcore
          · cases hcore
        · cases hcore
      · split at hcore
        · obtain ⟨φ', v', w', r1, r2, r3, r4, r5, r6⟩ := comp1_sound hc.op hF hH hcore
          cases v with
          | some u =>
            refine ⟨φ', w', v', .one (step_lone_go ?_), hput (hF.mono r4 r5) r2, r3, r4, r5, r6⟩
            rw [hG, ← hfin]; simp [stepG.apply, r1]
          | none =>
            refine ⟨φ', w', undef, .one (step_lone_go ?_), hput (hF.mono r4 r5) (fun u hu => by cases hu), r3, r4, r5, r6⟩
            rw [hG, ← hfin]; simp [stepG.apply, r1]
        · cases hcore
    · cases hcore
  · cases hs

/-! ### another name for what is new -/
theorem E.one {ρ : Rel} {n : Nat} {v v2 : Value} (h : E ρ n v v2) : v2.oneCell' = v.oneCell' := by cases h <;> rfl
open Classical in
noncomputable def Ren.by (φ : Ren) (π : Rel) : Ren := fun o => if hx : ∃ o2, π o o2 then φ (Classical.choose hx) else φ o
theorem Ren.by_eq {φ : Ren} {π : Rel} {h h2 : H} (hm : ME π h h2) {o o2 : Nat} (hr : π o o2) : φ.by π o = φ o2 := by
  unfold Ren.by
  have hx : ∃ o2, π o o2 := ⟨o2, hr⟩
  rw [dif_pos hx, (hm.uni _ _ _ _ (Classical.choose_spec hx) hr).1 rfl]
theorem VR.by {φ : Ren} {π : Rel} {h h2 : H} (hm : ME π h h2) {v v2 v' : Value} (he : E π h.length v v2) (hv : VR φ h2.length v2 v') : VR (φ.by π) h.length v v' := by
  induction he generalizing v' with
  | atom v hp =>
    cases hv <;> first | (cases hp; done) | (constructor; done)
  | ptr o o2 off h1 h3 =>
    cases hv with
    | ptr _ _ h4 => rw [← Ren.by_eq (φ := φ) hm h1]; exact .ptr _ _ h3
  | sl o o2 off l c h1 h3 =>
    cases hv with
    | sl _ _ _ _ c' q h4 h5 h6 h7 => rw [← Ren.by_eq (φ := φ) hm h1] at h6 h7 ⊢; exact .sl _ _ _ _ _ _ h3 h5 h6 h7
    | slz _ _ x h4 h5 => exact .slz _ _ _ h3 (by rw [Ren.by_eq (φ := φ) hm h1]; exact h5)
  | func f cs cs2 hs _ ih =>
    cases hv with
    | func _ _ cs' hs2 hh => exact .func _ _ _ (hs.trans hs2) fun i h h' => ih i h (by omega) (hh i (by omega) h')
  | agg cs cs2 hs h0 ih =>
    cases hv with
    | agg _ cs' hs2 h1 hh => exact .agg _ _ (hs.trans hs2) (fun i h => by rw [← (h0 i h (by omega)).one]; exact h1 i (by omega)) fun i h h' => ih i h (by omega) (hh i (by omega) h')
  | tuple cs cs2 hs _ ih =>
    cases hv with
    | tuple _ cs' hs2 hh => exact .tuple _ _ (hs.trans hs2) fun i h h' => ih i h (by omega) (hh i (by omega) h')
theorem VR.self {φ : Ren} {n : Nat} {v v' : Value} (h : VR φ n v v') : E Eq n v v := by
  induction h with
  | ptr o off ho => exact .ptr _ _ _ rfl ho
  | sl o off l c c' q ho => exact .sl _ _ _ _ _ rfl ho
  | slz o off x ho => exact .sl _ _ _ _ _ rfl ho
  | func f cs cs' hs _ ih => exact .func _ _ _ rfl fun i h h' => ih i h (by omega)
  | agg cs cs' hs h1 _ ih => exact .agg _ _ rfl fun i h h' => ih i h (by omega)
  | tuple cs cs' hs _ ih => exact .tuple _ _ rfl fun i h h' => ih i h (by omega)
  | _ => exact .atom _ rfl
theorem WFs.of {φ : Ren} {nt : Nat} {fr : Fr} {tmps : Array Value} {h : H} {w : World} (hF : FR φ h.length nt fr tmps) (hH : HR φ B h w) : WFs fr h := by
  refine ⟨fun t v hv => let ⟨v', _, h2⟩ := hF.2 t v hv; ⟨v, hv, h2.self⟩, ⟨fun o o2 p p2 h1 h2 => by subst h1; subst h2; rfl, fun j => rfl, fun o o2 he => ?_⟩⟩
  subst he
  cases ho : h[o]? with
  | none => trivial
  | some b => cases b with
    | dead => trivial
    | row r =>
      have hr : h.row o = some r := by unfold H.row; rw [ho]
      refine ⟨rfl, rfl, rfl, rfl, fun i v hv => ⟨v, hv, ?_⟩⟩
      obtain ⟨v', _, h2⟩ := hH.cell hr hv
      exact h2.self
theorem Eqv.model {n0 nt : Nat} {fr fr2 : Fr} {h h2 : H} {φ : Ren} {tmps : Array Value} {w : World} (he : Eqv n0 fr h fr2 h2) (hF : FR φ h2.length nt fr2 tmps) (hH : HR φ B h2 w) :
    ∃ φ' : Ren, FR φ' h.length nt fr tmps ∧ HR φ' B h w ∧ ∀ o, o < n0 → φ' o = φ o := by
  obtain ⟨π, a1, a2, a3, a4, a5⟩ := he.ex
  have hrow : ∀ {o r}, h.row o = some r → ∃ o2 r2, π o o2 ∧ φ.by π o = φ o2 ∧ h2.row o2 = some r2 ∧ r2.elem = r.elem ∧ r2.unit = r.unit ∧ r2.own = r.own ∧ LE π h.length r.cells r2.cells := by
    intro o r hr
    obtain ⟨o2, ho⟩ := a5 o (row_lt hr)
    obtain ⟨r2, k1, k2, k3, k4, k5⟩ := a2.row ho hr
    exact ⟨o2, r2, ho, Ren.by_eq a2 ho, k1, k2, k3, k4, k5⟩
  refine ⟨φ.by π, ⟨hF.1, fun t v hv => ?_⟩, ⟨fun o r hr ho => ?_, fun o r hr ho => ?_, fun o r hr c hc => ?_, fun o o' r r' hr hr' ho ho' hb => ?_, hH.size⟩, fun o ho => Ren.by_eq a2 (a4 o ho)⟩
  · obtain ⟨v2, k1, k2⟩ := a1 t v hv
    obtain ⟨v', k3, k4⟩ := hF.2 t v2 k1
    exact ⟨v', k3, k4.by a2 k2⟩
  · obtain ⟨o2, r2, k1, k2, k3, k4, k5, k6, k7⟩ := hrow hr
    obtain ⟨m1, m2, m3, cur, m4, m5, m6⟩ := hH.own o2 r2 k3 (k6.trans ho)
    rw [k2]
    refine ⟨m1, m2.trans k5, m3, cur, by rw [m4, k4], m5, fun i c hc => ?_⟩
    obtain ⟨c2, n1, n2⟩ := k7.2 i c hc
    obtain ⟨v, n3, n4⟩ := m6 i c2 n1
    exact ⟨v, n3, n4.by a2 n2⟩
  · obtain ⟨o2, r2, k1, k2, k3, k4, k5, k6, k7⟩ := hrow hr
    obtain ⟨m1, m2, m3⟩ := hH.ro o2 r2 k3 (k6.trans ho)
    rw [k2]
    refine ⟨m1, m2, fun i c hc => ?_⟩
    obtain ⟨c2, n1, n2⟩ := k7.2 i c hc
    obtain ⟨v, n3, n4⟩ := m3 i c2 n1
    exact ⟨v, n3, n4.by a2 n2⟩
  · obtain ⟨o2, r2, k1, k2, k3, k4, k5, k6, k7⟩ := hrow hr
    obtain ⟨i, hi, he⟩ := List.getElem_of_mem hc
    obtain ⟨c2, n1, n2⟩ := k7.2 i c (by rw [List.getElem?_eq_getElem hi, he])
    rw [← n2.one]
    exact hH.one o2 r2 k3 c2 (List.mem_of_getElem? n1)
  · obtain ⟨o2, r2, k1, k2, k3, k4, k5, k6, k7⟩ := hrow hr
    obtain ⟨p2, s2, l1, l2, l3, l4, l5, l6, l7⟩ := hrow hr'
    rw [k2, l2] at hb
    have := hH.inj o2 p2 r2 s2 k3 l3 (k6.trans ho) (l6.trans ho') hb
    exact (a2.uni _ _ _ _ k1 l1).2 this
end
end Go.Am
namespace Go.Am
set_option linter.unusedVariables false
set_option linter.unusedSimpArgs false
open Go.RowKit (Below)

section
variable {P : Program} {B : Nat} {T : Tab} {g : List ARes → List It → Fr → H → Res}

theorem ops_sim (hT : TabOK P T) (hC : ∀ f, CallOK P B T g f) (hg : ∀ rs ks fr h v h', g rs ks fr h = some (v, h') → h.length ≤ h'.length) {nt : Nat} {ops : Array Oper} {l : List AOper} {draw : Bool} (hr : RegOK P nt ops draw l) (d : AOper) {n0 : Nat} :
    ∀ (L : List Nat) {fr fr1 : Fr} {h h1 : H}, (∀ i ∈ L, i < ops.size) → runOps T g n0 (L.map fun i => l.getD i d) fr h = some (fr1, h1) →
    ∀ {φ : Ren} {w : World} {a : Act} {b : Frame} {cs : List Frame} {k : List Item}, a.defers = [] → FR φ h.length nt fr a.tmps → HR φ B h w →
    ∃ φ' w' a', Steps P (lone (b.at a (.inRegion ops L :: k)) cs w) (lone (b.at a' k) cs w') ∧ a'.defers = [] ∧ FR φ' h1.length nt fr1 a'.tmps ∧ HR φ' B h1 w' ∧ Ext φ h.length φ' ∧ h.length ≤ h1.length ∧ Below B w w'
  | [], fr, fr1, h, h1, _, hs, φ, w, a, b, cs, k, hd, hF, hH => by
    cases hs
    exact ⟨φ, w, a, .one step_region_end, hd, hF, hH, Ext.refl _ _, Nat.le_refl _, Below.refl _ _⟩
  | i :: L, fr, fr1, h, h1, hL, hs, φ, w, a, b, cs, k, hd, hF, hH => by
    have hi := hL i (by simp)
    obtain ⟨ao, e1, e2⟩ := hr.op i ops[i] (Array.getElem?_eq_getElem hi)
    simp only [List.map_cons, runOps] at hs
    have e3 : l.getD i d = ao := by rw [List.getD_eq_getElem?_getD, e1]; rfl
    rw [e3] at hs
    split at hs
    · rename_i fr2 h2 hst
      obtain ⟨φ2, w2, v2, s1, s2, s3, s4, s5, s6⟩ := step_sound (b := b) (cs := cs) (k := k) (rest := L) hT hC hg (Array.getElem?_eq_getElem hi) e2 hst hF hH
      have hd2 : (a.put ops[i].dst v2).defers = [] := by cases ops[i].dst <;> exact hd
      obtain ⟨φ3, w3, a3, t1, t2, t3, t4, t5, t6, t7⟩ := ops_sim hT hC hg hr d L (fun j hj => hL j (by simp [hj])) hs (b := b) (cs := cs) (k := k) hd2 s2 s3
      exact ⟨φ3, w3, a3, s1.trans t1, t2, t3, t4, s4.trans t5 s5, Nat.le_trans s5 t6, s6.trans t7⟩
    · cases hs

theorem HR.drawn {φ : Ren} {h : H} {w : World} (hH : HR φ B h w) (n : Nat) : HR φ B h { w with drawn := n } :=
  hH.same (Nat.le_refl _) (fun _ _ => rfl)

theorem sim_succ (hT : TabOK P T) (hm : P.follows .mixedOrders = true) (hS : Sim P B T g) (hC : ∀ f, CallOK P B T g f) (hg : ∀ rs ks fr h v h', g rs ks fr h = some (v, h') → h.length ≤ h'.length) (hE : ∀ ρ, EmbG ρ g) : Sim P B T (gF T g) := by
  intro rs ks fr h v h' hr φ w a b cs k nt fn hfn hrs hb hI hd hF hH
  have ret : ∀ {k : List Item} {fr' : Frame}, retv rs fr h = some (v, h') → Steps P (lone (b.at a k) cs w) (lone fr' cs w) → fr'.fn = b.fn → fr'.mode = .returning → fr'.defers = [] → fr'.kind = .normal → fr'.tmps = a.tmps →
      ∃ φ' w' v' fr', Steps P (lone (b.at a k) cs w) (lone fr' cs w') ∧ fr'.fn = b.fn ∧ fr'.leaving P w' (.returned v') ∧ VR φ' h'.length v v' ∧ HR φ' B h' w' ∧ Ext φ h.length φ' ∧ Below B w w' := by
    intro k fr' hr hst h1 h2 h3 h4 h5
    obtain ⟨rfl, v', e1, e2⟩ := retv_sound (P := P) hF hH hrs hr
    exact ⟨φ, w, v', fr', hst, h1, ⟨h2, h3, h4, fn, by rw [h1]; exact hfn, by rw [h5]; exact e1⟩, e2, hH, Ext.refl _ _, Below.refl _ _⟩
  have next : ∀ {ks' : List It} {k' : List Item} {fr2 : Fr} {h2 : H} {φ2 : Ren} {w2 : World} {a2 : Act}, g rs ks' fr2 h2 = some (v, h') → Steps P (lone (b.at a k) cs w) (lone (b.at a2 k') cs w2) → IR P nt ks' k' → a2.defers = [] → FR φ2 h2.length nt fr2 a2.tmps → HR φ2 B h2 w2 →
      Ext φ h.length φ2 → h.length ≤ h2.length → Below B w w2 →
      ∃ φ' w' v' fr', Steps P (lone (b.at a k) cs w) (lone fr' cs w') ∧ fr'.fn = b.fn ∧ fr'.leaving P w' (.returned v') ∧ VR φ' h'.length v v' ∧ HR φ' B h' w' ∧ Ext φ h.length φ' ∧ Below B w w' := by
    intro ks' k' fr2 h2 φ2 w2 a2 hr hst hI hd hF hH he hl hbl
    obtain ⟨φ3, w3, v3, fr3, t1, t2, t3, t4, t5, t6, t7⟩ := hS _ _ _ _ _ _ hr φ2 w2 a2 b cs k' nt fn hfn hrs hb hI hd hF hH
    exact ⟨φ3, w3, v3, fr3, hst.trans t1, t2, t3, t4, t5, he.trans t6 hl, hbl.trans t7⟩
  have same : ∀ {ks' : List It} {k' : List Item} {fr2 : Fr}, g rs ks' fr2 h = some (v, h') → step P (lone (b.at a k) cs w) = .next (lone (b.at a k') cs w) → IR P nt ks' k' → FR φ h.length nt fr2 a.tmps →
      ∃ φ' w' v' fr', Steps P (lone (b.at a k) cs w) (lone fr' cs w') ∧ fr'.fn = b.fn ∧ fr'.leaving P w' (.returned v') ∧ VR φ' h'.length v v' ∧ HR φ' B h' w' ∧ Ext φ h.length φ' ∧ Below B w w' := by
    intro ks' k' fr2 hr hst hI hF2
    exact next hr (.one hst) hI hd hF2 hH (Ext.refl _ _) (Nat.le_refl _) (Below.refl _ _)
  cases hI with
  | nil =>
    simp only [gF] at hr
    exact ret hr (.one step_end) rfl rfl hd hb rfl
  | blk hk =>
    simp only [gF] at hr
    exact same hr step_inBlock hk (hF.keep _)
  | lp hc hk =>
    simp only [gF] at hr
    exact same hr step_inLoop (.code hc (.lp hc hk)) (hF.keep _)
  | @code _ _ ks2 k2 hc hk =>
    cases hc with
    | stuck => simp only [gF] at hr; cases hr
    | skip =>
      simp only [gF] at hr
      exact same hr step_skip hk hF
    | ret =>
      simp only [gF] at hr
      exact ret hr (.one step_ret) rfl rfl hd hb rfl
    | seq h1 h2 =>
      simp only [gF] at hr
      exact same hr step_seq (.code h1 (.code h2 hk)) hF
    | cond h1 h2 =>
      simp only [gF] at hr
      split at hr
      · rename_i t ht
        have e := bool_inv (ev_sound hF ht)
        refine same hr (step_cond e) ?_ hF
        cases t
        · exact .code h2 hk
        · exact .code h1 hk
      · cases hr
    | block h1 =>
      simp only [gF] at hr
      exact same hr step_block (.code h1 (.blk hk)) hF
    | exit =>
      simp only [gF] at hr
      split at hr
      · rename_i ko k2 hp
        obtain ⟨k', e1, e2⟩ := popTo_sound hk hp
        exact same hr (step_exit e1) e2 (hF.keep _)
      · cases hr
    | @loop kh c c' h1 =>
      simp only [gF] at hr
      exact same hr step_loop (.code h1 (.lp h1 hk)) (hF.keep _)
    | region id ops draw l hro =>
      simp only [gF] at hr
      split at hr
      · rename_i fr1 h1 hrun
        have hlen := runOps_len hg hrun
        cases hdr : draw with
        | false =>
          subst hdr
          have hid : (List.range ops.size).map (fun i => l.getD i (⟨none, .lenK 0, none, false⟩ : AOper)) = l := by
            apply List.ext_getElem?
            intro i
            by_cases hi : i < ops.size
            · simp [hi, hro.len, List.getD_eq_getElem?_getD]
            · rw [List.getElem?_eq_none (by simp; omega), List.getElem?_eq_none (by rw [hro.len]; omega)]
          obtain ⟨φ2, w2, a2, t1, t2, t3, t4, t5, t6, t7⟩ := ops_sim hT hC hg hro ⟨none, .lenK 0, none, false⟩ (List.range ops.size) (fun i hi => List.mem_range.1 hi) (by rw [hid]; exact hrun) (b := b) (cs := cs) hd hF hH
          exact next hr (.head step_region t1) hk t2 t3 t4 t5 t6 t7
        | true =>
          subst hdr
          obtain ⟨hdn, hco⟩ := hro.dr rfl
          have hst := step_region_draw (P := P) (b := b) (a := a) (k := k2) (cs := cs) (w := w) (id := id) (ops := ops)
          rw [hm] at hst
          obtain ⟨fr2, h2, hrun2, heqv⟩ := run_schedule hg hE hT.good hro.len hro.good hdn hco (w.tape w.drawn (.order b.fn id)) (WFs.of hF hH) hrun ⟨none, .lenK 0, none, false⟩ rfl
          have htopo := schedule_topo hdn (w.tape w.drawn (.order b.fn id))
          obtain ⟨φ2, w2, a2, t1, t2, t3, t4, t5, t6, t7⟩ := ops_sim hT hC hg hro ⟨none, .lenK 0, none, false⟩ _ (fun i hi => List.mem_range.1 (htopo.perm.mem_iff.1 hi)) hrun2 (b := b) (cs := cs) hd hF (hH.drawn _)
          have h0 : Below B w { w with drawn := w.drawn + 1 } := ⟨rfl, rfl, rfl, Nat.le_refl _, fun _ _ => rfl⟩
          obtain ⟨φ3, u1, u2, u3⟩ := heqv.model t3 t4
          exact next hr (.head hst t1) hk t2 u1 u2 (fun o ho => (u3 o ho).trans (t5 o ho)) hlen (h0.trans t7)
      · cases hr

theorem call_all (hT : TabOK P T) {n : Nat} (hS : Sim P B T (goN T n)) (hC : ∀ m, m < n → ∀ f, CallOK P B T (goN T m) f) (f : FuncId) : CallOK P B T (goN T n) f := by
  cases hF : T f with
  | none => intro vs vs' h h' v he; unfold enter at he; rw [hF] at he; cases he
  | some F =>
    rcases hT f F hF with h1 | h1
    · exact fun_call hS (fun F' hF' => by rw [hF] at hF'; cases hF'; exact h1)
    · exact h1.ok hT.body B n hC
theorem sim_all (hT : TabOK P T) (hm : P.follows .mixedOrders = true) : ∀ n, Sim P B T (goN T n) ∧ ∀ m, m ≤ n → ∀ f, CallOK P B T (goN T m) f
  | 0 => by
    have h0 : Sim P B T (goN T 0) := fun _ _ _ _ _ _ hr => by cases hr
    refine ⟨h0, fun m hm f => ?_⟩
    obtain rfl : m = 0 := by omega
    exact call_all hT h0 (fun m hm => by omega) f
  | n + 1 => by
    obtain ⟨h1, h2⟩ := sim_all hT hm n
    have h3 := sim_succ hT hm h1 (h2 n (Nat.le_refl _)) (goN_len n) (fun ρ => goN_emb hT.good n)
    refine ⟨h3, fun m hm' f => ?_⟩
    by_cases hmn : m ≤ n
    · exact h2 m hmn f
    · obtain rfl : m = n + 1 := by omega
      exact call_all hT h3 (fun m hm => h2 m (by omega)) f

/-- ████ WHAT THE SMALL MACHINE COMPUTES OF A CALL IS WHAT THE MODEL's CALL RETURNS ████ -/
theorem call_sound (hT : TabOK P T) (hm : P.follows .mixedOrders = true) {f : FuncId} {vs vs' : List Value} {h h' : H} {v : Value} (hc : call T f vs h = some (v, h')) {φ : Ren} {w : World} (hv : LR φ h.length vs vs') (hH : HR φ B h w) :
    Calls P f vs'.toArray w fun e w' => ∃ φ' v', e = .returned v' ∧ VR φ' h'.length v v' ∧ HR φ' B h' w' ∧ Ext φ h.length φ' ∧ Below B w w' := by
  have : ∃ n, enter T (goN T n) f vs h = some (v, h') := by
    unfold call at hc
    unfold enter at hc ⊢
    cases hF : T f with
    | none => rw [hF] at hc; cases hc
    | some F =>
      rw [hF] at hc
      simp only at hc ⊢
      split at hc
      · rename_i hl
        obtain ⟨n, hn⟩ := go_some.1 hc
        exact ⟨n, by rw [if_pos hl]; exact hn⟩
      · cases hc
  obtain ⟨n, hn⟩ := this
  exact (sim_all hT hm n).2 n (Nat.le_refl _) f _ _ _ _ _ hn φ w hv hH

/-- a call that gives a truth value -/
theorem call_bool (hT : TabOK P T) (hm : P.follows .mixedOrders = true) {f : FuncId} {vs vs' : List Value} {h h' : H} {b : Bool} (hc : call T f vs h = some (.bool b, h')) {φ : Ren} {w : World} (hv : LR φ h.length vs vs') (hH : HR φ w.heap.size h w) :
    Calls P f vs'.toArray w fun e w' => e = .returned (.bool b) ∧ Below w.heap.size w w' :=
  (call_sound hT hm hc hv hH).mono fun e w' ⟨φ', v', he, hvr, _, _, hb⟩ => ⟨by rw [he, bool_inv hvr], hb⟩
end
#print axioms call_bool
end Go.Am
namespace Go.Am
set_option linter.unusedVariables false
set_option linter.unusedSimpArgs false

def gdC (ops : Array Oper) : Option (Nat × Bool) → Option (Option (Nat × Bool))
  | none => some none
  | some (j, b) => match (ops[j]?).bind (·.dst) with
    | some s => some (some (s, b))
    | none => none
def dstOk (nt : Nat) : Option Nat → Bool
  | none => true
  | some d => Nat.blt d nt
def compO (P : Program) (nt : Nat) (ops : Array Oper) (o : Oper) : Option AOper :=
  match comp1 P o, gdC ops o.guard with
  | some op, some g => if dstOk nt o.dst then some ⟨o.dst, op, g, false⟩ else none
  | _, _ => none
def compOs (P : Program) (nt : Nat) (ops : Array Oper) : List Oper → Option (List AOper)
  | [] => some []
  | o :: r => match compO P nt ops o, compOs P nt ops r with
    | some a, some l => some (a :: l)
    | _, _ => none
/-- which calls must be seen to add only, which loads to look at what is old -/
def mark (W b : Nat) (l : List AOper) : List AOper :=
  l.zipIdx.map fun (x, j) =>
    let apart (i : Nat) : Bool := !b.testBit (W * j + i) && !b.testBit (W * i + j)
    { x with chk := (x.op.isCall && l.zipIdx.any fun (y, i) => i != j && apart i && y.op.cls != 0) || (x.op.isLd && (l.take j).zipIdx.any fun (y, i) => apart i && y.op.cls == 2) }
def compR (P : Program) (nt : Nat) (ops : Array Oper) (draw : Bool) : Option (List AOper) :=
  match compOs P nt ops ops.toList with
  | some l => match draw with
    | false => some l
    | true => force (befN ops.size ops.toList 0 0) fun b => let l' := mark ops.size b l
      if edgesDown ops && commutes ops.toList l' then some l' else none
  | none => none
def compC (P : Program) (nt : Nat) (kf : Nat → List Nat × List Nat) : List Nat → Code → Option ACode
  | _, .skip => some .skip
  | _, .ret => some .ret
  | _, .exit id => some (.exit id)
  | _, .region _ ops draw => match compR P nt ops draw with
    | some l => some (.region l)
    | none => some .stuck
  | cur, .seq a b => match compC P nt kf cur a, compC P nt kf cur b with
    | some a, some b => some (.seq a b)
    | _, _ => none
  | cur, .cond c a b => match compC P nt kf cur a, compC P nt kf cur b with
    | some a, some b => some (.cond c a b)
    | _, _ => none
  | _, .block id a => match compC P nt kf (kf id).1 a with
    | some a => some (.block id (kf id).2 a)
    | none => none
  | cur, .loop a => match compC P nt kf cur a with
    | some a => some (.loop cur a)
    | none => none
  | _, _ => some .stuck
def compRes (P : Program) : List ResultVar → Option (List ARes)
  | [] => some []
  | .tmp t :: r => match compRes P r with
    | some l => some (.tmp t :: l)
    | none => none
  | .cell a t :: r => match P.underlying t, P.info? t, compRes P r with
    | some d, some i, some l => some (.cell a (isAggD d) i.size :: l)
    | _, _, _ => none
def compF (P : Program) (kf : Nat → List Nat × List Nat) (fn : Func) : Option AFun :=
  match fn.body with
  | some body => match compC P fn.ntmps kf [] body, compRes P fn.results.toList with
    | some c, some r => if (fn.name == "runtime.NumGoroutine") = false then some ⟨c, fn.params.size + fn.nfree, fn.ntmps, r⟩ else none
    | _, _ => none
  | none => none

section
variable {P : Program}

theorem compO_sound {nt : Nat} {ops : Array Oper} {o : Oper} {a : AOper} (h : compO P nt ops o = some a) (b : Bool) : CO P nt ops o { a with chk := b } := by
  unfold compO at h
  split at h
  · rename_i op g h1 h2
    split at h
    · rename_i hd
      cases h
      refine ⟨rfl, fun d hd' => ?_, h1, ?_⟩
      · rw [hd'] at hd; exact Nat.le_of_ble_eq_true hd
      · unfold gdC at h2
        split at h2
        · rename_i hg; cases h2; exact .inl ⟨hg, rfl⟩
        · rename_i j bb hg
          split at h2
          · rename_i s hs; cases h2; exact .inr ⟨j, bb, s, hg, hs, rfl⟩
          · cases h2
    · cases h
  · cases h
theorem compOs_sound {nt : Nat} {ops : Array Oper} : ∀ {os : List Oper} {l : List AOper}, compOs P nt ops os = some l → l.length = os.length ∧ ∀ (i : Nat) o, os[i]? = some o → ∃ a, l[i]? = some a ∧ compO P nt ops o = some a
  | [], l, h => by cases h; exact ⟨rfl, fun i o h => by simp at h⟩
  | o :: os, l, h => by
    simp only [compOs] at h
    split at h
    · rename_i a l' h1 h2
      cases h
      obtain ⟨e1, e2⟩ := compOs_sound h2
      refine ⟨by simp [e1], fun i x hx => ?_⟩
      cases i with
      | zero => simp at hx; subst hx; exact ⟨a, rfl, h1⟩
      | succ i => simpa using e2 i x (by simpa using hx)
    · cases h
theorem compR_sound {nt : Nat} {ops : Array Oper} {draw : Bool} {l : List AOper} (h : compR P nt ops draw = some l) : RegOK P nt ops draw l := by
  unfold compR at h
  split at h
  · rename_i l0 h0
    obtain ⟨e1, e2⟩ := compOs_sound h0
    split at h
    · cases h
      refine ⟨by simpa using e1, fun i o ho => ?_, fun hd => by cases hd⟩
      obtain ⟨a, h1, h2⟩ := e2 i o (by simpa using ho)
      have := compO_sound h2 a.chk
      exact ⟨a, h1, this⟩
    · simp only [force_eq] at h
      split at h
      · rename_i hc
        cases h
        simp only [Bool.and_eq_true] at hc
        refine ⟨by simp [mark, e1], fun i o ho => ?_, fun _ => hc⟩
        obtain ⟨a, h1, h2⟩ := e2 i o (by simpa using ho)
        unfold mark
        simp only [List.getElem?_map, List.getElem?_zipIdx, h1, Option.map_some]
        exact ⟨_, rfl, compO_sound h2 _⟩
      · cases h
  · cases h
theorem compC_sound {nt : Nat} {kf : Nat → List Nat × List Nat} : ∀ {c : Code} {cur : List Nat} {a : ACode}, compC P nt kf cur c = some a → CR P nt c a
  | .skip, cur, a, h => by cases h; exact .skip
  | .ret, cur, a, h => by cases h; exact .ret
  | .exit id, cur, a, h => by cases h; exact .exit
  | .region id ops draw, cur, a, h => by
    simp only [compC] at h
    split at h
    · cases h; exact .region _ _ _ _ (compR_sound ‹_›)
    · cases h; exact .stuck
  | .seq x y, cur, a, h => by
    simp only [compC] at h
    split at h
    · cases h; exact .seq (compC_sound ‹_›) (compC_sound ‹_›)
    · cases h
  | .cond c x y, cur, a, h => by
    simp only [compC] at h
    split at h
    · cases h; exact .cond (compC_sound ‹_›) (compC_sound ‹_›)
    · cases h
  | .block id x, cur, a, h => by
    simp only [compC] at h
    split at h
    · cases h; exact .block (compC_sound ‹_›)
    · cases h
  | .loop x, cur, a, h => by
    simp only [compC] at h
    split at h
    · cases h; exact .loop (compC_sound ‹_›)
    · cases h
  | .rangeFunc .., cur, a, h => by cases h; exact .stuck
  | .scope _, cur, a, h => by cases h; exact .stuck
  | .label _, cur, a, h => by cases h; exact .stuck
  | .goto _, cur, a, h => by cases h; exact .stuck
  | .refuse _, cur, a, h => by cases h; exact .stuck
theorem compRes_sound : ∀ {rs : List ResultVar} {l : List ARes}, compRes P rs = some l → RR P rs l
  | [], l, h => by cases h; trivial
  | .tmp t :: rs, l, h => by
    simp only [compRes] at h
    split at h
    · cases h; exact ⟨rfl, compRes_sound ‹_›⟩
    · cases h
  | .cell a t :: rs, l, h => by
    simp only [compRes] at h
    split at h
    · cases h; exact ⟨rfl, ⟨_, _, ‹_›, ‹_›, rfl, rfl⟩, compRes_sound ‹_›⟩
    · cases h
theorem compF_sound {kf : Nat → List Nat × List Nat} {f : FuncId} {fn : Func} {F : AFun} (hf : P.funcs[f]? = some fn) (h : compF P kf fn = some F) : FunOK P f F := by
  unfold compF at h
  split at h
  · rename_i body hb
    split at h
    · rename_i c r h1 h2
      split at h
      · cases h
        exact ⟨fn, body, hf, hb, compC_sound h1, rfl, compRes_sound h2, ‹_›⟩
      · cases h
    · cases h
  · cases h
end
end Go.Am
namespace Go.Am
set_option linter.unusedVariables false
set_option linter.unusedSimpArgs false
variable {T : Tab} {rs : List ARes}

/-- at a loop's head, the slots that are kept written out -/
noncomputable def goL (T : Tab) (rs : List ARes) (kh : List Nat) (c : ACode) (ks : List It) (l : List (Nat × Value)) (h : H) : Res := go T rs (.code c :: .lp kh c :: ks) (Fr.of l) h
/-- the operations of a region that are left -/
noncomputable def goO (T : Tab) (rs : List ARes) (n0 : Nat) (l : List AOper) (ks : List It) (fr : Fr) (h : H) : Res :=
  match runOps T (go T) n0 l fr h with
  | some (fr', h') => go T rs ks fr' h'
  | none => none
noncomputable def goS (T : Tab) (rs : List ARes) (n0 : Nat) (d : Option Nat) (l : List AOper) (ks : List It) (fr : Fr) : Option (Option Value × H) → Res
  | some (v, h') => goO T rs n0 l ks (fr.put d v) h'
  | none => none
noncomputable def goC (T : Tab) (rs : List ARes) (a b : ACode) (ks : List It) (fr : Fr) (h : H) : Bool → Res
  | true => go T rs (.code a :: ks) fr h
  | false => go T rs (.code b :: ks) fr h
noncomputable def goX (T : Tab) (rs : List ARes) (fr : Fr) (h : H) : Option (List Nat × List It) → Res
  | some (ko, k) => go T rs k (Fr.of (keepL fr ko)) h
  | none => none

section
variable {ks : List It} {fr : Fr} {h : H}
@[push_cast] theorem go_nil : go T rs [] fr h = retv rs fr h := by rw [go_eq]; rfl
@[push_cast] theorem go_ret : go T rs (.code .ret :: ks) fr h = retv rs fr h := by rw [go_eq]; rfl
@[push_cast] theorem go_skip : go T rs (.code .skip :: ks) fr h = go T rs ks fr h := by rw [go_eq]; rfl
@[push_cast] theorem go_seq {a b : ACode} : go T rs (.code (.seq a b) :: ks) fr h = go T rs (.code a :: .code b :: ks) fr h := by rw [go_eq]; rfl
@[push_cast] theorem go_cond {c : Operand} {a b : ACode} : go T rs (.code (.cond c a b) :: ks) fr h = match ev fr c with
    | some (.bool t) => goC T rs a b ks fr h t
    | _ => none := by
  rw [go_eq]
  simp only [gF]
  cases ev fr c with
  | none => rfl
  | some v => cases v <;> first | rfl | (rename_i t; cases t <;> rfl)
@[push_cast] theorem goC_true {a b : ACode} : goC T rs a b ks fr h true = go T rs (.code a :: ks) fr h := rfl
@[push_cast] theorem goC_false {a b : ACode} : goC T rs a b ks fr h false = go T rs (.code b :: ks) fr h := rfl
@[push_cast] theorem go_block {id : Nat} {ko : List Nat} {c : ACode} : go T rs (.code (.block id ko c) :: ks) fr h = go T rs (.code c :: .blk id ko :: ks) fr h := by rw [go_eq]; rfl
@[push_cast] theorem go_blk {id : Nat} {ko : List Nat} : go T rs (.blk id ko :: ks) fr h = go T rs ks (Fr.of (keepL fr ko)) h := by rw [go_eq]; rfl
@[push_cast] theorem go_loop {kh : List Nat} {c : ACode} : go T rs (.code (.loop kh c) :: ks) fr h = goL T rs kh c ks (keepL fr kh) h := by rw [go_eq]; rfl
@[push_cast] theorem go_lp {kh : List Nat} {c : ACode} : go T rs (.lp kh c :: ks) fr h = goL T rs kh c ks (keepL fr kh) h := by rw [go_eq]; rfl
theorem goL_eq {kh : List Nat} {c : ACode} {l : List (Nat × Value)} : goL T rs kh c ks l h = go T rs (.code c :: .lp kh c :: ks) (Fr.of l) h := rfl
/-- a round begins: the body is laid open at the head alone -/
theorem goL_at {kh : List Nat} {c c' : ACode} (hc : c = c') {l : List (Nat × Value)} : goL T rs kh c ks l h = go T rs (.code c' :: .lp kh c :: ks) (Fr.of l) h := by subst hc; rfl
@[push_cast] theorem go_exit {id : Nat} : go T rs (.code (.exit id) :: ks) fr h = goX T rs fr h (popTo id ks) := by
  rw [go_eq]; simp only [gF]; unfold goX; split <;> split <;> simp_all
@[push_cast] theorem goX_some {ko : List Nat} {k : List It} : goX T rs fr h (some (ko, k)) = go T rs k (Fr.of (keepL fr ko)) h := rfl
@[push_cast] theorem go_region {l : List AOper} : go T rs (.code (.region l) :: ks) fr h = goO T rs h.length l ks fr h := by rw [go_eq]; rfl
@[push_cast] theorem goO_nil {n0 : Nat} : goO T rs n0 [] ks fr h = go T rs ks fr h := rfl
@[push_cast] theorem goO_cons {n0 : Nat} {o : AOper} {l : List AOper} : goO T rs n0 (o :: l) ks fr h = goS T rs n0 o.dst l ks fr (core T (go T) n0 o fr h) := by
  unfold goO
  simp only [runOps]
  unfold stepO goS
  cases core T (go T) n0 o fr h <;> rfl
@[push_cast] theorem goS_some {n0 : Nat} {d : Option Nat} {l : List AOper} {v : Option Value} {h' : H} : goS T rs n0 d l ks fr (some (v, h')) = goO T rs n0 l ks (fr.put d v) h' := rfl
end
@[push_cast] theorem popTo_blk {id id' : Nat} {ko : List Nat} {k : List It} : popTo id (.blk id' ko :: k) = bif Nat.beq id' id then some (ko, k) else popTo id k := by
  simp only [popTo]
  by_cases he : id' = id
  · subst he; simp
  · have : Nat.beq id' id = false := by cases hb : Nat.beq id' id with
      | false => rfl
      | true => exact absurd (Nat.eq_of_beq_eq_true hb) he
    simp [he, this]
@[push_cast] theorem popTo_code {id : Nat} {c : ACode} {k : List It} : popTo id (.code c :: k) = popTo id k := rfl
@[push_cast] theorem popTo_lp {id : Nat} {kh : List Nat} {c : ACode} {k : List It} : popTo id (.lp kh c :: k) = popTo id k := rfl
@[push_cast] theorem enter_call {f : FuncId} {vs : List Value} {h : H} : enter T (go T) f vs h = call T f vs h := rfl
@[push_cast] theorem behind_false {α : Type} {h h' : H} {r : Option α} : behind false h h' r = r := rfl
theorem behind_true {α : Type} {h h' : H} {r : Option α} (hp : h <+: h') : behind true h h' r = r := by unfold behind; rw [if_pos hp]
@[push_cast] theorem b_true {α : Type} {x y : α} : (bif true then x else y) = x := rfl
@[push_cast] theorem b_false {α : Type} {x y : α} : (bif false then x else y) = y := rfl
@[push_cast] theorem nbeq (a b : Nat) : Nat.beq a b = (a == b) := by
  by_cases h : a = b
  · subst h; simp
  · have : Nat.beq a b = false := by cases hb : Nat.beq a b with
      | false => rfl
      | true => exact absurd (Nat.eq_of_beq_eq_true hb) h
    simp [h, this]
@[push_cast] theorem set_app {fr : Fr} {s t : Nat} {v : Value} : Fr.set fr s v t = bif Nat.beq t s then some v else fr t := rfl
@[push_cast] theorem del_app {fr : Fr} {s t : Nat} : Fr.del fr s t = bif Nat.beq t s then none else fr t := rfl
@[push_cast] theorem of_nil {t : Nat} : Fr.of [] t = none := rfl
@[push_cast] theorem of_cons {t k : Nat} {v : Value} {r : List (Nat × Value)} : Fr.of ((k, v) :: r) t = bif Nat.beq t k then some v else Fr.of r t := rfl
@[push_cast] theorem args_nil {n t : Nat} : Fr.args n [] t = none := rfl
@[push_cast] theorem args_cons {n t : Nat} {v : Value} {r : List Value} : Fr.args n (v :: r) t = bif Nat.beq t n then some v else Fr.args (n + 1) r t := rfl
@[push_cast] theorem put_ss {fr : Fr} {s : Nat} {v : Value} : Fr.put fr (some s) (some v) = fr.set s v := rfl
@[push_cast] theorem put_sn {fr : Fr} {s : Nat} : Fr.put fr (some s) none = fr.del s := rfl
@[push_cast] theorem put_n {fr : Fr} {v : Option Value} : Fr.put fr none v = fr := by cases v <;> rfl
attribute [push_cast] if_true if_false Bool.true_eq_false Bool.false_eq_true Bool.not_true Bool.not_false Bool.and_true Bool.true_and Bool.and_false Bool.false_and Bool.or_true Bool.true_or Bool.or_false Bool.false_or
@[push_cast] theorem beq_tt : (true == true) = true := rfl
@[push_cast] theorem beq_tf : (true == false) = false := rfl
@[push_cast] theorem beq_ft : (false == true) = false := rfl
@[push_cast] theorem beq_ff : (false == false) = true := rfl
@[push_cast] theorem bne_tt : (true != true) = false := rfl
@[push_cast] theorem bne_tf : (true != false) = true := rfl
@[push_cast] theorem bne_ft : (false != true) = true := rfl
@[push_cast] theorem bne_ff : (false != false) = false := rfl
@[push_cast] theorem none_isNone {α : Type} : (none : Option α).isNone = true := rfl
@[push_cast] theorem some_isNone {α : Type} {x : α} : (some x).isNone = false := rfl
@[push_cast] theorem none_isSome {α : Type} : (none : Option α).isSome = false := rfl
@[push_cast] theorem some_isSome {α : Type} {x : α} : (some x).isSome = true := rfl
attribute [push_cast] Nat.zero_add Nat.add_zero Nat.mul_one eq_self ne_eq not_true not_false_iff and_true true_and and_self List.getElem?_cons_zero List.getElem?_cons_succ List.map_cons List.map_nil
attribute [push_cast] core gd older aop abin aint ashift astr aun anil afill bound cat sized evp evo aints mm ev evs closed closed1 keepL retv ress res1 flat Value.cells decide_true decide_false
theorem wrap64 {x : Int} (h1 : -9223372036854775808 ≤ x) (h2 : x ≤ 9223372036854775807) : IntKind.wrap .i64 x = x := by
  rw [IntKind.wrap_i64]; omega
theorem dec_lt {a b : Int} (h : a < b) : decide (a < b) = true := by simpa using h
theorem dec_nlt {a b : Int} (h : b ≤ a) : decide (a < b) = false := by simpa using h
theorem dec_le {a b : Int} (h : a ≤ b) : decide (a ≤ b) = true := by simpa using h
theorem dec_nle {a b : Int} (h : b < a) : decide (a ≤ b) = false := by simpa using h
theorem dec_eq {a b : Int} (h : a = b) : decide (a = b) = true := by simpa using h
theorem dec_ne {a b : Int} (h : ¬ a = b) : decide (a = b) = false := by simpa using h
/-- a call, its code laid open -/
theorem call_at {f : FuncId} {F : AFun} {vs : List Value} {h : H} (hT : T f = some F) (hl : vs.length = F.nargs) : call T f vs h = go T F.results [.code F.code] (Fr.args 0 vs) h := by
  unfold call enter; rw [hT]; simp only; rw [if_pos hl]
end Go.Am
namespace Go.Alg
set_option linter.unusedVariables false
set_option linter.unusedSimpArgs false

class FK (K : Type) extends Zero K, One K, Add K, Mul K, Neg K where
  inv : K → K
  deq : DecidableEq K
  add_assoc : ∀ a b c : K, a + b + c = a + (b + c)
  add_comm : ∀ a b : K, a + b = b + a
  add_zero : ∀ a : K, a + 0 = a
  add_neg : ∀ a : K, a + -a = 0
  mul_assoc : ∀ a b c : K, a * b * c = a * (b * c)
  mul_comm : ∀ a b : K, a * b = b * a
  mul_one : ∀ a : K, a * 1 = a
  mul_add : ∀ a b c : K, a * (b + c) = a * b + a * c
  mul_inv : ∀ a : K, a ≠ 0 → a * inv a = 1
  zero_ne : (0 : K) ≠ 1
instance {K : Type} [FK K] : DecidableEq K := FK.deq
instance {K : Type} [FK K] : Sub K := ⟨fun a b => a + -b⟩
section
variable {K : Type} [FK K]

theorem sub_eq (a b : K) : a - b = a + -b := rfl
theorem zero_add (a : K) : 0 + a = a := by rw [FK.add_comm, FK.add_zero]
theorem neg_add (a : K) : -a + a = 0 := by rw [FK.add_comm, FK.add_neg]
theorem one_mul (a : K) : 1 * a = a := by rw [FK.mul_comm, FK.mul_one]
theorem add_mul (a b c : K) : (a + b) * c = a * c + b * c := by rw [FK.mul_comm, FK.mul_add, FK.mul_comm c a, FK.mul_comm c b]
theorem add_left {a b c : K} (h : a + b = a + c) : b = c := by
  have := congrArg (fun x => -a + x) h
  simpa only [← FK.add_assoc, neg_add, zero_add] using this
theorem add_right {a b c : K} (h : b + a = c + a) : b = c := add_left (a := a) (by rw [FK.add_comm a b, FK.add_comm a c, h])
theorem mul_zero (a : K) : a * 0 = 0 := by
  have h : a * 0 + a * 0 = a * 0 + 0 := by rw [← FK.mul_add, FK.add_zero, FK.add_zero]
  exact add_left h
theorem zero_mul (a : K) : 0 * a = 0 := by rw [FK.mul_comm, mul_zero]
theorem neg_uniq {a b : K} (h : a + b = 0) : b = -a := add_left (a := a) (by rw [h, FK.add_neg])
theorem neg_neg (a : K) : - -a = a := (neg_uniq (neg_add a)).symm
theorem neg_zero : -(0 : K) = 0 := (neg_uniq (FK.add_zero (0 : K))).symm
theorem neg_mul (a b : K) : -a * b = -(a * b) := neg_uniq (by rw [← add_mul, FK.add_neg, zero_mul])
theorem mul_neg (a b : K) : a * -b = -(a * b) := by rw [FK.mul_comm, neg_mul, FK.mul_comm]
theorem neg_add_rev (a b : K) : -(a + b) = -a + -b := (neg_uniq (by rw [FK.add_assoc, ← FK.add_assoc b, FK.add_comm b, FK.add_assoc (-a), FK.add_neg, FK.add_zero, FK.add_neg])).symm
theorem sub_self (a : K) : a - a = 0 := FK.add_neg a
theorem sub_zero (a : K) : a - 0 = a := by rw [sub_eq, neg_zero, FK.add_zero]
theorem zero_sub (a : K) : 0 - a = -a := by rw [sub_eq, zero_add]
theorem sub_add (a b : K) : a - b + b = a := by rw [sub_eq, FK.add_assoc, neg_add, FK.add_zero]
theorem add_sub (a b : K) : a + b - b = a := by rw [sub_eq, FK.add_assoc, FK.add_neg, FK.add_zero]
theorem sub_eq_zero {a b : K} : a - b = 0 ↔ a = b := ⟨fun h => by rw [← sub_add a b, h, zero_add], fun h => by rw [h, sub_self]⟩
theorem mul_sub (a b c : K) : a * (b - c) = a * b - a * c := by rw [sub_eq, sub_eq, FK.mul_add, mul_neg]
theorem sub_mul (a b c : K) : (a - b) * c = a * c - b * c := by rw [sub_eq, sub_eq, add_mul, neg_mul]
theorem one_ne : (1 : K) ≠ 0 := fun h => FK.zero_ne h.symm
theorem inv_mul {a : K} (h : a ≠ 0) : FK.inv a * a = 1 := by rw [FK.mul_comm, FK.mul_inv a h]
theorem mul_left {a b c : K} (ha : a ≠ 0) (h : a * b = a * c) : b = c := by
  have := congrArg (fun x => FK.inv a * x) h
  simpa only [← FK.mul_assoc, inv_mul ha, one_mul] using this
theorem mul_eq_zero {a b : K} (h : a * b = 0) : a = 0 ∨ b = 0 := by
  by_cases ha : a = 0
  · exact .inl ha
  · exact .inr (mul_left ha (by rw [h, mul_zero]))
theorem mul_ne {a b : K} (ha : a ≠ 0) (hb : b ≠ 0) : a * b ≠ 0 := fun h => (mul_eq_zero h).elim ha hb
theorem inv_ne {a : K} (ha : a ≠ 0) : FK.inv a ≠ 0 := fun h => by
  have := FK.mul_inv a ha
  rw [h, mul_zero] at this
  exact FK.zero_ne this
theorem inv_one : FK.inv (1 : K) = 1 := by have := FK.mul_inv (1 : K) one_ne; rwa [one_mul] at this
theorem neg_eq_zero {a : K} : -a = 0 ↔ a = 0 := ⟨fun h => by rw [← neg_neg a, h, neg_zero], fun h => by rw [h, neg_zero]⟩
instance : Std.Associative (α := K) (· + ·) := ⟨FK.add_assoc⟩
instance : Std.Commutative (α := K) (· + ·) := ⟨FK.add_comm⟩
instance : Std.Associative (α := K) (· * ·) := ⟨FK.mul_assoc⟩
instance : Std.Commutative (α := K) (· * ·) := ⟨FK.mul_comm⟩
theorem add4 (a b c d : K) : (a + b) + (c + d) = (a + c) + (b + d) := by ac_rfl
theorem mul_left_comm (a b c : K) : a * (b * c) = b * (a * c) := by ac_rfl

/-! ### sums -/
def sumL {α : Type} (l : List α) (f : α → K) : K := l.foldr (fun a s => f a + s) 0
variable {α β : Type}
theorem sumL_nil (f : α → K) : sumL [] f = 0 := rfl
theorem sumL_cons (a : α) (l : List α) (f : α → K) : sumL (a :: l) f = f a + sumL l f := rfl
theorem sumL_app (f : α → K) : ∀ l l' : List α, sumL (l ++ l') f = sumL l f + sumL l' f
  | [], l' => by rw [List.nil_append, sumL_nil, zero_add]
  | a :: l, l' => by rw [List.cons_append, sumL_cons, sumL_cons, sumL_app f l l', FK.add_assoc]
theorem sumL_add (f g : α → K) : ∀ l : List α, sumL l (fun a => f a + g a) = sumL l f + sumL l g
  | [] => by rw [sumL_nil, sumL_nil, sumL_nil, FK.add_zero]
  | a :: l => by rw [sumL_cons, sumL_cons, sumL_cons, sumL_add f g l, add4]
theorem sumL_mul (c : K) (f : α → K) : ∀ l : List α, sumL l (fun a => c * f a) = c * sumL l f
  | [] => by rw [sumL_nil, sumL_nil, mul_zero]
  | a :: l => by rw [sumL_cons, sumL_cons, sumL_mul c f l, FK.mul_add]
theorem sumL_mulr (c : K) (f : α → K) (l : List α) : sumL l (fun a => f a * c) = sumL l f * c := by
  rw [FK.mul_comm, ← sumL_mul]
  congr 1
  funext a
  rw [FK.mul_comm]
theorem sumL_neg (f : α → K) : ∀ l : List α, sumL l (fun a => -f a) = -sumL l f
  | [] => by rw [sumL_nil, sumL_nil, neg_zero]
  | a :: l => by rw [sumL_cons, sumL_cons, sumL_neg f l, neg_add_rev]
theorem sumL_sub (f g : α → K) (l : List α) : sumL l (fun a => f a - g a) = sumL l f - sumL l g := by
  simp only [sub_eq]
  rw [sumL_add, sumL_neg]
theorem sumL_congr {f g : α → K} : ∀ {l : List α}, (∀ a ∈ l, f a = g a) → sumL l f = sumL l g
  | [], _ => rfl
  | a :: l, h => by rw [sumL_cons, sumL_cons, h a (by simp), sumL_congr fun b hb => h b (by simp [hb])]
theorem sumL_zero {f : α → K} {l : List α} (h : ∀ a ∈ l, f a = 0) : sumL l f = 0 := by
  induction l with
  | nil => rfl
  | cons a l ih => rw [sumL_cons, h a (by simp), ih fun b hb => h b (by simp [hb]), FK.add_zero]
theorem sumL_swap (f : α → β → K) (l' : List β) : ∀ l : List α, sumL l (fun a => sumL l' (f a)) = sumL l' (fun b => sumL l (fun a => f a b))
  | [] => by rw [sumL_nil]; exact (sumL_zero fun _ _ => rfl).symm
  | a :: l => by rw [sumL_cons, sumL_swap f l' l, ← sumL_add]; rfl
theorem sumL_map (g : β → α) (f : α → K) : ∀ l : List β, sumL (l.map g) f = sumL l fun b => f (g b)
  | [] => rfl
  | b :: l => by rw [List.map_cons, sumL_cons, sumL_cons, sumL_map g f l]
theorem sumL_one [DecidableEq α] {f : α → K} {s : α} : ∀ {l : List α}, l.Nodup → s ∈ l → (∀ a ∈ l, a ≠ s → f a = 0) → sumL l f = f s
  | [], _, h, _ => by cases h
  | a :: l, hn, h, h0 => by
    rw [List.nodup_cons] at hn
    rw [sumL_cons]
    by_cases ha : a = s
    · subst ha
      rw [sumL_zero fun b hb => h0 b (by simp [hb]) fun e => hn.1 (e ▸ hb), FK.add_zero]
    · rw [h0 a (by simp) ha, zero_add]
      refine sumL_one hn.2 ?_ fun b hb => h0 b (by simp [hb])
      rcases List.mem_cons.1 h with h | h
      · exact absurd h.symm ha
      · exact h
/-- a sum over the numbers below n -/
def sumN (n : Nat) (f : Nat → K) : K := sumL (List.range n) f
theorem sumN_zero (f : Nat → K) : sumN 0 f = 0 := rfl
theorem sumN_succ (n : Nat) (f : Nat → K) : sumN (n + 1) f = sumN n f + f n := by
  unfold sumN
  rw [List.range_succ, sumL_app, sumL_cons, sumL_nil, FK.add_zero]
theorem sumN_front (n : Nat) (f : Nat → K) : sumN (n + 1) f = f 0 + sumN n fun i => f (i + 1) := by
  unfold sumN
  rw [List.range_succ_eq_map, sumL_cons, sumL_map]
theorem sumN_one {n s : Nat} {f : Nat → K} (hs : s < n) (h : ∀ a, a < n → a ≠ s → f a = 0) : sumN n f = f s :=
  sumL_one List.nodup_range (List.mem_range.2 hs) fun a ha => h a (List.mem_range.1 ha)
theorem sumN_congr {n : Nat} {f g : Nat → K} (h : ∀ a, a < n → f a = g a) : sumN n f = sumN n g := sumL_congr fun a ha => h a (List.mem_range.1 ha)
theorem sumN_null {n : Nat} {f : Nat → K} (h : ∀ a, a < n → f a = 0) : sumN n f = 0 := sumL_zero fun a ha => h a (List.mem_range.1 ha)
end
end Go.Alg
namespace Go.Alg
set_option linter.unusedVariables false
set_option linter.unusedSimpArgs false
section
variable {K : Type} [FK K]

theorem sumN_split (m n : Nat) (f : Nat → K) : sumN (m + n) f = sumN m f + sumN n fun i => f (m + i) := by
  induction n with
  | zero => rw [Nat.add_zero, sumN_zero, FK.add_zero]
  | succ n ih => rw [← Nat.add_assoc, sumN_succ, ih, sumN_succ, FK.add_assoc]
theorem sumN_cut {m n : Nat} {f : Nat → K} (h : m ≤ n) (h0 : ∀ k, m ≤ k → k < n → f k = 0) : sumN n f = sumN m f := by
  obtain ⟨d, rfl⟩ : ∃ d, n = m + d := ⟨n - m, by omega⟩
  rw [sumN_split, sumN_null (n := d) (f := fun i => f (m + i)) fun a ha => h0 _ (by omega) (by omega), FK.add_zero]
/-- what a rule says at a place -/
def disc (C s : Nat → K) (j : Nat) : K := sumN (j + 1) fun k => C k * s (j - k)
theorem disc_cut {C s : Nat → K} {L j : Nat} (hC : ∀ k, L < k → C k = 0) (hj : L ≤ j) : disc C s j = sumN (L + 1) fun k => C k * s (j - k) :=
  sumN_cut (by omega) fun k hk _ => by rw [hC k (by omega), zero_mul]
def shift (g : Nat) (B : Nat → K) (k : Nat) : K := if k < g then 0 else B (k - g)
theorem disc_shift {B s : Nat → K} {g j : Nat} : disc (shift g B) s j = if g ≤ j then disc B s (j - g) else 0 := by
  by_cases h : g ≤ j
  · rw [if_pos h]
    unfold disc
    rw [show j + 1 = g + (j - g + 1) by omega, sumN_split, sumN_null fun a ha => by unfold shift; rw [if_pos ha, zero_mul], zero_add]
    refine sumN_congr fun a ha => ?_
    unfold shift
    rw [if_neg (by omega), show g + a - g = a by omega, show j - (g + a) = j - g - a by omega]
  · rw [if_neg h]
    exact sumN_null fun a ha => by unfold shift; rw [if_pos (by omega), zero_mul]
theorem disc_add {C D s : Nat → K} {c : K} {j : Nat} : disc (fun k => C k + c * D k) s j = disc C s j + c * disc D s j := by
  unfold disc sumN
  rw [← sumL_mul, ← sumL_add]
  refine sumL_congr fun a _ => ?_
  rw [add_mul, FK.mul_assoc]
/-- a rule of so many numbers holds below a place -/
structure Rule (s : Nat → K) (C : Nat → K) (L n : Nat) : Prop where
  one : C 0 = 1
  end' : ∀ k, L < k → C k = 0
  holds : ∀ j, L ≤ j → j < n → disc C s j = 0
/-- where one fails no short one holds -/
theorem rule_low {s C C' : Nat → K} {L L' i : Nat} (h : Rule s C L i) (hd : disc C s i ≠ 0) (h' : Rule s C' L' (i + 1)) : i + 1 ≤ L + L' := by
  refine Classical.byContradiction fun hlt => hd ?_
  have hle : L + L' ≤ i := by omega
  have e1 : sumN (L + 1) (fun k => C k * disc C' s (i - k)) = 0 := sumN_null fun k hk => by rw [h'.holds (i - k) (by omega) (by omega), mul_zero]
  have e2 : sumN (L + 1) (fun k => C k * disc C' s (i - k)) = sumN (L' + 1) fun l => C' l * disc C s (i - l) := by
    have a1 : ∀ k, k < L + 1 → C k * disc C' s (i - k) = sumN (L' + 1) fun l => C k * (C' l * s (i - k - l)) := fun k hk => by
      rw [disc_cut h'.end' (by omega)]; exact (sumL_mul _ _ _).symm
    have a2 : ∀ l, l < L' + 1 → C' l * disc C s (i - l) = sumN (L + 1) fun k => C k * (C' l * s (i - k - l)) := fun l hl => by
      rw [disc_cut h.end' (by omega)]
      refine (sumL_mul _ _ _).symm.trans (sumL_congr fun k _ => ?_)
      rw [mul_left_comm, show i - l - k = i - k - l by omega]
    rw [sumN_congr a1, sumN_congr a2]
    exact sumL_swap _ _ _
  have e3 : sumN (L' + 1) (fun l => C' l * disc C s (i - l)) = disc C s i := by
    rw [sumN_one (s := 0) (by omega) fun l hl h0 => by rw [h.holds (i - l) (by omega) (by omega), mul_zero], h'.one, one_mul, Nat.sub_zero]
  rw [← e3, ← e2, e1]
/-- how things stand at a place -/
structure Mas (s : Nat → K) (i : Nat) (C B : Nat → K) (gap : Nat) (last : K) (L : Nat) : Prop where
  rule : Rule s C L i
  le : L ≤ i
  low : ∀ (C' : Nat → K) (L' : Nat), Rule s C' L' i → L ≤ L'
  ne : last ≠ 0
  old : (L = 0 ∧ gap = i + 1 ∧ ∀ k, 0 < k → B k = 0) ∨ ∃ ib Lb, ib < i ∧ gap + ib = i ∧ L + Lb = ib + 1 ∧ (∀ k, Lb < k → B k = 0) ∧ (∀ j, Lb ≤ j → j < ib → disc B s j = 0) ∧ disc B s ib = last
theorem Rule.less {s C : Nat → K} {L n m : Nat} (h : Rule s C L n) (hm : m ≤ n) : Rule s C L m := ⟨h.one, h.end', fun j h1 h2 => h.holds j h1 (by omega)⟩
theorem Mas.start (s : Nat → K) {C B : Nat → K} (hC : C 0 = 1) (hC0 : ∀ k, 0 < k → C k = 0) (hB : ∀ k, 0 < k → B k = 0) : Mas s 0 C B 1 1 0 :=
  ⟨⟨hC, hC0, fun j h1 h2 => by omega⟩, Nat.le_refl _, fun _ _ _ => Nat.zero_le _, one_ne, .inl ⟨rfl, rfl, hB⟩⟩
theorem Mas.same {s : Nat → K} {i : Nat} {C B : Nat → K} {gap : Nat} {last : K} {L : Nat} (h : Mas s i C B gap last L) (hd : disc C s i = 0) : Mas s (i + 1) C B (gap + 1) last L := by
  refine ⟨⟨h.rule.one, h.rule.end', fun j h1 h2 => ?_⟩, by have := h.le; omega, fun C' L' h' => h.low C' L' (h'.less (by omega)), h.ne, ?_⟩
  · by_cases he : j = i
    · rw [he]; exact hd
    · exact h.rule.holds j h1 (by omega)
  · rcases h.old with ⟨h1, h2, h3⟩ | ⟨ib, Lb, h1, h2, h3, h4⟩
    · exact .inl ⟨h1, by omega, h3⟩
    · exact .inr ⟨ib, Lb, by omega, by omega, h3, h4⟩
theorem Mas.turn {s : Nat → K} {i : Nat} {C B N : Nat → K} {gap : Nat} {last : K} {L : Nat} (h : Mas s i C B gap last L) (hd : disc C s i ≠ 0) (hN : ∀ k, N k = C k + -(disc C s i * FK.inv last) * shift gap B k) :
    if 2 * L ≤ i then Mas s (i + 1) N C 1 (disc C s i) (i + 1 - L) else Mas s (i + 1) N B (gap + 1) last L := by
  obtain ⟨c, hc⟩ : ∃ c, -(disc C s i * FK.inv last) = c := ⟨_, rfl⟩
  rw [hc] at hN
  have hNf : N = fun k => C k + c * shift gap B k := by funext k; exact hN k
  have hND : ∀ j, disc N s j = disc C s j + c * (if gap ≤ j then disc B s (j - gap) else 0) := fun j => by rw [hNf, disc_add, disc_shift]
  have hgap : 0 < gap := by
    rcases h.old with ⟨_, h2, _⟩ | ⟨ib, Lb, h1, h2, _⟩ <;> omega
  have hN0 : N 0 = 1 := by rw [hN, h.rule.one]; unfold shift; rw [if_pos hgap, mul_zero, FK.add_zero]
  have hcl : c * last = -disc C s i := by rw [← hc, neg_mul, FK.mul_assoc, inv_mul h.ne, FK.mul_one]
  have hlow : ∀ (C' : Nat → K) (L' : Nat), Rule s C' L' (i + 1) → i + 1 ≤ L + L' := fun C' L' h' => rule_low h.rule hd h'
  have hle := h.le
  by_cases h2 : 2 * L ≤ i
  · rw [if_pos h2]
    refine ⟨⟨hN0, fun k hk => ?_, fun j h3 h4 => ?_⟩, by omega, fun C' L' h' => by have := hlow C' L' h'; omega, hd, .inr ⟨i, L, by omega, by omega, by omega, h.rule.end', h.rule.holds, rfl⟩⟩
    · rw [hN, h.rule.end' k (by omega), zero_add]
      rcases h.old with ⟨o1, o2, o3⟩ | ⟨ib, Lb, o1, o2, o3, o4, o5⟩
      · unfold shift; rw [if_neg (by omega), o3 _ (by omega), mul_zero]
      · unfold shift; rw [if_neg (by omega), o4 _ (by omega), mul_zero]
    · rw [hND]
      rcases h.old with ⟨o1, o2, o3⟩ | ⟨ib, Lb, o1, o2, o3, o4, o5, o6⟩
      · omega
      · rw [if_pos (by omega)]
        by_cases he : j = i
        · rw [he, show i - gap = ib by omega, o6, hcl, FK.add_neg]
        · rw [h.rule.holds j (by omega) (by omega), o5 _ (by omega) (by omega), mul_zero, FK.add_zero]
  · rw [if_neg h2]
    rcases h.old with ⟨o1, o2, o3⟩ | ⟨ib, Lb, o1, o2, o3, o4, o5, o6⟩
    · omega
    · refine ⟨⟨hN0, fun k hk => ?_, fun j h3 h4 => ?_⟩, by omega, fun C' L' h' => h.low C' L' (h'.less (by omega)), h.ne, .inr ⟨ib, Lb, by omega, by omega, o3, o4, o5, o6⟩⟩
      · rw [hN, h.rule.end' k hk, zero_add]
        unfold shift; rw [if_neg (by omega), o4 _ (by omega), mul_zero]
      · rw [hND, if_pos (by omega)]
        by_cases he : j = i
        · rw [he, show i - gap = ib by omega, o6, hcl, FK.add_neg]
        · rw [h.rule.holds j (by omega) (by omega), o5 _ (by omega) (by omega), mul_zero, FK.add_zero]
end
end Go.Alg
namespace Go.Proofs.Ytammndhoillliaa
open Go.Am
set_option linter.unusedVariables false
set_option linter.unusedSimpArgs false
set_option maxRecDepth 100000
set_option maxHeartbeats 1600000

theorem disable (w : World) : (callFunc 182 #[]).run Try.prog w = .ok (.value (.tuple #[])) w := run_call_mark0 Try.func182 (by kernel_rfl) (by kernel_rfl) (by kernel_rfl) .disable (by kernel_rfl) w
theorem enable (w : World) : (callFunc 184 #[]).run Try.prog w = .ok (.value (.tuple #[])) w := run_call_mark0 Try.func184 (by kernel_rfl) (by kernel_rfl) (by kernel_rfl) .enable (by kernel_rfl) w
theorem acquire (a : Addr) (w : World) : (callFunc 185 #[.pointer (some a)]).run Try.prog w = .ok (.value (.tuple #[])) w := run_call_marked Try.func185 (by kernel_rfl) (by kernel_rfl) (by kernel_rfl) .acquire (by kernel_rfl) a w
theorem releaseMerge (a : Addr) (w : World) : (callFunc 187 #[.pointer (some a)]).run Try.prog w = .ok (.value (.tuple #[])) w := run_call_marked Try.func187 (by kernel_rfl) (by kernel_rfl) (by kernel_rfl) .releaseMerge (by kernel_rfl) a w

/-- '(*sync/atomic.Bool).Store(true)', entered as a deferred call. -/
theorem store_deferred (a : Addr) (x : Value) (u : FrameMode) (w : World) (hc : w.cell? a = some x) (hz : w.frozen? a = false) :
    CallsD Try.prog 170 #[.pointer (some a), .bool true] u w fun e u' w' => u' = u ∧ (e = .returned (.tuple #[]) ∧ w' = w.drew.setCell a (.int .u32 1)) := by
  have hc' : w.drew.cell? a = some x := by go_simp
  have hz' : w.drew.frozen? a = false := by go_simp
  have hst := run_call_store (P := Try.prog) Try.func178 (by kernel_rfl) (by kernel_rfl) (by kernel_rfl) (by kernel_rfl) (k := .u32) (y := 1) hc' hz'
  go_enter_d Try.func170, Try.ntmps170
  go_wp2
  go_region_calls
  all_goals (go_end0; exact ⟨rfl, rfl⟩)

/-- '(*sync.Mutex).Unlock', entered as a deferred call, the lock held. -/
theorem unlock_deferred (a : Addr) (u : FrameMode) (w : World) (hc : w.cell? a = some (.int .i32 1)) (hz : w.frozen? a = false) :
    CallsD Try.prog 169 #[.pointer (some a)] u w fun e u' w' => u' = u ∧ (e = .returned (.tuple #[]) ∧ w' = w.setCell a (.int .i32 0)) := by
  have hd := disable
  have he := enable
  have hr := releaseMerge
  have hadd := run_call_add (P := Try.prog) Try.func188 (by kernel_rfl) (by kernel_rfl) (by kernel_rfl) .i32 (by kernel_rfl) (y := -1) (s := 0) hc hz (by simp [go_sem]; rfl)
  have hcv := run_convert_to_unsafe (P := Try.prog) (src := 175) (dst := 179) Try.underlying175 Try.underlying179 (by kernel_rfl) hc
  go_enter_d Try.func169, Try.ntmps169
  go_wp2
  go_end0
  go_wp2
  go_end0
  exact ⟨rfl, rfl⟩

/-- '(*sync.Mutex).Lock', the lock free. -/
theorem lock_free (a : Addr) (w : World) (hc : w.cell? a = some (.int .i32 0)) (hz : w.frozen? a = false) :
    Calls Try.prog 168 #[.pointer (some a)] w fun e w' => e = .returned (.tuple #[]) ∧ w' = w.setCell a (.int .i32 1) := by
  have hd := disable
  have he := enable
  have ha := acquire
  have hcas := run_call_cas_hit (P := Try.prog) Try.func183 (by kernel_rfl) (by kernel_rfl) (by kernel_rfl) .i32 (by kernel_rfl) (y := 1) hc hz
  have hc' : (w.setCell a (.int .i32 1)).cell? a = some (.int .i32 1) := World.cell?_setCell_same w a _ hc
  have hcv := run_convert_to_unsafe (P := Try.prog) (src := 175) (dst := 179) Try.underlying175 Try.underlying179 (by kernel_rfl) hc'
  go_enter Try.func168, Try.ntmps168
  go_wp2
  first | go_end0 | (simp only [Exit.inBlock, Exit.then]; refine bodyPost_ret (results_none rfl _ _ _) rfl ?_) | refine bodyPost_ret (results_none rfl _ _ _) rfl ?_
  go_wp2
  go_end0
  exact ⟨rfl, rfl⟩

/-- '(*sync.Once).doSlow', not yet done and the lock free, of whatever function. -/
theorem slow_any (b off : Nat) (k : FuncId) (cap : Array Value) (w : World) (R : World → Prop)
    (hk : ∀ w : World, (callFunc k cap).run Try.prog w = .ok (.enter k cap) w)
    (h0 : w.cell? ⟨b, off, none⟩ = some (.int .u32 0)) (h1 : w.cell? ⟨b, off + 1, none⟩ = some (.int .i32 0)) (f1 : w.frozen? ⟨b, off + 1, none⟩ = false)
    (hc : Calls Try.prog k cap (w.setCell ⟨b, off + 1, none⟩ (.int .i32 1)) fun e w' => (∃ v, e = .returned v) ∧ w'.cell? ⟨b, off, none⟩ = some (.int .u32 0) ∧ w'.cell? ⟨b, off + 1, none⟩ = some (.int .i32 1) ∧ w'.frozen? ⟨b, off, none⟩ = false ∧ w'.frozen? ⟨b, off + 1, none⟩ = false ∧ R w') :
    Calls Try.prog 156 #[.pointer (some ⟨b, off, none⟩), .func (.func k) #[] cap] w fun e w' => e = .returned (.tuple #[]) ∧
      ∃ w2, R w2 ∧ w' = (w2.drew.setCell ⟨b, off, none⟩ (.int .u32 1)).setCell ⟨b, off + 1, none⟩ (.int .i32 0) := by
  have hl := run_call_load (P := Try.prog) Try.func167 (by kernel_rfl) (by kernel_rfl) (by kernel_rfl) .u32 (by kernel_rfl) (w := w.setCell ⟨b, off + 1, none⟩ (.int .i32 1)) (a := ⟨b, off, none⟩) (x := 0) ((World.cell?_setCell_other _ ⟨b, off + 1, none⟩ ⟨b, off, none⟩ _ (by simp)).trans h0)
  have hnot : ∀ (x : Bool) (w : World), (Op.unary .not (.bool x)).run Try.prog w = .ok (.bool (!x)) w := fun _ _ => rfl
  go_enter_defers Try.func156, Try.ntmps156
  go_wp2_with (go_at_call 168; refine (lock_free ⟨b, off + 1, none⟩ _ (by go_simp) (by go_simp)).mono ?_; rintro e w' ⟨rfl, rfl⟩)
  go_wp2
  refine hc.mono ?_
  rintro e w' ⟨⟨v, rfl⟩, c0, c1, z0, z1, hR⟩
  go_wp2
  -- two deferred calls, the last laid first
  refine leaves_cons (f := 170) (args := #[.pointer (some ⟨b, off, none⟩), .bool true]) (by simp) (by simp [go_sem]) ?_
  refine (store_deferred ⟨b, off, none⟩ (.int .u32 0) .returning _ c0 z0).mono ?_
  rintro e u' w'' ⟨rfl, rfl, rfl⟩
  refine leaves_cons (f := 169) (args := #[.pointer (some ⟨b, off + 1, none⟩)]) (by simp [settle]) (by simp [go_sem]) ?_
  refine (unlock_deferred ⟨b, off + 1, none⟩ _ _ ?_ (by simp [z1])).mono ?_
  · refine (World.cell?_setCell_other _ ⟨b, off, none⟩ ⟨b, off + 1, none⟩ _ (by simp)).trans ?_
    rw [World.cell?_drew]
    exact c1
  rintro e u' w'' ⟨rfl, rfl, rfl⟩
  simp [Leaves, settle, results, Try.results156]
  exact ⟨_, hR, rfl⟩

/-- '(*sync.Once).Do', not yet done and the lock free, of whatever function. -/
theorem do_any (b off : Nat) (k : FuncId) (cap : Array Value) (w : World) (R : World → Prop)
    (hk : ∀ w : World, (callFunc k cap).run Try.prog w = .ok (.enter k cap) w)
    (h0 : w.cell? ⟨b, off, none⟩ = some (.int .u32 0)) (h1 : w.cell? ⟨b, off + 1, none⟩ = some (.int .i32 0)) (f1 : w.frozen? ⟨b, off + 1, none⟩ = false)
    (hc : Calls Try.prog k cap (w.setCell ⟨b, off + 1, none⟩ (.int .i32 1)) fun e w' => (∃ v, e = .returned v) ∧ w'.cell? ⟨b, off, none⟩ = some (.int .u32 0) ∧ w'.cell? ⟨b, off + 1, none⟩ = some (.int .i32 1) ∧ w'.frozen? ⟨b, off, none⟩ = false ∧ w'.frozen? ⟨b, off + 1, none⟩ = false ∧ R w') :
    Calls Try.prog 122 #[.pointer (some ⟨b, off, none⟩), .func (.func k) #[] cap] w fun e w' => e = .returned (.tuple #[]) ∧
      ∃ w2, R w2 ∧ w' = (w2.drew.setCell ⟨b, off, none⟩ (.int .u32 1)).setCell ⟨b, off + 1, none⟩ (.int .i32 0) := by
  have hl := run_call_load (P := Try.prog) Try.func167 (by kernel_rfl) (by kernel_rfl) (by kernel_rfl) .u32 (by kernel_rfl) h0
  have hnot : ∀ (x : Bool) (w : World), (Op.unary .not (.bool x)).run Try.prog w = .ok (.bool (!x)) w := fun _ _ => rfl
  go_enter Try.func122, Try.ntmps122
  go_wp2_with (first | (go_at_call 156; refine (slow_any b off k cap _ R hk h0 h1 f1 hc).mono ?_; rintro e w' ⟨rfl, h⟩) | (go_at_call 155; go_in))
  go_end0
  exact ⟨rfl, h⟩
end Go.Proofs.Ytammndhoillliaa
namespace Go.Am
open Go.RowKit (Below)
set_option linter.unusedVariables false
set_option linter.unusedSimpArgs false
theorem runOps_cons {T : Tab} {g : List ARes → List It → Fr → H → Res} {n0 : Nat} {o : AOper} {l : List AOper} {fr : Fr} {h : H} {r : Fr × H} (hr : runOps T g n0 (o :: l) fr h = some r) :
    ∃ v h1, core T g n0 o fr h = some (v, h1) ∧ runOps T g n0 l (fr.put o.dst v) h1 = some r := by
  simp only [runOps] at hr
  split at hr
  · rename_i fr' h' hs
    unfold stepO at hs
    split at hs
    · rename_i v h1 hc
      cases hs
      exact ⟨_, _, hc, hr⟩
    · cases hs
  · cases hr
theorem core_op {T : Tab} {g : List ARes → List It → Fr → H → Res} {n0 : Nat} {d : Option Nat} {op : AOp} {fr : Fr} {h : H} {r : Option Value × H} (hop : (∀ f a, op ≠ .call f a) ∧ ∀ x a, op ≠ .calld x a) (hr : core T g n0 ⟨d, op, none, false⟩ fr h = some r) : aop fr h op = some r := by
  unfold core at hr
  simp only [gd] at hr
  cases op <;> simp_all [older]
theorem HR.set1 {P : Program} {φ : Ren} {B : Nat} {h h' : H} {w : World} (hh : HR φ B h w) {o off : Nat} {k : IntKind} {n : Int} (hs : h.sts o off [.int k n] = some h') :
    HR φ B h' (w.setCell ⟨(φ o).blk, (φ o).sh + off, none⟩ (.int k n)) ∧ h'.length = h.length ∧ Below B w (w.setCell ⟨(φ o).blk, (φ o).sh + off, none⟩ (.int k n)) := by
  obtain ⟨w', h1, h2, h3, h4⟩ := hh.stores (P := P) hs (vs' := [.int k n]) (LR.cons (.int k n) (LR.nil _ _)) (by simp [Value.oneCell'])
  obtain ⟨r, hr, ho, hfit, rfl⟩ := sts_spec hs
  obtain ⟨_, _, _, cur, g4, _, _⟩ := hh.own o r hr ho
  have hlt : off < r.cells.length := by simp at hfit; omega
  obtain ⟨u, hu, _⟩ := hh.cell hr (List.getElem?_eq_getElem hlt)
  have hf : w.frozen? ⟨(φ o).blk, (φ o).sh + off, none⟩ = false := by simp [World.frozen?, g4]
  have h5 : (storeCells ⟨(φ o).blk, (φ o).sh + off, none⟩ [Value.int k n]).run P w = .ok () (w.setCell ⟨(φ o).blk, (φ o).sh + off, none⟩ (.int k n)) := by
    simp [storeCells, Addr.add, run_store_int, stored, hf, hu]
  rw [h1] at h5
  cases h5
  exact ⟨h2, h3, h4⟩
end Go.Am
namespace Go.Am
theorem ld_inv {fr : Fr} {h h1 : H} {s : Nat} {v : Option Value} (hr : aop fr h (.ld false 1 (.tmp s)) = some (v, h1)) :
    ∃ a : Addr, fr s = some (.pointer (some a)) ∧ a.spot = none ∧ (∃ u, h.ld1 a.block a.off = some u ∧ v = some u) ∧ h1 = h := by
  simp only [aop, ev] at hr
  split at hr
  · rename_i a ha
    split at hr
    · cases hr
    · rename_i hs
      split at hr
      · rename_i u hu
        cases hr
        exact ⟨a, ha, by simpa using hs, ⟨u, hu, rfl⟩, rfl⟩
      · cases hr
  · cases hr
theorem eq_inv {fr : Fr} {h h1 : H} {s : Nat} {k : IntKind} {c : Int} {v : Option Value} (hr : aop fr h (.bin .eql (.tmp s) (.const (.int k c))) = some (v, h1)) :
    ∃ x : Int, fr s = some (.int k x) ∧ v = some (.bool (decide (x = c))) ∧ h1 = h := by
  simp only [aop, ev, closed, closed1, if_true] at hr
  split at hr
  · rename_i a b ha hb
    cases hb
    split at hr
    · rename_i u hu
      cases hr
      unfold abin at hu
      split at hu
      · rename_i e1
        cases e1
        simp only at hu
        split at hu
        · rename_i e2
          subst e2
          cases hu
          exact ⟨_, ha, rfl, rfl⟩
        · cases hu
      · rename_i e1; cases e1
      · cases hu
    · cases hr
  · cases hr
theorem pick_inv {fr : Fr} {h h1 : H} {c a b : Nat} {t : Bool} {v : Option Value} (hr : aop fr h (.pick (.tmp c) (.tmp a) (.tmp b)) = some (v, h1)) (hc : fr c = some (.bool t)) (hb : fr b = none) : t = true ∧ (∃ u, v = some u) ∧ h1 = h := by
  cases t with
  | true =>
    simp only [aop, ev, hc, if_true] at hr
    split at hr
    · cases hr; exact ⟨rfl, ⟨_, rfl⟩, rfl⟩
    · cases hr
  | false =>
    have : aop fr h (.pick (.tmp c) (.tmp a) (.tmp b)) = none := by simp [aop, ev, hc, hb]
    rw [this] at hr; cases hr
theorem faddr_inv {fr : Fr} {h h1 : H} {s off : Nat} {v : Option Value} (hr : aop fr h (.faddr off (.tmp s)) = some (v, h1)) :
    ∃ a : Addr, fr s = some (.pointer (some a)) ∧ a.spot = none ∧ v = some (.pointer (some ⟨a.block, a.off + off, none⟩)) ∧ h1 = h := by
  simp only [aop, ev] at hr
  split at hr
  · rename_i a ha
    split at hr
    · cases hr
    · rename_i hs
      cases hr
      exact ⟨a, ha, by simpa using hs, rfl, rfl⟩
  · cases hr
theorem st_inv {fr : Fr} {h h1 : H} {s : Nat} {k : IntKind} {c : Int} {v : Option Value} (hr : aop fr h (.st 1 (.tmp s) (.const (.int k c))) = some (v, h1)) :
    ∃ a : Addr, fr s = some (.pointer (some a)) ∧ a.spot = none ∧ h.sts a.block a.off [.int k c] = some h1 ∧ v = none := by
  simp only [aop, ev, closed, closed1, if_true] at hr
  split at hr
  · rename_i a u ha hu
    cases hu
    split at hr
    · cases hr
    · rename_i hs
      simp only [Value.cells] at hr
      split at hr
      · rename_i h2 h3
        cases hr
        exact ⟨a, ha, by simp at hs; exact hs.1.1, h3, rfl⟩
      · cases hr
  · cases hr
theorem calld_inv {T : Tab} {g : List ARes → List It → Fr → H → Res} {n0 s : Nat} {d : Option Nat} {fr : Fr} {h h1 : H} {v : Option Value} (hr : core T g n0 ⟨d, .calld (.tmp s) [], none, false⟩ fr h = some (v, h1)) :
    ∃ k first cap u, fr s = some (.func (.func k) first cap) ∧ first.isEmpty = true ∧ enter T g k cap.toList h = some (u, h1) ∧ v = some u := by
  unfold core at hr
  simp only [gd, evs, ev] at hr
  split at hr
  · rename_i f first cap vs h1 h2
    cases h2
    split at hr
    · rename_i he
      split at hr
      · rename_i u h2 h3
        cases hr
        exact ⟨f, first, cap, u, h1, he, by simpa using h3, rfl⟩
      · cases hr
    · cases hr
  · cases hr
abbrev op0 (d : Option Nat) (o : AOp) : AOper := ⟨d, o, none, false⟩
def cDo : ACode := .region [op0 (some 2) (.ld false 1 (.tmp 0)), op0 (some 3) (.bin .eql (.tmp 2) (.const (.int .u32 0))), op0 (some 3) (.pick (.tmp 3) (.tmp 0) (.tmp 99)),
  op0 (some 4) (.faddr 1 (.tmp 0)), op0 (some 5) (.ld false 1 (.tmp 4)), op0 (some 3) (.bin .eql (.tmp 5) (.const (.int .i32 0))), op0 (some 3) (.pick (.tmp 3) (.tmp 0) (.tmp 99)),
  op0 none (.st 1 (.tmp 4) (.const (.int .i32 1))), op0 (some 6) (.calld (.tmp 1) []),
  op0 (some 7) (.ld false 1 (.tmp 0)), op0 (some 3) (.bin .eql (.tmp 7) (.const (.int .u32 0))), op0 (some 3) (.pick (.tmp 3) (.tmp 0) (.tmp 99)),
  op0 (some 8) (.ld false 1 (.tmp 4)), op0 (some 3) (.bin .eql (.tmp 8) (.const (.int .i32 1))), op0 (some 3) (.pick (.tmp 3) (.tmp 0) (.tmp 99)),
  op0 none (.st 1 (.tmp 0) (.const (.int .u32 1))), op0 none (.st 1 (.tmp 4) (.const (.int .i32 0)))]
def FDo : AFun := ⟨cDo, 2, 10, []⟩
end Go.Am
namespace Go.Proofs.Ytammndhoillliaa
open Go.Am Go.RowKit
theorem ld1_cell {φ : Ren} {B : Nat} {h : H} {w : World} (hH : HR φ B h w) {o off : Nat} {k : IntKind} {n : Int} (hl : h.ld1 o off = some (.int k n)) : w.cell? ⟨(φ o).blk, (φ o).sh + off, none⟩ = some (.int k n) := by
  unfold H.ld1 at hl
  split at hl
  · rename_i r hr
    obtain ⟨u, h1, h2⟩ := hH.cell hr hl
    cases h2
    exact h1
  · cases hl
theorem sts_frozen {φ : Ren} {B : Nat} {h h' : H} {w : World} (hH : HR φ B h w) {o off : Nat} {vs : List Value} (hs : h.sts o off vs = some h') (i : Nat) : w.frozen? ⟨(φ o).blk, i, none⟩ = false := by
  obtain ⟨r, hr, ho, _, _⟩ := sts_spec hs
  obtain ⟨_, _, _, cur, g4, _, _⟩ := hH.own o r hr ho
  simp [World.frozen?, g4]
theorem do_mem {T : Tab} {B : Nat} {g : List ARes → List It → Fr → H → Res} (hT : ∀ f F, T f = some F → HasBody Try.prog f) {k : FuncId} (ih : CallOK Try.prog B T g k) {h0 h1 h2 h3 h4 : H} {a : Addr} {first cap : Array Value} {u p' f' : Value}
    (hfi : first.isEmpty = true) (l1 : h0.ld1 a.block a.off = some (.int .u32 0)) (l5 : h0.ld1 a.block (a.off + 1) = some (.int .i32 0)) (s8 : h0.sts a.block (a.off + 1) [.int .i32 1] = some h1)
    (hen : enter T g k cap.toList h1 = some (u, h2)) (l10 : h2.ld1 a.block a.off = some (.int .u32 0)) (l13 : h2.ld1 a.block (a.off + 1) = some (.int .i32 1))
    (s16 : h2.sts a.block a.off [.int .u32 1] = some h3) (s17 : h3.sts a.block (a.off + 1) [.int .i32 0] = some h4) {φ : Ren} {w : World}
    (hp : VR φ h0.length (.pointer (some a)) p') (hf : VR φ h0.length (.func (.func k) first cap) f') (hH : HR φ B h0 w) :
    Calls Try.prog 122 [p', f'].toArray w fun e w' => ∃ φ' v', e = .returned v' ∧ VR φ' h4.length (.tuple #[]) v' ∧ HR φ' B h4 w' ∧ Ext φ h0.length φ' ∧ Below B w w' := by
  obtain ⟨hsp, hlt, hpe⟩ := ptr_inv hp
  have hcap : ∃ cap', f' = .func (.func k) #[] cap' ∧ LR φ h0.length cap.toList cap'.toList := by
    cases hf with
    | func _ _ cs' hsz hh => exact ⟨cs', rfl, LR.of_arrays hsz hh⟩
  obtain ⟨cap', rfl, hLcap⟩ := hcap
  subst hpe
  obtain ⟨hH1, hl1, hb1⟩ := hH.set1 (P := Try.prog) s8
  have hcall := ih cap.toList cap'.toList h1 h2 u hen φ _ (by rw [hl1]; exact hLcap) hH1
  have hk : ∀ w : World, (callFunc k cap').run Try.prog w = .ok (.enter k cap') w := fun w => by
    have := enter_fun (vs' := cap'.toList) hT hen w
    simpa using this
  have hcap2 : cap'.toList.toArray = cap' := by simp
  rw [hcap2] at hcall
  refine (do_any (φ a.block).blk ((φ a.block).sh + a.off) k cap' w (fun w' => ∃ φ', HR φ' B h2 w' ∧ Ext φ h0.length φ' ∧ Below B w w') hk (ld1_cell hH l1) (ld1_cell hH l5) (sts_frozen hH s8 _) (hcall.mono ?_)).mono ?_
  · rintro e w' ⟨φ', v', rfl, hv', hH', hE', hB'⟩
    rw [hl1] at hE'
    have hφ := hE' a.block hlt
    have c0 := ld1_cell hH' l10
    have c1 := ld1_cell hH' l13
    have z0 := fun i => sts_frozen hH' s16 i
    rw [hφ] at c0 c1 z0
    exact ⟨⟨v', rfl⟩, c0, c1, z0 _, z0 _, φ', hH', hE', hb1.trans hB'⟩
  · rintro e w' ⟨rfl, w2, ⟨φ', hH', hE', hB'⟩, rfl⟩
    have hd : HR φ' B h2 w2.drew := hH'.drawn _
    obtain ⟨g1, g2, g3⟩ := hd.set1 (P := Try.prog) s16
    obtain ⟨k1, k2, k3⟩ := g1.set1 (P := Try.prog) s17
    have hφ := hE' a.block hlt
    rw [hφ] at g1 g3 k1 k3
    have h0 : Below B w2 w2.drew := ⟨rfl, rfl, rfl, Nat.le_refl _, fun _ _ => rfl⟩
    exact ⟨φ', .tuple #[], rfl, .tuple #[] #[] rfl (fun i hi => absurd hi (by simp)), k1, hE', hB'.trans (h0.trans (g3.trans k3))⟩
theorem once_ok {T : Tab} (hF : T 122 = some FDo) : PrimOK Try.prog T 122 := by
  refine ⟨⟨_, _, Try.func122, rfl, by kernel_rfl⟩, fun F h => by rw [hF] at h; cases h; rfl, fun hT B n ih vs vs' h h' v he φ w hv hH => ?_⟩
  unfold enter at he
  rw [hF] at he
  simp only at he
  split at he
  · rename_i hlen
    match n, ih, he with
    | 0, _, he => cases he
    | n + 1, ih, he =>
    simp only [goN, gF, FDo, cDo] at he
    split at he
    · rename_i fr' h2 hrun
      match n, ih, he, hrun with
      | 0, _, he, _ => cases he
      | n + 1, ih, he, hrun =>
      simp only [goN, gF, retv, ress] at he
      cases he
      match vs, vs', hlen, hv, hrun with
      | [p, f], [p', f'], _, hv, hrun =>
      have hp := hv.2 0 p rfl
      have hf := hv.2 1 f rfl
      simp only [List.getElem?_cons_zero, List.getElem?_cons_succ, Option.some.injEq, exists_eq_left'] at hp hf
      obtain ⟨v1, h1, e1, hrun⟩ := runOps_cons hrun
      obtain ⟨v2, h2, e2, hrun⟩ := runOps_cons hrun
      obtain ⟨v3, h3, e3, hrun⟩ := runOps_cons hrun
      obtain ⟨v4, h4, e4, hrun⟩ := runOps_cons hrun
      obtain ⟨v5, h5, e5, hrun⟩ := runOps_cons hrun
      obtain ⟨v6, h6, e6, hrun⟩ := runOps_cons hrun
      obtain ⟨v7, h7, e7, hrun⟩ := runOps_cons hrun
      obtain ⟨v8, h8, e8, hrun⟩ := runOps_cons hrun
      obtain ⟨v9, h9, e9, hrun⟩ := runOps_cons hrun
      obtain ⟨v10, h10, e10, hrun⟩ := runOps_cons hrun
      obtain ⟨v11, h11, e11, hrun⟩ := runOps_cons hrun
      obtain ⟨v12, h12, e12, hrun⟩ := runOps_cons hrun
      obtain ⟨v13, h13, e13, hrun⟩ := runOps_cons hrun
      obtain ⟨v14, h14, e14, hrun⟩ := runOps_cons hrun
      obtain ⟨v15, h15, e15, hrun⟩ := runOps_cons hrun
      obtain ⟨v16, h16, e16, hrun⟩ := runOps_cons hrun
      obtain ⟨v17, h17, e17, hrun⟩ := runOps_cons hrun
      cases hrun
      obtain ⟨a, fa, asp, ⟨x1, l1, rfl⟩, rfl⟩ := ld_inv (core_op (by simp) e1)
      obtain ⟨y1, fy1, rfl, rfl⟩ := eq_inv (core_op (by simp) e2)
      obtain ⟨t1, ⟨z1, rfl⟩, rfl⟩ := pick_inv (core_op (by simp) e3) rfl rfl
      obtain ⟨a4, fa4, _, rfl, rfl⟩ := faddr_inv (core_op (by simp) e4)
      obtain ⟨a5, fa5, _, ⟨x5, l5, rfl⟩, rfl⟩ := ld_inv (core_op (by simp) e5)
      obtain ⟨y6, fy6, rfl, rfl⟩ := eq_inv (core_op (by simp) e6)
      obtain ⟨t6, ⟨z6, rfl⟩, rfl⟩ := pick_inv (core_op (by simp) e7) rfl rfl
      obtain ⟨a8, fa8, _, s8, rfl⟩ := st_inv (core_op (by simp) e8)
      obtain ⟨k, first, cap, u, fk, hfi, hen, rfl⟩ := calld_inv e9
      obtain ⟨a10, fa10, _, ⟨x10, l10, rfl⟩, rfl⟩ := ld_inv (core_op (by simp) e10)
      obtain ⟨y11, fy11, rfl, rfl⟩ := eq_inv (core_op (by simp) e11)
      obtain ⟨t11, ⟨z11, rfl⟩, rfl⟩ := pick_inv (core_op (by simp) e12) rfl rfl
      obtain ⟨a13, fa13, _, ⟨x13, l13, rfl⟩, rfl⟩ := ld_inv (core_op (by simp) e13)
      obtain ⟨y14, fy14, rfl, rfl⟩ := eq_inv (core_op (by simp) e14)
      obtain ⟨t14, ⟨z14, rfl⟩, rfl⟩ := pick_inv (core_op (by simp) e15) rfl rfl
      obtain ⟨a16, fa16, _, s16, rfl⟩ := st_inv (core_op (by simp) e16)
      obtain ⟨a17, fa17, _, s17, rfl⟩ := st_inv (core_op (by simp) e17)
      have q1 : p = .pointer (some a) := Option.some.inj fa
      have q4 : p = .pointer (some a4) := Option.some.inj fa4
      have q10 : p = .pointer (some a10) := Option.some.inj fa10
      have q16 : p = .pointer (some a16) := Option.some.inj fa16
      have q5 : Value.pointer (some ⟨a4.block, a4.off + 1, none⟩) = .pointer (some a5) := Option.some.inj fa5
      have q8 : Value.pointer (some ⟨a4.block, a4.off + 1, none⟩) = .pointer (some a8) := Option.some.inj fa8
      have q13 : Value.pointer (some ⟨a4.block, a4.off + 1, none⟩) = .pointer (some a13) := Option.some.inj fa13
      have q17 : Value.pointer (some ⟨a4.block, a4.off + 1, none⟩) = .pointer (some a17) := Option.some.inj fa17
      have qf : f = .func (.func k) first cap := Option.some.inj fk
      have r1 : x1 = .int .u32 y1 := Option.some.inj fy1
      have r5 : x5 = .int .i32 y6 := Option.some.inj fy6
      have r10 : x10 = .int .u32 y11 := Option.some.inj fy11
      have r13 : x13 = .int .i32 y14 := Option.some.inj fy14
      clear fa fa4 fa10 fa16 fa5 fa8 fa13 fa17 fk fy1 fy6 fy11 fy14 e1 e2 e3 e4 e5 e6 e7 e8 e9 e10 e11 e12 e13 e14 e15 e16 e17
      subst q1
      cases q4; cases q10; cases q16; cases q5; cases q8; cases q13; cases q17
      subst qf r1 r5 r10 r13
      simp only [decide_eq_true_eq] at t1 t6 t11 t14
      subst t1 t6 t11 t14
      exact do_mem hT (ih _ (by omega) k) hfi l1 l5 s8 hen l10 l13 s16 s17 hp hf hH
    · cases he
  · cases he
end Go.Proofs.Ytammndhoillliaa
