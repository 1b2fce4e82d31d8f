/-
  All of the model's operations that the small machine knows, but calls: what they give is what it gives. No condition.
-/
import Derived.Test.YtammndhoillliaaAm8
namespace Go.Am
set_option linter.unusedVariables false
set_option linter.unusedSimpArgs false
open Go.RowKit (Below)

theorem fill_mono {pl pl' : Nat → Option (Nat × Nat)} (hpl : ∀ i x, pl i = some x → pl' i = some x) : ∀ (ps : List (Nat × Value)) (cells out : Array Value), Instr.fill pl cells ps = some out → Instr.fill pl' cells ps = some out
  | [], cells, out, h => h
  | (i, v) :: ps, cells, out, h => by
    simp only [Instr.fill] at h ⊢
    cases hp : pl i with
    | none => rw [hp] at h; cases h
    | some x =>
      rw [hp] at h
      rw [hpl i x hp]
      simp only at h ⊢
      split at h
      · cases h
      · rename_i hc; rw [if_neg hc]; exact fill_mono hpl ps _ out h
theorem arr1 {α : Type} {xs : Array α} {x : α} (h : xs.toList = [x]) : xs = #[x] := by apply Array.toList_inj.1; simpa using h
theorem arr2 {α : Type} {xs : Array α} {x y : α} (h : xs.toList = [x, y]) : xs = #[x, y] := by apply Array.toList_inj.1; simpa using h

section
variable {P : Program} {B : Nat} {φ : Ren} {nt : Nat} {fr : Fr} {h : H} {a : Act} {w : World} {o : Oper}

theorem comp1_sound {op : AOp} (hc : comp1 P o = some op) (hF : FR φ h.length nt fr a.tmps) (hH : HR φ B h w) {v h'} (ha : aop fr h op = some (v, h')) : OpOK P B φ h a w o v h' := by
  unfold comp1 at hc
  split at hc
  · cases hc; exact s_mv (.inl ‹_›) hF hH ha
  · cases hc; exact s_mv (.inr ‹_›) hF hH ha
  · cases hc; exact s_pick ‹_› hF hH ha
  · -- binOp
    rename_i ho
    split at hc
    · cases hc; exact s_bin ho hF hH ha
    · cases hc; exact s_bin ho hF hH ha
    · split at hc
      · cases hc; exact s_eqb (neg := false) ho ‹_› hF hH ha
      · cases hc; exact s_eqb (neg := true) ho ‹_› hF hH ha
      · cases hc
    · split at hc
      · split at hc
        · cases hc; exact s_eqn (neg := false) ho (.inl ⟨rfl, rfl, _, ‹_›⟩) hF hH ha
        · cases hc; exact s_eqn (neg := true) ho (.inl ⟨rfl, rfl, _, ‹_›⟩) hF hH ha
        · cases hc
      · cases hc
    · split at hc
      · cases hc; exact s_eqn (neg := false) ho (.inr (.inl ⟨rfl, rfl, _, ‹_›⟩)) hF hH ha
      · cases hc; exact s_eqn (neg := true) ho (.inr (.inl ⟨rfl, rfl, _, ‹_›⟩)) hF hH ha
      · cases hc
    · split at hc
      · cases hc; exact s_eqn (neg := false) ho (.inr (.inr ⟨rfl, rfl, _, _, _, ‹_›⟩)) hF hH ha
      · cases hc; exact s_eqn (neg := true) ho (.inr (.inr ⟨rfl, rfl, _, _, _, ‹_›⟩)) hF hH ha
      · cases hc
    · cases hc
  · cases hc; exact s_un ‹_› hF hH ha
  · split at hc
    · cases hc; exact s_conv ‹_› ‹_› ‹_› hF hH ha
    · cases hc
  · -- alloc
    split at hc
    · split at hc
      · split at hc
        · cases hc; exact s_alloc ‹_› ‹_› ‹_› ‹_› hH ha
        · cases hc
      · cases hc
    · cases hc
  · split at hc
    · cases hc; exact s_box ‹_› hF hH ha
    · cases hc
  · split at hc
    · cases hc; exact s_ld ‹_› ‹_› ‹_› hF hH ha
    · cases hc
  · split at hc
    · cases hc; exact s_st ‹_› ‹_› hF hH ha
    · cases hc
  · cases hc; exact s_nilck ‹_› hF hH ha
  · split at hc
    · cases hc; exact s_mkf ‹_› ‹_› hF hH ha
    · cases hc
  · -- makeSlice
    split at hc
    · split at hc
      · split at hc
        · split at hc
          · rename_i hcond
            simp only [Bool.and_eq_true, beq_iff_eq, decide_eq_true_eq] at hcond
            cases hc; exact s_mks ‹_› ‹_› ‹_› ‹_› hcond.1.1 hcond.1.2 hcond.2 hF hH ha
          · cases hc
        · cases hc
      · cases hc
    · cases hc
  · split at hc
    · split at hc
      · cases hc; exact s_sl ‹_› ‹_› ‹_› hF hH ha
      · cases hc
    · cases hc; exact s_sls ‹_› ‹_› hF hH ha
    · cases hc
  · split at hc
    · split at hc
      · split at hc
        · split at hc
          · cases hc
          · cases hc; exact s_faddr ‹_› ‹_› ‹_› ‹_› ‹_› hF hH ha
        · cases hc
      · cases hc
    · cases hc
  · split at hc
    · split at hc
      · split at hc
        · cases hc; exact s_fld ‹_› ‹_› ‹_› ‹_› ‹_› hF hH ha
        · cases hc
      · cases hc
    · cases hc
  · split at hc
    · split at hc
      · cases hc; exact s_iaddr ‹_› ‹_› ‹_› hF hH ha
      · cases hc
    · split at hc
      · cases hc; exact s_iaddrA ‹_› ‹_› ‹_› hF hH ha
      · cases hc
    · cases hc
  · split at hc
    · split at hc
      · cases hc; exact s_idxA ‹_› ‹_› ‹_› ‹_› hF hH ha
      · cases hc
    · cases hc; exact s_idxS ‹_› ‹_› hF hH ha
    · cases hc
  · cases hc; exact s_ext ‹_› hF hH ha
  · -- build
    split at hc
    · split at hc
      · rename_i z pl hz hpl
        split at hc
        · cases hc
          refine s_build ‹_› (fun ps out hf => ?_) ‹_› hF hH ha
          have e1 : P.info? _ = some _ := ‹P.info? _ = some _›
          have e2 : P.underlying _ = some (.struct _) := ‹P.underlying _ = some (.struct _)›
          unfold Program.built
          simp only [e1, e2, hz, hpl]
          simpa using hf
        · cases hc
      · cases hc
    · split at hc
      · rename_i z ie hz hie
        split at hc
        · cases hc
          refine s_build ‹_› (fun ps out hf => ?_) ‹_› hF hH ha
          have e2 : P.underlying _ = some (.array _ _) := ‹P.underlying _ = some (.array _ _)›
          unfold Program.built
          simp only [*]
          refine fill_mono (fun j x hj => ?_) _ _ _ hf
          simp only [List.getElem?_map] at hj
          cases hr : (List.range _)[j]? with
          | none => rw [hr] at hj; cases hj
          | some k =>
            rw [hr] at hj
            have := (List.getElem?_eq_some_iff.1 hr).2
            simp at this hj
            rw [← hj, this]
        · cases hc
      · cases hc
    · cases hc
  · -- buildSlice
    split at hc
    · split at hc
      · split at hc
        · split at hc
          · rename_i hcond
            simp only [Bool.and_eq_true, beq_iff_eq, decide_eq_true_eq] at hcond
            cases hc; exact s_mkSl ‹_› ‹_› ‹_› ‹_› hcond.1.1.1 hcond.1.1.2 hcond.1.2 hcond.2 hF hH ha
          · cases hc
        · cases hc
      · cases hc
    · cases hc
  · -- call
    rename_i c ho
    obtain ⟨callee, args, argTypes⟩ := c
    simp only at hc
    split at hc
    · -- len
      split at hc
      · rename_i t x h0 hx
        obtain rfl := arr1 hx
        split at hc
        · cases hc; exact s_len ho h0 ‹_› hF hH ha
        · cases hc; exact s_lenS ho h0 ‹_› hF hH ha
        · cases hc; exact s_lenK ho h0 (.inl ⟨_, ‹_›⟩) hH ha
        · split at hc
          · cases hc; exact s_lenK ho h0 (.inr ⟨_, _, ‹_›, ‹_›⟩) hH ha
          · cases hc
        · cases hc
      · cases hc
    · -- append
      split at hc
      · rename_i ht hx
        obtain rfl := arr2 ht
        obtain rfl := arr2 hx
        split at hc
        · rename_i htu
          subst htu
          split at hc
          · split at hc
            · split at hc
              · split at hc
                · rename_i hcond
                  simp only [Bool.and_eq_true, beq_iff_eq, decide_eq_true_eq] at hcond
                  cases hc; exact s_app ho ‹_› ‹_› ‹_› hcond.1 hcond.2 hF hH ha
                · cases hc
              · cases hc
            · cases hc
          · cases hc
        · cases hc
      · cases hc
    · -- copy
      split at hc
      · rename_i ht hx
        obtain rfl := arr2 ht
        obtain rfl := arr2 hx
        split at hc
        · split at hc
          · cases hc; exact s_cpy ho ‹_› ‹_› hF hH ha
          · cases hc
        · cases hc
      · cases hc
    · cases hc; exact s_minmax (mx := false) ho hF hH ha
    · cases hc; exact s_minmax (mx := true) ho hF hH ha
    · cases hc; cases ha
    · cases hc; cases ha
    · cases hc
  · cases hc
end
end Go.Am
