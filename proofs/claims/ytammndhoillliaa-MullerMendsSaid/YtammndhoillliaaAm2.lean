/-
  What the runs of the small machine of my own come to, as one function that needs no count of steps, and its equations. No condition.
-/
import Derived.Test.YtammndhoillliaaAm1
namespace Go.Am
set_option linter.unusedVariables false
set_option linter.unusedSimpArgs false

def Le (g g' : List ARes → List It → Fr → H → Res) : Prop := ∀ rs ks fr h r, g rs ks fr h = some r → g' rs ks fr h = some r

theorem enter_mono {T : Tab} {g g' : List ARes → List It → Fr → H → Res} (hg : Le g g') {f vs h r} (he : enter T g f vs h = some r) : enter T g' f vs h = some r := by
  unfold enter at *
  cases hT : T f with
  | none => rw [hT] at he; exact he
  | some F =>
    rw [hT] at he
    simp only at he ⊢
    split at he
    · rw [if_pos ‹_›]; exact hg _ _ _ _ _ he
    · cases he

theorem core_mono {T : Tab} {g g' : List ARes → List It → Fr → H → Res} (hg : Le g g') {n0 o fr h r} (hr : core T g n0 o fr h = some r) : core T g' n0 o fr h = some r := by
  unfold core at hr ⊢
  split at hr
  · exact hr
  · split at hr
    · split at hr
      · split at hr
        · rename_i he
          rw [enter_mono hg he]
          exact hr
        · cases hr
      · cases hr
    · split at hr
      · split at hr
        · split at hr
          · rename_i he
            rw [if_pos ‹_›, enter_mono hg he]
            exact hr
          · cases hr
        · cases hr
      · cases hr
    · exact hr
  · cases hr

theorem stepO_mono {T : Tab} {g g' : List ARes → List It → Fr → H → Res} (hg : Le g g') {n0 o fr h r} (hr : stepO T g n0 o fr h = some r) : stepO T g' n0 o fr h = some r := by
  unfold stepO at hr ⊢
  split at hr
  · rename_i hc; rw [core_mono hg hc]; exact hr
  · cases hr

theorem runOps_mono {T : Tab} {g g' : List ARes → List It → Fr → H → Res} (hg : Le g g') {n0 : Nat} : ∀ {l fr h r}, runOps T g n0 l fr h = some r → runOps T g' n0 l fr h = some r
  | [], fr, h, r, hr => hr
  | o :: l, fr, h, r, hr => by
    simp only [runOps] at hr ⊢
    split at hr
    · rename_i hs
      rw [stepO_mono hg hs]
      exact runOps_mono hg hr
    · cases hr

/-- one step over a run that comes to more comes to more -/
theorem gF_mono {T : Tab} {g g' : List ARes → List It → Fr → H → Res} (hg : Le g g') : Le (gF T g) (gF T g') := by
  intro rs ks fr h r hr
  unfold gF at hr ⊢
  split at hr <;> first | exact hg _ _ _ _ _ hr | (cases hr; done) | skip
  · exact hr
  · exact hr
  · split at hr
    · exact hg _ _ _ _ _ hr
    · cases hr
  · split at hr
    · exact hg _ _ _ _ _ hr
    · cases hr
  · split at hr
    · rename_i hs
      rw [runOps_mono hg hs]
      exact hg _ _ _ _ _ hr
    · cases hr

theorem goN_succ {T : Tab} (n : Nat) : Le (goN T n) (goN T (n + 1)) := by
  induction n with
  | zero => intro rs ks fr h r hr; cases hr
  | succ n ih => exact gF_mono ih

theorem goN_le {T : Tab} {n m : Nat} (h : n ≤ m) : Le (goN T n) (goN T m) := by
  induction h with
  | refl => intro _ _ _ _ _ h; exact h
  | step _ ih => intro rs ks fr h r hr; exact goN_succ _ _ _ _ _ _ (ih _ _ _ _ _ hr)

open Classical in
/-- what a run comes to, after however many steps -/
noncomputable def go (T : Tab) (rs : List ARes) (ks : List It) (fr : Fr) (h : H) : Res :=
  if hx : ∃ r, ∃ n, goN T n rs ks fr h = some r then some (Classical.choose hx) else none

theorem go_some {T : Tab} {rs ks fr h r} : go T rs ks fr h = some r ↔ ∃ n, goN T n rs ks fr h = some r := by
  unfold go
  constructor
  · intro he
    split at he
    · rename_i hx
      have := Classical.choose_spec hx
      simp only [Option.some.injEq] at he
      rw [he] at this
      exact this
    · cases he
  · rintro ⟨n, hn⟩
    have hx : ∃ r, ∃ n, goN T n rs ks fr h = some r := ⟨r, n, hn⟩
    rw [dif_pos hx]
    obtain ⟨m, hm⟩ := Classical.choose_spec hx
    have h1 := goN_le (Nat.le_max_left n m) _ _ _ _ _ hn
    have h2 := goN_le (Nat.le_max_right n m) _ _ _ _ _ hm
    rw [h1] at h2
    exact h2.symm

/-- a step over finished runs needs but finitely many of their steps -/
theorem gF_fin {T : Tab} {rs ks fr h r} (he : gF T (go T) rs ks fr h = some r) : ∃ n, gF T (goN T n) rs ks fr h = some r := by
  have one : ∀ {rs ks fr h r}, go T rs ks fr h = some r → ∃ n, goN T n rs ks fr h = some r := fun h => go_some.1 h
  have ent : ∀ {f vs h r}, enter T (go T) f vs h = some r → ∃ n, enter T (goN T n) f vs h = some r := by
    intro f vs h r he
    unfold enter at he ⊢
    cases hT : T f with
    | none => rw [hT] at he; cases he
    | some F =>
      rw [hT] at he
      simp only at he ⊢
      split at he
      · rename_i hl
        obtain ⟨n, hn⟩ := one he
        exact ⟨n, by rw [if_pos hl]; exact hn⟩
      · cases he
  have cor : ∀ {n0 o fr h r}, core T (go T) n0 o fr h = some r → ∃ n, core T (goN T n) n0 o fr h = some r := by
    intro n0 o fr h r he
    unfold core at he ⊢
    split at he
    · exact ⟨0, he⟩
    · split at he
      · split at he
        · split at he
          · rename_i h1
            obtain ⟨n, hn⟩ := ent h1
            exact ⟨n, by simp only [hn]; exact he⟩
          · cases he
        · cases he
      · split at he
        · split at he
          · split at he
            · rename_i h1
              obtain ⟨n, hn⟩ := ent h1
              exact ⟨n, by rw [if_pos ‹_›]; simp only [hn]; exact he⟩
            · cases he
          · cases he
        · cases he
      · exact ⟨0, he⟩
    · cases he
  have stp : ∀ {n0 o fr h r}, stepO T (go T) n0 o fr h = some r → ∃ n, stepO T (goN T n) n0 o fr h = some r := by
    intro n0 o fr h r he
    unfold stepO at he ⊢
    split at he
    · rename_i hc
      obtain ⟨n, hn⟩ := cor hc
      exact ⟨n, by simp only [hn]; exact he⟩
    · cases he
  have ops : ∀ {n0 : Nat} {l fr h r}, runOps T (go T) n0 l fr h = some r → ∃ n, runOps T (goN T n) n0 l fr h = some r := by
    intro n0 l
    induction l with
    | nil => intro fr h r he; exact ⟨0, he⟩
    | cons o l ih =>
      intro fr h r he
      simp only [runOps] at he ⊢
      split at he
      · rename_i h1
        obtain ⟨n, hn⟩ := stp h1
        obtain ⟨m, hm⟩ := ih he
        refine ⟨max n m, ?_⟩
        rw [stepO_mono (goN_le (Nat.le_max_left n m)) hn]
        exact runOps_mono (goN_le (Nat.le_max_right n m)) hm
      · cases he
  unfold gF at he ⊢
  split at he <;> first | exact one he | (cases he; done) | skip
  · exact ⟨0, he⟩
  · exact ⟨0, he⟩
  · split at he
    · exact one he
    · cases he
  · split at he
    · exact one he
    · cases he
  · split at he
    · rename_i h1
      obtain ⟨n, hn⟩ := ops h1
      obtain ⟨m, hm⟩ := one he
      refine ⟨max n m, ?_⟩
      simp only [runOps_mono (goN_le (Nat.le_max_left n m)) hn]
      exact goN_le (Nat.le_max_right n m) _ _ _ _ _ hm
    · cases he

theorem go_eq (T : Tab) (rs : List ARes) (ks : List It) (fr : Fr) (h : H) : go T rs ks fr h = gF T (go T) rs ks fr h := by
  have hle : ∀ n, Le (goN T n) (go T) := fun n rs ks fr h r hr => go_some.2 ⟨n, hr⟩
  cases hg : gF T (go T) rs ks fr h with
  | some r =>
    obtain ⟨n, hn⟩ := gF_fin hg
    exact go_some.2 ⟨n + 1, hn⟩
  | none =>
    cases hx : go T rs ks fr h with
    | none => rfl
    | some r =>
      obtain ⟨n, hn⟩ := go_some.1 hx
      cases n with
      | zero => cases hn
      | succ n =>
        have := gF_mono (hle n) rs ks fr h r hn
        rw [hg] at this
        cases this

/-- what a call comes to -/
noncomputable def call (T : Tab) (f : FuncId) (vs : List Value) (h : H) : Res := enter T (go T) f vs h
end Go.Am
