/-
  Two memories that are the same but for names: what a whole run gives in one of them it gives in the other. Condition: the code makes only values that name nothing.
-/
import Derived.Test.YtammndhoillliaaEm3
namespace Go.Am
set_option linter.unusedVariables false
set_option linter.unusedSimpArgs false

def goodC : ACode → Bool
  | .region l => l.all fun o => o.op.good
  | .seq a b | .cond _ a b => goodC a && goodC b
  | .block _ _ c | .loop _ c => goodC c
  | _ => true
def goodI : List It → Bool
  | [] => true
  | .code c :: ks => goodC c && goodI ks
  | .blk .. :: ks => goodI ks
  | .lp _ c :: ks => goodC c && goodI ks
def GoodT (T : Tab) : Prop := ∀ f F, T f = some F → goodC F.code = true
def EmbG (ρ : Rel) (g : List ARes → List It → Fr → H → Res) : Prop :=
  ∀ rs ks fr fr2 h h2 v h', goodI ks = true → FE ρ h.length fr fr2 → ME ρ h h2 → g rs ks fr h = some (v, h') → ∃ v2 h2', g rs ks fr2 h2 = some (v2, h2') ∧ E ρ h'.length v v2 ∧ Post ρ h h' h2 h2'

section
variable {ρ : Rel} {h h2 h' : H} {fr fr2 : Fr} {T : Tab} {g : List ARes → List It → Fr → H → Res}
theorem gd_emb {n : Nat} (hF : FE ρ n fr fr2) {x : Option (Nat × Bool)} {b : Bool} (hg : gd fr x = some b) : gd fr2 x = some b := by
  cases x with
  | none => exact hg
  | some p =>
    obtain ⟨s, want⟩ := p
    simp only [gd] at hg ⊢
    split at hg
    · rename_i b' hb
      obtain ⟨v2, e1, e2⟩ := hF _ _ hb
      rw [e2.bool] at e1
      rw [e1]; exact hg
    · rename_i vs hb
      obtain ⟨v2, e1, e2⟩ := hF _ _ hb
      obtain ⟨cs2, rfl, _⟩ := e2.tuple_inv
      rw [e1]; exact hg
    · cases hg
theorem args_emb {n : Nat} : ∀ {vs vs2 : List Value} (k : Nat), LE ρ n vs vs2 → FE ρ n (Fr.args k vs) (Fr.args k vs2)
  | [], vs2, k, hl, t, v, hv => by cases hv
  | u :: vs, [], k, hl, t, v, hv => by have := hl.1; simp at this
  | u :: vs, u2 :: vs2, k, hl, t, v, hv => by
    obtain ⟨u', h1, h2⟩ := hl.2 0 _ rfl
    simp at h1; subst h1
    simp only [Fr.args] at hv ⊢
    cases hb : Nat.beq t k with
    | true => rw [hb] at hv; cases hv; exact ⟨u2, rfl, h2⟩
    | false =>
      rw [hb] at hv
      exact args_emb (k + 1) (vs := vs) (vs2 := vs2) ⟨by have := hl.1; simpa using this, fun i v hv => by simpa using hl.2 (i + 1) v (by simpa using hv)⟩ t v hv
theorem enter_emb (hg : EmbG ρ g) (hT : GoodT T) (hm : ME ρ h h2) {f : FuncId} {vs vs2 : List Value} (hl : LE ρ h.length vs vs2) {v : Value} (he : enter T g f vs h = some (v, h')) :
    ∃ v2 h2', enter T g f vs2 h2 = some (v2, h2') ∧ E ρ h'.length v v2 ∧ Post ρ h h' h2 h2' := by
  unfold enter at he ⊢
  split at he
  · rename_i F hF
    split at he
    · rename_i hn
      obtain ⟨v2, h2', k1, k2⟩ := hg _ _ _ _ _ _ _ _ (by simp [goodI, hT f F hF]) (args_emb 0 hl) hm he
      exact ⟨v2, h2', by rw [if_pos (by rw [← hl.1]; exact hn)]; exact k1, k2⟩
    · cases he
  · cases he
theorem older_emb {n n0 n02 : Nat} (hF : FE ρ n fr fr2) (hold : ∀ o o2, ρ o o2 → o < n0 → o2 < n02) {o : AOper} (ho : older n0 fr o = true) : older n02 fr2 o = true := by
  obtain ⟨dst, op, guard, chk⟩ := o
  cases chk with
  | false => cases op <;> rfl
  | true =>
    cases op <;> first | rfl | skip
    rename_i agg k a
    simp only [older] at ho ⊢
    split at ho
    · rename_i p hp
      obtain ⟨v2, e1, e2⟩ := ev_emb hF hp
      obtain ⟨o2, q1, q2, q3, rfl⟩ := e2.ptr_inv
      rw [e1]
      simp only [decide_eq_true_eq] at ho ⊢
      exact hold _ _ q2 ho
    · cases ho
theorem behind_emb {chk : Bool} (hm : ME ρ h h2) {h2' : H} (hp : Post ρ h h' h2 h2') {α : Type} {r : Option α} {x : α} (hb : behind chk h h' r = some x) {β : Type} {r2 : Option β} : behind chk h2 h2' r2 = r2 :=
  behind_mk fun hc => hp.pre hm ((behind_some hb).2 hc)
theorem core_emb (hg : EmbG ρ g) (hT : GoodT T) {n0 n02 : Nat} (hold : ∀ o o2, ρ o o2 → o < n0 → o2 < n02) {o : AOper} (ho : o.op.good = true) (hF : FE ρ h.length fr fr2) (hm : ME ρ h h2) {v : Option Value} (hs : core T g n0 o fr h = some (v, h')) :
    ∃ v2 h2', core T g n02 o fr2 h2 = some (v2, h2') ∧ OVE ρ h'.length v v2 ∧ Post ρ h h' h2 h2' := by
  unfold core at hs
  split at hs
  · rename_i hgd
    cases hs
    exact ⟨some (.tuple #[]), h2, by unfold core; rw [gd_emb hF hgd], E.tuple #[] #[] rfl (fun i hi => absurd hi (by simp)), .refl hm⟩
  · rename_i hgd
    split at hs
    · rename_i f args hop
      split at hs
      · rename_i vs hvs
        obtain ⟨vs2, e1, e2⟩ := evs_emb hF hvs
        split at hs
        · rename_i u h3 he
          have hb := (behind_some hs).1
          cases hb
          obtain ⟨v2, h2', k1, k2, k3⟩ := enter_emb hg hT hm e2 he
          exact ⟨some v2, h2', by unfold core; simp only [gd_emb hF hgd, hop, e1, k1]; exact behind_emb hm k3 hs, k2, k3⟩
        · cases hs
      · cases hs
    · rename_i x args hop
      split at hs
      · rename_i f first cap vs hx hvs
        obtain ⟨x2, e1, e2⟩ := ev_emb hF hx
        obtain ⟨vs2, e3, e4⟩ := evs_emb hF hvs
        obtain ⟨f', cap2, q1, rfl, rfl, q3⟩ := e2.func_inv
        cases q1
        split at hs
        · split at hs
          · rename_i u h3 he
            have hb := (behind_some hs).1
            cases hb
            obtain ⟨v2, h2', k1, k2, k3⟩ := enter_emb hg hT hm (e4.append q3) he
            exact ⟨some v2, h2', by unfold core; simp only [gd_emb hF hgd, hop, e1, e3]; rw [if_pos (show (#[] : Array Value).isEmpty = true from rfl)]; simp only [k1]; exact behind_emb hm k3 hs, k2, k3⟩
          · cases hs
        · cases hs
      · cases hs
    · rename_i hne1 hne2
      split at hs
      · rename_i hol
        obtain ⟨v2, h2', k1, k2, k3⟩ := aop_emb hF hm ho hs
        refine ⟨v2, h2', ?_, k2, k3⟩
        unfold core
        simp only [gd_emb hF hgd]
        rw [if_pos (older_emb hF hold hol)]; exact k1
      · cases hs
  · cases hs
theorem stepO_emb (hg : EmbG ρ g) (hT : GoodT T) {n0 n02 : Nat} (hold : ∀ o o2, ρ o o2 → o < n0 → o2 < n02) {o : AOper} (ho : o.op.good = true) (hF : FE ρ h.length fr fr2) (hm : ME ρ h h2) {fr' : Fr} (hs : stepO T g n0 o fr h = some (fr', h')) :
    ∃ fr2' h2', stepO T g n02 o fr2 h2 = some (fr2', h2') ∧ FE ρ h'.length fr' fr2' ∧ Post ρ h h' h2 h2' := by
  unfold stepO at hs
  split at hs
  · rename_i v h3 hc
    cases hs
    obtain ⟨v2, h2', k1, k2, k3⟩ := core_emb hg hT hold ho hF hm hc
    exact ⟨_, h2', by unfold stepO; rw [k1], (hF.up k3.len).put _ k2, k3⟩
  · cases hs
theorem runOps_emb (hg : EmbG ρ g) (hT : GoodT T) {n0 n02 : Nat} (hold : ∀ o o2, ρ o o2 → o < n0 → o2 < n02) : ∀ {l : List AOper} {fr fr2 : Fr} {h h2 h' : H} {fr' : Fr}, (l.all fun o => o.op.good) = true → FE ρ h.length fr fr2 → ME ρ h h2 → runOps T g n0 l fr h = some (fr', h') →
    ∃ fr2' h2', runOps T g n02 l fr2 h2 = some (fr2', h2') ∧ FE ρ h'.length fr' fr2' ∧ Post ρ h h' h2 h2'
  | [], fr, fr2, h, h2, h', fr', _, hF, hm, hs => by cases hs; exact ⟨fr2, h2, rfl, hF, .refl hm⟩
  | o :: l, fr, fr2, h, h2, h', fr', ho, hF, hm, hs => by
    simp only [List.all_cons, Bool.and_eq_true] at ho
    simp only [runOps] at hs
    split at hs
    · rename_i fr1 h1 h3
      obtain ⟨fr21, h21, k1, k2, k3⟩ := stepO_emb hg hT hold ho.1 hF hm h3
      obtain ⟨fr22, h22, k4, k5, k6⟩ := runOps_emb hg hT hold ho.2 k2 k3.me hs
      exact ⟨fr22, h22, by simp only [runOps, k1]; exact k4, k5, k3.trans k6⟩
    · cases hs
theorem keep_emb {n : Nat} (hF : FE ρ n fr fr2) (ks : List Nat) : FE ρ n (Fr.of (keepL fr ks)) (Fr.of (keepL fr2 ks)) := by
  have spec : ∀ (fr : Fr) (ks : List Nat) (t : Nat), Fr.of (keepL fr ks) t = if t ∈ ks then fr t else none := by
    intro fr ks t
    induction ks with
    | nil => rfl
    | cons k ks ih =>
      simp only [keepL]
      cases hk : fr k with
      | none =>
        simp only [ih, List.mem_cons]
        by_cases ht : t = k
        · subst ht; simp [hk]
        · simp [ht]
      | some v =>
        simp only [Fr.of, ih, List.mem_cons]
        cases hb : Nat.beq t k with
        | true => obtain rfl := Nat.eq_of_beq_eq_true hb; simp [hk]
        | false =>
          have : t ≠ k := by rintro rfl; rw [Nat.beq_refl] at hb; cases hb
          simp [this]
  intro t v hv
  rw [spec] at hv ⊢
  split at hv
  · rw [if_pos ‹_›]; exact hF t v hv
  · cases hv
theorem ress_emb (hF : FE ρ h.length fr fr2) (hm : ME ρ h h2) : ∀ {rs : List ARes} {vs : List Value}, ress fr h rs = some vs → ∃ vs2, ress fr2 h2 rs = some vs2 ∧ LE ρ h.length vs vs2
  | [], vs, hs => by cases hs; exact ⟨[], rfl, LE.nil⟩
  | r :: rs, vs, hs => by
    simp only [ress] at hs
    split at hs
    · rename_i v vs' h3 h4
      cases hs
      obtain ⟨vs2, k1, k2⟩ := ress_emb hF hm h4
      have : ∃ v2, res1 fr2 h2 r = some v2 ∧ E ρ h.length v v2 := by
        cases r with
        | tmp t => exact hF t v h3
        | cell t agg n =>
          simp only [res1] at h3 ⊢
          split at h3
          · rename_i a ha
            obtain ⟨a2, e1, e2⟩ := hF t _ ha
            obtain ⟨o2, q1, q2, q3, rfl⟩ := e2.ptr_inv
            rw [e1]
            split at h3
            · cases h3
            · split at h3
              · split at h3
                · rename_i cs hcs
                  cases h3
                  obtain ⟨cs2, e3, e4⟩ := hm.lds q2 hcs
                  exact ⟨_, by simp [e3], e4.agg⟩
                · cases h3
              · obtain ⟨u2, e3, e4⟩ := hm.ld1 q2 h3
                exact ⟨u2, by simp [e3], e4⟩
          · cases h3
      obtain ⟨v2, k3, k4⟩ := this
      exact ⟨v2 :: vs2, by simp [ress, k1, k3], LE.cons k4 k2⟩
    · cases hs
theorem retv_emb (hF : FE ρ h.length fr fr2) (hm : ME ρ h h2) {rs : List ARes} {v : Value} (hs : retv rs fr h = some (v, h')) : ∃ v2 h2', retv rs fr2 h2 = some (v2, h2') ∧ E ρ h'.length v v2 ∧ Post ρ h h' h2 h2' := by
  unfold retv at hs
  split at hs
  · rename_i u hu
    cases hs
    obtain ⟨vs2, k1, k2⟩ := ress_emb hF hm hu
    obtain ⟨u2, k3, k4⟩ := k2.2 0 _ rfl
    obtain rfl : vs2 = [u2] := by
      have hl := k2.1
      match vs2, hl, k3 with
      | [x], _, k3 => simp at k3; rw [k3]
    exact ⟨u2, h2, by unfold retv; rw [k1], k4, .refl hm⟩
  · rename_i vs hne hu
    cases hs
    obtain ⟨vs2, k1, k2⟩ := ress_emb hF hm hu
    refine ⟨.tuple vs2.toArray, h2, ?_, k2.tuple, .refl hm⟩
    unfold retv
    rw [k1]
    split
    · rename_i u he
      cases he
      have hl := k2.1
      match vs, hl, hne with
      | [x], _, hne => exact absurd rfl (hne x)
    · rename_i he; cases he; rfl
    · rename_i he; cases he
  · cases hs
theorem popTo_good {id : Nat} : ∀ {ks : List It} {ko : List Nat} {k : List It}, goodI ks = true → popTo id ks = some (ko, k) → goodI k = true
  | [], _, _, _, h => by cases h
  | .code c :: ks, _, _, hg, h => by simp only [goodI, Bool.and_eq_true] at hg; exact popTo_good hg.2 h
  | .lp _ c :: ks, _, _, hg, h => by simp only [goodI, Bool.and_eq_true] at hg; exact popTo_good hg.2 h
  | .blk id' ko :: ks, _, _, hg, h => by
    simp only [popTo] at h
    simp only [goodI] at hg
    split at h
    · cases h; exact hg
    · exact popTo_good hg h
theorem gF_emb (hg : EmbG ρ g) (hT : GoodT T) : EmbG ρ (gF T g) := by
  intro rs ks fr fr2 h h2 v h' hgood hF hm hs
  unfold gF at hs
  split at hs
  · exact retv_emb hF hm hs
  · exact retv_emb hF hm hs
  · simp only [goodI, goodC, Bool.true_and] at hgood
    exact hg _ _ _ _ _ _ _ _ hgood hF hm hs
  · cases hs
  · simp only [goodI, goodC, Bool.and_eq_true] at hgood
    exact hg _ _ _ _ _ _ _ _ (by simp [goodI, hgood]) hF hm hs
  · split at hs
    · rename_i t ht
      obtain ⟨c2, e1, e2⟩ := ev_emb hF ht
      rw [e2.bool] at e1
      simp only [goodI, goodC, Bool.and_eq_true] at hgood
      obtain ⟨v2, h2', k1, k2⟩ := hg _ _ _ _ _ _ _ _ (by cases t <;> simp [goodI, hgood]) hF hm hs
      exact ⟨v2, h2', by unfold gF; simp only [e1]; exact k1, k2⟩
    · cases hs
  · simp only [goodI, goodC, Bool.and_eq_true] at hgood
    exact hg _ _ _ _ _ _ _ _ (by simp [goodI, hgood]) hF hm hs
  · simp only [goodI, goodC, Bool.and_eq_true] at hgood
    exact hg _ _ _ _ _ _ _ _ (by simp [goodI, hgood]) (keep_emb hF _) hm hs
  · split at hs
    · rename_i ko k hp
      simp only [goodI, goodC, Bool.true_and] at hgood
      obtain ⟨v2, h2', k1, k2⟩ := hg _ _ _ _ _ _ _ _ (popTo_good hgood hp) (keep_emb hF ko) hm hs
      exact ⟨v2, h2', by unfold gF; simp only [hp]; exact k1, k2⟩
    · cases hs
  · split at hs
    · rename_i fr1 h1 hrun
      simp only [goodI, goodC, Bool.and_eq_true] at hgood
      obtain ⟨fr21, h21, k1, k2, k3⟩ := runOps_emb hg hT (fun o o2 hr ho => hm.lt hr ho) hgood.1 hF hm hrun
      obtain ⟨v2, h2', k4, k5, k6⟩ := hg _ _ _ _ _ _ _ _ hgood.2 k2 k3.me hs
      exact ⟨v2, h2', by unfold gF; simp only [k1]; exact k4, k5, k3.trans k6⟩
    · cases hs
  · simp only [goodI] at hgood
    exact hg _ _ _ _ _ _ _ _ hgood (keep_emb hF _) hm hs
  · simp only [goodI, Bool.and_eq_true] at hgood
    exact hg _ _ _ _ _ _ _ _ (by simp [goodI, hgood]) (keep_emb hF _) hm hs
theorem goN_emb (hT : GoodT T) : ∀ n, EmbG ρ (goN T n)
  | 0 => fun _ _ _ _ _ _ _ _ _ _ _ hs => by cases hs
  | n + 1 => gF_emb (goN_emb hT n) hT
end
end Go.Am
