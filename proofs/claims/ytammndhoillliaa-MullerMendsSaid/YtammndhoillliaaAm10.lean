/-
  The order of operations that hang on nothing of one another does not matter to the small machine. No condition.
-/
import Derived.Test.YtammndhoillliaaAm2
namespace Go.Am
set_option linter.unusedVariables false
set_option linter.unusedSimpArgs false

/-! ### what an operation looks at -/
def tmpsOf : List Operand → List Nat
  | [] => []
  | .tmp t :: r => t :: tmpsOf r
  | _ :: r => tmpsOf r
def AOp.opds : AOp → List Operand
  | .mv x | .eqn _ _ x | .un _ x | .conv _ x | .box _ _ x | .ld _ _ x | .nilck x | .faddr _ x | .fld _ _ _ x | .len x | .lenS x | .ext _ x => [x]
  | .pick c a b => [c, a, b]
  | .bin _ x y | .eqb _ x y | .st _ x y | .mks _ _ _ _ x y | .iaddr _ x y | .iaddrA _ _ x y | .idxA _ _ _ x y | .idxS x y | .app _ _ _ x y | .cpy _ x y => [x, y]
  | .alloc .. | .lenK _ => []
  | .build _ _ ps => ps.map (·.2)
  | .mkSl _ _ _ xs | .mkf _ xs | .minmax _ xs | .call _ xs => xs
  | .sl _ x lo hi | .sls x lo hi => x :: (lo.toList ++ hi.toList)
  | .calld x xs => x :: xs
def AOper.looks (o : AOper) : List Nat := tmpsOf o.op.opds ++ (match o.guard with | some (s, _) => [s] | none => [])
/-- 0: memory does not matter; 1: it is looked at; 2: some is made; 3: it is written -/
def AOp.cls : AOp → Nat
  | .ld .. | .sl .. => 1
  | .alloc .. | .box .. | .mkSl .. | .mks .. | .call .. | .calld .. => 2
  | .st .. | .app .. | .cpy .. => 3
  | _ => 0
def AOp.isCall : AOp → Bool
  | .call .. | .calld .. => true
  | _ => false
def AOp.isLd : AOp → Bool
  | .ld .. => true
  | _ => false
/-- may the first of two that stand so in the text be put behind the second? -/
def swapOK (a b : AOper) : Bool :=
  (match a.dst with | some d => !b.looks.contains d && b.dst != some d | none => true) && (match b.dst with | some d => !a.looks.contains d | none => true) &&
  (a.op.cls == 0 || b.op.cls == 0 || (a.op.cls == 1 && b.op.cls == 1) || (a.op.cls == 1 && b.op.cls == 2 && (!b.op.isCall || b.chk)) ||
   (a.op.cls == 2 && b.op.isLd && (!a.op.isCall || a.chk) && b.chk))

theorem ev_eq {fr fr' : Fr} : ∀ {x : Operand}, (∀ t ∈ tmpsOf [x], fr t = fr' t) → ev fr x = ev fr' x
  | .tmp t, h => h t (by simp [tmpsOf])
  | .const _, _ => rfl
  | .global _, _ => rfl
  | .func _, _ => rfl
theorem mem_tmps_cons {t : Nat} {x : Operand} {xs : List Operand} : t ∈ tmpsOf (x :: xs) ↔ t ∈ tmpsOf [x] ∨ t ∈ tmpsOf xs := by
  cases x <;> simp [tmpsOf]
theorem mem_tmps_append {t : Nat} {xs ys : List Operand} : t ∈ tmpsOf (xs ++ ys) ↔ t ∈ tmpsOf xs ∨ t ∈ tmpsOf ys := by
  induction xs with
  | nil => simp [tmpsOf]
  | cons x xs ih => rw [List.cons_append, mem_tmps_cons, ih, mem_tmps_cons (xs := xs), or_assoc]
theorem evs_eq {fr fr' : Fr} : ∀ {xs : List Operand}, (∀ t ∈ tmpsOf xs, fr t = fr' t) → evs fr xs = evs fr' xs
  | [], _ => rfl
  | x :: xs, h => by
    simp only [evs]
    rw [ev_eq (x := x) fun t ht => h t (mem_tmps_cons.2 (.inl ht)), evs_eq fun t ht => h t (mem_tmps_cons.2 (.inr ht))]
theorem evp_eq {fr fr' : Fr} : ∀ {xs : List (Nat × Operand)}, (∀ t ∈ tmpsOf (xs.map (·.2)), fr t = fr' t) → evp fr xs = evp fr' xs
  | [], _ => rfl
  | (i, x) :: xs, h => by
    simp only [evp]
    rw [List.map_cons] at h
    rw [ev_eq (x := x) fun t ht => h t (mem_tmps_cons.2 (.inl ht)), evp_eq fun t ht => h t (mem_tmps_cons.2 (.inr ht))]
theorem evo_eq {fr fr' : Fr} {x : Option Operand} (h : ∀ t ∈ tmpsOf x.toList, fr t = fr' t) : evo fr x = evo fr' x := by
  cases x with
  | none => rfl
  | some x => simp only [evo]; rw [ev_eq (x := x) (by simpa using h)]

theorem aop_eq {fr fr' : Fr} {op : AOp} (h : H) (he : ∀ t ∈ tmpsOf op.opds, fr t = fr' t) : aop fr h op = aop fr' h op := by
  have one : ∀ {x : Operand} {xs : List Operand}, (∀ t ∈ tmpsOf (x :: xs), fr t = fr' t) → ev fr x = ev fr' x ∧ ∀ t ∈ tmpsOf xs, fr t = fr' t := fun h =>
    ⟨ev_eq fun t ht => h t (mem_tmps_cons.2 (.inl ht)), fun t ht => h t (mem_tmps_cons.2 (.inr ht))⟩
  cases op <;> simp only [AOp.opds] at he <;> simp only [aop]
  case pick c a b =>
    obtain ⟨h1, he⟩ := one he
    obtain ⟨h2, he⟩ := one he
    obtain ⟨h3, he⟩ := one he
    rw [h1]
    split
    · rename_i t _
      cases t <;> simp [h2, h3]
    · rfl
  case build zs pl ps => rw [evp_eq he]
  case mkSl => rw [evs_eq he]
  case mkf => rw [evs_eq he]
  case minmax => rw [evs_eq he]
  case sl size x lo hi =>
    obtain ⟨h1, he⟩ := one he
    rw [h1, evo_eq (x := lo) fun t ht => he t (mem_tmps_append.2 (.inl ht)), evo_eq (x := hi) fun t ht => he t (mem_tmps_append.2 (.inr ht))]
  case sls x lo hi =>
    obtain ⟨h1, he⟩ := one he
    rw [h1, evo_eq (x := lo) fun t ht => he t (mem_tmps_append.2 (.inl ht)), evo_eq (x := hi) fun t ht => he t (mem_tmps_append.2 (.inr ht))]
  all_goals first
    | rfl
    | (obtain ⟨h1, he⟩ := one he; obtain ⟨h2, he⟩ := one he; rw [h1, h2])
    | (obtain ⟨h1, he⟩ := one he; rw [h1])

/-! ### memory goes on -/
theorem aop_len {fr : Fr} {h : H} {op : AOp} {v : Option Value} {h' : H} (ha : aop fr h op = some (v, h')) : h.length ≤ h'.length := by
  have happ : ∀ {elem size bytes s x v h'}, aapp elem size bytes h s x = some (v, h') → h.length ≤ h'.length := by
    intro elem size bytes s x v h' hc
    unfold aapp at hc
    (repeat' split at hc) <;> first | (cases hc; done) | (cases hc; simp [kill])
  have hst : ∀ {o off vs h'}, H.sts h o off vs = some h' → h.length ≤ h'.length := by
    intro o off vs h' hc
    unfold H.sts at hc
    (repeat' split at hc) <;> first | (cases hc; done) | (cases hc; simp)
  have hcp : ∀ {size d s v h'}, acpy size h d s = some (v, h') → h.length ≤ h'.length := by
    intro size d s v h' hc
    unfold acpy at hc
    (repeat' split at hc) <;> first | (cases hc; done) | (cases hc; exact hst ‹_›) | (cases hc; simp)
  cases op <;> simp only [aop] at ha <;> (repeat' split at ha) <;> first
    | (cases ha; done)
    | (cases ha; exact happ ‹_›)
    | (cases ha; exact hst ‹_›)
    | (cases ha; exact hcp ‹_›)
    | (cases ha; simp)

theorem enter_len {T : Tab} {g : List ARes → List It → Fr → H → Res} (hg : ∀ rs ks fr h v h', g rs ks fr h = some (v, h') → h.length ≤ h'.length) {f vs} {h : H} {v} {h' : H} (he : enter T g f vs h = some (v, h')) : h.length ≤ h'.length := by
  unfold enter at he
  split at he
  · split at he
    · exact hg _ _ _ _ _ _ he
    · cases he
  · cases he
theorem behind_some {α : Type} {chk : Bool} {h h' : H} {r : Option α} {x : α} (hb : behind chk h h' r = some x) : r = some x ∧ (chk = true → h <+: h') := by
  unfold behind at hb
  cases chk with
  | false => exact ⟨hb, fun h => by cases h⟩
  | true => simp only at hb; split at hb
            · exact ⟨hb, fun _ => ‹_›⟩
            · cases hb
theorem behind_mk {α : Type} {chk : Bool} {h h' : H} {r : Option α} (hc : chk = true → h <+: h') : behind chk h h' r = r := by
  unfold behind
  cases chk with
  | false => rfl
  | true => simp only; rw [if_pos (hc rfl)]
theorem core_len {T : Tab} {g : List ARes → List It → Fr → H → Res} (hg : ∀ rs ks fr h v h', g rs ks fr h = some (v, h') → h.length ≤ h'.length) {n0 o fr} {h : H} {v} {h' : H} (hs : core T g n0 o fr h = some (v, h')) : h.length ≤ h'.length := by
  unfold core at hs
  split at hs
  · cases hs; exact Nat.le_refl _
  · split at hs
    · split at hs
      · split at hs
        · rename_i he
          have := (behind_some hs).1
          cases this
          exact enter_len hg he
        · cases hs
      · cases hs
    · split at hs
      · split at hs
        · split at hs
          · rename_i he
            have := (behind_some hs).1
            cases this
            exact enter_len hg he
          · cases hs
        · cases hs
      · cases hs
    · split at hs
      · exact aop_len hs
      · cases hs
  · cases hs
theorem stepO_len {T : Tab} {g : List ARes → List It → Fr → H → Res} (hg : ∀ rs ks fr h v h', g rs ks fr h = some (v, h') → h.length ≤ h'.length) {n0 o fr} {h : H} {fr'} {h' : H} (hs : stepO T g n0 o fr h = some (fr', h')) : h.length ≤ h'.length := by
  unfold stepO at hs
  split at hs
  · cases hs; exact core_len hg ‹_›
  · cases hs
theorem runOps_len {T : Tab} {g : List ARes → List It → Fr → H → Res} (hg : ∀ rs ks fr h v h', g rs ks fr h = some (v, h') → h.length ≤ h'.length) {n0 : Nat} : ∀ {l fr} {h : H} {fr'} {h' : H}, runOps T g n0 l fr h = some (fr', h') → h.length ≤ h'.length
  | [], fr, h, fr', h', hs => by cases hs; exact Nat.le_refl _
  | o :: l, fr, h, fr', h', hs => by
    simp only [runOps] at hs
    split at hs
    · exact Nat.le_trans (stepO_len hg ‹_›) (runOps_len hg hs)
    · cases hs
theorem goN_len {T : Tab} : ∀ (n : Nat) rs ks fr h v h', goN T n rs ks fr h = some (v, h') → h.length ≤ h'.length
  | 0, _, _, _, _, _, _, hs => by cases hs
  | n + 1, rs, ks, fr, h, v, h', hs => by
    have ih := goN_len (T := T) n
    have hret : ∀ {fr : Fr} {v h'}, retv rs fr h = some (v, h') → h.length ≤ h'.length := by
      intro fr v h' hr
      unfold retv at hr
      split at hr <;> first | (cases hr; done) | (cases hr; exact Nat.le_refl _)
    simp only [goN] at hs
    unfold gF at hs
    split at hs <;> first | exact ih _ _ _ _ _ _ hs | (cases hs; done) | skip
    · exact hret hs
    · exact hret hs
    · split at hs
      · exact ih _ _ _ _ _ _ hs
      · cases hs
    · split at hs
      · exact ih _ _ _ _ _ _ hs
      · cases hs
    · split at hs
      · exact Nat.le_trans (runOps_len ih ‹_›) (ih _ _ _ _ _ _ hs)
      · cases hs

/-! ### one operation, said by what it looks at -/
theorem stepO_core {T : Tab} {g : List ARes → List It → Fr → H → Res} {n0 : Nat} {o : AOper} {fr : Fr} {h : H} :
    stepO T g n0 o fr h = (core T g n0 o fr h).map fun p => (fr.put o.dst p.1, p.2) := by
  unfold stepO
  cases core T g n0 o fr h <;> rfl

theorem gd_eq {fr fr' : Fr} {g : Option (Nat × Bool)} (h : ∀ s b, g = some (s, b) → fr s = fr' s) : gd fr g = gd fr' g := by
  cases g with
  | none => rfl
  | some p => obtain ⟨s, b⟩ := p; have := h s b rfl; simp only [gd, this]
theorem older_eq {fr fr' : Fr} {n0 : Nat} {o : AOper} (h : ∀ t ∈ tmpsOf o.op.opds, fr t = fr' t) : older n0 fr o = older n0 fr' o := by
  obtain ⟨dst, op, guard, chk⟩ := o
  cases chk with
  | false => cases op <;> rfl
  | true =>
    cases op <;> first | rfl | skip
    rename_i agg n a
    have := ev_eq (fr := fr) (fr' := fr') (x := a) h
    simp only [older, this]
theorem core_eq {T : Tab} {g : List ARes → List It → Fr → H → Res} {n0 : Nat} {o : AOper} {fr fr' : Fr} {h : H} (he : ∀ t ∈ o.looks, fr t = fr' t) : core T g n0 o fr h = core T g n0 o fr' h := by
  have h1 : ∀ t ∈ tmpsOf o.op.opds, fr t = fr' t := fun t ht => he t (List.mem_append_left _ ht)
  have hg : gd fr o.guard = gd fr' o.guard := gd_eq fun s b hgd => he s (List.mem_append_right _ (by simp [hgd]))
  have ho : older n0 fr o = older n0 fr' o := older_eq h1
  unfold core
  rw [hg]
  split
  · rfl
  · split
    · rename_i f args hop; rw [hop] at h1; rw [evs_eq (xs := args) h1]
    · rename_i x args hop
      rw [hop] at h1
      have e1 : ev fr x = ev fr' x := ev_eq fun t ht => h1 t (mem_tmps_cons.2 (.inl ht))
      have e2 : evs fr args = evs fr' args := evs_eq fun t ht => h1 t (mem_tmps_cons.2 (.inr ht))
      rw [e1, e2]
    · rw [ho, aop_eq h h1]
  · rfl

theorem row_app {h : H} {b : List Ob} {o : Nat} (ho : o < h.length) : H.row (h ++ b) o = h.row o := by
  unfold H.row; rw [List.getElem?_append_left ho]
theorem row_prefix {h h' : H} (hp : h <+: h') {o : Nat} (ho : o < h.length) : h'.row o = h.row o := by
  obtain ⟨t, rfl⟩ := hp
  exact row_app ho

theorem row_some_lt {h : H} {o : Nat} {r : Row} (hr : h.row o = some r) : o < h.length := by
  unfold H.row at hr
  split at hr
  · rename_i hh
    exact (List.getElem?_eq_some_iff.1 hh).1
  · cases hr

/-- what does not look at memory gives the same whatever it is, and leaves it as it is -/
theorem core_pure {T : Tab} {g : List ARes → List It → Fr → H → Res} {n0 : Nat} {o : AOper} {fr : Fr} {h : H} (hc : o.op.cls = 0) {p} (hs : core T g n0 o fr h = some p) : p.2 = h ∧ ∀ h2, core T g n0 o fr h2 = some (p.1, h2) := by
  unfold core at hs ⊢
  split at hs
  · cases hs; rename_i hg; exact ⟨rfl, fun h2 => by simp only⟩
  · split at hs
    · rename_i hop; rw [hop] at hc; cases hc
    · rename_i hop; rw [hop] at hc; cases hc
    · rename_i hne1 hne2
      split at hs
      · rename_i hold
        have key : ∀ (op : AOp), op.cls = 0 → ∀ {p}, aop fr h op = some p → p.2 = h ∧ ∀ h2, aop fr h2 op = some (p.1, h2) := by
          intro op hc p hp
          cases op <;> simp only [AOp.cls] at hc <;> first | (exfalso; revert hc; decide) | skip
          all_goals (simp only [aop] at hp ⊢)
          all_goals ((repeat' split at hp) <;> first | (cases hp; done) | (cases hp; exact ⟨rfl, fun h2 => by simp_all⟩))
        obtain ⟨h1, h2⟩ := key o.op hc hs
        exact ⟨h1, fun h3 => by rw [if_pos hold]; exact h2 h3⟩
      · cases hs
  · cases hs

/-- what only looks at memory leaves it as it is, and sees the same where memory has only grown -/
theorem core_read {T : Tab} {g : List ARes → List It → Fr → H → Res} {n0 : Nat} {o : AOper} {fr : Fr} {h : H} (hc : o.op.cls = 1) {p} (hs : core T g n0 o fr h = some p) : p.2 = h ∧ ∀ h2, h <+: h2 → core T g n0 o fr h2 = some (p.1, h2) := by
  unfold core at hs ⊢
  split at hs
  · cases hs; exact ⟨rfl, fun h2 _ => by simp only⟩
  · split at hs
    · rename_i hop; rw [hop] at hc; cases hc
    · rename_i hop; rw [hop] at hc; cases hc
    · split at hs
      · rename_i hold
        have key : ∀ (op : AOp), op.cls = 1 → ∀ {p}, aop fr h op = some p → p.2 = h ∧ ∀ h2, h <+: h2 → aop fr h2 op = some (p.1, h2) := by
          intro op hc p hp
          cases op <;> simp only [AOp.cls] at hc <;> first | (exfalso; revert hc; decide) | skip
          case ld agg n a =>
            simp only [aop] at hp ⊢
            split at hp
            · split at hp
              · cases hp
              · rename_i hsp
                split at hp
                · split at hp
                  · rename_i hl
                    cases hp
                    refine ⟨rfl, fun h2 h12 => ?_⟩
                    rw [if_neg hsp]
                    unfold H.lds at hl
                    split at hl
                    · rename_i r hr
                      unfold H.lds
                      rw [row_prefix h12 (row_some_lt hr), hr]
                      simp only at hl ⊢
                      rw [hl]
                    · cases hl
                  · cases hp
                · split at hp
                  · rename_i hl
                    cases hp
                    refine ⟨rfl, fun h2 h12 => ?_⟩
                    rw [if_neg hsp]
                    unfold H.ld1 at hl
                    split at hl
                    · rename_i r hr
                      unfold H.ld1
                      rw [row_prefix h12 (row_some_lt hr), hr]
                      simp only at hl ⊢
                      rw [hl]
                    · cases hl
                  · cases hp
            · cases hp
          case sl size x lo hi =>
            simp only [aop] at hp ⊢
            split at hp
            · rename_i sa l c _ _ _ _ _
              split at hp
              · rename_i hcond
                cases hp
                refine ⟨rfl, fun h2 h12 => ?_⟩
                have hu : unitOk h2 size sa = true := by
                  have := hcond.2.2.2
                  unfold unitOk at this ⊢
                  cases sa with
                  | none => rfl
                  | some p =>
                    simp only at this ⊢
                    split at this
                    · rename_i r hr
                      rw [row_prefix h12 (row_some_lt hr), hr]
                      exact this
                    · cases this
                rw [if_pos ⟨hcond.1, hcond.2.1, hcond.2.2.1, hu⟩]
              · cases hp
            · cases hp
        obtain ⟨h1, h2⟩ := key o.op hc hs
        exact ⟨h1, fun h3 h13 => by rw [if_pos hold]; exact h2 h3 h13⟩
      · cases hs
  · cases hs

/-- what makes memory only adds to it -/
theorem core_ext {T : Tab} {g : List ARes → List It → Fr → H → Res} {n0 : Nat} {o : AOper} {fr : Fr} {h : H} (hc : o.op.cls = 2) (hk : (!o.op.isCall || o.chk) = true) {p} (hs : core T g n0 o fr h = some p) : h <+: p.2 := by
  unfold core at hs
  split at hs
  · cases hs; exact List.prefix_refl _
  · split at hs
    · rename_i hop
      rw [hop] at hk
      split at hs
      · split at hs
        · obtain ⟨h1, h2⟩ := behind_some hs
          cases h1
          exact h2 (by simpa [AOp.isCall] using hk)
        · cases hs
      · cases hs
    · rename_i hop
      rw [hop] at hk
      split at hs
      · split at hs
        · split at hs
          · obtain ⟨h1, h2⟩ := behind_some hs
            cases h1
            exact h2 (by simpa [AOp.isCall] using hk)
          · cases hs
        · cases hs
      · cases hs
    · rename_i hne1 hne2
      split at hs
      · have key : ∀ (op : AOp), op.cls = 2 → (∀ f xs, op ≠ .call f xs) → (∀ x xs, op ≠ .calld x xs) → ∀ {p}, aop fr h op = some p → h <+: p.2 := by
          intro op hc n1 n2 p hp
          cases op <;> simp only [AOp.cls] at hc <;> first | (exfalso; revert hc; decide) | skip
          case call => exact absurd rfl (n1 _ _)
          case calld => exact absurd rfl (n2 _ _)
          all_goals (simp only [aop] at hp)
          all_goals ((repeat' split at hp) <;> first | (cases hp; done) | (cases hp; exact List.prefix_append _ _))
        exact key o.op hc (fun f xs he => hne1 f xs he) (fun x xs he => hne2 x xs he) hs
      · cases hs
  · cases hs

/-- a load that looks at what is old sees it before memory grows, too -/
theorem core_old {T : Tab} {g : List ARes → List It → Fr → H → Res} {n0 : Nat} {o : AOper} {fr : Fr} {h h2 : H} (hl : o.op.isLd = true) (hck : o.chk = true) (hn : n0 ≤ h.length) (h12 : h <+: h2) {p} (hs : core T g n0 o fr h2 = some p) :
    p.2 = h2 ∧ core T g n0 o fr h = some (p.1, h) := by
  unfold core at hs ⊢
  split at hs
  · cases hs; exact ⟨rfl, rfl⟩
  · cases hop : o.op <;> rw [hop] at hl <;> first | (cases hl; done) | skip
    rename_i agg n a
    rw [hop] at hs
    simp only at hs ⊢
    split at hs
    · rename_i hold
      rw [if_pos hold]
      unfold older at hold
      rw [hck, hop] at hold
      simp only at hold
      simp only [aop] at hs ⊢
      split at hs
      · rename_i ad had
        rw [had] at hold
        simp only [decide_eq_true_eq] at hold
        split at hs
        · cases hs
        · rename_i hsp
          simp only [hsp, if_false, Bool.false_eq_true]
          have hrow : h2.row ad.block = h.row ad.block := row_prefix h12 (by omega)
          split at hs
          · split at hs
            · rename_i hlds
              cases hs
              refine ⟨rfl, ?_⟩
              unfold H.lds at hlds ⊢
              rw [hrow] at hlds
              rw [hlds]
            · cases hs
          · split at hs
            · rename_i hlds
              cases hs
              refine ⟨rfl, ?_⟩
              unfold H.ld1 at hlds ⊢
              rw [hrow] at hlds
              rw [hlds]
            · cases hs
      · cases hs
    · cases hs
  · cases hs

theorem put_get {fr : Fr} {d : Option Nat} {v : Option Value} {t : Nat} (h : d ≠ some t) : fr.put d v t = fr t := by
  cases d with
  | none => rfl
  | some s =>
    have hne : Nat.beq t s = false := by
      cases hb : Nat.beq t s with
      | false => rfl
      | true => exact absurd (by rw [Nat.eq_of_beq_eq_true hb]) h
    cases v with
    | none => simp [Fr.put, Fr.del, hne]
    | some v => simp [Fr.put, Fr.set, hne]
theorem put_same {fr fr' : Fr} {s : Nat} {v : Option Value} : fr.put (some s) v s = fr'.put (some s) v s := by
  cases v <;> simp [Fr.put, Fr.del, Fr.set]
theorem put_comm {fr : Fr} {d e : Option Nat} {v u : Option Value} (h : ∀ s, d = some s → e ≠ some s) : (fr.put d v).put e u = (fr.put e u).put d v := by
  funext t
  by_cases h1 : e = some t
  · have h2 : d ≠ some t := fun h3 => h t h3 h1
    rw [put_get (d := d) h2, h1]
    exact put_same
  · rw [put_get h1]
    by_cases h2 : d = some t
    · rw [h2]; exact put_same
    · rw [put_get h2, put_get h2, put_get h1]

theorem swap {T : Tab} {g : List ARes → List It → Fr → H → Res} {n0 : Nat} {o1 o2 : AOper} (hs : swapOK o1 o2 = true) {fr fr1 fr2 : Fr} {h h1 h2 : H} (hn : n0 ≤ h.length)
    (s1 : stepO T g n0 o1 fr h = some (fr1, h1)) (s2 : stepO T g n0 o2 fr1 h1 = some (fr2, h2)) :
    ∃ fr1' h1', stepO T g n0 o2 fr h = some (fr1', h1') ∧ stepO T g n0 o1 fr1' h1' = some (fr2, h2) := by
  simp only [swapOK, Bool.and_eq_true] at hs
  obtain ⟨⟨ha, hb⟩, hcls⟩ := hs
  have d1 : ∀ d, o1.dst = some d → d ∉ o2.looks ∧ o2.dst ≠ some d := by
    intro d hd
    rw [hd] at ha
    simpa using ha
  have d2 : ∀ d, o2.dst = some d → d ∉ o1.looks := by
    intro d hd
    rw [hd] at hb
    simpa using hb
  rw [stepO_core] at s1 s2
  cases c1 : core T g n0 o1 fr h with
  | none => rw [c1] at s1; cases s1
  | some p1 =>
    rw [c1] at s1
    simp only [Option.map_some, Option.some.injEq, Prod.mk.injEq] at s1
    obtain ⟨rfl, rfl⟩ := s1
    cases c2 : core T g n0 o2 (fr.put o1.dst p1.1) p1.2 with
    | none => rw [c2] at s2; cases s2
    | some p2 =>
      rw [c2] at s2
      simp only [Option.map_some, Option.some.injEq, Prod.mk.injEq] at s2
      obtain ⟨rfl, rfl⟩ := s2
      have e2 : ∀ h, core T g n0 o2 (fr.put o1.dst p1.1) h = core T g n0 o2 fr h := fun h => core_eq fun t ht => put_get fun hd => (d1 t hd).1 ht
      have e1 : ∀ u h, core T g n0 o1 (fr.put o2.dst u) h = core T g n0 o1 fr h := fun u h => core_eq fun t ht => put_get fun hd => d2 t hd ht
      rw [e2] at c2
      have fin : ∀ h1', core T g n0 o2 fr h = some (p2.1, h1') → core T g n0 o1 fr h1' = some (p1.1, p2.2) →
          ∃ fr1' h1', stepO T g n0 o2 fr h = some (fr1', h1') ∧ stepO T g n0 o1 fr1' h1' = some ((fr.put o1.dst p1.1).put o2.dst p2.1, p2.2) := by
        intro h1' k1 k2
        refine ⟨fr.put o2.dst p2.1, h1', by rw [stepO_core, k1]; rfl, ?_⟩
        rw [stepO_core, e1, k2]
        simp only [Option.map_some, Option.some.injEq, Prod.mk.injEq, and_true]
        exact (put_comm fun s h1 h2 => (d1 s h1).2 h2).symm
      simp only [Bool.or_eq_true, Bool.and_eq_true, beq_iff_eq] at hcls
      rcases hcls with (((h0 | h0) | ⟨h0, h0'⟩) | ⟨⟨h0, h0'⟩, hk⟩) | ⟨⟨⟨h0, hl⟩, hk⟩, hck⟩
      · obtain ⟨q1, q2⟩ := core_pure h0 c1
        rw [q1] at c2
        exact fin p2.2 c2 (q2 _)
      · obtain ⟨q1, q2⟩ := core_pure h0 c2
        exact fin h (q2 h) (by rw [q1]; exact c1)
      · obtain ⟨q1, q2⟩ := core_read h0 c1
        rw [q1] at c2
        obtain ⟨q3, q4⟩ := core_read h0' c2
        exact fin p2.2 c2 (by rw [q3]; exact q2 h (List.prefix_refl _))
      · obtain ⟨q1, q2⟩ := core_read h0 c1
        rw [q1] at c2
        exact fin p2.2 c2 (q2 _ (core_ext h0' (by simpa using hk) c2))
      · have q1 := core_ext h0 (by simpa using hk) c1
        obtain ⟨q2, q3⟩ := core_old hl hck hn q1 c2
        exact fin h q3 (by rw [q2]; exact c1)
end Go.Am
