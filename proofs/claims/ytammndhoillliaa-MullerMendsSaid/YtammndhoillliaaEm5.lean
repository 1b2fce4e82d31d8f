/-
  Two operations that hang on nothing of one another, one behind the other either way: the same but for names. Condition: values name only what there is.
-/
import Derived.Test.YtammndhoillliaaEm4
namespace Go.Am
set_option linter.unusedVariables false
set_option linter.unusedSimpArgs false

/-- values name only what there is -/
structure WFs (fr : Fr) (h : H) : Prop where
  fe : FE Eq h.length fr fr
  me : ME Eq h h
/-- the same but for names of what is new -/
structure Eqv (n0 : Nat) (fr : Fr) (h : H) (fr2 : Fr) (h2 : H) : Prop where
  ex : ∃ π : Rel, FE π h.length fr fr2 ∧ ME π h h2 ∧ h.length = h2.length ∧ (∀ o, o < n0 → π o o) ∧ (∀ o, o < h.length → ∃ o2, π o o2)

theorem WFs.eqv {fr : Fr} {h : H} (hw : WFs fr h) (n0 : Nat) : Eqv n0 fr h fr h := ⟨Eq, hw.fe, hw.me, rfl, fun _ _ => rfl, fun o _ => ⟨o, rfl⟩⟩
theorem ME.comp {ρ σ : Rel} {h h2 h3 : H} (a : ME ρ h h2) (b : ME σ h2 h3) : ME (fun o o3 => ∃ o2, ρ o o2 ∧ σ o2 o3) h h3 := by
  refine ⟨fun o o3 p p3 ⟨o2, h1, h2⟩ ⟨p2, h3, h4⟩ => (a.uni _ _ _ _ h1 h3).trans (b.uni _ _ _ _ h2 h4), fun j => ⟨_, a.new j, b.new j⟩, fun o o3 ⟨o2, h1, h2⟩ => ?_⟩
  exact (a.get _ _ h1).comp (b.get _ _ h2) fun x y z h1 h2 h3 h4 => ⟨⟨y, h1, h3⟩, h2⟩
theorem Eqv.trans {n0 : Nat} {fr fr2 fr3 : Fr} {h h2 h3 : H} (a : Eqv n0 fr h fr2 h2) (b : Eqv n0 fr2 h2 fr3 h3) : Eqv n0 fr h fr3 h3 := by
  obtain ⟨π, a1, a2, a3, a4, a5⟩ := a.ex
  obtain ⟨σ, b1, b2, b3, b4, b5⟩ := b.ex
  refine ⟨_, fun t v hv => ?_, a2.comp b2, a3.trans b3, fun o ho => ⟨o, a4 o ho, b4 o ho⟩, fun o ho => ?_⟩
  · obtain ⟨v2, k1, k2⟩ := a1 t v hv
    obtain ⟨v3, k3, k4⟩ := b1 t v2 k1
    exact ⟨v3, k3, k2.comp k4 fun x y z h1 h2 h3 h4 => ⟨⟨y, h1, h3⟩, h2⟩⟩
  · obtain ⟨o2, h1⟩ := a5 o ho
    obtain ⟨o3, h2⟩ := b5 o2 (a2.lt h1 ho)
    exact ⟨o3, o2, h1, h2⟩

section
variable {T : Tab} {g : List ARes → List It → Fr → H → Res} {n0 : Nat}
theorem WFs.run (hg : ∀ ρ, EmbG ρ g) (hT : GoodT T) {l : List AOper} (hl : (l.all fun o => o.op.good) = true) {fr fr' : Fr} {h h' : H} (hw : WFs fr h) (hs : runOps T g n0 l fr h = some (fr', h')) : WFs fr' h' := by
  obtain ⟨fr2, h2, k1, k2, k3⟩ := runOps_emb (hg Eq) hT (n0 := n0) (n02 := n0) (fun o o2 h1 h2 => h1 ▸ h2) hl hw.fe hw.me hs
  rw [hs] at k1
  cases k1
  exact ⟨k2, k3.me⟩
theorem Eqv.run (hg : ∀ ρ, EmbG ρ g) (hT : GoodT T) {l : List AOper} (hl : (l.all fun o => o.op.good) = true) {fr fr2 fr' : Fr} {h h2 h' : H} (hn : n0 ≤ h.length) (he : Eqv n0 fr h fr2 h2) (hs : runOps T g n0 l fr h = some (fr', h')) :
    ∃ fr2' h2', runOps T g n0 l fr2 h2 = some (fr2', h2') ∧ Eqv n0 fr' h' fr2' h2' := by
  obtain ⟨π, a1, a2, a3, a4, a5⟩ := he.ex
  obtain ⟨fr2', h2', k1, k2, k3⟩ := runOps_emb (hg π) hT (n0 := n0) (n02 := n0) (fun o o2 h1 h2 => by
    have := (a2.uni _ _ _ _ h1 (a4 o h2)).1 rfl; omega) hl a1 a2 hs
  obtain ⟨m, m1, m2⟩ := k3.more
  refine ⟨fr2', h2', k1, π, k2, k3.me, by omega, a4, fun o ho => ?_⟩
  by_cases hlt : o < h.length
  · exact a5 o hlt
  · exact ⟨h2.length + (o - h.length), by have := a2.new (o - h.length); rwa [show h.length + (o - h.length) = o by omega] at this⟩

/-! ### operations that make one object of what the frame tells alone -/
def AOp.isNew : AOp → Bool
  | .alloc .. | .box .. | .mkSl .. | .mks .. => true
  | _ => false
theorem aop_new {op : AOp} (hn : op.isNew = true) (hgood : op.good = true) {fr : Fr} {h h' : H} {v : Option Value} (ha : aop fr h op = some (v, h')) :
    ∃ (mk : Nat → Value) (r : Row), (∀ h2, aop fr h2 op = some (some (mk h2.length), h2 ++ [.row r])) ∧ (∀ (ρ : Rel) n o o2, ρ o o2 → o < n → E ρ n (mk o) (mk o2)) ∧ (∀ n, FE Eq n fr fr → LE Eq n r.cells r.cells) := by
  cases op <;> first | (cases hn; done) | skip
  case alloc elem zs =>
    exact ⟨fun o => .pointer (some ⟨o, 0, none⟩), ⟨zs, elem, 0, true⟩, fun h2 => rfl, fun ρ n o o2 h1 h2 => .ptr _ _ _ h1 h2, fun n _ => LE.self (show zs.all closed1 = true from hgood)⟩
  case box elem size x =>
    simp only [aop] at ha
    split at ha
    · rename_i u hu
      split at ha
      · rename_i hc
        refine ⟨fun o => .pointer (some ⟨o, 0, none⟩), ⟨u.cells.toList, elem, 0, true⟩, fun h2 => by simp only [aop, hu]; rw [if_pos hc], fun ρ n o o2 h1 h2 => .ptr _ _ _ h1 h2, fun n hF => ?_⟩
        obtain ⟨u2, e1, e2⟩ := ev_emb hF hu
        rw [hu] at e1; cases e1
        exact e2.cells
      · cases ha
    · cases ha
  case mkSl elem size len parts =>
    simp only [aop] at ha
    split at ha
    · rename_i vs hvs
      split at ha
      · rename_i hc
        refine ⟨fun o => .slice (some ⟨o, 0, none⟩) len len, ⟨cat vs, elem, size, true⟩, fun h2 => by simp only [aop, hvs]; rw [if_pos hc], fun ρ n o o2 h1 h2 => .sl _ _ _ _ _ h1 h2, fun n hF => ?_⟩
        obtain ⟨vs2, e1, e2⟩ := evs_emb hF hvs
        rw [hvs] at e1; cases e1
        exact (sized_emb (size := size) e2).2
      · cases ha
    · cases ha
  case mks elem size bytes zs l c =>
    simp only [aop] at ha
    split at ha
    · rename_i kl l' kc c' h3 h4
      split at ha
      · rename_i hc
        exact ⟨fun o => .slice (some ⟨o, 0, none⟩) l'.toNat c'.toNat, ⟨rep zs c'.toNat, elem, size, true⟩, fun h2 => by simp only [aop, h3, h4]; rw [if_pos hc], fun ρ n o o2 h1 h2 => .sl _ _ _ _ _ h1 h2, fun n hF => LE.rep (LE.self (show zs.all closed1 = true from hgood)) _⟩
      · cases ha
    · cases ha
theorem core_new {o : AOper} (hn : o.op.isNew = true) (hgood : o.op.good = true) {fr : Fr} {h h' : H} {v : Option Value} (ha : core T g n0 o fr h = some (v, h')) :
    (∀ h2, core T g n0 o fr h2 = some (v, h2)) ∨
    ∃ (mk : Nat → Value) (r : Row), (∀ h2, core T g n0 o fr h2 = some (some (mk h2.length), h2 ++ [.row r])) ∧ (∀ (ρ : Rel) n o o2, ρ o o2 → o < n → E ρ n (mk o) (mk o2)) ∧ (∀ n, FE Eq n fr fr → LE Eq n r.cells r.cells) := by
  unfold core at ha
  split at ha
  · rename_i hgd
    cases ha
    exact .inl fun h2 => by unfold core; rw [hgd]
  · rename_i hgd
    split at ha
    · rename_i hop; rw [hop] at hn; cases hn
    · rename_i hop; rw [hop] at hn; cases hn
    · rename_i hne1 hne2
      split at ha
      · rename_i hol
        obtain ⟨mk, r, k1, k2, k3⟩ := aop_new hn hgood ha
        refine .inr ⟨mk, r, fun h2 => ?_, k2, k3⟩
        unfold core
        simp only [hgd]
        rw [if_pos hol]
        exact k1 h2
      · cases ha
  · cases ha

/-- what only looks, looks the same where there is more to see -/
theorem core_sub {o : AOper} (hc : o.op.cls = 1) {fr : Fr} {h hx : H} {n : Nat} (hF : FE Eq n fr fr) (hsub : ∀ x r, x < n → H.row hx x = some r → h.row x = some r) {v : Option Value} {h' : H} (hs : core T g n0 o fr hx = some (v, h')) : core T g n0 o fr h = some (v, h) := by
  have hx' := (core_read hc hs).1
  simp only at hx'
  subst hx'
  unfold core at hs ⊢
  split at hs
  · cases hs; rfl
  · split at hs
    · rename_i hop; rw [hop] at hc; cases hc
    · rename_i hop; rw [hop] at hc; cases hc
    · rename_i hne1 hne2
      split at hs
      · rename_i hold
        rw [if_pos hold]
        cases hop : o.op <;> rw [hop] at hc <;> simp only [AOp.cls] at hc <;> first | (exfalso; revert hc; decide) | skip
        case ld agg k a =>
          rw [hop] at hs
          simp only [aop] at hs ⊢
          split at hs
          · rename_i ad had
            obtain ⟨v2, e1, e2⟩ := ev_emb hF had
            obtain ⟨o2, q1, q2, q3, rfl⟩ := e2.ptr_inv
            split at hs
            · cases hs
            · rename_i hsp
              rw [if_neg hsp]
              split at hs
              · unfold H.lds at hs ⊢
                split at hs
                · rename_i cs hcs
                  split at hcs
                  · rename_i r hr
                    rw [hsub _ _ q3 hr]
                    cases hs
                    simp only [hcs]
                  · cases hcs
                · cases hs
              · unfold H.ld1 at hs ⊢
                split at hs
                · rename_i u hu
                  split at hu
                  · rename_i r hr
                    rw [hsub _ _ q3 hr]
                    cases hs
                    simp only [hu]
                  · cases hu
                · cases hs
          · cases hs
        case sl size x lo hi =>
          rw [hop] at hs
          simp only [aop] at hs ⊢
          split at hs
          · rename_i a l c lo' hi' h3 h4 h5
            split at hs
            · rename_i hcond
              cases hs
              have hu : unitOk h size a = true := by
                have hu := hcond.2.2.2
                cases a with
                | none => rfl
                | some a =>
                  obtain ⟨v2, e1, e2⟩ := ev_emb hF h3
                  obtain ⟨o2, q1, q2, q3, rfl⟩ := e2.sl_inv
                  unfold unitOk at hu ⊢
                  simp only at hu ⊢
                  split at hu
                  · rename_i r hr; rw [hsub _ _ q3 hr]; exact hu
                  · cases hu
              rw [if_pos ⟨hcond.1, hcond.2.1, hcond.2.2.1, hu⟩]
            · cases hs
          · cases hs
      · cases hs
  · cases hs
def AOp.isApp : AOp → Bool
  | .app .. => true
  | _ => false
theorem kill_sub {h : H} {x y : Nat} {r : Row} (hx : x < h.length) (hr : H.row (kill h y) x = some r) : h.row x = some r := by
  unfold H.row kill at *
  by_cases he : y = x
  · rw [he, List.getElem?_set_self hx] at hr; cases hr
  · rw [List.getElem?_set_ne he] at hr; exact hr
/-- behind an append there are but rows that were there before it -/
theorem core_app {o : AOper} (hc : o.op.isApp = true) {fr : Fr} {h h' : H} {v : Option Value} (hs : core T g n0 o fr h = some (v, h')) : ∀ x r, x < h.length → H.row h' x = some r → h.row x = some r := by
  have happ : ∀ {elem size bytes s x v h'}, aapp elem size bytes h s x = some (v, h') → ∀ x r, x < h.length → H.row h' x = some r → h.row x = some r := by
    intro elem size bytes s x v h' hap x r hx hr
    unfold aapp at hap
    split at hap <;> first | (cases hap; done) | skip
    split at hap <;> first | (cases hap; done) | skip
    split at hap
    · split at hap <;> first | (cases hap; done) | skip
      split at hap
      · cases hap; exact hr
      · split at hap
        · cases hap; rwa [row_app hx] at hr
        · cases hap
    · split at hap <;> first | (cases hap; done) | skip
      split at hap
      · cases hap
        rw [row_app (by simp [kill]; exact hx)] at hr
        exact kill_sub hx hr
      · cases hap
  unfold core at hs
  split at hs
  · cases hs; exact fun _ _ _ h => h
  · cases hop : o.op <;> rw [hop] at hc <;> first | (cases hc; done) | skip
    rw [hop] at hs
    simp only at hs
    split at hs
    · simp only [aop] at hs
      split at hs
      · split at hs
        · rename_i hap
          cases hs
          exact happ hap
        · cases hs
      · cases hs
    · cases hs
  · cases hs

/-- does it only add to memory? -/
def adds (o : AOper) : Bool := Nat.ble o.op.cls 2 && (!o.op.isCall || o.chk)
theorem core_adds {o : AOper} (ha : adds o = true) {fr : Fr} {h : H} {p} (hs : core T g n0 o fr h = some p) : h <+: p.2 := by
  simp only [adds, Bool.and_eq_true] at ha
  have h2 := Nat.le_of_ble_eq_true ha.1
  by_cases h0 : o.op.cls = 0
  · rw [(core_pure h0 hs).1]; exact List.prefix_refl _
  · by_cases h1 : o.op.cls = 1
    · rw [(core_read h1 hs).1]; exact List.prefix_refl _
    · exact core_ext (by omega) ha.2 hs

/-- p objects from N on are left out -/
def cut (N p : Nat) : Rel := fun o o2 => (o < N ∧ o2 = o) ∨ (N + p ≤ o ∧ o2 + p = o)
/-- room for p objects from N on -/
def ins (N p : Nat) : Rel := fun o o2 => (o < N ∧ o2 = o) ∨ (N ≤ o ∧ o2 = o + p)
/-- p objects from N on, and q behind them, change places -/
def flip (N p q : Nat) : Rel := fun o o2 => (o < N ∧ o2 = o) ∨ (N ≤ o ∧ o < N + p ∧ o2 = o + q) ∨ (N + p ≤ o ∧ o < N + p + q ∧ o2 + p = o) ∨ (N + p + q ≤ o ∧ o2 = o)

theorem pre_get {h h' : H} {o : Nat} (hp : h <+: h') (ho : o < h.length) : h'[o]? = h[o]? := by
  obtain ⟨t, rfl⟩ := hp
  exact List.getElem?_append_left ho
theorem OE.none {ρ : Rel} {n : Nat} {h h2 : H} {o o2 : Nat} (h1 : h.length ≤ o) (h3 : h2.length ≤ o2) : OE ρ n h[o]? h2[o2]? := by
  rw [List.getElem?_eq_none h1, List.getElem?_eq_none h3]; trivial
theorem ME.cut {h h1 : H} (hw : ME Eq h h) (hp : h <+: h1) : ME (cut h.length (h1.length - h.length)) h1 h := by
  have hl := hp.length_le
  refine ⟨fun o o2 p p2 h3 h4 => by unfold Am.cut at h3 h4; omega, fun j => by unfold Am.cut; omega, fun o o2 ho => ?_⟩
  unfold Am.cut at ho
  rcases ho with ⟨h3, rfl⟩ | ⟨h3, h4⟩
  · rw [pre_get hp h3]
    exact (hw.get _ _ rfl).mono fun x y h5 h6 => ⟨.inl ⟨h5, h6.symm⟩, by omega⟩
  · exact OE.none (by omega) (by omega)
theorem ME.ins {h h1 : H} (hw : ME Eq h h) (hp : h <+: h1) : ME (ins h.length (h1.length - h.length)) h h1 := by
  have hl := hp.length_le
  refine ⟨fun o o2 p p2 h3 h4 => by unfold Am.ins at h3 h4; omega, fun j => by unfold Am.ins; omega, fun o o2 ho => ?_⟩
  unfold Am.ins at ho
  rcases ho with ⟨h3, rfl⟩ | ⟨h3, h4⟩
  · rw [pre_get hp h3]
    exact (hw.get _ _ rfl).mono fun x y h5 h6 => ⟨.inl ⟨h5, h6.symm⟩, by omega⟩
  · exact OE.none (by omega) (by omega)
theorem FE.into {ρ : Rel} {n m : Nat} {fr : Fr} (hF : FE Eq n fr fr) (hr : ∀ o, o < n → ρ o o) (hn : n ≤ m) : FE ρ m fr fr := hF.mono fun x y h5 h6 => ⟨h6 ▸ hr x h5, by omega⟩

/-- may the first of two that stand so be put behind the second, but for names? -/
def swapOK2 (a b : AOper) : Bool :=
  (match a.dst with | some d => !b.looks.contains d && b.dst != some d | none => true) && (match b.dst with | some d => !a.looks.contains d | none => true) &&
  (a.op.isNew || b.op.isNew || (adds a && adds b) || (a.op.isApp && b.op.cls == 1))

theorem OVE.mono {ρ ρ' : Rel} {n n' : Nat} {v v2 : Option Value} (h : OVE ρ n v v2) (hr : ∀ o o2, o < n → ρ o o2 → ρ' o o2 ∧ o < n') : OVE ρ' n' v v2 := by
  cases v <;> cases v2 <;> first | exact h | exact E.mono h hr

/-- two ways to one end -/
theorem flip_eqv {N p q : Nat} (hn : n0 ≤ N) {fr : Fr} {hc hs : H} (hF : FE Eq N fr fr) (lc : hc.length = N + p + q) (ls : hs.length = N + p + q)
    (g1 : ∀ o, o < N → OE (flip N p q) hc.length hc[o]? hs[o]?) (g2 : ∀ o, N ≤ o → o < N + p → OE (flip N p q) hc.length hc[o]? hs[o + q]?) (g3 : ∀ o, N ≤ o → o < N + q → OE (flip N p q) hc.length hc[o + p]? hs[o]?)
    {d1 d2 : Option Nat} (hd : ∀ s, d1 = some s → d2 ≠ some s) {v1 v2 u1 u2 : Option Value} (hv1 : OVE (flip N p q) hc.length v1 u1) (hv2 : OVE (flip N p q) hc.length v2 u2) :
    Eqv n0 ((fr.put d1 v1).put d2 v2) hc ((fr.put d2 u2).put d1 u1) hs := by
  refine ⟨flip N p q, ?_, ⟨fun o o2 x x2 h3 h4 => by unfold flip at h3 h4; omega, fun j => by unfold flip; omega, fun o o2 ho => ?_⟩, by omega, fun o ho => by unfold flip; omega, fun o ho => ?_⟩
  · rw [← put_comm hd]
    exact ((hF.into (fun o ho => .inl ⟨ho, rfl⟩) (by omega)).put _ hv1).put _ hv2
  · unfold flip at ho
    rcases ho with ⟨h1, rfl⟩ | ⟨h1, h2, rfl⟩ | ⟨h1, h2, h3⟩ | ⟨h1, rfl⟩
    · exact g1 _ h1
    · exact g2 _ h1 h2
    · obtain rfl : o = o2 + p := h3.symm
      exact g3 o2 (by omega) (by omega)
    · exact OE.none (by omega) (by omega)
  · by_cases h1 : o < N
    · exact ⟨o, .inl ⟨h1, rfl⟩⟩
    · by_cases h2 : o < N + p
      · exact ⟨o + q, .inr (.inl ⟨by omega, h2, rfl⟩)⟩
      · exact ⟨o - p, .inr (.inr (.inl ⟨by omega, by omega, by omega⟩))⟩

theorem swap2 (hg : ∀ ρ, EmbG ρ g) (hT : GoodT T) {o1 o2 : AOper} (hs : swapOK2 o1 o2 = true) (q1 : o1.op.good = true) (q2 : o2.op.good = true) {fr fr1 fr2 : Fr} {h h1 h2 : H} (hn : n0 ≤ h.length) (hw : WFs fr h)
    (s1 : stepO T g n0 o1 fr h = some (fr1, h1)) (s2 : stepO T g n0 o2 fr1 h1 = some (fr2, h2)) :
    ∃ fr1' h1' fr2' h2', stepO T g n0 o2 fr h = some (fr1', h1') ∧ stepO T g n0 o1 fr1' h1' = some (fr2', h2') ∧ Eqv n0 fr2 h2 fr2' h2' := by
  have hwf : WFs fr2 h2 := WFs.run (n0 := n0) hg hT (l := [o1, o2]) (by simp [q1, q2]) hw (by simp only [runOps, s1, s2])
  simp only [swapOK2, Bool.and_eq_true] at hs
  obtain ⟨⟨ha, hb⟩, hcls⟩ := hs
  have d1 : ∀ d, o1.dst = some d → d ∉ o2.looks ∧ o2.dst ≠ some d := by
    intro d hd
    rw [hd] at ha
    simpa using ha
  have d2 : ∀ d, o2.dst = some d → d ∉ o1.looks := by
    intro d hd
    rw [hd] at hb
    simpa using hb
  have dd : ∀ s, o1.dst = some s → o2.dst ≠ some s := fun s hs => (d1 s hs).2
  rw [stepO_core] at s1 s2
  cases c1 : core T g n0 o1 fr h with
  | none => rw [c1] at s1; cases s1
  | some p1 =>
    obtain ⟨v1, hx⟩ := p1
    rw [c1] at s1
    simp only [Option.map_some, Option.some.injEq, Prod.mk.injEq] at s1
    obtain ⟨rfl, rfl⟩ := s1
    cases c2 : core T g n0 o2 (fr.put o1.dst v1) hx with
    | none => rw [c2] at s2; cases s2
    | some p2 =>
      obtain ⟨v2, hy⟩ := p2
      rw [c2] at s2
      simp only [Option.map_some, Option.some.injEq, Prod.mk.injEq] at s2
      obtain ⟨rfl, rfl⟩ := s2
      have e2 : ∀ u h, core T g n0 o2 (fr.put o1.dst u) h = core T g n0 o2 fr h := fun u h => core_eq fun t ht => put_get fun hd => (d1 t hd).1 ht
      have e1 : ∀ u h, core T g n0 o1 (fr.put o2.dst u) h = core T g n0 o1 fr h := fun u h => core_eq fun t ht => put_get fun hd => d2 t hd ht
      rw [e2] at c2
      have fin : ∀ {u2 hb u1 hs}, core T g n0 o2 fr h = some (u2, hb) → core T g n0 o1 fr hb = some (u1, hs) → Eqv n0 ((fr.put o1.dst v1).put o2.dst v2) hy ((fr.put o2.dst u2).put o1.dst u1) hs →
          ∃ fr1' h1' fr2' h2', stepO T g n0 o2 fr h = some (fr1', h1') ∧ stepO T g n0 o1 fr1' h1' = some (fr2', h2') ∧ Eqv n0 ((fr.put o1.dst v1).put o2.dst v2) hy fr2' h2' := by
        intro u2 hb u1 hs k1 k2 k3
        exact ⟨fr.put o2.dst u2, hb, _, hs, by rw [stepO_core, k1]; rfl, by rw [stepO_core, e1, k2]; rfl, k3⟩
      have same : core T g n0 o2 fr h = some (v2, h) ∧ core T g n0 o1 fr h = some (v1, hy) ∨ (core T g n0 o2 fr h = some (v2, hy) ∧ core T g n0 o1 fr hy = some (v1, hy)) →
          ∃ fr1' h1' fr2' h2', stepO T g n0 o2 fr h = some (fr1', h1') ∧ stepO T g n0 o1 fr1' h1' = some (fr2', h2') ∧ Eqv n0 ((fr.put o1.dst v1).put o2.dst v2) hy fr2' h2' := by
        rintro (⟨k1, k2⟩ | ⟨k1, k2⟩)
        · exact fin k1 k2 (by rw [← put_comm dd]; exact hwf.eqv n0)
        · exact fin k1 k2 (by rw [← put_comm dd]; exact hwf.eqv n0)
      have cutS : ∀ {k : Nat}, h.length + k ≤ hx.length → h <+: hx → ∃ u2 hb, core T g n0 o2 fr h = some (u2, hb) ∧ OVE (cut h.length (hx.length - h.length)) hy.length v2 u2 ∧ Post (cut h.length (hx.length - h.length)) hx hy h hb := by
        intro k hk hp
        exact core_emb (hg _) hT (n0 := n0) (n02 := n0) (fun o o2 h3 h4 => by unfold cut at h3; omega) q2 (hw.fe.into (fun o ho => .inl ⟨ho, rfl⟩) hp.length_le) (hw.me.cut hp) c2
      have insS : ∀ {hb : H}, h <+: hb → ∃ u1 hs, core T g n0 o1 fr hb = some (u1, hs) ∧ OVE (ins h.length (hb.length - h.length)) hx.length v1 u1 ∧ Post (ins h.length (hb.length - h.length)) h hx hb hs := by
        intro hb hp
        exact core_emb (hg _) hT (n0 := n0) (n02 := n0) (fun o o2 h3 h4 => by unfold ins at h3; omega) q1 (hw.fe.into (fun o ho => .inl ⟨ho, rfl⟩) (Nat.le_refl _)) (hw.me.ins hp) c1
      simp only [Bool.or_eq_true, Bool.and_eq_true] at hcls
      rcases hcls with ((h0 | h0) | ⟨h0, h0'⟩) | ⟨h0, h0'⟩
      · -- the first makes one object
        rcases core_new h0 q1 c1 with k | ⟨mk, r, k1, k2, k3⟩
        · have := k h
          rw [c1] at this; cases this
          exact same (.inr ⟨c2, k _⟩)
        · have := k1 h
          rw [c1] at this; cases this
          have hp : h <+: h ++ [Ob.row r] := List.prefix_append _ _
          have hl : (h ++ [Ob.row r]).length - h.length = 1 := by simp
          obtain ⟨u2, hb, m1, m2, m3⟩ := cutS (k := 0) (by simp) hp
          rw [hl] at m2 m3
          obtain ⟨m, l1, l2⟩ := m3.more
          simp only [List.length_append, List.length_cons, List.length_nil] at l1
          refine fin m1 (k1 hb) (flip_eqv (p := 1) (q := m) hn hw.fe (by omega) (by simp; omega) (fun o ho => ?_) (fun o ho1 ho2 => ?_) (fun o ho1 ho2 => ?_) dd ?_ (m2.mono ?_))
          · rw [List.getElem?_append_left (by omega)]
            exact (m3.me.get o o (.inl ⟨ho, rfl⟩)).mono fun x y h5 h6 => ⟨by unfold cut at h6; unfold flip; omega, h5⟩
          · obtain rfl : o = h.length := by omega
            rw [m3.keep _ (by simp) (fun o2 ho => by unfold cut at ho; omega), show h.length + m = hb.length by omega]
            simp only [List.length_append, List.length_cons, List.length_nil, List.getElem?_append_right (Nat.le_refl _), Nat.sub_self, List.getElem?_cons_zero]
            exact ⟨rfl, rfl, rfl, (k3 _ hw.fe).mono fun x y h5 h6 => ⟨.inl ⟨h5, h6.symm⟩, by omega⟩⟩
          · rw [List.getElem?_append_left (by omega)]
            exact (m3.me.get (o + 1) o (.inr ⟨by omega, rfl⟩)).mono fun x y h5 h6 => ⟨by unfold cut at h6; unfold flip; omega, h5⟩
          · exact k2 _ _ _ _ (by unfold flip; omega) (by omega)
          · exact fun x y h5 h6 => ⟨by unfold cut at h6; unfold flip; omega, h5⟩
      · -- the second does
        rcases core_new h0 q2 c2 with k | ⟨mk, r, k1, k2, k3⟩
        · have := k hx
          rw [c2] at this; cases this
          exact same (.inl ⟨k _, c1⟩)
        · have := k1 hx
          rw [c2] at this; cases this
          have hp : h <+: h ++ [Ob.row r] := List.prefix_append _ _
          have hl : (h ++ [Ob.row r]).length - h.length = 1 := by simp
          obtain ⟨u1, hs, m1, m2, m3⟩ := insS hp
          rw [hl] at m2 m3
          obtain ⟨m, l1, l2⟩ := m3.more
          simp only [List.length_append, List.length_cons, List.length_nil] at l2
          refine fin (k1 h) m1 (flip_eqv (p := m) (q := 1) hn hw.fe (by simp; omega) (by omega) (fun o ho => ?_) (fun o ho1 ho2 => ?_) (fun o ho1 ho2 => ?_) dd (m2.mono ?_) ?_)
          · rw [List.getElem?_append_left (by omega)]
            exact (m3.me.get o o (.inl ⟨ho, rfl⟩)).mono fun x y h5 h6 => ⟨by unfold ins at h6; unfold flip; omega, by simp; omega⟩
          · rw [List.getElem?_append_left (by omega)]
            exact (m3.me.get o (o + 1) (.inr ⟨by omega, rfl⟩)).mono fun x y h5 h6 => ⟨by unfold ins at h6; unfold flip; omega, by simp; omega⟩
          · obtain rfl : o = h.length := by omega
            rw [m3.keep2 _ (by simp) (fun o2 ho => by unfold ins at ho; omega), show h.length + m = hx.length by omega]
            simp only [List.getElem?_append_right (Nat.le_refl _), Nat.sub_self, List.getElem?_cons_zero]
            exact ⟨rfl, rfl, rfl, (k3 _ hw.fe).mono fun x y h5 h6 => ⟨.inl ⟨h5, h6.symm⟩, by simp; omega⟩⟩
          · exact fun x y h5 h6 => ⟨by unfold ins at h6; unfold flip; omega, by simp; omega⟩
          · exact k2 _ _ _ _ (by unfold flip; omega) (by simp)
      · -- both only add
        have p1 := core_adds h0 c1
        have p2 := core_adds h0' c2
        simp only at p1 p2
        obtain ⟨u2, hb, m1, m2, m3⟩ := cutS (k := 0) (by simpa using p1.length_le) p1
        have p3 := m3.pre (hw.me.cut p1) p2
        obtain ⟨u1, hs, n1, n2, n3⟩ := insS p3
        have p4 := n3.pre (hw.me.ins p3) p1
        have L1 := p1.length_le
        have L2 := p2.length_le
        have L3 := p3.length_le
        obtain ⟨a, a1, a2⟩ := m3.more
        obtain ⟨b, b1, b2⟩ := n3.more
        refine fin m1 n1 (flip_eqv (p := b) (q := a) hn hw.fe (by omega) (by omega) (fun o ho => ?_) (fun o ho1 ho2 => ?_) (fun o ho1 ho2 => ?_) dd (n2.mono ?_) (m2.mono ?_))
        · rw [pre_get p2 (by omega), pre_get p1 ho, pre_get p4 (by omega), pre_get p3 ho]
          exact (hw.me.get o o rfl).mono fun x y h5 h6 => ⟨.inl ⟨h5, h6.symm⟩, by omega⟩
        · rw [pre_get p2 (by omega)]
          exact (n3.me.get o (o + a) (.inr ⟨by omega, by omega⟩)).mono fun x y h5 h6 => ⟨by unfold ins at h6; unfold flip; omega, by omega⟩
        · rw [pre_get p4 (by omega)]
          exact (m3.me.get (o + b) o (.inr ⟨by omega, by omega⟩)).mono fun x y h5 h6 => ⟨by unfold cut at h6; unfold flip; omega, by omega⟩
        · exact fun x y h5 h6 => ⟨by unfold ins at h6; unfold flip; omega, by omega⟩
        · exact fun x y h5 h6 => ⟨by unfold cut at h6; unfold flip; omega, by omega⟩
      · -- an append, and a look at what is still there
        have h1 : o2.op.cls = 1 := by simpa using h0'
        have e := (core_read h1 c2).1
        simp only at e
        subst e
        exact same (.inl ⟨core_sub h1 hw.fe (core_app h0 c1) c2, c1⟩)
end
end Go.Am
