/-
  THE SMALL MACHINE IS TRUE TO THE MODEL: where it computes a result of a call, the model's call returns that result, whatever the tape, and leaves all that was there as it was. No condition.
-/
import Derived.Test.YtammndhoillliaaAm12
namespace Go.Am
set_option linter.unusedVariables false
set_option linter.unusedSimpArgs false
open Go.RowKit (Below)

section
variable {P : Program} {B : Nat} {T : Tab} {g : List ARes → List It → Fr → H → Res}

theorem ops_sim (hT : TabOK P T) (hC : ∀ f, CallOK P B T g f) (hg : ∀ rs ks fr h v h', g rs ks fr h = some (v, h') → h.length ≤ h'.length) {nt : Nat} {ops : Array Oper} {l : List AOper} {draw : Bool} (hr : RegOK P nt ops draw l) (d : AOper) {n0 : Nat} :
    ∀ (L : List Nat) {fr fr1 : Fr} {h h1 : H}, (∀ i ∈ L, i < ops.size) → runOps T g n0 (L.map fun i => l.getD i d) fr h = some (fr1, h1) →
    ∀ {φ : Ren} {w : World} {a : Act} {b : Frame} {cs : List Frame} {k : List Item}, a.defers = [] → FR φ h.length nt fr a.tmps → HR φ B h w →
    ∃ φ' w' a', Steps P (lone (b.at a (.inRegion ops L :: k)) cs w) (lone (b.at a' k) cs w') ∧ a'.defers = [] ∧ FR φ' h1.length nt fr1 a'.tmps ∧ HR φ' B h1 w' ∧ Ext φ h.length φ' ∧ h.length ≤ h1.length ∧ Below B w w'
  | [], fr, fr1, h, h1, _, hs, φ, w, a, b, cs, k, hd, hF, hH => by
    cases hs
    exact ⟨φ, w, a, .one step_region_end, hd, hF, hH, Ext.refl _ _, Nat.le_refl _, Below.refl _ _⟩
  | i :: L, fr, fr1, h, h1, hL, hs, φ, w, a, b, cs, k, hd, hF, hH => by
    have hi := hL i (by simp)
    obtain ⟨ao, e1, e2⟩ := hr.op i ops[i] (Array.getElem?_eq_getElem hi)
    simp only [List.map_cons, runOps] at hs
    have e3 : l.getD i d = ao := by rw [List.getD_eq_getElem?_getD, e1]; rfl
    rw [e3] at hs
    split at hs
    · rename_i fr2 h2 hst
      obtain ⟨φ2, w2, v2, s1, s2, s3, s4, s5, s6⟩ := step_sound (b := b) (cs := cs) (k := k) (rest := L) hT hC hg (Array.getElem?_eq_getElem hi) e2 hst hF hH
      have hd2 : (a.put ops[i].dst v2).defers = [] := by cases ops[i].dst <;> exact hd
      obtain ⟨φ3, w3, a3, t1, t2, t3, t4, t5, t6, t7⟩ := ops_sim hT hC hg hr d L (fun j hj => hL j (by simp [hj])) hs (b := b) (cs := cs) (k := k) hd2 s2 s3
      exact ⟨φ3, w3, a3, s1.trans t1, t2, t3, t4, s4.trans t5 s5, Nat.le_trans s5 t6, s6.trans t7⟩
    · cases hs

theorem HR.drawn {φ : Ren} {h : H} {w : World} (hH : HR φ B h w) (n : Nat) : HR φ B h { w with drawn := n } :=
  hH.same (Nat.le_refl _) (fun _ _ => rfl)

theorem sim_succ (hT : TabOK P T) (hm : P.follows .mixedOrders = true) (hS : Sim P B T g) (hC : ∀ f, CallOK P B T g f) (hg : ∀ rs ks fr h v h', g rs ks fr h = some (v, h') → h.length ≤ h'.length) (hE : ∀ ρ, EmbG ρ g) : Sim P B T (gF T g) := by
  intro rs ks fr h v h' hr φ w a b cs k nt fn hfn hrs hb hI hd hF hH
  have ret : ∀ {k : List Item} {fr' : Frame}, retv rs fr h = some (v, h') → Steps P (lone (b.at a k) cs w) (lone fr' cs w) → fr'.fn = b.fn → fr'.mode = .returning → fr'.defers = [] → fr'.kind = .normal → fr'.tmps = a.tmps →
      ∃ φ' w' v' fr', Steps P (lone (b.at a k) cs w) (lone fr' cs w') ∧ fr'.fn = b.fn ∧ fr'.leaving P w' (.returned v') ∧ VR φ' h'.length v v' ∧ HR φ' B h' w' ∧ Ext φ h.length φ' ∧ Below B w w' := by
    intro k fr' hr hst h1 h2 h3 h4 h5
    obtain ⟨rfl, v', e1, e2⟩ := retv_sound (P := P) hF hH hrs hr
    exact ⟨φ, w, v', fr', hst, h1, ⟨h2, h3, h4, fn, by rw [h1]; exact hfn, by rw [h5]; exact e1⟩, e2, hH, Ext.refl _ _, Below.refl _ _⟩
  have next : ∀ {ks' : List It} {k' : List Item} {fr2 : Fr} {h2 : H} {φ2 : Ren} {w2 : World} {a2 : Act}, g rs ks' fr2 h2 = some (v, h') → Steps P (lone (b.at a k) cs w) (lone (b.at a2 k') cs w2) → IR P nt ks' k' → a2.defers = [] → FR φ2 h2.length nt fr2 a2.tmps → HR φ2 B h2 w2 →
      Ext φ h.length φ2 → h.length ≤ h2.length → Below B w w2 →
      ∃ φ' w' v' fr', Steps P (lone (b.at a k) cs w) (lone fr' cs w') ∧ fr'.fn = b.fn ∧ fr'.leaving P w' (.returned v') ∧ VR φ' h'.length v v' ∧ HR φ' B h' w' ∧ Ext φ h.length φ' ∧ Below B w w' := by
    intro ks' k' fr2 h2 φ2 w2 a2 hr hst hI hd hF hH he hl hbl
    obtain ⟨φ3, w3, v3, fr3, t1, t2, t3, t4, t5, t6, t7⟩ := hS _ _ _ _ _ _ hr φ2 w2 a2 b cs k' nt fn hfn hrs hb hI hd hF hH
    exact ⟨φ3, w3, v3, fr3, hst.trans t1, t2, t3, t4, t5, he.trans t6 hl, hbl.trans t7⟩
  have same : ∀ {ks' : List It} {k' : List Item} {fr2 : Fr}, g rs ks' fr2 h = some (v, h') → step P (lone (b.at a k) cs w) = .next (lone (b.at a k') cs w) → IR P nt ks' k' → FR φ h.length nt fr2 a.tmps →
      ∃ φ' w' v' fr', Steps P (lone (b.at a k) cs w) (lone fr' cs w') ∧ fr'.fn = b.fn ∧ fr'.leaving P w' (.returned v') ∧ VR φ' h'.length v v' ∧ HR φ' B h' w' ∧ Ext φ h.length φ' ∧ Below B w w' := by
    intro ks' k' fr2 hr hst hI hF2
    exact next hr (.one hst) hI hd hF2 hH (Ext.refl _ _) (Nat.le_refl _) (Below.refl _ _)
  cases hI with
  | nil =>
    simp only [gF] at hr
    exact ret hr (.one step_end) rfl rfl hd hb rfl
  | blk hk =>
    simp only [gF] at hr
    exact same hr step_inBlock hk (hF.keep _)
  | lp hc hk =>
    simp only [gF] at hr
    exact same hr step_inLoop (.code hc (.lp hc hk)) (hF.keep _)
  | @code _ _ ks2 k2 hc hk =>
    cases hc with
    | stuck => simp only [gF] at hr; cases hr
    | skip =>
      simp only [gF] at hr
      exact same hr step_skip hk hF
    | ret =>
      simp only [gF] at hr
      exact ret hr (.one step_ret) rfl rfl hd hb rfl
    | seq h1 h2 =>
      simp only [gF] at hr
      exact same hr step_seq (.code h1 (.code h2 hk)) hF
    | cond h1 h2 =>
      simp only [gF] at hr
      split at hr
      · rename_i t ht
        have e := bool_inv (ev_sound hF ht)
        refine same hr (step_cond e) ?_ hF
        cases t
        · exact .code h2 hk
        · exact .code h1 hk
      · cases hr
    | block h1 =>
      simp only [gF] at hr
      exact same hr step_block (.code h1 (.blk hk)) hF
    | exit =>
      simp only [gF] at hr
      split at hr
      · rename_i ko k2 hp
        obtain ⟨k', e1, e2⟩ := popTo_sound hk hp
        exact same hr (step_exit e1) e2 (hF.keep _)
      · cases hr
    | @loop kh c c' h1 =>
      simp only [gF] at hr
      exact same hr step_loop (.code h1 (.lp h1 hk)) (hF.keep _)
    | region id ops draw l hro =>
      simp only [gF] at hr
      split at hr
      · rename_i fr1 h1 hrun
        have hlen := runOps_len hg hrun
        cases hdr : draw with
        | false =>
          subst hdr
          have hid : (List.range ops.size).map (fun i => l.getD i (⟨none, .lenK 0, none, false⟩ : AOper)) = l := by
            apply List.ext_getElem?
            intro i
            by_cases hi : i < ops.size
            · simp [hi, hro.len, List.getD_eq_getElem?_getD]
            · rw [List.getElem?_eq_none (by simp; omega), List.getElem?_eq_none (by rw [hro.len]; omega)]
          obtain ⟨φ2, w2, a2, t1, t2, t3, t4, t5, t6, t7⟩ := ops_sim hT hC hg hro ⟨none, .lenK 0, none, false⟩ (List.range ops.size) (fun i hi => List.mem_range.1 hi) (by rw [hid]; exact hrun) (b := b) (cs := cs) hd hF hH
          exact next hr (.head step_region t1) hk t2 t3 t4 t5 t6 t7
        | true =>
          subst hdr
          obtain ⟨hdn, hco⟩ := hro.dr rfl
          have hst := step_region_draw (P := P) (b := b) (a := a) (k := k2) (cs := cs) (w := w) (id := id) (ops := ops)
          rw [hm] at hst
          obtain ⟨fr2, h2, hrun2, heqv⟩ := run_schedule hg hE hT.good hro.len hro.good hdn hco (w.tape w.drawn (.order b.fn id)) (WFs.of hF hH) hrun ⟨none, .lenK 0, none, false⟩ rfl
          have htopo := schedule_topo hdn (w.tape w.drawn (.order b.fn id))
          obtain ⟨φ2, w2, a2, t1, t2, t3, t4, t5, t6, t7⟩ := ops_sim hT hC hg hro ⟨none, .lenK 0, none, false⟩ _ (fun i hi => List.mem_range.1 (htopo.perm.mem_iff.1 hi)) hrun2 (b := b) (cs := cs) hd hF (hH.drawn _)
          have h0 : Below B w { w with drawn := w.drawn + 1 } := ⟨rfl, rfl, rfl, Nat.le_refl _, fun _ _ => rfl⟩
          obtain ⟨φ3, u1, u2, u3⟩ := heqv.model t3 t4
          exact next hr (.head hst t1) hk t2 u1 u2 (fun o ho => (u3 o ho).trans (t5 o ho)) hlen (h0.trans t7)
      · cases hr

theorem call_all (hT : TabOK P T) {n : Nat} (hS : Sim P B T (goN T n)) (hC : ∀ m, m < n → ∀ f, CallOK P B T (goN T m) f) (f : FuncId) : CallOK P B T (goN T n) f := by
  cases hF : T f with
  | none => intro vs vs' h h' v he; unfold enter at he; rw [hF] at he; cases he
  | some F =>
    rcases hT f F hF with h1 | h1
    · exact fun_call hS (fun F' hF' => by rw [hF] at hF'; cases hF'; exact h1)
    · exact h1.ok hT.body B n hC
theorem sim_all (hT : TabOK P T) (hm : P.follows .mixedOrders = true) : ∀ n, Sim P B T (goN T n) ∧ ∀ m, m ≤ n → ∀ f, CallOK P B T (goN T m) f
  | 0 => by
    have h0 : Sim P B T (goN T 0) := fun _ _ _ _ _ _ hr => by cases hr
    refine ⟨h0, fun m hm f => ?_⟩
    obtain rfl : m = 0 := by omega
    exact call_all hT h0 (fun m hm => by omega) f
  | n + 1 => by
    obtain ⟨h1, h2⟩ := sim_all hT hm n
    have h3 := sim_succ hT hm h1 (h2 n (Nat.le_refl _)) (goN_len n) (fun ρ => goN_emb hT.good n)
    refine ⟨h3, fun m hm' f => ?_⟩
    by_cases hmn : m ≤ n
    · exact h2 m hmn f
    · obtain rfl : m = n + 1 := by omega
      exact call_all hT h3 (fun m hm => h2 m (by omega)) f

/-- ████ WHAT THE SMALL MACHINE COMPUTES OF A CALL IS WHAT THE MODEL's CALL RETURNS ████ -/
theorem call_sound (hT : TabOK P T) (hm : P.follows .mixedOrders = true) {f : FuncId} {vs vs' : List Value} {h h' : H} {v : Value} (hc : call T f vs h = some (v, h')) {φ : Ren} {w : World} (hv : LR φ h.length vs vs') (hH : HR φ B h w) :
    Calls P f vs'.toArray w fun e w' => ∃ φ' v', e = .returned v' ∧ VR φ' h'.length v v' ∧ HR φ' B h' w' ∧ Ext φ h.length φ' ∧ Below B w w' := by
  have : ∃ n, enter T (goN T n) f vs h = some (v, h') := by
    unfold call at hc
    unfold enter at hc ⊢
    cases hF : T f with
    | none => rw [hF] at hc; cases hc
    | some F =>
      rw [hF] at hc
      simp only at hc ⊢
      split at hc
      · rename_i hl
        obtain ⟨n, hn⟩ := go_some.1 hc
        exact ⟨n, by rw [if_pos hl]; exact hn⟩
      · cases hc
  obtain ⟨n, hn⟩ := this
  exact (sim_all hT hm n).2 n (Nat.le_refl _) f _ _ _ _ _ hn φ w hv hH

/-- a call that gives a truth value -/
theorem call_bool (hT : TabOK P T) (hm : P.follows .mixedOrders = true) {f : FuncId} {vs vs' : List Value} {h h' : H} {b : Bool} (hc : call T f vs h = some (.bool b, h')) {φ : Ren} {w : World} (hv : LR φ h.length vs vs') (hH : HR φ w.heap.size h w) :
    Calls P f vs'.toArray w fun e w' => e = .returned (.bool b) ∧ Below w.heap.size w w' :=
  (call_sound hT hm hc hv hH).mono fun e w' ⟨φ', v', he, hvr, _, _, hb⟩ => ⟨by rw [he, bool_inv hvr], hb⟩
end
#print axioms call_bool
end Go.Am
