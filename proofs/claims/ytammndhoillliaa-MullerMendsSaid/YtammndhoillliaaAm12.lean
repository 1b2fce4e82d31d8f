/-
  A whole function: what the small machine computes of it is what the model's call returns. No condition.
-/
import Derived.Test.YtammndhoillliaaAm9
import Derived.Test.YtammndhoillliaaAm11
namespace Go.Am
set_option linter.unusedVariables false
set_option linter.unusedSimpArgs false
open Go.RowKit (Below)

/-! ### code turned -/
structure CO (P : Program) (nt : Nat) (ops : Array Oper) (o : Oper) (ao : AOper) : Prop where
  dst : ao.dst = o.dst
  lt : ∀ d, o.dst = some d → d < nt
  op : comp1 P o = some ao.op
  gd : (o.guard = none ∧ ao.guard = none) ∨ ∃ j b s, o.guard = some (j, b) ∧ (ops[j]?).bind (·.dst) = some s ∧ ao.guard = some (s, b)
structure RegOK (P : Program) (nt : Nat) (ops : Array Oper) (draw : Bool) (l : List AOper) : Prop where
  len : l.length = ops.size
  op : ∀ (i : Nat) o, ops[i]? = some o → ∃ ao, l[i]? = some ao ∧ CO P nt ops o ao
  dr : draw = true → edgesDown ops = true ∧ commutes ops.toList l = true
inductive CR (P : Program) (nt : Nat) : Code → ACode → Prop
  | skip : CR P nt .skip .skip
  | region (id : Nat) (ops : Array Oper) (draw : Bool) (l : List AOper) : RegOK P nt ops draw l → CR P nt (.region id ops draw) (.region l)
  | seq {a b : Code} {a' b' : ACode} : CR P nt a a' → CR P nt b b' → CR P nt (.seq a b) (.seq a' b')
  | cond {c : Operand} {a b : Code} {a' b' : ACode} : CR P nt a a' → CR P nt b b' → CR P nt (.cond c a b) (.cond c a' b')
  | block {id : Nat} {ko : List Nat} {a : Code} {a' : ACode} : CR P nt a a' → CR P nt (.block id a) (.block id ko a')
  | loop {kh : List Nat} {a : Code} {a' : ACode} : CR P nt a a' → CR P nt (.loop a) (.loop kh a')
  | exit {id : Nat} : CR P nt (.exit id) (.exit id)
  | ret : CR P nt .ret .ret
  | stuck {c : Code} : CR P nt c .stuck
inductive IR (P : Program) (nt : Nat) : List It → List Item → Prop
  | nil : IR P nt [] []
  | code {c : Code} {c' : ACode} {ks k} : CR P nt c c' → IR P nt ks k → IR P nt (.code c' :: ks) (.code c :: k)
  | blk {id : Nat} {ko : List Nat} {ks k} : IR P nt ks k → IR P nt (.blk id ko :: ks) (.inBlock id :: k)
  | lp {kh : List Nat} {c : Code} {c' : ACode} {ks k} : CR P nt c c' → IR P nt ks k → IR P nt (.lp kh c' :: ks) (.inLoop c :: k)
def RR (P : Program) : List ResultVar → List ARes → Prop
  | [], [] => True
  | .tmp t :: r, .tmp t' :: r' => t = t' ∧ RR P r r'
  | .cell a t :: r, .cell a' agg n :: r' => a = a' ∧ (∃ d i, P.underlying t = some d ∧ P.info? t = some i ∧ agg = isAggD d ∧ n = i.size) ∧ RR P r r'
  | _, _ => False
structure FunOK (P : Program) (f : FuncId) (F : AFun) : Prop where
  ok : ∃ fn body, P.funcs[f]? = some fn ∧ fn.body = some body ∧ CR P F.ntmps body F.code ∧ fn.ntmps = F.ntmps ∧ RR P fn.results.toList F.results ∧ (fn.name == "runtime.NumGoroutine") = false

theorem comp1_good {P : Program} {o : Oper} {op : AOp} (h : comp1 P o = some op) : op.good = true := by
  have arr : ∀ {cs : Array Value}, cs.all closed1 = true → cs.toList.all closed1 = true := fun h => by simpa using h
  unfold comp1 at h
  split at h <;> first
    | (cases h; done)
    | (cases h; rfl)
    | ((repeat' split at h) <;> first
        | (cases h; done)
        | (cases h; rfl)
        | (rename_i hz; cases h; exact arr hz)
        | (rename_i hz; cases h; simp only [Bool.and_eq_true] at hz; exact arr hz.1.1))
theorem RegOK.good {P : Program} {nt : Nat} {ops : Array Oper} {draw : Bool} {l : List AOper} (h : RegOK P nt ops draw l) : (l.all fun o => o.op.good) = true := by
  rw [List.all_eq_true]
  intro x hx
  obtain ⟨i, hi, rfl⟩ := List.getElem_of_mem hx
  have hi' : i < ops.size := by rw [← h.len]; exact hi
  obtain ⟨ao, e1, e2⟩ := h.op i ops[i] (Array.getElem?_eq_getElem hi')
  rw [List.getElem?_eq_getElem hi] at e1
  cases e1
  exact comp1_good e2.op
theorem CR.good {P : Program} {nt : Nat} {c : Code} {c' : ACode} (h : CR P nt c c') : goodC c' = true := by
  induction h with
  | region _ _ _ _ h => exact h.good
  | seq _ _ h1 h2 => simp [goodC, h1, h2]
  | cond _ _ h1 h2 => simp [goodC, h1, h2]
  | block _ h => exact h
  | loop _ h => exact h
  | _ => rfl
theorem popTo_sound {P : Program} {nt : Nat} {id : Nat} {ko : List Nat} {ks' : List It} : ∀ {ks : List It} {k : List Item}, IR P nt ks k → popTo id ks = some (ko, ks') → ∃ k', exitTo id k = some k' ∧ IR P nt ks' k'
  | _, _, .nil, h => by cases h
  | _, _, .code _ hk, h => by simp only [popTo] at h; simp only [exitTo]; exact popTo_sound hk h
  | _, _, .lp _ hk, h => by simp only [popTo] at h; simp only [exitTo]; exact popTo_sound hk h
  | _, _, .blk (id := id') hk, h => by
    simp only [popTo] at h
    simp only [exitTo]
    split at h
    · rename_i he
      cases h
      exact ⟨_, by rw [if_pos (by simpa using he)], hk⟩
    · rename_i he
      rw [if_neg (by simpa using he)]
      exact popTo_sound hk h

section
variable {P : Program} {B : Nat}

/-! ### results -/
def resRd (tmps : Array Value) : ResultVar → Sem Value
  | .tmp t => pure (tmps.getD t undef)
  | .cell a t => do loadVar t (← asAddr (tmps.getD a undef))
theorem results_rd (fn : Func) (tmps : Array Value) : results fn tmps = (do
    let vs ← fn.results.mapM (resRd tmps)
    pure (if h : vs.size = 1 then vs[0] else .tuple vs)) := by
  unfold results
  congr 1
theorem ress_sound {φ : Ren} {nt : Nat} {fr : Fr} {h : H} {tmps : Array Value} {w : World} (hF : FR φ h.length nt fr tmps) (hH : HR φ B h w) : ∀ {rs : List ResultVar} {ars : List ARes} {vs : List Value}, RR P rs ars → ress fr h ars = some vs →
    ∃ vs', (rs.mapM (resRd tmps)).run P w = .ok vs' w ∧ LR φ h.length vs vs'
  | [], [], vs, _, hs => by cases hs; exact ⟨[], by simp, LR.nil _ _⟩
  | [], _ :: _, _, hr, _ => by simp [RR] at hr
  | .tmp _ :: _, [], _, hr, _ => by simp [RR] at hr
  | .cell _ _ :: _, [], _, hr, _ => by simp [RR] at hr
  | .tmp t :: rs, .cell _ _ _ :: ars, vs, hr, _ => by simp [RR] at hr
  | .cell _ _ :: rs, .tmp t :: ars, vs, hr, _ => by simp [RR] at hr
  | .tmp t :: rs, .tmp t' :: ars, vs, hr, hs => by
    simp only [RR] at hr
    obtain ⟨rfl, hr⟩ := hr
    simp only [ress, res1] at hs
    split at hs
    · rename_i v vs2 h1 h2
      cases hs
      obtain ⟨v', e1, e2⟩ := hF.2 t v h1
      obtain ⟨vs', e3, e4⟩ := ress_sound hF hH hr h2
      refine ⟨v' :: vs', ?_, LR.cons e2 e4⟩
      simp [List.mapM_cons, resRd, e1, e3]
    · cases hs
  | .cell a t :: rs, .cell a' agg n :: ars, vs, hr, hs => by
    simp only [RR] at hr
    obtain ⟨rfl, ⟨d, i, hd, hi, rfl, rfl⟩, hr⟩ := hr
    simp only [ress, res1] at hs
    split at hs
    · rename_i v vs2 h1 h2
      cases hs
      obtain ⟨vs', e3, e4⟩ := ress_sound hF hH hr h2
      split at h1
      · rename_i p hp
        obtain ⟨v', e1, e2⟩ := hF.2 a _ hp
        obtain ⟨hsp, hlt, rfl⟩ := ptr_inv e2
        simp only [hsp, Option.isSome_none, Bool.false_eq_true, if_false] at h1
        have key : ∃ u, (loadVar t ⟨(φ p.block).blk, (φ p.block).sh + p.off, none⟩).run P w = .ok u w ∧ VR φ h.length v u := by
          split at h1
          · rename_i hag
            split at h1
            · rename_i cs hcs
              cases h1
              obtain ⟨hlen, hone, cs', k1, k2⟩ := hH.cells hcs
              have hl := run_loadCells_list (P := P) w ⟨(φ p.block).blk, (φ p.block).sh + p.off, none⟩ cs' k2
              rw [← k1.1, hlen] at hl
              exact ⟨_, by simp [loadVar, run_isAgg hd, hag, run_sizeOf hi, hl], k1.agg hone⟩
            · cases h1
          · rename_i hag
            unfold H.ld1 at h1
            split at h1
            · rename_i r hr2
              obtain ⟨u, k1, k2⟩ := hH.cell hr2 h1
              exact ⟨u, by simp [loadVar, run_isAgg hd, hag, k1], k2⟩
            · cases h1
        obtain ⟨u, k1, k2⟩ := key
        refine ⟨u :: vs', ?_, LR.cons k2 e4⟩
        simp [List.mapM_cons, resRd, e1, asAddr, k1, e3]
      · cases h1
    · cases hs

theorem retv_sound {φ : Ren} {nt : Nat} {fr : Fr} {h h' : H} {tmps : Array Value} {w : World} {fn : Func} {ars : List ARes} {v : Value} (hF : FR φ h.length nt fr tmps) (hH : HR φ B h w) (hr : RR P fn.results.toList ars) (hs : retv ars fr h = some (v, h')) :
    h' = h ∧ ∃ v', (results fn tmps).run P w = .ok v' w ∧ VR φ h.length v v' := by
  unfold retv at hs
  have key : ∀ vs, ress fr h ars = some vs → ∃ vs', (fn.results.mapM (resRd tmps)).run P w = .ok vs'.toArray w ∧ LR φ h.length vs vs' := by
    intro vs hvs
    obtain ⟨vs', h1, h2⟩ := ress_sound (P := P) hF hH hr hvs
    exact ⟨vs', by rw [Array.mapM_eq_mapM_toList]; simp [h1], h2⟩
  split at hs
  · rename_i v1 h1
    cases hs
    obtain ⟨vs', h2, h3⟩ := key _ h1
    obtain ⟨v', h4, h5⟩ := h3.2 0 v rfl
    have hl : vs'.length = 1 := by rw [← h3.1]; rfl
    obtain rfl : vs' = [v'] := by
      match vs', hl, h4 with
      | [x], _, h4 => simp at h4; rw [h4]
    refine ⟨rfl, v', ?_, h5⟩
    rw [results_rd]
    simp only [Sem.run_bind, h2]
    simp
  · rename_i vs hne h1
    cases hs
    obtain ⟨vs', h2, h3⟩ := key _ h1
    refine ⟨rfl, .tuple vs'.toArray, ?_, h3.tuple⟩
    have hl : vs'.length ≠ 1 := by
      intro hl
      rw [← h3.1] at hl
      match vs, hl, hne with
      | [x], _, hne => exact hne x rfl
    rw [results_rd]
    simp only [Sem.run_bind, h2]
    simp [hl]
  · cases hs

/-! ### the run -/
def Sim (P : Program) (B : Nat) (T : Tab) (g : List ARes → List It → Fr → H → Res) : Prop :=
  ∀ rs ks fr h v h', g rs ks fr h = some (v, h') → ∀ (φ : Ren) (w : World) (a : Act) (b : Frame) (cs : List Frame) (k : List Item) (nt : Nat) (fn : Func),
    P.funcs[b.fn]? = some fn → RR P fn.results.toList rs → b.kind = .normal → IR P nt ks k → a.defers = [] → FR φ h.length nt fr a.tmps → HR φ B h w →
    ∃ φ' w' v' fr', Steps P (lone (b.at a k) cs w) (lone fr' cs w') ∧ fr'.fn = b.fn ∧ fr'.leaving P w' (.returned v') ∧ VR φ' h'.length v v' ∧ HR φ' B h' w' ∧ Ext φ h.length φ' ∧ Below B w w'

variable {T : Tab} {g : List ARes → List It → Fr → H → Res}

/-- what a call of f gives is what the model's call gives -/
def CallOK (P : Program) (B : Nat) (T : Tab) (g : List ARes → List It → Fr → H → Res) (f : FuncId) : Prop :=
  ∀ vs vs' h h' v, enter T g f vs h = some (v, h') → ∀ (φ : Ren) (w : World), LR φ h.length vs vs' → HR φ B h w →
    Calls P f vs'.toArray w fun e w' => ∃ φ' v', e = .returned v' ∧ VR φ' h'.length v v' ∧ HR φ' B h' w' ∧ Ext φ h.length φ' ∧ Below B w w'
def HasBody (P : Program) (f : FuncId) : Prop := ∃ fn body, P.funcs[f]? = some fn ∧ fn.body = some body ∧ (fn.name == "runtime.NumGoroutine") = false
/-- a function that is not turned, but told: its small code is shown to be true by hand -/
structure PrimOK (P : Program) (T : Tab) (f : FuncId) : Prop where
  body : HasBody P f
  good : ∀ F, T f = some F → goodC F.code = true
  ok : (∀ f F, T f = some F → HasBody P f) → ∀ B n, (∀ m, m < n → ∀ f', CallOK P B T (goN T m) f') → CallOK P B T (goN T n) f
def TabOK (P : Program) (T : Tab) : Prop := ∀ f F, T f = some F → FunOK P f F ∨ PrimOK P T f
theorem TabOK.body (hT : TabOK P T) (f : FuncId) (F : AFun) (hF : T f = some F) : HasBody P f := by
  rcases hT f F hF with h1 | h1
  · obtain ⟨fn, body, h1, h2, _, _, _, h6⟩ := h1.ok
    exact ⟨fn, body, h1, h2, h6⟩
  · exact h1.body
theorem TabOK.good (hT : TabOK P T) : GoodT T := fun f F hF => by
  rcases hT f F hF with h1 | h1
  · obtain ⟨fn, body, _, _, h3, _⟩ := h1.ok; exact h3.good
  · exact h1.good F hF
theorem enter_fun {f : FuncId} {vs vs' : List Value} {h h' : H} {v : Value} (hT : ∀ f F, T f = some F → HasBody P f) (he : enter T g f vs h = some (v, h')) (w : World) :
    (callFunc f vs'.toArray).run P w = .ok (.enter f vs'.toArray) w := by
  have key : HasBody P f := by
    unfold enter at he
    split at he
    · rename_i F hF
      exact hT f F hF
    · cases he
  obtain ⟨fn, body, h1, h2, h6⟩ := key
  have h7 : ¬ fn.name = "runtime.NumGoroutine" := by simpa using h6
  simp [callFunc, h1, h7, h2]
theorem fun_call (hS : Sim P B T g) {f : FuncId} (hF : ∀ F, T f = some F → FunOK P f F) : CallOK P B T g f := by
  intro vs vs' h h' v he φ w hv hH cs
  unfold enter at he
  split at he
  · rename_i F hF'
    split at he
    · rename_i hlen
      obtain ⟨fn, body, h1, h2, h3, h4, h5, h6⟩ := (hF F hF').ok
      have henter : Frame.enter P f vs'.toArray .normal =
          ({ (default : Frame) with fn := f, kind := .normal } : Frame).at { tmps := vs'.toArray ++ Array.replicate (fn.ntmps - vs'.toArray.size) undef, defers := [] } [.code body] := by
        simp [Frame.enter, Frame.at, h1, h2]
      rw [henter]
      obtain ⟨φ', w', v', fr', s1, s2, s3, s4, s5, s6, s7⟩ := hS _ _ _ _ _ _ he φ w { tmps := vs'.toArray ++ Array.replicate (fn.ntmps - vs'.toArray.size) undef, defers := [] } { (default : Frame) with fn := f, kind := .normal } cs [.code body] F.ntmps fn h1 h5 rfl (.code h3 .nil) rfl ⟨by simp; omega, fun t u hu => by
        obtain ⟨_, h7⟩ := args_get vs 0 t u hu
        obtain ⟨u', h8, h9⟩ := hv.2 t u h7
        have hlt := (List.getElem?_eq_some_iff.1 h8).1
        refine ⟨u', ?_, h9⟩
        rw [Array.getElem?_append_left (by simpa using hlt)]
        simpa using h8⟩ hH
      exact ⟨.returned v', w', fr', ⟨φ', v', rfl, s4, s5, s6, s7⟩, s1, s2, s3⟩
    · cases he
  · cases he

/-- what an operation of a region does, in the model's machine -/
theorem step_sound (hT : TabOK P T) (hC : ∀ f, CallOK P B T g f) (hg : ∀ rs ks fr h v h', g rs ks fr h = some (v, h') → h.length ≤ h'.length) {nt : Nat} {ops : Array Oper} {i : Nat} {rest : List Nat} {o : Oper} {ao : AOper} (ho : ops[i]? = some o) (hc : CO P nt ops o ao) {n0 : Nat} {fr fr1 : Fr} {h h1 : H}
    (hs : stepO T g n0 ao fr h = some (fr1, h1)) {φ : Ren} {w : World} {a : Act} {b : Frame} {cs : List Frame} {k : List Item} (hF : FR φ h.length nt fr a.tmps) (hH : HR φ B h w) :
    ∃ φ' w' v', Steps P (lone (b.at a (.inRegion ops (i :: rest) :: k)) cs w) (lone (b.at (a.put o.dst v') (.inRegion ops rest :: k)) cs w') ∧ FR φ' h1.length nt fr1 (a.put o.dst v').tmps ∧ HR φ' B h1 w' ∧ Ext φ h.length φ' ∧ h.length ≤ h1.length ∧ Below B w w' := by
  have hlen := stepO_len hg hs
  unfold stepO at hs
  split at hs
  · rename_i v h2 hcore
    cases hs
    -- the guard
    have hguard : ∀ bb, gd fr ao.guard = some bb → Region.wanted o (yielded ops a.tmps) = bb := by
      intro bb hb
      rcases hc.gd with ⟨g1, g2⟩ | ⟨j, want, s, g1, g2, g3⟩
      · rw [g2] at hb; cases hb; simp [Region.wanted, g1]
      · rw [g3] at hb
        simp only [gd] at hb
        split at hb
        · rename_i b' hb'
          cases hb
          obtain ⟨v', e1, e2⟩ := hF.2 s _ hb'
          rw [bool_inv e2] at e1
          have : yielded ops a.tmps j = some b' := by
            unfold yielded; rw [g2]; simp [e1]
          simp [Region.wanted, g1, this]
        · rename_i vs' hb'
          cases hb
          obtain ⟨v', e1, e2⟩ := hF.2 s _ hb'
          have : yielded ops a.tmps j = none := by
            unfold yielded; rw [g2]; cases e2; simp [e1]
          simp [Region.wanted, g1, this]
        · cases hb
    have hput : ∀ {φ' : Ren} {v' : Value}, FR φ' h1.length nt fr a.tmps → (∀ u, v = some u → VR φ' h1.length u v') → FR φ' h1.length nt (fr.put ao.dst v) (a.put o.dst v').tmps := by
      intro φ' v' q1 q3
      rw [hc.dst]
      exact q1.put o.dst hc.lt v v' q3
    have hfin : ∀ v, (b.at a (.inRegion ops (i :: rest) :: k)).finish v = b.at (a.put o.dst v) (.inRegion ops rest :: k) := by
      intro v; rw [Frame.finish_at, ho]; rfl
    unfold core at hcore
    split at hcore
    · rename_i hgd
      cases hcore
      have hw := hguard false hgd
      have hst := step_op_skip (P := P) (b := b) (a := a) (k := k) (cs := cs) (w := w) (ops := ops) (i := i) (rest := rest) (by simp [ho, hw])
      rw [ho] at hst
      exact ⟨φ, w, undef, .one hst, hput hF (fun u hu => by cases hu; exact .tuple #[] #[] rfl (fun i hi => absurd hi (by simp))), hH, Ext.refl _ _, Nat.le_refl _, Below.refl _ _⟩
    · rename_i hgd
      have hw := hguard true hgd
      have hG := stepG_op (P := P) (b := b) (a := a) (k := k) (cs := cs) (w := w) (rest := rest) ho hw
      have hcall : ∀ {f : FuncId} {vs vs' : List Value} {u : Value}, enter T g f vs h = some (u, h1) → v = some u → LR φ h.length vs vs' → (execOp a.eval o).run P w = (callFunc f vs'.toArray).run P w →
          ∃ φ' w' v', Steps P (lone (b.at a (.inRegion ops (i :: rest) :: k)) cs w) (lone (b.at (a.put o.dst v') (.inRegion ops rest :: k)) cs w') ∧ FR φ' h1.length nt (fr.put ao.dst v) (a.put o.dst v').tmps ∧ HR φ' B h1 w' ∧ Ext φ h.length φ' ∧ h.length ≤ h1.length ∧ Below B w w' := by
        intro f vs vs' u he hvu hL hrun
        have e1 := enter_fun (vs' := vs') hT.body he w
        obtain ⟨_, w', fr', ⟨φ', v', rfl, e5, e6, e7, e8⟩, e2, e3, e4⟩ := hC f vs vs' h h1 u he φ w hL hH (b.at a (.inRegion ops (i :: rest) :: k) :: cs)
        rw [e1] at hrun
        have henter : step P (lone (b.at a (.inRegion ops (i :: rest) :: k)) cs w) = .next (lone (Frame.enter P f vs'.toArray .normal) (b.at a (.inRegion ops (i :: rest) :: k) :: cs) w) :=
          step_lone_go (by rw [hG]; simp [stepG.apply, hrun, Frame.at])
        refine ⟨φ', w', v', .head henter (Steps.trans e2 (.one ?_)), hput (hF.mono e7 hlen) (fun x hx => ?_), e6, e7, hlen, e8⟩
        · rw [← hfin]; exact step_leave_returned e4
        · rw [hvu] at hx; cases hx; exact e5
      split at hcore
      · -- a call by name
        rename_i f args hop
        split at hcore
        · rename_i vs hvs
          split at hcore
          · rename_i u h3 he
            have hb := (behind_some hcore).1
            cases hb
            have hL := evs_sound hF hvs
            refine hcall he rfl hL ?_
            have hco := hc.op
            rw [hop] at hco
            -- read off the operation
            have hopc : ∃ c : Call, o.op = .call c ∧ c.callee = .value (.func f) ∧ c.args.toList = args := by
              unfold comp1 at hco
              split at hco <;> first
                | (cases hco; done)
                | ((repeat' split at hco) <;> first | (cases hco; done) | skip)
              all_goals first
                | (cases hco; exact ⟨_, ‹_›, ‹_›, rfl⟩)
            obtain ⟨c, hc1, hc2, hc3⟩ := hopc
            have hev : c.args.map a.eval = (args.map a.eval).toArray := by rw [← hc3]; apply Array.toList_inj.1; simp
            simp [execOp, hc1, resolve, hc2, hev, Act.eval, Deferred.ofValue, invoke]
          · cases hcore
        · cases hcore
      · rename_i x args hop
        split at hcore
        · rename_i f first cap vs hx hvs
          split at hcore
          · rename_i hemp
            split at hcore
            · rename_i u h3 he
              have hb := (behind_some hcore).1
              cases hb
              have hL := evs_sound hF hvs
              have hxv := ev_sound hF hx
              have hcap : ∃ cap', a.eval x = .func (.func f) #[] cap' ∧ LR φ h.length cap.toList cap'.toList := by
                generalize a.eval x = y at hxv
                cases hxv with
                | func _ _ cs' hsz hh => exact ⟨cs', rfl, LR.of_arrays hsz hh⟩
              obtain ⟨cap', hx1, hx2⟩ := hcap
              refine hcall he rfl (hL.append hx2) ?_
              have hco := hc.op
              rw [hop] at hco
              have hopc : ∃ c : Call, o.op = .call c ∧ c.callee = .value x ∧ c.args.toList = args := by
                unfold comp1 at hco
                split at hco <;> first
                  | (cases hco; done)
                  | ((repeat' split at hco) <;> first | (cases hco; done) | skip)
                all_goals first
                  | (cases hco; exact ⟨_, ‹_›, ‹_›, rfl⟩)
              obtain ⟨c, hc1, hc2, hc3⟩ := hopc
              have hev : c.args.map a.eval = (args.map a.eval).toArray := by rw [← hc3]; apply Array.toList_inj.1; simp
              have happ : ((args.map a.eval).toArray ++ cap') = (args.map a.eval ++ cap'.toList).toArray := by apply Array.toList_inj.1; simp
              simp [execOp, hc1, resolve, hc2, hev, hx1, Deferred.ofValue, invoke]
              rw [← happ]
            · cases hcore
          · cases hcore
        · cases hcore
      · split at hcore
        · obtain ⟨φ', v', w', r1, r2, r3, r4, r5, r6⟩ := comp1_sound hc.op hF hH hcore
          cases v with
          | some u =>
            refine ⟨φ', w', v', .one (step_lone_go ?_), hput (hF.mono r4 r5) r2, r3, r4, r5, r6⟩
            rw [hG, ← hfin]; simp [stepG.apply, r1]
          | none =>
            refine ⟨φ', w', undef, .one (step_lone_go ?_), hput (hF.mono r4 r5) (fun u hu => by cases hu), r3, r4, r5, r6⟩
            rw [hG, ← hfin]; simp [stepG.apply, r1]
        · cases hcore
    · cases hcore
  · cases hs

/-! ### another name for what is new -/
theorem E.one {ρ : Rel} {n : Nat} {v v2 : Value} (h : E ρ n v v2) : v2.oneCell' = v.oneCell' := by cases h <;> rfl
open Classical in
noncomputable def Ren.by (φ : Ren) (π : Rel) : Ren := fun o => if hx : ∃ o2, π o o2 then φ (Classical.choose hx) else φ o
theorem Ren.by_eq {φ : Ren} {π : Rel} {h h2 : H} (hm : ME π h h2) {o o2 : Nat} (hr : π o o2) : φ.by π o = φ o2 := by
  unfold Ren.by
  have hx : ∃ o2, π o o2 := ⟨o2, hr⟩
  rw [dif_pos hx, (hm.uni _ _ _ _ (Classical.choose_spec hx) hr).1 rfl]
theorem VR.by {φ : Ren} {π : Rel} {h h2 : H} (hm : ME π h h2) {v v2 v' : Value} (he : E π h.length v v2) (hv : VR φ h2.length v2 v') : VR (φ.by π) h.length v v' := by
  induction he generalizing v' with
  | atom v hp =>
    cases hv <;> first | (cases hp; done) | (constructor; done)
  | ptr o o2 off h1 h3 =>
    cases hv with
    | ptr _ _ h4 => rw [← Ren.by_eq (φ := φ) hm h1]; exact .ptr _ _ h3
  | sl o o2 off l c h1 h3 =>
    cases hv with
    | sl _ _ _ _ c' q h4 h5 h6 h7 => rw [← Ren.by_eq (φ := φ) hm h1] at h6 h7 ⊢; exact .sl _ _ _ _ _ _ h3 h5 h6 h7
    | slz _ _ x h4 h5 => exact .slz _ _ _ h3 (by rw [Ren.by_eq (φ := φ) hm h1]; exact h5)
  | func f cs cs2 hs _ ih =>
    cases hv with
    | func _ _ cs' hs2 hh => exact .func _ _ _ (hs.trans hs2) fun i h h' => ih i h (by omega) (hh i (by omega) h')
  | agg cs cs2 hs h0 ih =>
    cases hv with
    | agg _ cs' hs2 h1 hh => exact .agg _ _ (hs.trans hs2) (fun i h => by rw [← (h0 i h (by omega)).one]; exact h1 i (by omega)) fun i h h' => ih i h (by omega) (hh i (by omega) h')
  | tuple cs cs2 hs _ ih =>
    cases hv with
    | tuple _ cs' hs2 hh => exact .tuple _ _ (hs.trans hs2) fun i h h' => ih i h (by omega) (hh i (by omega) h')
theorem VR.self {φ : Ren} {n : Nat} {v v' : Value} (h : VR φ n v v') : E Eq n v v := by
  induction h with
  | ptr o off ho => exact .ptr _ _ _ rfl ho
  | sl o off l c c' q ho => exact .sl _ _ _ _ _ rfl ho
  | slz o off x ho => exact .sl _ _ _ _ _ rfl ho
  | func f cs cs' hs _ ih => exact .func _ _ _ rfl fun i h h' => ih i h (by omega)
  | agg cs cs' hs h1 _ ih => exact .agg _ _ rfl fun i h h' => ih i h (by omega)
  | tuple cs cs' hs _ ih => exact .tuple _ _ rfl fun i h h' => ih i h (by omega)
  | _ => exact .atom _ rfl
theorem WFs.of {φ : Ren} {nt : Nat} {fr : Fr} {tmps : Array Value} {h : H} {w : World} (hF : FR φ h.length nt fr tmps) (hH : HR φ B h w) : WFs fr h := by
  refine ⟨fun t v hv => let ⟨v', _, h2⟩ := hF.2 t v hv; ⟨v, hv, h2.self⟩, ⟨fun o o2 p p2 h1 h2 => by subst h1; subst h2; rfl, fun j => rfl, fun o o2 he => ?_⟩⟩
  subst he
  cases ho : h[o]? with
  | none => trivial
  | some b => cases b with
    | dead => trivial
    | row r =>
      have hr : h.row o = some r := by unfold H.row; rw [ho]
      refine ⟨rfl, rfl, rfl, rfl, fun i v hv => ⟨v, hv, ?_⟩⟩
      obtain ⟨v', _, h2⟩ := hH.cell hr hv
      exact h2.self
theorem Eqv.model {n0 nt : Nat} {fr fr2 : Fr} {h h2 : H} {φ : Ren} {tmps : Array Value} {w : World} (he : Eqv n0 fr h fr2 h2) (hF : FR φ h2.length nt fr2 tmps) (hH : HR φ B h2 w) :
    ∃ φ' : Ren, FR φ' h.length nt fr tmps ∧ HR φ' B h w ∧ ∀ o, o < n0 → φ' o = φ o := by
  obtain ⟨π, a1, a2, a3, a4, a5⟩ := he.ex
  have hrow : ∀ {o r}, h.row o = some r → ∃ o2 r2, π o o2 ∧ φ.by π o = φ o2 ∧ h2.row o2 = some r2 ∧ r2.elem = r.elem ∧ r2.unit = r.unit ∧ r2.own = r.own ∧ LE π h.length r.cells r2.cells := by
    intro o r hr
    obtain ⟨o2, ho⟩ := a5 o (row_lt hr)
    obtain ⟨r2, k1, k2, k3, k4, k5⟩ := a2.row ho hr
    exact ⟨o2, r2, ho, Ren.by_eq a2 ho, k1, k2, k3, k4, k5⟩
  refine ⟨φ.by π, ⟨hF.1, fun t v hv => ?_⟩, ⟨fun o r hr ho => ?_, fun o r hr ho => ?_, fun o r hr c hc => ?_, fun o o' r r' hr hr' ho ho' hb => ?_, hH.size⟩, fun o ho => Ren.by_eq a2 (a4 o ho)⟩
  · obtain ⟨v2, k1, k2⟩ := a1 t v hv
    obtain ⟨v', k3, k4⟩ := hF.2 t v2 k1
    exact ⟨v', k3, k4.by a2 k2⟩
  · obtain ⟨o2, r2, k1, k2, k3, k4, k5, k6, k7⟩ := hrow hr
    obtain ⟨m1, m2, m3, cur, m4, m5, m6⟩ := hH.own o2 r2 k3 (k6.trans ho)
    rw [k2]
    refine ⟨m1, m2.trans k5, m3, cur, by rw [m4, k4], m5, fun i c hc => ?_⟩
    obtain ⟨c2, n1, n2⟩ := k7.2 i c hc
    obtain ⟨v, n3, n4⟩ := m6 i c2 n1
    exact ⟨v, n3, n4.by a2 n2⟩
  · obtain ⟨o2, r2, k1, k2, k3, k4, k5, k6, k7⟩ := hrow hr
    obtain ⟨m1, m2, m3⟩ := hH.ro o2 r2 k3 (k6.trans ho)
    rw [k2]
    refine ⟨m1, m2, fun i c hc => ?_⟩
    obtain ⟨c2, n1, n2⟩ := k7.2 i c hc
    obtain ⟨v, n3, n4⟩ := m3 i c2 n1
    exact ⟨v, n3, n4.by a2 n2⟩
  · obtain ⟨o2, r2, k1, k2, k3, k4, k5, k6, k7⟩ := hrow hr
    obtain ⟨i, hi, he⟩ := List.getElem_of_mem hc
    obtain ⟨c2, n1, n2⟩ := k7.2 i c (by rw [List.getElem?_eq_getElem hi, he])
    rw [← n2.one]
    exact hH.one o2 r2 k3 c2 (List.mem_of_getElem? n1)
  · obtain ⟨o2, r2, k1, k2, k3, k4, k5, k6, k7⟩ := hrow hr
    obtain ⟨p2, s2, l1, l2, l3, l4, l5, l6, l7⟩ := hrow hr'
    rw [k2, l2] at hb
    have := hH.inj o2 p2 r2 s2 k3 l3 (k6.trans ho) (l6.trans ho') hb
    exact (a2.uni _ _ _ _ k1 l1).2 this
end
end Go.Am
