/-
  The model's operations turned into the small machine's, and that what these give is what the model's give. No condition.
-/
import Derived.Test.YtammndhoillliaaAm3
import Derived.WalkSpells
import Derived.WalkLawsBesides
namespace Go.Am
set_option linter.unusedVariables false
set_option linter.unusedSimpArgs false
open Go.RowKit (Below)

def isAggD : TypeDesc → Bool
  | .struct _ | .array _ _ => true
  | _ => false
def sizeOfT (P : Program) (t : TypeId) : Option Nat := (P.info? t).map (·.size)
def isNilC : Operand → Bool
  | .const (.slice none 0 0) | .const (.pointer none) | .const .nilFunc => true
  | _ => false
def comp1 (P : Program) (o : Oper) : Option AOp :=
  match o.op with
  | .move x | .assign x => some (.mv x)
  | .pick c a b => some (.pick c a b)
  | .binOp op t x y _ =>
    match P.underlying t with
    | some (.int _) | some .string => some (.bin op x y)
    | some .bool => match op with
      | .eql => some (.eqb false x y)
      | .neq => some (.eqb true x y)
      | _ => none
    | some (.slice _) => if isNilC y then match op, y with
        | .eql, .const (.slice none 0 0) => some (.eqn false 0 x)
        | .neq, .const (.slice none 0 0) => some (.eqn true 0 x)
        | _, _ => none else none
    | some (.pointer _) => match op, y with
        | .eql, .const (.pointer none) => some (.eqn false 1 x)
        | .neq, .const (.pointer none) => some (.eqn true 1 x)
        | _, _ => none
    | some (.func _ _ _) => match op, y with
        | .eql, .const .nilFunc => some (.eqn false 2 x)
        | .neq, .const .nilFunc => some (.eqn true 2 x)
        | _, _ => none
    | _ => none
  | .unOp op _ x => some (.un op x)
  | .convert src dst x => match P.underlying src, P.underlying dst with
    | some (.int _), some (.int k) => some (.conv k x)
    | _, _ => none
  | .alloc t => match P.info? t with
    | some i => match i.zero with
      | some z => if z.cells.all closed1 then some (.alloc t z.cells.toList) else none
      | none => none
    | none => none
  | .box t x => match P.info? t with
    | some i => some (.box t i.size x)
    | none => none
  | .load t a => match P.underlying t, P.info? t with
    | some d, some i => some (.ld (isAggD d) i.size a)
    | _, _ => none
  | .store t a x => match P.info? t with
    | some i => some (.st i.size a x)
    | none => none
  | .nilCheck x => some (.nilck x)
  | .makeFunc (.func f) first cap => if first.isEmpty then some (.mkf f cap.toList) else none
  | .makeSlice t l c => match P.underlying t with
    | some (.slice e) => match P.info? e with
      | some i => match i.zero with
        | some z => if z.cells.all closed1 && z.cells.size == i.size && 0 < i.size then some (.mks e i.size i.bytes z.cells.toList l c) else none
        | none => none
      | none => none
    | _ => none
  | .slice t x lo hi none => match P.underlying t with
    | some (.slice e) => match P.info? e with
      | some i => some (.sl i.size x lo hi)
      | none => none
    | some .string => some (.sls x lo hi)
    | _ => none
  | .fieldAddr s x f => match P.underlying s with
    | some (.struct fs) => match fs[f]? with
      | some fd => match P.info? fd.type with
        | some i => if i.size = 0 then none else some (.faddr fd.offset x)
        | none => none
      | none => none
    | _ => none
  | .field s x f => match P.underlying s with
    | some (.struct fs) => match fs[f]? with
      | some fd => match P.underlying fd.type, P.info? fd.type with
        | some d, some i => some (.fld (isAggD d) fd.offset i.size x)
        | _, _ => none
      | none => none
    | _ => none
  | .indexAddr t x ix => match P.underlying t with
    | some (.slice e) => match P.info? e with
      | some i => some (.iaddr i.size x ix)
      | none => none
    | some (.array n e) => match P.info? e with
      | some i => some (.iaddrA n i.size x ix)
      | none => none
    | _ => none
  | .index t x ix => match P.underlying t with
    | some (.array n e) => match P.underlying e, P.info? e with
      | some d, some i => some (.idxA n i.size (isAggD d) x ix)
      | _, _ => none
    | some .string => some (.idxS x ix)
    | _ => none
  | .extract x i => some (.ext i x)
  | .build t parts => match P.info? t, P.underlying t with
    | some i, some (.struct fs) => match i.zero, fs.toList.mapM (fun f => (P.info? f.type).map fun i => (f.offset, i.size)) with
      | some z, some pl => if z.cells.all closed1 then some (.build z.cells.toList pl parts.toList) else none
      | _, _ => none
    | some i, some (.array n e) => match i.zero, P.info? e with
      | some z, some ie => if z.cells.all closed1 then some (.build z.cells.toList ((List.range n).map fun j => (j * ie.size, ie.size)) parts.toList) else none
      | _, _ => none
    | _, _ => none
  | .buildSlice t len parts => match P.underlying t with
    | some (.slice e) => match P.info? e with
      | some i => match i.zero with
        | some z => if z.cells.all closed1 && z.cells.size == i.size && len * i.size ≤ 16777216 && parts.toList.map (·.1) == List.range len then some (.mkSl e i.size len (parts.toList.map (·.2))) else none
        | none => none
      | none => none
    | _ => none
  | .call c => match c.callee with
    | .builtin .len => match c.argTypes[0]?, c.args.toList with
      | some t, [x] => match P.underlying t with
        | some (.slice _) => some (.len x)
        | some .string => some (.lenS x)
        | some (.array n _) => some (.lenK n)
        | some (.pointer arr) => match P.underlying arr with
          | some (.array n _) => some (.lenK n)
          | _ => none
        | _ => none
      | _, _ => none
    | .builtin .append => match c.argTypes.toList, c.args.toList with
      | [t, u], [s, x] => if t = u then match P.underlying t with
        | some (.slice e) => match P.info? e with
          | some i => match i.zero with
            | some z => if z.cells.size == i.size && 0 < i.size then some (.app e i.size i.bytes s x) else none
            | none => none
          | none => none
        | _ => none else none
      | _, _ => none
    | .builtin .copy => match c.argTypes.toList, c.args.toList with
      | [t, _], [d, s] => match P.underlying t with
        | some (.slice e) => match P.info? e with
          | some i => some (.cpy i.size d s)
          | none => none
        | _ => none
      | _, _ => none
    | .builtin .min => some (.minmax false c.args.toList)
    | .builtin .max => some (.minmax true c.args.toList)
    | .value (.func f) => some (.call f c.args.toList)
    | .value x => some (.calld x c.args.toList)
    | _ => none
  | _ => none

/-- what is claimed of an operation that is no call -/
def OpOK (P : Program) (B : Nat) (φ : Ren) (h : H) (a : Act) (w : World) (o : Oper) (v : Option Value) (h' : H) : Prop :=
  ∃ φ' v' w', (execOp a.eval o).run P w = .ok (match v with | some _ => .value v' | none => .skip) w' ∧ (∀ u, v = some u → VR φ' h'.length u v') ∧
    HR φ' B h' w' ∧ Ext φ h.length φ' ∧ h.length ≤ h'.length ∧ Below B w w'

section
variable {P : Program} {B : Nat} {φ : Ren} {nt : Nat} {fr : Fr} {h : H} {a : Act} {w : World}

theorem OpOK.pure {o : Oper} {v v' : Value} (hH : HR φ B h w) (hr : (execOp a.eval o).run P w = .ok (.value v') w) (hv : VR φ h.length v v') : OpOK P B φ h a w o (some v) h :=
  ⟨φ, v', w, hr, fun u hu => by cases hu; exact hv, hH, Ext.refl _ _, Nat.le_refl _, Below.refl _ _⟩

theorem ev_sound (hF : FR φ h.length nt fr a.tmps) {x : Operand} {v : Value} (hx : ev fr x = some v) : VR φ h.length v (a.eval x) := by
  cases x with
  | tmp t =>
    obtain ⟨v', h1, h2⟩ := hF.2 t v hx
    simpa [Act.eval, h1] using h2
  | const c =>
    simp only [ev] at hx
    split at hx
    · cases hx; exact closed_VR ‹_›
    · cases hx
  | global g => cases hx
  | func f => cases hx; exact .func f #[] #[] rfl (fun i h _ => by simp at h)

theorem int_inv {n : Nat} {k : IntKind} {i : Int} {v' : Value} (h : VR φ n (.int k i) v') : v' = .int k i := by cases h; rfl
theorem bool_inv {n : Nat} {b : Bool} {v' : Value} (h : VR φ n (.bool b) v') : v' = .bool b := by cases h; rfl
theorem str_inv {n : Nat} {b : ByteArray} {v' : Value} (h : VR φ n (.string b) v') : v' = .string b := by cases h; rfl
theorem evs_sound (hF : FR φ h.length nt fr a.tmps) : ∀ {xs : List Operand} {vs : List Value}, evs fr xs = some vs → LR φ h.length vs (xs.map a.eval)
  | [], vs, hx => by cases hx; exact LR.nil _ _
  | x :: xs, vs, hx => by
    simp only [evs] at hx
    split at hx
    · rename_i v vs' h1 h2
      cases hx
      exact LR.cons (ev_sound hF h1) (evs_sound hF h2)
    · cases hx

theorem s_mv {o : Oper} {x : Operand} (ho : o.op = .move x ∨ o.op = .assign x) (hF : FR φ h.length nt fr a.tmps) (hH : HR φ B h w) {v h'}
    (ha : aop fr h (.mv x) = some (v, h')) : OpOK P B φ h a w o v h' := by
  simp only [aop] at ha
  split at ha
  · cases ha
    refine OpOK.pure hH ?_ (ev_sound hF ‹_›)
    rcases ho with ho | ho <;> simp [execOp, ho]
  · cases ha

theorem s_pick {o : Oper} {c x y : Operand} (ho : o.op = .pick c x y) (hF : FR φ h.length nt fr a.tmps) (hH : HR φ B h w) {v h'}
    (ha : aop fr h (.pick c x y) = some (v, h')) : OpOK P B φ h a w o v h' := by
  simp only [aop] at ha
  split at ha
  · rename_i t hc
    have ec := bool_inv (ev_sound hF hc)
    split at ha
    · rename_i v hv
      cases ha
      have := ev_sound hF hv
      refine OpOK.pure hH ?_ this
      cases t <;> simp [execOp, ho, ec, asBool]
    · cases ha
  · cases ha

theorem s_bin {o : Oper} {op : BinOp} {t u : TypeId} {x y : Operand} (ho : o.op = .binOp op t x y u) (hF : FR φ h.length nt fr a.tmps) (hH : HR φ B h w) {v h'}
    (ha : aop fr h (.bin op x y) = some (v, h')) : OpOK P B φ h a w o v h' := by
  simp only [aop] at ha
  split at ha
  · rename_i p q hp hq
    split at ha
    · rename_i v hv
      cases ha
      have rp := ev_sound hF hp
      have rq := ev_sound hF hq
      unfold abin at hv
      split at hv
      · rename_i k m k' n
        have ep := int_inv rp
        have eq := int_inv rq
        have hg : (eqGuard op t x y (.int k m) (.int k' n)).run P w = .ok () w := by unfold eqGuard; cases op <;> simp
        have sh : ∀ {op' : BinOp}, op = op' → (op' = .shl ∨ op' = .shr) → ashift op' k m n = some v → OpOK P B φ h a w o (some v) h := by
          intro op' e ho' hs
          subst e
          unfold ashift at hs
          split at hs
          · cases hs
          · rename_i hn
            rcases ho' with rfl | rfl <;> (cases hs; refine OpOK.pure hH ?_ (.int _ _); simp [execOp, ho, ep, eq, hg, binOp, Op.shift, hn])
        split at hv
        · exact sh rfl (.inl rfl) hv
        · exact sh rfl (.inr rfl) hv
        · rename_i hne1 hne2
          split at hv
          · rename_i hk
            subst hk
            have hrun : (binOp op t (.int k m) (.int k n)).run P w = .ok v w → closed1 v = true → OpOK P B φ h a w o (some v) h := fun h1 h2 =>
              OpOK.pure hH (by simp [execOp, ho, ep, eq, hg, h1]) (closed1_VR h2).1
            cases op <;> simp only [aint] at hv <;> first
              | (cases hv; done)
              | (cases hv; refine hrun ?_ rfl; simp [binOp, Op.intArith, Op.intBits, Op.intCmp, bits]; done)
              | (cases hv; refine hrun ?_ rfl; simp [binOp, Op.intCmp, bne]; rfl)
              | (split at hv
                 · cases hv
                 · rename_i h0; cases hv; exact hrun (by simp [binOp, Op.intDiv, h0]) rfl)
          · cases hv
      · rename_i p q
        have ep := str_inv rp
        have eq := str_inv rq
        have hg : (eqGuard op t x y (.string p) (.string q)).run P w = .ok () w := by unfold eqGuard; cases op <;> simp
        have hrun : (binOp op t (.string p) (.string q)).run P w = .ok v w → closed1 v = true → OpOK P B φ h a w o (some v) h := fun h1 h2 =>
          OpOK.pure hH (by simp [execOp, ho, ep, eq, hg, h1]) (closed1_VR h2).1
        cases op <;> simp only [astr] at hv <;> first
          | (cases hv; done)
          | (cases hv; refine hrun ?_ rfl; simp [binOp, Op.stringOp]; done)
          | (split at hv
             · rename_i h0
               cases hv; refine hrun ?_ rfl; simp [binOp, Op.stringOp, IntKind.max, IntKind.signed, IntKind.bits]; omega
             · cases hv)
      · cases hv
    · cases ha
  · cases ha
end
end Go.Am
