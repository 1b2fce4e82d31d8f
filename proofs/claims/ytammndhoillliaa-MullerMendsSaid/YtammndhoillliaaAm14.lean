/-
  A program's functions turned into the small machine's by one function, and that what is turned so is true to the model. No condition.
-/
import Derived.Test.YtammndhoillliaaAm13
namespace Go.Am
set_option linter.unusedVariables false
set_option linter.unusedSimpArgs false

def gdC (ops : Array Oper) : Option (Nat × Bool) → Option (Option (Nat × Bool))
  | none => some none
  | some (j, b) => match (ops[j]?).bind (·.dst) with
    | some s => some (some (s, b))
    | none => none
def dstOk (nt : Nat) : Option Nat → Bool
  | none => true
  | some d => Nat.blt d nt
def compO (P : Program) (nt : Nat) (ops : Array Oper) (o : Oper) : Option AOper :=
  match comp1 P o, gdC ops o.guard with
  | some op, some g => if dstOk nt o.dst then some ⟨o.dst, op, g, false⟩ else none
  | _, _ => none
def compOs (P : Program) (nt : Nat) (ops : Array Oper) : List Oper → Option (List AOper)
  | [] => some []
  | o :: r => match compO P nt ops o, compOs P nt ops r with
    | some a, some l => some (a :: l)
    | _, _ => none
/-- which calls must be seen to add only, which loads to look at what is old -/
def mark (W b : Nat) (l : List AOper) : List AOper :=
  l.zipIdx.map fun (x, j) =>
    let apart (i : Nat) : Bool := !b.testBit (W * j + i) && !b.testBit (W * i + j)
    { x with chk := (x.op.isCall && l.zipIdx.any fun (y, i) => i != j && apart i && y.op.cls != 0) || (x.op.isLd && (l.take j).zipIdx.any fun (y, i) => apart i && y.op.cls == 2) }
def compR (P : Program) (nt : Nat) (ops : Array Oper) (draw : Bool) : Option (List AOper) :=
  match compOs P nt ops ops.toList with
  | some l => match draw with
    | false => some l
    | true => force (befN ops.size ops.toList 0 0) fun b => let l' := mark ops.size b l
      if edgesDown ops && commutes ops.toList l' then some l' else none
  | none => none
def compC (P : Program) (nt : Nat) (kf : Nat → List Nat × List Nat) : List Nat → Code → Option ACode
  | _, .skip => some .skip
  | _, .ret => some .ret
  | _, .exit id => some (.exit id)
  | _, .region _ ops draw => match compR P nt ops draw with
    | some l => some (.region l)
    | none => some .stuck
  | cur, .seq a b => match compC P nt kf cur a, compC P nt kf cur b with
    | some a, some b => some (.seq a b)
    | _, _ => none
  | cur, .cond c a b => match compC P nt kf cur a, compC P nt kf cur b with
    | some a, some b => some (.cond c a b)
    | _, _ => none
  | _, .block id a => match compC P nt kf (kf id).1 a with
    | some a => some (.block id (kf id).2 a)
    | none => none
  | cur, .loop a => match compC P nt kf cur a with
    | some a => some (.loop cur a)
    | none => none
  | _, _ => some .stuck
def compRes (P : Program) : List ResultVar → Option (List ARes)
  | [] => some []
  | .tmp t :: r => match compRes P r with
    | some l => some (.tmp t :: l)
    | none => none
  | .cell a t :: r => match P.underlying t, P.info? t, compRes P r with
    | some d, some i, some l => some (.cell a (isAggD d) i.size :: l)
    | _, _, _ => none
def compF (P : Program) (kf : Nat → List Nat × List Nat) (fn : Func) : Option AFun :=
  match fn.body with
  | some body => match compC P fn.ntmps kf [] body, compRes P fn.results.toList with
    | some c, some r => if (fn.name == "runtime.NumGoroutine") = false then some ⟨c, fn.params.size + fn.nfree, fn.ntmps, r⟩ else none
    | _, _ => none
  | none => none

section
variable {P : Program}

theorem compO_sound {nt : Nat} {ops : Array Oper} {o : Oper} {a : AOper} (h : compO P nt ops o = some a) (b : Bool) : CO P nt ops o { a with chk := b } := by
  unfold compO at h
  split at h
  · rename_i op g h1 h2
    split at h
    · rename_i hd
      cases h
      refine ⟨rfl, fun d hd' => ?_, h1, ?_⟩
      · rw [hd'] at hd; exact Nat.le_of_ble_eq_true hd
      · unfold gdC at h2
        split at h2
        · rename_i hg; cases h2; exact .inl ⟨hg, rfl⟩
        · rename_i j bb hg
          split at h2
          · rename_i s hs; cases h2; exact .inr ⟨j, bb, s, hg, hs, rfl⟩
          · cases h2
    · cases h
  · cases h
theorem compOs_sound {nt : Nat} {ops : Array Oper} : ∀ {os : List Oper} {l : List AOper}, compOs P nt ops os = some l → l.length = os.length ∧ ∀ (i : Nat) o, os[i]? = some o → ∃ a, l[i]? = some a ∧ compO P nt ops o = some a
  | [], l, h => by cases h; exact ⟨rfl, fun i o h => by simp at h⟩
  | o :: os, l, h => by
    simp only [compOs] at h
    split at h
    · rename_i a l' h1 h2
      cases h
      obtain ⟨e1, e2⟩ := compOs_sound h2
      refine ⟨by simp [e1], fun i x hx => ?_⟩
      cases i with
      | zero => simp at hx; subst hx; exact ⟨a, rfl, h1⟩
      | succ i => simpa using e2 i x (by simpa using hx)
    · cases h
theorem compR_sound {nt : Nat} {ops : Array Oper} {draw : Bool} {l : List AOper} (h : compR P nt ops draw = some l) : RegOK P nt ops draw l := by
  unfold compR at h
  split at h
  · rename_i l0 h0
    obtain ⟨e1, e2⟩ := compOs_sound h0
    split at h
    · cases h
      refine ⟨by simpa using e1, fun i o ho => ?_, fun hd => by cases hd⟩
      obtain ⟨a, h1, h2⟩ := e2 i o (by simpa using ho)
      have := compO_sound h2 a.chk
      exact ⟨a, h1, this⟩
    · simp only [force_eq] at h
      split at h
      · rename_i hc
        cases h
        simp only [Bool.and_eq_true] at hc
        refine ⟨by simp [mark, e1], fun i o ho => ?_, fun _ => hc⟩
        obtain ⟨a, h1, h2⟩ := e2 i o (by simpa using ho)
        unfold mark
        simp only [List.getElem?_map, List.getElem?_zipIdx, h1, Option.map_some]
        exact ⟨_, rfl, compO_sound h2 _⟩
      · cases h
  · cases h
theorem compC_sound {nt : Nat} {kf : Nat → List Nat × List Nat} : ∀ {c : Code} {cur : List Nat} {a : ACode}, compC P nt kf cur c = some a → CR P nt c a
  | .skip, cur, a, h => by cases h; exact .skip
  | .ret, cur, a, h => by cases h; exact .ret
  | .exit id, cur, a, h => by cases h; exact .exit
  | .region id ops draw, cur, a, h => by
    simp only [compC] at h
    split at h
    · cases h; exact .region _ _ _ _ (compR_sound ‹_›)
    · cases h; exact .stuck
  | .seq x y, cur, a, h => by
    simp only [compC] at h
    split at h
    · cases h; exact .seq (compC_sound ‹_›) (compC_sound ‹_›)
    · cases h
  | .cond c x y, cur, a, h => by
    simp only [compC] at h
    split at h
    · cases h; exact .cond (compC_sound ‹_›) (compC_sound ‹_›)
    · cases h
  | .block id x, cur, a, h => by
    simp only [compC] at h
    split at h
    · cases h; exact .block (compC_sound ‹_›)
    · cases h
  | .loop x, cur, a, h => by
    simp only [compC] at h
    split at h
    · cases h; exact .loop (compC_sound ‹_›)
    · cases h
  | .rangeFunc .., cur, a, h => by cases h; exact .stuck
  | .scope _, cur, a, h => by cases h; exact .stuck
  | .label _, cur, a, h => by cases h; exact .stuck
  | .goto _, cur, a, h => by cases h; exact .stuck
  | .refuse _, cur, a, h => by cases h; exact .stuck
theorem compRes_sound : ∀ {rs : List ResultVar} {l : List ARes}, compRes P rs = some l → RR P rs l
  | [], l, h => by cases h; trivial
  | .tmp t :: rs, l, h => by
    simp only [compRes] at h
    split at h
    · cases h; exact ⟨rfl, compRes_sound ‹_›⟩
    · cases h
  | .cell a t :: rs, l, h => by
    simp only [compRes] at h
    split at h
    · cases h; exact ⟨rfl, ⟨_, _, ‹_›, ‹_›, rfl, rfl⟩, compRes_sound ‹_›⟩
    · cases h
theorem compF_sound {kf : Nat → List Nat × List Nat} {f : FuncId} {fn : Func} {F : AFun} (hf : P.funcs[f]? = some fn) (h : compF P kf fn = some F) : FunOK P f F := by
  unfold compF at h
  split at h
  · rename_i body hb
    split at h
    · rename_i c r h1 h2
      split at h
      · cases h
        exact ⟨fn, body, hf, hb, compC_sound h1, rfl, compRes_sound h2, ‹_›⟩
      · cases h
    · cases h
  · cases h
end
end Go.Am
