/-
  The small machine's equations, as rules to reckon with. No condition.
-/
import Derived.Test.YtammndhoillliaaAm14
namespace Go.Am
set_option linter.unusedVariables false
set_option linter.unusedSimpArgs false
variable {T : Tab} {rs : List ARes}

/-- at a loop's head, the slots that are kept written out -/
noncomputable def goL (T : Tab) (rs : List ARes) (kh : List Nat) (c : ACode) (ks : List It) (l : List (Nat × Value)) (h : H) : Res := go T rs (.code c :: .lp kh c :: ks) (Fr.of l) h
/-- the operations of a region that are left -/
noncomputable def goO (T : Tab) (rs : List ARes) (n0 : Nat) (l : List AOper) (ks : List It) (fr : Fr) (h : H) : Res :=
  match runOps T (go T) n0 l fr h with
  | some (fr', h') => go T rs ks fr' h'
  | none => none
noncomputable def goS (T : Tab) (rs : List ARes) (n0 : Nat) (d : Option Nat) (l : List AOper) (ks : List It) (fr : Fr) : Option (Option Value × H) → Res
  | some (v, h') => goO T rs n0 l ks (fr.put d v) h'
  | none => none
noncomputable def goC (T : Tab) (rs : List ARes) (a b : ACode) (ks : List It) (fr : Fr) (h : H) : Bool → Res
  | true => go T rs (.code a :: ks) fr h
  | false => go T rs (.code b :: ks) fr h
noncomputable def goX (T : Tab) (rs : List ARes) (fr : Fr) (h : H) : Option (List Nat × List It) → Res
  | some (ko, k) => go T rs k (Fr.of (keepL fr ko)) h
  | none => none

section
variable {ks : List It} {fr : Fr} {h : H}
@[push_cast] theorem go_nil : go T rs [] fr h = retv rs fr h := by rw [go_eq]; rfl
@[push_cast] theorem go_ret : go T rs (.code .ret :: ks) fr h = retv rs fr h := by rw [go_eq]; rfl
@[push_cast] theorem go_skip : go T rs (.code .skip :: ks) fr h = go T rs ks fr h := by rw [go_eq]; rfl
@[push_cast] theorem go_seq {a b : ACode} : go T rs (.code (.seq a b) :: ks) fr h = go T rs (.code a :: .code b :: ks) fr h := by rw [go_eq]; rfl
@[push_cast] theorem go_cond {c : Operand} {a b : ACode} : go T rs (.code (.cond c a b) :: ks) fr h = match ev fr c with
    | some (.bool t) => goC T rs a b ks fr h t
    | _ => none := by
  rw [go_eq]
  simp only [gF]
  cases ev fr c with
  | none => rfl
  | some v => cases v <;> first | rfl | (rename_i t; cases t <;> rfl)
@[push_cast] theorem goC_true {a b : ACode} : goC T rs a b ks fr h true = go T rs (.code a :: ks) fr h := rfl
@[push_cast] theorem goC_false {a b : ACode} : goC T rs a b ks fr h false = go T rs (.code b :: ks) fr h := rfl
@[push_cast] theorem go_block {id : Nat} {ko : List Nat} {c : ACode} : go T rs (.code (.block id ko c) :: ks) fr h = go T rs (.code c :: .blk id ko :: ks) fr h := by rw [go_eq]; rfl
@[push_cast] theorem go_blk {id : Nat} {ko : List Nat} : go T rs (.blk id ko :: ks) fr h = go T rs ks (Fr.of (keepL fr ko)) h := by rw [go_eq]; rfl
@[push_cast] theorem go_loop {kh : List Nat} {c : ACode} : go T rs (.code (.loop kh c) :: ks) fr h = goL T rs kh c ks (keepL fr kh) h := by rw [go_eq]; rfl
@[push_cast] theorem go_lp {kh : List Nat} {c : ACode} : go T rs (.lp kh c :: ks) fr h = goL T rs kh c ks (keepL fr kh) h := by rw [go_eq]; rfl
theorem goL_eq {kh : List Nat} {c : ACode} {l : List (Nat × Value)} : goL T rs kh c ks l h = go T rs (.code c :: .lp kh c :: ks) (Fr.of l) h := rfl
/-- a round begins: the body is laid open at the head alone -/
theorem goL_at {kh : List Nat} {c c' : ACode} (hc : c = c') {l : List (Nat × Value)} : goL T rs kh c ks l h = go T rs (.code c' :: .lp kh c :: ks) (Fr.of l) h := by subst hc; rfl
@[push_cast] theorem go_exit {id : Nat} : go T rs (.code (.exit id) :: ks) fr h = goX T rs fr h (popTo id ks) := by
  rw [go_eq]; simp only [gF]; unfold goX; split <;> split <;> simp_all
@[push_cast] theorem goX_some {ko : List Nat} {k : List It} : goX T rs fr h (some (ko, k)) = go T rs k (Fr.of (keepL fr ko)) h := rfl
@[push_cast] theorem go_region {l : List AOper} : go T rs (.code (.region l) :: ks) fr h = goO T rs h.length l ks fr h := by rw [go_eq]; rfl
@[push_cast] theorem goO_nil {n0 : Nat} : goO T rs n0 [] ks fr h = go T rs ks fr h := rfl
@[push_cast] theorem goO_cons {n0 : Nat} {o : AOper} {l : List AOper} : goO T rs n0 (o :: l) ks fr h = goS T rs n0 o.dst l ks fr (core T (go T) n0 o fr h) := by
  unfold goO
  simp only [runOps]
  unfold stepO goS
  cases core T (go T) n0 o fr h <;> rfl
@[push_cast] theorem goS_some {n0 : Nat} {d : Option Nat} {l : List AOper} {v : Option Value} {h' : H} : goS T rs n0 d l ks fr (some (v, h')) = goO T rs n0 l ks (fr.put d v) h' := rfl
end
@[push_cast] theorem popTo_blk {id id' : Nat} {ko : List Nat} {k : List It} : popTo id (.blk id' ko :: k) = bif Nat.beq id' id then some (ko, k) else popTo id k := by
  simp only [popTo]
  by_cases he : id' = id
  · subst he; simp
  · have : Nat.beq id' id = false := by cases hb : Nat.beq id' id with
      | false => rfl
      | true => exact absurd (Nat.eq_of_beq_eq_true hb) he
    simp [he, this]
@[push_cast] theorem popTo_code {id : Nat} {c : ACode} {k : List It} : popTo id (.code c :: k) = popTo id k := rfl
@[push_cast] theorem popTo_lp {id : Nat} {kh : List Nat} {c : ACode} {k : List It} : popTo id (.lp kh c :: k) = popTo id k := rfl
@[push_cast] theorem enter_call {f : FuncId} {vs : List Value} {h : H} : enter T (go T) f vs h = call T f vs h := rfl
@[push_cast] theorem behind_false {α : Type} {h h' : H} {r : Option α} : behind false h h' r = r := rfl
theorem behind_true {α : Type} {h h' : H} {r : Option α} (hp : h <+: h') : behind true h h' r = r := by unfold behind; rw [if_pos hp]
@[push_cast] theorem b_true {α : Type} {x y : α} : (bif true then x else y) = x := rfl
@[push_cast] theorem b_false {α : Type} {x y : α} : (bif false then x else y) = y := rfl
@[push_cast] theorem nbeq (a b : Nat) : Nat.beq a b = (a == b) := by
  by_cases h : a = b
  · subst h; simp
  · have : Nat.beq a b = false := by cases hb : Nat.beq a b with
      | false => rfl
      | true => exact absurd (Nat.eq_of_beq_eq_true hb) h
    simp [h, this]
@[push_cast] theorem set_app {fr : Fr} {s t : Nat} {v : Value} : Fr.set fr s v t = bif Nat.beq t s then some v else fr t := rfl
@[push_cast] theorem del_app {fr : Fr} {s t : Nat} : Fr.del fr s t = bif Nat.beq t s then none else fr t := rfl
@[push_cast] theorem of_nil {t : Nat} : Fr.of [] t = none := rfl
@[push_cast] theorem of_cons {t k : Nat} {v : Value} {r : List (Nat × Value)} : Fr.of ((k, v) :: r) t = bif Nat.beq t k then some v else Fr.of r t := rfl
@[push_cast] theorem args_nil {n t : Nat} : Fr.args n [] t = none := rfl
@[push_cast] theorem args_cons {n t : Nat} {v : Value} {r : List Value} : Fr.args n (v :: r) t = bif Nat.beq t n then some v else Fr.args (n + 1) r t := rfl
@[push_cast] theorem put_ss {fr : Fr} {s : Nat} {v : Value} : Fr.put fr (some s) (some v) = fr.set s v := rfl
@[push_cast] theorem put_sn {fr : Fr} {s : Nat} : Fr.put fr (some s) none = fr.del s := rfl
@[push_cast] theorem put_n {fr : Fr} {v : Option Value} : Fr.put fr none v = fr := by cases v <;> rfl
attribute [push_cast] if_true if_false Bool.true_eq_false Bool.false_eq_true Bool.not_true Bool.not_false Bool.and_true Bool.true_and Bool.and_false Bool.false_and Bool.or_true Bool.true_or Bool.or_false Bool.false_or
@[push_cast] theorem beq_tt : (true == true) = true := rfl
@[push_cast] theorem beq_tf : (true == false) = false := rfl
@[push_cast] theorem beq_ft : (false == true) = false := rfl
@[push_cast] theorem beq_ff : (false == false) = true := rfl
@[push_cast] theorem bne_tt : (true != true) = false := rfl
@[push_cast] theorem bne_tf : (true != false) = true := rfl
@[push_cast] theorem bne_ft : (false != true) = true := rfl
@[push_cast] theorem bne_ff : (false != false) = false := rfl
@[push_cast] theorem none_isNone {α : Type} : (none : Option α).isNone = true := rfl
@[push_cast] theorem some_isNone {α : Type} {x : α} : (some x).isNone = false := rfl
@[push_cast] theorem none_isSome {α : Type} : (none : Option α).isSome = false := rfl
@[push_cast] theorem some_isSome {α : Type} {x : α} : (some x).isSome = true := rfl
attribute [push_cast] core gd older aop abin aint ashift astr aun anil afill bound cat sized evp evo aints mm ev evs closed closed1 keepL retv ress res1 flat Value.cells decide_true decide_false
theorem wrap64 {x : Int} (h1 : -9223372036854775808 ≤ x) (h2 : x ≤ 9223372036854775807) : IntKind.wrap .i64 x = x := by
  rw [IntKind.wrap_i64]; omega
theorem dec_lt {a b : Int} (h : a < b) : decide (a < b) = true := by simpa using h
theorem dec_nlt {a b : Int} (h : b ≤ a) : decide (a < b) = false := by simpa using h
theorem dec_le {a b : Int} (h : a ≤ b) : decide (a ≤ b) = true := by simpa using h
theorem dec_nle {a b : Int} (h : b < a) : decide (a ≤ b) = false := by simpa using h
theorem dec_eq {a b : Int} (h : a = b) : decide (a = b) = true := by simpa using h
theorem dec_ne {a b : Int} (h : ¬ a = b) : decide (a = b) = false := by simpa using h
/-- a call, its code laid open -/
theorem call_at {f : FuncId} {F : AFun} {vs : List Value} {h : H} (hT : T f = some F) (hl : vs.length = F.nargs) : call T f vs h = go T F.results [.code F.code] (Fr.args 0 vs) h := by
  unfold call enter; rw [hT]; simp only; rw [if_pos hl]
end Go.Am
