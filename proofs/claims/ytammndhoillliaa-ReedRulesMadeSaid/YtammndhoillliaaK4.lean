/-
  The fields of the table are fields. No condition.
  What rows span; their one form. No condition.
  Rows one by one into what there is, in plain Lean: its form, what it spans; equations. Condition: rows of one length.
  A law's arguments that are slices of slices of integers, as rows that are only read. Conditions: those of each theorem.
  Own rows of numbers: made, written, read. No condition.
  What is owned in memory, as trees of values; what stands apart. No condition.
  What is owned: made, read, written, lengthened, put into one another. No condition.
  What small functions of lists compute: Copy, In, slices.Clone, Contains, ContainsFunc, Pick, Raw, Numbers. Conditions: lists that read as numbers, of at most a million elements.
  Lists of lists that grow; raw numbers turned to elements and words. Conditions: those of each theorem.
  Lists of lists as long as Go's may be; the law's heavy. Condition: lists as memory tells them.
  The document's less, Dot of rows over a field. Conditions: rows that lie there, a field of the table.
  What is owned: values written, slices rebuilt of parts. No condition.
  The document's Reduce. Conditions: rows of one length that lie there, a field of the table.
  The document's Reduce: rows changed, the place, the new row; all of it. Conditions: rows of one length that lie there, a field of the table.
  The document's Reduce, called. Conditions: rows of one length that lie there, a field of the table.
  The document's Solve. Conditions: rows of one length that lie there, a field of the table.
-/
import Derived.Test.YtammndhoillliaaK1
import Derived.Test.YtammndhoillliaaK3
import Derived.Test.YtammndhoillliaaKAD
import Derived.Test.YtammndhoillliaaK2
import Derived.Deep.Matrix
import Derived.Test.YtammndhoillliaaKCode
namespace Go.Proofs.Ytammndhoillliaa
open Go.Am Go.Alg
set_option linter.unusedVariables false
set_option linter.unusedSimpArgs false
set_option maxRecDepth 30000

/-! ### sums -/
theorem dig_mod {p d T : Int} (h0 : 0 ≤ d) (h1 : d < p) : (d + p * T) % p = d ∧ (d + p * T) / p = T := by
  constructor
  · rw [Int.add_mul_emod_self_left, Int.emod_eq_of_lt h0 h1]
  · rw [Int.add_mul_ediv_left _ _ (by omega), Int.ediv_eq_zero_of_lt h0 h1, Int.zero_add]
theorem addNc (p : Int) : ∀ (n : Nat) (a b : Int), addN p n a b = addN p n b a
  | 0, _, _ => rfl
  | n + 1, a, b => by rw [addN, addN, addNc p n, Int.add_comm (a % p)]
theorem addNa {p : Int} (hp : 0 < p) : ∀ (n : Nat) (a b c : Int), addN p n (addN p n a b) c = addN p n a (addN p n b c)
  | 0, _, _, _ => rfl
  | n + 1, a, b, c => by
    have d1 := dig_mod (T := addN p n (a / p) (b / p)) (Int.emod_nonneg (a % p + b % p) (show p ≠ 0 by omega)) (Int.emod_lt_of_pos (a % p + b % p) hp)
    have d2 := dig_mod (T := addN p n (b / p) (c / p)) (Int.emod_nonneg (b % p + c % p) (show p ≠ 0 by omega)) (Int.emod_lt_of_pos (b % p + c % p) hp)
    have e0 : ∀ x y : Int, addN p (n + 1) x y = (x % p + y % p) % p + p * addN p n (x / p) (y / p) := fun _ _ => rfl
    rw [e0 (addN p (n + 1) a b) c, e0 a (addN p (n + 1) b c), e0 a b, e0 b c, d1.1, d1.2, d2.1, d2.2, addNa hp n]
    simp only [Int.emod_add_emod, Int.add_emod_emod, Int.add_assoc]
theorem addNz {p : Int} (hp : 0 < p) : ∀ (n : Nat) (a : Int), 0 ≤ a → a < p ^ n → addN p n a 0 = a
  | 0, a, h0, h1 => by rw [Int.pow_zero] at h1; show (0 : Int) = a; omega
  | n + 1, a, h0, h1 => by
    rw [Int.pow_succ] at h1
    rw [addN, Int.zero_emod, Int.zero_ediv, Int.add_zero, Int.emod_emod, addNz hp n (a / p) (Int.ediv_nonneg h0 (by omega)) (Int.ediv_lt_of_lt_mul hp h1)]
    exact Int.emod_add_mul_ediv a p
theorem addNn {p : Int} (hp : 0 < p) : ∀ (n : Nat) (a : Int), addN p n a (negN p n a) = 0
  | 0, _ => rfl
  | n + 1, a => by
    have d1 := dig_mod (T := negN p n (a / p)) (Int.emod_nonneg (p - a % p) (show p ≠ 0 by omega)) (Int.emod_lt_of_pos (p - a % p) hp)
    have e0 : ∀ x y : Int, addN p (n + 1) x y = (x % p + y % p) % p + p * addN p n (x / p) (y / p) := fun _ _ => rfl
    have e1 : negN p (n + 1) a = (p - a % p) % p + p * negN p n (a / p) := rfl
    rw [e0, e1, d1.1, d1.2, addNn hp n, Int.add_emod_emod, show a % p + (p - a % p) = p by omega, Int.emod_self]
    omega

/-! ### products go through sums -/
section
variable {q p g : Int} {m : Nat} {mod : List Int}
theorem dist_gen (hn : fldN q.toNat = some (p, m, g, mod)) {b c : Int} (hb : 0 ≤ b ∧ b < q) (hc : 0 ≤ c ∧ c < q) : fmul q g (addN p m b c) = addN p m (fmul q g b) (fmul q g c) := by
  obtain ⟨h2, h64⟩ := fldN_le hn
  have h := List.all_eq_true.1 dist_checked (q.toNat - 2) (List.mem_range.2 (by omega))
  rw [show q.toNat - 2 + 2 = q.toNat by omega] at h
  unfold distCheck at h
  rw [hn] at h
  simp only [List.all_eq_true, List.mem_range, decide_eq_true_eq] at h
  have := h b.toNat (by omega) c.toNat (by omega)
  rwa [show ((q.toNat : Nat) : Int) = q by omega, show ((b.toNat : Nat) : Int) = b by omega, show ((c.toNat : Nat) : Int) = c by omega] at this
end

/-- is there such a field? -/
class IsFld (q : Int) : Prop where
  ok : ∃ p m g mod, fldN q.toNat = some (p, m, g, mod)
/-- its elements -/
structure El (q : Int) where
  v : Int
  lo : 0 ≤ v
  hi : v < q
theorem El.ext' {q : Int} {a b : El q} (h : a.v = b.v) : a = b := by
  obtain ⟨a, h1, h2⟩ := a
  obtain ⟨b, h3, h4⟩ := b
  cases h; rfl
instance {q : Int} : DecidableEq (El q) := fun a b => if h : a.v = b.v then .isTrue (El.ext' h) else .isFalse fun e => h (e ▸ rfl)
theorem fld_fok {q p g : Int} {m : Nat} {mod : List Int} (hn : fldN q.toNat = some (p, m, g, mod)) : FOk q p m mod ∧ Tabs q g ∧ 1 ≤ g ∧ g < q := by
  obtain ⟨h2, h64⟩ := fldN_le hn
  have h := fld_ok hn
  rw [show ((q.toNat : Nat) : Int) = q by omega] at h
  exact ⟨h.1, tabs_ok hn, h.2.2.1, h.2.2.2.1⟩
theorem El.ok {q : Int} (a : El q) : fok q a.v = true := fok_t ⟨a.lo, a.hi⟩
theorem fadd_is {q p g : Int} {m : Nat} {mod : List Int} (hn : fldN q.toNat = some (p, m, g, mod)) (a b : El q) : fadd q a.v b.v = addN p m a.v b.v := by
  rw [fadd, a.ok, b.ok, (fdat_eq hn).1, (fdat_eq hn).2]; rfl
theorem fneg_is {q p g : Int} {m : Nat} {mod : List Int} (hn : fldN q.toNat = some (p, m, g, mod)) (a : El q) : fneg q a.v = negN p m a.v := by
  rw [fneg, a.ok, (fdat_eq hn).1, (fdat_eq hn).2]; rfl
section
variable {q : Int} [hq : IsFld q]
theorem q_two : 2 ≤ q := by
  obtain ⟨p, m, g, mod, hn⟩ := hq.ok
  exact (fld_fok hn).1.q2
theorem fadd_in (a b : El q) : 0 ≤ fadd q a.v b.v ∧ fadd q a.v b.v < q := by
  obtain ⟨p, m, g, mod, hn⟩ := hq.ok
  have hf := (fld_fok hn).1
  have := hf.p2
  have hb := addN_bound (p := p) (by omega) m a.v b.v
  rw [hf.pm] at hb
  rw [fadd_is hn]; exact hb
theorem fneg_in (a : El q) : 0 ≤ fneg q a.v ∧ fneg q a.v < q := by
  obtain ⟨p, m, g, mod, hn⟩ := hq.ok
  have hf := (fld_fok hn).1
  have := hf.p2
  have hb := negN_bound (p := p) (by omega) m a.v
  rw [hf.pm] at hb
  rw [fneg_is hn]; exact hb
theorem fmul_in (a b : El q) : 0 ≤ fmul q a.v b.v ∧ fmul q a.v b.v < q := by
  obtain ⟨p, m, g, mod, hn⟩ := hq.ok
  obtain ⟨hf, t, _⟩ := fld_fok hn
  have h2 := hf.q2
  rw [fmul, a.ok, b.ok]
  cases h0 : (a.v == 0) || (b.v == 0) with
  | true => exact ⟨Int.le_refl _, by show (0 : Int) < q; omega⟩
  | false =>
    have := exp_ok t h2 (flog q a.v + flog q b.v)
    exact ⟨by show 0 ≤ fexp q _; omega, this.2.1⟩
theorem finv_in (a : El q) (h : a.v ≠ 0) : 0 ≤ finv q a.v ∧ finv q a.v < q := by
  obtain ⟨p, m, g, mod, hn⟩ := hq.ok
  obtain ⟨hf, t, _⟩ := fld_fok hn
  have := (fmul_inv t hf.q2 (a := a.v) ⟨by have := a.lo; omega, a.hi⟩).1
  exact ⟨by omega, this.2⟩
instance : Zero (El q) := ⟨⟨0, Int.le_refl _, by have := q_two (q := q); omega⟩⟩
instance : One (El q) := ⟨⟨1, by omega, by have := q_two (q := q); omega⟩⟩
instance : Add (El q) := ⟨fun a b => ⟨fadd q a.v b.v, (fadd_in a b).1, (fadd_in a b).2⟩⟩
instance : Mul (El q) := ⟨fun a b => ⟨fmul q a.v b.v, (fmul_in a b).1, (fmul_in a b).2⟩⟩
instance : Neg (El q) := ⟨fun a => ⟨fneg q a.v, (fneg_in a).1, (fneg_in a).2⟩⟩
theorem v_zero : (0 : El q).v = 0 := rfl
theorem v_one : (1 : El q).v = 1 := rfl
theorem v_add (a b : El q) : (a + b).v = fadd q a.v b.v := rfl
theorem v_mul (a b : El q) : (a * b).v = fmul q a.v b.v := rfl
theorem v_neg (a : El q) : (-a).v = fneg q a.v := rfl
theorem v_eq_zero {a : El q} : a.v = 0 ↔ a = 0 := ⟨fun h => El.ext' h, fun h => by rw [h]; rfl⟩
theorem el_mul_comm (a b : El q) : a * b = b * a := El.ext' (by
  rw [v_mul, v_mul, fmul, fmul, a.ok, b.ok, Bool.or_comm, Int.add_comm])
theorem el_mul_zero (a : El q) : a * 0 = 0 := El.ext' (by
  rw [v_mul, fmul, a.ok, (0 : El q).ok, v_zero, show ((0 : Int) == 0) = true from rfl, Bool.or_true]; rfl)
theorem el_mul_one (a : El q) : a * 1 = a := El.ext' (by
  obtain ⟨p, m, g, mod, hn⟩ := hq.ok
  obtain ⟨hf, t, _⟩ := fld_fok hn
  have h2 := hf.q2
  rw [v_mul, v_one]
  by_cases h0 : a.v = 0
  · rw [fmul, a.ok, show fok q 1 = true from (1 : El q).ok, h0]; rfl
  · have ha : 1 ≤ a.v ∧ a.v < q := ⟨by have := a.lo; omega, a.hi⟩
    have h1 := (t.er 0 (by omega) (by omega)).2.2
    rw [t.e0] at h1
    have h3 := t.lr a.v ha.1 ha.2
    rw [fmul_ne t ha ⟨by omega, by omega⟩, h1, Int.add_zero, Int.emod_eq_of_lt h3.1 h3.2.1, h3.2.2])
theorem el_mul_assoc (a b c : El q) : a * b * c = a * (b * c) := by
  by_cases ha : a = 0
  · rw [ha, el_mul_comm 0 b, el_mul_zero, el_mul_comm 0 c, el_mul_zero, el_mul_comm 0, el_mul_zero]
  by_cases hb : b = 0
  · rw [hb, el_mul_zero, el_mul_comm 0 c, el_mul_zero, el_mul_zero]
  by_cases hc : c = 0
  · rw [hc, el_mul_zero, el_mul_zero, el_mul_zero]
  refine El.ext' ?_
  obtain ⟨p, m, g, mod, hn⟩ := hq.ok
  obtain ⟨hf, t, _⟩ := fld_fok hn
  have h2 := hf.q2
  have ne : ∀ x : El q, x ≠ 0 → 1 ≤ x.v ∧ x.v < q := fun x hx => ⟨by have := x.lo; have : x.v ≠ 0 := fun h => hx (v_eq_zero.1 h); omega, x.hi⟩
  have h1 := exp_ok t h2 (flog q a.v + flog q b.v)
  have h3 := exp_ok t h2 (flog q b.v + flog q c.v)
  rw [v_mul, v_mul, v_mul, v_mul, fmul_ne t (ne a ha) (ne b hb), fmul_ne t (ne b hb) (ne c hc), fmul_ne t ⟨h1.1, h1.2.1⟩ (ne c hc), fmul_ne t (ne a ha) ⟨h3.1, h3.2.1⟩, h1.2.2, h3.2.2, Int.emod_add_emod, Int.add_emod_emod, Int.add_assoc]
theorem el_mul_add (a b c : El q) : a * (b + c) = a * b + a * c := by
  obtain ⟨p, m, g, mod, hn⟩ := hq.ok
  obtain ⟨hf, t, hg1, hg2⟩ := fld_fok hn
  have h2 := hf.q2
  have hG : ∀ x y : El q, (⟨g, by omega, hg2⟩ : El q) * (x + y) = ⟨g, by omega, hg2⟩ * x + ⟨g, by omega, hg2⟩ * y := fun x y => El.ext' (by
    rw [v_mul, v_add, fadd_is hn, v_add, fadd_is hn]
    exact dist_gen hn ⟨x.lo, x.hi⟩ ⟨y.lo, y.hi⟩)
  have hP : ∀ (k : Nat) (x y : El q) (h0 : 0 ≤ fexp q ((k : Int) % (q - 1))) (h1 : fexp q ((k : Int) % (q - 1)) < q), (⟨_, h0, h1⟩ : El q) * (x + y) = ⟨_, h0, h1⟩ * x + ⟨_, h0, h1⟩ * y := by
    intro k
    induction k with
    | zero =>
      intro x y h0 h1
      have he : (⟨_, h0, h1⟩ : El q) = 1 := El.ext' (by show fexp q (((0 : Nat) : Int) % (q - 1)) = 1; rw [Int.natCast_zero, Int.zero_emod]; exact t.e0)
      rw [he, el_mul_comm, el_mul_one, el_mul_comm 1 x, el_mul_one, el_mul_comm 1 y, el_mul_one]
    | succ k ih =>
      intro x y h0 h1
      have h3 := exp_ok t h2 (k : Int)
      have he : (⟨_, h0, h1⟩ : El q) = ⟨fexp q ((k : Int) % (q - 1)), by omega, h3.2.1⟩ * ⟨g, by omega, hg2⟩ := El.ext' (by
        show fexp q (((k + 1 : Nat) : Int) % (q - 1)) = fmul q _ g
        rw [exp_gen t h2 ⟨hg1, hg2⟩, Int.natCast_add, Int.natCast_one])
      rw [he, el_mul_assoc, hG, ih, el_mul_assoc, el_mul_assoc]
  by_cases ha : a = 0
  · rw [ha, el_mul_comm, el_mul_zero, el_mul_comm 0 b, el_mul_zero, el_mul_comm 0 c, el_mul_zero]
    refine El.ext' ?_
    have := hf.p2
    rw [v_add, fadd_is hn]
    exact (addNz (by omega) m 0 (Int.le_refl _) (Int.pow_pos (by omega))).symm
  · have hav : a.v ≠ 0 := fun h => ha (v_eq_zero.1 h)
    have h3 := t.lr a.v (by have := a.lo; omega) a.hi
    have he : fexp q (((flog q a.v).toNat : Int) % (q - 1)) = a.v := by
      rw [show (((flog q a.v).toNat : Nat) : Int) = flog q a.v by omega, Int.emod_eq_of_lt h3.1 h3.2.1, h3.2.2]
    have h4 := hP (flog q a.v).toNat b c (by rw [he]; exact a.lo) (by rw [he]; exact a.hi)
    have h5 : (⟨fexp q (((flog q a.v).toNat : Int) % (q - 1)), by rw [he]; exact a.lo, by rw [he]; exact a.hi⟩ : El q) = a := El.ext' he
    rw [h5] at h4
    exact h4
instance elFK : FK (El q) where
  inv := fun a => if h : a.v = 0 then 0 else ⟨finv q a.v, (finv_in a h).1, (finv_in a h).2⟩
  deq := inferInstance
  add_assoc := fun a b c => El.ext' (by
    obtain ⟨p, m, g, mod, hn⟩ := hq.ok
    have hf := (fld_fok hn).1
    have := hf.p2
    rw [v_add (a + b) c, v_add a (b + c), fadd_is hn (a + b) c, fadd_is hn a (b + c), v_add a b, v_add b c, fadd_is hn a b, fadd_is hn b c, addNa (by omega)])
  add_comm := fun a b => El.ext' (by
    obtain ⟨p, m, g, mod, hn⟩ := hq.ok
    rw [v_add, v_add, fadd_is hn, fadd_is hn, addNc])
  add_zero := fun a => El.ext' (by
    obtain ⟨p, m, g, mod, hn⟩ := hq.ok
    have hf := (fld_fok hn).1
    have := hf.p2
    rw [v_add, fadd_is hn, v_zero]
    exact addNz (by omega) m a.v a.lo (by rw [hf.pm]; exact a.hi))
  add_neg := fun a => El.ext' (by
    obtain ⟨p, m, g, mod, hn⟩ := hq.ok
    have hf := (fld_fok hn).1
    have := hf.p2
    rw [v_add, fadd_is hn, v_neg, fneg_is hn]
    exact addNn (by omega) m a.v)
  mul_assoc := el_mul_assoc
  mul_comm := el_mul_comm
  mul_one := el_mul_one
  mul_add := el_mul_add
  mul_inv := fun a ha => El.ext' (by
    have h : a.v ≠ 0 := fun h => ha (v_eq_zero.1 h)
    obtain ⟨p, m, g, mod, hn⟩ := hq.ok
    obtain ⟨hf, t, _⟩ := fld_fok hn
    rw [dif_neg h]
    exact (fmul_inv t hf.q2 (a := a.v) ⟨by have := a.lo; omega, a.hi⟩).2)
  zero_ne := fun h => by
    have := congrArg El.v h
    rw [v_zero, v_one] at this
    omega
theorem v_inv {a : El q} (h : a ≠ 0) : (FK.inv a).v = finv q a.v := by
  show (if h : a.v = 0 then (0 : El q) else _).v = _
  rw [dif_neg fun e => h (v_eq_zero.1 e)]
theorem v_sub (a b : El q) : (a - b).v = fsub q a.v b.v := rfl

end

/-! ### lists -/
def vs {q : Int} (l : List (El q)) : List Int := l.map El.v
/-- the i-th (0 where there is none) -/
def ge {K : Type} [FK K] (l : List K) (i : Nat) : K := l.getD i 0
section
variable {q : Int}
theorem vs_len (l : List (El q)) : (vs l).length = l.length := by simp [vs]
theorem vs_nil : vs ([] : List (El q)) = [] := rfl
theorem vs_cons (a : El q) (l : List (El q)) : vs (a :: l) = a.v :: vs l := rfl
theorem vs_app (l l' : List (El q)) : vs (l ++ l') = vs l ++ vs l' := by simp [vs]
theorem vs_set (l : List (El q)) (i : Nat) (a : El q) : (vs l).set i a.v = vs (l.set i a) := by unfold vs; rw [List.map_set]
theorem vs_rep (n : Nat) (a : El q) : List.replicate n a.v = vs (List.replicate n a) := by unfold vs; rw [List.map_replicate]
theorem vs_inj : ∀ {l l' : List (El q)}, vs l = vs l' → l = l'
  | [], [], _ => rfl
  | [], _ :: _, h => by cases h
  | _ :: _, [], h => by cases h
  | a :: l, b :: l', h => by
    rw [vs_cons, vs_cons, List.cons.injEq] at h
    rw [El.ext' h.1, vs_inj h.2]
theorem vs_lift : ∀ {l : List Int}, (∀ z ∈ l, fok q z = true) → ∃ a : List (El q), l = vs a
  | [], _ => ⟨[], rfl⟩
  | z :: l, h => by
    obtain ⟨a, ha⟩ := vs_lift (l := l) fun z hz => h z (by simp [hz])
    have hz := fok_iff.1 (h z (by simp))
    exact ⟨⟨z, hz.1, hz.2⟩ :: a, by rw [vs_cons, ← ha]⟩
theorem gi_vs [IsFld q] (l : List (El q)) (i : Nat) : gi (vs l) i = (ge l i).v := by
  unfold gi ge vs
  rw [Int.toNat_natCast, List.getD_eq_getElem?_getD, List.getD_eq_getElem?_getD, List.getElem?_map]
  cases l[i]? <;> rfl
end
end Go.Proofs.Ytammndhoillliaa
namespace Go.Alg
set_option linter.unusedVariables false
set_option linter.unusedSimpArgs false
section
variable {K : Type} [FK K]

/-- u and c times w -/
def axp (c : K) (u w : Nat → K) : Nat → K := fun i => u i + c * w i
inductive Span (R : List (Nat → K)) : (Nat → K) → Prop
  | zero : Span R (fun _ => 0)
  | step {u r : Nat → K} (c : K) : Span R u → r ∈ R → Span R (axp c u r)
theorem Span.mem {R : List (Nat → K)} {r : Nat → K} (h : r ∈ R) : Span R r := by
  have := Span.step 1 Span.zero h
  have he : axp 1 (fun _ => 0) r = r := by funext i; show 0 + 1 * r i = r i; rw [one_mul, zero_add]
  rwa [he] at this
theorem Span.axp {R : List (Nat → K)} {u w : Nat → K} (hu : Span R u) (hw : Span R w) (c : K) : Span R (axp c u w) := by
  induction hw generalizing c with
  | zero =>
    have he : Alg.axp c u (fun _ => 0) = u := by funext i; show u i + c * 0 = u i; rw [mul_zero, FK.add_zero]
    rw [he]; exact hu
  | @step w r d _ hr ih =>
    have he : Alg.axp c u (Alg.axp d w r) = Alg.axp (c * d) (Alg.axp c u w) r := by
      funext i; show u i + c * (w i + d * r i) = u i + c * w i + c * d * r i
      rw [FK.mul_add, FK.mul_assoc, FK.add_assoc]
    rw [he]; exact .step _ (ih c) hr
theorem Span.smul {R : List (Nat → K)} {w : Nat → K} (hw : Span R w) (c : K) : Span R (fun i => c * w i) := by
  have := Span.zero.axp hw c
  have he : Alg.axp c (fun _ => 0) w = fun i => c * w i := by funext i; show 0 + c * w i = _; rw [zero_add]
  rwa [he] at this
theorem Span.add {R : List (Nat → K)} {u w : Nat → K} (hu : Span R u) (hw : Span R w) : Span R (fun i => u i + w i) := by
  have := hu.axp hw 1
  have he : Alg.axp 1 u w = fun i => u i + w i := by funext i; show u i + 1 * w i = _; rw [one_mul]
  rwa [he] at this
theorem Span.trans {R S : List (Nat → K)} (hRS : ∀ r ∈ R, Span S r) {w : Nat → K} (hw : Span R w) : Span S w := by
  induction hw with
  | zero => exact .zero
  | step c _ hr ih => exact ih.axp (hRS _ hr) c
theorem Span.mono {R S : List (Nat → K)} (h : ∀ r ∈ R, r ∈ S) {w : Nat → K} (hw : Span R w) : Span S w := hw.trans fun r hr => .mem (h r hr)
theorem Span.sum {α : Type} {R : List (Nat → K)} {f : α → Nat → K} {g : α → K} : ∀ {l : List α}, (∀ a ∈ l, Span R (f a)) → Span R (fun k => sumL l fun a => g a * f a k)
  | [], _ => .zero
  | a :: l, h => by
    have := ((h a (by simp)).smul (g a)).add (Span.sum (g := g) (l := l) fun b hb => h b (by simp [hb]))
    exact this
/-- what is linear and holds for each row holds for all that they span -/
theorem Span.lin {R : List (Nat → K)} {w : Nat → K} (hw : Span R w) {P : (Nat → K) → Prop} (h0 : P fun _ => 0) (hs : ∀ u r c, P u → P r → P (Alg.axp c u r)) (hr : ∀ r ∈ R, P r) : P w := by
  induction hw with
  | zero => exact h0
  | step c _ hm ih => exact hs _ _ c ih (hr _ hm)

/-- rows with their beginnings, in one form -/
structure Rref (n : Nat) (A : List (Nat × (Nat → K))) : Prop where
  up : A.Pairwise fun a b => a.1 < b.1
  one : ∀ a ∈ A, a.2 a.1 = 1
  before : ∀ a ∈ A, ∀ k, k < a.1 → a.2 k = 0
  lt : ∀ a ∈ A, a.1 < n
  out : ∀ a ∈ A, ∀ k, n ≤ k → a.2 k = 0
  zero : ∀ a ∈ A, ∀ b ∈ A, a.1 ≠ b.1 → a.2 b.1 = 0
def rowsOf (A : List (Nat × (Nat → K))) : List (Nat → K) := A.map Prod.snd
section
variable {n : Nat} {A B : List (Nat × (Nat → K))}
theorem Rref.nodup (h : Rref n A) : A.Pairwise fun a b => a.1 ≠ b.1 := h.up.imp fun h => by omega
theorem sum_pick {f : Nat × (Nat → K) → K} {c : Nat × (Nat → K)} : ∀ {A : List (Nat × (Nat → K))}, (A.Pairwise fun a b => a.1 ≠ b.1) → c ∈ A → (∀ a ∈ A, a.1 ≠ c.1 → f a = 0) → sumL A f = f c
  | [], _, h, _ => by cases h
  | a :: A, hn, h, h0 => by
    rw [List.pairwise_cons] at hn
    rw [sumL_cons]
    rcases List.mem_cons.1 h with rfl | h
    · rw [sumL_zero fun b hb => h0 b (by simp [hb]) fun e => hn.1 b hb e.symm, FK.add_zero]
    · rw [h0 a (by simp) (hn.1 c h), zero_add]
      exact sum_pick hn.2 h fun b hb => h0 b (by simp [hb])
/-- what is spanned is told by its numbers at the beginnings -/
theorem Rref.told (h : Rref n A) {w : Nat → K} (hw : Span (rowsOf A) w) : ∀ k, w k = sumL A fun a => w a.1 * a.2 k := by
  refine hw.lin (P := fun w => ∀ k, w k = sumL A fun a => w a.1 * a.2 k) (fun k => ?_) (fun u r c hu hr k => ?_) (fun r hr k => ?_)
  · exact (sumL_zero fun a _ => by rw [zero_mul]).symm
  · show u k + c * r k = sumL A fun a => (u a.1 + c * r a.1) * a.2 k
    rw [hu k, hr k, ← sumL_mul, ← sumL_add]
    refine sumL_congr fun a _ => ?_
    rw [add_mul, FK.mul_assoc]
  · obtain ⟨b, hb, rfl⟩ := List.mem_map.1 hr
    rw [sum_pick (c := b) h.nodup hb fun a ha hne => by rw [h.zero b hb a ha fun e => hne e.symm, zero_mul], h.one b hb, one_mul]
theorem Rref.null (h : Rref n A) {w : Nat → K} (hw : Span (rowsOf A) w) (h0 : ∀ a ∈ A, w a.1 = 0) : w = fun _ => 0 := by
  funext k
  rw [h.told hw k]
  exact sumL_zero fun a ha => by rw [h0 a ha, zero_mul]
/-- where a word begins that is spanned, a row does -/
theorem Rref.lead (h : Rref n A) {w : Nat → K} (hw : Span (rowsOf A) w) {p : Nat} (hp : w p ≠ 0) (hb : ∀ k, k < p → w k = 0) : ∃ a ∈ A, a.1 = p := by
  refine Classical.byContradiction fun hno => hp ?_
  rw [h.told hw p]
  refine sumL_zero fun a ha => ?_
  by_cases h1 : a.1 < p
  · rw [hb _ h1, zero_mul]
  · have h2 : a.1 ≠ p := fun e => hno ⟨a, ha, e⟩
    rw [h.before a ha p (by omega), mul_zero]
theorem up_same : ∀ {l l' : List Nat}, l.Pairwise (· < ·) → l'.Pairwise (· < ·) → (∀ x, x ∈ l ↔ x ∈ l') → l = l'
  | [], [], _, _, _ => rfl
  | [], b :: l', _, _, h => by have := (h b).2 (by simp); cases this
  | a :: l, [], _, _, h => by have := (h a).1 (by simp); cases this
  | a :: l, b :: l', h1, h2, h => by
    rw [List.pairwise_cons] at h1 h2
    have hab : a = b := by
      have ha := (h a).1 (by simp)
      have hb := (h b).2 (by simp)
      rcases List.mem_cons.1 ha with e | ha
      · exact e
      · rcases List.mem_cons.1 hb with e | hb
        · exact e.symm
        · have := h2.1 a ha; have := h1.1 b hb; omega
    subst hab
    congr 1
    refine up_same h1.2 h2.2 fun x => ⟨fun hx => ?_, fun hx => ?_⟩
    · rcases List.mem_cons.1 ((h x).1 (by simp [hx])) with rfl | h
      · exact absurd (h1.1 x hx) (Nat.lt_irrefl _)
      · exact h
    · rcases List.mem_cons.1 ((h x).2 (by simp [hx])) with rfl | h
      · exact absurd (h2.1 x hx) (Nat.lt_irrefl _)
      · exact h
/-- there is but one form of what is spanned -/
theorem Rref.uniq (h : Rref n A) (g : Rref n B) (hs : ∀ w, Span (rowsOf A) w ↔ Span (rowsOf B) w) : A = B := by
  have hp : ∀ {A B : List (Nat × (Nat → K))}, Rref n A → Rref n B → (∀ w, Span (rowsOf A) w → Span (rowsOf B) w) → ∀ a ∈ A, ∃ b ∈ B, b.1 = a.1 := by
    intro A B h g hs a ha
    exact g.lead (hs _ (.mem (List.mem_map.2 ⟨a, ha, rfl⟩))) (by rw [h.one a ha]; exact one_ne) (h.before a ha)
  have hsame : A.map Prod.fst = B.map Prod.fst := by
    refine up_same (List.pairwise_map.2 h.up) (List.pairwise_map.2 g.up) fun x => ⟨fun hx => ?_, fun hx => ?_⟩
    · obtain ⟨a, ha, rfl⟩ := List.mem_map.1 hx
      obtain ⟨b, hb, e⟩ := hp h g (fun w => (hs w).1) a ha
      exact List.mem_map.2 ⟨b, hb, e⟩
    · obtain ⟨a, ha, rfl⟩ := List.mem_map.1 hx
      obtain ⟨b, hb, e⟩ := hp g h (fun w => (hs w).2) a ha
      exact List.mem_map.2 ⟨b, hb, e⟩
  have hl : A.length = B.length := by have := congrArg List.length hsame; simpa using this
  refine List.ext_getElem hl fun i h1 h2 => ?_
  have e1 : A[i].1 = B[i].1 := by
    have := congrArg (fun l => l[i]?) hsame
    simpa [List.getElem?_map, List.getElem?_eq_getElem h1, List.getElem?_eq_getElem h2] using this
  have e2 : A[i].2 = B[i].2 := by
    have hA := List.getElem_mem h1
    have hB := List.getElem_mem h2
    have hw : Span (rowsOf B) A[i].2 := (hs _).1 (.mem (List.mem_map.2 ⟨_, hA, rfl⟩))
    funext k
    rw [g.told hw k, sum_pick (c := B[i]) g.nodup hB fun b hb hne => ?_, ← e1, h.one _ hA, one_mul]
    -- other beginnings are the first's too
    obtain ⟨a, ha, e⟩ := hp g h (fun w => (hs w).2) b hb
    rw [← e, h.zero _ hA a ha (by rw [e, e1]; exact fun x => hne x.symm), zero_mul]
  exact Prod.ext e1 e2

theorem up_len {n : Nat} : ∀ (l : List Nat) (k : Nat), l.Pairwise (· < ·) → (∀ x ∈ l, k ≤ x ∧ x < n) → l.length ≤ n - k
  | [], _, _, _ => Nat.zero_le _
  | a :: l, k, hp, h => by
    rw [List.pairwise_cons] at hp
    have h1 := h a (by simp)
    have := up_len l (a + 1) hp.2 fun x hx => ⟨hp.1 x hx, (h x (by simp [hx])).2⟩
    rw [List.length_cons]
    omega
theorem Rref.len (h : Rref n A) : A.length ≤ n := by
  have := up_len (n := n) (A.map Prod.fst) 0 (List.pairwise_map.2 h.up) fun x hx => by
    obtain ⟨a, ha, rfl⟩ := List.mem_map.1 hx
    exact ⟨Nat.zero_le _, h.lt a ha⟩
  rwa [List.length_map, Nat.sub_zero] at this

/-! ### words as lists -/
/-- a list as a word -/
def wf (l : List K) : Nat → K := fun i => l.getD i 0
theorem wf_out {l : List K} {k : Nat} (h : l.length ≤ k) : wf l k = 0 := by unfold wf; rw [List.getD_eq_getElem?_getD, List.getElem?_eq_none h]; rfl
theorem wf_at {l : List K} {k : Nat} (h : k < l.length) : wf l k = l[k] := by unfold wf; rw [List.getD_eq_getElem?_getD, List.getElem?_eq_getElem h]; rfl
theorem wf_inj {l l' : List K} (hl : l.length = l'.length) (h : wf l = wf l') : l = l' := by
  refine List.ext_getElem hl fun i h1 h2 => ?_
  rw [← wf_at h1, ← wf_at h2, h]
/-- a row less c times another -/
def lessL (c : K) (r o : List K) : List K := List.zipWith (fun x y => x - c * y) r o
theorem lessL_len {c : K} {r o : List K} (h : r.length = o.length) : (lessL c r o).length = r.length := by simp [lessL, h]
theorem wf_less {c : K} {r o : List K} (h : r.length = o.length) : wf (lessL c r o) = axp (-c) (wf r) (wf o) := by
  funext k
  show _ = wf r k + -c * wf o k
  by_cases hk : k < r.length
  · have hk2 : k < (lessL c r o).length := by rw [lessL_len h]; exact hk
    rw [wf_at hk2, wf_at hk, wf_at (h ▸ hk), neg_mul, ← sub_eq]
    simp only [lessL, List.getElem_zipWith]
  · rw [wf_out (by rw [lessL_len h]; omega), wf_out (by omega), wf_out (by omega), mul_zero, FK.add_zero]
def scaleL (c : K) (r : List K) : List K := r.map fun x => x * c
theorem wf_scale (c : K) (r : List K) : wf (scaleL c r) = fun k => c * wf r k := by
  funext k
  unfold wf scaleL
  rw [List.getD_eq_getElem?_getD, List.getD_eq_getElem?_getD, List.getElem?_map]
  cases r[k]? with
  | none => exact (mul_zero c).symm
  | some x => exact FK.mul_comm x c
end
end
end Go.Alg
namespace Go.Alg
set_option linter.unusedVariables false
set_option linter.unusedSimpArgs false
section
variable {α : Type}
def augL (M : List (List α)) (b : List α) : List (List α) := List.zipWith (fun m x => m ++ [x]) M b
theorem aug_len {n : Nat} {M : List (List α)} {b : List α} (hM : ∀ m ∈ M, m.length = n) : ∀ r ∈ augL M b, r.length = n + 1 := by
  intro r hr
  unfold augL at hr
  obtain ⟨i, hi, rfl⟩ := List.getElem_of_mem hr
  simp only [List.getElem_zipWith, List.length_append, List.length_singleton]
  rw [hM _ (List.getElem_mem _)]
def insR (p : Nat) (r : α) : List (Nat × α) → List (Nat × α)
  | [] => [(p, r)]
  | a :: A => if a.1 < p then a :: insR p r A else (p, r) :: a :: A
theorem mem_ins {p : Nat} {r : α} {x : Nat × α} : ∀ {A : List (Nat × α)}, x ∈ insR p r A ↔ x = (p, r) ∨ x ∈ A
  | [] => by simp [insR]
  | a :: A => by
    rw [insR]
    split
    · rw [List.mem_cons, mem_ins (A := A), List.mem_cons]
      constructor
      · rintro (h | h | h)
        · exact .inr (.inl h)
        · exact .inl h
        · exact .inr (.inr h)
      · rintro (h | h | h)
        · exact .inr (.inl h)
        · exact .inl h
        · exact .inr (.inr h)
    · rw [List.mem_cons]
theorem ins_up {p : Nat} {r : α} : ∀ {A : List (Nat × α)}, A.Pairwise (fun a b => a.1 < b.1) → (∀ a ∈ A, a.1 ≠ p) → (insR p r A).Pairwise fun a b => a.1 < b.1
  | [], _, _ => by simp [insR]
  | a :: A, h, hne => by
    rw [List.pairwise_cons] at h
    have ha := hne a (by simp)
    rw [insR]
    split
    · rename_i hlt
      rw [List.pairwise_cons]
      refine ⟨fun x hx => ?_, ins_up h.2 fun b hb => hne b (by simp [hb])⟩
      rcases mem_ins.1 hx with rfl | hx
      · exact hlt
      · exact h.1 x hx
    · rename_i hlt
      rw [List.pairwise_cons]
      refine ⟨fun x hx => ?_, List.pairwise_cons.2 h⟩
      rcases List.mem_cons.1 hx with rfl | hx
      · show p < x.1; omega
      · have := h.1 x hx; show p < x.1; omega
end
section
variable {K : Type} [FK K]

def subRows : List (Nat × List K) → List K → List K
  | [], r => r
  | a :: A, r => subRows A (lessL (wf r a.1) r a.2)
def leadL : List K → Nat
  | [] => 0
  | a :: l => if a = 0 then leadL l + 1 else 0
def addRow (A : List (Nat × List K)) (m : List K) : List (Nat × List K) :=
  if leadL (subRows A m) = (subRows A m).length then A else
    insR (leadL (subRows A m)) (scaleL (FK.inv (wf (subRows A m) (leadL (subRows A m)))) (subRows A m))
      (A.map fun a => (a.1, lessL (wf a.2 (leadL (subRows A m))) a.2 (scaleL (FK.inv (wf (subRows A m) (leadL (subRows A m)))) (subRows A m))))
def redR (M : List (List K)) : List (Nat × List K) := M.foldl addRow []
def toF (A : List (Nat × List K)) : List (Nat × (Nat → K)) := A.map fun a => (a.1, wf a.2)
def spanL (M : List (List K)) (w : Nat → K) : Prop := Span (M.map wf) w
theorem leadL_le : ∀ l : List K, leadL l ≤ l.length
  | [] => Nat.le_refl _
  | a :: l => by
    have := leadL_le l
    rw [leadL, List.length_cons]
    split <;> omega
theorem leadL_before : ∀ (l : List K) (k : Nat), k < leadL l → wf l k = 0
  | [], k, h => by cases h
  | a :: l, k, h => by
    rw [leadL] at h
    split at h
    · rename_i h0
      cases k with
      | zero => rw [wf_at (by simp)]; exact h0
      | succ k => exact leadL_before l k (by omega)
    · cases h
theorem leadL_ne : ∀ {l : List K}, leadL l < l.length → wf l (leadL l) ≠ 0
  | [], h => by cases h
  | a :: l, h => by
    rw [leadL] at h ⊢
    split at h
    · rename_i h0
      rw [if_pos h0]
      exact leadL_ne (l := l) (by simpa using h)
    · rename_i h0
      rw [if_neg h0]
      exact h0
theorem leadL_full {l : List K} (h : leadL l = l.length) : wf l = fun _ => 0 := by
  funext k
  by_cases hk : k < l.length
  · exact leadL_before l k (by omega)
  · exact wf_out (by omega)
section
variable {n : Nat} {A : List (Nat × List K)}
theorem sub_len (hl : ∀ a ∈ A, a.2.length = n) : ∀ (B : List (Nat × List K)) (r : List K), (∀ b ∈ B, b ∈ A) → r.length = n → (subRows B r).length = n
  | [], r, _, h => h
  | b :: B, r, hB, h => sub_len hl B _ (fun b hb => hB b (by simp [hb])) (by rw [lessL_len (by rw [h, hl b (hB b (by simp))]), h])
theorem less_at {c : K} {r o : List K} (h : r.length = o.length) (k : Nat) : wf (lessL c r o) k = wf r k - c * wf o k := by
  rw [wf_less h]
  show wf r k + -c * wf o k = _
  rw [neg_mul]; rfl
theorem sub_zero_at (hr : Rref n (toF A)) (hl : ∀ a ∈ A, a.2.length = n) : ∀ (B : List (Nat × List K)) (r : List K), (∀ b ∈ B, b ∈ A) → r.length = n → ∀ a ∈ A, (a ∈ B ∨ wf r a.1 = 0) → wf (subRows B r) a.1 = 0
  | [], r, _, _, a, ha, h => by
    rcases h with h | h
    · cases h
    · exact h
  | b :: B, r, hB, hrl, a, ha, h => by
    have hbA := hB b (by simp)
    have hlen : r.length = b.2.length := by rw [hrl, hl b hbA]
    refine sub_zero_at hr hl B _ (fun b hb => hB b (by simp [hb])) (by rw [lessL_len hlen, hrl]) a ha ?_
    rw [less_at hlen]
    have hone : wf b.2 b.1 = 1 := hr.one (b.1, wf b.2) (List.mem_map.2 ⟨b, hbA, rfl⟩)
    by_cases he : a.1 = b.1
    · exact .inr (by rw [he, hone, FK.mul_one, sub_self])
    · have hz : wf b.2 a.1 = 0 := hr.zero (b.1, wf b.2) (List.mem_map.2 ⟨b, hbA, rfl⟩) (a.1, wf a.2) (List.mem_map.2 ⟨a, ha, rfl⟩) fun e => he e.symm
      rcases h with h | h
      · rcases List.mem_cons.1 h with h | h
        · exact absurd (by rw [h]) he
        · exact .inl h
      · exact .inr (by rw [hz, mul_zero, sub_zero, h])
theorem sub_span (hl : ∀ a ∈ A, a.2.length = n) : ∀ (B : List (Nat × List K)) (r : List K), (∀ b ∈ B, b ∈ A) → r.length = n → Span (wf (subRows B r) :: rowsOf (toF A)) (wf r) ∧ Span (wf r :: rowsOf (toF A)) (wf (subRows B r))
  | [], r, _, _ => ⟨.mem (by simp [subRows]), .mem (by simp [subRows])⟩
  | b :: B, r, hB, hrl => by
    have hbA := hB b (by simp)
    have hlen : r.length = b.2.length := by rw [hrl, hl b hbA]
    obtain ⟨k1, k2⟩ := sub_span hl B (lessL (wf r b.1) r b.2) (fun b hb => hB b (by simp [hb])) (by rw [lessL_len hlen, hrl])
    have hmb : wf b.2 ∈ rowsOf (toF A) := by
      unfold rowsOf toF; rw [List.map_map]; exact List.mem_map.2 ⟨b, hbA, rfl⟩
    refine ⟨?_, ?_⟩
    · have h1 := k1.axp (.mem (List.mem_cons_of_mem _ hmb)) (wf r b.1)
      have he : axp (wf r b.1) (wf (lessL (wf r b.1) r b.2)) (wf b.2) = wf r := by
        funext k
        show wf (lessL (wf r b.1) r b.2) k + wf r b.1 * wf b.2 k = _
        rw [less_at hlen, sub_add]
      rw [he] at h1
      exact h1
    · refine k2.trans fun x hx => ?_
      rcases List.mem_cons.1 hx with rfl | hx
      · rw [wf_less hlen]
        exact (Span.mem (by simp)).axp (.mem (List.mem_cons_of_mem _ hmb)) _
      · exact .mem (List.mem_cons_of_mem _ hx)
theorem mem_toF {x : Nat × (Nat → K)} : x ∈ toF A ↔ ∃ a ∈ A, x = (a.1, wf a.2) := by
  unfold toF
  rw [List.mem_map]
  exact ⟨fun ⟨a, h1, h2⟩ => ⟨a, h1, h2.symm⟩, fun ⟨a, h1, h2⟩ => ⟨a, h1, h2.symm⟩⟩
theorem mem_rows {x : Nat → K} : x ∈ rowsOf (toF A) ↔ ∃ a ∈ A, x = wf a.2 := by
  unfold rowsOf toF
  rw [List.map_map, List.mem_map]
  exact ⟨fun ⟨a, h1, h2⟩ => ⟨a, h1, h2.symm⟩, fun ⟨a, h1, h2⟩ => ⟨a, h1, h2.symm⟩⟩
theorem add_ok (hr : Rref n (toF A)) (hl : ∀ a ∈ A, a.2.length = n) {m : List K} (hm : m.length = n) :
    Rref n (toF (addRow A m)) ∧ (∀ a ∈ addRow A m, a.2.length = n) ∧ (∀ a ∈ A, Span (rowsOf (toF (addRow A m))) (wf a.2)) ∧ Span (rowsOf (toF (addRow A m))) (wf m) ∧ ∀ a ∈ addRow A m, Span (wf m :: rowsOf (toF A)) (wf a.2) := by
  have hrl := sub_len hl A m (fun _ h => h) hm
  have hz := sub_zero_at hr hl A m (fun _ h => h) hm
  obtain ⟨s1, s2⟩ := sub_span hl A m (fun _ h => h) hm
  unfold addRow
  generalize subRows A m = r at hrl hz s1 s2 ⊢
  by_cases hfull : leadL r = r.length
  · rw [if_pos hfull]
    refine ⟨hr, hl, fun a ha => .mem (mem_rows.2 ⟨a, ha, rfl⟩), s1.trans fun x hx => ?_, fun a ha => .mem (List.mem_cons_of_mem _ (mem_rows.2 ⟨a, ha, rfl⟩))⟩
    rcases List.mem_cons.1 hx with rfl | hx
    · rw [leadL_full hfull]; exact .zero
    · exact .mem hx
  · rw [if_neg hfull]
    have hlt : leadL r < r.length := by have := leadL_le r; omega
    have hne := leadL_ne hlt
    have hbef := leadL_before r
    generalize leadL r = p at hlt hne hbef ⊢
    have hsl : (scaleL (FK.inv (wf r p)) r).length = n := by unfold scaleL; rw [List.length_map, hrl]
    have hsw := wf_scale (FK.inv (wf r p)) r
    generalize scaleL (FK.inv (wf r p)) r = s at hsl hsw ⊢
    have hsk : ∀ k, wf s k = FK.inv (wf r p) * wf r k := fun k => congrFun hsw k
    have hsp : wf s p = 1 := by rw [hsk, inv_mul hne]
    have hsz : ∀ k, wf r k = 0 → wf s k = 0 := fun k h => by rw [hsk, h, mul_zero]
    have hsA : ∀ a ∈ A, wf s a.1 = 0 := fun a ha => hsz _ (hz a ha (.inl ha))
    have hpA : ∀ a ∈ A, a.1 ≠ p := fun a ha e => by have := hsA a ha; rw [e, hsp] at this; exact one_ne this
    have hA' : ∀ a ∈ A, ∀ k, wf (lessL (wf a.2 p) a.2 s) k = wf a.2 k - wf a.2 p * wf s k := fun a ha k => less_at (by rw [hl a ha, hsl]) k
    have hone : ∀ a ∈ A, wf a.2 a.1 = 1 := fun a ha => hr.one (a.1, wf a.2) (mem_toF.2 ⟨a, ha, rfl⟩)
    have hbefA : ∀ a ∈ A, ∀ k, k < a.1 → wf a.2 k = 0 := fun a ha k hk => hr.before (a.1, wf a.2) (mem_toF.2 ⟨a, ha, rfl⟩) k hk
    have hzA : ∀ a ∈ A, ∀ b ∈ A, a.1 ≠ b.1 → wf a.2 b.1 = 0 := fun a ha b hb h => hr.zero (a.1, wf a.2) (mem_toF.2 ⟨a, ha, rfl⟩) (b.1, wf b.2) (mem_toF.2 ⟨b, hb, rfl⟩) h
    have hltA : ∀ a ∈ A, a.1 < n := fun a ha => hr.lt (a.1, wf a.2) (mem_toF.2 ⟨a, ha, rfl⟩)
    have hmem : ∀ {x : Nat × List K}, x ∈ insR p s (A.map fun a => (a.1, lessL (wf a.2 p) a.2 s)) → x = (p, s) ∨ ∃ a ∈ A, x = (a.1, lessL (wf a.2 p) a.2 s) := fun {x} hx => by
      rcases mem_ins.1 hx with h | h
      · exact .inl h
      · obtain ⟨a, ha, e⟩ := List.mem_map.1 h
        exact .inr ⟨a, ha, e.symm⟩
    have hlen : ∀ a ∈ insR p s (A.map fun a => (a.1, lessL (wf a.2 p) a.2 s)), a.2.length = n := fun x hx => by
      rcases hmem hx with rfl | ⟨a, ha, rfl⟩
      · exact hsl
      · show (lessL _ _ _).length = n
        rw [lessL_len (by rw [hl a ha, hsl]), hl a ha]
    have hs_in : wf s ∈ rowsOf (toF (insR p s (A.map fun a => (a.1, lessL (wf a.2 p) a.2 s)))) := mem_rows.2 ⟨(p, s), mem_ins.2 (.inl rfl), rfl⟩
    have hs_old : Span (wf m :: rowsOf (toF A)) (wf s) := by rw [hsw]; exact s2.smul _
    refine ⟨⟨?_, ?_, ?_, ?_, ?_, ?_⟩, hlen, fun a ha => ?_, ?_, fun x hx => ?_⟩
    · unfold toF
      rw [List.pairwise_map]
      refine ins_up ?_ fun x hx => ?_
      · rw [List.pairwise_map]
        have := hr.up
        unfold toF at this
        rw [List.pairwise_map] at this
        exact this
      · obtain ⟨a, ha, rfl⟩ := List.mem_map.1 hx
        exact hpA a ha
    · intro x hx
      obtain ⟨y, hy, rfl⟩ := mem_toF.1 hx
      rcases hmem hy with rfl | ⟨a, ha, rfl⟩
      · exact hsp
      · show wf (lessL _ _ _) a.1 = 1
        rw [hA' a ha, hone a ha, hsA a ha, mul_zero, sub_zero]
    · intro x hx k hk
      obtain ⟨y, hy, rfl⟩ := mem_toF.1 hx
      rcases hmem hy with rfl | ⟨a, ha, rfl⟩
      · exact hsz _ (hbef k hk)
      · show wf (lessL _ _ _) k = 0
        have hk : k < a.1 := hk
        rw [hA' a ha, hbefA a ha k hk]
        by_cases h1 : p < a.1
        · rw [hbefA a ha p h1, zero_mul, sub_self]
        · have : k < p := by omega
          rw [hsz _ (hbef k this), mul_zero, sub_self]
    · intro x hx
      obtain ⟨y, hy, rfl⟩ := mem_toF.1 hx
      rcases hmem hy with rfl | ⟨a, ha, rfl⟩
      · show p < n; omega
      · exact hltA a ha
    · intro x hx k hk
      obtain ⟨y, hy, rfl⟩ := mem_toF.1 hx
      exact wf_out (by rw [hlen y hy]; exact hk)
    · intro x hx z hz' hne'
      obtain ⟨y, hy, rfl⟩ := mem_toF.1 hx
      obtain ⟨y', hy', rfl⟩ := mem_toF.1 hz'
      rcases hmem hy with rfl | ⟨a, ha, rfl⟩
      · rcases hmem hy' with rfl | ⟨b, hb, rfl⟩
        · exact absurd rfl hne'
        · exact hsA b hb
      · rcases hmem hy' with rfl | ⟨b, hb, rfl⟩
        · show wf (lessL _ _ _) p = 0
          rw [hA' a ha, hsp, FK.mul_one, sub_self]
        · show wf (lessL _ _ _) b.1 = 0
          rw [hA' a ha, hzA a ha b hb hne', hsA b hb, mul_zero, sub_self]
    · have h1 : Span (rowsOf (toF (insR p s (A.map fun a => (a.1, lessL (wf a.2 p) a.2 s))))) (wf (lessL (wf a.2 p) a.2 s)) := .mem (mem_rows.2 ⟨(a.1, lessL (wf a.2 p) a.2 s), mem_ins.2 (.inr (List.mem_map.2 ⟨a, ha, rfl⟩)), rfl⟩)
      have h2 := h1.axp (.mem hs_in) (wf a.2 p)
      have he : axp (wf a.2 p) (wf (lessL (wf a.2 p) a.2 s)) (wf s) = wf a.2 := by
        funext k
        show wf (lessL (wf a.2 p) a.2 s) k + wf a.2 p * wf s k = _
        rw [hA' a ha, sub_add]
      rw [he] at h2
      exact h2
    · -- what is left of m is a multiple of the new row; the others are spanned
      have hrs : ∀ {R : List (Nat → K)}, Span R (wf s) → Span R (wf r) := fun {R} h => by
        have := h.smul (wf r p)
        have he : (fun i => wf r p * wf s i) = wf r := by
          funext i
          rw [hsk, ← FK.mul_assoc, FK.mul_inv _ hne, one_mul]
        rwa [he] at this
      refine s1.trans fun x hx => ?_
      rcases List.mem_cons.1 hx with rfl | hx
      · exact hrs (.mem hs_in)
      · obtain ⟨a, ha, rfl⟩ := mem_rows.1 hx
        have h1 : Span (rowsOf (toF (insR p s (A.map fun a => (a.1, lessL (wf a.2 p) a.2 s))))) (wf (lessL (wf a.2 p) a.2 s)) := .mem (mem_rows.2 ⟨(a.1, lessL (wf a.2 p) a.2 s), mem_ins.2 (.inr (List.mem_map.2 ⟨a, ha, rfl⟩)), rfl⟩)
        have h2 := h1.axp (.mem hs_in) (wf a.2 p)
        have he : axp (wf a.2 p) (wf (lessL (wf a.2 p) a.2 s)) (wf s) = wf a.2 := by
          funext k
          show wf (lessL (wf a.2 p) a.2 s) k + wf a.2 p * wf s k = _
          rw [hA' a ha, sub_add]
        rw [he] at h2
        exact h2
    · rcases hmem hx with rfl | ⟨a, ha, rfl⟩
      · exact hs_old
      · show Span _ (wf (lessL _ _ _))
        rw [wf_less (by rw [hl a ha, hsl])]
        exact (Span.mem (List.mem_cons_of_mem _ (mem_rows.2 ⟨a, ha, rfl⟩))).axp hs_old _
end
theorem Rref.nil (n : Nat) : Rref n (toF ([] : List (Nat × List K))) := ⟨List.Pairwise.nil, fun a h => (by cases h), fun a h => (by cases h), fun a h => (by cases h), fun a h => (by cases h), fun a h => (by cases h)⟩
theorem red_go {n : Nat} : ∀ (M : List (List K)) (A : List (Nat × List K)), (∀ m ∈ M, m.length = n) → Rref n (toF A) → (∀ a ∈ A, a.2.length = n) →
    Rref n (toF (M.foldl addRow A)) ∧ (∀ a ∈ M.foldl addRow A, a.2.length = n) ∧ (∀ a ∈ A, Span (rowsOf (toF (M.foldl addRow A))) (wf a.2)) ∧ (∀ m ∈ M, Span (rowsOf (toF (M.foldl addRow A))) (wf m)) ∧ ∀ a ∈ M.foldl addRow A, Span (M.map wf ++ rowsOf (toF A)) (wf a.2)
  | [], A, _, hr, hl => ⟨hr, hl, fun a ha => .mem (mem_rows.2 ⟨a, ha, rfl⟩), fun m h => (by cases h), fun a ha => .mem (by simp only [List.map_nil, List.nil_append]; exact mem_rows.2 ⟨a, ha, rfl⟩)⟩
  | m :: M, A, hM, hr, hl => by
    obtain ⟨a1, a2, a3, a4, a5⟩ := add_ok hr hl (hM m (by simp))
    obtain ⟨b1, b2, b3, b4, b5⟩ := red_go M (addRow A m) (fun x hx => hM x (by simp [hx])) a1 a2
    have hup : ∀ {w : Nat → K}, Span (rowsOf (toF (addRow A m))) w → Span (rowsOf (toF (M.foldl addRow (addRow A m)))) w := fun h => h.trans fun x hx => by
      obtain ⟨a, ha, rfl⟩ := mem_rows.1 hx
      exact b3 a ha
    refine ⟨b1, b2, fun a ha => hup (a3 a ha), fun x hx => ?_, fun a ha => (b5 a ha).trans fun x hx => ?_⟩
    · rcases List.mem_cons.1 hx with rfl | hx
      · exact hup a4
      · exact b4 x hx
    · rcases List.mem_append.1 hx with hx | hx
      · exact .mem (by simp [hx])
      · obtain ⟨y, hy, rfl⟩ := mem_rows.1 hx
        refine (a5 y hy).mono fun z hz => ?_
        rcases List.mem_cons.1 hz with rfl | hz
        · simp
        · simp [hz]
/-- the one form of what rows span -/
theorem red_ok {n : Nat} {M : List (List K)} (hM : ∀ m ∈ M, m.length = n) : Rref n (toF (redR M)) ∧ (∀ a ∈ redR M, a.2.length = n) ∧ ∀ w, Span (rowsOf (toF (redR M))) w ↔ Span (M.map wf) w := by
  obtain ⟨b1, b2, b3, b4, b5⟩ := red_go M [] hM (.nil n) (fun a h => by cases h)
  refine ⟨b1, b2, fun w => ⟨fun h => h.trans fun x hx => ?_, fun h => h.trans fun x hx => ?_⟩⟩
  · obtain ⟨a, ha, rfl⟩ := mem_rows.1 hx
    have := b5 a ha
    rwa [show rowsOf (toF ([] : List (Nat × List K))) = [] from rfl, List.append_nil] at this
  · obtain ⟨m, hm, rfl⟩ := List.mem_map.1 hx
    exact b4 m hm

/-! ### equations -/
def setP (n : Nat) : List (Nat × List K) → List K → List K
  | [], x => x
  | a :: A, x => setP n A (x.set a.1 (wf a.2 n))
def solR (n : Nat) (M : List (List K)) (b : List K) : Option (List K) :=
  if (redR (augL M b)).any (fun a => a.1 == n) = true then none else some (setP n (redR (augL M b)) (List.replicate n 0))
theorem setP_len (n : Nat) : ∀ (A : List (Nat × List K)) (x : List K), (setP n A x).length = x.length
  | [], x => rfl
  | a :: A, x => by rw [setP, setP_len n A, List.length_set]
theorem wf_set {x : List K} {i : Nat} {v : K} (hi : i < x.length) (k : Nat) : wf (x.set i v) k = if k = i then v else wf x k := by
  unfold wf
  rw [List.getD_eq_getElem?_getD, List.getD_eq_getElem?_getD, List.getElem?_set]
  by_cases h : i = k
  · subst h; rw [if_pos rfl, if_pos hi, if_pos rfl]; rfl
  · rw [if_neg h, if_neg fun e => h e.symm]
/-- at a beginning there is the row's last number, elsewhere 0 -/
theorem setP_at {n : Nat} : ∀ (A : List (Nat × List K)) (x : List K), A.Pairwise (fun a b => a.1 ≠ b.1) → (∀ a ∈ A, a.1 < x.length) → ∀ k, wf (setP n A x) k = if (∃ a ∈ A, a.1 = k) then sumL A (fun a => if a.1 = k then wf a.2 n else 0) else wf x k
  | [], x, _, _, k => by rw [if_neg (by rintro ⟨a, h, _⟩; cases h)]; rfl
  | a :: A, x, hn, hl, k => by
    rw [List.pairwise_cons] at hn
    rw [setP, setP_at A _ hn.2 (fun b hb => by rw [List.length_set]; exact hl b (by simp [hb])) k, wf_set (hl a (by simp)), sumL_cons]
    by_cases he : a.1 = k
    · have hno : ¬ ∃ b ∈ A, b.1 = k := fun ⟨b, hb, e⟩ => hn.1 b hb (by rw [he, e])
      rw [if_neg hno, if_pos he.symm, if_pos ⟨a, by simp, he⟩, if_pos he, sumL_zero fun b hb => if_neg fun e => hno ⟨b, hb, e⟩, FK.add_zero]
    · have h1 : (if k = a.1 then wf a.2 n else wf x k) = wf x k := if_neg fun e => he e.symm
      have h2 : (if a.1 = k then wf a.2 n else 0) = 0 := if_neg he
      rw [h1, h2, zero_add]
      by_cases hex : ∃ b ∈ A, b.1 = k
      · obtain ⟨b, hb, e⟩ := hex
        rw [if_pos ⟨b, hb, e⟩, if_pos ⟨b, by simp [hb], e⟩]
      · rw [if_neg hex, if_neg]
        rintro ⟨b, hb, e⟩
        rcases List.mem_cons.1 hb with rfl | hb
        · exact he e
        · exact hex ⟨b, hb, e⟩
/-- what is found solves all equations -/
theorem sol_ok {n : Nat} {M : List (List K)} {b x : List K} (hM : ∀ m ∈ M, m.length = n) (hb : b.length = M.length) (h : solR n M b = some x) :
    x.length = n ∧ ∀ i, i < M.length → sumN n (fun j => wf (M.getD i []) j * wf x j) = wf b i := by
  unfold solR at h
  split at h
  · cases h
  · rename_i hno
    cases h
    obtain ⟨r1, r2, r3⟩ := red_ok (aug_len (b := b) hM)
    generalize hA : redR (augL M b) = A at r1 r2 r3 hno ⊢
    have hpn : ∀ a ∈ A, a.1 < n := fun a ha => by
      have h1 := r1.lt (a.1, wf a.2) (mem_toF.2 ⟨a, ha, rfl⟩)
      have h2 : a.1 ≠ n := fun e => hno (List.any_eq_true.2 ⟨a, ha, by simp [e]⟩)
      have h1 : a.1 < n + 1 := h1
      omega
    have hnd : A.Pairwise fun a b => a.1 ≠ b.1 := by
      have := r1.nodup
      unfold toF at this
      rwa [List.pairwise_map] at this
    refine ⟨by rw [setP_len, List.length_replicate], fun i hi => ?_⟩
    have hx := setP_at (n := n) A (List.replicate n (0 : K)) hnd (fun a ha => by rw [List.length_replicate]; exact hpn a ha)
    have hi2 : i < (augL M b).length := by unfold augL; rw [List.length_zipWith, hb, Nat.min_self]; exact hi
    have hrow : Span (rowsOf (toF A)) (wf (augL M b)[i]) := (r3 _).2 (.mem (List.mem_map.2 ⟨_, List.getElem_mem hi2, rfl⟩))
    have haug : (augL M b)[i] = M[i] ++ [b[i]'(by omega)] := by simp only [augL, List.getElem_zipWith]
    have hml : M[i].length = n := hM _ (List.getElem_mem hi)
    have hMi : M.getD i [] = M[i] := by rw [List.getD_eq_getElem?_getD, List.getElem?_eq_getElem hi]; rfl
    rw [haug] at hrow
    have hlow : ∀ k, k < n → wf (M[i] ++ [b[i]'(by omega)]) k = wf M[i] k := fun k hk => by
      unfold wf; rw [List.getD_eq_getElem?_getD, List.getD_eq_getElem?_getD, List.getElem?_append_left (by omega)]
    have htop : wf (M[i] ++ [b[i]'(by omega)]) n = wf b i := by
      rw [wf_at (l := b) (by omega), wf_at (by simp [hml])]
      rw [List.getElem_append_right (by omega)]
      simp [hml]
    have ht := r1.told hrow n
    rw [htop] at ht
    rw [hMi, ht]
    unfold toF
    rw [sumL_map]
    -- sum over all places = sum over the beginnings
    have h1 : ∀ j, j < n → wf M[i] j * wf (setP n A (List.replicate n 0)) j = sumL A (fun a => if a.1 = j then wf M[i] j * wf a.2 n else 0) := fun j hj => by
      rw [hx j]
      by_cases hex : ∃ a ∈ A, a.1 = j
      · rw [if_pos hex, ← sumL_mul]
        refine sumL_congr fun a _ => ?_
        by_cases he : a.1 = j
        · rw [if_pos he, if_pos he]
        · rw [if_neg he, if_neg he, mul_zero]
      · rw [if_neg hex, sumL_zero fun a ha => if_neg fun e => hex ⟨a, ha, e⟩, wf_at (l := List.replicate n (0 : K)) (by simpa using hj), List.getElem_replicate, mul_zero]
    rw [sumN_congr h1]
    unfold sumN
    rw [sumL_swap]
    refine sumL_congr fun a ha => ?_
    rw [sumL_one (s := a.1) List.nodup_range (List.mem_range.2 (hpn a ha)) fun j _ hne => if_neg fun e => hne e.symm, if_pos rfl, hlow _ (hpn a ha)]
end
end Go.Alg
namespace Go.Am
set_option linter.unusedVariables false
set_option linter.unusedSimpArgs false
open Go.RowKit (Below)

/-- one row that came in -/
def RoIn (w : World) (A : Option Addr) (C : Nat) (l : List Int) : Prop :=
  (A = none ∧ l = [] ∧ C = 0) ∨ ∃ a, A = some a ∧ l.length ≤ C ∧ (C = 0 ∨ (a.spot = none ∧ a.block < w.heap.size ∧ ∃ Z : List Int, Z.length = C ∧ l = Z.take l.length ∧ ∀ c, c < C → w.cell? (a.add c) = some (.int .i64 (Z.getD c 0))))
/-- rows that came in -/
def RoL (w : World) (a : Option Addr) (len cap : Nat) (ll : List (List Int)) : Prop :=
  ll.length = len ∧ ((a = none ∧ len = 0 ∧ cap = 0) ∨ ∃ x, a = some x ∧ x.spot = none ∧ x.block < w.heap.size ∧ len ≤ cap ∧ ∀ (r : Nat) (l : List Int), ll[r]? = some l → ∃ A C, w.cell? (x.add r) = some (.slice A l.length C) ∧ RoIn w A C l)

theorem RoL.of {w : World} {x : Addr} {len cap : Nat} {A : Nat → Option Addr} {L C : Nat → Nat} {Z : Nat → List Int} (h1 : x.spot = none) (h2 : x.block < w.heap.size) (hl : len ≤ cap)
    (hr : ∀ r, r < cap → w.cell? (x.add r) = some (.slice (A r) (L r) (C r)) ∧ L r ≤ C r ∧ C r ≤ maxLen ∧ (Z r).length = C r ∧ (∀ n ∈ Z r, (Lit.int .i64 n).wf = true) ∧ (A r = none → C r = 0) ∧ ∀ a', A r = some a' → 0 ≤ a'.block ∧ ∀ c, c < C r → w.cell? (a'.add c) = some (.int .i64 ((Z r).getD c 0))) :
    RoL w (some x) len cap ((List.range len).map fun r => (Z r).take (L r)) := by
  refine ⟨by simp, .inr ⟨x, rfl, h1, h2, hl, fun r l hrl => ?_⟩⟩
  rw [List.getElem?_map] at hrl
  obtain ⟨r', hr', rfl⟩ := Option.map_eq_some_iff.1 hrl
  have hrr : r' = r ∧ r < len := by
    obtain ⟨hlt, he⟩ := List.getElem?_eq_some_iff.1 hr'
    simp at hlt he
    exact ⟨he.symm, hlt⟩
  obtain ⟨rfl, hlt⟩ := hrr
  obtain ⟨q1, q2, q3, q4, q5, q6, q7⟩ := hr r' (by omega)
  have hll : ((Z r').take (L r')).length = L r' := by rw [List.length_take]; omega
  refine ⟨A r', C r', by rw [hll]; exact q1, ?_⟩
  cases hA : A r' with
  | none =>
    have := q6 hA
    exact .inl ⟨rfl, List.eq_nil_of_length_eq_zero (by rw [hll]; omega), this⟩
  | some a =>
    refine .inr ⟨a, rfl, by rw [hll]; exact q2, ?_⟩
    obtain ⟨_, q8⟩ := q7 a hA
    by_cases hC : C r' = 0
    · exact .inl hC
    · have h0 := q8 0 (by omega)
      have ha : a.add 0 = a := by simp [Addr.add]
      rw [ha] at h0
      refine .inr ⟨World.cell?_spot h0, ?_, Z r', q4, by rw [hll], q8⟩
      unfold World.cell? at h0
      by_cases hb : a.block < w.heap.size
      · exact hb
      · rw [Array.getElem?_eq_none (by omega)] at h0; cases h0

section
variable {φ : Ren} {B : Nat} {h : H} {w : World}
theorem arg_inner (hB : B = w.heap.size) (hh : HR φ B h w) {b : Nat} (hb : b < B) {A : Option Addr} {C : Nat} {l : List Int} (hr : RoIn w A C l) (e : TypeId) :
    ∃ φ' h' sa, Ext φ h.length φ' ∧ h <+: h' ∧ HR φ' B h' w ∧ VR φ' h'.length (.slice sa l.length C) (.slice A l.length C) ∧ RdI h' sa C l := by
  rcases hr with ⟨rfl, rfl, rfl⟩ | ⟨a, rfl, hl, hr⟩
  · exact ⟨φ, h, none, Ext.refl _ _, List.prefix_refl _, hh, .snil, .inl ⟨rfl, rfl, rfl⟩⟩
  · rcases hr with rfl | ⟨h1, h2, Z, hZ, hlZ, hc⟩
    · obtain rfl : l = [] := List.eq_nil_of_length_eq_zero (by omega)
      have hrow : H.row (h ++ [.row ⟨[], e, 1, false⟩]) h.length = some ⟨[], e, 1, false⟩ := row_push_new
      refine ⟨φ.with h.length ⟨b, 0, 0, 1, false⟩, h ++ [.row ⟨[], e, 1, false⟩], some ⟨h.length, 0, none⟩, Ext.with _ _ _, List.prefix_append _ _, hh.pushRo ⟨[], e, 1, false⟩ b 0 0 1 rfl hb (fun c hc => by cases hc) (fun i c hc => by simp at hc), ?_, .inr ⟨Nat.le_refl _, h.length, 0, _, rfl, hrow, fun h => by (cases h), fun i h0 hi => by simp at hi; omega⟩⟩
      exact .slz h.length 0 a (by simp) (by rw [Ren.with_same])
    · have hro : RoI .i64 w (some a) l.length C Z := .inr ⟨a, rfl, h1, h2, hl, hZ, fun i hi => hc i (by omega)⟩
      obtain ⟨φ', h', sa, k1, k2, k3, k4, k5, k6, k7⟩ := arg_slice hB hh hro e
      refine ⟨φ', h', sa, k1, k2, k3, k4, ?_⟩
      rw [← hlZ] at k5
      exact k5.i64
theorem arg_inners (hB : B = w.heap.size) {b : Nat} (hb : b < B) (e : TypeId) : ∀ (ll : List (List Int)) (Ac : Nat → Option Addr × Nat) (φ : Ren) (h : H), HR φ B h w → (∀ (r : Nat) (l : List Int), ll[r]? = some l → RoIn w (Ac r).1 (Ac r).2 l) →
    ∃ (φ' : Ren) (h' : H) (vs : List Value), Ext φ h.length φ' ∧ h <+: h' ∧ HR φ' B h' w ∧ vs.length = ll.length ∧ ∀ (r : Nat) (l : List Int), ll[r]? = some l → ∃ sa, vs[r]? = some (.slice sa l.length (Ac r).2) ∧ VR φ' h'.length (.slice sa l.length (Ac r).2) (.slice (Ac r).1 l.length (Ac r).2) ∧ RdI h' sa (Ac r).2 l
  | [], Ac, φ, h, hh, hr => ⟨φ, h, [], Ext.refl _ _, List.prefix_refl _, hh, rfl, fun r l hl => by simp at hl⟩
  | l :: ll, Ac, φ, h, hh, hr => by
    obtain ⟨φ1, h1, sa, k1, k2, k3, k4, k5⟩ := arg_inner hB hh hb (hr 0 l rfl) e
    obtain ⟨φ2, h2, vs, j1, j2, j3, j4, j5⟩ := arg_inners hB hb e ll (fun r => Ac (r + 1)) φ1 h1 k3 (fun r l hl => hr (r + 1) l (by simpa using hl))
    refine ⟨φ2, h2, .slice sa l.length (Ac 0).2 :: vs, k1.trans j1 k2.length_le, k2.trans j2, j3, by simp [j4], fun r l' hl => ?_⟩
    cases r with
    | zero =>
      simp at hl; subst hl
      exact ⟨sa, rfl, k4.mono j1 j2.length_le, k5.mono j2⟩
    | succ r =>
      obtain ⟨s, m1, m2⟩ := j5 r l' (by simpa using hl)
      exact ⟨s, by simpa using m1, m2⟩
/-- the next argument, a slice of slices -/
theorem arg_rows (hB : B = w.heap.size) (hh : HR φ B h w) {a : Option Addr} {len cap : Nat} {ll : List (List Int)} (hw : RoL w a len cap ll) (e1 e2 : TypeId) :
    ∃ φ' h' sa, Ext φ h.length φ' ∧ h <+: h' ∧ HR φ' B h' w ∧ VR φ' h'.length (.slice sa len cap) (.slice a len cap) ∧ RdLL h' sa cap ll ∧ unitOk h' 1 sa = true := by
  obtain ⟨hlen, hw⟩ := hw
  rcases hw with ⟨rfl, rfl, rfl⟩ | ⟨x, rfl, hs, hb, hl, hr⟩
  · exact ⟨φ, h, none, Ext.refl _ _, List.prefix_refl _, hh, .snil, .inl ⟨rfl, rfl, List.eq_nil_of_length_eq_zero hlen⟩, rfl⟩
  · obtain ⟨Ac, hAc⟩ : ∃ Ac : Nat → Option Addr × Nat, ∀ (r : Nat) (l : List Int), ll[r]? = some l → w.cell? (x.add r) = some (.slice (Ac r).1 l.length (Ac r).2) ∧ RoIn w (Ac r).1 (Ac r).2 l := by
      have key : ∀ r : Nat, ∃ p : Option Addr × Nat, ∀ l : List Int, ll[r]? = some l → w.cell? (x.add r) = some (.slice p.1 l.length p.2) ∧ RoIn w p.1 p.2 l := by
        intro r
        cases hl' : ll[r]? with
        | none => exact ⟨(none, 0), fun l h => by cases h⟩
        | some l =>
          obtain ⟨A, C, q1, q2⟩ := hr r l hl'
          exact ⟨(A, C), fun l2 h => by cases h; exact ⟨q1, q2⟩⟩
      exact ⟨fun r => Classical.choose (key r), fun r => Classical.choose_spec (key r)⟩
    obtain ⟨φ1, h1, vs, k1, k2, k3, k4, k5⟩ := arg_inners hB (b := x.block) (by omega) e1 ll Ac φ h hh (fun r l hl' => (hAc r l hl').2)
    have hget : ∀ (i : Nat) (c : Value), vs[i]? = some c → ∃ l sa, ll[i]? = some l ∧ c = .slice sa l.length (Ac i).2 ∧ VR φ1 h1.length c (.slice (Ac i).1 l.length (Ac i).2) ∧ RdI h1 sa (Ac i).2 l := by
      intro i c hc
      have hi : i < ll.length := by rw [← k4]; exact (List.getElem?_eq_some_iff.1 hc).1
      obtain ⟨sa, m1, m2, m3⟩ := k5 i ll[i] (List.getElem?_eq_getElem hi)
      rw [hc] at m1; cases m1
      exact ⟨_, sa, List.getElem?_eq_getElem hi, rfl, m2, m3⟩
    have hrow : H.row (h1 ++ [.row ⟨vs, e2, 1, false⟩]) h1.length = some ⟨vs, e2, 1, false⟩ := row_push_new
    have hadd : ∀ i, x.add i = ⟨x.block, x.off + i, none⟩ := addr_add hs
    refine ⟨φ1.with h1.length ⟨x.block, x.off, cap, 1, false⟩, h1 ++ [.row ⟨vs, e2, 1, false⟩], some ⟨h1.length, 0, none⟩, k1.trans (Ext.with _ _ _) k2.length_le, pre_push k2, k3.pushRo ⟨vs, e2, 1, false⟩ x.block x.off cap 1 rfl (by omega) (fun c hc => ?_) (fun i c hc => ?_), ?_, .inr ⟨h1.length, ⟨vs, e2, 1, false⟩, rfl, by omega, hrow, k4, fun i l hl' => ?_⟩, ?_⟩
    · obtain ⟨i, hi, he⟩ := List.getElem_of_mem hc
      obtain ⟨l, sa, _, rfl, _⟩ := hget i c (by rw [List.getElem?_eq_getElem hi, he])
      rfl
    · obtain ⟨l, sa, m0, m1, m2, m3⟩ := hget i c hc
      have := (hAc i l m0).1
      rw [hadd] at this
      exact ⟨_, this, m2⟩
    · have hv := VR.sl (φ := φ1.with h1.length ⟨x.block, x.off, cap, 1, false⟩) (n := (h1 ++ [Ob.row ⟨vs, e2, 1, false⟩]).length) h1.length 0 len cap cap x.off (by simp) (Nat.le_refl _) (.inl (by rw [Ren.with_same]; rfl)) (by rw [Ren.with_same]; intro h; cases h)
      rw [Ren.with_same] at hv
      have hx : x = ⟨x.block, x.off, none⟩ := by obtain ⟨b, o, s⟩ := x; simp only at hs; subst hs; rfl
      rw [hx]
      exact hv
    · obtain ⟨sa, m1, m2, m3⟩ := k5 i l hl'
      exact ⟨sa, (Ac i).2, m1, m3.mono (List.prefix_append _ _)⟩
    · unfold unitOk; simp only [hrow]; rfl
end
end Go.Am
namespace Go.Am

theorem own_set {hF G : H} {o : Nat} {zs : List Int} (hp : hF <+: G) (ho : hF.length ≤ o) (hr : G.row o = some ⟨ints zs, 3, 1, true⟩) {i : Nat} (hi : i < zs.length) (v : Int) :
    ∃ G1 : H, G.sts o i [.int .i64 v] = some G1 ∧ hF <+: G1 ∧ G1.row o = some ⟨ints (zs.set i v), 3, 1, true⟩ ∧ (∀ o', o ≠ o' → G1.row o' = G.row o') ∧ G1.length = G.length := by
  have es := sts_int hr (i := (i : Int)) (v := v) (by omega) (by omega)
  rw [Int.toNat_natCast] at es
  exact ⟨_, es, pre_set hp ho, row_set_same (row_some_lt hr), fun o' hne => row_set_other hne, List.length_set⟩
theorem own_ld {G : H} {o : Nat} {zs : List Int} (hr : G.row o = some ⟨ints zs, 3, 1, true⟩) {i : Nat} (hi : i < zs.length) : G.ld1 o i = some (.int .i64 (gi zs i)) := by
  have l := ld1_int hr (i := (i : Int)) (by omega) (by omega)
  rwa [Int.toNat_natCast] at l
theorem own_mk (h : H) (n : Nat) (v : Int) : ∃ G1 : H, h ++ [.row ⟨rep [.int .i64 v] n, 3, 1, true⟩] = G1 ∧ h <+: G1 ∧ G1.row h.length = some ⟨ints (List.replicate n v), 3, 1, true⟩ ∧ G1.length = h.length + 1 := by
  refine ⟨_, rfl, List.prefix_append _ _, ?_, len_push⟩
  rw [rep_int]; exact row_push_new
theorem own_rd {G : H} {o n : Nat} {zs : List Int} (hr : G.row o = some ⟨ints zs, 3, 1, true⟩) (hn : zs.length = n) : RdI G (some ⟨o, 0, none⟩) n zs := by
  subst hn; exact RdI.ofRow hr rfl
theorem row_keep' {h h' : H} {o : Nat} {r : Row} (hr : h.row o = some r) (hp : h <+: h') : h'.row o = some r := by rw [row_prefix hp (row_some_lt hr)]; exact hr
end Go.Am
namespace Go.Am
set_option linter.unusedVariables false
set_option linter.unusedSimpArgs false

/-- what a cell holds: a value as it is; a slice of one's own; a pointer to a box of one's own -/
inductive Tr where
  | v (x : Value)
  | sl (e u : Nat) (cs : List Tr)
  | pt (e : Nat) (cs : List Tr)
mutual
/-- a value is such a tree; the objects that it owns -/
inductive Own (h : H) : Value → Tr → List Nat → Prop
  | v (x : Value) : Own h x (.v x) []
  | nil (e u : Nat) : Own h (.slice none 0 0) (.sl e u []) []
  | sl {o e u n : Nat} {vs : List Value} {cs : List Tr} {F : List Nat} : h.row o = some ⟨vs, e, u, true⟩ → vs.length = n * u → OwnL h vs cs F → Own h (.slice (some ⟨o, 0, none⟩) n n) (.sl e u cs) (o :: F)
  | pt {o e : Nat} {vs : List Value} {cs : List Tr} {F : List Nat} : h.row o = some ⟨vs, e, 0, true⟩ → OwnL h vs cs F → Own h (.pointer (some ⟨o, 0, none⟩)) (.pt e cs) (o :: F)
inductive OwnL (h : H) : List Value → List Tr → List Nat → Prop
  | nil : OwnL h [] [] []
  | cons {v : Value} {t : Tr} {F : List Nat} {vs : List Value} {ts : List Tr} {F' : List Nat} : Own h v t F → OwnL h vs ts F' → OwnL h (v :: vs) (t :: ts) (F ++ F')
end
mutual
theorem Own.keep {h h' : H} {v : Value} {t : Tr} {F : List Nat} (ho : Own h v t F) (hk : ∀ o ∈ F, h'.row o = h.row o) : Own h' v t F := by
  cases ho with
  | v => exact .v _
  | nil => exact .nil _ _
  | sl h1 h2 h3 => exact .sl (by rw [hk _ (by simp)]; exact h1) h2 (h3.keep fun o ho => hk o (by simp [ho]))
  | pt h1 h3 => exact .pt (by rw [hk _ (by simp)]; exact h1) (h3.keep fun o ho => hk o (by simp [ho]))
theorem OwnL.keep {h h' : H} {v : List Value} {t : List Tr} {F : List Nat} (ho : OwnL h v t F) (hk : ∀ o ∈ F, h'.row o = h.row o) : OwnL h' v t F := by
  cases ho with
  | nil => exact .nil
  | cons h1 h2 => exact .cons (h1.keep fun o ho => hk o (by simp [ho])) (h2.keep fun o ho => hk o (by simp [ho]))
end
mutual
theorem Own.lt {h : H} {v : Value} {t : Tr} {F : List Nat} (ho : Own h v t F) : ∀ o ∈ F, o < h.length := by
  cases ho with
  | v => intro o ho; cases ho
  | nil => intro o ho; cases ho
  | sl h1 h2 h3 =>
    intro o ho
    rcases List.mem_cons.1 ho with rfl | ho
    · exact row_some_lt h1
    · exact h3.lt o ho
  | pt h1 h3 =>
    intro o ho
    rcases List.mem_cons.1 ho with rfl | ho
    · exact row_some_lt h1
    · exact h3.lt o ho
theorem OwnL.lt {h : H} {v : List Value} {t : List Tr} {F : List Nat} (ho : OwnL h v t F) : ∀ o ∈ F, o < h.length := by
  cases ho with
  | nil => intro o ho; cases ho
  | cons h1 h2 =>
    intro o ho
    rcases List.mem_append.1 ho with ho | ho
    · exact h1.lt o ho
    · exact h2.lt o ho
end
theorem OwnL.len {h : H} : ∀ {v : List Value} {t : List Tr} {F : List Nat}, OwnL h v t F → v.length = t.length
  | _, _, _, .nil => rfl
  | _, _, _, .cons _ h2 => by rw [List.length_cons, List.length_cons, h2.len]
theorem OwnL.app {h : H} : ∀ {v v' : List Value} {t t' : List Tr} {F F' : List Nat}, OwnL h v t F → OwnL h v' t' F' → OwnL h (v ++ v') (t ++ t') (F ++ F')
  | _, _, _, _, _, _, .nil, k => k
  | _, _, _, _, _, _, .cons h1 h2, k => by rw [List.cons_append, List.cons_append, List.append_assoc]; exact .cons h1 (h2.app k)
/-- the i-th, and what is left around it -/
theorem OwnL.split {h : H} : ∀ {i : Nat} {v : List Value} {t : List Tr} {F : List Nat} {s : Tr}, OwnL h v t F → t[i]? = some s →
    ∃ (x : Value) (A B C : List Nat), v[i]? = some x ∧ F = A ++ B ++ C ∧ Own h x s B ∧ ∀ (h' : H) (y : Value) (s' : Tr) (D : List Nat), (∀ o ∈ A ++ C, h'.row o = h.row o) → Own h' y s' D → OwnL h' (v.set i y) (t.set i s') (A ++ D ++ C)
  | _, _, _, _, _, .nil, hs => by cases hs
  | 0, _, _, _, _, .cons (F := F) (F' := F') h1 h2, hs => by
    cases hs
    refine ⟨_, [], F, F', rfl, rfl, h1, fun h' y s' D hk ho => ?_⟩
    exact .cons ho (h2.keep fun o ho => hk o (by simpa using ho))
  | i + 1, _, _, _, _, .cons (F := F) (F' := F') h1 h2, hs => by
    obtain ⟨x, A, B, C, k1, k2, k3, k4⟩ := h2.split (i := i) (by simpa using hs)
    refine ⟨x, F ++ A, B, C, by simpa using k1, by rw [k2]; simp, k3, fun h' y s' D hk ho => ?_⟩
    rw [List.set_cons_succ, List.set_cons_succ, List.append_assoc, List.append_assoc, ← List.append_assoc A]
    exact .cons (h1.keep fun o ho => hk o (by simp [ho])) (k4 h' y s' D (fun o ho => hk o (by
      rcases List.mem_append.1 ho with ho | ho <;> simp [ho])) ho)

/-- things that are owned, apart of one another, all made since a memory was so -/
def St (hF G : H) (L : List (Value × Tr)) : Prop :=
  hF <+: G ∧ ∃ F : List Nat, OwnL G (L.map Prod.fst) (L.map Prod.snd) F ∧ F.Nodup ∧ ∀ o ∈ F, hF.length ≤ o
section
variable {hF G G' : H} {L M : List (Value × Tr)}
theorem St.pre (S : St hF G L) : hF <+: G := S.1
theorem St.start (h : H) : St h h [] := ⟨List.prefix_refl _, [], .nil, List.nodup_nil, fun o ho => by cases ho⟩
/-- new things stand apart of old ones -/
theorem St.join (S : St hF G L) (K : St G G' M) : St hF G' (L ++ M) := by
  obtain ⟨p, F, h1, h2, h3⟩ := S
  obtain ⟨q, E, k1, k2, k3⟩ := K
  refine ⟨p.trans q, F ++ E, ?_, ?_, fun o ho => ?_⟩
  · rw [List.map_append, List.map_append]
    exact (h1.keep fun o ho => row_prefix q (h1.lt o ho)).app k1
  · rw [List.nodup_append]
    refine ⟨h2, k2, fun a ha b hb => ?_⟩
    have := h1.lt a ha
    have := k3 b hb
    omega
  · rcases List.mem_append.1 ho with ho | ho
    · exact h3 o ho
    · have := k3 o ho; have := p.length_le; omega
theorem St.grow (S : St hF G L) (q : G <+: G') : St hF G' L := by
  have := S.join (M := []) (G' := G') ⟨q, [], .nil, List.nodup_nil, fun o ho => by cases ho⟩
  rwa [List.append_nil] at this
theorem St.low {hE : H} (S : St hF G L) (q : hE <+: hF) : St hE G L := by
  obtain ⟨p, F, h1, h2, h3⟩ := S
  exact ⟨q.trans p, F, h1, h2, fun o ho => Nat.le_trans q.length_le (h3 o ho)⟩
/-- one of them is replaced -/
theorem St.split (S : St hF G L) {k : Nat} {v : Value} {t : Tr} (hk : L[k]? = some (v, t)) :
    ∃ A B C : List Nat, Own G v t B ∧ (A ++ B ++ C).Nodup ∧ (∀ o ∈ A ++ B ++ C, hF.length ≤ o ∧ o < G.length) ∧ ∀ (G' : H) (y : Value) (s : Tr) (D : List Nat), hF <+: G' → (∀ o ∈ A ++ C, G'.row o = G.row o) → Own G' y s D → (A ++ D ++ C).Nodup → (∀ o ∈ D, hF.length ≤ o) → St hF G' (L.set k (y, s)) := by
  obtain ⟨p, F, h1, h2, h3⟩ := S
  obtain ⟨x, A, B, C, k1, k2, k3, k4⟩ := h1.split (i := k) (s := t) (by rw [List.getElem?_map, hk]; rfl)
  rw [List.getElem?_map, hk] at k1
  cases k1
  have h5 := h1.lt
  rw [k2] at h2 h3 h5
  refine ⟨A, B, C, k3, h2, fun o ho => ⟨h3 o ho, h5 o ho⟩, fun G' y s D q1 q2 q3 q4 q5 => ⟨q1, A ++ D ++ C, ?_, q4, fun o ho => ?_⟩⟩
  · rw [List.map_set, List.map_set]
    exact k4 G' y s D q2 q3
  · rcases List.mem_append.1 ho with ho | ho
    · rcases List.mem_append.1 ho with ho | ho
      · exact h3 o (by simp [ho])
      · exact q5 o ho
    · exact h3 o (by simp [ho])
theorem nodup_mid {A B C : List Nat} (h : (A ++ B ++ C).Nodup) {D : List Nat} (hd : D.Nodup) (hs : ∀ o ∈ D, o ∈ B ∨ (o ∉ A ∧ o ∉ C)) : (A ++ D ++ C).Nodup := by
  rw [List.nodup_append, List.nodup_append] at h ⊢
  obtain ⟨⟨a1, a2, a3⟩, a4, a5⟩ := h
  refine ⟨⟨a1, hd, fun x hx y hy => ?_⟩, a4, fun x hx y hy => ?_⟩
  · rcases hs y hy with h | ⟨h1, h2⟩
    · exact a3 x hx y h
    · intro e; exact h1 (e ▸ hx)
  · rcases List.mem_append.1 hx with hx | hx
    · exact a5 x (by simp [hx]) y hy
    · rcases hs x hx with h | ⟨h1, h2⟩
      · exact a5 x (by simp [h]) y hy
      · intro e; exact h2 (e ▸ hy)
theorem nodup_b {A B C : List Nat} (h : (A ++ B ++ C).Nodup) : B.Nodup := by
  rw [List.nodup_append, List.nodup_append] at h; exact h.1.2.1
theorem nodup_ac {A B C : List Nat} (h : (A ++ B ++ C).Nodup) {o : Nat} (ho : o ∈ B) : o ∉ A ++ C := by
  rw [List.nodup_append, List.nodup_append] at h
  intro hc
  rcases List.mem_append.1 hc with hc | hc
  · exact h.1.2.2 o hc o ho rfl
  · exact h.2.2 o (by simp [ho]) o hc rfl
theorem era_map {α β : Type} (f : α → β) : ∀ (l : List α) (k : Nat), (l.eraseIdx k).map f = (l.map f).eraseIdx k
  | [], _ => rfl
  | _ :: _, 0 => rfl
  | a :: l, k + 1 => by rw [List.eraseIdx_cons_succ, List.map_cons, List.map_cons, List.eraseIdx_cons_succ, era_map f l k]
/-- one less -/
theorem St.drop (S : St hF G L) (k : Nat) : St hF G (L.eraseIdx k) := by
  obtain ⟨p, F, h1, h2, h3⟩ := S
  suffices h : ∀ (k : Nat) (v : List Value) (t : List Tr) (F : List Nat), OwnL G v t F → ∃ E : List Nat, OwnL G (v.eraseIdx k) (t.eraseIdx k) E ∧ E.Sublist F by
    obtain ⟨E, e1, e2⟩ := h k _ _ _ h1
    refine ⟨p, E, ?_, h2.sublist e2, fun o ho => h3 o (e2.subset ho)⟩
    rw [era_map, era_map]; exact e1
  intro k
  induction k with
  | zero =>
    intro v t F ho
    cases ho with
    | nil => exact ⟨_, .nil, List.Sublist.refl _⟩
    | cons h1 h2 => exact ⟨_, h2, List.sublist_append_right _ _⟩
  | succ k ih =>
    intro v t F ho
    cases ho with
    | nil => exact ⟨_, .nil, List.Sublist.refl _⟩
    | cons h1 h2 =>
      obtain ⟨E, e1, e2⟩ := ih _ _ _ h2
      exact ⟨_, .cons h1 e1, (List.Sublist.refl _).append e2⟩
theorem St.take (S : St hF G L) (k : Nat) : St hF G (L.take k) := by
  obtain ⟨p, F, h1, h2, h3⟩ := S
  suffices h : ∀ (k : Nat) (v : List Value) (t : List Tr) (F : List Nat), OwnL G v t F → ∃ E : List Nat, OwnL G (v.take k) (t.take k) E ∧ E.Sublist F by
    obtain ⟨E, e1, e2⟩ := h k _ _ _ h1
    exact ⟨p, E, by rw [List.map_take, List.map_take]; exact e1, h2.sublist e2, fun o ho => h3 o (e2.subset ho)⟩
  intro k
  induction k with
  | zero => intro v t F ho; exact ⟨[], .nil, List.nil_sublist _⟩
  | succ k ih =>
    intro v t F ho
    cases ho with
    | nil => exact ⟨[], .nil, List.Sublist.refl _⟩
    | cons h1 h2 =>
      obtain ⟨E, e1, e2⟩ := ih _ _ _ h2
      exact ⟨_, .cons h1 e1, (List.Sublist.refl _).append e2⟩
end
end Go.Am
namespace Go.Am
set_option linter.unusedVariables false
set_option linter.unusedSimpArgs false

/-! ### lists of numbers -/
def il (zs : List Int) : Tr := .sl 3 1 (zs.map fun z => .v (.int .i64 z))
theorem OwnL.vals {h : H} : ∀ {cs : List Value}, OwnL h cs (cs.map Tr.v) []
  | [] => .nil
  | c :: cs => by have := OwnL.cons (Own.v (h := h) c) (OwnL.vals (cs := cs)); simpa using this
theorem OwnL.vals_inv {h : H} : ∀ {cs vs : List Value} {F : List Nat}, OwnL h vs (cs.map Tr.v) F → vs = cs ∧ F = []
  | [], _, _, .nil => ⟨rfl, rfl⟩
  | c :: cs, _, _, .cons h1 h2 => by
    cases h1
    obtain ⟨e1, e2⟩ := h2.vals_inv
    rw [e1, e2]; exact ⟨rfl, rfl⟩
theorem il_eq (zs : List Int) : il zs = .sl 3 1 ((ints zs).map Tr.v) := by unfold il ints; rw [List.map_map]; rfl
theorem Own.il_inv {h : H} {v : Value} {zs : List Int} {F : List Nat} (ho : Own h v (il zs) F) : (v = .slice none 0 0 ∧ zs = [] ∧ F = []) ∨ ∃ o, v = .slice (some ⟨o, 0, none⟩) zs.length zs.length ∧ h.row o = some ⟨ints zs, 3, 1, true⟩ ∧ F = [o] := by
  rw [il_eq] at ho
  generalize hc : (ints zs).map Tr.v = cs at ho
  cases ho with
  | nil =>
    refine .inl ⟨rfl, ?_, rfl⟩
    have := congrArg List.length hc
    simpa [ints] using this
  | sl h1 h2 h3 =>
    rw [← hc] at h3
    obtain ⟨rfl, rfl⟩ := h3.vals_inv
    rw [ints_len, Nat.mul_one] at h2
    rw [← h2]
    exact .inr ⟨_, rfl, h1, rfl⟩
theorem Own.il_mk {h : H} {o n : Nat} {zs : List Int} (hr : h.row o = some ⟨ints zs, 3, 1, true⟩) (hn : n = zs.length) : Own h (.slice (some ⟨o, 0, none⟩) n n) (il zs) [o] := by
  rw [il_eq]
  exact .sl hr (by rw [ints_len]; omega) .vals
theorem Own.il_nil {h : H} : Own h (.slice none 0 0) (il []) [] := .nil _ _
section
variable {hF G G' : H} {L M : List (Value × Tr)}
theorem St.one {v : Value} {t : Tr} {F : List Nat} (hp : hF <+: G) (ho : Own G v t F) (hn : F.Nodup) (hl : ∀ o ∈ F, hF.length ≤ o) : St hF G [(v, t)] := by
  refine ⟨hp, F ++ [], .cons ho .nil, by simpa using hn, fun o ho => hl o (by simpa using ho)⟩
theorem St.ofRow {o n : Nat} {zs : List Int} (hp : hF <+: G) (hr : G.row o = some ⟨ints zs, 3, 1, true⟩) (ho : hF.length ≤ o) (hn : n = zs.length) : St hF G [(.slice (some ⟨o, 0, none⟩) n n, il zs)] :=
  .one hp (.il_mk hr hn) (by simp) (fun x hx => by simp at hx; omega)
theorem St.ofGrown {sa : Option Addr} {c : Nat} {zs : List Int} (hp : hF <+: G) (hg : Grown G sa c zs hF.length) : St hF G [(.slice sa zs.length c, il zs)] := by
  rcases hg with ⟨rfl, rfl, rfl⟩ | ⟨o, rfl, h1, rfl, h2⟩
  · exact .one hp .il_nil List.nodup_nil (fun o ho => by cases ho)
  · exact .ofRow hp h2 h1 rfl
theorem St.nils {e u : Nat} (hp : hF <+: G) : St hF G [(.slice none 0 0, .sl e u [])] := .one hp (.nil _ _) List.nodup_nil (fun o ho => by cases ho)
/-- what an entry of numbers is -/
theorem St.inv (S : St hF G L) {k n c : Nat} {sa : Option Addr} {zs : List Int} (hk : L[k]? = some (.slice sa n c, il zs)) : n = zs.length ∧ Grown G sa c zs hF.length := by
  obtain ⟨A, B, C, h1, h2, h3, _⟩ := S.split hk
  rcases h1.il_inv with ⟨e, rfl, rfl⟩ | ⟨o, e, hr, rfl⟩
  · cases e; exact ⟨rfl, .nil⟩
  · cases e; exact ⟨rfl, .inr ⟨o, rfl, (h3 o (by simp)).1, rfl, hr⟩⟩
theorem St.rd (S : St hF G L) {k n c : Nat} {sa : Option Addr} {zs : List Int} (hk : L[k]? = some (.slice sa n c, il zs)) : RdI G sa c zs := (S.inv hk).2.rd
/-- written -/
theorem St.sti (S : St hF G L) {k n c : Nat} {sa : Option Addr} {zs : List Int} (hk : L[k]? = some (.slice sa n c, il zs)) {i : Nat} (hi : i < zs.length) (x : Int) :
    ∃ (o : Nat) (G' : H), sa = some ⟨o, 0, none⟩ ∧ G.sts o i [.int .i64 x] = some G' ∧ St hF G' (L.set k (.slice sa n c, il (zs.set i x))) ∧ G'.length = G.length := by
  obtain ⟨A, B, C, h1, h2, h3, h4⟩ := S.split hk
  rcases h1.il_inv with ⟨e, rfl, rfl⟩ | ⟨o, e, hr, rfl⟩
  · simp at hi
  · cases e
    obtain ⟨G1, es, p1, q1, f1, g1⟩ := own_set S.1 (h3 o (by simp)).1 hr hi x
    refine ⟨o, G1, rfl, es, h4 G1 _ _ [o] p1 (fun x hx => f1 x fun e => nodup_ac h2 (o := o) (by simp) (e ▸ hx)) (.il_mk q1 (by simp)) h2 (fun x hx => (h3 x (by simp at hx; simp [hx])).1), g1⟩
/-- made -/
theorem St.mk (S : St hF G L) (n : Nat) (x : Int) : St hF (G ++ [.row ⟨rep [.int .i64 x] n, 3, 1, true⟩]) (L ++ [(.slice (some ⟨G.length, 0, none⟩) n n, il (List.replicate n x))]) := by
  obtain ⟨G1, e1, p1, r1, g1⟩ := own_mk G n x
  rw [e1]
  exact S.join (.ofRow p1 r1 (Nat.le_refl _) (by simp))
theorem nodup_new {A B C : List Nat} (h : (A ++ B ++ C).Nodup) {n : Nat} (hn : ∀ o ∈ A ++ B ++ C, o < n) {x : Nat} (hx : n ≤ x) : (A ++ [x] ++ C).Nodup :=
  nodup_mid h (by simp) fun o ho => by
    simp at ho; subst ho
    refine .inr ⟨fun h => ?_, fun h => ?_⟩
    · have := hn o (by simp [h]); omega
    · have := hn o (by simp [h]); omega
theorem St.lt (S : St hF G L) : ∃ F : List Nat, OwnL G (L.map Prod.fst) (L.map Prod.snd) F ∧ F.Nodup ∧ (∀ o ∈ F, hF.length ≤ o) ∧ ∀ o ∈ F, o < G.length := by
  obtain ⟨p, F, h1, h2, h3⟩ := S
  exact ⟨F, h1, h2, h3, h1.lt⟩
end
mutual
theorem Own.uniq {h : H} {v : Value} {t : Tr} {F F' : List Nat} (h1 : Own h v t F) (h2 : Own h v t F') : F = F' := by
  cases h1 with
  | v => cases h2; rfl
  | nil => cases h2; rfl
  | sl a1 a2 a3 => cases h2 with
    | sl b1 b2 b3 => rw [a1] at b1; cases b1; rw [a3.uniq b3]
  | pt a1 a3 => cases h2 with
    | pt b1 b3 => rw [a1] at b1; cases b1; rw [a3.uniq b3]
theorem OwnL.uniq {h : H} {v : List Value} {t : List Tr} {F F' : List Nat} (h1 : OwnL h v t F) (h2 : OwnL h v t F') : F = F' := by
  cases h1 with
  | nil => cases h2; rfl
  | cons a1 a2 => cases h2 with
    | cons b1 b2 => rw [a1.uniq b1, a2.uniq b2]
end
section
variable {hF G G' : H} {L M : List (Value × Tr)}
/-- one of them is replaced; what the memory has is older than n -/
theorem St.swap (S : St hF G L) {k : Nat} {v : Value} {t : Tr} (hk : L[k]? = some (v, t)) :
    ∃ A B C : List Nat, Own G v t B ∧ B.Nodup ∧ (∀ o ∈ A ++ B ++ C, hF.length ≤ o ∧ o < G.length) ∧ (∀ o ∈ B, o ∉ A ++ C) ∧
      ∀ (G' : H) (y : Value) (s : Tr) (D : List Nat), hF <+: G' → (∀ o ∈ A ++ C, G'.row o = G.row o) → Own G' y s D → D.Nodup → (∀ o ∈ D, o ∈ B ∨ G.length ≤ o) → St hF G' (L.set k (y, s)) := by
  obtain ⟨A, B, C, h1, h2, h3, h4⟩ := S.split hk
  exact ⟨A, B, C, h1, nodup_b h2, h3, fun o ho => nodup_ac h2 ho, fun G' y s D q1 q2 q3 q4 q5 => h4 G' y s D q1 q2 q3 (nodup_mid h2 q4 fun o ho => by
    rcases q5 o ho with h | h
    · exact .inl h
    · refine .inr ⟨fun h' => ?_, fun h' => ?_⟩
      · have := (h3 o (by simp [h'])).2; omega
      · have := (h3 o (by simp [h'])).2; omega) fun o ho => by
    rcases q5 o ho with h | h
    · exact (h3 o (by simp [h])).1
    · have := S.1.length_le; omega⟩
/-- the value that is made for a list's next element, whatever it is -/
theorem St.app1 (S : St hF G L) {k n c e b : Nat} {sa : Option Addr} {cs : List Tr} (hk : L[k]? = some (.slice sa n c, .sl e 1 cs)) (x : Value) (hx : x.cells.toList = [x]) (hn : n ≤ 1000000) (hb : b ≤ 1000) :
    n = cs.length ∧ ∃ (sa' : Option Addr) (G' : H), aapp e 1 b (G ++ [.row ⟨[x], e, 1, true⟩]) (.slice sa n c) (.slice (some ⟨G.length, 0, none⟩) 1 1) = some (.slice sa' (n + 1) (n + 1), G') ∧
      St hF G' (L.set k (.slice sa' (n + 1) (n + 1), .sl e 1 (cs ++ [.v x]))) ∧ G.length ≤ G'.length ∧ hF <+: G' := by
  obtain ⟨A, B, C, h1, h2, h3, h5, h4⟩ := S.swap hk
  have hsrc : srcCells (G ++ [.row ⟨[x], e, 1, true⟩]) 1 1 (.slice (some ⟨G.length, 0, none⟩) 1 1) = some [x] := by
    unfold srcCells H.lds
    simp only [row_push_new]
    rw [if_neg (by omega), if_pos (Nat.le_refl 1)]
    simp only [none_isNone, if_true]
    rw [if_pos (by simp)]
    rfl
  have hmul : (n + 1) * b ≤ 1000001 * 1000 := Nat.mul_le_mul (by omega) hb
  cases h1 with
  | nil =>
    refine ⟨rfl, some ⟨G.length + 1, 0, none⟩, G ++ [.row ⟨[x], e, 1, true⟩] ++ [.row ⟨[x], e, 1, true⟩], ?_, h4 _ _ _ [G.length + 1] (pre_push (pre_push S.1)) (fun o ho => ?_) ?_ (by simp) (fun o ho => by simp at ho; omega), by simp, pre_push (pre_push S.1)⟩
    · unfold aapp
      simp only [hsrc]
      rw [if_pos (by simp), if_neg (by omega), if_pos (by simp [few]; omega), len_push]
    · have := (h3 o (by simp at ho; rcases ho with ho | ho <;> simp [ho])).2
      rw [row_old (by rw [len_push]; omega), row_old this]
    · exact .sl (row_new (by rw [len_push])) (by simp) (.cons (.v x) .nil)
  | sl hr hl ho' =>
    rename_i o vs F
    have hlen := ho'.len
    rw [Nat.mul_one] at hl
    have hol := row_some_lt hr
    refine ⟨by omega, some ⟨G.length + 1, 0, none⟩, kill (G ++ [.row ⟨[x], e, 1, true⟩]) o ++ [.row ⟨vs ++ [x], e, 1, true⟩], ?_, h4 _ _ _ ((G.length + 1) :: (F ++ [])) (pre_push (pre_kill (pre_push S.1) (h3 o (by simp)).1)) (fun o' ho => ?_) ?_ ?_ (fun o' ho => ?_), by rw [len_push, len_kill, len_push]; omega, pre_push (pre_kill (pre_push S.1) (h3 o (by simp)).1)⟩
    · unfold aapp
      simp only [hsrc, row_old hol, hr]
      rw [if_pos (by simp [few]; omega), len_push]
      simp only [List.drop_zero, Nat.mul_one]
      rw [List.take_of_length_le (by omega)]
    · have h6 := (h3 o' (by simp at ho; rcases ho with ho | ho <;> simp [ho])).2
      have h7 : o ≠ o' := fun e => h5 o (by simp) (by rw [e]; exact ho)
      rw [row_old (by rw [len_kill, len_push]; omega), row_kill h7, row_old h6]
    · have hFn := List.nodup_cons.1 h2
      refine .sl (row_new (by rw [len_kill, len_push])) (by simp; omega) ((ho'.keep fun o2 ho2 => ?_).app ?_)
      · have h6 := ho'.lt o2 ho2
        have h7 : o ≠ o2 := fun e => hFn.1 (e ▸ ho2)
        rw [row_old (by rw [len_kill, len_push]; omega), row_kill h7, row_old h6]
      · exact .cons (F' := []) (F := []) (.v x) .nil
    · rw [List.append_nil, List.nodup_cons]
      exact ⟨fun h => by have := ho'.lt _ h; omega, (List.nodup_cons.1 h2).2⟩
    · rw [List.append_nil] at ho
      rcases List.mem_cons.1 ho with rfl | ho
      · exact .inr (by omega)
      · exact .inl (by simp [ho])
theorem ivs_app (zs : List Int) (y : Int) : (zs.map fun z => Tr.v (.int .i64 z)) ++ [Tr.v (.int .i64 y)] = (zs ++ [y]).map fun z => Tr.v (.int .i64 z) := by simp
theorem St.appI (S : St hF G L) {k n c : Nat} {sa : Option Addr} {zs : List Int} (hk : L[k]? = some (.slice sa n c, il zs)) (y : Int) (hn : n ≤ 1000000) :
    ∃ (sa' : Option Addr) (G' : H), aapp 3 1 8 (G ++ [.row ⟨[.int .i64 y], 3, 1, true⟩]) (.slice sa n c) (.slice (some ⟨G.length, 0, none⟩) 1 1) = some (.slice sa' (n + 1) (n + 1), G') ∧ St hF G' (L.set k (.slice sa' (n + 1) (n + 1), il (zs ++ [y]))) := by
  obtain ⟨_, sa', G', k1, k2, _⟩ := S.app1 (e := 3) (b := 8) hk (.int .i64 y) rfl hn (by omega)
  rw [ivs_app] at k2
  exact ⟨sa', G', k1, k2⟩

/-! ### what lies within -/
theorem perm_nodup {A B : List Nat} (h : ∀ a, A.count a = B.count a) (hn : A.Nodup) : B.Nodup := (List.perm_iff_count.2 h).nodup_iff.1 hn
/-- what is owned apart is owned within -/
theorem St.put {v w : Value} {t : Tr} {e u k i : Nat} {cs : List Tr} (S : St hF G (L ++ [(w, t)])) (hk : L[k]? = some (v, .sl e u cs)) (hi : cs[i]? = some (.v w)) : St hF G (L.set k (v, .sl e u (cs.set i t))) := by
  obtain ⟨p, F, h1, h2, h3⟩ := S
  rw [List.map_append, List.map_append] at h1
  obtain ⟨F0, D, hF0, h4, h5⟩ : ∃ F0 D, F = F0 ++ D ∧ OwnL G (L.map Prod.fst) (L.map Prod.snd) F0 ∧ Own G w t D := by
    suffices h : ∀ (vs : List Value) (ts : List Tr) (F : List Nat), OwnL G (vs ++ [w]) (ts ++ [t]) F → vs.length = ts.length → ∃ F0 D, F = F0 ++ D ∧ OwnL G vs ts F0 ∧ Own G w t D from h _ _ _ h1 (by simp)
    intro vs
    induction vs with
    | nil =>
      intro ts F ho hl
      obtain rfl : ts = [] := List.eq_nil_of_length_eq_zero (by simpa using hl.symm)
      cases ho with
      | cons a1 a2 => cases a2; exact ⟨[], _, by simp, .nil, a1⟩
    | cons x vs ih =>
      intro ts F ho hl
      cases ts with
      | nil => simp at hl
      | cons y ts =>
        cases ho with
        | cons a1 a2 =>
          obtain ⟨F0, D, e1, e2, e3⟩ := ih ts _ a2 (by simpa using hl)
          exact ⟨_, D, by rw [e1, List.append_assoc], .cons a1 e2, e3⟩
  obtain ⟨x, A, B, C, k1, k2, k3, k4⟩ := h4.split (i := k) (s := .sl e u cs) (by rw [List.getElem?_map, hk]; rfl)
  rw [List.getElem?_map, hk] at k1
  cases k1
  cases k3 with
  | nil => cases hi
  | sl r1 r2 r3 =>
    rename_i o n vs F1
    obtain ⟨x, A', B', C', j1, j2, j3, j4⟩ := r3.split hi
    cases j3
    have hs := j4 G w t D (fun _ _ => rfl) h5
    have hvs : vs.set i w = vs := by
      obtain ⟨hlt, he⟩ := List.getElem?_eq_some_iff.1 j1
      rw [← he]; exact List.set_getElem_self hlt
    rw [hvs] at hs
    have hc : ∀ a, (A ++ (o :: (A' ++ D ++ C')) ++ C).count a = F.count a := by
      intro a
      rw [hF0, k2, j2]
      simp [List.count_append, List.count_cons]
      omega
    refine ⟨p, A ++ (o :: (A' ++ D ++ C')) ++ C, ?_, perm_nodup (fun a => (hc a).symm) h2, fun o' ho' => h3 o' ?_⟩
    · rw [List.map_set, List.map_set]
      have := k4 G (.slice (some ⟨o, 0, none⟩) n n) (.sl e u (cs.set i t)) (o :: (A' ++ D ++ C')) (fun _ _ => rfl) (.sl r1 r2 hs)
      exact this
    · rw [← List.count_pos_iff, ← hc, List.count_pos_iff]; exact ho'
/-- what is owned within is owned apart -/
theorem St.get (S : St hF G L) {v : Value} {t : Tr} {e u k i : Nat} {cs : List Tr} (hk : L[k]? = some (v, .sl e u cs)) (hi : cs[i]? = some t) :
    ∃ (w : Value) (o n : Nat), v = .slice (some ⟨o, 0, none⟩) n n ∧ n * u = cs.length ∧ G.ld1 o i = some w ∧ St hF G (L.set k (v, .sl e u (cs.set i (.v w))) ++ [(w, t)]) := by
  obtain ⟨p, F, h1, h2, h3⟩ := S
  obtain ⟨x, A, B, C, k1, k2, k3, k4⟩ := h1.split (i := k) (s := .sl e u cs) (by rw [List.getElem?_map, hk]; rfl)
  rw [List.getElem?_map, hk] at k1
  cases k1
  cases k3 with
  | nil => cases hi
  | sl r1 r2 r3 =>
    rename_i o n vs F1
    obtain ⟨w, A', B', C', j1, j2, j3, j4⟩ := r3.split hi
    have hs := j4 G w (.v w) [] (fun _ _ => rfl) (.v w)
    have hvs : vs.set i w = vs := by
      obtain ⟨hlt, he⟩ := List.getElem?_eq_some_iff.1 j1
      rw [← he]; exact List.set_getElem_self hlt
    rw [hvs] at hs
    have hc : ∀ a, (A ++ (o :: (A' ++ [] ++ C')) ++ C ++ (B' ++ [])).count a = F.count a := by
      intro a
      rw [k2, j2]
      simp [List.count_append, List.count_cons]
      omega
    refine ⟨w, o, n, rfl, by rw [← r2]; exact r3.len, by rw [ld1_of r1]; exact j1, p, A ++ (o :: (A' ++ [] ++ C')) ++ C ++ (B' ++ []), ?_, perm_nodup (fun a => (hc a).symm) h2, fun o' ho' => h3 o' ?_⟩
    · have := k4 G (.slice (some ⟨o, 0, none⟩) n n) (.sl e u (cs.set i (.v w))) (o :: (A' ++ [] ++ C')) (fun _ _ => rfl) (.sl r1 r2 hs)
      have h6 := this.app (.cons j3 .nil)
      rw [List.map_append, List.map_append, List.map_set, List.map_set]
      exact h6
    · rw [← List.count_pos_iff, ← hc, List.count_pos_iff]; exact ho'
/-- another order -/
theorem St.perm {L' : List (Value × Tr)} (S : St hF G L) (hp : L.Perm L') : St hF G L' := by
  obtain ⟨p, F, h1, h2, h3⟩ := S
  suffices h : ∀ {F : List Nat}, OwnL G (L.map Prod.fst) (L.map Prod.snd) F → ∃ E, OwnL G (L'.map Prod.fst) (L'.map Prod.snd) E ∧ ∀ a, F.count a = E.count a by
    obtain ⟨E, e1, e2⟩ := h h1
    exact ⟨p, E, e1, perm_nodup e2 h2, fun o ho => h3 o (by rw [← List.count_pos_iff, e2, List.count_pos_iff]; exact ho)⟩
  clear h1 h2 h3
  induction hp with
  | nil => intro F h; exact ⟨F, h, fun _ => rfl⟩
  | cons x _ ih =>
    intro F h
    cases h with
    | cons a1 a2 =>
      obtain ⟨E, e1, e2⟩ := ih a2
      exact ⟨_, .cons a1 e1, fun a => by rw [List.count_append, List.count_append, e2]⟩
  | swap x y l =>
    intro F h
    cases h with
    | cons a1 a2 => cases a2 with
      | cons b1 b2 => exact ⟨_, .cons b1 (.cons a1 b2), fun a => by simp only [List.count_append]; omega⟩
  | trans _ _ ih1 ih2 =>
    intro F h
    obtain ⟨E, e1, e2⟩ := ih1 h
    obtain ⟨E', e3, e4⟩ := ih2 e1
    exact ⟨E', e3, fun a => by rw [e2, e4]⟩
theorem St.rot (S : St hF G (L ++ M)) : St hF G (M ++ L) := S.perm List.perm_append_comm
/-- lists of lists -/
def ll (e : Nat) (m : List (List Int)) : Tr := .sl e 1 (m.map il)
theorem St.rdL (S : St hF G L) {k n c e : Nat} {sa : Option Addr} {m : List (List Int)} (hk : L[k]? = some (.slice sa n c, ll e m)) : RdLL G sa c m ∧ n = m.length := by
  obtain ⟨A, B, C, h1, _⟩ := S.split hk
  unfold ll at h1
  generalize hc : m.map il = cs at h1
  cases h1 with
  | nil =>
    have := congrArg List.length hc
    have hm : m = [] := by simpa using this
    exact ⟨.inl ⟨rfl, rfl, hm⟩, by rw [hm]; rfl⟩
  | sl r1 r2 r3 =>
    rename_i o vs cs2 F
    have hl := r3.len
    rw [← hc, List.length_map] at hl
    refine ⟨.inr ⟨o, _, rfl, by omega, r1, by omega, fun i l hl' => ?_⟩, by omega⟩
    obtain ⟨x, A', B', C', j1, j2, j3, j4⟩ := r3.split (i := i) (s := il l) (by rw [← hc, List.getElem?_map, hl']; rfl)
    rcases j3.il_inv with ⟨rfl, rfl, _⟩ | ⟨o', rfl, h6, _⟩
    · exact ⟨none, 0, j1, .nil⟩
    · exact ⟨_, _, j1, RdI.ofRow h6 rfl⟩
end
end Go.Am
namespace Go.Proofs.Ytammndhoillliaa
open Go.Am
set_option linter.unusedVariables false
set_option linter.unusedSimpArgs false
set_option maxRecDepth 30000

@[push_cast] theorem behind_refl {α : Type} {h : H} {r : Option α} : behind true h h r = r := behind_true (List.prefix_refl h)
/-- is one of the m numbers from the i-th on such? -/
def anyF (p : Int → Bool) (l : List Int) : Nat → Nat → Bool
  | 0, _ => false
  | m + 1, i => p (gi l i) || anyF p l m (i + 1)
theorem gi_cons_succ (x : Int) (l : List Int) (i : Nat) : gi (x :: l) ((i + 1 : Nat) : Int) = gi l i := by
  unfold gi; rw [Int.toNat_natCast, Int.toNat_natCast]; rfl
theorem anyF_cons (p : Int → Bool) (x : Int) (l : List Int) : ∀ m i, anyF p (x :: l) m (i + 1) = anyF p l m i
  | 0, _ => rfl
  | m + 1, i => by rw [anyF, anyF, gi_cons_succ, anyF_cons p x l m (i + 1)]
theorem anyF_all (p : Int → Bool) : ∀ l : List Int, anyF p l l.length 0 = l.any p
  | [] => rfl
  | x :: l => by rw [List.length_cons, anyF, anyF_cons, anyF_all p l, List.any_cons]; rfl
theorem gi_nat {l : List Int} {i : Nat} (hi : i < l.length) : gi l i = l[i] := by
  unfold gi; rw [Int.toNat_natCast, List.getD_eq_getElem?_getD, List.getElem?_eq_getElem hi]; rfl

theorem gi_mem' {l : List Int} {v : Int} (h : v ∈ l) : ∃ j : Nat, j < l.length ∧ gi l j = v := by
  obtain ⟨i, hi, he⟩ := List.getElem_of_mem h
  exact ⟨i, hi, by rw [gi_nat hi, he]⟩
theorem gi_set' {zs : List Int} {a : Int} {v : Int} (h0 : 0 ≤ a) (h1 : a < zs.length) (p : Nat) : gi (zs.set a.toNat v) p = if a = p then v else gi zs p := by
  rw [gi_set (by omega)]
  by_cases he : a.toNat = p
  · rw [if_pos he, if_pos (by omega)]
  · rw [if_neg he, if_neg (by omega)]
theorem gi_ext {a b : List Int} (hl : a.length = b.length) (h : ∀ p : Nat, p < a.length → gi a p = gi b p) : a = b := by
  refine List.ext_getElem hl fun i h1 h2 => ?_
  have := h i h1
  rwa [gi_nat h1, gi_nat h2] at this
theorem drop_at {α : Type} {l : List α} {i : Nat} {x : α} (h : l[i]? = some x) : l.drop i = x :: l.drop (i + 1) := by
  obtain ⟨hi, he⟩ := List.getElem?_eq_some_iff.1 h
  rw [List.drop_eq_getElem_cons hi, he]
theorem drop_end {α : Type} {l : List α} {i : Nat} (h : l.length ≤ i) : l.drop i = [] := List.drop_eq_nil_of_le h
theorem at_some {α : Type} {l : List α} {i : Nat} (h : i < l.length) : ∃ x, l[i]? = some x := ⟨_, List.getElem?_eq_getElem h⟩
theorem drop_gj {c : List Int} {k : Nat} (hk : k < c.length) : c.drop k = gi c k :: c.drop (k + 1) := by
  rw [List.drop_eq_getElem_cons hk, gi_nat hk]

section
variable {h : H} {sa : Option Addr} {c : Nat} {l : List Int}
theorem _root_.Go.Am.RdI.at (hr : RdI h sa c l) {i : Nat} (hi : i < l.length) : ∃ o off, sa = some ⟨o, off, none⟩ ∧ o < h.length ∧ h.ld1 o (off + i) = some (.int .i64 (gi l i)) := by
  obtain ⟨o, off, h1, h2, h3⟩ := hr.addr (by omega)
  have := h3 (i : Int) (by omega) (by omega)
  rw [Int.toNat_natCast] at this
  exact ⟨o, off, h1, h2, this⟩
theorem in_loop (hr : RdI h sa c l) (x : Int) (hl : l.length ≤ 9223372036854775807) : ∀ (m i : Nat), i + m = l.length → ∀ ks,
    goL T [.tmp 4] [0, 1, 5] c114L0 (.blk 0 [] :: ks) [(0, .int .i64 x), (1, .slice sa l.length c), (5, .int .i64 i)] h =
      bif anyF (fun y => decide (y = x)) l m i then some (.bool true, h) else go T [.tmp 4] ks (Fr.of []) h
  | 0, i, hi, ks => by
    rw [goL_at c114L0.eq_def]
    simp (disch := first | omega | (simp only [Go.Am.len_push, Go.Am.len_set, Go.Am.len_kill] <;> omega) | fail) only [push_cast, seval, wrap64, dec_lt, dec_nlt, dec_le, dec_nle, dec_eq, dec_ne, if_pos, if_neg, Int.natCast_add, Int.natCast_one, Int.natCast_zero, Int.toNat_natCast, anyF, cond_false]
  | m + 1, i, hi, ks => by
    have ih := in_loop hr x hl m (i + 1) (by omega) ks
    obtain ⟨o, off, rfl, _, l1⟩ := hr.at (i := i) (by omega)
    rw [Int.natCast_add, Int.natCast_one] at ih
    rw [goL_at c114L0.eq_def, anyF]
    by_cases he : gi l i = x
    · rw [dec_eq he, Bool.true_or, cond_true]
      simp (disch := first | omega | (simp only [Go.Am.len_push, Go.Am.len_set, Go.Am.len_kill] <;> omega) | fail) only [push_cast, seval, wrap64, dec_lt, dec_nlt, dec_le, dec_nle, dec_eq, dec_ne, if_pos, if_neg, Int.natCast_add, Int.natCast_one, Int.natCast_zero, Int.toNat_natCast, l1]
    · rw [dec_ne he, Bool.false_or, ← ih]
      simp (disch := first | omega | (simp only [Go.Am.len_push, Go.Am.len_set, Go.Am.len_kill] <;> omega) | fail) only [push_cast, seval, wrap64, dec_lt, dec_nlt, dec_le, dec_nle, dec_eq, dec_ne, if_pos, if_neg, Int.natCast_add, Int.natCast_one, Int.natCast_zero, Int.toNat_natCast, l1]
theorem in_call (hr : RdI h sa c l) (x : Int) (hl : l.length ≤ 9223372036854775807) : call T 114 [.int .i64 x, .slice sa l.length c] h = some (.bool (l.any fun y => decide (y = x)), h) := by
  rw [call_at T114 rfl]
  unfold F114 c114
  have e := in_loop hr x hl l.length 0 (by omega)
  rw [anyF_all] at e
  simp only [Int.natCast_zero] at e
  simp (disch := first | omega | (simp only [Go.Am.len_push, Go.Am.len_set, Go.Am.len_kill] <;> omega) | fail) only [push_cast, seval]
  rw [e]
  cases l.any fun y => decide (y = x) <;> simp (disch := first | omega | (simp only [Go.Am.len_push, Go.Am.len_set, Go.Am.len_kill] <;> omega) | fail) only [push_cast, seval, cond_true, cond_false]

/-! ### where a list has such a number -/
def idxF (p : Int → Bool) (l : List Int) : Nat → Nat → Int
  | 0, _ => -1
  | m + 1, i => if p (gi l i) = true then i else idxF p l m (i + 1)
theorem idxF_any (p : Int → Bool) (l : List Int) : ∀ m i, decide (0 ≤ idxF p l m i) = anyF p l m i
  | 0, _ => rfl
  | m + 1, i => by
    rw [idxF, anyF]
    cases hp : p (gi l i) with
    | true => rw [if_pos rfl, Bool.true_or, decide_eq_true (by omega)]
    | false => rw [if_neg (by decide), Bool.false_or, idxF_any p l m (i + 1)]
theorem index_loop (hr : RdI h sa c l) (x : Int) (hl : l.length ≤ 9223372036854775807) : ∀ (m i : Nat), i + m = l.length → ∀ ks,
    goL T [.tmp 4] [0, 1, 7, 8] c152L0 (.blk 0 [] :: ks) [(0, .slice sa l.length c), (1, .int .i64 x), (7, .int .i64 l.length), (8, .int .i64 i)] h =
      if anyF (fun y => decide (y = x)) l m i = true then some (.int .i64 (idxF (fun y => decide (y = x)) l m i), h) else go T [.tmp 4] ks (Fr.of []) h
  | 0, i, hi, ks => by
    rw [goL_at c152L0.eq_def, anyF, if_neg (by decide)]
    simp (disch := first | omega | (simp only [Go.Am.len_push, Go.Am.len_set, Go.Am.len_kill] <;> omega) | fail) only [push_cast, seval, wrap64, dec_lt, dec_nlt, dec_le, dec_nle, dec_eq, dec_ne, if_pos, if_neg, Int.natCast_add, Int.natCast_one, Int.natCast_zero, Int.toNat_natCast]
  | m + 1, i, hi, ks => by
    have ih := index_loop hr x hl m (i + 1) (by omega) ks
    obtain ⟨o, off, rfl, _, l1⟩ := hr.at (i := i) (by omega)
    rw [Int.natCast_add, Int.natCast_one] at ih
    rw [goL_at c152L0.eq_def, anyF, idxF]
    by_cases he : gi l i = x
    · rw [decide_eq_true he, Bool.true_or, if_pos rfl, if_pos rfl]
      have he' : x = gi l i := he.symm
      simp (disch := first | omega | (simp only [Go.Am.len_push, Go.Am.len_set, Go.Am.len_kill] <;> omega) | fail) only [push_cast, seval, wrap64, dec_lt, dec_nlt, dec_le, dec_nle, dec_eq, dec_ne, if_pos, if_neg, Int.natCast_add, Int.natCast_one, Int.natCast_zero, Int.toNat_natCast, l1]
    · rw [decide_eq_false he, Bool.false_or, if_neg (show ¬ false = true by decide), ← ih]
      have he' : ¬ x = gi l i := fun e => he e.symm
      simp (disch := first | omega | (simp only [Go.Am.len_push, Go.Am.len_set, Go.Am.len_kill] <;> omega) | fail) only [push_cast, seval, wrap64, dec_lt, dec_nlt, dec_le, dec_nle, dec_eq, dec_ne, if_pos, if_neg, Int.natCast_add, Int.natCast_one, Int.natCast_zero, Int.toNat_natCast, l1]
theorem contains_call (hr : RdI h sa c l) (x : Int) (hl : l.length ≤ 9223372036854775807) : call T 113 [.slice sa l.length c, .int .i64 x] h = some (.bool (l.any fun y => decide (y = x)), h) := by
  have e1 : call T 152 [.slice sa l.length c, .int .i64 x] h = some (.int .i64 (idxF (fun y => decide (y = x)) l l.length 0), h) := by
    rw [call_at T152 rfl]
    unfold F152 c152
    have e := index_loop hr x hl l.length 0 (by omega)
    simp only [Int.natCast_zero] at e
    simp (disch := first | omega | (simp only [Go.Am.len_push, Go.Am.len_set, Go.Am.len_kill] <;> omega) | fail) only [push_cast, seval]
    rw [e]
    have hn := idxF_any (fun y => decide (y = x)) l l.length 0
    cases ha : anyF (fun y => decide (y = x)) l l.length 0 with
    | true => rw [if_pos rfl]
    | false =>
      rw [if_neg (by decide)]
      simp (disch := first | omega | (simp only [Go.Am.len_push, Go.Am.len_set, Go.Am.len_kill] <;> omega) | fail) only [push_cast, seval]
      rw [ha] at hn
      have hz : ∀ m i, anyF (fun y => decide (y = x)) l m i = false → idxF (fun y => decide (y = x)) l m i = -1 := by
        intro m
        induction m with
        | zero => intro i _; rfl
        | succ m ih =>
          intro i hi
          rw [anyF, Bool.or_eq_false_iff] at hi
          rw [idxF, hi.1, if_neg (by decide)]
          exact ih _ hi.2
      rw [hz _ _ ha]
  have e2 := idxF_any (fun y => decide (y = x)) l l.length 0
  rw [anyF_all] at e2
  rw [call_at T113 rfl]
  unfold F113 c113
  simp (disch := first | omega | (simp only [Go.Am.len_push, Go.Am.len_set, Go.Am.len_kill] <;> omega) | fail) only [push_cast, seval, e1]
  rw [e2]
theorem indexFunc_loop (hr : RdI h sa c l) (hl : l.length ≤ 9223372036854775807) {k : FuncId} {cap : Array Value} {p : Int → Bool} (hp : ∀ v, call T k (.int .i64 v :: cap.toList) h = some (.bool (p v), h)) : ∀ (m i : Nat), i + m = l.length → ∀ ks,
    goL T [.tmp 4] [0, 1, 7, 8] c148L0 (.blk 0 [] :: ks) [(0, .slice sa l.length c), (1, .func (.func k) #[] cap), (7, .int .i64 l.length), (8, .int .i64 i)] h =
      if anyF p l m i = true then some (.int .i64 (idxF p l m i), h) else go T [.tmp 4] ks (Fr.of []) h
  | 0, i, hi, ks => by
    rw [goL_at c148L0.eq_def, anyF, if_neg (by decide)]
    simp (disch := first | omega | (simp only [Go.Am.len_push, Go.Am.len_set, Go.Am.len_kill] <;> omega) | fail) only [push_cast, seval, wrap64, dec_lt, dec_nlt, dec_le, dec_nle, dec_eq, dec_ne, if_pos, if_neg, Int.natCast_add, Int.natCast_one, Int.natCast_zero, Int.toNat_natCast]
  | m + 1, i, hi, ks => by
    have ih := indexFunc_loop hr hl hp m (i + 1) (by omega) ks
    obtain ⟨o, off, rfl, _, l1⟩ := hr.at (i := i) (by omega)
    rw [Int.natCast_add, Int.natCast_one] at ih
    rw [goL_at c148L0.eq_def, anyF, idxF]
    have hpi := hp (gi l i)
    cases he : p (gi l i) with
    | true =>
      rw [he] at hpi
      rw [Bool.true_or, if_pos rfl, if_pos rfl]
      simp (disch := first | omega | (simp only [Go.Am.len_push, Go.Am.len_set, Go.Am.len_kill] <;> omega) | fail) only [push_cast, seval, wrap64, dec_lt, dec_nlt, dec_le, dec_nle, dec_eq, dec_ne, if_pos, if_neg, Int.natCast_add, Int.natCast_one, Int.natCast_zero, Int.toNat_natCast, l1, hpi]
    | false =>
      rw [he] at hpi
      rw [Bool.false_or, if_neg (show ¬ false = true by decide), ← ih]
      simp (disch := first | omega | (simp only [Go.Am.len_push, Go.Am.len_set, Go.Am.len_kill] <;> omega) | fail) only [push_cast, seval, wrap64, dec_lt, dec_nlt, dec_le, dec_nle, dec_eq, dec_ne, if_pos, if_neg, Int.natCast_add, Int.natCast_one, Int.natCast_zero, Int.toNat_natCast, l1, hpi]
theorem containsFunc_call (hr : RdI h sa c l) (hl : l.length ≤ 9223372036854775807) {k : FuncId} {cap : Array Value} {p : Int → Bool} (hp : ∀ v, call T k (.int .i64 v :: cap.toList) h = some (.bool (p v), h)) :
    call T 94 [.slice sa l.length c, .func (.func k) #[] cap] h = some (.bool (l.any p), h) := by
  have hz : ∀ m i, anyF p l m i = false → idxF p l m i = -1 := by
    intro m
    induction m with
    | zero => intro i _; rfl
    | succ m ih =>
      intro i hi
      rw [anyF, Bool.or_eq_false_iff] at hi
      rw [idxF, hi.1, if_neg (by decide)]
      exact ih _ hi.2
  have e1 : call T 148 [.slice sa l.length c, .func (.func k) #[] cap] h = some (.int .i64 (idxF p l l.length 0), h) := by
    rw [call_at T148 rfl]
    unfold F148 c148
    have e := indexFunc_loop hr hl hp l.length 0 (by omega)
    simp only [Int.natCast_zero] at e
    simp (disch := first | omega | (simp only [Go.Am.len_push, Go.Am.len_set, Go.Am.len_kill] <;> omega) | fail) only [push_cast, seval]
    rw [e]
    cases ha : anyF p l l.length 0 with
    | true => rw [if_pos rfl]
    | false =>
      rw [if_neg (by decide)]
      simp (disch := first | omega | (simp only [Go.Am.len_push, Go.Am.len_set, Go.Am.len_kill] <;> omega) | fail) only [push_cast, seval]
      rw [hz _ _ ha]
  have e2 := idxF_any p l l.length 0
  rw [anyF_all] at e2
  rw [call_at T94 rfl]
  unfold F94 c94
  simp (disch := first | omega | (simp only [Go.Am.len_push, Go.Am.len_set, Go.Am.len_kill] <;> omega) | fail) only [push_cast, seval, e1]
  rw [e2]

/-! ### lists of one's own -/
/-- a copy, behind what there is -/
def Fresh (h h' : H) (o : Nat) (l : List Int) : Prop := h <+: h' ∧ h.length ≤ o ∧ h'.row o = some ⟨ints l, 3, 1, true⟩
theorem copy_call (hr : RdI h sa c l) (hl : l.length ≤ 1000000) : ∃ (o : Nat) (h' : H), Fresh h h' o l ∧ call T 106 [.slice sa l.length c] h = some (.slice (some ⟨o, 0, none⟩) l.length l.length, h') := by
  have hs := (hr.mono (List.prefix_append h [.row ⟨[], 3, 1, true⟩])).src
  have e : aapp 3 1 8 (h ++ [.row ⟨[], 3, 1, true⟩]) (.slice (some ⟨h.length, 0, none⟩) 0 0) (.slice sa l.length c) = some (.slice (some ⟨h.length + 1, 0, none⟩) l.length l.length, kill (h ++ [.row ⟨[], 3, 1, true⟩]) h.length ++ [.row ⟨ints l, 3, 1, true⟩]) := by
    unfold aapp
    simp only [hs, row_push_new]
    rw [if_pos (by simp [few]; omega), len_push, Nat.zero_add]
    rfl
  refine ⟨h.length + 1, kill (h ++ [.row ⟨[], 3, 1, true⟩]) h.length ++ [.row ⟨ints l, 3, 1, true⟩], ⟨pre_push (pre_kill (List.prefix_append _ _) (Nat.le_refl _)), by omega, front_row⟩, ?_⟩
  rw [call_at T106 rfl]
  unfold F106 c106
  simp (disch := first | omega | (simp only [Go.Am.len_push, Go.Am.len_set, Go.Am.len_kill] <;> omega) | fail) only [push_cast, seval, e]
theorem clone_call (hr : RdI h sa c l) (h0 : 0 < l.length) (hl : l.length ≤ 1000000) : ∃ (o : Nat) (h' : H), Fresh h h' o l ∧ call T 98 [.slice sa l.length c] h = some (.slice (some ⟨o, 0, none⟩) l.length l.length, h') := by
  obtain ⟨o, off, rfl, _⟩ := hr.addr h0
  have hs := (hr.mono (List.prefix_append h [.row ⟨[], 3, 1, true⟩])).src
  have e : aapp 3 1 8 (h ++ [.row ⟨[], 3, 1, true⟩]) (.slice (some ⟨h.length, 0, none⟩) 0 0) (.slice (some ⟨o, off, none⟩) l.length c) = some (.slice (some ⟨h.length + 1, 0, none⟩) l.length l.length, kill (h ++ [.row ⟨[], 3, 1, true⟩]) h.length ++ [.row ⟨ints l, 3, 1, true⟩]) := by
    unfold aapp
    simp only [hs, row_push_new]
    rw [if_pos (by simp [few]; omega), len_push, Nat.zero_add]
    rfl
  refine ⟨h.length + 1, kill (h ++ [.row ⟨[], 3, 1, true⟩]) h.length ++ [.row ⟨ints l, 3, 1, true⟩], ⟨pre_push (pre_kill (List.prefix_append _ _) (Nat.le_refl _)), by omega, front_row⟩, ?_⟩
  rw [call_at T98 rfl]
  unfold F98 c98
  simp (disch := first | omega | (simp only [Go.Am.len_push, Go.Am.len_set, Go.Am.len_kill] <;> omega) | fail) only [push_cast, seval, e]

/-! ### raw numbers -/
def pickI (a n : Int) : Int := (if a < 0 then -(a + 1) else a).tmod n
theorem pick_call (a n : Int) (h1 : -9223372036854775808 ≤ a) (h2 : a ≤ 9223372036854775807) (hn : 0 < n) (hn2 : n ≤ 9223372036854775807) (h : H) : call T 33 [.int .i64 a, .int .i64 n] h = some (.int .i64 (pickI a n), h) := by
  rw [call_at T33 rfl]
  unfold F33 c33 pickI
  by_cases h0 : a < 0
  · rw [if_pos h0]
    simp (disch := first | omega | (simp only [Go.Am.len_push, Go.Am.len_set, Go.Am.len_kill] <;> omega) | fail) only [push_cast, seval, wrap64, dec_lt, dec_nlt, dec_le, dec_nle, dec_eq, dec_ne, if_pos, if_neg, Int.natCast_add, Int.natCast_one, Int.natCast_zero, Int.toNat_natCast]
    rw [show (0 : Int) - (a + 1) = -(a + 1) by omega]
  · rw [if_neg h0]
    simp (disch := first | omega | (simp only [Go.Am.len_push, Go.Am.len_set, Go.Am.len_kill] <;> omega) | fail) only [push_cast, seval, wrap64, dec_lt, dec_nlt, dec_le, dec_nle, dec_eq, dec_ne, if_pos, if_neg, Int.natCast_add, Int.natCast_one, Int.natCast_zero, Int.toNat_natCast]
theorem pickI_ok {a n : Int} (hn : 0 < n) : 0 ≤ pickI a n ∧ pickI a n < n := by
  unfold pickI
  split
  · exact ⟨Int.tmod_nonneg _ (by omega), Int.tmod_lt_of_pos _ hn⟩
  · exact ⟨Int.tmod_nonneg _ (by omega), Int.tmod_lt_of_pos _ hn⟩
/-- the i-th raw number, again and again -/
def rawI (l : List Int) (i : Int) : Int := if l.length = 0 then i else IntKind.wrap .i64 (gi l (i.tmod l.length) + IntKind.wrap .i64 (IntKind.wrap .i64 (i.tdiv l.length) * 7919))
theorem raw_call (hr : RdI h sa c l) (i : Int) (hi : 0 ≤ i) (hl : l.length ≤ 1000000) : call T 92 [.slice sa l.length c, .int .i64 i] h = some (.int .i64 (rawI l i), h) := by
  rw [call_at T92 rfl]
  unfold F92 c92 rawI
  by_cases h0 : l.length = 0
  · rw [if_pos h0]
    have h0' : (l.length : Int) = 0 := by omega
    simp (disch := first | omega | (simp only [Go.Am.len_push, Go.Am.len_set, Go.Am.len_kill] <;> omega) | fail) only [push_cast, seval, wrap64, dec_lt, dec_nlt, dec_le, dec_nle, dec_eq, dec_ne, if_pos, if_neg, Int.natCast_add, Int.natCast_one, Int.natCast_zero, Int.toNat_natCast]
  · rw [if_neg h0]
    have hz : ¬ (l.length : Int) = 0 := by omega
    have b1 : 0 ≤ i.tmod l.length := Int.tmod_nonneg _ hi
    have b2 : i.tmod l.length < l.length := Int.tmod_lt_of_pos _ (by omega)
    obtain ⟨o, off, rfl, _, l1⟩ := hr.addr (by omega)
    have l2 := l1 _ b1 b2
    simp (disch := first | omega | (simp only [Go.Am.len_push, Go.Am.len_set, Go.Am.len_kill] <;> omega) | fail) only [push_cast, seval, wrap64, dec_lt, dec_nlt, dec_le, dec_nle, dec_eq, dec_ne, if_pos, if_neg, Int.natCast_add, Int.natCast_one, Int.natCast_zero, Int.toNat_natCast, l2]
theorem wrap_i64_in (x : Int) : -9223372036854775808 ≤ IntKind.wrap .i64 x ∧ IntKind.wrap .i64 x ≤ 9223372036854775807 := by rw [IntKind.wrap_i64]; omega
theorem rawI_in {l : List Int} {i : Int} (h0 : 0 ≤ i) (h1 : i ≤ 9223372036854775807) : -9223372036854775808 ≤ rawI l i ∧ rawI l i ≤ 9223372036854775807 := by
  unfold rawI
  split
  · omega
  · exact wrap_i64_in _
end
end Go.Proofs.Ytammndhoillliaa
namespace Go.Proofs.Ytammndhoillliaa
open Go.Am
set_option linter.unusedVariables false
set_option linter.unusedSimpArgs false
set_option maxRecDepth 30000

/-- a slice that reads as a list, and is nil where the list is empty; it does not lie in row o -/
def RdP (h : H) (o : Nat) (v : Value) (l : List Int) : Prop :=
  ∃ (a : Option Addr) (c : Nat), v = .slice a l.length c ∧ ((a = none ∧ c = 0 ∧ l = []) ∨ (l.length ≤ c ∧ ∃ o' off r, a = some ⟨o', off, none⟩ ∧ o' ≠ o ∧ h.row o' = some r ∧ (r.own = true → r.unit = 1) ∧ ∀ i : Int, 0 ≤ i → i < l.length → r.cells[off + i.toNat]? = some (.int .i64 (gi l i))))
theorem RdP.rd {h : H} {o : Nat} {v : Value} {l : List Int} (hr : RdP h o v l) : ∃ (a : Option Addr) (c : Nat), v = .slice a l.length c ∧ RdI h a c l := by
  obtain ⟨a, c, h1, h2⟩ := hr
  refine ⟨a, c, h1, ?_⟩
  rcases h2 with h2 | ⟨h2, o', off, r, h3, _, h4, h5⟩
  · exact .inl h2
  · exact .inr ⟨h2, o', off, r, h3, h4, h5⟩
theorem RdP.keep {h h' : H} {o p : Nat} {v : Value} {l : List Int} (hr : RdP h o v l) (hk : ∀ x r, x ≠ o → h.row x = some r → h'.row x = some r ∧ x ≠ p) : RdP h' p v l := by
  obtain ⟨a, c, h1, h2⟩ := hr
  refine ⟨a, c, h1, ?_⟩
  rcases h2 with h2 | ⟨h2, o', off, r, h3, h6, h4, h5⟩
  · exact .inl h2
  · exact .inr ⟨h2, o', off, r, h3, (hk _ _ h6 h4).2, (hk _ _ h6 h4).1, h5⟩
/-- lists that are put one behind the other -/
def GL (e : TypeId) (h : H) (sa : Option Addr) (c : Nat) (ll : List (List Int)) (lo : Nat) : Prop :=
  (sa = none ∧ c = 0 ∧ ll = []) ∨ ∃ o vs, sa = some ⟨o, 0, none⟩ ∧ lo ≤ o ∧ c = ll.length ∧ h.row o = some ⟨vs, e, 1, true⟩ ∧ vs.length = ll.length ∧ ∀ (i : Nat) (l : List Int), ll[i]? = some l → ∃ v, vs[i]? = some v ∧ RdP h o v l
theorem GL.nil {e : TypeId} {h : H} {lo : Nat} : GL e h none 0 [] lo := .inl ⟨rfl, rfl, rfl⟩
theorem GL.rd {e : TypeId} {h : H} {sa : Option Addr} {c lo : Nat} {ll : List (List Int)} (hr : GL e h sa c ll lo) : RdLL h sa c ll := by
  rcases hr with h1 | ⟨o, vs, h1, h2, h3, h4, h5, h6⟩
  · exact .inl h1
  · refine .inr ⟨o, _, h1, by omega, h4, h5, fun i l hl => ?_⟩
    obtain ⟨v, k1, k2⟩ := h6 i l hl
    obtain ⟨a, c', k3, k4⟩ := k2.rd
    exact ⟨a, c', by rw [← k3]; exact k1, k4⟩
theorem GL.cap {e : TypeId} {h : H} {sa : Option Addr} {c lo : Nat} {ll : List (List Int)} (hr : GL e h sa c ll lo) : c = ll.length := by
  rcases hr with ⟨_, rfl, rfl⟩ | ⟨o, vs, h1, h2, h3, h4, h5⟩
  · rfl
  · exact h3
theorem GL.mono {e : TypeId} {h h' : H} {sa : Option Addr} {c lo : Nat} {ll : List (List Int)} (hr : GL e h sa c ll lo) (hp : h <+: h') : GL e h' sa c ll lo := by
  rcases hr with h1 | ⟨o, vs, h1, h2, h3, h4, h5, h6⟩
  · exact .inl h1
  · refine .inr ⟨o, vs, h1, h2, h3, row_pre h4 hp, h5, fun i l hl => ?_⟩
    obtain ⟨v, k1, k2⟩ := h6 i l hl
    exact ⟨v, k1, k2.keep fun x r hx hr => ⟨row_pre hr hp, hx⟩⟩
/-- one list more; it lies in what is new since the row of lists was made -/
theorem GL.app {e : TypeId} {h : H} {sa a3 : Option Addr} {c lo c3 : Nat} {ll : List (List Int)} {l3 : List Int} (hr : GL e h sa c ll lo) (h3 : RdI h a3 c3 l3) (h3n : l3 = [] → a3 = none ∧ c3 = 0) (hd : ∀ x y, sa = some x → a3 = some y → y.block ≠ x.block) (hl : ll.length ≤ 1000000) (hlo : lo ≤ h.length) :
    ∃ sa' h', aapp e 1 24 (h ++ [.row ⟨[.slice a3 l3.length c3], e, 1, true⟩]) (.slice sa ll.length c) (.slice (some ⟨h.length, 0, none⟩) 1 1) = some (.slice sa' (ll.length + 1) (ll.length + 1), h') ∧
      GL e h' sa' (ll.length + 1) (ll ++ [l3]) lo ∧ h.length ≤ h'.length ∧ (∀ o, o < lo → h'.row o = h.row o) ∧ (∀ p : H, p.length ≤ lo → p <+: h → p <+: h') ∧ (∀ x, sa' = some x → h.length ≤ x.block) ∧ (∀ (o : Nat), (∀ x, sa = some x → x.block ≠ o) → o < h.length → h'.row o = h.row o) := by
  have hsrc : srcCells (h ++ [.row ⟨[.slice a3 l3.length c3], e, 1, true⟩]) 1 1 (.slice (some ⟨h.length, 0, none⟩) 1 1) = some [.slice a3 l3.length c3] := by
    unfold srcCells H.lds
    simp only [row_push_new]
    rw [if_neg (by omega), if_pos (Nat.le_refl 1)]
    simp only [none_isNone, if_true]
    rw [if_pos (by simp)]
    rfl
  have h3' : ∀ {h' : H} {p : Nat}, (∀ y r, a3 = some y → h.row y.block = some r → h'.row y.block = some r ∧ y.block ≠ p) → RdP h' p (.slice a3 l3.length c3) l3 := by
    intro h' p hk
    by_cases hn : l3 = []
    · obtain ⟨e1, e2⟩ := h3n hn
      exact ⟨a3, c3, rfl, .inl ⟨e1, e2, hn⟩⟩
    · rcases h3 with ⟨_, _, h⟩ | ⟨k1, o', off, r, k2, k3, k4⟩
      · exact absurd h hn
      · have := hk _ r k2 k3
        exact ⟨a3, c3, rfl, .inr ⟨k1, o', off, r, k2, this.2, this.1, k4⟩⟩
  rcases hr with ⟨rfl, rfl, rfl⟩ | ⟨o, vs, rfl, ho, rfl, hrow, hvl, hin⟩
  · refine ⟨some ⟨h.length + 1, 0, none⟩, h ++ [.row ⟨[.slice a3 l3.length c3], e, 1, true⟩] ++ [.row ⟨[.slice a3 l3.length c3], e, 1, true⟩], ?_, .inr ⟨h.length + 1, _, rfl, by omega, rfl, row_new (by rw [len_push]), rfl, fun i l hl' => ?_⟩, by simp, fun o ho => ?_, fun p hp1 hp2 => pre_push (pre_push hp2), fun x hx => ?_, fun o _ ho => ?_⟩
    · unfold aapp; simp only [hsrc, List.length_nil]
      rw [if_pos (by simp), if_neg (by omega), if_pos (by simp [few]), len_push]
    · cases i with
      | succ i => simp at hl'
      | zero =>
        simp at hl'; subst hl'
        refine ⟨_, rfl, h3' fun y r hy hr => ?_⟩
        have := row_some_lt hr
        exact ⟨by rw [row_old (by rw [len_push]; omega), row_old this]; exact hr, by omega⟩
    · rw [row_old (by rw [len_push]; omega), row_old (by omega)]
    · cases hx; simp
    · rw [row_old (by rw [len_push]; omega), row_old (by omega)]
  · have hol := row_some_lt hrow
    have hkeep : ∀ x r, x ≠ o → h.row x = some r → (kill (h ++ [.row ⟨[.slice a3 l3.length c3], e, 1, true⟩]) o ++ [Ob.row ⟨vs ++ [.slice a3 l3.length c3], e, 1, true⟩]).row x = some r ∧ x ≠ h.length + 1 := by
      intro x r hx hr
      have := row_some_lt hr
      exact ⟨by rw [row_old (by rw [len_kill, len_push]; omega), row_kill (Ne.symm hx), row_old this]; exact hr, by omega⟩
    refine ⟨some ⟨h.length + 1, 0, none⟩, kill (h ++ [.row ⟨[.slice a3 l3.length c3], e, 1, true⟩]) o ++ [.row ⟨vs ++ [.slice a3 l3.length c3], e, 1, true⟩], ?_, .inr ⟨h.length + 1, _, rfl, by omega, by simp, row_new (by rw [len_kill, len_push]), by simp [hvl], fun i l hl' => ?_⟩, by rw [len_push, len_kill, len_push]; omega, fun o' ho' => ?_, fun p hp1 hp2 => pre_push (pre_kill (pre_push hp2) (by omega)), fun x hx => ?_, fun o' h1 h2 => ?_⟩
    · unfold aapp; simp only [hsrc, row_old hol, hrow]
      rw [if_pos (by simp [few]; omega), len_push]
      simp only [List.drop_zero, Nat.mul_one]
      rw [List.take_of_length_le (by omega)]
    · by_cases hil : i < ll.length
      · rw [List.getElem?_append_left hil] at hl'
        obtain ⟨v, k1, k2⟩ := hin i l hl'
        exact ⟨v, by rw [List.getElem?_append_left (by omega)]; exact k1, k2.keep hkeep⟩
      · rw [List.getElem?_append_right (by omega)] at hl'
        have hi0 : i - ll.length = 0 := by
          by_cases h0 : i - ll.length = 0
          · exact h0
          · rw [List.getElem?_eq_none (by simp; omega)] at hl'; cases hl'
        rw [hi0] at hl'
        cases hl'
        refine ⟨_, by rw [List.getElem?_append_right (by omega), hvl, hi0]; rfl, h3' fun y r hy hr => hkeep _ _ (hd _ _ rfl hy) hr⟩
    · rw [row_old (by rw [len_kill, len_push]; omega), row_kill (by omega), row_old (by omega)]
    · cases hx; simp
    · have := h1 _ rfl
      rw [row_old (by rw [len_kill, len_push]; omega), row_kill this, row_old (by omega)]

/-! ### raw numbers -/
def numsL (raw : List Int) (frm q : Int) : Nat → Nat → List Int
  | 0, _ => []
  | m + 1, i => pickI (rawI raw (frm + i)) q :: numsL raw frm q m (i + 1)
theorem numsL_len (raw : List Int) (frm q : Int) : ∀ m i, (numsL raw frm q m i).length = m
  | 0, _ => rfl
  | m + 1, i => by rw [numsL, List.length_cons, numsL_len]
section
variable {h0 : H} {sr : Option Addr} {cr : Nat} {raw : List Int}
theorem nums_loop (hr : RdI h0 sr cr raw) (hrl : raw.length ≤ 1000000) {frm q : Int} (hf0 : 0 ≤ frm) (hf1 : frm ≤ 1000000000) (hq0 : 0 < q) (hq1 : q ≤ 9223372036854775807) {N : Nat} (hN : N ≤ 100000) : ∀ (m i : Nat) (zs : List Int) (s : Option Addr) (c : Nat) (G : H), i + m = N → zs.length = i → Grown G s c zs h0.length → h0 <+: G →
    ∃ (s' : Option Addr) (c' : Nat) (G' : H), h0 <+: G' ∧ Grown G' s' c' (zs ++ numsL raw frm q m i) h0.length ∧ ∀ ks,
      goL T [.tmp 8] [0, 1, 2, 3, 9, 10] c36L0 (.blk 0 [9] :: ks) [(0, .slice sr raw.length cr), (1, .int .i64 frm), (2, .int .i64 q), (3, .int .i64 N), (9, .slice s zs.length c), (10, .int .i64 i)] G =
        go T [.tmp 8] ks (Fr.of [(9, .slice s' (zs ++ numsL raw frm q m i).length c')]) G'
  | 0, i, zs, s, c, G, hi, hz, hg, hp => by
    refine ⟨s, c, G, hp, by rw [numsL, List.append_nil]; exact hg, fun ks => ?_⟩
    rw [goL_at c36L0.eq_def, numsL, List.append_nil]
    simp (disch := first | omega | (simp only [Go.Am.len_push, Go.Am.len_set, Go.Am.len_kill] <;> omega) | fail) only [push_cast, seval, wrap64, dec_lt, dec_nlt, dec_le, dec_nle, dec_eq, dec_ne, if_pos, if_neg, Int.natCast_add, Int.natCast_one, Int.natCast_zero, Int.toNat_natCast]
  | m + 1, i, zs, s, c, G, hi, hz, hg, hp => by
    have e1 := raw_call (hr.mono hp) (frm + i) (by omega) hrl
    have hri := rawI_in (l := raw) (i := frm + i) (by omega) (by omega)
    have e2 := pick_call (rawI raw (frm + i)) q hri.1 hri.2 hq0 hq1 G
    obtain ⟨s1, G1, e3, g1, q1, q2, q3⟩ := hg.one (y := pickI (rawI raw (frm + i)) q) (by omega) hp.length_le
    obtain ⟨s', c', G', k1, k2, k3⟩ := nums_loop hr hrl hf0 hf1 hq0 hq1 hN m (i + 1) (zs ++ [pickI (rawI raw (frm + i)) q]) s1 (zs.length + 1) G1 (by omega) (by simp; omega) g1 (q3 h0 (Nat.le_refl _) hp)
    have hll : zs ++ numsL raw frm q (m + 1) i = (zs ++ [pickI (rawI raw (frm + i)) q]) ++ numsL raw frm q m (i + 1) := by rw [numsL, List.append_assoc]; rfl
    rw [hll]
    refine ⟨s', c', G', k1, k2, fun ks => ?_⟩
    have ih := k3 ks
    rw [Int.natCast_add, Int.natCast_one, show (zs ++ [pickI (rawI raw (frm + i)) q]).length = zs.length + 1 by simp] at ih
    rw [goL_at c36L0.eq_def, ← ih]
    simp (disch := first | omega | (simp only [Go.Am.len_push, Go.Am.len_set, Go.Am.len_kill] <;> omega) | fail) only [push_cast, seval, wrap64, dec_lt, dec_nlt, dec_le, dec_nle, dec_eq, dec_ne, if_pos, if_neg, Int.natCast_add, Int.natCast_one, Int.natCast_zero, Int.toNat_natCast, e1, e2, e3]
theorem nums_call (hr : RdI h0 sr cr raw) (hrl : raw.length ≤ 1000000) {frm q : Int} (hf0 : 0 ≤ frm) (hf1 : frm ≤ 1000000000) (hq0 : 0 < q) (hq1 : q ≤ 9223372036854775807) {N : Nat} (hN : N ≤ 100000) : ∃ (s' : Option Addr) (c' : Nat) (G' : H), h0 <+: G' ∧ Grown G' s' c' (numsL raw frm q N 0) h0.length ∧
    call T 36 [.slice sr raw.length cr, .int .i64 frm, .int .i64 q, .int .i64 N] h0 = some (.slice s' (numsL raw frm q N 0).length c', G') := by
  obtain ⟨s', c', G', k1, k2, k3⟩ := nums_loop hr hrl hf0 hf1 hq0 hq1 hN N 0 [] none 0 h0 (by omega) rfl .nil (List.prefix_refl _)
  rw [List.nil_append] at k2 k3
  simp only [List.length_nil, Int.natCast_zero] at k3
  refine ⟨s', c', G', k1, k2, ?_⟩
  rw [call_at T36 rfl]
  unfold F36 c36
  simp (disch := first | omega | (simp only [Go.Am.len_push, Go.Am.len_set, Go.Am.len_kill] <;> omega) | fail) only [push_cast, seval]
  rw [k3]
  simp (disch := first | omega | (simp only [Go.Am.len_push, Go.Am.len_set, Go.Am.len_kill] <;> omega) | fail) only [push_cast, seval]

/-! ### words -/
def wordV (raw : List Int) (x : Int) (lost : Bool) : Int :=
  if 1 < pickI (rawI raw x) 4 then (if lost = true ∧ pickI ((rawI raw x).tdiv 4) 2 = 0 then -1 else pickI (rawI raw x) 4 - 2) else pickI (rawI raw x) 4
def wordL (raw : List Int) (frm : Int) (lost : Bool) : Nat → Nat → List Int
  | 0, _ => []
  | m + 1, i => wordV raw (frm + i) lost :: wordL raw frm lost m (i + 1)
theorem wordL_len (raw : List Int) (frm : Int) (lost : Bool) : ∀ m i, (wordL raw frm lost m i).length = m
  | 0, _ => rfl
  | m + 1, i => by rw [wordL, List.length_cons, wordL_len]
theorem word_loop (hr : RdI h0 sr cr raw) (hrl : raw.length ≤ 1000000) {frm : Int} (hf0 : 0 ≤ frm) (hf1 : frm ≤ 1000000000) (lost : Bool) {N : Nat} (hN : N ≤ 100000) : ∀ (m i : Nat) (zs : List Int) (s : Option Addr) (c : Nat) (G : H), i + m = N → zs.length = i → Grown G s c zs h0.length → h0 <+: G →
    ∃ (s' : Option Addr) (c' : Nat) (G' : H), h0 <+: G' ∧ Grown G' s' c' (zs ++ wordL raw frm lost m i) h0.length ∧ ∀ ks,
      goL T [.tmp 8] [0, 1, 2, 3, 9, 10] c35L0 (.blk 0 [9] :: ks) [(0, .slice sr raw.length cr), (1, .int .i64 frm), (2, .int .i64 N), (3, .bool lost), (9, .slice s zs.length c), (10, .int .i64 i)] G =
        go T [.tmp 8] ks (Fr.of [(9, .slice s' (zs ++ wordL raw frm lost m i).length c')]) G'
  | 0, i, zs, s, c, G, hi, hz, hg, hp => by
    refine ⟨s, c, G, hp, by rw [wordL, List.append_nil]; exact hg, fun ks => ?_⟩
    rw [goL_at c35L0.eq_def, wordL, List.append_nil]
    simp (disch := first | omega | (simp only [Go.Am.len_push, Go.Am.len_set, Go.Am.len_kill] <;> omega) | fail) only [push_cast, seval, wrap64, dec_lt, dec_nlt, dec_le, dec_nle, dec_eq, dec_ne, if_pos, if_neg, Int.natCast_add, Int.natCast_one, Int.natCast_zero, Int.toNat_natCast]
  | m + 1, i, zs, s, c, G, hi, hz, hg, hp => by
    have e1 := raw_call (hr.mono hp) (frm + i) (by omega) hrl
    have hri := rawI_in (l := raw) (i := frm + i) (by omega) (by omega)
    obtain ⟨x, hx⟩ : ∃ x, x = rawI raw (frm + i) := ⟨_, rfl⟩
    have e2 := pick_call x 4 (by omega) (by omega) (by omega) (by omega) G
    have hd : -9223372036854775808 ≤ x.tdiv 4 ∧ x.tdiv 4 ≤ 9223372036854775807 := by
      by_cases h0 : 0 ≤ x
      · rw [Int.tdiv_eq_ediv_of_nonneg h0]; omega
      · have : x.tdiv 4 = -((-x) / 4) := by rw [show x = -(-x) by omega, Int.neg_tdiv, Int.tdiv_eq_ediv_of_nonneg (by omega), Int.neg_neg]
        rw [this]; omega
    have e3 := pick_call (x.tdiv 4) 2 hd.1 hd.2 (by omega) (by omega) G
    have hp4 := pickI_ok (a := x) (n := 4) (by omega)
    obtain ⟨y, hy⟩ : ∃ y, y = wordV raw (frm + i) lost := ⟨_, rfl⟩
    obtain ⟨s1, G1, e4, g1, q1, q2, q3⟩ := hg.one (y := y) (by omega) hp.length_le
    obtain ⟨s', c', G', k1, k2, k3⟩ := word_loop hr hrl hf0 hf1 lost hN m (i + 1) (zs ++ [y]) s1 (zs.length + 1) G1 (by omega) (by simp; omega) g1 (q3 h0 (Nat.le_refl _) hp)
    have hll : zs ++ wordL raw frm lost (m + 1) i = (zs ++ [y]) ++ wordL raw frm lost m (i + 1) := by rw [wordL, List.append_assoc, hy]; rfl
    rw [hll]
    refine ⟨s', c', G', k1, k2, fun ks => ?_⟩
    have ih := k3 ks
    rw [Int.natCast_add, Int.natCast_one, show (zs ++ [y]).length = zs.length + 1 by simp] at ih
    rw [goL_at c35L0.eq_def, ← ih]
    rw [← hx] at e1
    unfold wordV at hy
    rw [← hx] at hy
    by_cases h1 : 1 < pickI x 4
    · rw [if_pos h1] at hy
      cases lost with
      | false =>
        rw [if_neg (fun hh => by cases hh.1)] at hy
        simp (disch := first | omega | (simp only [Go.Am.len_push, Go.Am.len_set, Go.Am.len_kill] <;> omega) | fail) only [push_cast, seval, wrap64, dec_lt, dec_nlt, dec_le, dec_nle, dec_eq, dec_ne, if_pos, if_neg, Int.natCast_add, Int.natCast_one, Int.natCast_zero, Int.toNat_natCast, e1, e2, ← hy, e4]
      | true =>
        by_cases h2 : pickI (x.tdiv 4) 2 = 0
        · rw [if_pos ⟨rfl, h2⟩] at hy
          subst hy
          simp (disch := first | omega | (simp only [Go.Am.len_push, Go.Am.len_set, Go.Am.len_kill] <;> omega) | fail) only [push_cast, seval, wrap64, dec_lt, dec_nlt, dec_le, dec_nle, dec_eq, dec_ne, if_pos, if_neg, Int.natCast_add, Int.natCast_one, Int.natCast_zero, Int.toNat_natCast, e1, e2, e3, e4]
        · rw [if_neg (fun hh => h2 hh.2)] at hy
          simp (disch := first | omega | (simp only [Go.Am.len_push, Go.Am.len_set, Go.Am.len_kill] <;> omega) | fail) only [push_cast, seval, wrap64, dec_lt, dec_nlt, dec_le, dec_nle, dec_eq, dec_ne, if_pos, if_neg, Int.natCast_add, Int.natCast_one, Int.natCast_zero, Int.toNat_natCast, e1, e2, e3, ← hy, e4]
    · rw [if_neg h1] at hy
      simp (disch := first | omega | (simp only [Go.Am.len_push, Go.Am.len_set, Go.Am.len_kill] <;> omega) | fail) only [push_cast, seval, wrap64, dec_lt, dec_nlt, dec_le, dec_nle, dec_eq, dec_ne, if_pos, if_neg, Int.natCast_add, Int.natCast_one, Int.natCast_zero, Int.toNat_natCast, e1, e2, ← hy, e4]
theorem wordOf_call (hr : RdI h0 sr cr raw) (hrl : raw.length ≤ 1000000) {frm : Int} (hf0 : 0 ≤ frm) (hf1 : frm ≤ 1000000000) (lost : Bool) {N : Nat} (hN : N ≤ 100000) : ∃ (s' : Option Addr) (c' : Nat) (G' : H), h0 <+: G' ∧ Grown G' s' c' (wordL raw frm lost N 0) h0.length ∧
    call T 35 [.slice sr raw.length cr, .int .i64 frm, .int .i64 N, .bool lost] h0 = some (.slice s' (wordL raw frm lost N 0).length c', G') := by
  obtain ⟨s', c', G', k1, k2, k3⟩ := word_loop hr hrl hf0 hf1 lost hN N 0 [] none 0 h0 (by omega) rfl .nil (List.prefix_refl _)
  rw [List.nil_append] at k2 k3
  simp only [List.length_nil, Int.natCast_zero] at k3
  refine ⟨s', c', G', k1, k2, ?_⟩
  rw [call_at T35 rfl]
  unfold F35 c35
  simp (disch := first | omega | (simp only [Go.Am.len_push, Go.Am.len_set, Go.Am.len_kill] <;> omega) | fail) only [push_cast, seval]
  rw [k3]
  simp (disch := first | omega | (simp only [Go.Am.len_push, Go.Am.len_set, Go.Am.len_kill] <;> omega) | fail) only [push_cast, seval]
end
end Go.Proofs.Ytammndhoillliaa
namespace Go.Proofs.Ytammndhoillliaa
open Go.Am
set_option linter.unusedVariables false
set_option linter.unusedSimpArgs false
set_option maxRecDepth 30000

/-- lists of lists, as long as Go's may be -/
structure Len2 (cs : List (List Int)) : Prop where
  len : cs.length ≤ 9223372036854775807
  each : ∀ c ∈ cs, c.length ≤ 9223372036854775807
section
variable {h : H} {sa : Option Addr} {C : Nat} {cs : List (List Int)}
/-! ### too much? -/
theorem heavy_loop (hr : RdLL h sa C cs) (hl2 : Len2 cs) : ∀ (m i : Nat) (n : Int), i + m = cs.length → ∃ b : Int, ∀ ks,
    goL T [.tmp 2] [0, 3, 4] c22L0 (.blk 0 [3] :: ks) [(0, .slice sa cs.length C), (3, .int .i64 n), (4, .int .i64 i)] h = go T [.tmp 2] ks (Fr.of [(3, .int .i64 b)]) h
  | 0, i, n, hi => by
    refine ⟨n, fun ks => ?_⟩
    rw [goL_at c22L0.eq_def]
    simp (disch := first | omega | (simp only [Go.Am.len_push, Go.Am.len_set, Go.Am.len_kill] <;> omega) | fail) only [push_cast, seval, wrap64, dec_lt, dec_nlt, dec_le, dec_nle, dec_eq, dec_ne, if_pos, if_neg, Int.natCast_add, Int.natCast_one, Int.natCast_zero, Int.toNat_natCast]
  | m + 1, i, n, hi => by
    have IH := heavy_loop hr hl2 m
    have hll := hl2.len
    obtain ⟨c, hc⟩ := at_some (l := cs) (i := i) (by omega)
    obtain ⟨o, a, c', rfl, l1, hra⟩ := hr.at hc
    by_cases hn : n ≤ 6000
    · obtain ⟨b, hb⟩ := IH (i + 1) (IntKind.wrap .i64 (n + c.length)) (by omega)
      refine ⟨b, fun ks => ?_⟩
      have hb := hb ks
      rw [Int.natCast_add, Int.natCast_one] at hb
      have w1 : IntKind.wrap .i64 ((i : Int) + 1) = (i : Int) + 1 := wrap64 (by omega) (by omega)
      have hlt : (i : Int) < (cs.length : Int) := by omega
      have hbd : (0 : Int) ≤ (i : Int) ∧ (i : Int) < (cs.length : Int) := by omega
      rw [goL_at c22L0.eq_def, ← hb]
      simp (disch := first | omega | (simp only [Go.Am.len_push, Go.Am.len_set, Go.Am.len_kill] <;> omega) | fail) only [push_cast, seval, dec_lt hlt, dec_le hn, hbd, l1, w1, Int.toNat_natCast]
    · refine ⟨n, fun ks => ?_⟩
      rw [goL_at c22L0.eq_def]
      simp (disch := first | omega | (simp only [Go.Am.len_push, Go.Am.len_set, Go.Am.len_kill] <;> omega) | fail) only [push_cast, seval, wrap64, dec_lt, dec_nlt, dec_le, dec_nle, dec_eq, dec_ne, if_pos, if_neg, Int.natCast_add, Int.natCast_one, Int.natCast_zero, Int.toNat_natCast]
theorem heavy_call (hr : RdLL h sa C cs) (hl2 : Len2 cs) : ∃ b : Bool, call T 22 [.slice sa cs.length C] h = some (.bool b, h) := by
  obtain ⟨b, hb⟩ := heavy_loop hr hl2 cs.length 0 cs.length (by omega)
  simp only [Int.natCast_zero] at hb
  refine ⟨decide (6000 < b), ?_⟩
  rw [call_at T22 rfl]
  unfold F22 c22
  simp (disch := first | omega | (simp only [Go.Am.len_push, Go.Am.len_set, Go.Am.len_kill] <;> omega) | fail) only [push_cast, seval]
  rw [hb]
  simp (disch := first | omega | (simp only [Go.Am.len_push, Go.Am.len_set, Go.Am.len_kill] <;> omega) | fail) only [push_cast, seval]
end
end Go.Proofs.Ytammndhoillliaa
namespace Go.Proofs.Ytammndhoillliaa
open Go.Am Go.Alg
set_option linter.unusedVariables false
set_option linter.unusedSimpArgs false
set_option maxRecDepth 30000

theorem gi_wf {q : Int} [IsFld q] (l : List (El q)) (i : Nat) : gi (vs l) i = (wf l i).v := gi_vs l i
theorem rd_at {q : Int} [IsFld q] {h : H} {sa : Option Addr} {c : Nat} {l : List (El q)} (hr : RdI h sa c (vs l)) {i : Nat} (hi : i < l.length) : ∃ o off, sa = some ⟨o, off, none⟩ ∧ o < h.length ∧ h.ld1 o (off + i) = some (.int .i64 (wf l i).v) := by
  obtain ⟨o, off, h1, h2, h3⟩ := hr.at (i := i) (by rw [vs_len]; exact hi)
  rw [gi_wf] at h3
  exact ⟨o, off, h1, h2, h3⟩
theorem take_less {K : Type} [FK K] {r o : List K} (c : K) (h : r.length = o.length) {i : Nat} (hi : i < r.length) : (lessL c r o).take (i + 1) = (lessL c r o).take i ++ [wf r i - c * wf o i] := by
  have hi2 : i < (lessL c r o).length := by rw [lessL_len h]; exact hi
  rw [List.take_succ_eq_append_getElem hi2, ← wf_at hi2, less_at h]
theorem v_ne {q : Int} [IsFld q] {a : El q} (h : a ≠ 0) : ¬ a.v = 0 := fun e => h (v_eq_zero.1 e)
theorem v_z {q : Int} [IsFld q] {a : El q} (h : a = 0) : a.v = 0 := v_eq_zero.2 h
section
variable {hF : H} {q p : Int} {m : Nat} {g : Int} {mod : List Int} {om cm B : Nat} [IsFld q]
theorem rless_loop (u : RUse hF q p m g mod om cm) (hB : hF.row B = some ⟨fvL q p m g (.slice (some ⟨om, 0, none⟩) mod.length cm), 67, 0, true⟩)
    {r o : List (El q)} {sr so : Option Addr} {cr co : Nat} (hr : RdI hF sr cr (vs r)) (ho : RdI hF so co (vs o)) (hl : r.length = o.length) (hn : r.length ≤ 100000) (c : El q) :
    ∀ (n i : Nat) (s9 : Option Addr) (c9 : Nat) (G : H), i + n = r.length → St hF G [(.slice s9 i c9, il (vs ((lessL c r o).take i)))] →
      ∃ (s' : Option Addr) (c' : Nat) (G' : H), St hF G' [(.slice s' r.length c', il (vs (lessL c r o)))] ∧ ∀ ks,
        goL T [.tmp 8] [1, 2, 3, 4, 9, 10] c172L0 (.blk 0 [9] :: ks) [(1, .slice sr r.length cr), (2, .slice so r.length co), (3, .int .i64 c.v), (4, .pointer (some ⟨B, 0, none⟩)), (9, .slice s9 i c9), (10, .int .i64 i)] G =
          go T [.tmp 8] ks (Fr.of [(9, .slice s' r.length c')]) G'
  | 0, i, s9, c9, G, hi, S => by
    obtain rfl : i = r.length := by omega
    rw [List.take_of_length_le (by rw [lessL_len hl]; exact Nat.le_refl _)] at S
    refine ⟨s9, c9, G, S, fun ks => ?_⟩
    rw [goL_at c172L0.eq_def]
    simp (disch := first | omega | (simp only [Go.Am.len_push, Go.Am.len_set, Go.Am.len_kill] <;> omega) | fail) only [push_cast, seval, wrap64, dec_lt, dec_nlt, dec_le, dec_nle, dec_eq, dec_ne, if_pos, if_neg, Int.natCast_add, Int.natCast_one, Int.natCast_zero, Int.toNat_natCast]
  | n + 1, i, s9, c9, G, hi, S => by
    have IH := rless_loop u hB hr ho hl hn c n (i + 1)
    rw [take_less c hl (by omega), vs_app, vs_cons, vs_nil] at IH
    obtain ⟨o1, f1, rfl, _, l1⟩ := rd_at (hr.mono S.pre) (i := i) (by omega)
    obtain ⟨o2, f2, rfl, _, l2⟩ := rd_at (ho.mono S.pre) (i := i) (by omega)
    by_cases hc : c = 0 ∨ wf o i = 0
    · have hx : wf r i - c * wf o i = wf r i := by
        rcases hc with h | h
        · rw [h, zero_mul, sub_zero]
        · rw [h, mul_zero, sub_zero]
      obtain ⟨s1, G1, e1, S1⟩ := S.appI (k := 0) rfl (wf r i).v (by omega)
      rw [hx] at IH
      obtain ⟨s', c', G', k1, k2⟩ := IH s1 (i + 1) G1 (by omega) S1
      refine ⟨s', c', G', k1, fun ks => ?_⟩
      have ih := k2 ks
      rw [Int.natCast_add, Int.natCast_one] at ih
      rw [goL_at c172L0.eq_def, ← ih]
      by_cases hc0 : c = 0
      · have hcv := v_z hc0
        simp (disch := first | omega | (simp only [Go.Am.len_push, Go.Am.len_set, Go.Am.len_kill] <;> omega) | fail) only [push_cast, seval, wrap64, dec_lt, dec_nlt, dec_le, dec_nle, dec_eq, dec_ne, if_pos, if_neg, Int.natCast_add, Int.natCast_one, Int.natCast_zero, Int.toNat_natCast, l1, l2, hcv, e1]
      · have hov := v_z (hc.resolve_left hc0)
        rw [hov] at l2
        simp (disch := first | omega | (simp only [Go.Am.len_push, Go.Am.len_set, Go.Am.len_kill] <;> omega) | fail) only [push_cast, seval, wrap64, dec_lt, dec_nlt, dec_le, dec_nle, dec_eq, dec_ne, if_pos, if_neg, Int.natCast_add, Int.natCast_one, Int.natCast_zero, Int.toNat_natCast, l1, l2, dec_ne (v_ne hc0), e1]
    · have hc0 : c ≠ 0 := fun h => hc (.inl h)
      have ho0 : wf o i ≠ 0 := fun h => hc (.inr h)
      have lB := lds_all (row_keep' hB S.pre) (n := 5) rfl
      obtain ⟨G1, p1, em⟩ := rmul_call (u.mono S.pre) c.v (wf o i).v
      obtain ⟨G2, p2, es⟩ := rsub_call (u.mono (S.pre.trans p1)) (wf r i).v (fmul q c.v (wf o i).v)
      obtain ⟨s1, G3, e1, S1⟩ := (S.grow (p1.trans p2)).appI (k := 0) rfl (fsub q (wf r i).v (fmul q c.v (wf o i).v)) (by omega)
      obtain ⟨s', c', G', k1, k2⟩ := IH s1 (i + 1) G3 (by omega) S1
      refine ⟨s', c', G', k1, fun ks => ?_⟩
      have ih := k2 ks
      rw [Int.natCast_add, Int.natCast_one] at ih
      rw [goL_at c172L0.eq_def, ← ih]
      simp (disch := first | omega | (simp only [Go.Am.len_push, Go.Am.len_set, Go.Am.len_kill] <;> omega) | fail) only [push_cast, seval, wrap64, dec_lt, dec_nlt, dec_le, dec_nle, dec_eq, dec_ne, if_pos, if_neg, Int.natCast_add, Int.natCast_one, Int.natCast_zero, Int.toNat_natCast, l1, l2, dec_ne (v_ne hc0), dec_ne (v_ne ho0), lB, em, behind_true p1, es, e1]
end
section
variable {h : H} {q p : Int} {m : Nat} {g : Int} {mod : List Int} {om cm : Nat} [IsFld q]
theorem rless_call (u : RUse h q p m g mod om cm) {r o : List (El q)} {sr so : Option Addr} {cr co : Nat} (hr : RdI h sr cr (vs r)) (ho : RdI h so co (vs o)) (hl : r.length = o.length) (hn : r.length ≤ 100000) (c : El q) :
    ∃ (s' : Option Addr) (c' : Nat) (G : H), St h G [(.slice s' r.length c', il (vs (lessL c r o)))] ∧ call T 172 [rv q p m g mod om cm, .slice sr r.length cr, .slice so r.length co, .int .i64 c.v] h = some (.slice s' r.length c', G) := by
  obtain ⟨h1, eh1⟩ : ∃ h1 : H, h1 = h ++ [rvR q p m g mod om cm] := ⟨_, rfl⟩
  have hB : h1.row h.length = some ⟨fvL q p m g (.slice (some ⟨om, 0, none⟩) mod.length cm), 67, 0, true⟩ := by rw [eh1]; exact row_push_new
  have p1 : h <+: h1 := by rw [eh1]; exact List.prefix_append _ _
  obtain ⟨s', c', G, k1, k2⟩ := rless_loop (u.mono p1) hB (hr.mono p1) (ho.mono p1) hl hn c r.length 0 none 0 h1 (by omega) (by rw [List.take_zero]; exact St.nils (List.prefix_refl _))
  simp only [Int.natCast_zero] at k2
  refine ⟨s', c', G, k1.low p1, ?_⟩
  rw [call_at T172 rfl]
  unfold F172 c172
  simp (disch := first | omega | (simp only [Go.Am.len_push, Go.Am.len_set, Go.Am.len_kill] <;> omega) | fail) only [push_cast, seval, ← eh1]
  rw [k2]
  simp (disch := first | omega | (simp only [Go.Am.len_push, Go.Am.len_set, Go.Am.len_kill] <;> omega) | fail) only [push_cast, seval]
end
end Go.Proofs.Ytammndhoillliaa
namespace Go.Am
set_option linter.unusedVariables false
set_option linter.unusedSimpArgs false

section
variable {hF G G' : H} {L M : List (Value × Tr)}
theorem splice_one {l : List Value} {i : Nat} {x : Value} (hi : i < l.length) : splice l i [x] = l.set i x := by
  unfold splice
  rw [List.set_eq_take_append_cons_drop, if_pos hi]
  simp
/-- a value of one cell is written -/
theorem St.stv (S : St hF G L) {k n c e : Nat} {sa : Option Addr} {cs : List Tr} (hk : L[k]? = some (.slice sa n c, .sl e 1 cs)) {i : Nat} (hi : i < cs.length) (x : Value) :
    ∃ (o : Nat) (G' : H), sa = some ⟨o, 0, none⟩ ∧ n = cs.length ∧ c = n ∧ G.sts o i [x] = some G' ∧ St hF G' (L.set k (.slice sa n c, .sl e 1 (cs.set i (.v x)))) ∧ G'.length = G.length := by
  obtain ⟨A, B, C, h1, h2, h3, h5, h4⟩ := S.swap hk
  cases h1 with
  | nil => cases hi
  | sl hr hl ho =>
    rename_i o vs F
    have hlen := ho.len
    obtain ⟨y, A', B', C', j1, j2, j3, j4⟩ := ho.split (i := i) (s := cs[i]) (List.getElem?_eq_getElem hi)
    have hn := List.nodup_cons.1 h2
    have hiv : i < vs.length := by omega
    have hst : G.sts o i [x] = some (G.set o (.row ⟨vs.set i x, e, 1, true⟩)) := by
      unfold H.sts; rw [hr]
      simp only [Bool.true_and, List.length_cons, List.length_nil]
      rw [if_pos (by simp; omega), splice_one hiv]
    have hkeep : ∀ o' ∈ F, H.row (G.set o (.row ⟨vs.set i x, e, 1, true⟩)) o' = G.row o' := fun o' h => row_set_other fun e => hn.1 (e ▸ h)
    refine ⟨o, _, rfl, by omega, rfl, hst, h4 _ _ _ (o :: (A' ++ [] ++ C')) (pre_set S.1 (h3 o (by simp)).1) (fun o' ho' => row_set_other fun e => h5 o (by simp) (e ▸ ho')) ?_ ?_ (fun o' ho' => .inl ?_), List.length_set⟩
    · refine .sl (row_set_same (row_some_lt hr)) (by rw [List.length_set]; exact hl) ?_
      exact j4 _ x (.v x) [] (fun o' ho' => hkeep o' (by rw [j2]; rcases List.mem_append.1 ho' with h | h <;> simp [h])) (.v x)
    · rw [List.nodup_cons]
      refine ⟨fun h => hn.1 (by rw [j2]; simp only [List.append_nil] at h; rcases List.mem_append.1 h with h | h <;> simp [h]), ?_⟩
      have := hn.2
      rw [j2] at this
      simp only [List.append_nil]
      rw [List.nodup_append, List.nodup_append] at this
      rw [List.nodup_append]
      exact ⟨this.1.1, this.2.1, fun a ha b hb => this.2.2 a (by simp [ha]) b hb⟩
    · rw [j2]
      simp only [List.append_nil] at ho'
      rcases List.mem_cons.1 ho' with h | h
      · simp [h]
      · rcases List.mem_append.1 h with h | h <;> simp [h]
/-- read: a value among those of a slice of one's own -/
theorem St.ldv (S : St hF G L) {k n c e i : Nat} {sa : Option Addr} {cs : List Tr} {x : Value} (hk : L[k]? = some (.slice sa n c, .sl e 1 cs)) (hi : cs[i]? = some (.v x)) :
    ∃ o : Nat, sa = some ⟨o, 0, none⟩ ∧ n = cs.length ∧ c = n ∧ G.ld1 o i = some x := by
  obtain ⟨A, B, C, h1, h2, h3, h5, h4⟩ := S.swap hk
  cases h1 with
  | nil => cases hi
  | sl hr hl ho =>
    rename_i o vs F
    have hlen := ho.len
    obtain ⟨y, A', B', C', j1, j2, j3, j4⟩ := ho.split hi
    cases j3
    exact ⟨o, rfl, by omega, rfl, by rw [ld1_of hr]; exact j1⟩
/-- the lists within -/
theorem St.atL (S : St hF G L) {k n c e i : Nat} {sa : Option Addr} {m : List (List Int)} {l : List Int} (hk : L[k]? = some (.slice sa n c, ll e m)) (hi : m[i]? = some l) :
    ∃ (o : Nat) (sb : Option Addr) (cb : Nat), sa = some ⟨o, 0, none⟩ ∧ G.ld1 o i = some (.slice sb l.length cb) ∧ RdI G sb cb l := by
  obtain ⟨hr, rfl⟩ := S.rdL hk
  obtain ⟨o, sb, cb, h1, h2, h3⟩ := hr.at hi
  exact ⟨o, sb, cb, h1, h2, h3⟩
/-- a slice's inner things stand for themselves -/
theorem St.explode {sa : Option Addr} {n c e : Nat} {cs : List Tr} (S : St hF G (L ++ [(.slice sa n c, .sl e 1 cs)])) :
    ∃ vs : List Value, vs.length = cs.length ∧ n = cs.length ∧ c = n ∧ ((sa = none ∧ vs = []) ∨ ∃ o, sa = some ⟨o, 0, none⟩ ∧ G.row o = some ⟨vs, e, 1, true⟩) ∧ St hF G (L ++ vs.zip cs) := by
  obtain ⟨A, B, C, h1, h2, h3, h5, h4⟩ := S.swap (k := L.length) (v := .slice sa n c) (t := .sl e 1 cs) (by simp)
  cases h1 with
  | nil =>
    refine ⟨[], rfl, rfl, rfl, .inl ⟨rfl, rfl⟩, ?_⟩
    have := S.take L.length
    simpa using this
  | sl hr hl ho =>
    rename_i o vs F
    have hlen := ho.len
    refine ⟨vs, hlen, by omega, rfl, .inr ⟨o, rfl, hr⟩, ?_⟩
    have ho' : OwnL G ((vs.zip cs).map Prod.fst) ((vs.zip cs).map Prod.snd) F := by
      rw [List.map_fst_zip (by omega), List.map_snd_zip (by omega)]; exact ho
    obtain ⟨p, F2, f1, f2, f3⟩ := S
    -- the footprint of all: those ahead, then this one's
    obtain ⟨E, hE, hown⟩ : ∃ E, F2 = E ++ (o :: F) ∧ OwnL G (L.map Prod.fst) (L.map Prod.snd) E := by
      rw [List.map_append, List.map_append] at f1
      suffices h : ∀ (us : List Value) (ts : List Tr) (F2 : List Nat), OwnL G (us ++ [.slice (some ⟨o, 0, none⟩) n n]) (ts ++ [.sl e 1 cs]) F2 → us.length = ts.length → ∃ E, F2 = E ++ (o :: F) ∧ OwnL G us ts E from h _ _ _ f1 (by simp)
      intro us
      induction us with
      | nil =>
        intro ts F2 h hl
        obtain rfl : ts = [] := List.eq_nil_of_length_eq_zero (by simpa using hl.symm)
        cases h with
        | cons a1 a2 =>
          cases a2
          have := a1.uniq (.sl hr (by omega) ho)
          exact ⟨[], by rw [this]; simp, .nil⟩
      | cons u us ih =>
        intro ts F2 h hl
        cases ts with
        | nil => simp at hl
        | cons t ts =>
          cases h with
          | cons a1 a2 =>
            obtain ⟨E, e1, e2⟩ := ih ts _ a2 (by simpa using hl)
            exact ⟨_, by rw [e1, List.append_assoc], .cons a1 e2⟩
    refine ⟨p, E ++ F, ?_, ?_, fun x hx => f3 x ?_⟩
    · rw [List.map_append, List.map_append]; exact hown.app ho'
    · rw [hE, List.nodup_append] at f2
      rw [List.nodup_append]
      exact ⟨f2.1, (List.nodup_cons.1 f2.2.1).2, fun a ha b hb => f2.2.2 a ha b (by simp [hb])⟩
    · rw [hE]
      rcases List.mem_append.1 hx with h | h <;> simp [h]
/-- things that stand for themselves lie in a new slice -/
theorem St.implode {vs : List Value} {cs : List Tr} {e o : Nat} (S : St hF G (L ++ vs.zip cs)) (hl : vs.length = cs.length) (hp : G <+: G') (ho : G.length ≤ o) (hr : G'.row o = some ⟨vs, e, 1, true⟩) :
    St hF G' (L ++ [(.slice (some ⟨o, 0, none⟩) cs.length cs.length, .sl e 1 cs)]) := by
  obtain ⟨p, F, f1, f2, f3⟩ := S
  rw [List.map_append, List.map_append, List.map_fst_zip (by omega), List.map_snd_zip (by omega)] at f1
  obtain ⟨E, D, hE, h1, h2⟩ : ∃ E D, F = E ++ D ∧ OwnL G (L.map Prod.fst) (L.map Prod.snd) E ∧ OwnL G vs cs D := by
    suffices h : ∀ (us : List Value) (ts : List Tr) (F : List Nat), OwnL G (us ++ vs) (ts ++ cs) F → us.length = ts.length → ∃ E D, F = E ++ D ∧ OwnL G us ts E ∧ OwnL G vs cs D from h _ _ _ f1 (by simp)
    intro us
    induction us with
    | nil =>
      intro ts F h hl'
      obtain rfl : ts = [] := List.eq_nil_of_length_eq_zero (by simpa using hl'.symm)
      exact ⟨[], F, rfl, .nil, h⟩
    | cons u us ih =>
      intro ts F h hl'
      cases ts with
      | nil => simp at hl'
      | cons t ts =>
        cases h with
        | cons a1 a2 =>
          obtain ⟨E, D, e1, e2, e3⟩ := ih ts _ a2 (by simpa using hl')
          exact ⟨_, D, by rw [e1, List.append_assoc], .cons a1 e2, e3⟩
  have hlt := f1.lt
  refine ⟨p.trans hp, E ++ ((o :: D) ++ []), ?_, ?_, fun x hx => ?_⟩
  · rw [List.map_append, List.map_append]
    refine (h1.keep fun x hx => row_prefix hp (hlt x (by rw [hE]; simp [hx]))).app (.cons (.sl hr (by omega) (h2.keep fun x hx => row_prefix hp (hlt x (by rw [hE]; simp [hx])))) .nil)
  · rw [hE] at f2 hlt
    rw [List.append_nil, List.nodup_append, List.nodup_cons]
    rw [List.nodup_append] at f2
    refine ⟨f2.1, ⟨fun h => by have := hlt o (by simp [h]); omega, f2.2.1⟩, fun a ha b hb => ?_⟩
    rcases List.mem_cons.1 hb with rfl | hb
    · have := hlt a (by simp [ha]); omega
    · exact f2.2.2 a ha b hb
  · rw [hE] at f3
    simp only [List.append_nil] at hx
    rcases List.mem_append.1 hx with h | h
    · exact f3 x (by simp [h])
    · rcases List.mem_cons.1 h with rfl | h
      · have := p.length_le; omega
      · exact f3 x (by simp [h])
end

/-! ### appends to what is new -/
theorem app_own {G X : H} {o e b n m : Nat} {cs news : List Value} {sb : Option Addr} {cb : Nat} (hp : G <+: X) (ho : G.length ≤ o) (hr : X.row o = some ⟨cs, e, 1, true⟩) (hn : n = cs.length) (hs : srcCells X 1 m (.slice sb m cb) = some news) (hm : news.length = m) (hb : b ≤ 1000) (hl : n + m ≤ 1000000) :
    ∃ (o' : Nat) (X' : H), aapp e 1 b X (.slice (some ⟨o, 0, none⟩) n n) (.slice sb m cb) = some (.slice (some ⟨o', 0, none⟩) (n + m) (n + m), X') ∧ G <+: X' ∧ G.length ≤ o' ∧ X'.row o' = some ⟨cs ++ news, e, 1, true⟩ := by
  have hol := row_some_lt hr
  have hmul : (n + m) * b ≤ 1000000 * 1000 := Nat.mul_le_mul hl hb
  refine ⟨X.length, kill X o ++ [.row ⟨cs ++ news, e, 1, true⟩], ?_, pre_push (pre_kill hp ho), hp.length_le, ?_⟩
  · unfold aapp
    simp only [hs, hr]
    rw [if_pos (by simp [few]; omega)]
    simp only [List.drop_zero, Nat.mul_one]
    rw [List.take_of_length_le (by omega)]
  · rw [show X.length = (kill X o).length from len_kill.symm]; exact row_push_new
/-- a slice with one value put in: append(append(append([]T{}, l[:k]...), w), l[k:]...) -/
theorem ins_chain {G : H} {e b N C k : Nat} {sa : Option Addr} {vs : List Value} (hv : (sa = none ∧ C = 0 ∧ vs = []) ∨ ∃ o, sa = some ⟨o, 0, none⟩ ∧ C = N ∧ G.row o = some ⟨vs, e, 1, true⟩) (hN : vs.length = N) (hk : k ≤ N) (hN2 : N ≤ 100000) (hb : b ≤ 1000) (w : Value) :
    ∃ (o1 o2 o3 : Nat) (X1 X2 X3 : H), aapp e 1 b (G ++ [.row ⟨[], e, 1, true⟩]) (.slice (some ⟨G.length, 0, none⟩) 0 0) (.slice sa k C) = some (.slice (some ⟨o1, 0, none⟩) k k, X1) ∧
      aapp e 1 b (X1 ++ [.row ⟨[w], e, 1, true⟩]) (.slice (some ⟨o1, 0, none⟩) k k) (.slice (some ⟨X1.length, 0, none⟩) 1 1) = some (.slice (some ⟨o2, 0, none⟩) (k + 1) (k + 1), X2) ∧
      aapp e 1 b X2 (.slice (some ⟨o2, 0, none⟩) (k + 1) (k + 1)) (.slice (if (C : Int) = (k : Int) then sa else sa.map fun a => ⟨a.block, a.off + k, none⟩) (N - k) (C - k)) = some (.slice (some ⟨o3, 0, none⟩) (N + 1) (N + 1), X3) ∧
      G <+: X3 ∧ G.length ≤ o3 ∧ X3.row o3 = some ⟨vs.take k ++ w :: vs.drop k, e, 1, true⟩ ∧ G <+: X2 ∧ (if (C : Int) = 0 then sa else sa.map fun a => ⟨a.block, a.off, none⟩) = sa ∧ unitOk G 1 sa = true := by
  have s1 : ∀ {X : H}, G <+: X → srcCells X 1 k (.slice sa k C) = some (vs.take k) := by
    intro X hp
    rcases hv with ⟨rfl, rfl, rfl⟩ | ⟨o, rfl, rfl, hr⟩
    · have hk0 : k = 0 := by simp at hN; omega
      subst hk0; rfl
    · unfold srcCells
      by_cases hk0 : k = 0
      · rw [hk0, List.take_zero]; rfl
      · simp only []
        rw [if_neg hk0, if_pos (Nat.le_refl _)]
        simp only [none_isNone, if_true]
        unfold H.lds
        rw [row_pre hr hp]
        simp only []
        rw [if_pos (by omega), List.drop_zero, Nat.mul_one]
  have s2 : ∀ {X : H}, G <+: X → srcCells X 1 (N - k) (.slice (if (C : Int) = (k : Int) then sa else sa.map fun a => ⟨a.block, a.off + k, none⟩) (N - k) (C - k)) = some (vs.drop k) := by
    intro X hp
    rcases hv with ⟨rfl, rfl, rfl⟩ | ⟨o, rfl, rfl, hr⟩
    · have hk0 : k = 0 := by simp at hN; omega
      have hN0 : N = 0 := by simp at hN; omega
      subst hk0; subst hN0; rfl
    · unfold srcCells
      by_cases hk0 : C - k = 0
      · simp only []
        rw [if_pos hk0, List.drop_eq_nil_of_le (by omega)]
      · have hne : ¬ (C : Int) = (k : Int) := by omega
        rw [if_neg hne]
        simp only [map_some']
        rw [if_neg hk0, if_pos (Nat.le_refl _)]
        simp only [none_isNone, if_true]
        unfold H.lds
        rw [row_pre hr hp]
        simp only []
        rw [if_pos (by omega), Nat.mul_one, List.take_of_length_le (by rw [List.length_drop]; omega), Nat.zero_add]
  have p0 : G <+: G ++ [.row ⟨[], e, 1, true⟩] := List.prefix_append _ _
  obtain ⟨o1, X1, e1, p1, q1, r1⟩ := app_own (b := b) p0 (Nat.le_refl _) row_push_new rfl (s1 p0) (by rw [List.length_take]; omega) hb (by simp; omega)
  rw [List.nil_append] at r1
  simp only [List.length_nil, Nat.zero_add] at e1
  have p2 : G <+: X1 ++ [.row ⟨[w], e, 1, true⟩] := pre_push p1
  have hw : srcCells (X1 ++ [.row ⟨[w], e, 1, true⟩]) 1 1 (.slice (some ⟨X1.length, 0, none⟩) 1 1) = some [w] := by
    unfold srcCells H.lds
    simp only [row_push_new]
    rw [if_neg (by omega), if_pos (Nat.le_refl 1)]
    simp only [none_isNone, if_true]
    rw [if_pos (by simp)]
    rfl
  obtain ⟨o2, X2, e2, p3, q2, r2⟩ := app_own (b := b) p2 q1 (by rw [row_push_old (row_some_lt r1)]; exact r1) (n := k) (by rw [List.length_take]; omega) hw rfl hb (by omega)
  obtain ⟨o3, X3, e3, p4, q3, r3⟩ := app_own (b := b) p3 q2 r2 (n := k + 1) (by rw [List.length_append, List.length_take]; simp; omega) (s2 p3) (by rw [List.length_drop]; omega) hb (by omega)
  refine ⟨o1, o2, o3, X1, X2, X3, e1, e2, ?_, p4, q3, by rw [r3]; simp, p3, ?_, ?_⟩
  · rw [show k + 1 + (N - k) = N + 1 by omega] at e3
    exact e3
  · rcases hv with ⟨rfl, _, _⟩ | ⟨o, rfl, _, _⟩
    · split <;> rfl
    · split <;> rfl
  · rcases hv with ⟨rfl, _, _⟩ | ⟨o, rfl, _, hr⟩
    · rfl
    · unfold unitOk; simp only [hr]; rfl
end Go.Am
namespace Go.Proofs.Ytammndhoillliaa
open Go.Am Go.Alg
set_option linter.unusedVariables false
set_option linter.unusedSimpArgs false
set_option maxRecDepth 30000

/-! ### lists of which the first are changed -/
theorem chg_set {α : Type} {f : α → α} {l : List α} {j : Nat} {x : α} (hj : l[j]? = some x) : ((l.map f).take j ++ l.drop j).set j (f x) = (l.map f).take (j + 1) ++ l.drop (j + 1) := by
  obtain ⟨h1, h2⟩ := List.getElem?_eq_some_iff.1 hj
  have hl : ((l.map f).take j).length = j := by rw [List.length_take, List.length_map]; omega
  rw [List.set_append_right _ _ (by omega), hl, Nat.sub_self, List.drop_eq_getElem_cons h1, List.take_succ_eq_append_getElem (by rw [List.length_map]; exact h1), List.getElem_map, h2]
  simp
theorem chg_at {α : Type} {f : α → α} {l : List α} {j : Nat} (hj : j < l.length) : ((l.map f).take j ++ l.drop j)[j]? = l[j]? := by
  rw [List.getElem?_append_right (by rw [List.length_take, List.length_map]; omega), List.length_take, List.length_map, Nat.min_eq_left (by omega), Nat.sub_self, List.getElem?_drop, Nat.add_zero]
theorem chg_len {α : Type} (f : α → α) (l : List α) (j : Nat) : ((l.map f).take j ++ l.drop j).length = l.length := by
  simp only [List.length_append, List.length_take, List.length_drop, List.length_map]; omega
theorem chg_all {α : Type} (f : α → α) (l : List α) : (l.map f).take l.length ++ l.drop l.length = l.map f := by
  rw [List.drop_length, List.append_nil, List.take_of_length_le (by simp)]
theorem chg_zero {α : Type} (f : α → α) (l : List α) : (l.map f).take 0 ++ l.drop 0 = l := by simp
def posR {α : Type} (p : Nat) : List (Nat × α) → Nat
  | [] => 0
  | a :: A => if a.1 < p then posR p A + 1 else 0
theorem posR_le {α : Type} (p : Nat) : ∀ A : List (Nat × α), posR p A ≤ A.length
  | [] => Nat.le_refl _
  | a :: A => by have := posR_le p A; rw [posR, List.length_cons]; split <;> omega
theorem ins_pos {α : Type} (p : Nat) (r : α) : ∀ A : List (Nat × α), insR p r A = A.take (posR p A) ++ (p, r) :: A.drop (posR p A)
  | [] => rfl
  | a :: A => by
    rw [insR, posR]
    split
    · rw [ins_pos p r A]; rfl
    · rfl

/-- rows and beginnings as memory has them -/
def pvR {q : Int} (A : List (Nat × List (El q))) : List (List Int) := A.map fun a => vs a.2
def pvP {α : Type} (A : List (Nat × α)) : List Int := A.map fun a => (a.1 : Int)
theorem pvR_len {q : Int} (A : List (Nat × List (El q))) : (pvR A).length = A.length := by simp [pvR]
theorem pvP_len {α : Type} (A : List (Nat × α)) : (pvP A).length = A.length := by simp [pvP]
theorem pvR_at {q : Int} {A : List (Nat × List (El q))} {k : Nat} {a : Nat × List (El q)} (h : A[k]? = some a) : (pvR A)[k]? = some (vs a.2) := by unfold pvR; rw [List.getElem?_map, h]; rfl
theorem pvP_at {α : Type} {A : List (Nat × α)} {k : Nat} {a : Nat × α} (h : A[k]? = some a) : gi (pvP A) k = (a.1 : Int) := by
  unfold gi pvP; rw [List.getD_eq_getElem?_getD, Int.toNat_natCast, List.getElem?_map, h]; rfl
section
variable {hF : H} {q p : Int} {m : Nat} {g : Int} {mod : List Int} {om cm B : Nat} [IsFld q] {A : List (Nat × List (El q))} {W : Nat} {s6 s7 : Option Addr} {c6 c7 : Nat} {V1 V8 V12 : Value}
theorem rred_sub (u : RUse hF q p m g mod om cm) (hB : hF.row B = some ⟨fvL q p m g (.slice (some ⟨om, 0, none⟩) mod.length cm), 67, 0, true⟩)
    (hA : ∀ a ∈ A, a.2.length = W ∧ a.1 < W) (hAl : A.length ≤ 100000) (hW : W ≤ 100000) :
    ∀ (n k : Nat) (r : List (El q)) (s9 : Option Addr) (c9 : Nat) (G : H), k + n = A.length → r.length = W → St hF G [(.slice s6 A.length c6, ll 22 (pvR A)), (.slice s7 A.length c7, il (pvP A)), (.slice s9 W c9, il (vs r))] →
      ∃ (s9' : Option Addr) (c9' : Nat) (G' : H), St hF G' [(.slice s6 A.length c6, ll 22 (pvR A)), (.slice s7 A.length c7, il (pvP A)), (.slice s9' W c9', il (vs (subRows (A.drop k) r)))] ∧ ∀ ks,
        goL T [.tmp 4, .tmp 5] [1, 2, 6, 7, 8, 9, 10] c161L0 (.blk 2 [1, 2, 6, 7, 8, 9] :: ks) [(1, V1), (2, .pointer (some ⟨B, 0, none⟩)), (6, .slice s6 A.length c6), (7, .slice s7 A.length c7), (8, V8), (9, .slice s9 W c9), (10, .int .i64 k)] G =
          go T [.tmp 4, .tmp 5] ks (Fr.of [(1, V1), (2, .pointer (some ⟨B, 0, none⟩)), (6, .slice s6 A.length c6), (7, .slice s7 A.length c7), (8, V8), (9, .slice s9' W c9')]) G'
  | 0, k, r, s9, c9, G, hk, hr, S => by
    rw [drop_end (by omega)]
    refine ⟨s9, c9, G, S, fun ks => ?_⟩
    rw [goL_at c161L0.eq_def]
    simp (disch := first | omega | (simp only [Go.Am.len_push, Go.Am.len_set, Go.Am.len_kill] <;> omega) | fail) only [push_cast, seval, wrap64, dec_lt, dec_nlt, dec_le, dec_nle, dec_eq, dec_ne, if_pos, if_neg, Int.natCast_add, Int.natCast_one, Int.natCast_zero, Int.toNat_natCast]
  | n + 1, k, r, s9, c9, G, hk, hr, S => by
    have IH := rred_sub u hB hA hAl hW n (k + 1)
    obtain ⟨a, ha⟩ := at_some (l := A) (i := k) (by omega)
    obtain ⟨hal, hap⟩ := hA a (List.mem_of_getElem? ha)
    rw [drop_at ha, subRows]
    have lB := lds_all (row_keep' hB S.pre) (n := 5) rfl
    have hrd := S.rd (k := 2) rfl
    obtain ⟨o6, sb, cb, rfl, l1, hb⟩ := S.atL (k := 0) rfl (pvR_at ha)
    rw [vs_len, hal] at l1
    obtain ⟨o7, f7, rfl, _, l2⟩ := (S.rd (k := 1) rfl).at (i := k) (by rw [pvP_len]; omega)
    rw [pvP_at ha] at l2
    obtain ⟨o9, f9, rfl, _, l3⟩ := rd_at hrd (i := a.1) (by omega)
    obtain ⟨s', c', G1, K, e1⟩ := rless_call (u.mono S.pre) hrd hb (by rw [hr, hal]) (by omega) (wf r a.1)
    rw [hr] at e1
    rw [hr] at K
    obtain ⟨s9', c9', G', k1, k2⟩ := IH (lessL (wf r a.1) r a.2) s' c' G1 (by omega) (by rw [lessL_len (by rw [hr, hal]), hr]) ((S.join K).drop 2)
    refine ⟨s9', c9', G', k1, fun ks => ?_⟩
    have ih := k2 ks
    rw [Int.natCast_add, Int.natCast_one] at ih
    rw [goL_at c161L0.eq_def, ← ih]
    simp (disch := first | omega | (simp only [Go.Am.len_push, Go.Am.len_set, Go.Am.len_kill] <;> omega) | fail) only [push_cast, seval, wrap64, dec_lt, dec_nlt, dec_le, dec_nle, dec_eq, dec_ne, if_pos, if_neg, Int.natCast_add, Int.natCast_one, Int.natCast_zero, Int.toNat_natCast, l1, l2, l3, lB, e1]
theorem rred_lead {r : List (El q)} {G : H} {s9 : Option Addr} {c9 : Nat} {V2 V6 V7 : Value} (hr : RdI G s9 c9 (vs r)) (hrl : r.length = W) (hW : W ≤ 100000) : ∀ (n i : Nat), i + n = W → ∀ ks,
    goL T [.tmp 4, .tmp 5] [1, 2, 6, 7, 8, 9, 11] c161L1 (.blk 4 [1, 2, 6, 7, 8, 9, 11] :: ks) [(1, V1), (2, V2), (6, V6), (7, V7), (8, V8), (9, .slice s9 W c9), (11, .int .i64 i)] G =
      go T [.tmp 4, .tmp 5] ks (Fr.of [(1, V1), (2, V2), (6, V6), (7, V7), (8, V8), (9, .slice s9 W c9), (11, .int .i64 (leadL (r.drop i) + i : Nat))]) G
  | 0, i, hi, ks => by
    rw [drop_end (by omega), leadL, goL_at c161L1.eq_def]
    simp (disch := first | omega | (simp only [Go.Am.len_push, Go.Am.len_set, Go.Am.len_kill] <;> omega) | fail) only [push_cast, seval, wrap64, dec_lt, dec_nlt, dec_le, dec_nle, dec_eq, dec_ne, if_pos, if_neg, Int.natCast_add, Int.natCast_one, Int.natCast_zero, Int.toNat_natCast]
  | n + 1, i, hi, ks => by
    have IH := rred_lead (V2 := V2) (V6 := V6) (V7 := V7) hr hrl hW n (i + 1) (by omega) ks
    obtain ⟨a, ha⟩ := at_some (l := r) (i := i) (by omega)
    have hwa : wf r i = a := by
      obtain ⟨h1, h2⟩ := List.getElem?_eq_some_iff.1 ha
      rw [wf_at h1, h2]
    obtain ⟨o9, f9, rfl, _, l3⟩ := rd_at hr (i := i) (by omega)
    rw [hwa] at l3
    rw [drop_at ha, leadL]
    by_cases h0 : a = 0
    · rw [if_pos h0, show leadL (r.drop (i + 1)) + 1 + i = leadL (r.drop (i + 1)) + (i + 1) by omega, ← IH, goL_at c161L1.eq_def]
      have hv := v_z h0
      simp (disch := first | omega | (simp only [Go.Am.len_push, Go.Am.len_set, Go.Am.len_kill] <;> omega) | fail) only [push_cast, seval, wrap64, dec_lt, dec_nlt, dec_le, dec_nle, dec_eq, dec_ne, if_pos, if_neg, Int.natCast_add, Int.natCast_one, Int.natCast_zero, Int.toNat_natCast, l3, hv]
    · rw [if_neg h0, goL_at c161L1.eq_def]
      simp (disch := first | omega | (simp only [Go.Am.len_push, Go.Am.len_set, Go.Am.len_kill] <;> omega) | fail) only [push_cast, seval, wrap64, dec_lt, dec_nlt, dec_le, dec_nle, dec_eq, dec_ne, if_pos, if_neg, Int.natCast_add, Int.natCast_one, Int.natCast_zero, Int.toNat_natCast, l3, dec_ne (v_ne h0)]
theorem rred_scale (u : RUse hF q p m g mod om cm) (hB : hF.row B = some ⟨fvL q p m g (.slice (some ⟨om, 0, none⟩) mod.length cm), 67, 0, true⟩)
    (hW : W ≤ 100000) {r : List (El q)} (hrl : r.length = W) {c : El q} {V11 : Value} {T6 T7 : Tr} {V6 V7 : Value} {s9 : Option Addr} {c9 : Nat} :
    ∀ (n j : Nat) (G : H), j + n = W → St hF G [(V6, T6), (V7, T7), (.slice s9 W c9, il (vs ((scaleL c r).take j ++ r.drop j)))] →
      ∃ G' : H, St hF G' [(V6, T6), (V7, T7), (.slice s9 W c9, il (vs (scaleL c r)))] ∧ ∀ ks,
        goL T [.tmp 4, .tmp 5] [1, 2, 6, 7, 8, 9, 11, 12, 13] c161L2 (.blk 6 [1, 2, 6, 7, 8, 9, 11] :: ks) [(1, V1), (2, .pointer (some ⟨B, 0, none⟩)), (6, V6), (7, V7), (8, V8), (9, .slice s9 W c9), (11, V11), (12, .int .i64 c.v), (13, .int .i64 j)] G =
          go T [.tmp 4, .tmp 5] ks (Fr.of [(1, V1), (2, .pointer (some ⟨B, 0, none⟩)), (6, V6), (7, V7), (8, V8), (9, .slice s9 W c9), (11, V11)]) G'
  | 0, j, G, hj, S => by
    obtain rfl : j = r.length := by omega
    unfold scaleL at S ⊢
    rw [chg_all] at S
    refine ⟨G, S, fun ks => ?_⟩
    rw [← hrl] at *
    rw [goL_at c161L2.eq_def]
    simp (disch := first | omega | (simp only [Go.Am.len_push, Go.Am.len_set, Go.Am.len_kill] <;> omega) | fail) only [push_cast, seval, wrap64, dec_lt, dec_nlt, dec_le, dec_nle, dec_eq, dec_ne, if_pos, if_neg, Int.natCast_add, Int.natCast_one, Int.natCast_zero, Int.toNat_natCast]
  | n + 1, j, G, hj, S => by
    have IH := rred_scale (V11 := V11) (T6 := T6) (T7 := T7) (V6 := V6) (V7 := V7) (s9 := s9) (c9 := c9) (c := c) u hB hW hrl n (j + 1)
    obtain ⟨a, ha⟩ := at_some (l := r) (i := j) (by omega)
    have lB := lds_all (row_keep' hB S.pre) (n := 5) rfl
    have hcl := chg_len (fun x => x * c) r j
    have hat := chg_at (f := fun x => x * c) (l := r) (j := j) (by omega)
    have hset := chg_set (f := fun x => x * c) ha
    have hsc : ∀ x : List (El q), scaleL c x = x.map fun x => x * c := fun _ => rfl
    rw [hsc] at S IH ⊢
    generalize hy : (r.map fun x => x * c).take j ++ r.drop j = y at S hcl hat hset
    have hwy : wf y j = a := by
      unfold wf; rw [List.getD_eq_getElem?_getD, hat, ha]; rfl
    obtain ⟨o9, f9, he9, _, l3⟩ := rd_at (S.rd (k := 2) rfl) (i := j) (by omega)
    rw [hwy] at l3
    obtain ⟨G1, p1, em⟩ := rmul_call (u.mono S.pre) a.v c.v
    obtain ⟨o, G2, he, es, S2, _⟩ := (S.grow p1).sti (k := 2) rfl (i := j) (by rw [vs_len]; omega) (a * c).v
    rw [vs_set, hset] at S2
    obtain ⟨G', k1, k2⟩ := IH G2 (by omega) S2
    rw [he] at he9
    cases he9
    rw [Nat.zero_add] at l3
    rw [v_mul] at es
    refine ⟨G', k1, fun ks => ?_⟩
    have ih := k2 ks
    rw [Int.natCast_add, Int.natCast_one] at ih
    rw [he] at ih ⊢
    rw [goL_at c161L2.eq_def, ← ih]
    simp (disch := first | omega | (simp only [Go.Am.len_push, Go.Am.len_set, Go.Am.len_kill] <;> omega) | fail) only [push_cast, seval, wrap64, dec_lt, dec_nlt, dec_le, dec_nle, dec_eq, dec_ne, if_pos, if_neg, Int.natCast_add, Int.natCast_one, Int.natCast_zero, Int.toNat_natCast, l3, lB, em, es]
end
end Go.Proofs.Ytammndhoillliaa
namespace Go.Proofs.Ytammndhoillliaa
open Go.Am Go.Alg
set_option linter.unusedVariables false
set_option linter.unusedSimpArgs false
set_option maxRecDepth 30000

/-- the row at one's place is changed -/
def updR {q : Int} [IsFld q] (at' : Nat) (s : List (El q)) (a : Nat × List (El q)) : Nat × List (El q) := (a.1, lessL (wf a.2 at') a.2 s)
theorem pvP_chg {q : Int} [IsFld q] (at' : Nat) (s : List (El q)) (A : List (Nat × List (El q))) (k : Nat) : pvP ((A.map (updR at' s)).take k ++ A.drop k) = pvP A := by
  unfold pvP
  rw [List.map_append, List.map_take, List.map_map, List.map_drop]
  have h : (fun a : Nat × List (El q) => (a.1 : Int)) ∘ updR at' s = fun a => (a.1 : Int) := rfl
  rw [h, List.take_append_drop]
theorem pvP_upd {q : Int} [IsFld q] (at' : Nat) (s : List (El q)) (A : List (Nat × List (El q))) : pvP (A.map (updR at' s)) = pvP A := by
  unfold pvP; rw [List.map_map]; rfl
section
variable {hF : H} {q p : Int} {m : Nat} {g : Int} {mod : List Int} {om cm B : Nat} [IsFld q] {A : List (Nat × List (El q))} {W : Nat} {s6 : Option Addr} {c6 : Nat} {V1 V8 : Value}
theorem rred_upd (u : RUse hF q p m g mod om cm) (hB : hF.row B = some ⟨fvL q p m g (.slice (some ⟨om, 0, none⟩) mod.length cm), 67, 0, true⟩)
    (hA : ∀ a ∈ A, a.2.length = W ∧ a.1 < W) (hAl : A.length ≤ 100000) (hW : W ≤ 100000) {r : List (El q)} (hrl : r.length = W) {at' : Nat} (hat : at' < W) {V7 : Value} {T7 : Tr} {s9 : Option Addr} {c9 : Nat} :
    ∀ (n k : Nat) (G : H), k + n = A.length → St hF G [(.slice s6 A.length c6, ll 22 (pvR ((A.map (updR at' r)).take k ++ A.drop k))), (V7, T7), (.slice s9 W c9, il (vs r))] →
      ∃ G' : H, St hF G' [(.slice s6 A.length c6, ll 22 (pvR (A.map (updR at' r)))), (V7, T7), (.slice s9 W c9, il (vs r))] ∧ ∀ ks,
        goL T [.tmp 4, .tmp 5] [1, 2, 6, 7, 8, 9, 11, 14] c161L3 (.blk 8 [1, 2, 6, 7, 8, 9, 11] :: ks) [(1, V1), (2, .pointer (some ⟨B, 0, none⟩)), (6, .slice s6 A.length c6), (7, V7), (8, V8), (9, .slice s9 W c9), (11, .int .i64 at'), (14, .int .i64 k)] G =
          go T [.tmp 4, .tmp 5] ks (Fr.of [(1, V1), (2, .pointer (some ⟨B, 0, none⟩)), (6, .slice s6 A.length c6), (7, V7), (8, V8), (9, .slice s9 W c9), (11, .int .i64 at')]) G'
  | 0, k, G, hk, S => by
    obtain rfl : k = A.length := by omega
    rw [chg_all] at S
    refine ⟨G, S, fun ks => ?_⟩
    rw [goL_at c161L3.eq_def]
    simp (disch := first | omega | (simp only [Go.Am.len_push, Go.Am.len_set, Go.Am.len_kill] <;> omega) | fail) only [push_cast, seval, wrap64, dec_lt, dec_nlt, dec_le, dec_nle, dec_eq, dec_ne, if_pos, if_neg, Int.natCast_add, Int.natCast_one, Int.natCast_zero, Int.toNat_natCast]
  | n + 1, k, G, hk, S => by
    have IH := rred_upd (V7 := V7) (T7 := T7) (s9 := s9) (c9 := c9) u hB hA hAl hW hrl hat n (k + 1)
    obtain ⟨a, ha⟩ := at_some (l := A) (i := k) (by omega)
    obtain ⟨hal, hap⟩ := hA a (List.mem_of_getElem? ha)
    have lB := lds_all (row_keep' hB S.pre) (n := 5) rfl
    have hcl := chg_len (updR at' r) A k
    have hca := chg_at (f := updR at' r) (l := A) (j := k) (by omega)
    have hset := chg_set (f := updR at' r) ha
    generalize hy : (A.map (updR at' r)).take k ++ A.drop k = Y at S hcl hca hset
    rw [ha] at hca
    have hrd := S.rd (k := 2) rfl
    obtain ⟨o6, sb, cb, rfl, l1, hb⟩ := S.atL (k := 0) rfl (pvR_at hca)
    rw [vs_len, hal] at l1
    obtain ⟨ob, fb, rfl, _, l2⟩ := rd_at hb (i := at') (by omega)
    obtain ⟨s', c', G1, K, e1⟩ := rless_call (u.mono S.pre) hb hrd (by rw [hrl, hal]) (by omega) (wf a.2 at')
    rw [hal] at e1 K
    obtain ⟨o', G2, he, _, _, es, S2, _⟩ := (S.join K).stv (k := 0) rfl (i := k) (by simp [pvR_len, hcl]; omega) (.slice s' W c')
    cases he
    have S3 := St.put (L := [_, _, _]) S2 (k := 0) (i := k) rfl (List.getElem?_set_self (by simp [pvR_len, hcl]; omega))
    have hcs : ((((pvR Y).map il).set k (.v (.slice s' W c'))).set k (il (vs (lessL (wf a.2 at') a.2 r)))) = (pvR (Y.set k (updR at' r a))).map il := by
      rw [List.set_set]
      unfold pvR
      rw [List.map_set, List.map_set]
      rfl
    have S4 : St hF G2 [(.slice (some ⟨o6, 0, none⟩) A.length c6, .sl 22 1 ((((pvR Y).map il).set k (.v (.slice s' W c'))).set k (il (vs (lessL (wf a.2 at') a.2 r))))), (V7, T7), (.slice s9 W c9, il (vs r))] := S3
    rw [hcs, hset] at S4
    obtain ⟨G', k1, k2⟩ := IH G2 (by omega) S4
    refine ⟨G', k1, fun ks => ?_⟩
    have ih := k2 ks
    rw [Int.natCast_add, Int.natCast_one] at ih
    rw [goL_at c161L3.eq_def, ← ih]
    simp (disch := first | omega | (simp only [Go.Am.len_push, Go.Am.len_set, Go.Am.len_kill] <;> omega) | fail) only [push_cast, seval, wrap64, dec_lt, dec_nlt, dec_le, dec_nle, dec_eq, dec_ne, if_pos, if_neg, Int.natCast_add, Int.natCast_one, Int.natCast_zero, Int.toNat_natCast, l1, l2, lB, e1, es]
end
section
variable {α : Type} {A : List (Nat × α)} {s6 : Option Addr} {V1 V8 : Value}
theorem rred_pos {G : H} {s7 : Option Addr} {c7 : Nat} {V2 V9 : Value} (hr : RdI G s7 c7 (pvP A)) (hAl : A.length ≤ 100000) {at' : Nat} {C6 : Nat} : ∀ (n k : Nat), k + n = A.length → ∀ ks,
    goL T [.tmp 4, .tmp 5] [1, 2, 6, 7, 8, 9, 11, 15] c161L4 (.blk 10 [1, 2, 6, 7, 8, 9, 11, 15] :: ks) [(1, V1), (2, V2), (6, .slice s6 A.length C6), (7, .slice s7 A.length c7), (8, V8), (9, V9), (11, .int .i64 at'), (15, .int .i64 k)] G =
      go T [.tmp 4, .tmp 5] ks (Fr.of [(1, V1), (2, V2), (6, .slice s6 A.length C6), (7, .slice s7 A.length c7), (8, V8), (9, V9), (11, .int .i64 at'), (15, .int .i64 (posR at' (A.drop k) + k : Nat))]) G
  | 0, k, hk, ks => by
    rw [drop_end (by omega), posR, goL_at c161L4.eq_def]
    simp (disch := first | omega | (simp only [Go.Am.len_push, Go.Am.len_set, Go.Am.len_kill] <;> omega) | fail) only [push_cast, seval, wrap64, dec_lt, dec_nlt, dec_le, dec_nle, dec_eq, dec_ne, if_pos, if_neg, Int.natCast_add, Int.natCast_one, Int.natCast_zero, Int.toNat_natCast]
  | n + 1, k, hk, ks => by
    have IH := rred_pos (V2 := V2) (V9 := V9) (C6 := C6) (at' := at') hr hAl n (k + 1) (by omega) ks
    obtain ⟨a, ha⟩ := at_some (l := A) (i := k) (by omega)
    obtain ⟨o7, f7, rfl, _, l2⟩ := hr.at (i := k) (by rw [pvP_len]; omega)
    rw [pvP_at ha] at l2
    rw [drop_at ha, posR]
    by_cases hlt : a.1 < at'
    · rw [if_pos hlt, show posR at' (A.drop (k + 1)) + 1 + k = posR at' (A.drop (k + 1)) + (k + 1) by omega, ← IH, goL_at c161L4.eq_def]
      simp (disch := first | omega | (simp only [Go.Am.len_push, Go.Am.len_set, Go.Am.len_kill] <;> omega) | fail) only [push_cast, seval, wrap64, dec_lt, dec_nlt, dec_le, dec_nle, dec_eq, dec_ne, if_pos, if_neg, Int.natCast_add, Int.natCast_one, Int.natCast_zero, Int.toNat_natCast, l2]
    · rw [if_neg hlt, goL_at c161L4.eq_def]
      simp (disch := first | omega | (simp only [Go.Am.len_push, Go.Am.len_set, Go.Am.len_kill] <;> omega) | fail) only [push_cast, seval, wrap64, dec_lt, dec_nlt, dec_le, dec_nle, dec_eq, dec_ne, if_pos, if_neg, Int.natCast_add, Int.natCast_one, Int.natCast_zero, Int.toNat_natCast, l2]
end
/-! ### a new row lies among the others -/
theorem zip_ins {α β : Type} {a : List α} {b : List β} {x : α} {y : β} {k : Nat} (hl : a.length = b.length) : (a.take k ++ x :: a.drop k).zip (b.take k ++ y :: b.drop k) = (a.zip b).take k ++ (x, y) :: (a.zip b).drop k := by
  rw [List.zip_append (by rw [List.length_take, List.length_take, hl]), List.zip_cons_cons]
  unfold List.zip
  rw [List.take_zipWith, List.drop_zipWith]
theorem St.ins {hF G X : H} {V7 w : Value} {T7 t : Tr} {sa : Option Addr} {n c e k : Nat} {cs : List Tr} {vs : List Value} {o : Nat} (S : St hF G ([(V7, T7), (w, t)] ++ vs.zip cs)) (hl : vs.length = cs.length) (hp : G <+: X) (ho : G.length ≤ o) (hr : X.row o = some ⟨vs.take k ++ w :: vs.drop k, e, 1, true⟩) :
    St hF X [(V7, T7), (.slice (some ⟨o, 0, none⟩) (cs.length + 1) (cs.length + 1), .sl e 1 (cs.take k ++ t :: cs.drop k))] := by
  have hperm : ([(V7, T7), (w, t)] ++ vs.zip cs).Perm ([(V7, T7)] ++ (vs.take k ++ w :: vs.drop k).zip (cs.take k ++ t :: cs.drop k)) := by
    rw [zip_ins hl]
    refine List.Perm.cons _ ?_
    have h1 : ((w, t) :: ((vs.zip cs).take k ++ (vs.zip cs).drop k)).Perm ((vs.zip cs).take k ++ (w, t) :: (vs.zip cs).drop k) := List.perm_middle.symm
    rwa [List.take_append_drop] at h1
  have hlen : (cs.take k ++ t :: cs.drop k).length = cs.length + 1 := by
    simp only [List.length_append, List.length_cons, List.length_take, List.length_drop]; omega
  have := (S.perm hperm).implode (by simp only [List.length_append, List.length_cons, List.length_take, List.length_drop, hl]) hp ho hr
  rw [hlen] at this
  exact this
section
variable {hF : H} {q : Int} {W : Nat}
theorem rred_ins {G : H} {A : List (Nat × List (El q))} {r : List (El q)} {k p' : Nat} {s6 s7 s9 : Option Addr} {c6 c7 c9 : Nat} (hAl : A.length ≤ 1000) (hk : k ≤ A.length) (hrl : r.length = W)
    (S : St hF G [(.slice s6 A.length c6, ll 22 (pvR A)), (.slice s7 A.length c7, il (pvP A)), (.slice s9 W c9, il (vs r))]) :
    ∃ (o1 o2 o3 O1 O2 O3 : Nat) (X1 X2 X3 Y1 Y2 Y3 : H),
      aapp 22 1 24 (G ++ [.row ⟨[], 22, 1, true⟩]) (.slice (some ⟨G.length, 0, none⟩) 0 0) (.slice s6 k c6) = some (.slice (some ⟨o1, 0, none⟩) k k, X1) ∧
      aapp 22 1 24 (X1 ++ [.row ⟨[.slice s9 W c9], 22, 1, true⟩]) (.slice (some ⟨o1, 0, none⟩) k k) (.slice (some ⟨X1.length, 0, none⟩) 1 1) = some (.slice (some ⟨o2, 0, none⟩) (k + 1) (k + 1), X2) ∧
      aapp 22 1 24 X2 (.slice (some ⟨o2, 0, none⟩) (k + 1) (k + 1)) (.slice (if (c6 : Int) = (k : Int) then s6 else s6.map fun a => ⟨a.block, a.off + k, none⟩) (A.length - k) (c6 - k)) = some (.slice (some ⟨o3, 0, none⟩) (A.length + 1) (A.length + 1), X3) ∧
      aapp 3 1 8 (X3 ++ [.row ⟨[], 3, 1, true⟩]) (.slice (some ⟨X3.length, 0, none⟩) 0 0) (.slice s7 k c7) = some (.slice (some ⟨O1, 0, none⟩) k k, Y1) ∧
      aapp 3 1 8 (Y1 ++ [.row ⟨[.int .i64 p'], 3, 1, true⟩]) (.slice (some ⟨O1, 0, none⟩) k k) (.slice (some ⟨Y1.length, 0, none⟩) 1 1) = some (.slice (some ⟨O2, 0, none⟩) (k + 1) (k + 1), Y2) ∧
      aapp 3 1 8 Y2 (.slice (some ⟨O2, 0, none⟩) (k + 1) (k + 1)) (.slice (if (c7 : Int) = (k : Int) then s7 else s7.map fun a => ⟨a.block, a.off + k, none⟩) (A.length - k) (c7 - k)) = some (.slice (some ⟨O3, 0, none⟩) (A.length + 1) (A.length + 1), Y3) ∧
      St hF Y3 [(.slice (some ⟨o3, 0, none⟩) (A.length + 1) (A.length + 1), ll 22 (pvR (A.take k ++ (p', r) :: A.drop k))), (.slice (some ⟨O3, 0, none⟩) (A.length + 1) (A.length + 1), il (pvP (A.take k ++ (p', r) :: A.drop k)))] ∧ c6 = A.length ∧ c7 = A.length ∧ G <+: X2 ∧ (if (c6 : Int) = 0 then s6 else s6.map fun a => ⟨a.block, a.off, none⟩) = s6 ∧ unitOk G 1 s6 = true ∧ X3 <+: Y2 ∧ (if (c7 : Int) = 0 then s7 else s7.map fun a => ⟨a.block, a.off, none⟩) = s7 ∧ unitOk X3 1 s7 = true := by
  obtain ⟨hl7, g7⟩ := S.inv (k := 1) rfl
  have S2 : St hF G ([(.slice s7 A.length c7, il (pvP A)), (.slice s9 W c9, il (vs r))] ++ [(.slice s6 A.length c6, .sl 22 1 ((pvR A).map il))]) := St.rot (L := [(.slice s6 A.length c6, ll 22 (pvR A))]) S
  obtain ⟨us, hul, hn6, hc6, hv6, S3⟩ := S2.explode
  have hcs : ((pvR A).map il).length = A.length := by rw [List.length_map, pvR_len]
  rw [hcs] at hul hn6
  obtain ⟨o1, o2, o3, X1, X2, X3, e1, e2, e3, p3, q3, r3, w1, w2, w3⟩ := ins_chain (G := G) (e := 22) (b := 24) (N := A.length) (C := c6) (k := k) (sa := s6) (vs := us) (by
    rcases hv6 with ⟨h1, h2⟩ | ⟨o, h1, h2⟩
    · refine .inl ⟨h1, ?_, h2⟩
      have h3 : A.length = 0 := by rw [← hul, h2]; rfl
      omega
    · exact .inr ⟨o, h1, hc6, h2⟩) hul hk (by omega) (by omega) (.slice s9 W c9)
  have S4 := St.ins (n := A.length) (c := c6) (sa := s6) S3 (by rw [hul, hcs]) p3 q3 r3
  rw [hcs] at S4
  have g7' : Grown X3 s7 c7 (pvP A) hF.length := g7.carry fun o ho1 ho2 => row_prefix p3 ho2
  obtain ⟨O1, O2, O3, Y1, Y2, Y3, f1, f2, f3, P3, Q3, R3, w4, w5, w6⟩ := ins_chain (G := X3) (e := 3) (b := 8) (N := A.length) (C := c7) (k := k) (sa := s7) (vs := ints (pvP A)) (by
    rcases g7' with ⟨h1, h2, h3⟩ | ⟨o, h1, h2, h3, h4⟩
    · exact .inl ⟨h1, h2, by rw [h3]; rfl⟩
    · exact .inr ⟨o, h1, by rw [h3, pvP_len], h4⟩) (by rw [ints_len, pvP_len]) hk (by omega) (by omega) (.int .i64 p')
  have hR : (ints (pvP A)).take k ++ Value.int .i64 p' :: (ints (pvP A)).drop k = ints (pvP (A.take k ++ (p', r) :: A.drop k)) := by
    unfold ints pvP
    simp only [List.map_append, List.map_cons, List.map_take, List.map_drop]
  rw [hR] at R3
  have hC : ((pvR A).map il).take k ++ il (vs r) :: ((pvR A).map il).drop k = (pvR (A.take k ++ (p', r) :: A.drop k)).map il := by
    unfold pvR
    simp only [List.map_append, List.map_cons, List.map_take, List.map_drop]
  rw [hC] at S4
  have S5 := (S4.drop 0).join (St.ofRow (n := A.length + 1) P3 R3 Q3 (by rw [pvP_len]; simp only [List.length_append, List.length_cons, List.length_take, List.length_drop]; omega))
  refine ⟨o1, o2, o3, O1, O2, O3, X1, X2, X3, Y1, Y2, Y3, e1, e2, e3, f1, f2, f3, S5, hc6, ?_, w1, w2, w3, w4, w5, w6⟩
  rw [pvP_len] at hl7
  rcases g7 with ⟨h1, h2, h3⟩ | ⟨o, h1, h2, h3, h4⟩
  · have h5 : A.length = 0 := by rw [← pvP_len A, h3]; rfl
    omega
  · rw [h3, pvP_len]
end
end Go.Proofs.Ytammndhoillliaa
namespace Go.Proofs.Ytammndhoillliaa
open Go.Am Go.Alg
set_option linter.unusedVariables false
set_option linter.unusedSimpArgs false
set_option maxRecDepth 30000

theorem add_is {q : Int} [IsFld q] {A : List (Nat × List (El q))} {r0 r : List (El q)} {p : Nat} (hr : subRows A r0 = r) (hp : leadL r = p) : addRow A r0 = if p = r.length then A else insR p (scaleL (FK.inv (wf r p)) r) (A.map (updR p (scaleL (FK.inv (wf r p)) r))) := by
  unfold addRow; rw [hr, hp]; rfl
section
variable {hF : H} {q p : Int} {m : Nat} {g : Int} {mod : List Int} {om cm B : Nat} [IsFld q] {W : Nat}
theorem rred_out (u : RUse hF q p m g mod om cm) (hB : hF.row B = some ⟨fvL q p m g (.slice (some ⟨om, 0, none⟩) mod.length cm), 67, 0, true⟩)
    {M : List (List (El q))} {sm : Option Addr} {cm' : Nat} (hM : RdLL hF sm cm' (M.map vs)) (hMl : ∀ r ∈ M, r.length = W) (hMn : M.length ≤ 500) (hW : W ≤ 1000) :
    ∀ (n i : Nat) (A : List (Nat × List (El q))) (s6 s7 : Option Addr) (c6 c7 : Nat) (G : H), i + n = M.length → A.length ≤ i → (∀ a ∈ A, a.2.length = W ∧ a.1 < W) →
      St hF G [(.slice s6 A.length c6, ll 22 (pvR A)), (.slice s7 A.length c7, il (pvP A))] →
      ∃ (s6' s7' : Option Addr) (c6' c7' : Nat) (G' : H), St hF G' [(.slice s6' ((M.drop i).foldl addRow A).length c6', ll 22 (pvR ((M.drop i).foldl addRow A))), (.slice s7' ((M.drop i).foldl addRow A).length c7', il (pvP ((M.drop i).foldl addRow A)))] ∧ ∀ ks,
        goL T [.tmp 4, .tmp 5] [1, 2, 6, 7, 8] c161L5 (.blk 0 [6, 7] :: ks) [(1, .slice sm M.length cm'), (2, .pointer (some ⟨B, 0, none⟩)), (6, .slice s6 A.length c6), (7, .slice s7 A.length c7), (8, .int .i64 i)] G =
          go T [.tmp 4, .tmp 5] ks (Fr.of [(6, .slice s6' (((M.drop i).foldl addRow A).length) c6'), (7, .slice s7' (((M.drop i).foldl addRow A).length) c7')]) G'
  | 0, i, A, s6, s7, c6, c7, G, hi, hAi, hA, S => by
    rw [drop_end (by omega)]
    refine ⟨s6, s7, c6, c7, G, S, fun ks => ?_⟩
    rw [goL_at c161L5.eq_def]
    simp (disch := first | omega | (simp only [Go.Am.len_push, Go.Am.len_set, Go.Am.len_kill] <;> omega) | fail) only [push_cast, seval, wrap64, dec_lt, dec_nlt, dec_le, dec_nle, dec_eq, dec_ne, if_pos, if_neg, Int.natCast_add, Int.natCast_one, Int.natCast_zero, Int.toNat_natCast, List.foldl_nil]
  | n + 1, i, A, s6, s7, c6, c7, G, hi, hAi, hA, S => by
    have IH := rred_out u hB hM hMl hMn hW n (i + 1)
    obtain ⟨r0, hr0⟩ := at_some (l := M) (i := i) (by omega)
    have hr0l := hMl r0 (List.mem_of_getElem? hr0)
    rw [drop_at hr0, List.foldl_cons]
    obtain ⟨om', sb, cb, rfl, l1, hb⟩ := (hM.mono S.pre).at (i := i) (l := vs r0) (by rw [List.getElem?_map, hr0]; rfl)
    rw [vs_len, hr0l] at l1
    obtain ⟨o9, G1, ⟨p1, ho9, q9⟩, e1⟩ := copy_call hb (by rw [vs_len]; omega)
    rw [vs_len, hr0l] at e1
    have S1 := S.join (St.ofRow (n := W) p1 q9 ho9 (by rw [vs_len, hr0l]))
    obtain ⟨s9, c9, G2, S2, e2⟩ := rred_sub (V1 := .slice (some ⟨om', 0, none⟩) M.length cm') (V8 := .int .i64 i) u hB hA (by omega) (by omega) A.length 0 r0 (some ⟨o9, 0, none⟩) W G1 (by omega) hr0l S1
    rw [List.drop_zero] at S2
    obtain ⟨r, hr⟩ : ∃ r, subRows A r0 = r := ⟨_, rfl⟩
    rw [hr] at S2
    have hrl : r.length = W := by rw [← hr]; exact sub_len (n := W) (fun a ha => (hA a ha).1) A r0 (fun _ h => h) hr0l
    have hrd := S2.rd (k := 2) rfl
    have e3 := fun ks => rred_lead (V1 := .slice (some ⟨om', 0, none⟩) M.length cm') (V8 := .int .i64 i) (V2 := .pointer (some ⟨B, 0, none⟩)) (V6 := .slice s6 A.length c6) (V7 := .slice s7 A.length c7) hrd hrl (by omega) W 0 (by omega) ks
    rw [List.drop_zero, Nat.add_zero] at e3
    obtain ⟨at', hat⟩ : ∃ x, leadL r = x := ⟨_, rfl⟩
    have hle : at' ≤ W := by rw [← hat, ← hrl]; exact leadL_le r
    rw [hat] at e3
    have hadd := add_is hr hat
    simp only [Int.natCast_zero] at e2 e3
    by_cases hfull : at' = W
    · rw [if_pos (by rw [hrl]; exact hfull)] at hadd
      rw [hadd]
      obtain ⟨s6', s7', c6', c7', G', k1, k2⟩ := IH A s6 s7 c6 c7 G2 (by omega) (by omega) hA (S2.take 2)
      refine ⟨s6', s7', c6', c7', G', k1, fun ks => ?_⟩
      have ih := k2 ks
      rw [Int.natCast_add, Int.natCast_one] at ih
      rw [goL_at c161L5.eq_def, ← ih]
      simp (disch := first | omega | (simp only [Go.Am.len_push, Go.Am.len_set, Go.Am.len_kill] <;> omega) | fail) only [push_cast, seval, wrap64, dec_lt, dec_nlt, dec_le, dec_nle, dec_eq, dec_ne, if_pos, if_neg, Int.natCast_add, Int.natCast_one, Int.natCast_zero, Int.toNat_natCast, l1, e1]
      rw [e2]
      simp (disch := first | omega | (simp only [Go.Am.len_push, Go.Am.len_set, Go.Am.len_kill] <;> omega) | fail) only [push_cast, seval, wrap64, dec_lt, dec_nlt, dec_le, dec_nle, dec_eq, dec_ne, if_pos, if_neg, Int.natCast_add, Int.natCast_one, Int.natCast_zero, Int.toNat_natCast]
      rw [e3]
      have hfi : (at' : Int) = (W : Int) := by omega
      simp (disch := first | omega | (simp only [Go.Am.len_push, Go.Am.len_set, Go.Am.len_kill] <;> omega) | fail) only [push_cast, seval, wrap64, dec_lt, dec_nlt, dec_le, dec_nle, dec_eq, dec_ne, if_pos, if_neg, Int.natCast_add, Int.natCast_one, Int.natCast_zero, Int.toNat_natCast, dec_eq hfi]
    · rw [if_neg (by rw [hrl]; exact hfull)] at hadd
      have hne : wf r at' ≠ 0 := by have := leadL_ne (l := r) (by rw [hat, hrl]; omega); rwa [hat] at this
      obtain ⟨o9', f9, rfl, _, l2⟩ := rd_at hrd (i := at') (by omega)
      have lB := lds_all (row_keep' hB S2.pre) (n := 5) rfl
      obtain ⟨G3, p3, e4⟩ := rinv_call (u.mono S2.pre) (wf r at').v
      rw [← v_inv hne] at e4
      obtain ⟨c, hc⟩ : ∃ c, FK.inv (wf r at') = c := ⟨_, rfl⟩
      rw [hc] at e4 hadd
      obtain ⟨G4, S4, e5⟩ := rred_scale (V1 := .slice (some ⟨om', 0, none⟩) M.length cm') (V8 := .int .i64 i) (V11 := .int .i64 at') u hB (by omega) hrl (c := c) W 0 G3 (by omega) (by simp only [List.take_zero, List.nil_append, List.drop_zero]; exact S2.grow p3)
      obtain ⟨s, hs⟩ : ∃ s, scaleL c r = s := ⟨_, rfl⟩
      have hsl : s.length = W := by rw [← hs]; unfold scaleL; rw [List.length_map, hrl]
      rw [hs] at S4 hadd
      obtain ⟨G5, S5, e6⟩ := rred_upd (V1 := .slice (some ⟨om', 0, none⟩) M.length cm') (V8 := .int .i64 i) u hB hA (by omega) (by omega) hsl (at' := at') (by omega) A.length 0 G4 (by omega) (by rw [List.take_zero, List.drop_zero, List.nil_append]; exact S4)
      obtain ⟨A', hA'⟩ : ∃ A', A.map (updR at' s) = A' := ⟨_, rfl⟩
      have hAl' : A'.length = A.length := by rw [← hA', List.length_map]
      have hpv : pvP A' = pvP A := by rw [← hA', pvP_upd]
      have hA2 : ∀ a ∈ A', a.2.length = W ∧ a.1 < W := fun a ha => by
        rw [← hA'] at ha
        obtain ⟨b, hb', rfl⟩ := List.mem_map.1 ha
        have := hA b hb'
        exact ⟨by show (lessL _ _ _).length = W; rw [lessL_len (by rw [this.1, hsl]), this.1], this.2⟩
      rw [hA', ← hAl'] at S5
      rw [← hpv] at S5
      rw [hA'] at hadd
      have e7 := fun ks => rred_pos (V1 := .slice (some ⟨om', 0, none⟩) M.length cm') (V8 := .int .i64 i) (V2 := .pointer (some ⟨B, 0, none⟩)) (s6 := s6) (C6 := c6) (V9 := .slice (some ⟨o9', f9, none⟩) W c9) (at' := at') (S5.rd (k := 1) rfl) (by omega) A'.length 0 (by omega) ks
      rw [List.drop_zero, Nat.add_zero] at e7
      obtain ⟨k, hk⟩ : ∃ k, posR at' A' = k := ⟨_, rfl⟩
      have hkl : k ≤ A'.length := by rw [← hk]; exact posR_le _ _
      rw [hk] at e7
      obtain ⟨o1, o2, o3, O1, O2, O3, X1, X2, X3, Y1, Y2, Y3, f1, f2, f3, f4, f5, f6, S6, hc6, hc7, w1, w2, w3, w4, w5, w6⟩ := rred_ins (k := k) (p' := at') (by omega) hkl hsl S5
      rw [ins_pos, hk] at hadd
      rw [hadd]
      have hnl : (A'.take k ++ (at', s) :: A'.drop k).length = A'.length + 1 := by
        simp only [List.length_append, List.length_cons, List.length_take, List.length_drop]; omega
      rw [← hnl] at S6
      obtain ⟨s6', s7', c6', c7', G', k1, k2⟩ := IH (A'.take k ++ (at', s) :: A'.drop k) (some ⟨o3, 0, none⟩) (some ⟨O3, 0, none⟩) _ _ Y3 (by omega) (by rw [hnl]; omega) (fun a ha => by
        rcases List.mem_append.1 ha with h | h
        · exact hA2 a (List.mem_of_mem_take h)
        · rcases List.mem_cons.1 h with rfl | h
          · exact ⟨hsl, by show at' < W; omega⟩
          · exact hA2 a (List.mem_of_mem_drop h)) S6
      refine ⟨s6', s7', c6', c7', G', k1, fun ks => ?_⟩
      have ih := k2 ks
      rw [Int.natCast_add, Int.natCast_one] at ih
      rw [hnl] at ih
      simp only [Int.natCast_zero] at e5 e6 e7
      rw [← hAl'] at e2 e3 e5 e6 ⊢
      have hne' : ¬ (at' : Int) = (W : Int) := by omega
      have u1 := unitOk_mono w3 (List.prefix_append G5 [.row ⟨[], 22, 1, true⟩])
      have u2 := unitOk_mono w3 w1
      have u3 := unitOk_mono w6 (List.prefix_append X3 [.row ⟨[], 3, 1, true⟩])
      have u4 := unitOk_mono w6 w4
      have hg1 : (0 : Int) ≤ 0 ∧ (0 : Int) ≤ (k : Int) ∧ (k : Int) ≤ (c6 : Int) := by omega
      have hg2 : (0 : Int) ≤ (k : Int) ∧ (k : Int) ≤ (A'.length : Int) ∧ (A'.length : Int) ≤ (c6 : Int) := by omega
      have hg3 : (0 : Int) ≤ 0 ∧ (0 : Int) ≤ (k : Int) ∧ (k : Int) ≤ (c7 : Int) := by omega
      have hg4 : (0 : Int) ≤ (k : Int) ∧ (k : Int) ≤ (A'.length : Int) ∧ (A'.length : Int) ≤ (c7 : Int) := by omega
      have hn1 : ((A'.length : Int) - (k : Int)).toNat = A'.length - k := by omega
      have hn2 : ((c6 : Int) - (k : Int)).toNat = c6 - k := by omega
      have hn3 : ((c7 : Int) - (k : Int)).toNat = c7 - k := by omega
      rw [goL_at c161L5.eq_def, ← ih]
      simp (disch := first | omega | (simp only [Go.Am.len_push, Go.Am.len_set, Go.Am.len_kill] <;> omega) | fail) only [push_cast, seval, wrap64, dec_lt, dec_nlt, dec_le, dec_nle, dec_eq, dec_ne, if_pos, if_neg, Int.natCast_add, Int.natCast_one, Int.natCast_zero, Int.toNat_natCast, l1, e1]
      rw [e2]
      simp (disch := first | omega | (simp only [Go.Am.len_push, Go.Am.len_set, Go.Am.len_kill] <;> omega) | fail) only [push_cast, seval, wrap64, dec_lt, dec_nlt, dec_le, dec_nle, dec_eq, dec_ne, if_pos, if_neg, Int.natCast_add, Int.natCast_one, Int.natCast_zero, Int.toNat_natCast]
      rw [e3]
      simp (disch := first | omega | (simp only [Go.Am.len_push, Go.Am.len_set, Go.Am.len_kill] <;> omega) | fail) only [push_cast, seval, wrap64, dec_lt, dec_nlt, dec_le, dec_nle, dec_eq, dec_ne, if_pos, if_neg, Int.natCast_add, Int.natCast_one, Int.natCast_zero, Int.toNat_natCast, dec_ne hne', l2, lB, e4]
      rw [e5]
      simp (disch := first | omega | (simp only [Go.Am.len_push, Go.Am.len_set, Go.Am.len_kill] <;> omega) | fail) only [push_cast, seval, wrap64, dec_lt, dec_nlt, dec_le, dec_nle, dec_eq, dec_ne, if_pos, if_neg, Int.natCast_add, Int.natCast_one, Int.natCast_zero, Int.toNat_natCast]
      rw [e6]
      simp (disch := first | omega | (simp only [Go.Am.len_push, Go.Am.len_set, Go.Am.len_kill] <;> omega) | fail) only [push_cast, seval, wrap64, dec_lt, dec_nlt, dec_le, dec_nle, dec_eq, dec_ne, if_pos, if_neg, Int.natCast_add, Int.natCast_one, Int.natCast_zero, Int.toNat_natCast]
      rw [e7]
      simp (disch := first | omega | (simp only [Go.Am.len_push, Go.Am.len_set, Go.Am.len_kill] <;> omega) | fail) only [push_cast, seval, wrap64, dec_lt, dec_nlt, dec_le, dec_nle, dec_eq, dec_ne, if_pos, if_neg, Int.natCast_add, Int.natCast_one, Int.natCast_zero, Int.toNat_natCast, hg1, hg2, hg3, hg4, u1, u2, u3, u4, w2, w5, f1, f2, f3, f4, f5, f6, Int.sub_zero, hn1, hn2, hn3]
end
section
variable {h : H} {q p : Int} {m : Nat} {g : Int} {mod : List Int} {om cm : Nat} [IsFld q] {W : Nat}
theorem rreduce_call (u : RUse h q p m g mod om cm) {M : List (List (El q))} {sm : Option Addr} {cm' : Nat} (hM : RdLL h sm cm' (M.map vs)) (hMl : ∀ r ∈ M, r.length = W) (hMn : M.length ≤ 500) (hW : W ≤ 1000) :
    ∃ (s6 s7 : Option Addr) (c6 c7 : Nat) (G : H), St h G [(.slice s6 (redR M).length c6, ll 22 (pvR (redR M))), (.slice s7 (redR M).length c7, il (pvP (redR M)))] ∧
      call T 161 [rv q p m g mod om cm, .slice sm M.length cm'] h = some (.tuple #[.slice s6 (redR M).length c6, .slice s7 (redR M).length c7], G) := by
  obtain ⟨h1, eh1⟩ : ∃ h1 : H, h1 = h ++ [rvR q p m g mod om cm] := ⟨_, rfl⟩
  have hB : h1.row h.length = some ⟨fvL q p m g (.slice (some ⟨om, 0, none⟩) mod.length cm), 67, 0, true⟩ := by rw [eh1]; exact row_push_new
  have p1 : h <+: h1 := by rw [eh1]; exact List.prefix_append _ _
  obtain ⟨s6, s7, c6, c7, G, k1, k2⟩ := rred_out (W := W) (u.mono p1) hB (hM.mono p1) hMl hMn hW M.length 0 [] none none 0 0 h1 (by omega) (by simp) (fun a ha => by cases ha) (St.join (L := [_]) (M := [_]) (St.nils (List.prefix_refl _)) (St.nils (List.prefix_refl _)))
  rw [List.drop_zero] at k1 k2
  simp only [Int.natCast_zero] at k2
  refine ⟨s6, s7, c6, c7, G, k1.low p1, ?_⟩
  rw [call_at T161 rfl]
  unfold F161 c161
  simp (disch := first | omega | (simp only [Go.Am.len_push, Go.Am.len_set, Go.Am.len_kill] <;> omega) | fail) only [push_cast, seval, ← eh1]
  simp only [List.length_nil] at k2
  rw [k2]
  simp (disch := first | omega | (simp only [Go.Am.len_push, Go.Am.len_set, Go.Am.len_kill] <;> omega) | fail) only [push_cast, seval]
  rfl
end
end Go.Proofs.Ytammndhoillliaa
namespace Go.Proofs.Ytammndhoillliaa
open Go.Am Go.Alg
set_option linter.unusedVariables false
set_option linter.unusedSimpArgs false
set_option maxRecDepth 30000

theorem aug_take {α : Type} {M : List (List α)} {b : List α} {i : Nat} {r : List α} {x : α} (hr : M[i]? = some r) (hx : b[i]? = some x) : (augL M b).take (i + 1) = (augL M b).take i ++ [r ++ [x]] := by
  have hi : (augL M b)[i]? = some (r ++ [x]) := by unfold augL; rw [List.getElem?_zipWith, hr, hx]
  obtain ⟨h1, h2⟩ := List.getElem?_eq_some_iff.1 hi
  rw [List.take_succ_eq_append_getElem h1, h2]
theorem aug_length {α : Type} {M : List (List α)} {b : List α} (h : b.length = M.length) : (augL M b).length = M.length := by unfold augL; rw [List.length_zipWith, h, Nat.min_self]
theorem ll_app (e : Nat) (m : List (List Int)) (l : List Int) : Tr.sl e 1 ((m.map il) ++ [il l]) = ll e (m ++ [l]) := by unfold ll; rw [List.map_append]; rfl
theorem set_last {α : Type} (l : List α) (x y : α) : (l ++ [x]).set l.length y = l ++ [y] := by simp
/-- a list of one's own goes into a list of lists -/
theorem St.pushL {hF G : H} {L : List (Value × Tr)} {k n c : Nat} {sa s' : Option Addr} {c' : Nat} {m : List (List Int)} {l : List Int} (S : St hF G (L ++ [(.slice s' l.length c', il l)])) (hk : L[k]? = some (.slice sa n c, ll 22 m)) (hkl : k < L.length) (hn : n ≤ 1000000) :
    ∃ (sa' : Option Addr) (G' : H), aapp 22 1 24 (G ++ [.row ⟨[.slice s' l.length c'], 22, 1, true⟩]) (.slice sa n c) (.slice (some ⟨G.length, 0, none⟩) 1 1) = some (.slice sa' (n + 1) (n + 1), G') ∧ St hF G' (L.set k (.slice sa' (n + 1) (n + 1), ll 22 (m ++ [l]))) := by
  have hk' : (L ++ [(Value.slice s' l.length c', il l)])[k]? = some (.slice sa n c, .sl 22 1 (m.map il)) := by rw [List.getElem?_append_left hkl]; exact hk
  obtain ⟨hlen, sa', G', e1, S1, _, _⟩ := S.app1 (b := 24) hk' (.slice s' l.length c') rfl hn (by omega)
  rw [List.set_append_left _ _ hkl] at S1
  refine ⟨sa', G', e1, ?_⟩
  have S2 := S1.put (k := k) (i := (m.map il).length) (List.getElem?_set_self hkl) (by simp)
  rw [List.set_set, set_last, ll_app] at S2
  exact S2
section
variable {hF : H} {q p : Int} {m : Nat} {g : Int} {mod : List Int} {om cm B : Nat} [IsFld q] {N : Nat}
theorem rsol_aug {M : List (List (El q))} {b : List (El q)} {sm sb : Option Addr} {cm' cb : Nat} (hM : RdLL hF sm cm' (M.map vs)) (hb : RdI hF sb cb (vs b)) (hbl : b.length = M.length) (hMl : ∀ r ∈ M, r.length = N) (hMn : M.length ≤ 500) (hN : N ≤ 900) {V3 : Value} :
    ∀ (n i : Nat) (s9 : Option Addr) (c9 : Nat) (G : H), i + n = M.length → St hF G [(.slice s9 i c9, ll 22 (((augL M b).take i).map vs))] →
      ∃ (s9' : Option Addr) (c9' : Nat) (G' : H), St hF G' [(.slice s9' M.length c9', ll 22 ((augL M b).map vs))] ∧ ∀ ks,
        goL T [.tmp 6, .tmp 7] [1, 2, 3, 8, 9, 10] c135L0 (.blk 0 [3, 8, 9] :: ks) [(1, .slice sm M.length cm'), (2, .slice sb b.length cb), (3, V3), (8, .int .i64 N), (9, .slice s9 i c9), (10, .int .i64 i)] G =
          go T [.tmp 6, .tmp 7] ks (Fr.of [(3, V3), (8, .int .i64 N), (9, .slice s9' M.length c9')]) G'
  | 0, i, s9, c9, G, hi, S => by
    obtain rfl : i = M.length := by omega
    rw [List.take_of_length_le (by rw [aug_length hbl]; exact Nat.le_refl _)] at S
    refine ⟨s9, c9, G, S, fun ks => ?_⟩
    rw [goL_at c135L0.eq_def]
    simp (disch := first | omega | (simp only [Go.Am.len_push, Go.Am.len_set, Go.Am.len_kill] <;> omega) | fail) only [push_cast, seval, wrap64, dec_lt, dec_nlt, dec_le, dec_nle, dec_eq, dec_ne, if_pos, if_neg, Int.natCast_add, Int.natCast_one, Int.natCast_zero, Int.toNat_natCast]
  | n + 1, i, s9, c9, G, hi, S => by
    have IH := rsol_aug (V3 := V3) hM hb hbl hMl hMn hN n (i + 1)
    obtain ⟨r, hr⟩ := at_some (l := M) (i := i) (by omega)
    obtain ⟨x, hx⟩ := at_some (l := b) (i := i) (by omega)
    have hrl := hMl r (List.mem_of_getElem? hr)
    have hwx : wf b i = x := by
      obtain ⟨h1, h2⟩ := List.getElem?_eq_some_iff.1 hx
      rw [wf_at h1, h2]
    rw [aug_take hr hx] at IH
    obtain ⟨om', sr, cr, rfl, l1, hrr⟩ := (hM.mono S.pre).at (i := i) (l := vs r) (by rw [List.getElem?_map, hr]; rfl)
    rw [vs_len, hrl] at l1
    obtain ⟨o9, G1, ⟨p1, ho9, q9⟩, e1⟩ := copy_call hrr (by rw [vs_len]; omega)
    rw [vs_len, hrl] at e1
    obtain ⟨ob, fb, rfl, hob, l2⟩ := rd_at (hb.mono S.pre) (i := i) (by omega)
    rw [hwx] at l2
    have l2 := ld1_pre l2 p1
    have S1 := S.join (St.ofRow (n := N) p1 q9 ho9 (by rw [vs_len, hrl]))
    obtain ⟨s3, G2, e2, S2⟩ := S1.appI (k := 1) rfl x.v (by omega)
    have hv : vs r ++ [x.v] = vs (r ++ [x]) := by rw [vs_app]; rfl
    have hlen : (vs (r ++ [x])).length = N + 1 := by rw [vs_len]; simp [hrl]
    rw [hv] at S2
    obtain ⟨s4, G3, e3, S3⟩ := St.pushL (L := [_]) (k := 0) (l := vs (r ++ [x])) (by rw [hlen]; exact S2) rfl (by simp) (by omega)
    rw [hlen] at e3
    have hm : ((augL M b).take i).map vs ++ [vs (r ++ [x])] = ((augL M b).take i ++ [r ++ [x]]).map vs := by rw [List.map_append]; rfl
    rw [hm] at S3
    obtain ⟨s9', c9', G', k1, k2⟩ := IH s4 (i + 1) G3 (by omega) S3
    refine ⟨s9', c9', G', k1, fun ks => ?_⟩
    have ih := k2 ks
    rw [Int.natCast_add, Int.natCast_one] at ih
    rw [goL_at c135L0.eq_def, ← ih]
    simp (disch := first | omega | (simp only [Go.Am.len_push, Go.Am.len_set, Go.Am.len_kill] <;> omega) | fail) only [push_cast, seval, wrap64, dec_lt, dec_nlt, dec_le, dec_nle, dec_eq, dec_ne, if_pos, if_neg, Int.natCast_add, Int.natCast_one, Int.natCast_zero, Int.toNat_natCast, l1, l2, e1, behind_true p1, decide_eq_true hob, e2, e3]
theorem rsol_set {A : List (Nat × List (El q))} (hA : ∀ a ∈ A, a.2.length = N + 1 ∧ a.1 < N + 1) (hAl : A.length ≤ 1000) (hN : N ≤ 900) {s11 s12 s13 : Option Addr} {c11 c12 c13 : Nat} :
    ∀ (n k : Nat) (x : List (El q)) (G : H), k + n = A.length → x.length = N → St hF G [(.slice s11 A.length c11, ll 22 (pvR A)), (.slice s12 A.length c12, il (pvP A)), (.slice s13 N c13, il (vs x))] →
      ∃ G' : H, hF <+: G' ∧ if (A.drop k).any (fun a => a.1 == N) = true then
          ∀ ks, goL T [.tmp 6, .tmp 7] [8, 11, 12, 13, 14] c135L1 (.blk 2 [13] :: ks) [(8, .int .i64 N), (11, .slice s11 A.length c11), (12, .slice s12 A.length c12), (13, .slice s13 N c13), (14, .int .i64 k)] G = some (.tuple #[.slice none 0 0, .bool false], G')
        else St hF G' [(.slice s13 N c13, il (vs (setP N (A.drop k) x)))] ∧ ∀ ks,
          goL T [.tmp 6, .tmp 7] [8, 11, 12, 13, 14] c135L1 (.blk 2 [13] :: ks) [(8, .int .i64 N), (11, .slice s11 A.length c11), (12, .slice s12 A.length c12), (13, .slice s13 N c13), (14, .int .i64 k)] G =
            go T [.tmp 6, .tmp 7] ks (Fr.of [(13, .slice s13 N c13)]) G'
  | 0, k, x, G, hk, hx, S => by
    rw [drop_end (by omega)]
    refine ⟨G, S.pre, ?_⟩
    rw [if_neg (by simp)]
    refine ⟨(S.drop 0).drop 0, fun ks => ?_⟩
    rw [goL_at c135L1.eq_def]
    simp (disch := first | omega | (simp only [Go.Am.len_push, Go.Am.len_set, Go.Am.len_kill] <;> omega) | fail) only [push_cast, seval, wrap64, dec_lt, dec_nlt, dec_le, dec_nle, dec_eq, dec_ne, if_pos, if_neg, Int.natCast_add, Int.natCast_one, Int.natCast_zero, Int.toNat_natCast]
  | n + 1, k, x, G, hk, hx, S => by
    have IH := rsol_set (s11 := s11) (s12 := s12) (s13 := s13) (c11 := c11) (c12 := c12) (c13 := c13) hA hAl hN n (k + 1)
    obtain ⟨a, ha⟩ := at_some (l := A) (i := k) (by omega)
    obtain ⟨hal, hap⟩ := hA a (List.mem_of_getElem? ha)
    rw [drop_at ha, List.any_cons, setP]
    obtain ⟨o7, f7, rfl, _, l2⟩ := (S.rd (k := 1) rfl).at (i := k) (by rw [pvP_len]; omega)
    rw [pvP_at ha] at l2
    by_cases hp : a.1 = N
    · refine ⟨G, S.pre, ?_⟩
      rw [if_pos (by rw [hp, beq_self_eq_true, Bool.true_or])]
      intro ks
      rw [hp] at l2
      rw [goL_at c135L1.eq_def]
      simp (disch := first | omega | (simp only [Go.Am.len_push, Go.Am.len_set, Go.Am.len_kill] <;> omega) | fail) only [push_cast, seval, wrap64, dec_lt, dec_nlt, dec_le, dec_nle, dec_eq, dec_ne, if_pos, if_neg, Int.natCast_add, Int.natCast_one, Int.natCast_zero, Int.toNat_natCast, l2]
    · obtain ⟨o6, sb, cb, rfl, l1, hb⟩ := S.atL (k := 0) rfl (pvR_at ha)
      rw [vs_len, hal] at l1
      obtain ⟨ob, fb, rfl, _, l3⟩ := rd_at hb (i := N) (by omega)
      obtain ⟨o, G1, rfl, es, S1, _⟩ := S.sti (k := 2) rfl (i := a.1) (by rw [vs_len]; omega) (wf a.2 N).v
      rw [vs_set] at S1
      obtain ⟨G', k0, k1⟩ := IH (x.set a.1 (wf a.2 N)) G1 (by omega) (by rw [List.length_set]; exact hx) S1
      have hpN : (a.1 == N) = false := by simpa using hp
      have hpi : ¬ (a.1 : Int) = (N : Int) := by omega
      rw [hpN, Bool.false_or]
      refine ⟨G', k0, ?_⟩
      by_cases hany : (A.drop (k + 1)).any (fun a => a.1 == N) = true
      · rw [if_pos hany] at k1 ⊢
        intro ks
        have ih := k1 ks
        rw [Int.natCast_add, Int.natCast_one] at ih
        rw [goL_at c135L1.eq_def, ← ih]
        simp (disch := first | omega | (simp only [Go.Am.len_push, Go.Am.len_set, Go.Am.len_kill] <;> omega) | fail) only [push_cast, seval, wrap64, dec_lt, dec_nlt, dec_le, dec_nle, dec_eq, dec_ne, if_pos, if_neg, Int.natCast_add, Int.natCast_one, Int.natCast_zero, Int.toNat_natCast, l2, dec_ne hpi, l1, l3, es]
      · rw [if_neg hany] at k1 ⊢
        refine ⟨k1.1, fun ks => ?_⟩
        have ih := k1.2 ks
        rw [Int.natCast_add, Int.natCast_one] at ih
        rw [goL_at c135L1.eq_def, ← ih]
        simp (disch := first | omega | (simp only [Go.Am.len_push, Go.Am.len_set, Go.Am.len_kill] <;> omega) | fail) only [push_cast, seval, wrap64, dec_lt, dec_nlt, dec_le, dec_nle, dec_eq, dec_ne, if_pos, if_neg, Int.natCast_add, Int.natCast_one, Int.natCast_zero, Int.toNat_natCast, l2, dec_ne hpi, l1, l3, es]
end
section
variable {h : H} {q p : Int} {m : Nat} {g : Int} {mod : List Int} {om cm : Nat} [IsFld q] {N : Nat}
theorem rsolve_call (u : RUse h q p m g mod om cm) {M : List (List (El q))} {b : List (El q)} {sm sb : Option Addr} {cm' cb : Nat} (hM : RdLL h sm cm' (M.map vs)) (hb : RdI h sb cb (vs b)) (hbl : b.length = M.length) (hMl : ∀ r ∈ M, r.length = N) (hM0 : 0 < M.length) (hMn : M.length ≤ 500) (hN : N ≤ 900) :
    ∃ G : H, h <+: G ∧ match solR N M b with
      | none => call T 135 [rv q p m g mod om cm, .slice sm M.length cm', .slice sb b.length cb] h = some (.tuple #[.slice none 0 0, .bool false], G)
      | some x => ∃ (s : Option Addr) (c : Nat), St h G [(.slice s N c, il (vs x))] ∧ call T 135 [rv q p m g mod om cm, .slice sm M.length cm', .slice sb b.length cb] h = some (.tuple #[.slice s N c, .bool true], G) := by
  obtain ⟨h1, eh1⟩ : ∃ h1 : H, h1 = h ++ [rvR q p m g mod om cm] := ⟨_, rfl⟩
  have hB : h1.row h.length = some ⟨fvL q p m g (.slice (some ⟨om, 0, none⟩) mod.length cm), 67, 0, true⟩ := by rw [eh1]; exact row_push_new
  have p1 : h <+: h1 := by rw [eh1]; exact List.prefix_append _ _
  obtain ⟨r0, hr0⟩ := at_some (l := M) (i := 0) hM0
  obtain ⟨om', sr, cr, rfl, l1, hrr⟩ := (hM.mono p1).at (i := 0) (l := vs r0) (by rw [List.getElem?_map, hr0]; rfl)
  rw [vs_len, hMl r0 (List.mem_of_getElem? hr0)] at l1
  obtain ⟨s9, c9, G1, S1, e1⟩ := rsol_aug (V3 := .pointer (some ⟨h.length, 0, none⟩)) (hM.mono p1) (hb.mono p1) hbl hMl hMn hN M.length 0 none 0 h1 (by omega) (by rw [List.take_zero]; exact St.nils (List.prefix_refl _))
  have hrd := (S1.rdL (k := 0) rfl).1
  have lB := lds_all (row_keep' hB S1.pre) (n := 5) rfl
  have hal := aug_length (b := b) hbl
  obtain ⟨s11, s12, c11, c12, G2, S2, e2⟩ := rreduce_call (W := N + 1) ((u.mono p1).mono S1.pre) hrd (aug_len hMl) (by rw [hal]; omega) (by omega)
  rw [hal] at e2
  obtain ⟨r1, r2, r3⟩ := red_ok (aug_len (b := b) hMl)
  obtain ⟨A, hA⟩ : ∃ A, redR (augL M b) = A := ⟨_, rfl⟩
  rw [hA] at S2 e2 r1 r2
  have hAA : ∀ a ∈ A, a.2.length = N + 1 ∧ a.1 < N + 1 := fun a ha => ⟨r2 a ha, r1.lt (a.1, wf a.2) (mem_toF.2 ⟨a, ha, rfl⟩)⟩
  have hAl : A.length ≤ 1000 := by
    have := r1.len
    unfold toF at this
    rw [List.length_map] at this
    omega
  have S3 := (S1.join S2).drop 0
  have S4 := S3.mk N 0
  obtain ⟨G4, k0, k1⟩ := rsol_set hAA hAl hN A.length 0 (List.replicate N 0) _ (by omega) (by simp) (by rw [← vs_rep]; exact S4)
  rw [List.drop_zero] at k1
  refine ⟨G4, p1.trans k0, ?_⟩
  unfold solR
  rw [hA]
  simp only [Int.natCast_zero] at e1 k1
  by_cases hany : A.any (fun a => a.1 == N) = true
  · rw [if_pos hany] at k1 ⊢
    simp only
    rw [call_at T135 rfl]
    unfold F135 c135
    simp (disch := first | omega | (simp only [Go.Am.len_push, Go.Am.len_set, Go.Am.len_kill] <;> omega) | fail) only [push_cast, seval, wrap64, dec_lt, dec_nlt, dec_le, dec_nle, dec_eq, dec_ne, if_pos, if_neg, Int.natCast_add, Int.natCast_one, Int.natCast_zero, Int.toNat_natCast, ← eh1, l1]
    rw [e1]
    simp (disch := first | omega | (simp only [Go.Am.len_push, Go.Am.len_set, Go.Am.len_kill] <;> omega) | fail) only [push_cast, seval, wrap64, dec_lt, dec_nlt, dec_le, dec_nle, dec_eq, dec_ne, if_pos, if_neg, Int.natCast_add, Int.natCast_one, Int.natCast_zero, Int.toNat_natCast, lB, e2]
    rw [k1]
  · rw [if_neg hany] at k1 ⊢
    simp only
    refine ⟨_, _, k1.1.low p1, ?_⟩
    have k2 := k1.2
    rw [call_at T135 rfl]
    unfold F135 c135
    simp (disch := first | omega | (simp only [Go.Am.len_push, Go.Am.len_set, Go.Am.len_kill] <;> omega) | fail) only [push_cast, seval, wrap64, dec_lt, dec_nlt, dec_le, dec_nle, dec_eq, dec_ne, if_pos, if_neg, Int.natCast_add, Int.natCast_one, Int.natCast_zero, Int.toNat_natCast, ← eh1, l1]
    rw [e1]
    simp (disch := first | omega | (simp only [Go.Am.len_push, Go.Am.len_set, Go.Am.len_kill] <;> omega) | fail) only [push_cast, seval, wrap64, dec_lt, dec_nlt, dec_le, dec_nle, dec_eq, dec_ne, if_pos, if_neg, Int.natCast_add, Int.natCast_one, Int.natCast_zero, Int.toNat_natCast, lB, e2]
    rw [k2]
    simp (disch := first | omega | (simp only [Go.Am.len_push, Go.Am.len_set, Go.Am.len_kill] <;> omega) | fail) only [push_cast, seval]
end
end Go.Proofs.Ytammndhoillliaa
