/-
  The fields of the table are fields. No condition. What is known of fields in the first machine, for the second. No condition. What rows span; their one form. No condition. Rows one by one into what there is, in plain Lean: its form, what it spans; equations. Condition: rows of one length. Rows column by column, in plain Lean: the one form comes out of this too. Condition: rows of one length. What  ..
-/
import Derived.Test.YtghfdpdiibiigaaK5
import Derived.Test.YtghfdpdiibiigaaKAD
import Derived.Test.YtghfdpdiibiigaaK4
import Derived.WalkKit
set_option linter.unusedVariables false
set_option linter.unusedSimpArgs false
set_option linter.unusedSectionVars false
set_option maxRecDepth 100000
namespace Go.Proofs.Ytghfdpdiibiigaa
open Go.Am Go.Alg
theorem ej5 {p d T : Int} (h0 : 0 ≤ d) (h1 : d < p) : (d + p * T) % p = d ∧ (d + p * T) / p = T := by
 constructor
 ·rw [Int.add_mul_emod_self_left, Int.emod_eq_of_lt h0 h1]
 ·rw [Int.add_mul_ediv_left _ _ (by omega), Int.ediv_eq_zero_of_lt h0 h1, Int.zero_add]
theorem t47 (p : Int) : ∀ (n : Nat) (a b : Int), addN p n a b = addN p n b a
 | 0, _, _ => rfl
 | n + 1, a, b => by rw [addN, addN, t47 p n, Int.add_comm (a % p)]
theorem mk9 {p : Int} (hp : 0 < p) : ∀ (n : Nat) (a b c : Int), addN p n (addN p n a b) c = addN p n a (addN p n b c)
 | 0, _, _, _ => rfl
 | n + 1, a, b, c => by
   have d1 := ej5 (T := addN p n (a / p) (b / p)) (Int.emod_nonneg (a % p + b % p) (show p ≠ 0 by omega)) (Int.emod_lt_of_pos (a % p + b % p) hp)
   have d2 := ej5 (T := addN p n (b / p) (c / p)) (Int.emod_nonneg (b % p + c % p) (show p ≠ 0 by omega)) (Int.emod_lt_of_pos (b % p + c % p) hp)
   have e0 : ∀ x y : Int, addN p (n + 1) x y = (x % p + y % p) % p + p * addN p n (x / p) (y / p) := fun _ _ => rfl
   rw [e0 (addN p (n + 1) a b) c, e0 a (addN p (n + 1) b c), e0 a b, e0 b c, d1.1, d1.2, d2.1, d2.2, mk9 hp n]
   simp only [Int.emod_add_emod, Int.add_emod_emod, Int.add_assoc]
theorem ns9 {p : Int} (hp : 0 < p) : ∀ (n : Nat) (a : Int), 0 ≤ a → a < p ^ n → addN p n a 0 = a
 | 0, a, h0, h1 => by rw [Int.pow_zero] at h1; show (0 : Int) = a; omega
 | n + 1, a, h0, h1 => by
   rw [Int.pow_succ] at h1
   rw [addN, Int.zero_emod, Int.zero_ediv, Int.add_zero, Int.emod_emod, ns9 hp n (a / p) (Int.ediv_nonneg h0 (by omega)) (Int.ediv_lt_of_lt_mul hp h1)]
   exact Int.emod_add_mul_ediv a p
theorem ju5 {p : Int} (hp : 0 < p) : ∀ (n : Nat) (a : Int), addN p n a (negN p n a) = 0
 | 0, _ => rfl
 | n + 1, a => by
   have d1 := ej5 (T := negN p n (a / p)) (Int.emod_nonneg (p - a % p) (show p ≠ 0 by omega)) (Int.emod_lt_of_pos (p - a % p) hp)
   have e0 : ∀ x y : Int, addN p (n + 1) x y = (x % p + y % p) % p + p * addN p n (x / p) (y / p) := fun _ _ => rfl
   have e1 : negN p (n + 1) a = (p - a % p) % p + p * negN p n (a / p) := rfl
   rw [e0, e1, d1.1, d1.2, ju5 hp n, Int.add_emod_emod, show a % p + (p - a % p) = p by omega, Int.emod_self]
   omega
section
variable {q p g : Int} {m : Nat} {mod : List Int}
theorem c67 (hn : fldN q.toNat = some (p, m, g, mod)) {b c : Int} (hb : 0 ≤ b ∧ b < q) (hc : 0 ≤ c ∧ c < q) : fmul q g (addN p m b c) = addN p m (fmul q g b) (fmul q g c) := by
 obtain ⟨h2, h64⟩ := ug0 hn
 have h := List.all_eq_true.1 hm8 (q.toNat - 2) (List.mem_range.2 (by omega))
 rw [show q.toNat - 2 + 2 = q.toNat by omega] at h
 unfold ud5 at h
 rw [hn] at h
 simp only [List.all_eq_true, List.mem_range, decide_eq_true_eq] at h
 have := h b.toNat (by omega) c.toNat (by omega)
 rwa [show ((q.toNat : Nat) : Int) = q by omega, show ((b.toNat : Nat) : Int) = b by omega, show ((c.toNat : Nat) : Int) = c by omega] at this
end
class IsFld (q : Int) : Prop where
 ok : ∃ p m g mod, fldN q.toNat = some (p, m, g, mod)
structure El (q : Int) where
 v : Int
 lo : 0 ≤ v
 hi : v < q
theorem El.ext' {q : Int} {a b : El q} (h : a.v = b.v) : a = b := by
 obtain ⟨a, h1, h2⟩ := a
 obtain ⟨b, h3, h4⟩ := b
 cases h; rfl
instance {q : Int} : DecidableEq (El q) := fun a b => if h : a.v = b.v then .isTrue (El.ext' h) else .isFalse fun e => h (e ▸ rfl)
theorem jj8 {q p g : Int} {m : Nat} {mod : List Int} (hn : fldN q.toNat = some (p, m, g, mod)) : FOk q p m mod ∧ Tabs q g ∧ 1 ≤ g ∧ g < q := by
 obtain ⟨h2, h64⟩ := ug0 hn
 have h := hi9 hn
 rw [show ((q.toNat : Nat) : Int) = q by omega] at h
 exact ⟨h.1, cb4 hn, h.2.2.1, h.2.2.2.1⟩
theorem El.ok {q : Int} (a : El q) : fok q a.v = true := iy2 ⟨a.lo, a.hi⟩
theorem do9 {q p g : Int} {m : Nat} {mod : List Int} (hn : fldN q.toNat = some (p, m, g, mod)) (a b : El q) : fadd q a.v b.v = addN p m a.v b.v := by
 rw [fadd, a.ok, b.ok, (y65 hn).1, (y65 hn).2]; rfl
theorem pu7 {q p g : Int} {m : Nat} {mod : List Int} (hn : fldN q.toNat = some (p, m, g, mod)) (a : El q) : fneg q a.v = negN p m a.v := by
 rw [fneg, a.ok, (y65 hn).1, (y65 hn).2]; rfl
section
variable {q : Int} [hq : IsFld q]
theorem aw0 : 2 ≤ q := by
 obtain ⟨p, m, g, mod, hn⟩ := hq.ok
 exact (jj8 hn).1.q2
theorem wg2 (a b : El q) : 0 ≤ fadd q a.v b.v ∧ fadd q a.v b.v < q := by
 obtain ⟨p, m, g, mod, hn⟩ := hq.ok
 have hf := (jj8 hn).1
 have := hf.p2
 have hb := kq3 (p := p) (by omega) m a.v b.v
 rw [hf.pm] at hb
 rw [do9 hn]; exact hb
theorem ca9 (a : El q) : 0 ≤ fneg q a.v ∧ fneg q a.v < q := by
 obtain ⟨p, m, g, mod, hn⟩ := hq.ok
 have hf := (jj8 hn).1
 have := hf.p2
 have hb := ul1 (p := p) (by omega) m a.v
 rw [hf.pm] at hb
 rw [pu7 hn]; exact hb
theorem jo8 (a b : El q) : 0 ≤ fmul q a.v b.v ∧ fmul q a.v b.v < q := by
 obtain ⟨p, m, g, mod, hn⟩ := hq.ok
 obtain ⟨hf, t, _⟩ := jj8 hn
 have h2 := hf.q2
 rw [fmul, a.ok, b.ok]
 cases h0 : (a.v == 0) || (b.v == 0) with
 | true => exact ⟨Int.le_refl _, by show (0 : Int) < q; omega⟩
 | false =>
   have := zd3 t h2 (flog q a.v + flog q b.v)
   exact ⟨by show 0 ≤ fexp q _; omega, this.2.1⟩
theorem bh9 (a : El q) (h : a.v ≠ 0) : 0 ≤ finv q a.v ∧ finv q a.v < q := by
 obtain ⟨p, m, g, mod, hn⟩ := hq.ok
 obtain ⟨hf, t, _⟩ := jj8 hn
 have := (d12 t hf.q2 (a := a.v) ⟨by have := a.lo; omega, a.hi⟩).1
 exact ⟨by omega, this.2⟩
instance : Zero (El q) := ⟨⟨0, Int.le_refl _, by have := aw0 (q := q); omega⟩⟩
instance : One (El q) := ⟨⟨1, by omega, by have := aw0 (q := q); omega⟩⟩
instance : Add (El q) := ⟨fun a b => ⟨fadd q a.v b.v, (wg2 a b).1, (wg2 a b).2⟩⟩
instance : Mul (El q) := ⟨fun a b => ⟨fmul q a.v b.v, (jo8 a b).1, (jo8 a b).2⟩⟩
instance : Neg (El q) := ⟨fun a => ⟨fneg q a.v, (ca9 a).1, (ca9 a).2⟩⟩
theorem hc8 : (0 : El q).v = 0 := rfl
theorem wh3 : (1 : El q).v = 1 := rfl
theorem on0 (a b : El q) : (a + b).v = fadd q a.v b.v := rfl
theorem ym6 (a b : El q) : (a * b).v = fmul q a.v b.v := rfl
theorem tg5 (a : El q) : (-a).v = fneg q a.v := rfl
theorem r57 {a : El q} : a.v = 0 ↔ a = 0 := ⟨fun h => El.ext' h, fun h => by rw [h]; rfl⟩
theorem a59 (a b : El q) : a * b = b * a := El.ext' (by
 rw [ym6, ym6, fmul, fmul, a.ok, b.ok, Bool.or_comm, Int.add_comm])
theorem qc3 (a : El q) : a * 0 = 0 := El.ext' (by
 rw [ym6, fmul, a.ok, (0 : El q).ok, hc8, show ((0 : Int) == 0) = true from rfl, Bool.or_true]; rfl)
theorem du6 (a : El q) : a * 1 = a := El.ext' (by
 obtain ⟨p, m, g, mod, hn⟩ := hq.ok
 obtain ⟨hf, t, _⟩ := jj8 hn
 have h2 := hf.q2
 rw [ym6, wh3]
 by_cases h0 : a.v = 0
 ·rw [fmul, a.ok, show fok q 1 = true from (1 : El q).ok, h0]; rfl
 ·have ha : 1 ≤ a.v ∧ a.v < q := ⟨by have := a.lo; omega, a.hi⟩
  have h1 := (t.er 0 (by omega) (by omega)).2.2
  rw [t.e0] at h1
  have h3 := t.lr a.v ha.1 ha.2
  rw [js7 t ha ⟨by omega, by omega⟩, h1, Int.add_zero, Int.emod_eq_of_lt h3.1 h3.2.1, h3.2.2])
theorem wj9 (a b c : El q) : a * b * c = a * (b * c) := by
 by_cases ha : a = 0
 ·rw [ha, a59 0 b, qc3, a59 0 c, qc3, a59 0, qc3]
 by_cases hb : b = 0
 ·rw [hb, qc3, a59 0 c, qc3, qc3]
 by_cases hc : c = 0
 ·rw [hc, qc3, qc3, qc3]
 refine El.ext' ?_
 obtain ⟨p, m, g, mod, hn⟩ := hq.ok
 obtain ⟨hf, t, _⟩ := jj8 hn
 have h2 := hf.q2
 have ne : ∀ x : El q, x ≠ 0 → 1 ≤ x.v ∧ x.v < q := fun x hx => ⟨by have := x.lo; have : x.v ≠ 0 := fun h => hx (r57.1 h); omega, x.hi⟩
 have h1 := zd3 t h2 (flog q a.v + flog q b.v)
 have h3 := zd3 t h2 (flog q b.v + flog q c.v)
 rw [ym6, ym6, ym6, ym6, js7 t (ne a ha) (ne b hb), js7 t (ne b hb) (ne c hc), js7 t ⟨h1.1, h1.2.1⟩ (ne c hc), js7 t (ne a ha) ⟨h3.1, h3.2.1⟩, h1.2.2, h3.2.2, Int.emod_add_emod, Int.add_emod_emod, Int.add_assoc]
theorem sd1 (a b c : El q) : a * (b + c) = a * b + a * c := by
 obtain ⟨p, m, g, mod, hn⟩ := hq.ok
 obtain ⟨hf, t, hg1, hg2⟩ := jj8 hn
 have h2 := hf.q2
 have hG : ∀ x y : El q, (⟨g, by omega, hg2⟩ : El q) * (x + y) = ⟨g, by omega, hg2⟩ * x + ⟨g, by omega, hg2⟩ * y := fun x y => El.ext' (by
  rw [ym6, on0, do9 hn, on0, do9 hn]
  exact c67 hn ⟨x.lo, x.hi⟩ ⟨y.lo, y.hi⟩)
 have hP : ∀ (k : Nat) (x y : El q) (h0 : 0 ≤ fexp q ((k : Int) % (q - 1))) (h1 : fexp q ((k : Int) % (q - 1)) < q), (⟨_, h0, h1⟩ : El q) * (x + y) = ⟨_, h0, h1⟩ * x + ⟨_, h0, h1⟩ * y := by
  intro k
  induction k with
  | zero =>
    intro x y h0 h1
    have he : (⟨_, h0, h1⟩ : El q) = 1 := El.ext' (by show fexp q (((0 : Nat) : Int) % (q - 1)) = 1; rw [Int.natCast_zero, Int.zero_emod]; exact t.e0)
    rw [he, a59, du6, a59 1 x, du6, a59 1 y, du6]
  | succ k ih =>
    intro x y h0 h1
    have h3 := zd3 t h2 (k : Int)
    have he : (⟨_, h0, h1⟩ : El q) = ⟨fexp q ((k : Int) % (q - 1)), by omega, h3.2.1⟩ * ⟨g, by omega, hg2⟩ := El.ext' (by
     show fexp q (((k + 1 : Nat) : Int) % (q - 1)) = fmul q _ g
     rw [np3 t h2 ⟨hg1, hg2⟩, Int.natCast_add, Int.natCast_one])
    rw [he, wj9, hG, ih, wj9, wj9]
 by_cases ha : a = 0
 ·rw [ha, a59, qc3, a59 0 b, qc3, a59 0 c, qc3]
  refine El.ext' ?_
  have := hf.p2
  rw [on0, do9 hn]
  exact (ns9 (by omega) m 0 (Int.le_refl _) (Int.pow_pos (by omega))).symm
 ·have hav : a.v ≠ 0 := fun h => ha (r57.1 h)
  have h3 := t.lr a.v (by have := a.lo; omega) a.hi
  have he : fexp q (((flog q a.v).toNat : Int) % (q - 1)) = a.v := by
   rw [show (((flog q a.v).toNat : Nat) : Int) = flog q a.v by omega, Int.emod_eq_of_lt h3.1 h3.2.1, h3.2.2]
  have h4 := hP (flog q a.v).toNat b c (by rw [he]; exact a.lo) (by rw [he]; exact a.hi)
  have h5 : (⟨fexp q (((flog q a.v).toNat : Int) % (q - 1)), by rw [he]; exact a.lo, by rw [he]; exact a.hi⟩ : El q) = a := El.ext' he
  rw [h5] at h4
  exact h4
instance elFK : FK (El q) where
 inv := fun a => if h : a.v = 0 then 0 else ⟨finv q a.v, (bh9 a h).1, (bh9 a h).2⟩
 deq := inferInstance
 add_assoc := fun a b c => El.ext' (by
  obtain ⟨p, m, g, mod, hn⟩ := hq.ok
  have hf := (jj8 hn).1
  have := hf.p2
  rw [on0 (a + b) c, on0 a (b + c), do9 hn (a + b) c, do9 hn a (b + c), on0 a b, on0 b c, do9 hn a b, do9 hn b c, mk9 (by omega)])
 add_comm := fun a b => El.ext' (by
  obtain ⟨p, m, g, mod, hn⟩ := hq.ok
  rw [on0, on0, do9 hn, do9 hn, t47])
 add_zero := fun a => El.ext' (by
  obtain ⟨p, m, g, mod, hn⟩ := hq.ok
  have hf := (jj8 hn).1
  have := hf.p2
  rw [on0, do9 hn, hc8]
  exact ns9 (by omega) m a.v a.lo (by rw [hf.pm]; exact a.hi))
 add_neg := fun a => El.ext' (by
  obtain ⟨p, m, g, mod, hn⟩ := hq.ok
  have hf := (jj8 hn).1
  have := hf.p2
  rw [on0, do9 hn, tg5, pu7 hn]
  exact ju5 (by omega) m a.v)
 mul_assoc := wj9
 mul_comm := a59
 mul_one := du6
 mul_add := sd1
 mul_inv := fun a ha => El.ext' (by
  have h : a.v ≠ 0 := fun h => ha (r57.1 h)
  obtain ⟨p, m, g, mod, hn⟩ := hq.ok
  obtain ⟨hf, t, _⟩ := jj8 hn
  rw [dif_neg h]
  exact (d12 t hf.q2 (a := a.v) ⟨by have := a.lo; omega, a.hi⟩).2)
 zero_ne := fun h => by
  have := congrArg El.v h
  rw [hc8, wh3] at this
  omega
theorem rl7 {a : El q} (h : a ≠ 0) : (FK.inv a).v = finv q a.v := by
 show (if h : a.v = 0 then (0 : El q) else _).v = _
 rw [dif_neg fun e => h (r57.1 e)]
end
def vs {q : Int} (l : List (El q)) : List Int := l.map El.v
def ge {K : Type} [FK K] (l : List K) (i : Nat) : K := l.getD i 0
section
variable {q : Int}
theorem fi2 (l : List (El q)) : (vs l).length = l.length := by simp [vs]
theorem rp2 : vs ([] : List (El q)) = [] := rfl
theorem e55 (a : El q) (l : List (El q)) : vs (a :: l) = a.v :: vs l := rfl
theorem gq8 (l l' : List (El q)) : vs (l ++ l') = vs l ++ vs l' := by simp [vs]
theorem g52 (l : List (El q)) (i : Nat) (a : El q) : (vs l).set i a.v = vs (l.set i a) := by unfold vs; rw [List.map_set]
theorem qj2 (n : Nat) (a : El q) : List.replicate n a.v = vs (List.replicate n a) := by unfold vs; rw [List.map_replicate]
theorem n39 : ∀ {l : List Int}, (∀ z ∈ l, fok q z = true) → ∃ a : List (El q), l = vs a
 | [], _ => ⟨[], rfl⟩
 | z :: l, h => by
   obtain ⟨a, ha⟩ := n39 (l := l) fun z hz => h z (by simp [hz])
   have hz := gc0.1 (h z (by simp))
   exact ⟨⟨z, hz.1, hz.2⟩ :: a, by rw [e55, ← ha]⟩
theorem v86 [IsFld q] (l : List (El q)) (i : Nat) : gi (vs l) i = (ge l i).v := by
 unfold gi ge vs
 rw [Int.toNat_natCast, List.getD_eq_getElem?_getD, List.getD_eq_getElem?_getD, List.getElem?_map]
 cases l[i]? <;> rfl
end
end Go.Proofs.Ytghfdpdiibiigaa
namespace Go.Proofs.Ytghfdpdiibiigaa
open Go.Am Go.Vm Go.Alg
theorem d40 {zs : List Int} {i : Nat} (hi : i < zs.length) : (ints zs)[i]? = some (.int .i64 (gi zs (i : Int))) := by
 have := c13 (zs := zs) (i := (i : Int)) (by omega) (by omega)
 rwa [Int.toNat_natCast] at this
theorem zj7 {h : H} {Z : Nat → Prop} {zs : List Int} {l : List Value} : RdL h Z (ivs zs) l ↔ l = ints zs := by
 induction zs generalizing l with
 | nil => exact ⟨fun hr => by rw [show ivs [] = [] from rfl, RdL] at hr; exact hr, fun e => by subst e; rw [show ivs [] = [] from rfl, RdL]; rfl⟩
 | cons z zs ih =>
   rw [show ivs (z :: zs) = .v (.int .i64 z) :: ivs zs from rfl, RdL]
   constructor
   ·rintro ⟨w, l', rfl, h1, h2⟩
    rw [Rd] at h1
    rw [h1, ih.1 h2]; rfl
   ·rintro rfl
    exact ⟨_, _, rfl, by rw [Rd], ih.2 rfl⟩
theorem ex4 {h : H} {Z : Nat → Prop} {zs : List Int} {l : List Value} : ExL h Z (ivs zs) l ↔ l = ints zs := by
 induction zs generalizing l with
 | nil => exact ⟨fun hr => by rw [show ivs [] = [] from rfl, ExL] at hr; exact hr, fun e => by subst e; rw [show ivs [] = [] from rfl, ExL]; rfl⟩
 | cons z zs ih =>
   rw [show ivs (z :: zs) = .v (.int .i64 z) :: ivs zs from rfl, ExL]
   constructor
   ·rintro ⟨w, l', rfl, h1, h2⟩
    rw [Ex] at h1
    rw [h1, ih.1 h2]; rfl
   ·rintro rfl
    exact ⟨_, _, rfl, by rw [Ex], ih.2 rfl⟩
theorem fw0 {h : H} {Z : Nat → Prop} {nl e : Nat} {zs : List Int} {w : Value} (hr : Rd h Z (.sl nl e 1 (ivs zs)) w) : ∃ sa c, w = .slice sa zs.length c ∧ RdI h sa c zs := by
 rw [Rd] at hr
 rcases hr with ⟨h0, _, _, rfl⟩ | ⟨o, off, n, c, r, rfl, h1, h2, h3, h4, h5, h6, h7, h8⟩
 ·have : zs = [] := by cases zs with
   | nil => rfl
   | cons => cases h0
  subst this
  exact ⟨none, 0, rfl, .nil⟩
 ·rw [gf1, Nat.mul_one] at h5
  subst h5
  have h9 := zj7.1 h8
  rw [gf1] at h9
  refine ⟨_, c, rfl, .inr ⟨h6, o, off, r, rfl, h2, h3, fun i h0 hi => ?_⟩⟩
  have h10 := c13 h0 hi
  rw [← h9, List.getElem?_take, if_pos (by omega), List.getElem?_drop] at h10
  exact h10
theorem pd9 {h : H} {Z : Nat → Prop} {e : Nat} {zs : List Int} {sa : Option Addr} {c : Nat} (hr : RdI h sa c zs) (hz : ∀ o, sa.map (·.block) = some o → Z o) : Rd h Z (.sl 2 e 1 (ivs zs)) (.slice sa zs.length c) := by
 rw [Rd]
 rcases hr with ⟨rfl, rfl, rfl⟩ | ⟨h1, o, off, r, rfl, h2, h3, h4⟩
 ·exact .inl ⟨rfl, by decide, by decide, rfl⟩
 ·refine .inr ⟨o, off, _, c, r, rfl, hz o rfl, h2, h3, by decide, by rw [gf1, Nat.mul_one], h1, fun h => (by cases h), zj7.2 ?_⟩
  rw [gf1]
  refine List.ext_getElem? fun i => ?_
  by_cases hi : i < zs.length
  ·rw [d40 hi, List.getElem?_take, if_pos hi, List.getElem?_drop]
   have := h4 (i : Int) (by omega) (by omega)
   rwa [Int.toNat_natCast] at this
  ·rw [List.getElem?_eq_none (by rw [List.length_take]; omega), List.getElem?_eq_none (by rw [iq5]; omega)]
def lvs (nl : Nat) (m : List (List Int)) : List Tree := m.map fun l => .sl nl 0 1 (ivs l)
theorem nb9 (nl : Nat) (m : List (List Int)) : (lvs nl m).length = m.length := by simp [lvs]
def allZ (h : H) : Nat → Prop := fun o => o < h.length
theorem bh6 (h : H) : Inv h [] (allZ h) (allZ h) := ⟨by rw [okL]; trivial, fun x => by simp [fpL], fun o ho => by simp [fpL] at ho, fun o ho => by simp [fpL] at ho, fun o ho => ho, fun o ho => ho⟩
theorem vlaw {W : VW} (hP : ∀ f p vs C r, W.P f = some p → p vs C = some r → VOK W.T f vs C r) {h : H} {f : FuncId} {xs0 : List AV} {ws : List Value} (hv : VRL h [] (allZ h) (allZ h) xs0 ws) {b : Bool} (e : o25 W f xs0 [] = some (.x (.bool b), [], [])) : ∃ h', call W.T f ws h = some (.bool b, h') := by
 obtain ⟨w, h', K, S, Z', Zp', h1, P⟩ := lw9 hP e h [] _ _ ws (bh6 h) rfl hv fun k hk => by cases hk
 have := P.v
 rw [Vm.VR] at this
 subst this
 exact ⟨h', h1⟩
theorem sk2 {h h' : H} {Z Zp : Nat → Prop} (i : Inv h [] Z Zp) (hp : h <+: h') (v : Value) : Post h [] Zp 0 (.x v, [], []) v h' [] [] Z Zp := by
 refine ⟨rfl, rfl, ⟨by rw [List.nil_append, okL]; trivial, fun x => by simp [fpL], fun o ho => by simp [fpL] at ho, fun o ho => by simp [fpL] at ho, fun o ho => ?_, i.zp⟩, ⟨hp.length_le, fun o ho _ => cb1 hp ho, fun o ho => by simp [fpL] at ho, fun o ho => ho, fun o ho => .inl ho⟩, by rw [Vm.VR], rfl, fun i a k h1 => by simp at h1⟩
 have := i.zlt o ho; have := hp.length_le; omega
def pFt (q p : Int) (m : Nat) (g : Int) (mod : List Int) : Tree := .ex (.pt 72 [.v (.int .i64 q), .v (.int .i64 p), .v (.int .i64 m), .fz (.sl 2 0 1 (ivs mod)), .v (.int .i64 g), .sl 0 3 1 (ivs (tabs q.toNat).1), .sl 0 3 1 (ivs (tabs q.toNat).2)])
def pF (q : Int) : Tree := match fldN q.toNat with
 | some (p, m, g, mod) => pFt q p m g mod
 | none => .junk
def bc2 : Tree → Int
 | .ex (.pt _ (.v (.int .i64 q) :: _)) => q
 | _ => 0
theorem yz0 {q : Int} [h : IsFld q] : bc2 (pF q) = q := by
 obtain ⟨p, m, g, mod, hn⟩ := h.ok
 unfold pF; rw [hn]; rfl
theorem ki3 {q p g : Int} {m : Nat} {mod : List Int} (hn : fldN q.toNat = some (p, m, g, mod)) : (tabs q.toNat).1.length = (q - 1).toNat ∧ (tabs q.toNat).2.length = q.toNat := by
 obtain ⟨h2, h64⟩ := ug0 hn
 have ht := (cb4 hn).tab
 rw [ht]
 constructor <;> simp
theorem nx2 {h : H} {Z : Nat → Prop} {q p g : Int} {m : Nat} {mod : List Int} (hn : fldN q.toNat = some (p, m, g, mod)) {w : Value} (hr : Rd h Z (pF q) w) : ∃ F E L om fm cm, w = .pointer (some ⟨F, 0, none⟩) ∧ PUse h F q p m g mod E L om fm cm := by
 obtain ⟨h2, h64⟩ := ug0 hn
 have ht := (cb4 hn).tab
 obtain ⟨l1, l2⟩ := ki3 hn
 unfold pF at hr
 rw [hn] at hr
 simp only [pFt] at hr
 rw [Rd, Ex] at hr
 obtain ⟨F, r, rfl, h1, h3, h4, h5, h6, h7⟩ := hr
 rw [ExL] at h7
 obtain ⟨w0, c0, e0, k0, h7⟩ := h7
 rw [ExL] at h7
 obtain ⟨w1, c1, e1, k1, h7⟩ := h7
 rw [ExL] at h7
 obtain ⟨w2, c2, e2, k2, h7⟩ := h7
 rw [ExL] at h7
 obtain ⟨w3, c3, e3, k3, h7⟩ := h7
 rw [ExL] at h7
 obtain ⟨w4, c4, e4, k4, h7⟩ := h7
 rw [ExL] at h7
 obtain ⟨w5, c5, e5, k5, h7⟩ := h7
 rw [ExL] at h7
 obtain ⟨w6, c6, e6, k6, h7⟩ := h7
 unfold Ex at k0 k1 k2 k3 k4 k5 k6
 subst e6 e5 e4 e3 e2 e1
 obtain ⟨sa, cm, rfl, rm⟩ := fw0 k3
 obtain ⟨E, nE, rE, rfl, _, hE, _, _, _, _, nE1, _, xE⟩ := k5
 obtain ⟨L, nL, rL, rfl, _, hL, _, _, _, _, nL1, _, xL⟩ := k6
 rw [ex4] at xE xL
 rw [gf1, Nat.mul_one, l1] at nE1
 rw [gf1, Nat.mul_one, l2] at nL1
 subst nE1 nL1 k0 k1 k2 k4
 have hml := (hi9 hn).1.ml
 have hm1 := (hi9 hn).1.m1
 obtain ⟨om, fm, rfl⟩ : ∃ om fm, sa = some ⟨om, fm, none⟩ := by
  rcases rm with ⟨_, _, h0⟩ | ⟨_, o, off, r, h0, _⟩
  ·rw [h0] at hml; simp at hml
  ·exact ⟨o, off, h0⟩
 have cell : ∀ {i : Nat} {v : Value}, r.cells[i]? = some v → h.ld1 F i = some v := fun {i v} hi => by rw [ng1 h3]; exact hi
 refine ⟨F, E, L, om, fm, cm, rfl, by omega, by omega, cell (by rw [e0]; rfl), cell (by rw [e0]; rfl), cell (by rw [e0]; rfl), cell (by rw [e0]; rfl), cell (by rw [e0]; rfl), cell (by rw [e0]; rfl), cell (by rw [e0]; rfl), fun i h0 hi => ?_, fun a h0 ha => ?_, rm⟩
 ·rw [ng1 hE, xE, c13 h0 (by rw [l1]; omega)]
  congr 2
  rw [ht]
  unfold gi
  rw [List.getD_eq_getElem?_getD, List.getElem?_map, List.getElem?_range (by omega)]
  show fexp q ((i.toNat : Nat) : Int) = _
  rw [show ((i.toNat : Nat) : Int) = i by omega]
 ·rw [ng1 hL, xL, c13 h0 (by rw [l2]; omega)]
  congr 2
  rw [ht]
  unfold gi
  rw [List.getD_eq_getElem?_getD, List.getElem?_map, List.getElem?_range (by omega)]
  show flog q ((a.toNat : Nat) : Int) = _
  rw [show ((a.toNat : Nat) : Int) = a by omega]
open Classical in
noncomputable def it3 (g : Int → Value) : List AV → Rts → Option VRes
 | [.fz b t], [] => if IsFld (bc2 t) ∧ t = pF (bc2 t) then some (.x (g (bc2 t)), [], []) else none
 | _, _ => none
open Classical in
noncomputable def pOne (g : Int → Int → Value) : List AV → Rts → Option VRes
 | [.fz b t, .x (.int .i64 a)], [] => if IsFld (bc2 t) ∧ t = pF (bc2 t) then some (.x (g (bc2 t) a), [], []) else none
 | _, _ => none
open Classical in
noncomputable def pTwo (g : Int → Int → Int → Value) : List AV → Rts → Option VRes
 | [.fz b t, .x (.int .i64 a), .x (.int .i64 a')], [] => if IsFld (bc2 t) ∧ t = pF (bc2 t) then some (.x (g (bc2 t) a a'), [], []) else none
 | _, _ => none
theorem jm7 {g : Int → Value} {q : Int} [h : IsFld q] {b : Bool} : it3 g [.fz b (pF q)] [] = some (.x (g q), [], []) := by
 unfold it3; simp only []; rw [if_pos (by rw [yz0]; exact ⟨h, rfl⟩), yz0]
theorem l79 {g : Int → Int → Value} {q : Int} [h : IsFld q] {b : Bool} {a : Int} : pOne g [.fz b (pF q), .x (.int .i64 a)] [] = some (.x (g q a), [], []) := by
 unfold pOne; simp only []; rw [if_pos (by rw [yz0]; exact ⟨h, rfl⟩), yz0]
theorem pu4 {g : Int → Int → Int → Value} {q : Int} [h : IsFld q] {b : Bool} {a a' : Int} : pTwo g [.fz b (pF q), .x (.int .i64 a), .x (.int .i64 a')] [] = some (.x (g q a a'), [], []) := by
 unfold pTwo; simp only []; rw [if_pos (by rw [yz0]; exact ⟨h, rfl⟩), yz0]
abbrev r43 (f : FuncId) (xs : List Value) (g : Int → Value) : Prop := ∀ (h : H) (F : Nat) (q p : Int) (m : Nat) (ge : Int) (mod : List Int) (E L om fm cm : Nat), fldN q.toNat = some (p, m, ge, mod) → PUse h F q p m ge mod E L om fm cm → call T f (.pointer (some ⟨F, 0, none⟩) :: xs) h = some (g q, h)
theorem nh2 {f : FuncId} {b : Bool} {t : Tree} {xs : List Value} {g : Int → Value} (H : r43 f xs g) (hf : IsFld (bc2 t)) (ht : t = pF (bc2 t)) : VOK T f (.fz b t :: xs.map AV.x) [] (.x (g (bc2 t)), [], []) := by
 intro h Ac Z Zp ws i hC hv hk
 obtain rfl : Ac = [] := by cases Ac with
  | nil => rfl
  | cons => cases hC
 rw [Vm.VRL] at hv
 obtain ⟨w, ws', rfl, h1, h2⟩ := hv
 rw [Vm.VR, ht] at h1
 have hxs : ws' = xs := by
  clear H hk hC i h1
  induction xs generalizing ws' with
  | nil => rw [List.map_nil, VRL] at h2; exact h2
  | cons x xs ih =>
    rw [List.map_cons, VRL] at h2
    obtain ⟨w', ws'', rfl, k1, k2⟩ := h2
    rw [Vm.VR] at k1
    rw [k1, ih _ k2]
 subst hxs
 obtain ⟨p, m, ge, mod, hn⟩ := hf.ok
 obtain ⟨F, E, L, om, fm, cm, rfl, u⟩ := nx2 hn h1
 have e := H h F (bc2 t) p m ge mod E L om fm cm hn u
 exact ⟨_, h, [], [], Z, Zp, e, sk2 i (List.prefix_refl _) _⟩
theorem o24 {f : FuncId} {g : Int → Value} (H : r43 f [] g) {xs0 : List AV} {C : Rts} {r : VRes} (he : it3 g xs0 C = some r) : VOK T f xs0 C r := by
 unfold it3 at he
 split at he
 ·split at he
  ·rename_i hc; cases he; exact nh2 (xs := []) (g := g) H hc.1 hc.2
  ·cases he
 ·cases he
theorem ka9 {f : FuncId} {g : Int → Int → Value} (H : ∀ a, r43 f [.int .i64 a] fun q => g q a) {xs0 : List AV} {C : Rts} {r : VRes} (he : pOne g xs0 C = some r) : VOK T f xs0 C r := by
 unfold pOne at he
 split at he
 ·split at he
  ·rename_i hc; cases he; exact nh2 (xs := [_]) (H _) hc.1 hc.2
  ·cases he
 ·cases he
theorem sg0 {f : FuncId} {g : Int → Int → Int → Value} (H : ∀ a a', r43 f [.int .i64 a, .int .i64 a'] fun q => g q a a') {xs0 : List AV} {C : Rts} {r : VRes} (he : pTwo g xs0 C = some r) : VOK T f xs0 C r := by
 unfold pTwo at he
 split at he
 ·split at he
  ·rename_i hc; cases he; exact nh2 (xs := [_, _]) (H _ _) hc.1 hc.2
  ·cases he
 ·cases he
def pNew : List AV → Rts → Option VRes
 | [.x (.int .i64 q)], [] => match fldN q.toNat with
   | some _ => some (.tup [.fz true (pF q), .x (.int .i64 0)], [], [])
   | none => some (.tup [.x (.pointer none), .x (.int .i64 1)], [], [])
 | _, _ => none
theorem a64 {h h' : H} {Z Zp : Nat → Prop} (i : Inv h [] Z Zp) (hp : h <+: h') {a : AV} {w : Value} (hv : Vm.VR h' [] (fun o => h.length ≤ o ∧ o < h'.length) (fun o => h.length ≤ o ∧ o < h'.length) a w) : ∃ Z' Zp', Post h [] Zp 0 (a, [], []) w h' [] [] Z' Zp' := by
 refine ⟨fun o => Z o ∨ (h.length ≤ o ∧ o < h'.length), fun o => Zp o ∨ (h.length ≤ o ∧ o < h'.length), rfl, rfl, ⟨by rw [List.nil_append, okL]; trivial, fun x => by simp [fpL], fun o ho => by simp [fpL] at ho, fun o ho => by simp [fpL] at ho, fun o ho => ?_, fun o ho => ho.imp (i.zp o) id⟩, ⟨hp.length_le, fun o ho _ => cb1 hp ho, fun o ho => by simp [fpL] at ho, fun o ho => .inl ho, fun o ho => ho.imp id fun h => .inr h.1⟩, Vm.VR.move (fun o ho => .inr ho) (fun o ho => .inr ho) (fun _ _ => rfl) (fun _ _ => rfl) (Stab.refl [] []) hv rfl, rfl, fun i a k h1 => by simp at h1⟩
 rcases ho with ho | ho
 ·have := i.zlt o ho; have := hp.length_le; omega
 ·exact ho.2
theorem lo5 {xs0 : List AV} {C : Rts} {r : VRes} (he : pNew xs0 C = some r) : VOK T 36 xs0 C r := by
 unfold pNew at he
 split at he
 ·rename_i q
  intro h Ac Z Zp ws i hC hv hk
  obtain rfl : Ac = [] := by cases Ac with
   | nil => rfl
   | cons => cases hC
  rw [Vm.VRL] at hv
  obtain ⟨w, ws', rfl, h1, h2⟩ := hv
  rw [Vm.VRL] at h2
  rw [Vm.VR] at h1
  subst h1 h2
  split at he
  ·rename_i x hn
   obtain ⟨p, m, g, mod⟩ := x
   cases he
   obtain ⟨h', F, hp, hF, ⟨om, fm, cm, ho, hM, ⟨E, L, q1, q2, hFr, hE, hL, q3, q4⟩⟩, e⟩ := e24 q hn h
   have hFl := h44 hFr
   have hEl := h44 hE
   have hLl := h44 hL
   have hom : om < h'.length := by
    rcases hM with ⟨h0, _⟩ | ⟨_, o, off, r, h0, h1, _⟩
    ·cases h0
    ·cases h0; exact h44 h1
   have hzo : ∀ o, (some (⟨om, fm, none⟩ : Addr)).map (·.block) = some o → h.length ≤ o ∧ o < h'.length := fun o ho' => by
    have e1 : om = o := by simpa using ho'
    subst e1; exact ⟨by omega, hom⟩
   have hrd : Rd h' (fun o => h.length ≤ o ∧ o < h'.length) (pF q) (.pointer (some ⟨F, 0, none⟩)) := by
    have hq2 := ug0 hn
    unfold pF
    rw [hn]
    simp only [pFt]
    rw [Rd, Ex]
    refine ⟨F, _, rfl, ⟨hF, hFl⟩, hFr, rfl, rfl, rfl, ?_⟩
    rw [ExL]; refine ⟨_, _, rfl, by unfold Ex; rfl, ?_⟩
    rw [ExL]; refine ⟨_, _, rfl, by unfold Ex; rfl, ?_⟩
    rw [ExL]; refine ⟨_, _, rfl, by unfold Ex; rfl, ?_⟩
    rw [ExL]; refine ⟨_, _, rfl, by unfold Ex; exact pd9 hM hzo, ?_⟩
    rw [ExL]; refine ⟨_, _, rfl, by unfold Ex; rfl, ?_⟩
    rw [ExL]; refine ⟨_, _, rfl, by unfold Ex; exact ⟨E, _, _, rfl, ⟨by omega, hEl⟩, hE, rfl, rfl, rfl, by decide, by rw [gf1, Nat.mul_one, q3], fun h => (by cases h), ex4.2 rfl⟩, ?_⟩
    rw [ExL]; refine ⟨_, _, rfl, by unfold Ex; exact ⟨L, _, _, rfl, ⟨by omega, hLl⟩, hL, rfl, rfl, rfl, by decide, by rw [gf1, Nat.mul_one, q4], fun h => (by cases h), ex4.2 rfl⟩, ?_⟩
    rw [ExL]
   obtain ⟨Z', Zp', P⟩ := a64 (a := .tup [.fz true (pF q), .x (.int .i64 0)]) (w := .tuple #[.pointer (some ⟨F, 0, none⟩), .int .i64 0]) i hp (by
    rw [Vm.VR]
    exact ⟨[_, _], rfl, .cons (by rw [Vm.VR]; exact hrd) (.cons (by rw [Vm.VR]) .nil)⟩)
   exact ⟨_, h', [], [], Z', Zp', e, P⟩
  ·rename_i hn
   cases he
   obtain ⟨h', hp, e⟩ := e84 q hn h
   obtain ⟨Z', Zp', P⟩ := a64 (a := .tup [.x (.pointer none), .x (.int .i64 1)]) (w := .tuple #[.pointer none, .int .i64 1]) i hp (by
    rw [Vm.VR]
    exact ⟨[_, _], rfl, .cons (by rw [Vm.VR]) (.cons (by rw [Vm.VR]) .nil)⟩)
   exact ⟨_, h', [], [], Z', Zp', e, P⟩
 ·cases he
noncomputable def vP : FuncId → Option (List AV → Rts → Option VRes)
 | 53 => some (pOne fun q a => .bool (fok q a))
 | 20 => some (it3 fun q => .int .i64 q)
 | 22 => some (pTwo fun q a b => .int .i64 (fmul q a b))
 | 21 => some (pTwo fun q a b => .int .i64 (fadd q a b))
 | 24 => some (pTwo fun q a b => .int .i64 (fsub q a b))
 | 23 => some (pOne fun q a => .int .i64 (fneg q a))
 | 25 => some (pOne fun q a => .int .i64 (finv q a))
 | 29 => some (it3 fun q => .int .i64 (fch q))
 | 36 => some pNew
 | 68 => some h90
 | _ => none
noncomputable def W : VW := ⟨T, vP, vH, vM, ct⟩
@[push_cast] theorem W_M (f : FuncId) : W.M f = vM f := rfl
@[push_cast] theorem W_H (f : FuncId) : W.H f = vH f := rfl
@[push_cast] theorem W_ct : W.ct = ct := rfl
theorem lw2 (f : FuncId) (p : List AV → Rts → Option VRes) (xs0 : List AV) (C : Rts) (r : VRes) (hp : W.P f = some p) (he : p xs0 C = some r) : VOK W.T f xs0 C r := by
 have hp : vP f = some p := hp
 show VOK T f xs0 C r
 unfold vP at hp
 split at hp
 ·cases hp; exact ka9 (f := 53) (fun a h F q p m ge mod E L om fm cm hn u => qy4 u a) he
 ·cases hp; exact o24 (f := 20) (fun h F q p m ge mod E L om fm cm hn u => ts1 u) he
 ·cases hp; exact sg0 (f := 22) (fun a a' h F q p m ge mod E L om fm cm hn u => lb9 hn u a a') he
 ·cases hp; exact sg0 (f := 21) (fun a a' h F q p m ge mod E L om fm cm hn u => gl5 hn u (jj8 hn).1 a a') he
 ·cases hp; exact sg0 (f := 24) (fun a a' h F q p m ge mod E L om fm cm hn u => eb1 hn u (jj8 hn).1 a a') he
 ·cases hp; exact ka9 (f := 23) (fun a h F q p m ge mod E L om fm cm hn u => kb1 hn u (jj8 hn).1 a) he
 ·cases hp; exact ka9 (f := 25) (fun a h F q p m ge mod E L om fm cm hn u => im8 hn u a) he
 ·cases hp; exact o24 (f := 29) (fun h F q p m ge mod E L om fm cm hn u => by rw [(y65 hn).1]; exact bb3 u) he
 ·cases hp; exact (fun _ => lo5 he) 36
 ·cases hp; exact (fun _ => x66 he) 68
 ·cases hp
section
variable {q : Int} [IsFld q] {b : Bool} {x y : Int}
@[push_cast] theorem ta8 : o25 W 53 [.fz b (pF q), .x (.int .i64 x)] [] = some (.x (.bool (fok q x)), [], []) := (xr5 rfl).trans l79
@[push_cast] theorem l09 : o25 W 20 [.fz b (pF q)] [] = some (.x (.int .i64 q), [], []) := (xr5 rfl).trans jm7
@[push_cast] theorem gi0 : o25 W 22 [.fz b (pF q), .x (.int .i64 x), .x (.int .i64 y)] [] = some (.x (.int .i64 (fmul q x y)), [], []) := (xr5 rfl).trans pu4
@[push_cast] theorem j43 : o25 W 21 [.fz b (pF q), .x (.int .i64 x), .x (.int .i64 y)] [] = some (.x (.int .i64 (fadd q x y)), [], []) := (xr5 rfl).trans pu4
@[push_cast] theorem ze7 : o25 W 24 [.fz b (pF q), .x (.int .i64 x), .x (.int .i64 y)] [] = some (.x (.int .i64 (fsub q x y)), [], []) := (xr5 rfl).trans pu4
@[push_cast] theorem e85 : o25 W 23 [.fz b (pF q), .x (.int .i64 x)] [] = some (.x (.int .i64 (fneg q x)), [], []) := (xr5 rfl).trans l79
@[push_cast] theorem eb9 : o25 W 25 [.fz b (pF q), .x (.int .i64 x)] [] = some (.x (.int .i64 (finv q x)), [], []) := (xr5 rfl).trans l79
@[push_cast] theorem tr7 : o25 W 29 [.fz b (pF q)] [] = some (.x (.int .i64 (fch q)), [], []) := (xr5 rfl).trans jm7
theorem gh1 : ∃ d, fldN q.toNat = some d := by
 obtain ⟨p, m, g, mod, hn⟩ := ‹IsFld q›.ok
 exact ⟨_, hn⟩
@[push_cast] theorem ev4 : o25 W 36 [.x (.int .i64 q)] [] = some (.tup [.fz true (pF q), .x (.int .i64 0)], [], []) := (xr5 rfl).trans (by obtain ⟨d, hd⟩ := gh1 (q := q); unfold pNew; simp only [hd])
end
theorem ug9 {q : Int} (hn : fldN q.toNat = none) : o25 W 36 [.x (.int .i64 q)] [] = some (.tup [.x (.pointer none), .x (.int .i64 1)], [], []) := (xr5 rfl).trans (by unfold pNew; simp only [hn])
theorem h19 {b : Bool} {nl : Nat} {zs : List Int} (hz : zs.length ≤ 1000000) : o25 W 68 [.fz b (.sl nl 0 1 (ivs zs))] [] = some (.own 0 [], [.sl (nlT zs) 3 1 (ivs zs)], []) := (xr5 rfl).trans (ol3 hz)
end Go.Proofs.Ytghfdpdiibiigaa
namespace Go.Alg
section
variable {K : Type} [FK K]
structure Rref (n : Nat) (A : List (Nat × (Nat → K))) : Prop where
 up : A.Pairwise fun a b => a.1 < b.1
 one : ∀ a ∈ A, a.2 a.1 = 1
 before : ∀ a ∈ A, ∀ k, k < a.1 → a.2 k = 0
 lt : ∀ a ∈ A, a.1 < n
 out : ∀ a ∈ A, ∀ k, n ≤ k → a.2 k = 0
 zero : ∀ a ∈ A, ∀ b ∈ A, a.1 ≠ b.1 → a.2 b.1 = 0
section
variable {n : Nat} {A B : List (Nat × (Nat → K))}
def wf (l : List K) : Nat → K := fun i => l.getD i 0
theorem ez8 {l : List K} {k : Nat} (h : l.length ≤ k) : wf l k = 0 := by unfold wf; rw [List.getD_eq_getElem?_getD, List.getElem?_eq_none h]; rfl
theorem i66 {l : List K} {k : Nat} (h : k < l.length) : wf l k = l[k] := by unfold wf; rw [List.getD_eq_getElem?_getD, List.getElem?_eq_getElem h]; rfl
theorem ou8 {l l' : List K} (hl : l.length = l'.length) (h : wf l = wf l') : l = l' := by
 refine List.ext_getElem hl fun i h1 h2 => ?_
 rw [← i66 h1, ← i66 h2, h]
end
end
end Go.Alg
namespace Go.Alg
section
variable {α : Type}
end
section
variable {K : Type} [FK K]
def toF (A : List (Nat × List K)) : List (Nat × (Nat → K)) := A.map fun a => (a.1, wf a.2)
section
variable {n : Nat} {A : List (Nat × List K)}
end
theorem wf_set {x : List K} {i : Nat} {v : K} (hi : i < x.length) (k : Nat) : wf (x.set i v) k = if k = i then v else wf x k := by
 unfold wf
 rw [List.getD_eq_getElem?_getD, List.getD_eq_getElem?_getD, List.getElem?_set]
 by_cases h : i = k
 ·subst h; rw [if_pos rfl, if_pos hi, if_pos rfl]; rfl
 ·rw [if_neg h, if_neg fun e => h e.symm]
end
end Go.Alg
namespace Go.Alg
section
variable {α : Type} {M : List (List α)} {P : List Nat}
end
section
variable {K : Type} [FK K]
section
variable {n c : Nat} {M0 M : List (List K)} {P : List Nat}
end
end
end Go.Alg
namespace Go.Alg
section
variable {K : Type} [FK K]
end
end Go.Alg
namespace Go.Proofs.Ytghfdpdiibiigaa
theorem i62 {α : Type} {l : List α} {i : Nat} {x : α} (h : l[i]? = some x) : l.drop i = x :: l.drop (i + 1) := by
 obtain ⟨hi, he⟩ := List.getElem?_eq_some_iff.1 h
 rw [List.drop_eq_getElem_cons hi, he]
theorem oh9 {α : Type} {l : List α} {i : Nat} (h : l.length ≤ i) : l.drop i = [] := List.drop_eq_nil_of_le h
theorem ge6 {α : Type} {l : List α} {i : Nat} (h : i < l.length) : ∃ x, l[i]? = some x := ⟨_, List.getElem?_eq_getElem h⟩
end Go.Proofs.Ytghfdpdiibiigaa
namespace Go.Proofs.Ytghfdpdiibiigaa
open Go.Am Go.Vm Go.Alg
def lls (nl : Nat) (m : List (List Int)) : List Tree := m.map fun l => .sl nl 3 1 (ivs l)
theorem qf0 (nl : Nat) (m : List (List Int)) : (lls nl m).length = m.length := by simp [lls]
theorem lg8 (nl : Nat) (m : List (List Int)) : jj5 (lls nl m) = lvs nl m := by
 rw [gz0]
 unfold lls lvs
 rw [List.map_map]
 refine List.map_congr_left fun l _ => ?_
 show strip _ = _
 rw [strip, ap3]
theorem lr8 (nl : Nat) (m : List (List Int)) : jj5 (lvs nl m) = lvs nl m := by
 rw [gz0]
 unfold lvs
 rw [List.map_map]
 refine List.map_congr_left fun l _ => ?_
 show strip _ = _
 rw [strip, ap3]
theorem ng3 (nl : Nat) (m : List (List Int)) (l : List Int) : lls nl m ++ [.sl nl 3 1 (ivs l)] = lls nl (m ++ [l]) := by unfold lls; rw [List.map_append]; rfl
theorem y81 (nl : Nat) (m : List (List Int)) (i : Nat) (l : List Int) : (lls nl m).set i (.sl nl 3 1 (ivs l)) = lls nl (m.set i l) := by unfold lls; rw [List.map_set]
theorem mm0 (nl : Nat) (m : List (List Int)) (n : Nat) : (lls nl m).take n = lls nl (m.take n) := by unfold lls; rw [List.map_take]
theorem by3 (nl : Nat) (m : List (List Int)) (n : Nat) : (lls nl m).drop n = lls nl (m.drop n) := by unfold lls; rw [List.map_drop]
theorem rj0 (nl : Nat) (m : List (List Int)) (n : Nat) : (lvs nl m).take n = lvs nl (m.take n) := by unfold lvs; rw [List.map_take]
theorem ff4 (nl : Nat) (m : List (List Int)) (n : Nat) : (lvs nl m).drop n = lvs nl (m.drop n) := by unfold lvs; rw [List.map_drop]
theorem lz6 : ivs [] = ([] : List Tree) := rfl
theorem x25 (nl : Nat) : lls nl [] = ([] : List Tree) := rfl
@[push_cast] theorem wf0 {q : Int} [h : IsFld q] : isNode (pF q) = true := by
  obtain ⟨p, m, g, mod, hn⟩ := h.ok
  unfold pF; rw [hn]; rfl
@[push_cast] theorem v59 {q : Int} [h : IsFld q] {b : Bool} : ofz b (pF q) = some (.fz b (pF q)) := by
  obtain ⟨p, m, g, mod, hn⟩ := h.ok
  unfold pF; rw [hn]; rfl
theorem iva {q : Int} [IsFld q] {l : List (El q)} {i : Nat} (h : i < l.length) : (ivs (vs l))[i]? = some (.v (.int .i64 (wf l i).v)) := by
 rw [ui5 (by rw [fi2]; exact h), v86]; rfl
attribute [push_cast 50] List.isEmpty_nil List.isEmpty_cons nb9 qf0 lg8 lr8 ng3 mm0 by3 rj0 ff4 fi2 List.map_nil ite_self List.set_cons_zero List.set_cons_succ List.set_nil List.take_zero List.take_nil List.drop_zero List.drop_nil List.take_succ_cons List.drop_succ_cons List.take_length List.length_map List.flatMap_nil List.flatMap_cons gf1 pl3 l78 ap3 so0 nc5 yp5 u42 cs7 Int.natCast_add Int.natCast_one Int.natCast_zero Int.toNat_natCast Nat.div_one Nat.mul_one List.length_set List.all_cons List.all_nil List.length_append List.length_replicate List.length_take List.length_drop Int.zero_add
end Go.Proofs.Ytghfdpdiibiigaa
namespace Go.Proofs.Ytghfdpdiibiigaa
open Go.Am Go.Vm Go.Alg
section
variable {q p m g : Int} [IsFld q] {t : Tree} {b b' : Bool} {nl nl' : Nat}
variable {N : Nat} {P Q : List (List (El q))} {nr nr' : Nat}
end
end Go.Proofs.Ytghfdpdiibiigaa
namespace Go.Proofs.Ytghfdpdiibiigaa
open Go.Am Go.Vm Go.Alg
theorem iat {l : List Int} {i : Nat} {a : Int} (h : l[i]? = some a) : (ivs l)[i]? = some (.v (.int .i64 a)) := by
 unfold ivs; rw [List.getElem?_map, h]; rfl
def jks (n : Nat) : List Tree := List.replicate n .junk
@[push_cast] theorem gc3 (n : Nat) : (jks n).length = n := List.length_replicate ..
def nl0 : Nat → Nat
 | 0 => 1
 | _ + 1 => 0
def nl1 : Nat → Nat
 | 0 => 0
 | _ + 1 => 1
@[push_cast] theorem o09 (n : Nat) : nl0 (n + 1) = 0 := rfl
@[push_cast] theorem m17 (n : Nat) : nl1 (n + 1) = 1 := rfl
@[push_cast] theorem vt2 : nl0 0 = 1 := rfl
@[push_cast] theorem og7 : nl1 0 = 0 := rfl
end Go.Proofs.Ytghfdpdiibiigaa
namespace Go.Proofs.Ytghfdpdiibiigaa
open Go.Am Go.Vm Go.Alg
section
variable {b : Bool} {nl : Nat} {l : List Int}
section
variable {k : FuncId} {t : Tree} {p : Int → Bool}
end
section
variable {k : FuncId} {t : Tree} {p : List Int → Bool} {m : List (List Int)} {nr : Nat} {bl : Bool}
end
end
end Go.Proofs.Ytghfdpdiibiigaa
namespace Go.Proofs.Ytghfdpdiibiigaa
open Go.Am Go.Vm Go.Alg
section
variable {α : Type} {n i at' : Nat} {M : List (List α)}
end
section
variable {q : Int} [IsFld q] {n c i at' : Nat} {M : List (List (El q))}
end
end Go.Proofs.Ytghfdpdiibiigaa
namespace Go.Alg
section
variable {K : Type} [FK K]
theorem d17 (m n : Nat) (f : Nat → K) : sumN (m + n) f = sumN m f + sumN n fun i => f (m + i) := by
 induction n with
 | zero => rw [Nat.add_zero, wr8, FK.add_zero]
 | succ n ih => rw [← Nat.add_assoc, cp9, ih, cp9, FK.add_assoc]
theorem jq8 {m n : Nat} {f : Nat → K} (h : m ≤ n) (h0 : ∀ k, m ≤ k → k < n → f k = 0) : sumN n f = sumN m f := by
 obtain ⟨d, rfl⟩ : ∃ d, n = m + d := ⟨n - m, by omega⟩
 rw [d17, ja4 (n := d) (f := fun i => f (m + i)) fun a ha => h0 _ (by omega) (by omega), FK.add_zero]
def disc (C s : Nat → K) (j : Nat) : K := sumN (j + 1) fun k => C k * s (j - k)
theorem ux7 {C s : Nat → K} {L j : Nat} (hC : ∀ k, L < k → C k = 0) (hj : L ≤ j) : disc C s j = sumN (L + 1) fun k => C k * s (j - k) :=
 jq8 (by omega) fun k hk _ => by rw [hC k (by omega), zero_mul]
def shift (g : Nat) (B : Nat → K) (k : Nat) : K := if k < g then 0 else B (k - g)
theorem fj3 {B s : Nat → K} {g j : Nat} : disc (shift g B) s j = if g ≤ j then disc B s (j - g) else 0 := by
 by_cases h : g ≤ j
 ·rw [if_pos h]
  unfold disc
  rw [show j + 1 = g + (j - g + 1) by omega, d17, ja4 fun a ha => by unfold shift; rw [if_pos ha, zero_mul], zero_add]
  refine rc1 fun a ha => ?_
  unfold shift
  rw [if_neg (by omega), show g + a - g = a by omega, show j - (g + a) = j - g - a by omega]
 ·rw [if_neg h]
  exact ja4 fun a ha => by unfold shift; rw [if_pos (by omega), zero_mul]
theorem cd1 {C D s : Nat → K} {c : K} {j : Nat} : disc (fun k => C k + c * D k) s j = disc C s j + c * disc D s j := by
 unfold disc sumN
 rw [← ro9, ← jl9]
 refine ox7 fun a _ => ?_
 rw [add_mul, FK.mul_assoc]
structure Rule (s : Nat → K) (C : Nat → K) (L n : Nat) : Prop where
 one : C 0 = 1
 end' : ∀ k, L < k → C k = 0
 holds : ∀ j, L ≤ j → j < n → disc C s j = 0
theorem hv6 {s C C' : Nat → K} {L L' i : Nat} (h : Rule s C L i) (hd : disc C s i ≠ 0) (h' : Rule s C' L' (i + 1)) : i + 1 ≤ L + L' := by
 refine Classical.byContradiction fun hlt => hd ?_
 have hle : L + L' ≤ i := by omega
 have e1 : sumN (L + 1) (fun k => C k * disc C' s (i - k)) = 0 := ja4 fun k hk => by rw [h'.holds (i - k) (by omega) (by omega), mul_zero]
 have e2 : sumN (L + 1) (fun k => C k * disc C' s (i - k)) = sumN (L' + 1) fun l => C' l * disc C s (i - l) := by
  have a1 : ∀ k, k < L + 1 → C k * disc C' s (i - k) = sumN (L' + 1) fun l => C k * (C' l * s (i - k - l)) := fun k hk => by
   rw [ux7 h'.end' (by omega)]; exact (ro9 _ _ _).symm
  have a2 : ∀ l, l < L' + 1 → C' l * disc C s (i - l) = sumN (L + 1) fun k => C k * (C' l * s (i - k - l)) := fun l hl => by
   rw [ux7 h.end' (by omega)]
   refine (ro9 _ _ _).symm.trans (ox7 fun k _ => ?_)
   rw [mul_left_comm, show i - l - k = i - k - l by omega]
  rw [rc1 a1, rc1 a2]
  exact j53 _ _ _
 have e3 : sumN (L' + 1) (fun l => C' l * disc C s (i - l)) = disc C s i := by
  rw [xq2 (s := 0) (by omega) fun l hl h0 => by rw [h.holds (i - l) (by omega) (by omega), mul_zero], h'.one, one_mul, Nat.sub_zero]
 rw [← e3, ← e2, e1]
structure Mas (s : Nat → K) (i : Nat) (C B : Nat → K) (gap : Nat) (last : K) (L : Nat) : Prop where
 rule : Rule s C L i
 le : L ≤ i
 low : ∀ (C' : Nat → K) (L' : Nat), Rule s C' L' i → L ≤ L'
 ne : last ≠ 0
 old : (L = 0 ∧ gap = i + 1 ∧ ∀ k, 0 < k → B k = 0) ∨ ∃ ib Lb, ib < i ∧ gap + ib = i ∧ L + Lb = ib + 1 ∧ (∀ k, Lb < k → B k = 0) ∧ (∀ j, Lb ≤ j → j < ib → disc B s j = 0) ∧ disc B s ib = last
theorem Rule.less {s C : Nat → K} {L n m : Nat} (h : Rule s C L n) (hm : m ≤ n) : Rule s C L m := ⟨h.one, h.end', fun j h1 h2 => h.holds j h1 (by omega)⟩
theorem Mas.start (s : Nat → K) {C B : Nat → K} (hC : C 0 = 1) (hC0 : ∀ k, 0 < k → C k = 0) (hB : ∀ k, 0 < k → B k = 0) : Mas s 0 C B 1 1 0 :=
 ⟨⟨hC, hC0, fun j h1 h2 => by omega⟩, Nat.le_refl _, fun _ _ _ => Nat.zero_le _, ki7, .inl ⟨rfl, rfl, hB⟩⟩
theorem Mas.same {s : Nat → K} {i : Nat} {C B : Nat → K} {gap : Nat} {last : K} {L : Nat} (h : Mas s i C B gap last L) (hd : disc C s i = 0) : Mas s (i + 1) C B (gap + 1) last L := by
 refine ⟨⟨h.rule.one, h.rule.end', fun j h1 h2 => ?_⟩, by have := h.le; omega, fun C' L' h' => h.low C' L' (h'.less (by omega)), h.ne, ?_⟩
 ·by_cases he : j = i
  ·rw [he]; exact hd
  ·exact h.rule.holds j h1 (by omega)
 ·rcases h.old with ⟨h1, h2, h3⟩ | ⟨ib, Lb, h1, h2, h3, h4⟩
  ·exact .inl ⟨h1, by omega, h3⟩
  ·exact .inr ⟨ib, Lb, by omega, by omega, h3, h4⟩
theorem Mas.turn {s : Nat → K} {i : Nat} {C B N : Nat → K} {gap : Nat} {last : K} {L : Nat} (h : Mas s i C B gap last L) (hd : disc C s i ≠ 0) (hN : ∀ k, N k = C k + -(disc C s i * FK.inv last) * shift gap B k) :
 if 2 * L ≤ i then Mas s (i + 1) N C 1 (disc C s i) (i + 1 - L) else Mas s (i + 1) N B (gap + 1) last L := by
 obtain ⟨c, hc⟩ : ∃ c, -(disc C s i * FK.inv last) = c := ⟨_, rfl⟩
 rw [hc] at hN
 have hNf : N = fun k => C k + c * shift gap B k := by funext k; exact hN k
 have hND : ∀ j, disc N s j = disc C s j + c * (if gap ≤ j then disc B s (j - gap) else 0) := fun j => by rw [hNf, cd1, fj3]
 have hgap : 0 < gap := by
  rcases h.old with ⟨_, h2, _⟩ | ⟨ib, Lb, h1, h2, _⟩ <;> omega
 have hN0 : N 0 = 1 := by rw [hN, h.rule.one]; unfold shift; rw [if_pos hgap, mul_zero, FK.add_zero]
 have hcl : c * last = -disc C s i := by rw [← hc, neg_mul, FK.mul_assoc, inv_mul h.ne, FK.mul_one]
 have hlow : ∀ (C' : Nat → K) (L' : Nat), Rule s C' L' (i + 1) → i + 1 ≤ L + L' := fun C' L' h' => hv6 h.rule hd h'
 have hle := h.le
 by_cases h2 : 2 * L ≤ i
 ·rw [if_pos h2]
  refine ⟨⟨hN0, fun k hk => ?_, fun j h3 h4 => ?_⟩, by omega, fun C' L' h' => by have := hlow C' L' h'; omega, hd, .inr ⟨i, L, by omega, by omega, by omega, h.rule.end', h.rule.holds, rfl⟩⟩
  ·rw [hN, h.rule.end' k (by omega), zero_add]
   rcases h.old with ⟨o1, o2, o3⟩ | ⟨ib, Lb, o1, o2, o3, o4, o5⟩
   ·unfold shift; rw [if_neg (by omega), o3 _ (by omega), mul_zero]
   ·unfold shift; rw [if_neg (by omega), o4 _ (by omega), mul_zero]
  ·rw [hND]
   rcases h.old with ⟨o1, o2, o3⟩ | ⟨ib, Lb, o1, o2, o3, o4, o5, o6⟩
   ·omega
   ·rw [if_pos (by omega)]
    by_cases he : j = i
    ·rw [he, show i - gap = ib by omega, o6, hcl, FK.add_neg]
    ·rw [h.rule.holds j (by omega) (by omega), o5 _ (by omega) (by omega), mul_zero, FK.add_zero]
 ·rw [if_neg h2]
  rcases h.old with ⟨o1, o2, o3⟩ | ⟨ib, Lb, o1, o2, o3, o4, o5, o6⟩
  ·omega
  ·refine ⟨⟨hN0, fun k hk => ?_, fun j h3 h4 => ?_⟩, by omega, fun C' L' h' => h.low C' L' (h'.less (by omega)), h.ne, .inr ⟨ib, Lb, by omega, by omega, o3, o4, o5, o6⟩⟩
   ·rw [hN, h.rule.end' k hk, zero_add]
    unfold shift; rw [if_neg (by omega), o4 _ (by omega), mul_zero]
   ·rw [hND, if_pos (by omega)]
    by_cases he : j = i
    ·rw [he, show i - gap = ib by omega, o6, hcl, FK.add_neg]
    ·rw [h.rule.holds j (by omega) (by omega), o5 _ (by omega) (by omega), mul_zero, FK.add_zero]
end
end Go.Alg
namespace Go.Alg
section
variable {K : Type} [FK K]
theorem z09 (n : Nat) (f : Nat → K) : sumN n (fun i => -f i) = -sumN n f := eq0 _ _
def ofF (n : Nat) (f : Nat → K) : List K := (List.range n).map f
theorem gh0 (n : Nat) (f : Nat → K) : (ofF n f).length = n := by simp [ofF]
theorem b43 (n : Nat) (f : Nat → K) (k : Nat) : wf (ofF n f) k = if k < n then f k else 0 := by
 by_cases h : k < n
 ·rw [if_pos h, i66 (by rw [gh0]; exact h)]
  simp [ofF]
 ·rw [if_neg h, ez8 (by rw [gh0]; omega)]
theorem ot8 {n : Nat} {f : Nat → K} (h : ∀ k, n ≤ k → f k = 0) : wf (ofF n f) = f := by
 funext k
 rw [b43]
 split
 ·rfl
 ·exact (h k (by omega)).symm
theorem g29 (l : List K) (n k : Nat) : wf (l.take n) k = if k < n then wf l k else 0 := by
 unfold wf
 rw [List.getD_eq_getElem?_getD, List.getD_eq_getElem?_getD, List.getElem?_take]
 split <;> rfl
theorem nz0 (l l' : List K) (k : Nat) : wf (l ++ l') k = if k < l.length then wf l k else wf l' (k - l.length) := by
 unfold wf
 rw [List.getD_eq_getElem?_getD, List.getD_eq_getElem?_getD, List.getD_eq_getElem?_getD]
 split
 ·rename_i h; rw [List.getElem?_append_left h]
 ·rename_i h; rw [List.getElem?_append_right (by omega)]
theorem m12 (n : Nat) (k : Nat) : wf (List.replicate n (0 : K)) k = 0 := by
 by_cases h : k < n
 ·rw [i66 (by simpa using h), List.getElem_replicate]
 ·rw [ez8 (by simp; omega)]
def tN (l : List K) : Nat → Nat
 | 0 => 0
 | n + 1 => if wf l n = 0 then tN l n else n + 1
def xa4 (l : List K) : List K := l.take (tN l l.length)
theorem vv2 (l : List K) : ∀ n, tN l n ≤ n
 | 0 => Nat.le_refl _
 | n + 1 => by have := vv2 l n; rw [tN]; split <;> omega
theorem z24 (l : List K) : ∀ (n i : Nat), tN l n ≤ i → i < n → wf l i = 0
 | 0, i, _, h => by omega
 | n + 1, i, h1, h2 => by
   rw [tN] at h1
   split at h1
   ·by_cases he : i = n
    ·subst he; assumption
    ·exact z24 l n i h1 (by omega)
   ·omega
theorem uv7 (l : List K) : ∀ n, tN l n ≠ 0 → wf l (tN l n - 1) ≠ 0
 | 0, h => absurd rfl h
 | n + 1, h => by
   rw [tN] at h ⊢
   split
   ·rename_i h0
    rw [if_pos h0] at h
    exact uv7 l n h
   ·rw [Nat.add_sub_cancel]; assumption
theorem kf0 (l : List K) : (xa4 l).length = tN l l.length := by
 unfold xa4; rw [List.length_take]; have := vv2 l l.length; omega
theorem tb1 (l : List K) : (xa4 l).length ≤ l.length := by rw [kf0]; exact vv2 _ _
theorem vb5 (l : List K) : wf (xa4 l) = wf l := by
 funext k
 unfold xa4
 rw [g29]
 split
 ·rfl
 ·by_cases h2 : k < l.length
  ·exact (z24 l l.length k (by omega) h2).symm
  ·exact (ez8 (by omega)).symm
def Trm (l : List K) : Prop := l.length ≠ 0 → wf l (l.length - 1) ≠ 0
theorem t12 (l : List K) : Trm (xa4 l) := by
 intro h
 rw [vb5, kf0]
 rw [kf0] at h
 exact uv7 l l.length h
theorem kf6 {a : List K} (ha : Trm a) {n : Nat} (h : ∀ k, n ≤ k → wf a k = 0) : a.length ≤ n := by
 by_cases hl : a.length ≤ n
 ·exact hl
 ·exact absurd (h (a.length - 1) (by omega)) (ha (by omega))
theorem lz5 {a b : List K} (ha : Trm a) (hb : Trm b) (h : wf a = wf b) : a = b := by
 have key : ∀ {a b : List K}, Trm a → wf a = wf b → a.length ≤ b.length := fun ha h => kf6 ha fun k hk => by rw [h, ez8 hk]
 exact ou8 (Nat.le_antisymm (key ha h) (key hb h.symm)) h
theorem py3 {a : K} (h : a ≠ 0) : Trm [a] := fun _ => h
def addK (a b : List K) : List K := xa4 (ofF (max a.length b.length) fun k => wf a k + wf b k)
theorem w62 (a b : List K) : wf (addK a b) = fun k => wf a k + wf b k := by
 unfold addK
 rw [vb5]
 exact ot8 fun k hk => by rw [ez8 (by omega), ez8 (by omega), FK.add_zero]
theorem y42 (a b : List K) : Trm (addK a b) := t12 _
def ev : List K → K → K
 | [], _ => 0
 | a :: l, x => a + x * ev l x
theorem qm4 {f : K → K} (h0 : f 0 = 0) (a : List K) (k : Nat) : wf (a.map f) k = f (wf a k) := by
 by_cases h : k < a.length
 ·rw [i66 (by simpa using h), i66 h, List.getElem_map]
 ·rw [ez8 (by simp; omega), ez8 (by omega), h0]
def sd (x0 : K) : List K → List K × K
 | [] => ([], 0)
 | [a] => ([], a)
 | a :: b :: l => ((sd x0 (b :: l)).2 :: (sd x0 (b :: l)).1, a + x0 * (sd x0 (b :: l)).2)
theorem w89 (x0 : K) : ∀ l : List K, (sd x0 l).1.length = l.length - 1
 | [] => rfl
 | [a] => rfl
 | a :: b :: l => by
   rw [sd]
   show (sd x0 (b :: l)).1.length + 1 = _
   rw [w89 x0 (b :: l)]; simp
theorem n68 (x0 y : K) : ∀ l : List K, ev l y = (y - x0) * ev (sd x0 l).1 y + (sd x0 l).2
 | [] => by rw [sd, ev, mul_zero, FK.add_zero]
 | [a] => by
   show a + y * 0 = (y - x0) * 0 + a
   rw [mul_zero, mul_zero, FK.add_zero, zero_add]
 | a :: b :: l => by
   rw [ev, n68 x0 y (b :: l), sd]
   show a + y * ((y - x0) * ev (sd x0 (b :: l)).1 y + (sd x0 (b :: l)).2) = (y - x0) * ((sd x0 (b :: l)).2 + y * ev (sd x0 (b :: l)).1 y) + (a + x0 * (sd x0 (b :: l)).2)
   generalize (sd x0 (b :: l)).2 = r
   generalize ev (sd x0 (b :: l)).1 y = e
   rw [FK.mul_add, FK.mul_add, sub_mul y x0 r]
   have h1 : y * ((y - x0) * e) = (y - x0) * (y * e) := by ac_rfl
   rw [h1, sub_eq (y * r)]
   have h2 : y * r + -(x0 * r) + (y - x0) * (y * e) + (a + x0 * r) = a + ((y - x0) * (y * e) + y * r) + (-(x0 * r) + x0 * r) := by ac_rfl
   rw [h2, neg_add, FK.add_zero]
theorem cz6 (x0 : K) (l : List K) : (sd x0 l).2 = ev l x0 := by
 have := n68 x0 x0 l
 rw [sub_self, zero_mul, zero_add] at this
 exact this.symm
theorem rj2 (x0 : K) : ∀ l : List K, (∀ c ∈ (sd x0 l).1, c = 0) → (sd x0 l).2 = 0 → ∀ c ∈ l, c = 0
 | [], _, _, c, hc => by cases hc
 | [a], _, h, c, hc => by
   rw [List.mem_singleton.1 hc]; exact h
 | a :: b :: l, h1, h2, c, hc => by
   rw [sd] at h1 h2
   have hr : (sd x0 (b :: l)).2 = 0 := h1 _ (by simp)
   have ih := rj2 x0 (b :: l) (fun c hc => h1 c (by simp [hc])) hr
   rcases List.mem_cons.1 hc with rfl | hc
   ·rw [hr, mul_zero, FK.add_zero] at h2; exact h2
   ·exact ih c hc
theorem roots : ∀ (xs : List K) (f : List K), xs.Nodup → f.length ≤ xs.length → (∀ x ∈ xs, ev f x = 0) → ∀ c ∈ f, c = 0
 | [], f, _, hl, _ => by
   intro c hc
   rw [List.eq_nil_of_length_eq_zero (Nat.le_zero.1 hl)] at hc; cases hc
 | x0 :: xs, f, hn, hl, hx => by
   rw [List.nodup_cons] at hn
   have h0 := hx x0 (by simp)
   rw [← cz6] at h0
   have hl2 := w89 x0 f
   rw [List.length_cons] at hl
   refine rj2 x0 f (roots xs _ hn.2 (by omega) fun y hy => ?_) h0
   have h1 := n68 x0 y f
   rw [hx y (by simp [hy]), h0, FK.add_zero] at h1
   rcases mul_eq_zero h1.symm with h2 | h2
   ·exact absurd (by rw [← sub_eq_zero.1 h2]; exact hy) hn.1
   ·exact h2
end
end Go.Alg
namespace Go.Alg
section
variable {K : Type} [FK K]
end
end Go.Alg
namespace Go.Proofs.Ytghfdpdiibiigaa
open Go.Am Go.Vm Go.Alg
def polE (q : Int) (a : List Int) : Int := match fldN q.toNat with
 | none => 1
 | some _ => if 128 < a.length then 4 else if (a.any fun v => !fok q v) = true then 2 else 0
theorem i69 {q : Int} (a : List (El q)) : ((vs a).any fun v => !fok q v) = false := List.any_eq_false.2 fun z hz => by
 obtain ⟨x, _, rfl⟩ := List.mem_map.1 hz
 rw [x.ok]; decide
theorem i31 {q : Int} [h : IsFld q] {a : List (El q)} (hl : a.length ≤ 128) : polE q (vs a) = 0 := by
 obtain ⟨p, m, g, mod, hn⟩ := h.ok
 unfold polE
 rw [hn]
 simp only
 rw [if_neg (by rw [fi2]; omega), i69, if_neg (by decide)]
section
variable {q : Int} {b : Bool} {nl : Nat} {l : List Int}
theorem kj6 [IsFld q] (hl : l.length ≤ 9223372036854775807) : ∀ (n i : Nat), i + n = l.length → ∀ ks,
 vgoL W ⟨hNo, [.tmp 4], 0⟩ [5, 20, 21, 22] c61L0 (.blk 0 [] :: ks) [(5, .fz true (pF q)), (20, .fz b (.sl nl 0 1 (ivs l))), (21, .x (.int .i64 l.length)), (22, .x (.int .i64 i))] [] = if ((l.drop i).any fun v => !fok q v) = true then some (.x (.int .i64 2), [], []) else vgo W ⟨hNo, [.tmp 4], 0⟩ ks (VFr.of []) []
 | 0, i, hi, ks => by
   rw [oh9 (by omega), if_neg (by simp), sb5 c61L0.eq_def]
   simp (disch := first | omega | fail) only [push_cast, seval, ui5, lu7, y81, bj9, wrap64, dec_lt, cw6, nl2, qc6, mr8, nb8, if_pos, if_neg]
 | n + 1, i, hi, ks => by
   have ih := kj6 hl n (i + 1) (by omega) ks
   obtain ⟨a, ha⟩ := ge6 (l := l) (i := i) (by omega)
   have h1 := iat ha
   rw [i62 ha, List.any_cons]
   rw [Int.natCast_add, Int.natCast_one] at ih
   cases hk : fok q a with
   | false =>
     rw [if_pos (by rfl), sb5 c61L0.eq_def]
     simp (disch := first | omega | fail) only [push_cast, seval, ui5, lu7, y81, bj9, wrap64, dec_lt, cw6, nl2, qc6, mr8, nb8, if_pos, if_neg, h1, hk]
   | true =>
     rw [Bool.not_true, Bool.false_or, ← ih, sb5 c61L0.eq_def]
     simp (disch := first | omega | fail) only [push_cast, seval, ui5, lu7, y81, bj9, wrap64, dec_lt, cw6, nl2, qc6, mr8, nb8, if_pos, if_neg, h1, hk]
theorem bw7 (hl : l.length ≤ 9223372036854775807) : o25 W 61 [.x (.int .i64 q), .fz b (.sl nl 0 1 (ivs l))] [] = some (.x (.int .i64 (polE q l)), [], []) := by
 unfold polE
 cases hn : fldN q.toNat with
 | none =>
   have e0 := ug9 hn
   rw [o10 rfl T61 rfl]
   unfold F61 c61
   simp (disch := first | omega | fail) only [push_cast, seval, ui5, lu7, y81, bj9, wrap64, dec_lt, cw6, nl2, qc6, mr8, nb8, if_pos, if_neg, e0]
 | some x =>
   obtain ⟨p0, m0, g0, mod⟩ := x
   haveI : IsFld q := ⟨⟨p0, m0, g0, mod, hn⟩⟩
   simp only
   by_cases h1 : 128 < l.length
   ·rw [if_pos h1, o10 rfl T61 rfl]
    unfold F61 c61
    simp (disch := first | omega | fail) only [push_cast, seval, ui5, lu7, y81, bj9, wrap64, dec_lt, cw6, nl2, qc6, mr8, nb8, if_pos, if_neg]
   ·rw [if_neg h1]
    have e := fun ks => kj6 (q := q) hl (b := b) (nl := nl) l.length 0 (by omega) ks
    simp only [Int.natCast_zero, List.take_zero, List.drop_zero, rp2, lz6, x25, List.map_nil, List.length_nil] at e
    rw [o10 rfl T61 rfl]
    unfold F61 c61
    simp (disch := first | omega | fail) only [push_cast, seval, ui5, lu7, y81, bj9, wrap64, dec_lt, cw6, nl2, qc6, mr8, nb8, if_pos, if_neg]
    rw [e]
    by_cases h2 : (l.any fun v => !fok q v) = true
    ·rw [if_pos h2, if_pos h2]
    ·rw [if_neg h2, if_neg h2]
     simp (disch := first | omega | fail) only [push_cast, seval, ui5, lu7, y81, bj9, wrap64, dec_lt, cw6, nl2, qc6, mr8, nb8, if_pos, if_neg]
end
section
variable {q : Int} [IsFld q] {b : Bool} {nl : Nat} {a : List (El q)}
theorem ee1 (a : List (El q)) (n : Nat) : (vs a).take n = vs (a.take n) := by unfold vs; rw [List.map_take]
theorem ks7 (a : List (El q)) : nlT (vs a) = nlT a := b99 _ _
theorem yc2 (hl : a.length ≤ 1000000) : ∀ (n : Nat), n ≤ a.length → ∀ ks,
 vgoL W ⟨hNo, [.tmp 2], 0⟩ [0, 3] c86L0 (.blk 0 [0, 3] :: ks) [(0, .fz b (.sl nl 0 1 (ivs (vs a)))), (3, .x (.int .i64 n))] [] = vgo W ⟨hNo, [.tmp 2], 0⟩ ks (VFr.of [(0, .fz b (.sl nl 0 1 (ivs (vs a)))), (3, .x (.int .i64 (tN a n : Nat)))]) []
 | 0, hn, ks => by
   rw [sb5 c86L0.eq_def, tN]
   simp (disch := first | omega | fail) only [push_cast, seval, ui5, lu7, y81, bj9, wrap64, dec_lt, cw6, nl2, qc6, mr8, nb8, if_pos, if_neg]
 | n + 1, hn, ks => by
   have ih := yc2 hl n (by omega) ks
   have h1 := iva (l := a) (i := n) (by omega)
   have w1 : IntKind.wrap .i64 (((n + 1 : Nat) : Int) - 1) = (n : Int) := by rw [wrap64 (by omega) (by omega)]; omega
   rw [Int.natCast_add, Int.natCast_one] at w1
   rw [sb5 c86L0.eq_def, tN]
   by_cases h0 : wf a n = 0
   ·rw [if_pos h0, ← ih]
    have h2 : (wf a n).v = 0 := r57.2 h0
    simp (disch := first | omega | fail) only [push_cast, seval, ui5, lu7, y81, bj9, wrap64, dec_lt, cw6, nl2, qc6, mr8, nb8, if_pos, if_neg, w1, h1, h2]
   ·rw [if_neg h0]
    have h2 : ¬ (wf a n).v = 0 := fun e => h0 (r57.1 e)
    simp (disch := first | omega | fail) only [push_cast, seval, ui5, lu7, y81, bj9, wrap64, dec_lt, cw6, nl2, qc6, mr8, nb8, if_pos, if_neg, w1, h1, nb8 h2]
theorem di3 (hl : a.length ≤ 1000000) : o25 W 86 [.fz b (.sl nl 0 1 (ivs (vs a)))] [] = some (.own 0 [], [.sl (nlT (xa4 a)) 3 1 (ivs (vs (xa4 a)))], []) := by
 have hle := vv2 a a.length
 have e := fun ks => yc2 (b := b) (nl := nl) hl a.length (Nat.le_refl _) ks
 have htk : (vs a).take (tN a a.length) = vs (xa4 a) := ee1 _ _
 have hlt := tb1 a
 have e1 := fun b nl => h19 (b := b) (nl := nl) (zs := vs (xa4 a)) (by rw [fi2]; omega)
 simp only [ks7] at e1
 rw [o10 rfl T86 rfl]
 unfold F86 c86
 simp (disch := first | omega | fail) only [push_cast, seval, ui5, lu7, y81, bj9, wrap64, dec_lt, cw6, nl2, qc6, mr8, nb8, if_pos, if_neg]
 rw [e]
 simp (disch := first | omega | fail) only [push_cast, seval, ui5, lu7, y81, bj9, wrap64, dec_lt, cw6, nl2, qc6, mr8, nb8, if_pos, if_neg, htk, e1, Int.sub_zero]
end
end Go.Proofs.Ytghfdpdiibiigaa
namespace Go.Alg
section
variable {K : Type} [FK K]
def addT (y : List K) : Nat → Nat → List K → List K
 | 0, _, z => z
 | n + 1, i, z => addT y n (i + 1) (z.set i (wf z i + wf y i))
theorem tl9 (y : List K) : ∀ (n i : Nat) (z : List K), (addT y n i z).length = z.length
 | 0, _, _ => rfl
 | n + 1, i, z => by rw [addT, tl9 y n, List.length_set]
theorem e73 (y : List K) : ∀ (n i : Nat) (z : List K), i + n ≤ z.length → ∀ j, wf (addT y n i z) j = if i ≤ j ∧ j < i + n then wf z j + wf y j else wf z j
 | 0, i, z, _, j => by rw [addT, if_neg (by omega)]
 | n + 1, i, z, h, j => by
   rw [addT, e73 y n (i + 1) _ (by rw [List.length_set]; omega), wf_set (by omega)]
   by_cases h1 : j = i
   ·subst h1
    rw [if_neg (by omega), if_pos rfl, if_pos (by omega)]
   ·rw [if_neg h1]
    by_cases h2 : i + 1 ≤ j ∧ j < i + 1 + n
    ·rw [if_pos h2, if_pos (by omega)]
    ·rw [if_neg h2, if_neg (by omega)]
theorem ip0 {x y : List K} (h : y.length ≤ x.length) : xa4 (addT y y.length 0 x) = addK x y := by
 refine lz5 (t12 _) (y42 _ _) ?_
 rw [vb5, w62]
 funext j
 rw [e73 _ _ _ _ (by omega)]
 split
 ·rfl
 ·rw [ez8 (l := y) (by omega), FK.add_zero]
theorem c89 (a b : List K) : addK a b = addK b a := lz5 (y42 _ _) (y42 _ _) (by
 rw [w62, w62]
 funext j
 exact FK.add_comm _ _)
theorem zy5 (a b : List K) : addK (xa4 a) (xa4 b) = addK a b := lz5 (y42 _ _) (y42 _ _) (by rw [w62, w62, vb5, vb5])
end
end Go.Alg
namespace Go.Proofs.Ytghfdpdiibiigaa
open Go.Am Go.Vm Go.Alg
section
variable {q : Int} {b b' : Bool} {nl nl' : Nat}
theorem ce8 [IsFld q] {a c : List (El q)} (ha : a.length ≤ 128) (hc : c.length ≤ 128) :
 o25 W 85 [.x (.int .i64 q), .fz b (.sl nl 0 1 (ivs (vs a))), .fz b' (.sl nl' 0 1 (ivs (vs c)))] [] = some (.tup [.fz true (pF q), .own 0 [], .own 1 [], .x (.int .i64 0)], [.sl (nlT (xa4 a)) 3 1 (ivs (vs (xa4 a))), .sl (nlT (xa4 c)) 3 1 (ivs (vs (xa4 c)))], []) := by
 have e1 := fun b nl => bw7 (q := q) (b := b) (nl := nl) (l := vs a) (by rw [fi2]; omega)
 have e2 := fun b nl => bw7 (q := q) (b := b) (nl := nl) (l := vs c) (by rw [fi2]; omega)
 simp only [i31 ha] at e1
 simp only [i31 hc] at e2
 have e3 := fun b nl => di3 (b := b) (nl := nl) (a := a) (by omega)
 have e4 := fun b nl => di3 (b := b) (nl := nl) (a := c) (by omega)
 rw [o10 rfl T85 rfl]
 unfold F85 c85
 simp (disch := first | omega | fail) only [push_cast, seval, ui5, lu7, y81, bj9, wrap64, dec_lt, cw6, nl2, qc6, mr8, nb8, if_pos, if_neg, e1, e2, e3, e4]
theorem ae4 [IsFld q] {y : List (El q)} (hy : y.length ≤ 1000) : ∀ (n i : Nat) (z : List (El q)), i + n = y.length → y.length ≤ z.length → ∀ ks,
 vgoL W ⟨h62, [.tmp 6, .tmp 7], 0⟩ [1, 8, 31, 32, 33] c62L0 (.blk 0 [1] :: ks) [(1, .own 0 []), (8, .fz true (pF q)), (31, .own 1 []), (32, .x (.int .i64 y.length)), (33, .x (.int .i64 i))] [.sl nl 3 1 (ivs (vs z)), .sl nl' 3 1 (ivs (vs y))] =
  vgo W ⟨h62, [.tmp 6, .tmp 7], 0⟩ ks (VFr.of [(1, .own 0 [])]) [.sl nl 3 1 (ivs (vs (addT y n i z))), .sl nl' 3 1 (ivs (vs y))]
 | 0, i, z, hi, hz, ks => by
   rw [addT, sb5 c62L0.eq_def]
   simp (disch := first | omega | fail) only [push_cast, seval, ui5, lu7, y81, bj9, wrap64, dec_lt, cw6, nl2, qc6, mr8, nb8, if_pos, if_neg]
 | n + 1, i, z, hi, hz, ks => by
   have ih := ae4 hy n (i + 1) (z.set i (wf z i + wf y i)) (by omega) (by rw [List.length_set]; exact hz) ks
   have h1 := iva (l := y) (i := i) (by omega)
   have h2 := iva (l := z) (i := i) (by omega)
   rw [Int.natCast_add, Int.natCast_one, ← g52, on0] at ih
   rw [addT, ← ih, sb5 c62L0.eq_def]
   simp (disch := first | omega | fail) only [push_cast, seval, ui5, lu7, y81, bj9, wrap64, dec_lt, cw6, nl2, qc6, mr8, nb8, if_pos, if_neg, h1, h2]
theorem wa2 [IsFld q] {a c : List (El q)} (ha : a.length ≤ 128) (hc : c.length ≤ 128) :
 o25 W 62 [.x (.int .i64 q), .fz b (.sl nl 0 1 (ivs (vs a))), .fz b' (.sl nl' 0 1 (ivs (vs c)))] [] = some (.tup [.own 0 [], .x (.int .i64 0)], [.sl (nlT (addK a c)) 3 1 (ivs (vs (addK a c)))], []) := by
 have e1 := fun b nl b' nl' => ce8 (b := b) (nl := nl) (b' := b') (nl' := nl') ha hc
 have la := tb1 a
 have lc := tb1 c
 have hs := zy5 a c
 by_cases hl : (xa4 a).length < (xa4 c).length
 ·have e2 := fun nl nl' ks => ae4 (q := q) (nl := nl) (nl' := nl') (y := xa4 a) (by omega) (xa4 a).length 0 (xa4 c) (by omega) (by omega) ks
  have ht := ip0 (x := xa4 c) (y := xa4 a) (by omega)
  rw [c89, hs] at ht
  have e3 := fun b nl => di3 (b := b) (nl := nl) (a := addT (xa4 a) (xa4 a).length 0 (xa4 c)) (by rw [tl9]; omega)
  simp only [ht] at e3
  generalize addT (xa4 a) (xa4 a).length 0 (xa4 c) = Z at *
  generalize xa4 a = A at *
  generalize xa4 c = C at *
  simp only [Int.natCast_zero, List.take_zero, List.drop_zero, rp2, lz6, x25, List.map_nil, List.length_nil] at e2
  rw [o10 rfl T62 rfl]
  unfold F62 c62
  simp (disch := first | omega | fail) only [push_cast, seval, ui5, lu7, y81, bj9, wrap64, dec_lt, cw6, nl2, qc6, mr8, nb8, if_pos, if_neg, e1]
  rw [e2]
  simp (disch := first | omega | fail) only [push_cast, seval, ui5, lu7, y81, bj9, wrap64, dec_lt, cw6, nl2, qc6, mr8, nb8, if_pos, if_neg, e3]
 ·have e2 := fun nl nl' ks => ae4 (q := q) (nl := nl) (nl' := nl') (y := xa4 c) (by omega) (xa4 c).length 0 (xa4 a) (by omega) (by omega) ks
  have ht := ip0 (x := xa4 a) (y := xa4 c) (by omega)
  rw [hs] at ht
  have e3 := fun b nl => di3 (b := b) (nl := nl) (a := addT (xa4 c) (xa4 c).length 0 (xa4 a)) (by rw [tl9]; omega)
  simp only [ht] at e3
  generalize addT (xa4 c) (xa4 c).length 0 (xa4 a) = Z at *
  generalize xa4 a = A at *
  generalize xa4 c = C at *
  simp only [Int.natCast_zero, List.take_zero, List.drop_zero, rp2, lz6, x25, List.map_nil, List.length_nil] at e2
  rw [o10 rfl T62 rfl]
  unfold F62 c62
  simp (disch := first | omega | fail) only [push_cast, seval, ui5, lu7, y81, bj9, wrap64, dec_lt, cw6, nl2, qc6, mr8, nb8, if_pos, if_neg, e1]
  rw [e2]
  simp (disch := first | omega | fail) only [push_cast, seval, ui5, lu7, y81, bj9, wrap64, dec_lt, cw6, nl2, qc6, mr8, nb8, if_pos, if_neg, e3]
end
end Go.Proofs.Ytghfdpdiibiigaa
namespace Go.Proofs.Ytghfdpdiibiigaa
open Go.Am Go.Vm Go.Alg
section
variable {q : Int} {b b' : Bool} {nl nl' : Nat}
end
end Go.Proofs.Ytghfdpdiibiigaa
namespace Go.Proofs.Ytghfdpdiibiigaa
open Go.Am Go.Vm Go.Alg
end Go.Proofs.Ytghfdpdiibiigaa
namespace Go.Proofs.Ytghfdpdiibiigaa
open Go.Am Go.Vm Go.Alg
def pkI (a n : Int) : Int := (if a < 0 then -(a + 1) else a).tmod n
theorem h58 {a n : Int} (hn : 0 < n) : 0 ≤ pkI a n ∧ pkI a n < n := by
 unfold pkI
 split
 ·exact ⟨Int.tmod_nonneg _ (by omega), Int.tmod_lt_of_pos _ hn⟩
 ·exact ⟨Int.tmod_nonneg _ (by omega), Int.tmod_lt_of_pos _ hn⟩
def rwI (l : List Int) (i : Int) : Int := if l.length = 0 then i else IntKind.wrap .i64 (gi l (i.tmod l.length) + IntKind.wrap .i64 (IntKind.wrap .i64 (i.tdiv l.length) * 7919))
theorem ti9 (x : Int) : -9223372036854775808 ≤ IntKind.wrap .i64 x ∧ IntKind.wrap .i64 x ≤ 9223372036854775807 := by rw [IntKind.wrap_i64]; omega
theorem bd0 {l : List Int} {i : Int} (h0 : 0 ≤ i) (h1 : i ≤ 9223372036854775807) : -9223372036854775808 ≤ rwI l i ∧ rwI l i ≤ 9223372036854775807 := by
 unfold rwI
 split
 ·omega
 ·exact ti9 _
theorem cl0 {l : List Int} {i : Int} (h0 : 0 ≤ i) (h1 : i < l.length) : (ivs l)[i.toNat]? = some (.v (.int .i64 (gi l i))) := by
 have e : (ivs l)[i.toNat]? = some (.v (.int .i64 (gi l ((i.toNat : Nat) : Int)))) := ui5 (by omega)
 rwa [Int.toNat_of_nonneg h0] at e
section
variable {b : Bool} {nl : Nat} {raw : List Int}
theorem s88 {a n : Int} (h1 : -9223372036854775808 ≤ a) (h2 : a ≤ 9223372036854775807) (hn : 0 < n) : o25 W 9 [.x (.int .i64 a), .x (.int .i64 n)] [] = some (.x (.int .i64 (pkI a n)), [], []) := by
 have hz : ¬ n = 0 := by omega
 rw [o10 rfl T9 rfl]
 unfold F9 c9 pkI
 by_cases h0 : a < 0
 ·rw [if_pos h0]
  simp (disch := first | omega | fail) only [push_cast, seval, ui5, lu7, y81, bj9, wrap64, dec_lt, cw6, nl2, qc6, mr8, nb8, if_pos, if_neg, nb8 hz, hz]
  rw [show (0 : Int) - (a + 1) = -(a + 1) by omega]
 ·rw [if_neg h0]
  simp (disch := first | omega | fail) only [push_cast, seval, ui5, lu7, y81, bj9, wrap64, dec_lt, cw6, nl2, qc6, mr8, nb8, if_pos, if_neg, nb8 hz, hz]
theorem yc3 {i : Int} (hi : 0 ≤ i) (hl : raw.length ≤ 9223372036854775807) : o25 W 41 [.fz b (.sl nl 0 1 (ivs raw)), .x (.int .i64 i)] [] = some (.x (.int .i64 (rwI raw i)), [], []) := by
 rw [o10 rfl T41 rfl]
 unfold F41 c41 rwI
 by_cases h0 : raw.length = 0
 ·rw [if_pos h0]
  have h0' : (raw.length : Int) = 0 := by omega
  simp (disch := first | omega | fail) only [push_cast, seval, ui5, lu7, y81, bj9, wrap64, dec_lt, cw6, nl2, qc6, mr8, nb8, if_pos, if_neg, h0']
 ·rw [if_neg h0]
  have hz : ¬ (raw.length : Int) = 0 := by omega
  have b1 : 0 ≤ i.tmod raw.length := Int.tmod_nonneg _ hi
  have b2 : i.tmod raw.length < raw.length := Int.tmod_lt_of_pos _ (by omega)
  have e := cl0 b1 b2
  simp (disch := first | omega | fail) only [push_cast, seval, ui5, lu7, y81, bj9, wrap64, dec_lt, cw6, nl2, qc6, mr8, nb8, if_pos, if_neg, hz, nb8 hz, e]
def numV (raw : List Int) (frm q : Int) (k : Nat) : Int := pkI (rwI raw (frm + k)) q
def tv7 (raw : List Int) (frm q : Int) (n : Nat) : List Int := (List.range n).map (numV raw frm q)
theorem jd5 (raw : List Int) (frm q : Int) (n : Nat) : (tv7 raw frm q n).length = n := by simp [tv7]
theorem ce6 (raw : List Int) (frm q : Int) (n : Nat) : tv7 raw frm q (n + 1) = tv7 raw frm q n ++ [numV raw frm q n] := by unfold tv7; rw [List.range_succ, List.map_append]; rfl
theorem dm5 {raw : List Int} {frm q : Int} {n : Nat} (hq : 0 < q) : ∀ z ∈ tv7 raw frm q n, fok q z = true := fun z hz => by
 obtain ⟨k, _, rfl⟩ := List.mem_map.1 hz
 have := h58 (a := rwI raw (frm + k)) hq
 unfold numV fok
 rw [decide_eq_true this.1, decide_eq_true this.2]; rfl
theorem m61 {raw : List Int} {frm q : Int} {n : Nat} (hq : 0 < q) : ∃ l : List (El q), tv7 raw frm q n = vs l ∧ l.length = n := by
 obtain ⟨l, hl⟩ := n39 (dm5 (raw := raw) (frm := frm) (n := n) hq)
 exact ⟨l, hl, by rw [← fi2, ← hl, jd5]⟩
theorem yq2 (hrl : raw.length ≤ 9223372036854775807) {frm q : Int} (hf0 : 0 ≤ frm) (hf1 : frm ≤ 1000000000) (hq0 : 0 < q) {N : Nat} (hN : N ≤ 100000) : ∀ (d i : Nat), i + d = N → ∀ ks,
 vgoL W ⟨h11, [.tmp 8], 0⟩ [0, 1, 2, 3, 9, 10] c11L0 (.blk 0 [9] :: ks) [(0, .fz b (.sl nl 0 1 (ivs raw))), (1, .x (.int .i64 frm)), (2, .x (.int .i64 q)), (3, .x (.int .i64 N)), (9, .own 0 []), (10, .x (.int .i64 i))] [.sl 1 3 1 (ivs (tv7 raw frm q i))] =
  vgo W ⟨h11, [.tmp 8], 0⟩ ks (VFr.of [(9, .own 0 [])]) [.sl 1 3 1 (ivs (tv7 raw frm q N))]
 | 0, i, hi, ks => by
   obtain rfl : i = N := by omega
   rw [sb5 c11L0.eq_def]
   simp (disch := first | omega | fail) only [push_cast, seval, ui5, lu7, y81, bj9, wrap64, dec_lt, cw6, nl2, qc6, mr8, nb8, if_pos, if_neg]
 | d + 1, i, hi, ks => by
   have ih := yq2 hrl hf0 hf1 hq0 hN d (i + 1) (by omega) ks
   have e1 := fun b nl => yc3 (b := b) (nl := nl) (raw := raw) (i := frm + i) (by omega) hrl
   have hri := bd0 (l := raw) (i := frm + i) (by omega) (by omega)
   have e2 := s88 (n := q) hri.1 hri.2 hq0
   have hl := jd5 raw frm q i
   rw [Int.natCast_add, Int.natCast_one, ce6, numV] at ih
   rw [← ih, sb5 c11L0.eq_def]
   simp (disch := first | omega | fail) only [push_cast, seval, ui5, lu7, y81, bj9, wrap64, dec_lt, cw6, nl2, qc6, mr8, nb8, if_pos, if_neg, e1, e2, hl]
theorem vv4 (hrl : raw.length ≤ 9223372036854775807) {frm q : Int} (hf0 : 0 ≤ frm) (hf1 : frm ≤ 1000000000) (hq0 : 0 < q) {N : Nat} (hN : N ≤ 100000) : o25 W 11 [.fz b (.sl nl 0 1 (ivs raw)), .x (.int .i64 frm), .x (.int .i64 q), .x (.int .i64 N)] [] = some (.own 0 [], [.sl 1 3 1 (ivs (tv7 raw frm q N))], []) := by
 have e := fun ks => yq2 (b := b) (nl := nl) hrl hf0 hf1 hq0 hN N 0 (by omega) ks
 rw [show tv7 raw frm q 0 = [] from rfl] at e
 simp only [Int.natCast_zero, List.take_zero, List.drop_zero, rp2, lz6, x25, List.map_nil, List.length_nil] at e
 rw [o10 rfl T11 rfl]
 unfold F11 c11
 simp (disch := first | omega | fail) only [push_cast, seval, ui5, lu7, y81, bj9, wrap64, dec_lt, cw6, nl2, qc6, mr8, nb8, if_pos, if_neg]
 rw [e]
 simp (disch := first | omega | fail) only [push_cast, seval, ui5, lu7, y81, bj9, wrap64, dec_lt, cw6, nl2, qc6, mr8, nb8, if_pos, if_neg]
end
theorem hl9 (p : Int) (hp : 2 ≤ p ∧ p ≤ 64) : ∀ (n : Nat) (q m q' m' : Int), 1 ≤ q → q ≤ 64 → 0 ≤ m → m + n ≤ 100 → dvdN n q p m = some (q', m') →
 (1 ≤ q' ∧ q' ≤ 64) ∧ ∀ ks, vgoL W ⟨hNo, [.tmp 2, .tmp 3], 0⟩ [0, 4, 5] c81L0 (.blk 2 [0, 4, 5] :: ks) [(0, .x (.int .i64 q)), (4, .x (.int .i64 p)), (5, .x (.int .i64 m))] [] = vgo W ⟨hNo, [.tmp 2, .tmp 3], 0⟩ ks (VFr.of [(0, .x (.int .i64 q')), (4, .x (.int .i64 p)), (5, .x (.int .i64 m'))]) []
 | 0, q, m, q', m', h1, h2, h3, h4, he => by cases he
 | n + 1, q, m, q', m', h1, h2, h3, h4, he => by
   rw [dvdN] at he
   have hp0 : ¬ p = 0 := by omega
   have q1 : q.tmod p = q % p := Int.tmod_eq_emod_of_nonneg (by omega)
   have q2 : q.tdiv p = q / p := Int.tdiv_eq_ediv_of_nonneg (by omega)
   by_cases hz : q % p = 0
   ·rw [show (q % p == 0) = true by simpa using hz, cond_true] at he
    have hd : 1 ≤ q / p := by
     rcases Int.lt_or_le (q / p) 1 with h | h
     ·have h5 : 0 ≤ q / p := Int.ediv_nonneg (by omega) (by omega)
      have h6 : q / p = 0 := by omega
      have := Int.emod_add_mul_ediv q p
      rw [h6, hz] at this; omega
     ·exact h
    have hd2 : q / p ≤ q := Int.ediv_le_self _ (by omega)
    obtain ⟨hb, ih⟩ := hl9 p hp n (q / p) (m + 1) q' m' hd (by omega) (by omega) (by omega) he
    refine ⟨hb, fun ks => ?_⟩
    rw [← ih ks, sb5 c81L0.eq_def]
    simp (disch := first | omega | fail) only [push_cast, seval, ui5, lu7, y81, bj9, wrap64, dec_lt, cw6, nl2, qc6, mr8, nb8, if_pos, if_neg, hp0, q1, q2, mr8 hz]
   ·rw [show (q % p == 0) = false by simpa using hz, cond_false] at he
    cases he
    refine ⟨⟨h1, h2⟩, fun ks => ?_⟩
    rw [sb5 c81L0.eq_def]
    simp (disch := first | omega | fail) only [push_cast, seval, ui5, lu7, y81, bj9, wrap64, dec_lt, cw6, nl2, qc6, mr8, nb8, if_pos, if_neg, hp0, q1, nb8 hz]
theorem ra6 (q : Int) (hq : 2 ≤ q ∧ q ≤ 64) : ∀ (n : Nat) (p : Int) (r : Int × Int), 2 ≤ p → p ≤ 64 → outN n q p = some r →
 ∀ ks, vgoL W ⟨hNo, [.tmp 2, .tmp 3], 0⟩ [0, 4] c81L1 (.blk 0 [] :: ks) [(0, .x (.int .i64 q)), (4, .x (.int .i64 p))] [] = some (.tup [.x (.int .i64 r.1), .x (.int .i64 r.2)], [], [])
 | 0, p, r, h1, h2, he => by cases he
 | n + 1, p, r, h1, h2, he => fun ks => by
   rw [outN] at he
   by_cases hl : q < p
   ·rw [decide_eq_true hl, cond_true] at he; cases he
   rw [decide_eq_false hl, cond_false] at he
   have hp0 : ¬ p = 0 := by omega
   have q1 : q.tmod p = q % p := Int.tmod_eq_emod_of_nonneg (by omega)
   by_cases hz : q % p = 0
   ·rw [show (q % p == 0) = true by simpa using hz, cond_true] at he
    cases hd : dvdN 64 q p 0 with
    | none => rw [hd] at he; cases he
    | some x =>
      obtain ⟨q', m'⟩ := x
      rw [hd] at he
      simp only [Option.some.injEq] at he
      obtain ⟨hb, hin⟩ := hl9 p ⟨h1, h2⟩ 64 q 0 q' m' (by omega) (by omega) (by omega) (by omega) hd
      rw [sb5 c81L1.eq_def]
      simp (disch := first | omega | fail) only [push_cast, seval, ui5, lu7, y81, bj9, wrap64, dec_lt, cw6, nl2, qc6, mr8, nb8, if_pos, if_neg, hp0, q1, mr8 hz]
      rw [hin]
      by_cases ho : q' = 1
      ·rw [show (q' == 1) = true by simpa using ho, cond_true] at he
       rw [← he]
       simp (disch := first | omega | fail) only [push_cast, seval, ui5, lu7, y81, bj9, wrap64, dec_lt, cw6, nl2, qc6, mr8, nb8, if_pos, if_neg, mr8 ho]
      ·rw [show (q' == 1) = false by simpa using ho, cond_false] at he
       rw [← he]
       simp (disch := first | omega | fail) only [push_cast, seval, ui5, lu7, y81, bj9, wrap64, dec_lt, cw6, nl2, qc6, mr8, nb8, if_pos, if_neg, nb8 ho]
   ·rw [show (q % p == 0) = false by simpa using hz, cond_false] at he
    by_cases hp64 : p = 64
    ·subst hp64; omega
    have ih := ra6 q hq n (p + 1) r (by omega) (by omega) he ks
    rw [← ih, sb5 c81L1.eq_def]
    simp (disch := first | omega | fail) only [push_cast, seval, ui5, lu7, y81, bj9, wrap64, dec_lt, cw6, nl2, qc6, mr8, nb8, if_pos, if_neg, hp0, q1, nb8 hz]
theorem fh8 {q : Int} (hq : 2 ≤ q ∧ q ≤ 64) {r : Int × Int} (he : outN 64 q 2 = some r) : o25 W 81 [.x (.int .i64 q)] [] = some (.tup [.x (.int .i64 r.1), .x (.int .i64 r.2)], [], []) := by
 rw [o10 rfl T81 rfl]
 unfold F81 c81
 simp (disch := first | omega | fail) only [push_cast, seval, ui5, lu7, y81, bj9, wrap64, dec_lt, cw6, nl2, qc6, mr8, nb8, if_pos, if_neg]
 rw [ra6 q hq 64 2 r (by omega) (by omega) he]
def szN : Nat → Nat → List Int
 | 0, _ => []
 | n + 1, q => bif (fldN q).isSome then (q : Int) :: szN n (q + 1) else szN n (q + 1)
def szL : List Int := szN 63 2
theorem pb4 : szL.length = 27 := by kernel_rfl
theorem ho6 : (szL.all fun z => decide (2 ≤ z) && decide (z ≤ 64) && (fldN z.toNat).isSome) = true := by kernel_rfl
theorem x14 {z : Int} (hz : z ∈ szL) : 2 ≤ z ∧ z ≤ 64 ∧ IsFld z := by
 have := List.all_eq_true.1 ho6 z hz
 simp only [Bool.and_eq_true, decide_eq_true_eq] at this
 obtain ⟨⟨h1, h2⟩, h3⟩ := this
 obtain ⟨⟨p, m, g, mod⟩, hx⟩ := Option.isSome_iff_exists.1 h3
 exact ⟨h1, h2, ⟨p, m, g, mod, hx⟩⟩
theorem jl0 : ∀ (n q : Nat) (zs : List Int), q + n = 65 → 2 ≤ q → zs.length ≤ q → ∀ ks,
 vgoL W ⟨h54, [.tmp 0], 0⟩ [1, 2] c54L0 (.blk 0 [1] :: ks) [(1, .own 0 []), (2, .x (.int .i64 q))] [.sl 1 3 1 (ivs zs)] = vgo W ⟨h54, [.tmp 0], 0⟩ ks (VFr.of [(1, .own 0 [])]) [.sl 1 3 1 (ivs (zs ++ szN n q))]
 | 0, q, zs, hq, hq2, hz, ks => by
   rw [szN, List.append_nil, sb5 c54L0.eq_def]
   simp (disch := first | omega | fail) only [push_cast, seval, ui5, lu7, y81, bj9, wrap64, dec_lt, cw6, nl2, qc6, mr8, nb8, if_pos, if_neg]
 | n + 1, q, zs, hq, hq2, hz, ks => by
   have hle : (q : Int) ≤ 64 := by omega
   cases hs : fldN q with
   | none =>
     have ho := wd5 (n := q) hq2 (by omega) hs
     have ep := fh8 (q := (q : Int)) (by omega) ho
     have ih := jl0 n (q + 1) zs (by omega) (by omega) (by omega) ks
     have hw : zs ++ szN (n + 1) q = zs ++ szN n (q + 1) := by rw [szN, hs]; rfl
     rw [Int.natCast_add, Int.natCast_one] at ih
     rw [hw, ← ih, sb5 c54L0.eq_def]
     simp (disch := first | omega | fail) only [push_cast, seval, ui5, lu7, y81, bj9, wrap64, dec_lt, cw6, nl2, qc6, mr8, nb8, if_pos, if_neg, ep, decide_false, Int.lt_irrefl]
   | some x =>
     obtain ⟨p, m, g, mod⟩ := x
     obtain ⟨hf, ho, _⟩ := hi9 hs
     have hp2 := hf.p2
     have hpp : 0 < p := by omega
     have ep := fh8 (q := (q : Int)) (by omega) ho
     have ih := jl0 n (q + 1) (zs ++ [(q : Int)]) (by omega) (by omega) (by simp; omega) ks
     have hw : zs ++ szN (n + 1) q = zs ++ [(q : Int)] ++ szN n (q + 1) := by rw [szN, hs]; simp
     rw [Int.natCast_add, Int.natCast_one] at ih
     rw [hw, ← ih, sb5 c54L0.eq_def]
     simp (disch := first | omega | fail) only [push_cast, seval, ui5, lu7, y81, bj9, wrap64, dec_lt, cw6, nl2, qc6, mr8, nb8, if_pos, if_neg, ep, dec_lt hpp]
theorem n63 : o25 W 54 [] [] = some (.own 0 [], [.sl 1 3 1 (ivs szL)], []) := by
 have e := fun ks => jl0 63 2 [] rfl (by omega) (by simp) ks
 rw [List.nil_append, show ((2 : Nat) : Int) = 2 from rfl] at e
 simp only [Int.natCast_zero, List.take_zero, List.drop_zero, rp2, lz6, x25, List.map_nil, List.length_nil] at e
 rw [o10 rfl T54 rfl]
 unfold F54 c54
 simp (disch := first | omega | fail) only [push_cast, seval, ui5, lu7, y81, bj9, wrap64, dec_lt, cw6, nl2, qc6, mr8, nb8, if_pos, if_neg]
 rw [e]
 simp (disch := first | omega | fail) only [push_cast, seval, ui5, lu7, y81, bj9, wrap64, dec_lt, cw6, nl2, qc6, mr8, nb8, if_pos, if_neg]
 rfl
theorem hl8 {i : Int} (h0 : 0 ≤ i) (h1 : i < 27) : gi szL i ∈ szL ∧ (ivs szL)[i.toNat]? = some (.v (.int .i64 (gi szL i))) := by
 have hl := pb4
 have h2 := cl0 (l := szL) h0 (by omega)
 refine ⟨?_, h2⟩
 have h3 : i.toNat < szL.length := by omega
 have : gi szL i = szL[i.toNat] := by
  rw [show (ivs szL)[i.toNat]? = some (.v (.int .i64 (szL[i.toNat]))) from by unfold ivs; rw [List.getElem?_map, List.getElem?_eq_getElem h3]; rfl] at h2
  simpa using h2.symm
 rw [this]
 exact List.getElem_mem h3
theorem jx7 (c : Int) (h1 : -9223372036854775808 ≤ c) (h2 : c ≤ 9223372036854775807) : ∃ z, z ∈ szL ∧ o25 W 33 [.x (.int .i64 c)] [] = some (.x (.int .i64 z), [], []) := by
 have e1 := n63
 have hl := pb4
 have e2 := s88 (a := c) (n := 100) h1 h2 (by omega)
 have r1 := h58 (a := c) (n := 100) (by omega)
 generalize pkI c 100 = k at e2 r1
 by_cases hk : k < 60
 ·have r2 : 0 ≤ k.tmod 7 ∧ k.tmod 7 < 7 := ⟨Int.tmod_nonneg _ r1.1, Int.tmod_lt_of_pos _ (by decide)⟩
  have a1 := hl8 (i := k.tmod 7) r2.1 (by omega)
  refine ⟨_, a1.1, ?_⟩
  have a2 := a1.2
  rw [o10 rfl T33 rfl]
  unfold F33 c33
  simp (disch := first | omega | fail) only [push_cast, seval, ui5, lu7, y81, bj9, wrap64, dec_lt, cw6, nl2, qc6, mr8, nb8, if_pos, if_neg, e1, e2, hl, a2]
 ·have r3 : -9223372036854775808 ≤ c.tdiv 100 ∧ c.tdiv 100 ≤ 9223372036854775807 := by
   rcases Int.le_total 0 c with h | h
   ·rw [Int.tdiv_eq_ediv_of_nonneg h]; omega
   ·have : c.tdiv 100 = -((-c).tdiv 100) := by rw [Int.neg_tdiv, Int.neg_neg]
    rw [this, Int.tdiv_eq_ediv_of_nonneg (by omega)]; omega
  have e3 := s88 (a := c.tdiv 100) (n := 27) r3.1 r3.2 (by omega)
  have r4 := h58 (a := c.tdiv 100) (n := 27) (by omega)
  have a1 := hl8 (i := pkI (c.tdiv 100) 27) r4.1 r4.2
  refine ⟨_, a1.1, ?_⟩
  have a2 := a1.2
  rw [o10 rfl T33 rfl]
  unfold F33 c33
  simp (disch := first | omega | fail) only [push_cast, seval, ui5, lu7, y81, bj9, wrap64, dec_lt, cw6, nl2, qc6, mr8, nb8, if_pos, if_neg, e1, e2, hl, e3, a2]
end Go.Proofs.Ytghfdpdiibiigaa
namespace Go.Proofs.Ytghfdpdiibiigaa
open Go.Am Go.Vm Go.Alg
section
variable {l : List Int} {nl : Nat} {b : Bool} {x : Int}
end
end Go.Proofs.Ytghfdpdiibiigaa
namespace Go.Alg
section
variable {K : Type} [FK K]
theorem y46 {α β : Type} (f : α × β → K) : ∀ (l : List α) (l' : List β), l.length = l'.length → ∀ l2 l2', sumL ((l ++ l2).zip (l' ++ l2')) f = sumL (l.zip l') f + sumL (l2.zip l2') f := fun l l' h l2 l2' => by
 rw [List.zip_append h, up0]
theorem uj4 {α β γ : Type} (g : β → γ) (f : α × γ → K) : ∀ (l : List α) (l' : List β), sumL (l.zip (l'.map g)) f = sumL (l.zip l') (fun p => f (p.1, g p.2))
 | [], _ => rfl
 | _ :: _, [] => rfl
 | a :: l, b :: l' => by rw [List.map_cons, List.zip_cons_cons, List.zip_cons_cons, gb6, gb6, uj4 g f l l']
theorem hom : ∀ (r : Nat) (S : List (Nat → K)), r < S.length → ∃ y : List K, y.length = S.length ∧ (∃ a ∈ y, a ≠ 0) ∧ ∀ j, j < r → sumL (y.zip S) (fun p => p.1 * p.2 j) = 0
 | 0, S, h => by
   refine ⟨List.replicate S.length 1, List.length_replicate, ⟨1, List.mem_replicate.2 ⟨by omega, rfl⟩, ki7⟩, fun j hj => absurd hj (Nat.not_lt_zero j)⟩
 | r + 1, S, h => by
   by_cases hs : ∃ s ∈ S, s r ≠ 0
   ·obtain ⟨s, hs, hne⟩ := hs
    obtain ⟨S1, S2, rfl⟩ := List.append_of_mem hs
    have hl : r < ((S1 ++ S2).map (fun (t : Nat → K) j => t j - t r * FK.inv (s r) * s j)).length := by
     simp only [List.length_map, List.length_append, List.length_cons] at h ⊢; omega
    obtain ⟨y, y1, ⟨a, y2, y3⟩, y4⟩ := hom r _ hl
    rw [List.length_map, List.length_append] at y1
    have hsp : y = y.take S1.length ++ y.drop S1.length := (List.take_append_drop _ _).symm
    have h1 : (y.take S1.length).length = S1.length := by rw [List.length_take]; omega
    have h2 : (y.drop S1.length).length = S2.length := by rw [List.length_drop]; omega
    generalize y.take S1.length = u at hsp h1
    generalize y.drop S1.length = w at hsp h2
    subst hsp
    have hsum : ∀ (c : K) j, sumL ((u ++ c :: w).zip (S1 ++ s :: S2)) (fun p => p.1 * p.2 j) = sumL ((u ++ w).zip (S1 ++ S2)) (fun p => p.1 * p.2 j) + c * s j := fun c j => by
     rw [y46 _ _ _ h1, y46 _ _ _ h1, List.zip_cons_cons, gb6, FK.add_assoc, FK.add_comm (sumL (w.zip S2) _)]
    refine ⟨u ++ -(sumL ((u ++ w).zip (S1 ++ S2)) (fun p => p.1 * p.2 r) * FK.inv (s r)) :: w, ?_, ⟨a, ?_, y3⟩, fun j hj => ?_⟩
    ·simp only [List.length_append, List.length_cons, h1, h2]
    ·simp only [List.mem_append, List.mem_cons] at y2 ⊢
     rcases y2 with y2 | y2
     ·exact .inl y2
     ·exact .inr (.inr y2)
    ·rw [hsum]
     by_cases hjr : j = r
     ·subst hjr
      rw [neg_mul, FK.mul_assoc, inv_mul hne, FK.mul_one, FK.add_neg]
     ·have h3 := y4 j (by omega)
      rw [uj4] at h3
      have h4 : sumL ((u ++ w).zip (S1 ++ S2)) (fun p => p.1 * (p.2 j - p.2 r * FK.inv (s r) * s j)) = sumL ((u ++ w).zip (S1 ++ S2)) (fun p => p.1 * p.2 j) - sumL ((u ++ w).zip (S1 ++ S2)) (fun p => p.1 * p.2 r) * FK.inv (s r) * s j := by
       rw [← ue3, ← ue3, ← b15]
       refine ox7 fun p _ => ?_
       rw [mul_sub, ← FK.mul_assoc, ← FK.mul_assoc]
      have h3 : sumL ((u ++ w).zip (S1 ++ S2)) (fun p => p.1 * (p.2 j - p.2 r * FK.inv (s r) * s j)) = 0 := h3
      rw [h4] at h3
      rw [neg_mul, ← sub_eq, h3]
   ·obtain ⟨y, y1, y2, y3⟩ := hom r S (by omega)
    refine ⟨y, y1, y2, fun j hj => ?_⟩
    by_cases hjr : j = r
    ·subst hjr
     refine tx6 fun p hp => ?_
     have : p.2 j = 0 := Classical.byContradiction fun hne => hs ⟨p.2, (List.of_mem_zip hp).2, hne⟩
     rw [this, mul_zero]
    ·exact y3 j (by omega)
end
section
variable {K : Type} [FK K] {n : Nat}
section
variable {A : List (Nat × List K)} (hr : Rref n (toF A))
include hr
end
end
end Go.Alg
namespace Go.Alg
section
variable {K : Type} [FK K]
open Classical in
end
end Go.Alg
namespace Go.Alg
section
variable {K : Type} [FK K] {n : Nat}
end
end Go.Alg
namespace Go.Alg
section
variable {K : Type} [FK K]
end
end Go.Alg
namespace Go.Proofs.Ytghfdpdiibiigaa
open Go.Am Go.Vm Go.Alg
theorem hg9 {q : Int} [h : IsFld q] {b : Bool} {R : Rts} : wb3 R 1 (.fz b (pF q)) = some false := by
 obtain ⟨p, m, g, mod, hn⟩ := h.ok
 unfold pF; rw [hn]; rfl
theorem oe1 {q : Int} [h : IsFld q] : 2 ≤ fch q := by
 obtain ⟨p, m, g, mod, hn⟩ := h.ok
 obtain ⟨h2, _⟩ := ug0 hn
 rw [(y65 hn).1]
 exact ((hi9 hn).1).p2
theorem vr7 {c : Int} (h1 : -9223372036854775808 ≤ c) (h2 : c ≤ 9223372036854775807) : ∃ z, z ∈ szL ∧ o25 W 19 [.x (.int .i64 c)] [] = some (.fz true (pF z), [], []) := by
 obtain ⟨z, hz, e0⟩ := jx7 c h1 h2
 obtain ⟨z1, z2, hfz⟩ := x14 hz
 haveI := hfz
 have hc := oe1 (q := z)
 refine ⟨z, hz, ?_⟩
 rw [o10 rfl T19 rfl]
 unfold F19 c19
 simp (disch := first | omega | fail) only [push_cast, seval, ui5, lu7, y81, bj9, wrap64, dec_lt, cw6, nl2, qc6, mr8, nb8, if_pos, if_neg, e0, hg9]
section
variable {raw : List Int} {b : Bool} {nl : Nat}
end
section
variable {a c : List Int} {b b' : Bool} {nl nl' : Nat}
end
end Go.Proofs.Ytghfdpdiibiigaa
namespace Go.Alg
section
variable {K : Type} [FK K]
def dsT (C s : List K) (i : Nat) : Nat → Nat → K → K
 | 0, k, v => v
 | n + 1, k, v => dsT C s i n (k + 1) (if k ≤ i then v + wf C k * wf s (i - k) else v)
theorem h72 (C s : List K) (i : Nat) : ∀ (n k : Nat) (v : K), v = sumN k (fun j => if j ≤ i then wf C j * wf s (i - j) else 0) → dsT C s i n k v = sumN (k + n) fun j => if j ≤ i then wf C j * wf s (i - j) else 0
 | 0, k, v, h => h
 | n + 1, k, v, h => by
   rw [dsT, h72 C s i n (k + 1) _ ?_, show k + 1 + n = k + (n + 1) by omega]
   rw [cp9, ← h]
   split
   ·rfl
   ·rw [FK.add_zero]
theorem a37 (C s : List K) (i : Nat) : dsT C s i C.length 0 0 = disc (wf C) (wf s) i := by
 rw [h72 C s i _ _ _ (by rfl), Nat.zero_add]
 have h1 : sumN (max C.length (i + 1)) (fun j => if j ≤ i then wf C j * wf s (i - j) else 0) = sumN C.length (fun j => if j ≤ i then wf C j * wf s (i - j) else 0) :=
  jq8 (Nat.le_max_left _ _) fun k h1 h2 => by rw [ez8 (by omega), zero_mul]; split <;> rfl
 have h2 : sumN (max C.length (i + 1)) (fun j => if j ≤ i then wf C j * wf s (i - j) else 0) = sumN (i + 1) (fun j => if j ≤ i then wf C j * wf s (i - j) else 0) :=
  jq8 (Nat.le_max_right _ _) fun k h1 h2 => if_neg (by omega)
 rw [← h1, h2]
 exact rc1 fun k hk => if_pos (by omega)
def scT (c : K) : Nat → Nat → List K → List K
 | 0, k, z => z
 | n + 1, k, z => scT c n (k + 1) (z.set k (wf z k * c))
theorem m70 (c : K) : ∀ (n k : Nat) (z : List K), k + n = z.length → scT c n k z = z.take k ++ (z.drop k).map fun x => x * c
 | 0, k, z, h => by rw [scT, List.drop_of_length_le (by omega), List.take_of_length_le (by omega)]; simp
 | n + 1, k, z, h => by
   have hk : k < z.length := by omega
   rw [scT, m70 c n (k + 1) _ (by rw [List.length_set]; omega)]
   rw [List.take_add_one, List.getElem?_set_self hk, List.take_set_of_le (Nat.le_refl _), List.drop_set_of_lt (Nat.lt_succ_self _), List.drop_eq_getElem_cons hk, List.map_cons, i66 hk]
   simp
theorem ou4 (c : K) (z : List K) : scT c z.length 0 z = z.map fun x => x * c := by
 rw [m70 c _ _ _ (by omega)]; simp
theorem wg3 (g : Nat) (B : List K) : wf (List.replicate g 0 ++ B) = shift g (wf B) := by
 funext k
 rw [nz0, List.length_replicate, m12]
 rfl
structure MasI (s : List K) (i : Nat) (C B : List K) (gap : Nat) (last : K) (L : Nat) : Prop where
 mas : Mas (wf s) i (wf C) (wf B) gap last L
 tC : Trm C
 lB : gap + B.length ≤ i + 2
 nB : B ≠ []
 gp : 0 < gap
theorem MasI.lC {s : List K} {i : Nat} {C B : List K} {gap : Nat} {last : K} {L : Nat} (h : MasI s i C B gap last L) : C.length ≤ L + 1 := kf6 h.tC fun k hk => h.mas.rule.end' k (by omega)
theorem MasI.nC {s : List K} {i : Nat} {C B : List K} {gap : Nat} {last : K} {L : Nat} (h : MasI s i C B gap last L) : C ≠ [] := by
 rintro rfl
 exact ki7 h.mas.rule.one.symm
theorem MasI.start (s : List K) : MasI s 0 [1] [1] 1 1 0 :=
 ⟨Mas.start _ rfl (fun k hk => ez8 (by rw [List.length_singleton]; omega)) (fun k hk => ez8 (by rw [List.length_singleton]; omega)), py3 ki7, by simp, by simp, by omega⟩
theorem MasI.same {s : List K} {i : Nat} {C B : List K} {gap : Nat} {last : K} {L : Nat} (h : MasI s i C B gap last L) (hd : disc (wf C) (wf s) i = 0) : MasI s (i + 1) C B (gap + 1) last L :=
 ⟨h.mas.same hd, h.tC, by have := h.lB; omega, h.nB, by omega⟩
def q77 (C B : List K) (gap : Nat) (c : K) : List K := addK C ((List.replicate gap 0 ++ B).map fun x => x * c)
theorem r97 (C B : List K) (gap : Nat) (c : K) : wf (q77 C B gap c) = fun k => wf C k + c * shift gap (wf B) k := by
 unfold q77
 rw [w62]
 funext k
 rw [qm4 (f := fun x => x * c) (zero_mul c), wg3, FK.mul_comm]
theorem MasI.turn {s : List K} {i : Nat} {C B : List K} {gap : Nat} {last : K} {L : Nat} (h : MasI s i C B gap last L) (hd : disc (wf C) (wf s) i ≠ 0) :
 if 2 * L ≤ i then MasI s (i + 1) (q77 C B gap (-(disc (wf C) (wf s) i * FK.inv last))) C 1 (disc (wf C) (wf s) i) (i + 1 - L) else MasI s (i + 1) (q77 C B gap (-(disc (wf C) (wf s) i * FK.inv last))) B (gap + 1) last L := by
 have hm := h.mas.turn hd (N := wf (q77 C B gap (-(disc (wf C) (wf s) i * FK.inv last)))) fun k => by rw [r97]
 have hlB := h.lB
 have hlC := h.lC
 split
 ·rename_i h2
  rw [if_pos h2] at hm
  exact ⟨hm, y42 _ _, by omega, h.nC, by omega⟩
 ·rename_i h2
  rw [if_neg h2] at hm
  exact ⟨hm, y42 _ _, by omega, h.nB, by omega⟩
def gy8 (c : List K) : Nat → K
 | 0 => 1
 | k + 1 => -wf c k
def tv9 (c s : List K) : Prop := ∀ j, c.length ≤ j → j < s.length → wf s j = sumN c.length fun k => wf c k * wf s (j - 1 - k)
theorem h63 (c s : List K) {j : Nat} (hj : c.length ≤ j) : disc (gy8 c) (wf s) j = wf s j + -(sumN c.length fun k => wf c k * wf s (j - 1 - k)) := by
 rw [ux7 (L := c.length) (fun k hk => by
  obtain ⟨k, rfl⟩ : ∃ k', k = k' + 1 := ⟨k - 1, by omega⟩
  show -wf c k = 0
  rw [ez8 (by omega), neg_zero]) hj, show c.length + 1 = 1 + c.length by omega, d17, ← z09]
 congr 1
 ·show sumN (0 + 1) _ = _
  rw [cp9, wr8, zero_add, Nat.sub_zero]
  exact one_mul _
 ·refine rc1 fun k _ => ?_
  rw [Nat.add_comm 1 k, show j - (k + 1) = j - 1 - k by omega]
  exact neg_mul _ _
theorem tv9.rule {c s : List K} (h : tv9 c s) : Rule (wf s) (gy8 c) c.length s.length := by
 refine ⟨rfl, fun k hk => ?_, fun j h1 h2 => ?_⟩
 ·obtain ⟨k, rfl⟩ : ∃ k', k = k' + 1 := ⟨k - 1, by omega⟩
  show -wf c k = 0
  rw [ez8 (by omega), neg_zero]
 ·rw [h63 c s h1, ← h j h1 h2, FK.add_neg]
theorem Rule.congr {s s' C : Nat → K} {L n : Nat} (h : Rule s C L n) (e : ∀ k, k < n → s k = s' k) : Rule s' C L n :=
 ⟨h.one, h.end', fun j h1 h2 => by
   rw [← h.holds j h1 h2]
   exact rc1 fun k hk => by rw [e _ (by omega)]⟩
theorem hp4 {c s C : List K} {L m : Nat} (h : tv9 c s) (hr : Rule (wf s) (wf C) L m) (hm : 2 * c.length ≤ m) (hL : L ≤ c.length) : ∀ d, m + d ≤ s.length → Rule (wf s) (wf C) L (m + d)
 | 0, _ => hr
 | d + 1, hd => by
   have ih := hp4 h hr hm hL d (by omega)
   refine ⟨ih.one, ih.end', fun j h1 h2 => ?_⟩
   by_cases hj : j < m + d
   ·exact ih.holds j h1 hj
   ·obtain rfl : j = m + d := by omega
    refine Classical.byContradiction fun hne => ?_
    have := hv6 ih hne (h.rule.less (by omega))
    omega
def nxT (C s : List K) (i : Nat) : Nat → Nat → K → K
 | 0, k, v => v
 | n + 1, k, v => nxT C s i n (k + 1) (v + -(wf C k * wf s (i - k)))
theorem p51 (C s : List K) (i : Nat) : ∀ (n k : Nat) (v : K), nxT C s i n k v = v + -(sumN n fun j => wf C (k + j) * wf s (i - (k + j)))
 | 0, k, v => by rw [nxT, wr8, neg_zero, FK.add_zero]
 | n + 1, k, v => by
   rw [nxT, p51 C s i n, FK.add_assoc, Nat.add_comm n 1, d17, show sumN 1 (fun j => wf C (k + j) * wf s (i - (k + j))) = wf C k * wf s (i - k) by
    show sumN (0 + 1) _ = _
    rw [cp9, wr8, zero_add, Nat.add_zero], tp9]
   congr 3
   exact rc1 fun j _ => by rw [show k + 1 + j = k + (1 + j) by omega]
theorem r47 {C s : List K} {L i : Nat} (h1 : wf C 0 = 1) (hC : C.length ≤ L + 1) (hi : L ≤ i) (h : disc (wf C) (wf s) i = 0) : nxT C s i (C.length - 1) 1 0 = wf s i := by
 have hc : C.length ≠ 0 := fun e => ki7 (by rw [← h1, ez8 (by omega)])
 rw [p51, zero_add]
 unfold disc at h
 rw [jq8 (m := C.length) (by omega) fun k a b => by rw [ez8 (by omega), zero_mul], show C.length = 1 + (C.length - 1) by omega, d17] at h
 rw [show sumN 1 (fun k => wf C k * wf s (i - k)) = wf s i by
  show sumN (0 + 1) _ = _
  rw [cp9, wr8, zero_add, h1, Nat.sub_zero, one_mul], FK.add_comm] at h
 rw [← ut3 h]
end
end Go.Alg
namespace Go.Proofs.Ytghfdpdiibiigaa
open Go.Am Go.Vm Go.Alg
theorem ef8 {α : Type} {l : List α} (h : l ≠ []) : nlT l = 0 := by
 cases l with
 | nil => exact absurd rfl h
 | cons a l => rfl
section
variable {q : Int} [IsFld q] {b : Bool} {nl : Nat} {s : List (El q)}
theorem h02 {C : List (El q)} {i : Nat} (hs : s.length ≤ 1000) (hi : i < s.length) (hC : C.length ≤ 1000) {T : Tree} {L g l : Int} : ∀ (n k : Nat) (v : El q), k + n = C.length → ∀ ks,
 vgoL W ⟨h38, [.tmp 4, .tmp 5, .tmp 6], 0⟩ [0, 1, 4, 5, 8, 10, 11, 12, 13, 14, 36, 37, 40, 41, 42] c38L0 (.blk 2 [0, 1, 4, 5, 8, 10, 11, 12, 13, 14, 36, 37] :: ks) [(0, .x (.int .i64 q)), (1, .fz b (.sl nl 0 1 (ivs (vs s)))), (4, .own 0 []), (5, .x (.int .i64 L)), (8, .fz true (pF q)), (10, .own 1 []), (11, .x (.int .i64 g)), (12, .x (.int .i64 l)), (13, .x (.int .i64 i)), (14, .x (.int .i64 v.v)), (36, .x (.int .i64 s.length)), (37, .x (.int .i64 i)), (40, .own 0 []), (41, .x (.int .i64 C.length)), (42, .x (.int .i64 k))] [.sl 0 3 1 (ivs (vs C)), T] =
  vgo W ⟨h38, [.tmp 4, .tmp 5, .tmp 6], 0⟩ ks (VFr.of [(0, .x (.int .i64 q)), (1, .fz b (.sl nl 0 1 (ivs (vs s)))), (4, .own 0 []), (5, .x (.int .i64 L)), (8, .fz true (pF q)), (10, .own 1 []), (11, .x (.int .i64 g)), (12, .x (.int .i64 l)), (13, .x (.int .i64 i)), (14, .x (.int .i64 ((dsT C s i n k v).v))), (36, .x (.int .i64 s.length)), (37, .x (.int .i64 i))]) [.sl 0 3 1 (ivs (vs C)), T]
 | 0, k, v, hk, ks => by
   rw [dsT, sb5 c38L0.eq_def]
   simp (disch := first | omega | fail) only [push_cast, seval, ui5, lu7, y81, bj9, wrap64, dec_lt, cw6, nl2, qc6, mr8, nb8, if_pos, if_neg]
 | n + 1, k, v, hk, ks => by
   have ih := h02 hs hi hC (T := T) (L := L) (g := g) (l := l) n (k + 1) (if k ≤ i then v + wf C k * wf s (i - k) else v) (by omega) ks
   have h1 := iva (l := C) (i := k) (by omega)
   rw [Int.natCast_add, Int.natCast_one] at ih
   rw [dsT, ← ih, sb5 c38L0.eq_def]
   by_cases hki : k ≤ i
   ·have w1 : IntKind.wrap .i64 ((i : Int) - (k : Int)) = ((i - k : Nat) : Int) := by rw [wrap64 (by omega) (by omega)]; omega
    have hj : i - k < s.length := by omega
    have h2 := iva (l := s) hj
    rw [if_pos hki, on0, ym6]
    generalize i - k = j at *
    simp (disch := first | omega | fail) only [push_cast, seval, ui5, lu7, y81, bj9, wrap64, dec_lt, cw6, nl2, qc6, mr8, nb8, if_pos, if_neg, h1, h2, w1]
   ·rw [if_neg hki]
    simp (disch := first | omega | fail) only [push_cast, seval, ui5, lu7, y81, bj9, wrap64, dec_lt, cw6, nl2, qc6, mr8, nb8, if_pos, if_neg, h1]
theorem ec3 {c : El q} (hs : s.length ≤ 1000) {T0 T1 : Tree} {L g l d : Int} {i : Nat} : ∀ (n k : Nat) (z : List (El q)), k + n = z.length → z.length ≤ 1000 → ∀ ks,
 vgoL W ⟨h38, [.tmp 4, .tmp 5, .tmp 6], 0⟩ [0, 1, 4, 5, 8, 10, 11, 12, 13, 14, 17, 18, 36, 37, 80, 81] c38L1 (.blk 4 [0, 1, 4, 5, 8, 10, 11, 12, 13, 14, 17, 36, 37] :: ks) [(0, .x (.int .i64 q)), (1, .fz b (.sl nl 0 1 (ivs (vs s)))), (4, .own 0 []), (5, .x (.int .i64 L)), (8, .fz true (pF q)), (10, .own 1 []), (11, .x (.int .i64 g)), (12, .x (.int .i64 l)), (13, .x (.int .i64 i)), (14, .x (.int .i64 d)), (17, .own 2 []), (18, .x (.int .i64 c.v)), (36, .x (.int .i64 s.length)), (37, .x (.int .i64 i)), (80, .x (.int .i64 z.length)), (81, .x (.int .i64 k))] [T0, T1, .sl 0 3 1 (ivs (vs z))] =
  vgo W ⟨h38, [.tmp 4, .tmp 5, .tmp 6], 0⟩ ks (VFr.of [(0, .x (.int .i64 q)), (1, .fz b (.sl nl 0 1 (ivs (vs s)))), (4, .own 0 []), (5, .x (.int .i64 L)), (8, .fz true (pF q)), (10, .own 1 []), (11, .x (.int .i64 g)), (12, .x (.int .i64 l)), (13, .x (.int .i64 i)), (14, .x (.int .i64 d)), (17, .own 2 []), (36, .x (.int .i64 s.length)), (37, .x (.int .i64 i))]) [T0, T1, .sl 0 3 1 (ivs (vs (scT c n k z)))]
 | 0, k, z, hk, hz, ks => by
   rw [scT, sb5 c38L1.eq_def]
   simp (disch := first | omega | fail) only [push_cast, seval, ui5, lu7, y81, bj9, wrap64, dec_lt, cw6, nl2, qc6, mr8, nb8, if_pos, if_neg]
 | n + 1, k, z, hk, hz, ks => by
   have ih := ec3 (c := c) hs (T0 := T0) (T1 := T1) (L := L) (g := g) (l := l) (d := d) (i := i) n (k + 1) (z.set k (wf z k * c)) (by rw [List.length_set]; omega) (by rw [List.length_set]; omega) ks
   have h1 := iva (l := z) (i := k) (by omega)
   rw [Int.natCast_add, Int.natCast_one, ← g52, ym6, List.length_set] at ih
   rw [scT, ← ih, sb5 c38L1.eq_def]
   simp (disch := first | omega | fail) only [push_cast, seval, ui5, lu7, y81, bj9, wrap64, dec_lt, cw6, nl2, qc6, mr8, nb8, if_pos, if_neg, h1]
theorem ve9 (hs : s.length ≤ 100) : ∀ (n i : Nat) (C B : List (El q)) (gap : Nat) (last : El q) (L : Nat), i + n = s.length → MasI s i C B gap last L → ∃ (C' B' : List (El q)) (gap' : Nat) (last' : El q) (L' : Nat), MasI s s.length C' B' gap' last' L' ∧ ∀ (b : Bool) (nl : Nat), ∀ ks,
 vgoL W ⟨h38, [.tmp 4, .tmp 5, .tmp 6], 0⟩ [0, 1, 4, 5, 8, 10, 11, 12, 36, 37] c38L2 (.blk 0 [4, 5] :: ks) [(0, .x (.int .i64 q)), (1, .fz b (.sl nl 0 1 (ivs (vs s)))), (4, .own 0 []), (5, .x (.int .i64 L)), (8, .fz true (pF q)), (10, .own 1 []), (11, .x (.int .i64 gap)), (12, .x (.int .i64 last.v)), (36, .x (.int .i64 s.length)), (37, .x (.int .i64 i))] [.sl 0 3 1 (ivs (vs C)), .sl 0 3 1 (ivs (vs B))] =
  vgo W ⟨h38, [.tmp 4, .tmp 5, .tmp 6], 0⟩ ks (VFr.of [(4, .own 0 []), (5, .x (.int .i64 L'))]) [.sl 0 3 1 (ivs (vs C')), .sl 0 3 1 (ivs (vs B'))]
 | 0, i, C, B, gap, last, L, hi, h => by
   obtain rfl : i = s.length := by omega
   refine ⟨C, B, gap, last, L, h, fun b nl ks => ?_⟩
   rw [sb5 c38L2.eq_def]
   simp (disch := first | omega | fail) only [push_cast, seval, ui5, lu7, y81, bj9, wrap64, dec_lt, cw6, nl2, qc6, mr8, nb8, if_pos, if_neg]
 | n + 1, i, C, B, gap, last, L, hi, h => by
   have hlC := h.lC
   have hlB := h.lB
   have hLi := h.mas.le
   have hgp := h.gp
   have e1 := fun b nl T L g l ks => h02 (b := b) (nl := nl) (s := s) (C := C) (i := i) (by omega) (by omega) (by omega) (T := T) (L := L) (g := g) (l := l) C.length 0 0 (by omega) ks
   rw [a37] at e1
   by_cases hd : disc (wf C) (wf s) i = 0
   ·obtain ⟨C', B', gap', last', L', h1, h2⟩ := ve9 hs n (i + 1) C B (gap + 1) last L (by omega) (h.same hd)
    refine ⟨C', B', gap', last', L', h1, fun b nl ks => ?_⟩
    have ih := h2 b nl ks
    rw [hd, hc8] at e1
    rw [Int.natCast_add, Int.natCast_one, Int.natCast_add, Int.natCast_one] at ih
    simp only [Int.natCast_zero, List.take_zero, List.drop_zero, rp2, lz6, x25, List.map_nil, List.length_nil] at e1
    rw [← ih, sb5 c38L2.eq_def]
    simp (disch := first | omega | fail) only [push_cast, seval, ui5, lu7, y81, bj9, wrap64, dec_lt, cw6, nl2, qc6, mr8, nb8, if_pos, if_neg]
    rw [e1]
    simp (disch := first | omega | fail) only [push_cast, seval, ui5, lu7, y81, bj9, wrap64, dec_lt, cw6, nl2, qc6, mr8, nb8, if_pos, if_neg]
   ·have hdv : ¬ (disc (wf C) (wf s) i).v = 0 := fun e => hd (El.ext' e)
    have hinv := rl7 h.mas.ne
    have b1 : gap + B.length ≤ 128 := by omega
    have b2 : C.length ≤ 128 := by omega
    have b3 : i ≤ 100 := by omega
    have hn : i + 1 + n = s.length := by omega
    have ht := h.turn hd
    obtain ⟨D, hD⟩ : ∃ D, disc (wf C) (wf s) i = D := ⟨_, rfl⟩
    rw [hD, hc8] at e1
    rw [hD] at hdv ht
    obtain ⟨c, hc⟩ : ∃ c, -(D * FK.inv last) = c := ⟨_, rfl⟩
    have hcv : fneg q (fmul q D.v (finv q last.v)) = c.v := by rw [← hc, ← hinv]; rfl
    rw [hc] at ht
    obtain ⟨N, hN⟩ : ∃ N, q77 C B gap c = N := ⟨_, rfl⟩
    rw [hN] at ht
    have hNn : N ≠ [] := by
     by_cases h2 : 2 * L ≤ i
     ·rw [if_pos h2] at ht; exact ht.nC
     ·rw [if_neg h2] at ht; exact ht.nC
    obtain ⟨Z, hZ⟩ : ∃ Z : List (El q), List.replicate gap 0 ++ B = Z := ⟨_, rfl⟩
    have hzl : Z.length = gap + B.length := by rw [← hZ]; simp
    have hzv : ivs (List.replicate gap (0 : Int)) ++ ivs (vs B) = ivs (vs Z) := by
     rw [← hZ, gq8, ← qj2, hc8]; unfold ivs; rw [List.map_append]
    have e2 := fun b nl T0 T1 L g l d ks => ec3 (b := b) (nl := nl) (s := s) (c := c) (Nat.le_trans hs (by decide)) (T0 := T0) (T1 := T1) (L := L) (g := g) (l := l) (d := d) (i := i) Z.length 0 Z (Nat.zero_add _) (by rw [hzl]; exact Nat.le_trans b1 (by decide)) ks
    rw [ou4] at e2
    have e3 := fun b nl b' nl' => wa2 (b := b) (nl := nl) (b' := b') (nl' := nl') (a := C) (c := Z.map fun x => x * c) b2 (by rw [List.length_map, hzl]; exact b1)
    rw [show addK C (Z.map fun x => x * c) = N by rw [← hZ]; exact hN, ef8 hNn] at e3
    clear hN hc hD hNn hinv
    rw [hzl, Int.natCast_add] at e2
    simp only [Int.natCast_zero, List.take_zero, List.drop_zero, rp2, lz6, x25, List.map_nil, List.length_nil] at e1
    simp only [Int.natCast_zero, List.take_zero, List.drop_zero, rp2, lz6, x25, List.map_nil, List.length_nil] at e2
    by_cases h2 : 2 * L ≤ i
    ·rw [if_pos h2] at ht
     obtain ⟨C', B', gap', last', L', h1, h3⟩ := ve9 hs n (i + 1) N C 1 D (i + 1 - L) hn ht
     refine ⟨C', B', gap', last', L', h1, fun b nl ks => ?_⟩
     have ih := h3 b nl ks
     have w1 : IntKind.wrap .i64 ((i : Int) + 1 - (L : Int)) = ((i + 1 - L : Nat) : Int) := by rw [wrap64 (by omega) (by omega)]; omega
     have w2 : IntKind.wrap .i64 (2 * (L : Int)) = 2 * (L : Int) := wrap64 (by omega) (by omega)
     have d2 : decide (2 * (L : Int) ≤ (i : Int)) = true := decide_eq_true (by omega)
     rw [Int.natCast_add, Int.natCast_one] at ih
     rw [← ih, sb5 c38L2.eq_def]
     generalize i + 1 - L = LL at *
     simp (disch := first | omega | fail) only [push_cast, seval, ui5, lu7, y81, bj9, wrap64, dec_lt, cw6, nl2, qc6, mr8, nb8, if_pos, if_neg]
     rw [e1]
     simp (disch := first | omega | fail) only [push_cast, seval, ui5, lu7, y81, bj9, wrap64, dec_lt, cw6, nl2, qc6, mr8, nb8, if_pos, if_neg, hzv, nb8 hdv, hcv, hzl]
     rw [e2]
     simp (disch := first | omega | fail) only [push_cast, seval, ui5, lu7, y81, bj9, wrap64, dec_lt, cw6, nl2, qc6, mr8, nb8, if_pos, if_neg, e3, w1, w2, d2]
    ·rw [if_neg h2] at ht
     obtain ⟨C', B', gap', last', L', h1, h3⟩ := ve9 hs n (i + 1) N B (gap + 1) last L hn ht
     refine ⟨C', B', gap', last', L', h1, fun b nl ks => ?_⟩
     have ih := h3 b nl ks
     have w2 : IntKind.wrap .i64 (2 * (L : Int)) = 2 * (L : Int) := wrap64 (by omega) (by omega)
     have d2 : decide (2 * (L : Int) ≤ (i : Int)) = false := decide_eq_false (by omega)
     rw [Int.natCast_add, Int.natCast_one, Int.natCast_add, Int.natCast_one] at ih
     rw [← ih, sb5 c38L2.eq_def]
     simp (disch := first | omega | fail) only [push_cast, seval, ui5, lu7, y81, bj9, wrap64, dec_lt, cw6, nl2, qc6, mr8, nb8, if_pos, if_neg]
     rw [e1]
     simp (disch := first | omega | fail) only [push_cast, seval, ui5, lu7, y81, bj9, wrap64, dec_lt, cw6, nl2, qc6, mr8, nb8, if_pos, if_neg, hzv, nb8 hdv, hcv, hzl]
     rw [e2]
     simp (disch := first | omega | fail) only [push_cast, seval, ui5, lu7, y81, bj9, wrap64, dec_lt, cw6, nl2, qc6, mr8, nb8, if_pos, if_neg, e3, w2, d2]
theorem yk2 (hs : s.length ≤ 100) : ∃ (C B : List (El q)) (gap : Nat) (last : El q) (L : Nat), MasI s s.length C B gap last L ∧ ∀ (b : Bool) (nl : Nat), o25 W 38 [.x (.int .i64 q), .fz b (.sl nl 0 1 (ivs (vs s)))] [] = some (.tup [.own 0 [], .x (.int .i64 L), .x (.int .i64 0)], [.sl 0 3 1 (ivs (vs C))], []) := by
 obtain ⟨C, B, gap, last, L, h1, h2⟩ := ve9 (q := q) (s := s) hs s.length 0 [1] [1] 1 1 0 (Nat.zero_add _) (MasI.start s)
 refine ⟨C, B, gap, last, L, h1, fun b nl => ?_⟩
 have e1 := fun b nl => bw7 (q := q) (b := b) (nl := nl) (l := vs s) (by rw [fi2]; omega)
 simp only [i31 (show s.length ≤ 128 by omega)] at e1
 have hv1 : ivs (vs [(1 : El q)]) = [Tree.v (.int .i64 1)] := rfl
 simp only [hv1, wh3, Int.natCast_zero, Int.natCast_one] at h2
 rw [o10 rfl T38 rfl]
 unfold F38 c38
 simp (disch := first | omega | fail) only [push_cast, seval, ui5, lu7, y81, bj9, wrap64, dec_lt, cw6, nl2, qc6, mr8, nb8, if_pos, if_neg, e1]
 rw [h2]
 simp (disch := first | omega | fail) only [push_cast, seval, ui5, lu7, y81, bj9, wrap64, dec_lt, cw6, nl2, qc6, mr8, nb8, if_pos, if_neg]
end
end Go.Proofs.Ytghfdpdiibiigaa
namespace Go.Proofs.Ytghfdpdiibiigaa
open Go.Am Go.Vm Go.Alg
section
variable {K : Type} [FK K]
def snT (f : Nat → K) : Nat → Nat → K → K
 | 0, k, v => v
 | n + 1, k, v => snT f n (k + 1) (v + f k)
theorem in3 (f : Nat → K) : ∀ (n k : Nat), snT f n k (sumN k f) = sumN (k + n) f
 | 0, k => rfl
 | n + 1, k => by rw [snT, ← cp9, in3 f n (k + 1), show k + 1 + n = k + (n + 1) by omega]
theorem wj8 {c s : List K} (h : tv9 c s) : tv9 c (s ++ [sumN c.length fun k => wf c k * wf s (s.length - 1 - k)]) := by
 have hw : ∀ j, j < s.length → ∀ x : K, wf (s ++ [x]) j = wf s j := fun j hj x => by rw [nz0, if_pos hj]
 intro j h1 h2
 rw [List.length_append, List.length_singleton] at h2
 have hs : ∀ x : K, (sumN c.length fun k => wf c k * wf (s ++ [x]) (j - 1 - k)) = sumN c.length fun k => wf c k * wf s (j - 1 - k) := fun x => rc1 fun k hk => by rw [hw _ (by omega)]
 rw [hs]
 by_cases hj : j < s.length
 ·rw [hw j hj]; exact h j h1 hj
 ·obtain rfl : j = s.length := by omega
  rw [nz0, if_neg (by omega), Nat.sub_self]; rfl
end
section
variable {z : Int} [IsFld z]
theorem qm5 {c s : List (El z)} {i : Nat} {more : Int} {n1 n2 : Nat} (hc : c.length ≤ 5) (hi : i = s.length) (h0 : c.length ≤ i) (hs : s.length ≤ 100) : ∀ (n k : Nat) (v : El z), k + n = c.length → ∀ ks,
 vgoL W ⟨hNo, [.tmp 8], 0⟩ [2, 3, 9, 10, 11, 12, 13, 14] c6L0 (.blk 2 [2, 3, 9, 10, 11, 12, 13] :: ks) [(2, .x (.int .i64 c.length)), (3, .x (.int .i64 more)), (9, .fz true (pF z)), (10, .own 0 []), (11, .own 1 []), (12, .x (.int .i64 i)), (13, .x (.int .i64 v.v)), (14, .x (.int .i64 k))] [.sl n1 3 1 (ivs (vs c)), .sl n2 3 1 (ivs (vs s))] =
  vgo W ⟨hNo, [.tmp 8], 0⟩ ks (VFr.of [(2, .x (.int .i64 c.length)), (3, .x (.int .i64 more)), (9, .fz true (pF z)), (10, .own 0 []), (11, .own 1 []), (12, .x (.int .i64 i)), (13, .x (.int .i64 ((snT (fun k => wf c k * wf s (s.length - 1 - k)) n k v).v)))]) [.sl n1 3 1 (ivs (vs c)), .sl n2 3 1 (ivs (vs s))]
 | 0, k, v, hk, ks => by
   rw [snT, sb5 c6L0.eq_def]
   simp (disch := first | omega | fail) only [push_cast, seval, ui5, lu7, y81, bj9, wrap64, dec_lt, cw6, nl2, qc6, mr8, nb8, if_pos, if_neg]
 | n + 1, k, v, hk, ks => by
   have ih := qm5 (i := i) (more := more) (n1 := n1) (n2 := n2) hc hi h0 hs n (k + 1) (v + wf c k * wf s (s.length - 1 - k)) (by omega) ks
   have h1 := iva (l := c) (i := k) (by omega)
   have hj : s.length - 1 - k < s.length := by omega
   have h2 := iva (l := s) hj
   have w1 : IntKind.wrap .i64 ((i : Int) - 1) = (i : Int) - 1 := wrap64 (by omega) (by omega)
   have w2 : IntKind.wrap .i64 ((i : Int) - 1 - (k : Int)) = ((s.length - 1 - k : Nat) : Int) := by rw [wrap64 (by omega) (by omega)]; omega
   rw [Int.natCast_add, Int.natCast_one, on0, ym6] at ih
   rw [snT, ← ih, sb5 c6L0.eq_def]
   generalize hG : s.length - 1 - k = j at *
   simp (disch := first | omega | fail) only [push_cast, seval, ui5, lu7, y81, bj9, wrap64, dec_lt, cw6, nl2, qc6, mr8, nb8, if_pos, if_neg, h1, h2, w1, w2]
theorem es7 {c : List (El z)} {more : Int} {p T n1 : Nat} (hc : c.length ≤ 5) (hp : pkI more 9 = (p : Int)) (hp8 : p ≤ 8) (m1 : -9223372036854775808 ≤ more) (m2 : more ≤ 9223372036854775807) (hT : T = 2 * c.length + 4 + p) : ∀ (d i : Nat) (s : List (El z)), i + d = T → s.length = i → c.length ≤ i → tv9 c s → ∃ s' : List (El z), s'.length = T ∧ tv9 c s' ∧ ∀ ks,
 vgoL W ⟨hNo, [.tmp 8], 0⟩ [2, 3, 9, 10, 11, 12] c6L1 (.blk 0 [2, 9, 11] :: ks) [(2, .x (.int .i64 c.length)), (3, .x (.int .i64 more)), (9, .fz true (pF z)), (10, .own 0 []), (11, .own 1 []), (12, .x (.int .i64 i))] [.sl n1 3 1 (ivs (vs c)), .sl 1 3 1 (ivs (vs s))] =
  vgo W ⟨hNo, [.tmp 8], 0⟩ ks (VFr.of [(2, .x (.int .i64 c.length)), (9, .fz true (pF z)), (11, .own 1 [])]) [.sl n1 3 1 (ivs (vs c)), .sl 1 3 1 (ivs (vs s'))]
 | 0, i, s, hi, hs, h0, hg => by
   refine ⟨s, by omega, hg, fun ks => ?_⟩
   have e1 := s88 (n := 9) m1 m2 (by omega)
   rw [hp] at e1
   have w1 : IntKind.wrap .i64 (2 * (c.length : Int)) = 2 * (c.length : Int) := wrap64 (by omega) (by omega)
   have w2 : IntKind.wrap .i64 (2 * (c.length : Int) + 4) = 2 * (c.length : Int) + 4 := wrap64 (by omega) (by omega)
   have w3 : IntKind.wrap .i64 (2 * (c.length : Int) + 4 + (p : Int)) = (T : Int) := by rw [wrap64 (by omega) (by omega)]; omega
   obtain rfl : i = T := by omega
   rw [sb5 c6L1.eq_def]
   simp (disch := first | omega | fail) only [push_cast, seval, ui5, lu7, y81, bj9, wrap64, dec_lt, cw6, nl2, qc6, mr8, nb8, if_pos, if_neg, e1, w1, w2, w3]
 | d + 1, i, s, hi, hs, h0, hg => by
   have hg' := wj8 hg
   obtain ⟨x, hx⟩ : ∃ x, (sumN c.length fun k => wf c k * wf s (s.length - 1 - k)) = x := ⟨_, rfl⟩
   have hx2 := in3 (fun k => wf c k * wf s (s.length - 1 - k)) c.length 0
   rw [wr8, Nat.zero_add, hx] at hx2
   rw [hx] at hg'
   obtain ⟨s', h1, h2, h3⟩ := es7 hc hp hp8 m1 m2 hT d (i + 1) (s ++ [x]) (by omega) (by rw [List.length_append, hs]; rfl) (by omega) hg'
   refine ⟨s', h1, h2, fun ks => ?_⟩
   have ih := h3 ks
   have e1 := s88 (n := 9) m1 m2 (by omega)
   rw [hp] at e1
   have w1 : IntKind.wrap .i64 (2 * (c.length : Int)) = 2 * (c.length : Int) := wrap64 (by omega) (by omega)
   have w2 : IntKind.wrap .i64 (2 * (c.length : Int) + 4) = 2 * (c.length : Int) + 4 := wrap64 (by omega) (by omega)
   have w3 : IntKind.wrap .i64 (2 * (c.length : Int) + 4 + (p : Int)) = (T : Int) := by rw [wrap64 (by omega) (by omega)]; omega
   have hlt : i < T := by omega
   have e2 := fun n1 n2 ks => qm5 (more := more) (n1 := n1) (n2 := n2) hc hs.symm h0 (by omega) c.length 0 0 (Nat.zero_add _) ks
   rw [hx2, hc8] at e2
   simp only [Int.natCast_zero] at e2
   rw [Int.natCast_add, Int.natCast_one, gq8, show vs [x] = [x.v] from rfl] at ih
   rw [← ih, sb5 c6L1.eq_def]
   simp (disch := first | omega | fail) only [push_cast, seval, ui5, lu7, y81, bj9, wrap64, dec_lt, cw6, nl2, qc6, mr8, nb8, if_pos, if_neg, e1, w1, w2, w3]
   rw [e2]
   simp (disch := first | omega | fail) only [push_cast, seval, ui5, lu7, y81, bj9, wrap64, dec_lt, cw6, nl2, qc6, mr8, nb8, if_pos, if_neg]
theorem vd9 {C s : List (El z)} {i : Nat} {n1 n2 : Nat} (hC : C.length ≤ i + 1) (hi : i < s.length) (hs : s.length ≤ 100) : ∀ (n k : Nat) (v : El z), k + n = C.length → ∀ ks,
 vgoL W ⟨hNo, [.tmp 8], 0⟩ [9, 11, 16, 19, 20, 21] c6L2 (.blk 6 [9, 11, 16, 19, 20] :: ks) [(9, .fz true (pF z)), (11, .own 0 []), (16, .own 1 []), (19, .x (.int .i64 i)), (20, .x (.int .i64 v.v)), (21, .x (.int .i64 k))] [.sl n1 3 1 (ivs (vs s)), .sl n2 3 1 (ivs (vs C))] =
  vgo W ⟨hNo, [.tmp 8], 0⟩ ks (VFr.of [(9, .fz true (pF z)), (11, .own 0 []), (16, .own 1 []), (19, .x (.int .i64 i)), (20, .x (.int .i64 ((nxT C s i n k v).v)))]) [.sl n1 3 1 (ivs (vs s)), .sl n2 3 1 (ivs (vs C))]
 | 0, k, v, hk, ks => by
   rw [nxT, sb5 c6L2.eq_def]
   simp (disch := first | omega | fail) only [push_cast, seval, ui5, lu7, y81, bj9, wrap64, dec_lt, cw6, nl2, qc6, mr8, nb8, if_pos, if_neg]
 | n + 1, k, v, hk, ks => by
   have ih := vd9 (n1 := n1) (n2 := n2) hC hi hs n (k + 1) (v + -(wf C k * wf s (i - k))) (by omega) ks
   have h1 := iva (l := C) (i := k) (by omega)
   have hj : i - k < s.length := by omega
   have h2 := iva (l := s) hj
   have w1 : IntKind.wrap .i64 ((i : Int) - (k : Int)) = ((i - k : Nat) : Int) := by rw [wrap64 (by omega) (by omega)]; omega
   have hv : (v + -(wf C k * wf s (i - k))).v = fsub z v.v (fmul z (wf C k).v (wf s (i - k)).v) := rfl
   rw [Int.natCast_add, Int.natCast_one, hv] at ih
   rw [nxT, ← ih, sb5 c6L2.eq_def]
   generalize hG : i - k = j at *
   simp (disch := first | omega | fail) only [push_cast, seval, ui5, lu7, y81, bj9, wrap64, dec_lt, cw6, nl2, qc6, mr8, nb8, if_pos, if_neg, h1, h2, w1]
theorem v37 {C s : List (El z)} {L : Nat} {n1 n2 : Nat} (h1 : wf C 0 = 1) (hC : C.length ≤ L + 1) (hs : s.length ≤ 100) : ∀ (d i : Nat), i + d = s.length → L ≤ i → (∀ j, i ≤ j → j < s.length → disc (wf C) (wf s) j = 0) → ∀ ks,
 vgoL W ⟨hNo, [.tmp 8], 0⟩ [9, 11, 16, 19] c6L3 (.blk 4 [] :: ks) [(9, .fz true (pF z)), (11, .own 0 []), (16, .own 1 []), (19, .x (.int .i64 i))] [.sl n1 3 1 (ivs (vs s)), .sl n2 3 1 (ivs (vs C))] =
  vgo W ⟨hNo, [.tmp 8], 0⟩ ks (VFr.of []) [.sl n1 3 1 (ivs (vs s)), .sl n2 3 1 (ivs (vs C))]
 | 0, i, hi, hL, hd, ks => by
   rw [sb5 c6L3.eq_def]
   simp (disch := first | omega | fail) only [push_cast, seval, ui5, lu7, y81, bj9, wrap64, dec_lt, cw6, nl2, qc6, mr8, nb8, if_pos, if_neg]
 | d + 1, i, hi, hL, hd, ks => by
   have ih := v37 (n1 := n1) (n2 := n2) h1 hC hs d (i + 1) (by omega) (by omega) (fun j a c => hd j (by omega) c) ks
   have hc0 : C.length ≠ 0 := fun e => ki7 (by rw [← h1, ez8 (by omega)])
   have e1 := fun n1 n2 ks => vd9 (z := z) (n1 := n1) (n2 := n2) (C := C) (s := s) (i := i) (by omega) (by omega) hs (C.length - 1) 1 0 (by omega) ks
   rw [r47 h1 hC hL (hd i (by omega) (by omega)), hc8] at e1
   simp only [Int.natCast_one] at e1
   have h2 := iva (l := s) (i := i) (by omega)
   rw [Int.natCast_add, Int.natCast_one] at ih
   rw [← ih, sb5 c6L3.eq_def]
   simp (disch := first | omega | fail) only [push_cast, seval, ui5, lu7, y81, bj9, wrap64, dec_lt, cw6, nl2, qc6, mr8, nb8, if_pos, if_neg]
   rw [e1]
   simp (disch := first | omega | fail) only [push_cast, seval, ui5, lu7, y81, bj9, wrap64, dec_lt, cw6, nl2, qc6, mr8, nb8, if_pos, if_neg, h2]
end
theorem fp0 {raw : List Int} {b : Bool} {nl : Nat} (hl : raw.length ≤ 9223372036854775807) {q n more : Int} (q1 : -9223372036854775808 ≤ q) (q2 : q ≤ 9223372036854775807) (n1 : -9223372036854775808 ≤ n) (n2 : n ≤ 9223372036854775807) (k1 : -9223372036854775808 ≤ more) (k2 : more ≤ 9223372036854775807) :
 o25 W 6 [.fz b (.sl nl 0 1 (ivs raw)), .x (.int .i64 q), .x (.int .i64 n), .x (.int .i64 more)] [] = some (.x (.bool true), [], []) := by
 by_cases h256 : 256 < raw.length
 ·rw [o10 rfl T6 rfl]
  unfold F6 c6
  simp (disch := first | omega | fail) only [push_cast, seval, ui5, lu7, y81, bj9, wrap64, dec_lt, cw6, nl2, qc6, mr8, nb8, if_pos, if_neg]
 ·obtain ⟨z, hz, e0⟩ := vr7 q1 q2
  obtain ⟨z1, z2, hfz⟩ := x14 hz
  haveI := hfz
  have p1 := s88 n1 n2 (show (0 : Int) < 6 by omega)
  have hp := h58 (a := n) (n := 6) (by omega)
  obtain ⟨N, hN⟩ : ∃ N : Nat, pkI n 6 = (N : Int) := ⟨(pkI n 6).toNat, by omega⟩
  have hp9 := h58 (a := more) (n := 9) (by omega)
  obtain ⟨p, hpp⟩ : ∃ p : Nat, pkI more 9 = (p : Int) := ⟨(pkI more 9).toNat, by omega⟩
  rw [hN] at p1 hp
  rw [hpp] at hp9
  obtain ⟨c, hc, hcl⟩ := m61 (raw := raw) (frm := 0) (q := z) (n := N) (by omega)
  obtain ⟨s, hs, hsl⟩ := m61 (raw := raw) (frm := 9) (q := z) (n := N) (by omega)
  have s1 := fun b nl => vv4 (b := b) (nl := nl) hl (frm := 0) (q := z) (by omega) (by omega) (by omega) (N := N) (by omega)
  have s2 := fun b nl => vv4 (b := b) (nl := nl) hl (frm := 9) (q := z) (by omega) (by omega) (by omega) (N := N) (by omega)
  rw [hc] at s1
  rw [hs] at s2
  have hc5 : c.length ≤ 5 := by omega
  obtain ⟨S, hS, hSg, e1⟩ := es7 (n1 := 1) hc5 hpp (by omega) k1 k2 rfl (2 * c.length + 4 + p - N) N s (by omega) hsl (by omega) fun j a c => by omega
  obtain ⟨at', hat⟩ : ∃ m, m = 2 * c.length + p := ⟨_, rfl⟩
  obtain ⟨C, B, gap, last, L, hm, e2⟩ := yk2 (q := z) (s := S.take at') (by rw [List.length_take]; omega)
  have htl : (S.take at').length = at' := by rw [List.length_take]; omega
  rw [htl] at hm
  have hwf : ∀ k, k < at' → wf (S.take at') k = wf S k := fun k hk => by rw [g29, if_pos hk]
  have hLn : L ≤ c.length := hm.mas.low _ _ ((hSg.rule.less (m := at') (by omega)).congr fun k hk => (hwf k hk).symm)
  have hrule := hp4 hSg (hm.mas.rule.congr hwf) (by omega) hLn 4 (by omega)
  have hC := hm.lC
  have hC0 : C.length ≠ 0 := fun e => hm.nC (List.eq_nil_of_length_eq_zero e)
  have hone := hm.mas.rule.one
  have h0 := iva (l := C) (i := 0) (by omega)
  rw [hone, wh3] at h0
  have e3 := fun n1 n2 ks => v37 (n1 := n1) (n2 := n2) (C := C) (s := S) hone hC (by omega) 4 at' (by omega) (by omega) (fun j a c => hrule.holds j (by omega) (by omega)) ks
  have htk : (vs S).take at' = vs (S.take at') := ee1 S at'
  have w1 : IntKind.wrap .i64 ((S.length : Int) - 4) = (at' : Int) := by rw [wrap64 (by omega) (by omega)]; omega
  have w2 : IntKind.wrap .i64 ((L : Int) + 1) = (L : Int) + 1 := wrap64 (by omega) (by omega)
  subst hcl
  rw [o10 rfl T6 rfl]
  unfold F6 c6
  simp (disch := first | omega | fail) only [push_cast, seval, ui5, lu7, y81, bj9, wrap64, dec_lt, cw6, nl2, qc6, mr8, nb8, if_pos, if_neg, e0, hg9, p1, s1, s2]
  rw [e1]
  simp (disch := first | omega | fail) only [push_cast, seval, ui5, lu7, y81, bj9, wrap64, dec_lt, cw6, nl2, qc6, mr8, nb8, if_pos, if_neg, w1, Int.sub_zero, htk, e2, hLn, h0, w2]
  rw [e3]
  simp (disch := first | omega | fail) only [push_cast, seval, ui5, lu7, y81, bj9, wrap64, dec_lt, cw6, nl2, qc6, mr8, nb8, if_pos, if_neg]
end Go.Proofs.Ytghfdpdiibiigaa
namespace Go.Proofs.Ytghfdpdiibiigaa
open Go.Am Go.Vm Go.Alg
section
variable {h : H} {l : List AV} {ws : List Value}
theorem a23 : Vm.VRL h [] (allZ h) (allZ h) [] [] := by rw [Vm.VRL]
theorem dp0 (r : Vm.VRL h [] (allZ h) (allZ h) l ws) (v : Value) : Vm.VRL h [] (allZ h) (allZ h) (.x v :: l) (v :: ws) := by
 rw [Vm.VRL]; exact ⟨v, ws, rfl, by rw [Vm.VR], r⟩
theorem qj4 {sa : Option Addr} {c : Nat} {zs : List Int} (hr : RdI h sa c zs) : ∀ o, sa.map (·.block) = some o → allZ h o := fun o ho => by
 rcases hr with ⟨rfl, _⟩ | ⟨_, o2, off, r2, rfl, h1, _⟩
 ·cases ho
 ·cases ho; exact h44 h1
theorem sk6 (r : Vm.VRL h [] (allZ h) (allZ h) l ws) {sa : Option Addr} {c : Nat} {zs : List Int} (hr : RdI h sa c zs) : Vm.VRL h [] (allZ h) (allZ h) (.fz true (.sl 2 0 1 (ivs zs)) :: l) (.slice sa zs.length c :: ws) := by
 rw [Vm.VRL]; exact ⟨_, ws, rfl, by rw [Vm.VR]; exact pd9 hr (qj4 hr), r⟩
end
end Go.Proofs.Ytghfdpdiibiigaa
namespace Go.Proofs.Ytghfdpdiibiigaa
open Go.Am Go.Vm Go.Alg
theorem x99 (h : H) (s0 : Option Addr) (c0 : Nat) (z0 : List Int) (r0 : RdI h s0 c0 z0) (_ : ss4 h 1 s0 = true) (_ : z0.length ≤ 9223372036854775807) (a1 : Int) (_ : -9223372036854775808 ≤ a1) (_ : a1 ≤ 9223372036854775807) (a2 : Int) (_ : -9223372036854775808 ≤ a2) (_ : a2 ≤ 9223372036854775807) (a3 : Int) (_ : -9223372036854775808 ≤ a3) (_ : a3 ≤ 9223372036854775807) :
 ∃ h', call T 6 [.slice s0 z0.length c0, .int .i64 a1, .int .i64 a2, .int .i64 a3] h = some (.bool true, h') :=
 vlaw lw2 (sk6 (dp0 (dp0 (dp0 a23 _) _) _) r0) (by apply fp0 <;> assumption)
end Go.Proofs.Ytghfdpdiibiigaa
