/-
  The fields of the table are fields. No condition. What is known of fields in the first machine, for the second. No condition. What rows span; their one form. No condition. Rows one by one into what there is, in plain Lean: its form, what it spans; equations. Condition: rows of one length. Rows column by column, in plain Lean: the one form comes out of this too. Condition: rows of one length. What  ..
-/
import Derived.Test.YtghfdpdiibiigaaK5
import Derived.Test.YtghfdpdiibiigaaKAD
import Derived.Test.YtghfdpdiibiigaaK4
import Derived.WalkKit
set_option linter.unusedVariables false
set_option linter.unusedSimpArgs false
set_option linter.unusedSectionVars false
set_option maxRecDepth 100000
namespace Go.Proofs.Ytghfdpdiibiigaa
open Go.Am Go.Alg
theorem ej5 {p d T : Int} (h0 : 0 ≤ d) (h1 : d < p) : (d + p * T) % p = d ∧ (d + p * T) / p = T := by
 constructor
 ·rw [Int.add_mul_emod_self_left, Int.emod_eq_of_lt h0 h1]
 ·rw [Int.add_mul_ediv_left _ _ (by omega), Int.ediv_eq_zero_of_lt h0 h1, Int.zero_add]
theorem t47 (p : Int) : ∀ (n : Nat) (a b : Int), addN p n a b = addN p n b a
 | 0, _, _ => rfl
 | n + 1, a, b => by rw [addN, addN, t47 p n, Int.add_comm (a % p)]
theorem mk9 {p : Int} (hp : 0 < p) : ∀ (n : Nat) (a b c : Int), addN p n (addN p n a b) c = addN p n a (addN p n b c)
 | 0, _, _, _ => rfl
 | n + 1, a, b, c => by
   have d1 := ej5 (T := addN p n (a / p) (b / p)) (Int.emod_nonneg (a % p + b % p) (show p ≠ 0 by omega)) (Int.emod_lt_of_pos (a % p + b % p) hp)
   have d2 := ej5 (T := addN p n (b / p) (c / p)) (Int.emod_nonneg (b % p + c % p) (show p ≠ 0 by omega)) (Int.emod_lt_of_pos (b % p + c % p) hp)
   have e0 : ∀ x y : Int, addN p (n + 1) x y = (x % p + y % p) % p + p * addN p n (x / p) (y / p) := fun _ _ => rfl
   rw [e0 (addN p (n + 1) a b) c, e0 a (addN p (n + 1) b c), e0 a b, e0 b c, d1.1, d1.2, d2.1, d2.2, mk9 hp n]
   simp only [Int.emod_add_emod, Int.add_emod_emod, Int.add_assoc]
theorem ns9 {p : Int} (hp : 0 < p) : ∀ (n : Nat) (a : Int), 0 ≤ a → a < p ^ n → addN p n a 0 = a
 | 0, a, h0, h1 => by rw [Int.pow_zero] at h1; show (0 : Int) = a; omega
 | n + 1, a, h0, h1 => by
   rw [Int.pow_succ] at h1
   rw [addN, Int.zero_emod, Int.zero_ediv, Int.add_zero, Int.emod_emod, ns9 hp n (a / p) (Int.ediv_nonneg h0 (by omega)) (Int.ediv_lt_of_lt_mul hp h1)]
   exact Int.emod_add_mul_ediv a p
theorem ju5 {p : Int} (hp : 0 < p) : ∀ (n : Nat) (a : Int), addN p n a (negN p n a) = 0
 | 0, _ => rfl
 | n + 1, a => by
   have d1 := ej5 (T := negN p n (a / p)) (Int.emod_nonneg (p - a % p) (show p ≠ 0 by omega)) (Int.emod_lt_of_pos (p - a % p) hp)
   have e0 : ∀ x y : Int, addN p (n + 1) x y = (x % p + y % p) % p + p * addN p n (x / p) (y / p) := fun _ _ => rfl
   have e1 : negN p (n + 1) a = (p - a % p) % p + p * negN p n (a / p) := rfl
   rw [e0, e1, d1.1, d1.2, ju5 hp n, Int.add_emod_emod, show a % p + (p - a % p) = p by omega, Int.emod_self]
   omega
section
variable {q p g : Int} {m : Nat} {mod : List Int}
theorem c67 (hn : fldN q.toNat = some (p, m, g, mod)) {b c : Int} (hb : 0 ≤ b ∧ b < q) (hc : 0 ≤ c ∧ c < q) : fmul q g (addN p m b c) = addN p m (fmul q g b) (fmul q g c) := by
 obtain ⟨h2, h64⟩ := ug0 hn
 have h := List.all_eq_true.1 hm8 (q.toNat - 2) (List.mem_range.2 (by omega))
 rw [show q.toNat - 2 + 2 = q.toNat by omega] at h
 unfold ud5 at h
 rw [hn] at h
 simp only [List.all_eq_true, List.mem_range, decide_eq_true_eq] at h
 have := h b.toNat (by omega) c.toNat (by omega)
 rwa [show ((q.toNat : Nat) : Int) = q by omega, show ((b.toNat : Nat) : Int) = b by omega, show ((c.toNat : Nat) : Int) = c by omega] at this
end
class IsFld (q : Int) : Prop where
 ok : ∃ p m g mod, fldN q.toNat = some (p, m, g, mod)
structure El (q : Int) where
 v : Int
 lo : 0 ≤ v
 hi : v < q
theorem El.ext' {q : Int} {a b : El q} (h : a.v = b.v) : a = b := by
 obtain ⟨a, h1, h2⟩ := a
 obtain ⟨b, h3, h4⟩ := b
 cases h; rfl
instance {q : Int} : DecidableEq (El q) := fun a b => if h : a.v = b.v then .isTrue (El.ext' h) else .isFalse fun e => h (e ▸ rfl)
theorem jj8 {q p g : Int} {m : Nat} {mod : List Int} (hn : fldN q.toNat = some (p, m, g, mod)) : FOk q p m mod ∧ Tabs q g ∧ 1 ≤ g ∧ g < q := by
 obtain ⟨h2, h64⟩ := ug0 hn
 have h := hi9 hn
 rw [show ((q.toNat : Nat) : Int) = q by omega] at h
 exact ⟨h.1, cb4 hn, h.2.2.1, h.2.2.2.1⟩
theorem El.ok {q : Int} (a : El q) : fok q a.v = true := iy2 ⟨a.lo, a.hi⟩
theorem do9 {q p g : Int} {m : Nat} {mod : List Int} (hn : fldN q.toNat = some (p, m, g, mod)) (a b : El q) : fadd q a.v b.v = addN p m a.v b.v := by
 rw [fadd, a.ok, b.ok, (y65 hn).1, (y65 hn).2]; rfl
theorem pu7 {q p g : Int} {m : Nat} {mod : List Int} (hn : fldN q.toNat = some (p, m, g, mod)) (a : El q) : fneg q a.v = negN p m a.v := by
 rw [fneg, a.ok, (y65 hn).1, (y65 hn).2]; rfl
section
variable {q : Int} [hq : IsFld q]
theorem aw0 : 2 ≤ q := by
 obtain ⟨p, m, g, mod, hn⟩ := hq.ok
 exact (jj8 hn).1.q2
theorem wg2 (a b : El q) : 0 ≤ fadd q a.v b.v ∧ fadd q a.v b.v < q := by
 obtain ⟨p, m, g, mod, hn⟩ := hq.ok
 have hf := (jj8 hn).1
 have := hf.p2
 have hb := kq3 (p := p) (by omega) m a.v b.v
 rw [hf.pm] at hb
 rw [do9 hn]; exact hb
theorem ca9 (a : El q) : 0 ≤ fneg q a.v ∧ fneg q a.v < q := by
 obtain ⟨p, m, g, mod, hn⟩ := hq.ok
 have hf := (jj8 hn).1
 have := hf.p2
 have hb := ul1 (p := p) (by omega) m a.v
 rw [hf.pm] at hb
 rw [pu7 hn]; exact hb
theorem jo8 (a b : El q) : 0 ≤ fmul q a.v b.v ∧ fmul q a.v b.v < q := by
 obtain ⟨p, m, g, mod, hn⟩ := hq.ok
 obtain ⟨hf, t, _⟩ := jj8 hn
 have h2 := hf.q2
 rw [fmul, a.ok, b.ok]
 cases h0 : (a.v == 0) || (b.v == 0) with
 | true => exact ⟨Int.le_refl _, by show (0 : Int) < q; omega⟩
 | false =>
   have := zd3 t h2 (flog q a.v + flog q b.v)
   exact ⟨by show 0 ≤ fexp q _; omega, this.2.1⟩
theorem bh9 (a : El q) (h : a.v ≠ 0) : 0 ≤ finv q a.v ∧ finv q a.v < q := by
 obtain ⟨p, m, g, mod, hn⟩ := hq.ok
 obtain ⟨hf, t, _⟩ := jj8 hn
 have := (d12 t hf.q2 (a := a.v) ⟨by have := a.lo; omega, a.hi⟩).1
 exact ⟨by omega, this.2⟩
instance : Zero (El q) := ⟨⟨0, Int.le_refl _, by have := aw0 (q := q); omega⟩⟩
instance : One (El q) := ⟨⟨1, by omega, by have := aw0 (q := q); omega⟩⟩
instance : Add (El q) := ⟨fun a b => ⟨fadd q a.v b.v, (wg2 a b).1, (wg2 a b).2⟩⟩
instance : Mul (El q) := ⟨fun a b => ⟨fmul q a.v b.v, (jo8 a b).1, (jo8 a b).2⟩⟩
instance : Neg (El q) := ⟨fun a => ⟨fneg q a.v, (ca9 a).1, (ca9 a).2⟩⟩
theorem hc8 : (0 : El q).v = 0 := rfl
theorem wh3 : (1 : El q).v = 1 := rfl
theorem on0 (a b : El q) : (a + b).v = fadd q a.v b.v := rfl
theorem ym6 (a b : El q) : (a * b).v = fmul q a.v b.v := rfl
theorem tg5 (a : El q) : (-a).v = fneg q a.v := rfl
theorem r57 {a : El q} : a.v = 0 ↔ a = 0 := ⟨fun h => El.ext' h, fun h => by rw [h]; rfl⟩
theorem a59 (a b : El q) : a * b = b * a := El.ext' (by
 rw [ym6, ym6, fmul, fmul, a.ok, b.ok, Bool.or_comm, Int.add_comm])
theorem qc3 (a : El q) : a * 0 = 0 := El.ext' (by
 rw [ym6, fmul, a.ok, (0 : El q).ok, hc8, show ((0 : Int) == 0) = true from rfl, Bool.or_true]; rfl)
theorem du6 (a : El q) : a * 1 = a := El.ext' (by
 obtain ⟨p, m, g, mod, hn⟩ := hq.ok
 obtain ⟨hf, t, _⟩ := jj8 hn
 have h2 := hf.q2
 rw [ym6, wh3]
 by_cases h0 : a.v = 0
 ·rw [fmul, a.ok, show fok q 1 = true from (1 : El q).ok, h0]; rfl
 ·have ha : 1 ≤ a.v ∧ a.v < q := ⟨by have := a.lo; omega, a.hi⟩
  have h1 := (t.er 0 (by omega) (by omega)).2.2
  rw [t.e0] at h1
  have h3 := t.lr a.v ha.1 ha.2
  rw [js7 t ha ⟨by omega, by omega⟩, h1, Int.add_zero, Int.emod_eq_of_lt h3.1 h3.2.1, h3.2.2])
theorem wj9 (a b c : El q) : a * b * c = a * (b * c) := by
 by_cases ha : a = 0
 ·rw [ha, a59 0 b, qc3, a59 0 c, qc3, a59 0, qc3]
 by_cases hb : b = 0
 ·rw [hb, qc3, a59 0 c, qc3, qc3]
 by_cases hc : c = 0
 ·rw [hc, qc3, qc3, qc3]
 refine El.ext' ?_
 obtain ⟨p, m, g, mod, hn⟩ := hq.ok
 obtain ⟨hf, t, _⟩ := jj8 hn
 have h2 := hf.q2
 have ne : ∀ x : El q, x ≠ 0 → 1 ≤ x.v ∧ x.v < q := fun x hx => ⟨by have := x.lo; have : x.v ≠ 0 := fun h => hx (r57.1 h); omega, x.hi⟩
 have h1 := zd3 t h2 (flog q a.v + flog q b.v)
 have h3 := zd3 t h2 (flog q b.v + flog q c.v)
 rw [ym6, ym6, ym6, ym6, js7 t (ne a ha) (ne b hb), js7 t (ne b hb) (ne c hc), js7 t ⟨h1.1, h1.2.1⟩ (ne c hc), js7 t (ne a ha) ⟨h3.1, h3.2.1⟩, h1.2.2, h3.2.2, Int.emod_add_emod, Int.add_emod_emod, Int.add_assoc]
theorem sd1 (a b c : El q) : a * (b + c) = a * b + a * c := by
 obtain ⟨p, m, g, mod, hn⟩ := hq.ok
 obtain ⟨hf, t, hg1, hg2⟩ := jj8 hn
 have h2 := hf.q2
 have hG : ∀ x y : El q, (⟨g, by omega, hg2⟩ : El q) * (x + y) = ⟨g, by omega, hg2⟩ * x + ⟨g, by omega, hg2⟩ * y := fun x y => El.ext' (by
  rw [ym6, on0, do9 hn, on0, do9 hn]
  exact c67 hn ⟨x.lo, x.hi⟩ ⟨y.lo, y.hi⟩)
 have hP : ∀ (k : Nat) (x y : El q) (h0 : 0 ≤ fexp q ((k : Int) % (q - 1))) (h1 : fexp q ((k : Int) % (q - 1)) < q), (⟨_, h0, h1⟩ : El q) * (x + y) = ⟨_, h0, h1⟩ * x + ⟨_, h0, h1⟩ * y := by
  intro k
  induction k with
  | zero =>
    intro x y h0 h1
    have he : (⟨_, h0, h1⟩ : El q) = 1 := El.ext' (by show fexp q (((0 : Nat) : Int) % (q - 1)) = 1; rw [Int.natCast_zero, Int.zero_emod]; exact t.e0)
    rw [he, a59, du6, a59 1 x, du6, a59 1 y, du6]
  | succ k ih =>
    intro x y h0 h1
    have h3 := zd3 t h2 (k : Int)
    have he : (⟨_, h0, h1⟩ : El q) = ⟨fexp q ((k : Int) % (q - 1)), by omega, h3.2.1⟩ * ⟨g, by omega, hg2⟩ := El.ext' (by
     show fexp q (((k + 1 : Nat) : Int) % (q - 1)) = fmul q _ g
     rw [np3 t h2 ⟨hg1, hg2⟩, Int.natCast_add, Int.natCast_one])
    rw [he, wj9, hG, ih, wj9, wj9]
 by_cases ha : a = 0
 ·rw [ha, a59, qc3, a59 0 b, qc3, a59 0 c, qc3]
  refine El.ext' ?_
  have := hf.p2
  rw [on0, do9 hn]
  exact (ns9 (by omega) m 0 (Int.le_refl _) (Int.pow_pos (by omega))).symm
 ·have hav : a.v ≠ 0 := fun h => ha (r57.1 h)
  have h3 := t.lr a.v (by have := a.lo; omega) a.hi
  have he : fexp q (((flog q a.v).toNat : Int) % (q - 1)) = a.v := by
   rw [show (((flog q a.v).toNat : Nat) : Int) = flog q a.v by omega, Int.emod_eq_of_lt h3.1 h3.2.1, h3.2.2]
  have h4 := hP (flog q a.v).toNat b c (by rw [he]; exact a.lo) (by rw [he]; exact a.hi)
  have h5 : (⟨fexp q (((flog q a.v).toNat : Int) % (q - 1)), by rw [he]; exact a.lo, by rw [he]; exact a.hi⟩ : El q) = a := El.ext' he
  rw [h5] at h4
  exact h4
instance elFK : FK (El q) where
 inv := fun a => if h : a.v = 0 then 0 else ⟨finv q a.v, (bh9 a h).1, (bh9 a h).2⟩
 deq := inferInstance
 add_assoc := fun a b c => El.ext' (by
  obtain ⟨p, m, g, mod, hn⟩ := hq.ok
  have hf := (jj8 hn).1
  have := hf.p2
  rw [on0 (a + b) c, on0 a (b + c), do9 hn (a + b) c, do9 hn a (b + c), on0 a b, on0 b c, do9 hn a b, do9 hn b c, mk9 (by omega)])
 add_comm := fun a b => El.ext' (by
  obtain ⟨p, m, g, mod, hn⟩ := hq.ok
  rw [on0, on0, do9 hn, do9 hn, t47])
 add_zero := fun a => El.ext' (by
  obtain ⟨p, m, g, mod, hn⟩ := hq.ok
  have hf := (jj8 hn).1
  have := hf.p2
  rw [on0, do9 hn, hc8]
  exact ns9 (by omega) m a.v a.lo (by rw [hf.pm]; exact a.hi))
 add_neg := fun a => El.ext' (by
  obtain ⟨p, m, g, mod, hn⟩ := hq.ok
  have hf := (jj8 hn).1
  have := hf.p2
  rw [on0, do9 hn, tg5, pu7 hn]
  exact ju5 (by omega) m a.v)
 mul_assoc := wj9
 mul_comm := a59
 mul_one := du6
 mul_add := sd1
 mul_inv := fun a ha => El.ext' (by
  have h : a.v ≠ 0 := fun h => ha (r57.1 h)
  obtain ⟨p, m, g, mod, hn⟩ := hq.ok
  obtain ⟨hf, t, _⟩ := jj8 hn
  rw [dif_neg h]
  exact (d12 t hf.q2 (a := a.v) ⟨by have := a.lo; omega, a.hi⟩).2)
 zero_ne := fun h => by
  have := congrArg El.v h
  rw [hc8, wh3] at this
  omega
end
def vs {q : Int} (l : List (El q)) : List Int := l.map El.v
def ge {K : Type} [FK K] (l : List K) (i : Nat) : K := l.getD i 0
section
variable {q : Int}
theorem fi2 (l : List (El q)) : (vs l).length = l.length := by simp [vs]
theorem rp2 : vs ([] : List (El q)) = [] := rfl
end
end Go.Proofs.Ytghfdpdiibiigaa
namespace Go.Proofs.Ytghfdpdiibiigaa
open Go.Am Go.Vm Go.Alg
theorem d40 {zs : List Int} {i : Nat} (hi : i < zs.length) : (ints zs)[i]? = some (.int .i64 (gi zs (i : Int))) := by
 have := c13 (zs := zs) (i := (i : Int)) (by omega) (by omega)
 rwa [Int.toNat_natCast] at this
theorem zj7 {h : H} {Z : Nat → Prop} {zs : List Int} {l : List Value} : RdL h Z (ivs zs) l ↔ l = ints zs := by
 induction zs generalizing l with
 | nil => exact ⟨fun hr => by rw [show ivs [] = [] from rfl, RdL] at hr; exact hr, fun e => by subst e; rw [show ivs [] = [] from rfl, RdL]; rfl⟩
 | cons z zs ih =>
   rw [show ivs (z :: zs) = .v (.int .i64 z) :: ivs zs from rfl, RdL]
   constructor
   ·rintro ⟨w, l', rfl, h1, h2⟩
    rw [Rd] at h1
    rw [h1, ih.1 h2]; rfl
   ·rintro rfl
    exact ⟨_, _, rfl, by rw [Rd], ih.2 rfl⟩
theorem ex4 {h : H} {Z : Nat → Prop} {zs : List Int} {l : List Value} : ExL h Z (ivs zs) l ↔ l = ints zs := by
 induction zs generalizing l with
 | nil => exact ⟨fun hr => by rw [show ivs [] = [] from rfl, ExL] at hr; exact hr, fun e => by subst e; rw [show ivs [] = [] from rfl, ExL]; rfl⟩
 | cons z zs ih =>
   rw [show ivs (z :: zs) = .v (.int .i64 z) :: ivs zs from rfl, ExL]
   constructor
   ·rintro ⟨w, l', rfl, h1, h2⟩
    rw [Ex] at h1
    rw [h1, ih.1 h2]; rfl
   ·rintro rfl
    exact ⟨_, _, rfl, by rw [Ex], ih.2 rfl⟩
theorem fw0 {h : H} {Z : Nat → Prop} {nl e : Nat} {zs : List Int} {w : Value} (hr : Rd h Z (.sl nl e 1 (ivs zs)) w) : ∃ sa c, w = .slice sa zs.length c ∧ RdI h sa c zs := by
 rw [Rd] at hr
 rcases hr with ⟨h0, _, _, rfl⟩ | ⟨o, off, n, c, r, rfl, h1, h2, h3, h4, h5, h6, h7, h8⟩
 ·have : zs = [] := by cases zs with
   | nil => rfl
   | cons => cases h0
  subst this
  exact ⟨none, 0, rfl, .nil⟩
 ·rw [gf1, Nat.mul_one] at h5
  subst h5
  have h9 := zj7.1 h8
  rw [gf1] at h9
  refine ⟨_, c, rfl, .inr ⟨h6, o, off, r, rfl, h2, h3, fun i h0 hi => ?_⟩⟩
  have h10 := c13 h0 hi
  rw [← h9, List.getElem?_take, if_pos (by omega), List.getElem?_drop] at h10
  exact h10
theorem pd9 {h : H} {Z : Nat → Prop} {e : Nat} {zs : List Int} {sa : Option Addr} {c : Nat} (hr : RdI h sa c zs) (hz : ∀ o, sa.map (·.block) = some o → Z o) : Rd h Z (.sl 2 e 1 (ivs zs)) (.slice sa zs.length c) := by
 rw [Rd]
 rcases hr with ⟨rfl, rfl, rfl⟩ | ⟨h1, o, off, r, rfl, h2, h3, h4⟩
 ·exact .inl ⟨rfl, by decide, by decide, rfl⟩
 ·refine .inr ⟨o, off, _, c, r, rfl, hz o rfl, h2, h3, by decide, by rw [gf1, Nat.mul_one], h1, fun h => (by cases h), zj7.2 ?_⟩
  rw [gf1]
  refine List.ext_getElem? fun i => ?_
  by_cases hi : i < zs.length
  ·rw [d40 hi, List.getElem?_take, if_pos hi, List.getElem?_drop]
   have := h4 (i : Int) (by omega) (by omega)
   rwa [Int.toNat_natCast] at this
  ·rw [List.getElem?_eq_none (by rw [List.length_take]; omega), List.getElem?_eq_none (by rw [iq5]; omega)]
def lvs (nl : Nat) (m : List (List Int)) : List Tree := m.map fun l => .sl nl 0 1 (ivs l)
theorem nb9 (nl : Nat) (m : List (List Int)) : (lvs nl m).length = m.length := by simp [lvs]
def allZ (h : H) : Nat → Prop := fun o => o < h.length
theorem bh6 (h : H) : Inv h [] (allZ h) (allZ h) := ⟨by rw [okL]; trivial, fun x => by simp [fpL], fun o ho => by simp [fpL] at ho, fun o ho => by simp [fpL] at ho, fun o ho => ho, fun o ho => ho⟩
theorem vlaw {W : VW} (hP : ∀ f p vs C r, W.P f = some p → p vs C = some r → VOK W.T f vs C r) {h : H} {f : FuncId} {xs0 : List AV} {ws : List Value} (hv : VRL h [] (allZ h) (allZ h) xs0 ws) {b : Bool} (e : o25 W f xs0 [] = some (.x (.bool b), [], [])) : ∃ h', call W.T f ws h = some (.bool b, h') := by
 obtain ⟨w, h', K, S, Z', Zp', h1, P⟩ := lw9 hP e h [] _ _ ws (bh6 h) rfl hv fun k hk => by cases hk
 have := P.v
 rw [Vm.VR] at this
 subst this
 exact ⟨h', h1⟩
theorem sk2 {h h' : H} {Z Zp : Nat → Prop} (i : Inv h [] Z Zp) (hp : h <+: h') (v : Value) : Post h [] Zp 0 (.x v, [], []) v h' [] [] Z Zp := by
 refine ⟨rfl, rfl, ⟨by rw [List.nil_append, okL]; trivial, fun x => by simp [fpL], fun o ho => by simp [fpL] at ho, fun o ho => by simp [fpL] at ho, fun o ho => ?_, i.zp⟩, ⟨hp.length_le, fun o ho _ => cb1 hp ho, fun o ho => by simp [fpL] at ho, fun o ho => ho, fun o ho => .inl ho⟩, by rw [Vm.VR], rfl, fun i a k h1 => by simp at h1⟩
 have := i.zlt o ho; have := hp.length_le; omega
def pFt (q p : Int) (m : Nat) (g : Int) (mod : List Int) : Tree := .ex (.pt 72 [.v (.int .i64 q), .v (.int .i64 p), .v (.int .i64 m), .fz (.sl 2 0 1 (ivs mod)), .v (.int .i64 g), .sl 0 3 1 (ivs (tabs q.toNat).1), .sl 0 3 1 (ivs (tabs q.toNat).2)])
def pF (q : Int) : Tree := match fldN q.toNat with
 | some (p, m, g, mod) => pFt q p m g mod
 | none => .junk
def bc2 : Tree → Int
 | .ex (.pt _ (.v (.int .i64 q) :: _)) => q
 | _ => 0
theorem yz0 {q : Int} [h : IsFld q] : bc2 (pF q) = q := by
 obtain ⟨p, m, g, mod, hn⟩ := h.ok
 unfold pF; rw [hn]; rfl
theorem ki3 {q p g : Int} {m : Nat} {mod : List Int} (hn : fldN q.toNat = some (p, m, g, mod)) : (tabs q.toNat).1.length = (q - 1).toNat ∧ (tabs q.toNat).2.length = q.toNat := by
 obtain ⟨h2, h64⟩ := ug0 hn
 have ht := (cb4 hn).tab
 rw [ht]
 constructor <;> simp
theorem nx2 {h : H} {Z : Nat → Prop} {q p g : Int} {m : Nat} {mod : List Int} (hn : fldN q.toNat = some (p, m, g, mod)) {w : Value} (hr : Rd h Z (pF q) w) : ∃ F E L om fm cm, w = .pointer (some ⟨F, 0, none⟩) ∧ PUse h F q p m g mod E L om fm cm := by
 obtain ⟨h2, h64⟩ := ug0 hn
 have ht := (cb4 hn).tab
 obtain ⟨l1, l2⟩ := ki3 hn
 unfold pF at hr
 rw [hn] at hr
 simp only [pFt] at hr
 rw [Rd, Ex] at hr
 obtain ⟨F, r, rfl, h1, h3, h4, h5, h6, h7⟩ := hr
 rw [ExL] at h7
 obtain ⟨w0, c0, e0, k0, h7⟩ := h7
 rw [ExL] at h7
 obtain ⟨w1, c1, e1, k1, h7⟩ := h7
 rw [ExL] at h7
 obtain ⟨w2, c2, e2, k2, h7⟩ := h7
 rw [ExL] at h7
 obtain ⟨w3, c3, e3, k3, h7⟩ := h7
 rw [ExL] at h7
 obtain ⟨w4, c4, e4, k4, h7⟩ := h7
 rw [ExL] at h7
 obtain ⟨w5, c5, e5, k5, h7⟩ := h7
 rw [ExL] at h7
 obtain ⟨w6, c6, e6, k6, h7⟩ := h7
 unfold Ex at k0 k1 k2 k3 k4 k5 k6
 subst e6 e5 e4 e3 e2 e1
 obtain ⟨sa, cm, rfl, rm⟩ := fw0 k3
 obtain ⟨E, nE, rE, rfl, _, hE, _, _, _, _, nE1, _, xE⟩ := k5
 obtain ⟨L, nL, rL, rfl, _, hL, _, _, _, _, nL1, _, xL⟩ := k6
 rw [ex4] at xE xL
 rw [gf1, Nat.mul_one, l1] at nE1
 rw [gf1, Nat.mul_one, l2] at nL1
 subst nE1 nL1 k0 k1 k2 k4
 have hml := (hi9 hn).1.ml
 have hm1 := (hi9 hn).1.m1
 obtain ⟨om, fm, rfl⟩ : ∃ om fm, sa = some ⟨om, fm, none⟩ := by
  rcases rm with ⟨_, _, h0⟩ | ⟨_, o, off, r, h0, _⟩
  ·rw [h0] at hml; simp at hml
  ·exact ⟨o, off, h0⟩
 have cell : ∀ {i : Nat} {v : Value}, r.cells[i]? = some v → h.ld1 F i = some v := fun {i v} hi => by rw [ng1 h3]; exact hi
 refine ⟨F, E, L, om, fm, cm, rfl, by omega, by omega, cell (by rw [e0]; rfl), cell (by rw [e0]; rfl), cell (by rw [e0]; rfl), cell (by rw [e0]; rfl), cell (by rw [e0]; rfl), cell (by rw [e0]; rfl), cell (by rw [e0]; rfl), fun i h0 hi => ?_, fun a h0 ha => ?_, rm⟩
 ·rw [ng1 hE, xE, c13 h0 (by rw [l1]; omega)]
  congr 2
  rw [ht]
  unfold gi
  rw [List.getD_eq_getElem?_getD, List.getElem?_map, List.getElem?_range (by omega)]
  show fexp q ((i.toNat : Nat) : Int) = _
  rw [show ((i.toNat : Nat) : Int) = i by omega]
 ·rw [ng1 hL, xL, c13 h0 (by rw [l2]; omega)]
  congr 2
  rw [ht]
  unfold gi
  rw [List.getD_eq_getElem?_getD, List.getElem?_map, List.getElem?_range (by omega)]
  show flog q ((a.toNat : Nat) : Int) = _
  rw [show ((a.toNat : Nat) : Int) = a by omega]
open Classical in
noncomputable def it3 (g : Int → Value) : List AV → Rts → Option VRes
 | [.fz b t], [] => if IsFld (bc2 t) ∧ t = pF (bc2 t) then some (.x (g (bc2 t)), [], []) else none
 | _, _ => none
open Classical in
noncomputable def pOne (g : Int → Int → Value) : List AV → Rts → Option VRes
 | [.fz b t, .x (.int .i64 a)], [] => if IsFld (bc2 t) ∧ t = pF (bc2 t) then some (.x (g (bc2 t) a), [], []) else none
 | _, _ => none
open Classical in
noncomputable def pTwo (g : Int → Int → Int → Value) : List AV → Rts → Option VRes
 | [.fz b t, .x (.int .i64 a), .x (.int .i64 a')], [] => if IsFld (bc2 t) ∧ t = pF (bc2 t) then some (.x (g (bc2 t) a a'), [], []) else none
 | _, _ => none
theorem jm7 {g : Int → Value} {q : Int} [h : IsFld q] {b : Bool} : it3 g [.fz b (pF q)] [] = some (.x (g q), [], []) := by
 unfold it3; simp only []; rw [if_pos (by rw [yz0]; exact ⟨h, rfl⟩), yz0]
theorem l79 {g : Int → Int → Value} {q : Int} [h : IsFld q] {b : Bool} {a : Int} : pOne g [.fz b (pF q), .x (.int .i64 a)] [] = some (.x (g q a), [], []) := by
 unfold pOne; simp only []; rw [if_pos (by rw [yz0]; exact ⟨h, rfl⟩), yz0]
theorem pu4 {g : Int → Int → Int → Value} {q : Int} [h : IsFld q] {b : Bool} {a a' : Int} : pTwo g [.fz b (pF q), .x (.int .i64 a), .x (.int .i64 a')] [] = some (.x (g q a a'), [], []) := by
 unfold pTwo; simp only []; rw [if_pos (by rw [yz0]; exact ⟨h, rfl⟩), yz0]
abbrev r43 (f : FuncId) (xs : List Value) (g : Int → Value) : Prop := ∀ (h : H) (F : Nat) (q p : Int) (m : Nat) (ge : Int) (mod : List Int) (E L om fm cm : Nat), fldN q.toNat = some (p, m, ge, mod) → PUse h F q p m ge mod E L om fm cm → call T f (.pointer (some ⟨F, 0, none⟩) :: xs) h = some (g q, h)
theorem nh2 {f : FuncId} {b : Bool} {t : Tree} {xs : List Value} {g : Int → Value} (H : r43 f xs g) (hf : IsFld (bc2 t)) (ht : t = pF (bc2 t)) : VOK T f (.fz b t :: xs.map AV.x) [] (.x (g (bc2 t)), [], []) := by
 intro h Ac Z Zp ws i hC hv hk
 obtain rfl : Ac = [] := by cases Ac with
  | nil => rfl
  | cons => cases hC
 rw [Vm.VRL] at hv
 obtain ⟨w, ws', rfl, h1, h2⟩ := hv
 rw [Vm.VR, ht] at h1
 have hxs : ws' = xs := by
  clear H hk hC i h1
  induction xs generalizing ws' with
  | nil => rw [List.map_nil, VRL] at h2; exact h2
  | cons x xs ih =>
    rw [List.map_cons, VRL] at h2
    obtain ⟨w', ws'', rfl, k1, k2⟩ := h2
    rw [Vm.VR] at k1
    rw [k1, ih _ k2]
 subst hxs
 obtain ⟨p, m, ge, mod, hn⟩ := hf.ok
 obtain ⟨F, E, L, om, fm, cm, rfl, u⟩ := nx2 hn h1
 have e := H h F (bc2 t) p m ge mod E L om fm cm hn u
 exact ⟨_, h, [], [], Z, Zp, e, sk2 i (List.prefix_refl _) _⟩
theorem o24 {f : FuncId} {g : Int → Value} (H : r43 f [] g) {xs0 : List AV} {C : Rts} {r : VRes} (he : it3 g xs0 C = some r) : VOK T f xs0 C r := by
 unfold it3 at he
 split at he
 ·split at he
  ·rename_i hc; cases he; exact nh2 (xs := []) (g := g) H hc.1 hc.2
  ·cases he
 ·cases he
theorem ka9 {f : FuncId} {g : Int → Int → Value} (H : ∀ a, r43 f [.int .i64 a] fun q => g q a) {xs0 : List AV} {C : Rts} {r : VRes} (he : pOne g xs0 C = some r) : VOK T f xs0 C r := by
 unfold pOne at he
 split at he
 ·split at he
  ·rename_i hc; cases he; exact nh2 (xs := [_]) (H _) hc.1 hc.2
  ·cases he
 ·cases he
theorem sg0 {f : FuncId} {g : Int → Int → Int → Value} (H : ∀ a a', r43 f [.int .i64 a, .int .i64 a'] fun q => g q a a') {xs0 : List AV} {C : Rts} {r : VRes} (he : pTwo g xs0 C = some r) : VOK T f xs0 C r := by
 unfold pTwo at he
 split at he
 ·split at he
  ·rename_i hc; cases he; exact nh2 (xs := [_, _]) (H _ _) hc.1 hc.2
  ·cases he
 ·cases he
def pNew : List AV → Rts → Option VRes
 | [.x (.int .i64 q)], [] => match fldN q.toNat with
   | some _ => some (.tup [.fz true (pF q), .x (.int .i64 0)], [], [])
   | none => some (.tup [.x (.pointer none), .x (.int .i64 1)], [], [])
 | _, _ => none
theorem a64 {h h' : H} {Z Zp : Nat → Prop} (i : Inv h [] Z Zp) (hp : h <+: h') {a : AV} {w : Value} (hv : Vm.VR h' [] (fun o => h.length ≤ o ∧ o < h'.length) (fun o => h.length ≤ o ∧ o < h'.length) a w) : ∃ Z' Zp', Post h [] Zp 0 (a, [], []) w h' [] [] Z' Zp' := by
 refine ⟨fun o => Z o ∨ (h.length ≤ o ∧ o < h'.length), fun o => Zp o ∨ (h.length ≤ o ∧ o < h'.length), rfl, rfl, ⟨by rw [List.nil_append, okL]; trivial, fun x => by simp [fpL], fun o ho => by simp [fpL] at ho, fun o ho => by simp [fpL] at ho, fun o ho => ?_, fun o ho => ho.imp (i.zp o) id⟩, ⟨hp.length_le, fun o ho _ => cb1 hp ho, fun o ho => by simp [fpL] at ho, fun o ho => .inl ho, fun o ho => ho.imp id fun h => .inr h.1⟩, Vm.VR.move (fun o ho => .inr ho) (fun o ho => .inr ho) (fun _ _ => rfl) (fun _ _ => rfl) (Stab.refl [] []) hv rfl, rfl, fun i a k h1 => by simp at h1⟩
 rcases ho with ho | ho
 ·have := i.zlt o ho; have := hp.length_le; omega
 ·exact ho.2
theorem lo5 {xs0 : List AV} {C : Rts} {r : VRes} (he : pNew xs0 C = some r) : VOK T 36 xs0 C r := by
 unfold pNew at he
 split at he
 ·rename_i q
  intro h Ac Z Zp ws i hC hv hk
  obtain rfl : Ac = [] := by cases Ac with
   | nil => rfl
   | cons => cases hC
  rw [Vm.VRL] at hv
  obtain ⟨w, ws', rfl, h1, h2⟩ := hv
  rw [Vm.VRL] at h2
  rw [Vm.VR] at h1
  subst h1 h2
  split at he
  ·rename_i x hn
   obtain ⟨p, m, g, mod⟩ := x
   cases he
   obtain ⟨h', F, hp, hF, ⟨om, fm, cm, ho, hM, ⟨E, L, q1, q2, hFr, hE, hL, q3, q4⟩⟩, e⟩ := e24 q hn h
   have hFl := h44 hFr
   have hEl := h44 hE
   have hLl := h44 hL
   have hom : om < h'.length := by
    rcases hM with ⟨h0, _⟩ | ⟨_, o, off, r, h0, h1, _⟩
    ·cases h0
    ·cases h0; exact h44 h1
   have hzo : ∀ o, (some (⟨om, fm, none⟩ : Addr)).map (·.block) = some o → h.length ≤ o ∧ o < h'.length := fun o ho' => by
    have e1 : om = o := by simpa using ho'
    subst e1; exact ⟨by omega, hom⟩
   have hrd : Rd h' (fun o => h.length ≤ o ∧ o < h'.length) (pF q) (.pointer (some ⟨F, 0, none⟩)) := by
    have hq2 := ug0 hn
    unfold pF
    rw [hn]
    simp only [pFt]
    rw [Rd, Ex]
    refine ⟨F, _, rfl, ⟨hF, hFl⟩, hFr, rfl, rfl, rfl, ?_⟩
    rw [ExL]; refine ⟨_, _, rfl, by unfold Ex; rfl, ?_⟩
    rw [ExL]; refine ⟨_, _, rfl, by unfold Ex; rfl, ?_⟩
    rw [ExL]; refine ⟨_, _, rfl, by unfold Ex; rfl, ?_⟩
    rw [ExL]; refine ⟨_, _, rfl, by unfold Ex; exact pd9 hM hzo, ?_⟩
    rw [ExL]; refine ⟨_, _, rfl, by unfold Ex; rfl, ?_⟩
    rw [ExL]; refine ⟨_, _, rfl, by unfold Ex; exact ⟨E, _, _, rfl, ⟨by omega, hEl⟩, hE, rfl, rfl, rfl, by decide, by rw [gf1, Nat.mul_one, q3], fun h => (by cases h), ex4.2 rfl⟩, ?_⟩
    rw [ExL]; refine ⟨_, _, rfl, by unfold Ex; exact ⟨L, _, _, rfl, ⟨by omega, hLl⟩, hL, rfl, rfl, rfl, by decide, by rw [gf1, Nat.mul_one, q4], fun h => (by cases h), ex4.2 rfl⟩, ?_⟩
    rw [ExL]
   obtain ⟨Z', Zp', P⟩ := a64 (a := .tup [.fz true (pF q), .x (.int .i64 0)]) (w := .tuple #[.pointer (some ⟨F, 0, none⟩), .int .i64 0]) i hp (by
    rw [Vm.VR]
    exact ⟨[_, _], rfl, .cons (by rw [Vm.VR]; exact hrd) (.cons (by rw [Vm.VR]) .nil)⟩)
   exact ⟨_, h', [], [], Z', Zp', e, P⟩
  ·rename_i hn
   cases he
   obtain ⟨h', hp, e⟩ := e84 q hn h
   obtain ⟨Z', Zp', P⟩ := a64 (a := .tup [.x (.pointer none), .x (.int .i64 1)]) (w := .tuple #[.pointer none, .int .i64 1]) i hp (by
    rw [Vm.VR]
    exact ⟨[_, _], rfl, .cons (by rw [Vm.VR]) (.cons (by rw [Vm.VR]) .nil)⟩)
   exact ⟨_, h', [], [], Z', Zp', e, P⟩
 ·cases he
def fgn (q : Int) : Int := match fldN q.toNat with
 | some (_, _, g, _) => g
 | none => 0
theorem kb7 {q p g : Int} {m : Nat} {mod : List Int} (hn : fldN q.toNat = some (p, m, g, mod)) : fgn q = g := by unfold fgn; rw [hn]
noncomputable def vP : FuncId → Option (List AV → Rts → Option VRes)
 | 20 => some (it3 fun q => .int .i64 q)
 | 22 => some (pTwo fun q a b => .int .i64 (fmul q a b))
 | 21 => some (pTwo fun q a b => .int .i64 (fadd q a b))
 | 24 => some (pTwo fun q a b => .int .i64 (fsub q a b))
 | 23 => some (pOne fun q a => .int .i64 (fneg q a))
 | 25 => some (pOne fun q a => .int .i64 (finv q a))
 | 26 => some (pTwo fun q a b => .int .i64 (fpow q a b))
 | 28 => some (pOne fun q a => .int .i64 (dy0 q a))
 | 29 => some (it3 fun q => .int .i64 (fch q))
 | 27 => some (it3 fun q => .int .i64 (fgn q))
 | 36 => some pNew
 | _ => none
noncomputable def W : VW := ⟨T, vP, vH, vM, ct⟩
@[push_cast] theorem W_M (f : FuncId) : W.M f = vM f := rfl
@[push_cast] theorem W_H (f : FuncId) : W.H f = vH f := rfl
@[push_cast] theorem W_ct : W.ct = ct := rfl
theorem lw2 (f : FuncId) (p : List AV → Rts → Option VRes) (xs0 : List AV) (C : Rts) (r : VRes) (hp : W.P f = some p) (he : p xs0 C = some r) : VOK W.T f xs0 C r := by
 have hp : vP f = some p := hp
 show VOK T f xs0 C r
 unfold vP at hp
 split at hp
 ·cases hp; exact o24 (f := 20) (fun h F q p m ge mod E L om fm cm hn u => ts1 u) he
 ·cases hp; exact sg0 (f := 22) (fun a a' h F q p m ge mod E L om fm cm hn u => lb9 hn u a a') he
 ·cases hp; exact sg0 (f := 21) (fun a a' h F q p m ge mod E L om fm cm hn u => gl5 hn u (jj8 hn).1 a a') he
 ·cases hp; exact sg0 (f := 24) (fun a a' h F q p m ge mod E L om fm cm hn u => eb1 hn u (jj8 hn).1 a a') he
 ·cases hp; exact ka9 (f := 23) (fun a h F q p m ge mod E L om fm cm hn u => kb1 hn u (jj8 hn).1 a) he
 ·cases hp; exact ka9 (f := 25) (fun a h F q p m ge mod E L om fm cm hn u => im8 hn u a) he
 ·cases hp; exact sg0 (f := 26) (fun a a' h F q p m ge mod E L om fm cm hn u => w41 hn u a a') he
 ·cases hp; exact ka9 (f := 28) (fun a h F q p m ge mod E L om fm cm hn u => s60 u a) he
 ·cases hp; exact o24 (f := 29) (fun h F q p m ge mod E L om fm cm hn u => by rw [(y65 hn).1]; exact bb3 u) he
 ·cases hp; exact o24 (f := 27) (fun h F q p m ge mod E L om fm cm hn u => by rw [kb7 hn]; exact zr1 u) he
 ·cases hp; exact (fun _ => lo5 he) 36
 ·cases hp
section
variable {q : Int} [IsFld q] {b : Bool} {x y : Int}
@[push_cast] theorem l09 : o25 W 20 [.fz b (pF q)] [] = some (.x (.int .i64 q), [], []) := (xr5 rfl).trans jm7
@[push_cast] theorem gi0 : o25 W 22 [.fz b (pF q), .x (.int .i64 x), .x (.int .i64 y)] [] = some (.x (.int .i64 (fmul q x y)), [], []) := (xr5 rfl).trans pu4
@[push_cast] theorem j43 : o25 W 21 [.fz b (pF q), .x (.int .i64 x), .x (.int .i64 y)] [] = some (.x (.int .i64 (fadd q x y)), [], []) := (xr5 rfl).trans pu4
@[push_cast] theorem ze7 : o25 W 24 [.fz b (pF q), .x (.int .i64 x), .x (.int .i64 y)] [] = some (.x (.int .i64 (fsub q x y)), [], []) := (xr5 rfl).trans pu4
@[push_cast] theorem e85 : o25 W 23 [.fz b (pF q), .x (.int .i64 x)] [] = some (.x (.int .i64 (fneg q x)), [], []) := (xr5 rfl).trans l79
@[push_cast] theorem eb9 : o25 W 25 [.fz b (pF q), .x (.int .i64 x)] [] = some (.x (.int .i64 (finv q x)), [], []) := (xr5 rfl).trans l79
@[push_cast] theorem li7 : o25 W 26 [.fz b (pF q), .x (.int .i64 x), .x (.int .i64 y)] [] = some (.x (.int .i64 (fpow q x y)), [], []) := (xr5 rfl).trans pu4
@[push_cast] theorem tr7 : o25 W 29 [.fz b (pF q)] [] = some (.x (.int .i64 (fch q)), [], []) := (xr5 rfl).trans jm7
@[push_cast] theorem yw6 : o25 W 27 [.fz b (pF q)] [] = some (.x (.int .i64 (fgn q)), [], []) := (xr5 rfl).trans jm7
@[push_cast] theorem tf7 : o25 W 28 [.fz b (pF q), .x (.int .i64 x)] [] = some (.x (.int .i64 (dy0 q x)), [], []) := (xr5 rfl).trans l79
theorem gh1 : ∃ d, fldN q.toNat = some d := by
 obtain ⟨p, m, g, mod, hn⟩ := ‹IsFld q›.ok
 exact ⟨_, hn⟩
@[push_cast] theorem ev4 : o25 W 36 [.x (.int .i64 q)] [] = some (.tup [.fz true (pF q), .x (.int .i64 0)], [], []) := (xr5 rfl).trans (by obtain ⟨d, hd⟩ := gh1 (q := q); unfold pNew; simp only [hd])
end
end Go.Proofs.Ytghfdpdiibiigaa
namespace Go.Alg
section
variable {K : Type} [FK K]
structure Rref (n : Nat) (A : List (Nat × (Nat → K))) : Prop where
 up : A.Pairwise fun a b => a.1 < b.1
 one : ∀ a ∈ A, a.2 a.1 = 1
 before : ∀ a ∈ A, ∀ k, k < a.1 → a.2 k = 0
 lt : ∀ a ∈ A, a.1 < n
 out : ∀ a ∈ A, ∀ k, n ≤ k → a.2 k = 0
 zero : ∀ a ∈ A, ∀ b ∈ A, a.1 ≠ b.1 → a.2 b.1 = 0
section
variable {n : Nat} {A B : List (Nat × (Nat → K))}
def wf (l : List K) : Nat → K := fun i => l.getD i 0
end
end
end Go.Alg
namespace Go.Alg
section
variable {α : Type}
end
section
variable {K : Type} [FK K]
def toF (A : List (Nat × List K)) : List (Nat × (Nat → K)) := A.map fun a => (a.1, wf a.2)
section
variable {n : Nat} {A : List (Nat × List K)}
end
end
end Go.Alg
namespace Go.Alg
section
variable {α : Type} {M : List (List α)} {P : List Nat}
end
section
variable {K : Type} [FK K]
section
variable {n c : Nat} {M0 M : List (List K)} {P : List Nat}
end
end
end Go.Alg
namespace Go.Alg
section
variable {K : Type} [FK K]
end
end Go.Alg
namespace Go.Proofs.Ytghfdpdiibiigaa
end Go.Proofs.Ytghfdpdiibiigaa
namespace Go.Proofs.Ytghfdpdiibiigaa
open Go.Am Go.Vm Go.Alg
def lls (nl : Nat) (m : List (List Int)) : List Tree := m.map fun l => .sl nl 3 1 (ivs l)
theorem qf0 (nl : Nat) (m : List (List Int)) : (lls nl m).length = m.length := by simp [lls]
theorem lg8 (nl : Nat) (m : List (List Int)) : jj5 (lls nl m) = lvs nl m := by
 rw [gz0]
 unfold lls lvs
 rw [List.map_map]
 refine List.map_congr_left fun l _ => ?_
 show strip _ = _
 rw [strip, ap3]
theorem lr8 (nl : Nat) (m : List (List Int)) : jj5 (lvs nl m) = lvs nl m := by
 rw [gz0]
 unfold lvs
 rw [List.map_map]
 refine List.map_congr_left fun l _ => ?_
 show strip _ = _
 rw [strip, ap3]
theorem ng3 (nl : Nat) (m : List (List Int)) (l : List Int) : lls nl m ++ [.sl nl 3 1 (ivs l)] = lls nl (m ++ [l]) := by unfold lls; rw [List.map_append]; rfl
theorem y81 (nl : Nat) (m : List (List Int)) (i : Nat) (l : List Int) : (lls nl m).set i (.sl nl 3 1 (ivs l)) = lls nl (m.set i l) := by unfold lls; rw [List.map_set]
theorem mm0 (nl : Nat) (m : List (List Int)) (n : Nat) : (lls nl m).take n = lls nl (m.take n) := by unfold lls; rw [List.map_take]
theorem by3 (nl : Nat) (m : List (List Int)) (n : Nat) : (lls nl m).drop n = lls nl (m.drop n) := by unfold lls; rw [List.map_drop]
theorem rj0 (nl : Nat) (m : List (List Int)) (n : Nat) : (lvs nl m).take n = lvs nl (m.take n) := by unfold lvs; rw [List.map_take]
theorem ff4 (nl : Nat) (m : List (List Int)) (n : Nat) : (lvs nl m).drop n = lvs nl (m.drop n) := by unfold lvs; rw [List.map_drop]
theorem lz6 : ivs [] = ([] : List Tree) := rfl
theorem x25 (nl : Nat) : lls nl [] = ([] : List Tree) := rfl
@[push_cast] theorem wf0 {q : Int} [h : IsFld q] : isNode (pF q) = true := by
  obtain ⟨p, m, g, mod, hn⟩ := h.ok
  unfold pF; rw [hn]; rfl
@[push_cast] theorem v59 {q : Int} [h : IsFld q] {b : Bool} : ofz b (pF q) = some (.fz b (pF q)) := by
  obtain ⟨p, m, g, mod, hn⟩ := h.ok
  unfold pF; rw [hn]; rfl
attribute [push_cast 50] List.isEmpty_nil List.isEmpty_cons nb9 qf0 lg8 lr8 ng3 mm0 by3 rj0 ff4 fi2 List.map_nil ite_self List.set_cons_zero List.set_cons_succ List.set_nil List.take_zero List.take_nil List.drop_zero List.drop_nil List.take_succ_cons List.drop_succ_cons List.take_length List.length_map List.flatMap_nil List.flatMap_cons gf1 pl3 l78 ap3 so0 nc5 yp5 u42 cs7 Int.natCast_add Int.natCast_one Int.natCast_zero Int.toNat_natCast Nat.div_one Nat.mul_one List.length_set List.all_cons List.all_nil List.length_append List.length_replicate List.length_take List.length_drop Int.zero_add
end Go.Proofs.Ytghfdpdiibiigaa
namespace Go.Proofs.Ytghfdpdiibiigaa
open Go.Am Go.Vm Go.Alg
section
variable {q p m g : Int} [IsFld q] {t : Tree} {b b' : Bool} {nl nl' : Nat}
variable {N : Nat} {P Q : List (List (El q))} {nr nr' : Nat}
end
end Go.Proofs.Ytghfdpdiibiigaa
namespace Go.Proofs.Ytghfdpdiibiigaa
open Go.Am Go.Vm Go.Alg
def jks (n : Nat) : List Tree := List.replicate n .junk
@[push_cast] theorem gc3 (n : Nat) : (jks n).length = n := List.length_replicate ..
def nl0 : Nat → Nat
 | 0 => 1
 | _ + 1 => 0
def nl1 : Nat → Nat
 | 0 => 0
 | _ + 1 => 1
@[push_cast] theorem o09 (n : Nat) : nl0 (n + 1) = 0 := rfl
@[push_cast] theorem m17 (n : Nat) : nl1 (n + 1) = 1 := rfl
@[push_cast] theorem vt2 : nl0 0 = 1 := rfl
@[push_cast] theorem og7 : nl1 0 = 0 := rfl
end Go.Proofs.Ytghfdpdiibiigaa
namespace Go.Proofs.Ytghfdpdiibiigaa
open Go.Am Go.Vm Go.Alg
section
variable {b : Bool} {nl : Nat} {l : List Int}
section
variable {k : FuncId} {t : Tree} {p : Int → Bool}
end
section
variable {k : FuncId} {t : Tree} {p : List Int → Bool} {m : List (List Int)} {nr : Nat} {bl : Bool}
end
end
end Go.Proofs.Ytghfdpdiibiigaa
namespace Go.Proofs.Ytghfdpdiibiigaa
open Go.Am Go.Vm Go.Alg
section
variable {α : Type} {n i at' : Nat} {M : List (List α)}
end
section
variable {q : Int} [IsFld q] {n c i at' : Nat} {M : List (List (El q))}
end
end Go.Proofs.Ytghfdpdiibiigaa
namespace Go.Alg
section
variable {K : Type} [FK K]
end
end Go.Alg
namespace Go.Alg
section
variable {K : Type} [FK K]
def ev : List K → K → K
 | [], _ => 0
 | a :: l, x => a + x * ev l x
def sd (x0 : K) : List K → List K × K
 | [] => ([], 0)
 | [a] => ([], a)
 | a :: b :: l => ((sd x0 (b :: l)).2 :: (sd x0 (b :: l)).1, a + x0 * (sd x0 (b :: l)).2)
theorem w89 (x0 : K) : ∀ l : List K, (sd x0 l).1.length = l.length - 1
 | [] => rfl
 | [a] => rfl
 | a :: b :: l => by
   rw [sd]
   show (sd x0 (b :: l)).1.length + 1 = _
   rw [w89 x0 (b :: l)]; simp
theorem n68 (x0 y : K) : ∀ l : List K, ev l y = (y - x0) * ev (sd x0 l).1 y + (sd x0 l).2
 | [] => by rw [sd, ev, mul_zero, FK.add_zero]
 | [a] => by
   show a + y * 0 = (y - x0) * 0 + a
   rw [mul_zero, mul_zero, FK.add_zero, zero_add]
 | a :: b :: l => by
   rw [ev, n68 x0 y (b :: l), sd]
   show a + y * ((y - x0) * ev (sd x0 (b :: l)).1 y + (sd x0 (b :: l)).2) = (y - x0) * ((sd x0 (b :: l)).2 + y * ev (sd x0 (b :: l)).1 y) + (a + x0 * (sd x0 (b :: l)).2)
   generalize (sd x0 (b :: l)).2 = r
   generalize ev (sd x0 (b :: l)).1 y = e
   rw [FK.mul_add, FK.mul_add, sub_mul y x0 r]
   have h1 : y * ((y - x0) * e) = (y - x0) * (y * e) := by ac_rfl
   rw [h1, sub_eq (y * r)]
   have h2 : y * r + -(x0 * r) + (y - x0) * (y * e) + (a + x0 * r) = a + ((y - x0) * (y * e) + y * r) + (-(x0 * r) + x0 * r) := by ac_rfl
   rw [h2, neg_add, FK.add_zero]
theorem cz6 (x0 : K) (l : List K) : (sd x0 l).2 = ev l x0 := by
 have := n68 x0 x0 l
 rw [sub_self, zero_mul, zero_add] at this
 exact this.symm
theorem rj2 (x0 : K) : ∀ l : List K, (∀ c ∈ (sd x0 l).1, c = 0) → (sd x0 l).2 = 0 → ∀ c ∈ l, c = 0
 | [], _, _, c, hc => by cases hc
 | [a], _, h, c, hc => by
   rw [List.mem_singleton.1 hc]; exact h
 | a :: b :: l, h1, h2, c, hc => by
   rw [sd] at h1 h2
   have hr : (sd x0 (b :: l)).2 = 0 := h1 _ (by simp)
   have ih := rj2 x0 (b :: l) (fun c hc => h1 c (by simp [hc])) hr
   rcases List.mem_cons.1 hc with rfl | hc
   ·rw [hr, mul_zero, FK.add_zero] at h2; exact h2
   ·exact ih c hc
theorem roots : ∀ (xs : List K) (f : List K), xs.Nodup → f.length ≤ xs.length → (∀ x ∈ xs, ev f x = 0) → ∀ c ∈ f, c = 0
 | [], f, _, hl, _ => by
   intro c hc
   rw [List.eq_nil_of_length_eq_zero (Nat.le_zero.1 hl)] at hc; cases hc
 | x0 :: xs, f, hn, hl, hx => by
   rw [List.nodup_cons] at hn
   have h0 := hx x0 (by simp)
   rw [← cz6] at h0
   have hl2 := w89 x0 f
   rw [List.length_cons] at hl
   refine rj2 x0 f (roots xs _ hn.2 (by omega) fun y hy => ?_) h0
   have h1 := n68 x0 y f
   rw [hx y (by simp [hy]), h0, FK.add_zero] at h1
   rcases mul_eq_zero h1.symm with h2 | h2
   ·exact absurd (by rw [← sub_eq_zero.1 h2]; exact hy) hn.1
   ·exact h2
end
end Go.Alg
namespace Go.Alg
section
variable {K : Type} [FK K]
end
end Go.Alg
namespace Go.Proofs.Ytghfdpdiibiigaa
open Go.Am Go.Vm Go.Alg
section
variable {q : Int} {b : Bool} {nl : Nat} {l : List Int}
end
section
variable {q : Int} [IsFld q] {b : Bool} {nl : Nat} {a : List (El q)}
end
end Go.Proofs.Ytghfdpdiibiigaa
namespace Go.Alg
section
variable {K : Type} [FK K]
end
end Go.Alg
namespace Go.Proofs.Ytghfdpdiibiigaa
open Go.Am Go.Vm Go.Alg
section
variable {q : Int} {b b' : Bool} {nl nl' : Nat}
end
end Go.Proofs.Ytghfdpdiibiigaa
namespace Go.Proofs.Ytghfdpdiibiigaa
open Go.Am Go.Vm Go.Alg
section
variable {q : Int} {b b' : Bool} {nl nl' : Nat}
end
end Go.Proofs.Ytghfdpdiibiigaa
namespace Go.Proofs.Ytghfdpdiibiigaa
open Go.Am Go.Vm Go.Alg
end Go.Proofs.Ytghfdpdiibiigaa
namespace Go.Proofs.Ytghfdpdiibiigaa
open Go.Am Go.Vm Go.Alg
def pkI (a n : Int) : Int := (if a < 0 then -(a + 1) else a).tmod n
theorem h58 {a n : Int} (hn : 0 < n) : 0 ≤ pkI a n ∧ pkI a n < n := by
 unfold pkI
 split
 ·exact ⟨Int.tmod_nonneg _ (by omega), Int.tmod_lt_of_pos _ hn⟩
 ·exact ⟨Int.tmod_nonneg _ (by omega), Int.tmod_lt_of_pos _ hn⟩
theorem cl0 {l : List Int} {i : Int} (h0 : 0 ≤ i) (h1 : i < l.length) : (ivs l)[i.toNat]? = some (.v (.int .i64 (gi l i))) := by
 have e : (ivs l)[i.toNat]? = some (.v (.int .i64 (gi l ((i.toNat : Nat) : Int)))) := ui5 (by omega)
 rwa [Int.toNat_of_nonneg h0] at e
section
variable {b : Bool} {nl : Nat} {raw : List Int}
theorem s88 {a n : Int} (h1 : -9223372036854775808 ≤ a) (h2 : a ≤ 9223372036854775807) (hn : 0 < n) : o25 W 9 [.x (.int .i64 a), .x (.int .i64 n)] [] = some (.x (.int .i64 (pkI a n)), [], []) := by
 have hz : ¬ n = 0 := by omega
 rw [o10 rfl T9 rfl]
 unfold F9 c9 pkI
 by_cases h0 : a < 0
 ·rw [if_pos h0]
  simp (disch := first | omega | fail) only [push_cast, seval, ui5, lu7, y81, bj9, wrap64, dec_lt, cw6, nl2, qc6, mr8, nb8, if_pos, if_neg, nb8 hz, hz]
  rw [show (0 : Int) - (a + 1) = -(a + 1) by omega]
 ·rw [if_neg h0]
  simp (disch := first | omega | fail) only [push_cast, seval, ui5, lu7, y81, bj9, wrap64, dec_lt, cw6, nl2, qc6, mr8, nb8, if_pos, if_neg, nb8 hz, hz]
end
theorem hl9 (p : Int) (hp : 2 ≤ p ∧ p ≤ 64) : ∀ (n : Nat) (q m q' m' : Int), 1 ≤ q → q ≤ 64 → 0 ≤ m → m + n ≤ 100 → dvdN n q p m = some (q', m') →
 (1 ≤ q' ∧ q' ≤ 64) ∧ ∀ ks, vgoL W ⟨hNo, [.tmp 2, .tmp 3], 0⟩ [0, 4, 5] c81L0 (.blk 2 [0, 4, 5] :: ks) [(0, .x (.int .i64 q)), (4, .x (.int .i64 p)), (5, .x (.int .i64 m))] [] = vgo W ⟨hNo, [.tmp 2, .tmp 3], 0⟩ ks (VFr.of [(0, .x (.int .i64 q')), (4, .x (.int .i64 p)), (5, .x (.int .i64 m'))]) []
 | 0, q, m, q', m', h1, h2, h3, h4, he => by cases he
 | n + 1, q, m, q', m', h1, h2, h3, h4, he => by
   rw [dvdN] at he
   have hp0 : ¬ p = 0 := by omega
   have q1 : q.tmod p = q % p := Int.tmod_eq_emod_of_nonneg (by omega)
   have q2 : q.tdiv p = q / p := Int.tdiv_eq_ediv_of_nonneg (by omega)
   by_cases hz : q % p = 0
   ·rw [show (q % p == 0) = true by simpa using hz, cond_true] at he
    have hd : 1 ≤ q / p := by
     rcases Int.lt_or_le (q / p) 1 with h | h
     ·have h5 : 0 ≤ q / p := Int.ediv_nonneg (by omega) (by omega)
      have h6 : q / p = 0 := by omega
      have := Int.emod_add_mul_ediv q p
      rw [h6, hz] at this; omega
     ·exact h
    have hd2 : q / p ≤ q := Int.ediv_le_self _ (by omega)
    obtain ⟨hb, ih⟩ := hl9 p hp n (q / p) (m + 1) q' m' hd (by omega) (by omega) (by omega) he
    refine ⟨hb, fun ks => ?_⟩
    rw [← ih ks, sb5 c81L0.eq_def]
    simp (disch := first | omega | fail) only [push_cast, seval, ui5, lu7, y81, bj9, wrap64, dec_lt, cw6, nl2, qc6, mr8, nb8, if_pos, if_neg, hp0, q1, q2, mr8 hz]
   ·rw [show (q % p == 0) = false by simpa using hz, cond_false] at he
    cases he
    refine ⟨⟨h1, h2⟩, fun ks => ?_⟩
    rw [sb5 c81L0.eq_def]
    simp (disch := first | omega | fail) only [push_cast, seval, ui5, lu7, y81, bj9, wrap64, dec_lt, cw6, nl2, qc6, mr8, nb8, if_pos, if_neg, hp0, q1, nb8 hz]
theorem ra6 (q : Int) (hq : 2 ≤ q ∧ q ≤ 64) : ∀ (n : Nat) (p : Int) (r : Int × Int), 2 ≤ p → p ≤ 64 → outN n q p = some r →
 ∀ ks, vgoL W ⟨hNo, [.tmp 2, .tmp 3], 0⟩ [0, 4] c81L1 (.blk 0 [] :: ks) [(0, .x (.int .i64 q)), (4, .x (.int .i64 p))] [] = some (.tup [.x (.int .i64 r.1), .x (.int .i64 r.2)], [], [])
 | 0, p, r, h1, h2, he => by cases he
 | n + 1, p, r, h1, h2, he => fun ks => by
   rw [outN] at he
   by_cases hl : q < p
   ·rw [decide_eq_true hl, cond_true] at he; cases he
   rw [decide_eq_false hl, cond_false] at he
   have hp0 : ¬ p = 0 := by omega
   have q1 : q.tmod p = q % p := Int.tmod_eq_emod_of_nonneg (by omega)
   by_cases hz : q % p = 0
   ·rw [show (q % p == 0) = true by simpa using hz, cond_true] at he
    cases hd : dvdN 64 q p 0 with
    | none => rw [hd] at he; cases he
    | some x =>
      obtain ⟨q', m'⟩ := x
      rw [hd] at he
      simp only [Option.some.injEq] at he
      obtain ⟨hb, hin⟩ := hl9 p ⟨h1, h2⟩ 64 q 0 q' m' (by omega) (by omega) (by omega) (by omega) hd
      rw [sb5 c81L1.eq_def]
      simp (disch := first | omega | fail) only [push_cast, seval, ui5, lu7, y81, bj9, wrap64, dec_lt, cw6, nl2, qc6, mr8, nb8, if_pos, if_neg, hp0, q1, mr8 hz]
      rw [hin]
      by_cases ho : q' = 1
      ·rw [show (q' == 1) = true by simpa using ho, cond_true] at he
       rw [← he]
       simp (disch := first | omega | fail) only [push_cast, seval, ui5, lu7, y81, bj9, wrap64, dec_lt, cw6, nl2, qc6, mr8, nb8, if_pos, if_neg, mr8 ho]
      ·rw [show (q' == 1) = false by simpa using ho, cond_false] at he
       rw [← he]
       simp (disch := first | omega | fail) only [push_cast, seval, ui5, lu7, y81, bj9, wrap64, dec_lt, cw6, nl2, qc6, mr8, nb8, if_pos, if_neg, nb8 ho]
   ·rw [show (q % p == 0) = false by simpa using hz, cond_false] at he
    by_cases hp64 : p = 64
    ·subst hp64; omega
    have ih := ra6 q hq n (p + 1) r (by omega) (by omega) he ks
    rw [← ih, sb5 c81L1.eq_def]
    simp (disch := first | omega | fail) only [push_cast, seval, ui5, lu7, y81, bj9, wrap64, dec_lt, cw6, nl2, qc6, mr8, nb8, if_pos, if_neg, hp0, q1, nb8 hz]
theorem fh8 {q : Int} (hq : 2 ≤ q ∧ q ≤ 64) {r : Int × Int} (he : outN 64 q 2 = some r) : o25 W 81 [.x (.int .i64 q)] [] = some (.tup [.x (.int .i64 r.1), .x (.int .i64 r.2)], [], []) := by
 rw [o10 rfl T81 rfl]
 unfold F81 c81
 simp (disch := first | omega | fail) only [push_cast, seval, ui5, lu7, y81, bj9, wrap64, dec_lt, cw6, nl2, qc6, mr8, nb8, if_pos, if_neg]
 rw [ra6 q hq 64 2 r (by omega) (by omega) he]
def szN : Nat → Nat → List Int
 | 0, _ => []
 | n + 1, q => bif (fldN q).isSome then (q : Int) :: szN n (q + 1) else szN n (q + 1)
def szL : List Int := szN 63 2
theorem pb4 : szL.length = 27 := by kernel_rfl
theorem ho6 : (szL.all fun z => decide (2 ≤ z) && decide (z ≤ 64) && (fldN z.toNat).isSome) = true := by kernel_rfl
theorem x14 {z : Int} (hz : z ∈ szL) : 2 ≤ z ∧ z ≤ 64 ∧ IsFld z := by
 have := List.all_eq_true.1 ho6 z hz
 simp only [Bool.and_eq_true, decide_eq_true_eq] at this
 obtain ⟨⟨h1, h2⟩, h3⟩ := this
 obtain ⟨⟨p, m, g, mod⟩, hx⟩ := Option.isSome_iff_exists.1 h3
 exact ⟨h1, h2, ⟨p, m, g, mod, hx⟩⟩
theorem jl0 : ∀ (n q : Nat) (zs : List Int), q + n = 65 → 2 ≤ q → zs.length ≤ q → ∀ ks,
 vgoL W ⟨h54, [.tmp 0], 0⟩ [1, 2] c54L0 (.blk 0 [1] :: ks) [(1, .own 0 []), (2, .x (.int .i64 q))] [.sl 1 3 1 (ivs zs)] = vgo W ⟨h54, [.tmp 0], 0⟩ ks (VFr.of [(1, .own 0 [])]) [.sl 1 3 1 (ivs (zs ++ szN n q))]
 | 0, q, zs, hq, hq2, hz, ks => by
   rw [szN, List.append_nil, sb5 c54L0.eq_def]
   simp (disch := first | omega | fail) only [push_cast, seval, ui5, lu7, y81, bj9, wrap64, dec_lt, cw6, nl2, qc6, mr8, nb8, if_pos, if_neg]
 | n + 1, q, zs, hq, hq2, hz, ks => by
   have hle : (q : Int) ≤ 64 := by omega
   cases hs : fldN q with
   | none =>
     have ho := wd5 (n := q) hq2 (by omega) hs
     have ep := fh8 (q := (q : Int)) (by omega) ho
     have ih := jl0 n (q + 1) zs (by omega) (by omega) (by omega) ks
     have hw : zs ++ szN (n + 1) q = zs ++ szN n (q + 1) := by rw [szN, hs]; rfl
     rw [Int.natCast_add, Int.natCast_one] at ih
     rw [hw, ← ih, sb5 c54L0.eq_def]
     simp (disch := first | omega | fail) only [push_cast, seval, ui5, lu7, y81, bj9, wrap64, dec_lt, cw6, nl2, qc6, mr8, nb8, if_pos, if_neg, ep, decide_false, Int.lt_irrefl]
   | some x =>
     obtain ⟨p, m, g, mod⟩ := x
     obtain ⟨hf, ho, _⟩ := hi9 hs
     have hp2 := hf.p2
     have hpp : 0 < p := by omega
     have ep := fh8 (q := (q : Int)) (by omega) ho
     have ih := jl0 n (q + 1) (zs ++ [(q : Int)]) (by omega) (by omega) (by simp; omega) ks
     have hw : zs ++ szN (n + 1) q = zs ++ [(q : Int)] ++ szN n (q + 1) := by rw [szN, hs]; simp
     rw [Int.natCast_add, Int.natCast_one] at ih
     rw [hw, ← ih, sb5 c54L0.eq_def]
     simp (disch := first | omega | fail) only [push_cast, seval, ui5, lu7, y81, bj9, wrap64, dec_lt, cw6, nl2, qc6, mr8, nb8, if_pos, if_neg, ep, dec_lt hpp]
theorem n63 : o25 W 54 [] [] = some (.own 0 [], [.sl 1 3 1 (ivs szL)], []) := by
 have e := fun ks => jl0 63 2 [] rfl (by omega) (by simp) ks
 rw [List.nil_append, show ((2 : Nat) : Int) = 2 from rfl] at e
 simp only [Int.natCast_zero, List.take_zero, List.drop_zero, rp2, lz6, x25, List.map_nil, List.length_nil] at e
 rw [o10 rfl T54 rfl]
 unfold F54 c54
 simp (disch := first | omega | fail) only [push_cast, seval, ui5, lu7, y81, bj9, wrap64, dec_lt, cw6, nl2, qc6, mr8, nb8, if_pos, if_neg]
 rw [e]
 simp (disch := first | omega | fail) only [push_cast, seval, ui5, lu7, y81, bj9, wrap64, dec_lt, cw6, nl2, qc6, mr8, nb8, if_pos, if_neg]
 rfl
theorem hl8 {i : Int} (h0 : 0 ≤ i) (h1 : i < 27) : gi szL i ∈ szL ∧ (ivs szL)[i.toNat]? = some (.v (.int .i64 (gi szL i))) := by
 have hl := pb4
 have h2 := cl0 (l := szL) h0 (by omega)
 refine ⟨?_, h2⟩
 have h3 : i.toNat < szL.length := by omega
 have : gi szL i = szL[i.toNat] := by
  rw [show (ivs szL)[i.toNat]? = some (.v (.int .i64 (szL[i.toNat]))) from by unfold ivs; rw [List.getElem?_map, List.getElem?_eq_getElem h3]; rfl] at h2
  simpa using h2.symm
 rw [this]
 exact List.getElem_mem h3
theorem jx7 (c : Int) (h1 : -9223372036854775808 ≤ c) (h2 : c ≤ 9223372036854775807) : ∃ z, z ∈ szL ∧ o25 W 33 [.x (.int .i64 c)] [] = some (.x (.int .i64 z), [], []) := by
 have e1 := n63
 have hl := pb4
 have e2 := s88 (a := c) (n := 100) h1 h2 (by omega)
 have r1 := h58 (a := c) (n := 100) (by omega)
 generalize pkI c 100 = k at e2 r1
 by_cases hk : k < 60
 ·have r2 : 0 ≤ k.tmod 7 ∧ k.tmod 7 < 7 := ⟨Int.tmod_nonneg _ r1.1, Int.tmod_lt_of_pos _ (by decide)⟩
  have a1 := hl8 (i := k.tmod 7) r2.1 (by omega)
  refine ⟨_, a1.1, ?_⟩
  have a2 := a1.2
  rw [o10 rfl T33 rfl]
  unfold F33 c33
  simp (disch := first | omega | fail) only [push_cast, seval, ui5, lu7, y81, bj9, wrap64, dec_lt, cw6, nl2, qc6, mr8, nb8, if_pos, if_neg, e1, e2, hl, a2]
 ·have r3 : -9223372036854775808 ≤ c.tdiv 100 ∧ c.tdiv 100 ≤ 9223372036854775807 := by
   rcases Int.le_total 0 c with h | h
   ·rw [Int.tdiv_eq_ediv_of_nonneg h]; omega
   ·have : c.tdiv 100 = -((-c).tdiv 100) := by rw [Int.neg_tdiv, Int.neg_neg]
    rw [this, Int.tdiv_eq_ediv_of_nonneg (by omega)]; omega
  have e3 := s88 (a := c.tdiv 100) (n := 27) r3.1 r3.2 (by omega)
  have r4 := h58 (a := c.tdiv 100) (n := 27) (by omega)
  have a1 := hl8 (i := pkI (c.tdiv 100) 27) r4.1 r4.2
  refine ⟨_, a1.1, ?_⟩
  have a2 := a1.2
  rw [o10 rfl T33 rfl]
  unfold F33 c33
  simp (disch := first | omega | fail) only [push_cast, seval, ui5, lu7, y81, bj9, wrap64, dec_lt, cw6, nl2, qc6, mr8, nb8, if_pos, if_neg, e1, e2, hl, e3, a2]
end Go.Proofs.Ytghfdpdiibiigaa
namespace Go.Proofs.Ytghfdpdiibiigaa
open Go.Am Go.Vm Go.Alg
section
variable {l : List Int} {nl : Nat} {b : Bool} {x : Int}
end
end Go.Proofs.Ytghfdpdiibiigaa
namespace Go.Alg
section
variable {K : Type} [FK K]
theorem y46 {α β : Type} (f : α × β → K) : ∀ (l : List α) (l' : List β), l.length = l'.length → ∀ l2 l2', sumL ((l ++ l2).zip (l' ++ l2')) f = sumL (l.zip l') f + sumL (l2.zip l2') f := fun l l' h l2 l2' => by
 rw [List.zip_append h, up0]
theorem uj4 {α β γ : Type} (g : β → γ) (f : α × γ → K) : ∀ (l : List α) (l' : List β), sumL (l.zip (l'.map g)) f = sumL (l.zip l') (fun p => f (p.1, g p.2))
 | [], _ => rfl
 | _ :: _, [] => rfl
 | a :: l, b :: l' => by rw [List.map_cons, List.zip_cons_cons, List.zip_cons_cons, gb6, gb6, uj4 g f l l']
theorem hom : ∀ (r : Nat) (S : List (Nat → K)), r < S.length → ∃ y : List K, y.length = S.length ∧ (∃ a ∈ y, a ≠ 0) ∧ ∀ j, j < r → sumL (y.zip S) (fun p => p.1 * p.2 j) = 0
 | 0, S, h => by
   refine ⟨List.replicate S.length 1, List.length_replicate, ⟨1, List.mem_replicate.2 ⟨by omega, rfl⟩, ki7⟩, fun j hj => absurd hj (Nat.not_lt_zero j)⟩
 | r + 1, S, h => by
   by_cases hs : ∃ s ∈ S, s r ≠ 0
   ·obtain ⟨s, hs, hne⟩ := hs
    obtain ⟨S1, S2, rfl⟩ := List.append_of_mem hs
    have hl : r < ((S1 ++ S2).map (fun (t : Nat → K) j => t j - t r * FK.inv (s r) * s j)).length := by
     simp only [List.length_map, List.length_append, List.length_cons] at h ⊢; omega
    obtain ⟨y, y1, ⟨a, y2, y3⟩, y4⟩ := hom r _ hl
    rw [List.length_map, List.length_append] at y1
    have hsp : y = y.take S1.length ++ y.drop S1.length := (List.take_append_drop _ _).symm
    have h1 : (y.take S1.length).length = S1.length := by rw [List.length_take]; omega
    have h2 : (y.drop S1.length).length = S2.length := by rw [List.length_drop]; omega
    generalize y.take S1.length = u at hsp h1
    generalize y.drop S1.length = w at hsp h2
    subst hsp
    have hsum : ∀ (c : K) j, sumL ((u ++ c :: w).zip (S1 ++ s :: S2)) (fun p => p.1 * p.2 j) = sumL ((u ++ w).zip (S1 ++ S2)) (fun p => p.1 * p.2 j) + c * s j := fun c j => by
     rw [y46 _ _ _ h1, y46 _ _ _ h1, List.zip_cons_cons, gb6, FK.add_assoc, FK.add_comm (sumL (w.zip S2) _)]
    refine ⟨u ++ -(sumL ((u ++ w).zip (S1 ++ S2)) (fun p => p.1 * p.2 r) * FK.inv (s r)) :: w, ?_, ⟨a, ?_, y3⟩, fun j hj => ?_⟩
    ·simp only [List.length_append, List.length_cons, h1, h2]
    ·simp only [List.mem_append, List.mem_cons] at y2 ⊢
     rcases y2 with y2 | y2
     ·exact .inl y2
     ·exact .inr (.inr y2)
    ·rw [hsum]
     by_cases hjr : j = r
     ·subst hjr
      rw [neg_mul, FK.mul_assoc, inv_mul hne, FK.mul_one, FK.add_neg]
     ·have h3 := y4 j (by omega)
      rw [uj4] at h3
      have h4 : sumL ((u ++ w).zip (S1 ++ S2)) (fun p => p.1 * (p.2 j - p.2 r * FK.inv (s r) * s j)) = sumL ((u ++ w).zip (S1 ++ S2)) (fun p => p.1 * p.2 j) - sumL ((u ++ w).zip (S1 ++ S2)) (fun p => p.1 * p.2 r) * FK.inv (s r) * s j := by
       rw [← ue3, ← ue3, ← b15]
       refine ox7 fun p _ => ?_
       rw [mul_sub, ← FK.mul_assoc, ← FK.mul_assoc]
      have h3 : sumL ((u ++ w).zip (S1 ++ S2)) (fun p => p.1 * (p.2 j - p.2 r * FK.inv (s r) * s j)) = 0 := h3
      rw [h4] at h3
      rw [neg_mul, ← sub_eq, h3]
   ·obtain ⟨y, y1, y2, y3⟩ := hom r S (by omega)
    refine ⟨y, y1, y2, fun j hj => ?_⟩
    by_cases hjr : j = r
    ·subst hjr
     refine tx6 fun p hp => ?_
     have : p.2 j = 0 := Classical.byContradiction fun hne => hs ⟨p.2, (List.of_mem_zip hp).2, hne⟩
     rw [this, mul_zero]
    ·exact y3 j (by omega)
end
section
variable {K : Type} [FK K] {n : Nat}
section
variable {A : List (Nat × List K)} (hr : Rref n (toF A))
include hr
end
end
end Go.Alg
namespace Go.Alg
section
variable {K : Type} [FK K]
open Classical in
end
end Go.Alg
namespace Go.Alg
section
variable {K : Type} [FK K] {n : Nat}
end
end Go.Alg
namespace Go.Alg
section
variable {K : Type} [FK K]
end
end Go.Alg
namespace Go.Proofs.Ytghfdpdiibiigaa
open Go.Am Go.Vm Go.Alg
theorem hg9 {q : Int} [h : IsFld q] {b : Bool} {R : Rts} : wb3 R 1 (.fz b (pF q)) = some false := by
 obtain ⟨p, m, g, mod, hn⟩ := h.ok
 unfold pF; rw [hn]; rfl
theorem oe1 {q : Int} [h : IsFld q] : 2 ≤ fch q := by
 obtain ⟨p, m, g, mod, hn⟩ := h.ok
 obtain ⟨h2, _⟩ := ug0 hn
 rw [(y65 hn).1]
 exact ((hi9 hn).1).p2
theorem vr7 {c : Int} (h1 : -9223372036854775808 ≤ c) (h2 : c ≤ 9223372036854775807) : ∃ z, z ∈ szL ∧ o25 W 19 [.x (.int .i64 c)] [] = some (.fz true (pF z), [], []) := by
 obtain ⟨z, hz, e0⟩ := jx7 c h1 h2
 obtain ⟨z1, z2, hfz⟩ := x14 hz
 haveI := hfz
 have hc := oe1 (q := z)
 refine ⟨z, hz, ?_⟩
 rw [o10 rfl T19 rfl]
 unfold F19 c19
 simp (disch := first | omega | fail) only [push_cast, seval, ui5, lu7, y81, bj9, wrap64, dec_lt, cw6, nl2, qc6, mr8, nb8, if_pos, if_neg, e0, hg9]
section
variable {raw : List Int} {b : Bool} {nl : Nat}
end
section
variable {a c : List Int} {b b' : Bool} {nl nl' : Nat}
end
end Go.Proofs.Ytghfdpdiibiigaa
namespace Go.Proofs.Ytghfdpdiibiigaa
open Go.Am Go.Vm Go.Alg
theorem gf5 {z : Int} [IsFld z] (a : Int) : ∃ x : El z, pkI a z = x.v := by
 have hk := h58 (a := a) (n := z) (by have := aw0 (q := z); omega)
 exact ⟨⟨pkI a z, hk.1, hk.2⟩, rfl⟩
theorem ks3 {z : Int} : finv z 0 = -1 := by
 unfold finv
 cases fok z 0 <;> rfl
theorem uo1 {z : Int} [h : IsFld z] {x : El z} (hx : x.v ≠ 0) : fpow z (fgn z) (dy0 z x.v) = x.v := by
 obtain ⟨p, m, g, mod, hn⟩ := h.ok
 obtain ⟨hf, t, g1, g2⟩ := jj8 hn
 have h2 := hf.q2
 have hx1 := x.lo
 have hx2 := x.hi
 have l1 := t.lr x.v (by omega) hx2
 rw [kb7 hn, dy0, x.ok, cond_true, fpow, iy2 ⟨by omega, g2⟩, show (g == 0) = false by simp; omega]
 have h1 : fexp z (flog z g * (flog z x.v % (z - 1)) % (z - 1)) = x.v := by
  rw [t.lg, ← Int.mul_emod, Int.one_mul, Int.emod_eq_of_lt l1.1 l1.2.1, l1.2.2]
 cases h0 : flog z x.v == 0 with
 | true =>
   have h0 : flog z x.v = 0 := by simpa using h0
   have e := l1.2.2
   rw [h0, t.e0] at e
   exact e
 | false => exact h1
theorem nk7 {q a c d : Int} (q1 : -9223372036854775808 ≤ q) (q2 : q ≤ 9223372036854775807) (a1 : -9223372036854775808 ≤ a) (a2 : a ≤ 9223372036854775807) (c1 : -9223372036854775808 ≤ c) (c2 : c ≤ 9223372036854775807) (d1 : -9223372036854775808 ≤ d) (d2 : d ≤ 9223372036854775807) :
 o25 W 4 [.x (.int .i64 q), .x (.int .i64 a), .x (.int .i64 c), .x (.int .i64 d)] [] = some (.x (.bool true), [], []) := by
 obtain ⟨z, hz, e0⟩ := vr7 q1 q2
 obtain ⟨z1, z2, hfz⟩ := x14 hz
 haveI := hfz
 have zp : (0 : Int) < z := by omega
 have p1 := s88 a1 a2 zp
 have p2 := s88 c1 c2 zp
 have p3 := s88 d1 d2 zp
 obtain ⟨x, hx⟩ := gf5 (z := z) a
 obtain ⟨y, hy⟩ := gf5 (z := z) c
 obtain ⟨w, hw⟩ := gf5 (z := z) d
 rw [hx] at p1
 rw [hy] at p2
 rw [hw] at p3
 have f1 : fadd z y.v x.v = fadd z x.v y.v := congrArg El.v (FK.add_comm y x)
 have f2 : fmul z y.v x.v = fmul z x.v y.v := congrArg El.v (FK.mul_comm y x)
 have f3 : fadd z (fadd z x.v y.v) w.v = fadd z x.v (fadd z y.v w.v) := congrArg El.v (FK.add_assoc x y w)
 have f4 : fmul z (fmul z x.v y.v) w.v = fmul z x.v (fmul z y.v w.v) := congrArg El.v (FK.mul_assoc x y w)
 have f5 : fmul z x.v (fadd z y.v w.v) = fadd z (fmul z x.v y.v) (fmul z x.v w.v) := congrArg El.v (FK.mul_add x y w)
 have f6 : fadd z x.v 0 = x.v := congrArg El.v (FK.add_zero x)
 have f7 : fmul z x.v 1 = x.v := congrArg El.v (FK.mul_one x)
 have f8 : fadd z x.v (fneg z x.v) = 0 := congrArg El.v (FK.add_neg x)
 have f9 : fsub z (fadd z x.v y.v) y.v = x.v := congrArg El.v (show (x + y) + -y = x by rw [FK.add_assoc, FK.add_neg, FK.add_zero])
 have n1 : pF z ≠ pF z → False := fun h => h rfl
 rw [o10 rfl T4 rfl]
 unfold F4 c4
 by_cases h0 : x.v = 0
 ·have f0 := ks3 (z := z)
  rw [h0] at p1 f1 f2 f3 f4 f5 f6 f7 f8 f9
  simp (disch := first | omega | fail) only [push_cast, seval, ui5, lu7, y81, bj9, wrap64, dec_lt, cw6, nl2, qc6, mr8, nb8, if_pos, if_neg, e0, hg9, p1, p2, p3, f0, f1, f2, f3, f4, f5, f6, f7, f8, f9]
 ·have g0 := uo1 h0
  have g1 : fmul z x.v (finv z x.v) = 1 := by
   obtain ⟨p, m, g, mod, hn⟩ := hfz.ok
   obtain ⟨hf, t, _⟩ := jj8 hn
   exact (d12 t hf.q2 (a := x.v) ⟨by have := x.lo; omega, x.hi⟩).2
  have g2 := bh9 x h0
  have g3 : ¬ finv z x.v = -1 := by omega
  simp (disch := first | omega | fail) only [push_cast, seval, ui5, lu7, y81, bj9, wrap64, dec_lt, cw6, nl2, qc6, mr8, nb8, if_pos, if_neg, e0, hg9, p1, p2, p3, f1, f2, f3, f4, f5, f6, f7, f8, f9, g0, g1, nb8 g3, nb8 h0]
end Go.Proofs.Ytghfdpdiibiigaa
namespace Go.Proofs.Ytghfdpdiibiigaa
open Go.Am Go.Vm Go.Alg
section
variable {h : H} {l : List AV} {ws : List Value}
theorem a23 : Vm.VRL h [] (allZ h) (allZ h) [] [] := by rw [Vm.VRL]
theorem dp0 (r : Vm.VRL h [] (allZ h) (allZ h) l ws) (v : Value) : Vm.VRL h [] (allZ h) (allZ h) (.x v :: l) (v :: ws) := by
 rw [Vm.VRL]; exact ⟨v, ws, rfl, by rw [Vm.VR], r⟩
end
end Go.Proofs.Ytghfdpdiibiigaa
namespace Go.Proofs.Ytghfdpdiibiigaa
open Go.Am Go.Vm Go.Alg
theorem ff5 (h : H) (a0 : Int) (_ : -9223372036854775808 ≤ a0) (_ : a0 ≤ 9223372036854775807) (a1 : Int) (_ : -9223372036854775808 ≤ a1) (_ : a1 ≤ 9223372036854775807) (a2 : Int) (_ : -9223372036854775808 ≤ a2) (_ : a2 ≤ 9223372036854775807) (a3 : Int) (_ : -9223372036854775808 ≤ a3) (_ : a3 ≤ 9223372036854775807) :
 ∃ h', call T 4 [.int .i64 a0, .int .i64 a1, .int .i64 a2, .int .i64 a3] h = some (.bool true, h') :=
 vlaw lw2 (dp0 (dp0 (dp0 (dp0 a23 _) _) _) _) (by apply nk7 <;> assumption)
end Go.Proofs.Ytghfdpdiibiigaa
