/-
  The fields of the table are fields. No condition. What is known of fields in the first machine, for the second. No condition. What rows span; their one form. No condition. Rows one by one into what there is, in plain Lean: its form, what it spans; equations. Condition: rows of one length. Rows column by column, in plain Lean: the one form comes out of this too. Condition: rows of one length. What  ..
-/
import Derived.Test.YtghfdpdiibiigaaK5
import Derived.Test.YtghfdpdiibiigaaKAD
import Derived.Test.YtghfdpdiibiigaaK4
import Derived.WalkKit
set_option linter.unusedVariables false
set_option linter.unusedSimpArgs false
set_option linter.unusedSectionVars false
set_option maxRecDepth 100000
namespace Go.Proofs.Ytghfdpdiibiigaa
open Go.Am Go.Alg
theorem ej5 {p d T : Int} (h0 : 0 ≤ d) (h1 : d < p) : (d + p * T) % p = d ∧ (d + p * T) / p = T := by
 constructor
 ·rw [Int.add_mul_emod_self_left, Int.emod_eq_of_lt h0 h1]
 ·rw [Int.add_mul_ediv_left _ _ (by omega), Int.ediv_eq_zero_of_lt h0 h1, Int.zero_add]
theorem t47 (p : Int) : ∀ (n : Nat) (a b : Int), addN p n a b = addN p n b a
 | 0, _, _ => rfl
 | n + 1, a, b => by rw [addN, addN, t47 p n, Int.add_comm (a % p)]
theorem mk9 {p : Int} (hp : 0 < p) : ∀ (n : Nat) (a b c : Int), addN p n (addN p n a b) c = addN p n a (addN p n b c)
 | 0, _, _, _ => rfl
 | n + 1, a, b, c => by
   have d1 := ej5 (T := addN p n (a / p) (b / p)) (Int.emod_nonneg (a % p + b % p) (show p ≠ 0 by omega)) (Int.emod_lt_of_pos (a % p + b % p) hp)
   have d2 := ej5 (T := addN p n (b / p) (c / p)) (Int.emod_nonneg (b % p + c % p) (show p ≠ 0 by omega)) (Int.emod_lt_of_pos (b % p + c % p) hp)
   have e0 : ∀ x y : Int, addN p (n + 1) x y = (x % p + y % p) % p + p * addN p n (x / p) (y / p) := fun _ _ => rfl
   rw [e0 (addN p (n + 1) a b) c, e0 a (addN p (n + 1) b c), e0 a b, e0 b c, d1.1, d1.2, d2.1, d2.2, mk9 hp n]
   simp only [Int.emod_add_emod, Int.add_emod_emod, Int.add_assoc]
theorem ns9 {p : Int} (hp : 0 < p) : ∀ (n : Nat) (a : Int), 0 ≤ a → a < p ^ n → addN p n a 0 = a
 | 0, a, h0, h1 => by rw [Int.pow_zero] at h1; show (0 : Int) = a; omega
 | n + 1, a, h0, h1 => by
   rw [Int.pow_succ] at h1
   rw [addN, Int.zero_emod, Int.zero_ediv, Int.add_zero, Int.emod_emod, ns9 hp n (a / p) (Int.ediv_nonneg h0 (by omega)) (Int.ediv_lt_of_lt_mul hp h1)]
   exact Int.emod_add_mul_ediv a p
theorem ju5 {p : Int} (hp : 0 < p) : ∀ (n : Nat) (a : Int), addN p n a (negN p n a) = 0
 | 0, _ => rfl
 | n + 1, a => by
   have d1 := ej5 (T := negN p n (a / p)) (Int.emod_nonneg (p - a % p) (show p ≠ 0 by omega)) (Int.emod_lt_of_pos (p - a % p) hp)
   have e0 : ∀ x y : Int, addN p (n + 1) x y = (x % p + y % p) % p + p * addN p n (x / p) (y / p) := fun _ _ => rfl
   have e1 : negN p (n + 1) a = (p - a % p) % p + p * negN p n (a / p) := rfl
   rw [e0, e1, d1.1, d1.2, ju5 hp n, Int.add_emod_emod, show a % p + (p - a % p) = p by omega, Int.emod_self]
   omega
section
variable {q p g : Int} {m : Nat} {mod : List Int}
theorem c67 (hn : fldN q.toNat = some (p, m, g, mod)) {b c : Int} (hb : 0 ≤ b ∧ b < q) (hc : 0 ≤ c ∧ c < q) : fmul q g (addN p m b c) = addN p m (fmul q g b) (fmul q g c) := by
 obtain ⟨h2, h64⟩ := ug0 hn
 have h := List.all_eq_true.1 hm8 (q.toNat - 2) (List.mem_range.2 (by omega))
 rw [show q.toNat - 2 + 2 = q.toNat by omega] at h
 unfold ud5 at h
 rw [hn] at h
 simp only [List.all_eq_true, List.mem_range, decide_eq_true_eq] at h
 have := h b.toNat (by omega) c.toNat (by omega)
 rwa [show ((q.toNat : Nat) : Int) = q by omega, show ((b.toNat : Nat) : Int) = b by omega, show ((c.toNat : Nat) : Int) = c by omega] at this
end
class IsFld (q : Int) : Prop where
 ok : ∃ p m g mod, fldN q.toNat = some (p, m, g, mod)
structure El (q : Int) where
 v : Int
 lo : 0 ≤ v
 hi : v < q
theorem El.ext' {q : Int} {a b : El q} (h : a.v = b.v) : a = b := by
 obtain ⟨a, h1, h2⟩ := a
 obtain ⟨b, h3, h4⟩ := b
 cases h; rfl
instance {q : Int} : DecidableEq (El q) := fun a b => if h : a.v = b.v then .isTrue (El.ext' h) else .isFalse fun e => h (e ▸ rfl)
theorem jj8 {q p g : Int} {m : Nat} {mod : List Int} (hn : fldN q.toNat = some (p, m, g, mod)) : FOk q p m mod ∧ Tabs q g ∧ 1 ≤ g ∧ g < q := by
 obtain ⟨h2, h64⟩ := ug0 hn
 have h := hi9 hn
 rw [show ((q.toNat : Nat) : Int) = q by omega] at h
 exact ⟨h.1, cb4 hn, h.2.2.1, h.2.2.2.1⟩
theorem El.ok {q : Int} (a : El q) : fok q a.v = true := iy2 ⟨a.lo, a.hi⟩
theorem do9 {q p g : Int} {m : Nat} {mod : List Int} (hn : fldN q.toNat = some (p, m, g, mod)) (a b : El q) : fadd q a.v b.v = addN p m a.v b.v := by
 rw [fadd, a.ok, b.ok, (y65 hn).1, (y65 hn).2]; rfl
theorem pu7 {q p g : Int} {m : Nat} {mod : List Int} (hn : fldN q.toNat = some (p, m, g, mod)) (a : El q) : fneg q a.v = negN p m a.v := by
 rw [fneg, a.ok, (y65 hn).1, (y65 hn).2]; rfl
section
variable {q : Int} [hq : IsFld q]
theorem aw0 : 2 ≤ q := by
 obtain ⟨p, m, g, mod, hn⟩ := hq.ok
 exact (jj8 hn).1.q2
theorem wg2 (a b : El q) : 0 ≤ fadd q a.v b.v ∧ fadd q a.v b.v < q := by
 obtain ⟨p, m, g, mod, hn⟩ := hq.ok
 have hf := (jj8 hn).1
 have := hf.p2
 have hb := kq3 (p := p) (by omega) m a.v b.v
 rw [hf.pm] at hb
 rw [do9 hn]; exact hb
theorem ca9 (a : El q) : 0 ≤ fneg q a.v ∧ fneg q a.v < q := by
 obtain ⟨p, m, g, mod, hn⟩ := hq.ok
 have hf := (jj8 hn).1
 have := hf.p2
 have hb := ul1 (p := p) (by omega) m a.v
 rw [hf.pm] at hb
 rw [pu7 hn]; exact hb
theorem jo8 (a b : El q) : 0 ≤ fmul q a.v b.v ∧ fmul q a.v b.v < q := by
 obtain ⟨p, m, g, mod, hn⟩ := hq.ok
 obtain ⟨hf, t, _⟩ := jj8 hn
 have h2 := hf.q2
 rw [fmul, a.ok, b.ok]
 cases h0 : (a.v == 0) || (b.v == 0) with
 | true => exact ⟨Int.le_refl _, by show (0 : Int) < q; omega⟩
 | false =>
   have := zd3 t h2 (flog q a.v + flog q b.v)
   exact ⟨by show 0 ≤ fexp q _; omega, this.2.1⟩
theorem bh9 (a : El q) (h : a.v ≠ 0) : 0 ≤ finv q a.v ∧ finv q a.v < q := by
 obtain ⟨p, m, g, mod, hn⟩ := hq.ok
 obtain ⟨hf, t, _⟩ := jj8 hn
 have := (d12 t hf.q2 (a := a.v) ⟨by have := a.lo; omega, a.hi⟩).1
 exact ⟨by omega, this.2⟩
instance : Zero (El q) := ⟨⟨0, Int.le_refl _, by have := aw0 (q := q); omega⟩⟩
instance : One (El q) := ⟨⟨1, by omega, by have := aw0 (q := q); omega⟩⟩
instance : Add (El q) := ⟨fun a b => ⟨fadd q a.v b.v, (wg2 a b).1, (wg2 a b).2⟩⟩
instance : Mul (El q) := ⟨fun a b => ⟨fmul q a.v b.v, (jo8 a b).1, (jo8 a b).2⟩⟩
instance : Neg (El q) := ⟨fun a => ⟨fneg q a.v, (ca9 a).1, (ca9 a).2⟩⟩
theorem hc8 : (0 : El q).v = 0 := rfl
theorem wh3 : (1 : El q).v = 1 := rfl
theorem on0 (a b : El q) : (a + b).v = fadd q a.v b.v := rfl
theorem ym6 (a b : El q) : (a * b).v = fmul q a.v b.v := rfl
theorem tg5 (a : El q) : (-a).v = fneg q a.v := rfl
theorem r57 {a : El q} : a.v = 0 ↔ a = 0 := ⟨fun h => El.ext' h, fun h => by rw [h]; rfl⟩
theorem a59 (a b : El q) : a * b = b * a := El.ext' (by
 rw [ym6, ym6, fmul, fmul, a.ok, b.ok, Bool.or_comm, Int.add_comm])
theorem qc3 (a : El q) : a * 0 = 0 := El.ext' (by
 rw [ym6, fmul, a.ok, (0 : El q).ok, hc8, show ((0 : Int) == 0) = true from rfl, Bool.or_true]; rfl)
theorem du6 (a : El q) : a * 1 = a := El.ext' (by
 obtain ⟨p, m, g, mod, hn⟩ := hq.ok
 obtain ⟨hf, t, _⟩ := jj8 hn
 have h2 := hf.q2
 rw [ym6, wh3]
 by_cases h0 : a.v = 0
 ·rw [fmul, a.ok, show fok q 1 = true from (1 : El q).ok, h0]; rfl
 ·have ha : 1 ≤ a.v ∧ a.v < q := ⟨by have := a.lo; omega, a.hi⟩
  have h1 := (t.er 0 (by omega) (by omega)).2.2
  rw [t.e0] at h1
  have h3 := t.lr a.v ha.1 ha.2
  rw [js7 t ha ⟨by omega, by omega⟩, h1, Int.add_zero, Int.emod_eq_of_lt h3.1 h3.2.1, h3.2.2])
theorem wj9 (a b c : El q) : a * b * c = a * (b * c) := by
 by_cases ha : a = 0
 ·rw [ha, a59 0 b, qc3, a59 0 c, qc3, a59 0, qc3]
 by_cases hb : b = 0
 ·rw [hb, qc3, a59 0 c, qc3, qc3]
 by_cases hc : c = 0
 ·rw [hc, qc3, qc3, qc3]
 refine El.ext' ?_
 obtain ⟨p, m, g, mod, hn⟩ := hq.ok
 obtain ⟨hf, t, _⟩ := jj8 hn
 have h2 := hf.q2
 have ne : ∀ x : El q, x ≠ 0 → 1 ≤ x.v ∧ x.v < q := fun x hx => ⟨by have := x.lo; have : x.v ≠ 0 := fun h => hx (r57.1 h); omega, x.hi⟩
 have h1 := zd3 t h2 (flog q a.v + flog q b.v)
 have h3 := zd3 t h2 (flog q b.v + flog q c.v)
 rw [ym6, ym6, ym6, ym6, js7 t (ne a ha) (ne b hb), js7 t (ne b hb) (ne c hc), js7 t ⟨h1.1, h1.2.1⟩ (ne c hc), js7 t (ne a ha) ⟨h3.1, h3.2.1⟩, h1.2.2, h3.2.2, Int.emod_add_emod, Int.add_emod_emod, Int.add_assoc]
theorem sd1 (a b c : El q) : a * (b + c) = a * b + a * c := by
 obtain ⟨p, m, g, mod, hn⟩ := hq.ok
 obtain ⟨hf, t, hg1, hg2⟩ := jj8 hn
 have h2 := hf.q2
 have hG : ∀ x y : El q, (⟨g, by omega, hg2⟩ : El q) * (x + y) = ⟨g, by omega, hg2⟩ * x + ⟨g, by omega, hg2⟩ * y := fun x y => El.ext' (by
  rw [ym6, on0, do9 hn, on0, do9 hn]
  exact c67 hn ⟨x.lo, x.hi⟩ ⟨y.lo, y.hi⟩)
 have hP : ∀ (k : Nat) (x y : El q) (h0 : 0 ≤ fexp q ((k : Int) % (q - 1))) (h1 : fexp q ((k : Int) % (q - 1)) < q), (⟨_, h0, h1⟩ : El q) * (x + y) = ⟨_, h0, h1⟩ * x + ⟨_, h0, h1⟩ * y := by
  intro k
  induction k with
  | zero =>
    intro x y h0 h1
    have he : (⟨_, h0, h1⟩ : El q) = 1 := El.ext' (by show fexp q (((0 : Nat) : Int) % (q - 1)) = 1; rw [Int.natCast_zero, Int.zero_emod]; exact t.e0)
    rw [he, a59, du6, a59 1 x, du6, a59 1 y, du6]
  | succ k ih =>
    intro x y h0 h1
    have h3 := zd3 t h2 (k : Int)
    have he : (⟨_, h0, h1⟩ : El q) = ⟨fexp q ((k : Int) % (q - 1)), by omega, h3.2.1⟩ * ⟨g, by omega, hg2⟩ := El.ext' (by
     show fexp q (((k + 1 : Nat) : Int) % (q - 1)) = fmul q _ g
     rw [np3 t h2 ⟨hg1, hg2⟩, Int.natCast_add, Int.natCast_one])
    rw [he, wj9, hG, ih, wj9, wj9]
 by_cases ha : a = 0
 ·rw [ha, a59, qc3, a59 0 b, qc3, a59 0 c, qc3]
  refine El.ext' ?_
  have := hf.p2
  rw [on0, do9 hn]
  exact (ns9 (by omega) m 0 (Int.le_refl _) (Int.pow_pos (by omega))).symm
 ·have hav : a.v ≠ 0 := fun h => ha (r57.1 h)
  have h3 := t.lr a.v (by have := a.lo; omega) a.hi
  have he : fexp q (((flog q a.v).toNat : Int) % (q - 1)) = a.v := by
   rw [show (((flog q a.v).toNat : Nat) : Int) = flog q a.v by omega, Int.emod_eq_of_lt h3.1 h3.2.1, h3.2.2]
  have h4 := hP (flog q a.v).toNat b c (by rw [he]; exact a.lo) (by rw [he]; exact a.hi)
  have h5 : (⟨fexp q (((flog q a.v).toNat : Int) % (q - 1)), by rw [he]; exact a.lo, by rw [he]; exact a.hi⟩ : El q) = a := El.ext' he
  rw [h5] at h4
  exact h4
instance elFK : FK (El q) where
 inv := fun a => if h : a.v = 0 then 0 else ⟨finv q a.v, (bh9 a h).1, (bh9 a h).2⟩
 deq := inferInstance
 add_assoc := fun a b c => El.ext' (by
  obtain ⟨p, m, g, mod, hn⟩ := hq.ok
  have hf := (jj8 hn).1
  have := hf.p2
  rw [on0 (a + b) c, on0 a (b + c), do9 hn (a + b) c, do9 hn a (b + c), on0 a b, on0 b c, do9 hn a b, do9 hn b c, mk9 (by omega)])
 add_comm := fun a b => El.ext' (by
  obtain ⟨p, m, g, mod, hn⟩ := hq.ok
  rw [on0, on0, do9 hn, do9 hn, t47])
 add_zero := fun a => El.ext' (by
  obtain ⟨p, m, g, mod, hn⟩ := hq.ok
  have hf := (jj8 hn).1
  have := hf.p2
  rw [on0, do9 hn, hc8]
  exact ns9 (by omega) m a.v a.lo (by rw [hf.pm]; exact a.hi))
 add_neg := fun a => El.ext' (by
  obtain ⟨p, m, g, mod, hn⟩ := hq.ok
  have hf := (jj8 hn).1
  have := hf.p2
  rw [on0, do9 hn, tg5, pu7 hn]
  exact ju5 (by omega) m a.v)
 mul_assoc := wj9
 mul_comm := a59
 mul_one := du6
 mul_add := sd1
 mul_inv := fun a ha => El.ext' (by
  have h : a.v ≠ 0 := fun h => ha (r57.1 h)
  obtain ⟨p, m, g, mod, hn⟩ := hq.ok
  obtain ⟨hf, t, _⟩ := jj8 hn
  rw [dif_neg h]
  exact (d12 t hf.q2 (a := a.v) ⟨by have := a.lo; omega, a.hi⟩).2)
 zero_ne := fun h => by
  have := congrArg El.v h
  rw [hc8, wh3] at this
  omega
end
def vs {q : Int} (l : List (El q)) : List Int := l.map El.v
def ge {K : Type} [FK K] (l : List K) (i : Nat) : K := l.getD i 0
section
variable {q : Int}
theorem fi2 (l : List (El q)) : (vs l).length = l.length := by simp [vs]
theorem rp2 : vs ([] : List (El q)) = [] := rfl
end
end Go.Proofs.Ytghfdpdiibiigaa
namespace Go.Proofs.Ytghfdpdiibiigaa
open Go.Am Go.Vm Go.Alg
theorem d40 {zs : List Int} {i : Nat} (hi : i < zs.length) : (ints zs)[i]? = some (.int .i64 (gi zs (i : Int))) := by
 have := c13 (zs := zs) (i := (i : Int)) (by omega) (by omega)
 rwa [Int.toNat_natCast] at this
theorem zj7 {h : H} {Z : Nat → Prop} {zs : List Int} {l : List Value} : RdL h Z (ivs zs) l ↔ l = ints zs := by
 induction zs generalizing l with
 | nil => exact ⟨fun hr => by rw [show ivs [] = [] from rfl, RdL] at hr; exact hr, fun e => by subst e; rw [show ivs [] = [] from rfl, RdL]; rfl⟩
 | cons z zs ih =>
   rw [show ivs (z :: zs) = .v (.int .i64 z) :: ivs zs from rfl, RdL]
   constructor
   ·rintro ⟨w, l', rfl, h1, h2⟩
    rw [Rd] at h1
    rw [h1, ih.1 h2]; rfl
   ·rintro rfl
    exact ⟨_, _, rfl, by rw [Rd], ih.2 rfl⟩
theorem ex4 {h : H} {Z : Nat → Prop} {zs : List Int} {l : List Value} : ExL h Z (ivs zs) l ↔ l = ints zs := by
 induction zs generalizing l with
 | nil => exact ⟨fun hr => by rw [show ivs [] = [] from rfl, ExL] at hr; exact hr, fun e => by subst e; rw [show ivs [] = [] from rfl, ExL]; rfl⟩
 | cons z zs ih =>
   rw [show ivs (z :: zs) = .v (.int .i64 z) :: ivs zs from rfl, ExL]
   constructor
   ·rintro ⟨w, l', rfl, h1, h2⟩
    rw [Ex] at h1
    rw [h1, ih.1 h2]; rfl
   ·rintro rfl
    exact ⟨_, _, rfl, by rw [Ex], ih.2 rfl⟩
theorem fw0 {h : H} {Z : Nat → Prop} {nl e : Nat} {zs : List Int} {w : Value} (hr : Rd h Z (.sl nl e 1 (ivs zs)) w) : ∃ sa c, w = .slice sa zs.length c ∧ RdI h sa c zs := by
 rw [Rd] at hr
 rcases hr with ⟨h0, _, _, rfl⟩ | ⟨o, off, n, c, r, rfl, h1, h2, h3, h4, h5, h6, h7, h8⟩
 ·have : zs = [] := by cases zs with
   | nil => rfl
   | cons => cases h0
  subst this
  exact ⟨none, 0, rfl, .nil⟩
 ·rw [gf1, Nat.mul_one] at h5
  subst h5
  have h9 := zj7.1 h8
  rw [gf1] at h9
  refine ⟨_, c, rfl, .inr ⟨h6, o, off, r, rfl, h2, h3, fun i h0 hi => ?_⟩⟩
  have h10 := c13 h0 hi
  rw [← h9, List.getElem?_take, if_pos (by omega), List.getElem?_drop] at h10
  exact h10
theorem pd9 {h : H} {Z : Nat → Prop} {e : Nat} {zs : List Int} {sa : Option Addr} {c : Nat} (hr : RdI h sa c zs) (hz : ∀ o, sa.map (·.block) = some o → Z o) : Rd h Z (.sl 2 e 1 (ivs zs)) (.slice sa zs.length c) := by
 rw [Rd]
 rcases hr with ⟨rfl, rfl, rfl⟩ | ⟨h1, o, off, r, rfl, h2, h3, h4⟩
 ·exact .inl ⟨rfl, by decide, by decide, rfl⟩
 ·refine .inr ⟨o, off, _, c, r, rfl, hz o rfl, h2, h3, by decide, by rw [gf1, Nat.mul_one], h1, fun h => (by cases h), zj7.2 ?_⟩
  rw [gf1]
  refine List.ext_getElem? fun i => ?_
  by_cases hi : i < zs.length
  ·rw [d40 hi, List.getElem?_take, if_pos hi, List.getElem?_drop]
   have := h4 (i : Int) (by omega) (by omega)
   rwa [Int.toNat_natCast] at this
  ·rw [List.getElem?_eq_none (by rw [List.length_take]; omega), List.getElem?_eq_none (by rw [iq5]; omega)]
def lvs (nl : Nat) (m : List (List Int)) : List Tree := m.map fun l => .sl nl 0 1 (ivs l)
theorem nb9 (nl : Nat) (m : List (List Int)) : (lvs nl m).length = m.length := by simp [lvs]
def allZ (h : H) : Nat → Prop := fun o => o < h.length
theorem bh6 (h : H) : Inv h [] (allZ h) (allZ h) := ⟨by rw [okL]; trivial, fun x => by simp [fpL], fun o ho => by simp [fpL] at ho, fun o ho => by simp [fpL] at ho, fun o ho => ho, fun o ho => ho⟩
theorem vlaw {W : VW} (hP : ∀ f p vs C r, W.P f = some p → p vs C = some r → VOK W.T f vs C r) {h : H} {f : FuncId} {xs0 : List AV} {ws : List Value} (hv : VRL h [] (allZ h) (allZ h) xs0 ws) {b : Bool} (e : o25 W f xs0 [] = some (.x (.bool b), [], [])) : ∃ h', call W.T f ws h = some (.bool b, h') := by
 obtain ⟨w, h', K, S, Z', Zp', h1, P⟩ := lw9 hP e h [] _ _ ws (bh6 h) rfl hv fun k hk => by cases hk
 have := P.v
 rw [Vm.VR] at this
 subst this
 exact ⟨h', h1⟩
theorem sk2 {h h' : H} {Z Zp : Nat → Prop} (i : Inv h [] Z Zp) (hp : h <+: h') (v : Value) : Post h [] Zp 0 (.x v, [], []) v h' [] [] Z Zp := by
 refine ⟨rfl, rfl, ⟨by rw [List.nil_append, okL]; trivial, fun x => by simp [fpL], fun o ho => by simp [fpL] at ho, fun o ho => by simp [fpL] at ho, fun o ho => ?_, i.zp⟩, ⟨hp.length_le, fun o ho _ => cb1 hp ho, fun o ho => by simp [fpL] at ho, fun o ho => ho, fun o ho => .inl ho⟩, by rw [Vm.VR], rfl, fun i a k h1 => by simp at h1⟩
 have := i.zlt o ho; have := hp.length_le; omega
def pFt (q p : Int) (m : Nat) (g : Int) (mod : List Int) : Tree := .ex (.pt 72 [.v (.int .i64 q), .v (.int .i64 p), .v (.int .i64 m), .fz (.sl 2 0 1 (ivs mod)), .v (.int .i64 g), .sl 0 3 1 (ivs (tabs q.toNat).1), .sl 0 3 1 (ivs (tabs q.toNat).2)])
def pF (q : Int) : Tree := match fldN q.toNat with
 | some (p, m, g, mod) => pFt q p m g mod
 | none => .junk
def bc2 : Tree → Int
 | .ex (.pt _ (.v (.int .i64 q) :: _)) => q
 | _ => 0
theorem yz0 {q : Int} [h : IsFld q] : bc2 (pF q) = q := by
 obtain ⟨p, m, g, mod, hn⟩ := h.ok
 unfold pF; rw [hn]; rfl
theorem ki3 {q p g : Int} {m : Nat} {mod : List Int} (hn : fldN q.toNat = some (p, m, g, mod)) : (tabs q.toNat).1.length = (q - 1).toNat ∧ (tabs q.toNat).2.length = q.toNat := by
 obtain ⟨h2, h64⟩ := ug0 hn
 have ht := (cb4 hn).tab
 rw [ht]
 constructor <;> simp
theorem nx2 {h : H} {Z : Nat → Prop} {q p g : Int} {m : Nat} {mod : List Int} (hn : fldN q.toNat = some (p, m, g, mod)) {w : Value} (hr : Rd h Z (pF q) w) : ∃ F E L om fm cm, w = .pointer (some ⟨F, 0, none⟩) ∧ PUse h F q p m g mod E L om fm cm := by
 obtain ⟨h2, h64⟩ := ug0 hn
 have ht := (cb4 hn).tab
 obtain ⟨l1, l2⟩ := ki3 hn
 unfold pF at hr
 rw [hn] at hr
 simp only [pFt] at hr
 rw [Rd, Ex] at hr
 obtain ⟨F, r, rfl, h1, h3, h4, h5, h6, h7⟩ := hr
 rw [ExL] at h7
 obtain ⟨w0, c0, e0, k0, h7⟩ := h7
 rw [ExL] at h7
 obtain ⟨w1, c1, e1, k1, h7⟩ := h7
 rw [ExL] at h7
 obtain ⟨w2, c2, e2, k2, h7⟩ := h7
 rw [ExL] at h7
 obtain ⟨w3, c3, e3, k3, h7⟩ := h7
 rw [ExL] at h7
 obtain ⟨w4, c4, e4, k4, h7⟩ := h7
 rw [ExL] at h7
 obtain ⟨w5, c5, e5, k5, h7⟩ := h7
 rw [ExL] at h7
 obtain ⟨w6, c6, e6, k6, h7⟩ := h7
 unfold Ex at k0 k1 k2 k3 k4 k5 k6
 subst e6 e5 e4 e3 e2 e1
 obtain ⟨sa, cm, rfl, rm⟩ := fw0 k3
 obtain ⟨E, nE, rE, rfl, _, hE, _, _, _, _, nE1, _, xE⟩ := k5
 obtain ⟨L, nL, rL, rfl, _, hL, _, _, _, _, nL1, _, xL⟩ := k6
 rw [ex4] at xE xL
 rw [gf1, Nat.mul_one, l1] at nE1
 rw [gf1, Nat.mul_one, l2] at nL1
 subst nE1 nL1 k0 k1 k2 k4
 have hml := (hi9 hn).1.ml
 have hm1 := (hi9 hn).1.m1
 obtain ⟨om, fm, rfl⟩ : ∃ om fm, sa = some ⟨om, fm, none⟩ := by
  rcases rm with ⟨_, _, h0⟩ | ⟨_, o, off, r, h0, _⟩
  ·rw [h0] at hml; simp at hml
  ·exact ⟨o, off, h0⟩
 have cell : ∀ {i : Nat} {v : Value}, r.cells[i]? = some v → h.ld1 F i = some v := fun {i v} hi => by rw [ng1 h3]; exact hi
 refine ⟨F, E, L, om, fm, cm, rfl, by omega, by omega, cell (by rw [e0]; rfl), cell (by rw [e0]; rfl), cell (by rw [e0]; rfl), cell (by rw [e0]; rfl), cell (by rw [e0]; rfl), cell (by rw [e0]; rfl), cell (by rw [e0]; rfl), fun i h0 hi => ?_, fun a h0 ha => ?_, rm⟩
 ·rw [ng1 hE, xE, c13 h0 (by rw [l1]; omega)]
  congr 2
  rw [ht]
  unfold gi
  rw [List.getD_eq_getElem?_getD, List.getElem?_map, List.getElem?_range (by omega)]
  show fexp q ((i.toNat : Nat) : Int) = _
  rw [show ((i.toNat : Nat) : Int) = i by omega]
 ·rw [ng1 hL, xL, c13 h0 (by rw [l2]; omega)]
  congr 2
  rw [ht]
  unfold gi
  rw [List.getD_eq_getElem?_getD, List.getElem?_map, List.getElem?_range (by omega)]
  show flog q ((a.toNat : Nat) : Int) = _
  rw [show ((a.toNat : Nat) : Int) = a by omega]
open Classical in
noncomputable def it3 (g : Int → Value) : List AV → Rts → Option VRes
 | [.fz b t], [] => if IsFld (bc2 t) ∧ t = pF (bc2 t) then some (.x (g (bc2 t)), [], []) else none
 | _, _ => none
open Classical in
noncomputable def pOne (g : Int → Int → Value) : List AV → Rts → Option VRes
 | [.fz b t, .x (.int .i64 a)], [] => if IsFld (bc2 t) ∧ t = pF (bc2 t) then some (.x (g (bc2 t) a), [], []) else none
 | _, _ => none
open Classical in
noncomputable def pTwo (g : Int → Int → Int → Value) : List AV → Rts → Option VRes
 | [.fz b t, .x (.int .i64 a), .x (.int .i64 a')], [] => if IsFld (bc2 t) ∧ t = pF (bc2 t) then some (.x (g (bc2 t) a a'), [], []) else none
 | _, _ => none
theorem jm7 {g : Int → Value} {q : Int} [h : IsFld q] {b : Bool} : it3 g [.fz b (pF q)] [] = some (.x (g q), [], []) := by
 unfold it3; simp only []; rw [if_pos (by rw [yz0]; exact ⟨h, rfl⟩), yz0]
theorem l79 {g : Int → Int → Value} {q : Int} [h : IsFld q] {b : Bool} {a : Int} : pOne g [.fz b (pF q), .x (.int .i64 a)] [] = some (.x (g q a), [], []) := by
 unfold pOne; simp only []; rw [if_pos (by rw [yz0]; exact ⟨h, rfl⟩), yz0]
theorem pu4 {g : Int → Int → Int → Value} {q : Int} [h : IsFld q] {b : Bool} {a a' : Int} : pTwo g [.fz b (pF q), .x (.int .i64 a), .x (.int .i64 a')] [] = some (.x (g q a a'), [], []) := by
 unfold pTwo; simp only []; rw [if_pos (by rw [yz0]; exact ⟨h, rfl⟩), yz0]
abbrev r43 (f : FuncId) (xs : List Value) (g : Int → Value) : Prop := ∀ (h : H) (F : Nat) (q p : Int) (m : Nat) (ge : Int) (mod : List Int) (E L om fm cm : Nat), fldN q.toNat = some (p, m, ge, mod) → PUse h F q p m ge mod E L om fm cm → call T f (.pointer (some ⟨F, 0, none⟩) :: xs) h = some (g q, h)
theorem nh2 {f : FuncId} {b : Bool} {t : Tree} {xs : List Value} {g : Int → Value} (H : r43 f xs g) (hf : IsFld (bc2 t)) (ht : t = pF (bc2 t)) : VOK T f (.fz b t :: xs.map AV.x) [] (.x (g (bc2 t)), [], []) := by
 intro h Ac Z Zp ws i hC hv hk
 obtain rfl : Ac = [] := by cases Ac with
  | nil => rfl
  | cons => cases hC
 rw [Vm.VRL] at hv
 obtain ⟨w, ws', rfl, h1, h2⟩ := hv
 rw [Vm.VR, ht] at h1
 have hxs : ws' = xs := by
  clear H hk hC i h1
  induction xs generalizing ws' with
  | nil => rw [List.map_nil, VRL] at h2; exact h2
  | cons x xs ih =>
    rw [List.map_cons, VRL] at h2
    obtain ⟨w', ws'', rfl, k1, k2⟩ := h2
    rw [Vm.VR] at k1
    rw [k1, ih _ k2]
 subst hxs
 obtain ⟨p, m, ge, mod, hn⟩ := hf.ok
 obtain ⟨F, E, L, om, fm, cm, rfl, u⟩ := nx2 hn h1
 have e := H h F (bc2 t) p m ge mod E L om fm cm hn u
 exact ⟨_, h, [], [], Z, Zp, e, sk2 i (List.prefix_refl _) _⟩
theorem o24 {f : FuncId} {g : Int → Value} (H : r43 f [] g) {xs0 : List AV} {C : Rts} {r : VRes} (he : it3 g xs0 C = some r) : VOK T f xs0 C r := by
 unfold it3 at he
 split at he
 ·split at he
  ·rename_i hc; cases he; exact nh2 (xs := []) (g := g) H hc.1 hc.2
  ·cases he
 ·cases he
theorem ka9 {f : FuncId} {g : Int → Int → Value} (H : ∀ a, r43 f [.int .i64 a] fun q => g q a) {xs0 : List AV} {C : Rts} {r : VRes} (he : pOne g xs0 C = some r) : VOK T f xs0 C r := by
 unfold pOne at he
 split at he
 ·split at he
  ·rename_i hc; cases he; exact nh2 (xs := [_]) (H _) hc.1 hc.2
  ·cases he
 ·cases he
theorem sg0 {f : FuncId} {g : Int → Int → Int → Value} (H : ∀ a a', r43 f [.int .i64 a, .int .i64 a'] fun q => g q a a') {xs0 : List AV} {C : Rts} {r : VRes} (he : pTwo g xs0 C = some r) : VOK T f xs0 C r := by
 unfold pTwo at he
 split at he
 ·split at he
  ·rename_i hc; cases he; exact nh2 (xs := [_, _]) (H _ _) hc.1 hc.2
  ·cases he
 ·cases he
def pNew : List AV → Rts → Option VRes
 | [.x (.int .i64 q)], [] => match fldN q.toNat with
   | some _ => some (.tup [.fz true (pF q), .x (.int .i64 0)], [], [])
   | none => some (.tup [.x (.pointer none), .x (.int .i64 1)], [], [])
 | _, _ => none
theorem a65 {h h' : H} {Z Zp : Nat → Prop} (i : Inv h [] Z Zp) (hp : h <+: h') {a : AV} {w : Value} (hv : Vm.VR h' [] (fun o => h.length ≤ o ∧ o < h'.length) (fun o => h.length ≤ o ∧ o < h'.length) a w) : ∃ Z' Zp', Post h [] Zp 0 (a, [], []) w h' [] [] Z' Zp' := by
 refine ⟨fun o => Z o ∨ (h.length ≤ o ∧ o < h'.length), fun o => Zp o ∨ (h.length ≤ o ∧ o < h'.length), rfl, rfl, ⟨by rw [List.nil_append, okL]; trivial, fun x => by simp [fpL], fun o ho => by simp [fpL] at ho, fun o ho => by simp [fpL] at ho, fun o ho => ?_, fun o ho => ho.imp (i.zp o) id⟩, ⟨hp.length_le, fun o ho _ => cb1 hp ho, fun o ho => by simp [fpL] at ho, fun o ho => .inl ho, fun o ho => ho.imp id fun h => .inr h.1⟩, Vm.VR.move (fun o ho => .inr ho) (fun o ho => .inr ho) (fun _ _ => rfl) (fun _ _ => rfl) (Stab.refl [] []) hv rfl, rfl, fun i a k h1 => by simp at h1⟩
 rcases ho with ho | ho
 ·have := i.zlt o ho; have := hp.length_le; omega
 ·exact ho.2
theorem lo5 {xs0 : List AV} {C : Rts} {r : VRes} (he : pNew xs0 C = some r) : VOK T 36 xs0 C r := by
 unfold pNew at he
 split at he
 ·rename_i q
  intro h Ac Z Zp ws i hC hv hk
  obtain rfl : Ac = [] := by cases Ac with
   | nil => rfl
   | cons => cases hC
  rw [Vm.VRL] at hv
  obtain ⟨w, ws', rfl, h1, h2⟩ := hv
  rw [Vm.VRL] at h2
  rw [Vm.VR] at h1
  subst h1 h2
  split at he
  ·rename_i x hn
   obtain ⟨p, m, g, mod⟩ := x
   cases he
   obtain ⟨h', F, hp, hF, ⟨om, fm, cm, ho, hM, ⟨E, L, q1, q2, hFr, hE, hL, q3, q4⟩⟩, e⟩ := e24 q hn h
   have hFl := h44 hFr
   have hEl := h44 hE
   have hLl := h44 hL
   have hom : om < h'.length := by
    rcases hM with ⟨h0, _⟩ | ⟨_, o, off, r, h0, h1, _⟩
    ·cases h0
    ·cases h0; exact h44 h1
   have hzo : ∀ o, (some (⟨om, fm, none⟩ : Addr)).map (·.block) = some o → h.length ≤ o ∧ o < h'.length := fun o ho' => by
    have e1 : om = o := by simpa using ho'
    subst e1; exact ⟨by omega, hom⟩
   have hrd : Rd h' (fun o => h.length ≤ o ∧ o < h'.length) (pF q) (.pointer (some ⟨F, 0, none⟩)) := by
    have hq2 := ug0 hn
    unfold pF
    rw [hn]
    simp only [pFt]
    rw [Rd, Ex]
    refine ⟨F, _, rfl, ⟨hF, hFl⟩, hFr, rfl, rfl, rfl, ?_⟩
    rw [ExL]; refine ⟨_, _, rfl, by unfold Ex; rfl, ?_⟩
    rw [ExL]; refine ⟨_, _, rfl, by unfold Ex; rfl, ?_⟩
    rw [ExL]; refine ⟨_, _, rfl, by unfold Ex; rfl, ?_⟩
    rw [ExL]; refine ⟨_, _, rfl, by unfold Ex; exact pd9 hM hzo, ?_⟩
    rw [ExL]; refine ⟨_, _, rfl, by unfold Ex; rfl, ?_⟩
    rw [ExL]; refine ⟨_, _, rfl, by unfold Ex; exact ⟨E, _, _, rfl, ⟨by omega, hEl⟩, hE, rfl, rfl, rfl, by decide, by rw [gf1, Nat.mul_one, q3], fun h => (by cases h), ex4.2 rfl⟩, ?_⟩
    rw [ExL]; refine ⟨_, _, rfl, by unfold Ex; exact ⟨L, _, _, rfl, ⟨by omega, hLl⟩, hL, rfl, rfl, rfl, by decide, by rw [gf1, Nat.mul_one, q4], fun h => (by cases h), ex4.2 rfl⟩, ?_⟩
    rw [ExL]
   obtain ⟨Z', Zp', P⟩ := a65 (a := .tup [.fz true (pF q), .x (.int .i64 0)]) (w := .tuple #[.pointer (some ⟨F, 0, none⟩), .int .i64 0]) i hp (by
    rw [Vm.VR]
    exact ⟨[_, _], rfl, .cons (by rw [Vm.VR]; exact hrd) (.cons (by rw [Vm.VR]) .nil)⟩)
   exact ⟨_, h', [], [], Z', Zp', e, P⟩
  ·rename_i hn
   cases he
   obtain ⟨h', hp, e⟩ := e84 q hn h
   obtain ⟨Z', Zp', P⟩ := a65 (a := .tup [.x (.pointer none), .x (.int .i64 1)]) (w := .tuple #[.pointer none, .int .i64 1]) i hp (by
    rw [Vm.VR]
    exact ⟨[_, _], rfl, .cons (by rw [Vm.VR]) (.cons (by rw [Vm.VR]) .nil)⟩)
   exact ⟨_, h', [], [], Z', Zp', e, P⟩
 ·cases he
open Classical in
noncomputable def kq6 : List AV → Rts → Option VRes
 | [.fz b t, .x (.int .i64 a)], [] => if IsFld (bc2 t) ∧ t = pF (bc2 t) then some (.own 0 [], [.sl (nlT (kg5 (bc2 t) a)) 3 1 (ivs (kg5 (bc2 t) a))], []) else none
 | _, _ => none
theorem sq3 {q : Int} [h : IsFld q] {b : Bool} {a : Int} : kq6 [.fz b (pF q), .x (.int .i64 a)] [] = some (.own 0 [], [.sl (nlT (kg5 q a)) 3 1 (ivs (kg5 q a))], []) := by
 unfold kq6; simp only []; rw [if_pos (by rw [yz0]; exact ⟨h, rfl⟩), yz0]
theorem lz2 {xs0 : List AV} {C : Rts} {r : VRes} (he : kq6 xs0 C = some r) : VOK T 34 xs0 C r := by
 unfold kq6 at he
 split at he
 ·rename_i b t s
  split at he
  ·rename_i hc
   obtain ⟨hf, ht⟩ := hc
   cases he
   intro h Ac Z Zp ws i hC hv hk
   obtain rfl : Ac = [] := by cases Ac with
    | nil => rfl
    | cons => cases hC
   rw [Vm.VRL] at hv
   obtain ⟨w, ws', rfl, h1, h2⟩ := hv
   rw [Vm.VRL] at h2
   obtain ⟨w2, ws2, rfl, h3, h4⟩ := h2
   rw [Vm.VRL] at h4
   rw [Vm.VR] at h3
   rw [Vm.VR, ht] at h1
   subst h3 h4
   obtain ⟨p, m, ge, mod, hn⟩ := hf.ok
   obtain ⟨F, E, L, om, fm, cm, rfl, u⟩ := nx2 hn h1
   obtain ⟨sa, c, h', p2, g, e⟩ := t16 hn u (jj8 hn).1 s
   obtain ⟨a, P⟩ := re9 i p2 g
   exact ⟨_, h', [], [a], Z, Zp, e, P⟩
  ·cases he
 ·cases he
noncomputable def vP : FuncId → Option (List AV → Rts → Option VRes)
 | 20 => some (it3 fun q => .int .i64 q)
 | 22 => some (pTwo fun q a b => .int .i64 (fmul q a b))
 | 21 => some (pTwo fun q a b => .int .i64 (fadd q a b))
 | 26 => some (pTwo fun q a b => .int .i64 (fpow q a b))
 | 30 => some (pTwo fun q a b => .int .i64 (rj7 q a b))
 | 31 => some (pOne fun q a => .int .i64 (so2 q a))
 | 32 => some (pOne fun q a => .int .i64 (t92 q a))
 | 29 => some (it3 fun q => .int .i64 (fch q))
 | 36 => some pNew
 | 35 => some pEmb
 | 34 => some kq6
 | _ => none
noncomputable def W : VW := ⟨T, vP, vH, vM, ct⟩
@[push_cast] theorem W_M (f : FuncId) : W.M f = vM f := rfl
@[push_cast] theorem W_H (f : FuncId) : W.H f = vH f := rfl
@[push_cast] theorem W_ct : W.ct = ct := rfl
theorem lw2 (f : FuncId) (p : List AV → Rts → Option VRes) (xs0 : List AV) (C : Rts) (r : VRes) (hp : W.P f = some p) (he : p xs0 C = some r) : VOK W.T f xs0 C r := by
 have hp : vP f = some p := hp
 show VOK T f xs0 C r
 unfold vP at hp
 split at hp
 ·cases hp; exact o24 (f := 20) (fun h F q p m ge mod E L om fm cm hn u => ts1 u) he
 ·cases hp; exact sg0 (f := 22) (fun a a' h F q p m ge mod E L om fm cm hn u => lb9 hn u a a') he
 ·cases hp; exact sg0 (f := 21) (fun a a' h F q p m ge mod E L om fm cm hn u => gl5 hn u (jj8 hn).1 a a') he
 ·cases hp; exact sg0 (f := 26) (fun a a' h F q p m ge mod E L om fm cm hn u => w41 hn u a a') he
 ·cases hp; exact sg0 (f := 30) (fun a a' h F q p m ge mod E L om fm cm hn u => tx4 hn u (jj8 hn).1 a a') he
 ·cases hp; exact ka9 (f := 31) (fun a h F q p m ge mod E L om fm cm hn u => o30 hn u (jj8 hn).1 a) he
 ·cases hp; exact ka9 (f := 32) (fun a h F q p m ge mod E L om fm cm hn u => un3 hn u (jj8 hn).1 a) he
 ·cases hp; exact o24 (f := 29) (fun h F q p m ge mod E L om fm cm hn u => by rw [(y65 hn).1]; exact bb3 u) he
 ·cases hp; exact (fun _ => lo5 he) 36
 ·cases hp; exact (fun _ => ev0 he) 35
 ·cases hp; exact (fun _ => lz2 he) 34
 ·cases hp
section
variable {q : Int} [IsFld q] {b : Bool} {x y : Int}
@[push_cast] theorem l09 : o25 W 20 [.fz b (pF q)] [] = some (.x (.int .i64 q), [], []) := (xr5 rfl).trans jm7
@[push_cast] theorem gi0 : o25 W 22 [.fz b (pF q), .x (.int .i64 x), .x (.int .i64 y)] [] = some (.x (.int .i64 (fmul q x y)), [], []) := (xr5 rfl).trans pu4
@[push_cast] theorem j43 : o25 W 21 [.fz b (pF q), .x (.int .i64 x), .x (.int .i64 y)] [] = some (.x (.int .i64 (fadd q x y)), [], []) := (xr5 rfl).trans pu4
@[push_cast] theorem li7 : o25 W 26 [.fz b (pF q), .x (.int .i64 x), .x (.int .i64 y)] [] = some (.x (.int .i64 (fpow q x y)), [], []) := (xr5 rfl).trans pu4
@[push_cast] theorem tr7 : o25 W 29 [.fz b (pF q)] [] = some (.x (.int .i64 (fch q)), [], []) := (xr5 rfl).trans jm7
@[push_cast] theorem hd5 : o25 W 30 [.fz b (pF q), .x (.int .i64 x), .x (.int .i64 y)] [] = some (.x (.int .i64 (rj7 q x y)), [], []) := (xr5 rfl).trans pu4
@[push_cast] theorem iq6 : o25 W 31 [.fz b (pF q), .x (.int .i64 x)] [] = some (.x (.int .i64 (so2 q x)), [], []) := (xr5 rfl).trans l79
@[push_cast] theorem uf5 : o25 W 32 [.fz b (pF q), .x (.int .i64 x)] [] = some (.x (.int .i64 (t92 q x)), [], []) := (xr5 rfl).trans l79
@[push_cast] theorem ox0 : o25 W 34 [.fz b (pF q), .x (.int .i64 x)] [] = some (.own 0 [], [.sl (nlT (kg5 q x)) 3 1 (ivs (kg5 q x))], []) := (xr5 rfl).trans sq3
theorem gh1 : ∃ d, fldN q.toNat = some d := by
 obtain ⟨p, m, g, mod, hn⟩ := ‹IsFld q›.ok
 exact ⟨_, hn⟩
@[push_cast] theorem ev4 : o25 W 36 [.x (.int .i64 q)] [] = some (.tup [.fz true (pF q), .x (.int .i64 0)], [], []) := (xr5 rfl).trans (by obtain ⟨d, hd⟩ := gh1 (q := q); unfold pNew; simp only [hd])
end
theorem lh5 {q s : Int} : o25 W 35 [.x (.int .i64 q), .x (.int .i64 s)] [] = some (.tup [.own 0 [], .x (.int .i64 (embP q s).1)], [.sl (nlT (embP q s).2) 3 1 (ivs (embP q s).2)], []) := (xr5 rfl).trans rfl
end Go.Proofs.Ytghfdpdiibiigaa
namespace Go.Alg
section
variable {K : Type} [FK K]
structure Rref (n : Nat) (A : List (Nat × (Nat → K))) : Prop where
 up : A.Pairwise fun a b => a.1 < b.1
 one : ∀ a ∈ A, a.2 a.1 = 1
 before : ∀ a ∈ A, ∀ k, k < a.1 → a.2 k = 0
 lt : ∀ a ∈ A, a.1 < n
 out : ∀ a ∈ A, ∀ k, n ≤ k → a.2 k = 0
 zero : ∀ a ∈ A, ∀ b ∈ A, a.1 ≠ b.1 → a.2 b.1 = 0
section
variable {n : Nat} {A B : List (Nat × (Nat → K))}
def wf (l : List K) : Nat → K := fun i => l.getD i 0
end
end
end Go.Alg
namespace Go.Alg
section
variable {α : Type}
end
section
variable {K : Type} [FK K]
def toF (A : List (Nat × List K)) : List (Nat × (Nat → K)) := A.map fun a => (a.1, wf a.2)
section
variable {n : Nat} {A : List (Nat × List K)}
end
end
end Go.Alg
namespace Go.Alg
section
variable {α : Type} {M : List (List α)} {P : List Nat}
end
section
variable {K : Type} [FK K]
section
variable {n c : Nat} {M0 M : List (List K)} {P : List Nat}
end
end
end Go.Alg
namespace Go.Alg
section
variable {K : Type} [FK K]
end
end Go.Alg
namespace Go.Proofs.Ytghfdpdiibiigaa
theorem i62 {α : Type} {l : List α} {i : Nat} {x : α} (h : l[i]? = some x) : l.drop i = x :: l.drop (i + 1) := by
 obtain ⟨hi, he⟩ := List.getElem?_eq_some_iff.1 h
 rw [List.drop_eq_getElem_cons hi, he]
theorem oh9 {α : Type} {l : List α} {i : Nat} (h : l.length ≤ i) : l.drop i = [] := List.drop_eq_nil_of_le h
theorem ge6 {α : Type} {l : List α} {i : Nat} (h : i < l.length) : ∃ x, l[i]? = some x := ⟨_, List.getElem?_eq_getElem h⟩
end Go.Proofs.Ytghfdpdiibiigaa
namespace Go.Proofs.Ytghfdpdiibiigaa
open Go.Am Go.Vm Go.Alg
def lls (nl : Nat) (m : List (List Int)) : List Tree := m.map fun l => .sl nl 3 1 (ivs l)
theorem qf0 (nl : Nat) (m : List (List Int)) : (lls nl m).length = m.length := by simp [lls]
theorem lg8 (nl : Nat) (m : List (List Int)) : jj5 (lls nl m) = lvs nl m := by
 rw [gz0]
 unfold lls lvs
 rw [List.map_map]
 refine List.map_congr_left fun l _ => ?_
 show strip _ = _
 rw [strip, ap3]
theorem lr8 (nl : Nat) (m : List (List Int)) : jj5 (lvs nl m) = lvs nl m := by
 rw [gz0]
 unfold lvs
 rw [List.map_map]
 refine List.map_congr_left fun l _ => ?_
 show strip _ = _
 rw [strip, ap3]
theorem ng3 (nl : Nat) (m : List (List Int)) (l : List Int) : lls nl m ++ [.sl nl 3 1 (ivs l)] = lls nl (m ++ [l]) := by unfold lls; rw [List.map_append]; rfl
theorem y81 (nl : Nat) (m : List (List Int)) (i : Nat) (l : List Int) : (lls nl m).set i (.sl nl 3 1 (ivs l)) = lls nl (m.set i l) := by unfold lls; rw [List.map_set]
theorem mm0 (nl : Nat) (m : List (List Int)) (n : Nat) : (lls nl m).take n = lls nl (m.take n) := by unfold lls; rw [List.map_take]
theorem by3 (nl : Nat) (m : List (List Int)) (n : Nat) : (lls nl m).drop n = lls nl (m.drop n) := by unfold lls; rw [List.map_drop]
theorem rj0 (nl : Nat) (m : List (List Int)) (n : Nat) : (lvs nl m).take n = lvs nl (m.take n) := by unfold lvs; rw [List.map_take]
theorem ff4 (nl : Nat) (m : List (List Int)) (n : Nat) : (lvs nl m).drop n = lvs nl (m.drop n) := by unfold lvs; rw [List.map_drop]
theorem lz6 : ivs [] = ([] : List Tree) := rfl
theorem x25 (nl : Nat) : lls nl [] = ([] : List Tree) := rfl
@[push_cast] theorem wf0 {q : Int} [h : IsFld q] : isNode (pF q) = true := by
  obtain ⟨p, m, g, mod, hn⟩ := h.ok
  unfold pF; rw [hn]; rfl
@[push_cast] theorem v59 {q : Int} [h : IsFld q] {b : Bool} : ofz b (pF q) = some (.fz b (pF q)) := by
  obtain ⟨p, m, g, mod, hn⟩ := h.ok
  unfold pF; rw [hn]; rfl
attribute [push_cast 50] List.isEmpty_nil List.isEmpty_cons nb9 qf0 lg8 lr8 ng3 mm0 by3 rj0 ff4 fi2 List.map_nil ite_self List.set_cons_zero List.set_cons_succ List.set_nil List.take_zero List.take_nil List.drop_zero List.drop_nil List.take_succ_cons List.drop_succ_cons List.take_length List.length_map List.flatMap_nil List.flatMap_cons gf1 pl3 l78 ap3 so0 nc5 yp5 u42 cs7 Int.natCast_add Int.natCast_one Int.natCast_zero Int.toNat_natCast Nat.div_one Nat.mul_one List.length_set List.all_cons List.all_nil List.length_append List.length_replicate List.length_take List.length_drop Int.zero_add
end Go.Proofs.Ytghfdpdiibiigaa
namespace Go.Proofs.Ytghfdpdiibiigaa
open Go.Am Go.Vm Go.Alg
section
variable {q p m g : Int} [IsFld q] {t : Tree} {b b' : Bool} {nl nl' : Nat}
variable {N : Nat} {P Q : List (List (El q))} {nr nr' : Nat}
end
end Go.Proofs.Ytghfdpdiibiigaa
namespace Go.Proofs.Ytghfdpdiibiigaa
open Go.Am Go.Vm Go.Alg
theorem iat {l : List Int} {i : Nat} {a : Int} (h : l[i]? = some a) : (ivs l)[i]? = some (.v (.int .i64 a)) := by
 unfold ivs; rw [List.getElem?_map, h]; rfl
def jks (n : Nat) : List Tree := List.replicate n .junk
@[push_cast] theorem gc3 (n : Nat) : (jks n).length = n := List.length_replicate ..
def nl0 : Nat → Nat
 | 0 => 1
 | _ + 1 => 0
def nl1 : Nat → Nat
 | 0 => 0
 | _ + 1 => 1
@[push_cast] theorem o09 (n : Nat) : nl0 (n + 1) = 0 := rfl
@[push_cast] theorem m17 (n : Nat) : nl1 (n + 1) = 1 := rfl
@[push_cast] theorem vt2 : nl0 0 = 1 := rfl
@[push_cast] theorem og7 : nl1 0 = 0 := rfl
end Go.Proofs.Ytghfdpdiibiigaa
namespace Go.Proofs.Ytghfdpdiibiigaa
open Go.Am Go.Vm Go.Alg
section
variable {b : Bool} {nl : Nat} {l : List Int}
theorem z00 {x : Int} (hl : l.length ≤ 1000000) : ∀ (n i : Nat), i + n = l.length → ∀ ks,
 vgoL W ⟨hNo, [.tmp 4], 0⟩ [0, 1, 5] c37L0 (.blk 0 [] :: ks) [(0, .x (.int .i64 x)), (1, .fz b (.sl nl 0 1 (ivs l))), (5, .x (.int .i64 i))] [] = if (l.drop i).any (fun y => decide (y = x)) = true then some (.x (.bool true), [], []) else vgo W ⟨hNo, [.tmp 4], 0⟩ ks (VFr.of []) []
 | 0, i, hi, ks => by
   rw [oh9 (by omega), if_neg (by simp), sb5 c37L0.eq_def]
   simp (disch := first | omega | fail) only [push_cast, seval, ui5, lu7, y81, bj9, wrap64, dec_lt, cw6, nl2, qc6, mr8, nb8, if_pos, if_neg]
 | n + 1, i, hi, ks => by
   have ih := z00 (x := x) hl n (i + 1) (by omega) ks
   obtain ⟨a, ha⟩ := ge6 (l := l) (i := i) (by omega)
   have h1 := iat ha
   rw [i62 ha, List.any_cons]
   rw [Int.natCast_add, Int.natCast_one] at ih
   by_cases hx : a = x
   ·rw [if_pos (by rw [decide_eq_true hx, Bool.true_or]), sb5 c37L0.eq_def]
    simp (disch := first | omega | fail) only [push_cast, seval, ui5, lu7, y81, bj9, wrap64, dec_lt, cw6, nl2, qc6, mr8, nb8, if_pos, if_neg, h1, mr8 hx]
   ·rw [decide_eq_false hx, Bool.false_or, ← ih, sb5 c37L0.eq_def]
    simp (disch := first | omega | fail) only [push_cast, seval, ui5, lu7, y81, bj9, wrap64, dec_lt, cw6, nl2, qc6, mr8, nb8, if_pos, if_neg, h1, nb8 hx]
theorem cr7 {x : Int} (hl : l.length ≤ 1000000) : o25 W 37 [.x (.int .i64 x), .fz b (.sl nl 0 1 (ivs l))] [] = some (.x (.bool (l.any fun y => decide (y = x))), [], []) := by
 have e := fun ks => z00 (b := b) (nl := nl) (x := x) hl l.length 0 (by omega) ks
 simp only [Int.natCast_zero, List.take_zero, List.drop_zero, rp2, lz6, x25, List.map_nil, List.length_nil] at e
 rw [o10 rfl T37 rfl]
 unfold F37 c37
 simp (disch := first | omega | fail) only [push_cast, seval, ui5, lu7, y81, bj9, wrap64, dec_lt, cw6, nl2, qc6, mr8, nb8, if_pos, if_neg]
 rw [e]
 by_cases h : (l.any fun y => decide (y = x)) = true
 ·rw [if_pos h, h]
 ·rw [if_neg h, Bool.eq_false_iff.2 h]
  simp (disch := first | omega | fail) only [push_cast, seval, ui5, lu7, y81, bj9, wrap64, dec_lt, cw6, nl2, qc6, mr8, nb8, if_pos, if_neg]
section
variable {k : FuncId} {t : Tree} {p : Int → Bool}
end
section
variable {k : FuncId} {t : Tree} {p : List Int → Bool} {m : List (List Int)} {nr : Nat} {bl : Bool}
end
end
end Go.Proofs.Ytghfdpdiibiigaa
namespace Go.Proofs.Ytghfdpdiibiigaa
open Go.Am Go.Vm Go.Alg
section
variable {α : Type} {n i at' : Nat} {M : List (List α)}
end
section
variable {q : Int} [IsFld q] {n c i at' : Nat} {M : List (List (El q))}
end
end Go.Proofs.Ytghfdpdiibiigaa
namespace Go.Alg
section
variable {K : Type} [FK K]
theorem d17 (m n : Nat) (f : Nat → K) : sumN (m + n) f = sumN m f + sumN n fun i => f (m + i) := by
 induction n with
 | zero => rw [Nat.add_zero, wr8, FK.add_zero]
 | succ n ih => rw [← Nat.add_assoc, cp9, ih, cp9, FK.add_assoc]
end
end Go.Alg
namespace Go.Alg
section
variable {K : Type} [FK K]
theorem pv3 (n : Nat) (f g : Nat → K) : sumN n (fun i => f i + g i) = sumN n f + sumN n g := jl9 _ _ _
def pw (x : K) : Nat → K
 | 0 => 1
 | n + 1 => pw x n * x
def ev : List K → K → K
 | [], _ => 0
 | a :: l, x => a + x * ev l x
def sd (x0 : K) : List K → List K × K
 | [] => ([], 0)
 | [a] => ([], a)
 | a :: b :: l => ((sd x0 (b :: l)).2 :: (sd x0 (b :: l)).1, a + x0 * (sd x0 (b :: l)).2)
theorem w89 (x0 : K) : ∀ l : List K, (sd x0 l).1.length = l.length - 1
 | [] => rfl
 | [a] => rfl
 | a :: b :: l => by
   rw [sd]
   show (sd x0 (b :: l)).1.length + 1 = _
   rw [w89 x0 (b :: l)]; simp
theorem n68 (x0 y : K) : ∀ l : List K, ev l y = (y - x0) * ev (sd x0 l).1 y + (sd x0 l).2
 | [] => by rw [sd, ev, mul_zero, FK.add_zero]
 | [a] => by
   show a + y * 0 = (y - x0) * 0 + a
   rw [mul_zero, mul_zero, FK.add_zero, zero_add]
 | a :: b :: l => by
   rw [ev, n68 x0 y (b :: l), sd]
   show a + y * ((y - x0) * ev (sd x0 (b :: l)).1 y + (sd x0 (b :: l)).2) = (y - x0) * ((sd x0 (b :: l)).2 + y * ev (sd x0 (b :: l)).1 y) + (a + x0 * (sd x0 (b :: l)).2)
   generalize (sd x0 (b :: l)).2 = r
   generalize ev (sd x0 (b :: l)).1 y = e
   rw [FK.mul_add, FK.mul_add, sub_mul y x0 r]
   have h1 : y * ((y - x0) * e) = (y - x0) * (y * e) := by ac_rfl
   rw [h1, sub_eq (y * r)]
   have h2 : y * r + -(x0 * r) + (y - x0) * (y * e) + (a + x0 * r) = a + ((y - x0) * (y * e) + y * r) + (-(x0 * r) + x0 * r) := by ac_rfl
   rw [h2, neg_add, FK.add_zero]
theorem cz6 (x0 : K) (l : List K) : (sd x0 l).2 = ev l x0 := by
 have := n68 x0 x0 l
 rw [sub_self, zero_mul, zero_add] at this
 exact this.symm
theorem rj2 (x0 : K) : ∀ l : List K, (∀ c ∈ (sd x0 l).1, c = 0) → (sd x0 l).2 = 0 → ∀ c ∈ l, c = 0
 | [], _, _, c, hc => by cases hc
 | [a], _, h, c, hc => by
   rw [List.mem_singleton.1 hc]; exact h
 | a :: b :: l, h1, h2, c, hc => by
   rw [sd] at h1 h2
   have hr : (sd x0 (b :: l)).2 = 0 := h1 _ (by simp)
   have ih := rj2 x0 (b :: l) (fun c hc => h1 c (by simp [hc])) hr
   rcases List.mem_cons.1 hc with rfl | hc
   ·rw [hr, mul_zero, FK.add_zero] at h2; exact h2
   ·exact ih c hc
theorem roots : ∀ (xs : List K) (f : List K), xs.Nodup → f.length ≤ xs.length → (∀ x ∈ xs, ev f x = 0) → ∀ c ∈ f, c = 0
 | [], f, _, hl, _ => by
   intro c hc
   rw [List.eq_nil_of_length_eq_zero (Nat.le_zero.1 hl)] at hc; cases hc
 | x0 :: xs, f, hn, hl, hx => by
   rw [List.nodup_cons] at hn
   have h0 := hx x0 (by simp)
   rw [← cz6] at h0
   have hl2 := w89 x0 f
   rw [List.length_cons] at hl
   refine rj2 x0 f (roots xs _ hn.2 (by omega) fun y hy => ?_) h0
   have h1 := n68 x0 y f
   rw [hx y (by simp [hy]), h0, FK.add_zero] at h1
   rcases mul_eq_zero h1.symm with h2 | h2
   ·exact absurd (by rw [← sub_eq_zero.1 h2]; exact hy) hn.1
   ·exact h2
end
end Go.Alg
namespace Go.Alg
section
variable {K : Type} [FK K]
end
end Go.Alg
namespace Go.Proofs.Ytghfdpdiibiigaa
open Go.Am Go.Vm Go.Alg
section
variable {q : Int} {b : Bool} {nl : Nat} {l : List Int}
end
section
variable {q : Int} [IsFld q] {b : Bool} {nl : Nat} {a : List (El q)}
end
end Go.Proofs.Ytghfdpdiibiigaa
namespace Go.Alg
section
variable {K : Type} [FK K]
end
end Go.Alg
namespace Go.Proofs.Ytghfdpdiibiigaa
open Go.Am Go.Vm Go.Alg
section
variable {q : Int} {b b' : Bool} {nl nl' : Nat}
end
end Go.Proofs.Ytghfdpdiibiigaa
namespace Go.Proofs.Ytghfdpdiibiigaa
open Go.Am Go.Vm Go.Alg
section
variable {q : Int} {b b' : Bool} {nl nl' : Nat}
end
end Go.Proofs.Ytghfdpdiibiigaa
namespace Go.Proofs.Ytghfdpdiibiigaa
open Go.Am Go.Vm Go.Alg
end Go.Proofs.Ytghfdpdiibiigaa
namespace Go.Proofs.Ytghfdpdiibiigaa
open Go.Am Go.Vm Go.Alg
def pkI (a n : Int) : Int := (if a < 0 then -(a + 1) else a).tmod n
theorem h58 {a n : Int} (hn : 0 < n) : 0 ≤ pkI a n ∧ pkI a n < n := by
 unfold pkI
 split
 ·exact ⟨Int.tmod_nonneg _ (by omega), Int.tmod_lt_of_pos _ hn⟩
 ·exact ⟨Int.tmod_nonneg _ (by omega), Int.tmod_lt_of_pos _ hn⟩
theorem cl0 {l : List Int} {i : Int} (h0 : 0 ≤ i) (h1 : i < l.length) : (ivs l)[i.toNat]? = some (.v (.int .i64 (gi l i))) := by
 have e : (ivs l)[i.toNat]? = some (.v (.int .i64 (gi l ((i.toNat : Nat) : Int)))) := ui5 (by omega)
 rwa [Int.toNat_of_nonneg h0] at e
section
variable {b : Bool} {nl : Nat} {raw : List Int}
theorem s88 {a n : Int} (h1 : -9223372036854775808 ≤ a) (h2 : a ≤ 9223372036854775807) (hn : 0 < n) : o25 W 9 [.x (.int .i64 a), .x (.int .i64 n)] [] = some (.x (.int .i64 (pkI a n)), [], []) := by
 have hz : ¬ n = 0 := by omega
 rw [o10 rfl T9 rfl]
 unfold F9 c9 pkI
 by_cases h0 : a < 0
 ·rw [if_pos h0]
  simp (disch := first | omega | fail) only [push_cast, seval, ui5, lu7, y81, bj9, wrap64, dec_lt, cw6, nl2, qc6, mr8, nb8, if_pos, if_neg, nb8 hz, hz]
  rw [show (0 : Int) - (a + 1) = -(a + 1) by omega]
 ·rw [if_neg h0]
  simp (disch := first | omega | fail) only [push_cast, seval, ui5, lu7, y81, bj9, wrap64, dec_lt, cw6, nl2, qc6, mr8, nb8, if_pos, if_neg, nb8 hz, hz]
end
theorem hl9 (p : Int) (hp : 2 ≤ p ∧ p ≤ 64) : ∀ (n : Nat) (q m q' m' : Int), 1 ≤ q → q ≤ 64 → 0 ≤ m → m + n ≤ 100 → dvdN n q p m = some (q', m') →
 (1 ≤ q' ∧ q' ≤ 64) ∧ ∀ ks, vgoL W ⟨hNo, [.tmp 2, .tmp 3], 0⟩ [0, 4, 5] c81L0 (.blk 2 [0, 4, 5] :: ks) [(0, .x (.int .i64 q)), (4, .x (.int .i64 p)), (5, .x (.int .i64 m))] [] = vgo W ⟨hNo, [.tmp 2, .tmp 3], 0⟩ ks (VFr.of [(0, .x (.int .i64 q')), (4, .x (.int .i64 p)), (5, .x (.int .i64 m'))]) []
 | 0, q, m, q', m', h1, h2, h3, h4, he => by cases he
 | n + 1, q, m, q', m', h1, h2, h3, h4, he => by
   rw [dvdN] at he
   have hp0 : ¬ p = 0 := by omega
   have q1 : q.tmod p = q % p := Int.tmod_eq_emod_of_nonneg (by omega)
   have q2 : q.tdiv p = q / p := Int.tdiv_eq_ediv_of_nonneg (by omega)
   by_cases hz : q % p = 0
   ·rw [show (q % p == 0) = true by simpa using hz, cond_true] at he
    have hd : 1 ≤ q / p := by
     rcases Int.lt_or_le (q / p) 1 with h | h
     ·have h5 : 0 ≤ q / p := Int.ediv_nonneg (by omega) (by omega)
      have h6 : q / p = 0 := by omega
      have := Int.emod_add_mul_ediv q p
      rw [h6, hz] at this; omega
     ·exact h
    have hd2 : q / p ≤ q := Int.ediv_le_self _ (by omega)
    obtain ⟨hb, ih⟩ := hl9 p hp n (q / p) (m + 1) q' m' hd (by omega) (by omega) (by omega) he
    refine ⟨hb, fun ks => ?_⟩
    rw [← ih ks, sb5 c81L0.eq_def]
    simp (disch := first | omega | fail) only [push_cast, seval, ui5, lu7, y81, bj9, wrap64, dec_lt, cw6, nl2, qc6, mr8, nb8, if_pos, if_neg, hp0, q1, q2, mr8 hz]
   ·rw [show (q % p == 0) = false by simpa using hz, cond_false] at he
    cases he
    refine ⟨⟨h1, h2⟩, fun ks => ?_⟩
    rw [sb5 c81L0.eq_def]
    simp (disch := first | omega | fail) only [push_cast, seval, ui5, lu7, y81, bj9, wrap64, dec_lt, cw6, nl2, qc6, mr8, nb8, if_pos, if_neg, hp0, q1, nb8 hz]
theorem ra6 (q : Int) (hq : 2 ≤ q ∧ q ≤ 64) : ∀ (n : Nat) (p : Int) (r : Int × Int), 2 ≤ p → p ≤ 64 → outN n q p = some r →
 ∀ ks, vgoL W ⟨hNo, [.tmp 2, .tmp 3], 0⟩ [0, 4] c81L1 (.blk 0 [] :: ks) [(0, .x (.int .i64 q)), (4, .x (.int .i64 p))] [] = some (.tup [.x (.int .i64 r.1), .x (.int .i64 r.2)], [], [])
 | 0, p, r, h1, h2, he => by cases he
 | n + 1, p, r, h1, h2, he => fun ks => by
   rw [outN] at he
   by_cases hl : q < p
   ·rw [decide_eq_true hl, cond_true] at he; cases he
   rw [decide_eq_false hl, cond_false] at he
   have hp0 : ¬ p = 0 := by omega
   have q1 : q.tmod p = q % p := Int.tmod_eq_emod_of_nonneg (by omega)
   by_cases hz : q % p = 0
   ·rw [show (q % p == 0) = true by simpa using hz, cond_true] at he
    cases hd : dvdN 64 q p 0 with
    | none => rw [hd] at he; cases he
    | some x =>
      obtain ⟨q', m'⟩ := x
      rw [hd] at he
      simp only [Option.some.injEq] at he
      obtain ⟨hb, hin⟩ := hl9 p ⟨h1, h2⟩ 64 q 0 q' m' (by omega) (by omega) (by omega) (by omega) hd
      rw [sb5 c81L1.eq_def]
      simp (disch := first | omega | fail) only [push_cast, seval, ui5, lu7, y81, bj9, wrap64, dec_lt, cw6, nl2, qc6, mr8, nb8, if_pos, if_neg, hp0, q1, mr8 hz]
      rw [hin]
      by_cases ho : q' = 1
      ·rw [show (q' == 1) = true by simpa using ho, cond_true] at he
       rw [← he]
       simp (disch := first | omega | fail) only [push_cast, seval, ui5, lu7, y81, bj9, wrap64, dec_lt, cw6, nl2, qc6, mr8, nb8, if_pos, if_neg, mr8 ho]
      ·rw [show (q' == 1) = false by simpa using ho, cond_false] at he
       rw [← he]
       simp (disch := first | omega | fail) only [push_cast, seval, ui5, lu7, y81, bj9, wrap64, dec_lt, cw6, nl2, qc6, mr8, nb8, if_pos, if_neg, nb8 ho]
   ·rw [show (q % p == 0) = false by simpa using hz, cond_false] at he
    by_cases hp64 : p = 64
    ·subst hp64; omega
    have ih := ra6 q hq n (p + 1) r (by omega) (by omega) he ks
    rw [← ih, sb5 c81L1.eq_def]
    simp (disch := first | omega | fail) only [push_cast, seval, ui5, lu7, y81, bj9, wrap64, dec_lt, cw6, nl2, qc6, mr8, nb8, if_pos, if_neg, hp0, q1, nb8 hz]
theorem fh8 {q : Int} (hq : 2 ≤ q ∧ q ≤ 64) {r : Int × Int} (he : outN 64 q 2 = some r) : o25 W 81 [.x (.int .i64 q)] [] = some (.tup [.x (.int .i64 r.1), .x (.int .i64 r.2)], [], []) := by
 rw [o10 rfl T81 rfl]
 unfold F81 c81
 simp (disch := first | omega | fail) only [push_cast, seval, ui5, lu7, y81, bj9, wrap64, dec_lt, cw6, nl2, qc6, mr8, nb8, if_pos, if_neg]
 rw [ra6 q hq 64 2 r (by omega) (by omega) he]
def szN : Nat → Nat → List Int
 | 0, _ => []
 | n + 1, q => bif (fldN q).isSome then (q : Int) :: szN n (q + 1) else szN n (q + 1)
def szL : List Int := szN 63 2
theorem pb4 : szL.length = 27 := by kernel_rfl
theorem ho6 : (szL.all fun z => decide (2 ≤ z) && decide (z ≤ 64) && (fldN z.toNat).isSome) = true := by kernel_rfl
theorem x14 {z : Int} (hz : z ∈ szL) : 2 ≤ z ∧ z ≤ 64 ∧ IsFld z := by
 have := List.all_eq_true.1 ho6 z hz
 simp only [Bool.and_eq_true, decide_eq_true_eq] at this
 obtain ⟨⟨h1, h2⟩, h3⟩ := this
 obtain ⟨⟨p, m, g, mod⟩, hx⟩ := Option.isSome_iff_exists.1 h3
 exact ⟨h1, h2, ⟨p, m, g, mod, hx⟩⟩
theorem jl0 : ∀ (n q : Nat) (zs : List Int), q + n = 65 → 2 ≤ q → zs.length ≤ q → ∀ ks,
 vgoL W ⟨h54, [.tmp 0], 0⟩ [1, 2] c54L0 (.blk 0 [1] :: ks) [(1, .own 0 []), (2, .x (.int .i64 q))] [.sl 1 3 1 (ivs zs)] = vgo W ⟨h54, [.tmp 0], 0⟩ ks (VFr.of [(1, .own 0 [])]) [.sl 1 3 1 (ivs (zs ++ szN n q))]
 | 0, q, zs, hq, hq2, hz, ks => by
   rw [szN, List.append_nil, sb5 c54L0.eq_def]
   simp (disch := first | omega | fail) only [push_cast, seval, ui5, lu7, y81, bj9, wrap64, dec_lt, cw6, nl2, qc6, mr8, nb8, if_pos, if_neg]
 | n + 1, q, zs, hq, hq2, hz, ks => by
   have hle : (q : Int) ≤ 64 := by omega
   cases hs : fldN q with
   | none =>
     have ho := wd5 (n := q) hq2 (by omega) hs
     have ep := fh8 (q := (q : Int)) (by omega) ho
     have ih := jl0 n (q + 1) zs (by omega) (by omega) (by omega) ks
     have hw : zs ++ szN (n + 1) q = zs ++ szN n (q + 1) := by rw [szN, hs]; rfl
     rw [Int.natCast_add, Int.natCast_one] at ih
     rw [hw, ← ih, sb5 c54L0.eq_def]
     simp (disch := first | omega | fail) only [push_cast, seval, ui5, lu7, y81, bj9, wrap64, dec_lt, cw6, nl2, qc6, mr8, nb8, if_pos, if_neg, ep, decide_false, Int.lt_irrefl]
   | some x =>
     obtain ⟨p, m, g, mod⟩ := x
     obtain ⟨hf, ho, _⟩ := hi9 hs
     have hp2 := hf.p2
     have hpp : 0 < p := by omega
     have ep := fh8 (q := (q : Int)) (by omega) ho
     have ih := jl0 n (q + 1) (zs ++ [(q : Int)]) (by omega) (by omega) (by simp; omega) ks
     have hw : zs ++ szN (n + 1) q = zs ++ [(q : Int)] ++ szN n (q + 1) := by rw [szN, hs]; simp
     rw [Int.natCast_add, Int.natCast_one] at ih
     rw [hw, ← ih, sb5 c54L0.eq_def]
     simp (disch := first | omega | fail) only [push_cast, seval, ui5, lu7, y81, bj9, wrap64, dec_lt, cw6, nl2, qc6, mr8, nb8, if_pos, if_neg, ep, dec_lt hpp]
theorem n63 : o25 W 54 [] [] = some (.own 0 [], [.sl 1 3 1 (ivs szL)], []) := by
 have e := fun ks => jl0 63 2 [] rfl (by omega) (by simp) ks
 rw [List.nil_append, show ((2 : Nat) : Int) = 2 from rfl] at e
 simp only [Int.natCast_zero, List.take_zero, List.drop_zero, rp2, lz6, x25, List.map_nil, List.length_nil] at e
 rw [o10 rfl T54 rfl]
 unfold F54 c54
 simp (disch := first | omega | fail) only [push_cast, seval, ui5, lu7, y81, bj9, wrap64, dec_lt, cw6, nl2, qc6, mr8, nb8, if_pos, if_neg]
 rw [e]
 simp (disch := first | omega | fail) only [push_cast, seval, ui5, lu7, y81, bj9, wrap64, dec_lt, cw6, nl2, qc6, mr8, nb8, if_pos, if_neg]
 rfl
theorem hl8 {i : Int} (h0 : 0 ≤ i) (h1 : i < 27) : gi szL i ∈ szL ∧ (ivs szL)[i.toNat]? = some (.v (.int .i64 (gi szL i))) := by
 have hl := pb4
 have h2 := cl0 (l := szL) h0 (by omega)
 refine ⟨?_, h2⟩
 have h3 : i.toNat < szL.length := by omega
 have : gi szL i = szL[i.toNat] := by
  rw [show (ivs szL)[i.toNat]? = some (.v (.int .i64 (szL[i.toNat]))) from by unfold ivs; rw [List.getElem?_map, List.getElem?_eq_getElem h3]; rfl] at h2
  simpa using h2.symm
 rw [this]
 exact List.getElem_mem h3
theorem jx7 (c : Int) (h1 : -9223372036854775808 ≤ c) (h2 : c ≤ 9223372036854775807) : ∃ z, z ∈ szL ∧ o25 W 33 [.x (.int .i64 c)] [] = some (.x (.int .i64 z), [], []) := by
 have e1 := n63
 have hl := pb4
 have e2 := s88 (a := c) (n := 100) h1 h2 (by omega)
 have r1 := h58 (a := c) (n := 100) (by omega)
 generalize pkI c 100 = k at e2 r1
 by_cases hk : k < 60
 ·have r2 : 0 ≤ k.tmod 7 ∧ k.tmod 7 < 7 := ⟨Int.tmod_nonneg _ r1.1, Int.tmod_lt_of_pos _ (by decide)⟩
  have a1 := hl8 (i := k.tmod 7) r2.1 (by omega)
  refine ⟨_, a1.1, ?_⟩
  have a2 := a1.2
  rw [o10 rfl T33 rfl]
  unfold F33 c33
  simp (disch := first | omega | fail) only [push_cast, seval, ui5, lu7, y81, bj9, wrap64, dec_lt, cw6, nl2, qc6, mr8, nb8, if_pos, if_neg, e1, e2, hl, a2]
 ·have r3 : -9223372036854775808 ≤ c.tdiv 100 ∧ c.tdiv 100 ≤ 9223372036854775807 := by
   rcases Int.le_total 0 c with h | h
   ·rw [Int.tdiv_eq_ediv_of_nonneg h]; omega
   ·have : c.tdiv 100 = -((-c).tdiv 100) := by rw [Int.neg_tdiv, Int.neg_neg]
    rw [this, Int.tdiv_eq_ediv_of_nonneg (by omega)]; omega
  have e3 := s88 (a := c.tdiv 100) (n := 27) r3.1 r3.2 (by omega)
  have r4 := h58 (a := c.tdiv 100) (n := 27) (by omega)
  have a1 := hl8 (i := pkI (c.tdiv 100) 27) r4.1 r4.2
  refine ⟨_, a1.1, ?_⟩
  have a2 := a1.2
  rw [o10 rfl T33 rfl]
  unfold F33 c33
  simp (disch := first | omega | fail) only [push_cast, seval, ui5, lu7, y81, bj9, wrap64, dec_lt, cw6, nl2, qc6, mr8, nb8, if_pos, if_neg, e1, e2, hl, e3, a2]
end Go.Proofs.Ytghfdpdiibiigaa
namespace Go.Proofs.Ytghfdpdiibiigaa
open Go.Am Go.Vm Go.Alg
section
variable {l : List Int} {nl : Nat} {b : Bool} {x : Int}
end
end Go.Proofs.Ytghfdpdiibiigaa
namespace Go.Alg
section
variable {K : Type} [FK K]
theorem y46 {α β : Type} (f : α × β → K) : ∀ (l : List α) (l' : List β), l.length = l'.length → ∀ l2 l2', sumL ((l ++ l2).zip (l' ++ l2')) f = sumL (l.zip l') f + sumL (l2.zip l2') f := fun l l' h l2 l2' => by
 rw [List.zip_append h, up0]
theorem uj4 {α β γ : Type} (g : β → γ) (f : α × γ → K) : ∀ (l : List α) (l' : List β), sumL (l.zip (l'.map g)) f = sumL (l.zip l') (fun p => f (p.1, g p.2))
 | [], _ => rfl
 | _ :: _, [] => rfl
 | a :: l, b :: l' => by rw [List.map_cons, List.zip_cons_cons, List.zip_cons_cons, gb6, gb6, uj4 g f l l']
theorem hom : ∀ (r : Nat) (S : List (Nat → K)), r < S.length → ∃ y : List K, y.length = S.length ∧ (∃ a ∈ y, a ≠ 0) ∧ ∀ j, j < r → sumL (y.zip S) (fun p => p.1 * p.2 j) = 0
 | 0, S, h => by
   refine ⟨List.replicate S.length 1, List.length_replicate, ⟨1, List.mem_replicate.2 ⟨by omega, rfl⟩, ki7⟩, fun j hj => absurd hj (Nat.not_lt_zero j)⟩
 | r + 1, S, h => by
   by_cases hs : ∃ s ∈ S, s r ≠ 0
   ·obtain ⟨s, hs, hne⟩ := hs
    obtain ⟨S1, S2, rfl⟩ := List.append_of_mem hs
    have hl : r < ((S1 ++ S2).map (fun (t : Nat → K) j => t j - t r * FK.inv (s r) * s j)).length := by
     simp only [List.length_map, List.length_append, List.length_cons] at h ⊢; omega
    obtain ⟨y, y1, ⟨a, y2, y3⟩, y4⟩ := hom r _ hl
    rw [List.length_map, List.length_append] at y1
    have hsp : y = y.take S1.length ++ y.drop S1.length := (List.take_append_drop _ _).symm
    have h1 : (y.take S1.length).length = S1.length := by rw [List.length_take]; omega
    have h2 : (y.drop S1.length).length = S2.length := by rw [List.length_drop]; omega
    generalize y.take S1.length = u at hsp h1
    generalize y.drop S1.length = w at hsp h2
    subst hsp
    have hsum : ∀ (c : K) j, sumL ((u ++ c :: w).zip (S1 ++ s :: S2)) (fun p => p.1 * p.2 j) = sumL ((u ++ w).zip (S1 ++ S2)) (fun p => p.1 * p.2 j) + c * s j := fun c j => by
     rw [y46 _ _ _ h1, y46 _ _ _ h1, List.zip_cons_cons, gb6, FK.add_assoc, FK.add_comm (sumL (w.zip S2) _)]
    refine ⟨u ++ -(sumL ((u ++ w).zip (S1 ++ S2)) (fun p => p.1 * p.2 r) * FK.inv (s r)) :: w, ?_, ⟨a, ?_, y3⟩, fun j hj => ?_⟩
    ·simp only [List.length_append, List.length_cons, h1, h2]
    ·simp only [List.mem_append, List.mem_cons] at y2 ⊢
     rcases y2 with y2 | y2
     ·exact .inl y2
     ·exact .inr (.inr y2)
    ·rw [hsum]
     by_cases hjr : j = r
     ·subst hjr
      rw [neg_mul, FK.mul_assoc, inv_mul hne, FK.mul_one, FK.add_neg]
     ·have h3 := y4 j (by omega)
      rw [uj4] at h3
      have h4 : sumL ((u ++ w).zip (S1 ++ S2)) (fun p => p.1 * (p.2 j - p.2 r * FK.inv (s r) * s j)) = sumL ((u ++ w).zip (S1 ++ S2)) (fun p => p.1 * p.2 j) - sumL ((u ++ w).zip (S1 ++ S2)) (fun p => p.1 * p.2 r) * FK.inv (s r) * s j := by
       rw [← ue3, ← ue3, ← b15]
       refine ox7 fun p _ => ?_
       rw [mul_sub, ← FK.mul_assoc, ← FK.mul_assoc]
      have h3 : sumL ((u ++ w).zip (S1 ++ S2)) (fun p => p.1 * (p.2 j - p.2 r * FK.inv (s r) * s j)) = 0 := h3
      rw [h4] at h3
      rw [neg_mul, ← sub_eq, h3]
   ·obtain ⟨y, y1, y2, y3⟩ := hom r S (by omega)
    refine ⟨y, y1, y2, fun j hj => ?_⟩
    by_cases hjr : j = r
    ·subst hjr
     refine tx6 fun p hp => ?_
     have : p.2 j = 0 := Classical.byContradiction fun hne => hs ⟨p.2, (List.of_mem_zip hp).2, hne⟩
     rw [this, mul_zero]
    ·exact y3 j (by omega)
end
section
variable {K : Type} [FK K] {n : Nat}
section
variable {A : List (Nat × List K)} (hr : Rref n (toF A))
include hr
end
end
end Go.Alg
namespace Go.Alg
section
variable {K : Type} [FK K]
open Classical in
end
end Go.Alg
namespace Go.Alg
section
variable {K : Type} [FK K] {n : Nat}
end
end Go.Alg
namespace Go.Alg
section
variable {K : Type} [FK K]
end
end Go.Alg
namespace Go.Proofs.Ytghfdpdiibiigaa
open Go.Am Go.Vm Go.Alg
theorem hg9 {q : Int} [h : IsFld q] {b : Bool} {R : Rts} : wb3 R 1 (.fz b (pF q)) = some false := by
 obtain ⟨p, m, g, mod, hn⟩ := h.ok
 unfold pF; rw [hn]; rfl
theorem oe1 {q : Int} [h : IsFld q] : 2 ≤ fch q := by
 obtain ⟨p, m, g, mod, hn⟩ := h.ok
 obtain ⟨h2, _⟩ := ug0 hn
 rw [(y65 hn).1]
 exact ((hi9 hn).1).p2
theorem vr7 {c : Int} (h1 : -9223372036854775808 ≤ c) (h2 : c ≤ 9223372036854775807) : ∃ z, z ∈ szL ∧ o25 W 19 [.x (.int .i64 c)] [] = some (.fz true (pF z), [], []) := by
 obtain ⟨z, hz, e0⟩ := jx7 c h1 h2
 obtain ⟨z1, z2, hfz⟩ := x14 hz
 haveI := hfz
 have hc := oe1 (q := z)
 refine ⟨z, hz, ?_⟩
 rw [o10 rfl T19 rfl]
 unfold F19 c19
 simp (disch := first | omega | fail) only [push_cast, seval, ui5, lu7, y81, bj9, wrap64, dec_lt, cw6, nl2, qc6, mr8, nb8, if_pos, if_neg, e0, hg9]
section
variable {raw : List Int} {b : Bool} {nl : Nat}
end
section
variable {a c : List Int} {b b' : Bool} {nl nl' : Nat}
end
end Go.Proofs.Ytghfdpdiibiigaa
namespace Go.Proofs.Ytghfdpdiibiigaa
open Go.Am Go.Vm Go.Alg
theorem gf5 {z : Int} [IsFld z] (a : Int) : ∃ x : El z, pkI a z = x.v := by
 have hk := h58 (a := a) (n := z) (by have := aw0 (q := z); omega)
 exact ⟨⟨pkI a z, hk.1, hk.2⟩, rfl⟩
end Go.Proofs.Ytghfdpdiibiigaa
namespace Go.Proofs.Ytghfdpdiibiigaa
open Go.Am Go.Alg
def tw1 (n : Nat) : Bool := match fldN n with
 | none => true
 | some (p, m, g, mod) => ((List.range n).all fun c : Nat => decide (fpow n (fadd n c 1) p = fadd n (fpow n c p) 1)) && ((List.range n).all fun c : Nat => decide (fpow n c p = c) == decide ((c : Int) < p))
theorem ze6 : ((List.range 63).all fun n => tw1 (n + 2)) = true := by kernel_rfl
section
variable {q : Int} [h : IsFld q]
theorem pw_v (x : El q) : ∀ n : Nat, (pw x n).v = powI q x.v n
 | 0 => rfl
 | n + 1 => by rw [pw, ym6, pw_v x n, powI]
theorem n00 (x : El q) (n : Nat) : fpow q x.v n = (pw x n).v := by
 obtain ⟨p, m, g, mod, hn⟩ := h.ok
 obtain ⟨hf, t, _⟩ := jj8 hn
 rw [pw_v]
 cases n with
 | zero =>
   rw [fpow, x.ok]
   show (bif !true || ((x.v == 0) && decide (((0 : Nat) : Int) < 0)) then _ else _) = _
   rw [decide_eq_false (by omega), Bool.and_false]; rfl
 | succ n => exact (v22 t hf.q2 ⟨x.lo, x.hi⟩ (n + 1) (by omega)).symm
def chN (q : Int) : Nat := (fch q).toNat
theorem ag7 : 2 ≤ chN q ∧ ((chN q : Nat) : Int) = fch q := by
 obtain ⟨p, m, g, mod, hn⟩ := h.ok
 have := (jj8 hn).1.p2
 unfold chN
 rw [(y65 hn).1]
 omega
theorem c07 : (∀ c : El q, pw (c + 1) (chN q) = pw c (chN q) + 1) ∧ ∀ c : El q, pw c (chN q) = c ↔ c.v < fch q := by
 obtain ⟨p, m, g, mod, hn⟩ := h.ok
 obtain ⟨h2, h64⟩ := ug0 hn
 have hq : ((q.toNat : Nat) : Int) = q := by omega
 have hc := List.all_eq_true.1 ze6 (q.toNat - 2) (List.mem_range.2 (by omega))
 rw [show q.toNat - 2 + 2 = q.toNat by omega] at hc
 unfold tw1 at hc
 rw [hn] at hc
 simp only [Bool.and_eq_true, List.all_eq_true, List.mem_range, decide_eq_true_eq] at hc
 rw [hq] at hc
 have hp := ag7 (q := q)
 rw [(y65 hn).1] at hp
 refine ⟨fun c => El.ext' ?_, fun c => ?_⟩
 ·have h1 := hc.1 c.v.toNat (by have := c.hi; omega)
  rw [show ((c.v.toNat : Nat) : Int) = c.v by have := c.lo; omega, ← hp.2, n00 c] at h1
  rw [← n00, on0, on0, wh3]
  exact h1
 ·rw [(y65 hn).1]
  have h1 := hc.2 c.v.toNat (by have := c.lo; have := c.hi; omega)
  rw [show ((c.v.toNat : Nat) : Int) = c.v by have := c.lo; omega, ← hp.2, n00 c, hp.2] at h1
  have h3 := decide_eq_decide.1 (beq_iff_eq.1 h1)
  exact ⟨fun e => h3.1 (by rw [e]), fun e => El.ext' (h3.2 e)⟩
end
section
variable {K : Type} [FK K]
theorem wp4 (a b : K) : ∀ n, pw (a * b) n = pw a n * pw b n
 | 0 => (one_mul _).symm
 | n + 1 => by rw [pw, pw, pw, wp4 a b n]; ac_rfl
theorem se5 : ∀ n, pw (1 : K) n = 1
 | 0 => rfl
 | n + 1 => by rw [pw, se5 n, FK.mul_one]
theorem ii7 {n : Nat} (hn : n ≠ 0) : pw (0 : K) n = 0 := by
 obtain ⟨n, rfl⟩ : ∃ k, n = k + 1 := ⟨n - 1, by omega⟩
 rw [pw, mul_zero]
theorem b33 (a : K) (m : Nat) : ∀ n, pw (pw a m) n = pw a (m * n)
 | 0 => rfl
 | n + 1 => by
   rw [pw, b33 a m n, Nat.mul_succ]
   generalize m * n = k
   induction m with
   | zero => rw [pw, FK.mul_one]; rfl
   | succ m ih => rw [pw, ← FK.mul_assoc, ih]; rfl
end
section
variable {q : Int} [h : IsFld q]
theorem lk9 (a b : El q) : pw (a + b) (chN q) = pw a (chN q) + pw b (chN q) := by
 have h2 := (ag7 (q := q)).1
 by_cases hb : b = 0
 ·rw [hb, FK.add_zero, ii7 (by omega), FK.add_zero]
 ·have h1 := (c07 (q := q)).1 (a * FK.inv b)
  have e : a + b = (a * FK.inv b + 1) * b := by rw [add_mul, FK.mul_assoc, inv_mul hb, FK.mul_one, one_mul]
  rw [e, wp4, h1, add_mul, one_mul, ← wp4, FK.mul_assoc, inv_mul hb, FK.mul_one]
theorem pw_q (a : El q) : pw a q.toNat = a := El.ext' (by
 obtain ⟨p, m, g, mod, hn⟩ := h.ok
 obtain ⟨hf, t, _⟩ := jj8 hn
 have h2 := hf.q2
 rw [← n00, show ((q.toNat : Nat) : Int) = q by omega]
 by_cases h0 : a.v = 0
 ·rw [h0, fpow, iy2 ⟨Int.le_refl _, by omega⟩, decide_eq_false (by omega), show (q == 0) = false by simp; omega]
  rfl
 ·have l1 := t.lr a.v (by have := a.lo; omega) a.hi
  rw [fpow, a.ok, show (a.v == 0) = false by simpa using h0, show (q == 0) = false by simp; omega]
  show fexp q (flog q a.v * (q % (q - 1)) % (q - 1)) = a.v
  have e : flog q a.v * (q % (q - 1)) % (q - 1) = flog q a.v := by
   rw [Int.mul_emod (flog q a.v) (q % (q - 1)), Int.emod_emod, ← Int.mul_emod, show flog q a.v * q = flog q a.v + (q - 1) * flog q a.v by rw [Int.sub_mul, Int.one_mul, Int.mul_comm]; omega, Int.add_mul_emod_self_left, Int.emod_eq_of_lt l1.1 l1.2.1]
  rw [e, l1.2.2])
theorem pv2 : (chN q) ^ (fdg q) = q.toNat ∧ 1 ≤ fdg q := by
 obtain ⟨p, m, g, mod, hn⟩ := h.ok
 have hf := (jj8 hn).1
 have hc := ag7 (q := q)
 rw [(y65 hn).1] at hc
 rw [(y65 hn).2]
 constructor
 ·have := hf.pm
  rw [← hc.2, ← Int.natCast_pow] at this
  omega
 ·refine Nat.one_le_iff_ne_zero.2 fun e => ?_
  have h1 := hf.pm
  have h2 := hf.q2
  rw [e, Int.pow_zero] at h1
  omega
theorem ar9 (a : El q) : ∀ n, fx5 q n a.v = (pw a (chN q ^ n)).v := by
 intro n
 induction n generalizing a with
 | zero => rw [fx5, Nat.pow_zero, show pw a 1 = a from one_mul a]
 | succ n ih => rw [fx5, ← (ag7 (q := q)).2, n00, ih, b33, Nat.pow_succ, Nat.mul_comm]
theorem wg3 (a : El q) (k : Nat) (hk : k < fdg q) : rj7 q a.v (k : Int) = (pw a (chN q ^ k)).v := by
 rw [rj7, a.ok, cond_true, Int.emod_eq_of_lt (by omega) (by omega), Int.toNat_natCast, ar9]
theorem j71 (a : El q) : rj7 q a.v 1 = (pw a (chN q)).v := by
 obtain ⟨h1, h2⟩ := pv2 (q := q)
 by_cases hm : fdg q = 1
 ·rw [rj7, a.ok, cond_true, hm, show ((1 : Int) % ((1 : Nat) : Int)).toNat = 0 from rfl, fx5]
  rw [hm, Nat.pow_one] at h1
  rw [h1, pw_q]
 ·have := wg3 a 1 (by omega)
  rw [Nat.pow_one] at this
  exact this
theorem qz4 (a : El q) : rj7 q (pw a (chN q)).v (-1) = a.v := by
 obtain ⟨h1, h2⟩ := pv2 (q := q)
 rw [rj7, El.ok, cond_true, show ((-1 : Int) % (fdg q : Int)).toNat = fdg q - 1 by
  have h3 : (-1 : Int) % (fdg q : Int) = (fdg q : Int) - 1 := by
   rw [← Int.add_emod_right, Int.emod_eq_of_lt (by omega) (by omega)]; omega
  omega, ar9, b33, show chN q * chN q ^ (fdg q - 1) = q.toNat by
  rw [← h1, ← Nat.pow_succ']
  exact congrArg (chN q ^ ·) (by omega), pw_q]
theorem zw2 (a b : El q) : ∀ k, pw (a + b) (chN q ^ k) = pw a (chN q ^ k) + pw b (chN q ^ k)
 | 0 => by rw [Nat.pow_zero, show pw (a + b) 1 = a + b from one_mul _, show pw a 1 = a from one_mul _, show pw b 1 = b from one_mul _]
 | k + 1 => by rw [Nat.pow_succ, ← b33, ← b33, ← b33, zw2 a b k, lk9]
def trE (a : El q) : El q := sumN (fdg q) fun k => pw a (chN q ^ k)
theorem rk5 (a b : El q) : trE (a + b) = trE a + trE b := by
 unfold trE
 rw [← pv3]
 exact rc1 fun k _ => zw2 a b k
theorem hv9 (f : Nat → El q) : ∀ n, pw (sumN n f) (chN q) = sumN n fun k => pw (f k) (chN q)
 | 0 => by rw [wr8, wr8, ii7 (by have := (ag7 (q := q)).1; omega)]
 | n + 1 => by rw [cp9, cp9, lk9, hv9 f n]
theorem uh5 (a : El q) : pw (trE a) (chN q) = trE a := by
 obtain ⟨h1, h2⟩ := pv2 (q := q)
 unfold trE
 rw [hv9]
 obtain ⟨d, hd⟩ : ∃ d, fdg q = d + 1 := ⟨fdg q - 1, by omega⟩
 rw [hd]
 rw [hd] at h1
 rw [cp9, show d + 1 = 1 + d by omega, d17, b33, ← Nat.pow_succ, h1, pw_q, FK.add_comm]
 congr 1
 ·show a = sumN (0 + 1) _
  rw [cp9, wr8, zero_add, Nat.pow_zero]
  exact (one_mul a).symm
 ·exact rc1 fun k _ => by rw [b33, ← Nat.pow_succ, Nat.add_comm]
theorem yg6 (a : El q) : ∀ (n k : Nat) (s : El q), k + n = fdg q → s = sumN k (fun k => pw a (chN q ^ k)) → yi5 q a.v n k s.v = (trE a).v
 | 0, k, s, hk, hs => by
   rw [yi5, hs, show k = fdg q by omega]; rfl
 | n + 1, k, s, hk, hs => by
   rw [yi5, wg3 a k (by omega)]
   exact yg6 a n (k + 1) (s + pw a (chN q ^ k)) (by omega) (by rw [cp9, hs])
theorem cv3 (a : El q) : so2 q a.v = (trE a).v := by
 rw [so2, a.ok, cond_true]
 exact yg6 a (fdg q) 0 0 (by omega) rfl
def prN {K : Type} [FK K] (f : Nat → K) : Nat → K
 | 0 => 1
 | n + 1 => prN f n * f n
def noE (a : El q) : El q := prN (fun k => pw a (chN q ^ k)) (fdg q)
theorem c27 (a b : El q) : noE (a * b) = noE a * noE b := by
 unfold noE
 generalize fdg q = n
 induction n with
 | zero => exact (one_mul _).symm
 | succ n ih => rw [prN, prN, prN, ih, wp4]; ac_rfl
theorem vs4 (f : Nat → El q) (m : Nat) : ∀ n, pw (prN f n) m = prN (fun k => pw (f k) m) n
 | 0 => se5 m
 | n + 1 => by rw [prN, prN, wp4, vs4 f m n]
theorem nj6 (f : Nat → El q) : ∀ n, prN f (n + 1) = f 0 * prN (fun k => f (k + 1)) n
 | 0 => by rw [prN, prN, prN, one_mul, FK.mul_one]
 | n + 1 => by rw [prN, nj6 f n, prN, FK.mul_assoc]
theorem jl8 (a : El q) : pw (noE a) (chN q) = noE a := by
 obtain ⟨h1, h2⟩ := pv2 (q := q)
 unfold noE
 rw [vs4]
 obtain ⟨d, hd⟩ : ∃ d, fdg q = d + 1 := ⟨fdg q - 1, by omega⟩
 rw [hd]
 rw [hd] at h1
 rw [nj6 (fun k => pw a (chN q ^ k)), prN]
 simp only [b33]
 rw [← Nat.pow_succ, h1, pw_q, FK.mul_comm, Nat.pow_zero, show pw a 1 = a from one_mul a]
 rfl
theorem t94 (a : El q) : ∀ (n k : Nat) (s : El q), k + n = fdg q → s = prN (fun k => pw a (chN q ^ k)) k → lf5 q a.v n k s.v = (noE a).v
 | 0, k, s, hk, hs => by
   rw [lf5, hs, show k = fdg q by omega]; rfl
 | n + 1, k, s, hk, hs => by
   rw [lf5, wg3 a k (by omega)]
   exact t94 a n (k + 1) (s * pw a (chN q ^ k)) (by omega) (by rw [prN, hs])
theorem w26 (a : El q) : t92 q a.v = (noE a).v := by
 rw [t92, a.ok, cond_true]
 exact t94 a (fdg q) 0 1 (by omega) rfl
theorem zz0 (a b : El q) : pw (a * b) (chN q) = pw a (chN q) * pw b (chN q) := wp4 a b _
end
end Go.Proofs.Ytghfdpdiibiigaa
namespace Go.Proofs.Ytghfdpdiibiigaa
open Go.Am Go.Alg
def nx3 (n s : Nat) (g : Int) (w l : List Int) (e : Int) : Bool :=
 bif w.length == 0 then decide (e = 3) else decide (e = 0) && decide (w.length = s) && decide (l.length = s) && decide (gi l 0 = 0) && decide (gi l 1 = 1) &&
  ((List.range s).all fun c : Nat => fok n (gi l c) && decide (fpow n (gi l c) s = gi l c) && decide (gi l (fadd s c 1) = fadd n (gi l c) 1) && decide (gi l (fmul s g c) = fmul n (gi l g) (gi l c)))
def t35 (n s : Nat) : Bool := match fldN n, fldN s with
 | some _, some (_, _, g, _) => nx3 n s g (kg5 n s) (embP s n).2 (embP s n).1
 | _, _ => true
theorem k11 : ((List.range 63).all fun n => (List.range 63).all fun s => t35 (n + 2) (s + 2)) = true := by kernel_rfl
theorem nt8 (q s : Int) : ∀ (n a x : Nat), a ≤ x → x < a + n → fpow q x s = x → (x : Int) ∈ iq0 q s n a
 | 0, a, x, h1, h2, _ => by omega
 | n + 1, a, x, h1, h2, h3 => by
   rw [iq0]
   by_cases he : x = a
   ·subst he
    rw [decide_eq_true h3, cond_true]
    exact List.mem_cons_self
   ·have ih := nt8 q s n (a + 1) x (by omega) (by omega) h3
    cases decide (fpow q (a : Int) s = (a : Int)) with
    | true => rw [cond_true]; exact List.mem_cons_of_mem _ ih
    | false => rw [cond_false]; exact ih
theorem sa4 {z s : Int} (hne : kg5 z s ≠ []) (c : El z) (h : fpow z c.v s = c.v) : c.v ∈ kg5 z s := by
 unfold kg5 at hne ⊢
 split at hne
 ·rename_i p m g mod hs
  cases hb : (decide (p = fch z) && decide (fdg z % m = 0)) with
  | false => rw [hb] at hne; exact absurd rfl hne
  | true =>
    rw [cond_true]
    have hlo := c.lo
    have hhi := c.hi
    have := nt8 z s z.toNat 0 c.v.toNat (by omega) (by omega) (by rw [show ((c.v.toNat : Nat) : Int) = c.v by omega]; exact h)
    rw [show ((c.v.toNat : Nat) : Int) = c.v by omega] at this
    exact this
 ·exact absurd rfl hne
section
variable {z s : Int} [hz : IsFld z] [hs : IsFld s]
structure Emb (z s : Int) [IsFld z] [IsFld s] (l : List Int) (E : El s → El z) : Prop where
 at' : ∀ c, gi l c.v = (E c).v
 fix : ∀ c, fpow z (E c).v s = (E c).v
 add : ∀ a b, E (a + b) = E a + E b
 mul : ∀ a b, E (a * b) = E a * E b
 inj : ∀ a b, E a = E b → a = b
theorem ed4 : (kg5 z s = [] ∧ (embP s z).1 = 3) ∨ ((embP s z).1 = 0 ∧ kg5 z s ≠ [] ∧ (kg5 z s).length = s.toNat ∧ (embP s z).2.length = s.toNat ∧ ∃ E, Emb z s (embP s z).2 E) := by
 obtain ⟨p, m, g, mod, hn⟩ := hz.ok
 obtain ⟨p', m', g', mod', hn'⟩ := hs.ok
 obtain ⟨a2, a64⟩ := ug0 hn
 obtain ⟨b2, b64⟩ := ug0 hn'
 have hzq : ((z.toNat : Nat) : Int) = z := by omega
 have hsq : ((s.toNat : Nat) : Int) = s := by omega
 have hc := List.all_eq_true.1 (List.all_eq_true.1 k11 (z.toNat - 2) (List.mem_range.2 (by omega))) (s.toNat - 2) (List.mem_range.2 (by omega))
 rw [show z.toNat - 2 + 2 = z.toNat by omega, show s.toNat - 2 + 2 = s.toNat by omega] at hc
 unfold t35 at hc
 rw [hn, hn'] at hc
 simp only [hzq, hsq] at hc
 unfold nx3 at hc
 by_cases h0 : kg5 z s = []
 ·left
  rw [h0] at hc
  exact ⟨h0, by simpa using hc⟩
 ·right
  have hl : (kg5 z s).length ≠ 0 := fun e => h0 (List.eq_nil_of_length_eq_zero e)
  rw [show ((kg5 z s).length == 0) = false by simpa using h0, cond_false] at hc
  simp only [Bool.and_eq_true, decide_eq_true_eq, List.all_eq_true, List.mem_range] at hc
  obtain ⟨⟨⟨⟨⟨c1, c2⟩, c3⟩, c4⟩, c5⟩, c6⟩ := hc
  rw [hzq] at c6
  generalize (embP s z).2 = l at c3 c4 c5 c6 ⊢
  obtain ⟨hf', t', g1, g2⟩ := jj8 hn'
  have key : ∀ c : El s, (fok z (gi l c.v) = true ∧ fpow z (gi l c.v) s = gi l c.v ∧ gi l (fadd s c.v 1) = fadd z (gi l c.v) 1) ∧ gi l (fmul s g' c.v) = fmul z (gi l g') (gi l c.v) := fun c => by
   have := c6 c.v.toNat (by have := c.lo; have := c.hi; omega)
   rw [show ((c.v.toNat : Nat) : Int) = c.v by have := c.lo; omega, hsq] at this
   exact ⟨⟨this.1.1.1, this.1.1.2, this.1.2⟩, this.2⟩
  have hok : ∀ c : El s, 0 ≤ gi l c.v ∧ gi l c.v < z := fun c => gc0.1 (key c).1.1
  obtain ⟨E, hE⟩ : ∃ E : El s → El z, ∀ c, gi l c.v = (E c).v := ⟨fun c => ⟨gi l c.v, (hok c).1, (hok c).2⟩, fun c => rfl⟩
  have E0 : E 0 = 0 := El.ext' (by rw [← hE]; exact c4)
  have E1 : E 1 = 1 := El.ext' (by rw [← hE]; exact c5)
  have Es : ∀ c, E (c + 1) = E c + 1 := fun c => El.ext' (by
   rw [← hE, on0, on0, wh3, wh3, ← hE]; exact (key c).1.2.2)
  obtain ⟨G, hGv⟩ : ∃ G : El s, G.v = g' := ⟨⟨g', by omega, g2⟩, rfl⟩
  have Eg : ∀ c, E (G * c) = E G * E c := fun c => El.ext' (by
   rw [← hE, ym6, ym6, ← hE, ← hE, hGv]; exact (key c).2)
  have hgen : ∀ c : El s, c ≠ 0 → ∃ k, c = pw G k := fun c hc => by
   have h00 : c.v ≠ 0 := fun e => hc (El.ext' e)
   have l1 := t'.lr c.v (by have := c.lo; omega) c.hi
   refine ⟨(flog s c.v).toNat, El.ext' ?_⟩
   rw [pw_v, hGv, mv9 t' hf'.q2 ⟨g1, g2⟩, t'.lg, show (((flog s c.v).toNat : Nat) : Int) = flog s c.v by omega]
   have e : 1 % (s - 1) * flog s c.v % (s - 1) = flog s c.v := by
    rw [Int.mul_emod, Int.emod_emod, ← Int.mul_emod, Int.one_mul, Int.emod_eq_of_lt l1.1 l1.2.1]
   rw [e, l1.2.2]
  have Ep : ∀ (k : Nat) (x : El s), E (pw G k * x) = pw (E G) k * E x := fun k => by
   induction k with
   | zero => intro x; rw [pw, pw, one_mul, one_mul]
   | succ k ih => intro x; rw [pw, pw, FK.mul_assoc, ih, Eg, FK.mul_assoc]
  have Em : ∀ a b, E (a * b) = E a * E b := fun a b => by
   by_cases ha : a = 0
   ·rw [ha, zero_mul, E0, zero_mul]
   ·obtain ⟨k, rfl⟩ := hgen a ha
    have h1 := Ep k 1
    rw [FK.mul_one, E1, FK.mul_one] at h1
    rw [Ep, h1]
  have Ea : ∀ a b, E (a + b) = E a + E b := fun a b => by
   by_cases hb : b = 0
   ·rw [hb, FK.add_zero, E0, FK.add_zero]
   ·have e : a + b = b * (FK.inv b * a + 1) := by rw [FK.mul_add, ← FK.mul_assoc, FK.mul_inv b hb, one_mul, FK.mul_one]
    rw [e, Em, Es, FK.mul_add, FK.mul_one, ← Em, ← FK.mul_assoc, FK.mul_inv b hb, one_mul]
  have Ei : ∀ a b, E a = E b → a = b := fun a b hab => by
   refine Classical.byContradiction fun hne => ?_
   have hd : a + -b ≠ 0 := fun e => hne (by
    have : a + -b + b = 0 + b := by rw [e]
    rw [FK.add_assoc, neg_add, FK.add_zero, zero_add] at this
    exact this)
   have h1 : E (a + -b) + E b = E a := by rw [← Ea, FK.add_assoc, neg_add, FK.add_zero]
   rw [hab] at h1
   have h2 : E (a + -b) = 0 := gb2 (a := E b) (by rw [h1, zero_add])
   have h3 := Em (a + -b) (FK.inv (a + -b))
   rw [FK.mul_inv _ hd, h2, zero_mul, E1] at h3
   exact ki7 h3
  exact ⟨c1, h0, by omega, by omega, E, ⟨hE, fun c => by rw [← hE]; exact (key c).1.2.1, Ea, Em, Ei⟩⟩
end
end Go.Proofs.Ytghfdpdiibiigaa
namespace Go.Proofs.Ytghfdpdiibiigaa
open Go.Am Go.Vm Go.Alg
set_option maxHeartbeats 4000000
theorem i00 {q a c d : Int} (q1 : -9223372036854775808 ≤ q) (q2 : q ≤ 9223372036854775807) (a1 : -9223372036854775808 ≤ a) (a2 : a ≤ 9223372036854775807) (c1 : -9223372036854775808 ≤ c) (c2 : c ≤ 9223372036854775807) (d1 : -9223372036854775808 ≤ d) (d2 : d ≤ 9223372036854775807) :
 o25 W 5 [.x (.int .i64 q), .x (.int .i64 a), .x (.int .i64 c), .x (.int .i64 d)] [] = some (.x (.bool true), [], []) := by
 obtain ⟨z, hz, e0⟩ := vr7 q1 q2
 obtain ⟨z1, z2, hfz⟩ := x14 hz
 haveI := hfz
 have zp : (0 : Int) < z := by omega
 have p1 := s88 a1 a2 zp
 have p2 := s88 c1 c2 zp
 obtain ⟨x, hx⟩ := gf5 (z := z) a
 obtain ⟨y, hy⟩ := gf5 (z := z) c
 rw [hx] at p1
 rw [hy] at p2
 have hp := ag7 (q := z)
 obtain ⟨s, hs, e1⟩ := jx7 d d1 d2
 obtain ⟨s1, s2, hfs⟩ := x14 hs
 haveI := hfs
 have sp : (0 : Int) < s := by omega
 have hxl := x.lo
 have hxh := x.hi
 have hyl := y.lo
 have hyh := y.hi
 have p3 := s88 (a := x.v) (n := s) (by omega) (by omega) sp
 have p4 := s88 (a := y.v) (n := s) (by omega) (by omega) sp
 obtain ⟨x', hx'⟩ := gf5 (z := s) x.v
 obtain ⟨y', hy'⟩ := gf5 (z := s) y.v
 rw [hx'] at p3
 rw [hy'] at p4
 have f1 : fpow z x.v z = x.v := by
  have := n00 x z.toNat
  rw [show ((z.toNat : Nat) : Int) = z by omega, pw_q] at this
  exact this
 have f2 : rj7 z x.v 1 = (pw x (chN z)).v := j71 x
 have f3 : rj7 z y.v 1 = (pw y (chN z)).v := j71 y
 have f4 : rj7 z (fadd z x.v y.v) 1 = fadd z (pw x (chN z)).v (pw y (chN z)).v := by
  rw [← on0, j71, lk9, on0]
 have f5 : rj7 z (fmul z x.v y.v) 1 = fmul z (pw x (chN z)).v (pw y (chN z)).v := by
  rw [← ym6, j71, zz0, ym6]
 have f6 : fpow z x.v (fch z) = (pw x (chN z)).v := by rw [← hp.2, n00]
 have f7 : rj7 z (pw x (chN z)).v (-1) = x.v := qz4 x
 have t1 := cv3 x
 have t2 := cv3 y
 have t3 : so2 z (fadd z x.v y.v) = fadd z (trE x).v (trE y).v := by rw [← on0, cv3, rk5, on0]
 have t4 := ((c07 (q := z)).2 (trE x)).1 (uh5 x)
 have t5 := (trE x).lo
 have n1 := w26 x
 have n2 := w26 y
 have n3 : t92 z (fmul z x.v y.v) = fmul z (noE x).v (noE y).v := by rw [← ym6, w26, c27, ym6]
 have n4 := ((c07 (q := z)).2 (noE x)).1 (jl8 x)
 have n5 := (noE x).lo
 have e2 := fun b => ox0 (q := z) (b := b) (x := s)
 have e3 := lh5 (q := s) (s := z)
 rw [o10 rfl T5 rfl]
 unfold F5 c5
 simp (disch := first | omega | fail) only [push_cast, seval, ui5, lu7, y81, bj9, wrap64, dec_lt, cw6, nl2, qc6, mr8, nb8, if_pos, if_neg, e0, hg9, p1, p2, f1, f2, f3, f4, f5, f6, f7, t1, t2, t3, qc6 t4, n1, n2, n3, qc6 n4]
 rcases ed4 (z := z) (s := s) with ⟨w0, w1⟩ | ⟨g1, g0, g2, g3, E, g⟩
 ·rw [w1] at e3
  simp only [w0] at e2
  simp (disch := first | omega | fail) only [push_cast, seval, ui5, lu7, y81, bj9, wrap64, dec_lt, cw6, nl2, qc6, mr8, nb8, if_pos, if_neg, e1, e2, e3]
 ·rw [g1] at e3
  have hW : ((kg5 z s).length : Int) = s := by omega
  have hL : ((embP s z).2.length : Int) = s := by omega
  generalize hLL : (embP s z).2 = L at *
  have hs0 : ¬ s = 0 := by omega
  have nat : ∀ w : El s, ∃ i : Nat, w.v = (i : Int) ∧ (i : Int) < s ∧ (ivs L)[i]? = some (.v (.int .i64 (E w).v)) := fun w => by
   have hlo := w.lo
   have hhi := w.hi
   refine ⟨w.v.toNat, by omega, by omega, ?_⟩
   rw [ui5 (by omega), show ((w.v.toNat : Nat) : Int) = w.v by omega, g.at' w]
  obtain ⟨i, hi, hi2, i1⟩ := nat x'
  obtain ⟨j, hj, hj2, j1⟩ := nat y'
  obtain ⟨k, hk, hk2, k1⟩ := nat (x' + y')
  obtain ⟨l, hl, hl2, l1⟩ := nat (x' * y')
  have hadd : fadd s (i : Int) (j : Int) = (k : Int) := by rw [← hi, ← hj, ← hk]; rfl
  have hmul : fmul s (i : Int) (j : Int) = (l : Int) := by rw [← hi, ← hj, ← hl]; rfl
  have hEa : fadd z (E x').v (E y').v = (E (x' + y')).v := by rw [g.add]; rfl
  have hEm : fmul z (E x').v (E y').v = (E (x' * y')).v := by rw [g.mul]; rfl
  have hin : ((kg5 z s).any fun v => decide (v = (E x').v)) = true := List.any_eq_true.2 ⟨_, sa4 g0 (E x') (g.fix x'), by simp⟩
  have e4 := fun b nl => cr7 (b := b) (nl := nl) (x := (E x').v) (l := kg5 z s) (by omega)
  rw [hin] at e4
  rw [hi] at p3
  rw [hj] at p4
  simp (disch := first | omega | fail) only [push_cast, seval, ui5, lu7, y81, bj9, wrap64, dec_lt, cw6, nl2, qc6, mr8, nb8, if_pos, if_neg, hg9, p3, p4, e1, e2, e3, e4, hW, hL, nb8 hs0, i1, j1, k1, l1, hadd, hmul, hEa, hEm]
  by_cases hxy : x' = y'
  ·have hij : (i : Int) = (j : Int) := by rw [← hi, ← hj, hxy]
   simp (disch := first | omega | fail) only [push_cast, seval, ui5, lu7, y81, bj9, wrap64, dec_lt, cw6, nl2, qc6, mr8, nb8, if_pos, if_neg, hij]
  ·have hij : ¬ (i : Int) = (j : Int) := fun e => hxy (El.ext' (by rw [hi, hj, e]))
   have hEE : ¬ (E x').v = (E y').v := fun e => hxy (g.inj _ _ (El.ext' e))
   simp (disch := first | omega | fail) only [push_cast, seval, ui5, lu7, y81, bj9, wrap64, dec_lt, cw6, nl2, qc6, mr8, nb8, if_pos, if_neg, i1, j1, nb8 hij, nb8 hEE]
end Go.Proofs.Ytghfdpdiibiigaa
namespace Go.Proofs.Ytghfdpdiibiigaa
open Go.Am Go.Vm Go.Alg
section
variable {h : H} {l : List AV} {ws : List Value}
theorem a23 : Vm.VRL h [] (allZ h) (allZ h) [] [] := by rw [Vm.VRL]
theorem dp0 (r : Vm.VRL h [] (allZ h) (allZ h) l ws) (v : Value) : Vm.VRL h [] (allZ h) (allZ h) (.x v :: l) (v :: ws) := by
 rw [Vm.VRL]; exact ⟨v, ws, rfl, by rw [Vm.VR], r⟩
end
end Go.Proofs.Ytghfdpdiibiigaa
namespace Go.Proofs.Ytghfdpdiibiigaa
open Go.Am Go.Vm Go.Alg
theorem m91 (h : H) (a0 : Int) (_ : -9223372036854775808 ≤ a0) (_ : a0 ≤ 9223372036854775807) (a1 : Int) (_ : -9223372036854775808 ≤ a1) (_ : a1 ≤ 9223372036854775807) (a2 : Int) (_ : -9223372036854775808 ≤ a2) (_ : a2 ≤ 9223372036854775807) (a3 : Int) (_ : -9223372036854775808 ≤ a3) (_ : a3 ≤ 9223372036854775807) :
 ∃ h', call T 5 [.int .i64 a0, .int .i64 a1, .int .i64 a2, .int .i64 a3] h = some (.bool true, h') :=
 vlaw lw2 (dp0 (dp0 (dp0 (dp0 a23 _) _) _) _) (by apply i00 <;> assumption)
end Go.Proofs.Ytghfdpdiibiigaa
