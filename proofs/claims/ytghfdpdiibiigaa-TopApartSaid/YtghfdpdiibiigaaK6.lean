/-
  The fields of the table are fields. No condition. What is known of fields in the first machine, for the second. No condition. What rows span; their one form. No condition. Rows one by one into what there is, in plain Lean: its form, what it spans; equations. Condition: rows of one length. Rows column by column, in plain Lean: the one form comes out of this too. Condition: rows of one length. What  ..
-/
import Derived.Test.YtghfdpdiibiigaaK5
import Derived.Test.YtghfdpdiibiigaaKAD
import Derived.Test.YtghfdpdiibiigaaK4
import Derived.WalkKit
set_option linter.unusedVariables false
set_option linter.unusedSimpArgs false
set_option linter.unusedSectionVars false
set_option maxRecDepth 100000
namespace Go.Proofs.Ytghfdpdiibiigaa
open Go.Am Go.Alg
theorem ej5 {p d T : Int} (h0 : 0 ≤ d) (h1 : d < p) : (d + p * T) % p = d ∧ (d + p * T) / p = T := by
 constructor
 ·rw [Int.add_mul_emod_self_left, Int.emod_eq_of_lt h0 h1]
 ·rw [Int.add_mul_ediv_left _ _ (by omega), Int.ediv_eq_zero_of_lt h0 h1, Int.zero_add]
theorem t47 (p : Int) : ∀ (n : Nat) (a b : Int), addN p n a b = addN p n b a
 | 0, _, _ => rfl
 | n + 1, a, b => by rw [addN, addN, t47 p n, Int.add_comm (a % p)]
theorem mk9 {p : Int} (hp : 0 < p) : ∀ (n : Nat) (a b c : Int), addN p n (addN p n a b) c = addN p n a (addN p n b c)
 | 0, _, _, _ => rfl
 | n + 1, a, b, c => by
   have d1 := ej5 (T := addN p n (a / p) (b / p)) (Int.emod_nonneg (a % p + b % p) (show p ≠ 0 by omega)) (Int.emod_lt_of_pos (a % p + b % p) hp)
   have d2 := ej5 (T := addN p n (b / p) (c / p)) (Int.emod_nonneg (b % p + c % p) (show p ≠ 0 by omega)) (Int.emod_lt_of_pos (b % p + c % p) hp)
   have e0 : ∀ x y : Int, addN p (n + 1) x y = (x % p + y % p) % p + p * addN p n (x / p) (y / p) := fun _ _ => rfl
   rw [e0 (addN p (n + 1) a b) c, e0 a (addN p (n + 1) b c), e0 a b, e0 b c, d1.1, d1.2, d2.1, d2.2, mk9 hp n]
   simp only [Int.emod_add_emod, Int.add_emod_emod, Int.add_assoc]
theorem ns9 {p : Int} (hp : 0 < p) : ∀ (n : Nat) (a : Int), 0 ≤ a → a < p ^ n → addN p n a 0 = a
 | 0, a, h0, h1 => by rw [Int.pow_zero] at h1; show (0 : Int) = a; omega
 | n + 1, a, h0, h1 => by
   rw [Int.pow_succ] at h1
   rw [addN, Int.zero_emod, Int.zero_ediv, Int.add_zero, Int.emod_emod, ns9 hp n (a / p) (Int.ediv_nonneg h0 (by omega)) (Int.ediv_lt_of_lt_mul hp h1)]
   exact Int.emod_add_mul_ediv a p
theorem ju5 {p : Int} (hp : 0 < p) : ∀ (n : Nat) (a : Int), addN p n a (negN p n a) = 0
 | 0, _ => rfl
 | n + 1, a => by
   have d1 := ej5 (T := negN p n (a / p)) (Int.emod_nonneg (p - a % p) (show p ≠ 0 by omega)) (Int.emod_lt_of_pos (p - a % p) hp)
   have e0 : ∀ x y : Int, addN p (n + 1) x y = (x % p + y % p) % p + p * addN p n (x / p) (y / p) := fun _ _ => rfl
   have e1 : negN p (n + 1) a = (p - a % p) % p + p * negN p n (a / p) := rfl
   rw [e0, e1, d1.1, d1.2, ju5 hp n, Int.add_emod_emod, show a % p + (p - a % p) = p by omega, Int.emod_self]
   omega
section
variable {q p g : Int} {m : Nat} {mod : List Int}
theorem c67 (hn : fldN q.toNat = some (p, m, g, mod)) {b c : Int} (hb : 0 ≤ b ∧ b < q) (hc : 0 ≤ c ∧ c < q) : fmul q g (addN p m b c) = addN p m (fmul q g b) (fmul q g c) := by
 obtain ⟨h2, h64⟩ := ug0 hn
 have h := List.all_eq_true.1 hm8 (q.toNat - 2) (List.mem_range.2 (by omega))
 rw [show q.toNat - 2 + 2 = q.toNat by omega] at h
 unfold ud5 at h
 rw [hn] at h
 simp only [List.all_eq_true, List.mem_range, decide_eq_true_eq] at h
 have := h b.toNat (by omega) c.toNat (by omega)
 rwa [show ((q.toNat : Nat) : Int) = q by omega, show ((b.toNat : Nat) : Int) = b by omega, show ((c.toNat : Nat) : Int) = c by omega] at this
end
class IsFld (q : Int) : Prop where
 ok : ∃ p m g mod, fldN q.toNat = some (p, m, g, mod)
structure El (q : Int) where
 v : Int
 lo : 0 ≤ v
 hi : v < q
theorem El.ext' {q : Int} {a b : El q} (h : a.v = b.v) : a = b := by
 obtain ⟨a, h1, h2⟩ := a
 obtain ⟨b, h3, h4⟩ := b
 cases h; rfl
instance {q : Int} : DecidableEq (El q) := fun a b => if h : a.v = b.v then .isTrue (El.ext' h) else .isFalse fun e => h (e ▸ rfl)
theorem jj8 {q p g : Int} {m : Nat} {mod : List Int} (hn : fldN q.toNat = some (p, m, g, mod)) : FOk q p m mod ∧ Tabs q g ∧ 1 ≤ g ∧ g < q := by
 obtain ⟨h2, h64⟩ := ug0 hn
 have h := hi9 hn
 rw [show ((q.toNat : Nat) : Int) = q by omega] at h
 exact ⟨h.1, cb4 hn, h.2.2.1, h.2.2.2.1⟩
theorem El.ok {q : Int} (a : El q) : fok q a.v = true := iy2 ⟨a.lo, a.hi⟩
theorem do9 {q p g : Int} {m : Nat} {mod : List Int} (hn : fldN q.toNat = some (p, m, g, mod)) (a b : El q) : fadd q a.v b.v = addN p m a.v b.v := by
 rw [fadd, a.ok, b.ok, (y65 hn).1, (y65 hn).2]; rfl
theorem pu7 {q p g : Int} {m : Nat} {mod : List Int} (hn : fldN q.toNat = some (p, m, g, mod)) (a : El q) : fneg q a.v = negN p m a.v := by
 rw [fneg, a.ok, (y65 hn).1, (y65 hn).2]; rfl
section
variable {q : Int} [hq : IsFld q]
theorem aw0 : 2 ≤ q := by
 obtain ⟨p, m, g, mod, hn⟩ := hq.ok
 exact (jj8 hn).1.q2
theorem wg2 (a b : El q) : 0 ≤ fadd q a.v b.v ∧ fadd q a.v b.v < q := by
 obtain ⟨p, m, g, mod, hn⟩ := hq.ok
 have hf := (jj8 hn).1
 have := hf.p2
 have hb := kq3 (p := p) (by omega) m a.v b.v
 rw [hf.pm] at hb
 rw [do9 hn]; exact hb
theorem ca9 (a : El q) : 0 ≤ fneg q a.v ∧ fneg q a.v < q := by
 obtain ⟨p, m, g, mod, hn⟩ := hq.ok
 have hf := (jj8 hn).1
 have := hf.p2
 have hb := ul1 (p := p) (by omega) m a.v
 rw [hf.pm] at hb
 rw [pu7 hn]; exact hb
theorem jo8 (a b : El q) : 0 ≤ fmul q a.v b.v ∧ fmul q a.v b.v < q := by
 obtain ⟨p, m, g, mod, hn⟩ := hq.ok
 obtain ⟨hf, t, _⟩ := jj8 hn
 have h2 := hf.q2
 rw [fmul, a.ok, b.ok]
 cases h0 : (a.v == 0) || (b.v == 0) with
 | true => exact ⟨Int.le_refl _, by show (0 : Int) < q; omega⟩
 | false =>
   have := zd3 t h2 (flog q a.v + flog q b.v)
   exact ⟨by show 0 ≤ fexp q _; omega, this.2.1⟩
theorem bh9 (a : El q) (h : a.v ≠ 0) : 0 ≤ finv q a.v ∧ finv q a.v < q := by
 obtain ⟨p, m, g, mod, hn⟩ := hq.ok
 obtain ⟨hf, t, _⟩ := jj8 hn
 have := (d12 t hf.q2 (a := a.v) ⟨by have := a.lo; omega, a.hi⟩).1
 exact ⟨by omega, this.2⟩
instance : Zero (El q) := ⟨⟨0, Int.le_refl _, by have := aw0 (q := q); omega⟩⟩
instance : One (El q) := ⟨⟨1, by omega, by have := aw0 (q := q); omega⟩⟩
instance : Add (El q) := ⟨fun a b => ⟨fadd q a.v b.v, (wg2 a b).1, (wg2 a b).2⟩⟩
instance : Mul (El q) := ⟨fun a b => ⟨fmul q a.v b.v, (jo8 a b).1, (jo8 a b).2⟩⟩
instance : Neg (El q) := ⟨fun a => ⟨fneg q a.v, (ca9 a).1, (ca9 a).2⟩⟩
theorem hc8 : (0 : El q).v = 0 := rfl
theorem wh3 : (1 : El q).v = 1 := rfl
theorem on0 (a b : El q) : (a + b).v = fadd q a.v b.v := rfl
theorem ym6 (a b : El q) : (a * b).v = fmul q a.v b.v := rfl
theorem tg5 (a : El q) : (-a).v = fneg q a.v := rfl
theorem r57 {a : El q} : a.v = 0 ↔ a = 0 := ⟨fun h => El.ext' h, fun h => by rw [h]; rfl⟩
theorem a59 (a b : El q) : a * b = b * a := El.ext' (by
 rw [ym6, ym6, fmul, fmul, a.ok, b.ok, Bool.or_comm, Int.add_comm])
theorem qc3 (a : El q) : a * 0 = 0 := El.ext' (by
 rw [ym6, fmul, a.ok, (0 : El q).ok, hc8, show ((0 : Int) == 0) = true from rfl, Bool.or_true]; rfl)
theorem du6 (a : El q) : a * 1 = a := El.ext' (by
 obtain ⟨p, m, g, mod, hn⟩ := hq.ok
 obtain ⟨hf, t, _⟩ := jj8 hn
 have h2 := hf.q2
 rw [ym6, wh3]
 by_cases h0 : a.v = 0
 ·rw [fmul, a.ok, show fok q 1 = true from (1 : El q).ok, h0]; rfl
 ·have ha : 1 ≤ a.v ∧ a.v < q := ⟨by have := a.lo; omega, a.hi⟩
  have h1 := (t.er 0 (by omega) (by omega)).2.2
  rw [t.e0] at h1
  have h3 := t.lr a.v ha.1 ha.2
  rw [js7 t ha ⟨by omega, by omega⟩, h1, Int.add_zero, Int.emod_eq_of_lt h3.1 h3.2.1, h3.2.2])
theorem wj9 (a b c : El q) : a * b * c = a * (b * c) := by
 by_cases ha : a = 0
 ·rw [ha, a59 0 b, qc3, a59 0 c, qc3, a59 0, qc3]
 by_cases hb : b = 0
 ·rw [hb, qc3, a59 0 c, qc3, qc3]
 by_cases hc : c = 0
 ·rw [hc, qc3, qc3, qc3]
 refine El.ext' ?_
 obtain ⟨p, m, g, mod, hn⟩ := hq.ok
 obtain ⟨hf, t, _⟩ := jj8 hn
 have h2 := hf.q2
 have ne : ∀ x : El q, x ≠ 0 → 1 ≤ x.v ∧ x.v < q := fun x hx => ⟨by have := x.lo; have : x.v ≠ 0 := fun h => hx (r57.1 h); omega, x.hi⟩
 have h1 := zd3 t h2 (flog q a.v + flog q b.v)
 have h3 := zd3 t h2 (flog q b.v + flog q c.v)
 rw [ym6, ym6, ym6, ym6, js7 t (ne a ha) (ne b hb), js7 t (ne b hb) (ne c hc), js7 t ⟨h1.1, h1.2.1⟩ (ne c hc), js7 t (ne a ha) ⟨h3.1, h3.2.1⟩, h1.2.2, h3.2.2, Int.emod_add_emod, Int.add_emod_emod, Int.add_assoc]
theorem sd1 (a b c : El q) : a * (b + c) = a * b + a * c := by
 obtain ⟨p, m, g, mod, hn⟩ := hq.ok
 obtain ⟨hf, t, hg1, hg2⟩ := jj8 hn
 have h2 := hf.q2
 have hG : ∀ x y : El q, (⟨g, by omega, hg2⟩ : El q) * (x + y) = ⟨g, by omega, hg2⟩ * x + ⟨g, by omega, hg2⟩ * y := fun x y => El.ext' (by
  rw [ym6, on0, do9 hn, on0, do9 hn]
  exact c67 hn ⟨x.lo, x.hi⟩ ⟨y.lo, y.hi⟩)
 have hP : ∀ (k : Nat) (x y : El q) (h0 : 0 ≤ fexp q ((k : Int) % (q - 1))) (h1 : fexp q ((k : Int) % (q - 1)) < q), (⟨_, h0, h1⟩ : El q) * (x + y) = ⟨_, h0, h1⟩ * x + ⟨_, h0, h1⟩ * y := by
  intro k
  induction k with
  | zero =>
    intro x y h0 h1
    have he : (⟨_, h0, h1⟩ : El q) = 1 := El.ext' (by show fexp q (((0 : Nat) : Int) % (q - 1)) = 1; rw [Int.natCast_zero, Int.zero_emod]; exact t.e0)
    rw [he, a59, du6, a59 1 x, du6, a59 1 y, du6]
  | succ k ih =>
    intro x y h0 h1
    have h3 := zd3 t h2 (k : Int)
    have he : (⟨_, h0, h1⟩ : El q) = ⟨fexp q ((k : Int) % (q - 1)), by omega, h3.2.1⟩ * ⟨g, by omega, hg2⟩ := El.ext' (by
     show fexp q (((k + 1 : Nat) : Int) % (q - 1)) = fmul q _ g
     rw [np3 t h2 ⟨hg1, hg2⟩, Int.natCast_add, Int.natCast_one])
    rw [he, wj9, hG, ih, wj9, wj9]
 by_cases ha : a = 0
 ·rw [ha, a59, qc3, a59 0 b, qc3, a59 0 c, qc3]
  refine El.ext' ?_
  have := hf.p2
  rw [on0, do9 hn]
  exact (ns9 (by omega) m 0 (Int.le_refl _) (Int.pow_pos (by omega))).symm
 ·have hav : a.v ≠ 0 := fun h => ha (r57.1 h)
  have h3 := t.lr a.v (by have := a.lo; omega) a.hi
  have he : fexp q (((flog q a.v).toNat : Int) % (q - 1)) = a.v := by
   rw [show (((flog q a.v).toNat : Nat) : Int) = flog q a.v by omega, Int.emod_eq_of_lt h3.1 h3.2.1, h3.2.2]
  have h4 := hP (flog q a.v).toNat b c (by rw [he]; exact a.lo) (by rw [he]; exact a.hi)
  have h5 : (⟨fexp q (((flog q a.v).toNat : Int) % (q - 1)), by rw [he]; exact a.lo, by rw [he]; exact a.hi⟩ : El q) = a := El.ext' he
  rw [h5] at h4
  exact h4
instance elFK : FK (El q) where
 inv := fun a => if h : a.v = 0 then 0 else ⟨finv q a.v, (bh9 a h).1, (bh9 a h).2⟩
 deq := inferInstance
 add_assoc := fun a b c => El.ext' (by
  obtain ⟨p, m, g, mod, hn⟩ := hq.ok
  have hf := (jj8 hn).1
  have := hf.p2
  rw [on0 (a + b) c, on0 a (b + c), do9 hn (a + b) c, do9 hn a (b + c), on0 a b, on0 b c, do9 hn a b, do9 hn b c, mk9 (by omega)])
 add_comm := fun a b => El.ext' (by
  obtain ⟨p, m, g, mod, hn⟩ := hq.ok
  rw [on0, on0, do9 hn, do9 hn, t47])
 add_zero := fun a => El.ext' (by
  obtain ⟨p, m, g, mod, hn⟩ := hq.ok
  have hf := (jj8 hn).1
  have := hf.p2
  rw [on0, do9 hn, hc8]
  exact ns9 (by omega) m a.v a.lo (by rw [hf.pm]; exact a.hi))
 add_neg := fun a => El.ext' (by
  obtain ⟨p, m, g, mod, hn⟩ := hq.ok
  have hf := (jj8 hn).1
  have := hf.p2
  rw [on0, do9 hn, tg5, pu7 hn]
  exact ju5 (by omega) m a.v)
 mul_assoc := wj9
 mul_comm := a59
 mul_one := du6
 mul_add := sd1
 mul_inv := fun a ha => El.ext' (by
  have h : a.v ≠ 0 := fun h => ha (r57.1 h)
  obtain ⟨p, m, g, mod, hn⟩ := hq.ok
  obtain ⟨hf, t, _⟩ := jj8 hn
  rw [dif_neg h]
  exact (d12 t hf.q2 (a := a.v) ⟨by have := a.lo; omega, a.hi⟩).2)
 zero_ne := fun h => by
  have := congrArg El.v h
  rw [hc8, wh3] at this
  omega
end
def vs {q : Int} (l : List (El q)) : List Int := l.map El.v
def ge {K : Type} [FK K] (l : List K) (i : Nat) : K := l.getD i 0
section
variable {q : Int}
theorem fi2 (l : List (El q)) : (vs l).length = l.length := by simp [vs]
theorem rp2 : vs ([] : List (El q)) = [] := rfl
theorem e55 (a : El q) (l : List (El q)) : vs (a :: l) = a.v :: vs l := rfl
theorem g52 (l : List (El q)) (i : Nat) (a : El q) : (vs l).set i a.v = vs (l.set i a) := by unfold vs; rw [List.map_set]
theorem qj2 (n : Nat) (a : El q) : List.replicate n a.v = vs (List.replicate n a) := by unfold vs; rw [List.map_replicate]
theorem qa5 : ∀ {l l' : List (El q)}, vs l = vs l' → l = l'
 | [], [], _ => rfl
 | [], _ :: _, h => by cases h
 | _ :: _, [], h => by cases h
 | a :: l, b :: l', h => by
   rw [e55, e55, List.cons.injEq] at h
   rw [El.ext' h.1, qa5 h.2]
theorem n39 : ∀ {l : List Int}, (∀ z ∈ l, fok q z = true) → ∃ a : List (El q), l = vs a
 | [], _ => ⟨[], rfl⟩
 | z :: l, h => by
   obtain ⟨a, ha⟩ := n39 (l := l) fun z hz => h z (by simp [hz])
   have hz := gc0.1 (h z (by simp))
   exact ⟨⟨z, hz.1, hz.2⟩ :: a, by rw [e55, ← ha]⟩
theorem v86 [IsFld q] (l : List (El q)) (i : Nat) : gi (vs l) i = (ge l i).v := by
 unfold gi ge vs
 rw [Int.toNat_natCast, List.getD_eq_getElem?_getD, List.getD_eq_getElem?_getD, List.getElem?_map]
 cases l[i]? <;> rfl
end
end Go.Proofs.Ytghfdpdiibiigaa
namespace Go.Proofs.Ytghfdpdiibiigaa
open Go.Am Go.Vm Go.Alg
theorem d40 {zs : List Int} {i : Nat} (hi : i < zs.length) : (ints zs)[i]? = some (.int .i64 (gi zs (i : Int))) := by
 have := c13 (zs := zs) (i := (i : Int)) (by omega) (by omega)
 rwa [Int.toNat_natCast] at this
theorem zj7 {h : H} {Z : Nat → Prop} {zs : List Int} {l : List Value} : RdL h Z (ivs zs) l ↔ l = ints zs := by
 induction zs generalizing l with
 | nil => exact ⟨fun hr => by rw [show ivs [] = [] from rfl, RdL] at hr; exact hr, fun e => by subst e; rw [show ivs [] = [] from rfl, RdL]; rfl⟩
 | cons z zs ih =>
   rw [show ivs (z :: zs) = .v (.int .i64 z) :: ivs zs from rfl, RdL]
   constructor
   ·rintro ⟨w, l', rfl, h1, h2⟩
    rw [Rd] at h1
    rw [h1, ih.1 h2]; rfl
   ·rintro rfl
    exact ⟨_, _, rfl, by rw [Rd], ih.2 rfl⟩
theorem ex4 {h : H} {Z : Nat → Prop} {zs : List Int} {l : List Value} : ExL h Z (ivs zs) l ↔ l = ints zs := by
 induction zs generalizing l with
 | nil => exact ⟨fun hr => by rw [show ivs [] = [] from rfl, ExL] at hr; exact hr, fun e => by subst e; rw [show ivs [] = [] from rfl, ExL]; rfl⟩
 | cons z zs ih =>
   rw [show ivs (z :: zs) = .v (.int .i64 z) :: ivs zs from rfl, ExL]
   constructor
   ·rintro ⟨w, l', rfl, h1, h2⟩
    rw [Ex] at h1
    rw [h1, ih.1 h2]; rfl
   ·rintro rfl
    exact ⟨_, _, rfl, by rw [Ex], ih.2 rfl⟩
theorem fw0 {h : H} {Z : Nat → Prop} {nl e : Nat} {zs : List Int} {w : Value} (hr : Rd h Z (.sl nl e 1 (ivs zs)) w) : ∃ sa c, w = .slice sa zs.length c ∧ RdI h sa c zs := by
 rw [Rd] at hr
 rcases hr with ⟨h0, _, _, rfl⟩ | ⟨o, off, n, c, r, rfl, h1, h2, h3, h4, h5, h6, h7, h8⟩
 ·have : zs = [] := by cases zs with
   | nil => rfl
   | cons => cases h0
  subst this
  exact ⟨none, 0, rfl, .nil⟩
 ·rw [gf1, Nat.mul_one] at h5
  subst h5
  have h9 := zj7.1 h8
  rw [gf1] at h9
  refine ⟨_, c, rfl, .inr ⟨h6, o, off, r, rfl, h2, h3, fun i h0 hi => ?_⟩⟩
  have h10 := c13 h0 hi
  rw [← h9, List.getElem?_take, if_pos (by omega), List.getElem?_drop] at h10
  exact h10
theorem pd9 {h : H} {Z : Nat → Prop} {e : Nat} {zs : List Int} {sa : Option Addr} {c : Nat} (hr : RdI h sa c zs) (hz : ∀ o, sa.map (·.block) = some o → Z o) : Rd h Z (.sl 2 e 1 (ivs zs)) (.slice sa zs.length c) := by
 rw [Rd]
 rcases hr with ⟨rfl, rfl, rfl⟩ | ⟨h1, o, off, r, rfl, h2, h3, h4⟩
 ·exact .inl ⟨rfl, by decide, by decide, rfl⟩
 ·refine .inr ⟨o, off, _, c, r, rfl, hz o rfl, h2, h3, by decide, by rw [gf1, Nat.mul_one], h1, fun h => (by cases h), zj7.2 ?_⟩
  rw [gf1]
  refine List.ext_getElem? fun i => ?_
  by_cases hi : i < zs.length
  ·rw [d40 hi, List.getElem?_take, if_pos hi, List.getElem?_drop]
   have := h4 (i : Int) (by omega) (by omega)
   rwa [Int.toNat_natCast] at this
  ·rw [List.getElem?_eq_none (by rw [List.length_take]; omega), List.getElem?_eq_none (by rw [iq5]; omega)]
def lvs (nl : Nat) (m : List (List Int)) : List Tree := m.map fun l => .sl nl 0 1 (ivs l)
theorem nb9 (nl : Nat) (m : List (List Int)) : (lvs nl m).length = m.length := by simp [lvs]
def allZ (h : H) : Nat → Prop := fun o => o < h.length
theorem bh6 (h : H) : Inv h [] (allZ h) (allZ h) := ⟨by rw [okL]; trivial, fun x => by simp [fpL], fun o ho => by simp [fpL] at ho, fun o ho => by simp [fpL] at ho, fun o ho => ho, fun o ho => ho⟩
theorem vlaw {W : VW} (hP : ∀ f p vs C r, W.P f = some p → p vs C = some r → VOK W.T f vs C r) {h : H} {f : FuncId} {xs0 : List AV} {ws : List Value} (hv : VRL h [] (allZ h) (allZ h) xs0 ws) {b : Bool} (e : o24 W f xs0 [] = some (.x (.bool b), [], [])) : ∃ h', call W.T f ws h = some (.bool b, h') := by
 obtain ⟨w, h', K, S, Z', Zp', h1, P⟩ := lw9 hP e h [] _ _ ws (bh6 h) rfl hv fun k hk => by cases hk
 have := P.v
 rw [Vm.VR] at this
 subst this
 exact ⟨h', h1⟩
theorem sk2 {h h' : H} {Z Zp : Nat → Prop} (i : Inv h [] Z Zp) (hp : h <+: h') (v : Value) : Post h [] Zp 0 (.x v, [], []) v h' [] [] Z Zp := by
 refine ⟨rfl, rfl, ⟨by rw [List.nil_append, okL]; trivial, fun x => by simp [fpL], fun o ho => by simp [fpL] at ho, fun o ho => by simp [fpL] at ho, fun o ho => ?_, i.zp⟩, ⟨hp.length_le, fun o ho _ => cb1 hp ho, fun o ho => by simp [fpL] at ho, fun o ho => ho, fun o ho => .inl ho⟩, by rw [Vm.VR], rfl, fun i a k h1 => by simp at h1⟩
 have := i.zlt o ho; have := hp.length_le; omega
def pFt (q p : Int) (m : Nat) (g : Int) (mod : List Int) : Tree := .ex (.pt 72 [.v (.int .i64 q), .v (.int .i64 p), .v (.int .i64 m), .fz (.sl 2 0 1 (ivs mod)), .v (.int .i64 g), .sl 0 3 1 (ivs (tabs q.toNat).1), .sl 0 3 1 (ivs (tabs q.toNat).2)])
def pF (q : Int) : Tree := match fldN q.toNat with
 | some (p, m, g, mod) => pFt q p m g mod
 | none => .junk
def bc2 : Tree → Int
 | .ex (.pt _ (.v (.int .i64 q) :: _)) => q
 | _ => 0
theorem yz0 {q : Int} [h : IsFld q] : bc2 (pF q) = q := by
 obtain ⟨p, m, g, mod, hn⟩ := h.ok
 unfold pF; rw [hn]; rfl
theorem ki3 {q p g : Int} {m : Nat} {mod : List Int} (hn : fldN q.toNat = some (p, m, g, mod)) : (tabs q.toNat).1.length = (q - 1).toNat ∧ (tabs q.toNat).2.length = q.toNat := by
 obtain ⟨h2, h64⟩ := ug0 hn
 have ht := (cb4 hn).tab
 rw [ht]
 constructor <;> simp
theorem nx2 {h : H} {Z : Nat → Prop} {q p g : Int} {m : Nat} {mod : List Int} (hn : fldN q.toNat = some (p, m, g, mod)) {w : Value} (hr : Rd h Z (pF q) w) : ∃ F E L om fm cm, w = .pointer (some ⟨F, 0, none⟩) ∧ PUse h F q p m g mod E L om fm cm := by
 obtain ⟨h2, h64⟩ := ug0 hn
 have ht := (cb4 hn).tab
 obtain ⟨l1, l2⟩ := ki3 hn
 unfold pF at hr
 rw [hn] at hr
 simp only [pFt] at hr
 rw [Rd, Ex] at hr
 obtain ⟨F, r, rfl, h1, h3, h4, h5, h6, h7⟩ := hr
 rw [ExL] at h7
 obtain ⟨w0, c0, e0, k0, h7⟩ := h7
 rw [ExL] at h7
 obtain ⟨w1, c1, e1, k1, h7⟩ := h7
 rw [ExL] at h7
 obtain ⟨w2, c2, e2, k2, h7⟩ := h7
 rw [ExL] at h7
 obtain ⟨w3, c3, e3, k3, h7⟩ := h7
 rw [ExL] at h7
 obtain ⟨w4, c4, e4, k4, h7⟩ := h7
 rw [ExL] at h7
 obtain ⟨w5, c5, e5, k5, h7⟩ := h7
 rw [ExL] at h7
 obtain ⟨w6, c6, e6, k6, h7⟩ := h7
 unfold Ex at k0 k1 k2 k3 k4 k5 k6
 subst e6 e5 e4 e3 e2 e1
 obtain ⟨sa, cm, rfl, rm⟩ := fw0 k3
 obtain ⟨E, nE, rE, rfl, _, hE, _, _, _, _, nE1, _, xE⟩ := k5
 obtain ⟨L, nL, rL, rfl, _, hL, _, _, _, _, nL1, _, xL⟩ := k6
 rw [ex4] at xE xL
 rw [gf1, Nat.mul_one, l1] at nE1
 rw [gf1, Nat.mul_one, l2] at nL1
 subst nE1 nL1 k0 k1 k2 k4
 have hml := (hi9 hn).1.ml
 have hm1 := (hi9 hn).1.m1
 obtain ⟨om, fm, rfl⟩ : ∃ om fm, sa = some ⟨om, fm, none⟩ := by
  rcases rm with ⟨_, _, h0⟩ | ⟨_, o, off, r, h0, _⟩
  ·rw [h0] at hml; simp at hml
  ·exact ⟨o, off, h0⟩
 have cell : ∀ {i : Nat} {v : Value}, r.cells[i]? = some v → h.ld1 F i = some v := fun {i v} hi => by rw [ng1 h3]; exact hi
 refine ⟨F, E, L, om, fm, cm, rfl, by omega, by omega, cell (by rw [e0]; rfl), cell (by rw [e0]; rfl), cell (by rw [e0]; rfl), cell (by rw [e0]; rfl), cell (by rw [e0]; rfl), cell (by rw [e0]; rfl), cell (by rw [e0]; rfl), fun i h0 hi => ?_, fun a h0 ha => ?_, rm⟩
 ·rw [ng1 hE, xE, c13 h0 (by rw [l1]; omega)]
  congr 2
  rw [ht]
  unfold gi
  rw [List.getD_eq_getElem?_getD, List.getElem?_map, List.getElem?_range (by omega)]
  show fexp q ((i.toNat : Nat) : Int) = _
  rw [show ((i.toNat : Nat) : Int) = i by omega]
 ·rw [ng1 hL, xL, c13 h0 (by rw [l2]; omega)]
  congr 2
  rw [ht]
  unfold gi
  rw [List.getD_eq_getElem?_getD, List.getElem?_map, List.getElem?_range (by omega)]
  show flog q ((a.toNat : Nat) : Int) = _
  rw [show ((a.toNat : Nat) : Int) = a by omega]
open Classical in
noncomputable def pOne (g : Int → Int → Value) : List AV → Rts → Option VRes
 | [.fz b t, .x (.int .i64 a)], [] => if IsFld (bc2 t) ∧ t = pF (bc2 t) then some (.x (g (bc2 t) a), [], []) else none
 | _, _ => none
open Classical in
noncomputable def pTwo (g : Int → Int → Int → Value) : List AV → Rts → Option VRes
 | [.fz b t, .x (.int .i64 a), .x (.int .i64 a')], [] => if IsFld (bc2 t) ∧ t = pF (bc2 t) then some (.x (g (bc2 t) a a'), [], []) else none
 | _, _ => none
theorem l79 {g : Int → Int → Value} {q : Int} [h : IsFld q] {b : Bool} {a : Int} : pOne g [.fz b (pF q), .x (.int .i64 a)] [] = some (.x (g q a), [], []) := by
 unfold pOne; simp only []; rw [if_pos (by rw [yz0]; exact ⟨h, rfl⟩), yz0]
theorem pu4 {g : Int → Int → Int → Value} {q : Int} [h : IsFld q] {b : Bool} {a a' : Int} : pTwo g [.fz b (pF q), .x (.int .i64 a), .x (.int .i64 a')] [] = some (.x (g q a a'), [], []) := by
 unfold pTwo; simp only []; rw [if_pos (by rw [yz0]; exact ⟨h, rfl⟩), yz0]
abbrev r43 (f : FuncId) (xs : List Value) (g : Int → Value) : Prop := ∀ (h : H) (F : Nat) (q p : Int) (m : Nat) (ge : Int) (mod : List Int) (E L om fm cm : Nat), fldN q.toNat = some (p, m, ge, mod) → PUse h F q p m ge mod E L om fm cm → call T f (.pointer (some ⟨F, 0, none⟩) :: xs) h = some (g q, h)
theorem nh2 {f : FuncId} {b : Bool} {t : Tree} {xs : List Value} {g : Int → Value} (H : r43 f xs g) (hf : IsFld (bc2 t)) (ht : t = pF (bc2 t)) : VOK T f (.fz b t :: xs.map AV.x) [] (.x (g (bc2 t)), [], []) := by
 intro h Ac Z Zp ws i hC hv hk
 obtain rfl : Ac = [] := by cases Ac with
  | nil => rfl
  | cons => cases hC
 rw [Vm.VRL] at hv
 obtain ⟨w, ws', rfl, h1, h2⟩ := hv
 rw [Vm.VR, ht] at h1
 have hxs : ws' = xs := by
  clear H hk hC i h1
  induction xs generalizing ws' with
  | nil => rw [List.map_nil, VRL] at h2; exact h2
  | cons x xs ih =>
    rw [List.map_cons, VRL] at h2
    obtain ⟨w', ws'', rfl, k1, k2⟩ := h2
    rw [Vm.VR] at k1
    rw [k1, ih _ k2]
 subst hxs
 obtain ⟨p, m, ge, mod, hn⟩ := hf.ok
 obtain ⟨F, E, L, om, fm, cm, rfl, u⟩ := nx2 hn h1
 have e := H h F (bc2 t) p m ge mod E L om fm cm hn u
 exact ⟨_, h, [], [], Z, Zp, e, sk2 i (List.prefix_refl _) _⟩
theorem ka9 {f : FuncId} {g : Int → Int → Value} (H : ∀ a, r43 f [.int .i64 a] fun q => g q a) {xs0 : List AV} {C : Rts} {r : VRes} (he : pOne g xs0 C = some r) : VOK T f xs0 C r := by
 unfold pOne at he
 split at he
 ·split at he
  ·rename_i hc; cases he; exact nh2 (xs := [_]) (H _) hc.1 hc.2
  ·cases he
 ·cases he
theorem sg0 {f : FuncId} {g : Int → Int → Int → Value} (H : ∀ a a', r43 f [.int .i64 a, .int .i64 a'] fun q => g q a a') {xs0 : List AV} {C : Rts} {r : VRes} (he : pTwo g xs0 C = some r) : VOK T f xs0 C r := by
 unfold pTwo at he
 split at he
 ·split at he
  ·rename_i hc; cases he; exact nh2 (xs := [_, _]) (H _ _) hc.1 hc.2
  ·cases he
 ·cases he
def pNew : List AV → Rts → Option VRes
 | [.x (.int .i64 q)], [] => match fldN q.toNat with
   | some _ => some (.tup [.fz true (pF q), .x (.int .i64 0)], [], [])
   | none => some (.tup [.x (.pointer none), .x (.int .i64 1)], [], [])
 | _, _ => none
theorem a64 {h h' : H} {Z Zp : Nat → Prop} (i : Inv h [] Z Zp) (hp : h <+: h') {a : AV} {w : Value} (hv : Vm.VR h' [] (fun o => h.length ≤ o ∧ o < h'.length) (fun o => h.length ≤ o ∧ o < h'.length) a w) : ∃ Z' Zp', Post h [] Zp 0 (a, [], []) w h' [] [] Z' Zp' := by
 refine ⟨fun o => Z o ∨ (h.length ≤ o ∧ o < h'.length), fun o => Zp o ∨ (h.length ≤ o ∧ o < h'.length), rfl, rfl, ⟨by rw [List.nil_append, okL]; trivial, fun x => by simp [fpL], fun o ho => by simp [fpL] at ho, fun o ho => by simp [fpL] at ho, fun o ho => ?_, fun o ho => ho.imp (i.zp o) id⟩, ⟨hp.length_le, fun o ho _ => cb1 hp ho, fun o ho => by simp [fpL] at ho, fun o ho => .inl ho, fun o ho => ho.imp id fun h => .inr h.1⟩, Vm.VR.move (fun o ho => .inr ho) (fun o ho => .inr ho) (fun _ _ => rfl) (fun _ _ => rfl) (Stab.refl [] []) hv rfl, rfl, fun i a k h1 => by simp at h1⟩
 rcases ho with ho | ho
 ·have := i.zlt o ho; have := hp.length_le; omega
 ·exact ho.2
theorem lo5 {xs0 : List AV} {C : Rts} {r : VRes} (he : pNew xs0 C = some r) : VOK T 36 xs0 C r := by
 unfold pNew at he
 split at he
 ·rename_i q
  intro h Ac Z Zp ws i hC hv hk
  obtain rfl : Ac = [] := by cases Ac with
   | nil => rfl
   | cons => cases hC
  rw [Vm.VRL] at hv
  obtain ⟨w, ws', rfl, h1, h2⟩ := hv
  rw [Vm.VRL] at h2
  rw [Vm.VR] at h1
  subst h1 h2
  split at he
  ·rename_i x hn
   obtain ⟨p, m, g, mod⟩ := x
   cases he
   obtain ⟨h', F, hp, hF, ⟨om, fm, cm, ho, hM, ⟨E, L, q1, q2, hFr, hE, hL, q3, q4⟩⟩, e⟩ := e24 q hn h
   have hFl := h44 hFr
   have hEl := h44 hE
   have hLl := h44 hL
   have hom : om < h'.length := by
    rcases hM with ⟨h0, _⟩ | ⟨_, o, off, r, h0, h1, _⟩
    ·cases h0
    ·cases h0; exact h44 h1
   have hzo : ∀ o, (some (⟨om, fm, none⟩ : Addr)).map (·.block) = some o → h.length ≤ o ∧ o < h'.length := fun o ho' => by
    have e1 : om = o := by simpa using ho'
    subst e1; exact ⟨by omega, hom⟩
   have hrd : Rd h' (fun o => h.length ≤ o ∧ o < h'.length) (pF q) (.pointer (some ⟨F, 0, none⟩)) := by
    have hq2 := ug0 hn
    unfold pF
    rw [hn]
    simp only [pFt]
    rw [Rd, Ex]
    refine ⟨F, _, rfl, ⟨hF, hFl⟩, hFr, rfl, rfl, rfl, ?_⟩
    rw [ExL]; refine ⟨_, _, rfl, by unfold Ex; rfl, ?_⟩
    rw [ExL]; refine ⟨_, _, rfl, by unfold Ex; rfl, ?_⟩
    rw [ExL]; refine ⟨_, _, rfl, by unfold Ex; rfl, ?_⟩
    rw [ExL]; refine ⟨_, _, rfl, by unfold Ex; exact pd9 hM hzo, ?_⟩
    rw [ExL]; refine ⟨_, _, rfl, by unfold Ex; rfl, ?_⟩
    rw [ExL]; refine ⟨_, _, rfl, by unfold Ex; exact ⟨E, _, _, rfl, ⟨by omega, hEl⟩, hE, rfl, rfl, rfl, by decide, by rw [gf1, Nat.mul_one, q3], fun h => (by cases h), ex4.2 rfl⟩, ?_⟩
    rw [ExL]; refine ⟨_, _, rfl, by unfold Ex; exact ⟨L, _, _, rfl, ⟨by omega, hLl⟩, hL, rfl, rfl, rfl, by decide, by rw [gf1, Nat.mul_one, q4], fun h => (by cases h), ex4.2 rfl⟩, ?_⟩
    rw [ExL]
   obtain ⟨Z', Zp', P⟩ := a64 (a := .tup [.fz true (pF q), .x (.int .i64 0)]) (w := .tuple #[.pointer (some ⟨F, 0, none⟩), .int .i64 0]) i hp (by
    rw [Vm.VR]
    exact ⟨[_, _], rfl, .cons (by rw [Vm.VR]; exact hrd) (.cons (by rw [Vm.VR]) .nil)⟩)
   exact ⟨_, h', [], [], Z', Zp', e, P⟩
  ·rename_i hn
   cases he
   obtain ⟨h', hp, e⟩ := e84 q hn h
   obtain ⟨Z', Zp', P⟩ := a64 (a := .tup [.x (.pointer none), .x (.int .i64 1)]) (w := .tuple #[.pointer none, .int .i64 1]) i hp (by
    rw [Vm.VR]
    exact ⟨[_, _], rfl, .cons (by rw [Vm.VR]) (.cons (by rw [Vm.VR]) .nil)⟩)
   exact ⟨_, h', [], [], Z', Zp', e, P⟩
 ·cases he
noncomputable def vP : FuncId → Option (List AV → Rts → Option VRes)
 | 53 => some (pOne fun q a => .bool (fok q a))
 | 22 => some (pTwo fun q a b => .int .i64 (fmul q a b))
 | 21 => some (pTwo fun q a b => .int .i64 (fadd q a b))
 | 36 => some pNew
 | 68 => some h90
 | _ => none
noncomputable def W : VW := ⟨T, vP, vH, vM, ct⟩
@[push_cast] theorem W_M (f : FuncId) : W.M f = vM f := rfl
@[push_cast] theorem W_H (f : FuncId) : W.H f = vH f := rfl
@[push_cast] theorem W_ct : W.ct = ct := rfl
theorem lw2 (f : FuncId) (p : List AV → Rts → Option VRes) (xs0 : List AV) (C : Rts) (r : VRes) (hp : W.P f = some p) (he : p xs0 C = some r) : VOK W.T f xs0 C r := by
 have hp : vP f = some p := hp
 show VOK T f xs0 C r
 unfold vP at hp
 split at hp
 ·cases hp; exact ka9 (f := 53) (fun a h F q p m ge mod E L om fm cm hn u => qy4 u a) he
 ·cases hp; exact sg0 (f := 22) (fun a a' h F q p m ge mod E L om fm cm hn u => lb9 hn u a a') he
 ·cases hp; exact sg0 (f := 21) (fun a a' h F q p m ge mod E L om fm cm hn u => gl5 hn u (jj8 hn).1 a a') he
 ·cases hp; exact (fun _ => lo5 he) 36
 ·cases hp; exact (fun _ => x66 he) 68
 ·cases hp
section
variable {q : Int} [IsFld q] {b : Bool} {x y : Int}
@[push_cast] theorem ta8 : o24 W 53 [.fz b (pF q), .x (.int .i64 x)] [] = some (.x (.bool (fok q x)), [], []) := (xr5 rfl).trans l79
@[push_cast] theorem gi0 : o24 W 22 [.fz b (pF q), .x (.int .i64 x), .x (.int .i64 y)] [] = some (.x (.int .i64 (fmul q x y)), [], []) := (xr5 rfl).trans pu4
@[push_cast] theorem j43 : o24 W 21 [.fz b (pF q), .x (.int .i64 x), .x (.int .i64 y)] [] = some (.x (.int .i64 (fadd q x y)), [], []) := (xr5 rfl).trans pu4
theorem gh1 : ∃ d, fldN q.toNat = some d := by
 obtain ⟨p, m, g, mod, hn⟩ := ‹IsFld q›.ok
 exact ⟨_, hn⟩
@[push_cast] theorem ev4 : o24 W 36 [.x (.int .i64 q)] [] = some (.tup [.fz true (pF q), .x (.int .i64 0)], [], []) := (xr5 rfl).trans (by obtain ⟨d, hd⟩ := gh1 (q := q); unfold pNew; simp only [hd])
end
theorem ug9 {q : Int} (hn : fldN q.toNat = none) : o24 W 36 [.x (.int .i64 q)] [] = some (.tup [.x (.pointer none), .x (.int .i64 1)], [], []) := (xr5 rfl).trans (by unfold pNew; simp only [hn])
theorem h19 {b : Bool} {nl : Nat} {zs : List Int} (hz : zs.length ≤ 1000000) : o24 W 68 [.fz b (.sl nl 0 1 (ivs zs))] [] = some (.own 0 [], [.sl (nlT zs) 3 1 (ivs zs)], []) := (xr5 rfl).trans (ol3 hz)
end Go.Proofs.Ytghfdpdiibiigaa
namespace Go.Alg
section
variable {K : Type} [FK K]
structure Rref (n : Nat) (A : List (Nat × (Nat → K))) : Prop where
 up : A.Pairwise fun a b => a.1 < b.1
 one : ∀ a ∈ A, a.2 a.1 = 1
 before : ∀ a ∈ A, ∀ k, k < a.1 → a.2 k = 0
 lt : ∀ a ∈ A, a.1 < n
 out : ∀ a ∈ A, ∀ k, n ≤ k → a.2 k = 0
 zero : ∀ a ∈ A, ∀ b ∈ A, a.1 ≠ b.1 → a.2 b.1 = 0
section
variable {n : Nat} {A B : List (Nat × (Nat → K))}
def wf (l : List K) : Nat → K := fun i => l.getD i 0
theorem ez8 {l : List K} {k : Nat} (h : l.length ≤ k) : wf l k = 0 := by unfold wf; rw [List.getD_eq_getElem?_getD, List.getElem?_eq_none h]; rfl
theorem i66 {l : List K} {k : Nat} (h : k < l.length) : wf l k = l[k] := by unfold wf; rw [List.getD_eq_getElem?_getD, List.getElem?_eq_getElem h]; rfl
theorem ou8 {l l' : List K} (hl : l.length = l'.length) (h : wf l = wf l') : l = l' := by
 refine List.ext_getElem hl fun i h1 h2 => ?_
 rw [← i66 h1, ← i66 h2, h]
end
end
end Go.Alg
namespace Go.Alg
section
variable {α : Type}
end
section
variable {K : Type} [FK K]
def toF (A : List (Nat × List K)) : List (Nat × (Nat → K)) := A.map fun a => (a.1, wf a.2)
section
variable {n : Nat} {A : List (Nat × List K)}
end
theorem wf_set {x : List K} {i : Nat} {v : K} (hi : i < x.length) (k : Nat) : wf (x.set i v) k = if k = i then v else wf x k := by
 unfold wf
 rw [List.getD_eq_getElem?_getD, List.getD_eq_getElem?_getD, List.getElem?_set]
 by_cases h : i = k
 ·subst h; rw [if_pos rfl, if_pos hi, if_pos rfl]; rfl
 ·rw [if_neg h, if_neg fun e => h e.symm]
end
end Go.Alg
namespace Go.Alg
section
variable {α : Type} {M : List (List α)} {P : List Nat}
end
section
variable {K : Type} [FK K]
section
variable {n c : Nat} {M0 M : List (List K)} {P : List Nat}
end
end
end Go.Alg
namespace Go.Alg
section
variable {K : Type} [FK K]
end
end Go.Alg
namespace Go.Proofs.Ytghfdpdiibiigaa
theorem i62 {α : Type} {l : List α} {i : Nat} {x : α} (h : l[i]? = some x) : l.drop i = x :: l.drop (i + 1) := by
 obtain ⟨hi, he⟩ := List.getElem?_eq_some_iff.1 h
 rw [List.drop_eq_getElem_cons hi, he]
theorem oh9 {α : Type} {l : List α} {i : Nat} (h : l.length ≤ i) : l.drop i = [] := List.drop_eq_nil_of_le h
theorem ge6 {α : Type} {l : List α} {i : Nat} (h : i < l.length) : ∃ x, l[i]? = some x := ⟨_, List.getElem?_eq_getElem h⟩
end Go.Proofs.Ytghfdpdiibiigaa
namespace Go.Proofs.Ytghfdpdiibiigaa
open Go.Am Go.Vm Go.Alg
def lls (nl : Nat) (m : List (List Int)) : List Tree := m.map fun l => .sl nl 3 1 (ivs l)
theorem qf0 (nl : Nat) (m : List (List Int)) : (lls nl m).length = m.length := by simp [lls]
theorem lg8 (nl : Nat) (m : List (List Int)) : jj5 (lls nl m) = lvs nl m := by
 rw [gz0]
 unfold lls lvs
 rw [List.map_map]
 refine List.map_congr_left fun l _ => ?_
 show strip _ = _
 rw [strip, ap3]
theorem lr8 (nl : Nat) (m : List (List Int)) : jj5 (lvs nl m) = lvs nl m := by
 rw [gz0]
 unfold lvs
 rw [List.map_map]
 refine List.map_congr_left fun l _ => ?_
 show strip _ = _
 rw [strip, ap3]
theorem ng3 (nl : Nat) (m : List (List Int)) (l : List Int) : lls nl m ++ [.sl nl 3 1 (ivs l)] = lls nl (m ++ [l]) := by unfold lls; rw [List.map_append]; rfl
theorem y81 (nl : Nat) (m : List (List Int)) (i : Nat) (l : List Int) : (lls nl m).set i (.sl nl 3 1 (ivs l)) = lls nl (m.set i l) := by unfold lls; rw [List.map_set]
theorem mm0 (nl : Nat) (m : List (List Int)) (n : Nat) : (lls nl m).take n = lls nl (m.take n) := by unfold lls; rw [List.map_take]
theorem by3 (nl : Nat) (m : List (List Int)) (n : Nat) : (lls nl m).drop n = lls nl (m.drop n) := by unfold lls; rw [List.map_drop]
theorem rj0 (nl : Nat) (m : List (List Int)) (n : Nat) : (lvs nl m).take n = lvs nl (m.take n) := by unfold lvs; rw [List.map_take]
theorem ff4 (nl : Nat) (m : List (List Int)) (n : Nat) : (lvs nl m).drop n = lvs nl (m.drop n) := by unfold lvs; rw [List.map_drop]
theorem lz6 : ivs [] = ([] : List Tree) := rfl
theorem x25 (nl : Nat) : lls nl [] = ([] : List Tree) := rfl
@[push_cast] theorem wf0 {q : Int} [h : IsFld q] : isNode (pF q) = true := by
  obtain ⟨p, m, g, mod, hn⟩ := h.ok
  unfold pF; rw [hn]; rfl
@[push_cast] theorem v59 {q : Int} [h : IsFld q] {b : Bool} : ofz b (pF q) = some (.fz b (pF q)) := by
  obtain ⟨p, m, g, mod, hn⟩ := h.ok
  unfold pF; rw [hn]; rfl
theorem iva {q : Int} [IsFld q] {l : List (El q)} {i : Nat} (h : i < l.length) : (ivs (vs l))[i]? = some (.v (.int .i64 (wf l i).v)) := by
 rw [ui5 (by rw [fi2]; exact h), v86]; rfl
attribute [push_cast 50] List.isEmpty_nil List.isEmpty_cons nb9 qf0 lg8 lr8 ng3 mm0 by3 rj0 ff4 fi2 List.map_nil ite_self List.set_cons_zero List.set_cons_succ List.set_nil List.take_zero List.take_nil List.drop_zero List.drop_nil List.take_succ_cons List.drop_succ_cons List.take_length List.length_map List.flatMap_nil List.flatMap_cons gf1 pl3 l78 ap3 so0 nc5 yp5 u42 cs7 Int.natCast_add Int.natCast_one Int.natCast_zero Int.toNat_natCast Nat.div_one Nat.mul_one List.length_set List.all_cons List.all_nil List.length_append List.length_replicate List.length_take List.length_drop Int.zero_add
end Go.Proofs.Ytghfdpdiibiigaa
namespace Go.Proofs.Ytghfdpdiibiigaa
open Go.Am Go.Vm Go.Alg
section
variable {q p m g : Int} [IsFld q] {t : Tree} {b b' : Bool} {nl nl' : Nat}
variable {N : Nat} {P Q : List (List (El q))} {nr nr' : Nat}
end
end Go.Proofs.Ytghfdpdiibiigaa
namespace Go.Proofs.Ytghfdpdiibiigaa
open Go.Am Go.Vm Go.Alg
theorem iat {l : List Int} {i : Nat} {a : Int} (h : l[i]? = some a) : (ivs l)[i]? = some (.v (.int .i64 a)) := by
 unfold ivs; rw [List.getElem?_map, h]; rfl
def jks (n : Nat) : List Tree := List.replicate n .junk
@[push_cast] theorem gc3 (n : Nat) : (jks n).length = n := List.length_replicate ..
def nl0 : Nat → Nat
 | 0 => 1
 | _ + 1 => 0
def nl1 : Nat → Nat
 | 0 => 0
 | _ + 1 => 1
@[push_cast] theorem o09 (n : Nat) : nl0 (n + 1) = 0 := rfl
@[push_cast] theorem m17 (n : Nat) : nl1 (n + 1) = 1 := rfl
@[push_cast] theorem vt2 : nl0 0 = 1 := rfl
@[push_cast] theorem og7 : nl1 0 = 0 := rfl
end Go.Proofs.Ytghfdpdiibiigaa
namespace Go.Proofs.Ytghfdpdiibiigaa
open Go.Am Go.Vm Go.Alg
section
variable {b : Bool} {nl : Nat} {l : List Int}
def fidx {α : Type} (p : α → Bool) : Nat → List α → Int
 | _, [] => -1
 | i, a :: l => if p a = true then (i : Int) else fidx p (i + 1) l
theorem tl6 {α : Type} (p : α → Bool) : ∀ (i : Nat) (l : List α), decide (0 ≤ fidx p i l) = l.any p
 | _, [] => rfl
 | i, a :: l => by
   rw [fidx, List.any_cons]
   cases p a with
   | true => rw [if_pos rfl, Bool.true_or]; exact decide_eq_true (by omega)
   | false => rw [if_neg (by decide), Bool.false_or]; exact tl6 p (i + 1) l
section
variable {k : FuncId} {t : Tree} {p : Int → Bool}
end
section
variable {k : FuncId} {t : Tree} {p : List Int → Bool} {m : List (List Int)} {nr : Nat} {bl : Bool}
end
end
end Go.Proofs.Ytghfdpdiibiigaa
namespace Go.Proofs.Ytghfdpdiibiigaa
open Go.Am Go.Vm Go.Alg
def pn (P : List Nat) : List Int := P.map fun n : Nat => (n : Int)
theorem im5 (P : List Nat) : (pn P).length = P.length := by simp [pn]
section
variable {α : Type} {n i at' : Nat} {M : List (List α)}
end
section
variable {q : Int} [IsFld q] {n c i at' : Nat} {M : List (List (El q))}
end
end Go.Proofs.Ytghfdpdiibiigaa
namespace Go.Alg
section
variable {K : Type} [FK K]
end
end Go.Alg
namespace Go.Alg
section
variable {K : Type} [FK K]
theorem pv3 (n : Nat) (f g : Nat → K) : sumN n (fun i => f i + g i) = sumN n f + sumN n g := jl9 _ _ _
theorem x18 (c : K) (n : Nat) (f : Nat → K) : sumN n (fun i => c * f i) = c * sumN n f := ro9 _ _ _
def ofF (n : Nat) (f : Nat → K) : List K := (List.range n).map f
theorem gh0 (n : Nat) (f : Nat → K) : (ofF n f).length = n := by simp [ofF]
theorem b43 (n : Nat) (f : Nat → K) (k : Nat) : wf (ofF n f) k = if k < n then f k else 0 := by
 by_cases h : k < n
 ·rw [if_pos h, i66 (by rw [gh0]; exact h)]
  simp [ofF]
 ·rw [if_neg h, ez8 (by rw [gh0]; omega)]
theorem ot8 {n : Nat} {f : Nat → K} (h : ∀ k, n ≤ k → f k = 0) : wf (ofF n f) = f := by
 funext k
 rw [b43]
 split
 ·rfl
 ·exact (h k (by omega)).symm
theorem g29 (l : List K) (n k : Nat) : wf (l.take n) k = if k < n then wf l k else 0 := by
 unfold wf
 rw [List.getD_eq_getElem?_getD, List.getD_eq_getElem?_getD, List.getElem?_take]
 split <;> rfl
def tN (l : List K) : Nat → Nat
 | 0 => 0
 | n + 1 => if wf l n = 0 then tN l n else n + 1
def xa4 (l : List K) : List K := l.take (tN l l.length)
theorem vv2 (l : List K) : ∀ n, tN l n ≤ n
 | 0 => Nat.le_refl _
 | n + 1 => by have := vv2 l n; rw [tN]; split <;> omega
theorem z24 (l : List K) : ∀ (n i : Nat), tN l n ≤ i → i < n → wf l i = 0
 | 0, i, _, h => by omega
 | n + 1, i, h1, h2 => by
   rw [tN] at h1
   split at h1
   ·by_cases he : i = n
    ·subst he; assumption
    ·exact z24 l n i h1 (by omega)
   ·omega
theorem uv7 (l : List K) : ∀ n, tN l n ≠ 0 → wf l (tN l n - 1) ≠ 0
 | 0, h => absurd rfl h
 | n + 1, h => by
   rw [tN] at h ⊢
   split
   ·rename_i h0
    rw [if_pos h0] at h
    exact uv7 l n h
   ·rw [Nat.add_sub_cancel]; assumption
theorem kf0 (l : List K) : (xa4 l).length = tN l l.length := by
 unfold xa4; rw [List.length_take]; have := vv2 l l.length; omega
theorem tb1 (l : List K) : (xa4 l).length ≤ l.length := by rw [kf0]; exact vv2 _ _
theorem vb5 (l : List K) : wf (xa4 l) = wf l := by
 funext k
 unfold xa4
 rw [g29]
 split
 ·rfl
 ·by_cases h2 : k < l.length
  ·exact (z24 l l.length k (by omega) h2).symm
  ·exact (ez8 (by omega)).symm
def Trm (l : List K) : Prop := l.length ≠ 0 → wf l (l.length - 1) ≠ 0
theorem t12 (l : List K) : Trm (xa4 l) := by
 intro h
 rw [vb5, kf0]
 rw [kf0] at h
 exact uv7 l l.length h
theorem kf6 {a : List K} (ha : Trm a) {n : Nat} (h : ∀ k, n ≤ k → wf a k = 0) : a.length ≤ n := by
 by_cases hl : a.length ≤ n
 ·exact hl
 ·exact absurd (h (a.length - 1) (by omega)) (ha (by omega))
theorem df7 {a : List K} {n : Nat} (h : ∀ k, n ≤ k → wf a k = 0) : (xa4 a).length ≤ n := kf6 (t12 a) fun k hk => by rw [vb5]; exact h k hk
def addK (a b : List K) : List K := xa4 (ofF (max a.length b.length) fun k => wf a k + wf b k)
theorem w62 (a b : List K) : wf (addK a b) = fun k => wf a k + wf b k := by
 unfold addK
 rw [vb5]
 exact ot8 fun k hk => by rw [ez8 (by omega), ez8 (by omega), FK.add_zero]
theorem mk8 (a b : List K) : (addK a b).length ≤ max a.length b.length := df7 fun k hk => by rw [b43, if_neg (by omega)]
def pw (x : K) : Nat → K
 | 0 => 1
 | n + 1 => pw x n * x
def ev : List K → K → K
 | [], _ => 0
 | a :: l, x => a + x * ev l x
theorem tf2 : ∀ (l : List K) (x : K) (n : Nat), l.length ≤ n → ev l x = sumN n fun i => wf l i * pw x i
 | [], x, n, _ => (ja4 fun i _ => zero_mul _).symm
 | a :: l, x, n, h => by
   obtain ⟨n, rfl⟩ : ∃ m, n = m + 1 := ⟨n - 1, by simp at h; omega⟩
   rw [ev, tf2 l x n (by simpa using h), c66]
   refine congr (congrArg _ (FK.mul_one a).symm) ?_
   rw [← x18]
   refine rc1 fun i _ => ?_
   show x * (wf l i * pw x i) = wf l i * (pw x i * x)
   ac_rfl
theorem ma4 {a b : List K} (h : wf a = wf b) (x : K) : ev a x = ev b x := by
 rw [tf2 a x (max a.length b.length) (by omega), tf2 b x (max a.length b.length) (by omega), h]
theorem hd5 (a : List K) (x : K) : ev (xa4 a) x = ev a x := ma4 (vb5 a) x
theorem er0 {a : List K} {f : Nat → K} {n : Nat} (h : wf a = f) (hn : a.length ≤ n) (x : K) : ev a x = sumN n fun i => f i * pw x i := by rw [tf2 a x n hn, h]
theorem k99 (a b : List K) (x : K) : ev (addK a b) x = ev a x + ev b x := by
 have hl := mk8 a b
 rw [er0 (w62 a b) hl, tf2 a x (max a.length b.length) (by omega), tf2 b x (max a.length b.length) (by omega), ← pv3]
 exact rc1 fun i _ => add_mul _ _ _
theorem ft7 (a : List K) (x : K) : ev (a.map fun c => -c) x = -ev a x := by
 induction a with
 | nil => exact neg_zero.symm
 | cons c l ih => rw [List.map_cons, ev, ev, ih, mul_neg, tp9]
theorem qm4 {f : K → K} (h0 : f 0 = 0) (a : List K) (k : Nat) : wf (a.map f) k = f (wf a k) := by
 by_cases h : k < a.length
 ·rw [i66 (by simpa using h), i66 h, List.getElem_map]
 ·rw [ez8 (by simp; omega), ez8 (by omega), h0]
def sd (x0 : K) : List K → List K × K
 | [] => ([], 0)
 | [a] => ([], a)
 | a :: b :: l => ((sd x0 (b :: l)).2 :: (sd x0 (b :: l)).1, a + x0 * (sd x0 (b :: l)).2)
theorem w89 (x0 : K) : ∀ l : List K, (sd x0 l).1.length = l.length - 1
 | [] => rfl
 | [a] => rfl
 | a :: b :: l => by
   rw [sd]
   show (sd x0 (b :: l)).1.length + 1 = _
   rw [w89 x0 (b :: l)]; simp
theorem n68 (x0 y : K) : ∀ l : List K, ev l y = (y - x0) * ev (sd x0 l).1 y + (sd x0 l).2
 | [] => by rw [sd, ev, mul_zero, FK.add_zero]
 | [a] => by
   show a + y * 0 = (y - x0) * 0 + a
   rw [mul_zero, mul_zero, FK.add_zero, zero_add]
 | a :: b :: l => by
   rw [ev, n68 x0 y (b :: l), sd]
   show a + y * ((y - x0) * ev (sd x0 (b :: l)).1 y + (sd x0 (b :: l)).2) = (y - x0) * ((sd x0 (b :: l)).2 + y * ev (sd x0 (b :: l)).1 y) + (a + x0 * (sd x0 (b :: l)).2)
   generalize (sd x0 (b :: l)).2 = r
   generalize ev (sd x0 (b :: l)).1 y = e
   rw [FK.mul_add, FK.mul_add, sub_mul y x0 r]
   have h1 : y * ((y - x0) * e) = (y - x0) * (y * e) := by ac_rfl
   rw [h1, sub_eq (y * r)]
   have h2 : y * r + -(x0 * r) + (y - x0) * (y * e) + (a + x0 * r) = a + ((y - x0) * (y * e) + y * r) + (-(x0 * r) + x0 * r) := by ac_rfl
   rw [h2, neg_add, FK.add_zero]
theorem cz6 (x0 : K) (l : List K) : (sd x0 l).2 = ev l x0 := by
 have := n68 x0 x0 l
 rw [sub_self, zero_mul, zero_add] at this
 exact this.symm
theorem rj2 (x0 : K) : ∀ l : List K, (∀ c ∈ (sd x0 l).1, c = 0) → (sd x0 l).2 = 0 → ∀ c ∈ l, c = 0
 | [], _, _, c, hc => by cases hc
 | [a], _, h, c, hc => by
   rw [List.mem_singleton.1 hc]; exact h
 | a :: b :: l, h1, h2, c, hc => by
   rw [sd] at h1 h2
   have hr : (sd x0 (b :: l)).2 = 0 := h1 _ (by simp)
   have ih := rj2 x0 (b :: l) (fun c hc => h1 c (by simp [hc])) hr
   rcases List.mem_cons.1 hc with rfl | hc
   ·rw [hr, mul_zero, FK.add_zero] at h2; exact h2
   ·exact ih c hc
theorem roots : ∀ (xs : List K) (f : List K), xs.Nodup → f.length ≤ xs.length → (∀ x ∈ xs, ev f x = 0) → ∀ c ∈ f, c = 0
 | [], f, _, hl, _ => by
   intro c hc
   rw [List.eq_nil_of_length_eq_zero (Nat.le_zero.1 hl)] at hc; cases hc
 | x0 :: xs, f, hn, hl, hx => by
   rw [List.nodup_cons] at hn
   have h0 := hx x0 (by simp)
   rw [← cz6] at h0
   have hl2 := w89 x0 f
   rw [List.length_cons] at hl
   refine rj2 x0 f (roots xs _ hn.2 (by omega) fun y hy => ?_) h0
   have h1 := n68 x0 y f
   rw [hx y (by simp [hy]), h0, FK.add_zero] at h1
   rcases mul_eq_zero h1.symm with h2 | h2
   ·exact absurd (by rw [← sub_eq_zero.1 h2]; exact hy) hn.1
   ·exact h2
theorem yw7 {f : List K} (h : ∀ c ∈ f, c = 0) : wf f = fun _ => 0 := by
 funext k
 by_cases hk : k < f.length
 ·rw [i66 hk]; exact h _ (List.getElem_mem hk)
 ·exact ez8 (by omega)
theorem u24 {xs f : List K} (hn : xs.Nodup) (hl : ∀ k, xs.length ≤ k → wf f k = 0) (hx : ∀ x ∈ xs, ev f x = 0) : wf f = fun _ => 0 := by
 have h := roots xs (xa4 f) hn (df7 hl) fun x h => by rw [hd5]; exact hx x h
 rw [← vb5]
 exact yw7 h
theorem yn1 {xs a b : List K} (hn : xs.Nodup) (ha : ∀ k, xs.length ≤ k → wf a k = 0) (hb : ∀ k, xs.length ≤ k → wf b k = 0) (hx : ∀ x ∈ xs, ev a x = ev b x) : wf a = wf b := by
 have h := u24 (f := addK a (b.map fun c => -c)) hn (fun k hk => by
  rw [w62]
  show wf a k + wf (b.map fun c => -c) k = 0
  rw [qm4 neg_zero, ha k hk, hb k hk, neg_zero, FK.add_zero]) fun x h => by rw [k99, ft7, hx x h, FK.add_neg]
 funext k
 have h2 : wf a k + wf (b.map fun c => -c) k = 0 := by
  have := congrFun h k
  rw [w62] at this
  exact this
 rw [qm4 neg_zero] at h2
 exact sub_eq_zero.1 h2
end
end Go.Alg
namespace Go.Alg
section
variable {K : Type} [FK K]
end
end Go.Alg
namespace Go.Proofs.Ytghfdpdiibiigaa
open Go.Am Go.Vm Go.Alg
def polE (q : Int) (a : List Int) : Int := match fldN q.toNat with
 | none => 1
 | some _ => if 128 < a.length then 4 else if (a.any fun v => !fok q v) = true then 2 else 0
theorem i69 {q : Int} (a : List (El q)) : ((vs a).any fun v => !fok q v) = false := List.any_eq_false.2 fun z hz => by
 obtain ⟨x, _, rfl⟩ := List.mem_map.1 hz
 rw [x.ok]; decide
theorem i31 {q : Int} [h : IsFld q] {a : List (El q)} (hl : a.length ≤ 128) : polE q (vs a) = 0 := by
 obtain ⟨p, m, g, mod, hn⟩ := h.ok
 unfold polE
 rw [hn]
 simp only
 rw [if_neg (by rw [fi2]; omega), i69, if_neg (by decide)]
section
variable {q : Int} {b : Bool} {nl : Nat} {l : List Int}
theorem kj6 [IsFld q] (hl : l.length ≤ 9223372036854775807) : ∀ (n i : Nat), i + n = l.length → ∀ ks,
 vgoL W ⟨hNo, [.tmp 4], 0⟩ [5, 20, 21, 22] c61L0 (.blk 0 [] :: ks) [(5, .fz true (pF q)), (20, .fz b (.sl nl 0 1 (ivs l))), (21, .x (.int .i64 l.length)), (22, .x (.int .i64 i))] [] = if ((l.drop i).any fun v => !fok q v) = true then some (.x (.int .i64 2), [], []) else vgo W ⟨hNo, [.tmp 4], 0⟩ ks (VFr.of []) []
 | 0, i, hi, ks => by
   rw [oh9 (by omega), if_neg (by simp), sb5 c61L0.eq_def]
   simp (disch := first | omega | fail) only [push_cast, seval, ui5, lu7, y81, bj9, wrap64, dec_lt, cw6, nl2, qc6, mr8, nb8, if_pos, if_neg]
 | n + 1, i, hi, ks => by
   have ih := kj6 hl n (i + 1) (by omega) ks
   obtain ⟨a, ha⟩ := ge6 (l := l) (i := i) (by omega)
   have h1 := iat ha
   rw [i62 ha, List.any_cons]
   rw [Int.natCast_add, Int.natCast_one] at ih
   cases hk : fok q a with
   | false =>
     rw [if_pos (by rfl), sb5 c61L0.eq_def]
     simp (disch := first | omega | fail) only [push_cast, seval, ui5, lu7, y81, bj9, wrap64, dec_lt, cw6, nl2, qc6, mr8, nb8, if_pos, if_neg, h1, hk]
   | true =>
     rw [Bool.not_true, Bool.false_or, ← ih, sb5 c61L0.eq_def]
     simp (disch := first | omega | fail) only [push_cast, seval, ui5, lu7, y81, bj9, wrap64, dec_lt, cw6, nl2, qc6, mr8, nb8, if_pos, if_neg, h1, hk]
theorem bw7 (hl : l.length ≤ 9223372036854775807) : o24 W 61 [.x (.int .i64 q), .fz b (.sl nl 0 1 (ivs l))] [] = some (.x (.int .i64 (polE q l)), [], []) := by
 unfold polE
 cases hn : fldN q.toNat with
 | none =>
   have e0 := ug9 hn
   rw [o10 rfl T61 rfl]
   unfold F61 c61
   simp (disch := first | omega | fail) only [push_cast, seval, ui5, lu7, y81, bj9, wrap64, dec_lt, cw6, nl2, qc6, mr8, nb8, if_pos, if_neg, e0]
 | some x =>
   obtain ⟨p0, m0, g0, mod⟩ := x
   haveI : IsFld q := ⟨⟨p0, m0, g0, mod, hn⟩⟩
   simp only
   by_cases h1 : 128 < l.length
   ·rw [if_pos h1, o10 rfl T61 rfl]
    unfold F61 c61
    simp (disch := first | omega | fail) only [push_cast, seval, ui5, lu7, y81, bj9, wrap64, dec_lt, cw6, nl2, qc6, mr8, nb8, if_pos, if_neg]
   ·rw [if_neg h1]
    have e := fun ks => kj6 (q := q) hl (b := b) (nl := nl) l.length 0 (by omega) ks
    simp only [Int.natCast_zero, List.take_zero, List.drop_zero, rp2, lz6, x25, List.map_nil, List.length_nil] at e
    rw [o10 rfl T61 rfl]
    unfold F61 c61
    simp (disch := first | omega | fail) only [push_cast, seval, ui5, lu7, y81, bj9, wrap64, dec_lt, cw6, nl2, qc6, mr8, nb8, if_pos, if_neg]
    rw [e]
    by_cases h2 : (l.any fun v => !fok q v) = true
    ·rw [if_pos h2, if_pos h2]
    ·rw [if_neg h2, if_neg h2]
     simp (disch := first | omega | fail) only [push_cast, seval, ui5, lu7, y81, bj9, wrap64, dec_lt, cw6, nl2, qc6, mr8, nb8, if_pos, if_neg]
end
section
variable {q : Int} [IsFld q] {b : Bool} {nl : Nat} {a : List (El q)}
theorem ee1 (a : List (El q)) (n : Nat) : (vs a).take n = vs (a.take n) := by unfold vs; rw [List.map_take]
theorem ks8 (a : List (El q)) : nlT (vs a) = nlT a := b99 _ _
theorem yc2 (hl : a.length ≤ 1000000) : ∀ (n : Nat), n ≤ a.length → ∀ ks,
 vgoL W ⟨hNo, [.tmp 2], 0⟩ [0, 3] c86L0 (.blk 0 [0, 3] :: ks) [(0, .fz b (.sl nl 0 1 (ivs (vs a)))), (3, .x (.int .i64 n))] [] = vgo W ⟨hNo, [.tmp 2], 0⟩ ks (VFr.of [(0, .fz b (.sl nl 0 1 (ivs (vs a)))), (3, .x (.int .i64 (tN a n : Nat)))]) []
 | 0, hn, ks => by
   rw [sb5 c86L0.eq_def, tN]
   simp (disch := first | omega | fail) only [push_cast, seval, ui5, lu7, y81, bj9, wrap64, dec_lt, cw6, nl2, qc6, mr8, nb8, if_pos, if_neg]
 | n + 1, hn, ks => by
   have ih := yc2 hl n (by omega) ks
   have h1 := iva (l := a) (i := n) (by omega)
   have w1 : IntKind.wrap .i64 (((n + 1 : Nat) : Int) - 1) = (n : Int) := by rw [wrap64 (by omega) (by omega)]; omega
   rw [Int.natCast_add, Int.natCast_one] at w1
   rw [sb5 c86L0.eq_def, tN]
   by_cases h0 : wf a n = 0
   ·rw [if_pos h0, ← ih]
    have h2 : (wf a n).v = 0 := r57.2 h0
    simp (disch := first | omega | fail) only [push_cast, seval, ui5, lu7, y81, bj9, wrap64, dec_lt, cw6, nl2, qc6, mr8, nb8, if_pos, if_neg, w1, h1, h2]
   ·rw [if_neg h0]
    have h2 : ¬ (wf a n).v = 0 := fun e => h0 (r57.1 e)
    simp (disch := first | omega | fail) only [push_cast, seval, ui5, lu7, y81, bj9, wrap64, dec_lt, cw6, nl2, qc6, mr8, nb8, if_pos, if_neg, w1, h1, nb8 h2]
theorem di3 (hl : a.length ≤ 1000000) : o24 W 86 [.fz b (.sl nl 0 1 (ivs (vs a)))] [] = some (.own 0 [], [.sl (nlT (xa4 a)) 3 1 (ivs (vs (xa4 a)))], []) := by
 have hle := vv2 a a.length
 have e := fun ks => yc2 (b := b) (nl := nl) hl a.length (Nat.le_refl _) ks
 have htk : (vs a).take (tN a a.length) = vs (xa4 a) := ee1 _ _
 have hlt := tb1 a
 have e1 := fun b nl => h19 (b := b) (nl := nl) (zs := vs (xa4 a)) (by rw [fi2]; omega)
 simp only [ks8] at e1
 rw [o10 rfl T86 rfl]
 unfold F86 c86
 simp (disch := first | omega | fail) only [push_cast, seval, ui5, lu7, y81, bj9, wrap64, dec_lt, cw6, nl2, qc6, mr8, nb8, if_pos, if_neg]
 rw [e]
 simp (disch := first | omega | fail) only [push_cast, seval, ui5, lu7, y81, bj9, wrap64, dec_lt, cw6, nl2, qc6, mr8, nb8, if_pos, if_neg, htk, e1, Int.sub_zero]
end
end Go.Proofs.Ytghfdpdiibiigaa
namespace Go.Alg
section
variable {K : Type} [FK K]
def evT (l : List K) (x : K) : Nat → K → K
 | 0, v => v
 | n + 1, v => evT l x n (v * x + wf l n)
theorem av1 (l : List K) (x : K) : ∀ (n : Nat) (v : K), evT l x n v = v * pw x n + sumN n fun i => wf l i * pw x i
 | 0, v => by rw [evT, wr8, FK.add_zero]; exact (FK.mul_one v).symm
 | n + 1, v => by
   rw [evT, av1 l x n, cp9, add_mul, FK.add_assoc, FK.add_comm (wf l n * pw x n)]
   congr 1
   show v * x * pw x n = v * (pw x n * x)
   ac_rfl
theorem gr6 (l : List K) (x : K) : evT l x l.length 0 = ev l x := by
 rw [av1, zero_mul, zero_add, ← tf2 l x l.length (Nat.le_refl _)]
end
end Go.Alg
namespace Go.Proofs.Ytghfdpdiibiigaa
open Go.Am Go.Vm Go.Alg
section
variable {q : Int} {b b' : Bool} {nl nl' : Nat}
theorem ce8 [IsFld q] {a c : List (El q)} (ha : a.length ≤ 128) (hc : c.length ≤ 128) :
 o24 W 85 [.x (.int .i64 q), .fz b (.sl nl 0 1 (ivs (vs a))), .fz b' (.sl nl' 0 1 (ivs (vs c)))] [] = some (.tup [.fz true (pF q), .own 0 [], .own 1 [], .x (.int .i64 0)], [.sl (nlT (xa4 a)) 3 1 (ivs (vs (xa4 a))), .sl (nlT (xa4 c)) 3 1 (ivs (vs (xa4 c)))], []) := by
 have e1 := fun b nl => bw7 (q := q) (b := b) (nl := nl) (l := vs a) (by rw [fi2]; omega)
 have e2 := fun b nl => bw7 (q := q) (b := b) (nl := nl) (l := vs c) (by rw [fi2]; omega)
 simp only [i31 ha] at e1
 simp only [i31 hc] at e2
 have e3 := fun b nl => di3 (b := b) (nl := nl) (a := a) (by omega)
 have e4 := fun b nl => di3 (b := b) (nl := nl) (a := c) (by omega)
 rw [o10 rfl T85 rfl]
 unfold F85 c85
 simp (disch := first | omega | fail) only [push_cast, seval, ui5, lu7, y81, bj9, wrap64, dec_lt, cw6, nl2, qc6, mr8, nb8, if_pos, if_neg, e1, e2, e3, e4]
end
end Go.Proofs.Ytghfdpdiibiigaa
namespace Go.Proofs.Ytghfdpdiibiigaa
open Go.Am Go.Vm Go.Alg
section
variable {q : Int} {b b' : Bool} {nl nl' : Nat}
theorem tt9 [IsFld q] {a : List (El q)} {x : El q} (hl : a.length ≤ 1000) : ∀ (n : Nat) (v : El q), n ≤ a.length → ∀ ks,
 vgoL W ⟨hNo, [.tmp 6, .tmp 7], 0⟩ [1, 2, 8, 11, 12] c64L0 (.blk 0 [11] :: ks) [(1, .own 0 []), (2, .x (.int .i64 x.v)), (8, .fz true (pF q)), (11, .x (.int .i64 v.v)), (12, .x (.int .i64 ((n : Int) - 1)))] [.sl nl 3 1 (ivs (vs a))] =
  vgo W ⟨hNo, [.tmp 6, .tmp 7], 0⟩ ks (VFr.of [(11, .x (.int .i64 ((evT a x n v).v)))]) [.sl nl 3 1 (ivs (vs a))]
 | 0, v, hn, ks => by
   rw [evT, sb5 c64L0.eq_def]
   simp (disch := first | omega | fail) only [push_cast, seval, ui5, lu7, y81, bj9, wrap64, dec_lt, cw6, nl2, qc6, mr8, nb8, if_pos, if_neg]
 | n + 1, v, hn, ks => by
   have ih := tt9 (x := x) hl n (v * x + wf a n) (by omega) ks
   have l1 := iva (l := a) (i := n) (by omega)
   have e9 : ((n + 1 : Nat) : Int) - 1 = (n : Int) := by omega
   rw [on0, ym6] at ih
   rw [evT, ← ih, e9, sb5 c64L0.eq_def]
   simp (disch := first | omega | fail) only [push_cast, seval, ui5, lu7, y81, bj9, wrap64, dec_lt, cw6, nl2, qc6, mr8, nb8, if_pos, if_neg, l1]
theorem yu6 [IsFld q] {a : List (El q)} {x : El q} (ha : a.length ≤ 128) :
 o24 W 64 [.x (.int .i64 q), .fz b (.sl nl 0 1 (ivs (vs a))), .x (.int .i64 x.v)] [] = some (.tup [.x (.int .i64 (ev a x).v), .x (.int .i64 0)], [], []) := by
 have e1 := fun b nl b' nl' => ce8 (b := b) (nl := nl) (b' := b') (nl' := nl') (c := [x]) ha (by simp)
 rw [show ivs (vs [x]) = [Tree.v (.int .i64 x.v)] from rfl] at e1
 have la := tb1 a
 have e2 := fun nl ks => tt9 (nl := nl) (x := x) (a := xa4 a) (by omega) (xa4 a).length 0 (Nat.le_refl _) ks
 rw [gr6, hd5, hc8] at e2
 have w1 : IntKind.wrap .i64 (((xa4 a).length : Int) - 1) = ((xa4 a).length : Int) - 1 := wrap64 (by omega) (by omega)
 generalize xa4 a = A at *
 generalize xa4 [x] = C at *
 rw [o10 rfl T64 rfl]
 unfold F64 c64
 simp (disch := first | omega | fail) only [push_cast, seval, ui5, lu7, y81, bj9, wrap64, dec_lt, cw6, nl2, qc6, mr8, nb8, if_pos, if_neg, e1, w1]
 rw [e2]
 simp (disch := first | omega | fail) only [push_cast, seval, ui5, lu7, y81, bj9, wrap64, dec_lt, cw6, nl2, qc6, mr8, nb8, if_pos, if_neg]
end
end Go.Proofs.Ytghfdpdiibiigaa
namespace Go.Proofs.Ytghfdpdiibiigaa
open Go.Am Go.Vm Go.Alg
end Go.Proofs.Ytghfdpdiibiigaa
namespace Go.Proofs.Ytghfdpdiibiigaa
open Go.Am Go.Vm Go.Alg
def pkI (a n : Int) : Int := (if a < 0 then -(a + 1) else a).tmod n
theorem h58 {a n : Int} (hn : 0 < n) : 0 ≤ pkI a n ∧ pkI a n < n := by
 unfold pkI
 split
 ·exact ⟨Int.tmod_nonneg _ (by omega), Int.tmod_lt_of_pos _ hn⟩
 ·exact ⟨Int.tmod_nonneg _ (by omega), Int.tmod_lt_of_pos _ hn⟩
def rwI (l : List Int) (i : Int) : Int := if l.length = 0 then i else IntKind.wrap .i64 (gi l (i.tmod l.length) + IntKind.wrap .i64 (IntKind.wrap .i64 (i.tdiv l.length) * 7919))
theorem ti9 (x : Int) : -9223372036854775808 ≤ IntKind.wrap .i64 x ∧ IntKind.wrap .i64 x ≤ 9223372036854775807 := by rw [IntKind.wrap_i64]; omega
theorem bd0 {l : List Int} {i : Int} (h0 : 0 ≤ i) (h1 : i ≤ 9223372036854775807) : -9223372036854775808 ≤ rwI l i ∧ rwI l i ≤ 9223372036854775807 := by
 unfold rwI
 split
 ·omega
 ·exact ti9 _
theorem cl0 {l : List Int} {i : Int} (h0 : 0 ≤ i) (h1 : i < l.length) : (ivs l)[i.toNat]? = some (.v (.int .i64 (gi l i))) := by
 have e : (ivs l)[i.toNat]? = some (.v (.int .i64 (gi l ((i.toNat : Nat) : Int)))) := ui5 (by omega)
 rwa [Int.toNat_of_nonneg h0] at e
theorem o99 {x : Int} (h0 : 0 ≤ x) {n : Int} (h : x < n) : ∃ k : Nat, x = (k : Int) ∧ (k : Int) < n := ⟨x.toNat, by omega, by omega⟩
section
variable {b : Bool} {nl : Nat} {raw : List Int}
theorem s88 {a n : Int} (h1 : -9223372036854775808 ≤ a) (h2 : a ≤ 9223372036854775807) (hn : 0 < n) : o24 W 9 [.x (.int .i64 a), .x (.int .i64 n)] [] = some (.x (.int .i64 (pkI a n)), [], []) := by
 have hz : ¬ n = 0 := by omega
 rw [o10 rfl T9 rfl]
 unfold F9 c9 pkI
 by_cases h0 : a < 0
 ·rw [if_pos h0]
  simp (disch := first | omega | fail) only [push_cast, seval, ui5, lu7, y81, bj9, wrap64, dec_lt, cw6, nl2, qc6, mr8, nb8, if_pos, if_neg, nb8 hz, hz]
  rw [show (0 : Int) - (a + 1) = -(a + 1) by omega]
 ·rw [if_neg h0]
  simp (disch := first | omega | fail) only [push_cast, seval, ui5, lu7, y81, bj9, wrap64, dec_lt, cw6, nl2, qc6, mr8, nb8, if_pos, if_neg, nb8 hz, hz]
theorem yc3 {i : Int} (hi : 0 ≤ i) (hl : raw.length ≤ 9223372036854775807) : o24 W 41 [.fz b (.sl nl 0 1 (ivs raw)), .x (.int .i64 i)] [] = some (.x (.int .i64 (rwI raw i)), [], []) := by
 rw [o10 rfl T41 rfl]
 unfold F41 c41 rwI
 by_cases h0 : raw.length = 0
 ·rw [if_pos h0]
  have h0' : (raw.length : Int) = 0 := by omega
  simp (disch := first | omega | fail) only [push_cast, seval, ui5, lu7, y81, bj9, wrap64, dec_lt, cw6, nl2, qc6, mr8, nb8, if_pos, if_neg, h0']
 ·rw [if_neg h0]
  have hz : ¬ (raw.length : Int) = 0 := by omega
  have b1 : 0 ≤ i.tmod raw.length := Int.tmod_nonneg _ hi
  have b2 : i.tmod raw.length < raw.length := Int.tmod_lt_of_pos _ (by omega)
  have e := cl0 b1 b2
  simp (disch := first | omega | fail) only [push_cast, seval, ui5, lu7, y81, bj9, wrap64, dec_lt, cw6, nl2, qc6, mr8, nb8, if_pos, if_neg, hz, nb8 hz, e]
def numV (raw : List Int) (frm q : Int) (k : Nat) : Int := pkI (rwI raw (frm + k)) q
def tv7 (raw : List Int) (frm q : Int) (n : Nat) : List Int := (List.range n).map (numV raw frm q)
theorem jd5 (raw : List Int) (frm q : Int) (n : Nat) : (tv7 raw frm q n).length = n := by simp [tv7]
theorem ce6 (raw : List Int) (frm q : Int) (n : Nat) : tv7 raw frm q (n + 1) = tv7 raw frm q n ++ [numV raw frm q n] := by unfold tv7; rw [List.range_succ, List.map_append]; rfl
theorem dm5 {raw : List Int} {frm q : Int} {n : Nat} (hq : 0 < q) : ∀ z ∈ tv7 raw frm q n, fok q z = true := fun z hz => by
 obtain ⟨k, _, rfl⟩ := List.mem_map.1 hz
 have := h58 (a := rwI raw (frm + k)) hq
 unfold numV fok
 rw [decide_eq_true this.1, decide_eq_true this.2]; rfl
theorem m61 {raw : List Int} {frm q : Int} {n : Nat} (hq : 0 < q) : ∃ l : List (El q), tv7 raw frm q n = vs l ∧ l.length = n := by
 obtain ⟨l, hl⟩ := n39 (dm5 (raw := raw) (frm := frm) (n := n) hq)
 exact ⟨l, hl, by rw [← fi2, ← hl, jd5]⟩
theorem yq2 (hrl : raw.length ≤ 9223372036854775807) {frm q : Int} (hf0 : 0 ≤ frm) (hf1 : frm ≤ 1000000000) (hq0 : 0 < q) {N : Nat} (hN : N ≤ 100000) : ∀ (d i : Nat), i + d = N → ∀ ks,
 vgoL W ⟨h11, [.tmp 8], 0⟩ [0, 1, 2, 3, 9, 10] c11L0 (.blk 0 [9] :: ks) [(0, .fz b (.sl nl 0 1 (ivs raw))), (1, .x (.int .i64 frm)), (2, .x (.int .i64 q)), (3, .x (.int .i64 N)), (9, .own 0 []), (10, .x (.int .i64 i))] [.sl 1 3 1 (ivs (tv7 raw frm q i))] =
  vgo W ⟨h11, [.tmp 8], 0⟩ ks (VFr.of [(9, .own 0 [])]) [.sl 1 3 1 (ivs (tv7 raw frm q N))]
 | 0, i, hi, ks => by
   obtain rfl : i = N := by omega
   rw [sb5 c11L0.eq_def]
   simp (disch := first | omega | fail) only [push_cast, seval, ui5, lu7, y81, bj9, wrap64, dec_lt, cw6, nl2, qc6, mr8, nb8, if_pos, if_neg]
 | d + 1, i, hi, ks => by
   have ih := yq2 hrl hf0 hf1 hq0 hN d (i + 1) (by omega) ks
   have e1 := fun b nl => yc3 (b := b) (nl := nl) (raw := raw) (i := frm + i) (by omega) hrl
   have hri := bd0 (l := raw) (i := frm + i) (by omega) (by omega)
   have e2 := s88 (n := q) hri.1 hri.2 hq0
   have hl := jd5 raw frm q i
   rw [Int.natCast_add, Int.natCast_one, ce6, numV] at ih
   rw [← ih, sb5 c11L0.eq_def]
   simp (disch := first | omega | fail) only [push_cast, seval, ui5, lu7, y81, bj9, wrap64, dec_lt, cw6, nl2, qc6, mr8, nb8, if_pos, if_neg, e1, e2, hl]
theorem vv4 (hrl : raw.length ≤ 9223372036854775807) {frm q : Int} (hf0 : 0 ≤ frm) (hf1 : frm ≤ 1000000000) (hq0 : 0 < q) {N : Nat} (hN : N ≤ 100000) : o24 W 11 [.fz b (.sl nl 0 1 (ivs raw)), .x (.int .i64 frm), .x (.int .i64 q), .x (.int .i64 N)] [] = some (.own 0 [], [.sl 1 3 1 (ivs (tv7 raw frm q N))], []) := by
 have e := fun ks => yq2 (b := b) (nl := nl) hrl hf0 hf1 hq0 hN N 0 (by omega) ks
 rw [show tv7 raw frm q 0 = [] from rfl] at e
 simp only [Int.natCast_zero, List.take_zero, List.drop_zero, rp2, lz6, x25, List.map_nil, List.length_nil] at e
 rw [o10 rfl T11 rfl]
 unfold F11 c11
 simp (disch := first | omega | fail) only [push_cast, seval, ui5, lu7, y81, bj9, wrap64, dec_lt, cw6, nl2, qc6, mr8, nb8, if_pos, if_neg]
 rw [e]
 simp (disch := first | omega | fail) only [push_cast, seval, ui5, lu7, y81, bj9, wrap64, dec_lt, cw6, nl2, qc6, mr8, nb8, if_pos, if_neg]
end
theorem hl9 (p : Int) (hp : 2 ≤ p ∧ p ≤ 64) : ∀ (n : Nat) (q m q' m' : Int), 1 ≤ q → q ≤ 64 → 0 ≤ m → m + n ≤ 100 → dvdN n q p m = some (q', m') →
 (1 ≤ q' ∧ q' ≤ 64) ∧ ∀ ks, vgoL W ⟨hNo, [.tmp 2, .tmp 3], 0⟩ [0, 4, 5] c81L0 (.blk 2 [0, 4, 5] :: ks) [(0, .x (.int .i64 q)), (4, .x (.int .i64 p)), (5, .x (.int .i64 m))] [] = vgo W ⟨hNo, [.tmp 2, .tmp 3], 0⟩ ks (VFr.of [(0, .x (.int .i64 q')), (4, .x (.int .i64 p)), (5, .x (.int .i64 m'))]) []
 | 0, q, m, q', m', h1, h2, h3, h4, he => by cases he
 | n + 1, q, m, q', m', h1, h2, h3, h4, he => by
   rw [dvdN] at he
   have hp0 : ¬ p = 0 := by omega
   have q1 : q.tmod p = q % p := Int.tmod_eq_emod_of_nonneg (by omega)
   have q2 : q.tdiv p = q / p := Int.tdiv_eq_ediv_of_nonneg (by omega)
   by_cases hz : q % p = 0
   ·rw [show (q % p == 0) = true by simpa using hz, cond_true] at he
    have hd : 1 ≤ q / p := by
     rcases Int.lt_or_le (q / p) 1 with h | h
     ·have h5 : 0 ≤ q / p := Int.ediv_nonneg (by omega) (by omega)
      have h6 : q / p = 0 := by omega
      have := Int.emod_add_mul_ediv q p
      rw [h6, hz] at this; omega
     ·exact h
    have hd2 : q / p ≤ q := Int.ediv_le_self _ (by omega)
    obtain ⟨hb, ih⟩ := hl9 p hp n (q / p) (m + 1) q' m' hd (by omega) (by omega) (by omega) he
    refine ⟨hb, fun ks => ?_⟩
    rw [← ih ks, sb5 c81L0.eq_def]
    simp (disch := first | omega | fail) only [push_cast, seval, ui5, lu7, y81, bj9, wrap64, dec_lt, cw6, nl2, qc6, mr8, nb8, if_pos, if_neg, hp0, q1, q2, mr8 hz]
   ·rw [show (q % p == 0) = false by simpa using hz, cond_false] at he
    cases he
    refine ⟨⟨h1, h2⟩, fun ks => ?_⟩
    rw [sb5 c81L0.eq_def]
    simp (disch := first | omega | fail) only [push_cast, seval, ui5, lu7, y81, bj9, wrap64, dec_lt, cw6, nl2, qc6, mr8, nb8, if_pos, if_neg, hp0, q1, nb8 hz]
theorem ra6 (q : Int) (hq : 2 ≤ q ∧ q ≤ 64) : ∀ (n : Nat) (p : Int) (r : Int × Int), 2 ≤ p → p ≤ 64 → outN n q p = some r →
 ∀ ks, vgoL W ⟨hNo, [.tmp 2, .tmp 3], 0⟩ [0, 4] c81L1 (.blk 0 [] :: ks) [(0, .x (.int .i64 q)), (4, .x (.int .i64 p))] [] = some (.tup [.x (.int .i64 r.1), .x (.int .i64 r.2)], [], [])
 | 0, p, r, h1, h2, he => by cases he
 | n + 1, p, r, h1, h2, he => fun ks => by
   rw [outN] at he
   by_cases hl : q < p
   ·rw [decide_eq_true hl, cond_true] at he; cases he
   rw [decide_eq_false hl, cond_false] at he
   have hp0 : ¬ p = 0 := by omega
   have q1 : q.tmod p = q % p := Int.tmod_eq_emod_of_nonneg (by omega)
   by_cases hz : q % p = 0
   ·rw [show (q % p == 0) = true by simpa using hz, cond_true] at he
    cases hd : dvdN 64 q p 0 with
    | none => rw [hd] at he; cases he
    | some x =>
      obtain ⟨q', m'⟩ := x
      rw [hd] at he
      simp only [Option.some.injEq] at he
      obtain ⟨hb, hin⟩ := hl9 p ⟨h1, h2⟩ 64 q 0 q' m' (by omega) (by omega) (by omega) (by omega) hd
      rw [sb5 c81L1.eq_def]
      simp (disch := first | omega | fail) only [push_cast, seval, ui5, lu7, y81, bj9, wrap64, dec_lt, cw6, nl2, qc6, mr8, nb8, if_pos, if_neg, hp0, q1, mr8 hz]
      rw [hin]
      by_cases ho : q' = 1
      ·rw [show (q' == 1) = true by simpa using ho, cond_true] at he
       rw [← he]
       simp (disch := first | omega | fail) only [push_cast, seval, ui5, lu7, y81, bj9, wrap64, dec_lt, cw6, nl2, qc6, mr8, nb8, if_pos, if_neg, mr8 ho]
      ·rw [show (q' == 1) = false by simpa using ho, cond_false] at he
       rw [← he]
       simp (disch := first | omega | fail) only [push_cast, seval, ui5, lu7, y81, bj9, wrap64, dec_lt, cw6, nl2, qc6, mr8, nb8, if_pos, if_neg, nb8 ho]
   ·rw [show (q % p == 0) = false by simpa using hz, cond_false] at he
    by_cases hp64 : p = 64
    ·subst hp64; omega
    have ih := ra6 q hq n (p + 1) r (by omega) (by omega) he ks
    rw [← ih, sb5 c81L1.eq_def]
    simp (disch := first | omega | fail) only [push_cast, seval, ui5, lu7, y81, bj9, wrap64, dec_lt, cw6, nl2, qc6, mr8, nb8, if_pos, if_neg, hp0, q1, nb8 hz]
theorem fh8 {q : Int} (hq : 2 ≤ q ∧ q ≤ 64) {r : Int × Int} (he : outN 64 q 2 = some r) : o24 W 81 [.x (.int .i64 q)] [] = some (.tup [.x (.int .i64 r.1), .x (.int .i64 r.2)], [], []) := by
 rw [o10 rfl T81 rfl]
 unfold F81 c81
 simp (disch := first | omega | fail) only [push_cast, seval, ui5, lu7, y81, bj9, wrap64, dec_lt, cw6, nl2, qc6, mr8, nb8, if_pos, if_neg]
 rw [ra6 q hq 64 2 r (by omega) (by omega) he]
def szN : Nat → Nat → List Int
 | 0, _ => []
 | n + 1, q => bif (fldN q).isSome then (q : Int) :: szN n (q + 1) else szN n (q + 1)
def szL : List Int := szN 63 2
theorem pb4 : szL.length = 27 := by kernel_rfl
theorem ho6 : (szL.all fun z => decide (2 ≤ z) && decide (z ≤ 64) && (fldN z.toNat).isSome) = true := by kernel_rfl
theorem x14 {z : Int} (hz : z ∈ szL) : 2 ≤ z ∧ z ≤ 64 ∧ IsFld z := by
 have := List.all_eq_true.1 ho6 z hz
 simp only [Bool.and_eq_true, decide_eq_true_eq] at this
 obtain ⟨⟨h1, h2⟩, h3⟩ := this
 obtain ⟨⟨p, m, g, mod⟩, hx⟩ := Option.isSome_iff_exists.1 h3
 exact ⟨h1, h2, ⟨p, m, g, mod, hx⟩⟩
theorem jl0 : ∀ (n q : Nat) (zs : List Int), q + n = 65 → 2 ≤ q → zs.length ≤ q → ∀ ks,
 vgoL W ⟨h54, [.tmp 0], 0⟩ [1, 2] c54L0 (.blk 0 [1] :: ks) [(1, .own 0 []), (2, .x (.int .i64 q))] [.sl 1 3 1 (ivs zs)] = vgo W ⟨h54, [.tmp 0], 0⟩ ks (VFr.of [(1, .own 0 [])]) [.sl 1 3 1 (ivs (zs ++ szN n q))]
 | 0, q, zs, hq, hq2, hz, ks => by
   rw [szN, List.append_nil, sb5 c54L0.eq_def]
   simp (disch := first | omega | fail) only [push_cast, seval, ui5, lu7, y81, bj9, wrap64, dec_lt, cw6, nl2, qc6, mr8, nb8, if_pos, if_neg]
 | n + 1, q, zs, hq, hq2, hz, ks => by
   have hle : (q : Int) ≤ 64 := by omega
   cases hs : fldN q with
   | none =>
     have ho := wd5 (n := q) hq2 (by omega) hs
     have ep := fh8 (q := (q : Int)) (by omega) ho
     have ih := jl0 n (q + 1) zs (by omega) (by omega) (by omega) ks
     have hw : zs ++ szN (n + 1) q = zs ++ szN n (q + 1) := by rw [szN, hs]; rfl
     rw [Int.natCast_add, Int.natCast_one] at ih
     rw [hw, ← ih, sb5 c54L0.eq_def]
     simp (disch := first | omega | fail) only [push_cast, seval, ui5, lu7, y81, bj9, wrap64, dec_lt, cw6, nl2, qc6, mr8, nb8, if_pos, if_neg, ep, decide_false, Int.lt_irrefl]
   | some x =>
     obtain ⟨p, m, g, mod⟩ := x
     obtain ⟨hf, ho, _⟩ := hi9 hs
     have hp2 := hf.p2
     have hpp : 0 < p := by omega
     have ep := fh8 (q := (q : Int)) (by omega) ho
     have ih := jl0 n (q + 1) (zs ++ [(q : Int)]) (by omega) (by omega) (by simp; omega) ks
     have hw : zs ++ szN (n + 1) q = zs ++ [(q : Int)] ++ szN n (q + 1) := by rw [szN, hs]; simp
     rw [Int.natCast_add, Int.natCast_one] at ih
     rw [hw, ← ih, sb5 c54L0.eq_def]
     simp (disch := first | omega | fail) only [push_cast, seval, ui5, lu7, y81, bj9, wrap64, dec_lt, cw6, nl2, qc6, mr8, nb8, if_pos, if_neg, ep, dec_lt hpp]
theorem n63 : o24 W 54 [] [] = some (.own 0 [], [.sl 1 3 1 (ivs szL)], []) := by
 have e := fun ks => jl0 63 2 [] rfl (by omega) (by simp) ks
 rw [List.nil_append, show ((2 : Nat) : Int) = 2 from rfl] at e
 simp only [Int.natCast_zero, List.take_zero, List.drop_zero, rp2, lz6, x25, List.map_nil, List.length_nil] at e
 rw [o10 rfl T54 rfl]
 unfold F54 c54
 simp (disch := first | omega | fail) only [push_cast, seval, ui5, lu7, y81, bj9, wrap64, dec_lt, cw6, nl2, qc6, mr8, nb8, if_pos, if_neg]
 rw [e]
 simp (disch := first | omega | fail) only [push_cast, seval, ui5, lu7, y81, bj9, wrap64, dec_lt, cw6, nl2, qc6, mr8, nb8, if_pos, if_neg]
 rfl
theorem hl8 {i : Int} (h0 : 0 ≤ i) (h1 : i < 27) : gi szL i ∈ szL ∧ (ivs szL)[i.toNat]? = some (.v (.int .i64 (gi szL i))) := by
 have hl := pb4
 have h2 := cl0 (l := szL) h0 (by omega)
 refine ⟨?_, h2⟩
 have h3 : i.toNat < szL.length := by omega
 have : gi szL i = szL[i.toNat] := by
  rw [show (ivs szL)[i.toNat]? = some (.v (.int .i64 (szL[i.toNat]))) from by unfold ivs; rw [List.getElem?_map, List.getElem?_eq_getElem h3]; rfl] at h2
  simpa using h2.symm
 rw [this]
 exact List.getElem_mem h3
theorem jx7 (c : Int) (h1 : -9223372036854775808 ≤ c) (h2 : c ≤ 9223372036854775807) : ∃ z, z ∈ szL ∧ o24 W 33 [.x (.int .i64 c)] [] = some (.x (.int .i64 z), [], []) := by
 have e1 := n63
 have hl := pb4
 have e2 := s88 (a := c) (n := 100) h1 h2 (by omega)
 have r1 := h58 (a := c) (n := 100) (by omega)
 generalize pkI c 100 = k at e2 r1
 by_cases hk : k < 60
 ·have r2 : 0 ≤ k.tmod 7 ∧ k.tmod 7 < 7 := ⟨Int.tmod_nonneg _ r1.1, Int.tmod_lt_of_pos _ (by decide)⟩
  have a1 := hl8 (i := k.tmod 7) r2.1 (by omega)
  refine ⟨_, a1.1, ?_⟩
  have a2 := a1.2
  rw [o10 rfl T33 rfl]
  unfold F33 c33
  simp (disch := first | omega | fail) only [push_cast, seval, ui5, lu7, y81, bj9, wrap64, dec_lt, cw6, nl2, qc6, mr8, nb8, if_pos, if_neg, e1, e2, hl, a2]
 ·have r3 : -9223372036854775808 ≤ c.tdiv 100 ∧ c.tdiv 100 ≤ 9223372036854775807 := by
   rcases Int.le_total 0 c with h | h
   ·rw [Int.tdiv_eq_ediv_of_nonneg h]; omega
   ·have : c.tdiv 100 = -((-c).tdiv 100) := by rw [Int.neg_tdiv, Int.neg_neg]
    rw [this, Int.tdiv_eq_ediv_of_nonneg (by omega)]; omega
  have e3 := s88 (a := c.tdiv 100) (n := 27) r3.1 r3.2 (by omega)
  have r4 := h58 (a := c.tdiv 100) (n := 27) (by omega)
  have a1 := hl8 (i := pkI (c.tdiv 100) 27) r4.1 r4.2
  refine ⟨_, a1.1, ?_⟩
  have a2 := a1.2
  rw [o10 rfl T33 rfl]
  unfold F33 c33
  simp (disch := first | omega | fail) only [push_cast, seval, ui5, lu7, y81, bj9, wrap64, dec_lt, cw6, nl2, qc6, mr8, nb8, if_pos, if_neg, e1, e2, hl, e3, a2]
end Go.Proofs.Ytghfdpdiibiigaa
namespace Go.Proofs.Ytghfdpdiibiigaa
open Go.Am Go.Vm Go.Alg
section
variable {l : List Int} {nl : Nat} {b : Bool} {x : Int}
theorem a02 (hl : l.length ≤ 9223372036854775807) : ∀ (n i : Nat), i + n = l.length → ∀ ks,
 vgoL W ⟨hNo, [.tmp 4], 0⟩ [0, 1, 7, 8] c78L0 (.blk 0 [] :: ks) [(0, .fz b (.sl nl 0 1 (ivs l))), (1, .x (.int .i64 x)), (7, .x (.int .i64 l.length)), (8, .x (.int .i64 i))] [] =
  if fidx (fun y => decide (x = y)) i (l.drop i) = -1 then vgo W ⟨hNo, [.tmp 4], 0⟩ ks (VFr.of []) [] else some (.x (.int .i64 (fidx (fun y => decide (x = y)) i (l.drop i))), [], [])
 | 0, i, hi, ks => by
   rw [oh9 (by omega), fidx, if_pos rfl, sb5 c78L0.eq_def]
   simp (disch := first | omega | fail) only [push_cast, seval, ui5, lu7, y81, bj9, wrap64, dec_lt, cw6, nl2, qc6, mr8, nb8, if_pos, if_neg]
 | n + 1, i, hi, ks => by
   have ih := a02 hl n (i + 1) (by omega) ks
   obtain ⟨a, ha⟩ := ge6 (l := l) (i := i) (by omega)
   have h1 := iat ha
   rw [i62 ha, fidx]
   rw [Int.natCast_add, Int.natCast_one] at ih
   by_cases hp : x = a
   ·rw [if_pos (decide_eq_true hp), if_neg (by omega), sb5 c78L0.eq_def]
    simp (disch := first | omega | fail) only [push_cast, seval, ui5, lu7, y81, bj9, wrap64, dec_lt, cw6, nl2, qc6, mr8, nb8, if_pos, if_neg, h1, mr8 hp]
   ·simp only [decide_eq_false hp, Bool.false_eq_true, if_false]
    rw [← ih, sb5 c78L0.eq_def]
    simp (disch := first | omega | fail) only [push_cast, seval, ui5, lu7, y81, bj9, wrap64, dec_lt, cw6, nl2, qc6, mr8, nb8, if_pos, if_neg, h1, nb8 hp]
theorem bd9 (hl : l.length ≤ 9223372036854775807) :
 o24 W 78 [.fz b (.sl nl 0 1 (ivs l)), .x (.int .i64 x)] [] = some (.x (.int .i64 (fidx (fun y => decide (x = y)) 0 l)), [], []) := by
 have e := fun ks => a02 (nl := nl) (b := b) (x := x) hl l.length 0 (by omega) ks
 simp only [Int.natCast_zero, List.take_zero, List.drop_zero, rp2, lz6, x25, List.map_nil, List.length_nil] at e
 rw [o10 rfl T78 rfl]
 unfold F78 c78
 simp (disch := first | omega | fail) only [push_cast, seval, ui5, lu7, y81, bj9, wrap64, dec_lt, cw6, nl2, qc6, mr8, nb8, if_pos, if_neg]
 rw [e]
 by_cases h : fidx (fun y => decide (x = y)) 0 l = -1
 ·rw [if_pos h, h]
  simp (disch := first | omega | fail) only [push_cast, seval, ui5, lu7, y81, bj9, wrap64, dec_lt, cw6, nl2, qc6, mr8, nb8, if_pos, if_neg]
 ·rw [if_neg h]
theorem o94 (hl : l.length ≤ 9223372036854775807) :
 o24 W 51 [.fz b (.sl nl 0 1 (ivs l)), .x (.int .i64 x)] [] = some (.x (.bool (l.any fun y => decide (x = y))), [], []) := by
 have e := fun b nl => bd9 (nl := nl) (b := b) (x := x) hl
 rw [o10 rfl T51 rfl]
 unfold F51 c51
 rw [← tl6 _ 0 l]
 simp (disch := first | omega | fail) only [push_cast, seval, ui5, lu7, y81, bj9, wrap64, dec_lt, cw6, nl2, qc6, mr8, nb8, if_pos, if_neg, e]
end
end Go.Proofs.Ytghfdpdiibiigaa
namespace Go.Alg
section
variable {K : Type} [FK K]
theorem y46 {α β : Type} (f : α × β → K) : ∀ (l : List α) (l' : List β), l.length = l'.length → ∀ l2 l2', sumL ((l ++ l2).zip (l' ++ l2')) f = sumL (l.zip l') f + sumL (l2.zip l2') f := fun l l' h l2 l2' => by
 rw [List.zip_append h, up0]
theorem uj4 {α β γ : Type} (g : β → γ) (f : α × γ → K) : ∀ (l : List α) (l' : List β), sumL (l.zip (l'.map g)) f = sumL (l.zip l') (fun p => f (p.1, g p.2))
 | [], _ => rfl
 | _ :: _, [] => rfl
 | a :: l, b :: l' => by rw [List.map_cons, List.zip_cons_cons, List.zip_cons_cons, gb6, gb6, uj4 g f l l']
theorem hom : ∀ (r : Nat) (S : List (Nat → K)), r < S.length → ∃ y : List K, y.length = S.length ∧ (∃ a ∈ y, a ≠ 0) ∧ ∀ j, j < r → sumL (y.zip S) (fun p => p.1 * p.2 j) = 0
 | 0, S, h => by
   refine ⟨List.replicate S.length 1, List.length_replicate, ⟨1, List.mem_replicate.2 ⟨by omega, rfl⟩, ki7⟩, fun j hj => absurd hj (Nat.not_lt_zero j)⟩
 | r + 1, S, h => by
   by_cases hs : ∃ s ∈ S, s r ≠ 0
   ·obtain ⟨s, hs, hne⟩ := hs
    obtain ⟨S1, S2, rfl⟩ := List.append_of_mem hs
    have hl : r < ((S1 ++ S2).map (fun (t : Nat → K) j => t j - t r * FK.inv (s r) * s j)).length := by
     simp only [List.length_map, List.length_append, List.length_cons] at h ⊢; omega
    obtain ⟨y, y1, ⟨a, y2, y3⟩, y4⟩ := hom r _ hl
    rw [List.length_map, List.length_append] at y1
    have hsp : y = y.take S1.length ++ y.drop S1.length := (List.take_append_drop _ _).symm
    have h1 : (y.take S1.length).length = S1.length := by rw [List.length_take]; omega
    have h2 : (y.drop S1.length).length = S2.length := by rw [List.length_drop]; omega
    generalize y.take S1.length = u at hsp h1
    generalize y.drop S1.length = w at hsp h2
    subst hsp
    have hsum : ∀ (c : K) j, sumL ((u ++ c :: w).zip (S1 ++ s :: S2)) (fun p => p.1 * p.2 j) = sumL ((u ++ w).zip (S1 ++ S2)) (fun p => p.1 * p.2 j) + c * s j := fun c j => by
     rw [y46 _ _ _ h1, y46 _ _ _ h1, List.zip_cons_cons, gb6, FK.add_assoc, FK.add_comm (sumL (w.zip S2) _)]
    refine ⟨u ++ -(sumL ((u ++ w).zip (S1 ++ S2)) (fun p => p.1 * p.2 r) * FK.inv (s r)) :: w, ?_, ⟨a, ?_, y3⟩, fun j hj => ?_⟩
    ·simp only [List.length_append, List.length_cons, h1, h2]
    ·simp only [List.mem_append, List.mem_cons] at y2 ⊢
     rcases y2 with y2 | y2
     ·exact .inl y2
     ·exact .inr (.inr y2)
    ·rw [hsum]
     by_cases hjr : j = r
     ·subst hjr
      rw [neg_mul, FK.mul_assoc, inv_mul hne, FK.mul_one, FK.add_neg]
     ·have h3 := y4 j (by omega)
      rw [uj4] at h3
      have h4 : sumL ((u ++ w).zip (S1 ++ S2)) (fun p => p.1 * (p.2 j - p.2 r * FK.inv (s r) * s j)) = sumL ((u ++ w).zip (S1 ++ S2)) (fun p => p.1 * p.2 j) - sumL ((u ++ w).zip (S1 ++ S2)) (fun p => p.1 * p.2 r) * FK.inv (s r) * s j := by
       rw [← ue3, ← ue3, ← b15]
       refine ox7 fun p _ => ?_
       rw [mul_sub, ← FK.mul_assoc, ← FK.mul_assoc]
      have h3 : sumL ((u ++ w).zip (S1 ++ S2)) (fun p => p.1 * (p.2 j - p.2 r * FK.inv (s r) * s j)) = 0 := h3
      rw [h4] at h3
      rw [neg_mul, ← sub_eq, h3]
   ·obtain ⟨y, y1, y2, y3⟩ := hom r S (by omega)
    refine ⟨y, y1, y2, fun j hj => ?_⟩
    by_cases hjr : j = r
    ·subst hjr
     refine tx6 fun p hp => ?_
     have : p.2 j = 0 := Classical.byContradiction fun hne => hs ⟨p.2, (List.of_mem_zip hp).2, hne⟩
     rw [this, mul_zero]
    ·exact y3 j (by omega)
end
section
variable {K : Type} [FK K] {n : Nat}
section
variable {A : List (Nat × List K)} (hr : Rref n (toF A))
include hr
end
end
end Go.Alg
namespace Go.Alg
section
variable {K : Type} [FK K]
open Classical in
end
end Go.Alg
namespace Go.Alg
section
variable {K : Type} [FK K] {n : Nat}
end
end Go.Alg
namespace Go.Alg
section
variable {K : Type} [FK K]
end
end Go.Alg
namespace Go.Proofs.Ytghfdpdiibiigaa
open Go.Am Go.Vm Go.Alg
def AllB (q : Nat) (L : List Int) : Prop := L.Perm (pn (List.range q))
theorem AllB.len {q : Nat} {L : List Int} (h : AllB q L) : L.length = q := by rw [h.length_eq, im5, List.length_range]
theorem swap_perm {α : Type} [DecidableEq α] {l : List α} {i j : Nat} {x y : α} (hi : l[i]? = some x) (hj : l[j]? = some y) : ((l.set i y).set j x).Perm l := by
 obtain ⟨h1, e1⟩ := List.getElem?_eq_some_iff.1 hi
 obtain ⟨h2, e2⟩ := List.getElem?_eq_some_iff.1 hj
 refine List.perm_iff_count.2 fun a => ?_
 by_cases hij : i = j
 ·subst hij
  rw [List.set_set, ← e1, List.set_getElem_self]
 ·rw [List.count_set (by simpa using h2), List.count_set h1, List.getElem_set_ne hij]
  subst e1 e2
  have c1 : l[i] ∈ l := List.getElem_mem h1
  have c2 : l[j] ∈ l := List.getElem_mem h2
  have p1 := List.count_pos_iff.2 c1
  have p2 := List.count_pos_iff.2 c2
  by_cases ha : l[i] = a <;> by_cases hb : l[j] = a <;> simp [ha, hb] <;> (try subst ha) <;> (try subst hb) <;> omega
section
variable {raw : List Int} {b : Bool} {nl : Nat}
theorem mn8 {q n : Nat} (hq : q ≤ 1000) : ∀ (d i : Nat), i + d = q → ∀ ks,
 vgoL W ⟨hNo, [.tmp 6], 0⟩ [0, 1, 2, 7, 8] c14L0 (.blk 0 [0, 1, 2, 7] :: ks) [(0, .fz b (.sl nl 0 1 (ivs raw))), (1, .x (.int .i64 q)), (2, .x (.int .i64 n)), (7, .own 0 []), (8, .x (.int .i64 i))] [.sl 0 3 1 (ivs (pn (List.range i) ++ List.replicate (q - i) 0))] =
  vgo W ⟨hNo, [.tmp 6], 0⟩ ks (VFr.of [(0, .fz b (.sl nl 0 1 (ivs raw))), (1, .x (.int .i64 q)), (2, .x (.int .i64 n)), (7, .own 0 [])]) [.sl 0 3 1 (ivs (pn (List.range q)))]
 | 0, i, hi, ks => by
   obtain rfl : i = q := by omega
   rw [Nat.sub_self, List.replicate_zero, List.append_nil, sb5 c14L0.eq_def]
   simp (disch := first | omega | fail) only [push_cast, seval, ui5, lu7, y81, bj9, wrap64, dec_lt, cw6, nl2, qc6, mr8, nb8, if_pos, if_neg]
 | d + 1, i, hi, ks => by
   have ih := mn8 hq (n := n) d (i + 1) (by omega) ks
   have hl : (pn (List.range i) ++ List.replicate (q - i) (0 : Int)).length = q := by
    rw [List.length_append, im5, List.length_range, List.length_replicate]; omega
   have hs : (pn (List.range i) ++ List.replicate (q - i) (0 : Int)).set i (i : Int) = pn (List.range (i + 1)) ++ List.replicate (q - (i + 1)) 0 := by
    rw [List.set_append_right _ _ (by rw [im5, List.length_range]; omega), im5, List.length_range, Nat.sub_self, show q - i = (q - (i + 1)) + 1 by omega, List.replicate_succ, List.set_cons_zero, List.range_succ]
    unfold pn
    rw [List.map_append]
    simp
   rw [Int.natCast_add, Int.natCast_one, ← hs] at ih
   generalize pn (List.range i) ++ List.replicate (q - i) (0 : Int) = L at *
   rw [← ih, sb5 c14L0.eq_def]
   simp (disch := first | omega | fail) only [push_cast, seval, ui5, lu7, y81, bj9, wrap64, dec_lt, cw6, nl2, qc6, mr8, nb8, if_pos, if_neg, hl]
theorem c38 (hrl : raw.length ≤ 9223372036854775807) {q n : Nat} (hq : q ≤ 1000) (hn : n ≤ q) : ∀ (d i : Nat) (L : List Int), i + d = n → AllB q L → ∃ L', AllB q L' ∧ ∀ (b : Bool) (nl : Nat), ∀ ks,
 vgoL W ⟨hNo, [.tmp 6], 0⟩ [0, 1, 2, 7, 9] c14L1 (.blk 2 [2, 7] :: ks) [(0, .fz b (.sl nl 0 1 (ivs raw))), (1, .x (.int .i64 q)), (2, .x (.int .i64 n)), (7, .own 0 []), (9, .x (.int .i64 i))] [.sl 0 3 1 (ivs L)] =
  vgo W ⟨hNo, [.tmp 6], 0⟩ ks (VFr.of [(2, .x (.int .i64 n)), (7, .own 0 [])]) [.sl 0 3 1 (ivs L')]
 | 0, i, L, hi, hL => by
   refine ⟨L, hL, fun b nl ks => ?_⟩
   rw [sb5 c14L1.eq_def]
   simp (disch := first | omega | fail) only [push_cast, seval, ui5, lu7, y81, bj9, wrap64, dec_lt, cw6, nl2, qc6, mr8, nb8, if_pos, if_neg]
 | d + 1, i, L, hi, hL => by
   have hl := hL.len
   have hr := bd0 (l := raw) (i := (i : Int)) (by omega) (by omega)
   have e1 := fun b nl => yc3 (b := b) (nl := nl) (raw := raw) (i := (i : Int)) (by omega) hrl
   have hpos : (0 : Int) < (q : Int) - (i : Int) := by omega
   have e2 := s88 (a := rwI raw (i : Int)) (n := (q : Int) - (i : Int)) hr.1 hr.2 hpos
   have hk := h58 (a := rwI raw (i : Int)) (n := (q : Int) - (i : Int)) hpos
   obtain ⟨k, hk1, hk2⟩ := o99 hk.1 hk.2
   rw [hk1] at e2
   obtain ⟨x, hx⟩ := ge6 (l := L) (i := i) (by omega)
   obtain ⟨y, hy⟩ := ge6 (l := L) (i := i + k) (by omega)
   obtain ⟨L', h1, h2⟩ := c38 hrl hq hn d (i + 1) ((L.set i y).set (i + k) x) (by omega) ((swap_perm hx hy).trans hL)
   refine ⟨L', h1, fun b nl ks => ?_⟩
   have ih := h2 b nl ks
   have l1 := iat hx
   have l2 := iat hy
   have w1 : IntKind.wrap .i64 ((i : Int) + (k : Int)) = ((i + k : Nat) : Int) := by rw [wrap64 (by omega) (by omega)]; omega
   have l3 : (L.set i y).length = q := by rw [List.length_set, hl]
   have l4 : ((L.set i y).set (i + k) x).length = q := by rw [List.length_set, l3]
   rw [Int.natCast_add, Int.natCast_one] at ih
   rw [← ih, sb5 c14L1.eq_def]
   have hik : i + k < q := by omega
   generalize i + k = j at *
   simp (disch := first | omega | fail) only [push_cast, seval, ui5, lu7, y81, bj9, wrap64, dec_lt, cw6, nl2, qc6, mr8, nb8, if_pos, if_neg, e1, e2, w1, l1, l2, hl, l3]
theorem mz4 (hrl : raw.length ≤ 9223372036854775807) {q n : Nat} (hq : q ≤ 1000) (hn : n ≤ q) : ∃ L : List Int, L.length = n ∧ L.Nodup ∧ (∀ z ∈ L, 0 ≤ z ∧ z < q) ∧ ∀ (b : Bool) (nl : Nat), o24 W 14 [.fz b (.sl nl 0 1 (ivs raw)), .x (.int .i64 q), .x (.int .i64 n)] [] = some (.own 0 [], [.sl 0 3 1 (ivs L)], []) := by
 obtain ⟨L', h1, h2⟩ := c38 hrl hq hn n 0 (pn (List.range q)) (by omega) (List.Perm.refl _)
 have e1 := fun b nl ks => mn8 (raw := raw) (b := b) (nl := nl) (q := q) (n := n) hq q 0 (by omega) ks
 have hl := h1.len
 have hnd : L'.Nodup := h1.nodup_iff.2 (by
  unfold pn
  rw [List.nodup_iff_pairwise_ne, List.pairwise_map]
  exact List.nodup_range.imp fun h e => h (by omega))
 have hmem : ∀ z ∈ L', 0 ≤ z ∧ z < q := fun z hz => by
  have := h1.mem_iff.1 hz
  unfold pn at this
  obtain ⟨k, hk, rfl⟩ := List.mem_map.1 this
  have := List.mem_range.1 hk
  omega
 refine ⟨L'.take n, by rw [List.length_take]; omega, hnd.sublist (List.take_sublist _ _), fun z hz => hmem z (List.mem_of_mem_take hz), fun b nl => ?_⟩
 rw [show pn (List.range 0) ++ List.replicate (q - 0) (0 : Int) = List.replicate q 0 from rfl] at e1
 simp only [Int.natCast_zero] at e1 h2
 rw [o10 rfl T14 rfl]
 unfold F14 c14
 simp (disch := first | omega | fail) only [push_cast, seval, ui5, lu7, y81, bj9, wrap64, dec_lt, cw6, nl2, qc6, mr8, nb8, if_pos, if_neg]
 rw [e1]
 simp (disch := first | omega | fail) only [push_cast, seval, ui5, lu7, y81, bj9, wrap64, dec_lt, cw6, nl2, qc6, mr8, nb8, if_pos, if_neg]
 rw [h2]
 simp (disch := first | omega | fail) only [push_cast, seval, ui5, lu7, y81, bj9, wrap64, dec_lt, cw6, nl2, qc6, mr8, nb8, if_pos, if_neg, hl, Int.sub_zero]
end
theorem ax8 {q : Int} {L : List Int} (h : ∀ z ∈ L, 0 ≤ z ∧ z < q) (hn : L.Nodup) : ∃ X : List (El q), L = vs X ∧ X.Nodup := by
 obtain ⟨X, rfl⟩ := n39 (q := q) (l := L) fun z hz => iy2 (h z hz)
 refine ⟨X, rfl, ?_⟩
 unfold vs at hn
 rw [List.nodup_iff_pairwise_ne, List.pairwise_map] at hn
 exact hn.imp fun h e => h (by rw [e])
def apN (a c : List Int) : Nat := ((a.zip c).filter fun p => decide (p.1 ≠ p.2)).length
theorem pc5 (x y : Int) (a c : List Int) : apN (x :: a) (y :: c) = apN a c + if x = y then 0 else 1 := by
 unfold apN
 rw [List.zip_cons_cons, List.filter_cons]
 by_cases h : x = y
 ·rw [if_neg (by simp [h]), if_pos h]; rfl
 ·rw [if_pos (by simp [h]), if_neg h]; rfl
section
variable {a c : List Int} {b b' : Bool} {nl nl' : Nat}
theorem ve0 (hc : c.length = a.length) (ha : a.length ≤ 1000000) : ∀ (d i n : Nat), i + d = a.length → n ≤ i → ∀ ks,
 vgoL W ⟨hNo, [.tmp 4], 0⟩ [0, 1, 5, 13, 14] c40L0 (.blk 0 [5] :: ks) [(0, .fz b (.sl nl 0 1 (ivs a))), (1, .fz b' (.sl nl' 0 1 (ivs c))), (5, .x (.int .i64 n)), (13, .x (.int .i64 a.length)), (14, .x (.int .i64 i))] [] =
  vgo W ⟨hNo, [.tmp 4], 0⟩ ks (VFr.of [(5, .x (.int .i64 (n + apN (a.drop i) (c.drop i) : Nat)))]) []
 | 0, i, n, hi, hn, ks => by
   rw [oh9 (by omega), sb5 c40L0.eq_def]
   show _ = vgo W ⟨hNo, [.tmp 4], 0⟩ ks (VFr.of [(5, .x (.int .i64 (n + 0 : Nat)))]) []
   rw [Nat.add_zero]
   simp (disch := first | omega | fail) only [push_cast, seval, ui5, lu7, y81, bj9, wrap64, dec_lt, cw6, nl2, qc6, mr8, nb8, if_pos, if_neg]
 | d + 1, i, n, hi, hn, ks => by
   obtain ⟨x, hx⟩ := ge6 (l := a) (i := i) (by omega)
   obtain ⟨y, hy⟩ := ge6 (l := c) (i := i) (by omega)
   have h1 := iat hx
   have h2 := iat hy
   have ih := ve0 hc ha d (i + 1) (n + if x = y then 0 else 1) (by omega) (by split <;> omega) ks
   rw [i62 hx, i62 hy, pc5]
   rw [Nat.add_assoc, Nat.add_comm (if x = y then 0 else 1)] at ih
   rw [← ih, sb5 c40L0.eq_def]
   by_cases h : x = y
   ·rw [if_pos h, Nat.add_zero, Int.natCast_add, Int.natCast_one]
    simp (disch := first | omega | fail) only [push_cast, seval, ui5, lu7, y81, bj9, wrap64, dec_lt, cw6, nl2, qc6, mr8, nb8, if_pos, if_neg, h1, h2, h]
   ·rw [if_neg h, Int.natCast_add, Int.natCast_one, Int.natCast_add, Int.natCast_one]
    simp (disch := first | omega | fail) only [push_cast, seval, ui5, lu7, y81, bj9, wrap64, dec_lt, cw6, nl2, qc6, mr8, nb8, if_pos, if_neg, h1, h2, nb8 h]
theorem sg1 (ha : a.length ≤ 1000000) (hcl : c.length ≤ 9223372036854775807) : o24 W 40 [.fz b (.sl nl 0 1 (ivs a)), .fz b' (.sl nl' 0 1 (ivs c))] [] = some (.x (.int .i64 (if a.length = c.length then (apN a c : Int) else -1)), [], []) := by
 by_cases h : a.length = c.length
 ·rw [if_pos h]
  have e := fun ks => ve0 (b := b) (nl := nl) (b' := b') (nl' := nl') h.symm ha a.length 0 0 (by omega) (by omega) ks
  rw [List.drop_zero, List.drop_zero, Nat.zero_add] at e
  simp only [Int.natCast_zero] at e
  rw [o10 rfl T40 rfl]
  unfold F40 c40
  simp (disch := first | omega | fail) only [push_cast, seval, ui5, lu7, y81, bj9, wrap64, dec_lt, cw6, nl2, qc6, mr8, nb8, if_pos, if_neg, h]
  rw [h] at e
  rw [e]
  simp (disch := first | omega | fail) only [push_cast, seval, ui5, lu7, y81, bj9, wrap64, dec_lt, cw6, nl2, qc6, mr8, nb8, if_pos, if_neg]
 ·rw [if_neg h]
  have h' : ¬ (a.length : Int) = (c.length : Int) := by omega
  rw [o10 rfl T40 rfl]
  unfold F40 c40
  simp (disch := first | omega | fail) only [push_cast, seval, ui5, lu7, y81, bj9, wrap64, dec_lt, cw6, nl2, qc6, mr8, nb8, if_pos, if_neg, nb8 h']
end
end Go.Proofs.Ytghfdpdiibiigaa
namespace Go.Proofs.Ytghfdpdiibiigaa
open Go.Am Go.Vm Go.Alg
def rdL (q : Int) (all : List Int) : Nat → Nat → Int
 | 0, _ => 0
 | n + 1, i => if fok q (gi all i) = true then (if (all.take i).any (fun y => decide (gi all i = y)) = true then 7 else rdL q all n (i + 1)) else 2
def rdE (q : Int) (xs : List Int) (k : Int) : Int := match fldN q.toNat with
 | none => 1
 | some _ => if xs.length < 1 ∨ 64 < xs.length then 4 else if rdL q xs xs.length 0 = 0 then (if k < 1 ∨ (xs.length : Int) < k then 6 else 0) else rdL q xs xs.length 0
theorem pf7 {q : Int} {xs : List Int} (h : ∀ z ∈ xs, fok q z = true) (hn : xs.Nodup) : ∀ (n i : Nat), i + n = xs.length → rdL q xs n i = 0
 | 0, i, _ => rfl
 | n + 1, i, hi => by
   have hlt : i < xs.length := by omega
   have hg : gi xs i = xs[i] := by
    unfold gi
    rw [Int.toNat_natCast, List.getD_eq_getElem?_getD, List.getElem?_eq_getElem hlt]; rfl
   rw [rdL, hg, if_pos (h _ (List.getElem_mem hlt)), if_neg fun h1 => ?_]
   ·exact pf7 h hn n (i + 1) (by omega)
   ·obtain ⟨y, hy, h2⟩ := List.any_eq_true.1 h1
    have h2 : y = xs[i] := by have : xs[i] = y := by simpa using h2
                              exact this.symm
    obtain ⟨j, hj, e⟩ := List.getElem_of_mem hy
    rw [List.length_take] at hj
    rw [List.getElem_take] at e
    have hp := List.pairwise_iff_getElem.1 hn j i (by omega) hlt (by omega)
    exact hp (e.trans h2)
theorem sn0 {q : Int} {X : List (El q)} (hn : X.Nodup) : (vs X).Nodup := by
 unfold vs
 rw [List.nodup_iff_pairwise_ne, List.pairwise_map]
 exact hn.imp fun h e => h (El.ext' e)
theorem la8 {q : Int} [h : IsFld q] {X : List (El q)} (hn : X.Nodup) (h1 : 1 ≤ X.length) (h2 : X.length ≤ 64) {k : Int} (k1 : 1 ≤ k) (k2 : k ≤ X.length) : rdE q (vs X) k = 0 := by
 obtain ⟨p, m, g, mod, hf⟩ := h.ok
 unfold rdE
 rw [hf]
 simp only
 rw [if_neg (by rw [fi2]; omega), pf7 (fun z hz => by
  obtain ⟨x, _, rfl⟩ := List.mem_map.1 hz
  exact x.ok) (sn0 hn) _ _ (by omega), if_pos rfl, if_neg (by rw [fi2]; omega)]
section
variable {q : Int} {b : Bool} {nl : Nat} {xs : List Int} {k : Int}
theorem cf6 [IsFld q] (hl : xs.length ≤ 1000000) : ∀ (n i : Nat), i + n = xs.length → ∀ ks,
 vgoL W ⟨hNo, [.tmp 6], 0⟩ [1, 2, 7, 27, 28, 29] c63L0 (.blk 0 [1, 2] :: ks) [(1, .fz b (.sl nl 0 1 (ivs xs))), (2, .x (.int .i64 k)), (7, .fz true (pF q)), (27, .fz b (.sl nl 0 1 (ivs xs))), (28, .x (.int .i64 xs.length)), (29, .x (.int .i64 i))] [] =
  if rdL q xs n i = 0 then vgo W ⟨hNo, [.tmp 6], 0⟩ ks (VFr.of [(1, .fz b (.sl nl 0 1 (ivs xs))), (2, .x (.int .i64 k))]) [] else some (.x (.int .i64 (rdL q xs n i)), [], [])
 | 0, i, hi, ks => by
   rw [rdL, if_pos rfl, sb5 c63L0.eq_def]
   simp (disch := first | omega | fail) only [push_cast, seval, ui5, lu7, y81, bj9, wrap64, dec_lt, cw6, nl2, qc6, mr8, nb8, if_pos, if_neg]
 | n + 1, i, hi, ks => by
   have ih := cf6 hl n (i + 1) (by omega) ks
   have h1 := ui5 (zs := xs) (i := i) (by omega)
   have e1 := fun nl => o94 (b := b) (nl := nl) (x := gi xs i) (l := xs.take i) (by rw [List.length_take]; omega)
   rw [Int.natCast_add, Int.natCast_one] at ih
   cases hk : fok q (gi xs i) with
   | false =>
     have hrd : rdL q xs (n + 1) i = 2 := by rw [rdL, hk]; rfl
     rw [hrd, if_neg (by decide), sb5 c63L0.eq_def]
     simp (disch := first | omega | fail) only [push_cast, seval, ui5, lu7, y81, bj9, wrap64, dec_lt, cw6, nl2, qc6, mr8, nb8, if_pos, if_neg, h1, hk]
   | true =>
     cases hc : (xs.take i).any fun y => decide (gi xs i = y) with
     | true =>
       rw [hc] at e1
       have hrd : rdL q xs (n + 1) i = 7 := by rw [rdL, hk, if_pos rfl, hc]; rfl
       rw [hrd, if_neg (by decide), sb5 c63L0.eq_def]
       simp (disch := first | omega | fail) only [push_cast, seval, ui5, lu7, y81, bj9, wrap64, dec_lt, cw6, nl2, qc6, mr8, nb8, if_pos, if_neg, h1, hk, e1, Int.sub_zero]
     | false =>
       rw [hc] at e1
       have hrd : rdL q xs (n + 1) i = rdL q xs n (i + 1) := by rw [rdL, hk, if_pos rfl, hc]; rfl
       rw [hrd, ← ih, sb5 c63L0.eq_def]
       simp (disch := first | omega | fail) only [push_cast, seval, ui5, lu7, y81, bj9, wrap64, dec_lt, cw6, nl2, qc6, mr8, nb8, if_pos, if_neg, h1, hk, e1, Int.sub_zero]
theorem h23 (hl : xs.length ≤ 9223372036854775807) : o24 W 63 [.x (.int .i64 q), .fz b (.sl nl 0 1 (ivs xs)), .x (.int .i64 k)] [] = some (.x (.int .i64 (rdE q xs k)), [], []) := by
 unfold rdE
 cases hn : fldN q.toNat with
 | none =>
   have e0 := ug9 hn
   rw [o10 rfl T63 rfl]
   unfold F63 c63
   simp (disch := first | omega | fail) only [push_cast, seval, ui5, lu7, y81, bj9, wrap64, dec_lt, cw6, nl2, qc6, mr8, nb8, if_pos, if_neg, e0]
 | some x =>
   obtain ⟨p0, m0, g0, mod⟩ := x
   haveI : IsFld q := ⟨⟨p0, m0, g0, mod, hn⟩⟩
   simp only
   by_cases h1 : xs.length < 1 ∨ 64 < xs.length
   ·rw [if_pos h1, o10 rfl T63 rfl]
    unfold F63 c63
    by_cases h2 : xs.length < 1
    ·simp (disch := first | omega | fail) only [push_cast, seval, ui5, lu7, y81, bj9, wrap64, dec_lt, cw6, nl2, qc6, mr8, nb8, if_pos, if_neg]
    ·simp (disch := first | omega | fail) only [push_cast, seval, ui5, lu7, y81, bj9, wrap64, dec_lt, cw6, nl2, qc6, mr8, nb8, if_pos, if_neg]
   ·rw [if_neg h1]
    have e1 := fun ks => cf6 (q := q) (b := b) (nl := nl) (k := k) (xs := xs) (by omega) xs.length 0 (by omega) ks
    simp only [Int.natCast_zero, List.take_zero, List.drop_zero, rp2, lz6, x25, List.map_nil, List.length_nil] at e1
    by_cases h2 : rdL q xs xs.length 0 = 0
    ·simp only [if_pos h2] at e1
     rw [if_pos h2, o10 rfl T63 rfl]
     unfold F63 c63
     simp (disch := first | omega | fail) only [push_cast, seval, ui5, lu7, y81, bj9, wrap64, dec_lt, cw6, nl2, qc6, mr8, nb8, if_pos, if_neg]
     rw [e1]
     by_cases h3 : k < 1
     ·rw [if_pos (Or.inl h3)]
      simp (disch := first | omega | fail) only [push_cast, seval, ui5, lu7, y81, bj9, wrap64, dec_lt, cw6, nl2, qc6, mr8, nb8, if_pos, if_neg]
     ·by_cases h4 : (xs.length : Int) < k
      ·rw [if_pos (Or.inr h4)]
       simp (disch := first | omega | fail) only [push_cast, seval, ui5, lu7, y81, bj9, wrap64, dec_lt, cw6, nl2, qc6, mr8, nb8, if_pos, if_neg]
      ·rw [if_neg (by omega)]
       simp (disch := first | omega | fail) only [push_cast, seval, ui5, lu7, y81, bj9, wrap64, dec_lt, cw6, nl2, qc6, mr8, nb8, if_pos, if_neg]
    ·simp only [if_neg h2] at e1
     rw [if_neg h2, o10 rfl T63 rfl]
     unfold F63 c63
     simp (disch := first | omega | fail) only [push_cast, seval, ui5, lu7, y81, bj9, wrap64, dec_lt, cw6, nl2, qc6, mr8, nb8, if_pos, if_neg]
     rw [e1]
end
def encT {q : Int} (f : El q → El q) (X : List (El q)) (hq : IsFld q) : Nat → Nat → List (El q) → List (El q)
 | 0, _, z => z
 | n + 1, i, z => encT f X hq n (i + 1) (z.set i (f (wf X i)))
section
variable {q : Int} [hq : IsFld q]
theorem ks7 (f : El q → El q) (X : List (El q)) : ∀ (n i : Nat) (z : List (El q)), (encT f X hq n i z).length = z.length
 | 0, _, _ => rfl
 | n + 1, i, z => by rw [encT, ks7 f X n, List.length_set]
theorem ip0 (f : El q → El q) (X : List (El q)) : ∀ (n i : Nat) (z : List (El q)), i + n ≤ z.length → ∀ j, wf (encT f X hq n i z) j = if i ≤ j ∧ j < i + n then f (wf X j) else wf z j
 | 0, i, z, _, j => by rw [encT, if_neg (by omega)]
 | n + 1, i, z, h, j => by
   rw [encT, ip0 f X n (i + 1) _ (by rw [List.length_set]; omega), wf_set (by omega)]
   by_cases h1 : j = i
   ·subst h1
    rw [if_neg (by omega), if_pos rfl, if_pos (by omega)]
   ·rw [if_neg h1]
    by_cases h2 : i + 1 ≤ j ∧ j < i + 1 + n
    ·rw [if_pos h2, if_pos (by omega)]
    ·rw [if_neg h2, if_neg (by omega)]
theorem n91 (f : El q → El q) (X : List (El q)) {z : List (El q)} (hz : z.length = X.length) : encT f X hq X.length 0 z = X.map f := by
 refine ou8 (by rw [ks7, hz, List.length_map]) (funext fun j => ?_)
 rw [ip0 f X _ _ _ (by omega)]
 by_cases h : j < X.length
 ·rw [if_pos (by omega), i66 h, i66 (by simpa using h), List.getElem_map]
 ·rw [if_neg (by omega), ez8 (by omega), ez8 (by simp; omega)]
variable {b b' : Bool} {nl nl' : Nat} {X m : List (El q)}
theorem gc4 (hX : X.length ≤ 1000) (hm : m.length ≤ 128) : ∀ (n i : Nat) (z : List (El q)), i + n = X.length → z.length = X.length → ∀ ks,
 vgoL W ⟨h39, [.tmp 6, .tmp 7], 0⟩ [0, 2, 10, 30, 31, 32] c39L0 (.blk 0 [10] :: ks) [(0, .x (.int .i64 q)), (2, .fz b' (.sl nl' 0 1 (ivs (vs m)))), (10, .own 0 []), (30, .fz b (.sl nl 0 1 (ivs (vs X)))), (31, .x (.int .i64 X.length)), (32, .x (.int .i64 i))] [.sl 0 3 1 (ivs (vs z))] =
  vgo W ⟨h39, [.tmp 6, .tmp 7], 0⟩ ks (VFr.of [(10, .own 0 [])]) [.sl 0 3 1 (ivs (vs (encT (fun x => ev m x) X hq n i z)))]
 | 0, i, z, hi, hz, ks => by
   rw [encT, sb5 c39L0.eq_def]
   simp (disch := first | omega | fail) only [push_cast, seval, ui5, lu7, y81, bj9, wrap64, dec_lt, cw6, nl2, qc6, mr8, nb8, if_pos, if_neg]
 | n + 1, i, z, hi, hz, ks => by
   have ih := gc4 hX hm n (i + 1) (z.set i (ev m (wf X i))) (by omega) (by rw [List.length_set]; exact hz) ks
   have h1 := iva (l := X) (i := i) (by omega)
   have e1 := fun b nl => yu6 (b := b) (nl := nl) (a := m) (x := wf X i) hm
   rw [Int.natCast_add, Int.natCast_one, ← g52] at ih
   rw [encT, ← ih, sb5 c39L0.eq_def]
   simp (disch := first | omega | fail) only [push_cast, seval, ui5, lu7, y81, bj9, wrap64, dec_lt, cw6, nl2, qc6, mr8, nb8, if_pos, if_neg, h1, e1]
theorem su9 (hn : X.Nodup) (h1 : 1 ≤ m.length) (h2 : m.length ≤ X.length) (h3 : X.length ≤ 64) :
 o24 W 39 [.x (.int .i64 q), .fz b (.sl nl 0 1 (ivs (vs X))), .fz b' (.sl nl' 0 1 (ivs (vs m)))] [] = some (.tup [.own 0 [], .x (.int .i64 0)], [.sl 0 3 1 (ivs (vs (X.map fun x => ev m x)))], []) := by
 have e1 := fun b nl => h23 (q := q) (b := b) (nl := nl) (xs := vs X) (k := m.length) (by rw [fi2]; omega)
 simp only [la8 hn (by omega) h3 (show (1 : Int) ≤ (m.length : Int) by omega) (by omega)] at e1
 have e2 := fun b nl => bw7 (q := q) (b := b) (nl := nl) (l := vs m) (by rw [fi2]; omega)
 simp only [i31 (show m.length ≤ 128 by omega)] at e2
 have e3 := fun ks => gc4 (b := b) (nl := nl) (b' := b') (nl' := nl') (X := X) (m := m) (by omega) (by omega) X.length 0 (List.replicate X.length 0) (by omega) (by simp) ks
 rw [n91 _ _ (by simp)] at e3
 have hz : List.replicate X.length (0 : Int) = vs (List.replicate X.length (0 : El q)) := by rw [← qj2]; rfl
 simp only [Int.natCast_zero, List.take_zero, List.drop_zero, rp2, lz6, x25, List.map_nil, List.length_nil] at e3
 rw [o10 rfl T39 rfl]
 unfold F39 c39
 simp (disch := first | omega | fail) only [push_cast, seval, ui5, lu7, y81, bj9, wrap64, dec_lt, cw6, nl2, qc6, mr8, nb8, if_pos, if_neg, e1, e2, hz]
 rw [e3]
 simp (disch := first | omega | fail) only [push_cast, seval, ui5, lu7, y81, bj9, wrap64, dec_lt, cw6, nl2, qc6, mr8, nb8, if_pos, if_neg]
end
end Go.Proofs.Ytghfdpdiibiigaa
namespace Go.Proofs.Ytghfdpdiibiigaa
open Go.Am Go.Vm Go.Alg
section
variable {b b' : Bool} {nl nl' nr nr' : Nat}
theorem ft0 {l k : List Int} (hl : l.length ≤ 9223372036854775807) (hk : k.length = l.length) : ∀ (d i : Nat), i + d = l.length → ∀ ks,
 vgoL W ⟨hNo, [.tmp 4], 0⟩ [0, 1, 5] c16L0 (.blk 0 [] :: ks) [(0, .fz b (.sl nl 0 1 (ivs l))), (1, .fz b' (.sl nl' 0 1 (ivs k))), (5, .x (.int .i64 i))] [] =
  if l.drop i = k.drop i then vgo W ⟨hNo, [.tmp 4], 0⟩ ks (VFr.of []) [] else some (.x (.bool false), [], [])
 | 0, i, hi, ks => by
   rw [oh9 (by omega), oh9 (by omega), if_pos rfl, sb5 c16L0.eq_def]
   simp (disch := first | omega | fail) only [push_cast, seval, ui5, lu7, y81, bj9, wrap64, dec_lt, cw6, nl2, qc6, mr8, nb8, if_pos, if_neg]
 | d + 1, i, hi, ks => by
   have ih := ft0 hl hk d (i + 1) (by omega) ks
   obtain ⟨a, ha⟩ := ge6 (l := l) (i := i) (by omega)
   obtain ⟨c, hc⟩ := ge6 (l := k) (i := i) (by omega)
   have h1 := iat ha
   have h2 := iat hc
   rw [i62 ha, i62 hc]
   rw [Int.natCast_add, Int.natCast_one] at ih
   by_cases h : a = c
   ·have hiff : (a :: l.drop (i + 1) = c :: k.drop (i + 1)) = (l.drop (i + 1) = k.drop (i + 1)) := by rw [h]; simp
    simp only [hiff]
    rw [← ih, sb5 c16L0.eq_def]
    simp (disch := first | omega | fail) only [push_cast, seval, ui5, lu7, y81, bj9, wrap64, dec_lt, cw6, nl2, qc6, mr8, nb8, if_pos, if_neg, h1, h2, h]
   ·rw [if_neg (by intro e; exact h (List.cons.inj e).1), sb5 c16L0.eq_def]
    simp (disch := first | omega | fail) only [push_cast, seval, ui5, lu7, y81, bj9, wrap64, dec_lt, cw6, nl2, qc6, mr8, nb8, if_pos, if_neg, h1, h2, nb8 h]
theorem nb2 {l k : List Int} (hl : l.length ≤ 9223372036854775807) : o24 W 16 [.fz b (.sl nl 0 1 (ivs l)), .fz b' (.sl nl' 0 1 (ivs k))] [] = some (.x (.bool (decide (l = k))), [], []) := by
 by_cases hk : k.length = l.length
 ·have e := fun ks => ft0 (b := b) (b' := b') (nl := nl) (nl' := nl') hl hk l.length 0 (by omega) ks
  simp only [Int.natCast_zero, List.take_zero, List.drop_zero, rp2, lz6, x25, List.map_nil, List.length_nil] at e
  rw [o10 rfl T16 rfl]
  unfold F16 c16
  simp (disch := first | omega | fail) only [push_cast, seval, ui5, lu7, y81, bj9, wrap64, dec_lt, cw6, nl2, qc6, mr8, nb8, if_pos, if_neg, hk]
  rw [e]
  by_cases h : l = k
  ·rw [if_pos h, decide_eq_true h]
   simp (disch := first | omega | fail) only [push_cast, seval, ui5, lu7, y81, bj9, wrap64, dec_lt, cw6, nl2, qc6, mr8, nb8, if_pos, if_neg]
  ·rw [if_neg h, decide_eq_false h]
 ·have h : ¬ l = k := fun e => hk (by rw [e])
  have h8 : ¬ (l.length : Int) = (k.length : Int) := by omega
  rw [decide_eq_false h, o10 rfl T16 rfl]
  unfold F16 c16
  simp (disch := first | omega | fail) only [push_cast, seval, ui5, lu7, y81, bj9, wrap64, dec_lt, cw6, nl2, qc6, mr8, nb8, if_pos, if_neg, nb8 h8]
section
variable {q : Int} [IsFld q]
end
end
end Go.Proofs.Ytghfdpdiibiigaa
namespace Go.Proofs.Ytghfdpdiibiigaa
open Go.Am Go.Vm Go.Alg
theorem pq4 {q : Int} : ∀ (X : List (El q)) (f g : El q → El q), (X.filter fun x => decide (f x = g x)).length + apN (vs (X.map f)) (vs (X.map g)) = X.length
 | [], f, g => rfl
 | x :: X, f, g => by
   have ih := pq4 X f g
   rw [List.map_cons, List.map_cons, show vs (f x :: X.map f) = (f x).v :: vs (X.map f) from rfl, show vs (g x :: X.map g) = (g x).v :: vs (X.map g) from rfl, pc5, List.filter_cons, List.length_cons]
   by_cases h : f x = g x
   ·rw [if_pos (by simpa using h), if_pos (by rw [h]), List.length_cons]; omega
   ·rw [if_neg (by simpa using h), if_neg fun e => h (El.ext' e)]; omega
theorem singleton {q : Int} [IsFld q] {X m u : List (El q)} (hn : X.Nodup) (hmu : m.length = u.length) (hne : m ≠ u) : X.length < m.length + apN (vs (X.map fun x => ev m x)) (vs (X.map fun x => ev u x)) := by
 have h1 := pq4 X (fun x => ev m x) (fun x => ev u x)
 refine Classical.byContradiction fun h => hne (ou8 hmu ?_)
 refine yn1 (xs := X.filter fun x => decide (ev m x = ev u x)) (hn.sublist List.filter_sublist) (fun k hk => ez8 (by omega)) (fun k hk => ez8 (by omega)) fun x hx => by
  have := (List.mem_filter.1 hx).2
  simpa using this
theorem nx4 {raw os : List Int} {b b' : Bool} {nl nl' : Nat} (hl : raw.length ≤ 9223372036854775807) (hl2 : os.length ≤ 9223372036854775807) {q n k : Int} (q1 : -9223372036854775808 ≤ q) (q2 : q ≤ 9223372036854775807) (n1 : -9223372036854775808 ≤ n) (n2 : n ≤ 9223372036854775807) (k1 : -9223372036854775808 ≤ k) (k2 : k ≤ 9223372036854775807) :
 o24 W 7 [.fz b (.sl nl 0 1 (ivs raw)), .fz b' (.sl nl' 0 1 (ivs os)), .x (.int .i64 q), .x (.int .i64 n), .x (.int .i64 k)] [] = some (.x (.bool true), [], []) := by
 by_cases h256 : 256 < IntKind.wrap .i64 ((raw.length : Int) + (os.length : Int))
 ·rw [o10 rfl T7 rfl]
  unfold F7 c7
  simp (disch := first | omega | fail) only [push_cast, seval, ui5, lu7, y81, bj9, wrap64, dec_lt, cw6, nl2, qc6, mr8, nb8, if_pos, if_neg, dec_lt h256]
 ·have h256' := cw6 (Int.not_lt.1 h256)
  obtain ⟨z, hz, e0⟩ := jx7 q q1 q2
  obtain ⟨z1, z2, hfz⟩ := x14 hz
  haveI := hfz
  have p1 := s88 n1 n2 (show (0 : Int) < 16 by omega)
  have hp := h58 (a := n) (n := 16) (by omega)
  have w1 : IntKind.wrap .i64 (1 + pkI n 16) = 1 + pkI n 16 := wrap64 (by omega) (by omega)
  have main : ∀ (N : Nat), 1 ≤ N → N ≤ 16 → (N : Int) ≤ z → ∃ (K : Nat) (X m u : List (El z)), o24 W 9 [.x (.int .i64 k), .x (.int .i64 (N : Int))] [] = some (.x (.int .i64 ((K : Int) - 1)), [], []) ∧ 1 ≤ K ∧ K ≤ N ∧ X.length = N ∧ X.Nodup ∧ m.length = K ∧ u.length = K ∧ (∀ b nl, o24 W 14 [.fz b (.sl nl 0 1 (ivs raw)), .x (.int .i64 z), .x (.int .i64 N)] [] = some (.own 0 [], [.sl 0 3 1 (ivs (vs X))], [])) ∧
   (∀ b nl, o24 W 11 [.fz b (.sl nl 0 1 (ivs raw)), .x (.int .i64 3), .x (.int .i64 z), .x (.int .i64 K)] [] = some (.own 0 [], [.sl 1 3 1 (ivs (vs m))], [])) ∧
   (∀ b nl, o24 W 11 [.fz b (.sl nl 0 1 (ivs os)), .x (.int .i64 3), .x (.int .i64 z), .x (.int .i64 K)] [] = some (.own 0 [], [.sl 1 3 1 (ivs (vs u))], [])) := by
   intro N hN1 hN2 hNz
   have p2 := s88 k1 k2 (show (0 : Int) < (N : Int) by omega)
   have hk := h58 (a := k) (n := (N : Int)) (by omega)
   obtain ⟨K, hK⟩ : ∃ K : Nat, (K : Int) = pkI k (N : Int) + 1 := ⟨(pkI k (N : Int) + 1).toNat, by omega⟩
   obtain ⟨m, hm, hml⟩ := m61 (raw := raw) (frm := 3) (q := z) (n := K) (by omega)
   obtain ⟨u, hu, hul⟩ := m61 (raw := os) (frm := 3) (q := z) (n := K) (by omega)
   have s1 := fun b nl => vv4 (b := b) (nl := nl) hl (frm := 3) (q := z) (by omega) (by omega) (by omega) (N := K) (by omega)
   have s2 := fun b nl => vv4 (b := b) (nl := nl) hl2 (frm := 3) (q := z) (by omega) (by omega) (by omega) (N := K) (by omega)
   rw [hm] at s1
   rw [hu] at s2
   obtain ⟨zn, rfl⟩ : ∃ zn : Nat, z = (zn : Int) := ⟨z.toNat, by omega⟩
   obtain ⟨L, h1, h2, h3, h4⟩ := mz4 hl (q := zn) (n := N) (by omega) (by omega)
   obtain ⟨X, rfl, hXn⟩ := ax8 h3 h2
   rw [fi2] at h1
   refine ⟨K, X, m, u, by rw [p2, show (K : Int) - 1 = pkI k (N : Int) by omega], by omega, by omega, h1, hXn, hml, hul, h4, s1, s2⟩
  have fin : ∀ (N : Nat), 1 ≤ N → N ≤ 16 → (N : Int) ≤ z → (if z < 1 + pkI n 16 then z else 1 + pkI n 16) = (N : Int) → o24 W 7 [.fz b (.sl nl 0 1 (ivs raw)), .fz b' (.sl nl' 0 1 (ivs os)), .x (.int .i64 q), .x (.int .i64 n), .x (.int .i64 k)] [] = some (.x (.bool true), [], []) := by
   intro N hN1 hN2 hNz hif
   obtain ⟨K, X, m, u, p2, hK1, hK2, hX, hXn, hm, hu, e1, e2, e3⟩ := main N hN1 hN2 hNz
   have w2 : IntKind.wrap .i64 (1 + ((K : Int) - 1)) = (K : Int) := by rw [wrap64 (by omega) (by omega)]; omega
   have w3 : IntKind.wrap .i64 ((N : Int) - (K : Int)) = (N : Int) - (K : Int) := wrap64 (by omega) (by omega)
   have e4 := fun b nl b' nl' => su9 (b := b) (nl := nl) (b' := b') (nl' := nl') (m := m) hXn (by omega) (by omega) (by omega)
   have e5 := fun b nl b' nl' => su9 (b := b) (nl := nl) (b' := b') (nl' := nl') (m := u) hXn (by omega) (by omega) (by omega)
   have l1 : (X.map fun x => ev m x).length = N := by rw [List.length_map, hX]
   have l2 : (X.map fun x => ev u x).length = N := by rw [List.length_map, hX]
   have l3 : ∀ l : List (El z), (vs l).length = l.length := fi2
   have e6 := fun b nl b' nl' => nb2 (b := b) (nl := nl) (b' := b') (nl' := nl') (l := vs m) (k := vs u) (by rw [fi2]; omega)
   have e7 := fun b nl b' nl' => sg1 (b := b) (nl := nl) (b' := b') (nl' := nl') (a := vs (X.map fun x => ev m x)) (c := vs (X.map fun x => ev u x)) (by rw [fi2]; omega) (by rw [fi2]; omega)
   simp only [fi2, List.length_map, if_true] at e7
   have hs := singleton (X := X) (m := m) (u := u) hXn (by omega)
   by_cases hmu : m = u
   ·have hd : decide (vs m = vs u) = true := by rw [hmu]; simp
    rw [hd] at e6
    rw [o10 rfl T7 rfl]
    unfold F7 c7
    by_cases hlt : z < 1 + pkI n 16
    ·rw [if_pos hlt] at hif
     subst hif
     simp (disch := first | omega | fail) only [push_cast, seval, ui5, lu7, y81, bj9, wrap64, dec_lt, cw6, nl2, qc6, mr8, nb8, if_pos, if_neg, h256', e0, p1, w1, dec_lt hlt, p2, w2, e1, e2, e3, e4, e5, e6, hX]
    ·rw [if_neg hlt] at hif
     replace w1 := w1.trans hif
     rw [hif] at hlt
     simp (disch := first | omega | fail) only [push_cast, seval, ui5, lu7, y81, bj9, wrap64, dec_lt, cw6, nl2, qc6, mr8, nb8, if_pos, if_neg, h256', e0, p1, w1, cw6 (Int.not_lt.1 hlt), p2, w2, e1, e2, e3, e4, e5, e6, hX]
   ·have hd : decide (vs m = vs u) = false := decide_eq_false fun h => hmu (qa5 h)
    have h9 : (N : Int) - (K : Int) < (apN (vs (X.map fun x => ev m x)) (vs (X.map fun x => ev u x)) : Int) := by
     have := hs hmu
     omega
    rw [hd] at e6
    rw [o10 rfl T7 rfl]
    unfold F7 c7
    by_cases hlt : z < 1 + pkI n 16
    ·rw [if_pos hlt] at hif
     subst hif
     simp (disch := first | omega | fail) only [push_cast, seval, ui5, lu7, y81, bj9, wrap64, dec_lt, cw6, nl2, qc6, mr8, nb8, if_pos, if_neg, h256', e0, p1, w1, dec_lt hlt, p2, w2, w3, e1, e2, e3, e4, e5, e6, e7, hX, dec_lt h9]
    ·rw [if_neg hlt] at hif
     replace w1 := w1.trans hif
     rw [hif] at hlt
     simp (disch := first | omega | fail) only [push_cast, seval, ui5, lu7, y81, bj9, wrap64, dec_lt, cw6, nl2, qc6, mr8, nb8, if_pos, if_neg, h256', e0, p1, w1, cw6 (Int.not_lt.1 hlt), p2, w2, w3, e1, e2, e3, e4, e5, e6, e7, hX, dec_lt h9]
  by_cases hlt : z < 1 + pkI n 16
  ·exact fin z.toNat (by omega) (by omega) (by omega) (by rw [if_pos hlt]; omega)
  ·exact fin (1 + pkI n 16).toNat (by omega) (by omega) (by omega) (by rw [if_neg hlt]; omega)
end Go.Proofs.Ytghfdpdiibiigaa
namespace Go.Proofs.Ytghfdpdiibiigaa
open Go.Am Go.Vm Go.Alg
section
variable {h : H} {l : List AV} {ws : List Value}
theorem a23 : Vm.VRL h [] (allZ h) (allZ h) [] [] := by rw [Vm.VRL]
theorem dp0 (r : Vm.VRL h [] (allZ h) (allZ h) l ws) (v : Value) : Vm.VRL h [] (allZ h) (allZ h) (.x v :: l) (v :: ws) := by
 rw [Vm.VRL]; exact ⟨v, ws, rfl, by rw [Vm.VR], r⟩
theorem qj4 {sa : Option Addr} {c : Nat} {zs : List Int} (hr : RdI h sa c zs) : ∀ o, sa.map (·.block) = some o → allZ h o := fun o ho => by
 rcases hr with ⟨rfl, _⟩ | ⟨_, o2, off, r2, rfl, h1, _⟩
 ·cases ho
 ·cases ho; exact h44 h1
theorem sk6 (r : Vm.VRL h [] (allZ h) (allZ h) l ws) {sa : Option Addr} {c : Nat} {zs : List Int} (hr : RdI h sa c zs) : Vm.VRL h [] (allZ h) (allZ h) (.fz true (.sl 2 0 1 (ivs zs)) :: l) (.slice sa zs.length c :: ws) := by
 rw [Vm.VRL]; exact ⟨_, ws, rfl, by rw [Vm.VR]; exact pd9 hr (qj4 hr), r⟩
end
end Go.Proofs.Ytghfdpdiibiigaa
namespace Go.Proofs.Ytghfdpdiibiigaa
open Go.Am Go.Vm Go.Alg
theorem u68 (h : H) (s0 : Option Addr) (c0 : Nat) (z0 : List Int) (r0 : RdI h s0 c0 z0) (_ : ss4 h 1 s0 = true) (_ : z0.length ≤ 9223372036854775807) (s1 : Option Addr) (c1 : Nat) (z1 : List Int) (r1 : RdI h s1 c1 z1) (_ : ss4 h 1 s1 = true) (_ : z1.length ≤ 9223372036854775807) (a2 : Int) (_ : -9223372036854775808 ≤ a2) (_ : a2 ≤ 9223372036854775807) (a3 : Int) (_ : -9223372036854775808 ≤ a3) (_ : a3 ≤ 9223372036854775807) (a4 : Int) (_ : -9223372036854775808 ≤ a4) (_ : a4 ≤ 9223372036854775807) :
 ∃ h', call T 7 [.slice s0 z0.length c0, .slice s1 z1.length c1, .int .i64 a2, .int .i64 a3, .int .i64 a4] h = some (.bool true, h') :=
 vlaw lw2 (sk6 (sk6 (dp0 (dp0 (dp0 a23 _) _) _) r1) r0) (by apply nx4 <;> assumption)
end Go.Proofs.Ytghfdpdiibiigaa
