/-
  A law's arguments that are slices of slices of integers, as rows that are only read. Conditions: those of each theorem.
-/
import Derived.Test.YtammndhoillliaaAm22
import Derived.Deep.Matrix
namespace Go.Am
set_option linter.unusedVariables false
set_option linter.unusedSimpArgs false
open Go.RowKit (Below)

/-- one row that came in -/
def RoIn (w : World) (A : Option Addr) (C : Nat) (l : List Int) : Prop :=
  (A = none ∧ l = [] ∧ C = 0) ∨ ∃ a, A = some a ∧ l.length ≤ C ∧ (C = 0 ∨ (a.spot = none ∧ a.block < w.heap.size ∧ ∃ Z : List Int, Z.length = C ∧ l = Z.take l.length ∧ ∀ c, c < C → w.cell? (a.add c) = some (.int .i64 (Z.getD c 0))))
/-- rows that came in -/
def RoL (w : World) (a : Option Addr) (len cap : Nat) (ll : List (List Int)) : Prop :=
  ll.length = len ∧ ((a = none ∧ len = 0 ∧ cap = 0) ∨ ∃ x, a = some x ∧ x.spot = none ∧ x.block < w.heap.size ∧ len ≤ cap ∧ ∀ (r : Nat) (l : List Int), ll[r]? = some l → ∃ A C, w.cell? (x.add r) = some (.slice A l.length C) ∧ RoIn w A C l)

theorem RoL.of {w : World} {x : Addr} {len cap : Nat} {A : Nat → Option Addr} {L C : Nat → Nat} {Z : Nat → List Int} (h1 : x.spot = none) (h2 : x.block < w.heap.size) (hl : len ≤ cap)
    (hr : ∀ r, r < cap → w.cell? (x.add r) = some (.slice (A r) (L r) (C r)) ∧ L r ≤ C r ∧ C r ≤ maxLen ∧ (Z r).length = C r ∧ (∀ n ∈ Z r, (Lit.int .i64 n).wf = true) ∧ (A r = none → C r = 0) ∧ ∀ a', A r = some a' → 0 ≤ a'.block ∧ ∀ c, c < C r → w.cell? (a'.add c) = some (.int .i64 ((Z r).getD c 0))) :
    RoL w (some x) len cap ((List.range len).map fun r => (Z r).take (L r)) := by
  refine ⟨by simp, .inr ⟨x, rfl, h1, h2, hl, fun r l hrl => ?_⟩⟩
  rw [List.getElem?_map] at hrl
  obtain ⟨r', hr', rfl⟩ := Option.map_eq_some_iff.1 hrl
  have hrr : r' = r ∧ r < len := by
    obtain ⟨hlt, he⟩ := List.getElem?_eq_some_iff.1 hr'
    simp at hlt he
    exact ⟨he.symm, hlt⟩
  obtain ⟨rfl, hlt⟩ := hrr
  obtain ⟨q1, q2, q3, q4, q5, q6, q7⟩ := hr r' (by omega)
  have hll : ((Z r').take (L r')).length = L r' := by rw [List.length_take]; omega
  refine ⟨A r', C r', by rw [hll]; exact q1, ?_⟩
  cases hA : A r' with
  | none =>
    have := q6 hA
    exact .inl ⟨rfl, List.eq_nil_of_length_eq_zero (by rw [hll]; omega), this⟩
  | some a =>
    refine .inr ⟨a, rfl, by rw [hll]; exact q2, ?_⟩
    obtain ⟨_, q8⟩ := q7 a hA
    by_cases hC : C r' = 0
    · exact .inl hC
    · have h0 := q8 0 (by omega)
      have ha : a.add 0 = a := by simp [Addr.add]
      rw [ha] at h0
      refine .inr ⟨World.cell?_spot h0, ?_, Z r', q4, by rw [hll], q8⟩
      unfold World.cell? at h0
      by_cases hb : a.block < w.heap.size
      · exact hb
      · rw [Array.getElem?_eq_none (by omega)] at h0; cases h0

section
variable {φ : Ren} {B : Nat} {h : H} {w : World}
theorem arg_inner (hB : B = w.heap.size) (hh : HR φ B h w) {b : Nat} (hb : b < B) {A : Option Addr} {C : Nat} {l : List Int} (hr : RoIn w A C l) (e : TypeId) :
    ∃ φ' h' sa, Ext φ h.length φ' ∧ h <+: h' ∧ HR φ' B h' w ∧ VR φ' h'.length (.slice sa l.length C) (.slice A l.length C) ∧ RdI h' sa C l := by
  rcases hr with ⟨rfl, rfl, rfl⟩ | ⟨a, rfl, hl, hr⟩
  · exact ⟨φ, h, none, Ext.refl _ _, List.prefix_refl _, hh, .snil, .inl ⟨rfl, rfl, rfl⟩⟩
  · rcases hr with rfl | ⟨h1, h2, Z, hZ, hlZ, hc⟩
    · obtain rfl : l = [] := List.eq_nil_of_length_eq_zero (by omega)
      have hrow : H.row (h ++ [.row ⟨[], e, 1, false⟩]) h.length = some ⟨[], e, 1, false⟩ := row_push_new
      refine ⟨φ.with h.length ⟨b, 0, 0, 1, false⟩, h ++ [.row ⟨[], e, 1, false⟩], some ⟨h.length, 0, none⟩, Ext.with _ _ _, List.prefix_append _ _, hh.pushRo ⟨[], e, 1, false⟩ b 0 0 1 rfl hb (fun c hc => by cases hc) (fun i c hc => by simp at hc), ?_, .inr ⟨Nat.le_refl _, h.length, 0, _, rfl, hrow, fun h => by (cases h), fun i h0 hi => by simp at hi; omega⟩⟩
      exact .slz h.length 0 a (by simp) (by rw [Ren.with_same])
    · have hro : RoI .i64 w (some a) l.length C Z := .inr ⟨a, rfl, h1, h2, hl, hZ, fun i hi => hc i (by omega)⟩
      obtain ⟨φ', h', sa, k1, k2, k3, k4, k5, k6, k7⟩ := arg_slice hB hh hro e
      refine ⟨φ', h', sa, k1, k2, k3, k4, ?_⟩
      rw [← hlZ] at k5
      exact k5.i64
theorem arg_inners (hB : B = w.heap.size) {b : Nat} (hb : b < B) (e : TypeId) : ∀ (ll : List (List Int)) (Ac : Nat → Option Addr × Nat) (φ : Ren) (h : H), HR φ B h w → (∀ (r : Nat) (l : List Int), ll[r]? = some l → RoIn w (Ac r).1 (Ac r).2 l) →
    ∃ (φ' : Ren) (h' : H) (vs : List Value), Ext φ h.length φ' ∧ h <+: h' ∧ HR φ' B h' w ∧ vs.length = ll.length ∧ ∀ (r : Nat) (l : List Int), ll[r]? = some l → ∃ sa, vs[r]? = some (.slice sa l.length (Ac r).2) ∧ VR φ' h'.length (.slice sa l.length (Ac r).2) (.slice (Ac r).1 l.length (Ac r).2) ∧ RdI h' sa (Ac r).2 l
  | [], Ac, φ, h, hh, hr => ⟨φ, h, [], Ext.refl _ _, List.prefix_refl _, hh, rfl, fun r l hl => by simp at hl⟩
  | l :: ll, Ac, φ, h, hh, hr => by
    obtain ⟨φ1, h1, sa, k1, k2, k3, k4, k5⟩ := arg_inner hB hh hb (hr 0 l rfl) e
    obtain ⟨φ2, h2, vs, j1, j2, j3, j4, j5⟩ := arg_inners hB hb e ll (fun r => Ac (r + 1)) φ1 h1 k3 (fun r l hl => hr (r + 1) l (by simpa using hl))
    refine ⟨φ2, h2, .slice sa l.length (Ac 0).2 :: vs, k1.trans j1 k2.length_le, k2.trans j2, j3, by simp [j4], fun r l' hl => ?_⟩
    cases r with
    | zero =>
      simp at hl; subst hl
      exact ⟨sa, rfl, k4.mono j1 j2.length_le, k5.mono j2⟩
    | succ r =>
      obtain ⟨s, m1, m2⟩ := j5 r l' (by simpa using hl)
      exact ⟨s, by simpa using m1, m2⟩
/-- the next argument, a slice of slices -/
theorem arg_rows (hB : B = w.heap.size) (hh : HR φ B h w) {a : Option Addr} {len cap : Nat} {ll : List (List Int)} (hw : RoL w a len cap ll) (e1 e2 : TypeId) :
    ∃ φ' h' sa, Ext φ h.length φ' ∧ h <+: h' ∧ HR φ' B h' w ∧ VR φ' h'.length (.slice sa len cap) (.slice a len cap) ∧ RdLL h' sa cap ll ∧ unitOk h' 1 sa = true := by
  obtain ⟨hlen, hw⟩ := hw
  rcases hw with ⟨rfl, rfl, rfl⟩ | ⟨x, rfl, hs, hb, hl, hr⟩
  · exact ⟨φ, h, none, Ext.refl _ _, List.prefix_refl _, hh, .snil, .inl ⟨rfl, rfl, List.eq_nil_of_length_eq_zero hlen⟩, rfl⟩
  · obtain ⟨Ac, hAc⟩ : ∃ Ac : Nat → Option Addr × Nat, ∀ (r : Nat) (l : List Int), ll[r]? = some l → w.cell? (x.add r) = some (.slice (Ac r).1 l.length (Ac r).2) ∧ RoIn w (Ac r).1 (Ac r).2 l := by
      have key : ∀ r : Nat, ∃ p : Option Addr × Nat, ∀ l : List Int, ll[r]? = some l → w.cell? (x.add r) = some (.slice p.1 l.length p.2) ∧ RoIn w p.1 p.2 l := by
        intro r
        cases hl' : ll[r]? with
        | none => exact ⟨(none, 0), fun l h => by cases h⟩
        | some l =>
          obtain ⟨A, C, q1, q2⟩ := hr r l hl'
          exact ⟨(A, C), fun l2 h => by cases h; exact ⟨q1, q2⟩⟩
      exact ⟨fun r => Classical.choose (key r), fun r => Classical.choose_spec (key r)⟩
    obtain ⟨φ1, h1, vs, k1, k2, k3, k4, k5⟩ := arg_inners hB (b := x.block) (by omega) e1 ll Ac φ h hh (fun r l hl' => (hAc r l hl').2)
    have hget : ∀ (i : Nat) (c : Value), vs[i]? = some c → ∃ l sa, ll[i]? = some l ∧ c = .slice sa l.length (Ac i).2 ∧ VR φ1 h1.length c (.slice (Ac i).1 l.length (Ac i).2) ∧ RdI h1 sa (Ac i).2 l := by
      intro i c hc
      have hi : i < ll.length := by rw [← k4]; exact (List.getElem?_eq_some_iff.1 hc).1
      obtain ⟨sa, m1, m2, m3⟩ := k5 i ll[i] (List.getElem?_eq_getElem hi)
      rw [hc] at m1; cases m1
      exact ⟨_, sa, List.getElem?_eq_getElem hi, rfl, m2, m3⟩
    have hrow : H.row (h1 ++ [.row ⟨vs, e2, 1, false⟩]) h1.length = some ⟨vs, e2, 1, false⟩ := row_push_new
    have hadd : ∀ i, x.add i = ⟨x.block, x.off + i, none⟩ := addr_add hs
    refine ⟨φ1.with h1.length ⟨x.block, x.off, cap, 1, false⟩, h1 ++ [.row ⟨vs, e2, 1, false⟩], some ⟨h1.length, 0, none⟩, k1.trans (Ext.with _ _ _) k2.length_le, pre_push k2, k3.pushRo ⟨vs, e2, 1, false⟩ x.block x.off cap 1 rfl (by omega) (fun c hc => ?_) (fun i c hc => ?_), ?_, .inr ⟨h1.length, ⟨vs, e2, 1, false⟩, rfl, by omega, hrow, k4, fun i l hl' => ?_⟩, ?_⟩
    · obtain ⟨i, hi, he⟩ := List.getElem_of_mem hc
      obtain ⟨l, sa, _, rfl, _⟩ := hget i c (by rw [List.getElem?_eq_getElem hi, he])
      rfl
    · obtain ⟨l, sa, m0, m1, m2, m3⟩ := hget i c hc
      have := (hAc i l m0).1
      rw [hadd] at this
      exact ⟨_, this, m2⟩
    · have hv := VR.sl (φ := φ1.with h1.length ⟨x.block, x.off, cap, 1, false⟩) (n := (h1 ++ [Ob.row ⟨vs, e2, 1, false⟩]).length) h1.length 0 len cap cap x.off (by simp) (Nat.le_refl _) (.inl (by rw [Ren.with_same]; rfl)) (by rw [Ren.with_same]; intro h; cases h)
      rw [Ren.with_same] at hv
      have hx : x = ⟨x.block, x.off, none⟩ := by obtain ⟨b, o, s⟩ := x; simp only at hs; subst hs; rfl
      rw [hx]
      exact hv
    · obtain ⟨sa, m1, m2, m3⟩ := k5 i l hl'
      exact ⟨sa, (Ac i).2, m1, m3.mono (List.prefix_append _ _)⟩
    · unfold unitOk; simp only [hrow]; rfl
end
end Go.Am
