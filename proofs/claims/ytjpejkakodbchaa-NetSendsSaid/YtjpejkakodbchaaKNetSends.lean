/-
  NetSends answers true for all arguments. No condition. The frame is the kit's; the walk is mine.
-/
import Derived.Test.YtjpejkakodbchaaK7
import Derived.Test.YtjpejkakodbchaaK6
import Derived.Test.YtjpejkakodbchaaRows
import Derived.WalkKit
import Derived.ProofKit
import Derived.OpenShut
import Derived.ShutString
import Derived.ChangeOld
import Derived.Below
import Derived.Deep.Matrix
namespace Go.Proofs.Ytjpejkakodbchaa.netSends
open Go.ChangeShapes Go.WideShapes Go.ChangeAt Go.RowKit Go.Deep
open Go.ChangeMaps (open_string shut_string)
set_option linter.unusedVariables false

theorem own : ownKnob Try.prog.godebug = none := by kernel_rfl
theorem laidOut : laidOutB Try.prog = true := by kernel_rfl
def IsRow (w : World) (a : Option Addr) (len cap : Nat) (zs : List Int) : Prop :=
  Go.Am.RoI .i64 w a len cap zs ∧ len ≤ maxLen
def IsNet (w : World) (n : Int) (a : Option Addr) (len cap : Nat) (E : List (Int × Int)) : Prop :=
  (Lit.int .i64 n).wf = true ∧ Go.Am.RoP w a len cap E ∧ len ≤ maxLen
def IsCode (w : World) (q n : Int) (a : Option Addr) (len cap : Nat) (ll : List (List Int)) : Prop :=
  (Lit.int .i64 q).wf = true ∧ (Lit.int .i64 n).wf = true ∧ Go.Am.RoL w a len cap ll ∧ len ≤ maxLen ∧ ∀ l ∈ ll, l.length ≤ maxLen
def IsRows (w : World) (a : Option Addr) (len cap : Nat) (ll : List (List Int)) : Prop :=
  Go.Am.RoL w a len cap ll ∧ len ≤ maxLen ∧ ∀ l ∈ ll, l.length ≤ maxLen
theorem max_is : maxLen = 9223372036854775807 := by kernel_rfl

theorem walk (a0 : Int) (m1 : Int) (a1 : Option Addr) (len1 cap1 : Nat) (z1 : List (Int × Int)) (a2 : Option Addr) (len2 cap2 : Nat) (z2 : List (List Int)) (a3 : Option Addr) (len3 cap3 : Nat) (z3 : List Int) (a4 : Option Addr) (len4 cap4 : Nat) (z4 : List Int) (a5 : Int) (w : World) (w0 : (Lit.int .i64 a0).wf = true) (w1 : IsNet w m1 a1 len1 cap1 z1) (w2 : IsRows w a2 len2 cap2 z2) (w3 : IsRow w a3 len3 cap3 z3) (w4 : IsRow w a4 len4 cap4 z4) (w5 : (Lit.int .i64 a5).wf = true) :
    Calls Try.prog 6 #[.int .i64 a0, .agg #[.int .i64 m1, .slice a1 len1 cap1], .slice a2 len2 cap2, .slice a3 len3 cap3, .slice a4 len4 cap4, .int .i64 a5] w fun e w' => e = .returned (.bool true) ∧ Below w.heap.size w w' := by
  have mx := max_is
  obtain ⟨wm1, r1, l1⟩ := w1
  obtain ⟨φ1, h1, s1, x1, p1, hh1, v1, d1⟩ := Go.Am.ix4 (φ := Go.Am.φ0) rfl (Go.Am.HR.start _ w) r1 3
  have n1 := r1.1
  obtain ⟨r2, l2, e2⟩ := w2
  obtain ⟨φ2, h2, s2, x2, p2, hh2, v2, d2, u2⟩ := Go.Am.du6 rfl hh1 r2 3 3
  have n2 := r2.1
  obtain ⟨r3, l3⟩ := w3
  obtain ⟨φ3, h3, s3, x3, p3, hh3, v3, d3, u3, n3⟩ := Go.Am.q97 rfl hh2 r3 3
  obtain ⟨r4, l4⟩ := w4
  obtain ⟨φ4, h4, s4, x4, p4, hh4, v4, d4, u4, n4⟩ := Go.Am.q97 rfl hh3 r4 3
  obtain ⟨h', hc⟩ := p07 h4 a0 (Go.Am.ua3 w0).1 (Go.Am.ua3 w0).2 m1 (Go.Am.ua3 wm1).1 (Go.Am.ua3 wm1).2 s1 cap1 z1 (d1.mono (((p2).trans p3).trans p4)) (by rw [n1]; omega) s2 cap2 z2 (d2.mono ((p3).trans p4)) (Go.Am.r99 u2 ((p3).trans p4)) (by rw [n2]; omega) (fun l hl => by have := e2 l hl; omega) s3 cap3 (z3.take len3) (d3.mono (p4)).i64 (Go.Am.r99 u3 (p4)) (by rw [n3]; omega) s4 cap4 (z4.take len4) d4.i64 u4 (by rw [n4]; omega) a5 (Go.Am.ua3 w5).1 (Go.Am.ua3 w5).2
  rw [n1, n2, n3, n4] at hc
  exact Go.Am.vp5 b41 mixed hc (.cons (.int ..) (.cons (Go.Am.ql9 (((v1.mono x2 p2.length_le).mono x3 p3.length_le).mono x4 p4.length_le) rfl) (.cons ((v2.mono x3 p3.length_le).mono x4 p4.length_le) (.cons (v3.mono x4 p4.length_le) (.cons v4 (.cons (.int ..) (.nil ..))))))) hh4

set_option maxRecDepth 100000 in
theorem lifted (os : Os) (started : os.Started) (H : Type) (enc : TypeId × Value → H) :
    ReturnsInHanded {} Try.checked os 6 .any (Rows.netSendsSpec.pre6 enc Try.prog Try.f6 Rows.netSendsRow.domain false) (Rows.netSendsSpec.post enc Try.prog Try.f6 false true false false) := by
  refine returnsInHanded_of_change (C := Try.checked) own started (by kernel_rfl) Try.func6
    (ChangeSpec.witness6 (enc := enc) (C := Try.checked) false ⟨#[], #[.int .i64 0, .agg #[.int .i64 0, .slice none 0 0], .slice none 0 0, .slice none 0 0, .slice none 0 0, .int .i64 0], []⟩ 8 (by kernel_rfl) (by kernel_rfl) (by kernel_rfl) (by kernel_rfl)) ?_
  intro W base args ds gs before hval0 hW hcnd _
  have hval : ∀ (j : Nat) t v, Try.f6.params[j]? = some t → args[j]? = some v → Value.okWide Try.prog W .any base t v := hval0
  have hW' := hW
  obtain ⟨p, q, hA0, hV, rfl, hfz, hnd⟩ := hW
  have hA : DataW.TrodAll enc Try.prog W 0 (fun _ => true) true Try.f6.params.toList args.toList ds p := hA0
  rw [Try.params6] at hA hval
  obtain ⟨v0, vs0, d0, ds0, p0, q0, hargs, rfl, rfl, h0, r0⟩ := trodAll_cons hA
  obtain ⟨v1, vs1, d1, ds1, p1, q1, rfl, rfl, rfl, h1, r1⟩ := trodAll_cons r0
  obtain ⟨v2, vs2, d2, ds2, p2, q2, rfl, rfl, rfl, h2, r2⟩ := trodAll_cons r1
  obtain ⟨v3, vs3, d3, ds3, p3, q3, rfl, rfl, rfl, h3, r3⟩ := trodAll_cons r2
  obtain ⟨v4, vs4, d4, ds4, p4, q4, rfl, rfl, rfl, h4, r4⟩ := trodAll_cons r3
  obtain ⟨v5, vs5, d5, ds5, p5, q5, rfl, rfl, rfl, h5, r5⟩ := trodAll_cons r4
  obtain ⟨rfl, rfl, rfl⟩ := trodAll_nil r5
  obtain rfl : args = #[v0, v1, v2, v3, v4, v5] := by cases args; simp_all
  obtain ⟨rfl, rfl⟩ := trodVars_none hV
  obtain ⟨a0, rfl, rfl, rfl, w0⟩ := open_int Try.underlying3 (hval 0 3 v0 rfl rfl) h0
  have k1 := h1
  have lt1 : ∀ x ∈ p1, x.block < W.heap.size := by obtain ⟨m, hm⟩ := k1; exact DataW.trod_lt m _ _ _ hm
  obtain ⟨m1, a1, len1, cap1, z1, rfl, w1⟩ := Go.Am.hc8 Try.underlying53 Try.underlying3 Try.underlying51 Try.underlying124 ⟨rfl, rfl, rfl, rfl⟩ ⟨rfl, rfl, rfl, rfl⟩ ⟨by kernel_rfl, by kernel_rfl, by kernel_rfl, by kernel_rfl⟩ (by kernel_rfl) (hval 1 53 v1 rfl rfl) h1
  obtain ⟨a2, len2, cap2, rfl⟩ := okWide_slice Try.underlying22 (hval 2 22 v2 rfl rfl)
  have k2 := h2
  have lt2 : ∀ x ∈ p2, x.block < W.heap.size := by obtain ⟨m, hm⟩ := k2; exact DataW.trod_lt m _ _ _ hm
  obtain ⟨z2, w2⟩ : ∃ ll, IsRows W a2 len2 cap2 ll := by
    obtain ⟨fuel, hf⟩ := h2
    rcases open_int_rows Try.underlying22 Try.underlying23 Try.underlying3 (by kernel_rfl) (by kernel_rfl) hf with ⟨hcs, _⟩ | ⟨x, l, c, Ad, Ln, Cp, Z, hcs, _, hl, hm, _, hrow⟩
    · simp [Value.cells] at hcs
      obtain ⟨rfl, rfl, rfl⟩ := hcs
      exact ⟨[], ⟨rfl, .inl ⟨rfl, rfl, rfl⟩⟩, Nat.zero_le _, fun _ h => absurd h List.not_mem_nil⟩
    · simp [Value.cells] at hcs
      obtain ⟨rfl, rfl, rfl⟩ := hcs
      have had := Go.Am.yk7 Try.underlying22 (hval 2 22 _ rfl rfl)
      refine ⟨_, Go.Am.RoL.of had.1 had.2 hl hrow, Nat.le_trans hl hm, fun l' hl' => ?_⟩
      obtain ⟨r, hr, rfl⟩ := List.mem_map.1 hl'
      have := List.mem_range.1 hr
      obtain ⟨_, g1, g2, g3, _⟩ := hrow r (by omega)
      rw [List.length_take]
      omega
  obtain ⟨a3, len3, cap3, rfl⟩ := okWide_slice Try.underlying23 (hval 3 23 v3 rfl rfl)
  have k3 := h3
  have lt3 : ∀ x ∈ p3, x.block < W.heap.size := by obtain ⟨m, hm⟩ := k3; exact DataW.trod_lt m _ _ _ hm
  obtain ⟨z3, w3⟩ : ∃ zs, IsRow W a3 len3 cap3 zs := by
    obtain ⟨fuel, hf⟩ := h3
    rcases open_ints Try.underlying23 Try.underlying3 (by kernel_rfl) hf with ⟨hcs, _⟩ | ⟨x, l, c, zs, hcs, _, hl, hm, hz, _, hcell, hwz⟩
    · simp [Value.cells] at hcs
      obtain ⟨rfl, rfl, rfl⟩ := hcs
      exact ⟨[], .inl ⟨rfl, rfl, rfl, rfl⟩, Nat.zero_le _⟩
    · simp [Value.cells] at hcs
      obtain ⟨rfl, rfl, rfl⟩ := hcs
      have had := Go.Am.yk7 Try.underlying23 (hval 3 23 _ rfl rfl)
      exact ⟨zs, .inr ⟨_, rfl, had.1, had.2, hl, by simpa using hz, hcell⟩, Nat.le_trans hl hm⟩
  obtain ⟨a4, len4, cap4, rfl⟩ := okWide_slice Try.underlying23 (hval 4 23 v4 rfl rfl)
  have k4 := h4
  have lt4 : ∀ x ∈ p4, x.block < W.heap.size := by obtain ⟨m, hm⟩ := k4; exact DataW.trod_lt m _ _ _ hm
  obtain ⟨z4, w4⟩ : ∃ zs, IsRow W a4 len4 cap4 zs := by
    obtain ⟨fuel, hf⟩ := h4
    rcases open_ints Try.underlying23 Try.underlying3 (by kernel_rfl) hf with ⟨hcs, _⟩ | ⟨x, l, c, zs, hcs, _, hl, hm, hz, _, hcell, hwz⟩
    · simp [Value.cells] at hcs
      obtain ⟨rfl, rfl, rfl⟩ := hcs
      exact ⟨[], .inl ⟨rfl, rfl, rfl, rfl⟩, Nat.zero_le _⟩
    · simp [Value.cells] at hcs
      obtain ⟨rfl, rfl, rfl⟩ := hcs
      have had := Go.Am.yk7 Try.underlying23 (hval 4 23 _ rfl rfl)
      exact ⟨zs, .inr ⟨_, rfl, had.1, had.2, hl, by simpa using hz, hcell⟩, Nat.le_trans hl hm⟩
  obtain ⟨a5, rfl, rfl, rfl, w5⟩ := open_int Try.underlying3 (hval 5 3 v5 rfl rfl) h5
  clear hA0 hval0
  refine (walk a0 m1 a1 len1 cap1 z1 a2 len2 cap2 z2 a3 len3 cap3 z3 a4 len4 cap4 z4 a5 W w0 w1 w2 w3 w4 w5).mono fun e W' ⟨he, bel⟩ => ?_
  subst he
  exact ⟨_, rfl, _, _, _, [], _, [], hW', trodAll_mk1 (shut_bool Try.underlying4 _), (trodAll_cons_mk (shut_int Try.underlying3 w0) (trodAll_cons_mk (Below.trod laidOut (by kernel_rfl) (of_decide_eq_true (by kernel_rfl)) k1 bel lt1) (trodAll_cons_mk (Below.trod laidOut (by kernel_rfl) (of_decide_eq_true (by kernel_rfl)) k2 bel lt2) (trodAll_cons_mk (Below.trod laidOut (by kernel_rfl) (of_decide_eq_true (by kernel_rfl)) k3 bel lt3) (trodAll_cons_mk (Below.trod laidOut (by kernel_rfl) (of_decide_eq_true (by kernel_rfl)) k4 bel lt4) (trodAll_cons_mk (shut_int Try.underlying3 w5) trodAll_mk0)))))), rfl, bel.frame _, fun h => by cases h⟩

theorem over : Rows.netSendsRow.holds Try.pinned (OpenSpec.ofChange Rows.netSendsSpec) :=
  OpenClaim.holds_of_wide 6 Try.f6 rfl rfl rfl rfl rfl rfl rfl ⟨rfl, rfl, rfl, rfl, rfl⟩ rfl rfl rfl rfl rfl (by kernel_rfl) Try.func6 (by kernel_rfl)
    (of_decide_eq_true (by kernel_rfl)) (by unfold Func.isWrapper; first | (rw [if_pos (by decide +kernel)]; kernel_rfl) | (rw [if_neg (by decide +kernel)]; exact ⟨rfl, rfl⟩))
    (fun os started H enc _ => lifted os started H enc)

/-- ████ THE STATEMENT ████ -/
theorem proved : Rows.NetSendsSaid := over
#print axioms proved
end Go.Proofs.Ytjpejkakodbchaa.netSends
