/-
  The law of matrices. Conditions: lists as Go has them.
  The laws of matrices. Conditions: lists as Go has them.
  Raw numbers turned to elements, lists and matrices; sizes of fields; in the second machine. Conditions: those of each theorem.
  MatrixMade answers true, in the second machine. Conditions: arguments as Go has them.
  A law's arguments in the second machine. No condition.
  MatrixMade answers true, in the first machine. Conditions: arguments as memory has them.
-/
import Derived.Test.YtjpejkakodbchaaK7
import Derived.Test.YtjpejkakodbchaaK6
set_option linter.unusedVariables false
set_option linter.unusedSimpArgs false
set_option linter.unusedSectionVars false
set_option maxRecDepth 100000
namespace Go.Proofs.Ytjpejkakodbchaa
open Go.Am Go.Vm Go.Alg
section
variable {q : Int} {b b' b2 : Bool} {nl nl' nr nr' nl2 nr2 : Nat}
theorem pc5 {M : List (List Int)} {y : List Int} (he : ¬ matE q M = 0) :
 o24 W 21 [.x (.int .i64 q), .fz b (.sl nl 0 1 (lvs nr M)), .fz b' (.sl nl' 0 1 (ivs y)), .x (.int .i64 (matE q M))] [] = some (.x (.bool true), [], []) := by
 have hs : yc4 q M y = matE q M := by unfold yc4; rw [if_neg he]
 have e1 := fun b nl nr => rk7 (b := b) (nl := nl) (nr := nr) he
 have e2 := fun b nl nr => zn0 (b := b) (nl := nl) (nr := nr) he
 have e3 := fun b nl nr => km7 (b := b) (nl := nl) (nr := nr) he
 have e4 := fun b b' nl nl' nr => qu2 (b := b) (b' := b') (nl := nl) (nl' := nl') (nr := nr) (M := M) (y := y) (by rw [hs]; exact he)
 rw [hs] at e4
 have l1 := fun b b' nl nl' => dy0 (b := b) (b' := b') (nl := nl) (nl' := nl') (nr := 0) (nr' := 0) (l := []) (k := []) (e := matE q M) (f := matE q M) (by simp) (by simp)
 have l2 := fun b b' nl nl' => ea2 (b := b) (b' := b') (nl := nl) (nl' := nl') (l := []) (k := []) (e := matE q M) (f := matE q M) (by simp)
 have l3 := ib6 (l := 0) (k := 0) (e := matE q M) (f := matE q M)
 have l4 := fun b b' nl nl' => nb2 (b := b) (b' := b') (nl := nl) (nl' := nl') (l := []) (k := []) (by simp)
 simp only [if_neg he, decide_true, Bool.true_and, List.length_nil, em1, lz6] at l1 l2 l3 l4
 cases hn : fldN q.toNat with
 | none =>
   have e0 := fg0 hn
   have e5 := fun b nl nr n => h52 (b := b) (nl := nl) (nr := nr) (n := n) (F := [.x (.int .i64 0), .x (.int .i64 0), .x (.int .i64 0), .x (.int .i64 0), .fz true (.sl 1 0 1 [])]) he ⟨0, 0, 0, 0, _, rfl, rfl⟩
   rw [o10 rfl T21 rfl]
   unfold F21 c21
   simp (disch := first | omega | fail) only [push_cast, seval, ui5, lu7, y81, bj9, wrap64, dec_lt, cw6, nl3, qc6, mr8, nb8, if_pos, if_neg, e0, e1, e2, e3, e4, e5, l1, l2, l3, l4, nb8 he]
 | some x =>
   obtain ⟨p0, m0, g0, mod⟩ := x
   haveI : IsFld q := ⟨⟨p0, m0, g0, mod, hn⟩⟩
   obtain ⟨p, m, g, t, u⟩ := k75 q
   have ht := u.n
   have ho := u.o
   have hfe := u.e
   have e5 := fun b nl nr n => h52 (b := b) (nl := nl) (nr := nr) (n := n) (F := [.x (.int .i64 q), .x (.int .i64 p), .x (.int .i64 m), .x (.int .i64 g), .fz true t]) he ⟨q, p, m, g, t, rfl, ht⟩
   rw [o10 rfl T21 rfl]
   unfold F21 c21
   simp (disch := first | omega | fail) only [push_cast, seval, ui5, lu7, y81, bj9, wrap64, dec_lt, cw6, nl3, qc6, mr8, nb8, if_pos, if_neg, hfe, ht, ho, e1, e2, e3, e4, e5, l1, l2, l3, l4, nb8 he]
theorem nh0 (he : matE q [] = 0) {y : List Int} (hy : y.length ≤ 9223372036854775807) :
 o24 W 21 [.x (.int .i64 q), .fz b (.sl nl 0 1 []), .fz b' (.sl nl' 0 1 (ivs y)), .x (.int .i64 0)] [] = some (.x (.bool true), [], []) := by
 obtain ⟨⟨⟨p0, m0, g0, mod⟩, hn⟩, _⟩ := ou8 he
 haveI : IsFld q := ⟨⟨p0, m0, g0, mod, hn⟩⟩
 obtain ⟨p, m, g, t, u⟩ := k75 q
 have ht := u.n
 have ho := u.o
 have hfe := u.e
 have e1 := fun b nl => e58 (b := b) (nl := nl) he
 have e2 := fun b nl => sz4 (b := b) (nl := nl) he
 have e3 := fun b nl => yb3 (b := b) (nl := nl) he
 have e5 := fun b nl => u51 (b := b) (nl := nl) he
 have l1 := fun b b' nl nl' => dy0 (b := b) (b' := b') (nl := nl) (nl' := nl') (nr := 0) (nr' := 0) (l := []) (k := []) (e := 0) (f := 0) (by simp) (by simp)
 have l2 := fun b b' nl nl' => ea2 (b := b) (b' := b') (nl := nl) (nl' := nl') (l := []) (k := []) (e := 0) (f := 0) (by simp)
 have l3 := ib6 (l := 0) (k := 0) (e := 0) (f := 0)
 have l4 := fun b b' nl nl' => nb2 (b := b) (b' := b') (nl := nl) (nl' := nl') (l := []) (k := []) (by simp)
 simp only [if_true, decide_true, Bool.true_and, em1, lz6] at l1 l2 l3 l4
 rw [hfe] at e5
 by_cases h0 : y = []
 ·subst h0
  have e4 := fun b b' nl nl' => s21 (b := b) (b' := b') (nl := nl) (nl' := nl') he
  have e6 := fun b nl => q19 (q := q) (b := b) (nl := nl) (l := []) (by simp)
  rw [hfe] at e6
  simp only [lz6, List.any_nil, Bool.not_false] at e6
  rw [lz6, o10 rfl T21 rfl]
  unfold F21 c21
  simp (disch := first | omega | fail) only [push_cast, seval, ui5, lu7, y81, bj9, wrap64, dec_lt, cw6, nl3, qc6, mr8, nb8, if_pos, if_neg, hfe, ht, ho, e1, e2, e3, e4, e5, e6, l1, l2, l3, l4]
 ·have hyl : y.length ≠ 0 := fun e => h0 (List.eq_nil_of_length_eq_zero e)
  have hs : yc4 q [] y = 6 := by unfold yc4; rw [if_pos he, if_pos (by simpa using h0)]
  have e4 := fun b b' nl nl' => qu2 (b := b) (b' := b') (nl := nl) (nl' := nl') (nr := 0) (q := q) (M := []) (y := y) (by rw [hs]; decide)
  rw [hs, em1] at e4
  rw [o10 rfl T21 rfl]
  unfold F21 c21
  simp (disch := first | omega | fail) only [push_cast, seval, ui5, lu7, y81, bj9, wrap64, dec_lt, cw6, nl3, qc6, mr8, nb8, if_pos, if_neg, hfe, ht, ho, e1, e2, e3, e4, e5, l1, l2, l3, l4]
theorem gn8 [IsFld q] {M : List (List (El q))} {y : List Int} {n : Nat} (h0 : 0 < M.length) (hl : M.length ≤ 64) (hr : ∀ r ∈ M, r.length = n) (hn0 : 0 < n) (hn : n ≤ 64) (hy : y.length ≤ 9223372036854775807) (hyl : y.length = M.length) (hany : (y.any fun v => !fok q v) = true) :
 o24 W 21 [.x (.int .i64 q), .fz b (.sl nl 0 1 (lvs nr (M.map vs))), .fz b' (.sl nl' 0 1 (ivs y)), .x (.int .i64 0)] [] = some (.x (.bool true), [], []) := by
 obtain ⟨p, m, g, t, u⟩ := k75 q
 have ht := u.n
 have ho := u.o
 have hfe := u.e
 have he := sy6 hl hr hn0 hn
 obtain ⟨r0, hr0⟩ := ge6 (l := M) (i := 0) h0
 have h3 := mva (nl := nr) hr0
 have h4 := hr r0 (List.mem_of_getElem? hr0)
 have d1 := fun b nl nr => di6 (b := b) (nl := nl) (nr := nr) hr (by omega) (by omega)
 have d2 := fun b nl nr => zi7 (b := b) (nl := nl) (nr := nr) hr (by omega) (by omega)
 have e1 := fun b nl nr => lq3 (b := b) (nl := nl) (nr := nr) h0 hl hr hn0 hn
 have e2 := fun b nl nr => u33 (b := b) (nl := nl) (nr := nr) h0 hl hr hn0 hn
 have e3 := fun b nl nr => ss9 (b := b) (nl := nl) (nr := nr) h0 hl hr hn0 hn
 have e5 := fun b nl nr => c38 (b := b) (nl := nl) (nr := nr) h0 hl hr hn0 hn
 obtain ⟨r1, r2, r3⟩ := bi2 hr
 obtain ⟨s1, s2, s3, s4⟩ := sw1 hr
 have hrk := ew4 hr
 have l1 := fun b b' nl nl' nr nr' => dy0 (b := b) (b' := b') (nl := nl) (nl' := nl') (nr := nr) (nr' := nr') (l := pvR (redR M)) (k := pvR (redR M)) (e := 0) (f := 0) (by rw [nu3]; omega) (fun r hr => by
  obtain ⟨a, ha, rfl⟩ := List.mem_map.1 hr
  rw [fi2, r2 a ha]; omega)
 have l1' := fun b b' nl nl' nr nr' => dy0 (b := b) (b' := b') (nl := nl) (nl' := nl') (nr := nr) (nr' := nr') (l := pvR (zt5 n M)) (k := pvR (zt5 n M)) (e := 0) (f := 0) (by rw [nu3]; omega) (fun r hr => by
  obtain ⟨a, ha, rfl⟩ := List.mem_map.1 hr
  rw [fi2, s2 a ha]; omega)
 have l2 := fun b b' nl nl' => ea2 (b := b) (b' := b') (nl := nl) (nl' := nl') (l := pvP (redR M)) (k := pvP (redR M)) (e := 0) (f := 0) (by rw [ga8]; omega)
 have l3 := ib6 (l := (redR M).length) (k := (redR M).length) (e := 0) (f := 0)
 have l4 := fun b b' nl nl' => nb2 (b := b) (b' := b') (nl := nl) (nl' := nl') (l := []) (k := []) (by simp)
 simp only [if_true, decide_true, Bool.true_and, lz6] at l1 l1' l2 l3 l4
 have hpr := nu3 (redR M)
 rw [hfe] at e5 d1 d2
 have e6 := fun b nl => q19 (q := q) (b := b) (nl := nl) (l := y) hy
 rw [hfe] at e6
 have hs : yc4 q (M.map vs) y = 2 := by unfold yc4; rw [if_pos he, if_neg (by rw [List.length_map]; omega), if_pos hany]
 have e4 := fun b b' nl nl' nr => qu2 (b := b) (b' := b') (nl := nl) (nl' := nl') (nr := nr) (q := q) (M := M.map vs) (y := y) (by rw [hs]; decide)
 rw [hs] at e4
 simp only [hany, Bool.not_true] at e6
 rw [o10 rfl T21 rfl]
 unfold F21 c21
 simp (disch := first | omega | fail) only [push_cast, seval, ui5, lu7, y81, bj9, wrap64, dec_lt, cw6, nl3, qc6, mr8, nb8, if_pos, if_neg, hfe, ht, ho, h3, h4, d1, d2, e1, e2, e3, e4, e5, e6, l1, l1', l2, l3, l4, hyl, hpr]
theorem xx0 [IsFld q] {M : List (List (El q))} {y : List Int} {n : Nat} (h0 : 0 < M.length) (hl : M.length ≤ 64) (hr : ∀ r ∈ M, r.length = n) (hn0 : 0 < n) (hn : n ≤ 64) (hy : y.length ≤ 9223372036854775807) (hyl : y.length = M.length) (hany : (y.any fun v => !fok q v) = false) {x : List (El q)} (hyx : y = vs x) (hs : solR n M x = none) :
 o24 W 21 [.x (.int .i64 q), .fz b (.sl nl 0 1 (lvs nr (M.map vs))), .fz b' (.sl nl' 0 1 (ivs y)), .x (.int .i64 0)] [] = some (.x (.bool true), [], []) := by
 obtain ⟨p, m, g, t, u⟩ := k75 q
 have ht := u.n
 have ho := u.o
 have hfe := u.e
 have he := sy6 hl hr hn0 hn
 obtain ⟨r0, hr0⟩ := ge6 (l := M) (i := 0) h0
 have h3 := mva (nl := nr) hr0
 have h4 := hr r0 (List.mem_of_getElem? hr0)
 have d1 := fun b nl nr => di6 (b := b) (nl := nl) (nr := nr) hr (by omega) (by omega)
 have d2 := fun b nl nr => zi7 (b := b) (nl := nl) (nr := nr) hr (by omega) (by omega)
 have e1 := fun b nl nr => lq3 (b := b) (nl := nl) (nr := nr) h0 hl hr hn0 hn
 have e2 := fun b nl nr => u33 (b := b) (nl := nl) (nr := nr) h0 hl hr hn0 hn
 have e3 := fun b nl nr => ss9 (b := b) (nl := nl) (nr := nr) h0 hl hr hn0 hn
 have e5 := fun b nl nr => c38 (b := b) (nl := nl) (nr := nr) h0 hl hr hn0 hn
 obtain ⟨r1, r2, r3⟩ := bi2 hr
 obtain ⟨s1, s2, s3, s4⟩ := sw1 hr
 have hrk := ew4 hr
 have l1 := fun b b' nl nl' nr nr' => dy0 (b := b) (b' := b') (nl := nl) (nl' := nl') (nr := nr) (nr' := nr') (l := pvR (redR M)) (k := pvR (redR M)) (e := 0) (f := 0) (by rw [nu3]; omega) (fun r hr => by
  obtain ⟨a, ha, rfl⟩ := List.mem_map.1 hr
  rw [fi2, r2 a ha]; omega)
 have l1' := fun b b' nl nl' nr nr' => dy0 (b := b) (b' := b') (nl := nl) (nl' := nl') (nr := nr) (nr' := nr') (l := pvR (zt5 n M)) (k := pvR (zt5 n M)) (e := 0) (f := 0) (by rw [nu3]; omega) (fun r hr => by
  obtain ⟨a, ha, rfl⟩ := List.mem_map.1 hr
  rw [fi2, s2 a ha]; omega)
 have l2 := fun b b' nl nl' => ea2 (b := b) (b' := b') (nl := nl) (nl' := nl') (l := pvP (redR M)) (k := pvP (redR M)) (e := 0) (f := 0) (by rw [ga8]; omega)
 have l3 := ib6 (l := (redR M).length) (k := (redR M).length) (e := 0) (f := 0)
 have l4 := fun b b' nl nl' => nb2 (b := b) (b' := b') (nl := nl) (nl' := nl') (l := []) (k := []) (by simp)
 simp only [if_true, decide_true, Bool.true_and, lz6] at l1 l1' l2 l3 l4
 have hpr := nu3 (redR M)
 rw [hfe] at e5 d1 d2
 have e6 := fun b nl => q19 (q := q) (b := b) (nl := nl) (l := y) hy
 rw [hfe] at e6
 simp only [hany, Bool.not_false] at e6
 subst hyx
 rw [fi2] at hyl
 have e4 := fun b b' nl nl' nr => zx6 (b := b) (b' := b') (nl := nl) (nl' := nl') (nr := nr) hyl h0 hl hr hn0 hn
 have d4 := fun b b' nl nl' nr => x97 (b := b) (b' := b') (nl := nl) (nl' := nl') (nr := nr) hyl hr h0 (by omega) (by omega)
 rw [hfe] at d4
 simp only [hs] at e4 d4
 rw [o10 rfl T21 rfl]
 unfold F21 c21
 simp (disch := first | omega | fail) only [push_cast, seval, ui5, lu7, y81, bj9, wrap64, dec_lt, cw6, nl3, qc6, mr8, nb8, if_pos, if_neg, hfe, ht, ho, h3, h4, d1, d2, d4, e1, e2, e3, e4, e5, e6, l1, l1', l2, l3, l4, hyl, hpr]
theorem h20 [IsFld q] {M : List (List (El q))} {y : List Int} {n : Nat} (h0 : 0 < M.length) (hl : M.length ≤ 64) (hr : ∀ r ∈ M, r.length = n) (hn0 : 0 < n) (hn : n ≤ 64) (hy : y.length ≤ 9223372036854775807) (hyl : y.length = M.length) (hany : (y.any fun v => !fok q v) = false) {x w : List (El q)} (hyx : y = vs x) (hs : solR n M x = some w) :
 o24 W 21 [.x (.int .i64 q), .fz b (.sl nl 0 1 (lvs nr (M.map vs))), .fz b' (.sl nl' 0 1 (ivs y)), .x (.int .i64 0)] [] = some (.x (.bool true), [], []) := by
 obtain ⟨p, m, g, t, u⟩ := k75 q
 have ht := u.n
 have ho := u.o
 have hfe := u.e
 have he := sy6 hl hr hn0 hn
 obtain ⟨r0, hr0⟩ := ge6 (l := M) (i := 0) h0
 have h3 := mva (nl := nr) hr0
 have h4 := hr r0 (List.mem_of_getElem? hr0)
 have d1 := fun b nl nr => di6 (b := b) (nl := nl) (nr := nr) hr (by omega) (by omega)
 have d2 := fun b nl nr => zi7 (b := b) (nl := nl) (nr := nr) hr (by omega) (by omega)
 have e1 := fun b nl nr => lq3 (b := b) (nl := nl) (nr := nr) h0 hl hr hn0 hn
 have e2 := fun b nl nr => u33 (b := b) (nl := nl) (nr := nr) h0 hl hr hn0 hn
 have e3 := fun b nl nr => ss9 (b := b) (nl := nl) (nr := nr) h0 hl hr hn0 hn
 have e5 := fun b nl nr => c38 (b := b) (nl := nl) (nr := nr) h0 hl hr hn0 hn
 obtain ⟨r1, r2, r3⟩ := bi2 hr
 obtain ⟨s1, s2, s3, s4⟩ := sw1 hr
 have hrk := ew4 hr
 have l1 := fun b b' nl nl' nr nr' => dy0 (b := b) (b' := b') (nl := nl) (nl' := nl') (nr := nr) (nr' := nr') (l := pvR (redR M)) (k := pvR (redR M)) (e := 0) (f := 0) (by rw [nu3]; omega) (fun r hr => by
  obtain ⟨a, ha, rfl⟩ := List.mem_map.1 hr
  rw [fi2, r2 a ha]; omega)
 have l1' := fun b b' nl nl' nr nr' => dy0 (b := b) (b' := b') (nl := nl) (nl' := nl') (nr := nr) (nr' := nr') (l := pvR (zt5 n M)) (k := pvR (zt5 n M)) (e := 0) (f := 0) (by rw [nu3]; omega) (fun r hr => by
  obtain ⟨a, ha, rfl⟩ := List.mem_map.1 hr
  rw [fi2, s2 a ha]; omega)
 have l2 := fun b b' nl nl' => ea2 (b := b) (b' := b') (nl := nl) (nl' := nl') (l := pvP (redR M)) (k := pvP (redR M)) (e := 0) (f := 0) (by rw [ga8]; omega)
 have l3 := ib6 (l := (redR M).length) (k := (redR M).length) (e := 0) (f := 0)
 have l4 := fun b b' nl nl' => nb2 (b := b) (b' := b') (nl := nl) (nl' := nl') (l := []) (k := []) (by simp)
 simp only [if_true, decide_true, Bool.true_and, lz6] at l1 l1' l2 l3 l4
 have hpr := nu3 (redR M)
 rw [hfe] at e5 d1 d2
 have e6 := fun b nl => q19 (q := q) (b := b) (nl := nl) (l := y) hy
 rw [hfe] at e6
 simp only [hany, Bool.not_false] at e6
 subst hyx
 rw [fi2] at hyl
 have e4 := fun b b' nl nl' nr => zx6 (b := b) (b' := b') (nl := nl) (nl' := nl') (nr := nr) hyl h0 hl hr hn0 hn
 have d4 := fun b b' nl nl' nr => x97 (b := b) (b' := b') (nl := nl) (nl' := nl') (nr := nr) hyl hr h0 (by omega) (by omega)
 rw [hfe] at d4
 simp only [hs] at e4 d4
 obtain ⟨w1, _⟩ := l11 hr hyl hs
 have l5 := fun b b' nl nl' => nb2 (b := b) (b' := b') (nl := nl) (nl' := nl') (l := vs w) (k := vs w) (by rw [fi2]; omega)
 simp only [decide_true] at l5
 rw [o10 rfl T21 rfl]
 unfold F21 c21
 simp (disch := first | omega | fail) only [push_cast, seval, ui5, lu7, y81, bj9, wrap64, dec_lt, cw6, nl3, qc6, mr8, nb8, if_pos, if_neg, hfe, ht, ho, h3, h4, d1, d2, d4, e1, e2, e3, e4, e5, e6, l1, l1', l2, l3, l5, hyl, hpr]
theorem yb2 [IsFld q] {M : List (List (El q))} {y : List Int} {n : Nat} (h0 : 0 < M.length) (hl : M.length ≤ 64) (hr : ∀ r ∈ M, r.length = n) (hn0 : 0 < n) (hn : n ≤ 64) (hy : y.length ≤ 9223372036854775807) (hyl : ¬ y.length = M.length) :
 o24 W 21 [.x (.int .i64 q), .fz b (.sl nl 0 1 (lvs nr (M.map vs))), .fz b' (.sl nl' 0 1 (ivs y)), .x (.int .i64 0)] [] = some (.x (.bool true), [], []) := by
 obtain ⟨p, m, g, t, u⟩ := k75 q
 have ht := u.n
 have ho := u.o
 have hfe := u.e
 have he := sy6 hl hr hn0 hn
 obtain ⟨r0, hr0⟩ := ge6 (l := M) (i := 0) h0
 have h3 := mva (nl := nr) hr0
 have h4 := hr r0 (List.mem_of_getElem? hr0)
 have d1 := fun b nl nr => di6 (b := b) (nl := nl) (nr := nr) hr (by omega) (by omega)
 have d2 := fun b nl nr => zi7 (b := b) (nl := nl) (nr := nr) hr (by omega) (by omega)
 have e1 := fun b nl nr => lq3 (b := b) (nl := nl) (nr := nr) h0 hl hr hn0 hn
 have e2 := fun b nl nr => u33 (b := b) (nl := nl) (nr := nr) h0 hl hr hn0 hn
 have e3 := fun b nl nr => ss9 (b := b) (nl := nl) (nr := nr) h0 hl hr hn0 hn
 have e5 := fun b nl nr => c38 (b := b) (nl := nl) (nr := nr) h0 hl hr hn0 hn
 obtain ⟨r1, r2, r3⟩ := bi2 hr
 obtain ⟨s1, s2, s3, s4⟩ := sw1 hr
 have hrk := ew4 hr
 have l1 := fun b b' nl nl' nr nr' => dy0 (b := b) (b' := b') (nl := nl) (nl' := nl') (nr := nr) (nr' := nr') (l := pvR (redR M)) (k := pvR (redR M)) (e := 0) (f := 0) (by rw [nu3]; omega) (fun r hr => by
  obtain ⟨a, ha, rfl⟩ := List.mem_map.1 hr
  rw [fi2, r2 a ha]; omega)
 have l1' := fun b b' nl nl' nr nr' => dy0 (b := b) (b' := b') (nl := nl) (nl' := nl') (nr := nr) (nr' := nr') (l := pvR (zt5 n M)) (k := pvR (zt5 n M)) (e := 0) (f := 0) (by rw [nu3]; omega) (fun r hr => by
  obtain ⟨a, ha, rfl⟩ := List.mem_map.1 hr
  rw [fi2, s2 a ha]; omega)
 have l2 := fun b b' nl nl' => ea2 (b := b) (b' := b') (nl := nl) (nl' := nl') (l := pvP (redR M)) (k := pvP (redR M)) (e := 0) (f := 0) (by rw [ga8]; omega)
 have l3 := ib6 (l := (redR M).length) (k := (redR M).length) (e := 0) (f := 0)
 have l4 := fun b b' nl nl' => nb2 (b := b) (b' := b') (nl := nl) (nl' := nl') (l := []) (k := []) (by simp)
 simp only [if_true, decide_true, Bool.true_and, lz6] at l1 l1' l2 l3 l4
 have hpr := nu3 (redR M)
 rw [hfe] at e5 d1 d2
 have hs : yc4 q (M.map vs) y = 6 := by unfold yc4; rw [if_pos he, if_pos (by rw [List.length_map]; exact hyl)]
 have e4 := fun b b' nl nl' nr => qu2 (b := b) (b' := b') (nl := nl) (nl' := nl') (nr := nr) (q := q) (M := M.map vs) (y := y) (by rw [hs]; decide)
 rw [hs] at e4
 have h8 : ¬ (y.length : Int) = (M.length : Int) := by omega
 rw [o10 rfl T21 rfl]
 unfold F21 c21
 simp (disch := first | omega | fail) only [push_cast, seval, ui5, lu7, y81, bj9, wrap64, dec_lt, cw6, nl3, qc6, mr8, nb8, if_pos, if_neg, hfe, ht, ho, h3, h4, d1, d2, e1, e2, e3, e4, e5, l1, l1', l2, l3, l4, nb8 h8, hpr]
theorem b63 [IsFld q] {M : List (List (El q))} {y : List Int} {n : Nat} (h0 : 0 < M.length) (hl : M.length ≤ 64) (hr : ∀ r ∈ M, r.length = n) (hn0 : 0 < n) (hn : n ≤ 64) (hy : y.length ≤ 9223372036854775807) :
 o24 W 21 [.x (.int .i64 q), .fz b (.sl nl 0 1 (lvs nr (M.map vs))), .fz b' (.sl nl' 0 1 (ivs y)), .x (.int .i64 0)] [] = some (.x (.bool true), [], []) := by
 by_cases hyl : y.length = M.length
 ·cases hany : (y.any fun v => !fok q v) with
  | true => exact gn8 h0 hl hr hn0 hn hy hyl hany
  | false =>
    obtain ⟨x, hx⟩ := n39 (q := q) (l := y) fun z hz => by
     have := List.any_eq_false.1 hany z hz
     simpa using this
    cases hs : solR n M x with
    | none => exact xx0 h0 hl hr hn0 hn hy hyl hany hx hs
    | some w => exact h20 h0 hl hr hn0 hn hy hyl hany hx hs
 ·exact yb2 h0 hl hr hn0 hn hy hyl
end
end Go.Proofs.Ytjpejkakodbchaa
namespace Go.Proofs.Ytjpejkakodbchaa
open Go.Am Go.Vm Go.Alg
section
variable {q : Int} {b b' b2 : Bool} {nl nl' nr nr' nl2 nr2 : Nat}
theorem d49 {M : List (List Int)} {y : List Int} (hy : y.length ≤ 9223372036854775807) :
 o24 W 21 [.x (.int .i64 q), .fz b (.sl nl 0 1 (lvs nr M)), .fz b' (.sl nl' 0 1 (ivs y)), .x (.int .i64 (matE q M))] [] = some (.x (.bool true), [], []) := by
 by_cases he : matE q M = 0
 ·obtain ⟨⟨⟨p0, m0, g0, mod⟩, hn⟩, N, rfl, hN1, hN2, hN3, hN4⟩ := ou8 he
  haveI : IsFld q := ⟨⟨p0, m0, g0, mod, hn⟩⟩
  rw [he]
  cases N with
  | nil => exact nh0 he hy
  | cons r N => exact b63 (by simp) hN1 hN2 (by have := hN4 (by simp); omega) hN3 hy
 ·exact pc5 he
theorem l62 {M K : List (List Int)} {y : List Int} (hy : y.length ≤ 100) (hM : ∀ b nl nr, o24 W 14 [.fz b (.sl nl 0 1 (lvs nr M))] [] = some (.x (.bool false), [], [])) (hK : ∀ b nl nr, o24 W 14 [.fz b (.sl nl 0 1 (lvs nr K))] [] = some (.x (.bool false), [], [])) (he : ¬ ug5 q M K = 0) :
 o24 W 3 [.x (.int .i64 q), .fz b (.sl nl 0 1 (lvs nr M)), .fz b2 (.sl nl2 0 1 (lvs nr2 K)), .fz b' (.sl nl' 0 1 (ivs y))] [] = some (.x (.bool true), [], []) := by
 have e1 := fun b nl nr => rz8 (q := q) (M := M) (b := b) (nl := nl) (nr := nr)
 have e2 := fun b nl nr => rz8 (q := q) (M := K) (b := b) (nl := nl) (nr := nr)
 have e3 := fun b b' nl nl' nr nr' => bj2 (b := b) (b' := b') (nl := nl) (nl' := nl') (nr := nr) (nr' := nr') he
 have e4 := fun b nl nr => or9 (M := M) (q := q) (b := b) (nl := nl) (nr := nr)
 have e5 := fun b b' nl nl' nr => d49 (q := q) (b := b) (b' := b') (nl := nl) (nl' := nl') (nr := nr) (M := M) (y := y) (by omega)
 have l1 := fun b b' nl nl' => dy0 (b := b) (b' := b') (nl := nl) (nl' := nl') (nr := 0) (nr' := 0) (l := []) (k := []) (e := ug5 q M K) (f := ug5 q M K) (by simp) (by simp)
 simp only [if_neg he, decide_true, Bool.true_and, List.length_nil, em1] at l1
 cases hn : fldN q.toNat with
 | none =>
   have e0 := fg0 hn
   have h1 : matE q M = 1 := by unfold matE; rw [hn]
   have ht : ug5 q M K = 1 := by unfold ug5; rw [h1, if_neg (by decide)]
   rw [ht] at e3 l1
   rw [h1] at e1 e4 e5
   rw [o10 rfl T3 rfl]
   unfold F3 c3
   simp (disch := first | omega | fail) only [push_cast, seval, ui5, lu7, y81, bj9, wrap64, dec_lt, cw6, nl3, qc6, mr8, nb8, if_pos, if_neg, e0, e1, e2, e3, e4, e5, l1, hM, hK]
 | some x =>
   obtain ⟨p0, m0, g0, mod⟩ := x
   haveI : IsFld q := ⟨⟨p0, m0, g0, mod, hn⟩⟩
   obtain ⟨p, m, g, t, u⟩ := k75 q
   have ht := u.n
   have ho := u.o
   have hfe := u.e
   by_cases h1 : matE q M = 0
   ·by_cases h2 : matE q K = 0
    ·have h3 : 0 < M.length ∧ (nth M 0).length ≠ K.length := Classical.byContradiction fun h => he (by unfold ug5; rw [if_pos h1, if_pos h2, if_neg h])
     have htt : ug5 q M K = 3 := by unfold ug5; rw [if_pos h1, if_pos h2, if_pos h3]
     rw [htt] at e3 l1
     rw [h1] at e1 e4 e5
     rw [h2] at e2
     obtain ⟨r0, hr0⟩ := ge6 (l := M) (i := 0) h3.1
     have h5 := lat (nl := nr) hr0
     have h6 := xr8 hr0
     rw [h6] at h3
     have h8 : ¬ (r0.length : Int) = (K.length : Int) := by omega
     rw [o10 rfl T3 rfl]
     unfold F3 c3
     simp (disch := first | omega | fail) only [push_cast, seval, ui5, lu7, y81, bj9, wrap64, dec_lt, cw6, nl3, qc6, mr8, nb8, if_pos, if_neg, hfe, ht, ho, e1, e2, e3, e4, e5, l1, hM, hK, h5, nb8 h8]
    ·have htt : ug5 q M K = matE q K := by unfold ug5; rw [if_pos h1, if_neg h2]
     rw [htt] at e3 l1
     rw [h1] at e1 e4 e5
     rw [o10 rfl T3 rfl]
     unfold F3 c3
     simp (disch := first | omega | fail) only [push_cast, seval, ui5, lu7, y81, bj9, wrap64, dec_lt, cw6, nl3, qc6, mr8, nb8, if_pos, if_neg, hfe, ht, ho, e1, e2, e3, e4, e5, l1, hM, hK, nb8 h2]
   ·have htt : ug5 q M K = matE q M := by unfold ug5; rw [if_neg h1]
    rw [htt] at e3 l1
    rw [o10 rfl T3 rfl]
    unfold F3 c3
    simp (disch := first | omega | fail) only [push_cast, seval, ui5, lu7, y81, bj9, wrap64, dec_lt, cw6, nl3, qc6, mr8, nb8, if_pos, if_neg, hfe, ht, ho, e1, e2, e3, e4, e5, l1, hM, hK, nb8 h1]
theorem mc6 {M K : List (List Int)} {y : List Int} (hy : y.length ≤ 100) (hM : ∀ b nl nr, o24 W 14 [.fz b (.sl nl 0 1 (lvs nr M))] [] = some (.x (.bool false), [], [])) (hK : ∀ b nl nr, o24 W 14 [.fz b (.sl nl 0 1 (lvs nr K))] [] = some (.x (.bool false), [], [])) (he : ug5 q M K = 0) :
 o24 W 3 [.x (.int .i64 q), .fz b (.sl nl 0 1 (lvs nr M)), .fz b2 (.sl nl2 0 1 (lvs nr2 K)), .fz b' (.sl nl' 0 1 (ivs y))] [] = some (.x (.bool true), [], []) := by
 have e1 := fun b nl nr => rz8 (q := q) (M := M) (b := b) (nl := nl) (nr := nr)
 have e2 := fun b nl nr => rz8 (q := q) (M := K) (b := b) (nl := nl) (nr := nr)
 have e4 := fun b nl nr => or9 (M := M) (q := q) (b := b) (nl := nl) (nr := nr)
 have e5 := fun b b' nl nl' nr => d49 (q := q) (b := b) (b' := b') (nl := nl) (nl' := nl') (nr := nr) (M := M) (y := y) (by omega)
 have he' := he
 unfold ug5 at he'
 split at he'
 ·rename_i h1
  split at he'
  ·rename_i h2
   obtain ⟨⟨⟨p0, m0, g0, mod⟩, hn⟩, P, rfl, hP1, hP2, hP3, hP4⟩ := ou8 h1
   obtain ⟨_, Q, rfl, hQ1, hQ2, hQ3, hQ4⟩ := ou8 h2
   haveI : IsFld q := ⟨⟨p0, m0, g0, mod, hn⟩⟩
   obtain ⟨p, m, g, t, u⟩ := k75 q
   have ht := u.n
   have ho := u.o
   have hfe := u.e
   rw [h1] at e1 e4 e5
   rw [h2] at e2
   by_cases hP0 : P = []
   ·subst hP0
    have e3 := fun b b' nl nl' nr' => sg2 (b := b) (b' := b') (nl := nl) (nl' := nl') (nr' := nr') (K := Q.map vs) (q := q) he
    have l1 := fun b b' nl nl' => dy0 (b := b) (b' := b') (nl := nl) (nl' := nl') (nr := 0) (nr' := 0) (l := []) (k := []) (e := 0) (f := 0) (by simp) (by simp)
    simp only [if_true, decide_true, Bool.true_and, em1] at l1
    have e1 := fun b nl => e1 b nl 0
    have e4 := fun b nl => e4 b nl 0
    have e5 := fun b b' nl nl' => e5 b b' nl nl' 0
    have hM := fun b nl => hM b nl 0
    simp only [List.map_nil, em1] at e1 e4 e5 hM
    rw [List.map_nil, em1, o10 rfl T3 rfl]
    unfold F3 c3
    simp (disch := first | omega | fail) only [push_cast, seval, ui5, lu7, y81, bj9, wrap64, dec_lt, cw6, nl3, qc6, mr8, nb8, if_pos, if_neg, hfe, ht, ho, e1, e2, e3, e4, e5, l1, hM, hK]
   ·have hPp : 0 < P.length := List.length_pos_iff.2 hP0
    have h3 : (nth P 0).length = Q.length := Classical.byContradiction fun h => by
     rw [if_pos ⟨by simpa using hPp, by rw [kn4, List.length_map]; exact h⟩] at he'
     cases he'
    have hQ0 : Q ≠ [] := fun e => by
     rw [e] at h3
     exact hP4 hP0 (by rw [h3]; rfl)
    have hQp : 0 < Q.length := List.length_pos_iff.2 hQ0
    have hPl : ∀ a ∈ P, a.length = Q.length := fun a ha => by rw [hP2 a ha, h3]
    have hN0 : 0 < (nth Q 0).length := by have := hQ4 hQ0; omega
    have e3 := fun b b' nl nl' nr nr' => t12 (b := b) (b' := b') (nl := nl) (nl' := nl') (nr := nr) (nr' := nr') hPp hPl hQ2 hQp hN0 hQ3 hQ1 hP1
    have e6 := fun b b' nl nl' nr nr' => h29 (b := b) (b' := b') (nl := nl) (nl' := nl') (nr := nr) (nr' := nr') hPl hQ2 hQp (by omega) (by omega) (by omega)
    rw [hfe] at e6
    have hml : ((em6 (nth Q 0).length P Q).map vs).length ≤ 9223372036854775807 := by rw [List.length_map]; unfold em6; rw [List.length_map]; omega
    have l1 := fun b b' nl nl' nr nr' => dy0 (b := b) (b' := b') (nl := nl) (nl' := nl') (nr := nr) (nr' := nr') (l := (em6 (nth Q 0).length P Q).map vs) (k := (em6 (nth Q 0).length P Q).map vs) (e := 0) (f := 0) hml (fun r hr => by
     obtain ⟨a, ha, rfl⟩ := List.mem_map.1 hr
     obtain ⟨c, hc, rfl⟩ := List.mem_map.1 ha
     rw [fi2, kv3, List.length_replicate]; omega)
    simp only [if_true, decide_true, Bool.true_and] at l1
    obtain ⟨r0, hr0⟩ := ge6 (l := P) (i := 0) hPp
    have h5 := mva (nl := nr) hr0
    have h6 := hPl r0 (List.mem_of_getElem? hr0)
    rw [o10 rfl T3 rfl]
    unfold F3 c3
    simp (disch := first | omega | fail) only [push_cast, seval, ui5, lu7, y81, bj9, wrap64, dec_lt, cw6, nl3, qc6, mr8, nb8, if_pos, if_neg, hfe, ht, ho, e1, e2, e3, e4, e5, e6, l1, hM, hK, h5, h6]
  ·rename_i h2; exact absurd he' h2
 ·rename_i h1; exact absurd he' h1
theorem gv7 {M K : List (List Int)} {y : List Int} (hMl : M.length ≤ 9223372036854775807) (hKl : K.length ≤ 9223372036854775807) :
 o24 W 3 [.x (.int .i64 q), .fz b (.sl nl 0 1 (lvs nr M)), .fz b2 (.sl nl2 0 1 (lvs nr2 K)), .fz b' (.sl nl' 0 1 (ivs y))] [] = some (.x (.bool true), [], []) := by
 obtain ⟨z1, hz1⟩ := tr6 hMl
 obtain ⟨z2, hz2⟩ := tr6 hKl
 cases z1 with
 | true =>
   rw [o10 rfl T3 rfl]
   unfold F3 c3
   simp (disch := first | omega | fail) only [push_cast, seval, ui5, lu7, y81, bj9, wrap64, dec_lt, cw6, nl3, qc6, mr8, nb8, if_pos, if_neg, hz1]
 | false =>
   cases z2 with
   | true =>
     rw [o10 rfl T3 rfl]
     unfold F3 c3
     simp (disch := first | omega | fail) only [push_cast, seval, ui5, lu7, y81, bj9, wrap64, dec_lt, cw6, nl3, qc6, mr8, nb8, if_pos, if_neg, hz1, hz2]
   | false =>
     by_cases hy : y.length ≤ 100
     ·by_cases he : ug5 q M K = 0
      ·exact mc6 hy hz1 hz2 he
      ·exact l62 hy hz1 hz2 he
     ·rw [o10 rfl T3 rfl]
      unfold F3 c3
      simp (disch := first | omega | fail) only [push_cast, seval, ui5, lu7, y81, bj9, wrap64, dec_lt, cw6, nl3, qc6, mr8, nb8, if_pos, if_neg, hz1, hz2]
end
end Go.Proofs.Ytjpejkakodbchaa
namespace Go.Proofs.Ytjpejkakodbchaa
open Go.Am Go.Vm Go.Alg
def pkI (a n : Int) : Int := (if a < 0 then -(a + 1) else a).tmod n
theorem h58 {a n : Int} (hn : 0 < n) : 0 ≤ pkI a n ∧ pkI a n < n := by
 unfold pkI
 split
 ·exact ⟨Int.tmod_nonneg _ (by omega), Int.tmod_lt_of_pos _ hn⟩
 ·exact ⟨Int.tmod_nonneg _ (by omega), Int.tmod_lt_of_pos _ hn⟩
def rwI (l : List Int) (i : Int) : Int := if l.length = 0 then i else IntKind.wrap .i64 (gi l (i.tmod l.length) + IntKind.wrap .i64 (IntKind.wrap .i64 (i.tdiv l.length) * 7919))
theorem ti9 (x : Int) : -9223372036854775808 ≤ IntKind.wrap .i64 x ∧ IntKind.wrap .i64 x ≤ 9223372036854775807 := by rw [IntKind.wrap_i64]; omega
theorem bd0 {l : List Int} {i : Int} (h0 : 0 ≤ i) (h1 : i ≤ 9223372036854775807) : -9223372036854775808 ≤ rwI l i ∧ rwI l i ≤ 9223372036854775807 := by
 unfold rwI
 split
 ·omega
 ·exact ti9 _
theorem cl0 {l : List Int} {i : Int} (h0 : 0 ≤ i) (h1 : i < l.length) : (ivs l)[i.toNat]? = some (.v (.int .i64 (gi l i))) := by
 have e : (ivs l)[i.toNat]? = some (.v (.int .i64 (gi l ((i.toNat : Nat) : Int)))) := ui5 (by omega)
 rwa [Int.toNat_of_nonneg h0] at e
theorem o99 {x : Int} (h0 : 0 ≤ x) {n : Int} (h : x < n) : ∃ k : Nat, x = (k : Int) ∧ (k : Int) < n := ⟨x.toNat, by omega, by omega⟩
section
variable {b : Bool} {nl : Nat} {raw : List Int}
theorem s88 {a n : Int} (h1 : -9223372036854775808 ≤ a) (h2 : a ≤ 9223372036854775807) (hn : 0 < n) : o24 W 23 [.x (.int .i64 a), .x (.int .i64 n)] [] = some (.x (.int .i64 (pkI a n)), [], []) := by
 have hz : ¬ n = 0 := by omega
 rw [o10 rfl T23 rfl]
 unfold F23 c23 pkI
 by_cases h0 : a < 0
 ·rw [if_pos h0]
  simp (disch := first | omega | fail) only [push_cast, seval, ui5, lu7, y81, bj9, wrap64, dec_lt, cw6, nl3, qc6, mr8, nb8, if_pos, if_neg, nb8 hz, hz]
  rw [show (0 : Int) - (a + 1) = -(a + 1) by omega]
 ·rw [if_neg h0]
  simp (disch := first | omega | fail) only [push_cast, seval, ui5, lu7, y81, bj9, wrap64, dec_lt, cw6, nl3, qc6, mr8, nb8, if_pos, if_neg, nb8 hz, hz]
theorem yc3 {i : Int} (hi : 0 ≤ i) (hl : raw.length ≤ 9223372036854775807) : o24 W 40 [.fz b (.sl nl 0 1 (ivs raw)), .x (.int .i64 i)] [] = some (.x (.int .i64 (rwI raw i)), [], []) := by
 rw [o10 rfl T40 rfl]
 unfold F40 c40 rwI
 by_cases h0 : raw.length = 0
 ·rw [if_pos h0]
  have h0' : (raw.length : Int) = 0 := by omega
  simp (disch := first | omega | fail) only [push_cast, seval, ui5, lu7, y81, bj9, wrap64, dec_lt, cw6, nl3, qc6, mr8, nb8, if_pos, if_neg, h0']
 ·rw [if_neg h0]
  have hz : ¬ (raw.length : Int) = 0 := by omega
  have b1 : 0 ≤ i.tmod raw.length := Int.tmod_nonneg _ hi
  have b2 : i.tmod raw.length < raw.length := Int.tmod_lt_of_pos _ (by omega)
  have e := cl0 b1 b2
  simp (disch := first | omega | fail) only [push_cast, seval, ui5, lu7, y81, bj9, wrap64, dec_lt, cw6, nl3, qc6, mr8, nb8, if_pos, if_neg, hz, nb8 hz, e]
def numV (raw : List Int) (frm q : Int) (k : Nat) : Int := pkI (rwI raw (frm + k)) q
def tv7 (raw : List Int) (frm q : Int) (n : Nat) : List Int := (List.range n).map (numV raw frm q)
theorem jd5 (raw : List Int) (frm q : Int) (n : Nat) : (tv7 raw frm q n).length = n := by simp [tv7]
theorem ce7 (raw : List Int) (frm q : Int) (n : Nat) : tv7 raw frm q (n + 1) = tv7 raw frm q n ++ [numV raw frm q n] := by unfold tv7; rw [List.range_succ, List.map_append]; rfl
theorem dm5 {raw : List Int} {frm q : Int} {n : Nat} (hq : 0 < q) : ∀ z ∈ tv7 raw frm q n, fok q z = true := fun z hz => by
 obtain ⟨k, _, rfl⟩ := List.mem_map.1 hz
 have := h58 (a := rwI raw (frm + k)) hq
 unfold numV fok
 rw [decide_eq_true this.1, decide_eq_true this.2]; rfl
theorem m61 {raw : List Int} {frm q : Int} {n : Nat} (hq : 0 < q) : ∃ l : List (El q), tv7 raw frm q n = vs l ∧ l.length = n := by
 obtain ⟨l, hl⟩ := n39 (dm5 (raw := raw) (frm := frm) (n := n) hq)
 exact ⟨l, hl, by rw [← fi2, ← hl, jd5]⟩
theorem yq2 (hrl : raw.length ≤ 9223372036854775807) {frm q : Int} (hf0 : 0 ≤ frm) (hf1 : frm ≤ 1000000000) (hq0 : 0 < q) {N : Nat} (hN : N ≤ 100000) : ∀ (d i : Nat), i + d = N → ∀ ks,
 vgoL W ⟨h25, [.tmp 8], 0⟩ [0, 1, 2, 3, 9, 10] c25L0 (.blk 0 [9] :: ks) [(0, .fz b (.sl nl 0 1 (ivs raw))), (1, .x (.int .i64 frm)), (2, .x (.int .i64 q)), (3, .x (.int .i64 N)), (9, .own 0 []), (10, .x (.int .i64 i))] [.sl 1 3 1 (ivs (tv7 raw frm q i))] =
  vgo W ⟨h25, [.tmp 8], 0⟩ ks (VFr.of [(9, .own 0 [])]) [.sl 1 3 1 (ivs (tv7 raw frm q N))]
 | 0, i, hi, ks => by
   obtain rfl : i = N := by omega
   rw [sb5 c25L0.eq_def]
   simp (disch := first | omega | fail) only [push_cast, seval, ui5, lu7, y81, bj9, wrap64, dec_lt, cw6, nl3, qc6, mr8, nb8, if_pos, if_neg]
 | d + 1, i, hi, ks => by
   have ih := yq2 hrl hf0 hf1 hq0 hN d (i + 1) (by omega) ks
   have e1 := fun b nl => yc3 (b := b) (nl := nl) (raw := raw) (i := frm + i) (by omega) hrl
   have hri := bd0 (l := raw) (i := frm + i) (by omega) (by omega)
   have e2 := s88 (n := q) hri.1 hri.2 hq0
   have hl := jd5 raw frm q i
   rw [Int.natCast_add, Int.natCast_one, ce7, numV] at ih
   rw [← ih, sb5 c25L0.eq_def]
   simp (disch := first | omega | fail) only [push_cast, seval, ui5, lu7, y81, bj9, wrap64, dec_lt, cw6, nl3, qc6, mr8, nb8, if_pos, if_neg, e1, e2, hl]
theorem vv4 (hrl : raw.length ≤ 9223372036854775807) {frm q : Int} (hf0 : 0 ≤ frm) (hf1 : frm ≤ 1000000000) (hq0 : 0 < q) {N : Nat} (hN : N ≤ 100000) : o24 W 25 [.fz b (.sl nl 0 1 (ivs raw)), .x (.int .i64 frm), .x (.int .i64 q), .x (.int .i64 N)] [] = some (.own 0 [], [.sl 1 3 1 (ivs (tv7 raw frm q N))], []) := by
 have e := fun ks => yq2 (b := b) (nl := nl) hrl hf0 hf1 hq0 hN N 0 (by omega) ks
 rw [show tv7 raw frm q 0 = [] from rfl] at e
 simp only [Int.natCast_zero, List.take_zero, List.drop_zero, rp2, lz6, x25, List.map_nil, List.length_nil] at e
 rw [o10 rfl T25 rfl]
 unfold F25 c25
 simp (disch := first | omega | fail) only [push_cast, seval, ui5, lu7, y81, bj9, wrap64, dec_lt, cw6, nl3, qc6, mr8, nb8, if_pos, if_neg]
 rw [e]
 simp (disch := first | omega | fail) only [push_cast, seval, ui5, lu7, y81, bj9, wrap64, dec_lt, cw6, nl3, qc6, mr8, nb8, if_pos, if_neg]
def i35 (raw : List Int) (frm q : Int) (n m : Nat) : List (List Int) := (List.range m).map fun i : Nat => tv7 raw (frm + (i : Int) * (n : Int)) q n
theorem om4 (raw : List Int) (frm q : Int) (n m : Nat) : (i35 raw frm q n m).length = m := by simp [i35]
theorem ot3 (raw : List Int) (frm q : Int) (n m : Nat) : i35 raw frm q n (m + 1) = i35 raw frm q n m ++ [tv7 raw (frm + m * n) q n] := by unfold i35; rw [List.range_succ, List.map_append]; rfl
theorem fw6 {raw : List Int} {frm q : Int} {n : Nat} (hq : 0 < q) : ∀ m, ∃ M : List (List (El q)), i35 raw frm q n m = M.map vs ∧ M.length = m ∧ ∀ r ∈ M, r.length = n
 | 0 => ⟨[], rfl, rfl, fun r hr => by cases hr⟩
 | m + 1 => by
   obtain ⟨M, h1, h2, h3⟩ := fw6 (raw := raw) (frm := frm) (n := n) hq m
   obtain ⟨l, e1, e2⟩ := m61 (raw := raw) (frm := frm + m * n) (n := n) hq
   refine ⟨M ++ [l], by rw [ot3, h1, e1, List.map_append]; rfl, by rw [List.length_append, h2]; rfl, fun r hr => ?_⟩
   rcases List.mem_append.1 hr with h | h
   ·exact h3 r h
   ·rw [List.mem_singleton.1 h, e2]
theorem hy2 (hrl : raw.length ≤ 9223372036854775807) {frm q : Int} (hf0 : 0 ≤ frm) (hf1 : frm ≤ 1000000) (hq0 : 0 < q) {n m : Nat} (hn : n ≤ 200) (hm : m ≤ 200) : ∀ (d i : Nat), i + d = m → ∀ ks,
 vgoL W ⟨h24, [.tmp 10], 0⟩ [0, 1, 2, 3, 4, 11, 12] c24L0 (.blk 0 [11] :: ks) [(0, .fz b (.sl nl 0 1 (ivs raw))), (1, .x (.int .i64 frm)), (2, .x (.int .i64 q)), (3, .x (.int .i64 m)), (4, .x (.int .i64 n)), (11, .own 0 []), (12, .x (.int .i64 i))] [.sl 1 23 1 (lls 2 (i35 raw frm q n i))] =
  vgo W ⟨h24, [.tmp 10], 0⟩ ks (VFr.of [(11, .own 0 [])]) [.sl 1 23 1 (lls 2 (i35 raw frm q n m))]
 | 0, i, hi, ks => by
   obtain rfl : i = m := by omega
   rw [sb5 c24L0.eq_def]
   simp (disch := first | omega | fail) only [push_cast, seval, ui5, lu7, y81, bj9, wrap64, dec_lt, cw6, nl3, qc6, mr8, nb8, if_pos, if_neg]
 | d + 1, i, hi, ks => by
   have ih := hy2 hrl hf0 hf1 hq0 hn hm d (i + 1) (by omega) ks
   have hb : ((i * n : Nat) : Int) ≤ 40000 := by have := Nat.mul_le_mul (show i ≤ 200 by omega) hn; omega
   rw [Int.natCast_mul] at hb
   have hb0 : 0 ≤ (i : Int) * (n : Int) := Int.mul_nonneg (by omega) (by omega)
   have e1 := fun b nl => vv4 (b := b) (nl := nl) (frm := frm + i * n) (N := n) hrl (by omega) (by omega) hq0 (by omega)
   have hl := om4 raw frm q n i
   rw [Int.natCast_add, Int.natCast_one, ot3] at ih
   rw [← ih, sb5 c24L0.eq_def]
   simp (disch := first | omega | fail) only [push_cast, seval, ui5, lu7, y81, bj9, wrap64, dec_lt, cw6, nl3, qc6, mr8, nb8, if_pos, if_neg, e1, hl]
theorem g25 (hrl : raw.length ≤ 9223372036854775807) {frm q : Int} (hf0 : 0 ≤ frm) (hf1 : frm ≤ 1000000) (hq0 : 0 < q) {n m : Nat} (hn : n ≤ 200) (hm : m ≤ 200) : o24 W 24 [.fz b (.sl nl 0 1 (ivs raw)), .x (.int .i64 frm), .x (.int .i64 q), .x (.int .i64 m), .x (.int .i64 n)] [] = some (.own 0 [], [.sl 1 23 1 (lls 2 (i35 raw frm q n m))], []) := by
 have e := fun ks => hy2 (b := b) (nl := nl) hrl hf0 hf1 hq0 hn hm m 0 (by omega) ks
 rw [show i35 raw frm q n 0 = [] from rfl] at e
 simp only [Int.natCast_zero, List.take_zero, List.drop_zero, rp2, lz6, x25, List.map_nil, List.length_nil] at e
 rw [o10 rfl T24 rfl]
 unfold F24 c24
 simp (disch := first | omega | fail) only [push_cast, seval, ui5, lu7, y81, bj9, wrap64, dec_lt, cw6, nl3, qc6, mr8, nb8, if_pos, if_neg]
 rw [e]
 simp (disch := first | omega | fail) only [push_cast, seval, ui5, lu7, y81, bj9, wrap64, dec_lt, cw6, nl3, qc6, mr8, nb8, if_pos, if_neg]
end
theorem hl9 (p : Int) (hp : 2 ≤ p ∧ p ≤ 64) : ∀ (n : Nat) (q m q' m' : Int), 1 ≤ q → q ≤ 64 → 0 ≤ m → m + n ≤ 100 → dvdN n q p m = some (q', m') →
 (1 ≤ q' ∧ q' ≤ 64) ∧ ∀ ks, vgoL W ⟨hNo, [.tmp 2, .tmp 3], 0⟩ [0, 4, 5] c72L0 (.blk 2 [0, 4, 5] :: ks) [(0, .x (.int .i64 q)), (4, .x (.int .i64 p)), (5, .x (.int .i64 m))] [] = vgo W ⟨hNo, [.tmp 2, .tmp 3], 0⟩ ks (VFr.of [(0, .x (.int .i64 q')), (4, .x (.int .i64 p)), (5, .x (.int .i64 m'))]) []
 | 0, q, m, q', m', h1, h2, h3, h4, he => by cases he
 | n + 1, q, m, q', m', h1, h2, h3, h4, he => by
   rw [dvdN] at he
   have hp0 : ¬ p = 0 := by omega
   have q1 : q.tmod p = q % p := Int.tmod_eq_emod_of_nonneg (by omega)
   have q2 : q.tdiv p = q / p := Int.tdiv_eq_ediv_of_nonneg (by omega)
   by_cases hz : q % p = 0
   ·rw [show (q % p == 0) = true by simpa using hz, cond_true] at he
    have hd : 1 ≤ q / p := by
     rcases Int.lt_or_le (q / p) 1 with h | h
     ·have h5 : 0 ≤ q / p := Int.ediv_nonneg (by omega) (by omega)
      have h6 : q / p = 0 := by omega
      have := Int.emod_add_mul_ediv q p
      rw [h6, hz] at this; omega
     ·exact h
    have hd2 : q / p ≤ q := Int.ediv_le_self _ (by omega)
    obtain ⟨hb, ih⟩ := hl9 p hp n (q / p) (m + 1) q' m' hd (by omega) (by omega) (by omega) he
    refine ⟨hb, fun ks => ?_⟩
    rw [← ih ks, sb5 c72L0.eq_def]
    simp (disch := first | omega | fail) only [push_cast, seval, ui5, lu7, y81, bj9, wrap64, dec_lt, cw6, nl3, qc6, mr8, nb8, if_pos, if_neg, hp0, q1, q2, mr8 hz]
   ·rw [show (q % p == 0) = false by simpa using hz, cond_false] at he
    cases he
    refine ⟨⟨h1, h2⟩, fun ks => ?_⟩
    rw [sb5 c72L0.eq_def]
    simp (disch := first | omega | fail) only [push_cast, seval, ui5, lu7, y81, bj9, wrap64, dec_lt, cw6, nl3, qc6, mr8, nb8, if_pos, if_neg, hp0, q1, nb8 hz]
theorem ra6 (q : Int) (hq : 2 ≤ q ∧ q ≤ 64) : ∀ (n : Nat) (p : Int) (r : Int × Int), 2 ≤ p → p ≤ 64 → outN n q p = some r →
 ∀ ks, vgoL W ⟨hNo, [.tmp 2, .tmp 3], 0⟩ [0, 4] c72L1 (.blk 0 [] :: ks) [(0, .x (.int .i64 q)), (4, .x (.int .i64 p))] [] = some (.tup [.x (.int .i64 r.1), .x (.int .i64 r.2)], [], [])
 | 0, p, r, h1, h2, he => by cases he
 | n + 1, p, r, h1, h2, he => fun ks => by
   rw [outN] at he
   by_cases hl : q < p
   ·rw [decide_eq_true hl, cond_true] at he; cases he
   rw [decide_eq_false hl, cond_false] at he
   have hp0 : ¬ p = 0 := by omega
   have q1 : q.tmod p = q % p := Int.tmod_eq_emod_of_nonneg (by omega)
   by_cases hz : q % p = 0
   ·rw [show (q % p == 0) = true by simpa using hz, cond_true] at he
    cases hd : dvdN 64 q p 0 with
    | none => rw [hd] at he; cases he
    | some x =>
      obtain ⟨q', m'⟩ := x
      rw [hd] at he
      simp only [Option.some.injEq] at he
      obtain ⟨hb, hin⟩ := hl9 p ⟨h1, h2⟩ 64 q 0 q' m' (by omega) (by omega) (by omega) (by omega) hd
      rw [sb5 c72L1.eq_def]
      simp (disch := first | omega | fail) only [push_cast, seval, ui5, lu7, y81, bj9, wrap64, dec_lt, cw6, nl3, qc6, mr8, nb8, if_pos, if_neg, hp0, q1, mr8 hz]
      rw [hin]
      by_cases ho : q' = 1
      ·rw [show (q' == 1) = true by simpa using ho, cond_true] at he
       rw [← he]
       simp (disch := first | omega | fail) only [push_cast, seval, ui5, lu7, y81, bj9, wrap64, dec_lt, cw6, nl3, qc6, mr8, nb8, if_pos, if_neg, mr8 ho]
      ·rw [show (q' == 1) = false by simpa using ho, cond_false] at he
       rw [← he]
       simp (disch := first | omega | fail) only [push_cast, seval, ui5, lu7, y81, bj9, wrap64, dec_lt, cw6, nl3, qc6, mr8, nb8, if_pos, if_neg, nb8 ho]
   ·rw [show (q % p == 0) = false by simpa using hz, cond_false] at he
    by_cases hp64 : p = 64
    ·subst hp64; omega
    have ih := ra6 q hq n (p + 1) r (by omega) (by omega) he ks
    rw [← ih, sb5 c72L1.eq_def]
    simp (disch := first | omega | fail) only [push_cast, seval, ui5, lu7, y81, bj9, wrap64, dec_lt, cw6, nl3, qc6, mr8, nb8, if_pos, if_neg, hp0, q1, nb8 hz]
theorem fh8 {q : Int} (hq : 2 ≤ q ∧ q ≤ 64) {r : Int × Int} (he : outN 64 q 2 = some r) : o24 W 72 [.x (.int .i64 q)] [] = some (.tup [.x (.int .i64 r.1), .x (.int .i64 r.2)], [], []) := by
 rw [o10 rfl T72 rfl]
 unfold F72 c72
 simp (disch := first | omega | fail) only [push_cast, seval, ui5, lu7, y81, bj9, wrap64, dec_lt, cw6, nl3, qc6, mr8, nb8, if_pos, if_neg]
 rw [ra6 q hq 64 2 r (by omega) (by omega) he]
def szN : Nat → Nat → List Int
 | 0, _ => []
 | n + 1, q => bif (fldN q).isSome then (q : Int) :: szN n (q + 1) else szN n (q + 1)
def szL : List Int := szN 63 2
theorem pb4 : szL.length = 27 := by kernel_rfl
theorem ho7 : (szL.all fun z => decide (2 ≤ z) && decide (z ≤ 64) && (fldN z.toNat).isSome) = true := by kernel_rfl
theorem x14 {z : Int} (hz : z ∈ szL) : 2 ≤ z ∧ z ≤ 64 ∧ IsFld z := by
 have := List.all_eq_true.1 ho7 z hz
 simp only [Bool.and_eq_true, decide_eq_true_eq] at this
 obtain ⟨⟨h1, h2⟩, h3⟩ := this
 obtain ⟨⟨p, m, g, mod⟩, hx⟩ := Option.isSome_iff_exists.1 h3
 exact ⟨h1, h2, ⟨p, m, g, mod, hx⟩⟩
theorem jl0 : ∀ (n q : Nat) (zs : List Int), q + n = 65 → 2 ≤ q → zs.length ≤ q → ∀ ks,
 vgoL W ⟨h89, [.tmp 0], 0⟩ [1, 2] c89L0 (.blk 0 [1] :: ks) [(1, .own 0 []), (2, .x (.int .i64 q))] [.sl 1 3 1 (ivs zs)] = vgo W ⟨h89, [.tmp 0], 0⟩ ks (VFr.of [(1, .own 0 [])]) [.sl 1 3 1 (ivs (zs ++ szN n q))]
 | 0, q, zs, hq, hq2, hz, ks => by
   rw [szN, List.append_nil, sb5 c89L0.eq_def]
   simp (disch := first | omega | fail) only [push_cast, seval, ui5, lu7, y81, bj9, wrap64, dec_lt, cw6, nl3, qc6, mr8, nb8, if_pos, if_neg]
 | n + 1, q, zs, hq, hq2, hz, ks => by
   have hle : (q : Int) ≤ 64 := by omega
   cases hs : fldN q with
   | none =>
     have ho := wd5 (n := q) hq2 (by omega) hs
     have ep := fh8 (q := (q : Int)) (by omega) ho
     have ih := jl0 n (q + 1) zs (by omega) (by omega) (by omega) ks
     have hw : zs ++ szN (n + 1) q = zs ++ szN n (q + 1) := by rw [szN, hs]; rfl
     rw [Int.natCast_add, Int.natCast_one] at ih
     rw [hw, ← ih, sb5 c89L0.eq_def]
     simp (disch := first | omega | fail) only [push_cast, seval, ui5, lu7, y81, bj9, wrap64, dec_lt, cw6, nl3, qc6, mr8, nb8, if_pos, if_neg, ep, decide_false, Int.lt_irrefl]
   | some x =>
     obtain ⟨p, m, g, mod⟩ := x
     obtain ⟨hf, ho, _⟩ := hi9 hs
     have hp2 := hf.p2
     have hpp : 0 < p := by omega
     have ep := fh8 (q := (q : Int)) (by omega) ho
     have ih := jl0 n (q + 1) (zs ++ [(q : Int)]) (by omega) (by omega) (by simp; omega) ks
     have hw : zs ++ szN (n + 1) q = zs ++ [(q : Int)] ++ szN n (q + 1) := by rw [szN, hs]; simp
     rw [Int.natCast_add, Int.natCast_one] at ih
     rw [hw, ← ih, sb5 c89L0.eq_def]
     simp (disch := first | omega | fail) only [push_cast, seval, ui5, lu7, y81, bj9, wrap64, dec_lt, cw6, nl3, qc6, mr8, nb8, if_pos, if_neg, ep, dec_lt hpp]
theorem n63 : o24 W 89 [] [] = some (.own 0 [], [.sl 1 3 1 (ivs szL)], []) := by
 have e := fun ks => jl0 63 2 [] rfl (by omega) (by simp) ks
 rw [List.nil_append, show ((2 : Nat) : Int) = 2 from rfl] at e
 simp only [Int.natCast_zero, List.take_zero, List.drop_zero, rp2, lz6, x25, List.map_nil, List.length_nil] at e
 rw [o10 rfl T89 rfl]
 unfold F89 c89
 simp (disch := first | omega | fail) only [push_cast, seval, ui5, lu7, y81, bj9, wrap64, dec_lt, cw6, nl3, qc6, mr8, nb8, if_pos, if_neg]
 rw [e]
 simp (disch := first | omega | fail) only [push_cast, seval, ui5, lu7, y81, bj9, wrap64, dec_lt, cw6, nl3, qc6, mr8, nb8, if_pos, if_neg]
 rfl
theorem hl8 {i : Int} (h0 : 0 ≤ i) (h1 : i < 27) : gi szL i ∈ szL ∧ (ivs szL)[i.toNat]? = some (.v (.int .i64 (gi szL i))) := by
 have hl := pb4
 have h2 := cl0 (l := szL) h0 (by omega)
 refine ⟨?_, h2⟩
 have h3 : i.toNat < szL.length := by omega
 have : gi szL i = szL[i.toNat] := by
  rw [show (ivs szL)[i.toNat]? = some (.v (.int .i64 (szL[i.toNat]))) from by unfold ivs; rw [List.getElem?_map, List.getElem?_eq_getElem h3]; rfl] at h2
  simpa using h2.symm
 rw [this]
 exact List.getElem_mem h3
theorem jx7 (c : Int) (h1 : -9223372036854775808 ≤ c) (h2 : c ≤ 9223372036854775807) : ∃ z, z ∈ szL ∧ o24 W 22 [.x (.int .i64 c)] [] = some (.x (.int .i64 z), [], []) := by
 have e1 := n63
 have hl := pb4
 have e2 := s88 (a := c) (n := 100) h1 h2 (by omega)
 have r1 := h58 (a := c) (n := 100) (by omega)
 generalize pkI c 100 = k at e2 r1
 by_cases hk : k < 60
 ·have r2 : 0 ≤ k.tmod 7 ∧ k.tmod 7 < 7 := ⟨Int.tmod_nonneg _ r1.1, Int.tmod_lt_of_pos _ (by decide)⟩
  have a1 := hl8 (i := k.tmod 7) r2.1 (by omega)
  refine ⟨_, a1.1, ?_⟩
  have a2 := a1.2
  rw [o10 rfl T22 rfl]
  unfold F22 c22
  simp (disch := first | omega | fail) only [push_cast, seval, ui5, lu7, y81, bj9, wrap64, dec_lt, cw6, nl3, qc6, mr8, nb8, if_pos, if_neg, e1, e2, hl, a2]
 ·have r3 : -9223372036854775808 ≤ c.tdiv 100 ∧ c.tdiv 100 ≤ 9223372036854775807 := by
   rcases Int.le_total 0 c with h | h
   ·rw [Int.tdiv_eq_ediv_of_nonneg h]; omega
   ·have : c.tdiv 100 = -((-c).tdiv 100) := by rw [Int.neg_tdiv, Int.neg_neg]
    rw [this, Int.tdiv_eq_ediv_of_nonneg (by omega)]; omega
  have e3 := s88 (a := c.tdiv 100) (n := 27) r3.1 r3.2 (by omega)
  have r4 := h58 (a := c.tdiv 100) (n := 27) (by omega)
  have a1 := hl8 (i := pkI (c.tdiv 100) 27) r4.1 r4.2
  refine ⟨_, a1.1, ?_⟩
  have a2 := a1.2
  rw [o10 rfl T22 rfl]
  unfold F22 c22
  simp (disch := first | omega | fail) only [push_cast, seval, ui5, lu7, y81, bj9, wrap64, dec_lt, cw6, nl3, qc6, mr8, nb8, if_pos, if_neg, e1, e2, hl, e3, a2]
end Go.Proofs.Ytjpejkakodbchaa
namespace Go.Proofs.Ytjpejkakodbchaa
open Go.Am Go.Vm Go.Alg
theorem au2 {b : Bool} {nl : Nat} {raw : List Int} (hl : raw.length ≤ 9223372036854775807) {q m n k : Int} (q1 : -9223372036854775808 ≤ q) (q2 : q ≤ 9223372036854775807) (m1 : -9223372036854775808 ≤ m) (m2 : m ≤ 9223372036854775807) (n1 : -9223372036854775808 ≤ n) (n2 : n ≤ 9223372036854775807) (k1 : -9223372036854775808 ≤ k) (k2 : k ≤ 9223372036854775807) :
 o24 W 4 [.fz b (.sl nl 0 1 (ivs raw)), .x (.int .i64 q), .x (.int .i64 m), .x (.int .i64 n), .x (.int .i64 k)] [] = some (.x (.bool true), [], []) := by
 by_cases h256 : 256 < raw.length
 ·rw [o10 rfl T4 rfl]
  unfold F4 c4
  simp (disch := first | omega | fail) only [push_cast, seval, ui5, lu7, y81, bj9, wrap64, dec_lt, cw6, nl3, qc6, mr8, nb8, if_pos, if_neg]
 ·obtain ⟨z, hz, e0⟩ := jx7 q q1 q2
  obtain ⟨z1, z2, hfz⟩ := x14 hz
  haveI := hfz
  have p1 := s88 (n := 6) m1 m2 (by omega)
  have p2 := s88 (n := 6) n1 n2 (by omega)
  have p3 := s88 (n := 6) k1 k2 (by omega)
  obtain ⟨m', hm, hm6⟩ := o99 (h58 (a := m) (n := 6) (by omega)).1 (h58 (a := m) (n := 6) (by omega)).2
  obtain ⟨n', hn, hn6⟩ := o99 (h58 (a := n) (n := 6) (by omega)).1 (h58 (a := n) (n := 6) (by omega)).2
  obtain ⟨k', hk, hk6⟩ := o99 (h58 (a := k) (n := 6) (by omega)).1 (h58 (a := k) (n := 6) (by omega)).2
  rw [hm] at p1
  rw [hn] at p2
  rw [hk] at p3
  have hr : raw.length ≤ 9223372036854775807 := hl
  obtain ⟨M, hM, hMl, hMr⟩ := fw6 (raw := raw) (frm := 0) (q := z) (n := n' + 1) (by omega) (m' + 1)
  obtain ⟨S, hS, hSl, hSr⟩ := fw6 (raw := raw) (frm := 7) (q := z) (n := n' + 1) (by omega) (n' + 1)
  have hb0 : 0 ≤ ((m' : Int) + 1) * ((n' : Int) + 1) := Int.mul_nonneg (by omega) (by omega)
  have hb1 : ((m' : Int) + 1) * ((n' : Int) + 1) ≤ 36 := by
   have := Nat.mul_le_mul (show m' + 1 ≤ 6 by omega) (show n' + 1 ≤ 6 by omega)
   have h2 : (((m' + 1) * (n' + 1) : Nat) : Int) ≤ 36 := by omega
   rwa [Int.natCast_mul, Int.natCast_add, Int.natCast_add] at h2
  have a1 := fun b nl => g25 (b := b) (nl := nl) hr (frm := 0) (q := z) (by omega) (by omega) (by omega) (n := n' + 1) (m := m' + 1) (by omega) (by omega)
  have a2 := fun b nl => g25 (b := b) (nl := nl) hr (frm := 7) (q := z) (by omega) (by omega) (by omega) (n := n' + 1) (m := n' + 1) (by omega) (by omega)
  have a3 := fun b nl => g25 (b := b) (nl := nl) hr (frm := ((m' : Int) + 1) * ((n' : Int) + 1)) (q := z) (by omega) (by omega) (by omega) (n := k' + 1) (m := n' + 1) (by omega) (by omega)
  have a4 := fun b nl => vv4 (b := b) (nl := nl) hr (frm := 3) (q := z) (by omega) (by omega) (by omega) (N := m' + 1) (by omega)
  have a5 := fun b nl => vv4 (b := b) (nl := nl) hr (frm := 5) (q := z) (by omega) (by omega) (by omega) (N := n' + 1) (by omega)
  have l4 := jd5 raw 3 z (m' + 1)
  have l5 := jd5 raw 5 z (n' + 1)
  have s1 := fun b b2 b' nl nl2 nl' nr nr2 => gv7 (b := b) (b2 := b2) (b' := b') (nl := nl) (nl2 := nl2) (nl' := nl') (nr := nr) (nr2 := nr2) (q := z) (M := i35 raw 0 z (n' + 1) (m' + 1)) (K := i35 raw (((m' : Int) + 1) * ((n' : Int) + 1)) z (k' + 1) (n' + 1)) (y := tv7 raw 3 z (m' + 1)) (by rw [om4]; omega) (by rw [om4]; omega)
  have hE : matE z (i35 raw 7 z (n' + 1) (n' + 1)) = 0 := by
   rw [hS]
   exact sy6 (n := n' + 1) (by omega) hSr (by omega) (by omega)
  have s2 := fun b b' nl nl' nr => d49 (b := b) (b' := b') (nl := nl) (nl' := nl') (nr := nr) (q := z) (M := i35 raw 7 z (n' + 1) (n' + 1)) (y := tv7 raw 5 z (n' + 1)) (by rw [l5]; omega)
  simp only [hE] at s2
  simp only [Int.natCast_add, Int.natCast_one, Int.add_comm _ (1 : Int)] at hb0 hb1 a1 a2 a3 a4 a5 s1 s2
  rw [o10 rfl T4 rfl]
  unfold F4 c4
  simp (disch := first | omega | fail) only [push_cast, seval, ui5, lu7, y81, bj9, wrap64, dec_lt, cw6, nl3, qc6, mr8, nb8, if_pos, if_neg, e0, p1, p2, p3, a1, a2, a3, a4, a5, s1, s2]
end Go.Proofs.Ytjpejkakodbchaa
namespace Go.Proofs.Ytjpejkakodbchaa
open Go.Am Go.Vm Go.Alg
section
variable {h : H} {l : List AV} {ws : List Value}
theorem a23 : Vm.VRL h [] (allZ h) (allZ h) [] [] := by rw [Vm.VRL]
theorem dp0 (r : Vm.VRL h [] (allZ h) (allZ h) l ws) (v : Value) : Vm.VRL h [] (allZ h) (allZ h) (.x v :: l) (v :: ws) := by
 rw [Vm.VRL]; exact ⟨v, ws, rfl, by rw [Vm.VR], r⟩
theorem qj4 {sa : Option Addr} {c : Nat} {zs : List Int} (hr : RdI h sa c zs) : ∀ o, sa.map (·.block) = some o → allZ h o := fun o ho => by
 rcases hr with ⟨rfl, _⟩ | ⟨_, o2, off, r2, rfl, h1, _⟩
 ·cases ho
 ·cases ho; exact h42 h1
theorem sk6 (r : Vm.VRL h [] (allZ h) (allZ h) l ws) {sa : Option Addr} {c : Nat} {zs : List Int} (hr : RdI h sa c zs) : Vm.VRL h [] (allZ h) (allZ h) (.fz true (.sl 2 0 1 (ivs zs)) :: l) (.slice sa zs.length c :: ws) := by
 rw [Vm.VRL]; exact ⟨_, ws, rfl, by rw [Vm.VR]; exact pd9 hr (qj4 hr), r⟩
end
end Go.Proofs.Ytjpejkakodbchaa
namespace Go.Proofs.Ytjpejkakodbchaa
open Go.Am Go.Vm Go.Alg
theorem gr3 (h : H) (s0 : Option Addr) (c0 : Nat) (z0 : List Int) (r0 : RdI h s0 c0 z0) (_ : ss4 h 1 s0 = true) (_ : z0.length ≤ 9223372036854775807) (a1 : Int) (_ : -9223372036854775808 ≤ a1) (_ : a1 ≤ 9223372036854775807) (a2 : Int) (_ : -9223372036854775808 ≤ a2) (_ : a2 ≤ 9223372036854775807) (a3 : Int) (_ : -9223372036854775808 ≤ a3) (_ : a3 ≤ 9223372036854775807) (a4 : Int) (_ : -9223372036854775808 ≤ a4) (_ : a4 ≤ 9223372036854775807) :
 ∃ h', call T 4 [.slice s0 z0.length c0, .int .i64 a1, .int .i64 a2, .int .i64 a3, .int .i64 a4] h = some (.bool true, h') :=
 vlaw lw2 (sk6 (dp0 (dp0 (dp0 (dp0 a23 _) _) _) _) r0) (by apply au2 <;> assumption)
end Go.Proofs.Ytjpejkakodbchaa
