/-
  The law of matrices. Conditions: lists as Go has them.
  The laws of matrices. Conditions: lists as Go has them.
  A law's arguments in the second machine. No condition.
  MatrixSays answers true, in the first machine. Conditions: arguments as memory has them.
-/
import Derived.Test.YtjpejkakodbchaaK7
import Derived.Test.YtjpejkakodbchaaK6
set_option linter.unusedVariables false
set_option linter.unusedSimpArgs false
set_option linter.unusedSectionVars false
namespace Go.Proofs.Ytjpejkakodbchaa
open Go.Am Go.Vm Go.Alg
set_option maxRecDepth 30000
section
variable {q : Int} {b b' b2 : Bool} {nl nl' nr nr' nl2 nr2 : Nat}
theorem pc5 {M : List (List Int)} {y : List Int} (he : ¬ matE q M = 0) :
    o24 W 21 [.x (.int .i64 q), .fz b (.sl nl 0 1 (lvs nr M)), .fz b' (.sl nl' 0 1 (ivs y)), .x (.int .i64 (matE q M))] [] = some (.x (.bool true), [], []) := by
  have hs : yc4 q M y = matE q M := by unfold yc4; rw [if_neg he]
  have e1 := fun b nl nr => rk7 (b := b) (nl := nl) (nr := nr) he
  have e2 := fun b nl nr => zn0 (b := b) (nl := nl) (nr := nr) he
  have e3 := fun b nl nr => km7 (b := b) (nl := nl) (nr := nr) he
  have e4 := fun b b' nl nl' nr => qu2 (b := b) (b' := b') (nl := nl) (nl' := nl') (nr := nr) (M := M) (y := y) (by rw [hs]; exact he)
  rw [hs] at e4
  have l1 := fun b b' nl nl' => dy0 (b := b) (b' := b') (nl := nl) (nl' := nl') (nr := 0) (nr' := 0) (l := []) (k := []) (e := matE q M) (f := matE q M) (by simp) (by simp)
  have l2 := fun b b' nl nl' => eb2 (b := b) (b' := b') (nl := nl) (nl' := nl') (l := []) (k := []) (e := matE q M) (f := matE q M) (by simp)
  have l3 := ib6 (l := 0) (k := 0) (e := matE q M) (f := matE q M)
  have l4 := fun b b' nl nl' => nb2 (b := b) (b' := b') (nl := nl) (nl' := nl') (l := []) (k := []) (by simp)
  simp only [if_neg he, decide_true, Bool.true_and, List.length_nil, em1, lz6] at l1 l2 l3 l4
  cases hn : fldN q.toNat with
  | none =>
    have e0 := fg0 hn
    have e5 := fun b nl nr n => h52 (b := b) (nl := nl) (nr := nr) (n := n) (F := [.x (.int .i64 0), .x (.int .i64 0), .x (.int .i64 0), .x (.int .i64 0), .fz true (.sl 1 0 1 [])]) he ⟨0, 0, 0, 0, _, rfl, rfl⟩
    rw [o10 rfl T21 rfl]
    unfold F21 c21
    simp (disch := first | omega | fail) only [push_cast, seval, ui5, lu7, y81, bj9, wrap64, dec_lt, cw6, nl3, qc6, mr8, nb8, if_pos, if_neg, e0, e1, e2, e3, e4, e5, l1, l2, l3, l4, nb8 he]
  | some x =>
    obtain ⟨p0, m0, g0, mod⟩ := x
    haveI : IsFld q := ⟨⟨p0, m0, g0, mod, hn⟩⟩
    obtain ⟨p, m, g, t, u⟩ := k75 q
    have ht := u.n
    have ho := u.o
    have hfe := u.e
    have e5 := fun b nl nr n => h52 (b := b) (nl := nl) (nr := nr) (n := n) (F := [.x (.int .i64 q), .x (.int .i64 p), .x (.int .i64 m), .x (.int .i64 g), .fz true t]) he ⟨q, p, m, g, t, rfl, ht⟩
    rw [o10 rfl T21 rfl]
    unfold F21 c21
    simp (disch := first | omega | fail) only [push_cast, seval, ui5, lu7, y81, bj9, wrap64, dec_lt, cw6, nl3, qc6, mr8, nb8, if_pos, if_neg, hfe, ht, ho, e1, e2, e3, e4, e5, l1, l2, l3, l4, nb8 he]
theorem nh0 (he : matE q [] = 0) {y : List Int} (hy : y.length ≤ 9223372036854775806) :
    o24 W 21 [.x (.int .i64 q), .fz b (.sl nl 0 1 []), .fz b' (.sl nl' 0 1 (ivs y)), .x (.int .i64 0)] [] = some (.x (.bool true), [], []) := by
  obtain ⟨⟨⟨p0, m0, g0, mod⟩, hn⟩, _⟩ := ou8 he
  haveI : IsFld q := ⟨⟨p0, m0, g0, mod, hn⟩⟩
  obtain ⟨p, m, g, t, u⟩ := k75 q
  have ht := u.n
  have ho := u.o
  have hfe := u.e
  have e1 := fun b nl => e58 (b := b) (nl := nl) he
  have e2 := fun b nl => sz4 (b := b) (nl := nl) he
  have e3 := fun b nl => yb3 (b := b) (nl := nl) he
  have e5 := fun b nl => u51 (b := b) (nl := nl) he
  have l1 := fun b b' nl nl' => dy0 (b := b) (b' := b') (nl := nl) (nl' := nl') (nr := 0) (nr' := 0) (l := []) (k := []) (e := 0) (f := 0) (by simp) (by simp)
  have l2 := fun b b' nl nl' => eb2 (b := b) (b' := b') (nl := nl) (nl' := nl') (l := []) (k := []) (e := 0) (f := 0) (by simp)
  have l3 := ib6 (l := 0) (k := 0) (e := 0) (f := 0)
  have l4 := fun b b' nl nl' => nb2 (b := b) (b' := b') (nl := nl) (nl' := nl') (l := []) (k := []) (by simp)
  simp only [if_true, decide_true, Bool.true_and, em1, lz6] at l1 l2 l3 l4
  rw [hfe] at e5
  by_cases h0 : y = []
  · subst h0
    have e4 := fun b b' nl nl' => s21 (b := b) (b' := b') (nl := nl) (nl' := nl') he
    have e6 := fun b nl => q19 (q := q) (b := b) (nl := nl) (l := []) (by simp)
    rw [hfe] at e6
    simp only [lz6, List.any_nil, Bool.not_false] at e6
    rw [lz6, o10 rfl T21 rfl]
    unfold F21 c21
    simp (disch := first | omega | fail) only [push_cast, seval, ui5, lu7, y81, bj9, wrap64, dec_lt, cw6, nl3, qc6, mr8, nb8, if_pos, if_neg, hfe, ht, ho, e1, e2, e3, e4, e5, e6, l1, l2, l3, l4]
  · have hyl : y.length ≠ 0 := fun e => h0 (List.eq_nil_of_length_eq_zero e)
    have hs : yc4 q [] y = 6 := by unfold yc4; rw [if_pos he, if_pos (by simpa using h0)]
    have e4 := fun b b' nl nl' => qu2 (b := b) (b' := b') (nl := nl) (nl' := nl') (nr := 0) (q := q) (M := []) (y := y) (by rw [hs]; decide)
    rw [hs, em1] at e4
    rw [o10 rfl T21 rfl]
    unfold F21 c21
    simp (disch := first | omega | fail) only [push_cast, seval, ui5, lu7, y81, bj9, wrap64, dec_lt, cw6, nl3, qc6, mr8, nb8, if_pos, if_neg, hfe, ht, ho, e1, e2, e3, e4, e5, l1, l2, l3, l4]
theorem gn8 [IsFld q] {M : List (List (El q))} {y : List Int} {n : Nat} (h0 : 0 < M.length) (hl : M.length ≤ 64) (hr : ∀ r ∈ M, r.length = n) (hn0 : 0 < n) (hn : n ≤ 64) (hy : y.length ≤ 9223372036854775806) (hyl : y.length = M.length) (hany : (y.any fun v => !fok q v) = true) :
    o24 W 21 [.x (.int .i64 q), .fz b (.sl nl 0 1 (lvs nr (M.map vs))), .fz b' (.sl nl' 0 1 (ivs y)), .x (.int .i64 0)] [] = some (.x (.bool true), [], []) := by
  obtain ⟨p, m, g, t, u⟩ := k75 q
  have ht := u.n
  have ho := u.o
  have hfe := u.e
  have he := sy6 hl hr hn0 hn
  obtain ⟨r0, hr0⟩ := ge6 (l := M) (i := 0) h0
  have h3 := mva (nl := nr) hr0
  have h4 := hr r0 (List.mem_of_getElem? hr0)
  have d1 := fun b nl nr => di6 (b := b) (nl := nl) (nr := nr) hr (by omega) (by omega)
  have d2 := fun b nl nr => zi7 (b := b) (nl := nl) (nr := nr) hr (by omega) (by omega)
  have e1 := fun b nl nr => lq3 (b := b) (nl := nl) (nr := nr) h0 hl hr hn0 hn
  have e2 := fun b nl nr => u33 (b := b) (nl := nl) (nr := nr) h0 hl hr hn0 hn
  have e3 := fun b nl nr => ss9 (b := b) (nl := nl) (nr := nr) h0 hl hr hn0 hn
  have e5 := fun b nl nr => c38 (b := b) (nl := nl) (nr := nr) h0 hl hr hn0 hn
  obtain ⟨r1, r2, r3⟩ := bi2 hr
  obtain ⟨s1, s2, s3, s4⟩ := sw1 hr
  have hrk := ew4 hr
  have l1 := fun b b' nl nl' nr nr' => dy0 (b := b) (b' := b') (nl := nl) (nl' := nl') (nr := nr) (nr' := nr') (l := pvR (redR M)) (k := pvR (redR M)) (e := 0) (f := 0) (by rw [nu3]; omega) (fun r hr => by
    obtain ⟨a, ha, rfl⟩ := List.mem_map.1 hr
    rw [fi2, r2 a ha]; omega)
  have l1' := fun b b' nl nl' nr nr' => dy0 (b := b) (b' := b') (nl := nl) (nl' := nl') (nr := nr) (nr' := nr') (l := pvR (zt5 n M)) (k := pvR (zt5 n M)) (e := 0) (f := 0) (by rw [nu3]; omega) (fun r hr => by
    obtain ⟨a, ha, rfl⟩ := List.mem_map.1 hr
    rw [fi2, s2 a ha]; omega)
  have l2 := fun b b' nl nl' => eb2 (b := b) (b' := b') (nl := nl) (nl' := nl') (l := pvP (redR M)) (k := pvP (redR M)) (e := 0) (f := 0) (by rw [gb2]; omega)
  have l3 := ib6 (l := (redR M).length) (k := (redR M).length) (e := 0) (f := 0)
  have l4 := fun b b' nl nl' => nb2 (b := b) (b' := b') (nl := nl) (nl' := nl') (l := []) (k := []) (by simp)
  simp only [if_true, decide_true, Bool.true_and, lz6] at l1 l1' l2 l3 l4
  have hpr := nu3 (redR M)
  rw [hfe] at e5 d1 d2
  have e6 := fun b nl => q19 (q := q) (b := b) (nl := nl) (l := y) hy
  rw [hfe] at e6
  have hs : yc4 q (M.map vs) y = 2 := by unfold yc4; rw [if_pos he, if_neg (by rw [List.length_map]; omega), if_pos hany]
  have e4 := fun b b' nl nl' nr => qu2 (b := b) (b' := b') (nl := nl) (nl' := nl') (nr := nr) (q := q) (M := M.map vs) (y := y) (by rw [hs]; decide)
  rw [hs] at e4
  simp only [hany, Bool.not_true] at e6
  rw [o10 rfl T21 rfl]
  unfold F21 c21
  simp (disch := first | omega | fail) only [push_cast, seval, ui5, lu7, y81, bj9, wrap64, dec_lt, cw6, nl3, qc6, mr8, nb8, if_pos, if_neg, hfe, ht, ho, h3, h4, d1, d2, e1, e2, e3, e4, e5, e6, l1, l1', l2, l3, l4, hyl, hpr]
theorem xx0 [IsFld q] {M : List (List (El q))} {y : List Int} {n : Nat} (h0 : 0 < M.length) (hl : M.length ≤ 64) (hr : ∀ r ∈ M, r.length = n) (hn0 : 0 < n) (hn : n ≤ 64) (hy : y.length ≤ 9223372036854775806) (hyl : y.length = M.length) (hany : (y.any fun v => !fok q v) = false) {x : List (El q)} (hyx : y = vs x) (hs : solR n M x = none) :
    o24 W 21 [.x (.int .i64 q), .fz b (.sl nl 0 1 (lvs nr (M.map vs))), .fz b' (.sl nl' 0 1 (ivs y)), .x (.int .i64 0)] [] = some (.x (.bool true), [], []) := by
  obtain ⟨p, m, g, t, u⟩ := k75 q
  have ht := u.n
  have ho := u.o
  have hfe := u.e
  have he := sy6 hl hr hn0 hn
  obtain ⟨r0, hr0⟩ := ge6 (l := M) (i := 0) h0
  have h3 := mva (nl := nr) hr0
  have h4 := hr r0 (List.mem_of_getElem? hr0)
  have d1 := fun b nl nr => di6 (b := b) (nl := nl) (nr := nr) hr (by omega) (by omega)
  have d2 := fun b nl nr => zi7 (b := b) (nl := nl) (nr := nr) hr (by omega) (by omega)
  have e1 := fun b nl nr => lq3 (b := b) (nl := nl) (nr := nr) h0 hl hr hn0 hn
  have e2 := fun b nl nr => u33 (b := b) (nl := nl) (nr := nr) h0 hl hr hn0 hn
  have e3 := fun b nl nr => ss9 (b := b) (nl := nl) (nr := nr) h0 hl hr hn0 hn
  have e5 := fun b nl nr => c38 (b := b) (nl := nl) (nr := nr) h0 hl hr hn0 hn
  obtain ⟨r1, r2, r3⟩ := bi2 hr
  obtain ⟨s1, s2, s3, s4⟩ := sw1 hr
  have hrk := ew4 hr
  have l1 := fun b b' nl nl' nr nr' => dy0 (b := b) (b' := b') (nl := nl) (nl' := nl') (nr := nr) (nr' := nr') (l := pvR (redR M)) (k := pvR (redR M)) (e := 0) (f := 0) (by rw [nu3]; omega) (fun r hr => by
    obtain ⟨a, ha, rfl⟩ := List.mem_map.1 hr
    rw [fi2, r2 a ha]; omega)
  have l1' := fun b b' nl nl' nr nr' => dy0 (b := b) (b' := b') (nl := nl) (nl' := nl') (nr := nr) (nr' := nr') (l := pvR (zt5 n M)) (k := pvR (zt5 n M)) (e := 0) (f := 0) (by rw [nu3]; omega) (fun r hr => by
    obtain ⟨a, ha, rfl⟩ := List.mem_map.1 hr
    rw [fi2, s2 a ha]; omega)
  have l2 := fun b b' nl nl' => eb2 (b := b) (b' := b') (nl := nl) (nl' := nl') (l := pvP (redR M)) (k := pvP (redR M)) (e := 0) (f := 0) (by rw [gb2]; omega)
  have l3 := ib6 (l := (redR M).length) (k := (redR M).length) (e := 0) (f := 0)
  have l4 := fun b b' nl nl' => nb2 (b := b) (b' := b') (nl := nl) (nl' := nl') (l := []) (k := []) (by simp)
  simp only [if_true, decide_true, Bool.true_and, lz6] at l1 l1' l2 l3 l4
  have hpr := nu3 (redR M)
  rw [hfe] at e5 d1 d2
  have e6 := fun b nl => q19 (q := q) (b := b) (nl := nl) (l := y) hy
  rw [hfe] at e6
  simp only [hany, Bool.not_false] at e6
  subst hyx
  rw [fi2] at hyl
  have e4 := fun b b' nl nl' nr => zx6 (b := b) (b' := b') (nl := nl) (nl' := nl') (nr := nr) hyl h0 hl hr hn0 hn
  have d4 := fun b b' nl nl' nr => x97 (b := b) (b' := b') (nl := nl) (nl' := nl') (nr := nr) hyl hr h0 (by omega) (by omega)
  rw [hfe] at d4
  simp only [hs] at e4 d4
  rw [o10 rfl T21 rfl]
  unfold F21 c21
  simp (disch := first | omega | fail) only [push_cast, seval, ui5, lu7, y81, bj9, wrap64, dec_lt, cw6, nl3, qc6, mr8, nb8, if_pos, if_neg, hfe, ht, ho, h3, h4, d1, d2, d4, e1, e2, e3, e4, e5, e6, l1, l1', l2, l3, l4, hyl, hpr]
theorem h20 [IsFld q] {M : List (List (El q))} {y : List Int} {n : Nat} (h0 : 0 < M.length) (hl : M.length ≤ 64) (hr : ∀ r ∈ M, r.length = n) (hn0 : 0 < n) (hn : n ≤ 64) (hy : y.length ≤ 9223372036854775806) (hyl : y.length = M.length) (hany : (y.any fun v => !fok q v) = false) {x w : List (El q)} (hyx : y = vs x) (hs : solR n M x = some w) :
    o24 W 21 [.x (.int .i64 q), .fz b (.sl nl 0 1 (lvs nr (M.map vs))), .fz b' (.sl nl' 0 1 (ivs y)), .x (.int .i64 0)] [] = some (.x (.bool true), [], []) := by
  obtain ⟨p, m, g, t, u⟩ := k75 q
  have ht := u.n
  have ho := u.o
  have hfe := u.e
  have he := sy6 hl hr hn0 hn
  obtain ⟨r0, hr0⟩ := ge6 (l := M) (i := 0) h0
  have h3 := mva (nl := nr) hr0
  have h4 := hr r0 (List.mem_of_getElem? hr0)
  have d1 := fun b nl nr => di6 (b := b) (nl := nl) (nr := nr) hr (by omega) (by omega)
  have d2 := fun b nl nr => zi7 (b := b) (nl := nl) (nr := nr) hr (by omega) (by omega)
  have e1 := fun b nl nr => lq3 (b := b) (nl := nl) (nr := nr) h0 hl hr hn0 hn
  have e2 := fun b nl nr => u33 (b := b) (nl := nl) (nr := nr) h0 hl hr hn0 hn
  have e3 := fun b nl nr => ss9 (b := b) (nl := nl) (nr := nr) h0 hl hr hn0 hn
  have e5 := fun b nl nr => c38 (b := b) (nl := nl) (nr := nr) h0 hl hr hn0 hn
  obtain ⟨r1, r2, r3⟩ := bi2 hr
  obtain ⟨s1, s2, s3, s4⟩ := sw1 hr
  have hrk := ew4 hr
  have l1 := fun b b' nl nl' nr nr' => dy0 (b := b) (b' := b') (nl := nl) (nl' := nl') (nr := nr) (nr' := nr') (l := pvR (redR M)) (k := pvR (redR M)) (e := 0) (f := 0) (by rw [nu3]; omega) (fun r hr => by
    obtain ⟨a, ha, rfl⟩ := List.mem_map.1 hr
    rw [fi2, r2 a ha]; omega)
  have l1' := fun b b' nl nl' nr nr' => dy0 (b := b) (b' := b') (nl := nl) (nl' := nl') (nr := nr) (nr' := nr') (l := pvR (zt5 n M)) (k := pvR (zt5 n M)) (e := 0) (f := 0) (by rw [nu3]; omega) (fun r hr => by
    obtain ⟨a, ha, rfl⟩ := List.mem_map.1 hr
    rw [fi2, s2 a ha]; omega)
  have l2 := fun b b' nl nl' => eb2 (b := b) (b' := b') (nl := nl) (nl' := nl') (l := pvP (redR M)) (k := pvP (redR M)) (e := 0) (f := 0) (by rw [gb2]; omega)
  have l3 := ib6 (l := (redR M).length) (k := (redR M).length) (e := 0) (f := 0)
  have l4 := fun b b' nl nl' => nb2 (b := b) (b' := b') (nl := nl) (nl' := nl') (l := []) (k := []) (by simp)
  simp only [if_true, decide_true, Bool.true_and, lz6] at l1 l1' l2 l3 l4
  have hpr := nu3 (redR M)
  rw [hfe] at e5 d1 d2
  have e6 := fun b nl => q19 (q := q) (b := b) (nl := nl) (l := y) hy
  rw [hfe] at e6
  simp only [hany, Bool.not_false] at e6
  subst hyx
  rw [fi2] at hyl
  have e4 := fun b b' nl nl' nr => zx6 (b := b) (b' := b') (nl := nl) (nl' := nl') (nr := nr) hyl h0 hl hr hn0 hn
  have d4 := fun b b' nl nl' nr => x97 (b := b) (b' := b') (nl := nl) (nl' := nl') (nr := nr) hyl hr h0 (by omega) (by omega)
  rw [hfe] at d4
  simp only [hs] at e4 d4
  obtain ⟨w1, _⟩ := l11 hr hyl hs
  have l5 := fun b b' nl nl' => nb2 (b := b) (b' := b') (nl := nl) (nl' := nl') (l := vs w) (k := vs w) (by rw [fi2]; omega)
  simp only [decide_true] at l5
  rw [o10 rfl T21 rfl]
  unfold F21 c21
  simp (disch := first | omega | fail) only [push_cast, seval, ui5, lu7, y81, bj9, wrap64, dec_lt, cw6, nl3, qc6, mr8, nb8, if_pos, if_neg, hfe, ht, ho, h3, h4, d1, d2, d4, e1, e2, e3, e4, e5, e6, l1, l1', l2, l3, l5, hyl, hpr]
theorem yb2 [IsFld q] {M : List (List (El q))} {y : List Int} {n : Nat} (h0 : 0 < M.length) (hl : M.length ≤ 64) (hr : ∀ r ∈ M, r.length = n) (hn0 : 0 < n) (hn : n ≤ 64) (hy : y.length ≤ 9223372036854775806) (hyl : ¬ y.length = M.length) :
    o24 W 21 [.x (.int .i64 q), .fz b (.sl nl 0 1 (lvs nr (M.map vs))), .fz b' (.sl nl' 0 1 (ivs y)), .x (.int .i64 0)] [] = some (.x (.bool true), [], []) := by
  obtain ⟨p, m, g, t, u⟩ := k75 q
  have ht := u.n
  have ho := u.o
  have hfe := u.e
  have he := sy6 hl hr hn0 hn
  obtain ⟨r0, hr0⟩ := ge6 (l := M) (i := 0) h0
  have h3 := mva (nl := nr) hr0
  have h4 := hr r0 (List.mem_of_getElem? hr0)
  have d1 := fun b nl nr => di6 (b := b) (nl := nl) (nr := nr) hr (by omega) (by omega)
  have d2 := fun b nl nr => zi7 (b := b) (nl := nl) (nr := nr) hr (by omega) (by omega)
  have e1 := fun b nl nr => lq3 (b := b) (nl := nl) (nr := nr) h0 hl hr hn0 hn
  have e2 := fun b nl nr => u33 (b := b) (nl := nl) (nr := nr) h0 hl hr hn0 hn
  have e3 := fun b nl nr => ss9 (b := b) (nl := nl) (nr := nr) h0 hl hr hn0 hn
  have e5 := fun b nl nr => c38 (b := b) (nl := nl) (nr := nr) h0 hl hr hn0 hn
  obtain ⟨r1, r2, r3⟩ := bi2 hr
  obtain ⟨s1, s2, s3, s4⟩ := sw1 hr
  have hrk := ew4 hr
  have l1 := fun b b' nl nl' nr nr' => dy0 (b := b) (b' := b') (nl := nl) (nl' := nl') (nr := nr) (nr' := nr') (l := pvR (redR M)) (k := pvR (redR M)) (e := 0) (f := 0) (by rw [nu3]; omega) (fun r hr => by
    obtain ⟨a, ha, rfl⟩ := List.mem_map.1 hr
    rw [fi2, r2 a ha]; omega)
  have l1' := fun b b' nl nl' nr nr' => dy0 (b := b) (b' := b') (nl := nl) (nl' := nl') (nr := nr) (nr' := nr') (l := pvR (zt5 n M)) (k := pvR (zt5 n M)) (e := 0) (f := 0) (by rw [nu3]; omega) (fun r hr => by
    obtain ⟨a, ha, rfl⟩ := List.mem_map.1 hr
    rw [fi2, s2 a ha]; omega)
  have l2 := fun b b' nl nl' => eb2 (b := b) (b' := b') (nl := nl) (nl' := nl') (l := pvP (redR M)) (k := pvP (redR M)) (e := 0) (f := 0) (by rw [gb2]; omega)
  have l3 := ib6 (l := (redR M).length) (k := (redR M).length) (e := 0) (f := 0)
  have l4 := fun b b' nl nl' => nb2 (b := b) (b' := b') (nl := nl) (nl' := nl') (l := []) (k := []) (by simp)
  simp only [if_true, decide_true, Bool.true_and, lz6] at l1 l1' l2 l3 l4
  have hpr := nu3 (redR M)
  rw [hfe] at e5 d1 d2
  have hs : yc4 q (M.map vs) y = 6 := by unfold yc4; rw [if_pos he, if_pos (by rw [List.length_map]; exact hyl)]
  have e4 := fun b b' nl nl' nr => qu2 (b := b) (b' := b') (nl := nl) (nl' := nl') (nr := nr) (q := q) (M := M.map vs) (y := y) (by rw [hs]; decide)
  rw [hs] at e4
  have h8 : ¬ (y.length : Int) = (M.length : Int) := by omega
  rw [o10 rfl T21 rfl]
  unfold F21 c21
  simp (disch := first | omega | fail) only [push_cast, seval, ui5, lu7, y81, bj9, wrap64, dec_lt, cw6, nl3, qc6, mr8, nb8, if_pos, if_neg, hfe, ht, ho, h3, h4, d1, d2, e1, e2, e3, e4, e5, l1, l1', l2, l3, l4, nb8 h8, hpr]
theorem b63 [IsFld q] {M : List (List (El q))} {y : List Int} {n : Nat} (h0 : 0 < M.length) (hl : M.length ≤ 64) (hr : ∀ r ∈ M, r.length = n) (hn0 : 0 < n) (hn : n ≤ 64) (hy : y.length ≤ 9223372036854775806) :
    o24 W 21 [.x (.int .i64 q), .fz b (.sl nl 0 1 (lvs nr (M.map vs))), .fz b' (.sl nl' 0 1 (ivs y)), .x (.int .i64 0)] [] = some (.x (.bool true), [], []) := by
  by_cases hyl : y.length = M.length
  · cases hany : (y.any fun v => !fok q v) with
    | true => exact gn8 h0 hl hr hn0 hn hy hyl hany
    | false =>
      obtain ⟨x, hx⟩ := n39 (q := q) (l := y) fun z hz => by
        have := List.any_eq_false.1 hany z hz
        simpa using this
      cases hs : solR n M x with
      | none => exact xx0 h0 hl hr hn0 hn hy hyl hany hx hs
      | some w => exact h20 h0 hl hr hn0 hn hy hyl hany hx hs
  · exact yb2 h0 hl hr hn0 hn hy hyl
end
end Go.Proofs.Ytjpejkakodbchaa
namespace Go.Proofs.Ytjpejkakodbchaa
open Go.Am Go.Vm Go.Alg
set_option maxRecDepth 30000
section
variable {q : Int} {b b' b2 : Bool} {nl nl' nr nr' nl2 nr2 : Nat}
theorem eb3 {M : List (List Int)} {y : List Int} (hy : y.length ≤ 9223372036854775806) :
    o24 W 21 [.x (.int .i64 q), .fz b (.sl nl 0 1 (lvs nr M)), .fz b' (.sl nl' 0 1 (ivs y)), .x (.int .i64 (matE q M))] [] = some (.x (.bool true), [], []) := by
  by_cases he : matE q M = 0
  · obtain ⟨⟨⟨p0, m0, g0, mod⟩, hn⟩, N, rfl, hN1, hN2, hN3, hN4⟩ := ou8 he
    haveI : IsFld q := ⟨⟨p0, m0, g0, mod, hn⟩⟩
    rw [he]
    cases N with
    | nil => exact nh0 he hy
    | cons r N => exact b63 (by simp) hN1 hN2 (by have := hN4 (by simp); omega) hN3 hy
  · exact pc5 he
theorem l62 {M K : List (List Int)} {y : List Int} (hy : y.length ≤ 100) (hM : ∀ b nl nr, o24 W 14 [.fz b (.sl nl 0 1 (lvs nr M))] [] = some (.x (.bool false), [], [])) (hK : ∀ b nl nr, o24 W 14 [.fz b (.sl nl 0 1 (lvs nr K))] [] = some (.x (.bool false), [], [])) (he : ¬ ug5 q M K = 0) :
    o24 W 3 [.x (.int .i64 q), .fz b (.sl nl 0 1 (lvs nr M)), .fz b2 (.sl nl2 0 1 (lvs nr2 K)), .fz b' (.sl nl' 0 1 (ivs y))] [] = some (.x (.bool true), [], []) := by
  have e1 := fun b nl nr => rz8 (q := q) (M := M) (b := b) (nl := nl) (nr := nr)
  have e2 := fun b nl nr => rz8 (q := q) (M := K) (b := b) (nl := nl) (nr := nr)
  have e3 := fun b b' nl nl' nr nr' => bj2 (b := b) (b' := b') (nl := nl) (nl' := nl') (nr := nr) (nr' := nr') he
  have e4 := fun b nl nr => or9 (M := M) (q := q) (b := b) (nl := nl) (nr := nr)
  have e5 := fun b b' nl nl' nr => eb3 (q := q) (b := b) (b' := b') (nl := nl) (nl' := nl') (nr := nr) (M := M) (y := y) (by omega)
  have l1 := fun b b' nl nl' => dy0 (b := b) (b' := b') (nl := nl) (nl' := nl') (nr := 0) (nr' := 0) (l := []) (k := []) (e := ug5 q M K) (f := ug5 q M K) (by simp) (by simp)
  simp only [if_neg he, decide_true, Bool.true_and, List.length_nil, em1] at l1
  cases hn : fldN q.toNat with
  | none =>
    have e0 := fg0 hn
    have h1 : matE q M = 1 := by unfold matE; rw [hn]
    have ht : ug5 q M K = 1 := by unfold ug5; rw [h1, if_neg (by decide)]
    rw [ht] at e3 l1
    rw [h1] at e1 e4 e5
    rw [o10 rfl T3 rfl]
    unfold F3 c3
    simp (disch := first | omega | fail) only [push_cast, seval, ui5, lu7, y81, bj9, wrap64, dec_lt, cw6, nl3, qc6, mr8, nb8, if_pos, if_neg, e0, e1, e2, e3, e4, e5, l1, hM, hK]
  | some x =>
    obtain ⟨p0, m0, g0, mod⟩ := x
    haveI : IsFld q := ⟨⟨p0, m0, g0, mod, hn⟩⟩
    obtain ⟨p, m, g, t, u⟩ := k75 q
    have ht := u.n
    have ho := u.o
    have hfe := u.e
    by_cases h1 : matE q M = 0
    · by_cases h2 : matE q K = 0
      · have h3 : 0 < M.length ∧ (nth M 0).length ≠ K.length := Classical.byContradiction fun h => he (by unfold ug5; rw [if_pos h1, if_pos h2, if_neg h])
        have htt : ug5 q M K = 3 := by unfold ug5; rw [if_pos h1, if_pos h2, if_pos h3]
        rw [htt] at e3 l1
        rw [h1] at e1 e4 e5
        rw [h2] at e2
        obtain ⟨r0, hr0⟩ := ge6 (l := M) (i := 0) h3.1
        have h5 := lat (nl := nr) hr0
        have h6 := xr8 hr0
        rw [h6] at h3
        have h8 : ¬ (r0.length : Int) = (K.length : Int) := by omega
        rw [o10 rfl T3 rfl]
        unfold F3 c3
        simp (disch := first | omega | fail) only [push_cast, seval, ui5, lu7, y81, bj9, wrap64, dec_lt, cw6, nl3, qc6, mr8, nb8, if_pos, if_neg, hfe, ht, ho, e1, e2, e3, e4, e5, l1, hM, hK, h5, nb8 h8]
      · have htt : ug5 q M K = matE q K := by unfold ug5; rw [if_pos h1, if_neg h2]
        rw [htt] at e3 l1
        rw [h1] at e1 e4 e5
        rw [o10 rfl T3 rfl]
        unfold F3 c3
        simp (disch := first | omega | fail) only [push_cast, seval, ui5, lu7, y81, bj9, wrap64, dec_lt, cw6, nl3, qc6, mr8, nb8, if_pos, if_neg, hfe, ht, ho, e1, e2, e3, e4, e5, l1, hM, hK, nb8 h2]
    · have htt : ug5 q M K = matE q M := by unfold ug5; rw [if_neg h1]
      rw [htt] at e3 l1
      rw [o10 rfl T3 rfl]
      unfold F3 c3
      simp (disch := first | omega | fail) only [push_cast, seval, ui5, lu7, y81, bj9, wrap64, dec_lt, cw6, nl3, qc6, mr8, nb8, if_pos, if_neg, hfe, ht, ho, e1, e2, e3, e4, e5, l1, hM, hK, nb8 h1]
theorem mc6 {M K : List (List Int)} {y : List Int} (hy : y.length ≤ 100) (hM : ∀ b nl nr, o24 W 14 [.fz b (.sl nl 0 1 (lvs nr M))] [] = some (.x (.bool false), [], [])) (hK : ∀ b nl nr, o24 W 14 [.fz b (.sl nl 0 1 (lvs nr K))] [] = some (.x (.bool false), [], [])) (he : ug5 q M K = 0) :
    o24 W 3 [.x (.int .i64 q), .fz b (.sl nl 0 1 (lvs nr M)), .fz b2 (.sl nl2 0 1 (lvs nr2 K)), .fz b' (.sl nl' 0 1 (ivs y))] [] = some (.x (.bool true), [], []) := by
  have e1 := fun b nl nr => rz8 (q := q) (M := M) (b := b) (nl := nl) (nr := nr)
  have e2 := fun b nl nr => rz8 (q := q) (M := K) (b := b) (nl := nl) (nr := nr)
  have e4 := fun b nl nr => or9 (M := M) (q := q) (b := b) (nl := nl) (nr := nr)
  have e5 := fun b b' nl nl' nr => eb3 (q := q) (b := b) (b' := b') (nl := nl) (nl' := nl') (nr := nr) (M := M) (y := y) (by omega)
  have he' := he
  unfold ug5 at he'
  split at he'
  · rename_i h1
    split at he'
    · rename_i h2
      obtain ⟨⟨⟨p0, m0, g0, mod⟩, hn⟩, P, rfl, hP1, hP2, hP3, hP4⟩ := ou8 h1
      obtain ⟨_, Q, rfl, hQ1, hQ2, hQ3, hQ4⟩ := ou8 h2
      haveI : IsFld q := ⟨⟨p0, m0, g0, mod, hn⟩⟩
      obtain ⟨p, m, g, t, u⟩ := k75 q
      have ht := u.n
      have ho := u.o
      have hfe := u.e
      rw [h1] at e1 e4 e5
      rw [h2] at e2
      by_cases hP0 : P = []
      · subst hP0
        have e3 := fun b b' nl nl' nr' => sg2 (b := b) (b' := b') (nl := nl) (nl' := nl') (nr' := nr') (K := Q.map vs) (q := q) he
        have l1 := fun b b' nl nl' => dy0 (b := b) (b' := b') (nl := nl) (nl' := nl') (nr := 0) (nr' := 0) (l := []) (k := []) (e := 0) (f := 0) (by simp) (by simp)
        simp only [if_true, decide_true, Bool.true_and, em1] at l1
        have e1 := fun b nl => e1 b nl 0
        have e4 := fun b nl => e4 b nl 0
        have e5 := fun b b' nl nl' => e5 b b' nl nl' 0
        have hM := fun b nl => hM b nl 0
        simp only [List.map_nil, em1] at e1 e4 e5 hM
        rw [List.map_nil, em1, o10 rfl T3 rfl]
        unfold F3 c3
        simp (disch := first | omega | fail) only [push_cast, seval, ui5, lu7, y81, bj9, wrap64, dec_lt, cw6, nl3, qc6, mr8, nb8, if_pos, if_neg, hfe, ht, ho, e1, e2, e3, e4, e5, l1, hM, hK]
      · have hPp : 0 < P.length := List.length_pos_iff.2 hP0
        have h3 : (nth P 0).length = Q.length := Classical.byContradiction fun h => by
          rw [if_pos ⟨by simpa using hPp, by rw [kn4, List.length_map]; exact h⟩] at he'
          cases he'
        have hQ0 : Q ≠ [] := fun e => by
          rw [e] at h3
          exact hP4 hP0 (by rw [h3]; rfl)
        have hQp : 0 < Q.length := List.length_pos_iff.2 hQ0
        have hPl : ∀ a ∈ P, a.length = Q.length := fun a ha => by rw [hP2 a ha, h3]
        have hN0 : 0 < (nth Q 0).length := by have := hQ4 hQ0; omega
        have e3 := fun b b' nl nl' nr nr' => ub5 (b := b) (b' := b') (nl := nl) (nl' := nl') (nr := nr) (nr' := nr') hPp hPl hQ2 hQp hN0 hQ3 hQ1 hP1
        have e6 := fun b b' nl nl' nr nr' => h29 (b := b) (b' := b') (nl := nl) (nl' := nl') (nr := nr) (nr' := nr') hPl hQ2 hQp (by omega) (by omega) (by omega)
        rw [hfe] at e6
        have hml : ((em6 (nth Q 0).length P Q).map vs).length ≤ 9223372036854775806 := by rw [List.length_map]; unfold em6; rw [List.length_map]; omega
        have l1 := fun b b' nl nl' nr nr' => dy0 (b := b) (b' := b') (nl := nl) (nl' := nl') (nr := nr) (nr' := nr') (l := (em6 (nth Q 0).length P Q).map vs) (k := (em6 (nth Q 0).length P Q).map vs) (e := 0) (f := 0) hml (fun r hr => by
          obtain ⟨a, ha, rfl⟩ := List.mem_map.1 hr
          obtain ⟨c, hc, rfl⟩ := List.mem_map.1 ha
          rw [fi2, kv3, List.length_replicate]; omega)
        simp only [if_true, decide_true, Bool.true_and] at l1
        obtain ⟨r0, hr0⟩ := ge6 (l := P) (i := 0) hPp
        have h5 := mva (nl := nr) hr0
        have h6 := hPl r0 (List.mem_of_getElem? hr0)
        rw [o10 rfl T3 rfl]
        unfold F3 c3
        simp (disch := first | omega | fail) only [push_cast, seval, ui5, lu7, y81, bj9, wrap64, dec_lt, cw6, nl3, qc6, mr8, nb8, if_pos, if_neg, hfe, ht, ho, e1, e2, e3, e4, e5, e6, l1, hM, hK, h5, h6]
    · rename_i h2; exact absurd he' h2
  · rename_i h1; exact absurd he' h1
theorem gv7 {M K : List (List Int)} {y : List Int} (hMl : M.length ≤ 9223372036854775807) (hKl : K.length ≤ 9223372036854775807) :
    o24 W 3 [.x (.int .i64 q), .fz b (.sl nl 0 1 (lvs nr M)), .fz b2 (.sl nl2 0 1 (lvs nr2 K)), .fz b' (.sl nl' 0 1 (ivs y))] [] = some (.x (.bool true), [], []) := by
  obtain ⟨z1, hz1⟩ := tr6 hMl
  obtain ⟨z2, hz2⟩ := tr6 hKl
  cases z1 with
  | true =>
    rw [o10 rfl T3 rfl]
    unfold F3 c3
    simp (disch := first | omega | fail) only [push_cast, seval, ui5, lu7, y81, bj9, wrap64, dec_lt, cw6, nl3, qc6, mr8, nb8, if_pos, if_neg, hz1]
  | false =>
    cases z2 with
    | true =>
      rw [o10 rfl T3 rfl]
      unfold F3 c3
      simp (disch := first | omega | fail) only [push_cast, seval, ui5, lu7, y81, bj9, wrap64, dec_lt, cw6, nl3, qc6, mr8, nb8, if_pos, if_neg, hz1, hz2]
    | false =>
      by_cases hy : y.length ≤ 100
      · by_cases he : ug5 q M K = 0
        · exact mc6 hy hz1 hz2 he
        · exact l62 hy hz1 hz2 he
      · rw [o10 rfl T3 rfl]
        unfold F3 c3
        simp (disch := first | omega | fail) only [push_cast, seval, ui5, lu7, y81, bj9, wrap64, dec_lt, cw6, nl3, qc6, mr8, nb8, if_pos, if_neg, hz1, hz2]
end
end Go.Proofs.Ytjpejkakodbchaa
namespace Go.Proofs.Ytjpejkakodbchaa
open Go.Am Go.Vm Go.Alg
set_option maxRecDepth 30000
section
variable {h : H} {l : List AV} {ws : List Value}
theorem a23 : Vm.VRL h [] (allZ h) (allZ h) [] [] := by rw [Vm.VRL]
theorem dp0 (r : Vm.VRL h [] (allZ h) (allZ h) l ws) (v : Value) : Vm.VRL h [] (allZ h) (allZ h) (.x v :: l) (v :: ws) := by
  rw [Vm.VRL]; exact ⟨v, ws, rfl, by rw [Vm.VR], r⟩
theorem qj4 {sa : Option Addr} {c : Nat} {zs : List Int} (hr : RdI h sa c zs) : ∀ o, sa.map (·.block) = some o → allZ h o := fun o ho => by
  rcases hr with ⟨rfl, _⟩ | ⟨_, o2, off, r2, rfl, h1, _⟩
  · cases ho
  · cases ho; exact h42 h1
theorem sk6 (r : Vm.VRL h [] (allZ h) (allZ h) l ws) {sa : Option Addr} {c : Nat} {zs : List Int} (hr : RdI h sa c zs) : Vm.VRL h [] (allZ h) (allZ h) (.fz true (.sl 2 0 1 (ivs zs)) :: l) (.slice sa zs.length c :: ws) := by
  rw [Vm.VRL]; exact ⟨_, ws, rfl, by rw [Vm.VR]; exact pd9 hr (qj4 hr), r⟩
theorem ds5 (r : Vm.VRL h [] (allZ h) (allZ h) l ws) {sa : Option Addr} {c : Nat} {m : List (List Int)} (hr : RdLL h sa c m) (hu : ss4 h 1 sa = true) : Vm.VRL h [] (allZ h) (allZ h) (.fz true (.sl 2 0 1 (lvs 2 m)) :: l) (.slice sa m.length c :: ws) := by
  rw [Vm.VRL]; exact ⟨_, ws, rfl, by rw [Vm.VR]; exact gl3 hr hu fun _ ho => ho, r⟩
end
end Go.Proofs.Ytjpejkakodbchaa
namespace Go.Proofs.Ytjpejkakodbchaa
open Go.Am Go.Vm Go.Alg
theorem b30 (h : H) (q : Int) (_ : -9223372036854775808 ≤ q) (_ : q ≤ 9223372036854775807) (sa : Option Addr) (ca : Nat) (M : List (List Int)) (ra : RdLL h sa ca M) (ua : ss4 h 1 sa = true) (la : M.length ≤ 9223372036854775807) (_ : ∀ l ∈ M, l.length ≤ 9223372036854775807)
    (sb : Option Addr) (cb : Nat) (K : List (List Int)) (rb : RdLL h sb cb K) (ub : ss4 h 1 sb = true) (lb : K.length ≤ 9223372036854775807) (_ : ∀ l ∈ K, l.length ≤ 9223372036854775807)
    (sy : Option Addr) (cy : Nat) (y : List Int) (ry : RdI h sy cy y) (_ : ss4 h 1 sy = true) (_ : y.length ≤ 9223372036854775807) :
    ∃ h', call T 3 [.int .i64 q, .slice sa M.length ca, .slice sb K.length cb, .slice sy y.length cy] h = some (.bool true, h') :=
  vlaw lw2 (dp0 (ds5 (ds5 (sk6 a23 ry) rb ub) ra ua) _) (gv7 la lb)
end Go.Proofs.Ytjpejkakodbchaa
