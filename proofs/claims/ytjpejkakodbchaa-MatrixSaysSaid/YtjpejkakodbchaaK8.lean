/-
  The law of matrices. Conditions: lists as Go has them.
  The laws of matrices. Conditions: lists as Go has them.
  A law's arguments in the second machine. No condition.
  MatrixSays answers true, in the first machine. Conditions: arguments as memory has them.
-/
import Derived.Test.YtjpejkakodbchaaK7
import Derived.Test.YtjpejkakodbchaaK6
set_option linter.unusedVariables false
set_option linter.unusedSimpArgs false
set_option linter.unusedSectionVars false
namespace Go.Proofs.Ytjpejkakodbchaa
open Go.Am Go.Vm Go.Alg
set_option maxRecDepth 30000
section
variable {q : Int} {b b' b2 : Bool} {nl nl' nr nr' nl2 nr2 : Nat}
theorem yg0 {M : List (List Int)} {y : List Int} (he : ¬ matE q M = 0) :
    ay0 W 21 [.x (.int .i64 q), .fz b (.sl nl 0 1 (lvs nr M)), .fz b' (.sl nl' 0 1 (ivs y)), .x (.int .i64 (matE q M))] [] = some (.x (.bool true), [], []) := by
  have hs : gp0 q M y = matE q M := by unfold gp0; rw [if_neg he]
  have e1 := fun b nl nr => gw0 (b := b) (nl := nl) (nr := nr) he
  have e2 := fun b nl nr => wu0 (b := b) (nl := nl) (nr := nr) he
  have e3 := fun b nl nr => w80 (b := b) (nl := nl) (nr := nr) he
  have e4 := fun b b' nl nl' nr => fq0 (b := b) (b' := b') (nl := nl) (nl' := nl') (nr := nr) (M := M) (y := y) (by rw [hs]; exact he)
  rw [hs] at e4
  have l1 := fun b b' nl nl' => bl0 (b := b) (b' := b') (nl := nl) (nl' := nl') (nr := 0) (nr' := 0) (l := []) (k := []) (e := matE q M) (f := matE q M) (by simp) (by simp)
  have l2 := fun b b' nl nl' => el0 (b := b) (b' := b') (nl := nl) (nl' := nl') (l := []) (k := []) (e := matE q M) (f := matE q M) (by simp)
  have l3 := fj0 (l := 0) (k := 0) (e := matE q M) (f := matE q M)
  have l4 := fun b b' nl nl' => co0 (b := b) (b' := b') (nl := nl) (nl' := nl') (l := []) (k := []) (by simp)
  simp only [if_neg he, decide_true, Bool.true_and, List.length_nil, dl0, a30] at l1 l2 l3 l4
  cases hn : fldN q.toNat with
  | none =>
    have e0 := ms0 hn
    have e5 := fun b nl nr n => q70 (b := b) (nl := nl) (nr := nr) (n := n) (F := [.x (.int .i64 0), .x (.int .i64 0), .x (.int .i64 0), .x (.int .i64 0), .fz true (.sl 1 0 1 [])]) he ⟨0, 0, 0, 0, _, rfl, rfl⟩
    rw [ap0 rfl T21 rfl]
    unfold F21 c21
    simp (disch := first | omega | fail) only [push_cast, seval, ah0, ad0, ab0, ai0, wrap64, dec_lt, aa0, ag0, ac0, af0, ae0, if_pos, if_neg, e0, e1, e2, e3, e4, e5, l1, l2, l3, l4, ae0 he]
  | some x =>
    obtain ⟨p0, m0, g0, mod⟩ := x
    haveI : IsFld q := ⟨⟨p0, m0, g0, mod, hn⟩⟩
    obtain ⟨p, m, g, t, u⟩ := cj0 q
    have ht := u.n
    have ho := u.o
    have hfe := u.e
    have e5 := fun b nl nr n => q70 (b := b) (nl := nl) (nr := nr) (n := n) (F := [.x (.int .i64 q), .x (.int .i64 p), .x (.int .i64 m), .x (.int .i64 g), .fz true t]) he ⟨q, p, m, g, t, rfl, ht⟩
    rw [ap0 rfl T21 rfl]
    unfold F21 c21
    simp (disch := first | omega | fail) only [push_cast, seval, ah0, ad0, ab0, ai0, wrap64, dec_lt, aa0, ag0, ac0, af0, ae0, if_pos, if_neg, hfe, ht, ho, e1, e2, e3, e4, e5, l1, l2, l3, l4, ae0 he]
theorem ar1 (he : matE q [] = 0) {y : List Int} (hy : y.length ≤ 9223372036854775806) :
    ay0 W 21 [.x (.int .i64 q), .fz b (.sl nl 0 1 []), .fz b' (.sl nl' 0 1 (ivs y)), .x (.int .i64 0)] [] = some (.x (.bool true), [], []) := by
  obtain ⟨⟨⟨p0, m0, g0, mod⟩, hn⟩, _⟩ := gb0 he
  haveI : IsFld q := ⟨⟨p0, m0, g0, mod, hn⟩⟩
  obtain ⟨p, m, g, t, u⟩ := cj0 q
  have ht := u.n
  have ho := u.o
  have hfe := u.e
  have e1 := fun b nl => e70 (b := b) (nl := nl) he
  have e2 := fun b nl => xa0 (b := b) (nl := nl) he
  have e3 := fun b nl => xh0 (b := b) (nl := nl) he
  have e5 := fun b nl => a41 (b := b) (nl := nl) he
  have l1 := fun b b' nl nl' => bl0 (b := b) (b' := b') (nl := nl) (nl' := nl') (nr := 0) (nr' := 0) (l := []) (k := []) (e := 0) (f := 0) (by simp) (by simp)
  have l2 := fun b b' nl nl' => el0 (b := b) (b' := b') (nl := nl) (nl' := nl') (l := []) (k := []) (e := 0) (f := 0) (by simp)
  have l3 := fj0 (l := 0) (k := 0) (e := 0) (f := 0)
  have l4 := fun b b' nl nl' => co0 (b := b) (b' := b') (nl := nl) (nl' := nl') (l := []) (k := []) (by simp)
  simp only [if_true, decide_true, Bool.true_and, dl0, a30] at l1 l2 l3 l4
  rw [hfe] at e5
  by_cases h0 : y = []
  · subst h0
    have e4 := fun b b' nl nl' => tq0 (b := b) (b' := b') (nl := nl) (nl' := nl') he
    have e6 := fun b nl => iw0 (q := q) (b := b) (nl := nl) (l := []) (by simp)
    rw [hfe] at e6
    simp only [a30, List.any_nil, Bool.not_false] at e6
    rw [a30, ap0 rfl T21 rfl]
    unfold F21 c21
    simp (disch := first | omega | fail) only [push_cast, seval, ah0, ad0, ab0, ai0, wrap64, dec_lt, aa0, ag0, ac0, af0, ae0, if_pos, if_neg, hfe, ht, ho, e1, e2, e3, e4, e5, e6, l1, l2, l3, l4]
  · have hyl : y.length ≠ 0 := fun e => h0 (List.eq_nil_of_length_eq_zero e)
    have hs : gp0 q [] y = 6 := by unfold gp0; rw [if_pos he, if_pos (by simpa using h0)]
    have e4 := fun b b' nl nl' => fq0 (b := b) (b' := b') (nl := nl) (nl' := nl') (nr := 0) (q := q) (M := []) (y := y) (by rw [hs]; decide)
    rw [hs, dl0] at e4
    rw [ap0 rfl T21 rfl]
    unfold F21 c21
    simp (disch := first | omega | fail) only [push_cast, seval, ah0, ad0, ab0, ai0, wrap64, dec_lt, aa0, ag0, ac0, af0, ae0, if_pos, if_neg, hfe, ht, ho, e1, e2, e3, e4, e5, l1, l2, l3, l4]
theorem ya0 [IsFld q] {M : List (List (El q))} {y : List Int} {n : Nat} (h0 : 0 < M.length) (hl : M.length ≤ 64) (hr : ∀ r ∈ M, r.length = n) (hn0 : 0 < n) (hn : n ≤ 64) (hy : y.length ≤ 9223372036854775806) (hyl : y.length = M.length) (hany : (y.any fun v => !fok q v) = true) :
    ay0 W 21 [.x (.int .i64 q), .fz b (.sl nl 0 1 (lvs nr (M.map vs))), .fz b' (.sl nl' 0 1 (ivs y)), .x (.int .i64 0)] [] = some (.x (.bool true), [], []) := by
  obtain ⟨p, m, g, t, u⟩ := cj0 q
  have ht := u.n
  have ho := u.o
  have hfe := u.e
  have he := eb0 hl hr hn0 hn
  obtain ⟨r0, hr0⟩ := ax0 (l := M) (i := 0) h0
  have h3 := mva (nl := nr) hr0
  have h4 := hr r0 (List.mem_of_getElem? hr0)
  have d1 := fun b nl nr => cl0 (b := b) (nl := nl) (nr := nr) hr (by omega) (by omega)
  have d2 := fun b nl nr => h20 (b := b) (nl := nl) (nr := nr) hr (by omega) (by omega)
  have e1 := fun b nl nr => c60 (b := b) (nl := nl) (nr := nr) h0 hl hr hn0 hn
  have e2 := fun b nl nr => jg0 (b := b) (nl := nl) (nr := nr) h0 hl hr hn0 hn
  have e3 := fun b nl nr => jd0 (b := b) (nl := nl) (nr := nr) h0 hl hr hn0 hn
  have e5 := fun b nl nr => k70 (b := b) (nl := nl) (nr := nr) h0 hl hr hn0 hn
  obtain ⟨r1, r2, r3⟩ := ee0 hr
  obtain ⟨s1, s2, s3, s4⟩ := pg0 hr
  have hrk := j20 hr
  have l1 := fun b b' nl nl' nr nr' => bl0 (b := b) (b' := b') (nl := nl) (nl' := nl') (nr := nr) (nr' := nr') (l := pvR (redR M)) (k := pvR (redR M)) (e := 0) (f := 0) (by rw [be0]; omega) (fun r hr => by
    obtain ⟨a, ha, rfl⟩ := List.mem_map.1 hr
    rw [cd0, r2 a ha]; omega)
  have l1' := fun b b' nl nl' nr nr' => bl0 (b := b) (b' := b') (nl := nl) (nl' := nl') (nr := nr) (nr' := nr') (l := pvR (fv0 n M)) (k := pvR (fv0 n M)) (e := 0) (f := 0) (by rw [be0]; omega) (fun r hr => by
    obtain ⟨a, ha, rfl⟩ := List.mem_map.1 hr
    rw [cd0, s2 a ha]; omega)
  have l2 := fun b b' nl nl' => el0 (b := b) (b' := b') (nl := nl) (nl' := nl') (l := pvP (redR M)) (k := pvP (redR M)) (e := 0) (f := 0) (by rw [cu0]; omega)
  have l3 := fj0 (l := (redR M).length) (k := (redR M).length) (e := 0) (f := 0)
  have l4 := fun b b' nl nl' => co0 (b := b) (b' := b') (nl := nl) (nl' := nl') (l := []) (k := []) (by simp)
  simp only [if_true, decide_true, Bool.true_and, a30] at l1 l1' l2 l3 l4
  have hpr := be0 (redR M)
  rw [hfe] at e5 d1 d2
  have e6 := fun b nl => iw0 (q := q) (b := b) (nl := nl) (l := y) hy
  rw [hfe] at e6
  have hs : gp0 q (M.map vs) y = 2 := by unfold gp0; rw [if_pos he, if_neg (by rw [List.length_map]; omega), if_pos hany]
  have e4 := fun b b' nl nl' nr => fq0 (b := b) (b' := b') (nl := nl) (nl' := nl') (nr := nr) (q := q) (M := M.map vs) (y := y) (by rw [hs]; decide)
  rw [hs] at e4
  simp only [hany, Bool.not_true] at e6
  rw [ap0 rfl T21 rfl]
  unfold F21 c21
  simp (disch := first | omega | fail) only [push_cast, seval, ah0, ad0, ab0, ai0, wrap64, dec_lt, aa0, ag0, ac0, af0, ae0, if_pos, if_neg, hfe, ht, ho, h3, h4, d1, d2, e1, e2, e3, e4, e5, e6, l1, l1', l2, l3, l4, hyl, hpr]
theorem zo0 [IsFld q] {M : List (List (El q))} {y : List Int} {n : Nat} (h0 : 0 < M.length) (hl : M.length ≤ 64) (hr : ∀ r ∈ M, r.length = n) (hn0 : 0 < n) (hn : n ≤ 64) (hy : y.length ≤ 9223372036854775806) (hyl : y.length = M.length) (hany : (y.any fun v => !fok q v) = false) {x : List (El q)} (hyx : y = vs x) (hs : solR n M x = none) :
    ay0 W 21 [.x (.int .i64 q), .fz b (.sl nl 0 1 (lvs nr (M.map vs))), .fz b' (.sl nl' 0 1 (ivs y)), .x (.int .i64 0)] [] = some (.x (.bool true), [], []) := by
  obtain ⟨p, m, g, t, u⟩ := cj0 q
  have ht := u.n
  have ho := u.o
  have hfe := u.e
  have he := eb0 hl hr hn0 hn
  obtain ⟨r0, hr0⟩ := ax0 (l := M) (i := 0) h0
  have h3 := mva (nl := nr) hr0
  have h4 := hr r0 (List.mem_of_getElem? hr0)
  have d1 := fun b nl nr => cl0 (b := b) (nl := nl) (nr := nr) hr (by omega) (by omega)
  have d2 := fun b nl nr => h20 (b := b) (nl := nl) (nr := nr) hr (by omega) (by omega)
  have e1 := fun b nl nr => c60 (b := b) (nl := nl) (nr := nr) h0 hl hr hn0 hn
  have e2 := fun b nl nr => jg0 (b := b) (nl := nl) (nr := nr) h0 hl hr hn0 hn
  have e3 := fun b nl nr => jd0 (b := b) (nl := nl) (nr := nr) h0 hl hr hn0 hn
  have e5 := fun b nl nr => k70 (b := b) (nl := nl) (nr := nr) h0 hl hr hn0 hn
  obtain ⟨r1, r2, r3⟩ := ee0 hr
  obtain ⟨s1, s2, s3, s4⟩ := pg0 hr
  have hrk := j20 hr
  have l1 := fun b b' nl nl' nr nr' => bl0 (b := b) (b' := b') (nl := nl) (nl' := nl') (nr := nr) (nr' := nr') (l := pvR (redR M)) (k := pvR (redR M)) (e := 0) (f := 0) (by rw [be0]; omega) (fun r hr => by
    obtain ⟨a, ha, rfl⟩ := List.mem_map.1 hr
    rw [cd0, r2 a ha]; omega)
  have l1' := fun b b' nl nl' nr nr' => bl0 (b := b) (b' := b') (nl := nl) (nl' := nl') (nr := nr) (nr' := nr') (l := pvR (fv0 n M)) (k := pvR (fv0 n M)) (e := 0) (f := 0) (by rw [be0]; omega) (fun r hr => by
    obtain ⟨a, ha, rfl⟩ := List.mem_map.1 hr
    rw [cd0, s2 a ha]; omega)
  have l2 := fun b b' nl nl' => el0 (b := b) (b' := b') (nl := nl) (nl' := nl') (l := pvP (redR M)) (k := pvP (redR M)) (e := 0) (f := 0) (by rw [cu0]; omega)
  have l3 := fj0 (l := (redR M).length) (k := (redR M).length) (e := 0) (f := 0)
  have l4 := fun b b' nl nl' => co0 (b := b) (b' := b') (nl := nl) (nl' := nl') (l := []) (k := []) (by simp)
  simp only [if_true, decide_true, Bool.true_and, a30] at l1 l1' l2 l3 l4
  have hpr := be0 (redR M)
  rw [hfe] at e5 d1 d2
  have e6 := fun b nl => iw0 (q := q) (b := b) (nl := nl) (l := y) hy
  rw [hfe] at e6
  simp only [hany, Bool.not_false] at e6
  subst hyx
  rw [cd0] at hyl
  have e4 := fun b b' nl nl' nr => nd0 (b := b) (b' := b') (nl := nl) (nl' := nl') (nr := nr) hyl h0 hl hr hn0 hn
  have d4 := fun b b' nl nl' nr => mv0 (b := b) (b' := b') (nl := nl) (nl' := nl') (nr := nr) hyl hr h0 (by omega) (by omega)
  rw [hfe] at d4
  simp only [hs] at e4 d4
  rw [ap0 rfl T21 rfl]
  unfold F21 c21
  simp (disch := first | omega | fail) only [push_cast, seval, ah0, ad0, ab0, ai0, wrap64, dec_lt, aa0, ag0, ac0, af0, ae0, if_pos, if_neg, hfe, ht, ho, h3, h4, d1, d2, d4, e1, e2, e3, e4, e5, e6, l1, l1', l2, l3, l4, hyl, hpr]
theorem a91 [IsFld q] {M : List (List (El q))} {y : List Int} {n : Nat} (h0 : 0 < M.length) (hl : M.length ≤ 64) (hr : ∀ r ∈ M, r.length = n) (hn0 : 0 < n) (hn : n ≤ 64) (hy : y.length ≤ 9223372036854775806) (hyl : y.length = M.length) (hany : (y.any fun v => !fok q v) = false) {x w : List (El q)} (hyx : y = vs x) (hs : solR n M x = some w) :
    ay0 W 21 [.x (.int .i64 q), .fz b (.sl nl 0 1 (lvs nr (M.map vs))), .fz b' (.sl nl' 0 1 (ivs y)), .x (.int .i64 0)] [] = some (.x (.bool true), [], []) := by
  obtain ⟨p, m, g, t, u⟩ := cj0 q
  have ht := u.n
  have ho := u.o
  have hfe := u.e
  have he := eb0 hl hr hn0 hn
  obtain ⟨r0, hr0⟩ := ax0 (l := M) (i := 0) h0
  have h3 := mva (nl := nr) hr0
  have h4 := hr r0 (List.mem_of_getElem? hr0)
  have d1 := fun b nl nr => cl0 (b := b) (nl := nl) (nr := nr) hr (by omega) (by omega)
  have d2 := fun b nl nr => h20 (b := b) (nl := nl) (nr := nr) hr (by omega) (by omega)
  have e1 := fun b nl nr => c60 (b := b) (nl := nl) (nr := nr) h0 hl hr hn0 hn
  have e2 := fun b nl nr => jg0 (b := b) (nl := nl) (nr := nr) h0 hl hr hn0 hn
  have e3 := fun b nl nr => jd0 (b := b) (nl := nl) (nr := nr) h0 hl hr hn0 hn
  have e5 := fun b nl nr => k70 (b := b) (nl := nl) (nr := nr) h0 hl hr hn0 hn
  obtain ⟨r1, r2, r3⟩ := ee0 hr
  obtain ⟨s1, s2, s3, s4⟩ := pg0 hr
  have hrk := j20 hr
  have l1 := fun b b' nl nl' nr nr' => bl0 (b := b) (b' := b') (nl := nl) (nl' := nl') (nr := nr) (nr' := nr') (l := pvR (redR M)) (k := pvR (redR M)) (e := 0) (f := 0) (by rw [be0]; omega) (fun r hr => by
    obtain ⟨a, ha, rfl⟩ := List.mem_map.1 hr
    rw [cd0, r2 a ha]; omega)
  have l1' := fun b b' nl nl' nr nr' => bl0 (b := b) (b' := b') (nl := nl) (nl' := nl') (nr := nr) (nr' := nr') (l := pvR (fv0 n M)) (k := pvR (fv0 n M)) (e := 0) (f := 0) (by rw [be0]; omega) (fun r hr => by
    obtain ⟨a, ha, rfl⟩ := List.mem_map.1 hr
    rw [cd0, s2 a ha]; omega)
  have l2 := fun b b' nl nl' => el0 (b := b) (b' := b') (nl := nl) (nl' := nl') (l := pvP (redR M)) (k := pvP (redR M)) (e := 0) (f := 0) (by rw [cu0]; omega)
  have l3 := fj0 (l := (redR M).length) (k := (redR M).length) (e := 0) (f := 0)
  have l4 := fun b b' nl nl' => co0 (b := b) (b' := b') (nl := nl) (nl' := nl') (l := []) (k := []) (by simp)
  simp only [if_true, decide_true, Bool.true_and, a30] at l1 l1' l2 l3 l4
  have hpr := be0 (redR M)
  rw [hfe] at e5 d1 d2
  have e6 := fun b nl => iw0 (q := q) (b := b) (nl := nl) (l := y) hy
  rw [hfe] at e6
  simp only [hany, Bool.not_false] at e6
  subst hyx
  rw [cd0] at hyl
  have e4 := fun b b' nl nl' nr => nd0 (b := b) (b' := b') (nl := nl) (nl' := nl') (nr := nr) hyl h0 hl hr hn0 hn
  have d4 := fun b b' nl nl' nr => mv0 (b := b) (b' := b') (nl := nl) (nl' := nl') (nr := nr) hyl hr h0 (by omega) (by omega)
  rw [hfe] at d4
  simp only [hs] at e4 d4
  obtain ⟨w1, _⟩ := uz0 hr hyl hs
  have l5 := fun b b' nl nl' => co0 (b := b) (b' := b') (nl := nl) (nl' := nl') (l := vs w) (k := vs w) (by rw [cd0]; omega)
  simp only [decide_true] at l5
  rw [ap0 rfl T21 rfl]
  unfold F21 c21
  simp (disch := first | omega | fail) only [push_cast, seval, ah0, ad0, ab0, ai0, wrap64, dec_lt, aa0, ag0, ac0, af0, ae0, if_pos, if_neg, hfe, ht, ho, h3, h4, d1, d2, d4, e1, e2, e3, e4, e5, e6, l1, l1', l2, l3, l5, hyl, hpr]
theorem a71 [IsFld q] {M : List (List (El q))} {y : List Int} {n : Nat} (h0 : 0 < M.length) (hl : M.length ≤ 64) (hr : ∀ r ∈ M, r.length = n) (hn0 : 0 < n) (hn : n ≤ 64) (hy : y.length ≤ 9223372036854775806) (hyl : ¬ y.length = M.length) :
    ay0 W 21 [.x (.int .i64 q), .fz b (.sl nl 0 1 (lvs nr (M.map vs))), .fz b' (.sl nl' 0 1 (ivs y)), .x (.int .i64 0)] [] = some (.x (.bool true), [], []) := by
  obtain ⟨p, m, g, t, u⟩ := cj0 q
  have ht := u.n
  have ho := u.o
  have hfe := u.e
  have he := eb0 hl hr hn0 hn
  obtain ⟨r0, hr0⟩ := ax0 (l := M) (i := 0) h0
  have h3 := mva (nl := nr) hr0
  have h4 := hr r0 (List.mem_of_getElem? hr0)
  have d1 := fun b nl nr => cl0 (b := b) (nl := nl) (nr := nr) hr (by omega) (by omega)
  have d2 := fun b nl nr => h20 (b := b) (nl := nl) (nr := nr) hr (by omega) (by omega)
  have e1 := fun b nl nr => c60 (b := b) (nl := nl) (nr := nr) h0 hl hr hn0 hn
  have e2 := fun b nl nr => jg0 (b := b) (nl := nl) (nr := nr) h0 hl hr hn0 hn
  have e3 := fun b nl nr => jd0 (b := b) (nl := nl) (nr := nr) h0 hl hr hn0 hn
  have e5 := fun b nl nr => k70 (b := b) (nl := nl) (nr := nr) h0 hl hr hn0 hn
  obtain ⟨r1, r2, r3⟩ := ee0 hr
  obtain ⟨s1, s2, s3, s4⟩ := pg0 hr
  have hrk := j20 hr
  have l1 := fun b b' nl nl' nr nr' => bl0 (b := b) (b' := b') (nl := nl) (nl' := nl') (nr := nr) (nr' := nr') (l := pvR (redR M)) (k := pvR (redR M)) (e := 0) (f := 0) (by rw [be0]; omega) (fun r hr => by
    obtain ⟨a, ha, rfl⟩ := List.mem_map.1 hr
    rw [cd0, r2 a ha]; omega)
  have l1' := fun b b' nl nl' nr nr' => bl0 (b := b) (b' := b') (nl := nl) (nl' := nl') (nr := nr) (nr' := nr') (l := pvR (fv0 n M)) (k := pvR (fv0 n M)) (e := 0) (f := 0) (by rw [be0]; omega) (fun r hr => by
    obtain ⟨a, ha, rfl⟩ := List.mem_map.1 hr
    rw [cd0, s2 a ha]; omega)
  have l2 := fun b b' nl nl' => el0 (b := b) (b' := b') (nl := nl) (nl' := nl') (l := pvP (redR M)) (k := pvP (redR M)) (e := 0) (f := 0) (by rw [cu0]; omega)
  have l3 := fj0 (l := (redR M).length) (k := (redR M).length) (e := 0) (f := 0)
  have l4 := fun b b' nl nl' => co0 (b := b) (b' := b') (nl := nl) (nl' := nl') (l := []) (k := []) (by simp)
  simp only [if_true, decide_true, Bool.true_and, a30] at l1 l1' l2 l3 l4
  have hpr := be0 (redR M)
  rw [hfe] at e5 d1 d2
  have hs : gp0 q (M.map vs) y = 6 := by unfold gp0; rw [if_pos he, if_pos (by rw [List.length_map]; exact hyl)]
  have e4 := fun b b' nl nl' nr => fq0 (b := b) (b' := b') (nl := nl) (nl' := nl') (nr := nr) (q := q) (M := M.map vs) (y := y) (by rw [hs]; decide)
  rw [hs] at e4
  have h8 : ¬ (y.length : Int) = (M.length : Int) := by omega
  rw [ap0 rfl T21 rfl]
  unfold F21 c21
  simp (disch := first | omega | fail) only [push_cast, seval, ah0, ad0, ab0, ai0, wrap64, dec_lt, aa0, ag0, ac0, af0, ae0, if_pos, if_neg, hfe, ht, ho, h3, h4, d1, d2, e1, e2, e3, e4, e5, l1, l1', l2, l3, l4, ae0 h8, hpr]
theorem b51 [IsFld q] {M : List (List (El q))} {y : List Int} {n : Nat} (h0 : 0 < M.length) (hl : M.length ≤ 64) (hr : ∀ r ∈ M, r.length = n) (hn0 : 0 < n) (hn : n ≤ 64) (hy : y.length ≤ 9223372036854775806) :
    ay0 W 21 [.x (.int .i64 q), .fz b (.sl nl 0 1 (lvs nr (M.map vs))), .fz b' (.sl nl' 0 1 (ivs y)), .x (.int .i64 0)] [] = some (.x (.bool true), [], []) := by
  by_cases hyl : y.length = M.length
  · cases hany : (y.any fun v => !fok q v) with
    | true => exact ya0 h0 hl hr hn0 hn hy hyl hany
    | false =>
      obtain ⟨x, hx⟩ := tl0 (q := q) (l := y) fun z hz => by
        have := List.any_eq_false.1 hany z hz
        simpa using this
      cases hs : solR n M x with
      | none => exact zo0 h0 hl hr hn0 hn hy hyl hany hx hs
      | some w => exact a91 h0 hl hr hn0 hn hy hyl hany hx hs
  · exact a71 h0 hl hr hn0 hn hy hyl
end
end Go.Proofs.Ytjpejkakodbchaa
namespace Go.Proofs.Ytjpejkakodbchaa
open Go.Am Go.Vm Go.Alg
set_option maxRecDepth 30000
section
variable {q : Int} {b b' b2 : Bool} {nl nl' nr nr' nl2 nr2 : Nat}
theorem no0 {M : List (List Int)} {y : List Int} (hy : y.length ≤ 9223372036854775806) :
    ay0 W 21 [.x (.int .i64 q), .fz b (.sl nl 0 1 (lvs nr M)), .fz b' (.sl nl' 0 1 (ivs y)), .x (.int .i64 (matE q M))] [] = some (.x (.bool true), [], []) := by
  by_cases he : matE q M = 0
  · obtain ⟨⟨⟨p0, m0, g0, mod⟩, hn⟩, N, rfl, hN1, hN2, hN3, hN4⟩ := gb0 he
    haveI : IsFld q := ⟨⟨p0, m0, g0, mod, hn⟩⟩
    rw [he]
    cases N with
    | nil => exact ar1 he hy
    | cons r N => exact b51 (by simp) hN1 hN2 (by have := hN4 (by simp); omega) hN3 hy
  · exact yg0 he
theorem gb1 {M K : List (List Int)} {y : List Int} (hy : y.length ≤ 100) (hM : ∀ b nl nr, ay0 W 14 [.fz b (.sl nl 0 1 (lvs nr M))] [] = some (.x (.bool false), [], [])) (hK : ∀ b nl nr, ay0 W 14 [.fz b (.sl nl 0 1 (lvs nr K))] [] = some (.x (.bool false), [], [])) (he : ¬ dd0 q M K = 0) :
    ay0 W 3 [.x (.int .i64 q), .fz b (.sl nl 0 1 (lvs nr M)), .fz b2 (.sl nl2 0 1 (lvs nr2 K)), .fz b' (.sl nl' 0 1 (ivs y))] [] = some (.x (.bool true), [], []) := by
  have e1 := fun b nl nr => fm0 (q := q) (M := M) (b := b) (nl := nl) (nr := nr)
  have e2 := fun b nl nr => fm0 (q := q) (M := K) (b := b) (nl := nl) (nr := nr)
  have e3 := fun b b' nl nl' nr nr' => s80 (b := b) (b' := b') (nl := nl) (nl' := nl') (nr := nr) (nr' := nr') he
  have e4 := fun b nl nr => az0 (M := M) (q := q) (b := b) (nl := nl) (nr := nr)
  have e5 := fun b b' nl nl' nr => no0 (q := q) (b := b) (b' := b') (nl := nl) (nl' := nl') (nr := nr) (M := M) (y := y) (by omega)
  have l1 := fun b b' nl nl' => bl0 (b := b) (b' := b') (nl := nl) (nl' := nl') (nr := 0) (nr' := 0) (l := []) (k := []) (e := dd0 q M K) (f := dd0 q M K) (by simp) (by simp)
  simp only [if_neg he, decide_true, Bool.true_and, List.length_nil, dl0] at l1
  cases hn : fldN q.toNat with
  | none =>
    have e0 := ms0 hn
    have h1 : matE q M = 1 := by unfold matE; rw [hn]
    have ht : dd0 q M K = 1 := by unfold dd0; rw [h1, if_neg (by decide)]
    rw [ht] at e3 l1
    rw [h1] at e1 e4 e5
    rw [ap0 rfl T3 rfl]
    unfold F3 c3
    simp (disch := first | omega | fail) only [push_cast, seval, ah0, ad0, ab0, ai0, wrap64, dec_lt, aa0, ag0, ac0, af0, ae0, if_pos, if_neg, e0, e1, e2, e3, e4, e5, l1, hM, hK]
  | some x =>
    obtain ⟨p0, m0, g0, mod⟩ := x
    haveI : IsFld q := ⟨⟨p0, m0, g0, mod, hn⟩⟩
    obtain ⟨p, m, g, t, u⟩ := cj0 q
    have ht := u.n
    have ho := u.o
    have hfe := u.e
    by_cases h1 : matE q M = 0
    · by_cases h2 : matE q K = 0
      · have h3 : 0 < M.length ∧ (nth M 0).length ≠ K.length := Classical.byContradiction fun h => he (by unfold dd0; rw [if_pos h1, if_pos h2, if_neg h])
        have htt : dd0 q M K = 3 := by unfold dd0; rw [if_pos h1, if_pos h2, if_pos h3]
        rw [htt] at e3 l1
        rw [h1] at e1 e4 e5
        rw [h2] at e2
        obtain ⟨r0, hr0⟩ := ax0 (l := M) (i := 0) h3.1
        have h5 := lat (nl := nr) hr0
        have h6 := gc0 hr0
        rw [h6] at h3
        have h8 : ¬ (r0.length : Int) = (K.length : Int) := by omega
        rw [ap0 rfl T3 rfl]
        unfold F3 c3
        simp (disch := first | omega | fail) only [push_cast, seval, ah0, ad0, ab0, ai0, wrap64, dec_lt, aa0, ag0, ac0, af0, ae0, if_pos, if_neg, hfe, ht, ho, e1, e2, e3, e4, e5, l1, hM, hK, h5, ae0 h8]
      · have htt : dd0 q M K = matE q K := by unfold dd0; rw [if_pos h1, if_neg h2]
        rw [htt] at e3 l1
        rw [h1] at e1 e4 e5
        rw [ap0 rfl T3 rfl]
        unfold F3 c3
        simp (disch := first | omega | fail) only [push_cast, seval, ah0, ad0, ab0, ai0, wrap64, dec_lt, aa0, ag0, ac0, af0, ae0, if_pos, if_neg, hfe, ht, ho, e1, e2, e3, e4, e5, l1, hM, hK, ae0 h2]
    · have htt : dd0 q M K = matE q M := by unfold dd0; rw [if_neg h1]
      rw [htt] at e3 l1
      rw [ap0 rfl T3 rfl]
      unfold F3 c3
      simp (disch := first | omega | fail) only [push_cast, seval, ah0, ad0, ab0, ai0, wrap64, dec_lt, aa0, ag0, ac0, af0, ae0, if_pos, if_neg, hfe, ht, ho, e1, e2, e3, e4, e5, l1, hM, hK, ae0 h1]
theorem jf1 {M K : List (List Int)} {y : List Int} (hy : y.length ≤ 100) (hM : ∀ b nl nr, ay0 W 14 [.fz b (.sl nl 0 1 (lvs nr M))] [] = some (.x (.bool false), [], [])) (hK : ∀ b nl nr, ay0 W 14 [.fz b (.sl nl 0 1 (lvs nr K))] [] = some (.x (.bool false), [], [])) (he : dd0 q M K = 0) :
    ay0 W 3 [.x (.int .i64 q), .fz b (.sl nl 0 1 (lvs nr M)), .fz b2 (.sl nl2 0 1 (lvs nr2 K)), .fz b' (.sl nl' 0 1 (ivs y))] [] = some (.x (.bool true), [], []) := by
  have e1 := fun b nl nr => fm0 (q := q) (M := M) (b := b) (nl := nl) (nr := nr)
  have e2 := fun b nl nr => fm0 (q := q) (M := K) (b := b) (nl := nl) (nr := nr)
  have e4 := fun b nl nr => az0 (M := M) (q := q) (b := b) (nl := nl) (nr := nr)
  have e5 := fun b b' nl nl' nr => no0 (q := q) (b := b) (b' := b') (nl := nl) (nl' := nl') (nr := nr) (M := M) (y := y) (by omega)
  have he' := he
  unfold dd0 at he'
  split at he'
  · rename_i h1
    split at he'
    · rename_i h2
      obtain ⟨⟨⟨p0, m0, g0, mod⟩, hn⟩, P, rfl, hP1, hP2, hP3, hP4⟩ := gb0 h1
      obtain ⟨_, Q, rfl, hQ1, hQ2, hQ3, hQ4⟩ := gb0 h2
      haveI : IsFld q := ⟨⟨p0, m0, g0, mod, hn⟩⟩
      obtain ⟨p, m, g, t, u⟩ := cj0 q
      have ht := u.n
      have ho := u.o
      have hfe := u.e
      rw [h1] at e1 e4 e5
      rw [h2] at e2
      by_cases hP0 : P = []
      · subst hP0
        have e3 := fun b b' nl nl' nr' => sw0 (b := b) (b' := b') (nl := nl) (nl' := nl') (nr' := nr') (K := Q.map vs) (q := q) he
        have l1 := fun b b' nl nl' => bl0 (b := b) (b' := b') (nl := nl) (nl' := nl') (nr := 0) (nr' := 0) (l := []) (k := []) (e := 0) (f := 0) (by simp) (by simp)
        simp only [if_true, decide_true, Bool.true_and, dl0] at l1
        have e1 := fun b nl => e1 b nl 0
        have e4 := fun b nl => e4 b nl 0
        have e5 := fun b b' nl nl' => e5 b b' nl nl' 0
        have hM := fun b nl => hM b nl 0
        simp only [List.map_nil, dl0] at e1 e4 e5 hM
        rw [List.map_nil, dl0, ap0 rfl T3 rfl]
        unfold F3 c3
        simp (disch := first | omega | fail) only [push_cast, seval, ah0, ad0, ab0, ai0, wrap64, dec_lt, aa0, ag0, ac0, af0, ae0, if_pos, if_neg, hfe, ht, ho, e1, e2, e3, e4, e5, l1, hM, hK]
      · have hPp : 0 < P.length := List.length_pos_iff.2 hP0
        have h3 : (nth P 0).length = Q.length := Classical.byContradiction fun h => by
          rw [if_pos ⟨by simpa using hPp, by rw [pc0, List.length_map]; exact h⟩] at he'
          cases he'
        have hQ0 : Q ≠ [] := fun e => by
          rw [e] at h3
          exact hP4 hP0 (by rw [h3]; rfl)
        have hQp : 0 < Q.length := List.length_pos_iff.2 hQ0
        have hPl : ∀ a ∈ P, a.length = Q.length := fun a ha => by rw [hP2 a ha, h3]
        have hN0 : 0 < (nth Q 0).length := by have := hQ4 hQ0; omega
        have e3 := fun b b' nl nl' nr nr' => xv0 (b := b) (b' := b') (nl := nl) (nl' := nl') (nr := nr) (nr' := nr') hPp hPl hQ2 hQp hN0 hQ3 hQ1 hP1
        have e6 := fun b b' nl nl' nr nr' => nj0 (b := b) (b' := b') (nl := nl) (nl' := nl') (nr := nr) (nr' := nr') hPl hQ2 hQp (by omega) (by omega) (by omega)
        rw [hfe] at e6
        have hml : ((dn0 (nth Q 0).length P Q).map vs).length ≤ 9223372036854775806 := by rw [List.length_map]; unfold dn0; rw [List.length_map]; omega
        have l1 := fun b b' nl nl' nr nr' => bl0 (b := b) (b' := b') (nl := nl) (nl' := nl') (nr := nr) (nr' := nr') (l := (dn0 (nth Q 0).length P Q).map vs) (k := (dn0 (nth Q 0).length P Q).map vs) (e := 0) (f := 0) hml (fun r hr => by
          obtain ⟨a, ha, rfl⟩ := List.mem_map.1 hr
          obtain ⟨c, hc, rfl⟩ := List.mem_map.1 ha
          rw [cd0, lm0, List.length_replicate]; omega)
        simp only [if_true, decide_true, Bool.true_and] at l1
        obtain ⟨r0, hr0⟩ := ax0 (l := P) (i := 0) hPp
        have h5 := mva (nl := nr) hr0
        have h6 := hPl r0 (List.mem_of_getElem? hr0)
        rw [ap0 rfl T3 rfl]
        unfold F3 c3
        simp (disch := first | omega | fail) only [push_cast, seval, ah0, ad0, ab0, ai0, wrap64, dec_lt, aa0, ag0, ac0, af0, ae0, if_pos, if_neg, hfe, ht, ho, e1, e2, e3, e4, e5, e6, l1, hM, hK, h5, h6]
    · rename_i h2; exact absurd he' h2
  · rename_i h1; exact absurd he' h1
theorem bo1 {M K : List (List Int)} {y : List Int} (hMl : M.length ≤ 9223372036854775807) (hKl : K.length ≤ 9223372036854775807) :
    ay0 W 3 [.x (.int .i64 q), .fz b (.sl nl 0 1 (lvs nr M)), .fz b2 (.sl nl2 0 1 (lvs nr2 K)), .fz b' (.sl nl' 0 1 (ivs y))] [] = some (.x (.bool true), [], []) := by
  obtain ⟨z1, hz1⟩ := me0 hMl
  obtain ⟨z2, hz2⟩ := me0 hKl
  cases z1 with
  | true =>
    rw [ap0 rfl T3 rfl]
    unfold F3 c3
    simp (disch := first | omega | fail) only [push_cast, seval, ah0, ad0, ab0, ai0, wrap64, dec_lt, aa0, ag0, ac0, af0, ae0, if_pos, if_neg, hz1]
  | false =>
    cases z2 with
    | true =>
      rw [ap0 rfl T3 rfl]
      unfold F3 c3
      simp (disch := first | omega | fail) only [push_cast, seval, ah0, ad0, ab0, ai0, wrap64, dec_lt, aa0, ag0, ac0, af0, ae0, if_pos, if_neg, hz1, hz2]
    | false =>
      by_cases hy : y.length ≤ 100
      · by_cases he : dd0 q M K = 0
        · exact jf1 hy hz1 hz2 he
        · exact gb1 hy hz1 hz2 he
      · rw [ap0 rfl T3 rfl]
        unfold F3 c3
        simp (disch := first | omega | fail) only [push_cast, seval, ah0, ad0, ab0, ai0, wrap64, dec_lt, aa0, ag0, ac0, af0, ae0, if_pos, if_neg, hz1, hz2]
end
end Go.Proofs.Ytjpejkakodbchaa
namespace Go.Proofs.Ytjpejkakodbchaa
open Go.Am Go.Vm Go.Alg
set_option maxRecDepth 30000
section
variable {h : H} {l : List AV} {ws : List Value}
theorem fw1 : Vm.VRL h [] (allZ h) (allZ h) [] [] := by rw [Vm.VRL]
theorem nj1 (r : Vm.VRL h [] (allZ h) (allZ h) l ws) (v : Value) : Vm.VRL h [] (allZ h) (allZ h) (.x v :: l) (v :: ws) := by
  rw [Vm.VRL]; exact ⟨v, ws, rfl, by rw [Vm.VR], r⟩
theorem m91 {sa : Option Addr} {c : Nat} {zs : List Int} (hr : RdI h sa c zs) : ∀ o, sa.map (·.block) = some o → allZ h o := fun o ho => by
  rcases hr with ⟨rfl, _⟩ | ⟨_, o2, off, r2, rfl, h1, _⟩
  · cases ho
  · cases ho; exact ao0 h1
theorem jk1 (r : Vm.VRL h [] (allZ h) (allZ h) l ws) {sa : Option Addr} {c : Nat} {zs : List Int} (hr : RdI h sa c zs) : Vm.VRL h [] (allZ h) (allZ h) (.fz true (.sl 2 0 1 (ivs zs)) :: l) (.slice sa zs.length c :: ws) := by
  rw [Vm.VRL]; exact ⟨_, ws, rfl, by rw [Vm.VR]; exact z10 hr (m91 hr), r⟩
theorem ec1 (r : Vm.VRL h [] (allZ h) (allZ h) l ws) {sa : Option Addr} {c : Nat} {m : List (List Int)} (hr : RdLL h sa c m) (hu : bw0 h 1 sa = true) : Vm.VRL h [] (allZ h) (allZ h) (.fz true (.sl 2 0 1 (lvs 2 m)) :: l) (.slice sa m.length c :: ws) := by
  rw [Vm.VRL]; exact ⟨_, ws, rfl, by rw [Vm.VR]; exact g01 hr hu fun _ ho => ho, r⟩
end
end Go.Proofs.Ytjpejkakodbchaa
namespace Go.Proofs.Ytjpejkakodbchaa
open Go.Am Go.Vm Go.Alg
theorem mn0 (h : H) (q : Int) (_ : -9223372036854775808 ≤ q) (_ : q ≤ 9223372036854775807) (sa : Option Addr) (ca : Nat) (M : List (List Int)) (ra : RdLL h sa ca M) (ua : bw0 h 1 sa = true) (la : M.length ≤ 9223372036854775807) (_ : ∀ l ∈ M, l.length ≤ 9223372036854775807)
    (sb : Option Addr) (cb : Nat) (K : List (List Int)) (rb : RdLL h sb cb K) (ub : bw0 h 1 sb = true) (lb : K.length ≤ 9223372036854775807) (_ : ∀ l ∈ K, l.length ≤ 9223372036854775807)
    (sy : Option Addr) (cy : Nat) (y : List Int) (ry : RdI h sy cy y) (_ : bw0 h 1 sy = true) (_ : y.length ≤ 9223372036854775807) :
    ∃ h', call T 3 [.int .i64 q, .slice sa M.length ca, .slice sb K.length cb, .slice sy y.length cy] h = some (.bool true, h') :=
  vlaw m41 (nj1 (ec1 (ec1 (jk1 fw1 ry) rb ub) ra ua) _) (bo1 la lb)
end Go.Proofs.Ytjpejkakodbchaa
