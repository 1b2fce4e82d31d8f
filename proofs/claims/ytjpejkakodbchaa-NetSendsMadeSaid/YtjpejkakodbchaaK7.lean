/-
  matrix.solve, Solve, in the second machine. Conditions: a field of the table; rows of one length. matrix.Solve, Inverse, in the second machine. Conditions: lists that fit. The document's Same, SameAll, Elements, the law's heavy, list, lists, num, in the second machine. Condition: lists that fit. The document's MatrixMay, in the second machine. No condition. Codes: may one be, in the second machine ..
-/
import Derived.Test.YtjpejkakodbchaaK6
set_option linter.unusedVariables false
set_option linter.unusedSimpArgs false
set_option linter.unusedSectionVars false
set_option maxRecDepth 100000
namespace Go.Proofs.Ytjpejkakodbchaa
open Go.Am Go.Vm Go.Alg
theorem vu3 {q : Int} {M : List (List (El q))} {at' i : Nat} (hii : i ≠ at') : ((((lls 2 (M.map vs)).set at' Tree.junk).set i Tree.junk).set at' (.sl 2 3 1 (ivs (vs (nth M i))))).set i (.sl 2 3 1 (ivs (vs (nth M at')))) = lls 2 ((swpM M at' i).map vs) := by
  have hsw : (swpM M at' i).map vs = ((M.map vs).set at' (vs (nth M i))).set i (vs (nth M at')) := by unfold swpM; rw [List.map_set, List.map_set]
  rw [hsw, ← y81, ← y81]
  refine List.ext_getElem? fun k => ?_
  simp only [List.getElem?_set, List.length_set]
  by_cases c1 : i = k <;> by_cases c2 : at' = k <;> simp [c1, c2]
theorem aw4 {q : Int} {M : List (List (El q))} {i : Nat} : (lls 2 (M.map vs)).set i (.sl 2 3 1 (ivs (vs (nth M i)))) = lls 2 ((swpM M i i).map vs) := by
  have hsw : (swpM M i i).map vs = ((M.map vs).set i (vs (nth M i))).set i (vs (nth M i)) := by unfold swpM; rw [List.map_set, List.map_set]
  rw [y81, hsw, List.set_set]
section
variable {q : Int} [IsFld q] {b b' : Bool} {nl nl' nr : Nat} {M : List (List (El q))} {y : List (El q)} {n R : Nat}
theorem gz1 (hy : y.length = M.length) (hMl : ∀ r ∈ M, r.length = n) (hn0 : 0 < n) (hMn : M.length ≤ 500) (hN : n ≤ 900) : ∀ (d i : Nat), i + d = M.length → ∀ ks,
    vgoL W ⟨h138, [.tmp 6, .tmp 7], 0⟩ [1, 2, 8, 10, 11, 36, 37] c138L0 (.blk 0 [8, 10, 11] :: ks) [(1, .fz b (.sl nl 0 1 (lvs nr (M.map vs)))), (2, .fz b' (.sl nl' 0 1 (ivs (vs y)))), (8, .fz true (pF q)), (10, .x (.int .i64 n)), (11, .own 0 []), (36, .x (.int .i64 M.length)), (37, .x (.int .i64 i))] [.sl 0 23 1 (lls 2 (((augL M y).map vs).take i ++ List.replicate d []))] =
      vgo W ⟨h138, [.tmp 6, .tmp 7], 0⟩ ks (VFr.of [(8, .fz true (pF q)), (10, .x (.int .i64 n)), (11, .own 0 [])]) [.sl 0 23 1 (lls 2 ((augL M y).map vs))]
  | 0, i, hi, ks => by
    have hl := b28 hy
    rw [List.replicate_zero, List.append_nil, List.take_of_length_le (by rw [List.length_map]; omega), sb5 c138L0.eq_def]
    simp (disch := first | omega | fail) only [push_cast, seval, ui5, lu7, y81, bj9, wrap64, dec_lt, cw6, nl3, qc6, mr8, nb8, if_pos, if_neg]
  | d + 1, i, hi, ks => by
    obtain ⟨r, hr⟩ := ge6 (l := M) (i := i) (by omega)
    obtain ⟨x, hx⟩ := ge6 (l := y) (i := i) (by omega)
    have hrl := hMl r (List.mem_of_getElem? hr)
    have hwx : wf y i = x := by
      obtain ⟨h1, h2⟩ := List.getElem?_eq_some_iff.1 hx
      rw [i66 h1, h2]
    have ih := gz1 hy hMl hn0 hMn hN d (i + 1) (by omega) ks
    have hg : ((augL M y).map vs)[i]? = some (vs (r ++ [x])) := by
      rw [List.getElem?_map]
      have h : (augL M y)[i]? = some (r ++ [x]) := by unfold augL; rw [List.getElem?_zipWith, hr, hx]
      rw [h]; rfl
    have hl := b28 hy
    have hn := l52 (n := d) hg
    have hYl : (((augL M y).map vs).take i ++ List.replicate (d + 1) []).length = M.length := by
      simp only [List.length_append, List.length_take, List.length_map, List.length_replicate]; omega
    rw [← hn] at ih
    generalize ((augL M y).map vs).take i ++ List.replicate (d + 1) [] = Y at ih hYl
    rw [Int.natCast_add, Int.natCast_one] at ih
    have h0 := mva (nl := nr) hr
    have h1 := iva (l := y) (i := i) (by omega)
    rw [hwx] at h1
    have hcp := fun b nl => u27 (b := b) (nl := nl) (l := vs r) (by rw [fi2]; omega) (by rw [fi2]; omega)
    have hv : vs r ++ [x.v] = vs (r ++ [x]) := by rw [gq8]; rfl
    rw [← ih, sb5 c138L0.eq_def]
    simp (disch := first | omega | fail) only [push_cast, seval, ui5, lu7, y81, bj9, wrap64, dec_lt, cw6, nl3, qc6, mr8, nb8, if_pos, if_neg, h0, h1, hcp, hYl, hv, y81]
theorem zw3 {b b' : Bool} {nl e : Nat} {r : List (El q)} {c : Nat} (hc : c < r.length) (hl : r.length ≤ 1000) : o24 W 157 [.fz b (.sl nl 0 1 (ivs (vs r))), .fz b' (.pt e [.v (.int .i64 c)])] [] = some (.x (.bool (decide ((wf r c).v ≠ 0))), [], []) := by
  have h1 := iva (l := r) (i := c) hc
  rw [o10 rfl T157 rfl]
  unfold F157 c157
  simp (disch := first | omega | fail) only [push_cast, seval, ui5, lu7, y81, bj9, wrap64, dec_lt, cw6, nl3, qc6, mr8, nb8, if_pos, if_neg, h1]
  by_cases h : (wf r c).v = 0
  · rw [decide_eq_true h, decide_eq_false (by simpa using h)]; rfl
  · rw [decide_eq_false h, decide_eq_true h]; rfl
section
variable {T5 : Tree} {c at' n0 : Nat}
theorem gr3 (hR : M.length = R) (hR2 : R ≤ 1000) (hn2 : n ≤ 1000) (hrow : ∀ k, k < R → (nth M k).length = n) (hc : c < n) (hat : at' < R) :
    ∀ (d k : Nat), k + d = R → ∀ ks,
      vgoL W ⟨h138, [.tmp 6, .tmp 7], 0⟩ [8, 10, 11, 13, 14, 15, 55, 56, 102, 103] c138L1 (.blk 4 [8, 10, 11, 13, 14, 55, 56] :: ks) [(8, .fz true (pF q)), (10, .x (.int .i64 n0)), (11, .own 0 []), (13, .own 1 []), (14, .own 2 []), (15, .x (.int .i64 at')), (55, .x (.int .i64 n0)), (56, .x (.int .i64 c)), (102, .x (.int .i64 R)), (103, .x (.int .i64 k))] [.sl 0 23 1 (lls 2 (((clrM M at' c).take k ++ M.drop k).map vs)), T5, .pt 3 [.v (.int .i64 c)]] =
        vgo W ⟨h138, [.tmp 6, .tmp 7], 0⟩ ks (VFr.of [(8, .fz true (pF q)), (10, .x (.int .i64 n0)), (11, .own 0 []), (13, .own 1 []), (14, .own 2 []), (55, .x (.int .i64 n0)), (56, .x (.int .i64 c))]) [.sl 0 23 1 (lls 2 ((clrM M at' c).map vs)), T5, .pt 3 [.v (.int .i64 c)]]
  | 0, k, hk, ks => by
    have hcl := wq1 M at' c
    rw [oh9 (by omega), List.append_nil, List.take_of_length_le (by omega), sb5 c138L1.eq_def]
    simp (disch := first | omega | fail) only [push_cast, seval, ui5, lu7, y81, bj9, wrap64, dec_lt, cw6, nl3, qc6, mr8, nb8, if_pos, if_neg]
  | d + 1, k, hk, ks => by
    have ih := gr3 hR hR2 hn2 hrow hc hat d (k + 1) (by omega) ks
    have hcl := wq1 M at' c
    have hck := kc5 (M := M) (at' := at') (c := c) (k := k) (by omega)
    have hY : ((clrM M at' c).take k ++ M.drop k).length = R := by simp only [List.length_append, List.length_take, List.length_drop]; omega
    have hYk : ((clrM M at' c).take k ++ M.drop k)[k]? = some (nth M k) := by
      rw [List.getElem?_append_right (by rw [List.length_take]; omega), List.length_take, Nat.min_eq_left (by omega), Nat.sub_self, List.getElem?_drop, Nat.add_zero, gu3 (by omega)]
    have hYa : ((clrM M at' c).take k ++ M.drop k)[at']? = some (nth M at') := by
      by_cases h : at' < k
      · rw [List.getElem?_append_left (by rw [List.length_take]; omega), List.getElem?_take, if_pos h, kc5 (by omega), if_pos rfl]
      · rw [List.getElem?_append_right (by rw [List.length_take]; omega), List.length_take, Nat.min_eq_left (by omega), List.getElem?_drop, show k + (at' - k) = at' by omega, gu3 (by omega)]
    have hYn : ((clrM M at' c).take k ++ M.drop k).set k (if k = at' then nth M k else dx9 (wf (nth M k) c) (nth M k) (nth M at')) = (clrM M at' c).take (k + 1) ++ M.drop (k + 1) := by
      rw [List.set_append_right _ _ (by rw [List.length_take]; omega), List.length_take, Nat.min_eq_left (by omega), Nat.sub_self, List.drop_eq_getElem_cons (by omega : k < M.length), List.set_cons_zero, List.take_add_one, hck, List.append_assoc]; rfl
    rw [← hYn] at ih
    generalize (clrM M at' c).take k ++ M.drop k = Y at ih hY hYk hYa
    rw [Int.natCast_add, Int.natCast_one] at ih
    have h1 := mla (nl := 2) hYk
    have h2 := mla (nl := 2) hYa
    have h3 := iva (l := nth M k) (i := c) (by rw [hrow k (by omega)]; exact hc)
    have hsame : Y.set k (nth M k) = Y := em2 hYk
    have hlk := hrow k (by omega)
    have hla := hrow at' hat
    by_cases hka : k = at'
    · rw [if_pos hka, hsame] at ih
      rw [← ih, sb5 c138L1.eq_def]
      simp (disch := first | omega | fail) only [push_cast, seval, ui5, lu7, y81, bj9, wrap64, dec_lt, cw6, nl3, qc6, mr8, nb8, if_pos, if_neg, h1, h2, h3, hY, hlk]
    · rw [if_neg hka] at ih
      have hl := fun b b' nl nl' => nq1 (b := b) (b' := b') (nl := nl) (nl' := nl') (c := wf (nth M k) c) (r := nth M k) (o := nth M at') (by rw [hrow k (by omega), hrow at' hat]) (by rw [hrow k (by omega)]; omega)
      have hs : (lls 2 (Y.map vs)).set k (.sl 2 3 1 (ivs (vs (dx9 (wf (nth M k) c) (nth M k) (nth M at'))))) = lls 2 ((Y.set k (dx9 (wf (nth M k) c) (nth M k) (nth M at'))).map vs) := by rw [y81, List.map_set]
      have hj : ((lls 2 (Y.map vs)).set k Tree.junk)[k]? = some Tree.junk := List.getElem?_set_self (by rw [qf0, List.length_map]; omega)
      rw [← ih, sb5 c138L1.eq_def]
      simp (disch := first | omega | fail) only [push_cast, seval, ui5, lu7, y81, bj9, wrap64, dec_lt, cw6, nl3, qc6, mr8, nb8, if_pos, if_neg, h1, h2, h3, hY, hlk, hl, hj, List.getElem?_set_ne, List.set_set, hs]
end
theorem wh0 {M0 : List (List (El q))} {n0 : Nat} (hR : M0.length = R) (hR0 : 0 < R) (hR2 : R ≤ 1000) (hn2 : n ≤ 1000) (hn0 : n0 < n) :
    ∀ (d c : Nat) (M : List (List (El q))) (P : List Nat), c + d = n0 → RedI n M0 M P c → ∃ (M' : List (List (El q))) (P' : List Nat), RedI n M0 M' P' n0 ∧ ∀ ks,
      vgoL W ⟨h138, [.tmp 6, .tmp 7], 0⟩ [8, 10, 11, 13, 55, 56] c138L2 (.blk 2 [10, 11, 13] :: ks) [(8, .fz true (pF q)), (10, .x (.int .i64 n0)), (11, .own 0 []), (13, .own 1 []), (55, .x (.int .i64 n0)), (56, .x (.int .i64 c))] [.sl 0 23 1 (lls 2 (M.map vs)), .sl 1 3 1 (ivs (pn P))] =
        vgo W ⟨h138, [.tmp 6, .tmp 7], 0⟩ ks (VFr.of [(10, .x (.int .i64 n0)), (11, .own 0 []), (13, .own 1 [])]) [.sl 0 23 1 (lls 2 (M'.map vs)), .sl 1 3 1 (ivs (pn P'))]
  | 0, c, M, P, hd, I => by
    obtain rfl : c = n0 := by omega
    refine ⟨M, P, I, fun ks => ?_⟩
    rw [sb5 c138L2.eq_def]
    simp (disch := first | omega | fail) only [push_cast, seval, ui5, lu7, y81, bj9, wrap64, dec_lt, cw6, nl3, qc6, mr8, nb8, if_pos, if_neg]
  | d + 1, c, M, P, hd, I => by
    have hMl : M.length = R := by rw [I.len, hR]
    have hpl := I.pl
    have hpn := im5 P
    have IH := wh0 hR hR0 hR2 hn2 hn0 d (c + 1)
    obtain ⟨at', hat'⟩ : ∃ a, a = P.length := ⟨_, rfl⟩
    have hrow : ∀ k, k < R → (nth M k).length = n := fun k hk => I.len_nth (by omega)
    obtain ⟨m, hm⟩ : ∃ m, m = List.take (R - at') (List.drop at' (List.map vs M)) := ⟨_, rfl⟩
    have hmm : ∀ {j : Nat} {x : List Int}, m[j]? = some x → at' + j < R ∧ x = vs (nth M (at' + j)) := fun {j x} h => by
      have hj := (List.getElem?_eq_some_iff.1 h).1
      rw [hm, List.length_take, List.length_drop, List.length_map] at hj
      rw [hm, List.getElem?_take, if_pos (by omega), List.getElem?_drop, List.getElem?_map, gu3 (by omega)] at h
      exact ⟨by omega, (Option.some.inj h).symm⟩
    have hml : m.length = R - at' := by rw [hm, List.length_take, List.length_drop, List.length_map]; omega
    have hk : ∀ (bl b : Bool) (e : Nat), ∀ r ∈ m, o24 W 157 [.fz bl (.sl 2 0 1 (ivs r)), .fz b (.pt e [.v (.int .i64 c)])] [] = some (.x (.bool (decide (gi r c ≠ 0))), [], []) := fun bl b e r hr => by
      obtain ⟨j, hj⟩ := List.getElem?_of_mem hr
      obtain ⟨h2, rfl⟩ := hmm hj
      have := hrow (at' + j) h2
      rw [zw3 (by omega) (by omega), v86]; rfl
    have hix := fun bl nl b e => aj5 (bl := bl) (nl := nl) (nr := 2) (m := m) (k := 157) (b := b) (t := .pt e [.v (.int .i64 c)]) (p := fun r => decide (gi r c ≠ 0)) (hk bl b e) rfl (by omega)
    rcases nu4 (fun r => decide (gi r c ≠ 0)) 0 m with ⟨f1, f2⟩ | ⟨j, x, f1, f2, f3⟩
    · rw [f1, hm] at hix
      have I' := I.skip (by omega) (fun k h1 h2 => by
        have hmk : vs (nth M k) ∈ m := by
          refine List.mem_of_getElem? (i := k - at') ?_
          rw [hm, List.getElem?_take, if_pos (by omega), List.getElem?_drop, List.getElem?_map, gu3 (by omega), show at' + (k - at') = k by omega]; rfl
        have := f2 _ hmk
        rw [v86] at this
        have h3 : (ge (nth M k) c).v = 0 := by simpa using this
        exact r58.1 h3)
      obtain ⟨M', P', r1, r3⟩ := IH M P (by omega) I'
      refine ⟨M', P', r1, fun ks => ?_⟩
      have ih := r3 ks
      rw [Int.natCast_add, Int.natCast_one] at ih
      rw [← hat'] at hpn
      have hnn : ((M.length : Int) - (at' : Int)).toNat = R - at' := by omega
      rw [← ih, sb5 c138L2.eq_def]
      simp (disch := first | omega | fail) only [push_cast, seval, ui5, lu7, y81, bj9, wrap64, dec_lt, cw6, nl3, qc6, mr8, nb8, if_pos, if_neg, hpn, hnn, hix]
    · have hj := (List.getElem?_eq_some_iff.1 f2).1
      obtain ⟨hR1, rfl⟩ := hmm f2
      rw [f1, Nat.zero_add, hm] at hix
      obtain ⟨i, hi⟩ : ∃ i, i = at' + j := ⟨_, rfl⟩
      rw [← hi] at f3 hR1
      have hne : wf (nth M i) c ≠ 0 := fun e => by
        have h3 : gi (vs (nth M i)) c ≠ 0 := by simpa using f3
        rw [v86] at h3
        exact h3 (r58.2 e)
      have I' := qt5 I (by omega) (i := i) (by omega) (by omega) hne
      rw [← hat'] at I'
      have hscl : (sclM M at' i c).length = M.length := np1
      have hsrow := k39 (c := c) (M := M) (fun k hk => hrow k (by omega)) (at' := at') (i := i) (by omega) (by omega)
      have hin := gr3 (n0 := n0) (T5 := .sl 1 3 1 (ivs (pn P))) (M := sclM M at' i c) (R := R) (n := n) (c := c) (at' := at') (by omega) hR2 hn2 (fun k hk => hsrow k (by omega)) (by omega) (by omega) R 0 (by omega)
      obtain ⟨M', P', r1, r3⟩ := IH (clrM (sclM M at' i c) at' c) (P ++ [c]) (by omega) I'
      refine ⟨M', P', r1, fun ks => ?_⟩
      have ih := r3 ks
      rw [Int.natCast_add, Int.natCast_one] at ih
      rw [← hat'] at hpn
      have hia : (at' : Int) + (j : Int) = (i : Int) := by omega
      have hnn : ((M.length : Int) - (at' : Int)).toNat = R - at' := by omega
      have hla := hrow i (by omega)
      have hlb := hrow at' (by omega)
      have h2 := mla (nl := 2) (M := M) (i := i) (gu3 (by omega))
      have h3 := mla (nl := 2) (M := M) (i := at') (gu3 (by omega))
      have hswl : (swpM M at' i).length = M.length := p58
      have h4 := mla (nl := 2) (M := swpM M at' i) (i := at') (r := nth M i) (by rw [gu3 (by omega), fj6 (by omega) (by omega)])
      have h5 := iva (l := nth M i) (i := c) (by omega)
      have e2 := rl7 hne
      have hsc := fun b nl => em7 (b := b) (nl := nl) (c := FK.inv (wf (nth M i) c)) (r := nth M i) (by omega)
      have hs2 : (lls 2 ((swpM M at' i).map vs)).set at' (.sl 2 3 1 (ivs (vs (xf5 (FK.inv (wf (nth M i) c)) (nth M i))))) = lls 2 ((sclM M at' i c).map vs) := by unfold sclM; rw [y81, List.map_set]
      have hL : (lls 2 (M.map vs)).length = R := by rw [qf0, List.length_map]; exact hMl
      simp only [e2] at hsc
      rw [List.take_zero, List.nil_append, List.drop_zero] at hin
      simp only [Int.natCast_zero] at hin
      have hpush := aw7 P c
      have k3 : ((lls 2 ((swpM M at' i).map vs)).set at' Tree.junk)[at']? = some Tree.junk := List.getElem?_set_self (by rw [qf0, List.length_map]; omega)
      by_cases hii : i = at'
      · have k1 : ((lls 2 (M.map vs)).set at' Tree.junk)[at']? = some Tree.junk := List.getElem?_set_self (by omega)
        subst hii
        have k2 := aw4 (M := M) (i := i)
        rw [← ih, sb5 c138L2.eq_def]
        simp (disch := first | omega | fail) only [push_cast, seval, ui5, lu7, y81, bj9, wrap64, dec_lt, cw6, nl3, qc6, mr8, nb8, if_pos, if_neg, hpn, hnn, hix, hia, h3, k1, List.set_set, k2, k3, h4, h5, hsc, hs2, hscl]
        rw [hMl, hin]
        simp (disch := first | omega | fail) only [push_cast, seval, ui5, lu7, y81, bj9, wrap64, dec_lt, cw6, nl3, qc6, mr8, nb8, if_pos, if_neg, hpn, hpush]
      · have k1 : ((lls 2 (M.map vs)).set at' Tree.junk)[i]? = some (.sl 2 3 1 (ivs (vs (nth M i)))) := by rw [List.getElem?_set_ne (by omega)]; exact h2
        have k2 := vu3 (M := M) hii
        rw [← ih, sb5 c138L2.eq_def]
        simp (disch := first | omega | fail) only [push_cast, seval, ui5, lu7, y81, bj9, wrap64, dec_lt, cw6, nl3, qc6, mr8, nb8, if_pos, if_neg, hpn, hnn, hix, hia, h2, h3, k1, k2, k3, h4, h5, hsc, hs2, hscl, List.set_set]
        rw [hMl, hin]
        simp (disch := first | omega | fail) only [push_cast, seval, ui5, lu7, y81, bj9, wrap64, dec_lt, cw6, nl3, qc6, mr8, nb8, if_pos, if_neg, hpn, hpush]
theorem rm1 {P : List Nat} {n0 : Nat} (hR : M.length = R) (hR2 : R ≤ 1000) (hrow : ∀ k, k < R → (nth M k).length = n0 + 1) (hn2 : n0 ≤ 1000) (hP : P.length ≤ R) :
    ∀ (d k : Nat), P.length + k + d = R → ∀ ks,
      vgoL W ⟨h138, [.tmp 6, .tmp 7], 0⟩ [10, 11, 13, 135, 136, 137] c138L3 (.blk 6 [10, 11, 13] :: ks) [(10, .x (.int .i64 n0)), (11, .own 0 []), (13, .own 1 []), (135, .sub 0 [] 1 P.length (R - P.length)), (136, .x (.int .i64 ((R : Int) - (P.length : Int)))), (137, .x (.int .i64 k))] [.sl 0 23 1 (lls 2 (M.map vs)), .sl 1 3 1 (ivs (pn P))] =
        if ((M.drop (P.length + k)).any fun r => !decide ((wf r n0).v = 0)) = true then some (.tup [.x (.slice none 0 0), .x (.bool false)], [], []) else
        vgo W ⟨h138, [.tmp 6, .tmp 7], 0⟩ ks (VFr.of [(10, .x (.int .i64 n0)), (11, .own 0 []), (13, .own 1 [])]) [.sl 0 23 1 (lls 2 (M.map vs)), .sl 1 3 1 (ivs (pn P))]
  | 0, k, hk, ks => by
    rw [oh9 (by omega), if_neg (by simp), sb5 c138L3.eq_def]
    simp (disch := first | omega | fail) only [push_cast, seval, ui5, lu7, y81, bj9, wrap64, dec_lt, cw6, nl3, qc6, mr8, nb8, if_pos, if_neg]
  | d + 1, k, hk, ks => by
    have ih := rm1 hR hR2 hrow hn2 hP d (k + 1) (by omega) ks
    rw [Int.natCast_add, Int.natCast_one] at ih
    have h1 := mla (nl := 2) (M := M) (i := P.length + k) (gu3 (by omega))
    have h2 := iva (l := nth M (P.length + k)) (i := n0) (by rw [hrow _ (by omega)]; omega)
    have h3 := hrow (P.length + k) (by omega)
    by_cases hz : (wf (nth M (P.length + k)) n0).v = 0
    · have hz0 := r58.1 hz
      rw [i62 (gu3 (by omega)), List.any_cons, decide_eq_true hz, Bool.not_true, Bool.false_or, show P.length + k + 1 = P.length + (k + 1) by omega, ← ih, sb5 c138L3.eq_def]
      simp (disch := first | omega | fail) only [push_cast, seval, ui5, lu7, y81, bj9, wrap64, dec_lt, cw6, nl3, qc6, mr8, nb8, if_pos, if_neg, h1, h2, h3, mr8 hz]
    · rw [i62 (gu3 (by omega)), List.any_cons, decide_eq_false hz, Bool.not_false, Bool.true_or, if_pos rfl, sb5 c138L3.eq_def]
      simp (disch := first | omega | fail) only [push_cast, seval, ui5, lu7, y81, bj9, wrap64, dec_lt, cw6, nl3, qc6, mr8, nb8, if_pos, if_neg, h1, h2, h3, nb8 hz]
theorem wf6 {α : Type} {M : List (List α)} {P : List Nat} {k p : Nat} (hp : P[k]? = some p) (hk : k < M.length) : (outP M P)[k]? = some (p, nth M k) := by
  have h1 := (List.getElem?_eq_some_iff.1 hp).1
  unfold outP
  rw [List.getElem?_zip_eq_some]
  exact ⟨hp, by rw [List.getElem?_take, if_pos h1, gu3 hk]⟩
theorem u45 {P : List Nat} {n0 : Nat} (hR : M.length = R) (hR2 : R ≤ 1000) (hrow : ∀ k, k < R → (nth M k).length = n0 + 1) (hn2 : n0 ≤ 1000) (hP : P.length ≤ R) (hPn : ∀ p ∈ P, p < n0) :
    ∀ (d k : Nat) (x : List (El q)), k + d = P.length → x.length = n0 → ∀ ks,
      vgoL W ⟨h138, [.tmp 6, .tmp 7], 0⟩ [10, 11, 20, 149, 150, 151] c138L4 (.blk 8 [20] :: ks) [(10, .x (.int .i64 n0)), (11, .own 0 []), (20, .own 1 []), (149, .own 2 []), (150, .x (.int .i64 P.length)), (151, .x (.int .i64 k))] [.sl 0 23 1 (lls 2 (M.map vs)), .sl 0 3 1 (ivs (vs x)), .sl 1 3 1 (ivs (pn P))] =
        vgo W ⟨h138, [.tmp 6, .tmp 7], 0⟩ ks (VFr.of [(20, .own 1 [])]) [.sl 0 23 1 (lls 2 (M.map vs)), .sl 0 3 1 (ivs (vs (setP n0 ((outP M P).drop k) x))), .sl 1 3 1 (ivs (pn P))]
  | 0, k, x, hk, hx, ks => by
    have hol : (outP M P).length = P.length := by unfold outP; rw [List.length_zip, List.length_take]; omega
    rw [oh9 (by omega), setP, sb5 c138L4.eq_def]
    simp (disch := first | omega | fail) only [push_cast, seval, ui5, lu7, y81, bj9, wrap64, dec_lt, cw6, nl3, qc6, mr8, nb8, if_pos, if_neg]
  | d + 1, k, x, hk, hx, ks => by
    obtain ⟨p, hp⟩ := ge6 (l := P) (i := k) (by omega)
    have hpn := hPn p (List.mem_of_getElem? hp)
    have ho := wf6 (M := M) hp (by omega)
    have ih := u45 hR hR2 hrow hn2 hP hPn d (k + 1) (x.set p (wf (nth M k) n0)) (by omega) (by rw [List.length_set]; exact hx) ks
    rw [Int.natCast_add, Int.natCast_one] at ih
    have h1 := mla (nl := 2) (M := M) (i := k) (gu3 (by omega))
    have h2 := iva (l := nth M k) (i := n0) (by rw [hrow k (by omega)]; omega)
    have h3 : (ivs (pn P))[k]? = some (.v (.int .i64 p)) := iat (by unfold pn; rw [List.getElem?_map, hp]; rfl)
    have h4 := hrow k (by omega)
    have hs := g52 x p (wf (nth M k) n0)
    have hpl := im5 P
    rw [i62 ho, setP, ← ih, sb5 c138L4.eq_def]
    simp (disch := first | omega | fail) only [push_cast, seval, ui5, lu7, y81, bj9, wrap64, dec_lt, cw6, nl3, qc6, mr8, nb8, if_pos, if_neg, h1, h2, h3, h4, hs, hpl]
theorem ub4 (hy : y.length = M.length) (hMl : ∀ r ∈ M, r.length = n) (hM0 : 0 < M.length) (hn0 : 0 < n) (hMn : M.length ≤ 500) (hN : n ≤ 900) :
    o24 W 138 [.x (.int .i64 q), .fz b (.sl nl 0 1 (lvs nr (M.map vs))), .fz b' (.sl nl' 0 1 (ivs (vs y)))] [] = match solR n M y with
      | none => some (.tup [.x (.slice none 0 0), .x (.bool false)], [], [])
      | some x => some (.tup [.own 0 [], .x (.bool true)], [.sl 0 3 1 (ivs (vs x))], []) := by
  have e1 := fun ks => gz1 (b := b) (b' := b') (nl := nl) (nl' := nl') (nr := nr) hy hMl hn0 hMn hN M.length 0 (by omega) ks
  rw [List.take_zero, List.nil_append] at e1
  simp only [Int.natCast_zero] at e1
  have haug := b28 hy
  obtain ⟨N', P, I, e2⟩ := wh0 (n := n + 1) (n0 := n) (M0 := augL M y) (R := M.length) haug hM0 (by omega) (by omega) (by omega) n 0 (augL M y) [] (by omega) (RedI.start (a86 hMl))
  obtain ⟨s1, s2⟩ := z55 hMl hy I
  have hNl : N'.length = M.length := by rw [I.len, haug]
  have hrow : ∀ k, k < M.length → (nth N' k).length = n + 1 := fun k hk => I.len_nth (by omega)
  have hpl := I.pl
  have e3 := fun ks => rm1 (M := N') (P := P) (n0 := n) hNl (by omega) hrow (by omega) (by omega) (M.length - P.length) 0 (by omega) ks
  have e4 := fun ks => u45 (M := N') (P := P) (n0 := n) hNl (by omega) hrow (by omega) (by omega) (fun p hp => I.lt p hp) P.length 0 (List.replicate n 0) (by omega) (by simp) ks
  rw [List.drop_zero] at e4
  simp only [Int.natCast_zero, Nat.add_zero] at e3 e4
  have hnil : ivs (pn []) = [] := rfl
  rw [hnil] at e2
  simp only [Int.natCast_zero] at e2
  obtain ⟨r0, hr0⟩ := ge6 (l := M) (i := 0) hM0
  have h0 := mva (nl := nr) hr0
  have hr0l := hMl r0 (List.mem_of_getElem? hr0)
  have hz := fc2 M.length
  have hz2 : List.replicate n (0 : Int) = vs (List.replicate n (0 : El q)) := by rw [← qj2]; rfl
  have hpnl := im5 P
  have hsub : ((M.length : Int) - (P.length : Int)).toNat = M.length - P.length := by omega
  rw [o10 rfl T138 rfl]
  unfold F138 c138
  simp (disch := first | omega | fail) only [push_cast, seval, ui5, lu7, y81, bj9, wrap64, dec_lt, cw6, nl3, qc6, mr8, nb8, if_pos, if_neg, h0, hr0l, hz]
  rw [e1]
  simp (disch := first | omega | fail) only [push_cast, seval, ui5, lu7, y81, bj9, wrap64, dec_lt, cw6, nl3, qc6, mr8, nb8, if_pos, if_neg]
  rw [e2]
  simp (disch := first | omega | fail) only [push_cast, seval, ui5, lu7, y81, bj9, wrap64, dec_lt, cw6, nl3, qc6, mr8, nb8, if_pos, if_neg, hpnl, hNl, hsub]
  rw [e3]
  have hiff : ((N'.drop P.length).any fun r => !decide ((wf r n).v = 0)) = true ↔ ∃ k, P.length ≤ k ∧ k < N'.length ∧ wf (nth N' k) n ≠ 0 := by
    rw [List.any_eq_true]
    constructor
    · rintro ⟨r, hr, hne⟩
      obtain ⟨i, hi⟩ := List.getElem?_of_mem hr
      rw [List.getElem?_drop] at hi
      refine ⟨P.length + i, by omega, (List.getElem?_eq_some_iff.1 hi).1, fun e => ?_⟩
      rw [xr8 hi] at e
      rw [decide_eq_true (r58.2 e)] at hne
      cases hne
    · rintro ⟨k, k1, k2, k3⟩
      refine ⟨nth N' k, List.mem_of_getElem? (i := k - P.length) (by rw [List.getElem?_drop, show P.length + (k - P.length) = k by omega, gu3 k2]), ?_⟩
      rw [decide_eq_false fun e => k3 (r58.1 e)]; rfl
  by_cases hex : ((N'.drop P.length).any fun r => !decide ((wf r n).v = 0)) = true
  · rw [if_pos hex, s1 (hiff.1 hex)]
  · rw [if_neg hex, s2 fun h => hex (hiff.2 h)]
    simp (disch := first | omega | fail) only [push_cast, seval, ui5, lu7, y81, bj9, wrap64, dec_lt, cw6, nl3, qc6, mr8, nb8, if_pos, if_neg, hz2, hpnl]
    rw [e4]
    simp (disch := first | omega | fail) only [push_cast, seval, ui5, lu7, y81, bj9, wrap64, dec_lt, cw6, nl3, qc6, mr8, nb8, if_pos, if_neg]
end
end Go.Proofs.Ytjpejkakodbchaa
namespace Go.Proofs.Ytjpejkakodbchaa
open Go.Am Go.Vm Go.Alg
section
variable {q : Int} {b b' : Bool} {nl nl' nr e : Nat}
theorem kd4 [IsFld q] (v : Int) : o24 W 137 [.x (.int .i64 v), .fz b (.pt e [pF q])] [] = some (.x (.bool (!fok q v)), [], []) := by
  rw [o10 rfl T137 rfl]
  unfold F137 c137
  simp (disch := first | omega | fail) only [push_cast, seval, ui5, lu7, y81, bj9, wrap64, dec_lt, cw6, nl3, qc6, mr8, nb8, if_pos, if_neg]
theorem s21 (h1 : matE q [] = 0) : o24 W 87 [.x (.int .i64 q), .fz b (.sl nl 0 1 []), .fz b' (.sl nl' 0 1 [])] [] = some (.tup [.x (.slice none 0 0), .x (.bool true), .x (.int .i64 0)], [], []) := by
  have e1 := fun b nl => or9 (q := q) (M := []) (b := b) (nl := nl) (nr := 0)
  simp only [em1, h1] at e1
  obtain ⟨⟨⟨p0, m0, g0, mod⟩, hn⟩, _⟩ := ou8 h1
  haveI : IsFld q := ⟨⟨p0, m0, g0, mod, hn⟩⟩
  have hf := fun bl nl b e => eg0 (nl := nl) (l := []) (bl := bl) (k := 137) (b := b) (t := .pt e [pF q]) kd4 rfl (by simp)
  simp only [lz6, List.any_nil] at hf
  rw [o10 rfl T87 rfl]
  unfold F87 c87
  simp (disch := first | omega | fail) only [push_cast, seval, ui5, lu7, y81, bj9, wrap64, dec_lt, cw6, nl3, qc6, mr8, nb8, if_pos, if_neg, e1, hf]
theorem zx6 [IsFld q] {M : List (List (El q))} {y : List (El q)} {n : Nat} (hy : y.length = M.length) (h0 : 0 < M.length) (hl : M.length ≤ 64) (hr : ∀ r ∈ M, r.length = n) (hn0 : 0 < n) (hn : n ≤ 64) :
    o24 W 87 [.x (.int .i64 q), .fz b (.sl nl 0 1 (lvs nr (M.map vs))), .fz b' (.sl nl' 0 1 (ivs (vs y)))] [] = match solR n M y with
      | none => some (.tup [.x (.slice none 0 0), .x (.bool false), .x (.int .i64 0)], [], [])
      | some x => some (.tup [.own 0 [], .x (.bool true), .x (.int .i64 0)], [.sl 0 3 1 (ivs (vs x))], []) := by
  have h1 := sy6 hl hr hn0 hn
  have e1 := fun b nl nr => or9 (q := q) (M := M.map vs) (b := b) (nl := nl) (nr := nr)
  simp only [h1] at e1
  have hf := fun bl nl b e => eg0 (nl := nl) (l := vs y) (bl := bl) (k := 137) (b := b) (t := .pt e [pF q]) kd4 rfl (by rw [fi2]; omega)
  have hany : ((vs y).any fun v => !fok q v) = false := List.any_eq_false.2 fun z hz => by
    obtain ⟨x, _, rfl⟩ := List.mem_map.1 hz
    rw [x.ok]; decide
  simp only [hany] at hf
  have e2 := fun b nl nr b' nl' => ub4 (b := b) (nl := nl) (nr := nr) (b' := b') (nl' := nl') hy hr h0 hn0 (by omega) (by omega)
  rw [o10 rfl T87 rfl]
  unfold F87 c87
  cases hs : solR n M y with
  | none =>
    simp only [hs] at e2
    simp (disch := first | omega | fail) only [push_cast, seval, ui5, lu7, y81, bj9, wrap64, dec_lt, cw6, nl3, qc6, mr8, nb8, if_pos, if_neg, e1, hf, e2, hy]
  | some x =>
    simp only [hs] at e2
    simp (disch := first | omega | fail) only [push_cast, seval, ui5, lu7, y81, bj9, wrap64, dec_lt, cw6, nl3, qc6, mr8, nb8, if_pos, if_neg, e1, hf, e2, hy]
end
section
variable {α : Type} {n : Nat}
end
section
variable {q : Int} [IsFld q] {b b' : Bool} {nl nl' nr : Nat} {M : List (List (El q))} {n : Nat}
end
section
variable {q : Int} {b b' : Bool} {nl nl' nr e : Nat}
end
end Go.Proofs.Ytjpejkakodbchaa
namespace Go.Proofs.Ytjpejkakodbchaa
open Go.Am Go.Vm Go.Alg
section
variable {b b' : Bool} {nl nl' nr nr' : Nat}
theorem ft0 {l k : List Int} (hl : l.length ≤ 9223372036854775807) (hk : k.length = l.length) : ∀ (d i : Nat), i + d = l.length → ∀ ks,
    vgoL W ⟨hNo, [.tmp 4], 0⟩ [0, 1, 5] c58L0 (.blk 0 [] :: ks) [(0, .fz b (.sl nl 0 1 (ivs l))), (1, .fz b' (.sl nl' 0 1 (ivs k))), (5, .x (.int .i64 i))] [] =
      if l.drop i = k.drop i then vgo W ⟨hNo, [.tmp 4], 0⟩ ks (VFr.of []) [] else some (.x (.bool false), [], [])
  | 0, i, hi, ks => by
    rw [oh9 (by omega), oh9 (by omega), if_pos rfl, sb5 c58L0.eq_def]
    simp (disch := first | omega | fail) only [push_cast, seval, ui5, lu7, y81, bj9, wrap64, dec_lt, cw6, nl3, qc6, mr8, nb8, if_pos, if_neg]
  | d + 1, i, hi, ks => by
    have ih := ft0 hl hk d (i + 1) (by omega) ks
    obtain ⟨a, ha⟩ := ge6 (l := l) (i := i) (by omega)
    obtain ⟨c, hc⟩ := ge6 (l := k) (i := i) (by omega)
    have h1 := iat ha
    have h2 := iat hc
    rw [i62 ha, i62 hc]
    rw [Int.natCast_add, Int.natCast_one] at ih
    by_cases h : a = c
    · have hiff : (a :: l.drop (i + 1) = c :: k.drop (i + 1)) = (l.drop (i + 1) = k.drop (i + 1)) := by rw [h]; simp
      simp only [hiff]
      rw [← ih, sb5 c58L0.eq_def]
      simp (disch := first | omega | fail) only [push_cast, seval, ui5, lu7, y81, bj9, wrap64, dec_lt, cw6, nl3, qc6, mr8, nb8, if_pos, if_neg, h1, h2, h]
    · rw [if_neg (by intro e; exact h (List.cons.inj e).1), sb5 c58L0.eq_def]
      simp (disch := first | omega | fail) only [push_cast, seval, ui5, lu7, y81, bj9, wrap64, dec_lt, cw6, nl3, qc6, mr8, nb8, if_pos, if_neg, h1, h2, nb8 h]
theorem nb2 {l k : List Int} (hl : l.length ≤ 9223372036854775807) : o24 W 58 [.fz b (.sl nl 0 1 (ivs l)), .fz b' (.sl nl' 0 1 (ivs k))] [] = some (.x (.bool (decide (l = k))), [], []) := by
  by_cases hk : k.length = l.length
  · have e := fun ks => ft0 (b := b) (b' := b') (nl := nl) (nl' := nl') hl hk l.length 0 (by omega) ks
    simp only [Int.natCast_zero, List.take_zero, List.drop_zero, rp2, lz6, x25, List.map_nil, List.length_nil] at e
    rw [o10 rfl T58 rfl]
    unfold F58 c58
    simp (disch := first | omega | fail) only [push_cast, seval, ui5, lu7, y81, bj9, wrap64, dec_lt, cw6, nl3, qc6, mr8, nb8, if_pos, if_neg, hk]
    rw [e]
    by_cases h : l = k
    · rw [if_pos h, decide_eq_true h]
      simp (disch := first | omega | fail) only [push_cast, seval, ui5, lu7, y81, bj9, wrap64, dec_lt, cw6, nl3, qc6, mr8, nb8, if_pos, if_neg]
    · rw [if_neg h, decide_eq_false h]
  · have h : ¬ l = k := fun e => hk (by rw [e])
    have h8 : ¬ (l.length : Int) = (k.length : Int) := by omega
    rw [decide_eq_false h, o10 rfl T58 rfl]
    unfold F58 c58
    simp (disch := first | omega | fail) only [push_cast, seval, ui5, lu7, y81, bj9, wrap64, dec_lt, cw6, nl3, qc6, mr8, nb8, if_pos, if_neg, nb8 h8]
theorem ea2 {l k : List Int} {e f : Int} (hl : l.length ≤ 9223372036854775807) : o24 W 35 [.fz b (.sl nl 0 1 (ivs l)), .x (.int .i64 e), .fz b' (.sl nl' 0 1 (ivs k)), .x (.int .i64 f)] [] = some (.x (.bool (if f = 0 then decide (e = 0) && decide (l = k) else decide (e = f) && decide (l.length = 0))), [], []) := by
  have h1 := fun b b' nl nl' => nb2 (b := b) (b' := b') (nl := nl) (nl' := nl') (k := k) hl
  by_cases hf : f = 0
  · rw [if_pos hf]
    by_cases h0 : e = 0
    · rw [decide_eq_true h0, Bool.true_and, o10 rfl T35 rfl]
      unfold F35 c35
      simp (disch := first | omega | fail) only [push_cast, seval, ui5, lu7, y81, bj9, wrap64, dec_lt, cw6, nl3, qc6, mr8, nb8, if_pos, if_neg, hf, h0, h1]
    · rw [decide_eq_false h0, Bool.false_and, o10 rfl T35 rfl]
      unfold F35 c35
      simp (disch := first | omega | fail) only [push_cast, seval, ui5, lu7, y81, bj9, wrap64, dec_lt, cw6, nl3, qc6, mr8, nb8, if_pos, if_neg, hf, nb8 h0]
  · rw [if_neg hf]
    by_cases h0 : e = f
    · subst h0
      rw [decide_eq_true rfl, Bool.true_and, o10 rfl T35 rfl]
      unfold F35 c35
      by_cases hz : l.length = 0
      · rw [decide_eq_true hz]
        simp (disch := first | omega | fail) only [push_cast, seval, ui5, lu7, y81, bj9, wrap64, dec_lt, cw6, nl3, qc6, mr8, nb8, if_pos, if_neg, nb8 hf, hz]
      · rw [decide_eq_false hz]
        simp (disch := first | omega | fail) only [push_cast, seval, ui5, lu7, y81, bj9, wrap64, dec_lt, cw6, nl3, qc6, mr8, nb8, if_pos, if_neg, nb8 hf]
    · rw [decide_eq_false h0, Bool.false_and, o10 rfl T35 rfl]
      unfold F35 c35
      simp (disch := first | omega | fail) only [push_cast, seval, ui5, lu7, y81, bj9, wrap64, dec_lt, cw6, nl3, qc6, mr8, nb8, if_pos, if_neg, nb8 hf, nb8 h0]
theorem ec0 {l : List (List Int)} (hl : l.length ≤ 9223372036854775807) : ∀ (d i : Nat) (n : Int), i + d = l.length → ∃ m : Int, ∀ (b : Bool) (nl nr : Nat) ks,
    vgoL W ⟨hNo, [.tmp 2], 0⟩ [0, 3, 4] c14L0 (.blk 0 [3] :: ks) [(0, .fz b (.sl nl 0 1 (lvs nr l))), (3, .x (.int .i64 n)), (4, .x (.int .i64 i))] [] = vgo W ⟨hNo, [.tmp 2], 0⟩ ks (VFr.of [(3, .x (.int .i64 m))]) []
  | 0, i, n, hi => by
    refine ⟨n, fun b nl nr ks => ?_⟩
    rw [sb5 c14L0.eq_def]
    simp (disch := first | omega | fail) only [push_cast, seval, ui5, lu7, y81, bj9, wrap64, dec_lt, cw6, nl3, qc6, mr8, nb8, if_pos, if_neg]
  | d + 1, i, n, hi => by
    obtain ⟨r, hr⟩ := ge6 (l := l) (i := i) (by omega)
    have h1 := fun nr => lat (nl := nr) hr
    by_cases hn : n ≤ 6000
    · obtain ⟨m, hm⟩ := ec0 hl d (i + 1) (IntKind.wrap .i64 (n + r.length)) (by omega)
      refine ⟨m, fun b nl nr ks => ?_⟩
      have ih := hm b nl nr ks
      rw [Int.natCast_add, Int.natCast_one] at ih
      rw [← ih, sb5 c14L0.eq_def]
      simp (disch := first | omega | fail) only [push_cast, seval, ui5, lu7, y81, bj9, wrap64, dec_lt, cw6, nl3, qc6, mr8, nb8, if_pos, if_neg, h1, nl3 hn]
    · refine ⟨n, fun b nl nr ks => ?_⟩
      rw [sb5 c14L0.eq_def]
      simp (disch := first | omega | fail) only [push_cast, seval, ui5, lu7, y81, bj9, wrap64, dec_lt, cw6, nl3, qc6, mr8, nb8, if_pos, if_neg, h1]
theorem tr6 {l : List (List Int)} (hl : l.length ≤ 9223372036854775807) : ∃ z : Bool, ∀ b nl nr, o24 W 14 [.fz b (.sl nl 0 1 (lvs nr l))] [] = some (.x (.bool z), [], []) := by
  obtain ⟨m, e⟩ := ec0 hl l.length 0 l.length (by omega)
  simp only [Int.natCast_zero] at e
  refine ⟨decide (6000 < m), fun b nl nr => ?_⟩
  rw [o10 rfl T14 rfl]
  unfold F14 c14
  simp (disch := first | omega | fail) only [push_cast, seval, ui5, lu7, y81, bj9, wrap64, dec_lt, cw6, nl3, qc6, mr8, nb8, if_pos, if_neg]
  rw [e]
  simp (disch := first | omega | fail) only [push_cast, seval, ui5, lu7, y81, bj9, wrap64, dec_lt, cw6, nl3, qc6, mr8, nb8, if_pos, if_neg]
section
variable {q : Int} [IsFld q]
theorem e85 {p m g : Int} {t : Tree} (u : RFo q p m g t) {l : List Int} (hl : l.length ≤ 9223372036854775807) : ∀ (d i : Nat), i + d = l.length → ∀ ks,
    vgoL W ⟨hNo, [.tmp 4], 0⟩ [1, 2, 5] c32L0 (.blk 0 [] :: ks) [(1, .fz b (.sl nl 0 1 (ivs l))), (2, .own 0 []), (5, .x (.int .i64 i))] [.pt 28 [.v (.int .i64 q), .v (.int .i64 p), .v (.int .i64 m), .v (.int .i64 g), .fz t]] =
      if ((l.drop i).any fun v => !fok q v) = true then some (.x (.bool false), [], []) else vgo W ⟨hNo, [.tmp 4], 0⟩ ks (VFr.of []) [.pt 28 [.v (.int .i64 q), .v (.int .i64 p), .v (.int .i64 m), .v (.int .i64 g), .fz t]]
  | 0, i, hi, ks => by
    rw [oh9 (by omega), if_neg (by simp), sb5 c32L0.eq_def]
    simp (disch := first | omega | fail) only [push_cast, seval, ui5, lu7, y81, bj9, wrap64, dec_lt, cw6, nl3, qc6, mr8, nb8, if_pos, if_neg]
  | d + 1, i, hi, ks => by
    have ih := e85 u hl d (i + 1) (by omega) ks
    obtain ⟨a, ha⟩ := ge6 (l := l) (i := i) (by omega)
    have h1 := iat ha
    rw [Int.natCast_add, Int.natCast_one] at ih
    have ht := u.n
    have ho := u.o
    have vhas := fun x : Int => xb9 (q := q) (x := x)
    rw [u.e] at vhas
    rw [i62 ha, List.any_cons]
    cases h : fok q a with
    | true =>
      simp only [h, Bool.not_true, Bool.false_or]
      rw [← ih, sb5 c32L0.eq_def]
      simp (disch := first | omega | fail) only [push_cast, seval, ui5, lu7, y81, bj9, wrap64, dec_lt, cw6, nl3, qc6, mr8, nb8, if_pos, if_neg, h1, vhas, ht, ho, h]
    | false =>
      simp only [h, Bool.not_false, Bool.true_or, if_true]
      rw [sb5 c32L0.eq_def]
      simp (disch := first | omega | fail) only [push_cast, seval, ui5, lu7, y81, bj9, wrap64, dec_lt, cw6, nl3, qc6, mr8, nb8, if_pos, if_neg, h1, vhas, ht, ho, h]
theorem q18 {l : List Int} (hl : l.length ≤ 9223372036854775807) : o24 W 32 [.agg (rFs q), .fz b (.sl nl 0 1 (ivs l))] [] = some (.x (.bool (!(l.any fun v => !fok q v))), [], []) := by
  obtain ⟨p, m, g, t, u⟩ := k75 q
  have e := fun ks => e85 (b := b) (nl := nl) u hl l.length 0 (by omega) ks
  simp only [Int.natCast_zero, List.take_zero, List.drop_zero, rp2, lz6, x25, List.map_nil, List.length_nil] at e
  have ht := u.n
  rw [o10 rfl T32 rfl, u.e]
  unfold F32 c32
  simp (disch := first | omega | fail) only [push_cast, seval, ui5, lu7, y81, bj9, wrap64, dec_lt, cw6, nl3, qc6, mr8, nb8, if_pos, if_neg, ht]
  rw [e]
  cases (l.any fun v => !fok q v) with
  | true => rw [if_pos rfl]; rfl
  | false =>
    rw [if_neg (by decide)]
    simp (disch := first | omega | fail) only [push_cast, seval, ui5, lu7, y81, bj9, wrap64, dec_lt, cw6, nl3, qc6, mr8, nb8, if_pos, if_neg]
end
end
end Go.Proofs.Ytjpejkakodbchaa
namespace Go.Proofs.Ytjpejkakodbchaa
open Go.Am Go.Vm Go.Alg
section
variable {q p m g : Int} {t : Tree} {b : Bool} {nl nr : Nat} {M : List (List Int)}
theorem de8 [IsFld q] (u : RFo q p m g t) {i : Nat} {r : List Int} (hr : M[i]? = some r) (hrl : r.length ≤ 64) (hMl : M.length ≤ 64) :
    ∀ (n k : Nat), k + n = r.length → ∀ ks,
      vgoL W ⟨hNo, [.tmp 4], 0⟩ [1, 5, 7, 8] c15L0 (.blk 2 [1, 5, 7] :: ks) [(1, .fz b (.sl nl 0 1 (lvs nr M))), (5, .own 0 []), (7, .x (.int .i64 i)), (8, .x (.int .i64 k))] [.pt 28 [.v (.int .i64 q), .v (.int .i64 p), .v (.int .i64 m), .v (.int .i64 g), .fz t]] =
        if (r.drop k).any (fun v => !fok q v) = true then some (.x (.int .i64 2), [], []) else vgo W ⟨hNo, [.tmp 4], 0⟩ ks (VFr.of [(1, .fz b (.sl nl 0 1 (lvs nr M))), (5, .own 0 []), (7, .x (.int .i64 i))]) [.pt 28 [.v (.int .i64 q), .v (.int .i64 p), .v (.int .i64 m), .v (.int .i64 g), .fz t]]
  | 0, k, hk, ks => by
    have hi : i < M.length := (List.getElem?_eq_some_iff.1 hr).1
    have h0 := lat (nl := nr) hr
    rw [oh9 (by omega), if_neg (by simp), sb5 c15L0.eq_def]
    simp (disch := first | omega | fail) only [push_cast, seval, ui5, lu7, y81, bj9, wrap64, dec_lt, cw6, nl3, qc6, mr8, nb8, if_pos, if_neg, h0]
  | n + 1, k, hk, ks => by
    have ih := de8 u hr hrl hMl n (k + 1) (by omega) ks
    have hi : i < M.length := (List.getElem?_eq_some_iff.1 hr).1
    have h0 := lat (nl := nr) hr
    obtain ⟨a, ha⟩ := ge6 (l := r) (i := k) (by omega)
    have h1 := iat ha
    have ht := u.n
    have ho := u.o
    have vhas := fun x : Int => xb9 (q := q) (x := x)
    rw [u.e] at vhas
    rw [Int.natCast_add, Int.natCast_one] at ih
    rw [i62 ha, List.any_cons]
    cases hf : fok q a with
    | true =>
      rw [Bool.not_true, Bool.false_or, ← ih, sb5 c15L0.eq_def]
      simp (disch := first | omega | fail) only [push_cast, seval, ui5, lu7, y81, bj9, wrap64, dec_lt, cw6, nl3, qc6, mr8, nb8, if_pos, if_neg, h0, h1, ht, ho, vhas, hf]
    | false =>
      rw [Bool.not_false, Bool.true_or, if_pos rfl, sb5 c15L0.eq_def]
      simp (disch := first | omega | fail) only [push_cast, seval, ui5, lu7, y81, bj9, wrap64, dec_lt, cw6, nl3, qc6, mr8, nb8, if_pos, if_neg, h0, h1, ht, ho, vhas, hf]
theorem qc1 [IsFld q] (u : RFo q p m g t) (hMl : M.length ≤ 64) {n0 : Nat} (hn0 : n0 = (nth M 0).length) :
    ∀ (d i : Nat), i + d = M.length → ∀ ks,
      vgoL W ⟨hNo, [.tmp 4], 0⟩ [1, 5, 7] c15L1 (.blk 0 [] :: ks) [(1, .fz b (.sl nl 0 1 (lvs nr M))), (5, .own 0 []), (7, .x (.int .i64 i))] [.pt 28 [.v (.int .i64 q), .v (.int .i64 p), .v (.int .i64 m), .v (.int .i64 g), .fz t]] =
        if wb9 q n0 (M.drop i) = 0 then vgo W ⟨hNo, [.tmp 4], 0⟩ ks (VFr.of []) [.pt 28 [.v (.int .i64 q), .v (.int .i64 p), .v (.int .i64 m), .v (.int .i64 g), .fz t]] else some (.x (.int .i64 (wb9 q n0 (M.drop i))), [], [])
  | 0, i, hi, ks => by
    rw [oh9 (by omega), wb9, if_pos rfl, sb5 c15L1.eq_def]
    simp (disch := first | omega | fail) only [push_cast, seval, ui5, lu7, y81, bj9, wrap64, dec_lt, cw6, nl3, qc6, mr8, nb8, if_pos, if_neg]
  | d + 1, i, hi, ks => by
    obtain ⟨r, hr⟩ := ge6 (l := M) (i := i) (by omega)
    obtain ⟨r0, hr0⟩ := ge6 (l := M) (i := 0) (by omega)
    have hr0l : r0.length = n0 := by rw [hn0, xr8 hr0]
    have h0 := lat (nl := nr) hr
    have h1 := lat (nl := nr) hr0
    have ih := qc1 u hMl hn0 d (i + 1) (by omega) ks
    rw [Int.natCast_add, Int.natCast_one] at ih
    rw [i62 hr]
    by_cases hne : r.length = n0
    · by_cases hz : r.length = 0
      · have hrow : rowE q n0 r = 3 := by unfold rowE; rw [if_pos (.inr hz)]
        rw [kj7 hrow (by decide), if_neg (by decide), sb5 c15L1.eq_def]
        simp (disch := first | omega | fail) only [push_cast, seval, ui5, lu7, y81, bj9, wrap64, dec_lt, cw6, nl3, qc6, mr8, nb8, if_pos, if_neg, h0, h1, hr0l]
      · by_cases h64 : 64 < r.length
        · have hrow : rowE q n0 r = 4 := by unfold rowE; rw [if_neg (by omega), if_pos h64]
          rw [kj7 hrow (by decide), if_neg (by decide), sb5 c15L1.eq_def]
          simp (disch := first | omega | fail) only [push_cast, seval, ui5, lu7, y81, bj9, wrap64, dec_lt, cw6, nl3, qc6, mr8, nb8, if_pos, if_neg, h0, h1, hr0l]
        · have e := fun ks => de8 (b := b) (nl := nl) (nr := nr) u hr (by omega) hMl r.length 0 (by omega) ks
          simp only [Int.natCast_zero, List.take_zero, List.drop_zero, rp2, lz6, x25, List.map_nil, List.length_nil] at e
          cases hany : (r.any fun v => !fok q v) with
          | true =>
            have hrow : rowE q n0 r = 2 := by unfold rowE; rw [if_neg (by omega), if_neg h64, if_pos hany]
            rw [hany] at e
            rw [kj7 hrow (by decide), if_neg (by decide), sb5 c15L1.eq_def]
            simp (disch := first | omega | fail) only [push_cast, seval, ui5, lu7, y81, bj9, wrap64, dec_lt, cw6, nl3, qc6, mr8, nb8, if_pos, if_neg, h0, h1, hr0l]
            rw [e, if_pos rfl]
          | false =>
            have hrow : rowE q n0 r = 0 := by unfold rowE; rw [if_neg (by omega), if_neg h64, if_neg (by rw [hany]; decide)]
            rw [hany] at e
            rw [qf5 hrow, ← ih, sb5 c15L1.eq_def]
            simp (disch := first | omega | fail) only [push_cast, seval, ui5, lu7, y81, bj9, wrap64, dec_lt, cw6, nl3, qc6, mr8, nb8, if_pos, if_neg, h0, h1, hr0l]
            rw [e, if_neg (by decide)]
            simp (disch := first | omega | fail) only [push_cast, seval, ui5, lu7, y81, bj9, wrap64, dec_lt, cw6, nl3, qc6, mr8, nb8, if_pos, if_neg]
    · have hrow : rowE q n0 r = 3 := by unfold rowE; rw [if_pos (.inl hne)]
      have hne' : ¬ (r.length : Int) = (n0 : Int) := by omega
      rw [kj7 hrow (by decide), if_neg (by decide), sb5 c15L1.eq_def]
      simp (disch := first | omega | fail) only [push_cast, seval, ui5, lu7, y81, bj9, wrap64, dec_lt, cw6, nl3, qc6, mr8, nb8, if_pos, if_neg, h0, h1, hr0l, nb8 hne']
theorem rz8 {q : Int} : o24 W 15 [.x (.int .i64 q), .fz b (.sl nl 0 1 (lvs nr M))] [] = some (.x (.int .i64 (matE q M)), [], []) := by
  unfold matE
  cases hn : fldN q.toNat with
  | none =>
    have e1 := fg0 hn
    rw [o10 rfl T15 rfl]
    unfold F15 c15
    simp (disch := first | omega | fail) only [push_cast, seval, ui5, lu7, y81, bj9, wrap64, dec_lt, cw6, nl3, qc6, mr8, nb8, if_pos, if_neg, e1]
  | some x =>
    obtain ⟨p0, m0, g0, mod⟩ := x
    haveI : IsFld q := ⟨⟨p0, m0, g0, mod, hn⟩⟩
    obtain ⟨p, m, g, t, u⟩ := k75 q
    have ht := u.n
    have e0 : o24 W 16 [.x (.int .i64 q)] [] = _ := uw8
    rw [u.e] at e0
    simp only
    by_cases h64 : 64 < M.length
    · rw [if_pos h64, o10 rfl T15 rfl]
      unfold F15 c15
      simp (disch := first | omega | fail) only [push_cast, seval, ui5, lu7, y81, bj9, wrap64, dec_lt, cw6, nl3, qc6, mr8, nb8, if_pos, if_neg, e0, ht]
    · have e := fun ks => qc1 (M := M) (b := b) (nl := nl) (nr := nr) u (by omega) rfl M.length 0 (by omega) ks
      rw [if_neg h64, o10 rfl T15 rfl]
      simp only [Int.natCast_zero, List.take_zero, List.drop_zero, rp2, lz6, x25, List.map_nil, List.length_nil] at e
      unfold F15 c15
      simp (disch := first | omega | fail) only [push_cast, seval, ui5, lu7, y81, bj9, wrap64, dec_lt, cw6, nl3, qc6, mr8, nb8, if_pos, if_neg, e0, ht]
      rw [e]
      by_cases hr : wb9 q (nth M 0).length M = 0
      · rw [if_pos hr, hr]
        simp (disch := first | omega | fail) only [push_cast, seval, ui5, lu7, y81, bj9, wrap64, dec_lt, cw6, nl3, qc6, mr8, nb8, if_pos, if_neg]
      · rw [if_neg hr]
end
end Go.Proofs.Ytjpejkakodbchaa
namespace Go.Proofs.Ytjpejkakodbchaa
open Go.Am Go.Vm Go.Alg
section
variable {q n : Int} {nl nr : Nat} {M : List (List Int)}
end
end Go.Proofs.Ytjpejkakodbchaa
namespace Go.Proofs.Ytjpejkakodbchaa
open Go.Am Go.Vm Go.Alg
section
variable {q p m g : Int} [IsFld q] {t : Tree} {b b' : Bool} {nl nl' nr n7 n8 : Nat} {M : List (List (El q))} {A : List (Nat × List (El q))} {N : Nat}
end
end Go.Proofs.Ytjpejkakodbchaa
namespace Go.Proofs.Ytjpejkakodbchaa
open Go.Am Go.Vm Go.Alg
section
variable {l : List Int} {nl : Nat} {b : Bool} {x : Int}
end
end Go.Proofs.Ytjpejkakodbchaa
namespace Go.Proofs.Ytjpejkakodbchaa
open Go.Am Go.Vm Go.Alg
section
variable {q : Int} {b : Bool} {nl nr n6 n7 : Nat}
section
variable [IsFld q] {A : List (Nat × List (El q))} {N : Nat} {K : List (List Int)}
end
end
end Go.Proofs.Ytjpejkakodbchaa
namespace Go.Alg
section
variable {K : Type} [FK K] {n : Nat}
end
end Go.Alg
namespace Go.Proofs.Ytjpejkakodbchaa
open Go.Am Go.Vm Go.Alg
section
variable {q n : Int} {nl nr : Nat} {M : List (List Int)}
end
section
variable {q : Int} [IsFld q] {k nl nr : Nat} {N : List (List (El q))}
end
end Go.Proofs.Ytjpejkakodbchaa
namespace Go.Proofs.Ytjpejkakodbchaa
open Go.Am Go.Vm Go.Alg
section
variable {q n q' n' e : Int} {nl nr nl' nr' : Nat} {M M' : List (List Int)}
end
section
variable {q : Int} [IsFld q] {k nl nr nl2 : Nat} {b : Bool} {N : List (List (El q))} {M : List (List Int)} {w : List Int}
theorem vf9 (a : List (El q)) : ((vs a).any fun v => !fok q v) = false := List.any_eq_false.2 fun z hz => by
  obtain ⟨x, _, rfl⟩ := List.mem_map.1 hz
  rw [x.ok]; decide
def synL (D : List (List (El q))) (w : List (El q)) : List (El q) := D.map fun r => sumN r.length fun j => wf r j * wf w j
theorem js8 (D : List (List (El q))) (w : List (El q)) : (synL D w).length = D.length := by simp [synL]
end
end Go.Proofs.Ytjpejkakodbchaa
namespace Go.Proofs.Ytjpejkakodbchaa
open Go.Am Go.Vm Go.Alg
def evs (E : List (Int × Int)) : List Tree := E.flatMap fun e => [.v (.int .i64 e.1), .v (.int .i64 e.2)]
theorem xg6 (E : List (Int × Int)) : (evs E).length = 2 * E.length := by
  induction E with
  | nil => rfl
  | cons a E ih => unfold evs at ih ⊢; rw [List.flatMap_cons, List.length_append, ih, List.length_cons]; simp; omega
theorem k42 (E : List (Int × Int)) : (evs E).length / 2 = E.length := by rw [xg6]; omega
theorem pe5 : ∀ {E : List (Int × Int)} {i : Nat} {e : Int × Int}, E[i]? = some e → (evs E)[i * 2]? = some (.v (.int .i64 e.1)) ∧ (evs E)[i * 2 + 1]? = some (.v (.int .i64 e.2))
  | [], i, e, h => by simp at h
  | a :: E, 0, e, h => by
    have : a = e := by simpa using h
    subst this; exact ⟨rfl, rfl⟩
  | a :: E, i + 1, e, h => by
    have h1 : E[i]? = some e := by simpa using h
    have := pe5 h1
    have hc : evs (a :: E) = .v (.int .i64 a.1) :: .v (.int .i64 a.2) :: evs E := rfl
    rw [hc, show (i + 1) * 2 = i * 2 + 1 + 1 by omega, show i * 2 + 1 + 1 + 1 = (i * 2 + 1) + 1 + 1 by omega]
    exact this
theorem xx3 (E : List (Int × Int)) (a b : Int) : evs E ++ [.v (.int .i64 a), .v (.int .i64 b)] = evs (E ++ [(a, b)]) := by unfold evs; rw [List.flatMap_append]; rfl
def fvs (nl : Nat) (m : List (List Int)) : List Tree := m.map fun l => .fz (.sl nl 0 1 (ivs l))
@[push_cast] theorem lv3 (nl : Nat) (m : List (List Int)) : (fvs nl m).length = m.length := by simp [fvs]
@[push_cast] theorem iz0 (nl : Nat) (m : List (List Int)) : jj5 (fvs nl m) = lvs nl m := by
  rw [gz0]
  unfold fvs lvs
  rw [List.map_map]
  exact List.map_congr_left fun l _ => by show strip _ = _; rw [strip]
@[push_cast] theorem s84 (nl : Nat) (m : List (List Int)) (l : List Int) : fvs nl m ++ [.fz (.sl nl 0 1 (ivs l))] = fvs nl (m ++ [l]) := by unfold fvs; rw [List.map_append]; rfl
theorem g53 {nl : Nat} {m : List (List Int)} {i : Nat} {l : List Int} (h : m[i]? = some l) : (fvs nl m)[i]? = some (.fz (.sl nl 0 1 (ivs l))) := by
  unfold fvs; rw [List.getElem?_map, h]; rfl
def badG (n : Int) (e : Int × Int) : Bool := decide (e.1 < 0) || (decide (n ≤ e.2) || decide (e.2 ≤ e.1))
def netE (n : Int) (E : List (Int × Int)) : Int := if n < 2 ∨ 10 < n ∨ 24 < E.length then 4 else if E.any (badG n) = true then 10 else 0
def e43 (n : Int) (E : List (Int × Int)) (at' : Int) : Int := if netE n E = 0 then (if at' < 1 ∨ n ≤ at' then 10 else 0) else netE n E
section
variable {n : Int} {E : List (Int × Int)} {nl : Nat}
theorem rz4 (hE : E.length ≤ 24) : ∀ (d i : Nat), i + d = E.length → ∀ ks,
    vgoL W ⟨hNo, [.tmp 2], 0⟩ [1, 3] c93L0 (.blk 0 [] :: ks) [(1, .own 0 []), (3, .x (.int .i64 i))] [.pt 53 [.v (.int .i64 n), .fz (.sl nl 0 2 (evs E))]] =
      if (E.drop i).any (badG n) = true then some (.x (.int .i64 10), [], []) else vgo W ⟨hNo, [.tmp 2], 0⟩ ks (VFr.of []) [.pt 53 [.v (.int .i64 n), .fz (.sl nl 0 2 (evs E))]]
  | 0, i, hi, ks => by
    have hl := k42 E
    rw [oh9 (by omega), if_neg (by simp), sb5 c93L0.eq_def]
    simp (disch := first | omega | fail) only [push_cast, seval, ui5, lu7, y81, bj9, wrap64, dec_lt, cw6, nl3, qc6, mr8, nb8, if_pos, if_neg, hl]
  | d + 1, i, hi, ks => by
    have ih := rz4 hE d (i + 1) (by omega) ks
    obtain ⟨⟨a, b⟩, he⟩ := ge6 (l := E) (i := i) (by omega)
    obtain ⟨h1, h2⟩ := pe5 he
    have hl := k42 E
    have hl2 := xg6 E
    rw [Int.natCast_add, Int.natCast_one] at ih
    rw [i62 he, List.any_cons]
    unfold badG
    by_cases c1 : a < 0
    · rw [decide_eq_true c1, Bool.true_or, Bool.true_or, if_pos rfl, sb5 c93L0.eq_def]
      simp (disch := first | omega | fail) only [push_cast, seval, ui5, lu7, y81, bj9, wrap64, dec_lt, cw6, nl3, qc6, mr8, nb8, if_pos, if_neg, hl, h1, h2, dec_lt c1]
    · by_cases c2 : n ≤ b
      · rw [decide_eq_true c2, Bool.true_or, Bool.or_true, Bool.true_or, if_pos rfl, sb5 c93L0.eq_def]
        simp (disch := first | omega | fail) only [push_cast, seval, ui5, lu7, y81, bj9, wrap64, dec_lt, cw6, nl3, qc6, mr8, nb8, if_pos, if_neg, hl, h1, h2, cw6 (Int.not_lt.1 c1), nl3 c2]
      · by_cases c3 : b ≤ a
        · rw [decide_eq_true c3, Bool.or_true, Bool.or_true, Bool.true_or, if_pos rfl, sb5 c93L0.eq_def]
          simp (disch := first | omega | fail) only [push_cast, seval, ui5, lu7, y81, bj9, wrap64, dec_lt, cw6, nl3, qc6, mr8, nb8, if_pos, if_neg, hl, h1, h2, cw6 (Int.not_lt.1 c1), qc6 (Int.not_le.1 c2), nl3 c3]
        · rw [decide_eq_false c1, decide_eq_false c2, decide_eq_false c3, Bool.false_or, Bool.false_or, Bool.false_or]
          unfold badG at ih
          rw [← ih, sb5 c93L0.eq_def]
          simp (disch := first | omega | fail) only [push_cast, seval, ui5, lu7, y81, bj9, wrap64, dec_lt, cw6, nl3, qc6, mr8, nb8, if_pos, if_neg, hl, h1, h2, cw6 (Int.not_lt.1 c1), qc6 (Int.not_le.1 c2), qc6 (Int.not_le.1 c3)]
theorem rx6 : o24 W 93 [.agg [.x (.int .i64 n), .fz true (.sl nl 0 2 (evs E))]] [] = some (.x (.int .i64 (netE n E)), [], []) := by
  have hl := k42 E
  unfold netE
  by_cases c1 : n < 2
  · rw [if_pos (.inl c1), o10 rfl T93 rfl]
    unfold F93 c93
    simp (disch := first | omega | fail) only [push_cast, seval, ui5, lu7, y81, bj9, wrap64, dec_lt, cw6, nl3, qc6, mr8, nb8, if_pos, if_neg, dec_lt c1]
  · by_cases c2 : 10 < n
    · rw [if_pos (.inr (.inl c2)), o10 rfl T93 rfl]
      unfold F93 c93
      simp (disch := first | omega | fail) only [push_cast, seval, ui5, lu7, y81, bj9, wrap64, dec_lt, cw6, nl3, qc6, mr8, nb8, if_pos, if_neg, cw6 (Int.not_lt.1 c1), dec_lt c2]
    · by_cases c3 : 24 < E.length
      · rw [if_pos (.inr (.inr c3)), o10 rfl T93 rfl]
        unfold F93 c93
        simp (disch := first | omega | fail) only [push_cast, seval, ui5, lu7, y81, bj9, wrap64, dec_lt, cw6, nl3, qc6, mr8, nb8, if_pos, if_neg, hl, cw6 (Int.not_lt.1 c1), cw6 (Int.not_lt.1 c2)]
      · have e := fun ks => rz4 (n := n) (E := E) (nl := nl) (by omega) E.length 0 (by omega) ks
        simp only [Int.natCast_zero, List.take_zero, List.drop_zero, rp2, lz6, x25, List.map_nil, List.length_nil] at e
        rw [if_neg (by omega), o10 rfl T93 rfl]
        unfold F93 c93
        simp (disch := first | omega | fail) only [push_cast, seval, ui5, lu7, y81, bj9, wrap64, dec_lt, cw6, nl3, qc6, mr8, nb8, if_pos, if_neg, hl, cw6 (Int.not_lt.1 c1), cw6 (Int.not_lt.1 c2)]
        rw [e]
        split
        · rfl
        · simp (disch := first | omega | fail) only [push_cast, seval, ui5, lu7, y81, bj9, wrap64, dec_lt, cw6, nl3, qc6, mr8, nb8, if_pos, if_neg]
theorem hu8 (hE : E.length ≤ 24) : ∀ (d i : Nat), i + d = E.length → ∀ ks,
    vgoL W ⟨hNo, [.tmp 2], 0⟩ [1, 20, 21, 22] c140L0 (.blk 0 [] :: ks) [(1, .own 0 []), (20, .fz true (.sl nl 0 2 (evs E))), (21, .x (.int .i64 E.length)), (22, .x (.int .i64 i))] [.pt 53 [.v (.int .i64 n), .fz (.sl nl 0 2 (evs E))]] =
      if (E.drop i).any (badG n) = true then some (.x (.int .i64 10), [], []) else vgo W ⟨hNo, [.tmp 2], 0⟩ ks (VFr.of []) [.pt 53 [.v (.int .i64 n), .fz (.sl nl 0 2 (evs E))]]
  | 0, i, hi, ks => by
    rw [oh9 (by omega), if_neg (by simp), sb5 c140L0.eq_def]
    simp (disch := first | omega | fail) only [push_cast, seval, ui5, lu7, y81, bj9, wrap64, dec_lt, cw6, nl3, qc6, mr8, nb8, if_pos, if_neg]
  | d + 1, i, hi, ks => by
    have ih := hu8 hE d (i + 1) (by omega) ks
    obtain ⟨⟨a, b⟩, he⟩ := ge6 (l := E) (i := i) (by omega)
    obtain ⟨h1, h2⟩ := pe5 he
    have hl2 := xg6 E
    rw [Int.natCast_add, Int.natCast_one] at ih
    rw [i62 he, List.any_cons]
    unfold badG
    by_cases c1 : a < 0
    · rw [decide_eq_true c1, Bool.true_or, Bool.true_or, if_pos rfl, sb5 c140L0.eq_def]
      simp (disch := first | omega | fail) only [push_cast, seval, ui5, lu7, y81, bj9, wrap64, dec_lt, cw6, nl3, qc6, mr8, nb8, if_pos, if_neg, h1, h2, dec_lt c1]
    · by_cases c2 : n ≤ b
      · rw [decide_eq_true c2, Bool.true_or, Bool.or_true, Bool.true_or, if_pos rfl, sb5 c140L0.eq_def]
        simp (disch := first | omega | fail) only [push_cast, seval, ui5, lu7, y81, bj9, wrap64, dec_lt, cw6, nl3, qc6, mr8, nb8, if_pos, if_neg, h1, h2, cw6 (Int.not_lt.1 c1), nl3 c2]
      · by_cases c3 : b ≤ a
        · rw [decide_eq_true c3, Bool.or_true, Bool.or_true, Bool.true_or, if_pos rfl, sb5 c140L0.eq_def]
          simp (disch := first | omega | fail) only [push_cast, seval, ui5, lu7, y81, bj9, wrap64, dec_lt, cw6, nl3, qc6, mr8, nb8, if_pos, if_neg, h1, h2, cw6 (Int.not_lt.1 c1), qc6 (Int.not_le.1 c2), nl3 c3]
        · rw [decide_eq_false c1, decide_eq_false c2, decide_eq_false c3, Bool.false_or, Bool.false_or, Bool.false_or]
          unfold badG at ih
          rw [← ih, sb5 c140L0.eq_def]
          simp (disch := first | omega | fail) only [push_cast, seval, ui5, lu7, y81, bj9, wrap64, dec_lt, cw6, nl3, qc6, mr8, nb8, if_pos, if_neg, h1, h2, cw6 (Int.not_lt.1 c1), qc6 (Int.not_le.1 c2), qc6 (Int.not_le.1 c3)]
theorem x91 : o24 W 140 [.agg [.x (.int .i64 n), .fz true (.sl nl 0 2 (evs E))]] [] = some (.x (.int .i64 (netE n E)), [], []) := by
  have hl := k42 E
  unfold netE
  by_cases c1 : n < 2
  · rw [if_pos (.inl c1), o10 rfl T140 rfl]
    unfold F140 c140
    simp (disch := first | omega | fail) only [push_cast, seval, ui5, lu7, y81, bj9, wrap64, dec_lt, cw6, nl3, qc6, mr8, nb8, if_pos, if_neg, dec_lt c1]
  · by_cases c2 : 10 < n
    · rw [if_pos (.inr (.inl c2)), o10 rfl T140 rfl]
      unfold F140 c140
      simp (disch := first | omega | fail) only [push_cast, seval, ui5, lu7, y81, bj9, wrap64, dec_lt, cw6, nl3, qc6, mr8, nb8, if_pos, if_neg, cw6 (Int.not_lt.1 c1), dec_lt c2]
    · by_cases c3 : 24 < E.length
      · rw [if_pos (.inr (.inr c3)), o10 rfl T140 rfl]
        unfold F140 c140
        simp (disch := first | omega | fail) only [push_cast, seval, ui5, lu7, y81, bj9, wrap64, dec_lt, cw6, nl3, qc6, mr8, nb8, if_pos, if_neg, hl, cw6 (Int.not_lt.1 c1), cw6 (Int.not_lt.1 c2)]
      · have e := fun ks => hu8 (n := n) (E := E) (nl := nl) (by omega) E.length 0 (by omega) ks
        simp only [Int.natCast_zero, List.take_zero, List.drop_zero, rp2, lz6, x25, List.map_nil, List.length_nil] at e
        rw [if_neg (by omega), o10 rfl T140 rfl]
        unfold F140 c140
        simp (disch := first | omega | fail) only [push_cast, seval, ui5, lu7, y81, bj9, wrap64, dec_lt, cw6, nl3, qc6, mr8, nb8, if_pos, if_neg, hl, cw6 (Int.not_lt.1 c1), cw6 (Int.not_lt.1 c2)]
        rw [e]
        split
        · rfl
        · simp (disch := first | omega | fail) only [push_cast, seval, ui5, lu7, y81, bj9, wrap64, dec_lt, cw6, nl3, qc6, mr8, nb8, if_pos, if_neg]
theorem pf1 {to : Int} : o24 W 36 [.agg [.x (.int .i64 n), .fz true (.sl nl 0 2 (evs E))], .x (.int .i64 to)] [] = some (.x (.int .i64 (e43 n E to)), [], []) := by
  have e1 := fun nl => rx6 (n := n) (E := E) (nl := nl)
  unfold e43
  by_cases h : netE n E = 0
  · rw [h] at e1
    rw [if_pos h]
    by_cases c1 : to < 1
    · rw [if_pos (.inl c1), o10 rfl T36 rfl]
      unfold F36 c36
      simp (disch := first | omega | fail) only [push_cast, seval, ui5, lu7, y81, bj9, wrap64, dec_lt, cw6, nl3, qc6, mr8, nb8, if_pos, if_neg, e1, dec_lt c1]
    · by_cases c2 : n ≤ to
      · rw [if_pos (.inr c2), o10 rfl T36 rfl]
        unfold F36 c36
        simp (disch := first | omega | fail) only [push_cast, seval, ui5, lu7, y81, bj9, wrap64, dec_lt, cw6, nl3, qc6, mr8, nb8, if_pos, if_neg, e1, cw6 (Int.not_lt.1 c1), nl3 c2]
      · rw [if_neg (by omega), o10 rfl T36 rfl]
        unfold F36 c36
        simp (disch := first | omega | fail) only [push_cast, seval, ui5, lu7, y81, bj9, wrap64, dec_lt, cw6, nl3, qc6, mr8, nb8, if_pos, if_neg, e1, cw6 (Int.not_lt.1 c1), qc6 (Int.not_le.1 c2)]
  · rw [if_neg h, o10 rfl T36 rfl]
    unfold F36 c36
    simp (disch := first | omega | fail) only [push_cast, seval, ui5, lu7, y81, bj9, wrap64, dec_lt, cw6, nl3, qc6, mr8, nb8, if_pos, if_neg, e1, nb8 h]
theorem k29 {to : Int} : o24 W 95 [.agg [.x (.int .i64 n), .fz true (.sl nl 0 2 (evs E))], .x (.int .i64 to)] [] = some (.x (.int .i64 (e43 n E to)), [], []) := by
  have e1 := fun nl => x91 (n := n) (E := E) (nl := nl)
  unfold e43
  by_cases h : netE n E = 0
  · rw [h] at e1
    rw [if_pos h]
    by_cases c1 : to < 1
    · rw [if_pos (.inl c1), o10 rfl T95 rfl]
      unfold F95 c95
      simp (disch := first | omega | fail) only [push_cast, seval, ui5, lu7, y81, bj9, wrap64, dec_lt, cw6, nl3, qc6, mr8, nb8, if_pos, if_neg, e1, dec_lt c1]
    · by_cases c2 : n ≤ to
      · rw [if_pos (.inr c2), o10 rfl T95 rfl]
        unfold F95 c95
        simp (disch := first | omega | fail) only [push_cast, seval, ui5, lu7, y81, bj9, wrap64, dec_lt, cw6, nl3, qc6, mr8, nb8, if_pos, if_neg, e1, cw6 (Int.not_lt.1 c1), nl3 c2]
      · rw [if_neg (by omega), o10 rfl T95 rfl]
        unfold F95 c95
        simp (disch := first | omega | fail) only [push_cast, seval, ui5, lu7, y81, bj9, wrap64, dec_lt, cw6, nl3, qc6, mr8, nb8, if_pos, if_neg, e1, cw6 (Int.not_lt.1 c1), qc6 (Int.not_le.1 c2)]
  · rw [if_neg h, o10 rfl T95 rfl]
    unfold F95 c95
    simp (disch := first | omega | fail) only [push_cast, seval, ui5, lu7, y81, bj9, wrap64, dec_lt, cw6, nl3, qc6, mr8, nb8, if_pos, if_neg, e1, nb8 h]
end
end Go.Proofs.Ytjpejkakodbchaa
namespace Go.Proofs.Ytjpejkakodbchaa
open Go.Am Go.Vm Go.Alg
def selL {α : Type} (to : Int) : List (Int × Int) → List α → List α
  | e :: E, x :: M => if e.2 = to then x :: selL to E M else selL to E M
  | _, _ => []
section
variable {α β : Type} {to : Int}
theorem of7 : ∀ {E : List (Int × Int)} {M : List α} (E' : List (Int × Int)) (M' : List α), E.length = M.length → selL to (E ++ E') (M ++ M') = selL to E M ++ selL to E' M'
  | [], [], E', M', _ => rfl
  | [], _ :: _, _, _, h => by cases h
  | _ :: _, [], _, _, h => by cases h
  | e :: E, x :: M, E', M', h => by
    have ih := of7 E' M' (show E.length = M.length by simpa using h)
    rw [List.cons_append, List.cons_append, selL, selL, ih]
    split <;> rfl
theorem y52 (f : α → β) : ∀ (E : List (Int × Int)) (M : List α), selL to E (M.map f) = (selL to E M).map f
  | [], [] => rfl
  | [], _ :: _ => rfl
  | _ :: _, [] => rfl
  | e :: E, x :: M => by
    rw [List.map_cons, selL, selL, y52 f E M]
    split <;> rfl
theorem is4 : ∀ {E : List (Int × Int)} {M : List α} {x : α}, x ∈ selL to E M → x ∈ M
  | [], [], _, h => h
  | [], _ :: _, _, h => by cases h
  | _ :: _, [], _, h => by cases h
  | e :: E, y :: M, x, h => by
    rw [selL] at h
    split at h
    · rcases List.mem_cons.1 h with rfl | h
      · simp
      · exact List.mem_cons_of_mem _ (is4 h)
    · exact List.mem_cons_of_mem _ (is4 h)
theorem ep8 : ∀ {E : List (Int × Int)} {M : List α} {C : List β}, M.length = C.length → (selL to E M).length = (selL to E C).length
  | [], [], [], _ => rfl
  | [], _ :: _, _ :: _, _ => rfl
  | _ :: _, [], [], _ => rfl
  | _, _ :: _, [], h => by cases h
  | _, [], _ :: _, h => by cases h
  | e :: E, x :: M, c :: C, h => by
    have ih := ep8 (E := E) (show M.length = C.length by simpa using h)
    rw [selL, selL]
    split
    · rw [List.length_cons, List.length_cons, ih]
    · exact ih
theorem ef3 : ∀ (E : List (Int × Int)) (M : List α), (selL to E M).length ≤ M.length
  | [], [] => Nat.le_refl _
  | [], _ :: _ => Nat.zero_le _
  | _ :: _, [] => Nat.zero_le _
  | e :: E, x :: M => by
    have := ef3 E M
    rw [selL]
    split
    · rw [List.length_cons, List.length_cons]; omega
    · rw [List.length_cons]; omega
theorem ab7 {E : List (Int × Int)} {M : List α} (h : M.length = E.length) {i : Nat} {e : Int × Int} {x : α} (he : E[i]? = some e) (hx : M[i]? = some x) : selL to (E.take (i + 1)) (M.take (i + 1)) = if e.2 = to then selL to (E.take i) (M.take i) ++ [x] else selL to (E.take i) (M.take i) := by
  rw [List.take_add_one, List.take_add_one, he, hx, of7 _ _ (by simp [h])]
  show selL to (E.take i) (M.take i) ++ selL to [e] [x] = _
  rw [selL]
  split
  · rfl
  · show _ ++ [] = _
    rw [List.append_nil]
end
section
variable {q : Int} [IsFld q] {n to : Int} {E : List (Int × Int)} {nl nl' nr nr' nlv : Nat} {b b' : Bool}
theorem hh7 {M : List (List Int)} (hM : M.length = E.length) (hE : E.length ≤ 1000) : ∀ (d i : Nat), i + d = E.length → ∀ ks,
    vgoL W ⟨h94, [.tmp 8], 0⟩ [2, 3, 5, 9, 10] c94L0 (.blk 0 [9] :: ks) [(2, .fz true (.sl nlv 0 1 (lvs nr M))), (3, .x (.int .i64 to)), (5, .own 0 []), (9, .own 1 []), (10, .x (.int .i64 i))] [.pt 53 [.v (.int .i64 n), .fz (.sl nl 0 2 (evs E))], .sl 1 23 1 (fvs nr (selL to (E.take i) (M.take i)))] =
      vgo W ⟨h94, [.tmp 8], 0⟩ ks (VFr.of [(9, .own 1 [])]) [.pt 53 [.v (.int .i64 n), .fz (.sl nl 0 2 (evs E))], .sl 1 23 1 (fvs nr (selL to E M))]
  | 0, i, hi, ks => by
    have hl := k42 E
    rw [List.take_of_length_le (by omega), List.take_of_length_le (by omega), sb5 c94L0.eq_def]
    simp (disch := first | omega | fail) only [push_cast, seval, ui5, lu7, y81, bj9, wrap64, dec_lt, cw6, nl3, qc6, mr8, nb8, if_pos, if_neg, hl]
  | d + 1, i, hi, ks => by
    have ih := hh7 hM hE d (i + 1) (by omega) ks
    obtain ⟨⟨a, c⟩, he⟩ := ge6 (l := E) (i := i) (by omega)
    obtain ⟨r, hr⟩ := ge6 (l := M) (i := i) (by omega)
    obtain ⟨h1, h2⟩ := pe5 he
    have h3 := lat (nl := nr) hr
    have hl := k42 E
    have hl2 := xg6 E
    have hsl := ef3 (to := to) (E.take i) (M.take i)
    rw [List.length_take] at hsl
    rw [Int.natCast_add, Int.natCast_one, ab7 hM he hr] at ih
    by_cases hc : c = to
    · rw [if_pos hc] at ih
      rw [← ih, sb5 c94L0.eq_def]
      simp (disch := first | omega | fail) only [push_cast, seval, ui5, lu7, y81, bj9, wrap64, dec_lt, cw6, nl3, qc6, mr8, nb8, if_pos, if_neg, hl, h1, h2, h3, mr8 hc]
    · rw [if_neg hc] at ih
      rw [← ih, sb5 c94L0.eq_def]
      simp (disch := first | omega | fail) only [push_cast, seval, ui5, lu7, y81, bj9, wrap64, dec_lt, cw6, nl3, qc6, mr8, nb8, if_pos, if_neg, hl, h1, h2, nb8 hc]
theorem os7 {M : List (List Int)} (hM : M.length = E.length) (hE : E.length ≤ 1000) :
    o24 W 94 [.agg (rFs q), .agg [.x (.int .i64 n), .fz true (.sl nl 0 2 (evs E))], .fz true (.sl nlv 0 1 (lvs nr M)), .x (.int .i64 to)] [] = some (.own 0 [], [.sl 1 23 1 (fvs nr (selL to E M))], []) := by
  obtain ⟨p, m, g, t, u⟩ := k75 q
  have ht := u.n
  have ho := u.o
  have hfe := u.e
  have e := fun ks => hh7 (nlv := nlv) (nr := nr) (nl := nl) (n := n) (to := to) hM hE E.length 0 (by omega) ks
  rw [List.take_zero, List.take_zero, show selL to ([] : List (Int × Int)) ([] : List (List Int)) = [] from rfl, show fvs nr [] = [] from rfl] at e
  simp only [Int.natCast_zero, List.take_zero, List.drop_zero, rp2, lz6, x25, List.map_nil, List.length_nil] at e
  rw [hfe, o10 rfl T94 rfl]
  unfold F94 c94
  simp (disch := first | omega | fail) only [push_cast, seval, ui5, lu7, y81, bj9, wrap64, dec_lt, cw6, nl3, qc6, mr8, nb8, if_pos, if_neg, ht, ho]
  rw [e]
  simp (disch := first | omega | fail) only [push_cast, seval, ui5, lu7, y81, bj9, wrap64, dec_lt, cw6, nl3, qc6, mr8, nb8, if_pos, if_neg]
def r57 (k : Nat) (M : List (List (El q))) (y : List (El q)) : Option (List (El q)) := if M = [] then none else if (redR M).length < k then none else solR k M y
theorem aj4 (ufb : ∃ p m g t, RFo q p m g t) {c : List Int} (hc : c.length = E.length) (hE : E.length ≤ 1000) {T5 T12 : Tree} : ∀ (d i : Nat), i + d = E.length → ∀ ks,
    vgoL W ⟨h37, [.tmp 10, .tmp 11], 0⟩ [3, 4, 5, 6, 12, 13, 14] c37L0 (.blk 0 [5, 12, 13] :: ks) [(3, .fz b (.sl nl' 0 1 (ivs c))), (4, .x (.int .i64 to)), (5, .own 0 []), (6, .own 1 []), (12, .own 2 []), (13, .own 3 []), (14, .x (.int .i64 i))] [T5, .pt 53 [.v (.int .i64 n), .fz (.sl nl 0 2 (evs E))], T12, .sl 1 3 1 (ivs (selL to (E.take i) (c.take i)))] =
      vgo W ⟨h37, [.tmp 10, .tmp 11], 0⟩ ks (VFr.of [(5, .own 0 []), (12, .own 2 []), (13, .own 3 [])]) [T5, .pt 53 [.v (.int .i64 n), .fz (.sl nl 0 2 (evs E))], T12, .sl 1 3 1 (ivs (selL to E c))]
  | 0, i, hi, ks => by
    have hl := k42 E
    rw [List.take_of_length_le (by omega), List.take_of_length_le (by omega), sb5 c37L0.eq_def]
    simp (disch := first | omega | fail) only [push_cast, seval, ui5, lu7, y81, bj9, wrap64, dec_lt, cw6, nl3, qc6, mr8, nb8, if_pos, if_neg, hl]
  | d + 1, i, hi, ks => by
    have ih := aj4 ufb hc hE (T5 := T5) (T12 := T12) d (i + 1) (by omega) ks
    obtain ⟨⟨a, c2⟩, he⟩ := ge6 (l := E) (i := i) (by omega)
    obtain ⟨r, hr⟩ := ge6 (l := c) (i := i) (by omega)
    obtain ⟨h1, h2⟩ := pe5 he
    have h3 := iat hr
    have hl := k42 E
    have hl2 := xg6 E
    have hsl := ef3 (to := to) (E.take i) (c.take i)
    rw [List.length_take] at hsl
    rw [Int.natCast_add, Int.natCast_one, ab7 hc he hr] at ih
    by_cases hcc : c2 = to
    · rw [if_pos hcc] at ih
      rw [← ih, sb5 c37L0.eq_def]
      simp (disch := first | omega | fail) only [push_cast, seval, ui5, lu7, y81, bj9, wrap64, dec_lt, cw6, nl3, qc6, mr8, nb8, if_pos, if_neg, hl, h1, h2, h3, mr8 hcc]
    · rw [if_neg hcc] at ih
      rw [← ih, sb5 c37L0.eq_def]
      simp (disch := first | omega | fail) only [push_cast, seval, ui5, lu7, y81, bj9, wrap64, dec_lt, cw6, nl3, qc6, mr8, nb8, if_pos, if_neg, hl, h1, h2, nb8 hcc]
theorem g31 {N : List (List (El q))} {y : List (El q)} {k : Nat} (hN : N.length = E.length) (hy : y.length = E.length) (hE : E.length ≤ 64) (hr : ∀ r ∈ N, r.length = k) (hk0 : 0 < k) (hk : k ≤ 64) :
    o24 W 37 [.agg (rFs q), .agg [.x (.int .i64 n), .fz true (.sl nl 0 2 (evs E))], .fz true (.sl nlv 0 1 (lvs nr (N.map vs))), .fz b (.sl nl' 0 1 (ivs (vs y))), .x (.int .i64 to)] [] =
      match r57 k (selL to E N) (selL to E y) with
      | none => some (.tup [.x (.slice none 0 0), .x (.bool false)], [], [])
      | some x => some (.tup [.own 0 [], .x (.bool true)], [.sl 0 3 1 (ivs (vs x))], []) := by
  obtain ⟨p, m, g, t, u⟩ := k75 q
  have ht := u.n
  have ho := u.o
  have hfe := u.e
  have e1 := fun nl nlv nr => os7 (q := q) (n := n) (to := to) (E := E) (nl := nl) (nlv := nlv) (nr := nr) (M := N.map vs) (by rw [List.length_map, hN]) (by omega)
  rw [y52, hfe] at e1
  have e2 := fun T5 T12 ks => aj4 (q := q) (b := b) (nl := nl) (nl' := nl') (n := n) (to := to) ⟨p, m, g, t, u⟩ (c := vs y) (by rw [fi2, hy]) (by omega) (T5 := T5) (T12 := T12) E.length 0 (by omega) ks
  have hvy : selL to E (vs y) = vs (selL to E y) := y52 El.v E y
  rw [List.take_zero, List.take_zero, show selL to ([] : List (Int × Int)) ([] : List Int) = [] from rfl, hvy] at e2
  simp only [Int.natCast_zero, List.take_zero, List.drop_zero, rp2, lz6, x25, List.map_nil, List.length_nil] at e2
  have hSr : ∀ r ∈ selL to E N, r.length = k := fun r h => hr r (is4 h)
  have hSl := ef3 (to := to) E N
  have hSy : (selL to E y).length = (selL to E N).length := ep8 (by omega)
  generalize selL to E N = S at *
  generalize selL to E y = z at *
  unfold r57
  rw [hfe, o10 rfl T37 rfl]
  unfold F37 c37
  by_cases hS : S = []
  · subst hS
    rw [if_pos rfl]
    have h0 : ∀ nr, fvs nr (List.map vs ([] : List (List (El q)))) = [] := fun _ => rfl
    simp only [h0] at e1
    simp (disch := first | omega | fail) only [push_cast, seval, ui5, lu7, y81, bj9, wrap64, dec_lt, cw6, nl3, qc6, mr8, nb8, if_pos, if_neg, ht, ho, e1]
    rw [e2]
    simp (disch := first | omega | fail) only [push_cast, seval, ui5, lu7, y81, bj9, wrap64, dec_lt, cw6, nl3, qc6, mr8, nb8, if_pos, if_neg]
  · have hp : 0 < S.length := List.length_pos_iff.2 hS
    rw [if_neg hS]
    have e3 := fun b b' nl nl' nr => x97 (q := q) (b := b) (b' := b') (nl := nl) (nl' := nl') (nr := nr) (M := S) (y := z) (by omega) hSr hp (by omega) (by omega)
    have e4 := fun b nl nr => di6 (q := q) (b := b) (nl := nl) (nr := nr) hSr (by omega) (show k ≤ 1000 by omega)
    rw [hfe] at e3 e4
    obtain ⟨r0, hr0⟩ := ge6 (l := S) (i := 0) hp
    have h3 : (fvs nr (S.map vs))[0]? = some (.fz (.sl nr 0 1 (ivs (vs r0)))) := g53 (by rw [List.getElem?_map, hr0]; rfl)
    have h4 := hSr r0 (List.mem_of_getElem? hr0)
    have h5 := nu3 (redR S)
    cases hs : solR k S z with
    | none =>
      simp only [hs] at e3
      rw [ite_self]
      simp (disch := first | omega | fail) only [push_cast, seval, ui5, lu7, y81, bj9, wrap64, dec_lt, cw6, nl3, qc6, mr8, nb8, if_pos, if_neg, ht, ho, e1]
      rw [e2]
      simp (disch := first | omega | fail) only [push_cast, seval, ui5, lu7, y81, bj9, wrap64, dec_lt, cw6, nl3, qc6, mr8, nb8, if_pos, if_neg, ht, ho, e3, e4]
    | some x =>
      simp only [hs] at e3
      by_cases hrk : (redR S).length < k
      · rw [if_pos hrk]
        simp (disch := first | omega | fail) only [push_cast, seval, ui5, lu7, y81, bj9, wrap64, dec_lt, cw6, nl3, qc6, mr8, nb8, if_pos, if_neg, ht, ho, e1]
        rw [e2]
        simp (disch := first | omega | fail) only [push_cast, seval, ui5, lu7, y81, bj9, wrap64, dec_lt, cw6, nl3, qc6, mr8, nb8, if_pos, if_neg, ht, ho, e3, e4, h3, h4, h5]
      · rw [if_neg hrk]
        simp (disch := first | omega | fail) only [push_cast, seval, ui5, lu7, y81, bj9, wrap64, dec_lt, cw6, nl3, qc6, mr8, nb8, if_pos, if_neg, ht, ho, e1]
        rw [e2]
        simp (disch := first | omega | fail) only [push_cast, seval, ui5, lu7, y81, bj9, wrap64, dec_lt, cw6, nl3, qc6, mr8, nb8, if_pos, if_neg, ht, ho, e3, e4, h3, h4, h5]
end
end Go.Proofs.Ytjpejkakodbchaa
namespace Go.Proofs.Ytjpejkakodbchaa
open Go.Am Go.Vm Go.Alg
def seqR : Nat → ACode → ACode
  | n + 1, .seq _ b => seqR n b
  | _, c => c
def f45 (q : Int) (M : List (List Int)) (y : List Int) : Int := if matE q M = 0 then (if 0 < M.length ∧ y.length ≠ (nth M 0).length then 6 else if (y.any fun v => !fok q v) = true then 2 else 0) else matE q M
section
variable {q n to : Int} {E : List (Int × Int)} {nl nl' nr nr' nlv : Nat} {b b' : Bool}
theorem nn9 [IsFld q] {e : Nat} (v : Int) : o24 W 92 [.x (.int .i64 v), .fz b (.pt e [pF q])] [] = some (.x (.bool (!fok q v)), [], []) := by
  rw [o10 rfl T92 rfl]
  unfold F92 c92
  simp (disch := first | omega | fail) only [push_cast, seval, ui5, lu7, y81, bj9, wrap64, dec_lt, cw6, nl3, qc6, mr8, nb8, if_pos, if_neg]
theorem nf4 [IsFld q] {e : Nat} (v : Int) : o24 W 96 [.x (.int .i64 v), .fz b (.pt e [pF q])] [] = some (.x (.bool (!fok q v)), [], []) := by
  rw [o10 rfl T96 rfl]
  unfold F96 c96
  simp (disch := first | omega | fail) only [push_cast, seval, ui5, lu7, y81, bj9, wrap64, dec_lt, cw6, nl3, qc6, mr8, nb8, if_pos, if_neg]
theorem eq3 [IsFld q] {y : List Int} (h : ¬ (y.any fun v => !fok q v) = true) : ∃ a : List (El q), y = vs a := n39 fun z hz => by
  refine Classical.byContradiction fun h2 => h (List.any_eq_true.2 ⟨z, hz, ?_⟩)
  rw [Bool.not_eq_true] at h2
  rw [h2]; rfl
theorem c26 [IsFld q] {T9 T11 : Tree} {i : Nat} {D : List (List Int)} {r w : List (El q)} (hrl : r.length = w.length) (hw : w.length ≤ 1000) (hD : D.length ≤ 1000) : ∀ (d j : Nat), j + d = r.length → ∀ ks,
    vgoL W ⟨h34, [.tmp 6, .tmp 7], 0⟩ [2, 9, 11, 14, 43, 44, 45, 49, 50, 51] c34L0 (.blk 2 [2, 9, 11, 14, 43, 44, 45] :: ks) [(2, .fz b' (.sl nl' 0 1 (ivs (vs w)))), (9, .own 0 []), (11, .own 1 []), (14, .x (.int .i64 ((sumN j fun j => wf r j * wf w j).v))), (43, .fz b (.sl nl 0 1 (lvs nr D))), (44, .x (.int .i64 D.length)), (45, .x (.int .i64 i)), (49, .fz b (.sl nr 0 1 (ivs (vs r)))), (50, .x (.int .i64 r.length)), (51, .x (.int .i64 j))] [.pt 107 [.fz (pF q)], T11] =
      vgo W ⟨h34, [.tmp 6, .tmp 7], 0⟩ ks (VFr.of [(2, .fz b' (.sl nl' 0 1 (ivs (vs w)))), (9, .own 0 []), (11, .own 1 []), (14, .x (.int .i64 ((sumN r.length fun j => wf r j * wf w j).v))), (43, .fz b (.sl nl 0 1 (lvs nr D))), (44, .x (.int .i64 D.length)), (45, .x (.int .i64 i))]) [.pt 107 [.fz (pF q)], T11]
  | 0, j, hj, ks => by
    obtain rfl : j = r.length := by omega
    rw [sb5 c34L0.eq_def]
    simp (disch := first | omega | fail) only [push_cast, seval, ui5, lu7, y81, bj9, wrap64, dec_lt, cw6, nl3, qc6, mr8, nb8, if_pos, if_neg]
  | d + 1, j, hj, ks => by
    have ih := c26 (T9 := T9) (T11 := T11) (i := i) (D := D) hrl hw hD d (j + 1) (by omega) ks
    have h1 := iva (l := r) (i := j) (by omega)
    have h2 := iva (l := w) (i := j) (by omega)
    rw [Int.natCast_add, Int.natCast_one, cp9, on0, ym6] at ih
    rw [← ih, sb5 c34L0.eq_def]
    simp (disch := first | omega | fail) only [push_cast, seval, ui5, lu7, y81, bj9, wrap64, dec_lt, cw6, nl3, qc6, mr8, nb8, if_pos, if_neg, h1, h2, hrl]
theorem c83 [IsFld q] {D : List (List (El q))} {w : List (El q)} (hD : ∀ r ∈ D, r.length = w.length) (hw : w.length ≤ 1000) (hDl : D.length ≤ 1000) : ∀ (d i : Nat), i + d = D.length → ∀ ks,
    vgoL W ⟨h34, [.tmp 6, .tmp 7], 0⟩ [2, 9, 11, 43, 44, 45] c34L1 (.blk 0 [11] :: ks) [(2, .fz b' (.sl nl' 0 1 (ivs (vs w)))), (9, .own 0 []), (11, .own 1 []), (43, .fz b (.sl nl 0 1 (lvs nr (D.map vs)))), (44, .x (.int .i64 D.length)), (45, .x (.int .i64 i))] [.pt 107 [.fz (pF q)], .sl 1 3 1 (ivs (vs ((synL D w).take i)))] =
      vgo W ⟨h34, [.tmp 6, .tmp 7], 0⟩ ks (VFr.of [(11, .own 1 [])]) [.pt 107 [.fz (pF q)], .sl 1 3 1 (ivs (vs (synL D w)))]
  | 0, i, hi, ks => by
    rw [List.take_of_length_le (by rw [js8]; omega), sb5 c34L1.eq_def]
    simp (disch := first | omega | fail) only [push_cast, seval, ui5, lu7, y81, bj9, wrap64, dec_lt, cw6, nl3, qc6, mr8, nb8, if_pos, if_neg]
  | d + 1, i, hi, ks => by
    have ih := c83 hD hw hDl d (i + 1) (by omega) ks
    obtain ⟨r, hr⟩ := ge6 (l := D) (i := i) (by omega)
    have hrl := hD r (List.mem_of_getElem? hr)
    have h0 := mva (nl := nr) hr
    have hs := js8 D w
    have e := fun T11 ks => c26 (b := b) (b' := b') (nl := nl) (nl' := nl') (nr := nr) (T9 := .junk) (T11 := T11) (i := i) (D := D.map vs) hrl hw (by rw [List.length_map]; exact hDl) r.length 0 (by omega) ks
    rw [wr8, hc8, List.length_map] at e
    simp only [Int.natCast_zero, List.take_zero, List.drop_zero, rp2, lz6, x25, List.map_nil, List.length_nil] at e
    have hg : (synL D w)[i]? = some (sumN r.length fun j => wf r j * wf w j) := by unfold synL; rw [List.getElem?_map, hr]; rfl
    rw [Int.natCast_add, Int.natCast_one, List.take_add_one, hg, Option.toList_some, gq8, e55, rp2] at ih
    rw [← ih, sb5 c34L1.eq_def]
    simp (disch := first | omega | fail) only [push_cast, seval, ui5, lu7, y81, bj9, wrap64, dec_lt, cw6, nl3, qc6, mr8, nb8, if_pos, if_neg, h0]
    rw [e]
    simp (disch := first | omega | fail) only [push_cast, seval, ui5, lu7, y81, bj9, wrap64, dec_lt, cw6, nl3, qc6, mr8, nb8, if_pos, if_neg, hs]
theorem jj0 {M : List (List Int)} {y : List Int} (hy : y.length ≤ 9223372036854775807) (he : ¬ f45 q M y = 0) :
    o24 W 34 [.x (.int .i64 q), .fz b (.sl nl 0 1 (lvs nr M)), .fz b' (.sl nl' 0 1 (ivs y))] [] = some (.tup [.own 0 [], .x (.int .i64 (f45 q M y))], [.sl 1 3 1 []], []) := by
  have e1 := fun b nl nr => or9 (M := M) (q := q) (b := b) (nl := nl) (nr := nr)
  unfold f45 at he ⊢
  by_cases h1 : matE q M = 0
  · rw [if_pos h1] at he ⊢
    rw [h1] at e1
    obtain ⟨⟨⟨p0, m0, g0, mod⟩, hn⟩, _⟩ := ou8 h1
    haveI : IsFld q := ⟨⟨p0, m0, g0, mod, hn⟩⟩
    have hf := fun bl nl b e => eg0 (nl := nl) (l := y) (bl := bl) (k := 92) (b := b) (t := .pt e [pF q]) nn9 rfl hy
    by_cases h2 : 0 < M.length ∧ y.length ≠ (nth M 0).length
    · rw [if_pos h2]
      obtain ⟨r0, hr0⟩ := ge6 (l := M) (i := 0) h2.1
      have h3 := lat (nl := nr) hr0
      have h4 := xr8 hr0
      have h5 := h2.1
      have h6 : ¬ (y.length : Int) = (r0.length : Int) := by have := h2.2; rw [h4] at this; omega
      rw [o10 rfl T34 rfl]
      unfold F34 c34
      simp (disch := first | omega | fail) only [push_cast, seval, ui5, lu7, y81, bj9, wrap64, dec_lt, cw6, nl3, qc6, mr8, nb8, if_pos, if_neg, e1, h3, h5, nb8 h6]
    · rw [if_neg h2] at he ⊢
      have h3 : (y.any fun v => !fok q v) = true := by
        refine Classical.byContradiction fun h => he (by rw [if_neg h])
      rw [h3] at hf
      rw [if_pos h3, o10 rfl T34 rfl]
      unfold F34 c34
      by_cases h5 : 0 < M.length
      · obtain ⟨r0, hr0⟩ := ge6 (l := M) (i := 0) h5
        have h6 := lat (nl := nr) hr0
        have h4 := xr8 hr0
        have h7 : (y.length : Int) = (r0.length : Int) := by rw [← h4]; exact congrArg _ (Classical.byContradiction fun h => h2 ⟨h5, h⟩)
        simp (disch := first | omega | fail) only [push_cast, seval, ui5, lu7, y81, bj9, wrap64, dec_lt, cw6, nl3, qc6, mr8, nb8, if_pos, if_neg, e1, h6, h5, h7, hf]
      · simp (disch := first | omega | fail) only [push_cast, seval, ui5, lu7, y81, bj9, wrap64, dec_lt, cw6, nl3, qc6, mr8, nb8, if_pos, if_neg, e1, h5, hf]
  · rw [if_neg h1, o10 rfl T34 rfl]
    unfold F34 c34
    simp (disch := first | omega | fail) only [push_cast, seval, ui5, lu7, y81, bj9, wrap64, dec_lt, cw6, nl3, qc6, mr8, nb8, if_pos, if_neg, e1, nb8 h1]
theorem k07 [IsFld q] {N : List (List (El q))} {y : List (El q)} (he : matE q (N.map vs) = 0) (hN : N.length ≤ 64) (hr : ∀ r ∈ N, r.length = y.length) (hy : N ≠ [] → y.length ≤ 64) (hy2 : y.length ≤ 9223372036854775807) :
    o24 W 34 [.x (.int .i64 q), .fz b (.sl nl 0 1 (lvs nr (N.map vs))), .fz b' (.sl nl' 0 1 (ivs (vs y)))] [] = some (.tup [.own 0 [], .x (.int .i64 0)], [.sl 1 3 1 (ivs (vs (synL N y)))], []) := by
  have e1 := fun b nl nr => or9 (M := N.map vs) (q := q) (b := b) (nl := nl) (nr := nr)
  rw [he] at e1
  have hf := fun bl nl b e => eg0 (nl := nl) (l := vs y) (bl := bl) (k := 92) (b := b) (t := .pt e [pF q]) nn9 rfl (by rw [fi2]; exact hy2)
  simp only [vf9] at hf
  by_cases h0 : N = []
  · subst h0
    have e1 := fun b nl => e1 b nl 0
    simp only [List.map_nil, em1] at e1
    rw [List.map_nil, em1, o10 rfl T34 rfl]
    unfold F34 c34
    simp (disch := first | omega | fail) only [push_cast, seval, ui5, lu7, y81, bj9, wrap64, dec_lt, cw6, nl3, qc6, mr8, nb8, if_pos, if_neg, e1, hf]
    rw [sb5 c34L1.eq_def]
    simp (disch := first | omega | fail) only [push_cast, seval, ui5, lu7, y81, bj9, wrap64, dec_lt, cw6, nl3, qc6, mr8, nb8, if_pos, if_neg]
    rfl
  · have hp : 0 < N.length := List.length_pos_iff.2 h0
    obtain ⟨r0, hr0⟩ := ge6 (l := N) (i := 0) hp
    have h3 := mva (nl := nr) hr0
    have h4 := hr r0 (List.mem_of_getElem? hr0)
    have e := fun ks => c83 (b := b) (b' := b') (nl := nl) (nl' := nl') (nr := nr) hr (by have := hy h0; omega) (by omega) N.length 0 (by omega) ks
    simp only [Int.natCast_zero, List.take_zero, List.drop_zero, rp2, lz6, x25, List.map_nil, List.length_nil] at e
    rw [o10 rfl T34 rfl]
    unfold F34 c34
    simp (disch := first | omega | fail) only [push_cast, seval, ui5, lu7, y81, bj9, wrap64, dec_lt, cw6, nl3, qc6, mr8, nb8, if_pos, if_neg, e1, hf, h3, h4]
    rw [e]
    simp (disch := first | omega | fail) only [push_cast, seval, ui5, lu7, y81, bj9, wrap64, dec_lt, cw6, nl3, qc6, mr8, nb8, if_pos, if_neg]
end
end Go.Proofs.Ytjpejkakodbchaa
namespace Go.Proofs.Ytjpejkakodbchaa
open Go.Am Go.Vm Go.Alg
def xh9 (q n : Int) (E : List (Int × Int)) (M : List (List Int)) (c : List Int) (to : Int) : Int := if e43 n E to = 0 then if matE q M = 0 then if M.length ≠ E.length ∨ c.length ≠ E.length then 6 else if (c.any fun v => !fok q v) = true then 2 else 0 else matE q M else e43 n E to
section
variable {q n to : Int} {E : List (Int × Int)} {nl nl' nr nr' nlv : Nat} {b b' : Bool}
theorem v52 {M : List (List Int)} {c : List Int} (hM : M.length = E.length) (hc : c.length = E.length) (hE : E.length ≤ 1000) : ∀ (d i : Nat), i + d = E.length → ∀ ks,
    vgoL W ⟨h38, [.tmp 10, .tmp 11], 0⟩ [0, 2, 3, 4, 16, 17, 60, 61, 62] c38L0 (.blk 0 [0, 16, 17] :: ks) [(0, .x (.int .i64 q)), (2, .fz true (.sl nlv 0 1 (lvs nr M))), (3, .fz b (.sl nl' 0 1 (ivs c))), (4, .x (.int .i64 to)), (16, .own 0 []), (17, .own 1 []), (60, .fz true (.sl nl 0 2 (evs E))), (61, .x (.int .i64 E.length)), (62, .x (.int .i64 i))] [.sl 1 23 1 (fvs nr (selL to (E.take i) (M.take i))), .sl 1 3 1 (ivs (selL to (E.take i) (c.take i)))] =
      vgo W ⟨h38, [.tmp 10, .tmp 11], 0⟩ ks (VFr.of [(0, .x (.int .i64 q)), (16, .own 0 []), (17, .own 1 [])]) [.sl 1 23 1 (fvs nr (selL to E M)), .sl 1 3 1 (ivs (selL to E c))]
  | 0, i, hi, ks => by
    rw [List.take_of_length_le (by omega), List.take_of_length_le (by omega), List.take_of_length_le (by omega), sb5 c38L0.eq_def]
    simp (disch := first | omega | fail) only [push_cast, seval, ui5, lu7, y81, bj9, wrap64, dec_lt, cw6, nl3, qc6, mr8, nb8, if_pos, if_neg]
  | d + 1, i, hi, ks => by
    have ih := v52 hM hc hE d (i + 1) (by omega) ks
    obtain ⟨⟨a, z⟩, he⟩ := ge6 (l := E) (i := i) (by omega)
    obtain ⟨r, hr⟩ := ge6 (l := M) (i := i) (by omega)
    obtain ⟨x, hx⟩ := ge6 (l := c) (i := i) (by omega)
    obtain ⟨h1, h2⟩ := pe5 he
    have h3 := lat (nl := nr) hr
    have h4 := iat hx
    have hl2 := xg6 E
    have hsl := ef3 (to := to) (E.take i) (M.take i)
    have hsl2 := ef3 (to := to) (E.take i) (c.take i)
    rw [List.length_take] at hsl hsl2
    rw [Int.natCast_add, Int.natCast_one, ab7 hM he hr, ab7 hc he hx] at ih
    by_cases hz : z = to
    · rw [if_pos hz, if_pos hz] at ih
      rw [← ih, sb5 c38L0.eq_def]
      simp (disch := first | omega | fail) only [push_cast, seval, ui5, lu7, y81, bj9, wrap64, dec_lt, cw6, nl3, qc6, mr8, nb8, if_pos, if_neg, h1, h2, h3, h4, mr8 hz]
    · rw [if_neg hz, if_neg hz] at ih
      rw [← ih, sb5 c38L0.eq_def]
      simp (disch := first | omega | fail) only [push_cast, seval, ui5, lu7, y81, bj9, wrap64, dec_lt, cw6, nl3, qc6, mr8, nb8, if_pos, if_neg, h1, h2, nb8 hz]
theorem de6 {M : List (List Int)} {c : List Int} (hc : c.length ≤ 9223372036854775807) (hM : M.length ≤ 9223372036854775807) (he : ¬ xh9 q n E M c to = 0) :
    o24 W 38 [.x (.int .i64 q), .agg [.x (.int .i64 n), .fz true (.sl nl 0 2 (evs E))], .fz true (.sl nlv 0 1 (lvs nr M)), .fz b (.sl nl' 0 1 (ivs c)), .x (.int .i64 to)] [] = some (.tup [.x (.slice none 0 0), .x (.int .i64 (xh9 q n E M c to))], [], []) := by
  have e1 := fun nl => k29 (n := n) (E := E) (nl := nl) (to := to)
  have e2 := fun b nl nr => or9 (M := M) (q := q) (b := b) (nl := nl) (nr := nr)
  have hl := k42 E
  unfold xh9 at he ⊢
  by_cases h1 : e43 n E to = 0
  · rw [if_pos h1] at he ⊢
    rw [h1] at e1
    by_cases h2 : matE q M = 0
    · rw [if_pos h2] at he ⊢
      rw [h2] at e2
      obtain ⟨⟨⟨p0, m0, g0, mod⟩, hn⟩, _⟩ := ou8 h2
      haveI : IsFld q := ⟨⟨p0, m0, g0, mod, hn⟩⟩
      by_cases h3 : M.length ≠ E.length ∨ c.length ≠ E.length
      · rw [if_pos h3, o10 rfl T38 rfl]
        unfold F38 c38
        by_cases h4 : M.length = E.length
        · have h5 : ¬ (c.length : Int) = (E.length : Int) := by omega
          simp (disch := first | omega | fail) only [push_cast, seval, ui5, lu7, y81, bj9, wrap64, dec_lt, cw6, nl3, qc6, mr8, nb8, if_pos, if_neg, e1, e2, hl, h4, nb8 h5]
        · have h5 : ¬ (M.length : Int) = (E.length : Int) := by omega
          simp (disch := first | omega | fail) only [push_cast, seval, ui5, lu7, y81, bj9, wrap64, dec_lt, cw6, nl3, qc6, mr8, nb8, if_pos, if_neg, e1, e2, hl, nb8 h5]
      · rw [if_neg h3] at he ⊢
        have h4 : M.length = E.length := by omega
        have h5 : c.length = E.length := by omega
        have hf := fun bl nl b e => eg0 (nl := nl) (l := c) (bl := bl) (k := 96) (b := b) (t := .pt e [pF q]) nf4 rfl hc
        have h6 : (c.any fun v => !fok q v) = true := by
          refine Classical.byContradiction fun h => he (by rw [if_neg h])
        rw [h6] at hf
        rw [if_pos h6, o10 rfl T38 rfl]
        unfold F38 c38
        simp (disch := first | omega | fail) only [push_cast, seval, ui5, lu7, y81, bj9, wrap64, dec_lt, cw6, nl3, qc6, mr8, nb8, if_pos, if_neg, e1, e2, hl, h4, h5, hf]
    · rw [if_neg h2, o10 rfl T38 rfl]
      unfold F38 c38
      simp (disch := first | omega | fail) only [push_cast, seval, ui5, lu7, y81, bj9, wrap64, dec_lt, cw6, nl3, qc6, mr8, nb8, if_pos, if_neg, e1, e2, nb8 h2]
  · rw [if_neg h1, o10 rfl T38 rfl]
    unfold F38 c38
    simp (disch := first | omega | fail) only [push_cast, seval, ui5, lu7, y81, bj9, wrap64, dec_lt, cw6, nl3, qc6, mr8, nb8, if_pos, if_neg, e1, nb8 h1]
theorem it4 [IsFld q] {N : List (List (El q))} {y : List (El q)} {k : Nat} (h1 : e43 n E to = 0) (h2 : matE q (N.map vs) = 0) (hN : N.length = E.length) (hy : y.length = E.length) (hE : E.length ≤ 64) (hr : ∀ r ∈ N, r.length = k) (hk0 : 0 < k) (hk : k ≤ 64) :
    o24 W 38 [.x (.int .i64 q), .agg [.x (.int .i64 n), .fz true (.sl nl 0 2 (evs E))], .fz true (.sl nlv 0 1 (lvs nr (N.map vs))), .fz b (.sl nl' 0 1 (ivs (vs y))), .x (.int .i64 to)] [] =
      match r57 k (selL to E N) (selL to E y) with
      | none => some (.tup [.x (.slice none 0 0), .x (.int .i64 9)], [], [])
      | some x => some (.tup [.own 0 [], .x (.int .i64 0)], [.sl 0 3 1 (ivs (vs x))], []) := by
  have e1 := fun nl => k29 (n := n) (E := E) (nl := nl) (to := to)
  have e2 := fun b nl nr => or9 (M := N.map vs) (q := q) (b := b) (nl := nl) (nr := nr)
  rw [h1] at e1
  rw [h2] at e2
  have hl := k42 E
  have hf := fun bl nl b e => eg0 (nl := nl) (l := vs y) (bl := bl) (k := 96) (b := b) (t := .pt e [pF q]) nf4 rfl (by rw [fi2]; omega)
  simp only [vf9] at hf
  have e3 := fun ks => v52 (q := q) (b := b) (nl := nl) (nl' := nl') (nr := nr) (nlv := nlv) (to := to) (M := N.map vs) (c := vs y) (by rw [List.length_map, hN]) (by rw [fi2, hy]) (by omega) E.length 0 (by omega) ks
  have hvy : selL to E (vs y) = vs (selL to E y) := y52 El.v E y
  rw [List.take_zero, List.take_zero, List.take_zero, show selL to ([] : List (Int × Int)) ([] : List Int) = [] from rfl, show selL to ([] : List (Int × Int)) ([] : List (List Int)) = [] from rfl, show fvs nr [] = [] from rfl, hvy, y52] at e3
  simp only [Int.natCast_zero, List.take_zero, List.drop_zero, rp2, lz6, x25, List.map_nil, List.length_nil] at e3
  have hSr : ∀ r ∈ selL to E N, r.length = k := fun r h => hr r (is4 h)
  have hSl := ef3 (to := to) E N
  have hSy : (selL to E y).length = (selL to E N).length := ep8 (by omega)
  generalize selL to E N = S at *
  generalize selL to E y = z at *
  unfold r57
  rw [o10 rfl T38 rfl]
  unfold F38 c38
  by_cases hS : S = []
  · subst hS
    have hz : z = [] := List.eq_nil_of_length_eq_zero (by simpa using hSy)
    subst hz
    have hm0 := sy6 (q := q) (N := []) (n := k) (by simp) (fun r hr => by cases hr) hk0 hk
    rw [List.map_nil] at hm0
    have e4 := fun b b' nl nl' => s21 (q := q) (b := b) (b' := b') (nl := nl) (nl' := nl') hm0
    have e5 := fun b nl => sz4 (q := q) (b := b) (nl := nl) hm0
    rw [if_pos rfl]
    have h0 : fvs nr (List.map vs ([] : List (List (El q)))) = [] := rfl
    have h00 : ivs (vs ([] : List (El q))) = [] := rfl
    rw [h0, h00] at e3
    simp (disch := first | omega | fail) only [push_cast, seval, ui5, lu7, y81, bj9, wrap64, dec_lt, cw6, nl3, qc6, mr8, nb8, if_pos, if_neg, e1, e2, hl, hN, hy, hf]
    rw [e3]
    simp (disch := first | omega | fail) only [push_cast, seval, ui5, lu7, y81, bj9, wrap64, dec_lt, cw6, nl3, qc6, mr8, nb8, if_pos, if_neg, e4, e5]
  · have hp : 0 < S.length := List.length_pos_iff.2 hS
    rw [if_neg hS]
    have e4 := fun b b' nl nl' nr => zx6 (q := q) (b := b) (b' := b') (nl := nl) (nl' := nl') (nr := nr) (M := S) (y := z) (by omega) hp (by omega) hSr hk0 hk
    have e5 := fun b nl nr => u33 (q := q) (b := b) (nl := nl) (nr := nr) (N := S) hp (by omega) hSr hk0 hk
    obtain ⟨r0, hr0⟩ := ge6 (l := S) (i := 0) hp
    have h3 : (fvs nr (S.map vs))[0]? = some (.fz (.sl nr 0 1 (ivs (vs r0)))) := g53 (by rw [List.getElem?_map, hr0]; rfl)
    have h4 := hSr r0 (List.mem_of_getElem? hr0)
    cases hs : solR k S z with
    | none =>
      simp only [hs] at e4
      rw [ite_self]
      simp (disch := first | omega | fail) only [push_cast, seval, ui5, lu7, y81, bj9, wrap64, dec_lt, cw6, nl3, qc6, mr8, nb8, if_pos, if_neg, e1, e2, hl, hN, hy, hf]
      rw [e3]
      simp (disch := first | omega | fail) only [push_cast, seval, ui5, lu7, y81, bj9, wrap64, dec_lt, cw6, nl3, qc6, mr8, nb8, if_pos, if_neg, e4, e5]
    | some x =>
      simp only [hs] at e4
      by_cases hrk : (redR S).length < k
      · rw [if_pos hrk]
        simp (disch := first | omega | fail) only [push_cast, seval, ui5, lu7, y81, bj9, wrap64, dec_lt, cw6, nl3, qc6, mr8, nb8, if_pos, if_neg, e1, e2, hl, hN, hy, hf]
        rw [e3]
        simp (disch := first | omega | fail) only [push_cast, seval, ui5, lu7, y81, bj9, wrap64, dec_lt, cw6, nl3, qc6, mr8, nb8, if_pos, if_neg, e4, e5, h3, h4]
      · rw [if_neg hrk]
        simp (disch := first | omega | fail) only [push_cast, seval, ui5, lu7, y81, bj9, wrap64, dec_lt, cw6, nl3, qc6, mr8, nb8, if_pos, if_neg, e1, e2, hl, hN, hy, hf]
        rw [e3]
        simp (disch := first | omega | fail) only [push_cast, seval, ui5, lu7, y81, bj9, wrap64, dec_lt, cw6, nl3, qc6, mr8, nb8, if_pos, if_neg, e4, e5, h3, h4]
end
end Go.Proofs.Ytjpejkakodbchaa
namespace Go.Proofs.Ytjpejkakodbchaa
open Go.Am Go.Vm Go.Alg
theorem nf5 {L : List Int} {e : Int} (hL : L.length ≤ 9223372036854775807) (he : e ≠ 0 → L = []) (b b' : Bool) (nl nl' : Nat) :
    o24 W 35 [.fz b (.sl nl 0 1 (ivs L)), .x (.int .i64 e), .fz b' (.sl nl' 0 1 (ivs L)), .x (.int .i64 e)] [] = some (.x (.bool true), [], []) := by
  rw [ea2 hL]
  by_cases h : e = 0
  · rw [if_pos h, decide_eq_true h, decide_eq_true rfl]; rfl
  · rw [if_neg h, he h, decide_eq_true rfl]; rfl
section
variable {q n to : Int} {E : List (Int × Int)} {nl nl' nr nr' nlv nlc : Nat} {b b' : Bool}
theorem q62 {M : List (List Int)} {y c : List Int} {L : List Int} {e : Int} {T : Tree} (hc : c.length ≤ 9223372036854775807) (hM : M.length ≤ 9223372036854775807)
    (hs : ∀ b b' nl nl' nr, o24 W 34 [.x (.int .i64 q), .fz b (.sl nl 0 1 (lvs nr M)), .fz b' (.sl nl' 0 1 (ivs y))] [] = some (.tup [.own 0 [], .x (.int .i64 e)], [.sl 1 3 1 (ivs L)], []))
    (hL : L.length ≤ 9223372036854775807) (he : e ≠ 0 → L = []) (hh : ¬ (e43 n E to = 0 ∧ matE q M = 0)) :
    vgo W ⟨h6, [.tmp 12], 0⟩ [.code (seqR 9 c6)] (VFr.of [(0, .x (.int .i64 q)), (2, .fz true (.sl nlv 0 1 (lvs nr M))), (3, .fz b (.sl nl' 0 1 (ivs y))), (4, .fz b' (.sl nlc 0 1 (ivs c))), (5, .x (.int .i64 to)), (7, .own 0 []), (13, .x (.int .i64 (matE q M))), (14, .own 1 []), (16, .x (.int .i64 e)), (17, .own 2 [])]) [.pt 53 [.v (.int .i64 n), .fz (.sl nl 0 2 (evs E))], T, .sl 1 3 1 (ivs L)] = some (.x (.bool true), [], []) := by
  have e1 := fun b b' nl nl' => nf5 hL he b b' nl nl'
  have e2 := fun nl => pf1 (n := n) (E := E) (nl := nl) (to := to)
  have e3 := fun nl nlv nr b nl' => de6 (q := q) (n := n) (E := E) (to := to) (nl := nl) (nlv := nlv) (nr := nr) (b := b) (nl' := nl') (M := M) (c := c) hc hM
  have e4 := fun e he b b' nl nl' => nf5 (L := []) (e := e) (by simp) he b b' nl nl'
  simp only [lz6] at e4
  unfold xh9 at e3
  unfold c6
  simp only [seqR]
  by_cases h1 : e43 n E to = 0
  · have h2 : ¬ matE q M = 0 := fun h => hh ⟨h1, h⟩
    simp only [h1, if_true, if_neg h2] at e3 e2
    have e3 := fun nl nlv nr b nl' => e3 nl nlv nr b nl' h2
    have e4 := e4 (matE q M) (fun _ => trivial)
    simp (disch := first | omega | fail) only [push_cast, seval, ui5, lu7, y81, bj9, wrap64, dec_lt, cw6, nl3, qc6, mr8, nb8, if_pos, if_neg, hs, e1, e2, e3, e4, nb8 h2]
  · simp only [if_neg h1] at e3
    have e3 := fun nl nlv nr b nl' => e3 nl nlv nr b nl' h1
    have e4 := e4 (e43 n E to) (fun _ => trivial)
    simp (disch := first | omega | fail) only [push_cast, seval, ui5, lu7, y81, bj9, wrap64, dec_lt, cw6, nl3, qc6, mr8, nb8, if_pos, if_neg, hs, e1, e2, e3, e4, nb8 h1]
theorem k13 [IsFld q] {p m g : Int} {t : Tree} (u : RFo q p m g t) {M : List (List Int)} {y c : List Int} {L : List Int} {e : Int} (hc : c.length ≤ 9223372036854775807) (hM : M.length ≤ 9223372036854775807) (hE : E.length ≤ 9223372036854775807)
    (hs : ∀ b b' nl nl' nr, o24 W 34 [.x (.int .i64 q), .fz b (.sl nl 0 1 (lvs nr M)), .fz b' (.sl nl' 0 1 (ivs y))] [] = some (.tup [.own 0 [], .x (.int .i64 e)], [.sl 1 3 1 (ivs L)], []))
    (hL : L.length ≤ 9223372036854775807) (he : e ≠ 0 → L = []) (h1 : e43 n E to = 0) (h2 : matE q M = 0) (hh : (M.length ≠ E.length ∨ c.length ≠ E.length) ∨ (c.any fun v => !fok q v) = true) :
    vgo W ⟨h6, [.tmp 12], 0⟩ [.code (seqR 9 c6)] (VFr.of [(0, .x (.int .i64 q)), (2, .fz true (.sl nlv 0 1 (lvs nr M))), (3, .fz b (.sl nl' 0 1 (ivs y))), (4, .fz b' (.sl nlc 0 1 (ivs c))), (5, .x (.int .i64 to)), (7, .own 0 []), (13, .x (.int .i64 0)), (14, .own 1 []), (16, .x (.int .i64 e)), (17, .own 2 [])]) [.pt 53 [.v (.int .i64 n), .fz (.sl nl 0 2 (evs E))], .pt 28 [.v (.int .i64 q), .v (.int .i64 p), .v (.int .i64 m), .v (.int .i64 g), .fz t], .sl 1 3 1 (ivs L)] = some (.x (.bool true), [], []) := by
  have e1 := fun b b' nl nl' => nf5 hL he b b' nl nl'
  have e2 := fun nl => pf1 (n := n) (E := E) (nl := nl) (to := to)
  have e3 := fun nl nlv nr b nl' => de6 (q := q) (n := n) (E := E) (to := to) (nl := nl) (nlv := nlv) (nr := nr) (b := b) (nl' := nl') (M := M) (c := c) hc hM
  have e4 := fun e he b b' nl nl' => nf5 (L := []) (e := e) (by simp) he b b' nl nl'
  simp only [lz6] at e4
  unfold xh9 at e3
  simp only [h1, h2, if_true] at e3 e2
  have ht := u.n
  have ho := u.o
  have hl := k42 E
  unfold c6
  simp only [seqR]
  by_cases h3 : M.length ≠ E.length ∨ c.length ≠ E.length
  · simp only [if_pos h3] at e3
    have e3 := fun nl nlv nr b nl' => e3 nl nlv nr b nl' (by decide)
    have e4 := e4 6 (fun _ => trivial)
    by_cases h4 : M.length = E.length
    · have h5 : ¬ (c.length : Int) = (E.length : Int) := by omega
      simp (disch := first | omega | fail) only [push_cast, seval, ui5, lu7, y81, bj9, wrap64, dec_lt, cw6, nl3, qc6, mr8, nb8, if_pos, if_neg, hs, e1, e2, e3, e4, hl, h4, nb8 h5, ht, ho]
    · have h5 : ¬ (M.length : Int) = (E.length : Int) := by omega
      simp (disch := first | omega | fail) only [push_cast, seval, ui5, lu7, y81, bj9, wrap64, dec_lt, cw6, nl3, qc6, mr8, nb8, if_pos, if_neg, hs, e1, e2, e3, e4, hl, nb8 h5, ht, ho]
  · have h6 : (c.any fun v => !fok q v) = true := hh.resolve_left h3
    simp only [if_neg h3, if_pos h6] at e3
    have e3 := fun nl nlv nr b nl' => e3 nl nlv nr b nl' (by decide)
    have e4 := e4 2 (fun _ => trivial)
    have h4 : M.length = E.length := by omega
    have h5 : c.length = E.length := by omega
    have e5 := fun b nl => q18 (q := q) (b := b) (nl := nl) (l := c) hc
    rw [h6, u.e] at e5
    simp (disch := first | omega | fail) only [push_cast, seval, ui5, lu7, y81, bj9, wrap64, dec_lt, cw6, nl3, qc6, mr8, nb8, if_pos, if_neg, hs, e1, e2, e3, e4, e5, hl, h4, h5, ht, ho, Bool.not_true]
theorem eh9 [IsFld q] {p m g : Int} {t : Tree} (u : RFo q p m g t) {N : List (List (El q))} {k : Nat} {y : List Int} {z : List (El q)} {L : List Int} {e : Int}
    (hs : ∀ b b' nl nl' nr, o24 W 34 [.x (.int .i64 q), .fz b (.sl nl 0 1 (lvs nr (N.map vs))), .fz b' (.sl nl' 0 1 (ivs y))] [] = some (.tup [.own 0 [], .x (.int .i64 e)], [.sl 1 3 1 (ivs L)], []))
    (hL : L.length ≤ 9223372036854775807) (he : e ≠ 0 → L = []) (h1 : e43 n E to = 0) (h2 : matE q (N.map vs) = 0) (hN : N.length = E.length) (hz : z.length = E.length) (hE : E.length ≤ 64) (hr : ∀ r ∈ N, r.length = k) (hk0 : 0 < k) (hk : k ≤ 64) :
    vgo W ⟨h6, [.tmp 12], 0⟩ [.code (seqR 9 c6)] (VFr.of [(0, .x (.int .i64 q)), (2, .fz true (.sl nlv 0 1 (lvs nr (N.map vs)))), (3, .fz b (.sl nl' 0 1 (ivs y))), (4, .fz b' (.sl nlc 0 1 (ivs (vs z)))), (5, .x (.int .i64 to)), (7, .own 0 []), (13, .x (.int .i64 0)), (14, .own 1 []), (16, .x (.int .i64 e)), (17, .own 2 [])]) [.pt 53 [.v (.int .i64 n), .fz (.sl nl 0 2 (evs E))], .pt 28 [.v (.int .i64 q), .v (.int .i64 p), .v (.int .i64 m), .v (.int .i64 g), .fz t], .sl 1 3 1 (ivs L)] = some (.x (.bool true), [], []) := by
  have e1 := fun b b' nl nl' => nf5 hL he b b' nl nl'
  have e2 := fun nl => pf1 (n := n) (E := E) (nl := nl) (to := to)
  have e3 := fun nl nlv nr b nl' => it4 (q := q) (n := n) (E := E) (to := to) (nl := nl) (nlv := nlv) (nr := nr) (b := b) (nl' := nl') (y := z) h1 h2 hN hz hE hr hk0 hk
  have e6 := fun nl nlv nr b nl' => g31 (q := q) (n := n) (E := E) (to := to) (nl := nl) (nlv := nlv) (nr := nr) (b := b) (nl' := nl') (y := z) hN hz hE hr hk0 hk
  have e4 := fun b b' nl nl' => nf5 (L := []) (e := 9) (by simp) (fun _ => rfl) b b' nl nl'
  simp only [lz6] at e4
  rw [h1] at e2
  have ht := u.n
  have ho := u.o
  have hl := k42 E
  have e5 := fun b nl => q18 (q := q) (b := b) (nl := nl) (l := vs z) (by rw [fi2]; omega)
  rw [vf9, u.e] at e5
  rw [u.e] at e6
  have hsl := ef3 (to := to) E N
  unfold c6
  simp only [seqR]
  cases hh : r57 k (selL to E N) (selL to E z) with
  | none =>
    simp only [hh] at e3 e6
    simp (disch := first | omega | fail) only [push_cast, seval, ui5, lu7, y81, bj9, wrap64, dec_lt, cw6, nl3, qc6, mr8, nb8, if_pos, if_neg, hs, e1, e2, e3, e4, e5, e6, hl, hN, hz, ht, ho, Bool.not_false]
  | some x =>
    simp only [hh] at e3 e6
    have hx : x.length ≤ 64 := by
      unfold r57 at hh
      split at hh
      · cases hh
      · split at hh
        · cases hh
        · have hSr : ∀ r ∈ selL to E N, r.length = k := fun r h => hr r (is4 h)
          have := (l11 hSr (ep8 (by omega)) hh).1
          omega
    have e7 := fun b b' nl nl' => nf5 (L := vs x) (e := 0) (by rw [fi2]; omega) (fun h => absurd rfl h) b b' nl nl'
    simp (disch := first | omega | fail) only [push_cast, seval, ui5, lu7, y81, bj9, wrap64, dec_lt, cw6, nl3, qc6, mr8, nb8, if_pos, if_neg, hs, e1, e2, e3, e7, e5, e6, hl, hN, hz, ht, ho, Bool.not_false]
end
end Go.Proofs.Ytjpejkakodbchaa
namespace Go.Proofs.Ytjpejkakodbchaa
open Go.Am Go.Vm Go.Alg
theorem e18 {q : Int} : ∀ {P N : List (List (El q))}, P.map vs = N.map vs → P = N
  | [], [], _ => rfl
  | [], _ :: _, h => by cases h
  | _ :: _, [], h => by cases h
  | a :: P, b :: N, h => by
    rw [List.map_cons, List.map_cons, List.cons.injEq] at h
    rw [qa5 h.1, e18 h.2]
section
variable {q n to : Int} {E : List (Int × Int)} {nl nl' nr nr' nlv nlc : Nat} {b b' : Bool}
theorem ue4 {M : List (List Int)} {y c : List Int} {e m : Int} (he : e ≠ 0) (hM : M.length ≤ 9223372036854775807) {T7 T14 T17 : Tree} (ks : List It) :
    vgoL W ⟨h6, [.tmp 12], 0⟩ [0, 2, 3, 4, 5, 7, 13, 14, 16, 17, 18] c6L0 (.blk 0 [0, 2, 3, 4, 5, 7, 13, 14, 16, 17] :: ks) [(0, .x (.int .i64 q)), (2, .fz true (.sl nlv 0 1 (lvs nr M))), (3, .fz b (.sl nl' 0 1 (ivs y))), (4, .fz b' (.sl nlc 0 1 (ivs c))), (5, .x (.int .i64 to)), (7, .own 0 []), (13, .x (.int .i64 m)), (14, .own 1 []), (16, .x (.int .i64 e)), (17, .own 2 []), (18, .x (.int .i64 0))] [T7, T14, T17] =
      vgo W ⟨h6, [.tmp 12], 0⟩ ks (VFr.of [(0, .x (.int .i64 q)), (2, .fz true (.sl nlv 0 1 (lvs nr M))), (3, .fz b (.sl nl' 0 1 (ivs y))), (4, .fz b' (.sl nlc 0 1 (ivs c))), (5, .x (.int .i64 to)), (7, .own 0 []), (13, .x (.int .i64 m)), (14, .own 1 []), (16, .x (.int .i64 e)), (17, .own 2 [])]) [T7, T14, T17] := by
  rw [sb5 c6L0.eq_def]
  by_cases h : 0 < M.length
  · simp (disch := first | omega | fail) only [push_cast, seval, ui5, lu7, y81, bj9, wrap64, dec_lt, cw6, nl3, qc6, mr8, nb8, if_pos, if_neg, nb8 he]
  · have h0 : M.length = 0 := by omega
    simp (disch := first | omega | fail) only [push_cast, seval, ui5, lu7, y81, bj9, wrap64, dec_lt, cw6, nl3, qc6, mr8, nb8, if_pos, if_neg, h0]
theorem p44 [IsFld q] {p m0 g : Int} {t : Tree} (u : RFo q p m0 g t) {N : List (List (El q))} {y : List (El q)} {c : List Int} {m : Int} (hN : N.length ≤ 1000) (hr : ∀ r ∈ N, r.length = y.length) (hy : N ≠ [] → y.length ≤ 1000) {T7 : Tree} : ∀ (d i : Nat), i + d = N.length → ∀ ks,
    vgoL W ⟨h6, [.tmp 12], 0⟩ [0, 2, 3, 4, 5, 7, 13, 14, 16, 17, 18] c6L0 (.blk 0 [0, 2, 3, 4, 5, 7, 13, 14, 16, 17] :: ks) [(0, .x (.int .i64 q)), (2, .fz true (.sl nlv 0 1 (lvs nr (N.map vs)))), (3, .fz b (.sl nl' 0 1 (ivs (vs y)))), (4, .fz b' (.sl nlc 0 1 (ivs c))), (5, .x (.int .i64 to)), (7, .own 0 []), (13, .x (.int .i64 m)), (14, .own 1 []), (16, .x (.int .i64 0)), (17, .own 2 []), (18, .x (.int .i64 i))] [T7, .pt 28 [.v (.int .i64 q), .v (.int .i64 p), .v (.int .i64 m0), .v (.int .i64 g), .fz t], .sl 1 3 1 (ivs (vs ((synL N y).take i)))] =
      vgo W ⟨h6, [.tmp 12], 0⟩ ks (VFr.of [(0, .x (.int .i64 q)), (2, .fz true (.sl nlv 0 1 (lvs nr (N.map vs)))), (3, .fz b (.sl nl' 0 1 (ivs (vs y)))), (4, .fz b' (.sl nlc 0 1 (ivs c))), (5, .x (.int .i64 to)), (7, .own 0 []), (13, .x (.int .i64 m)), (14, .own 1 []), (16, .x (.int .i64 0)), (17, .own 2 [])]) [T7, .pt 28 [.v (.int .i64 q), .v (.int .i64 p), .v (.int .i64 m0), .v (.int .i64 g), .fz t], .sl 1 3 1 (ivs (vs (synL N y)))]
  | 0, i, hi, ks => by
    rw [List.take_of_length_le (by rw [js8]; omega), sb5 c6L0.eq_def]
    simp (disch := first | omega | fail) only [push_cast, seval, ui5, lu7, y81, bj9, wrap64, dec_lt, cw6, nl3, qc6, mr8, nb8, if_pos, if_neg]
  | d + 1, i, hi, ks => by
    have ih := p44 (m := m) (c := c) u hN hr hy (T7 := T7) d (i + 1) (by omega) ks
    obtain ⟨r, hri⟩ := ge6 (l := N) (i := i) (by omega)
    have hrl := hr r (List.mem_of_getElem? hri)
    have hN0 : N ≠ [] := fun e => by rw [e] at hri; simp at hri
    have hyl := hy hN0
    have h0 := mva (nl := nr) hri
    have hs := js8 N y
    have e1 := fun b b' nl nl' => af6 (b := b) (b' := b') (nl := nl) (nl' := nl') (x := r) (o := y) hrl.symm (by omega)
    rw [u.e] at e1
    have ht := u.n
    have ho := u.o
    have hg : (synL N y)[i]? = some (sumN r.length fun j => wf r j * wf y j) := by unfold synL; rw [List.getElem?_map, hri]; rfl
    rw [Int.natCast_add, Int.natCast_one, List.take_add_one, hg, Option.toList_some, gq8, e55, rp2] at ih
    rw [← ih, sb5 c6L0.eq_def]
    simp (disch := first | omega | fail) only [push_cast, seval, ui5, lu7, y81, bj9, wrap64, dec_lt, cw6, nl3, qc6, mr8, nb8, if_pos, if_neg, h0, e1, hs, ht, ho]
theorem i86 [IsFld q] {p m g : Int} {t : Tree} (u : RFo q p m g t) {N : List (List (El q))} {y c : List Int} {L : List Int} {e : Int} (hc : c.length ≤ 9223372036854775807) (hE : E.length ≤ 9223372036854775807)
    (hs : ∀ b b' nl nl' nr, o24 W 34 [.x (.int .i64 q), .fz b (.sl nl 0 1 (lvs nr (N.map vs))), .fz b' (.sl nl' 0 1 (ivs y))] [] = some (.tup [.own 0 [], .x (.int .i64 e)], [.sl 1 3 1 (ivs L)], []))
    (hL : L.length ≤ 9223372036854775807) (he : e ≠ 0 → L = []) (h2 : matE q (N.map vs) = 0) :
    vgo W ⟨h6, [.tmp 12], 0⟩ [.code (seqR 9 c6)] (VFr.of [(0, .x (.int .i64 q)), (2, .fz true (.sl nlv 0 1 (lvs nr (N.map vs)))), (3, .fz b (.sl nl' 0 1 (ivs y))), (4, .fz b' (.sl nlc 0 1 (ivs c))), (5, .x (.int .i64 to)), (7, .own 0 []), (13, .x (.int .i64 0)), (14, .own 1 []), (16, .x (.int .i64 e)), (17, .own 2 [])]) [.pt 53 [.v (.int .i64 n), .fz (.sl nl 0 2 (evs E))], .pt 28 [.v (.int .i64 q), .v (.int .i64 p), .v (.int .i64 m), .v (.int .i64 g), .fz t], .sl 1 3 1 (ivs L)] = some (.x (.bool true), [], []) := by
  obtain ⟨_, P, hP, hP1, hP2, hP3, hP4⟩ := ou8 h2
  have hPN : P = N := e18 hP.symm
  subst hPN
  by_cases h1 : e43 n E to = 0
  · by_cases hh : (P.length ≠ E.length ∨ c.length ≠ E.length) ∨ (c.any fun v => !fok q v) = true
    · exact k13 u hc (by rw [List.length_map]; omega) hE hs hL he h1 h2 (by rw [List.length_map]; exact hh)
    · obtain ⟨z, rfl⟩ := eq3 (q := q) (y := c) fun h => hh (.inr h)
      have a1 : P.length = E.length := by
        refine Classical.byContradiction fun h => hh (.inl (.inl h))
      have a2 : z.length = E.length := by
        rw [← fi2]
        refine Classical.byContradiction fun h => hh (.inl (.inr h))
      by_cases hP0 : P = []
      · exact eh9 (k := 1) u hs hL he h1 h2 a1 a2 (by omega) (fun r hr => by rw [hP0] at hr; cases hr) (by decide) (by decide)
      · exact eh9 (k := (nth P 0).length) u hs hL he h1 h2 a1 a2 (by omega) hP2 (by have := hP4 hP0; omega) hP3
  · have := q62 (q := q) (n := n) (to := to) (E := E) (nl := nl) (nl' := nl') (nr := nr) (nlv := nlv) (nlc := nlc) (b := b) (b' := b') (M := P.map vs) (y := y) (c := c) (L := L) (e := e) (T := .pt 28 [.v (.int .i64 q), .v (.int .i64 p), .v (.int .i64 m), .v (.int .i64 g), .fz t]) hc (by rw [List.length_map]; omega) hs hL he fun h => h1 h.1
    rw [h2] at this
    exact this
theorem tg9 {M : List (List Int)} {y c : List Int} (hM : M.length ≤ 9223372036854775807) (hy : y.length ≤ 9223372036854775807) (hc : c.length ≤ 9223372036854775807) (hE : E.length ≤ 9223372036854775807) :
    o24 W 6 [.x (.int .i64 q), .agg [.x (.int .i64 n), .fz true (.sl nl 0 2 (evs E))], .fz true (.sl nlv 0 1 (lvs nr M)), .fz b (.sl nl' 0 1 (ivs y)), .fz b' (.sl nlc 0 1 (ivs c)), .x (.int .i64 to)] [] = some (.x (.bool true), [], []) := by
  have hl := k42 E
  by_cases h200 : 200 < IntKind.wrap .i64 (IntKind.wrap .i64 ((E.length : Int) + (y.length : Int)) + (c.length : Int))
  · rw [o10 rfl T6 rfl]
    unfold F6 c6
    simp (disch := first | omega | fail) only [push_cast, seval, ui5, lu7, y81, bj9, wrap64, dec_lt, cw6, nl3, qc6, mr8, nb8, if_pos, if_neg, hl, dec_lt h200]
  · have h200' := cw6 (Int.not_lt.1 h200)
    obtain ⟨z, hz⟩ := tr6 (l := M) (by omega)
    cases z with
    | true =>
      rw [o10 rfl T6 rfl]
      unfold F6 c6
      simp (disch := first | omega | fail) only [push_cast, seval, ui5, lu7, y81, bj9, wrap64, dec_lt, cw6, nl3, qc6, mr8, nb8, if_pos, if_neg, hl, h200', hz]
    | false =>
      have e1 := fun b nl nr => rz8 (q := q) (M := M) (b := b) (nl := nl) (nr := nr)
      by_cases hm : matE q M = 0
      · obtain ⟨⟨⟨p0, m0, g0, mod⟩, hn⟩, N, rfl, hN1, hN2, hN3, hN4⟩ := ou8 hm
        haveI : IsFld q := ⟨⟨p0, m0, g0, mod, hn⟩⟩
        obtain ⟨p, m, g, t, u⟩ := k75 q
        have ht := u.n
        have ho := u.o
        have hfe := u.e
        rw [hm] at e1
        have e2 := fun b nl => q18 (q := q) (b := b) (nl := nl) (l := y) hy
        rw [hfe] at e2
        by_cases h6 : 0 < N.length ∧ y.length ≠ (nth (N.map vs) 0).length
        · have hse : f45 q (N.map vs) y = 6 := by unfold f45; rw [if_pos hm, if_pos (by rw [List.length_map]; exact h6)]
          have hs := fun b b' nl nl' nr => jj0 (q := q) (b := b) (b' := b') (nl := nl) (nl' := nl') (nr := nr) (M := N.map vs) (y := y) hy (by rw [hse]; decide)
          rw [hse] at hs
          have tail := i86 (n := n) (to := to) (E := E) (nl := nl) (nl' := nl') (nr := nr) (nlv := nlv) (nlc := nlc) (b := b) (b' := b') (c := c) u hc (by omega) hs (by simp) (fun _ => rfl) hm
          have lp := fun T7 T14 T17 ks => ue4 (q := q) (to := to) (nl' := nl') (nr := nr) (nlv := nlv) (nlc := nlc) (b := b) (b' := b') (M := N.map vs) (y := y) (c := c) (e := 6) (m := 0) (by decide) hM (T7 := T7) (T14 := T14) (T17 := T17) ks
          obtain ⟨r0, hr0⟩ := ge6 (l := N) (i := 0) h6.1
          have h3 := mva (nl := nr) hr0
          have h4 := xr8 hr0
          have h5 := h6.1
          have h7 : ¬ (y.length : Int) = (r0.length : Int) := by have := h6.2; rw [kn4, h4] at this; omega
          rw [o10 rfl T6 rfl]
          unfold F6 c6
          simp (disch := first | omega | fail) only [push_cast, seval, ui5, lu7, y81, bj9, wrap64, dec_lt, cw6, nl3, qc6, mr8, nb8, if_pos, if_neg, hl, h200', hz, e1, hfe, ht, ho, h3, h5, nb8 h7]
          rw [lp]
          exact tail
        · have hrow : ∀ r ∈ N, r.length = (nth N 0).length := hN2
          have hlen : 0 < N.length → y.length = (nth N 0).length := fun h => by
            rw [← kn4]
            exact Classical.byContradiction fun e => h6 ⟨h, e⟩
          by_cases hany : (y.any fun v => !fok q v) = true
          · have hse : f45 q (N.map vs) y = 2 := by unfold f45; rw [if_pos hm, if_neg (by rw [List.length_map]; exact h6), if_pos hany]
            have hs := fun b b' nl nl' nr => jj0 (q := q) (b := b) (b' := b') (nl := nl) (nl' := nl') (nr := nr) (M := N.map vs) (y := y) hy (by rw [hse]; decide)
            rw [hse] at hs
            rw [hany] at e2
            have tail := i86 (n := n) (to := to) (E := E) (nl := nl) (nl' := nl') (nr := nr) (nlv := nlv) (nlc := nlc) (b := b) (b' := b') (c := c) u hc (by omega) hs (by simp) (fun _ => rfl) hm
            have lp := fun T7 T14 T17 ks => ue4 (q := q) (to := to) (nl' := nl') (nr := nr) (nlv := nlv) (nlc := nlc) (b := b) (b' := b') (M := N.map vs) (y := y) (c := c) (e := 2) (m := 0) (by decide) hM (T7 := T7) (T14 := T14) (T17 := T17) ks
            rw [o10 rfl T6 rfl]
            unfold F6 c6
            by_cases h5 : 0 < N.length
            · obtain ⟨r0, hr0⟩ := ge6 (l := N) (i := 0) h5
              have h3 := mva (nl := nr) hr0
              have h4 := xr8 hr0
              have h7 : (r0.length : Int) = (y.length : Int) := by rw [hlen h5, h4]
              simp (disch := first | omega | fail) only [push_cast, seval, ui5, lu7, y81, bj9, wrap64, dec_lt, cw6, nl3, qc6, mr8, nb8, if_pos, if_neg, hl, h200', hz, e1, e2, hfe, ht, ho, h3, h5, h7, Bool.not_true]
              rw [lp]
              exact tail
            · simp (disch := first | omega | fail) only [push_cast, seval, ui5, lu7, y81, bj9, wrap64, dec_lt, cw6, nl3, qc6, mr8, nb8, if_pos, if_neg, hl, h200', hz, e1, e2, hfe, ht, ho, h5, Bool.not_true]
              rw [lp]
              exact tail
          · obtain ⟨a, rfl⟩ := eq3 (q := q) hany
            rw [vf9] at e2
            rw [fi2] at h200'
            have hrow2 : ∀ r ∈ N, r.length = a.length := fun r hr => by
              rw [hN2 r hr, ← hlen (List.length_pos_of_mem hr), fi2]
            have hal : N ≠ [] → a.length ≤ 64 := fun h => by
              have := hlen (List.length_pos_iff.2 h); rw [fi2] at this; omega
            have hs := fun b b' nl nl' nr => k07 (b := b) (b' := b') (nl := nl) (nl' := nl') (nr := nr) hm hN1 hrow2 hal (by rw [fi2] at hy; exact hy)
            have hsl := js8 N a
            have tail := i86 (n := n) (to := to) (E := E) (nl := nl) (nl' := nl') (nr := nr) (nlv := nlv) (nlc := nlc) (b := b) (b' := b') (c := c) u hc (by omega) hs (by rw [fi2, hsl]; omega) (fun h => absurd rfl h) hm
            have lp := fun T7 ks => p44 (to := to) (nl' := nl') (nr := nr) (nlv := nlv) (nlc := nlc) (b := b) (b' := b') (c := c) (m := 0) u (by omega) hrow2 (fun h => by have := hal h; omega) (T7 := T7) N.length 0 (by omega) ks
            simp only [Int.natCast_zero, List.take_zero, List.drop_zero, rp2, lz6, x25, List.map_nil, List.length_nil] at lp
            rw [o10 rfl T6 rfl]
            unfold F6 c6
            by_cases h5 : 0 < N.length
            · obtain ⟨r0, hr0⟩ := ge6 (l := N) (i := 0) h5
              have h3 := mva (nl := nr) hr0
              have h4 := hrow2 r0 (List.mem_of_getElem? hr0)
              have h7 : (r0.length : Int) = (a.length : Int) := by rw [h4]
              simp (disch := first | omega | fail) only [push_cast, seval, ui5, lu7, y81, bj9, wrap64, dec_lt, cw6, nl3, qc6, mr8, nb8, if_pos, if_neg, hl, h200', hz, e1, e2, hfe, ht, ho, h3, h5, h7, Bool.not_false]
              rw [lp]
              exact tail
            · simp (disch := first | omega | fail) only [push_cast, seval, ui5, lu7, y81, bj9, wrap64, dec_lt, cw6, nl3, qc6, mr8, nb8, if_pos, if_neg, hl, h200', hz, e1, e2, hfe, ht, ho, h5, Bool.not_false]
              rw [lp]
              exact tail
      · have hse : f45 q M y = matE q M := by unfold f45; rw [if_neg hm]
        have hs := fun b b' nl nl' nr => jj0 (q := q) (b := b) (b' := b') (nl := nl) (nl' := nl') (nr := nr) (M := M) (y := y) hy (by rw [hse]; exact hm)
        rw [hse] at hs
        have lp := fun T7 T14 T17 ks => ue4 (q := q) (to := to) (nl' := nl') (nr := nr) (nlv := nlv) (nlc := nlc) (b := b) (b' := b') (M := M) (y := y) (c := c) (e := matE q M) (m := matE q M) hm hM (T7 := T7) (T14 := T14) (T17 := T17) ks
        have tail := fun T => q62 (n := n) (to := to) (E := E) (nl := nl) (nl' := nl') (nr := nr) (nlv := nlv) (nlc := nlc) (b := b) (b' := b') (T := T) (c := c) hc hM hs (by simp) (fun _ => rfl) fun h => hm h.2
        cases hn : fldN q.toNat with
        | none =>
          have e0 := fg0 hn
          rw [o10 rfl T6 rfl]
          unfold F6 c6
          simp (disch := first | omega | fail) only [push_cast, seval, ui5, lu7, y81, bj9, wrap64, dec_lt, cw6, nl3, qc6, mr8, nb8, if_pos, if_neg, hl, h200', hz, e1, e0, nb8 hm]
          rw [lp]
          exact tail _
        | some x =>
          obtain ⟨p0, m0, g0, mod⟩ := x
          haveI : IsFld q := ⟨⟨p0, m0, g0, mod, hn⟩⟩
          obtain ⟨p, m, g, t, u⟩ := k75 q
          have ht := u.n
          have ho := u.o
          have hfe := u.e
          rw [o10 rfl T6 rfl]
          unfold F6 c6
          simp (disch := first | omega | fail) only [push_cast, seval, ui5, lu7, y81, bj9, wrap64, dec_lt, cw6, nl3, qc6, mr8, nb8, if_pos, if_neg, hl, h200', hz, e1, hfe, ht, ho, nb8 hm]
          rw [lp]
          exact tail _
end
end Go.Proofs.Ytjpejkakodbchaa
namespace Go.Proofs.Ytjpejkakodbchaa
open Go.Am Go.Vm Go.Alg
def pkI (a n : Int) : Int := (if a < 0 then -(a + 1) else a).tmod n
theorem h58 {a n : Int} (hn : 0 < n) : 0 ≤ pkI a n ∧ pkI a n < n := by
  unfold pkI
  split
  · exact ⟨Int.tmod_nonneg _ (by omega), Int.tmod_lt_of_pos _ hn⟩
  · exact ⟨Int.tmod_nonneg _ (by omega), Int.tmod_lt_of_pos _ hn⟩
def rwI (l : List Int) (i : Int) : Int := if l.length = 0 then i else IntKind.wrap .i64 (gi l (i.tmod l.length) + IntKind.wrap .i64 (IntKind.wrap .i64 (i.tdiv l.length) * 7919))
theorem ti9 (x : Int) : -9223372036854775808 ≤ IntKind.wrap .i64 x ∧ IntKind.wrap .i64 x ≤ 9223372036854775807 := by rw [IntKind.wrap_i64]; omega
theorem bd0 {l : List Int} {i : Int} (h0 : 0 ≤ i) (h1 : i ≤ 9223372036854775807) : -9223372036854775808 ≤ rwI l i ∧ rwI l i ≤ 9223372036854775807 := by
  unfold rwI
  split
  · omega
  · exact ti9 _
theorem cl0 {l : List Int} {i : Int} (h0 : 0 ≤ i) (h1 : i < l.length) : (ivs l)[i.toNat]? = some (.v (.int .i64 (gi l i))) := by
  have e : (ivs l)[i.toNat]? = some (.v (.int .i64 (gi l ((i.toNat : Nat) : Int)))) := ui5 (by omega)
  rwa [Int.toNat_of_nonneg h0] at e
theorem o99 {x : Int} (h0 : 0 ≤ x) {n : Int} (h : x < n) : ∃ k : Nat, x = (k : Int) ∧ (k : Int) < n := ⟨x.toNat, by omega, by omega⟩
section
variable {b : Bool} {nl : Nat} {raw : List Int}
theorem s88 {a n : Int} (h1 : -9223372036854775808 ≤ a) (h2 : a ≤ 9223372036854775807) (hn : 0 < n) : o24 W 23 [.x (.int .i64 a), .x (.int .i64 n)] [] = some (.x (.int .i64 (pkI a n)), [], []) := by
  have hz : ¬ n = 0 := by omega
  rw [o10 rfl T23 rfl]
  unfold F23 c23 pkI
  by_cases h0 : a < 0
  · rw [if_pos h0]
    simp (disch := first | omega | fail) only [push_cast, seval, ui5, lu7, y81, bj9, wrap64, dec_lt, cw6, nl3, qc6, mr8, nb8, if_pos, if_neg, nb8 hz, hz]
    rw [show (0 : Int) - (a + 1) = -(a + 1) by omega]
  · rw [if_neg h0]
    simp (disch := first | omega | fail) only [push_cast, seval, ui5, lu7, y81, bj9, wrap64, dec_lt, cw6, nl3, qc6, mr8, nb8, if_pos, if_neg, nb8 hz, hz]
theorem yc3 {i : Int} (hi : 0 ≤ i) (hl : raw.length ≤ 9223372036854775807) : o24 W 40 [.fz b (.sl nl 0 1 (ivs raw)), .x (.int .i64 i)] [] = some (.x (.int .i64 (rwI raw i)), [], []) := by
  rw [o10 rfl T40 rfl]
  unfold F40 c40 rwI
  by_cases h0 : raw.length = 0
  · rw [if_pos h0]
    have h0' : (raw.length : Int) = 0 := by omega
    simp (disch := first | omega | fail) only [push_cast, seval, ui5, lu7, y81, bj9, wrap64, dec_lt, cw6, nl3, qc6, mr8, nb8, if_pos, if_neg, h0']
  · rw [if_neg h0]
    have hz : ¬ (raw.length : Int) = 0 := by omega
    have b1 : 0 ≤ i.tmod raw.length := Int.tmod_nonneg _ hi
    have b2 : i.tmod raw.length < raw.length := Int.tmod_lt_of_pos _ (by omega)
    have e := cl0 b1 b2
    simp (disch := first | omega | fail) only [push_cast, seval, ui5, lu7, y81, bj9, wrap64, dec_lt, cw6, nl3, qc6, mr8, nb8, if_pos, if_neg, hz, nb8 hz, e]
def numV (raw : List Int) (frm q : Int) (k : Nat) : Int := pkI (rwI raw (frm + k)) q
def tv7 (raw : List Int) (frm q : Int) (n : Nat) : List Int := (List.range n).map (numV raw frm q)
theorem jd5 (raw : List Int) (frm q : Int) (n : Nat) : (tv7 raw frm q n).length = n := by simp [tv7]
theorem ce7 (raw : List Int) (frm q : Int) (n : Nat) : tv7 raw frm q (n + 1) = tv7 raw frm q n ++ [numV raw frm q n] := by unfold tv7; rw [List.range_succ, List.map_append]; rfl
theorem dm5 {raw : List Int} {frm q : Int} {n : Nat} (hq : 0 < q) : ∀ z ∈ tv7 raw frm q n, fok q z = true := fun z hz => by
  obtain ⟨k, _, rfl⟩ := List.mem_map.1 hz
  have := h58 (a := rwI raw (frm + k)) hq
  unfold numV fok
  rw [decide_eq_true this.1, decide_eq_true this.2]; rfl
theorem m61 {raw : List Int} {frm q : Int} {n : Nat} (hq : 0 < q) : ∃ l : List (El q), tv7 raw frm q n = vs l ∧ l.length = n := by
  obtain ⟨l, hl⟩ := n39 (dm5 (raw := raw) (frm := frm) (n := n) hq)
  exact ⟨l, hl, by rw [← fi2, ← hl, jd5]⟩
theorem yq2 (hrl : raw.length ≤ 9223372036854775807) {frm q : Int} (hf0 : 0 ≤ frm) (hf1 : frm ≤ 1000000000) (hq0 : 0 < q) {N : Nat} (hN : N ≤ 100000) : ∀ (d i : Nat), i + d = N → ∀ ks,
    vgoL W ⟨h25, [.tmp 8], 0⟩ [0, 1, 2, 3, 9, 10] c25L0 (.blk 0 [9] :: ks) [(0, .fz b (.sl nl 0 1 (ivs raw))), (1, .x (.int .i64 frm)), (2, .x (.int .i64 q)), (3, .x (.int .i64 N)), (9, .own 0 []), (10, .x (.int .i64 i))] [.sl 1 3 1 (ivs (tv7 raw frm q i))] =
      vgo W ⟨h25, [.tmp 8], 0⟩ ks (VFr.of [(9, .own 0 [])]) [.sl 1 3 1 (ivs (tv7 raw frm q N))]
  | 0, i, hi, ks => by
    obtain rfl : i = N := by omega
    rw [sb5 c25L0.eq_def]
    simp (disch := first | omega | fail) only [push_cast, seval, ui5, lu7, y81, bj9, wrap64, dec_lt, cw6, nl3, qc6, mr8, nb8, if_pos, if_neg]
  | d + 1, i, hi, ks => by
    have ih := yq2 hrl hf0 hf1 hq0 hN d (i + 1) (by omega) ks
    have e1 := fun b nl => yc3 (b := b) (nl := nl) (raw := raw) (i := frm + i) (by omega) hrl
    have hri := bd0 (l := raw) (i := frm + i) (by omega) (by omega)
    have e2 := s88 (n := q) hri.1 hri.2 hq0
    have hl := jd5 raw frm q i
    rw [Int.natCast_add, Int.natCast_one, ce7, numV] at ih
    rw [← ih, sb5 c25L0.eq_def]
    simp (disch := first | omega | fail) only [push_cast, seval, ui5, lu7, y81, bj9, wrap64, dec_lt, cw6, nl3, qc6, mr8, nb8, if_pos, if_neg, e1, e2, hl]
theorem vv4 (hrl : raw.length ≤ 9223372036854775807) {frm q : Int} (hf0 : 0 ≤ frm) (hf1 : frm ≤ 1000000000) (hq0 : 0 < q) {N : Nat} (hN : N ≤ 100000) : o24 W 25 [.fz b (.sl nl 0 1 (ivs raw)), .x (.int .i64 frm), .x (.int .i64 q), .x (.int .i64 N)] [] = some (.own 0 [], [.sl 1 3 1 (ivs (tv7 raw frm q N))], []) := by
  have e := fun ks => yq2 (b := b) (nl := nl) hrl hf0 hf1 hq0 hN N 0 (by omega) ks
  rw [show tv7 raw frm q 0 = [] from rfl] at e
  simp only [Int.natCast_zero, List.take_zero, List.drop_zero, rp2, lz6, x25, List.map_nil, List.length_nil] at e
  rw [o10 rfl T25 rfl]
  unfold F25 c25
  simp (disch := first | omega | fail) only [push_cast, seval, ui5, lu7, y81, bj9, wrap64, dec_lt, cw6, nl3, qc6, mr8, nb8, if_pos, if_neg]
  rw [e]
  simp (disch := first | omega | fail) only [push_cast, seval, ui5, lu7, y81, bj9, wrap64, dec_lt, cw6, nl3, qc6, mr8, nb8, if_pos, if_neg]
def i35 (raw : List Int) (frm q : Int) (n m : Nat) : List (List Int) := (List.range m).map fun i : Nat => tv7 raw (frm + (i : Int) * (n : Int)) q n
theorem om4 (raw : List Int) (frm q : Int) (n m : Nat) : (i35 raw frm q n m).length = m := by simp [i35]
theorem ot3 (raw : List Int) (frm q : Int) (n m : Nat) : i35 raw frm q n (m + 1) = i35 raw frm q n m ++ [tv7 raw (frm + m * n) q n] := by unfold i35; rw [List.range_succ, List.map_append]; rfl
theorem fw6 {raw : List Int} {frm q : Int} {n : Nat} (hq : 0 < q) : ∀ m, ∃ M : List (List (El q)), i35 raw frm q n m = M.map vs ∧ M.length = m ∧ ∀ r ∈ M, r.length = n
  | 0 => ⟨[], rfl, rfl, fun r hr => by cases hr⟩
  | m + 1 => by
    obtain ⟨M, h1, h2, h3⟩ := fw6 (raw := raw) (frm := frm) (n := n) hq m
    obtain ⟨l, e1, e2⟩ := m61 (raw := raw) (frm := frm + m * n) (n := n) hq
    refine ⟨M ++ [l], by rw [ot3, h1, e1, List.map_append]; rfl, by rw [List.length_append, h2]; rfl, fun r hr => ?_⟩
    rcases List.mem_append.1 hr with h | h
    · exact h3 r h
    · rw [List.mem_singleton.1 h, e2]
theorem hy5 (hrl : raw.length ≤ 9223372036854775807) {frm q : Int} (hf0 : 0 ≤ frm) (hf1 : frm ≤ 1000000) (hq0 : 0 < q) {n m : Nat} (hn : n ≤ 200) (hm : m ≤ 200) : ∀ (d i : Nat), i + d = m → ∀ ks,
    vgoL W ⟨h24, [.tmp 10], 0⟩ [0, 1, 2, 3, 4, 11, 12] c24L0 (.blk 0 [11] :: ks) [(0, .fz b (.sl nl 0 1 (ivs raw))), (1, .x (.int .i64 frm)), (2, .x (.int .i64 q)), (3, .x (.int .i64 m)), (4, .x (.int .i64 n)), (11, .own 0 []), (12, .x (.int .i64 i))] [.sl 1 23 1 (lls 2 (i35 raw frm q n i))] =
      vgo W ⟨h24, [.tmp 10], 0⟩ ks (VFr.of [(11, .own 0 [])]) [.sl 1 23 1 (lls 2 (i35 raw frm q n m))]
  | 0, i, hi, ks => by
    obtain rfl : i = m := by omega
    rw [sb5 c24L0.eq_def]
    simp (disch := first | omega | fail) only [push_cast, seval, ui5, lu7, y81, bj9, wrap64, dec_lt, cw6, nl3, qc6, mr8, nb8, if_pos, if_neg]
  | d + 1, i, hi, ks => by
    have ih := hy5 hrl hf0 hf1 hq0 hn hm d (i + 1) (by omega) ks
    have hb : ((i * n : Nat) : Int) ≤ 40000 := by have := Nat.mul_le_mul (show i ≤ 200 by omega) hn; omega
    rw [Int.natCast_mul] at hb
    have hb0 : 0 ≤ (i : Int) * (n : Int) := Int.mul_nonneg (by omega) (by omega)
    have e1 := fun b nl => vv4 (b := b) (nl := nl) (frm := frm + i * n) (N := n) hrl (by omega) (by omega) hq0 (by omega)
    have hl := om4 raw frm q n i
    rw [Int.natCast_add, Int.natCast_one, ot3] at ih
    rw [← ih, sb5 c24L0.eq_def]
    simp (disch := first | omega | fail) only [push_cast, seval, ui5, lu7, y81, bj9, wrap64, dec_lt, cw6, nl3, qc6, mr8, nb8, if_pos, if_neg, e1, hl]
theorem g25 (hrl : raw.length ≤ 9223372036854775807) {frm q : Int} (hf0 : 0 ≤ frm) (hf1 : frm ≤ 1000000) (hq0 : 0 < q) {n m : Nat} (hn : n ≤ 200) (hm : m ≤ 200) : o24 W 24 [.fz b (.sl nl 0 1 (ivs raw)), .x (.int .i64 frm), .x (.int .i64 q), .x (.int .i64 m), .x (.int .i64 n)] [] = some (.own 0 [], [.sl 1 23 1 (lls 2 (i35 raw frm q n m))], []) := by
  have e := fun ks => hy5 (b := b) (nl := nl) hrl hf0 hf1 hq0 hn hm m 0 (by omega) ks
  rw [show i35 raw frm q n 0 = [] from rfl] at e
  simp only [Int.natCast_zero, List.take_zero, List.drop_zero, rp2, lz6, x25, List.map_nil, List.length_nil] at e
  rw [o10 rfl T24 rfl]
  unfold F24 c24
  simp (disch := first | omega | fail) only [push_cast, seval, ui5, lu7, y81, bj9, wrap64, dec_lt, cw6, nl3, qc6, mr8, nb8, if_pos, if_neg]
  rw [e]
  simp (disch := first | omega | fail) only [push_cast, seval, ui5, lu7, y81, bj9, wrap64, dec_lt, cw6, nl3, qc6, mr8, nb8, if_pos, if_neg]
end
theorem hl9 (p : Int) (hp : 2 ≤ p ∧ p ≤ 64) : ∀ (n : Nat) (q m q' m' : Int), 1 ≤ q → q ≤ 64 → 0 ≤ m → m + n ≤ 100 → dvdN n q p m = some (q', m') →
    (1 ≤ q' ∧ q' ≤ 64) ∧ ∀ ks, vgoL W ⟨hNo, [.tmp 2, .tmp 3], 0⟩ [0, 4, 5] c72L0 (.blk 2 [0, 4, 5] :: ks) [(0, .x (.int .i64 q)), (4, .x (.int .i64 p)), (5, .x (.int .i64 m))] [] = vgo W ⟨hNo, [.tmp 2, .tmp 3], 0⟩ ks (VFr.of [(0, .x (.int .i64 q')), (4, .x (.int .i64 p)), (5, .x (.int .i64 m'))]) []
  | 0, q, m, q', m', h1, h2, h3, h4, he => by cases he
  | n + 1, q, m, q', m', h1, h2, h3, h4, he => by
    rw [dvdN] at he
    have hp0 : ¬ p = 0 := by omega
    have q1 : q.tmod p = q % p := Int.tmod_eq_emod_of_nonneg (by omega)
    have q2 : q.tdiv p = q / p := Int.tdiv_eq_ediv_of_nonneg (by omega)
    by_cases hz : q % p = 0
    · rw [show (q % p == 0) = true by simpa using hz, cond_true] at he
      have hd : 1 ≤ q / p := by
        rcases Int.lt_or_le (q / p) 1 with h | h
        · have h5 : 0 ≤ q / p := Int.ediv_nonneg (by omega) (by omega)
          have h6 : q / p = 0 := by omega
          have := Int.emod_add_mul_ediv q p
          rw [h6, hz] at this; omega
        · exact h
      have hd2 : q / p ≤ q := Int.ediv_le_self _ (by omega)
      obtain ⟨hb, ih⟩ := hl9 p hp n (q / p) (m + 1) q' m' hd (by omega) (by omega) (by omega) he
      refine ⟨hb, fun ks => ?_⟩
      rw [← ih ks, sb5 c72L0.eq_def]
      simp (disch := first | omega | fail) only [push_cast, seval, ui5, lu7, y81, bj9, wrap64, dec_lt, cw6, nl3, qc6, mr8, nb8, if_pos, if_neg, hp0, q1, q2, mr8 hz]
    · rw [show (q % p == 0) = false by simpa using hz, cond_false] at he
      cases he
      refine ⟨⟨h1, h2⟩, fun ks => ?_⟩
      rw [sb5 c72L0.eq_def]
      simp (disch := first | omega | fail) only [push_cast, seval, ui5, lu7, y81, bj9, wrap64, dec_lt, cw6, nl3, qc6, mr8, nb8, if_pos, if_neg, hp0, q1, nb8 hz]
theorem ra6 (q : Int) (hq : 2 ≤ q ∧ q ≤ 64) : ∀ (n : Nat) (p : Int) (r : Int × Int), 2 ≤ p → p ≤ 64 → outN n q p = some r →
    ∀ ks, vgoL W ⟨hNo, [.tmp 2, .tmp 3], 0⟩ [0, 4] c72L1 (.blk 0 [] :: ks) [(0, .x (.int .i64 q)), (4, .x (.int .i64 p))] [] = some (.tup [.x (.int .i64 r.1), .x (.int .i64 r.2)], [], [])
  | 0, p, r, h1, h2, he => by cases he
  | n + 1, p, r, h1, h2, he => fun ks => by
    rw [outN] at he
    by_cases hl : q < p
    · rw [decide_eq_true hl, cond_true] at he; cases he
    rw [decide_eq_false hl, cond_false] at he
    have hp0 : ¬ p = 0 := by omega
    have q1 : q.tmod p = q % p := Int.tmod_eq_emod_of_nonneg (by omega)
    by_cases hz : q % p = 0
    · rw [show (q % p == 0) = true by simpa using hz, cond_true] at he
      cases hd : dvdN 64 q p 0 with
      | none => rw [hd] at he; cases he
      | some x =>
        obtain ⟨q', m'⟩ := x
        rw [hd] at he
        simp only [Option.some.injEq] at he
        obtain ⟨hb, hin⟩ := hl9 p ⟨h1, h2⟩ 64 q 0 q' m' (by omega) (by omega) (by omega) (by omega) hd
        rw [sb5 c72L1.eq_def]
        simp (disch := first | omega | fail) only [push_cast, seval, ui5, lu7, y81, bj9, wrap64, dec_lt, cw6, nl3, qc6, mr8, nb8, if_pos, if_neg, hp0, q1, mr8 hz]
        rw [hin]
        by_cases ho : q' = 1
        · rw [show (q' == 1) = true by simpa using ho, cond_true] at he
          rw [← he]
          simp (disch := first | omega | fail) only [push_cast, seval, ui5, lu7, y81, bj9, wrap64, dec_lt, cw6, nl3, qc6, mr8, nb8, if_pos, if_neg, mr8 ho]
        · rw [show (q' == 1) = false by simpa using ho, cond_false] at he
          rw [← he]
          simp (disch := first | omega | fail) only [push_cast, seval, ui5, lu7, y81, bj9, wrap64, dec_lt, cw6, nl3, qc6, mr8, nb8, if_pos, if_neg, nb8 ho]
    · rw [show (q % p == 0) = false by simpa using hz, cond_false] at he
      by_cases hp64 : p = 64
      · subst hp64; omega
      have ih := ra6 q hq n (p + 1) r (by omega) (by omega) he ks
      rw [← ih, sb5 c72L1.eq_def]
      simp (disch := first | omega | fail) only [push_cast, seval, ui5, lu7, y81, bj9, wrap64, dec_lt, cw6, nl3, qc6, mr8, nb8, if_pos, if_neg, hp0, q1, nb8 hz]
theorem fh8 {q : Int} (hq : 2 ≤ q ∧ q ≤ 64) {r : Int × Int} (he : outN 64 q 2 = some r) : o24 W 72 [.x (.int .i64 q)] [] = some (.tup [.x (.int .i64 r.1), .x (.int .i64 r.2)], [], []) := by
  rw [o10 rfl T72 rfl]
  unfold F72 c72
  simp (disch := first | omega | fail) only [push_cast, seval, ui5, lu7, y81, bj9, wrap64, dec_lt, cw6, nl3, qc6, mr8, nb8, if_pos, if_neg]
  rw [ra6 q hq 64 2 r (by omega) (by omega) he]
def szN : Nat → Nat → List Int
  | 0, _ => []
  | n + 1, q => bif (fldN q).isSome then (q : Int) :: szN n (q + 1) else szN n (q + 1)
def szL : List Int := szN 63 2
theorem pb4 : szL.length = 27 := by kernel_rfl
theorem ho7 : (szL.all fun z => decide (2 ≤ z) && decide (z ≤ 64) && (fldN z.toNat).isSome) = true := by kernel_rfl
theorem x14 {z : Int} (hz : z ∈ szL) : 2 ≤ z ∧ z ≤ 64 ∧ IsFld z := by
  have := List.all_eq_true.1 ho7 z hz
  simp only [Bool.and_eq_true, decide_eq_true_eq] at this
  obtain ⟨⟨h1, h2⟩, h3⟩ := this
  obtain ⟨⟨p, m, g, mod⟩, hx⟩ := Option.isSome_iff_exists.1 h3
  exact ⟨h1, h2, ⟨p, m, g, mod, hx⟩⟩
theorem jl0 : ∀ (n q : Nat) (zs : List Int), q + n = 65 → 2 ≤ q → zs.length ≤ q → ∀ ks,
    vgoL W ⟨h89, [.tmp 0], 0⟩ [1, 2] c89L0 (.blk 0 [1] :: ks) [(1, .own 0 []), (2, .x (.int .i64 q))] [.sl 1 3 1 (ivs zs)] = vgo W ⟨h89, [.tmp 0], 0⟩ ks (VFr.of [(1, .own 0 [])]) [.sl 1 3 1 (ivs (zs ++ szN n q))]
  | 0, q, zs, hq, hq2, hz, ks => by
    rw [szN, List.append_nil, sb5 c89L0.eq_def]
    simp (disch := first | omega | fail) only [push_cast, seval, ui5, lu7, y81, bj9, wrap64, dec_lt, cw6, nl3, qc6, mr8, nb8, if_pos, if_neg]
  | n + 1, q, zs, hq, hq2, hz, ks => by
    have hle : (q : Int) ≤ 64 := by omega
    cases hs : fldN q with
    | none =>
      have ho := wd5 (n := q) hq2 (by omega) hs
      have ep := fh8 (q := (q : Int)) (by omega) ho
      have ih := jl0 n (q + 1) zs (by omega) (by omega) (by omega) ks
      have hw : zs ++ szN (n + 1) q = zs ++ szN n (q + 1) := by rw [szN, hs]; rfl
      rw [Int.natCast_add, Int.natCast_one] at ih
      rw [hw, ← ih, sb5 c89L0.eq_def]
      simp (disch := first | omega | fail) only [push_cast, seval, ui5, lu7, y81, bj9, wrap64, dec_lt, cw6, nl3, qc6, mr8, nb8, if_pos, if_neg, ep, decide_false, Int.lt_irrefl]
    | some x =>
      obtain ⟨p, m, g, mod⟩ := x
      obtain ⟨hf, ho, _⟩ := hi9 hs
      have hp2 := hf.p2
      have hpp : 0 < p := by omega
      have ep := fh8 (q := (q : Int)) (by omega) ho
      have ih := jl0 n (q + 1) (zs ++ [(q : Int)]) (by omega) (by omega) (by simp; omega) ks
      have hw : zs ++ szN (n + 1) q = zs ++ [(q : Int)] ++ szN n (q + 1) := by rw [szN, hs]; simp
      rw [Int.natCast_add, Int.natCast_one] at ih
      rw [hw, ← ih, sb5 c89L0.eq_def]
      simp (disch := first | omega | fail) only [push_cast, seval, ui5, lu7, y81, bj9, wrap64, dec_lt, cw6, nl3, qc6, mr8, nb8, if_pos, if_neg, ep, dec_lt hpp]
theorem n63 : o24 W 89 [] [] = some (.own 0 [], [.sl 1 3 1 (ivs szL)], []) := by
  have e := fun ks => jl0 63 2 [] rfl (by omega) (by simp) ks
  rw [List.nil_append, show ((2 : Nat) : Int) = 2 from rfl] at e
  simp only [Int.natCast_zero, List.take_zero, List.drop_zero, rp2, lz6, x25, List.map_nil, List.length_nil] at e
  rw [o10 rfl T89 rfl]
  unfold F89 c89
  simp (disch := first | omega | fail) only [push_cast, seval, ui5, lu7, y81, bj9, wrap64, dec_lt, cw6, nl3, qc6, mr8, nb8, if_pos, if_neg]
  rw [e]
  simp (disch := first | omega | fail) only [push_cast, seval, ui5, lu7, y81, bj9, wrap64, dec_lt, cw6, nl3, qc6, mr8, nb8, if_pos, if_neg]
  rfl
theorem hl8 {i : Int} (h0 : 0 ≤ i) (h1 : i < 27) : gi szL i ∈ szL ∧ (ivs szL)[i.toNat]? = some (.v (.int .i64 (gi szL i))) := by
  have hl := pb4
  have h2 := cl0 (l := szL) h0 (by omega)
  refine ⟨?_, h2⟩
  have h3 : i.toNat < szL.length := by omega
  have : gi szL i = szL[i.toNat] := by
    rw [show (ivs szL)[i.toNat]? = some (.v (.int .i64 (szL[i.toNat]))) from by unfold ivs; rw [List.getElem?_map, List.getElem?_eq_getElem h3]; rfl] at h2
    simpa using h2.symm
  rw [this]
  exact List.getElem_mem h3
theorem jx7 (c : Int) (h1 : -9223372036854775808 ≤ c) (h2 : c ≤ 9223372036854775807) : ∃ z, z ∈ szL ∧ o24 W 22 [.x (.int .i64 c)] [] = some (.x (.int .i64 z), [], []) := by
  have e1 := n63
  have hl := pb4
  have e2 := s88 (a := c) (n := 100) h1 h2 (by omega)
  have r1 := h58 (a := c) (n := 100) (by omega)
  generalize pkI c 100 = k at e2 r1
  by_cases hk : k < 60
  · have r2 : 0 ≤ k.tmod 7 ∧ k.tmod 7 < 7 := ⟨Int.tmod_nonneg _ r1.1, Int.tmod_lt_of_pos _ (by decide)⟩
    have a1 := hl8 (i := k.tmod 7) r2.1 (by omega)
    refine ⟨_, a1.1, ?_⟩
    have a2 := a1.2
    rw [o10 rfl T22 rfl]
    unfold F22 c22
    simp (disch := first | omega | fail) only [push_cast, seval, ui5, lu7, y81, bj9, wrap64, dec_lt, cw6, nl3, qc6, mr8, nb8, if_pos, if_neg, e1, e2, hl, a2]
  · have r3 : -9223372036854775808 ≤ c.tdiv 100 ∧ c.tdiv 100 ≤ 9223372036854775807 := by
      rcases Int.le_total 0 c with h | h
      · rw [Int.tdiv_eq_ediv_of_nonneg h]; omega
      · have : c.tdiv 100 = -((-c).tdiv 100) := by rw [Int.neg_tdiv, Int.neg_neg]
        rw [this, Int.tdiv_eq_ediv_of_nonneg (by omega)]; omega
    have e3 := s88 (a := c.tdiv 100) (n := 27) r3.1 r3.2 (by omega)
    have r4 := h58 (a := c.tdiv 100) (n := 27) (by omega)
    have a1 := hl8 (i := pkI (c.tdiv 100) 27) r4.1 r4.2
    refine ⟨_, a1.1, ?_⟩
    have a2 := a1.2
    rw [o10 rfl T22 rfl]
    unfold F22 c22
    simp (disch := first | omega | fail) only [push_cast, seval, ui5, lu7, y81, bj9, wrap64, dec_lt, cw6, nl3, qc6, mr8, nb8, if_pos, if_neg, e1, e2, hl, e3, a2]
end Go.Proofs.Ytjpejkakodbchaa
namespace Go.Proofs.Ytjpejkakodbchaa
open Go.Am Go.Vm Go.Alg
def ih9 : List (Int × Int) → Tree
  | [] => .v (.slice none 0 0)
  | e :: E => .sl 2 124 2 (evs (e :: E))
theorem v59 : evs [] = [] := rfl
section
variable {raw : List Int} {nodes edges : Int}
theorem hc5 (hrl : raw.length ≤ 9223372036854775807) (n0 : 2 ≤ nodes) (n1 : nodes ≤ 100) {N : Nat} (hN : N ≤ 24) (hp : o24 W 23 [.x (.int .i64 edges), .x (.int .i64 25)] [] = some (.x (.int .i64 N), [], [])) : ∀ (d i : Nat) (E : List (Int × Int)), i + d = N → E.length = i → ∃ E' : List (Int × Int), E'.length = N ∧ ∀ (b : Bool) (nl : Nat) (T : Tree) ks,
    vgoL W ⟨hNo, [(.cell 6 true 2)], 0⟩ [0, 2, 6, 7, 8] c39L0 (.blk 0 [6, 7] :: ks) [(0, .fz b (.sl nl 0 1 (ivs raw))), (2, .x (.int .i64 edges)), (6, .own 0 []), (7, .own 1 []), (8, .x (.int .i64 i))] [T, .pt 53 [.v (.int .i64 nodes), ih9 E]] =
      vgo W ⟨hNo, [(.cell 6 true 2)], 0⟩ ks (VFr.of [(6, .own 0 []), (7, .own 1 [])]) [T, .pt 53 [.v (.int .i64 nodes), ih9 E']]
  | 0, i, E, hi, hE => by
    obtain rfl : i = N := by omega
    refine ⟨E, hE, fun b nl T ks => ?_⟩
    rw [sb5 c39L0.eq_def]
    simp (disch := first | omega | fail) only [push_cast, seval, ui5, lu7, y81, bj9, wrap64, dec_lt, cw6, nl3, qc6, mr8, nb8, if_pos, if_neg, hp]
  | d + 1, i, E, hi, hE => by
    have hr1 := bd0 (l := raw) (i := 2 * (i : Int)) (by omega) (by omega)
    have hr2 := bd0 (l := raw) (i := 2 * (i : Int) + 1) (by omega) (by omega)
    have e1 := fun b nl => yc3 (b := b) (nl := nl) (raw := raw) (i := 2 * (i : Int)) (by omega) hrl
    have e2 := fun b nl => yc3 (b := b) (nl := nl) (raw := raw) (i := 2 * (i : Int) + 1) (by omega) hrl
    have p1 := s88 (a := rwI raw (2 * (i : Int))) (n := nodes - 1) hr1.1 hr1.2 (by omega)
    have k1 := h58 (a := rwI raw (2 * (i : Int))) (n := nodes - 1) (by omega)
    have p2 := s88 (a := rwI raw (2 * (i : Int) + 1)) (n := 1 + pkI (rwI raw (2 * (i : Int))) (nodes - 1)) hr2.1 hr2.2 (by omega)
    generalize pkI (rwI raw (2 * (i : Int))) (nodes - 1) = a at *
    generalize pkI (rwI raw (2 * (i : Int) + 1)) (1 + a) = c at *
    obtain ⟨E', h1, h2⟩ := hc5 hrl n0 n1 hN hp d (i + 1) (E ++ [(c, 1 + a)]) (by omega) (by rw [List.length_append, hE]; rfl)
    refine ⟨E', h1, fun b nl T ks => ?_⟩
    have ih := h2 b nl T ks
    rw [Int.natCast_add, Int.natCast_one] at ih
    have hin : (i : Int) < (N : Int) := by omega
    cases hc : E with
    | nil =>
      rw [hc, List.nil_append] at ih
      have hz : ih9 [(c, 1 + a)] = .sl 2 124 2 [.v (.int .i64 c), .v (.int .i64 (1 + a))] := rfl
      rw [hz] at ih
      rw [show ih9 [] = .v (.slice none 0 0) from rfl, ← ih, sb5 c39L0.eq_def]
      simp (disch := first | omega | fail) only [push_cast, seval, ui5, lu7, y81, bj9, wrap64, dec_lt, cw6, nl3, qc6, mr8, nb8, if_pos, if_neg, hp, e1, e2, p1, p2, dec_lt hin]
    | cons x E0 =>
      have hl := k42 (x :: E0)
      have hl2 := xg6 (x :: E0)
      have hlx : (x :: E0).length = i := by rw [← hc]; exact hE
      rw [hc] at ih
      have hz : ih9 (x :: E0 ++ [(c, 1 + a)]) = .sl 2 124 2 (evs (x :: E0) ++ [.v (.int .i64 c), .v (.int .i64 (1 + a))]) := by
        rw [xx3]; rfl
      rw [hz] at ih
      rw [show ih9 (x :: E0) = .sl 2 124 2 (evs (x :: E0)) from rfl, ← ih, sb5 c39L0.eq_def]
      generalize evs (x :: E0) = V at hl hl2 ⊢
      rw [hlx] at hl hl2
      simp (disch := first | omega | fail) only [push_cast, seval, ui5, lu7, y81, bj9, wrap64, dec_lt, cw6, nl3, qc6, mr8, nb8, if_pos, if_neg, hp, e1, e2, p1, p2, dec_lt hin, hl]
theorem gj9 (hrl : raw.length ≤ 9223372036854775807) {nd ed : Int} (n1 : -9223372036854775808 ≤ nd) (n2 : nd ≤ 9223372036854775807) (d1 : -9223372036854775808 ≤ ed) (d2 : ed ≤ 9223372036854775807) :
    ∃ (nodes : Int) (E : List (Int × Int)), 2 ≤ nodes ∧ nodes ≤ 8 ∧ E.length ≤ 24 ∧ ∀ (b : Bool) (nl : Nat), o24 W 39 [.fz b (.sl nl 0 1 (ivs raw)), .x (.int .i64 nd), .x (.int .i64 ed)] [] =
      if E = [] then some (.agg [.x (.int .i64 nodes), .x (.slice none 0 0)], [], []) else some (.agg [.x (.int .i64 nodes), .own 0 []], [.sl 2 124 2 (evs E)], []) := by
  have p1 := s88 (n := 7) n1 n2 (by omega)
  have k1 := h58 (a := nd) (n := 7) (by omega)
  have p2 := s88 (n := 25) d1 d2 (by omega)
  obtain ⟨N, hN, hN2⟩ := o99 (h58 (a := ed) (n := 25) (by omega)).1 (h58 (a := ed) (n := 25) (by omega)).2
  rw [hN] at p2
  generalize pkI nd 7 = z at *
  obtain ⟨E, h1, h2⟩ := hc5 (nodes := 2 + z) (edges := ed) hrl (by omega) (by omega) (by omega) p2 N 0 [] (by omega) rfl
  refine ⟨2 + z, E, by omega, by omega, by omega, fun b nl => ?_⟩
  have e := fun T ks => h2 b nl T ks
  rw [show ih9 [] = .v (.slice none 0 0) from rfl] at e
  simp only [Int.natCast_zero, List.take_zero, List.drop_zero, rp2, lz6, x25, List.map_nil, List.length_nil] at e
  rw [o10 rfl T39 rfl]
  unfold F39 c39
  simp (disch := first | omega | fail) only [push_cast, seval, ui5, lu7, y81, bj9, wrap64, dec_lt, cw6, nl3, qc6, mr8, nb8, if_pos, if_neg, p1]
  rw [e]
  cases E with
  | nil =>
    rw [if_pos rfl, show ih9 [] = .v (.slice none 0 0) from rfl]
    simp (disch := first | omega | fail) only [push_cast, seval, ui5, lu7, y81, bj9, wrap64, dec_lt, cw6, nl3, qc6, mr8, nb8, if_pos, if_neg]
  | cons x E0 =>
    rw [if_neg (by simp), show ih9 (x :: E0) = .sl 2 124 2 (evs (x :: E0)) from rfl]
    simp (disch := first | omega | fail) only [push_cast, seval, ui5, lu7, y81, bj9, wrap64, dec_lt, cw6, nl3, qc6, mr8, nb8, if_pos, if_neg]
end
end Go.Proofs.Ytjpejkakodbchaa
namespace Go.Proofs.Ytjpejkakodbchaa
open Go.Am Go.Vm Go.Alg
theorem wg5 : ∀ E : List (Int × Int), jj5 (evs E) = evs E
  | [] => by rw [v59, jj5]
  | e :: E => by
    have hc : evs (e :: E) = .v (.int .i64 e.1) :: .v (.int .i64 e.2) :: evs E := rfl
    rw [hc, jj5, jj5, strip, strip, wg5 E]
section
variable {q : Int} {b : Bool} {nl : Nat} {raw : List Int}
theorem y30 [IsFld q] {p m0 g : Int} {t : Tree} (u : RFo q p m0 g t) {N : List (List (El q))} {y : List (El q)} {at' : Int} {tu : Bool} (hN : N.length ≤ 1000) (hr : ∀ r ∈ N, r.length = y.length) (hy : y.length ≤ 1000) {T15 : Tree} : ∀ (d i : Nat), i + d = N.length → ∀ ks,
    vgoL W ⟨h7, [.tmp 14], 0⟩ [0, 1, 5, 6, 15, 16, 17, 18, 20, 21] c7L0 (.blk 0 [0, 1, 5, 6, 15, 16, 17, 20] :: ks) [(0, .fz b (.sl nl 0 1 (ivs raw))), (1, .x (.int .i64 q)), (5, .x (.int .i64 at')), (6, .x (.bool tu)), (15, .own 0 []), (16, .own 1 []), (17, .own 2 []), (18, .own 3 []), (20, .own 4 []), (21, .x (.int .i64 i))] [T15, .sl 1 23 1 (lls 2 (N.map vs)), .sl 1 3 1 (ivs (vs y)), .pt 28 [.v (.int .i64 q), .v (.int .i64 p), .v (.int .i64 m0), .v (.int .i64 g), .fz t], .sl 1 3 1 (ivs (vs ((synL N y).take i)))] =
      vgo W ⟨h7, [.tmp 14], 0⟩ ks (VFr.of [(0, .fz b (.sl nl 0 1 (ivs raw))), (1, .x (.int .i64 q)), (5, .x (.int .i64 at')), (6, .x (.bool tu)), (15, .own 0 []), (16, .own 1 []), (17, .own 2 []), (20, .own 4 [])]) [T15, .sl 1 23 1 (lls 2 (N.map vs)), .sl 1 3 1 (ivs (vs y)), .pt 28 [.v (.int .i64 q), .v (.int .i64 p), .v (.int .i64 m0), .v (.int .i64 g), .fz t], .sl 1 3 1 (ivs (vs (synL N y)))]
  | 0, i, hi, ks => by
    rw [List.take_of_length_le (by rw [js8]; omega), sb5 c7L0.eq_def]
    simp (disch := first | omega | fail) only [push_cast, seval, ui5, lu7, y81, bj9, wrap64, dec_lt, cw6, nl3, qc6, mr8, nb8, if_pos, if_neg]
  | d + 1, i, hi, ks => by
    have ih := y30 (at' := at') (tu := tu) u hN hr hy (T15 := T15) d (i + 1) (by omega) ks
    obtain ⟨r, hri⟩ := ge6 (l := N) (i := i) (by omega)
    have hrl := hr r (List.mem_of_getElem? hri)
    have h0 := mla (nl := 2) hri
    have hs := js8 N y
    have e1 := fun b b' nl nl' => af6 (b := b) (b' := b') (nl := nl) (nl' := nl') (x := r) (o := y) hrl.symm (by omega)
    rw [u.e] at e1
    have ht := u.n
    have ho := u.o
    have hg : (synL N y)[i]? = some (sumN r.length fun j => wf r j * wf y j) := by unfold synL; rw [List.getElem?_map, hri]; rfl
    rw [Int.natCast_add, Int.natCast_one, List.take_add_one, hg, Option.toList_some, gq8, e55, rp2] at ih
    rw [← ih, sb5 c7L0.eq_def]
    simp (disch := first | omega | fail) only [push_cast, seval, ui5, lu7, y81, bj9, wrap64, dec_lt, cw6, nl3, qc6, mr8, nb8, if_pos, if_neg, h0, e1, hs, ht, ho]
end
theorem n50 {b : Bool} {nl : Nat} {raw : List Int} (hl : raw.length ≤ 9223372036854775807) {q nd ed hh at' : Int} {tu : Bool} (q1 : -9223372036854775808 ≤ q) (q2 : q ≤ 9223372036854775807) (n1 : -9223372036854775808 ≤ nd) (n2 : nd ≤ 9223372036854775807) (d1 : -9223372036854775808 ≤ ed) (d2 : ed ≤ 9223372036854775807) (h1 : -9223372036854775808 ≤ hh) (h2 : hh ≤ 9223372036854775807) (a1 : -9223372036854775808 ≤ at') (a2 : at' ≤ 9223372036854775807) :
    o24 W 7 [.fz b (.sl nl 0 1 (ivs raw)), .x (.int .i64 q), .x (.int .i64 nd), .x (.int .i64 ed), .x (.int .i64 hh), .x (.int .i64 at'), .x (.bool tu)] [] = some (.x (.bool true), [], []) := by
  by_cases h256 : 256 < raw.length
  · rw [o10 rfl T7 rfl]
    unfold F7 c7
    simp (disch := first | omega | fail) only [push_cast, seval, ui5, lu7, y81, bj9, wrap64, dec_lt, cw6, nl3, qc6, mr8, nb8, if_pos, if_neg]
  · obtain ⟨z, hz, e0⟩ := jx7 q q1 q2
    obtain ⟨z1, z2, hfz⟩ := x14 hz
    haveI := hfz
    obtain ⟨nodes, E, k1, k2, k3, e1⟩ := gj9 hl n1 n2 d1 d2
    have p1 := s88 (n := 3) h1 h2 (by omega)
    obtain ⟨h', hh', hh3⟩ := o99 (h58 (a := hh) (n := 3) (by omega)).1 (h58 (a := hh) (n := 3) (by omega)).2
    rw [hh'] at p1
    have s1 := fun b nl => g25 (b := b) (nl := nl) hl (frm := 0) (q := z) (by omega) (by omega) (by omega) (n := h' + 1) (m := E.length) (by omega) (by omega)
    have s2 := fun b nl => vv4 (b := b) (nl := nl) hl (frm := 5) (q := z) (by omega) (by omega) (by omega) (N := h' + 1) (by omega)
    obtain ⟨N, hN, hNl, hNr⟩ := fw6 (raw := raw) (frm := 0) (q := z) (n := h' + 1) (by omega) E.length
    obtain ⟨y, hy, hyl⟩ := m61 (raw := raw) (frm := 5) (q := z) (n := h' + 1) (by omega)
    rw [hN] at s1
    rw [hy] at s2
    simp only [Int.natCast_add, Int.natCast_one, Int.add_comm _ (1 : Int)] at s1 s2
    obtain ⟨p, m, g, t, u⟩ := k75 z
    have ht := u.n
    have ho := u.o
    have hfe := u.e
    have lp := fun T15 ks => y30 (N := N) (y := y) (b := b) (nl := nl) (raw := raw) (at' := at') (tu := tu) u (by omega) (fun r hr => by rw [hNr r hr, hyl]) (by omega) (T15 := T15) N.length 0 (by omega) ks
    simp only [Int.natCast_zero, List.take_zero, List.drop_zero, rp2, lz6, x25, List.map_nil, List.length_nil] at lp
    have hsl := js8 N y
    have rw1 := bd0 (l := raw) (i := 1) (by omega) (by omega)
    have r1 := fun b nl => yc3 (b := b) (nl := nl) (raw := raw) (i := 1) (by omega) hl
    have p2 := s88 (a := rwI raw 1) (n := z) rw1.1 rw1.2 (by omega)
    have p3 := s88 (a := at') (n := nodes - 1) a1 a2 (by omega)
    have k4 := h58 (a := at') (n := nodes - 1) (by omega)
    have hl2 := k42 E
    generalize pkI at' (nodes - 1) = at2 at *
    generalize pkI (rwI raw 1) z = v1 at *
    have fin := fun (c : List Int) (hc : c.length ≤ 64) nl nlv nr b nl' b' nlc => tg9 (q := z) (n := nodes) (to := 1 + at2) (E := E) (nl := nl) (nlv := nlv) (nr := nr) (b := b) (nl' := nl') (b' := b') (nlc := nlc) (M := N.map vs) (y := vs y) (c := c) (by rw [List.length_map]; omega) (by rw [fi2]; omega) (by omega) (by omega)
    have f1 := fin (vs (synL N y)) (by rw [fi2]; omega)
    have f2 := fin ((vs (synL N y)).set 0 v1) (by rw [List.length_set, fi2]; omega)
    rw [o10 rfl T7 rfl]
    unfold F7 c7
    cases E with
    | nil =>
      simp only [if_true] at e1
      have f1 := fun nl nlv => f1 nl nlv 0
      have f2 := fun nl nlv => f2 nl nlv 0
      rw [v59] at f1 f2
      have hN0 : N = [] := List.eq_nil_of_length_eq_zero (by simpa using hNl)
      subst hN0
      have hsy : vs (synL ([] : List (List (El z))) y) = [] := rfl
      rw [hsy] at f1 f2 lp
      simp only [List.length_nil, Int.natCast_zero] at s1
      simp only [List.map_nil, em1, x25, lz6, List.set_nil] at f1 f2 lp s1
      cases tu with
      | false =>
        simp (disch := first | omega | fail) only [push_cast, seval, ui5, lu7, y81, bj9, wrap64, dec_lt, cw6, nl3, qc6, mr8, nb8, if_pos, if_neg, e0, e1, p1, s1, s2, hfe, ht, ho]
        rw [lp]
        simp (disch := first | omega | fail) only [push_cast, seval, ui5, lu7, y81, bj9, wrap64, dec_lt, cw6, nl3, qc6, mr8, nb8, if_pos, if_neg, p3, f1]
      | true =>
        simp (disch := first | omega | fail) only [push_cast, seval, ui5, lu7, y81, bj9, wrap64, dec_lt, cw6, nl3, qc6, mr8, nb8, if_pos, if_neg, e0, e1, p1, s1, s2, hfe, ht, ho]
        rw [lp]
        simp (disch := first | omega | fail) only [push_cast, seval, ui5, lu7, y81, bj9, wrap64, dec_lt, cw6, nl3, qc6, mr8, nb8, if_pos, if_neg, p3, f1]
    | cons x E0 =>
      have hE0 : ¬ (x :: E0 = []) := by simp
      simp only [if_neg hE0] at e1
      have hlx : 0 < (x :: E0).length := by simp
      generalize hG : x :: E0 = G at *
      cases tu with
      | false =>
        simp (disch := first | omega | fail) only [push_cast, seval, ui5, lu7, y81, bj9, wrap64, dec_lt, cw6, nl3, qc6, mr8, nb8, if_pos, if_neg, e0, e1, p1, s1, s2, hfe, ht, ho, hl2]
        rw [lp]
        simp (disch := first | omega | fail) only [push_cast, seval, ui5, lu7, y81, bj9, wrap64, dec_lt, cw6, nl3, qc6, mr8, nb8, if_pos, if_neg, p3, f1, wg5]
      | true =>
        simp (disch := first | omega | fail) only [push_cast, seval, ui5, lu7, y81, bj9, wrap64, dec_lt, cw6, nl3, qc6, mr8, nb8, if_pos, if_neg, e0, e1, p1, s1, s2, hfe, ht, ho, hl2]
        rw [lp]
        simp (disch := first | omega | fail) only [push_cast, seval, ui5, lu7, y81, bj9, wrap64, dec_lt, cw6, nl3, qc6, mr8, nb8, if_pos, if_neg, p3, r1, p2, f2, hsl, hNl, wg5]
end Go.Proofs.Ytjpejkakodbchaa
namespace Go.Proofs.Ytjpejkakodbchaa
open Go.Am Go.Vm Go.Alg
section
variable {h : H} {l : List AV} {ws : List Value}
theorem a23 : Vm.VRL h [] (allZ h) (allZ h) [] [] := by rw [Vm.VRL]
theorem dp0 (r : Vm.VRL h [] (allZ h) (allZ h) l ws) (v : Value) : Vm.VRL h [] (allZ h) (allZ h) (.x v :: l) (v :: ws) := by
  rw [Vm.VRL]; exact ⟨v, ws, rfl, by rw [Vm.VR], r⟩
theorem qj4 {sa : Option Addr} {c : Nat} {zs : List Int} (hr : RdI h sa c zs) : ∀ o, sa.map (·.block) = some o → allZ h o := fun o ho => by
  rcases hr with ⟨rfl, _⟩ | ⟨_, o2, off, r2, rfl, h1, _⟩
  · cases ho
  · cases ho; exact h42 h1
theorem sk6 (r : Vm.VRL h [] (allZ h) (allZ h) l ws) {sa : Option Addr} {c : Nat} {zs : List Int} (hr : RdI h sa c zs) : Vm.VRL h [] (allZ h) (allZ h) (.fz true (.sl 2 0 1 (ivs zs)) :: l) (.slice sa zs.length c :: ws) := by
  rw [Vm.VRL]; exact ⟨_, ws, rfl, by rw [Vm.VR]; exact pd9 hr (qj4 hr), r⟩
end
end Go.Proofs.Ytjpejkakodbchaa
namespace Go.Proofs.Ytjpejkakodbchaa
open Go.Am Go.Vm Go.Alg
theorem bd3 (h : H) (s0 : Option Addr) (c0 : Nat) (z0 : List Int) (r0 : RdI h s0 c0 z0) (_ : ss4 h 1 s0 = true) (_ : z0.length ≤ 9223372036854775807) (a1 : Int) (_ : -9223372036854775808 ≤ a1) (_ : a1 ≤ 9223372036854775807) (a2 : Int) (_ : -9223372036854775808 ≤ a2) (_ : a2 ≤ 9223372036854775807) (a3 : Int) (_ : -9223372036854775808 ≤ a3) (_ : a3 ≤ 9223372036854775807) (a4 : Int) (_ : -9223372036854775808 ≤ a4) (_ : a4 ≤ 9223372036854775807) (a5 : Int) (_ : -9223372036854775808 ≤ a5) (_ : a5 ≤ 9223372036854775807) (a6 : Bool) :
    ∃ h', call T 7 [.slice s0 z0.length c0, .int .i64 a1, .int .i64 a2, .int .i64 a3, .int .i64 a4, .int .i64 a5, .bool a6] h = some (.bool true, h') :=
  vlaw lw2 (sk6 (dp0 (dp0 (dp0 (dp0 (dp0 (dp0 a23 _) _) _) _) _) _) r0) (by apply n50 <;> assumption)
end Go.Proofs.Ytjpejkakodbchaa
