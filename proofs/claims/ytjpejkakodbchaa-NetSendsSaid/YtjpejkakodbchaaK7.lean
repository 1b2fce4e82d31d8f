/-
  How many words can stand apart, in plain Lean: of more words than others span them some are told by the rest; what rows make 0; rows turned. No condition. matrix.Reduce, Rank called, in the second machine. Conditions: rows that fit. matrix.solve, Solve, in the second machine. Conditions: a field of the table; rows of one length. matrix.Solve, Inverse, in the second machine. Conditions: lists that  ..
-/
import Derived.Test.YtjpejkakodbchaaK6
import Derived.Deep.SlicePairs
import Derived.WideShapes
import Derived.Deep.Matrix
import Derived.ChangeArms
set_option linter.unusedVariables false
set_option linter.unusedSimpArgs false
set_option linter.unusedSectionVars false
set_option maxRecDepth 100000
namespace Go.Alg
section
variable {K : Type} [FK K]
theorem y46 {α β : Type} (f : α × β → K) : ∀ (l : List α) (l' : List β), l.length = l'.length → ∀ l2 l2', sumL ((l ++ l2).zip (l' ++ l2')) f = sumL (l.zip l') f + sumL (l2.zip l2') f := fun l l' h l2 l2' => by
  rw [List.zip_append h, up0]
theorem uj4 {α β γ : Type} (g : β → γ) (f : α × γ → K) : ∀ (l : List α) (l' : List β), sumL (l.zip (l'.map g)) f = sumL (l.zip l') (fun p => f (p.1, g p.2))
  | [], _ => rfl
  | _ :: _, [] => rfl
  | a :: l, b :: l' => by rw [List.map_cons, List.zip_cons_cons, List.zip_cons_cons, gb6, gb6, uj4 g f l l']
theorem hom : ∀ (r : Nat) (S : List (Nat → K)), r < S.length → ∃ y : List K, y.length = S.length ∧ (∃ a ∈ y, a ≠ 0) ∧ ∀ j, j < r → sumL (y.zip S) (fun p => p.1 * p.2 j) = 0
  | 0, S, h => by
    refine ⟨List.replicate S.length 1, List.length_replicate, ⟨1, List.mem_replicate.2 ⟨by omega, rfl⟩, ki7⟩, fun j hj => absurd hj (Nat.not_lt_zero j)⟩
  | r + 1, S, h => by
    by_cases hs : ∃ s ∈ S, s r ≠ 0
    · obtain ⟨s, hs, hne⟩ := hs
      obtain ⟨S1, S2, rfl⟩ := List.append_of_mem hs
      have hl : r < ((S1 ++ S2).map (fun (t : Nat → K) j => t j - t r * FK.inv (s r) * s j)).length := by
        simp only [List.length_map, List.length_append, List.length_cons] at h ⊢; omega
      obtain ⟨y, y1, ⟨a, y2, y3⟩, y4⟩ := hom r _ hl
      rw [List.length_map, List.length_append] at y1
      have hsp : y = y.take S1.length ++ y.drop S1.length := (List.take_append_drop _ _).symm
      have h1 : (y.take S1.length).length = S1.length := by rw [List.length_take]; omega
      have h2 : (y.drop S1.length).length = S2.length := by rw [List.length_drop]; omega
      generalize y.take S1.length = u at hsp h1
      generalize y.drop S1.length = w at hsp h2
      subst hsp
      have hsum : ∀ (c : K) j, sumL ((u ++ c :: w).zip (S1 ++ s :: S2)) (fun p => p.1 * p.2 j) = sumL ((u ++ w).zip (S1 ++ S2)) (fun p => p.1 * p.2 j) + c * s j := fun c j => by
        rw [y46 _ _ _ h1, y46 _ _ _ h1, List.zip_cons_cons, gb6, FK.add_assoc, FK.add_comm (sumL (w.zip S2) _)]
      refine ⟨u ++ -(sumL ((u ++ w).zip (S1 ++ S2)) (fun p => p.1 * p.2 r) * FK.inv (s r)) :: w, ?_, ⟨a, ?_, y3⟩, fun j hj => ?_⟩
      · simp only [List.length_append, List.length_cons, h1, h2]
      · simp only [List.mem_append, List.mem_cons] at y2 ⊢
        rcases y2 with y2 | y2
        · exact .inl y2
        · exact .inr (.inr y2)
      · rw [hsum]
        by_cases hjr : j = r
        · subst hjr
          rw [neg_mul, FK.mul_assoc, inv_mul hne, FK.mul_one, FK.add_neg]
        · have h3 := y4 j (by omega)
          rw [uj4] at h3
          have h4 : sumL ((u ++ w).zip (S1 ++ S2)) (fun p => p.1 * (p.2 j - p.2 r * FK.inv (s r) * s j)) = sumL ((u ++ w).zip (S1 ++ S2)) (fun p => p.1 * p.2 j) - sumL ((u ++ w).zip (S1 ++ S2)) (fun p => p.1 * p.2 r) * FK.inv (s r) * s j := by
            rw [← ue3, ← ue3, ← b15]
            refine ox7 fun p _ => ?_
            rw [mul_sub, ← FK.mul_assoc, ← FK.mul_assoc]
          have h3 : sumL ((u ++ w).zip (S1 ++ S2)) (fun p => p.1 * (p.2 j - p.2 r * FK.inv (s r) * s j)) = 0 := h3
          rw [h4] at h3
          rw [neg_mul, ← sub_eq, h3]
    · obtain ⟨y, y1, y2, y3⟩ := hom r S (by omega)
      refine ⟨y, y1, y2, fun j hj => ?_⟩
      by_cases hjr : j = r
      · subst hjr
        refine tx6 fun p hp => ?_
        have : p.2 j = 0 := Classical.byContradiction fun hne => hs ⟨p.2, (List.of_mem_zip hp).2, hne⟩
        rw [this, mul_zero]
      · exact y3 j (by omega)
end
section
variable {K : Type} [FK K] {n : Nat}
section
variable {A : List (Nat × List K)} (hr : Rref n (toF A))
include hr
end
end
end Go.Alg
namespace Go.Proofs.Ytjpejkakodbchaa
open Go.Am Go.Vm Go.Alg
section
variable {q : Int} {b : Bool} {nl nr : Nat}
theorem e58 (he : matE q [] = 0) : o24 W 65 [.x (.int .i64 q), .fz b (.sl nl 0 1 [])] [] = some (.tup [.x (.slice none 0 0), .own 0 [], .x (.int .i64 0)], [.sl 1 3 1 []], []) := by
  have e1 := fun b nl => or9 (q := q) (M := []) (b := b) (nl := nl) (nr := 0)
  simp only [em1, he] at e1
  rw [o10 rfl T65 rfl]
  unfold F65 c65
  simp (disch := first | omega | fail) only [push_cast, seval, ui5, lu7, y81, bj9, wrap64, dec_lt, cw6, nl3, qc6, mr8, nb8, if_pos, if_neg, e1]
theorem ru4 [IsFld q] {N : List (List (El q))} {n : Nat} (hr : ∀ r ∈ N, r.length = n) : ∀ r ∈ N.map vs, r.length = n := fun c hc => by
  obtain ⟨r, hr', rfl⟩ := List.mem_map.1 hc
  rw [fi2, hr r hr']
theorem sy6 [IsFld q] {N : List (List (El q))} {n : Nat} (hl : N.length ≤ 64) (hr : ∀ r ∈ N, r.length = n) (h0 : 0 < n) (hn : n ≤ 64) : matE q (N.map vs) = 0 := by
  obtain ⟨d, hd⟩ := gh1 (q := q)
  unfold matE
  rw [hd]
  show (if 64 < (N.map vs).length then 4 else _) = (0 : Int)
  rw [if_neg (by rw [List.length_map]; omega), kn4]
  have : ∀ L : List (List (El q)), (∀ r ∈ L, r ∈ N) → wb9 q (nth N 0).length (L.map vs) = 0 := by
    intro L
    induction L with
    | nil => intro _; rfl
    | cons r L ih =>
      intro h
      have h1 : r ∈ N := h r (by simp)
      have h2 : (nth N 0).length = n := by
        cases N with
        | nil => cases h1
        | cons a N => exact hr a (by simp)
      rw [List.map_cons, wb9, if_pos, ih fun x hx => h x (by simp [hx])]
      unfold rowE
      rw [fi2, hr r h1, h2, if_neg (by omega), if_neg (by omega), if_neg]
      intro h3
      obtain ⟨z, hz, h4⟩ := List.any_eq_true.1 h3
      obtain ⟨x, hx, rfl⟩ := List.mem_map.1 hz
      rw [x.ok] at h4
      cases h4
  exact this N fun r h => h
theorem lq3 [IsFld q] {N : List (List (El q))} {n : Nat} (h0 : 0 < N.length) (hl : N.length ≤ 64) (hr : ∀ r ∈ N, r.length = n) (hn0 : 0 < n) (hn : n ≤ 64) :
    o24 W 65 [.x (.int .i64 q), .fz b (.sl nl 0 1 (lvs nr (N.map vs)))] [] = some (.tup [.own 0 [], .own 1 [], .x (.int .i64 0)], [.sl 0 23 1 (lls 2 (pvR (redR N))), .sl 1 3 1 (ivs (pvP (redR N)))], []) := by
  have he := sy6 hl hr hn0 hn
  have hrv := ru4 hr
  have e1 := fun b nl nr => or9 (q := q) (M := N.map vs) (b := b) (nl := nl) (nr := nr)
  simp only [he] at e1
  have e2 := fun b nl nr => y80 (b := b) (nl := nl) (nr := nr) (M := N.map vs) (fun r hr' => by have := hrv r hr'; omega) (by rw [List.length_map]; omega)
  obtain ⟨M', P', c', I, hd, e3⟩ := x17 (M0 := N) (n := n) (R := N.length) rfl h0 (by omega) (by omega) n 0 N [] (by omega) (RedI.start hr)
  have hout := I.end' hd hr
  have hpl := I.pl
  have hfst := ua6 hpl
  have hsnd := hn3 hpl
  rw [hout] at hfst hsnd
  have hP : pn P' = pvP (redR N) := by rw [← hfst]; unfold pn pvP; rw [List.map_map]; rfl
  have hPl : P'.length = (redR N).length := by rw [← hfst, List.length_map]
  have hR : (M'.map vs).take (redR N).length = pvR (redR N) := by
    rw [← hPl, ← List.map_take, ← hsnd]; unfold pvR; rw [List.map_map]; rfl
  have hMl : M'.length = N.length := I.len
  rw [hP] at e3
  have hpl2 := gb1 (redR N)
  have hnil : ivs (pn []) = [] := rfl
  rw [hnil] at e3
  simp only [Int.natCast_zero] at e3
  have htk : (lls 2 (M'.map vs)).take (redR N).length = lls 2 (pvR (redR N)) := by rw [mm0, hR]
  rw [o10 rfl T65 rfl]
  unfold F65 c65
  simp (disch := first | omega | fail) only [push_cast, seval, ui5, lu7, y81, bj9, wrap64, dec_lt, cw6, nl3, qc6, mr8, nb8, if_pos, if_neg, e1, e2]
  rw [e3]
  simp (disch := first | omega | fail) only [push_cast, seval, ui5, lu7, y81, bj9, wrap64, dec_lt, cw6, nl3, qc6, mr8, nb8, if_pos, if_neg, hpl2, htk]
theorem sz4 (he : matE q [] = 0) : o24 W 63 [.x (.int .i64 q), .fz b (.sl nl 0 1 [])] [] = some (.tup [.x (.int .i64 0), .x (.int .i64 0)], [], []) := by
  have e1 := fun b nl => e58 (q := q) (b := b) (nl := nl) he
  rw [o10 rfl T63 rfl]
  unfold F63 c63
  simp (disch := first | omega | fail) only [push_cast, seval, ui5, lu7, y81, bj9, wrap64, dec_lt, cw6, nl3, qc6, mr8, nb8, if_pos, if_neg, e1]
theorem u33 [IsFld q] {N : List (List (El q))} {n : Nat} (h0 : 0 < N.length) (hl : N.length ≤ 64) (hr : ∀ r ∈ N, r.length = n) (hn0 : 0 < n) (hn : n ≤ 64) :
    o24 W 63 [.x (.int .i64 q), .fz b (.sl nl 0 1 (lvs nr (N.map vs)))] [] = some (.tup [.x (.int .i64 (redR N).length), .x (.int .i64 0)], [], []) := by
  have e1 := fun b nl nr => lq3 (b := b) (nl := nl) (nr := nr) h0 hl hr hn0 hn
  have h1 := gb1 (redR N)
  rw [o10 rfl T63 rfl]
  unfold F63 c63
  simp (disch := first | omega | fail) only [push_cast, seval, ui5, lu7, y81, bj9, wrap64, dec_lt, cw6, nl3, qc6, mr8, nb8, if_pos, if_neg, e1, h1]
end
end Go.Proofs.Ytjpejkakodbchaa
namespace Go.Proofs.Ytjpejkakodbchaa
open Go.Am Go.Vm Go.Alg
theorem vu3 {q : Int} {M : List (List (El q))} {at' i : Nat} (hii : i ≠ at') : ((((lls 2 (M.map vs)).set at' Tree.junk).set i Tree.junk).set at' (.sl 2 3 1 (ivs (vs (nth M i))))).set i (.sl 2 3 1 (ivs (vs (nth M at')))) = lls 2 ((swpM M at' i).map vs) := by
  have hsw : (swpM M at' i).map vs = ((M.map vs).set at' (vs (nth M i))).set i (vs (nth M at')) := by unfold swpM; rw [List.map_set, List.map_set]
  rw [hsw, ← y81, ← y81]
  refine List.ext_getElem? fun k => ?_
  simp only [List.getElem?_set, List.length_set]
  by_cases c1 : i = k <;> by_cases c2 : at' = k <;> simp [c1, c2]
theorem aw4 {q : Int} {M : List (List (El q))} {i : Nat} : (lls 2 (M.map vs)).set i (.sl 2 3 1 (ivs (vs (nth M i)))) = lls 2 ((swpM M i i).map vs) := by
  have hsw : (swpM M i i).map vs = ((M.map vs).set i (vs (nth M i))).set i (vs (nth M i)) := by unfold swpM; rw [List.map_set, List.map_set]
  rw [y81, hsw, List.set_set]
section
variable {q : Int} [IsFld q] {b b' : Bool} {nl nl' nr : Nat} {M : List (List (El q))} {y : List (El q)} {n R : Nat}
theorem gz1 (hy : y.length = M.length) (hMl : ∀ r ∈ M, r.length = n) (hn0 : 0 < n) (hMn : M.length ≤ 500) (hN : n ≤ 900) : ∀ (d i : Nat), i + d = M.length → ∀ ks,
    vgoL W ⟨h138, [.tmp 6, .tmp 7], 0⟩ [1, 2, 8, 10, 11, 36, 37] c138L0 (.blk 0 [8, 10, 11] :: ks) [(1, .fz b (.sl nl 0 1 (lvs nr (M.map vs)))), (2, .fz b' (.sl nl' 0 1 (ivs (vs y)))), (8, .fz true (pF q)), (10, .x (.int .i64 n)), (11, .own 0 []), (36, .x (.int .i64 M.length)), (37, .x (.int .i64 i))] [.sl 0 23 1 (lls 2 (((augL M y).map vs).take i ++ List.replicate d []))] =
      vgo W ⟨h138, [.tmp 6, .tmp 7], 0⟩ ks (VFr.of [(8, .fz true (pF q)), (10, .x (.int .i64 n)), (11, .own 0 [])]) [.sl 0 23 1 (lls 2 ((augL M y).map vs))]
  | 0, i, hi, ks => by
    have hl := b28 hy
    rw [List.replicate_zero, List.append_nil, List.take_of_length_le (by rw [List.length_map]; omega), sb5 c138L0.eq_def]
    simp (disch := first | omega | fail) only [push_cast, seval, ui5, lu7, y81, bj9, wrap64, dec_lt, cw6, nl3, qc6, mr8, nb8, if_pos, if_neg]
  | d + 1, i, hi, ks => by
    obtain ⟨r, hr⟩ := ge6 (l := M) (i := i) (by omega)
    obtain ⟨x, hx⟩ := ge6 (l := y) (i := i) (by omega)
    have hrl := hMl r (List.mem_of_getElem? hr)
    have hwx : wf y i = x := by
      obtain ⟨h1, h2⟩ := List.getElem?_eq_some_iff.1 hx
      rw [jb4 h1, h2]
    have ih := gz1 hy hMl hn0 hMn hN d (i + 1) (by omega) ks
    have hg : ((augL M y).map vs)[i]? = some (vs (r ++ [x])) := by
      rw [List.getElem?_map]
      have h : (augL M y)[i]? = some (r ++ [x]) := by unfold augL; rw [List.getElem?_zipWith, hr, hx]
      rw [h]; rfl
    have hl := b28 hy
    have hn := l52 (n := d) hg
    have hYl : (((augL M y).map vs).take i ++ List.replicate (d + 1) []).length = M.length := by
      simp only [List.length_append, List.length_take, List.length_map, List.length_replicate]; omega
    rw [← hn] at ih
    generalize ((augL M y).map vs).take i ++ List.replicate (d + 1) [] = Y at ih hYl
    rw [Int.natCast_add, Int.natCast_one] at ih
    have h0 := mva (nl := nr) hr
    have h1 := iva (l := y) (i := i) (by omega)
    rw [hwx] at h1
    have hcp := fun b nl => u27 (b := b) (nl := nl) (l := vs r) (by rw [fi2]; omega) (by rw [fi2]; omega)
    have hv : vs r ++ [x.v] = vs (r ++ [x]) := by rw [gq8]; rfl
    rw [← ih, sb5 c138L0.eq_def]
    simp (disch := first | omega | fail) only [push_cast, seval, ui5, lu7, y81, bj9, wrap64, dec_lt, cw6, nl3, qc6, mr8, nb8, if_pos, if_neg, h0, h1, hcp, hYl, hv, y81]
theorem zw3 {b b' : Bool} {nl e : Nat} {r : List (El q)} {c : Nat} (hc : c < r.length) (hl : r.length ≤ 1000) : o24 W 157 [.fz b (.sl nl 0 1 (ivs (vs r))), .fz b' (.pt e [.v (.int .i64 c)])] [] = some (.x (.bool (decide ((wf r c).v ≠ 0))), [], []) := by
  have h1 := iva (l := r) (i := c) hc
  rw [o10 rfl T157 rfl]
  unfold F157 c157
  simp (disch := first | omega | fail) only [push_cast, seval, ui5, lu7, y81, bj9, wrap64, dec_lt, cw6, nl3, qc6, mr8, nb8, if_pos, if_neg, h1]
  by_cases h : (wf r c).v = 0
  · rw [decide_eq_true h, decide_eq_false (by simpa using h)]; rfl
  · rw [decide_eq_false h, decide_eq_true h]; rfl
section
variable {T5 : Tree} {c at' n0 : Nat}
theorem gr3 (hR : M.length = R) (hR2 : R ≤ 1000) (hn2 : n ≤ 1000) (hrow : ∀ k, k < R → (nth M k).length = n) (hc : c < n) (hat : at' < R) :
    ∀ (d k : Nat), k + d = R → ∀ ks,
      vgoL W ⟨h138, [.tmp 6, .tmp 7], 0⟩ [8, 10, 11, 13, 14, 15, 55, 56, 102, 103] c138L1 (.blk 4 [8, 10, 11, 13, 14, 55, 56] :: ks) [(8, .fz true (pF q)), (10, .x (.int .i64 n0)), (11, .own 0 []), (13, .own 1 []), (14, .own 2 []), (15, .x (.int .i64 at')), (55, .x (.int .i64 n0)), (56, .x (.int .i64 c)), (102, .x (.int .i64 R)), (103, .x (.int .i64 k))] [.sl 0 23 1 (lls 2 (((clrM M at' c).take k ++ M.drop k).map vs)), T5, .pt 3 [.v (.int .i64 c)]] =
        vgo W ⟨h138, [.tmp 6, .tmp 7], 0⟩ ks (VFr.of [(8, .fz true (pF q)), (10, .x (.int .i64 n0)), (11, .own 0 []), (13, .own 1 []), (14, .own 2 []), (55, .x (.int .i64 n0)), (56, .x (.int .i64 c))]) [.sl 0 23 1 (lls 2 ((clrM M at' c).map vs)), T5, .pt 3 [.v (.int .i64 c)]]
  | 0, k, hk, ks => by
    have hcl := wq1 M at' c
    rw [oh9 (by omega), List.append_nil, List.take_of_length_le (by omega), sb5 c138L1.eq_def]
    simp (disch := first | omega | fail) only [push_cast, seval, ui5, lu7, y81, bj9, wrap64, dec_lt, cw6, nl3, qc6, mr8, nb8, if_pos, if_neg]
  | d + 1, k, hk, ks => by
    have ih := gr3 hR hR2 hn2 hrow hc hat d (k + 1) (by omega) ks
    have hcl := wq1 M at' c
    have hck := kc5 (M := M) (at' := at') (c := c) (k := k) (by omega)
    have hY : ((clrM M at' c).take k ++ M.drop k).length = R := by simp only [List.length_append, List.length_take, List.length_drop]; omega
    have hYk : ((clrM M at' c).take k ++ M.drop k)[k]? = some (nth M k) := by
      rw [List.getElem?_append_right (by rw [List.length_take]; omega), List.length_take, Nat.min_eq_left (by omega), Nat.sub_self, List.getElem?_drop, Nat.add_zero, gu3 (by omega)]
    have hYa : ((clrM M at' c).take k ++ M.drop k)[at']? = some (nth M at') := by
      by_cases h : at' < k
      · rw [List.getElem?_append_left (by rw [List.length_take]; omega), List.getElem?_take, if_pos h, kc5 (by omega), if_pos rfl]
      · rw [List.getElem?_append_right (by rw [List.length_take]; omega), List.length_take, Nat.min_eq_left (by omega), List.getElem?_drop, show k + (at' - k) = at' by omega, gu3 (by omega)]
    have hYn : ((clrM M at' c).take k ++ M.drop k).set k (if k = at' then nth M k else dx9 (wf (nth M k) c) (nth M k) (nth M at')) = (clrM M at' c).take (k + 1) ++ M.drop (k + 1) := by
      rw [List.set_append_right _ _ (by rw [List.length_take]; omega), List.length_take, Nat.min_eq_left (by omega), Nat.sub_self, List.drop_eq_getElem_cons (by omega : k < M.length), List.set_cons_zero, List.take_add_one, hck, List.append_assoc]; rfl
    rw [← hYn] at ih
    generalize (clrM M at' c).take k ++ M.drop k = Y at ih hY hYk hYa
    rw [Int.natCast_add, Int.natCast_one] at ih
    have h1 := mla (nl := 2) hYk
    have h2 := mla (nl := 2) hYa
    have h3 := iva (l := nth M k) (i := c) (by rw [hrow k (by omega)]; exact hc)
    have hsame : Y.set k (nth M k) = Y := em2 hYk
    have hlk := hrow k (by omega)
    have hla := hrow at' hat
    by_cases hka : k = at'
    · rw [if_pos hka, hsame] at ih
      rw [← ih, sb5 c138L1.eq_def]
      simp (disch := first | omega | fail) only [push_cast, seval, ui5, lu7, y81, bj9, wrap64, dec_lt, cw6, nl3, qc6, mr8, nb8, if_pos, if_neg, h1, h2, h3, hY, hlk]
    · rw [if_neg hka] at ih
      have hl := fun b b' nl nl' => nq1 (b := b) (b' := b') (nl := nl) (nl' := nl') (c := wf (nth M k) c) (r := nth M k) (o := nth M at') (by rw [hrow k (by omega), hrow at' hat]) (by rw [hrow k (by omega)]; omega)
      have hs : (lls 2 (Y.map vs)).set k (.sl 2 3 1 (ivs (vs (dx9 (wf (nth M k) c) (nth M k) (nth M at'))))) = lls 2 ((Y.set k (dx9 (wf (nth M k) c) (nth M k) (nth M at'))).map vs) := by rw [y81, List.map_set]
      have hj : ((lls 2 (Y.map vs)).set k Tree.junk)[k]? = some Tree.junk := List.getElem?_set_self (by rw [qf0, List.length_map]; omega)
      rw [← ih, sb5 c138L1.eq_def]
      simp (disch := first | omega | fail) only [push_cast, seval, ui5, lu7, y81, bj9, wrap64, dec_lt, cw6, nl3, qc6, mr8, nb8, if_pos, if_neg, h1, h2, h3, hY, hlk, hl, hj, List.getElem?_set_ne, List.set_set, hs]
end
theorem wh0 {M0 : List (List (El q))} {n0 : Nat} (hR : M0.length = R) (hR0 : 0 < R) (hR2 : R ≤ 1000) (hn2 : n ≤ 1000) (hn0 : n0 < n) :
    ∀ (d c : Nat) (M : List (List (El q))) (P : List Nat), c + d = n0 → RedI n M0 M P c → ∃ (M' : List (List (El q))) (P' : List Nat), RedI n M0 M' P' n0 ∧ ∀ ks,
      vgoL W ⟨h138, [.tmp 6, .tmp 7], 0⟩ [8, 10, 11, 13, 55, 56] c138L2 (.blk 2 [10, 11, 13] :: ks) [(8, .fz true (pF q)), (10, .x (.int .i64 n0)), (11, .own 0 []), (13, .own 1 []), (55, .x (.int .i64 n0)), (56, .x (.int .i64 c))] [.sl 0 23 1 (lls 2 (M.map vs)), .sl 1 3 1 (ivs (pn P))] =
        vgo W ⟨h138, [.tmp 6, .tmp 7], 0⟩ ks (VFr.of [(10, .x (.int .i64 n0)), (11, .own 0 []), (13, .own 1 [])]) [.sl 0 23 1 (lls 2 (M'.map vs)), .sl 1 3 1 (ivs (pn P'))]
  | 0, c, M, P, hd, I => by
    obtain rfl : c = n0 := by omega
    refine ⟨M, P, I, fun ks => ?_⟩
    rw [sb5 c138L2.eq_def]
    simp (disch := first | omega | fail) only [push_cast, seval, ui5, lu7, y81, bj9, wrap64, dec_lt, cw6, nl3, qc6, mr8, nb8, if_pos, if_neg]
  | d + 1, c, M, P, hd, I => by
    have hMl : M.length = R := by rw [I.len, hR]
    have hpl := I.pl
    have hpn := im5 P
    have IH := wh0 hR hR0 hR2 hn2 hn0 d (c + 1)
    obtain ⟨at', hat'⟩ : ∃ a, a = P.length := ⟨_, rfl⟩
    have hrow : ∀ k, k < R → (nth M k).length = n := fun k hk => I.len_nth (by omega)
    obtain ⟨m, hm⟩ : ∃ m, m = List.take (R - at') (List.drop at' (List.map vs M)) := ⟨_, rfl⟩
    have hmm : ∀ {j : Nat} {x : List Int}, m[j]? = some x → at' + j < R ∧ x = vs (nth M (at' + j)) := fun {j x} h => by
      have hj := (List.getElem?_eq_some_iff.1 h).1
      rw [hm, List.length_take, List.length_drop, List.length_map] at hj
      rw [hm, List.getElem?_take, if_pos (by omega), List.getElem?_drop, List.getElem?_map, gu3 (by omega)] at h
      exact ⟨by omega, (Option.some.inj h).symm⟩
    have hml : m.length = R - at' := by rw [hm, List.length_take, List.length_drop, List.length_map]; omega
    have hk : ∀ (bl b : Bool) (e : Nat), ∀ r ∈ m, o24 W 157 [.fz bl (.sl 2 0 1 (ivs r)), .fz b (.pt e [.v (.int .i64 c)])] [] = some (.x (.bool (decide (gi r c ≠ 0))), [], []) := fun bl b e r hr => by
      obtain ⟨j, hj⟩ := List.getElem?_of_mem hr
      obtain ⟨h2, rfl⟩ := hmm hj
      have := hrow (at' + j) h2
      rw [zw3 (by omega) (by omega), v86]; rfl
    have hix := fun bl nl b e => aj5 (bl := bl) (nl := nl) (nr := 2) (m := m) (k := 157) (b := b) (t := .pt e [.v (.int .i64 c)]) (p := fun r => decide (gi r c ≠ 0)) (hk bl b e) rfl (by omega)
    rcases nu4 (fun r => decide (gi r c ≠ 0)) 0 m with ⟨f1, f2⟩ | ⟨j, x, f1, f2, f3⟩
    · rw [f1, hm] at hix
      have I' := I.skip (by omega) (fun k h1 h2 => by
        have hmk : vs (nth M k) ∈ m := by
          refine List.mem_of_getElem? (i := k - at') ?_
          rw [hm, List.getElem?_take, if_pos (by omega), List.getElem?_drop, List.getElem?_map, gu3 (by omega), show at' + (k - at') = k by omega]; rfl
        have := f2 _ hmk
        rw [v86] at this
        have h3 : (ge (nth M k) c).v = 0 := by simpa using this
        exact r58.1 h3)
      obtain ⟨M', P', r1, r3⟩ := IH M P (by omega) I'
      refine ⟨M', P', r1, fun ks => ?_⟩
      have ih := r3 ks
      rw [Int.natCast_add, Int.natCast_one] at ih
      rw [← hat'] at hpn
      have hnn : ((M.length : Int) - (at' : Int)).toNat = R - at' := by omega
      rw [← ih, sb5 c138L2.eq_def]
      simp (disch := first | omega | fail) only [push_cast, seval, ui5, lu7, y81, bj9, wrap64, dec_lt, cw6, nl3, qc6, mr8, nb8, if_pos, if_neg, hpn, hnn, hix]
    · have hj := (List.getElem?_eq_some_iff.1 f2).1
      obtain ⟨hR1, rfl⟩ := hmm f2
      rw [f1, Nat.zero_add, hm] at hix
      obtain ⟨i, hi⟩ : ∃ i, i = at' + j := ⟨_, rfl⟩
      rw [← hi] at f3 hR1
      have hne : wf (nth M i) c ≠ 0 := fun e => by
        have h3 : gi (vs (nth M i)) c ≠ 0 := by simpa using f3
        rw [v86] at h3
        exact h3 (r58.2 e)
      have I' := qt5 I (by omega) (i := i) (by omega) (by omega) hne
      rw [← hat'] at I'
      have hscl : (sclM M at' i c).length = M.length := np1
      have hsrow := k39 (c := c) (M := M) (fun k hk => hrow k (by omega)) (at' := at') (i := i) (by omega) (by omega)
      have hin := gr3 (n0 := n0) (T5 := .sl 1 3 1 (ivs (pn P))) (M := sclM M at' i c) (R := R) (n := n) (c := c) (at' := at') (by omega) hR2 hn2 (fun k hk => hsrow k (by omega)) (by omega) (by omega) R 0 (by omega)
      obtain ⟨M', P', r1, r3⟩ := IH (clrM (sclM M at' i c) at' c) (P ++ [c]) (by omega) I'
      refine ⟨M', P', r1, fun ks => ?_⟩
      have ih := r3 ks
      rw [Int.natCast_add, Int.natCast_one] at ih
      rw [← hat'] at hpn
      have hia : (at' : Int) + (j : Int) = (i : Int) := by omega
      have hnn : ((M.length : Int) - (at' : Int)).toNat = R - at' := by omega
      have hla := hrow i (by omega)
      have hlb := hrow at' (by omega)
      have h2 := mla (nl := 2) (M := M) (i := i) (gu3 (by omega))
      have h3 := mla (nl := 2) (M := M) (i := at') (gu3 (by omega))
      have hswl : (swpM M at' i).length = M.length := p58
      have h4 := mla (nl := 2) (M := swpM M at' i) (i := at') (r := nth M i) (by rw [gu3 (by omega), fj6 (by omega) (by omega)])
      have h5 := iva (l := nth M i) (i := c) (by omega)
      have e2 := rl7 hne
      have hsc := fun b nl => em7 (b := b) (nl := nl) (c := FK.inv (wf (nth M i) c)) (r := nth M i) (by omega)
      have hs2 : (lls 2 ((swpM M at' i).map vs)).set at' (.sl 2 3 1 (ivs (vs (xf5 (FK.inv (wf (nth M i) c)) (nth M i))))) = lls 2 ((sclM M at' i c).map vs) := by unfold sclM; rw [y81, List.map_set]
      have hL : (lls 2 (M.map vs)).length = R := by rw [qf0, List.length_map]; exact hMl
      simp only [e2] at hsc
      rw [List.take_zero, List.nil_append, List.drop_zero] at hin
      simp only [Int.natCast_zero] at hin
      have hpush := aw7 P c
      have k3 : ((lls 2 ((swpM M at' i).map vs)).set at' Tree.junk)[at']? = some Tree.junk := List.getElem?_set_self (by rw [qf0, List.length_map]; omega)
      by_cases hii : i = at'
      · have k1 : ((lls 2 (M.map vs)).set at' Tree.junk)[at']? = some Tree.junk := List.getElem?_set_self (by omega)
        subst hii
        have k2 := aw4 (M := M) (i := i)
        rw [← ih, sb5 c138L2.eq_def]
        simp (disch := first | omega | fail) only [push_cast, seval, ui5, lu7, y81, bj9, wrap64, dec_lt, cw6, nl3, qc6, mr8, nb8, if_pos, if_neg, hpn, hnn, hix, hia, h3, k1, List.set_set, k2, k3, h4, h5, hsc, hs2, hscl]
        rw [hMl, hin]
        simp (disch := first | omega | fail) only [push_cast, seval, ui5, lu7, y81, bj9, wrap64, dec_lt, cw6, nl3, qc6, mr8, nb8, if_pos, if_neg, hpn, hpush]
      · have k1 : ((lls 2 (M.map vs)).set at' Tree.junk)[i]? = some (.sl 2 3 1 (ivs (vs (nth M i)))) := by rw [List.getElem?_set_ne (by omega)]; exact h2
        have k2 := vu3 (M := M) hii
        rw [← ih, sb5 c138L2.eq_def]
        simp (disch := first | omega | fail) only [push_cast, seval, ui5, lu7, y81, bj9, wrap64, dec_lt, cw6, nl3, qc6, mr8, nb8, if_pos, if_neg, hpn, hnn, hix, hia, h2, h3, k1, k2, k3, h4, h5, hsc, hs2, hscl, List.set_set]
        rw [hMl, hin]
        simp (disch := first | omega | fail) only [push_cast, seval, ui5, lu7, y81, bj9, wrap64, dec_lt, cw6, nl3, qc6, mr8, nb8, if_pos, if_neg, hpn, hpush]
theorem rm1 {P : List Nat} {n0 : Nat} (hR : M.length = R) (hR2 : R ≤ 1000) (hrow : ∀ k, k < R → (nth M k).length = n0 + 1) (hn2 : n0 ≤ 1000) (hP : P.length ≤ R) :
    ∀ (d k : Nat), P.length + k + d = R → ∀ ks,
      vgoL W ⟨h138, [.tmp 6, .tmp 7], 0⟩ [10, 11, 13, 135, 136, 137] c138L3 (.blk 6 [10, 11, 13] :: ks) [(10, .x (.int .i64 n0)), (11, .own 0 []), (13, .own 1 []), (135, .sub 0 [] 1 P.length (R - P.length)), (136, .x (.int .i64 ((R : Int) - (P.length : Int)))), (137, .x (.int .i64 k))] [.sl 0 23 1 (lls 2 (M.map vs)), .sl 1 3 1 (ivs (pn P))] =
        if ((M.drop (P.length + k)).any fun r => !decide ((wf r n0).v = 0)) = true then some (.tup [.x (.slice none 0 0), .x (.bool false)], [], []) else
        vgo W ⟨h138, [.tmp 6, .tmp 7], 0⟩ ks (VFr.of [(10, .x (.int .i64 n0)), (11, .own 0 []), (13, .own 1 [])]) [.sl 0 23 1 (lls 2 (M.map vs)), .sl 1 3 1 (ivs (pn P))]
  | 0, k, hk, ks => by
    rw [oh9 (by omega), if_neg (by simp), sb5 c138L3.eq_def]
    simp (disch := first | omega | fail) only [push_cast, seval, ui5, lu7, y81, bj9, wrap64, dec_lt, cw6, nl3, qc6, mr8, nb8, if_pos, if_neg]
  | d + 1, k, hk, ks => by
    have ih := rm1 hR hR2 hrow hn2 hP d (k + 1) (by omega) ks
    rw [Int.natCast_add, Int.natCast_one] at ih
    have h1 := mla (nl := 2) (M := M) (i := P.length + k) (gu3 (by omega))
    have h2 := iva (l := nth M (P.length + k)) (i := n0) (by rw [hrow _ (by omega)]; omega)
    have h3 := hrow (P.length + k) (by omega)
    by_cases hz : (wf (nth M (P.length + k)) n0).v = 0
    · have hz0 := r58.1 hz
      rw [ja2 (gu3 (by omega)), List.any_cons, decide_eq_true hz, Bool.not_true, Bool.false_or, show P.length + k + 1 = P.length + (k + 1) by omega, ← ih, sb5 c138L3.eq_def]
      simp (disch := first | omega | fail) only [push_cast, seval, ui5, lu7, y81, bj9, wrap64, dec_lt, cw6, nl3, qc6, mr8, nb8, if_pos, if_neg, h1, h2, h3, mr8 hz]
    · rw [ja2 (gu3 (by omega)), List.any_cons, decide_eq_false hz, Bool.not_false, Bool.true_or, if_pos rfl, sb5 c138L3.eq_def]
      simp (disch := first | omega | fail) only [push_cast, seval, ui5, lu7, y81, bj9, wrap64, dec_lt, cw6, nl3, qc6, mr8, nb8, if_pos, if_neg, h1, h2, h3, nb8 hz]
theorem wf6 {α : Type} {M : List (List α)} {P : List Nat} {k p : Nat} (hp : P[k]? = some p) (hk : k < M.length) : (outP M P)[k]? = some (p, nth M k) := by
  have h1 := (List.getElem?_eq_some_iff.1 hp).1
  unfold outP
  rw [List.getElem?_zip_eq_some]
  exact ⟨hp, by rw [List.getElem?_take, if_pos h1, gu3 hk]⟩
theorem u45 {P : List Nat} {n0 : Nat} (hR : M.length = R) (hR2 : R ≤ 1000) (hrow : ∀ k, k < R → (nth M k).length = n0 + 1) (hn2 : n0 ≤ 1000) (hP : P.length ≤ R) (hPn : ∀ p ∈ P, p < n0) :
    ∀ (d k : Nat) (x : List (El q)), k + d = P.length → x.length = n0 → ∀ ks,
      vgoL W ⟨h138, [.tmp 6, .tmp 7], 0⟩ [10, 11, 20, 149, 150, 151] c138L4 (.blk 8 [20] :: ks) [(10, .x (.int .i64 n0)), (11, .own 0 []), (20, .own 1 []), (149, .own 2 []), (150, .x (.int .i64 P.length)), (151, .x (.int .i64 k))] [.sl 0 23 1 (lls 2 (M.map vs)), .sl 0 3 1 (ivs (vs x)), .sl 1 3 1 (ivs (pn P))] =
        vgo W ⟨h138, [.tmp 6, .tmp 7], 0⟩ ks (VFr.of [(20, .own 1 [])]) [.sl 0 23 1 (lls 2 (M.map vs)), .sl 0 3 1 (ivs (vs (setP n0 ((outP M P).drop k) x))), .sl 1 3 1 (ivs (pn P))]
  | 0, k, x, hk, hx, ks => by
    have hol : (outP M P).length = P.length := by unfold outP; rw [List.length_zip, List.length_take]; omega
    rw [oh9 (by omega), setP, sb5 c138L4.eq_def]
    simp (disch := first | omega | fail) only [push_cast, seval, ui5, lu7, y81, bj9, wrap64, dec_lt, cw6, nl3, qc6, mr8, nb8, if_pos, if_neg]
  | d + 1, k, x, hk, hx, ks => by
    obtain ⟨p, hp⟩ := ge6 (l := P) (i := k) (by omega)
    have hpn := hPn p (List.mem_of_getElem? hp)
    have ho := wf6 (M := M) hp (by omega)
    have ih := u45 hR hR2 hrow hn2 hP hPn d (k + 1) (x.set p (wf (nth M k) n0)) (by omega) (by rw [List.length_set]; exact hx) ks
    rw [Int.natCast_add, Int.natCast_one] at ih
    have h1 := mla (nl := 2) (M := M) (i := k) (gu3 (by omega))
    have h2 := iva (l := nth M k) (i := n0) (by rw [hrow k (by omega)]; omega)
    have h3 : (ivs (pn P))[k]? = some (.v (.int .i64 p)) := iat (by unfold pn; rw [List.getElem?_map, hp]; rfl)
    have h4 := hrow k (by omega)
    have hs := g52 x p (wf (nth M k) n0)
    have hpl := im5 P
    rw [ja2 ho, setP, ← ih, sb5 c138L4.eq_def]
    simp (disch := first | omega | fail) only [push_cast, seval, ui5, lu7, y81, bj9, wrap64, dec_lt, cw6, nl3, qc6, mr8, nb8, if_pos, if_neg, h1, h2, h3, h4, hs, hpl]
theorem ub4 (hy : y.length = M.length) (hMl : ∀ r ∈ M, r.length = n) (hM0 : 0 < M.length) (hn0 : 0 < n) (hMn : M.length ≤ 500) (hN : n ≤ 900) :
    o24 W 138 [.x (.int .i64 q), .fz b (.sl nl 0 1 (lvs nr (M.map vs))), .fz b' (.sl nl' 0 1 (ivs (vs y)))] [] = match solR n M y with
      | none => some (.tup [.x (.slice none 0 0), .x (.bool false)], [], [])
      | some x => some (.tup [.own 0 [], .x (.bool true)], [.sl 0 3 1 (ivs (vs x))], []) := by
  have e1 := fun ks => gz1 (b := b) (b' := b') (nl := nl) (nl' := nl') (nr := nr) hy hMl hn0 hMn hN M.length 0 (by omega) ks
  rw [List.take_zero, List.nil_append] at e1
  simp only [Int.natCast_zero] at e1
  have haug := b28 hy
  obtain ⟨N', P, I, e2⟩ := wh0 (n := n + 1) (n0 := n) (M0 := augL M y) (R := M.length) haug hM0 (by omega) (by omega) (by omega) n 0 (augL M y) [] (by omega) (RedI.start (a86 hMl))
  obtain ⟨s1, s2⟩ := z55 hMl hy I
  have hNl : N'.length = M.length := by rw [I.len, haug]
  have hrow : ∀ k, k < M.length → (nth N' k).length = n + 1 := fun k hk => I.len_nth (by omega)
  have hpl := I.pl
  have e3 := fun ks => rm1 (M := N') (P := P) (n0 := n) hNl (by omega) hrow (by omega) (by omega) (M.length - P.length) 0 (by omega) ks
  have e4 := fun ks => u45 (M := N') (P := P) (n0 := n) hNl (by omega) hrow (by omega) (by omega) (fun p hp => I.lt p hp) P.length 0 (List.replicate n 0) (by omega) (by simp) ks
  rw [List.drop_zero] at e4
  simp only [Int.natCast_zero, Nat.add_zero] at e3 e4
  have hnil : ivs (pn []) = [] := rfl
  rw [hnil] at e2
  simp only [Int.natCast_zero] at e2
  obtain ⟨r0, hr0⟩ := ge6 (l := M) (i := 0) hM0
  have h0 := mva (nl := nr) hr0
  have hr0l := hMl r0 (List.mem_of_getElem? hr0)
  have hz := fc2 M.length
  have hz2 : List.replicate n (0 : Int) = vs (List.replicate n (0 : El q)) := by rw [← qj2]; rfl
  have hpnl := im5 P
  have hsub : ((M.length : Int) - (P.length : Int)).toNat = M.length - P.length := by omega
  rw [o10 rfl T138 rfl]
  unfold F138 c138
  simp (disch := first | omega | fail) only [push_cast, seval, ui5, lu7, y81, bj9, wrap64, dec_lt, cw6, nl3, qc6, mr8, nb8, if_pos, if_neg, h0, hr0l, hz]
  rw [e1]
  simp (disch := first | omega | fail) only [push_cast, seval, ui5, lu7, y81, bj9, wrap64, dec_lt, cw6, nl3, qc6, mr8, nb8, if_pos, if_neg]
  rw [e2]
  simp (disch := first | omega | fail) only [push_cast, seval, ui5, lu7, y81, bj9, wrap64, dec_lt, cw6, nl3, qc6, mr8, nb8, if_pos, if_neg, hpnl, hNl, hsub]
  rw [e3]
  have hiff : ((N'.drop P.length).any fun r => !decide ((wf r n).v = 0)) = true ↔ ∃ k, P.length ≤ k ∧ k < N'.length ∧ wf (nth N' k) n ≠ 0 := by
    rw [List.any_eq_true]
    constructor
    · rintro ⟨r, hr, hne⟩
      obtain ⟨i, hi⟩ := List.getElem?_of_mem hr
      rw [List.getElem?_drop] at hi
      refine ⟨P.length + i, by omega, (List.getElem?_eq_some_iff.1 hi).1, fun e => ?_⟩
      rw [xr8 hi] at e
      rw [decide_eq_true (r58.2 e)] at hne
      cases hne
    · rintro ⟨k, k1, k2, k3⟩
      refine ⟨nth N' k, List.mem_of_getElem? (i := k - P.length) (by rw [List.getElem?_drop, show P.length + (k - P.length) = k by omega, gu3 k2]), ?_⟩
      rw [decide_eq_false fun e => k3 (r58.1 e)]; rfl
  by_cases hex : ((N'.drop P.length).any fun r => !decide ((wf r n).v = 0)) = true
  · rw [if_pos hex, s1 (hiff.1 hex)]
  · rw [if_neg hex, s2 fun h => hex (hiff.2 h)]
    simp (disch := first | omega | fail) only [push_cast, seval, ui5, lu7, y81, bj9, wrap64, dec_lt, cw6, nl3, qc6, mr8, nb8, if_pos, if_neg, hz2, hpnl]
    rw [e4]
    simp (disch := first | omega | fail) only [push_cast, seval, ui5, lu7, y81, bj9, wrap64, dec_lt, cw6, nl3, qc6, mr8, nb8, if_pos, if_neg]
end
end Go.Proofs.Ytjpejkakodbchaa
namespace Go.Proofs.Ytjpejkakodbchaa
open Go.Am Go.Vm Go.Alg
section
variable {q : Int} {b b' : Bool} {nl nl' nr e : Nat}
theorem kd4 [IsFld q] (v : Int) : o24 W 137 [.x (.int .i64 v), .fz b (.pt e [pF q])] [] = some (.x (.bool (!fok q v)), [], []) := by
  rw [o10 rfl T137 rfl]
  unfold F137 c137
  simp (disch := first | omega | fail) only [push_cast, seval, ui5, lu7, y81, bj9, wrap64, dec_lt, cw6, nl3, qc6, mr8, nb8, if_pos, if_neg]
theorem s21 (h1 : matE q [] = 0) : o24 W 87 [.x (.int .i64 q), .fz b (.sl nl 0 1 []), .fz b' (.sl nl' 0 1 [])] [] = some (.tup [.x (.slice none 0 0), .x (.bool true), .x (.int .i64 0)], [], []) := by
  have e1 := fun b nl => or9 (q := q) (M := []) (b := b) (nl := nl) (nr := 0)
  simp only [em1, h1] at e1
  obtain ⟨⟨⟨p0, m0, g0, mod⟩, hn⟩, _⟩ := ou8 h1
  haveI : IsFld q := ⟨⟨p0, m0, g0, mod, hn⟩⟩
  have hf := fun bl nl b e => eg0 (nl := nl) (l := []) (bl := bl) (k := 137) (b := b) (t := .pt e [pF q]) kd4 rfl (by simp)
  simp only [lz6, List.any_nil] at hf
  rw [o10 rfl T87 rfl]
  unfold F87 c87
  simp (disch := first | omega | fail) only [push_cast, seval, ui5, lu7, y81, bj9, wrap64, dec_lt, cw6, nl3, qc6, mr8, nb8, if_pos, if_neg, e1, hf]
theorem zx6 [IsFld q] {M : List (List (El q))} {y : List (El q)} {n : Nat} (hy : y.length = M.length) (h0 : 0 < M.length) (hl : M.length ≤ 64) (hr : ∀ r ∈ M, r.length = n) (hn0 : 0 < n) (hn : n ≤ 64) :
    o24 W 87 [.x (.int .i64 q), .fz b (.sl nl 0 1 (lvs nr (M.map vs))), .fz b' (.sl nl' 0 1 (ivs (vs y)))] [] = match solR n M y with
      | none => some (.tup [.x (.slice none 0 0), .x (.bool false), .x (.int .i64 0)], [], [])
      | some x => some (.tup [.own 0 [], .x (.bool true), .x (.int .i64 0)], [.sl 0 3 1 (ivs (vs x))], []) := by
  have h1 := sy6 hl hr hn0 hn
  have e1 := fun b nl nr => or9 (q := q) (M := M.map vs) (b := b) (nl := nl) (nr := nr)
  simp only [h1] at e1
  have hf := fun bl nl b e => eg0 (nl := nl) (l := vs y) (bl := bl) (k := 137) (b := b) (t := .pt e [pF q]) kd4 rfl (by rw [fi2]; omega)
  have hany : ((vs y).any fun v => !fok q v) = false := List.any_eq_false.2 fun z hz => by
    obtain ⟨x, _, rfl⟩ := List.mem_map.1 hz
    rw [x.ok]; decide
  simp only [hany] at hf
  have e2 := fun b nl nr b' nl' => ub4 (b := b) (nl := nl) (nr := nr) (b' := b') (nl' := nl') hy hr h0 hn0 (by omega) (by omega)
  rw [o10 rfl T87 rfl]
  unfold F87 c87
  cases hs : solR n M y with
  | none =>
    simp only [hs] at e2
    simp (disch := first | omega | fail) only [push_cast, seval, ui5, lu7, y81, bj9, wrap64, dec_lt, cw6, nl3, qc6, mr8, nb8, if_pos, if_neg, e1, hf, e2, hy]
  | some x =>
    simp only [hs] at e2
    simp (disch := first | omega | fail) only [push_cast, seval, ui5, lu7, y81, bj9, wrap64, dec_lt, cw6, nl3, qc6, mr8, nb8, if_pos, if_neg, e1, hf, e2, hy]
end
section
variable {α : Type} {n : Nat}
end
section
variable {q : Int} [IsFld q] {b b' : Bool} {nl nl' nr : Nat} {M : List (List (El q))} {n : Nat}
end
section
variable {q : Int} {b b' : Bool} {nl nl' nr e : Nat}
end
end Go.Proofs.Ytjpejkakodbchaa
namespace Go.Proofs.Ytjpejkakodbchaa
open Go.Am Go.Vm Go.Alg
section
variable {b b' : Bool} {nl nl' nr nr' : Nat}
theorem ft0 {l k : List Int} (hl : l.length ≤ 9223372036854775807) (hk : k.length = l.length) : ∀ (d i : Nat), i + d = l.length → ∀ ks,
    vgoL W ⟨hNo, [.tmp 4], 0⟩ [0, 1, 5] c58L0 (.blk 0 [] :: ks) [(0, .fz b (.sl nl 0 1 (ivs l))), (1, .fz b' (.sl nl' 0 1 (ivs k))), (5, .x (.int .i64 i))] [] =
      if l.drop i = k.drop i then vgo W ⟨hNo, [.tmp 4], 0⟩ ks (VFr.of []) [] else some (.x (.bool false), [], [])
  | 0, i, hi, ks => by
    rw [oh9 (by omega), oh9 (by omega), if_pos rfl, sb5 c58L0.eq_def]
    simp (disch := first | omega | fail) only [push_cast, seval, ui5, lu7, y81, bj9, wrap64, dec_lt, cw6, nl3, qc6, mr8, nb8, if_pos, if_neg]
  | d + 1, i, hi, ks => by
    have ih := ft0 hl hk d (i + 1) (by omega) ks
    obtain ⟨a, ha⟩ := ge6 (l := l) (i := i) (by omega)
    obtain ⟨c, hc⟩ := ge6 (l := k) (i := i) (by omega)
    have h1 := iat ha
    have h2 := iat hc
    rw [ja2 ha, ja2 hc]
    rw [Int.natCast_add, Int.natCast_one] at ih
    by_cases h : a = c
    · have hiff : (a :: l.drop (i + 1) = c :: k.drop (i + 1)) = (l.drop (i + 1) = k.drop (i + 1)) := by rw [h]; simp
      simp only [hiff]
      rw [← ih, sb5 c58L0.eq_def]
      simp (disch := first | omega | fail) only [push_cast, seval, ui5, lu7, y81, bj9, wrap64, dec_lt, cw6, nl3, qc6, mr8, nb8, if_pos, if_neg, h1, h2, h]
    · rw [if_neg (by intro e; exact h (List.cons.inj e).1), sb5 c58L0.eq_def]
      simp (disch := first | omega | fail) only [push_cast, seval, ui5, lu7, y81, bj9, wrap64, dec_lt, cw6, nl3, qc6, mr8, nb8, if_pos, if_neg, h1, h2, nb8 h]
theorem nb2 {l k : List Int} (hl : l.length ≤ 9223372036854775807) : o24 W 58 [.fz b (.sl nl 0 1 (ivs l)), .fz b' (.sl nl' 0 1 (ivs k))] [] = some (.x (.bool (decide (l = k))), [], []) := by
  by_cases hk : k.length = l.length
  · have e := fun ks => ft0 (b := b) (b' := b') (nl := nl) (nl' := nl') hl hk l.length 0 (by omega) ks
    simp only [Int.natCast_zero, List.take_zero, List.drop_zero, rp2, lz6, x25, List.map_nil, List.length_nil] at e
    rw [o10 rfl T58 rfl]
    unfold F58 c58
    simp (disch := first | omega | fail) only [push_cast, seval, ui5, lu7, y81, bj9, wrap64, dec_lt, cw6, nl3, qc6, mr8, nb8, if_pos, if_neg, hk]
    rw [e]
    by_cases h : l = k
    · rw [if_pos h, decide_eq_true h]
      simp (disch := first | omega | fail) only [push_cast, seval, ui5, lu7, y81, bj9, wrap64, dec_lt, cw6, nl3, qc6, mr8, nb8, if_pos, if_neg]
    · rw [if_neg h, decide_eq_false h]
  · have h : ¬ l = k := fun e => hk (by rw [e])
    have h8 : ¬ (l.length : Int) = (k.length : Int) := by omega
    rw [decide_eq_false h, o10 rfl T58 rfl]
    unfold F58 c58
    simp (disch := first | omega | fail) only [push_cast, seval, ui5, lu7, y81, bj9, wrap64, dec_lt, cw6, nl3, qc6, mr8, nb8, if_pos, if_neg, nb8 h8]
theorem eb2 {l k : List Int} {e f : Int} (hl : l.length ≤ 9223372036854775807) : o24 W 35 [.fz b (.sl nl 0 1 (ivs l)), .x (.int .i64 e), .fz b' (.sl nl' 0 1 (ivs k)), .x (.int .i64 f)] [] = some (.x (.bool (if f = 0 then decide (e = 0) && decide (l = k) else decide (e = f) && decide (l.length = 0))), [], []) := by
  have h1 := fun b b' nl nl' => nb2 (b := b) (b' := b') (nl := nl) (nl' := nl') (k := k) hl
  by_cases hf : f = 0
  · rw [if_pos hf]
    by_cases h0 : e = 0
    · rw [decide_eq_true h0, Bool.true_and, o10 rfl T35 rfl]
      unfold F35 c35
      simp (disch := first | omega | fail) only [push_cast, seval, ui5, lu7, y81, bj9, wrap64, dec_lt, cw6, nl3, qc6, mr8, nb8, if_pos, if_neg, hf, h0, h1]
    · rw [decide_eq_false h0, Bool.false_and, o10 rfl T35 rfl]
      unfold F35 c35
      simp (disch := first | omega | fail) only [push_cast, seval, ui5, lu7, y81, bj9, wrap64, dec_lt, cw6, nl3, qc6, mr8, nb8, if_pos, if_neg, hf, nb8 h0]
  · rw [if_neg hf]
    by_cases h0 : e = f
    · subst h0
      rw [decide_eq_true rfl, Bool.true_and, o10 rfl T35 rfl]
      unfold F35 c35
      by_cases hz : l.length = 0
      · rw [decide_eq_true hz]
        simp (disch := first | omega | fail) only [push_cast, seval, ui5, lu7, y81, bj9, wrap64, dec_lt, cw6, nl3, qc6, mr8, nb8, if_pos, if_neg, nb8 hf, hz]
      · rw [decide_eq_false hz]
        simp (disch := first | omega | fail) only [push_cast, seval, ui5, lu7, y81, bj9, wrap64, dec_lt, cw6, nl3, qc6, mr8, nb8, if_pos, if_neg, nb8 hf]
    · rw [decide_eq_false h0, Bool.false_and, o10 rfl T35 rfl]
      unfold F35 c35
      simp (disch := first | omega | fail) only [push_cast, seval, ui5, lu7, y81, bj9, wrap64, dec_lt, cw6, nl3, qc6, mr8, nb8, if_pos, if_neg, nb8 hf, nb8 h0]
theorem ec0 {l : List (List Int)} (hl : l.length ≤ 9223372036854775807) : ∀ (d i : Nat) (n : Int), i + d = l.length → ∃ m : Int, ∀ (b : Bool) (nl nr : Nat) ks,
    vgoL W ⟨hNo, [.tmp 2], 0⟩ [0, 3, 4] c14L0 (.blk 0 [3] :: ks) [(0, .fz b (.sl nl 0 1 (lvs nr l))), (3, .x (.int .i64 n)), (4, .x (.int .i64 i))] [] = vgo W ⟨hNo, [.tmp 2], 0⟩ ks (VFr.of [(3, .x (.int .i64 m))]) []
  | 0, i, n, hi => by
    refine ⟨n, fun b nl nr ks => ?_⟩
    rw [sb5 c14L0.eq_def]
    simp (disch := first | omega | fail) only [push_cast, seval, ui5, lu7, y81, bj9, wrap64, dec_lt, cw6, nl3, qc6, mr8, nb8, if_pos, if_neg]
  | d + 1, i, n, hi => by
    obtain ⟨r, hr⟩ := ge6 (l := l) (i := i) (by omega)
    have h1 := fun nr => lat (nl := nr) hr
    by_cases hn : n ≤ 6000
    · obtain ⟨m, hm⟩ := ec0 hl d (i + 1) (IntKind.wrap .i64 (n + r.length)) (by omega)
      refine ⟨m, fun b nl nr ks => ?_⟩
      have ih := hm b nl nr ks
      rw [Int.natCast_add, Int.natCast_one] at ih
      rw [← ih, sb5 c14L0.eq_def]
      simp (disch := first | omega | fail) only [push_cast, seval, ui5, lu7, y81, bj9, wrap64, dec_lt, cw6, nl3, qc6, mr8, nb8, if_pos, if_neg, h1, nl3 hn]
    · refine ⟨n, fun b nl nr ks => ?_⟩
      rw [sb5 c14L0.eq_def]
      simp (disch := first | omega | fail) only [push_cast, seval, ui5, lu7, y81, bj9, wrap64, dec_lt, cw6, nl3, qc6, mr8, nb8, if_pos, if_neg, h1]
theorem tr6 {l : List (List Int)} (hl : l.length ≤ 9223372036854775807) : ∃ z : Bool, ∀ b nl nr, o24 W 14 [.fz b (.sl nl 0 1 (lvs nr l))] [] = some (.x (.bool z), [], []) := by
  obtain ⟨m, e⟩ := ec0 hl l.length 0 l.length (by omega)
  simp only [Int.natCast_zero] at e
  refine ⟨decide (6000 < m), fun b nl nr => ?_⟩
  rw [o10 rfl T14 rfl]
  unfold F14 c14
  simp (disch := first | omega | fail) only [push_cast, seval, ui5, lu7, y81, bj9, wrap64, dec_lt, cw6, nl3, qc6, mr8, nb8, if_pos, if_neg]
  rw [e]
  simp (disch := first | omega | fail) only [push_cast, seval, ui5, lu7, y81, bj9, wrap64, dec_lt, cw6, nl3, qc6, mr8, nb8, if_pos, if_neg]
section
variable {q : Int} [IsFld q]
theorem e85 {p m g : Int} {t : Tree} (u : RFo q p m g t) {l : List Int} (hl : l.length ≤ 9223372036854775807) : ∀ (d i : Nat), i + d = l.length → ∀ ks,
    vgoL W ⟨hNo, [.tmp 4], 0⟩ [1, 2, 5] c32L0 (.blk 0 [] :: ks) [(1, .fz b (.sl nl 0 1 (ivs l))), (2, .own 0 []), (5, .x (.int .i64 i))] [.pt 28 [.v (.int .i64 q), .v (.int .i64 p), .v (.int .i64 m), .v (.int .i64 g), .fz t]] =
      if ((l.drop i).any fun v => !fok q v) = true then some (.x (.bool false), [], []) else vgo W ⟨hNo, [.tmp 4], 0⟩ ks (VFr.of []) [.pt 28 [.v (.int .i64 q), .v (.int .i64 p), .v (.int .i64 m), .v (.int .i64 g), .fz t]]
  | 0, i, hi, ks => by
    rw [oh9 (by omega), if_neg (by simp), sb5 c32L0.eq_def]
    simp (disch := first | omega | fail) only [push_cast, seval, ui5, lu7, y81, bj9, wrap64, dec_lt, cw6, nl3, qc6, mr8, nb8, if_pos, if_neg]
  | d + 1, i, hi, ks => by
    have ih := e85 u hl d (i + 1) (by omega) ks
    obtain ⟨a, ha⟩ := ge6 (l := l) (i := i) (by omega)
    have h1 := iat ha
    rw [Int.natCast_add, Int.natCast_one] at ih
    have ht := u.n
    have ho := u.o
    have vhas := fun x : Int => xb9 (q := q) (x := x)
    rw [u.e] at vhas
    rw [ja2 ha, List.any_cons]
    cases h : fok q a with
    | true =>
      simp only [h, Bool.not_true, Bool.false_or]
      rw [← ih, sb5 c32L0.eq_def]
      simp (disch := first | omega | fail) only [push_cast, seval, ui5, lu7, y81, bj9, wrap64, dec_lt, cw6, nl3, qc6, mr8, nb8, if_pos, if_neg, h1, vhas, ht, ho, h]
    | false =>
      simp only [h, Bool.not_false, Bool.true_or, if_true]
      rw [sb5 c32L0.eq_def]
      simp (disch := first | omega | fail) only [push_cast, seval, ui5, lu7, y81, bj9, wrap64, dec_lt, cw6, nl3, qc6, mr8, nb8, if_pos, if_neg, h1, vhas, ht, ho, h]
theorem q18 {l : List Int} (hl : l.length ≤ 9223372036854775807) : o24 W 32 [.agg (rFs q), .fz b (.sl nl 0 1 (ivs l))] [] = some (.x (.bool (!(l.any fun v => !fok q v))), [], []) := by
  obtain ⟨p, m, g, t, u⟩ := k75 q
  have e := fun ks => e85 (b := b) (nl := nl) u hl l.length 0 (by omega) ks
  simp only [Int.natCast_zero, List.take_zero, List.drop_zero, rp2, lz6, x25, List.map_nil, List.length_nil] at e
  have ht := u.n
  rw [o10 rfl T32 rfl, u.e]
  unfold F32 c32
  simp (disch := first | omega | fail) only [push_cast, seval, ui5, lu7, y81, bj9, wrap64, dec_lt, cw6, nl3, qc6, mr8, nb8, if_pos, if_neg, ht]
  rw [e]
  cases (l.any fun v => !fok q v) with
  | true => rw [if_pos rfl]; rfl
  | false =>
    rw [if_neg (by decide)]
    simp (disch := first | omega | fail) only [push_cast, seval, ui5, lu7, y81, bj9, wrap64, dec_lt, cw6, nl3, qc6, mr8, nb8, if_pos, if_neg]
end
end
end Go.Proofs.Ytjpejkakodbchaa
namespace Go.Proofs.Ytjpejkakodbchaa
open Go.Am Go.Vm Go.Alg
section
variable {q p m g : Int} {t : Tree} {b : Bool} {nl nr : Nat} {M : List (List Int)}
theorem de8 [IsFld q] (u : RFo q p m g t) {i : Nat} {r : List Int} (hr : M[i]? = some r) (hrl : r.length ≤ 64) (hMl : M.length ≤ 64) :
    ∀ (n k : Nat), k + n = r.length → ∀ ks,
      vgoL W ⟨hNo, [.tmp 4], 0⟩ [1, 5, 7, 8] c15L0 (.blk 2 [1, 5, 7] :: ks) [(1, .fz b (.sl nl 0 1 (lvs nr M))), (5, .own 0 []), (7, .x (.int .i64 i)), (8, .x (.int .i64 k))] [.pt 28 [.v (.int .i64 q), .v (.int .i64 p), .v (.int .i64 m), .v (.int .i64 g), .fz t]] =
        if (r.drop k).any (fun v => !fok q v) = true then some (.x (.int .i64 2), [], []) else vgo W ⟨hNo, [.tmp 4], 0⟩ ks (VFr.of [(1, .fz b (.sl nl 0 1 (lvs nr M))), (5, .own 0 []), (7, .x (.int .i64 i))]) [.pt 28 [.v (.int .i64 q), .v (.int .i64 p), .v (.int .i64 m), .v (.int .i64 g), .fz t]]
  | 0, k, hk, ks => by
    have hi : i < M.length := (List.getElem?_eq_some_iff.1 hr).1
    have h0 := lat (nl := nr) hr
    rw [oh9 (by omega), if_neg (by simp), sb5 c15L0.eq_def]
    simp (disch := first | omega | fail) only [push_cast, seval, ui5, lu7, y81, bj9, wrap64, dec_lt, cw6, nl3, qc6, mr8, nb8, if_pos, if_neg, h0]
  | n + 1, k, hk, ks => by
    have ih := de8 u hr hrl hMl n (k + 1) (by omega) ks
    have hi : i < M.length := (List.getElem?_eq_some_iff.1 hr).1
    have h0 := lat (nl := nr) hr
    obtain ⟨a, ha⟩ := ge6 (l := r) (i := k) (by omega)
    have h1 := iat ha
    have ht := u.n
    have ho := u.o
    have vhas := fun x : Int => xb9 (q := q) (x := x)
    rw [u.e] at vhas
    rw [Int.natCast_add, Int.natCast_one] at ih
    rw [ja2 ha, List.any_cons]
    cases hf : fok q a with
    | true =>
      rw [Bool.not_true, Bool.false_or, ← ih, sb5 c15L0.eq_def]
      simp (disch := first | omega | fail) only [push_cast, seval, ui5, lu7, y81, bj9, wrap64, dec_lt, cw6, nl3, qc6, mr8, nb8, if_pos, if_neg, h0, h1, ht, ho, vhas, hf]
    | false =>
      rw [Bool.not_false, Bool.true_or, if_pos rfl, sb5 c15L0.eq_def]
      simp (disch := first | omega | fail) only [push_cast, seval, ui5, lu7, y81, bj9, wrap64, dec_lt, cw6, nl3, qc6, mr8, nb8, if_pos, if_neg, h0, h1, ht, ho, vhas, hf]
theorem qc1 [IsFld q] (u : RFo q p m g t) (hMl : M.length ≤ 64) {n0 : Nat} (hn0 : n0 = (nth M 0).length) :
    ∀ (d i : Nat), i + d = M.length → ∀ ks,
      vgoL W ⟨hNo, [.tmp 4], 0⟩ [1, 5, 7] c15L1 (.blk 0 [] :: ks) [(1, .fz b (.sl nl 0 1 (lvs nr M))), (5, .own 0 []), (7, .x (.int .i64 i))] [.pt 28 [.v (.int .i64 q), .v (.int .i64 p), .v (.int .i64 m), .v (.int .i64 g), .fz t]] =
        if wb9 q n0 (M.drop i) = 0 then vgo W ⟨hNo, [.tmp 4], 0⟩ ks (VFr.of []) [.pt 28 [.v (.int .i64 q), .v (.int .i64 p), .v (.int .i64 m), .v (.int .i64 g), .fz t]] else some (.x (.int .i64 (wb9 q n0 (M.drop i))), [], [])
  | 0, i, hi, ks => by
    rw [oh9 (by omega), wb9, if_pos rfl, sb5 c15L1.eq_def]
    simp (disch := first | omega | fail) only [push_cast, seval, ui5, lu7, y81, bj9, wrap64, dec_lt, cw6, nl3, qc6, mr8, nb8, if_pos, if_neg]
  | d + 1, i, hi, ks => by
    obtain ⟨r, hr⟩ := ge6 (l := M) (i := i) (by omega)
    obtain ⟨r0, hr0⟩ := ge6 (l := M) (i := 0) (by omega)
    have hr0l : r0.length = n0 := by rw [hn0, xr8 hr0]
    have h0 := lat (nl := nr) hr
    have h1 := lat (nl := nr) hr0
    have ih := qc1 u hMl hn0 d (i + 1) (by omega) ks
    rw [Int.natCast_add, Int.natCast_one] at ih
    rw [ja2 hr]
    by_cases hne : r.length = n0
    · by_cases hz : r.length = 0
      · have hrow : rowE q n0 r = 3 := by unfold rowE; rw [if_pos (.inr hz)]
        rw [kj7 hrow (by decide), if_neg (by decide), sb5 c15L1.eq_def]
        simp (disch := first | omega | fail) only [push_cast, seval, ui5, lu7, y81, bj9, wrap64, dec_lt, cw6, nl3, qc6, mr8, nb8, if_pos, if_neg, h0, h1, hr0l]
      · by_cases h64 : 64 < r.length
        · have hrow : rowE q n0 r = 4 := by unfold rowE; rw [if_neg (by omega), if_pos h64]
          rw [kj7 hrow (by decide), if_neg (by decide), sb5 c15L1.eq_def]
          simp (disch := first | omega | fail) only [push_cast, seval, ui5, lu7, y81, bj9, wrap64, dec_lt, cw6, nl3, qc6, mr8, nb8, if_pos, if_neg, h0, h1, hr0l]
        · have e := fun ks => de8 (b := b) (nl := nl) (nr := nr) u hr (by omega) hMl r.length 0 (by omega) ks
          simp only [Int.natCast_zero, List.take_zero, List.drop_zero, rp2, lz6, x25, List.map_nil, List.length_nil] at e
          cases hany : (r.any fun v => !fok q v) with
          | true =>
            have hrow : rowE q n0 r = 2 := by unfold rowE; rw [if_neg (by omega), if_neg h64, if_pos hany]
            rw [hany] at e
            rw [kj7 hrow (by decide), if_neg (by decide), sb5 c15L1.eq_def]
            simp (disch := first | omega | fail) only [push_cast, seval, ui5, lu7, y81, bj9, wrap64, dec_lt, cw6, nl3, qc6, mr8, nb8, if_pos, if_neg, h0, h1, hr0l]
            rw [e, if_pos rfl]
          | false =>
            have hrow : rowE q n0 r = 0 := by unfold rowE; rw [if_neg (by omega), if_neg h64, if_neg (by rw [hany]; decide)]
            rw [hany] at e
            rw [qf5 hrow, ← ih, sb5 c15L1.eq_def]
            simp (disch := first | omega | fail) only [push_cast, seval, ui5, lu7, y81, bj9, wrap64, dec_lt, cw6, nl3, qc6, mr8, nb8, if_pos, if_neg, h0, h1, hr0l]
            rw [e, if_neg (by decide)]
            simp (disch := first | omega | fail) only [push_cast, seval, ui5, lu7, y81, bj9, wrap64, dec_lt, cw6, nl3, qc6, mr8, nb8, if_pos, if_neg]
    · have hrow : rowE q n0 r = 3 := by unfold rowE; rw [if_pos (.inl hne)]
      have hne' : ¬ (r.length : Int) = (n0 : Int) := by omega
      rw [kj7 hrow (by decide), if_neg (by decide), sb5 c15L1.eq_def]
      simp (disch := first | omega | fail) only [push_cast, seval, ui5, lu7, y81, bj9, wrap64, dec_lt, cw6, nl3, qc6, mr8, nb8, if_pos, if_neg, h0, h1, hr0l, nb8 hne']
theorem rz8 {q : Int} : o24 W 15 [.x (.int .i64 q), .fz b (.sl nl 0 1 (lvs nr M))] [] = some (.x (.int .i64 (matE q M)), [], []) := by
  unfold matE
  cases hn : fldN q.toNat with
  | none =>
    have e1 := fg0 hn
    rw [o10 rfl T15 rfl]
    unfold F15 c15
    simp (disch := first | omega | fail) only [push_cast, seval, ui5, lu7, y81, bj9, wrap64, dec_lt, cw6, nl3, qc6, mr8, nb8, if_pos, if_neg, e1]
  | some x =>
    obtain ⟨p0, m0, g0, mod⟩ := x
    haveI : IsFld q := ⟨⟨p0, m0, g0, mod, hn⟩⟩
    obtain ⟨p, m, g, t, u⟩ := k75 q
    have ht := u.n
    have e0 : o24 W 16 [.x (.int .i64 q)] [] = _ := uw8
    rw [u.e] at e0
    simp only
    by_cases h64 : 64 < M.length
    · rw [if_pos h64, o10 rfl T15 rfl]
      unfold F15 c15
      simp (disch := first | omega | fail) only [push_cast, seval, ui5, lu7, y81, bj9, wrap64, dec_lt, cw6, nl3, qc6, mr8, nb8, if_pos, if_neg, e0, ht]
    · have e := fun ks => qc1 (M := M) (b := b) (nl := nl) (nr := nr) u (by omega) rfl M.length 0 (by omega) ks
      rw [if_neg h64, o10 rfl T15 rfl]
      simp only [Int.natCast_zero, List.take_zero, List.drop_zero, rp2, lz6, x25, List.map_nil, List.length_nil] at e
      unfold F15 c15
      simp (disch := first | omega | fail) only [push_cast, seval, ui5, lu7, y81, bj9, wrap64, dec_lt, cw6, nl3, qc6, mr8, nb8, if_pos, if_neg, e0, ht]
      rw [e]
      by_cases hr : wb9 q (nth M 0).length M = 0
      · rw [if_pos hr, hr]
        simp (disch := first | omega | fail) only [push_cast, seval, ui5, lu7, y81, bj9, wrap64, dec_lt, cw6, nl3, qc6, mr8, nb8, if_pos, if_neg]
      · rw [if_neg hr]
end
end Go.Proofs.Ytjpejkakodbchaa
namespace Go.Proofs.Ytjpejkakodbchaa
open Go.Am Go.Vm Go.Alg
section
variable {q n : Int} {nl nr : Nat} {M : List (List Int)}
end
end Go.Proofs.Ytjpejkakodbchaa
namespace Go.Proofs.Ytjpejkakodbchaa
open Go.Am Go.Vm Go.Alg
section
variable {q p m g : Int} [IsFld q] {t : Tree} {b b' : Bool} {nl nl' nr n7 n8 : Nat} {M : List (List (El q))} {A : List (Nat × List (El q))} {N : Nat}
end
end Go.Proofs.Ytjpejkakodbchaa
namespace Go.Proofs.Ytjpejkakodbchaa
open Go.Am Go.Vm Go.Alg
section
variable {l : List Int} {nl : Nat} {b : Bool} {x : Int}
end
end Go.Proofs.Ytjpejkakodbchaa
namespace Go.Proofs.Ytjpejkakodbchaa
open Go.Am Go.Vm Go.Alg
section
variable {q : Int} {b : Bool} {nl nr n6 n7 : Nat}
section
variable [IsFld q] {A : List (Nat × List (El q))} {N : Nat} {K : List (List Int)}
end
end
end Go.Proofs.Ytjpejkakodbchaa
namespace Go.Alg
section
variable {K : Type} [FK K] {n : Nat}
end
end Go.Alg
namespace Go.Proofs.Ytjpejkakodbchaa
open Go.Am Go.Vm Go.Alg
section
variable {q n : Int} {nl nr : Nat} {M : List (List Int)}
end
section
variable {q : Int} [IsFld q] {k nl nr : Nat} {N : List (List (El q))}
end
end Go.Proofs.Ytjpejkakodbchaa
namespace Go.Proofs.Ytjpejkakodbchaa
open Go.Am Go.Vm Go.Alg
section
variable {q n q' n' e : Int} {nl nr nl' nr' : Nat} {M M' : List (List Int)}
end
section
variable {q : Int} [IsFld q] {k nl nr nl2 : Nat} {b : Bool} {N : List (List (El q))} {M : List (List Int)} {w : List Int}
theorem vf9 (a : List (El q)) : ((vs a).any fun v => !fok q v) = false := List.any_eq_false.2 fun z hz => by
  obtain ⟨x, _, rfl⟩ := List.mem_map.1 hz
  rw [x.ok]; decide
def synL (D : List (List (El q))) (w : List (El q)) : List (El q) := D.map fun r => sumN r.length fun j => wf r j * wf w j
theorem js8 (D : List (List (El q))) (w : List (El q)) : (synL D w).length = D.length := by simp [synL]
end
end Go.Proofs.Ytjpejkakodbchaa
namespace Go.Proofs.Ytjpejkakodbchaa
open Go.Am Go.Vm Go.Alg
def evs (E : List (Int × Int)) : List Tree := E.flatMap fun e => [.v (.int .i64 e.1), .v (.int .i64 e.2)]
theorem xg6 (E : List (Int × Int)) : (evs E).length = 2 * E.length := by
  induction E with
  | nil => rfl
  | cons a E ih => unfold evs at ih ⊢; rw [List.flatMap_cons, List.length_append, ih, List.length_cons]; simp; omega
theorem k42 (E : List (Int × Int)) : (evs E).length / 2 = E.length := by rw [xg6]; omega
theorem pe5 : ∀ {E : List (Int × Int)} {i : Nat} {e : Int × Int}, E[i]? = some e → (evs E)[i * 2]? = some (.v (.int .i64 e.1)) ∧ (evs E)[i * 2 + 1]? = some (.v (.int .i64 e.2))
  | [], i, e, h => by simp at h
  | a :: E, 0, e, h => by
    have : a = e := by simpa using h
    subst this; exact ⟨rfl, rfl⟩
  | a :: E, i + 1, e, h => by
    have h1 : E[i]? = some e := by simpa using h
    have := pe5 h1
    have hc : evs (a :: E) = .v (.int .i64 a.1) :: .v (.int .i64 a.2) :: evs E := rfl
    rw [hc, show (i + 1) * 2 = i * 2 + 1 + 1 by omega, show i * 2 + 1 + 1 + 1 = (i * 2 + 1) + 1 + 1 by omega]
    exact this
def fvs (nl : Nat) (m : List (List Int)) : List Tree := m.map fun l => .fz (.sl nl 0 1 (ivs l))
@[push_cast] theorem lv3 (nl : Nat) (m : List (List Int)) : (fvs nl m).length = m.length := by simp [fvs]
@[push_cast] theorem iz0 (nl : Nat) (m : List (List Int)) : jj5 (fvs nl m) = lvs nl m := by
  rw [gz0]
  unfold fvs lvs
  rw [List.map_map]
  exact List.map_congr_left fun l _ => by show strip _ = _; rw [strip]
@[push_cast] theorem s84 (nl : Nat) (m : List (List Int)) (l : List Int) : fvs nl m ++ [.fz (.sl nl 0 1 (ivs l))] = fvs nl (m ++ [l]) := by unfold fvs; rw [List.map_append]; rfl
theorem g53 {nl : Nat} {m : List (List Int)} {i : Nat} {l : List Int} (h : m[i]? = some l) : (fvs nl m)[i]? = some (.fz (.sl nl 0 1 (ivs l))) := by
  unfold fvs; rw [List.getElem?_map, h]; rfl
def badG (n : Int) (e : Int × Int) : Bool := decide (e.1 < 0) || (decide (n ≤ e.2) || decide (e.2 ≤ e.1))
def netE (n : Int) (E : List (Int × Int)) : Int := if n < 2 ∨ 10 < n ∨ 24 < E.length then 4 else if E.any (badG n) = true then 10 else 0
def e43 (n : Int) (E : List (Int × Int)) (at' : Int) : Int := if netE n E = 0 then (if at' < 1 ∨ n ≤ at' then 10 else 0) else netE n E
section
variable {n : Int} {E : List (Int × Int)} {nl : Nat}
theorem rz4 (hE : E.length ≤ 24) : ∀ (d i : Nat), i + d = E.length → ∀ ks,
    vgoL W ⟨hNo, [.tmp 2], 0⟩ [1, 3] c93L0 (.blk 0 [] :: ks) [(1, .own 0 []), (3, .x (.int .i64 i))] [.pt 53 [.v (.int .i64 n), .fz (.sl nl 0 2 (evs E))]] =
      if (E.drop i).any (badG n) = true then some (.x (.int .i64 10), [], []) else vgo W ⟨hNo, [.tmp 2], 0⟩ ks (VFr.of []) [.pt 53 [.v (.int .i64 n), .fz (.sl nl 0 2 (evs E))]]
  | 0, i, hi, ks => by
    have hl := k42 E
    rw [oh9 (by omega), if_neg (by simp), sb5 c93L0.eq_def]
    simp (disch := first | omega | fail) only [push_cast, seval, ui5, lu7, y81, bj9, wrap64, dec_lt, cw6, nl3, qc6, mr8, nb8, if_pos, if_neg, hl]
  | d + 1, i, hi, ks => by
    have ih := rz4 hE d (i + 1) (by omega) ks
    obtain ⟨⟨a, b⟩, he⟩ := ge6 (l := E) (i := i) (by omega)
    obtain ⟨h1, h2⟩ := pe5 he
    have hl := k42 E
    have hl2 := xg6 E
    rw [Int.natCast_add, Int.natCast_one] at ih
    rw [ja2 he, List.any_cons]
    unfold badG
    by_cases c1 : a < 0
    · rw [decide_eq_true c1, Bool.true_or, Bool.true_or, if_pos rfl, sb5 c93L0.eq_def]
      simp (disch := first | omega | fail) only [push_cast, seval, ui5, lu7, y81, bj9, wrap64, dec_lt, cw6, nl3, qc6, mr8, nb8, if_pos, if_neg, hl, h1, h2, dec_lt c1]
    · by_cases c2 : n ≤ b
      · rw [decide_eq_true c2, Bool.true_or, Bool.or_true, Bool.true_or, if_pos rfl, sb5 c93L0.eq_def]
        simp (disch := first | omega | fail) only [push_cast, seval, ui5, lu7, y81, bj9, wrap64, dec_lt, cw6, nl3, qc6, mr8, nb8, if_pos, if_neg, hl, h1, h2, cw6 (Int.not_lt.1 c1), nl3 c2]
      · by_cases c3 : b ≤ a
        · rw [decide_eq_true c3, Bool.or_true, Bool.or_true, Bool.true_or, if_pos rfl, sb5 c93L0.eq_def]
          simp (disch := first | omega | fail) only [push_cast, seval, ui5, lu7, y81, bj9, wrap64, dec_lt, cw6, nl3, qc6, mr8, nb8, if_pos, if_neg, hl, h1, h2, cw6 (Int.not_lt.1 c1), qc6 (Int.not_le.1 c2), nl3 c3]
        · rw [decide_eq_false c1, decide_eq_false c2, decide_eq_false c3, Bool.false_or, Bool.false_or, Bool.false_or]
          unfold badG at ih
          rw [← ih, sb5 c93L0.eq_def]
          simp (disch := first | omega | fail) only [push_cast, seval, ui5, lu7, y81, bj9, wrap64, dec_lt, cw6, nl3, qc6, mr8, nb8, if_pos, if_neg, hl, h1, h2, cw6 (Int.not_lt.1 c1), qc6 (Int.not_le.1 c2), qc6 (Int.not_le.1 c3)]
theorem rx6 : o24 W 93 [.agg [.x (.int .i64 n), .fz true (.sl nl 0 2 (evs E))]] [] = some (.x (.int .i64 (netE n E)), [], []) := by
  have hl := k42 E
  unfold netE
  by_cases c1 : n < 2
  · rw [if_pos (.inl c1), o10 rfl T93 rfl]
    unfold F93 c93
    simp (disch := first | omega | fail) only [push_cast, seval, ui5, lu7, y81, bj9, wrap64, dec_lt, cw6, nl3, qc6, mr8, nb8, if_pos, if_neg, dec_lt c1]
  · by_cases c2 : 10 < n
    · rw [if_pos (.inr (.inl c2)), o10 rfl T93 rfl]
      unfold F93 c93
      simp (disch := first | omega | fail) only [push_cast, seval, ui5, lu7, y81, bj9, wrap64, dec_lt, cw6, nl3, qc6, mr8, nb8, if_pos, if_neg, cw6 (Int.not_lt.1 c1), dec_lt c2]
    · by_cases c3 : 24 < E.length
      · rw [if_pos (.inr (.inr c3)), o10 rfl T93 rfl]
        unfold F93 c93
        simp (disch := first | omega | fail) only [push_cast, seval, ui5, lu7, y81, bj9, wrap64, dec_lt, cw6, nl3, qc6, mr8, nb8, if_pos, if_neg, hl, cw6 (Int.not_lt.1 c1), cw6 (Int.not_lt.1 c2)]
      · have e := fun ks => rz4 (n := n) (E := E) (nl := nl) (by omega) E.length 0 (by omega) ks
        simp only [Int.natCast_zero, List.take_zero, List.drop_zero, rp2, lz6, x25, List.map_nil, List.length_nil] at e
        rw [if_neg (by omega), o10 rfl T93 rfl]
        unfold F93 c93
        simp (disch := first | omega | fail) only [push_cast, seval, ui5, lu7, y81, bj9, wrap64, dec_lt, cw6, nl3, qc6, mr8, nb8, if_pos, if_neg, hl, cw6 (Int.not_lt.1 c1), cw6 (Int.not_lt.1 c2)]
        rw [e]
        split
        · rfl
        · simp (disch := first | omega | fail) only [push_cast, seval, ui5, lu7, y81, bj9, wrap64, dec_lt, cw6, nl3, qc6, mr8, nb8, if_pos, if_neg]
theorem hu8 (hE : E.length ≤ 24) : ∀ (d i : Nat), i + d = E.length → ∀ ks,
    vgoL W ⟨hNo, [.tmp 2], 0⟩ [1, 20, 21, 22] c140L0 (.blk 0 [] :: ks) [(1, .own 0 []), (20, .fz true (.sl nl 0 2 (evs E))), (21, .x (.int .i64 E.length)), (22, .x (.int .i64 i))] [.pt 53 [.v (.int .i64 n), .fz (.sl nl 0 2 (evs E))]] =
      if (E.drop i).any (badG n) = true then some (.x (.int .i64 10), [], []) else vgo W ⟨hNo, [.tmp 2], 0⟩ ks (VFr.of []) [.pt 53 [.v (.int .i64 n), .fz (.sl nl 0 2 (evs E))]]
  | 0, i, hi, ks => by
    rw [oh9 (by omega), if_neg (by simp), sb5 c140L0.eq_def]
    simp (disch := first | omega | fail) only [push_cast, seval, ui5, lu7, y81, bj9, wrap64, dec_lt, cw6, nl3, qc6, mr8, nb8, if_pos, if_neg]
  | d + 1, i, hi, ks => by
    have ih := hu8 hE d (i + 1) (by omega) ks
    obtain ⟨⟨a, b⟩, he⟩ := ge6 (l := E) (i := i) (by omega)
    obtain ⟨h1, h2⟩ := pe5 he
    have hl2 := xg6 E
    rw [Int.natCast_add, Int.natCast_one] at ih
    rw [ja2 he, List.any_cons]
    unfold badG
    by_cases c1 : a < 0
    · rw [decide_eq_true c1, Bool.true_or, Bool.true_or, if_pos rfl, sb5 c140L0.eq_def]
      simp (disch := first | omega | fail) only [push_cast, seval, ui5, lu7, y81, bj9, wrap64, dec_lt, cw6, nl3, qc6, mr8, nb8, if_pos, if_neg, h1, h2, dec_lt c1]
    · by_cases c2 : n ≤ b
      · rw [decide_eq_true c2, Bool.true_or, Bool.or_true, Bool.true_or, if_pos rfl, sb5 c140L0.eq_def]
        simp (disch := first | omega | fail) only [push_cast, seval, ui5, lu7, y81, bj9, wrap64, dec_lt, cw6, nl3, qc6, mr8, nb8, if_pos, if_neg, h1, h2, cw6 (Int.not_lt.1 c1), nl3 c2]
      · by_cases c3 : b ≤ a
        · rw [decide_eq_true c3, Bool.or_true, Bool.or_true, Bool.true_or, if_pos rfl, sb5 c140L0.eq_def]
          simp (disch := first | omega | fail) only [push_cast, seval, ui5, lu7, y81, bj9, wrap64, dec_lt, cw6, nl3, qc6, mr8, nb8, if_pos, if_neg, h1, h2, cw6 (Int.not_lt.1 c1), qc6 (Int.not_le.1 c2), nl3 c3]
        · rw [decide_eq_false c1, decide_eq_false c2, decide_eq_false c3, Bool.false_or, Bool.false_or, Bool.false_or]
          unfold badG at ih
          rw [← ih, sb5 c140L0.eq_def]
          simp (disch := first | omega | fail) only [push_cast, seval, ui5, lu7, y81, bj9, wrap64, dec_lt, cw6, nl3, qc6, mr8, nb8, if_pos, if_neg, h1, h2, cw6 (Int.not_lt.1 c1), qc6 (Int.not_le.1 c2), qc6 (Int.not_le.1 c3)]
theorem x91 : o24 W 140 [.agg [.x (.int .i64 n), .fz true (.sl nl 0 2 (evs E))]] [] = some (.x (.int .i64 (netE n E)), [], []) := by
  have hl := k42 E
  unfold netE
  by_cases c1 : n < 2
  · rw [if_pos (.inl c1), o10 rfl T140 rfl]
    unfold F140 c140
    simp (disch := first | omega | fail) only [push_cast, seval, ui5, lu7, y81, bj9, wrap64, dec_lt, cw6, nl3, qc6, mr8, nb8, if_pos, if_neg, dec_lt c1]
  · by_cases c2 : 10 < n
    · rw [if_pos (.inr (.inl c2)), o10 rfl T140 rfl]
      unfold F140 c140
      simp (disch := first | omega | fail) only [push_cast, seval, ui5, lu7, y81, bj9, wrap64, dec_lt, cw6, nl3, qc6, mr8, nb8, if_pos, if_neg, cw6 (Int.not_lt.1 c1), dec_lt c2]
    · by_cases c3 : 24 < E.length
      · rw [if_pos (.inr (.inr c3)), o10 rfl T140 rfl]
        unfold F140 c140
        simp (disch := first | omega | fail) only [push_cast, seval, ui5, lu7, y81, bj9, wrap64, dec_lt, cw6, nl3, qc6, mr8, nb8, if_pos, if_neg, hl, cw6 (Int.not_lt.1 c1), cw6 (Int.not_lt.1 c2)]
      · have e := fun ks => hu8 (n := n) (E := E) (nl := nl) (by omega) E.length 0 (by omega) ks
        simp only [Int.natCast_zero, List.take_zero, List.drop_zero, rp2, lz6, x25, List.map_nil, List.length_nil] at e
        rw [if_neg (by omega), o10 rfl T140 rfl]
        unfold F140 c140
        simp (disch := first | omega | fail) only [push_cast, seval, ui5, lu7, y81, bj9, wrap64, dec_lt, cw6, nl3, qc6, mr8, nb8, if_pos, if_neg, hl, cw6 (Int.not_lt.1 c1), cw6 (Int.not_lt.1 c2)]
        rw [e]
        split
        · rfl
        · simp (disch := first | omega | fail) only [push_cast, seval, ui5, lu7, y81, bj9, wrap64, dec_lt, cw6, nl3, qc6, mr8, nb8, if_pos, if_neg]
theorem pf1 {to : Int} : o24 W 36 [.agg [.x (.int .i64 n), .fz true (.sl nl 0 2 (evs E))], .x (.int .i64 to)] [] = some (.x (.int .i64 (e43 n E to)), [], []) := by
  have e1 := fun nl => rx6 (n := n) (E := E) (nl := nl)
  unfold e43
  by_cases h : netE n E = 0
  · rw [h] at e1
    rw [if_pos h]
    by_cases c1 : to < 1
    · rw [if_pos (.inl c1), o10 rfl T36 rfl]
      unfold F36 c36
      simp (disch := first | omega | fail) only [push_cast, seval, ui5, lu7, y81, bj9, wrap64, dec_lt, cw6, nl3, qc6, mr8, nb8, if_pos, if_neg, e1, dec_lt c1]
    · by_cases c2 : n ≤ to
      · rw [if_pos (.inr c2), o10 rfl T36 rfl]
        unfold F36 c36
        simp (disch := first | omega | fail) only [push_cast, seval, ui5, lu7, y81, bj9, wrap64, dec_lt, cw6, nl3, qc6, mr8, nb8, if_pos, if_neg, e1, cw6 (Int.not_lt.1 c1), nl3 c2]
      · rw [if_neg (by omega), o10 rfl T36 rfl]
        unfold F36 c36
        simp (disch := first | omega | fail) only [push_cast, seval, ui5, lu7, y81, bj9, wrap64, dec_lt, cw6, nl3, qc6, mr8, nb8, if_pos, if_neg, e1, cw6 (Int.not_lt.1 c1), qc6 (Int.not_le.1 c2)]
  · rw [if_neg h, o10 rfl T36 rfl]
    unfold F36 c36
    simp (disch := first | omega | fail) only [push_cast, seval, ui5, lu7, y81, bj9, wrap64, dec_lt, cw6, nl3, qc6, mr8, nb8, if_pos, if_neg, e1, nb8 h]
theorem k29 {to : Int} : o24 W 95 [.agg [.x (.int .i64 n), .fz true (.sl nl 0 2 (evs E))], .x (.int .i64 to)] [] = some (.x (.int .i64 (e43 n E to)), [], []) := by
  have e1 := fun nl => x91 (n := n) (E := E) (nl := nl)
  unfold e43
  by_cases h : netE n E = 0
  · rw [h] at e1
    rw [if_pos h]
    by_cases c1 : to < 1
    · rw [if_pos (.inl c1), o10 rfl T95 rfl]
      unfold F95 c95
      simp (disch := first | omega | fail) only [push_cast, seval, ui5, lu7, y81, bj9, wrap64, dec_lt, cw6, nl3, qc6, mr8, nb8, if_pos, if_neg, e1, dec_lt c1]
    · by_cases c2 : n ≤ to
      · rw [if_pos (.inr c2), o10 rfl T95 rfl]
        unfold F95 c95
        simp (disch := first | omega | fail) only [push_cast, seval, ui5, lu7, y81, bj9, wrap64, dec_lt, cw6, nl3, qc6, mr8, nb8, if_pos, if_neg, e1, cw6 (Int.not_lt.1 c1), nl3 c2]
      · rw [if_neg (by omega), o10 rfl T95 rfl]
        unfold F95 c95
        simp (disch := first | omega | fail) only [push_cast, seval, ui5, lu7, y81, bj9, wrap64, dec_lt, cw6, nl3, qc6, mr8, nb8, if_pos, if_neg, e1, cw6 (Int.not_lt.1 c1), qc6 (Int.not_le.1 c2)]
  · rw [if_neg h, o10 rfl T95 rfl]
    unfold F95 c95
    simp (disch := first | omega | fail) only [push_cast, seval, ui5, lu7, y81, bj9, wrap64, dec_lt, cw6, nl3, qc6, mr8, nb8, if_pos, if_neg, e1, nb8 h]
end
end Go.Proofs.Ytjpejkakodbchaa
namespace Go.Proofs.Ytjpejkakodbchaa
open Go.Am Go.Vm Go.Alg
def selL {α : Type} (to : Int) : List (Int × Int) → List α → List α
  | e :: E, x :: M => if e.2 = to then x :: selL to E M else selL to E M
  | _, _ => []
section
variable {α β : Type} {to : Int}
theorem of7 : ∀ {E : List (Int × Int)} {M : List α} (E' : List (Int × Int)) (M' : List α), E.length = M.length → selL to (E ++ E') (M ++ M') = selL to E M ++ selL to E' M'
  | [], [], E', M', _ => rfl
  | [], _ :: _, _, _, h => by cases h
  | _ :: _, [], _, _, h => by cases h
  | e :: E, x :: M, E', M', h => by
    have ih := of7 E' M' (show E.length = M.length by simpa using h)
    rw [List.cons_append, List.cons_append, selL, selL, ih]
    split <;> rfl
theorem y52 (f : α → β) : ∀ (E : List (Int × Int)) (M : List α), selL to E (M.map f) = (selL to E M).map f
  | [], [] => rfl
  | [], _ :: _ => rfl
  | _ :: _, [] => rfl
  | e :: E, x :: M => by
    rw [List.map_cons, selL, selL, y52 f E M]
    split <;> rfl
theorem is4 : ∀ {E : List (Int × Int)} {M : List α} {x : α}, x ∈ selL to E M → x ∈ M
  | [], [], _, h => h
  | [], _ :: _, _, h => by cases h
  | _ :: _, [], _, h => by cases h
  | e :: E, y :: M, x, h => by
    rw [selL] at h
    split at h
    · rcases List.mem_cons.1 h with rfl | h
      · simp
      · exact List.mem_cons_of_mem _ (is4 h)
    · exact List.mem_cons_of_mem _ (is4 h)
theorem ep8 : ∀ {E : List (Int × Int)} {M : List α} {C : List β}, M.length = C.length → (selL to E M).length = (selL to E C).length
  | [], [], [], _ => rfl
  | [], _ :: _, _ :: _, _ => rfl
  | _ :: _, [], [], _ => rfl
  | _, _ :: _, [], h => by cases h
  | _, [], _ :: _, h => by cases h
  | e :: E, x :: M, c :: C, h => by
    have ih := ep8 (E := E) (show M.length = C.length by simpa using h)
    rw [selL, selL]
    split
    · rw [List.length_cons, List.length_cons, ih]
    · exact ih
theorem ef3 : ∀ (E : List (Int × Int)) (M : List α), (selL to E M).length ≤ M.length
  | [], [] => Nat.le_refl _
  | [], _ :: _ => Nat.zero_le _
  | _ :: _, [] => Nat.zero_le _
  | e :: E, x :: M => by
    have := ef3 E M
    rw [selL]
    split
    · rw [List.length_cons, List.length_cons]; omega
    · rw [List.length_cons]; omega
theorem ab7 {E : List (Int × Int)} {M : List α} (h : M.length = E.length) {i : Nat} {e : Int × Int} {x : α} (he : E[i]? = some e) (hx : M[i]? = some x) : selL to (E.take (i + 1)) (M.take (i + 1)) = if e.2 = to then selL to (E.take i) (M.take i) ++ [x] else selL to (E.take i) (M.take i) := by
  rw [List.take_add_one, List.take_add_one, he, hx, of7 _ _ (by simp [h])]
  show selL to (E.take i) (M.take i) ++ selL to [e] [x] = _
  rw [selL]
  split
  · rfl
  · show _ ++ [] = _
    rw [List.append_nil]
end
section
variable {q : Int} [IsFld q] {n to : Int} {E : List (Int × Int)} {nl nl' nr nr' nlv : Nat} {b b' : Bool}
theorem hh7 {M : List (List Int)} (hM : M.length = E.length) (hE : E.length ≤ 1000) : ∀ (d i : Nat), i + d = E.length → ∀ ks,
    vgoL W ⟨h94, [.tmp 8], 0⟩ [2, 3, 5, 9, 10] c94L0 (.blk 0 [9] :: ks) [(2, .fz true (.sl nlv 0 1 (lvs nr M))), (3, .x (.int .i64 to)), (5, .own 0 []), (9, .own 1 []), (10, .x (.int .i64 i))] [.pt 53 [.v (.int .i64 n), .fz (.sl nl 0 2 (evs E))], .sl 1 23 1 (fvs nr (selL to (E.take i) (M.take i)))] =
      vgo W ⟨h94, [.tmp 8], 0⟩ ks (VFr.of [(9, .own 1 [])]) [.pt 53 [.v (.int .i64 n), .fz (.sl nl 0 2 (evs E))], .sl 1 23 1 (fvs nr (selL to E M))]
  | 0, i, hi, ks => by
    have hl := k42 E
    rw [List.take_of_length_le (by omega), List.take_of_length_le (by omega), sb5 c94L0.eq_def]
    simp (disch := first | omega | fail) only [push_cast, seval, ui5, lu7, y81, bj9, wrap64, dec_lt, cw6, nl3, qc6, mr8, nb8, if_pos, if_neg, hl]
  | d + 1, i, hi, ks => by
    have ih := hh7 hM hE d (i + 1) (by omega) ks
    obtain ⟨⟨a, c⟩, he⟩ := ge6 (l := E) (i := i) (by omega)
    obtain ⟨r, hr⟩ := ge6 (l := M) (i := i) (by omega)
    obtain ⟨h1, h2⟩ := pe5 he
    have h3 := lat (nl := nr) hr
    have hl := k42 E
    have hl2 := xg6 E
    have hsl := ef3 (to := to) (E.take i) (M.take i)
    rw [List.length_take] at hsl
    rw [Int.natCast_add, Int.natCast_one, ab7 hM he hr] at ih
    by_cases hc : c = to
    · rw [if_pos hc] at ih
      rw [← ih, sb5 c94L0.eq_def]
      simp (disch := first | omega | fail) only [push_cast, seval, ui5, lu7, y81, bj9, wrap64, dec_lt, cw6, nl3, qc6, mr8, nb8, if_pos, if_neg, hl, h1, h2, h3, mr8 hc]
    · rw [if_neg hc] at ih
      rw [← ih, sb5 c94L0.eq_def]
      simp (disch := first | omega | fail) only [push_cast, seval, ui5, lu7, y81, bj9, wrap64, dec_lt, cw6, nl3, qc6, mr8, nb8, if_pos, if_neg, hl, h1, h2, nb8 hc]
theorem os7 {M : List (List Int)} (hM : M.length = E.length) (hE : E.length ≤ 1000) :
    o24 W 94 [.agg (rFs q), .agg [.x (.int .i64 n), .fz true (.sl nl 0 2 (evs E))], .fz true (.sl nlv 0 1 (lvs nr M)), .x (.int .i64 to)] [] = some (.own 0 [], [.sl 1 23 1 (fvs nr (selL to E M))], []) := by
  obtain ⟨p, m, g, t, u⟩ := k75 q
  have ht := u.n
  have ho := u.o
  have hfe := u.e
  have e := fun ks => hh7 (nlv := nlv) (nr := nr) (nl := nl) (n := n) (to := to) hM hE E.length 0 (by omega) ks
  rw [List.take_zero, List.take_zero, show selL to ([] : List (Int × Int)) ([] : List (List Int)) = [] from rfl, show fvs nr [] = [] from rfl] at e
  simp only [Int.natCast_zero, List.take_zero, List.drop_zero, rp2, lz6, x25, List.map_nil, List.length_nil] at e
  rw [hfe, o10 rfl T94 rfl]
  unfold F94 c94
  simp (disch := first | omega | fail) only [push_cast, seval, ui5, lu7, y81, bj9, wrap64, dec_lt, cw6, nl3, qc6, mr8, nb8, if_pos, if_neg, ht, ho]
  rw [e]
  simp (disch := first | omega | fail) only [push_cast, seval, ui5, lu7, y81, bj9, wrap64, dec_lt, cw6, nl3, qc6, mr8, nb8, if_pos, if_neg]
def r57 (k : Nat) (M : List (List (El q))) (y : List (El q)) : Option (List (El q)) := if M = [] then none else if (redR M).length < k then none else solR k M y
theorem aj4 (ufb : ∃ p m g t, RFo q p m g t) {c : List Int} (hc : c.length = E.length) (hE : E.length ≤ 1000) {T5 T12 : Tree} : ∀ (d i : Nat), i + d = E.length → ∀ ks,
    vgoL W ⟨h37, [.tmp 10, .tmp 11], 0⟩ [3, 4, 5, 6, 12, 13, 14] c37L0 (.blk 0 [5, 12, 13] :: ks) [(3, .fz b (.sl nl' 0 1 (ivs c))), (4, .x (.int .i64 to)), (5, .own 0 []), (6, .own 1 []), (12, .own 2 []), (13, .own 3 []), (14, .x (.int .i64 i))] [T5, .pt 53 [.v (.int .i64 n), .fz (.sl nl 0 2 (evs E))], T12, .sl 1 3 1 (ivs (selL to (E.take i) (c.take i)))] =
      vgo W ⟨h37, [.tmp 10, .tmp 11], 0⟩ ks (VFr.of [(5, .own 0 []), (12, .own 2 []), (13, .own 3 [])]) [T5, .pt 53 [.v (.int .i64 n), .fz (.sl nl 0 2 (evs E))], T12, .sl 1 3 1 (ivs (selL to E c))]
  | 0, i, hi, ks => by
    have hl := k42 E
    rw [List.take_of_length_le (by omega), List.take_of_length_le (by omega), sb5 c37L0.eq_def]
    simp (disch := first | omega | fail) only [push_cast, seval, ui5, lu7, y81, bj9, wrap64, dec_lt, cw6, nl3, qc6, mr8, nb8, if_pos, if_neg, hl]
  | d + 1, i, hi, ks => by
    have ih := aj4 ufb hc hE (T5 := T5) (T12 := T12) d (i + 1) (by omega) ks
    obtain ⟨⟨a, c2⟩, he⟩ := ge6 (l := E) (i := i) (by omega)
    obtain ⟨r, hr⟩ := ge6 (l := c) (i := i) (by omega)
    obtain ⟨h1, h2⟩ := pe5 he
    have h3 := iat hr
    have hl := k42 E
    have hl2 := xg6 E
    have hsl := ef3 (to := to) (E.take i) (c.take i)
    rw [List.length_take] at hsl
    rw [Int.natCast_add, Int.natCast_one, ab7 hc he hr] at ih
    by_cases hcc : c2 = to
    · rw [if_pos hcc] at ih
      rw [← ih, sb5 c37L0.eq_def]
      simp (disch := first | omega | fail) only [push_cast, seval, ui5, lu7, y81, bj9, wrap64, dec_lt, cw6, nl3, qc6, mr8, nb8, if_pos, if_neg, hl, h1, h2, h3, mr8 hcc]
    · rw [if_neg hcc] at ih
      rw [← ih, sb5 c37L0.eq_def]
      simp (disch := first | omega | fail) only [push_cast, seval, ui5, lu7, y81, bj9, wrap64, dec_lt, cw6, nl3, qc6, mr8, nb8, if_pos, if_neg, hl, h1, h2, nb8 hcc]
theorem g31 {N : List (List (El q))} {y : List (El q)} {k : Nat} (hN : N.length = E.length) (hy : y.length = E.length) (hE : E.length ≤ 64) (hr : ∀ r ∈ N, r.length = k) (hk0 : 0 < k) (hk : k ≤ 64) :
    o24 W 37 [.agg (rFs q), .agg [.x (.int .i64 n), .fz true (.sl nl 0 2 (evs E))], .fz true (.sl nlv 0 1 (lvs nr (N.map vs))), .fz b (.sl nl' 0 1 (ivs (vs y))), .x (.int .i64 to)] [] =
      match r57 k (selL to E N) (selL to E y) with
      | none => some (.tup [.x (.slice none 0 0), .x (.bool false)], [], [])
      | some x => some (.tup [.own 0 [], .x (.bool true)], [.sl 0 3 1 (ivs (vs x))], []) := by
  obtain ⟨p, m, g, t, u⟩ := k75 q
  have ht := u.n
  have ho := u.o
  have hfe := u.e
  have e1 := fun nl nlv nr => os7 (q := q) (n := n) (to := to) (E := E) (nl := nl) (nlv := nlv) (nr := nr) (M := N.map vs) (by rw [List.length_map, hN]) (by omega)
  rw [y52, hfe] at e1
  have e2 := fun T5 T12 ks => aj4 (q := q) (b := b) (nl := nl) (nl' := nl') (n := n) (to := to) ⟨p, m, g, t, u⟩ (c := vs y) (by rw [fi2, hy]) (by omega) (T5 := T5) (T12 := T12) E.length 0 (by omega) ks
  have hvy : selL to E (vs y) = vs (selL to E y) := y52 El.v E y
  rw [List.take_zero, List.take_zero, show selL to ([] : List (Int × Int)) ([] : List Int) = [] from rfl, hvy] at e2
  simp only [Int.natCast_zero, List.take_zero, List.drop_zero, rp2, lz6, x25, List.map_nil, List.length_nil] at e2
  have hSr : ∀ r ∈ selL to E N, r.length = k := fun r h => hr r (is4 h)
  have hSl := ef3 (to := to) E N
  have hSy : (selL to E y).length = (selL to E N).length := ep8 (by omega)
  generalize selL to E N = S at *
  generalize selL to E y = z at *
  unfold r57
  rw [hfe, o10 rfl T37 rfl]
  unfold F37 c37
  by_cases hS : S = []
  · subst hS
    rw [if_pos rfl]
    have h0 : ∀ nr, fvs nr (List.map vs ([] : List (List (El q)))) = [] := fun _ => rfl
    simp only [h0] at e1
    simp (disch := first | omega | fail) only [push_cast, seval, ui5, lu7, y81, bj9, wrap64, dec_lt, cw6, nl3, qc6, mr8, nb8, if_pos, if_neg, ht, ho, e1]
    rw [e2]
    simp (disch := first | omega | fail) only [push_cast, seval, ui5, lu7, y81, bj9, wrap64, dec_lt, cw6, nl3, qc6, mr8, nb8, if_pos, if_neg]
  · have hp : 0 < S.length := List.length_pos_iff.2 hS
    rw [if_neg hS]
    have e3 := fun b b' nl nl' nr => x97 (q := q) (b := b) (b' := b') (nl := nl) (nl' := nl') (nr := nr) (M := S) (y := z) (by omega) hSr hp (by omega) (by omega)
    have e4 := fun b nl nr => di6 (q := q) (b := b) (nl := nl) (nr := nr) hSr (by omega) (show k ≤ 1000 by omega)
    rw [hfe] at e3 e4
    obtain ⟨r0, hr0⟩ := ge6 (l := S) (i := 0) hp
    have h3 : (fvs nr (S.map vs))[0]? = some (.fz (.sl nr 0 1 (ivs (vs r0)))) := g53 (by rw [List.getElem?_map, hr0]; rfl)
    have h4 := hSr r0 (List.mem_of_getElem? hr0)
    have h5 := nu3 (redR S)
    cases hs : solR k S z with
    | none =>
      simp only [hs] at e3
      rw [ite_self]
      simp (disch := first | omega | fail) only [push_cast, seval, ui5, lu7, y81, bj9, wrap64, dec_lt, cw6, nl3, qc6, mr8, nb8, if_pos, if_neg, ht, ho, e1]
      rw [e2]
      simp (disch := first | omega | fail) only [push_cast, seval, ui5, lu7, y81, bj9, wrap64, dec_lt, cw6, nl3, qc6, mr8, nb8, if_pos, if_neg, ht, ho, e3, e4]
    | some x =>
      simp only [hs] at e3
      by_cases hrk : (redR S).length < k
      · rw [if_pos hrk]
        simp (disch := first | omega | fail) only [push_cast, seval, ui5, lu7, y81, bj9, wrap64, dec_lt, cw6, nl3, qc6, mr8, nb8, if_pos, if_neg, ht, ho, e1]
        rw [e2]
        simp (disch := first | omega | fail) only [push_cast, seval, ui5, lu7, y81, bj9, wrap64, dec_lt, cw6, nl3, qc6, mr8, nb8, if_pos, if_neg, ht, ho, e3, e4, h3, h4, h5]
      · rw [if_neg hrk]
        simp (disch := first | omega | fail) only [push_cast, seval, ui5, lu7, y81, bj9, wrap64, dec_lt, cw6, nl3, qc6, mr8, nb8, if_pos, if_neg, ht, ho, e1]
        rw [e2]
        simp (disch := first | omega | fail) only [push_cast, seval, ui5, lu7, y81, bj9, wrap64, dec_lt, cw6, nl3, qc6, mr8, nb8, if_pos, if_neg, ht, ho, e3, e4, h3, h4, h5]
end
end Go.Proofs.Ytjpejkakodbchaa
namespace Go.Proofs.Ytjpejkakodbchaa
open Go.Am Go.Vm Go.Alg
def seqR : Nat → ACode → ACode
  | n + 1, .seq _ b => seqR n b
  | _, c => c
def gb2 (q : Int) (M : List (List Int)) (y : List Int) : Int := if matE q M = 0 then (if 0 < M.length ∧ y.length ≠ (nth M 0).length then 6 else if (y.any fun v => !fok q v) = true then 2 else 0) else matE q M
section
variable {q n to : Int} {E : List (Int × Int)} {nl nl' nr nr' nlv : Nat} {b b' : Bool}
theorem nn9 [IsFld q] {e : Nat} (v : Int) : o24 W 92 [.x (.int .i64 v), .fz b (.pt e [pF q])] [] = some (.x (.bool (!fok q v)), [], []) := by
  rw [o10 rfl T92 rfl]
  unfold F92 c92
  simp (disch := first | omega | fail) only [push_cast, seval, ui5, lu7, y81, bj9, wrap64, dec_lt, cw6, nl3, qc6, mr8, nb8, if_pos, if_neg]
theorem nf4 [IsFld q] {e : Nat} (v : Int) : o24 W 96 [.x (.int .i64 v), .fz b (.pt e [pF q])] [] = some (.x (.bool (!fok q v)), [], []) := by
  rw [o10 rfl T96 rfl]
  unfold F96 c96
  simp (disch := first | omega | fail) only [push_cast, seval, ui5, lu7, y81, bj9, wrap64, dec_lt, cw6, nl3, qc6, mr8, nb8, if_pos, if_neg]
theorem eq3 [IsFld q] {y : List Int} (h : ¬ (y.any fun v => !fok q v) = true) : ∃ a : List (El q), y = vs a := n39 fun z hz => by
  refine Classical.byContradiction fun h2 => h (List.any_eq_true.2 ⟨z, hz, ?_⟩)
  rw [Bool.not_eq_true] at h2
  rw [h2]; rfl
theorem c25 [IsFld q] {T9 T11 : Tree} {i : Nat} {D : List (List Int)} {r w : List (El q)} (hrl : r.length = w.length) (hw : w.length ≤ 1000) (hD : D.length ≤ 1000) : ∀ (d j : Nat), j + d = r.length → ∀ ks,
    vgoL W ⟨h34, [.tmp 6, .tmp 7], 0⟩ [2, 9, 11, 14, 43, 44, 45, 49, 50, 51] c34L0 (.blk 2 [2, 9, 11, 14, 43, 44, 45] :: ks) [(2, .fz b' (.sl nl' 0 1 (ivs (vs w)))), (9, .own 0 []), (11, .own 1 []), (14, .x (.int .i64 ((sumN j fun j => wf r j * wf w j).v))), (43, .fz b (.sl nl 0 1 (lvs nr D))), (44, .x (.int .i64 D.length)), (45, .x (.int .i64 i)), (49, .fz b (.sl nr 0 1 (ivs (vs r)))), (50, .x (.int .i64 r.length)), (51, .x (.int .i64 j))] [.pt 107 [.fz (pF q)], T11] =
      vgo W ⟨h34, [.tmp 6, .tmp 7], 0⟩ ks (VFr.of [(2, .fz b' (.sl nl' 0 1 (ivs (vs w)))), (9, .own 0 []), (11, .own 1 []), (14, .x (.int .i64 ((sumN r.length fun j => wf r j * wf w j).v))), (43, .fz b (.sl nl 0 1 (lvs nr D))), (44, .x (.int .i64 D.length)), (45, .x (.int .i64 i))]) [.pt 107 [.fz (pF q)], T11]
  | 0, j, hj, ks => by
    obtain rfl : j = r.length := by omega
    rw [sb5 c34L0.eq_def]
    simp (disch := first | omega | fail) only [push_cast, seval, ui5, lu7, y81, bj9, wrap64, dec_lt, cw6, nl3, qc6, mr8, nb8, if_pos, if_neg]
  | d + 1, j, hj, ks => by
    have ih := c25 (T9 := T9) (T11 := T11) (i := i) (D := D) hrl hw hD d (j + 1) (by omega) ks
    have h1 := iva (l := r) (i := j) (by omega)
    have h2 := iva (l := w) (i := j) (by omega)
    rw [Int.natCast_add, Int.natCast_one, cp9, on0, ym6] at ih
    rw [← ih, sb5 c34L0.eq_def]
    simp (disch := first | omega | fail) only [push_cast, seval, ui5, lu7, y81, bj9, wrap64, dec_lt, cw6, nl3, qc6, mr8, nb8, if_pos, if_neg, h1, h2, hrl]
theorem c83 [IsFld q] {D : List (List (El q))} {w : List (El q)} (hD : ∀ r ∈ D, r.length = w.length) (hw : w.length ≤ 1000) (hDl : D.length ≤ 1000) : ∀ (d i : Nat), i + d = D.length → ∀ ks,
    vgoL W ⟨h34, [.tmp 6, .tmp 7], 0⟩ [2, 9, 11, 43, 44, 45] c34L1 (.blk 0 [11] :: ks) [(2, .fz b' (.sl nl' 0 1 (ivs (vs w)))), (9, .own 0 []), (11, .own 1 []), (43, .fz b (.sl nl 0 1 (lvs nr (D.map vs)))), (44, .x (.int .i64 D.length)), (45, .x (.int .i64 i))] [.pt 107 [.fz (pF q)], .sl 1 3 1 (ivs (vs ((synL D w).take i)))] =
      vgo W ⟨h34, [.tmp 6, .tmp 7], 0⟩ ks (VFr.of [(11, .own 1 [])]) [.pt 107 [.fz (pF q)], .sl 1 3 1 (ivs (vs (synL D w)))]
  | 0, i, hi, ks => by
    rw [List.take_of_length_le (by rw [js8]; omega), sb5 c34L1.eq_def]
    simp (disch := first | omega | fail) only [push_cast, seval, ui5, lu7, y81, bj9, wrap64, dec_lt, cw6, nl3, qc6, mr8, nb8, if_pos, if_neg]
  | d + 1, i, hi, ks => by
    have ih := c83 hD hw hDl d (i + 1) (by omega) ks
    obtain ⟨r, hr⟩ := ge6 (l := D) (i := i) (by omega)
    have hrl := hD r (List.mem_of_getElem? hr)
    have h0 := mva (nl := nr) hr
    have hs := js8 D w
    have e := fun T11 ks => c25 (b := b) (b' := b') (nl := nl) (nl' := nl') (nr := nr) (T9 := .junk) (T11 := T11) (i := i) (D := D.map vs) hrl hw (by rw [List.length_map]; exact hDl) r.length 0 (by omega) ks
    rw [wr8, hd4, List.length_map] at e
    simp only [Int.natCast_zero, List.take_zero, List.drop_zero, rp2, lz6, x25, List.map_nil, List.length_nil] at e
    have hg : (synL D w)[i]? = some (sumN r.length fun j => wf r j * wf w j) := by unfold synL; rw [List.getElem?_map, hr]; rfl
    rw [Int.natCast_add, Int.natCast_one, List.take_add_one, hg, Option.toList_some, gq8, e55, rp2] at ih
    rw [← ih, sb5 c34L1.eq_def]
    simp (disch := first | omega | fail) only [push_cast, seval, ui5, lu7, y81, bj9, wrap64, dec_lt, cw6, nl3, qc6, mr8, nb8, if_pos, if_neg, h0]
    rw [e]
    simp (disch := first | omega | fail) only [push_cast, seval, ui5, lu7, y81, bj9, wrap64, dec_lt, cw6, nl3, qc6, mr8, nb8, if_pos, if_neg, hs]
theorem jj0 {M : List (List Int)} {y : List Int} (hy : y.length ≤ 9223372036854775807) (he : ¬ gb2 q M y = 0) :
    o24 W 34 [.x (.int .i64 q), .fz b (.sl nl 0 1 (lvs nr M)), .fz b' (.sl nl' 0 1 (ivs y))] [] = some (.tup [.own 0 [], .x (.int .i64 (gb2 q M y))], [.sl 1 3 1 []], []) := by
  have e1 := fun b nl nr => or9 (M := M) (q := q) (b := b) (nl := nl) (nr := nr)
  unfold gb2 at he ⊢
  by_cases h1 : matE q M = 0
  · rw [if_pos h1] at he ⊢
    rw [h1] at e1
    obtain ⟨⟨⟨p0, m0, g0, mod⟩, hn⟩, _⟩ := ou8 h1
    haveI : IsFld q := ⟨⟨p0, m0, g0, mod, hn⟩⟩
    have hf := fun bl nl b e => eg0 (nl := nl) (l := y) (bl := bl) (k := 92) (b := b) (t := .pt e [pF q]) nn9 rfl hy
    by_cases h2 : 0 < M.length ∧ y.length ≠ (nth M 0).length
    · rw [if_pos h2]
      obtain ⟨r0, hr0⟩ := ge6 (l := M) (i := 0) h2.1
      have h3 := lat (nl := nr) hr0
      have h4 := xr8 hr0
      have h5 := h2.1
      have h6 : ¬ (y.length : Int) = (r0.length : Int) := by have := h2.2; rw [h4] at this; omega
      rw [o10 rfl T34 rfl]
      unfold F34 c34
      simp (disch := first | omega | fail) only [push_cast, seval, ui5, lu7, y81, bj9, wrap64, dec_lt, cw6, nl3, qc6, mr8, nb8, if_pos, if_neg, e1, h3, h5, nb8 h6]
    · rw [if_neg h2] at he ⊢
      have h3 : (y.any fun v => !fok q v) = true := by
        refine Classical.byContradiction fun h => he (by rw [if_neg h])
      rw [h3] at hf
      rw [if_pos h3, o10 rfl T34 rfl]
      unfold F34 c34
      by_cases h5 : 0 < M.length
      · obtain ⟨r0, hr0⟩ := ge6 (l := M) (i := 0) h5
        have h6 := lat (nl := nr) hr0
        have h4 := xr8 hr0
        have h7 : (y.length : Int) = (r0.length : Int) := by rw [← h4]; exact congrArg _ (Classical.byContradiction fun h => h2 ⟨h5, h⟩)
        simp (disch := first | omega | fail) only [push_cast, seval, ui5, lu7, y81, bj9, wrap64, dec_lt, cw6, nl3, qc6, mr8, nb8, if_pos, if_neg, e1, h6, h5, h7, hf]
      · simp (disch := first | omega | fail) only [push_cast, seval, ui5, lu7, y81, bj9, wrap64, dec_lt, cw6, nl3, qc6, mr8, nb8, if_pos, if_neg, e1, h5, hf]
  · rw [if_neg h1, o10 rfl T34 rfl]
    unfold F34 c34
    simp (disch := first | omega | fail) only [push_cast, seval, ui5, lu7, y81, bj9, wrap64, dec_lt, cw6, nl3, qc6, mr8, nb8, if_pos, if_neg, e1, nb8 h1]
theorem k07 [IsFld q] {N : List (List (El q))} {y : List (El q)} (he : matE q (N.map vs) = 0) (hN : N.length ≤ 64) (hr : ∀ r ∈ N, r.length = y.length) (hy : N ≠ [] → y.length ≤ 64) (hy2 : y.length ≤ 9223372036854775807) :
    o24 W 34 [.x (.int .i64 q), .fz b (.sl nl 0 1 (lvs nr (N.map vs))), .fz b' (.sl nl' 0 1 (ivs (vs y)))] [] = some (.tup [.own 0 [], .x (.int .i64 0)], [.sl 1 3 1 (ivs (vs (synL N y)))], []) := by
  have e1 := fun b nl nr => or9 (M := N.map vs) (q := q) (b := b) (nl := nl) (nr := nr)
  rw [he] at e1
  have hf := fun bl nl b e => eg0 (nl := nl) (l := vs y) (bl := bl) (k := 92) (b := b) (t := .pt e [pF q]) nn9 rfl (by rw [fi2]; exact hy2)
  simp only [vf9] at hf
  by_cases h0 : N = []
  · subst h0
    have e1 := fun b nl => e1 b nl 0
    simp only [List.map_nil, em1] at e1
    rw [List.map_nil, em1, o10 rfl T34 rfl]
    unfold F34 c34
    simp (disch := first | omega | fail) only [push_cast, seval, ui5, lu7, y81, bj9, wrap64, dec_lt, cw6, nl3, qc6, mr8, nb8, if_pos, if_neg, e1, hf]
    rw [sb5 c34L1.eq_def]
    simp (disch := first | omega | fail) only [push_cast, seval, ui5, lu7, y81, bj9, wrap64, dec_lt, cw6, nl3, qc6, mr8, nb8, if_pos, if_neg]
    rfl
  · have hp : 0 < N.length := List.length_pos_iff.2 h0
    obtain ⟨r0, hr0⟩ := ge6 (l := N) (i := 0) hp
    have h3 := mva (nl := nr) hr0
    have h4 := hr r0 (List.mem_of_getElem? hr0)
    have e := fun ks => c83 (b := b) (b' := b') (nl := nl) (nl' := nl') (nr := nr) hr (by have := hy h0; omega) (by omega) N.length 0 (by omega) ks
    simp only [Int.natCast_zero, List.take_zero, List.drop_zero, rp2, lz6, x25, List.map_nil, List.length_nil] at e
    rw [o10 rfl T34 rfl]
    unfold F34 c34
    simp (disch := first | omega | fail) only [push_cast, seval, ui5, lu7, y81, bj9, wrap64, dec_lt, cw6, nl3, qc6, mr8, nb8, if_pos, if_neg, e1, hf, h3, h4]
    rw [e]
    simp (disch := first | omega | fail) only [push_cast, seval, ui5, lu7, y81, bj9, wrap64, dec_lt, cw6, nl3, qc6, mr8, nb8, if_pos, if_neg]
end
end Go.Proofs.Ytjpejkakodbchaa
namespace Go.Proofs.Ytjpejkakodbchaa
open Go.Am Go.Vm Go.Alg
def xh9 (q n : Int) (E : List (Int × Int)) (M : List (List Int)) (c : List Int) (to : Int) : Int := if e43 n E to = 0 then if matE q M = 0 then if M.length ≠ E.length ∨ c.length ≠ E.length then 6 else if (c.any fun v => !fok q v) = true then 2 else 0 else matE q M else e43 n E to
section
variable {q n to : Int} {E : List (Int × Int)} {nl nl' nr nr' nlv : Nat} {b b' : Bool}
theorem v52 {M : List (List Int)} {c : List Int} (hM : M.length = E.length) (hc : c.length = E.length) (hE : E.length ≤ 1000) : ∀ (d i : Nat), i + d = E.length → ∀ ks,
    vgoL W ⟨h38, [.tmp 10, .tmp 11], 0⟩ [0, 2, 3, 4, 16, 17, 60, 61, 62] c38L0 (.blk 0 [0, 16, 17] :: ks) [(0, .x (.int .i64 q)), (2, .fz true (.sl nlv 0 1 (lvs nr M))), (3, .fz b (.sl nl' 0 1 (ivs c))), (4, .x (.int .i64 to)), (16, .own 0 []), (17, .own 1 []), (60, .fz true (.sl nl 0 2 (evs E))), (61, .x (.int .i64 E.length)), (62, .x (.int .i64 i))] [.sl 1 23 1 (fvs nr (selL to (E.take i) (M.take i))), .sl 1 3 1 (ivs (selL to (E.take i) (c.take i)))] =
      vgo W ⟨h38, [.tmp 10, .tmp 11], 0⟩ ks (VFr.of [(0, .x (.int .i64 q)), (16, .own 0 []), (17, .own 1 [])]) [.sl 1 23 1 (fvs nr (selL to E M)), .sl 1 3 1 (ivs (selL to E c))]
  | 0, i, hi, ks => by
    rw [List.take_of_length_le (by omega), List.take_of_length_le (by omega), List.take_of_length_le (by omega), sb5 c38L0.eq_def]
    simp (disch := first | omega | fail) only [push_cast, seval, ui5, lu7, y81, bj9, wrap64, dec_lt, cw6, nl3, qc6, mr8, nb8, if_pos, if_neg]
  | d + 1, i, hi, ks => by
    have ih := v52 hM hc hE d (i + 1) (by omega) ks
    obtain ⟨⟨a, z⟩, he⟩ := ge6 (l := E) (i := i) (by omega)
    obtain ⟨r, hr⟩ := ge6 (l := M) (i := i) (by omega)
    obtain ⟨x, hx⟩ := ge6 (l := c) (i := i) (by omega)
    obtain ⟨h1, h2⟩ := pe5 he
    have h3 := lat (nl := nr) hr
    have h4 := iat hx
    have hl2 := xg6 E
    have hsl := ef3 (to := to) (E.take i) (M.take i)
    have hsl2 := ef3 (to := to) (E.take i) (c.take i)
    rw [List.length_take] at hsl hsl2
    rw [Int.natCast_add, Int.natCast_one, ab7 hM he hr, ab7 hc he hx] at ih
    by_cases hz : z = to
    · rw [if_pos hz, if_pos hz] at ih
      rw [← ih, sb5 c38L0.eq_def]
      simp (disch := first | omega | fail) only [push_cast, seval, ui5, lu7, y81, bj9, wrap64, dec_lt, cw6, nl3, qc6, mr8, nb8, if_pos, if_neg, h1, h2, h3, h4, mr8 hz]
    · rw [if_neg hz, if_neg hz] at ih
      rw [← ih, sb5 c38L0.eq_def]
      simp (disch := first | omega | fail) only [push_cast, seval, ui5, lu7, y81, bj9, wrap64, dec_lt, cw6, nl3, qc6, mr8, nb8, if_pos, if_neg, h1, h2, nb8 hz]
theorem de6 {M : List (List Int)} {c : List Int} (hc : c.length ≤ 9223372036854775807) (hM : M.length ≤ 9223372036854775807) (he : ¬ xh9 q n E M c to = 0) :
    o24 W 38 [.x (.int .i64 q), .agg [.x (.int .i64 n), .fz true (.sl nl 0 2 (evs E))], .fz true (.sl nlv 0 1 (lvs nr M)), .fz b (.sl nl' 0 1 (ivs c)), .x (.int .i64 to)] [] = some (.tup [.x (.slice none 0 0), .x (.int .i64 (xh9 q n E M c to))], [], []) := by
  have e1 := fun nl => k29 (n := n) (E := E) (nl := nl) (to := to)
  have e2 := fun b nl nr => or9 (M := M) (q := q) (b := b) (nl := nl) (nr := nr)
  have hl := k42 E
  unfold xh9 at he ⊢
  by_cases h1 : e43 n E to = 0
  · rw [if_pos h1] at he ⊢
    rw [h1] at e1
    by_cases h2 : matE q M = 0
    · rw [if_pos h2] at he ⊢
      rw [h2] at e2
      obtain ⟨⟨⟨p0, m0, g0, mod⟩, hn⟩, _⟩ := ou8 h2
      haveI : IsFld q := ⟨⟨p0, m0, g0, mod, hn⟩⟩
      by_cases h3 : M.length ≠ E.length ∨ c.length ≠ E.length
      · rw [if_pos h3, o10 rfl T38 rfl]
        unfold F38 c38
        by_cases h4 : M.length = E.length
        · have h5 : ¬ (c.length : Int) = (E.length : Int) := by omega
          simp (disch := first | omega | fail) only [push_cast, seval, ui5, lu7, y81, bj9, wrap64, dec_lt, cw6, nl3, qc6, mr8, nb8, if_pos, if_neg, e1, e2, hl, h4, nb8 h5]
        · have h5 : ¬ (M.length : Int) = (E.length : Int) := by omega
          simp (disch := first | omega | fail) only [push_cast, seval, ui5, lu7, y81, bj9, wrap64, dec_lt, cw6, nl3, qc6, mr8, nb8, if_pos, if_neg, e1, e2, hl, nb8 h5]
      · rw [if_neg h3] at he ⊢
        have h4 : M.length = E.length := by omega
        have h5 : c.length = E.length := by omega
        have hf := fun bl nl b e => eg0 (nl := nl) (l := c) (bl := bl) (k := 96) (b := b) (t := .pt e [pF q]) nf4 rfl hc
        have h6 : (c.any fun v => !fok q v) = true := by
          refine Classical.byContradiction fun h => he (by rw [if_neg h])
        rw [h6] at hf
        rw [if_pos h6, o10 rfl T38 rfl]
        unfold F38 c38
        simp (disch := first | omega | fail) only [push_cast, seval, ui5, lu7, y81, bj9, wrap64, dec_lt, cw6, nl3, qc6, mr8, nb8, if_pos, if_neg, e1, e2, hl, h4, h5, hf]
    · rw [if_neg h2, o10 rfl T38 rfl]
      unfold F38 c38
      simp (disch := first | omega | fail) only [push_cast, seval, ui5, lu7, y81, bj9, wrap64, dec_lt, cw6, nl3, qc6, mr8, nb8, if_pos, if_neg, e1, e2, nb8 h2]
  · rw [if_neg h1, o10 rfl T38 rfl]
    unfold F38 c38
    simp (disch := first | omega | fail) only [push_cast, seval, ui5, lu7, y81, bj9, wrap64, dec_lt, cw6, nl3, qc6, mr8, nb8, if_pos, if_neg, e1, nb8 h1]
theorem it4 [IsFld q] {N : List (List (El q))} {y : List (El q)} {k : Nat} (h1 : e43 n E to = 0) (h2 : matE q (N.map vs) = 0) (hN : N.length = E.length) (hy : y.length = E.length) (hE : E.length ≤ 64) (hr : ∀ r ∈ N, r.length = k) (hk0 : 0 < k) (hk : k ≤ 64) :
    o24 W 38 [.x (.int .i64 q), .agg [.x (.int .i64 n), .fz true (.sl nl 0 2 (evs E))], .fz true (.sl nlv 0 1 (lvs nr (N.map vs))), .fz b (.sl nl' 0 1 (ivs (vs y))), .x (.int .i64 to)] [] =
      match r57 k (selL to E N) (selL to E y) with
      | none => some (.tup [.x (.slice none 0 0), .x (.int .i64 9)], [], [])
      | some x => some (.tup [.own 0 [], .x (.int .i64 0)], [.sl 0 3 1 (ivs (vs x))], []) := by
  have e1 := fun nl => k29 (n := n) (E := E) (nl := nl) (to := to)
  have e2 := fun b nl nr => or9 (M := N.map vs) (q := q) (b := b) (nl := nl) (nr := nr)
  rw [h1] at e1
  rw [h2] at e2
  have hl := k42 E
  have hf := fun bl nl b e => eg0 (nl := nl) (l := vs y) (bl := bl) (k := 96) (b := b) (t := .pt e [pF q]) nf4 rfl (by rw [fi2]; omega)
  simp only [vf9] at hf
  have e3 := fun ks => v52 (q := q) (b := b) (nl := nl) (nl' := nl') (nr := nr) (nlv := nlv) (to := to) (M := N.map vs) (c := vs y) (by rw [List.length_map, hN]) (by rw [fi2, hy]) (by omega) E.length 0 (by omega) ks
  have hvy : selL to E (vs y) = vs (selL to E y) := y52 El.v E y
  rw [List.take_zero, List.take_zero, List.take_zero, show selL to ([] : List (Int × Int)) ([] : List Int) = [] from rfl, show selL to ([] : List (Int × Int)) ([] : List (List Int)) = [] from rfl, show fvs nr [] = [] from rfl, hvy, y52] at e3
  simp only [Int.natCast_zero, List.take_zero, List.drop_zero, rp2, lz6, x25, List.map_nil, List.length_nil] at e3
  have hSr : ∀ r ∈ selL to E N, r.length = k := fun r h => hr r (is4 h)
  have hSl := ef3 (to := to) E N
  have hSy : (selL to E y).length = (selL to E N).length := ep8 (by omega)
  generalize selL to E N = S at *
  generalize selL to E y = z at *
  unfold r57
  rw [o10 rfl T38 rfl]
  unfold F38 c38
  by_cases hS : S = []
  · subst hS
    have hz : z = [] := List.eq_nil_of_length_eq_zero (by simpa using hSy)
    subst hz
    have hm0 := sy6 (q := q) (N := []) (n := k) (by simp) (fun r hr => by cases hr) hk0 hk
    rw [List.map_nil] at hm0
    have e4 := fun b b' nl nl' => s21 (q := q) (b := b) (b' := b') (nl := nl) (nl' := nl') hm0
    have e5 := fun b nl => sz4 (q := q) (b := b) (nl := nl) hm0
    rw [if_pos rfl]
    have h0 : fvs nr (List.map vs ([] : List (List (El q)))) = [] := rfl
    have h00 : ivs (vs ([] : List (El q))) = [] := rfl
    rw [h0, h00] at e3
    simp (disch := first | omega | fail) only [push_cast, seval, ui5, lu7, y81, bj9, wrap64, dec_lt, cw6, nl3, qc6, mr8, nb8, if_pos, if_neg, e1, e2, hl, hN, hy, hf]
    rw [e3]
    simp (disch := first | omega | fail) only [push_cast, seval, ui5, lu7, y81, bj9, wrap64, dec_lt, cw6, nl3, qc6, mr8, nb8, if_pos, if_neg, e4, e5]
  · have hp : 0 < S.length := List.length_pos_iff.2 hS
    rw [if_neg hS]
    have e4 := fun b b' nl nl' nr => zx6 (q := q) (b := b) (b' := b') (nl := nl) (nl' := nl') (nr := nr) (M := S) (y := z) (by omega) hp (by omega) hSr hk0 hk
    have e5 := fun b nl nr => u33 (q := q) (b := b) (nl := nl) (nr := nr) (N := S) hp (by omega) hSr hk0 hk
    obtain ⟨r0, hr0⟩ := ge6 (l := S) (i := 0) hp
    have h3 : (fvs nr (S.map vs))[0]? = some (.fz (.sl nr 0 1 (ivs (vs r0)))) := g53 (by rw [List.getElem?_map, hr0]; rfl)
    have h4 := hSr r0 (List.mem_of_getElem? hr0)
    cases hs : solR k S z with
    | none =>
      simp only [hs] at e4
      rw [ite_self]
      simp (disch := first | omega | fail) only [push_cast, seval, ui5, lu7, y81, bj9, wrap64, dec_lt, cw6, nl3, qc6, mr8, nb8, if_pos, if_neg, e1, e2, hl, hN, hy, hf]
      rw [e3]
      simp (disch := first | omega | fail) only [push_cast, seval, ui5, lu7, y81, bj9, wrap64, dec_lt, cw6, nl3, qc6, mr8, nb8, if_pos, if_neg, e4, e5]
    | some x =>
      simp only [hs] at e4
      by_cases hrk : (redR S).length < k
      · rw [if_pos hrk]
        simp (disch := first | omega | fail) only [push_cast, seval, ui5, lu7, y81, bj9, wrap64, dec_lt, cw6, nl3, qc6, mr8, nb8, if_pos, if_neg, e1, e2, hl, hN, hy, hf]
        rw [e3]
        simp (disch := first | omega | fail) only [push_cast, seval, ui5, lu7, y81, bj9, wrap64, dec_lt, cw6, nl3, qc6, mr8, nb8, if_pos, if_neg, e4, e5, h3, h4]
      · rw [if_neg hrk]
        simp (disch := first | omega | fail) only [push_cast, seval, ui5, lu7, y81, bj9, wrap64, dec_lt, cw6, nl3, qc6, mr8, nb8, if_pos, if_neg, e1, e2, hl, hN, hy, hf]
        rw [e3]
        simp (disch := first | omega | fail) only [push_cast, seval, ui5, lu7, y81, bj9, wrap64, dec_lt, cw6, nl3, qc6, mr8, nb8, if_pos, if_neg, e4, e5, h3, h4]
end
end Go.Proofs.Ytjpejkakodbchaa
namespace Go.Proofs.Ytjpejkakodbchaa
open Go.Am Go.Vm Go.Alg
theorem nf5 {L : List Int} {e : Int} (hL : L.length ≤ 9223372036854775807) (he : e ≠ 0 → L = []) (b b' : Bool) (nl nl' : Nat) :
    o24 W 35 [.fz b (.sl nl 0 1 (ivs L)), .x (.int .i64 e), .fz b' (.sl nl' 0 1 (ivs L)), .x (.int .i64 e)] [] = some (.x (.bool true), [], []) := by
  rw [eb2 hL]
  by_cases h : e = 0
  · rw [if_pos h, decide_eq_true h, decide_eq_true rfl]; rfl
  · rw [if_neg h, he h, decide_eq_true rfl]; rfl
section
variable {q n to : Int} {E : List (Int × Int)} {nl nl' nr nr' nlv nlc : Nat} {b b' : Bool}
theorem q62 {M : List (List Int)} {y c : List Int} {L : List Int} {e : Int} {T : Tree} (hc : c.length ≤ 9223372036854775807) (hM : M.length ≤ 9223372036854775807)
    (hs : ∀ b b' nl nl' nr, o24 W 34 [.x (.int .i64 q), .fz b (.sl nl 0 1 (lvs nr M)), .fz b' (.sl nl' 0 1 (ivs y))] [] = some (.tup [.own 0 [], .x (.int .i64 e)], [.sl 1 3 1 (ivs L)], []))
    (hL : L.length ≤ 9223372036854775807) (he : e ≠ 0 → L = []) (hh : ¬ (e43 n E to = 0 ∧ matE q M = 0)) :
    vgo W ⟨h6, [.tmp 12], 0⟩ [.code (seqR 9 c6)] (VFr.of [(0, .x (.int .i64 q)), (2, .fz true (.sl nlv 0 1 (lvs nr M))), (3, .fz b (.sl nl' 0 1 (ivs y))), (4, .fz b' (.sl nlc 0 1 (ivs c))), (5, .x (.int .i64 to)), (7, .own 0 []), (13, .x (.int .i64 (matE q M))), (14, .own 1 []), (16, .x (.int .i64 e)), (17, .own 2 [])]) [.pt 53 [.v (.int .i64 n), .fz (.sl nl 0 2 (evs E))], T, .sl 1 3 1 (ivs L)] = some (.x (.bool true), [], []) := by
  have e1 := fun b b' nl nl' => nf5 hL he b b' nl nl'
  have e2 := fun nl => pf1 (n := n) (E := E) (nl := nl) (to := to)
  have e3 := fun nl nlv nr b nl' => de6 (q := q) (n := n) (E := E) (to := to) (nl := nl) (nlv := nlv) (nr := nr) (b := b) (nl' := nl') (M := M) (c := c) hc hM
  have e4 := fun e he b b' nl nl' => nf5 (L := []) (e := e) (by simp) he b b' nl nl'
  simp only [lz6] at e4
  unfold xh9 at e3
  unfold c6
  simp only [seqR]
  by_cases h1 : e43 n E to = 0
  · have h2 : ¬ matE q M = 0 := fun h => hh ⟨h1, h⟩
    simp only [h1, if_true, if_neg h2] at e3 e2
    have e3 := fun nl nlv nr b nl' => e3 nl nlv nr b nl' h2
    have e4 := e4 (matE q M) (fun _ => trivial)
    simp (disch := first | omega | fail) only [push_cast, seval, ui5, lu7, y81, bj9, wrap64, dec_lt, cw6, nl3, qc6, mr8, nb8, if_pos, if_neg, hs, e1, e2, e3, e4, nb8 h2]
  · simp only [if_neg h1] at e3
    have e3 := fun nl nlv nr b nl' => e3 nl nlv nr b nl' h1
    have e4 := e4 (e43 n E to) (fun _ => trivial)
    simp (disch := first | omega | fail) only [push_cast, seval, ui5, lu7, y81, bj9, wrap64, dec_lt, cw6, nl3, qc6, mr8, nb8, if_pos, if_neg, hs, e1, e2, e3, e4, nb8 h1]
theorem k13 [IsFld q] {p m g : Int} {t : Tree} (u : RFo q p m g t) {M : List (List Int)} {y c : List Int} {L : List Int} {e : Int} (hc : c.length ≤ 9223372036854775807) (hM : M.length ≤ 9223372036854775807) (hE : E.length ≤ 9223372036854775807)
    (hs : ∀ b b' nl nl' nr, o24 W 34 [.x (.int .i64 q), .fz b (.sl nl 0 1 (lvs nr M)), .fz b' (.sl nl' 0 1 (ivs y))] [] = some (.tup [.own 0 [], .x (.int .i64 e)], [.sl 1 3 1 (ivs L)], []))
    (hL : L.length ≤ 9223372036854775807) (he : e ≠ 0 → L = []) (h1 : e43 n E to = 0) (h2 : matE q M = 0) (hh : (M.length ≠ E.length ∨ c.length ≠ E.length) ∨ (c.any fun v => !fok q v) = true) :
    vgo W ⟨h6, [.tmp 12], 0⟩ [.code (seqR 9 c6)] (VFr.of [(0, .x (.int .i64 q)), (2, .fz true (.sl nlv 0 1 (lvs nr M))), (3, .fz b (.sl nl' 0 1 (ivs y))), (4, .fz b' (.sl nlc 0 1 (ivs c))), (5, .x (.int .i64 to)), (7, .own 0 []), (13, .x (.int .i64 0)), (14, .own 1 []), (16, .x (.int .i64 e)), (17, .own 2 [])]) [.pt 53 [.v (.int .i64 n), .fz (.sl nl 0 2 (evs E))], .pt 28 [.v (.int .i64 q), .v (.int .i64 p), .v (.int .i64 m), .v (.int .i64 g), .fz t], .sl 1 3 1 (ivs L)] = some (.x (.bool true), [], []) := by
  have e1 := fun b b' nl nl' => nf5 hL he b b' nl nl'
  have e2 := fun nl => pf1 (n := n) (E := E) (nl := nl) (to := to)
  have e3 := fun nl nlv nr b nl' => de6 (q := q) (n := n) (E := E) (to := to) (nl := nl) (nlv := nlv) (nr := nr) (b := b) (nl' := nl') (M := M) (c := c) hc hM
  have e4 := fun e he b b' nl nl' => nf5 (L := []) (e := e) (by simp) he b b' nl nl'
  simp only [lz6] at e4
  unfold xh9 at e3
  simp only [h1, h2, if_true] at e3 e2
  have ht := u.n
  have ho := u.o
  have hl := k42 E
  unfold c6
  simp only [seqR]
  by_cases h3 : M.length ≠ E.length ∨ c.length ≠ E.length
  · simp only [if_pos h3] at e3
    have e3 := fun nl nlv nr b nl' => e3 nl nlv nr b nl' (by decide)
    have e4 := e4 6 (fun _ => trivial)
    by_cases h4 : M.length = E.length
    · have h5 : ¬ (c.length : Int) = (E.length : Int) := by omega
      simp (disch := first | omega | fail) only [push_cast, seval, ui5, lu7, y81, bj9, wrap64, dec_lt, cw6, nl3, qc6, mr8, nb8, if_pos, if_neg, hs, e1, e2, e3, e4, hl, h4, nb8 h5, ht, ho]
    · have h5 : ¬ (M.length : Int) = (E.length : Int) := by omega
      simp (disch := first | omega | fail) only [push_cast, seval, ui5, lu7, y81, bj9, wrap64, dec_lt, cw6, nl3, qc6, mr8, nb8, if_pos, if_neg, hs, e1, e2, e3, e4, hl, nb8 h5, ht, ho]
  · have h6 : (c.any fun v => !fok q v) = true := hh.resolve_left h3
    simp only [if_neg h3, if_pos h6] at e3
    have e3 := fun nl nlv nr b nl' => e3 nl nlv nr b nl' (by decide)
    have e4 := e4 2 (fun _ => trivial)
    have h4 : M.length = E.length := by omega
    have h5 : c.length = E.length := by omega
    have e5 := fun b nl => q18 (q := q) (b := b) (nl := nl) (l := c) hc
    rw [h6, u.e] at e5
    simp (disch := first | omega | fail) only [push_cast, seval, ui5, lu7, y81, bj9, wrap64, dec_lt, cw6, nl3, qc6, mr8, nb8, if_pos, if_neg, hs, e1, e2, e3, e4, e5, hl, h4, h5, ht, ho, Bool.not_true]
theorem eh9 [IsFld q] {p m g : Int} {t : Tree} (u : RFo q p m g t) {N : List (List (El q))} {k : Nat} {y : List Int} {z : List (El q)} {L : List Int} {e : Int}
    (hs : ∀ b b' nl nl' nr, o24 W 34 [.x (.int .i64 q), .fz b (.sl nl 0 1 (lvs nr (N.map vs))), .fz b' (.sl nl' 0 1 (ivs y))] [] = some (.tup [.own 0 [], .x (.int .i64 e)], [.sl 1 3 1 (ivs L)], []))
    (hL : L.length ≤ 9223372036854775807) (he : e ≠ 0 → L = []) (h1 : e43 n E to = 0) (h2 : matE q (N.map vs) = 0) (hN : N.length = E.length) (hz : z.length = E.length) (hE : E.length ≤ 64) (hr : ∀ r ∈ N, r.length = k) (hk0 : 0 < k) (hk : k ≤ 64) :
    vgo W ⟨h6, [.tmp 12], 0⟩ [.code (seqR 9 c6)] (VFr.of [(0, .x (.int .i64 q)), (2, .fz true (.sl nlv 0 1 (lvs nr (N.map vs)))), (3, .fz b (.sl nl' 0 1 (ivs y))), (4, .fz b' (.sl nlc 0 1 (ivs (vs z)))), (5, .x (.int .i64 to)), (7, .own 0 []), (13, .x (.int .i64 0)), (14, .own 1 []), (16, .x (.int .i64 e)), (17, .own 2 [])]) [.pt 53 [.v (.int .i64 n), .fz (.sl nl 0 2 (evs E))], .pt 28 [.v (.int .i64 q), .v (.int .i64 p), .v (.int .i64 m), .v (.int .i64 g), .fz t], .sl 1 3 1 (ivs L)] = some (.x (.bool true), [], []) := by
  have e1 := fun b b' nl nl' => nf5 hL he b b' nl nl'
  have e2 := fun nl => pf1 (n := n) (E := E) (nl := nl) (to := to)
  have e3 := fun nl nlv nr b nl' => it4 (q := q) (n := n) (E := E) (to := to) (nl := nl) (nlv := nlv) (nr := nr) (b := b) (nl' := nl') (y := z) h1 h2 hN hz hE hr hk0 hk
  have e6 := fun nl nlv nr b nl' => g31 (q := q) (n := n) (E := E) (to := to) (nl := nl) (nlv := nlv) (nr := nr) (b := b) (nl' := nl') (y := z) hN hz hE hr hk0 hk
  have e4 := fun b b' nl nl' => nf5 (L := []) (e := 9) (by simp) (fun _ => rfl) b b' nl nl'
  simp only [lz6] at e4
  rw [h1] at e2
  have ht := u.n
  have ho := u.o
  have hl := k42 E
  have e5 := fun b nl => q18 (q := q) (b := b) (nl := nl) (l := vs z) (by rw [fi2]; omega)
  rw [vf9, u.e] at e5
  rw [u.e] at e6
  have hsl := ef3 (to := to) E N
  unfold c6
  simp only [seqR]
  cases hh : r57 k (selL to E N) (selL to E z) with
  | none =>
    simp only [hh] at e3 e6
    simp (disch := first | omega | fail) only [push_cast, seval, ui5, lu7, y81, bj9, wrap64, dec_lt, cw6, nl3, qc6, mr8, nb8, if_pos, if_neg, hs, e1, e2, e3, e4, e5, e6, hl, hN, hz, ht, ho, Bool.not_false]
  | some x =>
    simp only [hh] at e3 e6
    have hx : x.length ≤ 64 := by
      unfold r57 at hh
      split at hh
      · cases hh
      · split at hh
        · cases hh
        · have hSr : ∀ r ∈ selL to E N, r.length = k := fun r h => hr r (is4 h)
          have := (l11 hSr (ep8 (by omega)) hh).1
          omega
    have e7 := fun b b' nl nl' => nf5 (L := vs x) (e := 0) (by rw [fi2]; omega) (fun h => absurd rfl h) b b' nl nl'
    simp (disch := first | omega | fail) only [push_cast, seval, ui5, lu7, y81, bj9, wrap64, dec_lt, cw6, nl3, qc6, mr8, nb8, if_pos, if_neg, hs, e1, e2, e3, e7, e5, e6, hl, hN, hz, ht, ho, Bool.not_false]
end
end Go.Proofs.Ytjpejkakodbchaa
namespace Go.Proofs.Ytjpejkakodbchaa
open Go.Am Go.Vm Go.Alg
theorem e18 {q : Int} : ∀ {P N : List (List (El q))}, P.map vs = N.map vs → P = N
  | [], [], _ => rfl
  | [], _ :: _, h => by cases h
  | _ :: _, [], h => by cases h
  | a :: P, b :: N, h => by
    rw [List.map_cons, List.map_cons, List.cons.injEq] at h
    rw [qa5 h.1, e18 h.2]
section
variable {q n to : Int} {E : List (Int × Int)} {nl nl' nr nr' nlv nlc : Nat} {b b' : Bool}
theorem ue4 {M : List (List Int)} {y c : List Int} {e m : Int} (he : e ≠ 0) (hM : M.length ≤ 9223372036854775807) {T7 T14 T17 : Tree} (ks : List It) :
    vgoL W ⟨h6, [.tmp 12], 0⟩ [0, 2, 3, 4, 5, 7, 13, 14, 16, 17, 18] c6L0 (.blk 0 [0, 2, 3, 4, 5, 7, 13, 14, 16, 17] :: ks) [(0, .x (.int .i64 q)), (2, .fz true (.sl nlv 0 1 (lvs nr M))), (3, .fz b (.sl nl' 0 1 (ivs y))), (4, .fz b' (.sl nlc 0 1 (ivs c))), (5, .x (.int .i64 to)), (7, .own 0 []), (13, .x (.int .i64 m)), (14, .own 1 []), (16, .x (.int .i64 e)), (17, .own 2 []), (18, .x (.int .i64 0))] [T7, T14, T17] =
      vgo W ⟨h6, [.tmp 12], 0⟩ ks (VFr.of [(0, .x (.int .i64 q)), (2, .fz true (.sl nlv 0 1 (lvs nr M))), (3, .fz b (.sl nl' 0 1 (ivs y))), (4, .fz b' (.sl nlc 0 1 (ivs c))), (5, .x (.int .i64 to)), (7, .own 0 []), (13, .x (.int .i64 m)), (14, .own 1 []), (16, .x (.int .i64 e)), (17, .own 2 [])]) [T7, T14, T17] := by
  rw [sb5 c6L0.eq_def]
  by_cases h : 0 < M.length
  · simp (disch := first | omega | fail) only [push_cast, seval, ui5, lu7, y81, bj9, wrap64, dec_lt, cw6, nl3, qc6, mr8, nb8, if_pos, if_neg, nb8 he]
  · have h0 : M.length = 0 := by omega
    simp (disch := first | omega | fail) only [push_cast, seval, ui5, lu7, y81, bj9, wrap64, dec_lt, cw6, nl3, qc6, mr8, nb8, if_pos, if_neg, h0]
theorem p44 [IsFld q] {p m0 g : Int} {t : Tree} (u : RFo q p m0 g t) {N : List (List (El q))} {y : List (El q)} {c : List Int} {m : Int} (hN : N.length ≤ 1000) (hr : ∀ r ∈ N, r.length = y.length) (hy : N ≠ [] → y.length ≤ 1000) {T7 : Tree} : ∀ (d i : Nat), i + d = N.length → ∀ ks,
    vgoL W ⟨h6, [.tmp 12], 0⟩ [0, 2, 3, 4, 5, 7, 13, 14, 16, 17, 18] c6L0 (.blk 0 [0, 2, 3, 4, 5, 7, 13, 14, 16, 17] :: ks) [(0, .x (.int .i64 q)), (2, .fz true (.sl nlv 0 1 (lvs nr (N.map vs)))), (3, .fz b (.sl nl' 0 1 (ivs (vs y)))), (4, .fz b' (.sl nlc 0 1 (ivs c))), (5, .x (.int .i64 to)), (7, .own 0 []), (13, .x (.int .i64 m)), (14, .own 1 []), (16, .x (.int .i64 0)), (17, .own 2 []), (18, .x (.int .i64 i))] [T7, .pt 28 [.v (.int .i64 q), .v (.int .i64 p), .v (.int .i64 m0), .v (.int .i64 g), .fz t], .sl 1 3 1 (ivs (vs ((synL N y).take i)))] =
      vgo W ⟨h6, [.tmp 12], 0⟩ ks (VFr.of [(0, .x (.int .i64 q)), (2, .fz true (.sl nlv 0 1 (lvs nr (N.map vs)))), (3, .fz b (.sl nl' 0 1 (ivs (vs y)))), (4, .fz b' (.sl nlc 0 1 (ivs c))), (5, .x (.int .i64 to)), (7, .own 0 []), (13, .x (.int .i64 m)), (14, .own 1 []), (16, .x (.int .i64 0)), (17, .own 2 [])]) [T7, .pt 28 [.v (.int .i64 q), .v (.int .i64 p), .v (.int .i64 m0), .v (.int .i64 g), .fz t], .sl 1 3 1 (ivs (vs (synL N y)))]
  | 0, i, hi, ks => by
    rw [List.take_of_length_le (by rw [js8]; omega), sb5 c6L0.eq_def]
    simp (disch := first | omega | fail) only [push_cast, seval, ui5, lu7, y81, bj9, wrap64, dec_lt, cw6, nl3, qc6, mr8, nb8, if_pos, if_neg]
  | d + 1, i, hi, ks => by
    have ih := p44 (m := m) (c := c) u hN hr hy (T7 := T7) d (i + 1) (by omega) ks
    obtain ⟨r, hri⟩ := ge6 (l := N) (i := i) (by omega)
    have hrl := hr r (List.mem_of_getElem? hri)
    have hN0 : N ≠ [] := fun e => by rw [e] at hri; simp at hri
    have hyl := hy hN0
    have h0 := mva (nl := nr) hri
    have hs := js8 N y
    have e1 := fun b b' nl nl' => af6 (b := b) (b' := b') (nl := nl) (nl' := nl') (x := r) (o := y) hrl.symm (by omega)
    rw [u.e] at e1
    have ht := u.n
    have ho := u.o
    have hg : (synL N y)[i]? = some (sumN r.length fun j => wf r j * wf y j) := by unfold synL; rw [List.getElem?_map, hri]; rfl
    rw [Int.natCast_add, Int.natCast_one, List.take_add_one, hg, Option.toList_some, gq8, e55, rp2] at ih
    rw [← ih, sb5 c6L0.eq_def]
    simp (disch := first | omega | fail) only [push_cast, seval, ui5, lu7, y81, bj9, wrap64, dec_lt, cw6, nl3, qc6, mr8, nb8, if_pos, if_neg, h0, e1, hs, ht, ho]
theorem jb3 [IsFld q] {p m g : Int} {t : Tree} (u : RFo q p m g t) {N : List (List (El q))} {y c : List Int} {L : List Int} {e : Int} (hc : c.length ≤ 9223372036854775807) (hE : E.length ≤ 9223372036854775807)
    (hs : ∀ b b' nl nl' nr, o24 W 34 [.x (.int .i64 q), .fz b (.sl nl 0 1 (lvs nr (N.map vs))), .fz b' (.sl nl' 0 1 (ivs y))] [] = some (.tup [.own 0 [], .x (.int .i64 e)], [.sl 1 3 1 (ivs L)], []))
    (hL : L.length ≤ 9223372036854775807) (he : e ≠ 0 → L = []) (h2 : matE q (N.map vs) = 0) :
    vgo W ⟨h6, [.tmp 12], 0⟩ [.code (seqR 9 c6)] (VFr.of [(0, .x (.int .i64 q)), (2, .fz true (.sl nlv 0 1 (lvs nr (N.map vs)))), (3, .fz b (.sl nl' 0 1 (ivs y))), (4, .fz b' (.sl nlc 0 1 (ivs c))), (5, .x (.int .i64 to)), (7, .own 0 []), (13, .x (.int .i64 0)), (14, .own 1 []), (16, .x (.int .i64 e)), (17, .own 2 [])]) [.pt 53 [.v (.int .i64 n), .fz (.sl nl 0 2 (evs E))], .pt 28 [.v (.int .i64 q), .v (.int .i64 p), .v (.int .i64 m), .v (.int .i64 g), .fz t], .sl 1 3 1 (ivs L)] = some (.x (.bool true), [], []) := by
  obtain ⟨_, P, hP, hP1, hP2, hP3, hP4⟩ := ou8 h2
  have hPN : P = N := e18 hP.symm
  subst hPN
  by_cases h1 : e43 n E to = 0
  · by_cases hh : (P.length ≠ E.length ∨ c.length ≠ E.length) ∨ (c.any fun v => !fok q v) = true
    · exact k13 u hc (by rw [List.length_map]; omega) hE hs hL he h1 h2 (by rw [List.length_map]; exact hh)
    · obtain ⟨z, rfl⟩ := eq3 (q := q) (y := c) fun h => hh (.inr h)
      have a1 : P.length = E.length := by
        refine Classical.byContradiction fun h => hh (.inl (.inl h))
      have a2 : z.length = E.length := by
        rw [← fi2]
        refine Classical.byContradiction fun h => hh (.inl (.inr h))
      by_cases hP0 : P = []
      · exact eh9 (k := 1) u hs hL he h1 h2 a1 a2 (by omega) (fun r hr => by rw [hP0] at hr; cases hr) (by decide) (by decide)
      · exact eh9 (k := (nth P 0).length) u hs hL he h1 h2 a1 a2 (by omega) hP2 (by have := hP4 hP0; omega) hP3
  · have := q62 (q := q) (n := n) (to := to) (E := E) (nl := nl) (nl' := nl') (nr := nr) (nlv := nlv) (nlc := nlc) (b := b) (b' := b') (M := P.map vs) (y := y) (c := c) (L := L) (e := e) (T := .pt 28 [.v (.int .i64 q), .v (.int .i64 p), .v (.int .i64 m), .v (.int .i64 g), .fz t]) hc (by rw [List.length_map]; omega) hs hL he fun h => h1 h.1
    rw [h2] at this
    exact this
theorem tg9 {M : List (List Int)} {y c : List Int} (hM : M.length ≤ 9223372036854775807) (hy : y.length ≤ 9223372036854775807) (hc : c.length ≤ 9223372036854775807) (hE : E.length ≤ 9223372036854775807) :
    o24 W 6 [.x (.int .i64 q), .agg [.x (.int .i64 n), .fz true (.sl nl 0 2 (evs E))], .fz true (.sl nlv 0 1 (lvs nr M)), .fz b (.sl nl' 0 1 (ivs y)), .fz b' (.sl nlc 0 1 (ivs c)), .x (.int .i64 to)] [] = some (.x (.bool true), [], []) := by
  have hl := k42 E
  by_cases h200 : 200 < IntKind.wrap .i64 (IntKind.wrap .i64 ((E.length : Int) + (y.length : Int)) + (c.length : Int))
  · rw [o10 rfl T6 rfl]
    unfold F6 c6
    simp (disch := first | omega | fail) only [push_cast, seval, ui5, lu7, y81, bj9, wrap64, dec_lt, cw6, nl3, qc6, mr8, nb8, if_pos, if_neg, hl, dec_lt h200]
  · have h200' := cw6 (Int.not_lt.1 h200)
    obtain ⟨z, hz⟩ := tr6 (l := M) (by omega)
    cases z with
    | true =>
      rw [o10 rfl T6 rfl]
      unfold F6 c6
      simp (disch := first | omega | fail) only [push_cast, seval, ui5, lu7, y81, bj9, wrap64, dec_lt, cw6, nl3, qc6, mr8, nb8, if_pos, if_neg, hl, h200', hz]
    | false =>
      have e1 := fun b nl nr => rz8 (q := q) (M := M) (b := b) (nl := nl) (nr := nr)
      by_cases hm : matE q M = 0
      · obtain ⟨⟨⟨p0, m0, g0, mod⟩, hn⟩, N, rfl, hN1, hN2, hN3, hN4⟩ := ou8 hm
        haveI : IsFld q := ⟨⟨p0, m0, g0, mod, hn⟩⟩
        obtain ⟨p, m, g, t, u⟩ := k75 q
        have ht := u.n
        have ho := u.o
        have hfe := u.e
        rw [hm] at e1
        have e2 := fun b nl => q18 (q := q) (b := b) (nl := nl) (l := y) hy
        rw [hfe] at e2
        by_cases h6 : 0 < N.length ∧ y.length ≠ (nth (N.map vs) 0).length
        · have hse : gb2 q (N.map vs) y = 6 := by unfold gb2; rw [if_pos hm, if_pos (by rw [List.length_map]; exact h6)]
          have hs := fun b b' nl nl' nr => jj0 (q := q) (b := b) (b' := b') (nl := nl) (nl' := nl') (nr := nr) (M := N.map vs) (y := y) hy (by rw [hse]; decide)
          rw [hse] at hs
          have tail := jb3 (n := n) (to := to) (E := E) (nl := nl) (nl' := nl') (nr := nr) (nlv := nlv) (nlc := nlc) (b := b) (b' := b') (c := c) u hc (by omega) hs (by simp) (fun _ => rfl) hm
          have lp := fun T7 T14 T17 ks => ue4 (q := q) (to := to) (nl' := nl') (nr := nr) (nlv := nlv) (nlc := nlc) (b := b) (b' := b') (M := N.map vs) (y := y) (c := c) (e := 6) (m := 0) (by decide) hM (T7 := T7) (T14 := T14) (T17 := T17) ks
          obtain ⟨r0, hr0⟩ := ge6 (l := N) (i := 0) h6.1
          have h3 := mva (nl := nr) hr0
          have h4 := xr8 hr0
          have h5 := h6.1
          have h7 : ¬ (y.length : Int) = (r0.length : Int) := by have := h6.2; rw [kn4, h4] at this; omega
          rw [o10 rfl T6 rfl]
          unfold F6 c6
          simp (disch := first | omega | fail) only [push_cast, seval, ui5, lu7, y81, bj9, wrap64, dec_lt, cw6, nl3, qc6, mr8, nb8, if_pos, if_neg, hl, h200', hz, e1, hfe, ht, ho, h3, h5, nb8 h7]
          rw [lp]
          exact tail
        · have hrow : ∀ r ∈ N, r.length = (nth N 0).length := hN2
          have hlen : 0 < N.length → y.length = (nth N 0).length := fun h => by
            rw [← kn4]
            exact Classical.byContradiction fun e => h6 ⟨h, e⟩
          by_cases hany : (y.any fun v => !fok q v) = true
          · have hse : gb2 q (N.map vs) y = 2 := by unfold gb2; rw [if_pos hm, if_neg (by rw [List.length_map]; exact h6), if_pos hany]
            have hs := fun b b' nl nl' nr => jj0 (q := q) (b := b) (b' := b') (nl := nl) (nl' := nl') (nr := nr) (M := N.map vs) (y := y) hy (by rw [hse]; decide)
            rw [hse] at hs
            rw [hany] at e2
            have tail := jb3 (n := n) (to := to) (E := E) (nl := nl) (nl' := nl') (nr := nr) (nlv := nlv) (nlc := nlc) (b := b) (b' := b') (c := c) u hc (by omega) hs (by simp) (fun _ => rfl) hm
            have lp := fun T7 T14 T17 ks => ue4 (q := q) (to := to) (nl' := nl') (nr := nr) (nlv := nlv) (nlc := nlc) (b := b) (b' := b') (M := N.map vs) (y := y) (c := c) (e := 2) (m := 0) (by decide) hM (T7 := T7) (T14 := T14) (T17 := T17) ks
            rw [o10 rfl T6 rfl]
            unfold F6 c6
            by_cases h5 : 0 < N.length
            · obtain ⟨r0, hr0⟩ := ge6 (l := N) (i := 0) h5
              have h3 := mva (nl := nr) hr0
              have h4 := xr8 hr0
              have h7 : (r0.length : Int) = (y.length : Int) := by rw [hlen h5, h4]
              simp (disch := first | omega | fail) only [push_cast, seval, ui5, lu7, y81, bj9, wrap64, dec_lt, cw6, nl3, qc6, mr8, nb8, if_pos, if_neg, hl, h200', hz, e1, e2, hfe, ht, ho, h3, h5, h7, Bool.not_true]
              rw [lp]
              exact tail
            · simp (disch := first | omega | fail) only [push_cast, seval, ui5, lu7, y81, bj9, wrap64, dec_lt, cw6, nl3, qc6, mr8, nb8, if_pos, if_neg, hl, h200', hz, e1, e2, hfe, ht, ho, h5, Bool.not_true]
              rw [lp]
              exact tail
          · obtain ⟨a, rfl⟩ := eq3 (q := q) hany
            rw [vf9] at e2
            rw [fi2] at h200'
            have hrow2 : ∀ r ∈ N, r.length = a.length := fun r hr => by
              rw [hN2 r hr, ← hlen (List.length_pos_of_mem hr), fi2]
            have hal : N ≠ [] → a.length ≤ 64 := fun h => by
              have := hlen (List.length_pos_iff.2 h); rw [fi2] at this; omega
            have hs := fun b b' nl nl' nr => k07 (b := b) (b' := b') (nl := nl) (nl' := nl') (nr := nr) hm hN1 hrow2 hal (by rw [fi2] at hy; exact hy)
            have hsl := js8 N a
            have tail := jb3 (n := n) (to := to) (E := E) (nl := nl) (nl' := nl') (nr := nr) (nlv := nlv) (nlc := nlc) (b := b) (b' := b') (c := c) u hc (by omega) hs (by rw [fi2, hsl]; omega) (fun h => absurd rfl h) hm
            have lp := fun T7 ks => p44 (to := to) (nl' := nl') (nr := nr) (nlv := nlv) (nlc := nlc) (b := b) (b' := b') (c := c) (m := 0) u (by omega) hrow2 (fun h => by have := hal h; omega) (T7 := T7) N.length 0 (by omega) ks
            simp only [Int.natCast_zero, List.take_zero, List.drop_zero, rp2, lz6, x25, List.map_nil, List.length_nil] at lp
            rw [o10 rfl T6 rfl]
            unfold F6 c6
            by_cases h5 : 0 < N.length
            · obtain ⟨r0, hr0⟩ := ge6 (l := N) (i := 0) h5
              have h3 := mva (nl := nr) hr0
              have h4 := hrow2 r0 (List.mem_of_getElem? hr0)
              have h7 : (r0.length : Int) = (a.length : Int) := by rw [h4]
              simp (disch := first | omega | fail) only [push_cast, seval, ui5, lu7, y81, bj9, wrap64, dec_lt, cw6, nl3, qc6, mr8, nb8, if_pos, if_neg, hl, h200', hz, e1, e2, hfe, ht, ho, h3, h5, h7, Bool.not_false]
              rw [lp]
              exact tail
            · simp (disch := first | omega | fail) only [push_cast, seval, ui5, lu7, y81, bj9, wrap64, dec_lt, cw6, nl3, qc6, mr8, nb8, if_pos, if_neg, hl, h200', hz, e1, e2, hfe, ht, ho, h5, Bool.not_false]
              rw [lp]
              exact tail
      · have hse : gb2 q M y = matE q M := by unfold gb2; rw [if_neg hm]
        have hs := fun b b' nl nl' nr => jj0 (q := q) (b := b) (b' := b') (nl := nl) (nl' := nl') (nr := nr) (M := M) (y := y) hy (by rw [hse]; exact hm)
        rw [hse] at hs
        have lp := fun T7 T14 T17 ks => ue4 (q := q) (to := to) (nl' := nl') (nr := nr) (nlv := nlv) (nlc := nlc) (b := b) (b' := b') (M := M) (y := y) (c := c) (e := matE q M) (m := matE q M) hm hM (T7 := T7) (T14 := T14) (T17 := T17) ks
        have tail := fun T => q62 (n := n) (to := to) (E := E) (nl := nl) (nl' := nl') (nr := nr) (nlv := nlv) (nlc := nlc) (b := b) (b' := b') (T := T) (c := c) hc hM hs (by simp) (fun _ => rfl) fun h => hm h.2
        cases hn : fldN q.toNat with
        | none =>
          have e0 := fg0 hn
          rw [o10 rfl T6 rfl]
          unfold F6 c6
          simp (disch := first | omega | fail) only [push_cast, seval, ui5, lu7, y81, bj9, wrap64, dec_lt, cw6, nl3, qc6, mr8, nb8, if_pos, if_neg, hl, h200', hz, e1, e0, nb8 hm]
          rw [lp]
          exact tail _
        | some x =>
          obtain ⟨p0, m0, g0, mod⟩ := x
          haveI : IsFld q := ⟨⟨p0, m0, g0, mod, hn⟩⟩
          obtain ⟨p, m, g, t, u⟩ := k75 q
          have ht := u.n
          have ho := u.o
          have hfe := u.e
          rw [o10 rfl T6 rfl]
          unfold F6 c6
          simp (disch := first | omega | fail) only [push_cast, seval, ui5, lu7, y81, bj9, wrap64, dec_lt, cw6, nl3, qc6, mr8, nb8, if_pos, if_neg, hl, h200', hz, e1, hfe, ht, ho, nb8 hm]
          rw [lp]
          exact tail _
end
end Go.Proofs.Ytjpejkakodbchaa
namespace Go.Proofs.Ytjpejkakodbchaa
open Go.Am Go.Vm Go.Alg
section
variable {h : H} {l : List AV} {ws : List Value}
theorem a23 : Vm.VRL h [] (allZ h) (allZ h) [] [] := by rw [Vm.VRL]
theorem dp0 (r : Vm.VRL h [] (allZ h) (allZ h) l ws) (v : Value) : Vm.VRL h [] (allZ h) (allZ h) (.x v :: l) (v :: ws) := by
  rw [Vm.VRL]; exact ⟨v, ws, rfl, by rw [Vm.VR], r⟩
theorem qj4 {sa : Option Addr} {c : Nat} {zs : List Int} (hr : RdI h sa c zs) : ∀ o, sa.map (·.block) = some o → allZ h o := fun o ho => by
  rcases hr with ⟨rfl, _⟩ | ⟨_, o2, off, r2, rfl, h1, _⟩
  · cases ho
  · cases ho; exact h42 h1
theorem sk6 (r : Vm.VRL h [] (allZ h) (allZ h) l ws) {sa : Option Addr} {c : Nat} {zs : List Int} (hr : RdI h sa c zs) : Vm.VRL h [] (allZ h) (allZ h) (.fz true (.sl 2 0 1 (ivs zs)) :: l) (.slice sa zs.length c :: ws) := by
  rw [Vm.VRL]; exact ⟨_, ws, rfl, by rw [Vm.VR]; exact pd9 hr (qj4 hr), r⟩
theorem ds6 (r : Vm.VRL h [] (allZ h) (allZ h) l ws) {sa : Option Addr} {c : Nat} {m : List (List Int)} (hr : RdLL h sa c m) (hu : ss4 h 1 sa = true) : Vm.VRL h [] (allZ h) (allZ h) (.fz true (.sl 2 0 1 (lvs 2 m)) :: l) (.slice sa m.length c :: ws) := by
  rw [Vm.VRL]; exact ⟨_, ws, rfl, by rw [Vm.VR]; exact gl3 hr hu fun _ ho => ho, r⟩
end
end Go.Proofs.Ytjpejkakodbchaa
namespace Go.Am
theorem n61 {P : Program} {w : World} {base : Nat} {t : TypeId} {fs : Array Field} (ht : P.underlying t = some (.struct fs)) {cs : Array Value} (h : Value.okWide P w .any base t (.agg cs)) {ts : List TypeId} (hts : P.cellTypes P.depth t = some ts) (hl : cs.size = ts.length) {i : Nat} {v : Value} (hv : cs[i]? = some v) {u : TypeId} (hu : ts[i]? = some u) : Cell.okWide P w .any base u v := by
  simp only [Value.okWide, ht] at h
  obtain ⟨cs', h1, h2, ts', h3, h4, h5⟩ := h
  cases h1
  rw [hts] at h3
  cases h3
  obtain ⟨u', h6, h7⟩ := h5 i v hv
  have hi : i < ts.length := by rw [← hl]; exact (Array.getElem?_eq_some_iff.1 hv).1
  rw [Nat.mod_eq_of_lt hi, hu] at h6
  cases h6
  exact h7
theorem bm1 {P : Program} {w : World} {base : Nat} {t e : TypeId} {x : Addr} {len cap : Nat} (ht : P.underlying t = some (.slice e)) (h : Cell.okWide P w .any base t (.slice (some x) len cap)) : x.spot = none ∧ x.block < w.heap.size :=
  yk7 (base := base) ht (by simp only [Value.okWide, ht]; exact h)
section
variable {φ : Ren} {n : Nat} {v v' : Value}
theorem ql9 {a : Int} (h : VR φ n v v') (h1 : v.oneCell' = true) : VR φ n (.agg #[.int .i64 a, v]) (.agg #[.int .i64 a, v']) := by
  refine .agg _ _ rfl (fun i hi => ?_) fun i hi hi' => ?_
  · match i, hi with
    | 0, _ => rfl
    | 1, _ => exact h1
  · match i, hi with
    | 0, _ => exact .int .i64 a
    | 1, _ => exact h
end
def b25 (E : List (Int × Int)) : List Int := E.flatMap fun e => [e.1, e.2]
theorem au0 (E : List (Int × Int)) : (b25 E).length = 2 * E.length := by
  induction E with
  | nil => rfl
  | cons a E ih => unfold b25 at ih ⊢; rw [List.flatMap_cons, List.length_append, ih, List.length_cons]; simp; omega
def RoP (w : World) (a : Option Addr) (len cap : Nat) (E : List (Int × Int)) : Prop :=
  E.length = len ∧ ((a = none ∧ len = 0 ∧ cap = 0) ∨ ∃ x, a = some x ∧ x.spot = none ∧ x.block < w.heap.size ∧ len ≤ cap ∧ ∀ i, i < (b25 E).length → w.cell? (x.add i) = some (.int .i64 ((b25 E).getD i 0)))
def RdP (h : H) (sa : Option Addr) (c : Nat) (E : List (Int × Int)) : Prop :=
  (sa = none ∧ c = 0 ∧ E = []) ∨ (E.length ≤ c ∧ ∃ o r, sa = some ⟨o, 0, none⟩ ∧ h.row o = some r ∧ r.own = false ∧ r.cells = ints (b25 E))
theorem RdP.mono {h h' : H} {sa : Option Addr} {c : Nat} {E : List (Int × Int)} (hr : RdP h sa c E) (hp : h <+: h') : RdP h' sa c E := by
  rcases hr with h1 | ⟨h1, o, r, h2, h3, h4⟩
  · exact .inl h1
  · exact .inr ⟨h1, o, r, h2, by rw [m20 hp (h42 h3)]; exact h3, h4⟩
theorem ix4 {φ : Ren} {B : Nat} {h : H} {w : World} (hB : B = w.heap.size) (hh : HR φ B h w) {a : Option Addr} {len cap : Nat} {E : List (Int × Int)} (hw : RoP w a len cap E) (e : TypeId) :
    ∃ φ' h' sa, Ext φ h.length φ' ∧ h <+: h' ∧ HR φ' B h' w ∧ VR φ' h'.length (.slice sa len cap) (.slice a len cap) ∧ RdP h' sa cap E := by
  obtain ⟨hlen, hw⟩ := hw
  rcases hw with ⟨rfl, rfl, rfl⟩ | ⟨x, rfl, hs, hb, hl, hc⟩
  · exact ⟨φ, h, none, Ext.refl _ _, List.prefix_refl _, hh, .snil, .inl ⟨rfl, rfl, List.eq_nil_of_length_eq_zero hlen⟩⟩
  · have hrow : H.row (h ++ [.row ⟨ints (b25 E), e, 2, false⟩]) h.length = some ⟨ints (b25 E), e, 2, false⟩ := cv8
    refine ⟨φ.with h.length ⟨x.block, x.off, cap, 2, false⟩, h ++ [.row ⟨ints (b25 E), e, 2, false⟩], some ⟨h.length, 0, none⟩, Ext.with _ _ _, List.prefix_append _ _, hh.pushRo ⟨ints (b25 E), e, 2, false⟩ _ _ cap 2 rfl (by omega) ?_ ?_, ?_, .inr ⟨by omega, h.length, _, rfl, hrow, rfl, rfl⟩⟩
    · intro c hc'
      obtain ⟨z, _, rfl⟩ := List.mem_map.mp hc'
      rfl
    · intro i c hi
      unfold ints at hi
      rw [List.getElem?_map] at hi
      obtain ⟨z, hz1, rfl⟩ := Option.map_eq_some_iff.mp hi
      have hil := (List.getElem?_eq_some_iff.1 hz1).1
      have := hc i hil
      rw [ac6 hs] at this
      refine ⟨_, this, ?_⟩
      rw [List.getD_eq_getElem?_getD, hz1]
      exact .int .i64 z
    · have hv := VR.sl (φ := φ.with h.length ⟨x.block, x.off, cap, 2, false⟩) (n := (h ++ [Ob.row ⟨ints (b25 E), e, 2, false⟩]).length) h.length 0 len cap cap x.off (by simp) (Nat.le_refl _) (.inl (by rw [Ren.with_same]; rfl)) (by rw [Ren.with_same]; intro h; cases h)
      rw [Ren.with_same] at hv
      have hx : x = ⟨x.block, x.off, none⟩ := by obtain ⟨b, o, s⟩ := x; simp only at hs; subst hs; rfl
      rw [hx]
      exact hv
end Go.Am
namespace Go.Am
open Go.Deep Go.WideShapes Go.ChangeShapes
theorem ua2 : ∀ {E : List (Int × Int)} {j : Nat} {e : Int × Int}, E[j]? = some e → (b25 E)[j * 2]? = some e.1 ∧ (b25 E)[j * 2 + 1]? = some e.2
  | [], j, e, h => by simp at h
  | a :: E, 0, e, h => by
    have : a = e := by simpa using h
    subst this; exact ⟨rfl, rfl⟩
  | a :: E, j + 1, e, h => by
    have h1 : E[j]? = some e := by simpa using h
    have := ua2 h1
    have hc : b25 (a :: E) = a.1 :: a.2 :: b25 E := rfl
    rw [hc, show (j + 1) * 2 = j * 2 + 1 + 1 by omega, show j * 2 + 1 + 1 + 1 = (j * 2 + 1) + 1 + 1 by omega]
    exact this
def w2 (W : World) (x : Addr) (i : Nat) (q : Int × Int) : Prop := W.cell? (x.add (i * 2)) = some (.int .i64 q.1) ∧ W.cell? (x.add (i * 2 + 1)) = some (.int .i64 q.2)
section
variable {H : Type} {enc : TypeId × Value → H} {P : Program} {W : World} {base : Nat} {held : Bool} {t i3 s2 s3 : TypeId} {f0 f1 f2 : Field} {v : Value} {d : DataW H} {p : List MemPlace}
theorem hc8 {g0 g1 : Field} {e : TypeId} (ht : P.underlying t = some (.struct #[f0, f1])) (h3 : P.underlying i3 = some (.int .i64)) (hs : P.underlying s2 = some (.slice e)) (he : P.underlying e = some (.struct #[g0, g1]))
    (F : f0.type = i3 ∧ f0.offset = 0 ∧ f1.type = s2 ∧ f1.offset = 1) (G : g0.type = i3 ∧ g0.offset = 0 ∧ g1.type = i3 ∧ g1.offset = 1) (C : P.cellsOf i3 = 1 ∧ P.cellsOf s2 = 1 ∧ P.cellsOf e = 2 ∧ P.cellsOf t = 2) (hts : P.cellTypes P.depth t = some [i3, s2])
    (hval : Value.okWide P W .any base t v) (h : DataW.Trod enc P W 0 (fun _ => true) held t v d p) :
    ∃ a A len cap E, v = .agg #[.int .i64 a, .slice A len cap] ∧ (Lit.int .i64 a).wf = true ∧ RoP W A len cap E ∧ len ≤ maxLen := by
  obtain ⟨cs, rfl, hsz⟩ := okWide_struct ht hval
  obtain ⟨C1, C2, C3, C4⟩ := C
  obtain ⟨F1, F2, F3, F4⟩ := F
  obtain ⟨G1, G2, G3, G4⟩ := G
  rw [C4] at hsz
  obtain ⟨x0, x1, rfl⟩ : ∃ x0 x1, cs = #[x0, x1] := by
    obtain ⟨l⟩ := cs
    match l, hsz with
    | [x0, x1], _ => exact ⟨_, _, rfl⟩
  obtain ⟨fuel, hf⟩ := h
  obtain ⟨xs, n, _, _, _, hxl, hfl⟩ := DataW.trod_struct ht hf
  have k0 := hfl 0 f0 rfl
  have k1 := hfl 1 f1 rfl
  have hxl3 : xs.length = 2 := hxl
  obtain ⟨y0, y1, rfl⟩ : ∃ y0 y1, xs = [y0, y1] := by
    match xs, hxl3 with
    | [y0, y1], _ => exact ⟨_, _, rfl⟩
  simp [F1, F2, F3, F4, C1, C2, Value.cells] at k0 k1
  obtain ⟨a, ha, _, wa⟩ := DataW.trod_int h3 k0
  obtain rfl : x0 = .int .i64 a := by simpa using ha
  rcases open_slice_pairs hs he C3 G2 G4 (by rw [G1]; exact C1) (by rw [G3]; exact C1) k1 with ⟨hcs, _⟩ | ⟨x, len, cap, m, n', V0, V1, D0, D1, P0, P1, hcs, hb, hl, hm, hmm, _, hx⟩
  · obtain rfl : x1 = .slice none 0 0 := by simpa using hcs
    exact ⟨a, none, 0, 0, [], rfl, wa, ⟨rfl, .inl ⟨rfl, rfl, rfl⟩⟩, Nat.zero_le _⟩
  · obtain rfl : x1 = .slice (some x) len cap := by simpa using hcs
    have had := bm1 hs (n61 ht hval hts rfl (i := 1) rfl rfl)
    have hmc : m = cap := by simpa using hmm
    subst hmc
    have key : ∀ i : Nat, ∃ q : Int × Int, i < m → w2 W x i q := fun i => by
      by_cases hi : i < m
      · obtain ⟨q1, q2, q3, q4⟩ := hx i hi
        rw [G1] at q3
        rw [G3] at q4
        obtain ⟨z0, e0, _, _⟩ := DataW.trod_int h3 q3
        obtain ⟨z1, e1, _, _⟩ := DataW.trod_int h3 q4
        have e0 : V0 i = .int .i64 z0 := by simpa using e0
        have e1 : V1 i = .int .i64 z1 := by simpa using e1
        exact ⟨(z0, z1), fun _ => ⟨by rw [q1, e0], by rw [q2, e1]⟩⟩
      · exact ⟨(0, 0), fun h => absurd h hi⟩
    obtain ⟨q, hq⟩ := Classical.axiomOfChoice key
    refine ⟨a, some x, len, m, (List.range len).map q, rfl, wa, ⟨by simp, .inr ⟨x, rfl, had.1, had.2, hl, fun i hi => ?_⟩⟩, Nat.le_trans hl hm⟩
    rw [au0, List.length_map, List.length_range] at hi
    have hg : ((List.range len).map q)[i / 2]? = some (q (i / 2)) := by rw [List.getElem?_map, List.getElem?_range (by omega)]; rfl
    obtain ⟨m1, m2⟩ := ua2 hg
    obtain ⟨c1, c2⟩ := hq (i / 2) (by omega)
    rw [List.getD_eq_getElem?_getD]
    by_cases hp : i % 2 = 0
    · have : i = i / 2 * 2 := by omega
      rw [this, m1]; exact c1
    · have : i = i / 2 * 2 + 1 := by omega
      rw [this, m2]; exact c2
end
end Go.Am
namespace Go.Proofs.Ytjpejkakodbchaa
open Go.Am Go.Vm Go.Alg
section
variable {h : H} {l : List AV} {ws : List Value}
end
end Go.Proofs.Ytjpejkakodbchaa
namespace Go.Proofs.Ytjpejkakodbchaa
open Go.Am Go.Vm Go.Alg
theorem kf8 : ∀ E : List (Int × Int), evs E = ivs (b25 E)
  | [] => rfl
  | e :: E => by
    have h1 : evs (e :: E) = .v (.int .i64 e.1) :: .v (.int .i64 e.2) :: evs E := rfl
    have h2 : b25 (e :: E) = e.1 :: e.2 :: b25 E := rfl
    rw [h1, h2, kf8 E]; rfl
section
variable {h : H} {l : List AV} {ws : List Value}
theorem da7 (r : Vm.VRL h [] (allZ h) (allZ h) l ws) {n : Int} {sa : Option Addr} {c : Nat} {E : List (Int × Int)} (hr : RdP h sa c E) :
    Vm.VRL h [] (allZ h) (allZ h) (.agg [.x (.int .i64 n), .fz true (.sl 2 0 2 (evs E))] :: l) (.agg #[.int .i64 n, .slice sa E.length c] :: ws) := by
  rw [Vm.VRL]
  refine ⟨_, ws, rfl, ?_, r⟩
  rw [Vm.VR]
  refine ⟨_, rfl, dp0 ?_ _⟩
  rw [Vm.VRL]
  refine ⟨_, [], rfl, ?_, a23⟩
  rw [Vm.VR, Rd]
  rcases hr with ⟨rfl, rfl, rfl⟩ | ⟨h1, o, row, rfl, h2, h3, h4⟩
  · exact .inl ⟨rfl, by decide, by decide, rfl⟩
  · refine .inr ⟨o, 0, _, c, row, rfl, h42 h2, h2, fun ho => (by rw [h3] at ho; cases ho), by decide, by rw [xg6]; omega, h1, fun h => (by cases h), ?_⟩
    rw [kf8]
    refine zj7.2 ?_
    rw [gf1, List.drop_zero, h4, ← iq5 (b25 E), List.take_length]
end
end Go.Proofs.Ytjpejkakodbchaa
namespace Go.Proofs.Ytjpejkakodbchaa
open Go.Am Go.Vm Go.Alg
theorem p07 (h : H) (a0 : Int) (_ : -9223372036854775808 ≤ a0) (_ : a0 ≤ 9223372036854775807) (m1 : Int) (_ : -9223372036854775808 ≤ m1) (_ : m1 ≤ 9223372036854775807) (s1 : Option Addr) (c1 : Nat) (z1 : List (Int × Int)) (r1 : RdP h s1 c1 z1) (_ : z1.length ≤ 9223372036854775807) (s2 : Option Addr) (c2 : Nat) (z2 : List (List Int)) (r2 : RdLL h s2 c2 z2) (u2 : ss4 h 1 s2 = true) (_ : z2.length ≤ 9223372036854775807) (_ : ∀ l ∈ z2, l.length ≤ 9223372036854775807) (s3 : Option Addr) (c3 : Nat) (z3 : List Int) (r3 : RdI h s3 c3 z3) (_ : ss4 h 1 s3 = true) (_ : z3.length ≤ 9223372036854775807) (s4 : Option Addr) (c4 : Nat) (z4 : List Int) (r4 : RdI h s4 c4 z4) (_ : ss4 h 1 s4 = true) (_ : z4.length ≤ 9223372036854775807) (a5 : Int) (_ : -9223372036854775808 ≤ a5) (_ : a5 ≤ 9223372036854775807) :
    ∃ h', call T 6 [.int .i64 a0, .agg #[.int .i64 m1, .slice s1 z1.length c1], .slice s2 z2.length c2, .slice s3 z3.length c3, .slice s4 z4.length c4, .int .i64 a5] h = some (.bool true, h') :=
  vlaw lw2 (dp0 (da7 (ds6 (sk6 (sk6 (dp0 a23 _) r4) r3) r2 u2) r1) _) (by apply tg9 <;> assumption)
end Go.Proofs.Ytjpejkakodbchaa
