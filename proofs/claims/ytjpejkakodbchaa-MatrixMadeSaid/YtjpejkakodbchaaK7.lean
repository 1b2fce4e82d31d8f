/-
  How many words can stand apart, in plain Lean: of more words than others span them some are told by the rest; what rows make 0; rows turned. No condition. matrix.Reduce, Rank called, in the second machine. Conditions: rows that fit. matrix.Times, in the second machine. Conditions: rows that fit. The document's Reduce, in the second machine. Conditions: a field of the table; rows of one length. The ..
-/
import Derived.Test.YtjpejkakodbchaaK6
set_option linter.unusedVariables false
set_option linter.unusedSimpArgs false
set_option linter.unusedSectionVars false
set_option maxRecDepth 100000
namespace Go.Alg
section
variable {K : Type} [FK K]
theorem y46 {α β : Type} (f : α × β → K) : ∀ (l : List α) (l' : List β), l.length = l'.length → ∀ l2 l2', sumL ((l ++ l2).zip (l' ++ l2')) f = sumL (l.zip l') f + sumL (l2.zip l2') f := fun l l' h l2 l2' => by
 rw [List.zip_append h, up0]
theorem uj4 {α β γ : Type} (g : β → γ) (f : α × γ → K) : ∀ (l : List α) (l' : List β), sumL (l.zip (l'.map g)) f = sumL (l.zip l') (fun p => f (p.1, g p.2))
 | [], _ => rfl
 | _ :: _, [] => rfl
 | a :: l, b :: l' => by rw [List.map_cons, List.zip_cons_cons, List.zip_cons_cons, gb6, gb6, uj4 g f l l']
theorem hom : ∀ (r : Nat) (S : List (Nat → K)), r < S.length → ∃ y : List K, y.length = S.length ∧ (∃ a ∈ y, a ≠ 0) ∧ ∀ j, j < r → sumL (y.zip S) (fun p => p.1 * p.2 j) = 0
 | 0, S, h => by
   refine ⟨List.replicate S.length 1, List.length_replicate, ⟨1, List.mem_replicate.2 ⟨by omega, rfl⟩, ki7⟩, fun j hj => absurd hj (Nat.not_lt_zero j)⟩
 | r + 1, S, h => by
   by_cases hs : ∃ s ∈ S, s r ≠ 0
   ·obtain ⟨s, hs, hne⟩ := hs
    obtain ⟨S1, S2, rfl⟩ := List.append_of_mem hs
    have hl : r < ((S1 ++ S2).map (fun (t : Nat → K) j => t j - t r * FK.inv (s r) * s j)).length := by
     simp only [List.length_map, List.length_append, List.length_cons] at h ⊢; omega
    obtain ⟨y, y1, ⟨a, y2, y3⟩, y4⟩ := hom r _ hl
    rw [List.length_map, List.length_append] at y1
    have hsp : y = y.take S1.length ++ y.drop S1.length := (List.take_append_drop _ _).symm
    have h1 : (y.take S1.length).length = S1.length := by rw [List.length_take]; omega
    have h2 : (y.drop S1.length).length = S2.length := by rw [List.length_drop]; omega
    generalize y.take S1.length = u at hsp h1
    generalize y.drop S1.length = w at hsp h2
    subst hsp
    have hsum : ∀ (c : K) j, sumL ((u ++ c :: w).zip (S1 ++ s :: S2)) (fun p => p.1 * p.2 j) = sumL ((u ++ w).zip (S1 ++ S2)) (fun p => p.1 * p.2 j) + c * s j := fun c j => by
     rw [y46 _ _ _ h1, y46 _ _ _ h1, List.zip_cons_cons, gb6, FK.add_assoc, FK.add_comm (sumL (w.zip S2) _)]
    refine ⟨u ++ -(sumL ((u ++ w).zip (S1 ++ S2)) (fun p => p.1 * p.2 r) * FK.inv (s r)) :: w, ?_, ⟨a, ?_, y3⟩, fun j hj => ?_⟩
    ·simp only [List.length_append, List.length_cons, h1, h2]
    ·simp only [List.mem_append, List.mem_cons] at y2 ⊢
     rcases y2 with y2 | y2
     ·exact .inl y2
     ·exact .inr (.inr y2)
    ·rw [hsum]
     by_cases hjr : j = r
     ·subst hjr
      rw [neg_mul, FK.mul_assoc, inv_mul hne, FK.mul_one, FK.add_neg]
     ·have h3 := y4 j (by omega)
      rw [uj4] at h3
      have h4 : sumL ((u ++ w).zip (S1 ++ S2)) (fun p => p.1 * (p.2 j - p.2 r * FK.inv (s r) * s j)) = sumL ((u ++ w).zip (S1 ++ S2)) (fun p => p.1 * p.2 j) - sumL ((u ++ w).zip (S1 ++ S2)) (fun p => p.1 * p.2 r) * FK.inv (s r) * s j := by
       rw [← ue3, ← ue3, ← b15]
       refine ox7 fun p _ => ?_
       rw [mul_sub, ← FK.mul_assoc, ← FK.mul_assoc]
      have h3 : sumL ((u ++ w).zip (S1 ++ S2)) (fun p => p.1 * (p.2 j - p.2 r * FK.inv (s r) * s j)) = 0 := h3
      rw [h4] at h3
      rw [neg_mul, ← sub_eq, h3]
   ·obtain ⟨y, y1, y2, y3⟩ := hom r S (by omega)
    refine ⟨y, y1, y2, fun j hj => ?_⟩
    by_cases hjr : j = r
    ·subst hjr
     refine tx6 fun p hp => ?_
     have : p.2 j = 0 := Classical.byContradiction fun hne => hs ⟨p.2, (List.of_mem_zip hp).2, hne⟩
     rw [this, mul_zero]
    ·exact y3 j (by omega)
def wu9 (S : List (Nat → K)) : Prop := ∀ y : List K, y.length = S.length → (∀ k, sumL (y.zip S) (fun p => p.1 * p.2 k) = 0) → ∀ a ∈ y, a = 0
theorem tw1 {R : List (Nat → K)} {w : Nat → K} (h : Span R w) : ∃ c : Nat → K, w = fun k => sumN R.length fun j => c j * (R.getD j fun _ => 0) k := by
 refine h.lin (P := fun w => ∃ c : Nat → K, w = fun k => sumN R.length fun j => c j * (R.getD j fun _ => 0) k) ?_ ?_ ?_
 ·exact ⟨fun _ => 0, by funext k; exact (ja4 fun j _ => zero_mul _).symm⟩
 ·rintro _ _ c ⟨c1, rfl⟩ ⟨c2, rfl⟩
  refine ⟨fun j => c1 j + c * c2 j, ?_⟩
  funext k
  show sumN _ _ + c * sumN _ _ = _
  unfold sumN
  rw [← ro9, ← jl9]
  refine ox7 fun j _ => ?_
  rw [add_mul, FK.mul_assoc]
 ·intro r hr
  obtain ⟨i, hi, rfl⟩ := List.getElem_of_mem hr
  refine ⟨fun j => if j = i then 1 else 0, ?_⟩
  funext k
  rw [xq2 hi fun j hj hne => by show (if j = i then (1 : K) else 0) * _ = 0; rw [if_neg hne, zero_mul]]
  show _ = (if i = i then (1 : K) else 0) * _
  rw [if_pos rfl, one_mul, List.getD_eq_getElem?_getD, List.getElem?_eq_getElem hi]; rfl
theorem c91 {R S : List (Nat → K)} (hS : ∀ s ∈ S, Span R s) (hi : wu9 S) : S.length ≤ R.length := by
 refine Classical.byContradiction fun hlt => ?_
 have hc : ∀ s : {s // s ∈ S}, ∃ c : Nat → K, s.1 = fun k => sumN R.length fun j => c j * (R.getD j fun _ => 0) k := fun s => tw1 (hS s.1 s.2)
 obtain ⟨C, hC⟩ := Classical.axiomOfChoice hc
 obtain ⟨y, y1, ⟨a, y2, y3⟩, y4⟩ := hom R.length (S.attach.map C) (by rw [List.length_map, List.length_attach]; omega)
 rw [List.length_map, List.length_attach] at y1
 refine y3 (hi y y1 (fun k => ?_) a y2)
 have h1 : sumL (y.zip S) (fun p => p.1 * p.2 k) = sumL (y.zip S.attach) (fun p => p.1 * p.2.1 k) := by
  have h0 : S = S.attach.map Subtype.val := (List.attach_map_subtype_val S).symm
  conv => lhs; rw [h0]
  rw [uj4]
 rw [h1]
 have h2 : ∀ p ∈ y.zip S.attach, p.1 * p.2.1 k = sumN R.length fun j => p.1 * (C p.2 j * (R.getD j fun _ => 0) k) := fun p _ => by
  have := congrFun (hC p.2) k
  rw [this]
  unfold sumN
  rw [ro9]
 rw [ox7 h2]
 unfold sumN
 rw [j53]
 refine tx6 fun j hj => ?_
 have h3 := y4 j (List.mem_range.1 hj)
 rw [uj4] at h3
 have h4 : sumL (y.zip S.attach) (fun p => p.1 * (C p.2 j * (R.getD j fun _ => 0) k)) = sumL (y.zip S.attach) (fun p => p.1 * C p.2 j) * (R.getD j fun _ => 0) k := by
  rw [← ue3]
  exact ox7 fun p _ => (FK.mul_assoc _ _ _).symm
 have h3 : sumL (y.zip S.attach) (fun p => p.1 * C p.2 j) = 0 := h3
 rw [h4, h3, zero_mul]
theorem nu5 {α β : Type} (f : α × β → K) (da : α) (db : β) : ∀ (l : List α) (l' : List β), l.length = l'.length → sumL (l.zip l') f = sumN l.length fun i => f (l.getD i da, l'.getD i db)
 | [], _, _ => rfl
 | a :: l, b :: l', h => by
   rw [List.zip_cons_cons, gb6, List.length_cons, c68, nu5 f da db l l' (by simpa using h)]; rfl
theorem wx6 {S : List (Nat → K)} (P : Nat → Nat) (h : ∀ i j, i < S.length → j < S.length → (S.getD i fun _ => 0) (P j) = if i = j then 1 else 0) : wu9 S := by
 intro y hy h0 a ha
 obtain ⟨j, hj, rfl⟩ := List.getElem_of_mem ha
 have h1 := h0 (P j)
 rw [nu5 _ 0 (fun _ => 0) y S hy, xq2 hj (fun i hi hne => by show y.getD i 0 * (S.getD i fun _ => 0) (P j) = 0; rw [h i j (by omega) (by omega), if_neg hne, mul_zero])] at h1
 have h1 : y.getD j 0 * (S.getD j fun _ => 0) (P j) = 0 := h1
 rw [h j j (by omega) (by omega), if_pos rfl, FK.mul_one, List.getD_eq_getElem?_getD, List.getElem?_eq_getElem hj] at h1
 exact h1
theorem Rref.indep {n : Nat} {A : List (Nat × (Nat → K))} (h : Rref n A) : wu9 (rowsOf A) := by
 have hl : (rowsOf A).length = A.length := by unfold rowsOf; rw [List.length_map]
 refine wx6 (fun j => (A.getD j (0, fun _ => 0)).1) fun i j hi hj => ?_
 rw [hl] at hi hj
 have h1 : (rowsOf A).getD i (fun _ => 0) = A[i].2 := by unfold rowsOf; rw [List.getD_eq_getElem?_getD, List.getElem?_map, List.getElem?_eq_getElem hi]; rfl
 have h2 : A.getD j (0, fun _ => 0) = A[j] := by rw [List.getD_eq_getElem?_getD, List.getElem?_eq_getElem hj]; rfl
 rw [h1, h2]
 by_cases he : i = j
 ·subst he; rw [if_pos rfl]; exact h.one _ (List.getElem_mem hi)
 ·rw [if_neg he]
  refine h.zero _ (List.getElem_mem hi) _ (List.getElem_mem hj) fun e => ?_
  have := List.pairwise_iff_getElem.1 h.nodup
  rcases Nat.lt_or_gt_of_ne he with hlt | hlt
  ·exact this i j hi hj hlt e
  ·exact this j i hj hi hlt e.symm
theorem Rref.le {n : Nat} {A : List (Nat × (Nat → K))} (h : Rref n A) {R : List (Nat → K)} (hs : ∀ w, Span (rowsOf A) w → Span R w) : A.length ≤ R.length := by
 have := c91 (S := rowsOf A) (R := R) (fun s hs' => hs s (.mem hs')) h.indep
 unfold rowsOf at this
 rwa [List.length_map] at this
theorem Rref.ge {n : Nat} {A : List (Nat × (Nat → K))} (h : Rref n A) {S : List (Nat → K)} (hi : wu9 S) (hs : ∀ w ∈ S, Span (rowsOf A) w) : S.length ≤ A.length := by
 have := c91 hs hi
 unfold rowsOf at this
 rwa [List.length_map] at this
end
section
variable {K : Type} [FK K] {n : Nat}
def dotF (n : Nat) (u w : Nat → K) : K := sumN n fun k => u k * w k
theorem sc2 (u w : Nat → K) : dotF n u w = dotF n w u := rc1 fun k _ => FK.mul_comm _ _
theorem xs8 (c : K) (u r w : Nat → K) : dotF n (axp c u r) w = dotF n u w + c * dotF n r w := by
 unfold dotF sumN
 rw [← ro9, ← jl9]
 refine ox7 fun k _ => ?_
 show (u k + c * r k) * w k = _
 rw [add_mul, FK.mul_assoc]
theorem mj9 (w : Nat → K) : dotF n (fun _ => 0) w = 0 := ja4 fun _ _ => zero_mul _
theorem fz3 {R : List (Nat → K)} {w : Nat → K} (h : ∀ r ∈ R, dotF n r w = 0) {u : Nat → K} (hu : Span R u) : dotF n u w = 0 :=
 hu.lin (P := fun u => dotF n u w = 0) (mj9 w) (fun u r c h1 h2 => by rw [xs8, h1, h2, mul_zero, FK.add_zero]) h
theorem ui3 {R : List (Nat → K)} {u : Nat → K} (h : ∀ r ∈ R, dotF n u r = 0) {w : Nat → K} (hw : Span R w) : dotF n u w = 0 := by
 rw [sc2]; exact fz3 (fun r hr => by rw [sc2]; exact h r hr) hw
def sk9 (n : Nat) (A : List (Nat × List K)) : List Nat := (List.range n).filter fun c => !(A.any fun a => a.1 == c)
theorem c66 (n : Nat) (A : List (Nat × List K)) : ∀ d c, ez9 n A d c = ((List.range' c d).filter fun c => !(A.any fun a => a.1 == c)).map fun c => xRow n c A
 | 0, _ => rfl
 | d + 1, c => by
   rw [ez9, List.range'_succ, List.filter_cons, c66 n A d (c + 1)]
   cases (A.any fun a => a.1 == c) <;> rfl
theorem pv1 (n : Nat) (A : List (Nat × List K)) : ez9 n A n 0 = (sk9 n A).map fun c => xRow n c A := by
 rw [c66]; unfold sk9; rw [List.range_eq_range']
omit [FK K] in
theorem oz8 {A : List (Nat × List K)} {c : Nat} : c ∈ sk9 n A ↔ c < n ∧ ∀ a ∈ A, a.1 ≠ c := by
 unfold sk9
 rw [List.mem_filter, List.mem_range]
 simp
omit [FK K] in
theorem a89 (A : List (Nat × List K)) : (sk9 n A).Nodup := List.Pairwise.filter _ List.nodup_range
omit [FK K] in
theorem ir1 {A : List (Nat × List K)} (hn : A.Pairwise fun a b => a.1 ≠ b.1) (hlt : ∀ a ∈ A, a.1 < n) : (sk9 n A).length + A.length = n := by
 have h1 : ∀ l : List Nat, (l.filter fun c => !(A.any fun a => a.1 == c)).length + (l.filter fun c => A.any fun a => a.1 == c).length = l.length := by
  intro l
  induction l with
  | nil => rfl
  | cons c l ih =>
    rw [List.filter_cons, List.filter_cons]
    cases (A.any fun a => a.1 == c) <;> simp <;> omega
 have h2 := h1 (List.range n)
 rw [List.length_range] at h2
 have h3 : ((List.range n).filter fun c => A.any fun a => a.1 == c).Perm (A.map Prod.fst) := by
  refine (List.perm_ext_iff_of_nodup (List.Pairwise.filter _ List.nodup_range) ?_).2 fun c => ?_
  ·exact List.pairwise_map.2 hn
  ·rw [List.mem_filter, List.mem_range, List.mem_map, List.any_eq_true]
   constructor
   ·rintro ⟨_, a, ha, he⟩; exact ⟨a, ha, by simpa using he⟩
   ·rintro ⟨a, ha, rfl⟩; exact ⟨hlt a ha, a, ha, by simp⟩
 have h4 := h3.length_eq
 rw [List.length_map] at h4
 unfold sk9
 omega
theorem a42 {c : Nat} : ∀ (A : List (Nat × List K)) (x : List K), A.Pairwise (fun a b => a.1 ≠ b.1) → (∀ a ∈ A, a.1 < x.length) → ∀ k, wf (setN c A x) k = if (∃ a ∈ A, a.1 = k) then sumL A (fun a => if a.1 = k then -(wf a.2 c) else 0) else wf x k
 | [], x, _, _, k => by rw [if_neg (by rintro ⟨a, h, _⟩; cases h)]; rfl
 | a :: A, x, hn, hl, k => by
   rw [List.pairwise_cons] at hn
   rw [setN, a42 A _ hn.2 (fun b hb => by rw [List.length_set]; exact hl b (by simp [hb])) k, wf_set (hl a (by simp)), gb6]
   by_cases he : a.1 = k
   ·have hno : ¬ ∃ b ∈ A, b.1 = k := fun ⟨b, hb, e⟩ => hn.1 b hb (by rw [he, e])
    rw [if_neg hno, if_pos he.symm, if_pos ⟨a, by simp, he⟩, if_pos he, tx6 fun b hb => if_neg fun e => hno ⟨b, hb, e⟩, FK.add_zero]
   ·have h1 : (if k = a.1 then -(wf a.2 c) else wf x k) = wf x k := if_neg fun e => he e.symm
    have h2 : (if a.1 = k then -(wf a.2 c) else 0) = 0 := if_neg he
    rw [h1, h2, zero_add]
    by_cases hex : ∃ b ∈ A, b.1 = k
    ·obtain ⟨b, hb, e⟩ := hex
     rw [if_pos ⟨b, hb, e⟩, if_pos ⟨b, by simp [hb], e⟩]
    ·rw [if_neg hex, if_neg]
     rintro ⟨b, hb, e⟩
     rcases List.mem_cons.1 hb with rfl | hb
     ·exact he e
     ·exact hex ⟨b, hb, e⟩
section
variable {A : List (Nat × List K)} (hr : Rref n (toF A))
include hr
theorem f50 : A.Pairwise fun a b => a.1 ≠ b.1 := by
 have := hr.nodup
 unfold toF at this
 rwa [List.pairwise_map] at this
theorem a68 : ∀ a ∈ A, a.1 < n := fun a ha => hr.lt (a.1, wf a.2) (xe5.2 ⟨a, ha, rfl⟩)
theorem up3 {c : Nat} (hc : c ∈ sk9 n A) (k : Nat) : wf (xRow n c A) k = if (∃ a ∈ A, a.1 = k) then sumL A (fun a => if a.1 = k then -(wf a.2 c) else 0) else if k = c then 1 else 0 := by
 have hcn := (oz8.1 hc).1
 unfold xRow
 rw [a42 A _ (f50 hr) (fun a ha => by rw [List.length_set, List.length_replicate]; exact a68 hr a ha) k, wf_set (by rw [List.length_replicate]; exact hcn)]
 congr 2
 unfold wf
 rw [List.getD_eq_getElem?_getD, List.getElem?_replicate]
 split <;> rfl
theorem st6 {c k : Nat} (hc : c ∈ sk9 n A) (hk : k ∈ sk9 n A) : wf (xRow n c A) k = if k = c then 1 else 0 := by
 rw [up3 hr hc, if_neg]
 rintro ⟨a, ha, e⟩
 exact (oz8.1 hk).2 a ha e
theorem z98 {c : Nat} (hc : c ∈ sk9 n A) {a : Nat × List K} (ha : a ∈ A) : wf (xRow n c A) a.1 = -(wf a.2 c) := by
 rw [up3 hr hc, if_pos ⟨a, ha, rfl⟩]
 have : ∀ {B : List (Nat × List K)}, B.Pairwise (fun a b => a.1 ≠ b.1) → a ∈ B → sumL B (fun b => if b.1 = a.1 then -(wf b.2 c) else 0) = -(wf a.2 c) := by
  intro B hB hb
  induction B with
  | nil => cases hb
  | cons b B ih =>
    rw [List.pairwise_cons] at hB
    rw [gb6]
    rcases List.mem_cons.1 hb with rfl | hb
    ·rw [if_pos rfl, tx6 fun b hb => if_neg fun e => hB.1 b hb e.symm, FK.add_zero]
    ·have : (if b.1 = a.1 then -(wf b.2 c) else 0) = 0 := if_neg (hB.1 a hb)
     rw [this, zero_add, ih hB.2 hb]
 exact this (f50 hr) ha
theorem uz6 {a : Nat × List K} (ha : a ∈ A) (w : Nat → K) : dotF n (wf a.2) w = w a.1 + sumL (sk9 n A) fun c => wf a.2 c * w c := by
 have hp : ((List.range n).filter fun c => A.any fun a => a.1 == c).Perm (A.map Prod.fst) := by
  refine (List.perm_ext_iff_of_nodup (List.Pairwise.filter _ List.nodup_range) ?_).2 fun c => ?_
  ·exact List.pairwise_map.2 (f50 hr)
  ·rw [List.mem_filter, List.mem_range, List.mem_map, List.any_eq_true]
   constructor
   ·rintro ⟨_, a, ha, he⟩; exact ⟨a, ha, by simpa using he⟩
   ·rintro ⟨a, ha, rfl⟩; exact ⟨a68 hr a ha, a, ha, by simp⟩
 have hsplit : ∀ (l : List Nat) (f : Nat → K), sumL l f = sumL (l.filter fun c => A.any fun a => a.1 == c) f + sumL (l.filter fun c => !(A.any fun a => a.1 == c)) f := by
  intro l f
  induction l with
  | nil => exact (FK.add_zero _).symm
  | cons c l ih =>
    rw [List.filter_cons, List.filter_cons, gb6, ih]
    cases (A.any fun a => a.1 == c) with
    | true => simp only [if_true, Bool.not_true, Bool.false_eq_true, if_false, gb6]; rw [FK.add_assoc]
    | false => simp only [if_true, Bool.not_false, Bool.false_eq_true, if_false, gb6]; rw [← FK.add_assoc, FK.add_comm (f c), FK.add_assoc]
 unfold dotF sumN sk9
 rw [hsplit]
 congr 1
 rw [j94 (s := a.1) (List.Pairwise.filter _ List.nodup_range)]
 ·have := hr.one (a.1, wf a.2) (xe5.2 ⟨a, ha, rfl⟩)
  have : wf a.2 a.1 = 1 := this
  rw [this, one_mul]
 ·rw [List.mem_filter, List.mem_range, List.any_eq_true]; exact ⟨a68 hr a ha, a, ha, by simp⟩
 ·intro c hc hne
  rw [List.mem_filter, List.any_eq_true] at hc
  obtain ⟨_, b, hb, he⟩ := hc
  have he : b.1 = c := by simpa using he
  have := hr.zero (a.1, wf a.2) (xe5.2 ⟨a, ha, rfl⟩) (b.1, wf b.2) (xe5.2 ⟨b, hb, rfl⟩) (fun e => hne (by rw [← he]; exact e.symm))
  have : wf a.2 b.1 = 0 := this
  rw [← he, this, zero_mul]
theorem dn9 {w : Nat → K} : Span ((ez9 n A n 0).map wf) w ↔ (∀ k, n ≤ k → w k = 0) ∧ ∀ a ∈ A, dotF n (wf a.2) w = 0 := by
 have hx : ∀ x ∈ (ez9 n A n 0).map wf, ∃ c ∈ sk9 n A, x = wf (xRow n c A) := fun x hx => by
  rw [pv1, List.map_map] at hx
  obtain ⟨c, hc, rfl⟩ := List.mem_map.1 hx
  exact ⟨c, hc, rfl⟩
 constructor
 ·intro h
  refine ⟨fun k hk => ?_, fun a ha => ui3 (fun r hr' => ?_) h⟩
  ·refine h.lin (P := fun w => w k = 0) rfl (fun u r c h1 h2 => ?_) fun r hr' => ?_
   ·show u k + c * r k = 0
    rw [h1, h2, mul_zero, FK.add_zero]
   ·obtain ⟨c, hc, rfl⟩ := hx r hr'
    exact ez8 (by rw [x22]; exact hk)
  ·obtain ⟨c, hc, rfl⟩ := hx r hr'
   rw [uz6 hr ha, z98 hr hc ha, j94 (s := c) (a89 A) hc fun k hk hne => by rw [st6 hr hc hk, if_neg hne, mul_zero], st6 hr hc hc, if_pos rfl, FK.mul_one, neg_add]
 ·rintro ⟨h1, h2⟩
  have h3 : w = fun k => sumL (sk9 n A) fun c => w c * wf (xRow n c A) k := by
   funext k
   by_cases hkn : n ≤ k
   ·rw [h1 k hkn, tx6 fun c hc => by rw [ez8 (by rw [x22]; exact hkn), mul_zero]]
   ·by_cases hex : ∃ a ∈ A, a.1 = k
    ·obtain ⟨a, ha, rfl⟩ := hex
     have h4 := h2 a ha
     rw [uz6 hr ha, FK.add_comm] at h4
     rw [ut3 h4, ← eq0]
     refine ox7 fun c hc => ?_
     rw [z98 hr hc ha, mul_neg, FK.mul_comm]
    ·have hk : k ∈ sk9 n A := oz8.2 ⟨by omega, fun a ha e => hex ⟨a, ha, e⟩⟩
     rw [j94 (s := k) (a89 A) hk fun c hc hne => by rw [st6 hr hc hk, if_neg fun e => hne e.symm, mul_zero], st6 hr hk hk, if_pos rfl, FK.mul_one]
  rw [h3]
  refine Span.sum fun c hc => .mem ?_
  rw [pv1, List.map_map]
  exact List.mem_map.2 ⟨c, hc, rfl⟩
theorem hs0 : wu9 ((ez9 n A n 0).map wf) := by
 rw [pv1, List.map_map]
 refine wx6 (fun j => (sk9 n A).getD j 0) fun i j hi hj => ?_
 rw [List.length_map] at hi hj
 have h1 : (((sk9 n A).map (wf ∘ fun c => xRow n c A)).getD i fun _ => 0) = wf (xRow n (sk9 n A)[i] A) := by
  rw [List.getD_eq_getElem?_getD, List.getElem?_map, List.getElem?_eq_getElem hi]; rfl
 have h2 : (sk9 n A).getD j 0 = (sk9 n A)[j] := by rw [List.getD_eq_getElem?_getD, List.getElem?_eq_getElem hj]; rfl
 rw [h1, h2, st6 hr (List.getElem_mem hi) (List.getElem_mem hj)]
 by_cases he : i = j
 ·subst he; rw [if_pos rfl, if_pos rfl]
 ·rw [if_neg he, if_neg fun e => he ((List.getElem_inj (a89 A)).1 e).symm]
end
theorem sw1 {M : List (List K)} (hM : ∀ m ∈ M, m.length = n) : Rref n (toF (zt5 n M)) ∧ (∀ a ∈ zt5 n M, a.2.length = n) ∧ (∀ w, Span (rowsOf (toF (zt5 n M))) w ↔ (∀ k, n ≤ k → w k = 0) ∧ ∀ m ∈ M, dotF n (wf m) w = 0) ∧ (zt5 n M).length + (redR M).length = n := by
 obtain ⟨r1, r2, r3⟩ := bi2 hM
 obtain ⟨s1, s2, s3⟩ := bi2 (sg4 n (redR M) n 0)
 refine ⟨s1, s2, fun w => ?_, ?_⟩
 ·unfold zt5
  rw [s3, dn9 r1]
  refine and_congr_right fun _ => ⟨fun h m hm => ?_, fun h a ha => ?_⟩
  ·refine fz3 (fun r hr => ?_) ((r3 _).2 (.mem (List.mem_map.2 ⟨m, hm, rfl⟩)))
   obtain ⟨a, ha, rfl⟩ := he3.1 hr
   exact h a ha
  ·refine fz3 (fun r hr => ?_) ((r3 _).1 (.mem (he3.2 ⟨a, ha, rfl⟩)))
   obtain ⟨m, hm, rfl⟩ := List.mem_map.1 hr
   exact h m hm
 ·have h1 := s1.le fun w hw => (s3 w).1 hw
  have h2 := s1.ge (hs0 r1) fun w hw => (s3 w).2 (.mem hw)
  have h3 := ir1 (f50 r1) (a68 r1)
  have hn : zt5 n M = redR (ez9 n (redR M) n 0) := rfl
  rw [← hn] at h1 h2
  rw [pv1, List.length_map, List.length_map] at h1 h2
  unfold toF at h1 h2
  rw [List.length_map] at h1 h2
  omega
theorem dz5 {A : List (Nat × (Nat → K))} (h : Rref n A) {S : List (Nat → K)} (hs : ∀ w, Span (rowsOf A) w → Span S w) (hl : S.length ≤ A.length) : wu9 S := by
 intro y hy h0 a ha
 refine Classical.byContradiction fun hne => ?_
 obtain ⟨i, hi, rfl⟩ := List.getElem_of_mem ha
 have hsp : y = y.take i ++ y[i] :: y.drop (i + 1) := by rw [← List.drop_eq_getElem_cons hi, List.take_append_drop]
 have hsS : S = S.take i ++ S[i] :: S.drop (i + 1) := by rw [← List.drop_eq_getElem_cons (by omega), List.take_append_drop]
 have h1 : (y.take i).length = (S.take i).length := by rw [List.length_take, List.length_take, hy]
 generalize y.take i = y1 at hsp h1
 generalize y.drop (i + 1) = y2 at hsp
 generalize y[i] = c at hsp hne
 generalize S.take i = S1 at hsS h1
 generalize S.drop (i + 1) = S2 at hsS
 generalize S[i] = s at hsS
 subst hsp hsS
 have hsm : Span (S1 ++ S2) s := by
  have h2 : s = fun k => sumL ((y1 ++ y2).zip (S1 ++ S2)) fun p => (-(FK.inv c) * p.1) * p.2 k := by
   funext k
   have h3 := h0 k
   rw [y46 _ _ _ h1, List.zip_cons_cons, gb6, ← FK.add_assoc, FK.add_comm (sumL (y1.zip S1) _), FK.add_assoc, ← y46 _ _ _ h1, FK.add_comm] at h3
   have h3 : c * s k = -(sumL ((y1 ++ y2).zip (S1 ++ S2)) fun p => p.1 * p.2 k) := ut3 h3
   have h4 : sumL ((y1 ++ y2).zip (S1 ++ S2)) (fun p => (-(FK.inv c) * p.1) * p.2 k) = FK.inv c * -(sumL ((y1 ++ y2).zip (S1 ++ S2)) fun p => p.1 * p.2 k) := by
    rw [mul_neg, ← neg_mul, ← ro9]
    exact ox7 fun p _ => FK.mul_assoc _ _ _
   rw [h4, ← h3, ← FK.mul_assoc, inv_mul hne, one_mul]
  rw [h2]
  exact Span.sum (f := fun p : K × (Nat → K) => p.2) fun p hp => .mem (List.of_mem_zip hp).2
 have := h.le (R := S1 ++ S2) fun w hw => (hs w hw).trans fun r hr => by
  rcases List.mem_append.1 hr with hr | hr
  ·exact .mem (List.mem_append.2 (.inl hr))
  ·rcases List.mem_cons.1 hr with rfl | hr
   ·exact hsm
   ·exact .mem (List.mem_append.2 (.inr hr))
 simp only [List.length_append, List.length_cons] at this hl
 omega
theorem ew4 {M : List (List K)} (hM : ∀ m ∈ M, m.length = n) : (redR M).length ≤ M.length := by
 obtain ⟨r1, r2, r3⟩ := bi2 hM
 have := r1.le fun w hw => (r3 w).1 hw
 unfold toF at this
 simpa using this
theorem p53 {M : List (List K)} (hM : ∀ m ∈ M, m.length = n) (h : (redR M).length = M.length) : wu9 (M.map wf) := by
 obtain ⟨r1, r2, r3⟩ := bi2 hM
 exact dz5 r1 (fun w hw => (r3 w).1 hw) (by unfold toF; simp [h])
theorem ee0 {M : List (List K)} (hM : ∀ m ∈ M, m.length = n) (h : wu9 (M.map wf)) : M.length ≤ (redR M).length := by
 obtain ⟨r1, r2, r3⟩ := bi2 hM
 have := r1.ge h fun w hw => (r3 w).2 (.mem hw)
 unfold toF at this
 simpa using this
theorem n98 (l : List K) (x : K) (k : Nat) : wf (l ++ [x]) k = if k = l.length then x else wf l k := by
 unfold wf
 rw [List.getD_eq_getElem?_getD, List.getD_eq_getElem?_getD]
 by_cases h : k < l.length
 ·rw [List.getElem?_append_left h, if_neg (by omega)]
 ·rw [List.getElem?_append_right (by omega)]
  by_cases he : k = l.length
  ·rw [if_pos he, he, Nat.sub_self]; rfl
  ·rw [if_neg he, List.getElem?_eq_none (by simp; omega), List.getElem?_eq_none (by omega)]
theorem j11 {M : List (List K)} (hM : ∀ m ∈ M, m.length = n) (h : (redR M).length = M.length) {b : List K} (hb : b.length = M.length) : ∃ x, solR n M b = some x := by
 unfold solR
 split
 ·rename_i hno
  exfalso
  obtain ⟨a, ha, he⟩ := List.any_eq_true.1 hno
  have he : a.1 = n := by simpa using he
  obtain ⟨r1, r2, r3⟩ := bi2 (a86 (b := b) hM)
  have hsp : Span ((augL M b).map wf) (wf a.2) := (r3 _).1 (.mem (he3.2 ⟨a, ha, rfl⟩))
  have h1 : wf a.2 a.1 = 1 := r1.one (a.1, wf a.2) (xe5.2 ⟨a, ha, rfl⟩)
  have h0 : ∀ k, k < n → wf a.2 k = 0 := fun k hk => r1.before (a.1, wf a.2) (xe5.2 ⟨a, ha, rfl⟩) k (by show k < a.1; omega)
  obtain ⟨c, hc⟩ := tw1 hsp
  have hl : ((augL M b).map wf).length = M.length := by rw [List.length_map]; unfold augL; rw [List.length_zipWith, hb, Nat.min_self]
  have hg : ∀ j, j < M.length → ∀ k, (((augL M b).map wf).getD j fun _ => 0) k = if k = n then wf b j else wf (nth M j) k := fun j hj k => by
   have hj2 : j < (augL M b).length := by unfold augL; rw [List.length_zipWith, hb, Nat.min_self]; exact hj
   rw [List.getD_eq_getElem?_getD, List.getElem?_map, List.getElem?_eq_getElem hj2]
   show wf (augL M b)[j] k = _
   simp only [augL, List.getElem_zipWith]
   rw [n98, hM _ (List.getElem_mem hj), t70 hj, i66 (l := b) (by omega)]
  have hy := p53 hM h ((List.range M.length).map c) (by simp) (fun k => by
   rw [nu5 _ 0 (fun _ => 0) _ _ (by simp), List.length_map, List.length_range]
   have h2 : ∀ j, j < M.length → (((List.range M.length).map c).getD j 0) * ((M.map wf).getD j fun _ => 0) k = c j * wf (nth M j) k := fun j hj => by
    rw [List.getD_eq_getElem?_getD, List.getElem?_map, List.getElem?_range hj, List.getD_eq_getElem?_getD, List.getElem?_map, List.getElem?_eq_getElem hj, t70 hj]; rfl
   rw [rc1 h2]
   by_cases hk : k < n
   ·have h3 := congrFun hc k
    rw [h0 k hk, hl] at h3
    rw [h3]
    exact rc1 fun j hj => by rw [hg j hj, if_neg (by omega)]
   ·exact ja4 fun j hj => by rw [ez8 (by rw [t70 hj, hM _ (List.getElem_mem hj)]; omega), mul_zero])
  have h3 := congrFun hc n
  rw [← he, h1, hl, ja4 fun j hj => by rw [hy (c j) (List.mem_map.2 ⟨j, List.mem_range.2 hj, rfl⟩), zero_mul]] at h3
  exact ki7 h3
 ·exact ⟨_, rfl⟩
def f05 (n k : Nat) : List K := (List.replicate n 0).set k 1
theorem sm5 (n k : Nat) : (f05 n k : List K).length = n := by unfold f05; simp
theorem ez3 {n k : Nat} (hk : k < n) (i : Nat) : wf (f05 n k : List K) i = if i = k then 1 else 0 := by
 unfold f05
 rw [wf_set (by simpa using hk)]
 congr 1
 unfold wf
 rw [List.getD_eq_getElem?_getD, List.getElem?_replicate]
 split <;> rfl
theorem pp9 {M : List (List K)} (hM : ∀ m ∈ M, m.length = n) (h : (redR M).length < M.length) : ∃ k, k < M.length ∧ solR n M (f05 M.length k) = none := by
 refine Classical.byContradiction fun hno => ?_
 have hx : ∀ k, k < M.length → ∃ x, solR n M (f05 M.length k) = some x := fun k hk => by
  cases hs : solR n M (f05 M.length k) with
  | some x => exact ⟨x, rfl⟩
  | none => exact absurd ⟨k, hk, hs⟩ hno
 have : wu9 (M.map wf) := by
  intro y hy h0 a ha
  rw [List.length_map] at hy
  obtain ⟨k, hk, rfl⟩ := List.getElem_of_mem ha
  obtain ⟨x, hx⟩ := hx k (by omega)
  obtain ⟨x1, x2⟩ := l11 hM (sm5 _ _) hx
  have h2 : ∀ j, sumN M.length (fun i => y.getD i 0 * wf (nth M i) j) = 0 := fun j => by
   have := h0 j
   rw [nu5 _ 0 (fun _ => 0) _ _ (by rw [List.length_map, hy]), hy] at this
   refine Eq.trans (rc1 fun i hi => ?_) this
   show _ = y.getD i 0 * ((M.map wf).getD i fun _ => 0) j
   congr 1
   rw [List.getD_eq_getElem?_getD, List.getElem?_map, List.getElem?_eq_getElem hi, t70 hi]; rfl
  have h3 : sumN M.length (fun i => y.getD i 0 * wf (f05 M.length k : List K) i) = y[k] := by
   rw [xq2 (s := k) (by omega) fun i hi hne => by rw [ez3 (by omega), if_neg hne, mul_zero], ez3 (by omega), if_pos rfl, FK.mul_one, List.getD_eq_getElem?_getD, List.getElem?_eq_getElem hk]; rfl
  have h4 : sumN M.length (fun i => y.getD i 0 * wf (f05 M.length k : List K) i) = sumN M.length (fun i => sumN n fun j => y.getD i 0 * wf (nth M i) j * wf x j) := rc1 fun i hi => by
   rw [← x2 i hi]
   unfold sumN
   rw [← ro9]
   exact ox7 fun j _ => (FK.mul_assoc _ _ _).symm
  rw [← h3, h4]
  unfold sumN
  rw [j53]
  refine tx6 fun j _ => ?_
  rw [ue3]
  have := h2 j
  unfold sumN at this
  rw [this, zero_mul]
 have := ee0 hM this
 omega
end
end Go.Alg
namespace Go.Proofs.Ytjpejkakodbchaa
open Go.Am Go.Vm Go.Alg
section
variable {q : Int} {b : Bool} {nl nr : Nat}
theorem rk7 {M : List (List Int)} (he : ¬ matE q M = 0) : o24 W 65 [.x (.int .i64 q), .fz b (.sl nl 0 1 (lvs nr M))] [] = some (.tup [.x (.slice none 0 0), .own 0 [], .x (.int .i64 (matE q M))], [.sl 1 3 1 []], []) := by
 have e1 := fun b nl nr => or9 (M := M) (q := q) (b := b) (nl := nl) (nr := nr)
 rw [o10 rfl T65 rfl]
 unfold F65 c65
 simp (disch := first | omega | fail) only [push_cast, seval, ui5, lu7, y81, bj9, wrap64, dec_lt, cw6, nl3, qc6, mr8, nb8, if_pos, if_neg, e1, nb8 he]
theorem e58 (he : matE q [] = 0) : o24 W 65 [.x (.int .i64 q), .fz b (.sl nl 0 1 [])] [] = some (.tup [.x (.slice none 0 0), .own 0 [], .x (.int .i64 0)], [.sl 1 3 1 []], []) := by
 have e1 := fun b nl => or9 (q := q) (M := []) (b := b) (nl := nl) (nr := 0)
 simp only [em1, he] at e1
 rw [o10 rfl T65 rfl]
 unfold F65 c65
 simp (disch := first | omega | fail) only [push_cast, seval, ui5, lu7, y81, bj9, wrap64, dec_lt, cw6, nl3, qc6, mr8, nb8, if_pos, if_neg, e1]
theorem ru4 [IsFld q] {N : List (List (El q))} {n : Nat} (hr : ∀ r ∈ N, r.length = n) : ∀ r ∈ N.map vs, r.length = n := fun c hc => by
 obtain ⟨r, hr', rfl⟩ := List.mem_map.1 hc
 rw [fi2, hr r hr']
theorem sy6 [IsFld q] {N : List (List (El q))} {n : Nat} (hl : N.length ≤ 64) (hr : ∀ r ∈ N, r.length = n) (h0 : 0 < n) (hn : n ≤ 64) : matE q (N.map vs) = 0 := by
 obtain ⟨d, hd⟩ := gh1 (q := q)
 unfold matE
 rw [hd]
 show (if 64 < (N.map vs).length then 4 else _) = (0 : Int)
 rw [if_neg (by rw [List.length_map]; omega), kn4]
 have : ∀ L : List (List (El q)), (∀ r ∈ L, r ∈ N) → wb9 q (nth N 0).length (L.map vs) = 0 := by
  intro L
  induction L with
  | nil => intro _; rfl
  | cons r L ih =>
    intro h
    have h1 : r ∈ N := h r (by simp)
    have h2 : (nth N 0).length = n := by
     cases N with
     | nil => cases h1
     | cons a N => exact hr a (by simp)
    rw [List.map_cons, wb9, if_pos, ih fun x hx => h x (by simp [hx])]
    unfold rowE
    rw [fi2, hr r h1, h2, if_neg (by omega), if_neg (by omega), if_neg]
    intro h3
    obtain ⟨z, hz, h4⟩ := List.any_eq_true.1 h3
    obtain ⟨x, hx, rfl⟩ := List.mem_map.1 hz
    rw [x.ok] at h4
    cases h4
 exact this N fun r h => h
theorem lq3 [IsFld q] {N : List (List (El q))} {n : Nat} (h0 : 0 < N.length) (hl : N.length ≤ 64) (hr : ∀ r ∈ N, r.length = n) (hn0 : 0 < n) (hn : n ≤ 64) :
 o24 W 65 [.x (.int .i64 q), .fz b (.sl nl 0 1 (lvs nr (N.map vs)))] [] = some (.tup [.own 0 [], .own 1 [], .x (.int .i64 0)], [.sl 0 23 1 (lls 2 (pvR (redR N))), .sl 1 3 1 (ivs (pvP (redR N)))], []) := by
 have he := sy6 hl hr hn0 hn
 have hrv := ru4 hr
 have e1 := fun b nl nr => or9 (q := q) (M := N.map vs) (b := b) (nl := nl) (nr := nr)
 simp only [he] at e1
 have e2 := fun b nl nr => y80 (b := b) (nl := nl) (nr := nr) (M := N.map vs) (fun r hr' => by have := hrv r hr'; omega) (by rw [List.length_map]; omega)
 obtain ⟨M', P', c', I, hd, e3⟩ := x17 (M0 := N) (n := n) (R := N.length) rfl h0 (by omega) (by omega) n 0 N [] (by omega) (RedI.start hr)
 have hout := I.end' hd hr
 have hpl := I.pl
 have hfst := t15 hpl
 have hsnd := hn3 hpl
 rw [hout] at hfst hsnd
 have hP : pn P' = pvP (redR N) := by rw [← hfst]; unfold pn pvP; rw [List.map_map]; rfl
 have hPl : P'.length = (redR N).length := by rw [← hfst, List.length_map]
 have hR : (M'.map vs).take (redR N).length = pvR (redR N) := by
  rw [← hPl, ← List.map_take, ← hsnd]; unfold pvR; rw [List.map_map]; rfl
 have hMl : M'.length = N.length := I.len
 rw [hP] at e3
 have hpl2 := ga8 (redR N)
 have hnil : ivs (pn []) = [] := rfl
 rw [hnil] at e3
 simp only [Int.natCast_zero] at e3
 have htk : (lls 2 (M'.map vs)).take (redR N).length = lls 2 (pvR (redR N)) := by rw [mm0, hR]
 rw [o10 rfl T65 rfl]
 unfold F65 c65
 simp (disch := first | omega | fail) only [push_cast, seval, ui5, lu7, y81, bj9, wrap64, dec_lt, cw6, nl3, qc6, mr8, nb8, if_pos, if_neg, e1, e2]
 rw [e3]
 simp (disch := first | omega | fail) only [push_cast, seval, ui5, lu7, y81, bj9, wrap64, dec_lt, cw6, nl3, qc6, mr8, nb8, if_pos, if_neg, hpl2, htk]
theorem zn0 {M : List (List Int)} (he : ¬ matE q M = 0) : o24 W 63 [.x (.int .i64 q), .fz b (.sl nl 0 1 (lvs nr M))] [] = some (.tup [.x (.int .i64 0), .x (.int .i64 (matE q M))], [], []) := by
 have e1 := fun b nl nr => rk7 (q := q) (b := b) (nl := nl) (nr := nr) he
 rw [o10 rfl T63 rfl]
 unfold F63 c63
 simp (disch := first | omega | fail) only [push_cast, seval, ui5, lu7, y81, bj9, wrap64, dec_lt, cw6, nl3, qc6, mr8, nb8, if_pos, if_neg, e1]
theorem sz4 (he : matE q [] = 0) : o24 W 63 [.x (.int .i64 q), .fz b (.sl nl 0 1 [])] [] = some (.tup [.x (.int .i64 0), .x (.int .i64 0)], [], []) := by
 have e1 := fun b nl => e58 (q := q) (b := b) (nl := nl) he
 rw [o10 rfl T63 rfl]
 unfold F63 c63
 simp (disch := first | omega | fail) only [push_cast, seval, ui5, lu7, y81, bj9, wrap64, dec_lt, cw6, nl3, qc6, mr8, nb8, if_pos, if_neg, e1]
theorem u33 [IsFld q] {N : List (List (El q))} {n : Nat} (h0 : 0 < N.length) (hl : N.length ≤ 64) (hr : ∀ r ∈ N, r.length = n) (hn0 : 0 < n) (hn : n ≤ 64) :
 o24 W 63 [.x (.int .i64 q), .fz b (.sl nl 0 1 (lvs nr (N.map vs)))] [] = some (.tup [.x (.int .i64 (redR N).length), .x (.int .i64 0)], [], []) := by
 have e1 := fun b nl nr => lq3 (b := b) (nl := nl) (nr := nr) h0 hl hr hn0 hn
 have h1 := ga8 (redR N)
 rw [o10 rfl T63 rfl]
 unfold F63 c63
 simp (disch := first | omega | fail) only [push_cast, seval, ui5, lu7, y81, bj9, wrap64, dec_lt, cw6, nl3, qc6, mr8, nb8, if_pos, if_neg, e1, h1]
end
end Go.Proofs.Ytjpejkakodbchaa
namespace Go.Proofs.Ytjpejkakodbchaa
open Go.Am Go.Vm Go.Alg
section
variable {q : Int} {b b' : Bool} {nl nl' nr nr' : Nat}
section
variable [IsFld q] {N : Nat} {P Q : List (List (El q))}
theorem bv3 {i k : Nat} {a w : List (El q)} (hk : Q[k]? = some w) (hal : a.length = Q.length) (hwl : w.length = N) (hN : N ≤ 1000) (hQ : Q.length ≤ 1000) (hP : P.length ≤ 1000) {V7 : Tree} : ∀ (d j : Nat) (x : List (El q)), j + d = N → x.length = N → ∀ ks,
 vgoL W ⟨h18, [.tmp 6, .tmp 7], 0⟩ [2, 9, 11, 14, 16, 47, 48, 49, 58, 59, 60, 68, 69, 70] c18L0 (.blk 4 [2, 9, 11, 14, 47, 48, 49, 58, 59, 60] :: ks) [(2, .fz b' (.sl nl' 0 1 (lvs nr' (Q.map vs)))), (9, .fz true (pF q)), (11, .own 0 []), (14, .own 1 []), (16, .x (.int .i64 ((wf a k).v))), (47, .fz b (.sl nl 0 1 (lvs nr (P.map vs)))), (48, .x (.int .i64 P.length)), (49, .x (.int .i64 i)), (58, .fz b (.sl nr 0 1 (ivs (vs a)))), (59, .x (.int .i64 Q.length)), (60, .x (.int .i64 k)), (68, .fz b' (.sl nr' 0 1 (ivs (vs w)))), (69, .x (.int .i64 N)), (70, .x (.int .i64 j))] [V7, .sl 0 3 1 (ivs (vs x))] =
  vgo W ⟨h18, [.tmp 6, .tmp 7], 0⟩ ks (VFr.of [(2, .fz b' (.sl nl' 0 1 (lvs nr' (Q.map vs)))), (9, .fz true (pF q)), (11, .own 0 []), (14, .own 1 []), (47, .fz b (.sl nl 0 1 (lvs nr (P.map vs)))), (48, .x (.int .i64 P.length)), (49, .x (.int .i64 i)), (58, .fz b (.sl nr 0 1 (ivs (vs a)))), (59, .x (.int .i64 Q.length)), (60, .x (.int .i64 k))]) [V7, .sl 0 3 1 (ivs (vs (mac (wf a k) w d j x)))]
 | 0, j, x, hj, hx, ks => by
   rw [mac, sb5 c18L0.eq_def]
   simp (disch := first | omega | fail) only [push_cast, seval, ui5, lu7, y81, bj9, wrap64, dec_lt, cw6, nl3, qc6, mr8, nb8, if_pos, if_neg]
 | d + 1, j, x, hj, hx, ks => by
   have ih := bv3 (i := i) hk hal hwl hN hQ hP (V7 := V7) d (j + 1) (x.set j (wf x j + wf a k * wf w j)) (by omega) (by rw [List.length_set]; exact hx) ks
   have hk' := (List.getElem?_eq_some_iff.1 hk).1
   have h2 := iva (l := w) (i := j) (by omega)
   have h3 := iva (l := x) (i := j) (by omega)
   rw [Int.natCast_add, Int.natCast_one, ← g52, on0, ym6] at ih
   rw [mac, ← ih, sb5 c18L0.eq_def]
   simp (disch := first | omega | fail) only [push_cast, seval, ui5, lu7, y81, bj9, wrap64, dec_lt, cw6, nl3, qc6, mr8, nb8, if_pos, if_neg, h2, h3]
theorem mt5 {i : Nat} {a : List (El q)} (hal : a.length = Q.length) (hwl : ∀ w ∈ Q, w.length = N) (hN : N ≤ 1000) (hQ : Q.length ≤ 1000) (hP : P.length ≤ 1000) {V7 : Tree} : ∀ (n k : Nat) (x : List (El q)), k + n = Q.length → x.length = N → ∀ ks,
 vgoL W ⟨h18, [.tmp 6, .tmp 7], 0⟩ [2, 9, 11, 14, 47, 48, 49, 58, 59, 60] c18L1 (.blk 2 [2, 9, 11, 14, 47, 48, 49] :: ks) [(2, .fz b' (.sl nl' 0 1 (lvs nr' (Q.map vs)))), (9, .fz true (pF q)), (11, .own 0 []), (14, .own 1 []), (47, .fz b (.sl nl 0 1 (lvs nr (P.map vs)))), (48, .x (.int .i64 P.length)), (49, .x (.int .i64 i)), (58, .fz b (.sl nr 0 1 (ivs (vs a)))), (59, .x (.int .i64 Q.length)), (60, .x (.int .i64 k))] [V7, .sl 0 3 1 (ivs (vs x))] =
  vgo W ⟨h18, [.tmp 6, .tmp 7], 0⟩ ks (VFr.of [(2, .fz b' (.sl nl' 0 1 (lvs nr' (Q.map vs)))), (9, .fz true (pF q)), (11, .own 0 []), (14, .own 1 []), (47, .fz b (.sl nl 0 1 (lvs nr (P.map vs)))), (48, .x (.int .i64 P.length)), (49, .x (.int .i64 i))]) [V7, .sl 0 3 1 (ivs (vs (prow N a (Q.drop k) k x)))]
 | 0, k, x, hk, hx, ks => by
   rw [List.drop_eq_nil_of_le (by omega), prow, sb5 c18L1.eq_def]
   simp (disch := first | omega | fail) only [push_cast, seval, ui5, lu7, y81, bj9, wrap64, dec_lt, cw6, nl3, qc6, mr8, nb8, if_pos, if_neg]
 | n + 1, k, x, hk, hx, ks => by
   obtain ⟨w, hw⟩ := ge6 (l := Q) (i := k) (by omega)
   have hwn := hwl w (List.mem_of_getElem? hw)
   have ih := mt5 (i := i) hal hwl hN hQ hP (V7 := V7) n (k + 1) (mac (wf a k) w N 0 x) (by omega) (by rw [ev4]; exact hx) ks
   have e := fun ks => bv3 (i := i) (b := b) (b' := b') (nl := nl) (nl' := nl') (nr := nr) (nr' := nr') (a := a) hw hal hwn hN hQ hP (V7 := V7) N 0 x (by omega) hx ks
   simp only [Int.natCast_zero, List.take_zero, List.drop_zero, rp2, lz6, x25, List.map_nil, List.length_nil] at e
   have h1 := iva (l := a) (i := k) (by omega)
   have h2 := mva (nl := nr') hw
   rw [Int.natCast_add, Int.natCast_one] at ih
   rw [i62 hw, prow, ← ih, sb5 c18L1.eq_def]
   simp (disch := first | omega | fail) only [push_cast, seval, ui5, lu7, y81, bj9, wrap64, dec_lt, cw6, nl3, qc6, mr8, nb8, if_pos, if_neg, h1, h2, hwn]
   rw [e]
   simp (disch := first | omega | fail) only [push_cast, seval, ui5, lu7, y81, bj9, wrap64, dec_lt, cw6, nl3, qc6, mr8, nb8, if_pos, if_neg]
theorem s66 (hPl : ∀ a ∈ P, a.length = Q.length) (hwl : ∀ w ∈ Q, w.length = N) (hQ0 : 0 < Q.length) (hN : N ≤ 1000) (hQ : Q.length ≤ 1000) (hP : P.length ≤ 1000) : ∀ (n i : Nat), i + n = P.length → ∀ ks,
 vgoL W ⟨h18, [.tmp 6, .tmp 7], 0⟩ [2, 9, 11, 47, 48, 49] c18L2 (.blk 0 [11] :: ks) [(2, .fz b' (.sl nl' 0 1 (lvs nr' (Q.map vs)))), (9, .fz true (pF q)), (11, .own 0 []), (47, .fz b (.sl nl 0 1 (lvs nr (P.map vs)))), (48, .x (.int .i64 P.length)), (49, .x (.int .i64 i))] [.sl 1 23 1 (lls 2 (((em6 N P Q).take i).map vs))] =
  vgo W ⟨h18, [.tmp 6, .tmp 7], 0⟩ ks (VFr.of [(11, .own 0 [])]) [.sl 1 23 1 (lls 2 ((em6 N P Q).map vs))]
 | 0, i, hi, ks => by
   obtain rfl : i = P.length := by omega
   rw [List.take_of_length_le (by simp [em6]), sb5 c18L2.eq_def]
   simp (disch := first | omega | fail) only [push_cast, seval, ui5, lu7, y81, bj9, wrap64, dec_lt, cw6, nl3, qc6, mr8, nb8, if_pos, if_neg]
 | n + 1, i, hi, ks => by
   have ih := s66 hPl hwl hQ0 hN hQ hP n (i + 1) (by omega) ks
   obtain ⟨a, ha⟩ := ge6 (l := P) (i := i) (by omega)
   obtain ⟨w0, hw0⟩ := ge6 (l := Q) (i := 0) hQ0
   have hw0l := hwl w0 (List.mem_of_getElem? hw0)
   have hal := hPl a (List.mem_of_getElem? ha)
   have h0 := mva (nl := nr') hw0
   have h1 := mva (nl := nr) ha
   have e := fun ks => mt5 (i := i) (P := P) (b := b) (b' := b') (nl := nl) (nl' := nl') (nr := nr) (nr' := nr') hal hwl hN hQ hP (V7 := .sl 1 23 1 (lls 2 (((em6 N P Q).take i).map vs))) Q.length 0 (List.replicate N 0) (by omega) (by simp) ks
   have hz : List.replicate N (0 : Int) = vs (List.replicate N (0 : El q)) := by rw [← qj2]; rfl
   simp only [Int.natCast_zero, List.take_zero, List.drop_zero, rp2, lz6, x25, List.map_nil, List.length_nil] at e
   have hs : (em6 N P Q).take (i + 1) = (em6 N P Q).take i ++ [prow N a Q 0 (List.replicate N 0)] := by
    have : (em6 N P Q)[i]? = some (prow N a Q 0 (List.replicate N 0)) := by unfold em6; rw [List.getElem?_map, ha]; rfl
    rw [List.take_add_one, this]; rfl
   rw [hs, List.map_append, Int.natCast_add, Int.natCast_one] at ih
   have hpl : (em6 N P Q).length = P.length := by simp [em6]
   rw [← ih, sb5 c18L2.eq_def]
   simp (disch := first | omega | fail) only [push_cast, seval, ui5, lu7, y81, bj9, wrap64, dec_lt, cw6, nl3, qc6, mr8, nb8, if_pos, if_neg, h0, h1, hw0l, hz, hal]
   rw [e]
   simp (disch := first | omega | fail) only [push_cast, seval, ui5, lu7, y81, bj9, wrap64, dec_lt, cw6, nl3, qc6, mr8, nb8, if_pos, if_neg, hpl]
end
def ug5 (q : Int) (M K : List (List Int)) : Int := if matE q M = 0 then if matE q K = 0 then if 0 < M.length ∧ (nth M 0).length ≠ K.length then 3 else 0 else matE q K else matE q M
theorem bj2 {M K : List (List Int)} (he : ¬ ug5 q M K = 0) :
 o24 W 18 [.x (.int .i64 q), .fz b (.sl nl 0 1 (lvs nr M)), .fz b' (.sl nl' 0 1 (lvs nr' K))] [] = some (.tup [.own 0 [], .x (.int .i64 (ug5 q M K))], [.sl 1 23 1 []], []) := by
 have e1 := fun b nl nr => or9 (M := M) (q := q) (b := b) (nl := nl) (nr := nr)
 have e2 := fun b nl nr => or9 (M := K) (q := q) (b := b) (nl := nl) (nr := nr)
 unfold ug5 at he ⊢
 by_cases h1 : matE q M = 0
 ·simp only [if_pos h1] at he ⊢
  by_cases h2 : matE q K = 0
  ·simp only [if_pos h2] at he ⊢
   by_cases h3 : 0 < M.length ∧ (nth M 0).length ≠ K.length
   ·rw [if_pos h3]
    have h4 := M.length
    obtain ⟨r0, hr0⟩ := ge6 (l := M) (i := 0) h3.1
    have h5 := lat (nl := nr) hr0
    have h6 := xr8 hr0
    rw [h6] at h3
    obtain ⟨N, hN, hNl⟩ := (ou8 h1).2
    have h7 : M.length ≤ 64 := by rw [hN, List.length_map]; exact hNl.1
    have h8 : ¬ (r0.length : Int) = (K.length : Int) := by omega
    rw [o10 rfl T18 rfl]
    unfold F18 c18
    simp (disch := first | omega | fail) only [push_cast, seval, ui5, lu7, y81, bj9, wrap64, dec_lt, cw6, nl3, qc6, mr8, nb8, if_pos, if_neg, e1, e2, h1, h2, h5, nb8 h8]
   ·rw [if_neg h3] at he; exact absurd rfl he
  ·simp only [if_neg h2] at he ⊢
   rw [o10 rfl T18 rfl]
   unfold F18 c18
   simp (disch := first | omega | fail) only [push_cast, seval, ui5, lu7, y81, bj9, wrap64, dec_lt, cw6, nl3, qc6, mr8, nb8, if_pos, if_neg, e1, e2, h1, nb8 h2]
 ·simp only [if_neg h1] at he ⊢
  rw [o10 rfl T18 rfl]
  unfold F18 c18
  simp (disch := first | omega | fail) only [push_cast, seval, ui5, lu7, y81, bj9, wrap64, dec_lt, cw6, nl3, qc6, mr8, nb8, if_pos, if_neg, e1, e2, nb8 h1]
theorem sg2 {K : List (List Int)} (he : ug5 q [] K = 0) :
 o24 W 18 [.x (.int .i64 q), .fz b (.sl nl 0 1 []), .fz b' (.sl nl' 0 1 (lvs nr' K))] [] = some (.tup [.own 0 [], .x (.int .i64 0)], [.sl 1 23 1 []], []) := by
 have e1 := fun b nl => or9 (q := q) (M := []) (b := b) (nl := nl) (nr := 0)
 have e2 := fun b nl nr => or9 (M := K) (q := q) (b := b) (nl := nl) (nr := nr)
 unfold ug5 at he
 split at he
 ·rename_i h1
  split at he
  ·rename_i h2
   obtain ⟨⟨⟨p0, m0, g0, mod⟩, hn⟩, _⟩ := ou8 h1
   haveI : IsFld q := ⟨⟨p0, m0, g0, mod, hn⟩⟩
   rw [em1] at e1
   rw [o10 rfl T18 rfl]
   unfold F18 c18
   simp (disch := first | omega | fail) only [push_cast, seval, ui5, lu7, y81, bj9, wrap64, dec_lt, cw6, nl3, qc6, mr8, nb8, if_pos, if_neg, e1, e2, h1, h2]
   rw [sb5 c18L2.eq_def]
   simp (disch := first | omega | fail) only [push_cast, seval, ui5, lu7, y81, bj9, wrap64, dec_lt, cw6, nl3, qc6, mr8, nb8, if_pos, if_neg]
  ·rename_i h2; exact absurd he h2
 ·rename_i h1; exact absurd he h1
theorem t12 [IsFld q] {P Q : List (List (El q))} {N : Nat} (hP0 : 0 < P.length) (hPl : ∀ a ∈ P, a.length = Q.length) (hwl : ∀ w ∈ Q, w.length = N) (hQ0 : 0 < Q.length) (hN0 : 0 < N) (hN : N ≤ 64) (hQ : Q.length ≤ 64) (hP : P.length ≤ 64) :
 o24 W 18 [.x (.int .i64 q), .fz b (.sl nl 0 1 (lvs nr (P.map vs))), .fz b' (.sl nl' 0 1 (lvs nr' (Q.map vs)))] [] = some (.tup [.own 0 [], .x (.int .i64 0)], [.sl 1 23 1 (lls 2 ((em6 N P Q).map vs))], []) := by
 have he1 := sy6 hP hPl hQ0 hQ
 have he2 := sy6 hQ hwl hN0 hN
 have hv1 := ru4 hPl
 have hv2 := ru4 hwl
 have e1 := fun b nl nr => or9 (q := q) (M := P.map vs) (b := b) (nl := nl) (nr := nr)
 have e2 := fun b nl nr => or9 (q := q) (M := Q.map vs) (b := b) (nl := nl) (nr := nr)
 obtain ⟨a0, ha0⟩ := ge6 (l := P) (i := 0) hP0
 have h5 := mva (nl := nr) ha0
 have ha0l := hPl a0 (List.mem_of_getElem? ha0)
 have e := fun ks => s66 (b := b) (b' := b') (nl := nl) (nl' := nl') (nr := nr) (nr' := nr') hPl hwl hQ0 (by omega) (by omega) (by omega) P.length 0 (by omega) ks
 simp only [Int.natCast_zero, List.take_zero, List.drop_zero, rp2, lz6, x25, List.map_nil, List.length_nil] at e
 rw [o10 rfl T18 rfl]
 unfold F18 c18
 simp (disch := first | omega | fail) only [push_cast, seval, ui5, lu7, y81, bj9, wrap64, dec_lt, cw6, nl3, qc6, mr8, nb8, if_pos, if_neg, e1, e2, he1, he2, h5, ha0l]
 rw [e]
 simp (disch := first | omega | fail) only [push_cast, seval, ui5, lu7, y81, bj9, wrap64, dec_lt, cw6, nl3, qc6, mr8, nb8, if_pos, if_neg]
end
end Go.Proofs.Ytjpejkakodbchaa
namespace Go.Proofs.Ytjpejkakodbchaa
open Go.Am Go.Vm Go.Alg
section
variable {q p m g : Int} [IsFld q] {t : Tree} {b : Bool} {nl nr n6 n7 n9 : Nat} {M : List (List (El q))} {A : List (Nat × List (El q))} {w : Nat} {i8 : Nat}
theorem m26 (u : RFo q p m g t) (hA : ∀ a ∈ A, a.2.length = w ∧ a.1 < w) (hAl : A.length ≤ 100000) (hW : w ≤ 100000) :
 ∀ (n k : Nat) (r : List (El q)), k + n = A.length → r.length = w → ∀ ks,
   vgoL W ⟨h84, [.tmp 4, .tmp 5], 0⟩ [1, 2, 6, 7, 8, 9, 10] c84L0 (.blk 2 [1, 2, 6, 7, 8, 9] :: ks) [(1, .fz b (.sl nl 0 1 (lvs nr (M.map vs)))), (2, .own 0 []), (6, .own 1 []), (7, .own 2 []), (8, .x (.int .i64 i8)), (9, .own 3 []), (10, .x (.int .i64 k))] [.pt 28 [.v (.int .i64 q), .v (.int .i64 p), .v (.int .i64 m), .v (.int .i64 g), .fz t], .sl n6 23 1 (lls 2 (pvR A)), .sl n7 3 1 (ivs (pvP A)), .sl (nl1 k) 3 1 (ivs (vs r))] =
    vgo W ⟨h84, [.tmp 4, .tmp 5], 0⟩ ks (VFr.of [(1, .fz b (.sl nl 0 1 (lvs nr (M.map vs)))), (2, .own 0 []), (6, .own 1 []), (7, .own 2 []), (8, .x (.int .i64 i8)), (9, .own 3 [])]) [.pt 28 [.v (.int .i64 q), .v (.int .i64 p), .v (.int .i64 m), .v (.int .i64 g), .fz t], .sl n6 23 1 (lls 2 (pvR A)), .sl n7 3 1 (ivs (pvP A)), .sl (nl1 A.length) 3 1 (ivs (vs (uo6 (A.drop k) r)))]
 | 0, k, r, hk, hr, ks => by
   obtain rfl : k = A.length := by omega
   have h1 := nu3 A
   rw [oh9 (by omega), sb5 c84L0.eq_def, uo6]
   simp (disch := first | omega | fail) only [push_cast, seval, ui5, lu7, y81, bj9, wrap64, dec_lt, cw6, nl3, qc6, mr8, nb8, if_pos, if_neg, h1]
 | n + 1, k, r, hk, hr, ks => by
   obtain ⟨a, ha⟩ := ge6 (l := A) (i := k) (by omega)
   obtain ⟨hal, hap⟩ := hA a (List.mem_of_getElem? ha)
   have ih := m26 u hA hAl hW n (k + 1) (dx9 (wf r a.1) r a.2) (by omega) (by rw [wx1 (by rw [hr, hal]), hr]) ks
   have h1 := nu3 A
   have h2 := ga8 A
   have h3 := x08 ha
   have h4 := bx6 ha
   have h5 := iva (l := r) (i := a.1) (by omega)
   have hl := fun b b' nl nl' => el1 (b := b) (b' := b') (nl := nl) (nl' := nl') (c := wf r a.1) (r := r) (o := a.2) (by omega) (by omega)
   rw [u.e] at hl
   have ht := u.n
   have ho := u.o
   rw [Int.natCast_add, Int.natCast_one] at ih
   rw [i62 ha, uo6, ← ih, sb5 c84L0.eq_def]
   simp (disch := first | omega | fail) only [push_cast, seval, ui5, lu7, y81, bj9, wrap64, dec_lt, cw6, nl3, qc6, mr8, nb8, if_pos, if_neg, h1, h2, h3, h4, h5, hl, ht, ho]
theorem hf5 {T2 T6 T7 : Tree} {r : List (El q)} (hrl : r.length = w) (hW : w ≤ 100000) : ∀ (n i : Nat), i + n = w → ∀ ks,
 vgoL W ⟨h84, [.tmp 4, .tmp 5], 0⟩ [1, 2, 6, 7, 8, 9, 11] c84L1 (.blk 4 [1, 2, 6, 7, 8, 9, 11] :: ks) [(1, .fz b (.sl nl 0 1 (lvs nr (M.map vs)))), (2, .own 0 []), (6, .own 1 []), (7, .own 2 []), (8, .x (.int .i64 i8)), (9, .own 3 []), (11, .x (.int .i64 i))] [T2, T6, T7, .sl n9 3 1 (ivs (vs r))] =
  vgo W ⟨h84, [.tmp 4, .tmp 5], 0⟩ ks (VFr.of [(1, .fz b (.sl nl 0 1 (lvs nr (M.map vs)))), (2, .own 0 []), (6, .own 1 []), (7, .own 2 []), (8, .x (.int .i64 i8)), (9, .own 3 []), (11, .x (.int .i64 (lv6 (r.drop i) + i : Nat)))]) [T2, T6, T7, .sl n9 3 1 (ivs (vs r))]
 | 0, i, hi, ks => by
   rw [oh9 (by omega), lv6, sb5 c84L1.eq_def]
   simp (disch := first | omega | fail) only [push_cast, seval, ui5, lu7, y81, bj9, wrap64, dec_lt, cw6, nl3, qc6, mr8, nb8, if_pos, if_neg]
 | n + 1, i, hi, ks => by
   have ih := hf5 (T2 := T2) (T6 := T6) (T7 := T7) hrl hW n (i + 1) (by omega) ks
   obtain ⟨a, ha⟩ := ge6 (l := r) (i := i) (by omega)
   have hwa : wf r i = a := by
    obtain ⟨h1, h2⟩ := List.getElem?_eq_some_iff.1 ha
    rw [i66 h1, h2]
   have h1 := iva (l := r) (i := i) (by omega)
   rw [hwa] at h1
   rw [Int.natCast_add, Int.natCast_one] at ih
   rw [i62 ha, lv6]
   by_cases h0 : a = 0
   ·rw [if_pos h0, show lv6 (r.drop (i + 1)) + 1 + i = lv6 (r.drop (i + 1)) + (i + 1) by omega, ← ih, sb5 c84L1.eq_def]
    have hv := r57.2 h0
    simp (disch := first | omega | fail) only [push_cast, seval, ui5, lu7, y81, bj9, wrap64, dec_lt, cw6, nl3, qc6, mr8, nb8, if_pos, if_neg, h1, hv]
   ·rw [if_neg h0, sb5 c84L1.eq_def]
    simp (disch := first | omega | fail) only [push_cast, seval, ui5, lu7, y81, bj9, wrap64, dec_lt, cw6, nl3, qc6, mr8, nb8, if_pos, if_neg, h1, nb8 (fun h => h0 (r57.1 h))]
theorem cc8 (u : RFo q p m g t) {T6 T7 : Tree} {c : El q} {r : List (El q)} {at' : Nat} (hrl : r.length = w) (hW : w ≤ 100000) : ∀ (n j : Nat), j + n = w → ∀ ks,
 vgoL W ⟨h84, [.tmp 4, .tmp 5], 0⟩ [1, 2, 6, 7, 8, 9, 11, 12, 13] c84L2 (.blk 6 [1, 2, 6, 7, 8, 9, 11] :: ks) [(1, .fz b (.sl nl 0 1 (lvs nr (M.map vs)))), (2, .own 0 []), (6, .own 1 []), (7, .own 2 []), (8, .x (.int .i64 i8)), (9, .own 3 []), (11, .x (.int .i64 at')), (12, .x (.int .i64 c.v)), (13, .x (.int .i64 j))] [.pt 28 [.v (.int .i64 q), .v (.int .i64 p), .v (.int .i64 m), .v (.int .i64 g), .fz t], T6, T7, .sl n9 3 1 (ivs (vs ((xf5 c r).take j ++ r.drop j)))] =
  vgo W ⟨h84, [.tmp 4, .tmp 5], 0⟩ ks (VFr.of [(1, .fz b (.sl nl 0 1 (lvs nr (M.map vs)))), (2, .own 0 []), (6, .own 1 []), (7, .own 2 []), (8, .x (.int .i64 i8)), (9, .own 3 []), (11, .x (.int .i64 at'))]) [.pt 28 [.v (.int .i64 q), .v (.int .i64 p), .v (.int .i64 m), .v (.int .i64 g), .fz t], T6, T7, .sl n9 3 1 (ivs (vs (xf5 c r)))]
 | 0, j, hj, ks => by
   obtain rfl : j = r.length := by omega
   unfold xf5
   rw [l44, sb5 c84L2.eq_def]
   simp (disch := first | omega | fail) only [push_cast, seval, ui5, lu7, y81, bj9, wrap64, dec_lt, cw6, nl3, qc6, mr8, nb8, if_pos, if_neg]
 | n + 1, j, hj, ks => by
   have ih := cc8 u (T6 := T6) (T7 := T7) (c := c) (at' := at') hrl hW n (j + 1) (by omega) ks
   obtain ⟨a, ha⟩ := ge6 (l := r) (i := j) (by omega)
   have hcl := mh9 (fun x => x * c) r j
   have hat := zw5 (f := fun x => x * c) (l := r) (j := j) (by omega)
   have hset := fz1 (f := fun x => x * c) ha
   have hsc : ∀ x : List (El q), xf5 c x = x.map fun x => x * c := fun _ => rfl
   rw [hsc, ← hset] at ih
   rw [hsc]
   generalize hy : (r.map fun x => x * c).take j ++ r.drop j = y at ih hcl hat hset
   have hwy : wf y j = a := by
    unfold wf; rw [List.getD_eq_getElem?_getD, hat, ha]; rfl
   have h1 := iva (l := y) (i := j) (by omega)
   rw [hwy] at h1
   have ht := u.n
   have ho := u.o
   have vmul := fun x y : Int => n06 (q := q) (x := x) (y := y)
   rw [u.e] at vmul
   have hs := g52 y j (a * c)
   rw [ym6] at hs
   rw [Int.natCast_add, Int.natCast_one] at ih
   rw [← ih, sb5 c84L2.eq_def]
   simp (disch := first | omega | fail) only [push_cast, seval, ui5, lu7, y81, bj9, wrap64, dec_lt, cw6, nl3, qc6, mr8, nb8, if_pos, if_neg, h1, vmul, ht, ho, hs]
theorem nc1 (u : RFo q p m g t) {T7 : Tree} (hA : ∀ a ∈ A, a.2.length = w ∧ a.1 < w) (hAl : A.length ≤ 100000) (hW : w ≤ 100000) {r : List (El q)} (hrl : r.length = w) {at' : Nat} (hat : at' < w) : ∀ (n k : Nat), k + n = A.length → ∀ ks,
 vgoL W ⟨h84, [.tmp 4, .tmp 5], 0⟩ [1, 2, 6, 7, 8, 9, 11, 14] c84L3 (.blk 8 [1, 2, 6, 7, 8, 9, 11] :: ks) [(1, .fz b (.sl nl 0 1 (lvs nr (M.map vs)))), (2, .own 0 []), (6, .own 1 []), (7, .own 2 []), (8, .x (.int .i64 i8)), (9, .own 3 []), (11, .x (.int .i64 at')), (14, .x (.int .i64 k))] [.pt 28 [.v (.int .i64 q), .v (.int .i64 p), .v (.int .i64 m), .v (.int .i64 g), .fz t], .sl n6 23 1 (lls 2 (pvR ((A.map (updR at' r)).take k ++ A.drop k))), T7, .sl n9 3 1 (ivs (vs r))] =
  vgo W ⟨h84, [.tmp 4, .tmp 5], 0⟩ ks (VFr.of [(1, .fz b (.sl nl 0 1 (lvs nr (M.map vs)))), (2, .own 0 []), (6, .own 1 []), (7, .own 2 []), (8, .x (.int .i64 i8)), (9, .own 3 []), (11, .x (.int .i64 at'))]) [.pt 28 [.v (.int .i64 q), .v (.int .i64 p), .v (.int .i64 m), .v (.int .i64 g), .fz t], .sl n6 23 1 (lls 2 (pvR (A.map (updR at' r)))), T7, .sl n9 3 1 (ivs (vs r))]
 | 0, k, hk, ks => by
   obtain rfl : k = A.length := by omega
   have h1 := nu3 (A.map (updR at' r))
   rw [List.length_map] at h1
   rw [l44, sb5 c84L3.eq_def]
   simp (disch := first | omega | fail) only [push_cast, seval, ui5, lu7, y81, bj9, wrap64, dec_lt, cw6, nl3, qc6, mr8, nb8, if_pos, if_neg, h1]
 | n + 1, k, hk, ks => by
   have ih := nc1 u (T7 := T7) hA hAl hW hrl hat n (k + 1) (by omega) ks
   obtain ⟨a, ha⟩ := ge6 (l := A) (i := k) (by omega)
   obtain ⟨hal, hap⟩ := hA a (List.mem_of_getElem? ha)
   have hcl := mh9 (updR at' r) A k
   have hca := zw5 (f := updR at' r) (l := A) (j := k) (by omega)
   have hset := fz1 (f := updR at' r) ha
   rw [← hset] at ih
   generalize hy : (A.map (updR at' r)).take k ++ A.drop k = Y at ih hcl hca hset
   rw [ha] at hca
   have h0 := nu3 Y
   have h1 := x08 hca
   have h2 := iva (l := a.2) (i := at') (by omega)
   have hl := fun b b' nl nl' => el1 (b := b) (b' := b') (nl := nl) (nl' := nl') (c := wf a.2 at') (r := a.2) (o := r) (by omega) (by omega)
   rw [u.e] at hl
   have hs : (pvR Y).set k (vs (dx9 (wf a.2 at') a.2 r)) = pvR (Y.set k (updR at' r a)) := by rw [← lo1]; rfl
   have ht := u.n
   have ho := u.o
   rw [Int.natCast_add, Int.natCast_one] at ih
   rw [← ih, sb5 c84L3.eq_def]
   simp (disch := first | omega | fail) only [push_cast, seval, ui5, lu7, y81, bj9, wrap64, dec_lt, cw6, nl3, qc6, mr8, nb8, if_pos, if_neg, h0, h1, h2, hl, ht, ho, hs]
theorem on7 {T2 T6 T9 : Tree} (hAl : A.length ≤ 100000) {at' : Nat} (hl : (lls 2 (pvR A)).length = A.length) : ∀ (n k : Nat), k + n = A.length → ∀ ks,
 vgoL W ⟨h84, [.tmp 4, .tmp 5], 0⟩ [1, 2, 6, 7, 8, 9, 11, 15] c84L4 (.blk 10 [1, 2, 6, 7, 8, 9, 11, 15] :: ks) [(1, .fz b (.sl nl 0 1 (lvs nr (M.map vs)))), (2, .own 0 []), (6, .own 1 []), (7, .own 2 []), (8, .x (.int .i64 i8)), (9, .own 3 []), (11, .x (.int .i64 at')), (15, .x (.int .i64 k))] [T2, .sl n6 23 1 (lls 2 (pvR A)), .sl n7 3 1 (ivs (pvP A)), T9] =
  vgo W ⟨h84, [.tmp 4, .tmp 5], 0⟩ ks (VFr.of [(1, .fz b (.sl nl 0 1 (lvs nr (M.map vs)))), (2, .own 0 []), (6, .own 1 []), (7, .own 2 []), (8, .x (.int .i64 i8)), (9, .own 3 []), (11, .x (.int .i64 at')), (15, .x (.int .i64 (posR at' (A.drop k) + k : Nat)))]) [T2, .sl n6 23 1 (lls 2 (pvR A)), .sl n7 3 1 (ivs (pvP A)), T9]
 | 0, k, hk, ks => by
   have h1 := nu3 A
   rw [oh9 (by omega), posR, sb5 c84L4.eq_def]
   simp (disch := first | omega | fail) only [push_cast, seval, ui5, lu7, y81, bj9, wrap64, dec_lt, cw6, nl3, qc6, mr8, nb8, if_pos, if_neg, h1]
 | n + 1, k, hk, ks => by
   have ih := on7 (T2 := T2) (T6 := T6) (T9 := T9) hAl (at' := at') hl n (k + 1) (by omega) ks
   obtain ⟨a, ha⟩ := ge6 (l := A) (i := k) (by omega)
   have h1 := nu3 A
   have h2 := ga8 A
   have h4 := bx6 ha
   rw [Int.natCast_add, Int.natCast_one] at ih
   rw [i62 ha, posR]
   by_cases hlt : a.1 < at'
   ·rw [if_pos hlt, show posR at' (A.drop (k + 1)) + 1 + k = posR at' (A.drop (k + 1)) + (k + 1) by omega, ← ih, sb5 c84L4.eq_def]
    simp (disch := first | omega | fail) only [push_cast, seval, ui5, lu7, y81, bj9, wrap64, dec_lt, cw6, nl3, qc6, mr8, nb8, if_pos, if_neg, h1, h2, h4]
   ·rw [if_neg hlt, sb5 c84L4.eq_def]
    simp (disch := first | omega | fail) only [push_cast, seval, ui5, lu7, y81, bj9, wrap64, dec_lt, cw6, nl3, qc6, mr8, nb8, if_pos, if_neg, h1, h2, h4]
theorem wv5 (u : RFo q p m g t) (hMl : ∀ r ∈ M, r.length = w) (hMn : M.length ≤ 500) (hW : w ≤ 1000) : ∀ (n i : Nat) (A : List (Nat × List (El q))), i + n = M.length → A.length ≤ i → (∀ a ∈ A, a.2.length = w ∧ a.1 < w) → ∀ ks,
 vgoL W ⟨h84, [.tmp 4, .tmp 5], 0⟩ [1, 2, 6, 7, 8] c84L5 (.blk 0 [6, 7] :: ks) [(1, .fz b (.sl nl 0 1 (lvs nr (M.map vs)))), (2, .own 0 []), (6, .own 1 []), (7, .own 2 []), (8, .x (.int .i64 i))] [.pt 28 [.v (.int .i64 q), .v (.int .i64 p), .v (.int .i64 m), .v (.int .i64 g), .fz t], .sl (nl0 A.length) 23 1 (lls 2 (pvR A)), .sl (nl0 A.length) 3 1 (ivs (pvP A))] =
  vgo W ⟨h84, [.tmp 4, .tmp 5], 0⟩ ks (VFr.of [(6, .own 1 []), (7, .own 2 [])]) [.pt 28 [.v (.int .i64 q), .v (.int .i64 p), .v (.int .i64 m), .v (.int .i64 g), .fz t], .sl (nl0 ((M.drop i).foldl vp4 A).length) 23 1 (lls 2 (pvR ((M.drop i).foldl vp4 A))), .sl (nl0 ((M.drop i).foldl vp4 A).length) 3 1 (ivs (pvP ((M.drop i).foldl vp4 A)))]
 | 0, i, A, hi, hAi, hA, ks => by
   rw [oh9 (by omega), List.foldl_nil, sb5 c84L5.eq_def]
   simp (disch := first | omega | fail) only [push_cast, seval, ui5, lu7, y81, bj9, wrap64, dec_lt, cw6, nl3, qc6, mr8, nb8, if_pos, if_neg]
 | n + 1, i, A, hi, hAi, hA, ks => by
   have IH := wv5 u hMl hMn hW n (i + 1)
   obtain ⟨r0, hr0⟩ := ge6 (l := M) (i := i) (by omega)
   have hr0l := hMl r0 (List.mem_of_getElem? hr0)
   have h0 := mva (nl := nr) hr0
   rw [i62 hr0, List.foldl_cons]
   have hcp := fun b nl => xr6 (b := b) (nl := nl) (l := vs r0) (by rw [fi2]; omega)
   have e2 := fun ks => m26 (b := b) (nl := nl) (nr := nr) (n6 := nl0 A.length) (n7 := nl0 A.length) (M := M) (i8 := i) u hA (by omega) (by omega) A.length 0 r0 (by omega) hr0l ks
   rw [List.drop_zero] at e2
   obtain ⟨r, hr⟩ : ∃ r, uo6 A r0 = r := ⟨_, rfl⟩
   rw [hr] at e2
   have hrl : r.length = w := by rw [← hr]; exact m12 (n := w) (fun a ha => (hA a ha).1) A r0 (fun _ h => h) hr0l
   have e3 := fun n9 T2 T6 T7 ks => hf5 (b := b) (nl := nl) (nr := nr) (n9 := n9) (M := M) (i8 := i) (T2 := T2) (T6 := T6) (T7 := T7) hrl (by omega) w 0 (by omega) ks
   rw [List.drop_zero, Nat.add_zero] at e3
   obtain ⟨at', hat⟩ : ∃ x, lv6 r = x := ⟨_, rfl⟩
   have hle : at' ≤ w := by rw [← hat, ← hrl]; exact sb2 r
   rw [hat] at e3
   have hadd := jp6 hr hat
   simp only [Int.natCast_zero, og7] at e2 e3
   have h2 := nu3 A
   have h3 := ga8 A
   by_cases hfull : at' = w
   ·rw [if_pos (by rw [hrl]; exact hfull)] at hadd
    rw [hadd]
    have ih := IH A (by omega) (by omega) hA ks
    rw [Int.natCast_add, Int.natCast_one] at ih
    rw [← ih, sb5 c84L5.eq_def]
    simp (disch := first | omega | fail) only [push_cast, seval, ui5, lu7, y81, bj9, wrap64, dec_lt, cw6, nl3, qc6, mr8, nb8, if_pos, if_neg, h0, hcp]
    rw [e2]
    simp (disch := first | omega | fail) only [push_cast, seval, ui5, lu7, y81, bj9, wrap64, dec_lt, cw6, nl3, qc6, mr8, nb8, if_pos, if_neg]
    rw [e3]
    simp (disch := first | omega | fail) only [push_cast, seval, ui5, lu7, y81, bj9, wrap64, dec_lt, cw6, nl3, qc6, mr8, nb8, if_pos, if_neg]
   ·rw [if_neg (by rw [hrl]; exact hfull)] at hadd
    have hne : wf r at' ≠ 0 := by have := aa0 (l := r) (by rw [hat, hrl]; omega); rwa [hat] at this
    have h1 := iva (l := r) (i := at') (by omega)
    obtain ⟨c, hc⟩ : ∃ c, FK.inv (wf r at') = c := ⟨_, rfl⟩
    have hv := rl7 hne
    rw [hc] at hv hadd
    have ht := u.n
    have ho := u.o
    have vinv := fun x : Int => dy2 (q := q) (x := x)
    rw [u.e] at vinv
    have e4 := fun n9 T6 T7 ks => cc8 (b := b) (nl := nl) (nr := nr) (n9 := n9) (M := M) (i8 := i) (T6 := T6) (T7 := T7) (at' := at') u (c := c) hrl (by omega) w 0 (by omega) ks
    rw [List.take_zero, List.nil_append, List.drop_zero] at e4
    obtain ⟨s, hs⟩ : ∃ s, xf5 c r = s := ⟨_, rfl⟩
    have hsl : s.length = w := by rw [← hs]; unfold xf5; rw [List.length_map, hrl]
    rw [hs] at e4 hadd
    have e5 := fun n6 n9 T7 ks => nc1 (b := b) (nl := nl) (nr := nr) (n6 := n6) (n9 := n9) (M := M) (i8 := i) (T7 := T7) u hA (by omega) (by omega) hsl (at' := at') (by omega) A.length 0 (by omega) ks
    rw [List.take_zero, List.drop_zero, List.nil_append] at e5
    obtain ⟨A', hA'⟩ : ∃ A', A.map (updR at' s) = A' := ⟨_, rfl⟩
    have hAl' : A'.length = A.length := by rw [← hA', List.length_map]
    have hpv : pvP A' = pvP A := by rw [← hA', so2]
    have hA2 : ∀ a ∈ A', a.2.length = w ∧ a.1 < w := fun a ha => by
     rw [← hA'] at ha
     obtain ⟨b, hb', rfl⟩ := List.mem_map.1 ha
     have := hA b hb'
     exact ⟨by show (dx9 _ _ _).length = w; rw [wx1 (by rw [this.1, hsl]), this.1], this.2⟩
    rw [hA'] at e5 hadd
    have h2' := nu3 A'
    have e6 := fun n6 n7 T2 T9 ks => on7 (b := b) (nl := nl) (nr := nr) (n6 := n6) (n7 := n7) (M := M) (i8 := i) (T2 := T2) (T6 := T2) (T9 := T9) (A := A') (by omega) (at' := at') (by rw [qf0, h2']) A'.length 0 (by omega) ks
    rw [List.drop_zero, Nat.add_zero, hpv] at e6
    obtain ⟨k, hk⟩ : ∃ k, posR at' A' = k := ⟨_, rfl⟩
    have hkl : k ≤ A'.length := by rw [← hk]; exact m85 _ _
    rw [hk] at e6
    rw [on6, hk] at hadd
    rw [hadd]
    have hnl : (A'.take k ++ (at', s) :: A'.drop k).length = A'.length + 1 := by
     simp only [List.length_append, List.length_cons, List.length_take, List.length_drop]; omega
    have ih := IH (A'.take k ++ (at', s) :: A'.drop k) (by omega) (by rw [hnl]; omega) (fun a ha => by
     rcases List.mem_append.1 ha with h | h
     ·exact hA2 a (List.mem_of_mem_take h)
     ·rcases List.mem_cons.1 h with rfl | h
      ·exact ⟨hsl, by show at' < w; omega⟩
      ·exact hA2 a (List.mem_of_mem_drop h)) ks
    rw [Int.natCast_add, Int.natCast_one] at ih
    rw [hnl] at ih
    simp only [Int.natCast_zero] at e4 e5 e6
    rw [← ih, sb5 c84L5.eq_def]
    simp (disch := first | omega | fail) only [push_cast, seval, ui5, lu7, y81, bj9, wrap64, dec_lt, cw6, nl3, qc6, mr8, nb8, if_pos, if_neg, h0, hcp]
    rw [e2]
    simp (disch := first | omega | fail) only [push_cast, seval, ui5, lu7, y81, bj9, wrap64, dec_lt, cw6, nl3, qc6, mr8, nb8, if_pos, if_neg]
    rw [e3]
    simp (disch := first | omega | fail) only [push_cast, seval, ui5, lu7, y81, bj9, wrap64, dec_lt, cw6, nl3, qc6, mr8, nb8, if_pos, if_neg, h1, vinv, ← hv, ht, ho]
    rw [e4]
    simp (disch := first | omega | fail) only [push_cast, seval, ui5, lu7, y81, bj9, wrap64, dec_lt, cw6, nl3, qc6, mr8, nb8, if_pos, if_neg, h2, ht]
    rw [e5]
    simp (disch := first | omega | fail) only [push_cast, seval, ui5, lu7, y81, bj9, wrap64, dec_lt, cw6, nl3, qc6, mr8, nb8, if_pos, if_neg]
    rw [e6]
    have hc1 := oz2 hkl
    have hj1 := ct5 hkl
    have hc2 := v40 (A := A') (k := k) (n := A'.length - k) (by omega)
    have hc3 := xb6 (P := pvP A) (k := k) h3 (by omega)
    have hc4 := zo1 (P := pvP A) (k := k) h3 (by omega)
    have hi1 := np4 A' k at' s
    have hi2 := xk2 (k := k) (p := at') (r := s) hpv
    have hmin' : min k A.length = k := by omega
    have hn1 : ((k : Int) + ((A'.length : Int) - (k : Int)) - (k : Int)).toNat = A'.length - k := by omega
    have hmin : min k A'.length = k := by omega
    simp (disch := first | omega | fail) only [push_cast, seval, ui5, lu7, y81, bj9, wrap64, dec_lt, cw6, nl3, qc6, mr8, nb8, if_pos, if_neg, hc1, hj1, hc2, hc3, hc4, hi1, hi2, bo6, nl9, by7, av1, h2', nu3, ga8, hn1, hmin, hmin', Int.sub_zero]
theorem di6 (hMl : ∀ r ∈ M, r.length = w) (hMn : M.length ≤ 500) (hW : w ≤ 1000) :
 o24 W 84 [.agg (rFs q), .fz b (.sl nl 0 1 (lvs nr (M.map vs)))] [] = some (.tup [.own 0 [], .own 1 []], [.sl (nl0 (redR M).length) 23 1 (lls 2 (pvR (redR M))), .sl (nl0 (redR M).length) 3 1 (ivs (pvP (redR M)))], []) := by
 obtain ⟨p, m, g, t, u⟩ := k75 q
 have e := fun ks => wv5 (b := b) (nl := nl) (nr := nr) u hMl hMn hW M.length 0 [] (by omega) (by simp) (fun a ha => by cases ha) ks
 rw [List.drop_zero] at e
 have hp : pvP ([] : List (Nat × List (El q))) = [] := rfl
 have hr : pvR ([] : List (Nat × List (El q))) = [] := rfl
 rw [hp, hr] at e
 simp only [vt2, List.length_nil] at e
 simp only [Int.natCast_zero, List.take_zero, List.drop_zero, rp2, lz6, x25, List.map_nil, List.length_nil] at e
 have ht := u.n
 rw [o10 rfl T84 rfl, u.e]
 unfold F84 c84
 simp (disch := first | omega | fail) only [push_cast, seval, ui5, lu7, y81, bj9, wrap64, dec_lt, cw6, nl3, qc6, mr8, nb8, if_pos, if_neg, ht]
 rw [e]
 simp (disch := first | omega | fail) only [push_cast, seval, ui5, lu7, y81, bj9, wrap64, dec_lt, cw6, nl3, qc6, mr8, nb8, if_pos, if_neg, redR]
end
end Go.Proofs.Ytjpejkakodbchaa
namespace Go.Proofs.Ytjpejkakodbchaa
open Go.Am Go.Vm Go.Alg
section
variable {q p m g : Int} [IsFld q] {t : Tree} {b b' : Bool} {nl nl' nr n7 n8 : Nat} {M : List (List (El q))} {A : List (Nat × List (El q))} {N : Nat}
theorem n97 (u : RFo q p m g t) (hA : ∀ a ∈ A, a.2.length = N ∧ a.1 < N) (hAl : A.length ≤ 1000) (hN : N ≤ 900) {c : Nat} (hc : c < N) {T9 : Tree} :
 ∀ (n k : Nat) (x : List (El q)), k + n = A.length → x.length = N → ∀ ks,
   vgoL W ⟨h85, [.tmp 6], 0⟩ [2, 3, 7, 8, 9, 10, 11, 12] c85L0 (.blk 2 [2, 3, 7, 8, 9, 10, 11] :: ks) [(2, .x (.int .i64 N)), (3, .own 0 []), (7, .own 1 []), (8, .own 2 []), (9, .own 3 []), (10, .x (.int .i64 c)), (11, .own 4 []), (12, .x (.int .i64 k))] [.pt 28 [.v (.int .i64 q), .v (.int .i64 p), .v (.int .i64 m), .v (.int .i64 g), .fz t], .sl n7 23 1 (lls 2 (pvR A)), .sl n8 3 1 (ivs (pvP A)), T9, .sl 0 3 1 (ivs (vs x))] =
    vgo W ⟨h85, [.tmp 6], 0⟩ ks (VFr.of [(2, .x (.int .i64 N)), (3, .own 0 []), (7, .own 1 []), (8, .own 2 []), (9, .own 3 []), (10, .x (.int .i64 c)), (11, .own 4 [])]) [.pt 28 [.v (.int .i64 q), .v (.int .i64 p), .v (.int .i64 m), .v (.int .i64 g), .fz t], .sl n7 23 1 (lls 2 (pvR A)), .sl n8 3 1 (ivs (pvP A)), T9, .sl 0 3 1 (ivs (vs (setN c (A.drop k) x)))]
 | 0, k, x, hk, hx, ks => by
   have h1 := nu3 A
   rw [oh9 (by omega), setN, sb5 c85L0.eq_def]
   simp (disch := first | omega | fail) only [push_cast, seval, ui5, lu7, y81, bj9, wrap64, dec_lt, cw6, nl3, qc6, mr8, nb8, if_pos, if_neg, h1]
 | n + 1, k, x, hk, hx, ks => by
   obtain ⟨a, ha⟩ := ge6 (l := A) (i := k) (by omega)
   obtain ⟨hal, hap⟩ := hA a (List.mem_of_getElem? ha)
   have ih := n97 u hA hAl hN hc (T9 := T9) n (k + 1) (x.set a.1 (-wf a.2 c)) (by omega) (by rw [List.length_set]; exact hx) ks
   have h1 := nu3 A
   have h2 := ga8 A
   have h3 := x08 ha
   have h4 := bx6 ha
   have h5 := iva (l := a.2) (i := c) (by omega)
   have hs := g52 x a.1 (-wf a.2 c)
   rw [tg5] at hs
   have ht := u.n
   have ho := u.o
   have vneg := fun x : Int => ik1 (q := q) (x := x)
   rw [u.e] at vneg
   rw [Int.natCast_add, Int.natCast_one] at ih
   rw [i62 ha, setN, ← ih, sb5 c85L0.eq_def]
   simp (disch := first | omega | fail) only [push_cast, seval, ui5, lu7, y81, bj9, wrap64, dec_lt, cw6, nl3, qc6, mr8, nb8, if_pos, if_neg, h1, h2, h3, h4, h5, vneg, ht, ho, hs]
theorem tc4 {α : Type} (A : List (Nat × α)) (c : Nat) : ((pvP A).any fun y => decide (y = (c : Int))) = A.any fun a => a.1 == c := by
 unfold pvP
 rw [List.any_map]
 congr 1
 funext a
 show decide ((a.1 : Int) = (c : Int)) = (a.1 == c)
 by_cases h : a.1 = c
 ·rw [h, decide_eq_true rfl]; simp
 ·rw [decide_eq_false (by omega)]; symm; simpa using h
theorem go5 (u : RFo q p m g t) (hA : ∀ a ∈ A, a.2.length = N ∧ a.1 < N) (hAl : A.length ≤ 1000) (hN : N ≤ 900) :
 ∀ (d c : Nat) (L : List (List (El q))), c + d = N → L.length ≤ c → ∀ ks,
   vgoL W ⟨h85, [.tmp 6], 0⟩ [2, 3, 7, 8, 9, 10] c85L1 (.blk 0 [3, 9] :: ks) [(2, .x (.int .i64 N)), (3, .own 0 []), (7, .own 1 []), (8, .own 2 []), (9, .own 3 []), (10, .x (.int .i64 c))] [.pt 28 [.v (.int .i64 q), .v (.int .i64 p), .v (.int .i64 m), .v (.int .i64 g), .fz t], .sl n7 23 1 (lls 2 (pvR A)), .sl n8 3 1 (ivs (pvP A)), .sl 1 23 1 (lls 2 (L.map vs))] =
    vgo W ⟨h85, [.tmp 6], 0⟩ ks (VFr.of [(3, .own 0 []), (9, .own 3 [])]) [.pt 28 [.v (.int .i64 q), .v (.int .i64 p), .v (.int .i64 m), .v (.int .i64 g), .fz t], .sl n7 23 1 (lls 2 (pvR A)), .sl n8 3 1 (ivs (pvP A)), .sl 1 23 1 (lls 2 ((L ++ ez9 N A d c).map vs))]
 | 0, c, L, hc, hL, ks => by
   rw [ez9, List.append_nil, sb5 c85L1.eq_def]
   simp (disch := first | omega | fail) only [push_cast, seval, ui5, lu7, y81, bj9, wrap64, dec_lt, cw6, nl3, qc6, mr8, nb8, if_pos, if_neg]
 | d + 1, c, L, hc, hL, ks => by
   have IH := go5 u hA hAl hN d (c + 1)
   have h1 := nu3 A
   have h2 := ga8 A
   have e1 := fun b nl => cr7 (b := b) (nl := nl) (l := pvP A) (x := (c : Int)) (by omega)
   rw [tc4] at e1
   rw [ez9]
   by_cases hin : (A.any fun a => a.1 == c) = true
   ·rw [if_pos hin]
    rw [hin] at e1
    have ih := IH L (by omega) (by omega) ks
    rw [Int.natCast_add, Int.natCast_one] at ih
    rw [← ih, sb5 c85L1.eq_def]
    simp (disch := first | omega | fail) only [push_cast, seval, ui5, lu7, y81, bj9, wrap64, dec_lt, cw6, nl3, qc6, mr8, nb8, if_pos, if_neg, e1]
   ·rw [if_neg hin]
    have hin' : (A.any fun a => a.1 == c) = false := Bool.eq_false_iff.mpr hin
    rw [hin'] at e1
    have ih := IH (L ++ [xRow N c A]) (by omega) (by simp; omega) ks
    rw [List.append_assoc, List.singleton_append, List.map_append, Int.natCast_add, Int.natCast_one] at ih
    have e := fun T9 ks => n97 (n7 := n7) (n8 := n8) (T9 := T9) u hA hAl hN (c := c) (by omega) A.length 0 ((List.replicate N (0 : El q)).set c 1) (by omega) (by simp) ks
    have hz : (List.replicate N (0 : Int)).set c 1 = vs ((List.replicate N (0 : El q)).set c 1) := by rw [← g52, ← qj2]; rfl
    simp only [Int.natCast_zero, List.take_zero, List.drop_zero, rp2, lz6, x25, List.map_nil, List.length_nil] at e
    have hx : setN c A ((List.replicate N (0 : El q)).set c 1) = xRow N c A := rfl
    rw [hx] at e
    rw [← ih, sb5 c85L1.eq_def]
    simp (disch := first | omega | fail) only [push_cast, seval, ui5, lu7, y81, bj9, wrap64, dec_lt, cw6, nl3, qc6, mr8, nb8, if_pos, if_neg, e1, hz]
    rw [e]
    simp (disch := first | omega | fail) only [push_cast, seval, ui5, lu7, y81, bj9, wrap64, dec_lt, cw6, nl3, qc6, mr8, nb8, if_pos, if_neg]
theorem zi7 (hMl : ∀ r ∈ M, r.length = N) (hMn : M.length ≤ 500) (hN : N ≤ 500) :
 o24 W 85 [.agg (rFs q), .fz b (.sl nl 0 1 (lvs nr (M.map vs))), .x (.int .i64 N)] [] = some (.own 0 [], [.sl (nl0 (zt5 N M).length) 23 1 (lls 2 (pvR (zt5 N M)))], []) := by
 obtain ⟨p, m, g, t, u⟩ := k75 q
 have e1 := fun b nl nr => di6 (b := b) (nl := nl) (nr := nr) hMl hMn (by omega)
 obtain ⟨r1, r2, r3⟩ := bi2 hMl
 have hAA : ∀ a ∈ redR M, a.2.length = N ∧ a.1 < N := fun a ha => ⟨r2 a ha, r1.lt (a.1, wf a.2) (xe5.2 ⟨a, ha, rfl⟩)⟩
 have hAl : (redR M).length ≤ 1000 := by
  have := r1.len
  unfold toF at this
  rw [List.length_map] at this
  omega
 have e2 := fun n7 n8 ks => go5 (n7 := n7) (n8 := n8) u hAA hAl (by omega) N 0 [] (by omega) (by simp) ks
 simp only [List.nil_append] at e2
 simp only [Int.natCast_zero, List.take_zero, List.drop_zero, rp2, lz6, x25, List.map_nil, List.length_nil] at e2
 have hnl := to9 N (redR M) N 0
 have e3 := fun b nl nr => di6 (b := b) (nl := nl) (nr := nr) (sg4 N (redR M) N 0) (by omega) (by omega)
 rw [u.e] at e1 e3
 have ht := u.n
 have ho := u.o
 rw [o10 rfl T85 rfl, u.e]
 unfold F85 c85
 simp (disch := first | omega | fail) only [push_cast, seval, ui5, lu7, y81, bj9, wrap64, dec_lt, cw6, nl3, qc6, mr8, nb8, if_pos, if_neg, ht, ho, e1]
 rw [e2]
 simp (disch := first | omega | fail) only [push_cast, seval, ui5, lu7, y81, bj9, wrap64, dec_lt, cw6, nl3, qc6, mr8, nb8, if_pos, if_neg, ht, ho, e3]
 rfl
end
end Go.Proofs.Ytjpejkakodbchaa
namespace Go.Proofs.Ytjpejkakodbchaa
open Go.Am Go.Vm Go.Alg
section
variable {l : List Int} {nl : Nat} {b : Bool} {x : Int}
theorem a02 (hl : l.length ≤ 9223372036854775807) : ∀ (n i : Nat), i + n = l.length → ∀ ks,
 vgoL W ⟨hNo, [.tmp 4], 0⟩ [0, 1, 7, 8] c149L0 (.blk 0 [] :: ks) [(0, .fz b (.sl nl 0 1 (ivs l))), (1, .x (.int .i64 x)), (7, .x (.int .i64 l.length)), (8, .x (.int .i64 i))] [] =
  if fidx (fun y => decide (x = y)) i (l.drop i) = -1 then vgo W ⟨hNo, [.tmp 4], 0⟩ ks (VFr.of []) [] else some (.x (.int .i64 (fidx (fun y => decide (x = y)) i (l.drop i))), [], [])
 | 0, i, hi, ks => by
   rw [oh9 (by omega), fidx, if_pos rfl, sb5 c149L0.eq_def]
   simp (disch := first | omega | fail) only [push_cast, seval, ui5, lu7, y81, bj9, wrap64, dec_lt, cw6, nl3, qc6, mr8, nb8, if_pos, if_neg]
 | n + 1, i, hi, ks => by
   have ih := a02 hl n (i + 1) (by omega) ks
   obtain ⟨a, ha⟩ := ge6 (l := l) (i := i) (by omega)
   have h1 := iat ha
   rw [i62 ha, fidx]
   rw [Int.natCast_add, Int.natCast_one] at ih
   by_cases hp : x = a
   ·rw [if_pos (decide_eq_true hp), if_neg (by omega), sb5 c149L0.eq_def]
    simp (disch := first | omega | fail) only [push_cast, seval, ui5, lu7, y81, bj9, wrap64, dec_lt, cw6, nl3, qc6, mr8, nb8, if_pos, if_neg, h1, mr8 hp]
   ·simp only [decide_eq_false hp, Bool.false_eq_true, if_false]
    rw [← ih, sb5 c149L0.eq_def]
    simp (disch := first | omega | fail) only [push_cast, seval, ui5, lu7, y81, bj9, wrap64, dec_lt, cw6, nl3, qc6, mr8, nb8, if_pos, if_neg, h1, nb8 hp]
theorem bd9 (hl : l.length ≤ 9223372036854775807) :
 o24 W 149 [.fz b (.sl nl 0 1 (ivs l)), .x (.int .i64 x)] [] = some (.x (.int .i64 (fidx (fun y => decide (x = y)) 0 l)), [], []) := by
 have e := fun ks => a02 (nl := nl) (b := b) (x := x) hl l.length 0 (by omega) ks
 simp only [Int.natCast_zero, List.take_zero, List.drop_zero, rp2, lz6, x25, List.map_nil, List.length_nil] at e
 rw [o10 rfl T149 rfl]
 unfold F149 c149
 simp (disch := first | omega | fail) only [push_cast, seval, ui5, lu7, y81, bj9, wrap64, dec_lt, cw6, nl3, qc6, mr8, nb8, if_pos, if_neg]
 rw [e]
 by_cases h : fidx (fun y => decide (x = y)) 0 l = -1
 ·rw [if_pos h, h]
  simp (disch := first | omega | fail) only [push_cast, seval, ui5, lu7, y81, bj9, wrap64, dec_lt, cw6, nl3, qc6, mr8, nb8, if_pos, if_neg]
 ·rw [if_neg h]
theorem o94 (hl : l.length ≤ 9223372036854775807) :
 o24 W 114 [.fz b (.sl nl 0 1 (ivs l)), .x (.int .i64 x)] [] = some (.x (.bool (l.any fun y => decide (x = y))), [], []) := by
 have e := fun b nl => bd9 (nl := nl) (b := b) (x := x) hl
 rw [o10 rfl T114 rfl]
 unfold F114 c114
 rw [← tl6 _ 0 l]
 simp (disch := first | omega | fail) only [push_cast, seval, ui5, lu7, y81, bj9, wrap64, dec_lt, cw6, nl3, qc6, mr8, nb8, if_pos, if_neg, e]
end
end Go.Proofs.Ytjpejkakodbchaa
namespace Go.Proofs.Ytjpejkakodbchaa
open Go.Am Go.Vm Go.Alg
section
variable {q : Int} {b : Bool} {nl nr n6 n7 : Nat}
section
variable [IsFld q] {A : List (Nat × List (El q))} {N : Nat} {K : List (List Int)}
theorem up4 (hA : ∀ a ∈ A, a.2.length = N ∧ a.1 < N) (hAl : A.length ≤ 1000) (hN : N ≤ 900) {c : Nat} (hc : c < N) {T9 : Tree} :
 ∀ (n k : Nat) (x : List (El q)), k + n = A.length → x.length = N → ∀ ks,
   vgoL W ⟨h64, [.tmp 4, .tmp 5], 0⟩ [0, 1, 6, 7, 9, 11, 12, 13, 39, 40, 54, 55, 56] c64L0 (.blk 2 [0, 1, 6, 7, 9, 11, 13, 39, 40] :: ks) [(0, .x (.int .i64 q)), (1, .fz b (.sl nl 0 1 (lvs nr K))), (6, .own 0 []), (7, .own 1 []), (9, .fz true (pF q)), (11, .own 2 []), (12, .x (.int .i64 c)), (13, .own 3 []), (39, .x (.int .i64 N)), (40, .x (.int .i64 c)), (54, .own 1 []), (55, .x (.int .i64 A.length)), (56, .x (.int .i64 k))] [.sl n6 23 1 (lls 2 (pvR A)), .sl n7 3 1 (ivs (pvP A)), T9, .sl 0 3 1 (ivs (vs x))] =
    vgo W ⟨h64, [.tmp 4, .tmp 5], 0⟩ ks (VFr.of [(0, .x (.int .i64 q)), (1, .fz b (.sl nl 0 1 (lvs nr K))), (6, .own 0 []), (7, .own 1 []), (9, .fz true (pF q)), (11, .own 2 []), (13, .own 3 []), (39, .x (.int .i64 N)), (40, .x (.int .i64 c))]) [.sl n6 23 1 (lls 2 (pvR A)), .sl n7 3 1 (ivs (pvP A)), T9, .sl 0 3 1 (ivs (vs (setN c (A.drop k) x)))]
 | 0, k, x, hk, hx, ks => by
   have h1 := nu3 A
   rw [oh9 (by omega), setN, sb5 c64L0.eq_def]
   simp (disch := first | omega | fail) only [push_cast, seval, ui5, lu7, y81, bj9, wrap64, dec_lt, cw6, nl3, qc6, mr8, nb8, if_pos, if_neg, h1]
 | n + 1, k, x, hk, hx, ks => by
   obtain ⟨a, ha⟩ := ge6 (l := A) (i := k) (by omega)
   obtain ⟨hal, hap⟩ := hA a (List.mem_of_getElem? ha)
   have ih := up4 hA hAl hN hc (T9 := T9) n (k + 1) (x.set a.1 (-wf a.2 c)) (by omega) (by rw [List.length_set]; exact hx) ks
   have h1 := nu3 A
   have h2 := ga8 A
   have h3 := x08 ha
   have h4 := bx6 ha
   have h5 := iva (l := a.2) (i := c) (by omega)
   have hs := g52 x a.1 (-wf a.2 c)
   rw [tg5] at hs
   rw [Int.natCast_add, Int.natCast_one] at ih
   rw [i62 ha, setN, ← ih, sb5 c64L0.eq_def]
   simp (disch := first | omega | fail) only [push_cast, seval, ui5, lu7, y81, bj9, wrap64, dec_lt, cw6, nl3, qc6, mr8, nb8, if_pos, if_neg, h1, h2, h3, h4, h5, hs]
theorem lu0 {α : Type} (A : List (Nat × α)) (c : Nat) : ((pvP A).any fun y => decide ((c : Int) = y)) = A.any fun a => a.1 == c := by
 rw [← tc4]
 congr 1
 funext y
 exact decide_eq_decide.2 eq_comm
theorem xl7 (hA : ∀ a ∈ A, a.2.length = N ∧ a.1 < N) (hAl : A.length ≤ 1000) (hN : N ≤ 900) (hK : 0 < K.length) (hK0 : (nth K 0).length = N) :
 ∀ (d c : Nat) (L : List (List (El q))), c + d = N → L.length ≤ c → ∀ ks,
   vgoL W ⟨h64, [.tmp 4, .tmp 5], 0⟩ [0, 1, 6, 7, 9, 11, 39, 40] c64L1 (.blk 0 [0, 11] :: ks) [(0, .x (.int .i64 q)), (1, .fz b (.sl nl 0 1 (lvs nr K))), (6, .own 0 []), (7, .own 1 []), (9, .fz true (pF q)), (11, .own 2 []), (39, .x (.int .i64 N)), (40, .x (.int .i64 c))] [.sl n6 23 1 (lls 2 (pvR A)), .sl n7 3 1 (ivs (pvP A)), .sl 1 23 1 (lls 2 (L.map vs))] =
    vgo W ⟨h64, [.tmp 4, .tmp 5], 0⟩ ks (VFr.of [(0, .x (.int .i64 q)), (11, .own 2 [])]) [.sl n6 23 1 (lls 2 (pvR A)), .sl n7 3 1 (ivs (pvP A)), .sl 1 23 1 (lls 2 ((L ++ ez9 N A d c).map vs))]
 | 0, c, L, hc, hL, ks => by
   rw [ez9, List.append_nil, sb5 c64L1.eq_def]
   simp (disch := first | omega | fail) only [push_cast, seval, ui5, lu7, y81, bj9, wrap64, dec_lt, cw6, nl3, qc6, mr8, nb8, if_pos, if_neg]
 | d + 1, c, L, hc, hL, ks => by
   have IH := xl7 hA hAl hN hK hK0 d (c + 1)
   have h1 := nu3 A
   have h2 := ga8 A
   have e1 := fun b nl => o94 (b := b) (nl := nl) (l := pvP A) (x := (c : Int)) (by omega)
   rw [lu0] at e1
   rw [ez9]
   by_cases hin : (A.any fun a => a.1 == c) = true
   ·rw [if_pos hin]
    rw [hin] at e1
    have ih := IH L (by omega) (by omega) ks
    rw [Int.natCast_add, Int.natCast_one] at ih
    rw [← ih, sb5 c64L1.eq_def]
    simp (disch := first | omega | fail) only [push_cast, seval, ui5, lu7, y81, bj9, wrap64, dec_lt, cw6, nl3, qc6, mr8, nb8, if_pos, if_neg, e1]
   ·rw [if_neg hin]
    have hin' : (A.any fun a => a.1 == c) = false := Bool.eq_false_iff.mpr hin
    rw [hin'] at e1
    have ih := IH (L ++ [xRow N c A]) (by omega) (by simp; omega) ks
    rw [List.append_assoc, List.singleton_append, List.map_append, Int.natCast_add, Int.natCast_one] at ih
    obtain ⟨k0, hk0⟩ := ge6 (l := K) (i := 0) hK
    have h3 := lat (nl := nr) hk0
    have h4 := xr8 hk0
    rw [h4] at hK0
    have e := fun T9 ks => up4 (K := K) (b := b) (nl := nl) (nr := nr) (n6 := n6) (n7 := n7) (T9 := T9) hA hAl hN (c := c) (by omega) A.length 0 ((List.replicate N (0 : El q)).set c 1) (by omega) (by simp) ks
    have hz : (List.replicate N (0 : Int)).set c 1 = vs ((List.replicate N (0 : El q)).set c 1) := by rw [← g52, ← qj2]; rfl
    simp only [Int.natCast_zero, List.take_zero, List.drop_zero, rp2, lz6, x25, List.map_nil, List.length_nil] at e
    have hx : setN c A ((List.replicate N (0 : El q)).set c 1) = xRow N c A := rfl
    rw [hx] at e
    rw [← ih, sb5 c64L1.eq_def]
    simp (disch := first | omega | fail) only [push_cast, seval, ui5, lu7, y81, bj9, wrap64, dec_lt, cw6, nl3, qc6, mr8, nb8, if_pos, if_neg, e1, h2, h3, hK0, hz]
    rw [e]
    simp (disch := first | omega | fail) only [push_cast, seval, ui5, lu7, y81, bj9, wrap64, dec_lt, cw6, nl3, qc6, mr8, nb8, if_pos, if_neg]
end
theorem km7 {M : List (List Int)} (he : ¬ matE q M = 0) : o24 W 64 [.x (.int .i64 q), .fz b (.sl nl 0 1 (lvs nr M))] [] = some (.tup [.own 0 [], .x (.int .i64 (matE q M))], [.sl 1 23 1 []], []) := by
 have e1 := fun b nl nr => rk7 (q := q) (b := b) (nl := nl) (nr := nr) he
 rw [o10 rfl T64 rfl]
 unfold F64 c64
 simp (disch := first | omega | fail) only [push_cast, seval, ui5, lu7, y81, bj9, wrap64, dec_lt, cw6, nl3, qc6, mr8, nb8, if_pos, if_neg, e1, nb8 he]
theorem yb3 (he : matE q [] = 0) : o24 W 64 [.x (.int .i64 q), .fz b (.sl nl 0 1 [])] [] = some (.tup [.own 0 [], .x (.int .i64 0)], [.sl 1 23 1 []], []) := by
 have e1 := fun b nl => e58 (q := q) (b := b) (nl := nl) he
 rw [o10 rfl T64 rfl]
 unfold F64 c64
 simp (disch := first | omega | fail) only [push_cast, seval, ui5, lu7, y81, bj9, wrap64, dec_lt, cw6, nl3, qc6, mr8, nb8, if_pos, if_neg, e1]
theorem ss9 [IsFld q] {N : List (List (El q))} {n : Nat} (h0 : 0 < N.length) (hl : N.length ≤ 64) (hr : ∀ r ∈ N, r.length = n) (hn0 : 0 < n) (hn : n ≤ 64) :
 o24 W 64 [.x (.int .i64 q), .fz b (.sl nl 0 1 (lvs nr (N.map vs)))] [] = some (.tup [.own 0 [], .x (.int .i64 0)], [.sl (if ez9 n (redR N) n 0 = [] then 1 else 0) 23 1 (lls 2 (pvR (zt5 n N)))], []) := by
 have e1 := fun b nl nr => lq3 (b := b) (nl := nl) (nr := nr) h0 hl hr hn0 hn
 obtain ⟨r1, r2, r3⟩ := bi2 hr
 have hAA : ∀ a ∈ redR N, a.2.length = n ∧ a.1 < n := fun a ha => ⟨r2 a ha, r1.lt (a.1, wf a.2) (xe5.2 ⟨a, ha, rfl⟩)⟩
 have hAl : (redR N).length ≤ 1000 := by have := ew4 hr; omega
 obtain ⟨k0, hk0⟩ := ge6 (l := N) (i := 0) h0
 have h3 := mva (nl := nr) hk0
 have hk0l := hr k0 (List.mem_of_getElem? hk0)
 have e2 := fun n6 n7 ks => xl7 (K := N.map vs) (b := b) (nl := nl) (nr := nr) (n6 := n6) (n7 := n7) hAA hAl (by omega) (by rw [List.length_map]; exact h0) (by rw [kn4, xr8 hk0]; exact hk0l) n 0 [] (by omega) (by simp) ks
 simp only [List.nil_append] at e2
 simp only [Int.natCast_zero, List.take_zero, List.drop_zero, rp2, lz6, x25, List.map_nil, List.length_nil] at e2
 have hnl := to9 n (redR N) n 0
 rw [o10 rfl T64 rfl]
 unfold F64 c64
 simp (disch := first | omega | fail) only [push_cast, seval, ui5, lu7, y81, bj9, wrap64, dec_lt, cw6, nl3, qc6, mr8, nb8, if_pos, if_neg, e1, h3, hk0l]
 rw [e2]
 by_cases hT : ez9 n (redR N) n 0 = []
 ·have e3 := fun b nl => e58 (q := q) (b := b) (nl := nl) (by have := sy6 (q := q) (N := []) (n := n) (by simp) (by simp) hn0 hn; exact this)
  have h0 : zt5 n N = [] := by unfold zt5; rw [hT]; rfl
  rw [if_pos hT, hT, h0, List.map_nil, x25]
  simp (disch := first | omega | fail) only [push_cast, seval, ui5, lu7, y81, bj9, wrap64, dec_lt, cw6, nl3, qc6, mr8, nb8, if_pos, if_neg, e3]
  rfl
 ·have hT0 : 0 < (ez9 n (redR N) n 0).length := List.length_pos_iff.2 hT
  have e3 := fun b nl nr => lq3 (b := b) (nl := nl) (nr := nr) hT0 (by omega) (sg4 n (redR N) n 0) hn0 hn
  rw [if_neg hT]
  simp (disch := first | omega | fail) only [push_cast, seval, ui5, lu7, y81, bj9, wrap64, dec_lt, cw6, nl3, qc6, mr8, nb8, if_pos, if_neg, e3]
  rfl
end
end Go.Proofs.Ytjpejkakodbchaa
namespace Go.Proofs.Ytjpejkakodbchaa
open Go.Am Go.Vm Go.Alg
theorem rn9 {α : Type} {M : List (List α)} {b : List α} {i : Nat} {r : List α} {x : α} (hr : M[i]? = some r) (hx : b[i]? = some x) : (augL M b).take (i + 1) = (augL M b).take i ++ [r ++ [x]] := by
 have h : (augL M b)[i]? = some (r ++ [x]) := by unfold augL; rw [List.getElem?_zipWith, hr, hx]
 rw [List.take_add_one, h]; rfl
theorem b28 {α : Type} {M : List (List α)} {b : List α} (h : b.length = M.length) : (augL M b).length = M.length := by unfold augL; rw [List.length_zipWith, h, Nat.min_self]
section
variable {q p m g : Int} [IsFld q] {t : Tree} {b b' : Bool} {nl nl' nr n7 n8 : Nat} {M : List (List (El q))} {A : List (Nat × List (El q))} {N : Nat}
theorem zm6 {T3 : Tree} {y : List (El q)} (hy : y.length = M.length) (hMl : ∀ r ∈ M, r.length = N) (hMn : M.length ≤ 500) (hN : N ≤ 900) : ∀ (n i : Nat), i + n = M.length → ∀ ks,
 vgoL W ⟨h86, [.tmp 6, .tmp 7], 0⟩ [1, 2, 3, 8, 9, 10] c86L0 (.blk 0 [3, 8, 9] :: ks) [(1, .fz b (.sl nl 0 1 (lvs nr (M.map vs)))), (2, .fz b' (.sl nl' 0 1 (ivs (vs y)))), (3, .own 0 []), (8, .x (.int .i64 N)), (9, .own 1 []), (10, .x (.int .i64 i))] [T3, .sl 1 23 1 (lls 2 (((augL M y).take i).map vs))] =
  vgo W ⟨h86, [.tmp 6, .tmp 7], 0⟩ ks (VFr.of [(3, .own 0 []), (8, .x (.int .i64 N)), (9, .own 1 [])]) [T3, .sl 1 23 1 (lls 2 ((augL M y).map vs))]
 | 0, i, hi, ks => by
   have hl := b28 hy
   rw [List.take_of_length_le (by omega), sb5 c86L0.eq_def]
   simp (disch := first | omega | fail) only [push_cast, seval, ui5, lu7, y81, bj9, wrap64, dec_lt, cw6, nl3, qc6, mr8, nb8, if_pos, if_neg]
 | n + 1, i, hi, ks => by
   obtain ⟨r, hr⟩ := ge6 (l := M) (i := i) (by omega)
   obtain ⟨x, hx⟩ := ge6 (l := y) (i := i) (by omega)
   have hrl := hMl r (List.mem_of_getElem? hr)
   have hwx : wf y i = x := by
    obtain ⟨h1, h2⟩ := List.getElem?_eq_some_iff.1 hx
    rw [i66 h1, h2]
   have ih := zm6 (T3 := T3) hy hMl hMn hN n (i + 1) (by omega) ks
   rw [rn9 hr hx, List.map_append, Int.natCast_add, Int.natCast_one] at ih
   have h0 := mva (nl := nr) hr
   have h1 := iva (l := y) (i := i) (by omega)
   rw [hwx] at h1
   have hcp := fun b nl => xr6 (b := b) (nl := nl) (l := vs r) (by rw [fi2]; omega)
   have hl := b28 hy
   have hv : vs r ++ [x.v] = vs (r ++ [x]) := by rw [gq8]; rfl
   rw [← ih, sb5 c86L0.eq_def]
   simp (disch := first | omega | fail) only [push_cast, seval, ui5, lu7, y81, bj9, wrap64, dec_lt, cw6, nl3, qc6, mr8, nb8, if_pos, if_neg, h0, h1, hcp, hl, hv]
theorem es7 (hA : ∀ a ∈ A, a.2.length = N + 1 ∧ a.1 < N + 1) (hAl : A.length ≤ 1000) (hN : N ≤ 900) :
 ∀ (n k : Nat) (x : List (El q)), k + n = A.length → x.length = N → ∀ ks,
   vgoL W ⟨h86, [.tmp 6, .tmp 7], 0⟩ [8, 11, 12, 13, 14] c86L1 (.blk 2 [13] :: ks) [(8, .x (.int .i64 N)), (11, .own 0 []), (12, .own 1 []), (13, .own 2 []), (14, .x (.int .i64 k))] [.sl n7 23 1 (lls 2 (pvR A)), .sl n8 3 1 (ivs (pvP A)), .sl 0 3 1 (ivs (vs x))] =
    if (A.drop k).any (fun a => a.1 == N) = true then some (.tup [.x (.slice none 0 0), .x (.bool false)], [], []) else
     vgo W ⟨h86, [.tmp 6, .tmp 7], 0⟩ ks (VFr.of [(13, .own 2 [])]) [.sl n7 23 1 (lls 2 (pvR A)), .sl n8 3 1 (ivs (pvP A)), .sl 0 3 1 (ivs (vs (setP N (A.drop k) x)))]
 | 0, k, x, hk, hx, ks => by
   have h1 := nu3 A
   rw [oh9 (by omega), if_neg (by simp), setP, sb5 c86L1.eq_def]
   simp (disch := first | omega | fail) only [push_cast, seval, ui5, lu7, y81, bj9, wrap64, dec_lt, cw6, nl3, qc6, mr8, nb8, if_pos, if_neg, h1]
 | n + 1, k, x, hk, hx, ks => by
   obtain ⟨a, ha⟩ := ge6 (l := A) (i := k) (by omega)
   obtain ⟨hal, hap⟩ := hA a (List.mem_of_getElem? ha)
   have h1 := nu3 A
   have h2 := ga8 A
   have h3 := x08 ha
   have h4 := bx6 ha
   rw [i62 ha, List.any_cons, setP]
   by_cases hp : a.1 = N
   ·rw [if_pos (by rw [hp, beq_self_eq_true, Bool.true_or]), sb5 c86L1.eq_def]
    rw [hp] at h4
    simp (disch := first | omega | fail) only [push_cast, seval, ui5, lu7, y81, bj9, wrap64, dec_lt, cw6, nl3, qc6, mr8, nb8, if_pos, if_neg, h1, h2, h4]
   ·have ih := es7 hA hAl hN n (k + 1) (x.set a.1 (wf a.2 N)) (by omega) (by rw [List.length_set]; exact hx) ks
    have h5 := iva (l := a.2) (i := N) (by omega)
    have hpN : (a.1 == N) = false := by simpa using hp
    have hpi : ¬ (a.1 : Int) = (N : Int) := by omega
    have hs := g52 x a.1 (wf a.2 N)
    rw [Int.natCast_add, Int.natCast_one] at ih
    rw [hpN, Bool.false_or, ← ih, sb5 c86L1.eq_def]
    simp (disch := first | omega | fail) only [push_cast, seval, ui5, lu7, y81, bj9, wrap64, dec_lt, cw6, nl3, qc6, mr8, nb8, if_pos, if_neg, h1, h2, h3, h4, h5, nb8 hpi, hs]
theorem x97 {y : List (El q)} (hy : y.length = M.length) (hMl : ∀ r ∈ M, r.length = N) (hM0 : 0 < M.length) (hMn : M.length ≤ 500) (hN : N ≤ 900) :
 o24 W 86 [.agg (rFs q), .fz b (.sl nl 0 1 (lvs nr (M.map vs))), .fz b' (.sl nl' 0 1 (ivs (vs y)))] [] = match solR N M y with
  | none => some (.tup [.x (.slice none 0 0), .x (.bool false)], [], [])
  | some x => some (.tup [.own 0 [], .x (.bool true)], [.sl 0 3 1 (ivs (vs x))], []) := by
 obtain ⟨p, m, g, t, u⟩ := k75 q
 obtain ⟨r0, hr0⟩ := ge6 (l := M) (i := 0) hM0
 have h0 := mva (nl := nr) hr0
 have hr0l := hMl r0 (List.mem_of_getElem? hr0)
 have e1 := fun T3 ks => zm6 (T3 := T3) (b := b) (b' := b') (nl := nl) (nl' := nl') (nr := nr) hy hMl hMn hN M.length 0 (by omega) ks
 have hal := b28 hy
 have e2 := fun b nl nr => di6 (b := b) (nl := nl) (nr := nr) (a86 (b := y) hMl) (by omega) (by omega)
 obtain ⟨r1, r2, r3⟩ := bi2 (a86 (b := y) hMl)
 obtain ⟨A, hA⟩ : ∃ A, redR (augL M y) = A := ⟨_, rfl⟩
 rw [hA] at e2 r1 r2
 have hAA : ∀ a ∈ A, a.2.length = N + 1 ∧ a.1 < N + 1 := fun a ha => ⟨r2 a ha, r1.lt (a.1, wf a.2) (xe5.2 ⟨a, ha, rfl⟩)⟩
 have hAl : A.length ≤ 1000 := by
  have := r1.len
  unfold toF at this
  rw [List.length_map] at this
  omega
 have e3 := fun n7 n8 ks => es7 (n7 := n7) (n8 := n8) hAA hAl hN A.length 0 (List.replicate N 0) (by omega) (by simp) ks
 simp only [Int.natCast_zero, List.take_zero, List.drop_zero, rp2, lz6, x25, List.map_nil, List.length_nil] at e1
 simp only [Int.natCast_zero, List.take_zero, List.drop_zero, rp2, lz6, x25, List.map_nil, List.length_nil] at e3
 have hz : List.replicate N (0 : Int) = vs (List.replicate N (0 : El q)) := by rw [← qj2]; rfl
 have ht := u.n
 have ho := u.o
 rw [u.e] at e2
 unfold solR
 rw [hA, o10 rfl T86 rfl, u.e]
 unfold F86 c86
 simp (disch := first | omega | fail) only [push_cast, seval, ui5, lu7, y81, bj9, wrap64, dec_lt, cw6, nl3, qc6, mr8, nb8, if_pos, if_neg, ht, h0, hr0l]
 rw [e1]
 simp (disch := first | omega | fail) only [push_cast, seval, ui5, lu7, y81, bj9, wrap64, dec_lt, cw6, nl3, qc6, mr8, nb8, if_pos, if_neg, ht, ho, e2, hz]
 rw [e3]
 by_cases hany : A.any (fun a => a.1 == N) = true
 ·rw [if_pos hany, if_pos hany]
 ·rw [if_neg hany, if_neg hany]
  simp (disch := first | omega | fail) only [push_cast, seval, ui5, lu7, y81, bj9, wrap64, dec_lt, cw6, nl3, qc6, mr8, nb8, if_pos, if_neg]
end
end Go.Proofs.Ytjpejkakodbchaa
namespace Go.Proofs.Ytjpejkakodbchaa
open Go.Am Go.Vm Go.Alg
theorem vu3 {q : Int} {M : List (List (El q))} {at' i : Nat} (hii : i ≠ at') : ((((lls 2 (M.map vs)).set at' Tree.junk).set i Tree.junk).set at' (.sl 2 3 1 (ivs (vs (nth M i))))).set i (.sl 2 3 1 (ivs (vs (nth M at')))) = lls 2 ((swpM M at' i).map vs) := by
 have hsw : (swpM M at' i).map vs = ((M.map vs).set at' (vs (nth M i))).set i (vs (nth M at')) := by unfold swpM; rw [List.map_set, List.map_set]
 rw [hsw, ← y81, ← y81]
 refine List.ext_getElem? fun k => ?_
 simp only [List.getElem?_set, List.length_set]
 by_cases c1 : i = k <;> by_cases c2 : at' = k <;> simp [c1, c2]
theorem aw4 {q : Int} {M : List (List (El q))} {i : Nat} : (lls 2 (M.map vs)).set i (.sl 2 3 1 (ivs (vs (nth M i)))) = lls 2 ((swpM M i i).map vs) := by
 have hsw : (swpM M i i).map vs = ((M.map vs).set i (vs (nth M i))).set i (vs (nth M i)) := by unfold swpM; rw [List.map_set, List.map_set]
 rw [y81, hsw, List.set_set]
section
variable {q : Int} [IsFld q] {b b' : Bool} {nl nl' nr : Nat} {M : List (List (El q))} {y : List (El q)} {n R : Nat}
theorem gz1 (hy : y.length = M.length) (hMl : ∀ r ∈ M, r.length = n) (hn0 : 0 < n) (hMn : M.length ≤ 500) (hN : n ≤ 900) : ∀ (d i : Nat), i + d = M.length → ∀ ks,
 vgoL W ⟨h138, [.tmp 6, .tmp 7], 0⟩ [1, 2, 8, 10, 11, 36, 37] c138L0 (.blk 0 [8, 10, 11] :: ks) [(1, .fz b (.sl nl 0 1 (lvs nr (M.map vs)))), (2, .fz b' (.sl nl' 0 1 (ivs (vs y)))), (8, .fz true (pF q)), (10, .x (.int .i64 n)), (11, .own 0 []), (36, .x (.int .i64 M.length)), (37, .x (.int .i64 i))] [.sl 0 23 1 (lls 2 (((augL M y).map vs).take i ++ List.replicate d []))] =
  vgo W ⟨h138, [.tmp 6, .tmp 7], 0⟩ ks (VFr.of [(8, .fz true (pF q)), (10, .x (.int .i64 n)), (11, .own 0 [])]) [.sl 0 23 1 (lls 2 ((augL M y).map vs))]
 | 0, i, hi, ks => by
   have hl := b28 hy
   rw [List.replicate_zero, List.append_nil, List.take_of_length_le (by rw [List.length_map]; omega), sb5 c138L0.eq_def]
   simp (disch := first | omega | fail) only [push_cast, seval, ui5, lu7, y81, bj9, wrap64, dec_lt, cw6, nl3, qc6, mr8, nb8, if_pos, if_neg]
 | d + 1, i, hi, ks => by
   obtain ⟨r, hr⟩ := ge6 (l := M) (i := i) (by omega)
   obtain ⟨x, hx⟩ := ge6 (l := y) (i := i) (by omega)
   have hrl := hMl r (List.mem_of_getElem? hr)
   have hwx : wf y i = x := by
    obtain ⟨h1, h2⟩ := List.getElem?_eq_some_iff.1 hx
    rw [i66 h1, h2]
   have ih := gz1 hy hMl hn0 hMn hN d (i + 1) (by omega) ks
   have hg : ((augL M y).map vs)[i]? = some (vs (r ++ [x])) := by
    rw [List.getElem?_map]
    have h : (augL M y)[i]? = some (r ++ [x]) := by unfold augL; rw [List.getElem?_zipWith, hr, hx]
    rw [h]; rfl
   have hl := b28 hy
   have hn := l52 (n := d) hg
   have hYl : (((augL M y).map vs).take i ++ List.replicate (d + 1) []).length = M.length := by
    simp only [List.length_append, List.length_take, List.length_map, List.length_replicate]; omega
   rw [← hn] at ih
   generalize ((augL M y).map vs).take i ++ List.replicate (d + 1) [] = Y at ih hYl
   rw [Int.natCast_add, Int.natCast_one] at ih
   have h0 := mva (nl := nr) hr
   have h1 := iva (l := y) (i := i) (by omega)
   rw [hwx] at h1
   have hcp := fun b nl => u27 (b := b) (nl := nl) (l := vs r) (by rw [fi2]; omega) (by rw [fi2]; omega)
   have hv : vs r ++ [x.v] = vs (r ++ [x]) := by rw [gq8]; rfl
   rw [← ih, sb5 c138L0.eq_def]
   simp (disch := first | omega | fail) only [push_cast, seval, ui5, lu7, y81, bj9, wrap64, dec_lt, cw6, nl3, qc6, mr8, nb8, if_pos, if_neg, h0, h1, hcp, hYl, hv, y81]
theorem zw3 {b b' : Bool} {nl e : Nat} {r : List (El q)} {c : Nat} (hc : c < r.length) (hl : r.length ≤ 1000) : o24 W 157 [.fz b (.sl nl 0 1 (ivs (vs r))), .fz b' (.pt e [.v (.int .i64 c)])] [] = some (.x (.bool (decide ((wf r c).v ≠ 0))), [], []) := by
 have h1 := iva (l := r) (i := c) hc
 rw [o10 rfl T157 rfl]
 unfold F157 c157
 simp (disch := first | omega | fail) only [push_cast, seval, ui5, lu7, y81, bj9, wrap64, dec_lt, cw6, nl3, qc6, mr8, nb8, if_pos, if_neg, h1]
 by_cases h : (wf r c).v = 0
 ·rw [decide_eq_true h, decide_eq_false (by simpa using h)]; rfl
 ·rw [decide_eq_false h, decide_eq_true h]; rfl
section
variable {T5 : Tree} {c at' n0 : Nat}
theorem gr4 (hR : M.length = R) (hR2 : R ≤ 1000) (hn2 : n ≤ 1000) (hrow : ∀ k, k < R → (nth M k).length = n) (hc : c < n) (hat : at' < R) :
 ∀ (d k : Nat), k + d = R → ∀ ks,
   vgoL W ⟨h138, [.tmp 6, .tmp 7], 0⟩ [8, 10, 11, 13, 14, 15, 55, 56, 102, 103] c138L1 (.blk 4 [8, 10, 11, 13, 14, 55, 56] :: ks) [(8, .fz true (pF q)), (10, .x (.int .i64 n0)), (11, .own 0 []), (13, .own 1 []), (14, .own 2 []), (15, .x (.int .i64 at')), (55, .x (.int .i64 n0)), (56, .x (.int .i64 c)), (102, .x (.int .i64 R)), (103, .x (.int .i64 k))] [.sl 0 23 1 (lls 2 (((clrM M at' c).take k ++ M.drop k).map vs)), T5, .pt 3 [.v (.int .i64 c)]] =
    vgo W ⟨h138, [.tmp 6, .tmp 7], 0⟩ ks (VFr.of [(8, .fz true (pF q)), (10, .x (.int .i64 n0)), (11, .own 0 []), (13, .own 1 []), (14, .own 2 []), (55, .x (.int .i64 n0)), (56, .x (.int .i64 c))]) [.sl 0 23 1 (lls 2 ((clrM M at' c).map vs)), T5, .pt 3 [.v (.int .i64 c)]]
 | 0, k, hk, ks => by
   have hcl := wq1 M at' c
   rw [oh9 (by omega), List.append_nil, List.take_of_length_le (by omega), sb5 c138L1.eq_def]
   simp (disch := first | omega | fail) only [push_cast, seval, ui5, lu7, y81, bj9, wrap64, dec_lt, cw6, nl3, qc6, mr8, nb8, if_pos, if_neg]
 | d + 1, k, hk, ks => by
   have ih := gr4 hR hR2 hn2 hrow hc hat d (k + 1) (by omega) ks
   have hcl := wq1 M at' c
   have hck := kc5 (M := M) (at' := at') (c := c) (k := k) (by omega)
   have hY : ((clrM M at' c).take k ++ M.drop k).length = R := by simp only [List.length_append, List.length_take, List.length_drop]; omega
   have hYk : ((clrM M at' c).take k ++ M.drop k)[k]? = some (nth M k) := by
    rw [List.getElem?_append_right (by rw [List.length_take]; omega), List.length_take, Nat.min_eq_left (by omega), Nat.sub_self, List.getElem?_drop, Nat.add_zero, gu3 (by omega)]
   have hYa : ((clrM M at' c).take k ++ M.drop k)[at']? = some (nth M at') := by
    by_cases h : at' < k
    ·rw [List.getElem?_append_left (by rw [List.length_take]; omega), List.getElem?_take, if_pos h, kc5 (by omega), if_pos rfl]
    ·rw [List.getElem?_append_right (by rw [List.length_take]; omega), List.length_take, Nat.min_eq_left (by omega), List.getElem?_drop, show k + (at' - k) = at' by omega, gu3 (by omega)]
   have hYn : ((clrM M at' c).take k ++ M.drop k).set k (if k = at' then nth M k else dx9 (wf (nth M k) c) (nth M k) (nth M at')) = (clrM M at' c).take (k + 1) ++ M.drop (k + 1) := by
    rw [List.set_append_right _ _ (by rw [List.length_take]; omega), List.length_take, Nat.min_eq_left (by omega), Nat.sub_self, List.drop_eq_getElem_cons (by omega : k < M.length), List.set_cons_zero, List.take_add_one, hck, List.append_assoc]; rfl
   rw [← hYn] at ih
   generalize (clrM M at' c).take k ++ M.drop k = Y at ih hY hYk hYa
   rw [Int.natCast_add, Int.natCast_one] at ih
   have h1 := mla (nl := 2) hYk
   have h2 := mla (nl := 2) hYa
   have h3 := iva (l := nth M k) (i := c) (by rw [hrow k (by omega)]; exact hc)
   have hsame : Y.set k (nth M k) = Y := em2 hYk
   have hlk := hrow k (by omega)
   have hla := hrow at' hat
   by_cases hka : k = at'
   ·rw [if_pos hka, hsame] at ih
    rw [← ih, sb5 c138L1.eq_def]
    simp (disch := first | omega | fail) only [push_cast, seval, ui5, lu7, y81, bj9, wrap64, dec_lt, cw6, nl3, qc6, mr8, nb8, if_pos, if_neg, h1, h2, h3, hY, hlk]
   ·rw [if_neg hka] at ih
    have hl := fun b b' nl nl' => nq1 (b := b) (b' := b') (nl := nl) (nl' := nl') (c := wf (nth M k) c) (r := nth M k) (o := nth M at') (by rw [hrow k (by omega), hrow at' hat]) (by rw [hrow k (by omega)]; omega)
    have hs : (lls 2 (Y.map vs)).set k (.sl 2 3 1 (ivs (vs (dx9 (wf (nth M k) c) (nth M k) (nth M at'))))) = lls 2 ((Y.set k (dx9 (wf (nth M k) c) (nth M k) (nth M at'))).map vs) := by rw [y81, List.map_set]
    have hj : ((lls 2 (Y.map vs)).set k Tree.junk)[k]? = some Tree.junk := List.getElem?_set_self (by rw [qf0, List.length_map]; omega)
    rw [← ih, sb5 c138L1.eq_def]
    simp (disch := first | omega | fail) only [push_cast, seval, ui5, lu7, y81, bj9, wrap64, dec_lt, cw6, nl3, qc6, mr8, nb8, if_pos, if_neg, h1, h2, h3, hY, hlk, hl, hj, List.getElem?_set_ne, List.set_set, hs]
end
theorem wh0 {M0 : List (List (El q))} {n0 : Nat} (hR : M0.length = R) (hR0 : 0 < R) (hR2 : R ≤ 1000) (hn2 : n ≤ 1000) (hn0 : n0 < n) :
 ∀ (d c : Nat) (M : List (List (El q))) (P : List Nat), c + d = n0 → RedI n M0 M P c → ∃ (M' : List (List (El q))) (P' : List Nat), RedI n M0 M' P' n0 ∧ ∀ ks,
   vgoL W ⟨h138, [.tmp 6, .tmp 7], 0⟩ [8, 10, 11, 13, 55, 56] c138L2 (.blk 2 [10, 11, 13] :: ks) [(8, .fz true (pF q)), (10, .x (.int .i64 n0)), (11, .own 0 []), (13, .own 1 []), (55, .x (.int .i64 n0)), (56, .x (.int .i64 c))] [.sl 0 23 1 (lls 2 (M.map vs)), .sl 1 3 1 (ivs (pn P))] =
    vgo W ⟨h138, [.tmp 6, .tmp 7], 0⟩ ks (VFr.of [(10, .x (.int .i64 n0)), (11, .own 0 []), (13, .own 1 [])]) [.sl 0 23 1 (lls 2 (M'.map vs)), .sl 1 3 1 (ivs (pn P'))]
 | 0, c, M, P, hd, I => by
   obtain rfl : c = n0 := by omega
   refine ⟨M, P, I, fun ks => ?_⟩
   rw [sb5 c138L2.eq_def]
   simp (disch := first | omega | fail) only [push_cast, seval, ui5, lu7, y81, bj9, wrap64, dec_lt, cw6, nl3, qc6, mr8, nb8, if_pos, if_neg]
 | d + 1, c, M, P, hd, I => by
   have hMl : M.length = R := by rw [I.len, hR]
   have hpl := I.pl
   have hpn := im5 P
   have IH := wh0 hR hR0 hR2 hn2 hn0 d (c + 1)
   obtain ⟨at', hat'⟩ : ∃ a, a = P.length := ⟨_, rfl⟩
   have hrow : ∀ k, k < R → (nth M k).length = n := fun k hk => I.len_nth (by omega)
   obtain ⟨m, hm⟩ : ∃ m, m = List.take (R - at') (List.drop at' (List.map vs M)) := ⟨_, rfl⟩
   have hmm : ∀ {j : Nat} {x : List Int}, m[j]? = some x → at' + j < R ∧ x = vs (nth M (at' + j)) := fun {j x} h => by
    have hj := (List.getElem?_eq_some_iff.1 h).1
    rw [hm, List.length_take, List.length_drop, List.length_map] at hj
    rw [hm, List.getElem?_take, if_pos (by omega), List.getElem?_drop, List.getElem?_map, gu3 (by omega)] at h
    exact ⟨by omega, (Option.some.inj h).symm⟩
   have hml : m.length = R - at' := by rw [hm, List.length_take, List.length_drop, List.length_map]; omega
   have hk : ∀ (bl b : Bool) (e : Nat), ∀ r ∈ m, o24 W 157 [.fz bl (.sl 2 0 1 (ivs r)), .fz b (.pt e [.v (.int .i64 c)])] [] = some (.x (.bool (decide (gi r c ≠ 0))), [], []) := fun bl b e r hr => by
    obtain ⟨j, hj⟩ := List.getElem?_of_mem hr
    obtain ⟨h2, rfl⟩ := hmm hj
    have := hrow (at' + j) h2
    rw [zw3 (by omega) (by omega), v86]; rfl
   have hix := fun bl nl b e => aj5 (bl := bl) (nl := nl) (nr := 2) (m := m) (k := 157) (b := b) (t := .pt e [.v (.int .i64 c)]) (p := fun r => decide (gi r c ≠ 0)) (hk bl b e) rfl (by omega)
   rcases nu4 (fun r => decide (gi r c ≠ 0)) 0 m with ⟨f1, f2⟩ | ⟨j, x, f1, f2, f3⟩
   ·rw [f1, hm] at hix
    have I' := I.skip (by omega) (fun k h1 h2 => by
     have hmk : vs (nth M k) ∈ m := by
      refine List.mem_of_getElem? (i := k - at') ?_
      rw [hm, List.getElem?_take, if_pos (by omega), List.getElem?_drop, List.getElem?_map, gu3 (by omega), show at' + (k - at') = k by omega]; rfl
     have := f2 _ hmk
     rw [v86] at this
     have h3 : (ge (nth M k) c).v = 0 := by simpa using this
     exact r57.1 h3)
    obtain ⟨M', P', r1, r3⟩ := IH M P (by omega) I'
    refine ⟨M', P', r1, fun ks => ?_⟩
    have ih := r3 ks
    rw [Int.natCast_add, Int.natCast_one] at ih
    rw [← hat'] at hpn
    have hnn : ((M.length : Int) - (at' : Int)).toNat = R - at' := by omega
    rw [← ih, sb5 c138L2.eq_def]
    simp (disch := first | omega | fail) only [push_cast, seval, ui5, lu7, y81, bj9, wrap64, dec_lt, cw6, nl3, qc6, mr8, nb8, if_pos, if_neg, hpn, hnn, hix]
   ·have hj := (List.getElem?_eq_some_iff.1 f2).1
    obtain ⟨hR1, rfl⟩ := hmm f2
    rw [f1, Nat.zero_add, hm] at hix
    obtain ⟨i, hi⟩ : ∃ i, i = at' + j := ⟨_, rfl⟩
    rw [← hi] at f3 hR1
    have hne : wf (nth M i) c ≠ 0 := fun e => by
     have h3 : gi (vs (nth M i)) c ≠ 0 := by simpa using f3
     rw [v86] at h3
     exact h3 (r57.2 e)
    have I' := qt5 I (by omega) (i := i) (by omega) (by omega) hne
    rw [← hat'] at I'
    have hscl : (sclM M at' i c).length = M.length := np1
    have hsrow := k39 (c := c) (M := M) (fun k hk => hrow k (by omega)) (at' := at') (i := i) (by omega) (by omega)
    have hin := gr4 (n0 := n0) (T5 := .sl 1 3 1 (ivs (pn P))) (M := sclM M at' i c) (R := R) (n := n) (c := c) (at' := at') (by omega) hR2 hn2 (fun k hk => hsrow k (by omega)) (by omega) (by omega) R 0 (by omega)
    obtain ⟨M', P', r1, r3⟩ := IH (clrM (sclM M at' i c) at' c) (P ++ [c]) (by omega) I'
    refine ⟨M', P', r1, fun ks => ?_⟩
    have ih := r3 ks
    rw [Int.natCast_add, Int.natCast_one] at ih
    rw [← hat'] at hpn
    have hia : (at' : Int) + (j : Int) = (i : Int) := by omega
    have hnn : ((M.length : Int) - (at' : Int)).toNat = R - at' := by omega
    have hla := hrow i (by omega)
    have hlb := hrow at' (by omega)
    have h2 := mla (nl := 2) (M := M) (i := i) (gu3 (by omega))
    have h3 := mla (nl := 2) (M := M) (i := at') (gu3 (by omega))
    have hswl : (swpM M at' i).length = M.length := p58
    have h4 := mla (nl := 2) (M := swpM M at' i) (i := at') (r := nth M i) (by rw [gu3 (by omega), fj6 (by omega) (by omega)])
    have h5 := iva (l := nth M i) (i := c) (by omega)
    have e2 := rl7 hne
    have hsc := fun b nl => em7 (b := b) (nl := nl) (c := FK.inv (wf (nth M i) c)) (r := nth M i) (by omega)
    have hs2 : (lls 2 ((swpM M at' i).map vs)).set at' (.sl 2 3 1 (ivs (vs (xf5 (FK.inv (wf (nth M i) c)) (nth M i))))) = lls 2 ((sclM M at' i c).map vs) := by unfold sclM; rw [y81, List.map_set]
    have hL : (lls 2 (M.map vs)).length = R := by rw [qf0, List.length_map]; exact hMl
    simp only [e2] at hsc
    rw [List.take_zero, List.nil_append, List.drop_zero] at hin
    simp only [Int.natCast_zero] at hin
    have hpush := aw7 P c
    have k3 : ((lls 2 ((swpM M at' i).map vs)).set at' Tree.junk)[at']? = some Tree.junk := List.getElem?_set_self (by rw [qf0, List.length_map]; omega)
    by_cases hii : i = at'
    ·have k1 : ((lls 2 (M.map vs)).set at' Tree.junk)[at']? = some Tree.junk := List.getElem?_set_self (by omega)
     subst hii
     have k2 := aw4 (M := M) (i := i)
     rw [← ih, sb5 c138L2.eq_def]
     simp (disch := first | omega | fail) only [push_cast, seval, ui5, lu7, y81, bj9, wrap64, dec_lt, cw6, nl3, qc6, mr8, nb8, if_pos, if_neg, hpn, hnn, hix, hia, h3, k1, List.set_set, k2, k3, h4, h5, hsc, hs2, hscl]
     rw [hMl, hin]
     simp (disch := first | omega | fail) only [push_cast, seval, ui5, lu7, y81, bj9, wrap64, dec_lt, cw6, nl3, qc6, mr8, nb8, if_pos, if_neg, hpn, hpush]
    ·have k1 : ((lls 2 (M.map vs)).set at' Tree.junk)[i]? = some (.sl 2 3 1 (ivs (vs (nth M i)))) := by rw [List.getElem?_set_ne (by omega)]; exact h2
     have k2 := vu3 (M := M) hii
     rw [← ih, sb5 c138L2.eq_def]
     simp (disch := first | omega | fail) only [push_cast, seval, ui5, lu7, y81, bj9, wrap64, dec_lt, cw6, nl3, qc6, mr8, nb8, if_pos, if_neg, hpn, hnn, hix, hia, h2, h3, k1, k2, k3, h4, h5, hsc, hs2, hscl, List.set_set]
     rw [hMl, hin]
     simp (disch := first | omega | fail) only [push_cast, seval, ui5, lu7, y81, bj9, wrap64, dec_lt, cw6, nl3, qc6, mr8, nb8, if_pos, if_neg, hpn, hpush]
theorem rm1 {P : List Nat} {n0 : Nat} (hR : M.length = R) (hR2 : R ≤ 1000) (hrow : ∀ k, k < R → (nth M k).length = n0 + 1) (hn2 : n0 ≤ 1000) (hP : P.length ≤ R) :
 ∀ (d k : Nat), P.length + k + d = R → ∀ ks,
   vgoL W ⟨h138, [.tmp 6, .tmp 7], 0⟩ [10, 11, 13, 135, 136, 137] c138L3 (.blk 6 [10, 11, 13] :: ks) [(10, .x (.int .i64 n0)), (11, .own 0 []), (13, .own 1 []), (135, .sub 0 [] 1 P.length (R - P.length)), (136, .x (.int .i64 ((R : Int) - (P.length : Int)))), (137, .x (.int .i64 k))] [.sl 0 23 1 (lls 2 (M.map vs)), .sl 1 3 1 (ivs (pn P))] =
    if ((M.drop (P.length + k)).any fun r => !decide ((wf r n0).v = 0)) = true then some (.tup [.x (.slice none 0 0), .x (.bool false)], [], []) else
    vgo W ⟨h138, [.tmp 6, .tmp 7], 0⟩ ks (VFr.of [(10, .x (.int .i64 n0)), (11, .own 0 []), (13, .own 1 [])]) [.sl 0 23 1 (lls 2 (M.map vs)), .sl 1 3 1 (ivs (pn P))]
 | 0, k, hk, ks => by
   rw [oh9 (by omega), if_neg (by simp), sb5 c138L3.eq_def]
   simp (disch := first | omega | fail) only [push_cast, seval, ui5, lu7, y81, bj9, wrap64, dec_lt, cw6, nl3, qc6, mr8, nb8, if_pos, if_neg]
 | d + 1, k, hk, ks => by
   have ih := rm1 hR hR2 hrow hn2 hP d (k + 1) (by omega) ks
   rw [Int.natCast_add, Int.natCast_one] at ih
   have h1 := mla (nl := 2) (M := M) (i := P.length + k) (gu3 (by omega))
   have h2 := iva (l := nth M (P.length + k)) (i := n0) (by rw [hrow _ (by omega)]; omega)
   have h3 := hrow (P.length + k) (by omega)
   by_cases hz : (wf (nth M (P.length + k)) n0).v = 0
   ·have hz0 := r57.1 hz
    rw [i62 (gu3 (by omega)), List.any_cons, decide_eq_true hz, Bool.not_true, Bool.false_or, show P.length + k + 1 = P.length + (k + 1) by omega, ← ih, sb5 c138L3.eq_def]
    simp (disch := first | omega | fail) only [push_cast, seval, ui5, lu7, y81, bj9, wrap64, dec_lt, cw6, nl3, qc6, mr8, nb8, if_pos, if_neg, h1, h2, h3, mr8 hz]
   ·rw [i62 (gu3 (by omega)), List.any_cons, decide_eq_false hz, Bool.not_false, Bool.true_or, if_pos rfl, sb5 c138L3.eq_def]
    simp (disch := first | omega | fail) only [push_cast, seval, ui5, lu7, y81, bj9, wrap64, dec_lt, cw6, nl3, qc6, mr8, nb8, if_pos, if_neg, h1, h2, h3, nb8 hz]
theorem wf6 {α : Type} {M : List (List α)} {P : List Nat} {k p : Nat} (hp : P[k]? = some p) (hk : k < M.length) : (outP M P)[k]? = some (p, nth M k) := by
 have h1 := (List.getElem?_eq_some_iff.1 hp).1
 unfold outP
 rw [List.getElem?_zip_eq_some]
 exact ⟨hp, by rw [List.getElem?_take, if_pos h1, gu3 hk]⟩
theorem u45 {P : List Nat} {n0 : Nat} (hR : M.length = R) (hR2 : R ≤ 1000) (hrow : ∀ k, k < R → (nth M k).length = n0 + 1) (hn2 : n0 ≤ 1000) (hP : P.length ≤ R) (hPn : ∀ p ∈ P, p < n0) :
 ∀ (d k : Nat) (x : List (El q)), k + d = P.length → x.length = n0 → ∀ ks,
   vgoL W ⟨h138, [.tmp 6, .tmp 7], 0⟩ [10, 11, 20, 149, 150, 151] c138L4 (.blk 8 [20] :: ks) [(10, .x (.int .i64 n0)), (11, .own 0 []), (20, .own 1 []), (149, .own 2 []), (150, .x (.int .i64 P.length)), (151, .x (.int .i64 k))] [.sl 0 23 1 (lls 2 (M.map vs)), .sl 0 3 1 (ivs (vs x)), .sl 1 3 1 (ivs (pn P))] =
    vgo W ⟨h138, [.tmp 6, .tmp 7], 0⟩ ks (VFr.of [(20, .own 1 [])]) [.sl 0 23 1 (lls 2 (M.map vs)), .sl 0 3 1 (ivs (vs (setP n0 ((outP M P).drop k) x))), .sl 1 3 1 (ivs (pn P))]
 | 0, k, x, hk, hx, ks => by
   have hol : (outP M P).length = P.length := by unfold outP; rw [List.length_zip, List.length_take]; omega
   rw [oh9 (by omega), setP, sb5 c138L4.eq_def]
   simp (disch := first | omega | fail) only [push_cast, seval, ui5, lu7, y81, bj9, wrap64, dec_lt, cw6, nl3, qc6, mr8, nb8, if_pos, if_neg]
 | d + 1, k, x, hk, hx, ks => by
   obtain ⟨p, hp⟩ := ge6 (l := P) (i := k) (by omega)
   have hpn := hPn p (List.mem_of_getElem? hp)
   have ho := wf6 (M := M) hp (by omega)
   have ih := u45 hR hR2 hrow hn2 hP hPn d (k + 1) (x.set p (wf (nth M k) n0)) (by omega) (by rw [List.length_set]; exact hx) ks
   rw [Int.natCast_add, Int.natCast_one] at ih
   have h1 := mla (nl := 2) (M := M) (i := k) (gu3 (by omega))
   have h2 := iva (l := nth M k) (i := n0) (by rw [hrow k (by omega)]; omega)
   have h3 : (ivs (pn P))[k]? = some (.v (.int .i64 p)) := iat (by unfold pn; rw [List.getElem?_map, hp]; rfl)
   have h4 := hrow k (by omega)
   have hs := g52 x p (wf (nth M k) n0)
   have hpl := im5 P
   rw [i62 ho, setP, ← ih, sb5 c138L4.eq_def]
   simp (disch := first | omega | fail) only [push_cast, seval, ui5, lu7, y81, bj9, wrap64, dec_lt, cw6, nl3, qc6, mr8, nb8, if_pos, if_neg, h1, h2, h3, h4, hs, hpl]
theorem ub4 (hy : y.length = M.length) (hMl : ∀ r ∈ M, r.length = n) (hM0 : 0 < M.length) (hn0 : 0 < n) (hMn : M.length ≤ 500) (hN : n ≤ 900) :
 o24 W 138 [.x (.int .i64 q), .fz b (.sl nl 0 1 (lvs nr (M.map vs))), .fz b' (.sl nl' 0 1 (ivs (vs y)))] [] = match solR n M y with
  | none => some (.tup [.x (.slice none 0 0), .x (.bool false)], [], [])
  | some x => some (.tup [.own 0 [], .x (.bool true)], [.sl 0 3 1 (ivs (vs x))], []) := by
 have e1 := fun ks => gz1 (b := b) (b' := b') (nl := nl) (nl' := nl') (nr := nr) hy hMl hn0 hMn hN M.length 0 (by omega) ks
 rw [List.take_zero, List.nil_append] at e1
 simp only [Int.natCast_zero] at e1
 have haug := b28 hy
 obtain ⟨N', P, I, e2⟩ := wh0 (n := n + 1) (n0 := n) (M0 := augL M y) (R := M.length) haug hM0 (by omega) (by omega) (by omega) n 0 (augL M y) [] (by omega) (RedI.start (a86 hMl))
 obtain ⟨s1, s2⟩ := z55 hMl hy I
 have hNl : N'.length = M.length := by rw [I.len, haug]
 have hrow : ∀ k, k < M.length → (nth N' k).length = n + 1 := fun k hk => I.len_nth (by omega)
 have hpl := I.pl
 have e3 := fun ks => rm1 (M := N') (P := P) (n0 := n) hNl (by omega) hrow (by omega) (by omega) (M.length - P.length) 0 (by omega) ks
 have e4 := fun ks => u45 (M := N') (P := P) (n0 := n) hNl (by omega) hrow (by omega) (by omega) (fun p hp => I.lt p hp) P.length 0 (List.replicate n 0) (by omega) (by simp) ks
 rw [List.drop_zero] at e4
 simp only [Int.natCast_zero, Nat.add_zero] at e3 e4
 have hnil : ivs (pn []) = [] := rfl
 rw [hnil] at e2
 simp only [Int.natCast_zero] at e2
 obtain ⟨r0, hr0⟩ := ge6 (l := M) (i := 0) hM0
 have h0 := mva (nl := nr) hr0
 have hr0l := hMl r0 (List.mem_of_getElem? hr0)
 have hz := fc2 M.length
 have hz2 : List.replicate n (0 : Int) = vs (List.replicate n (0 : El q)) := by rw [← qj2]; rfl
 have hpnl := im5 P
 have hsub : ((M.length : Int) - (P.length : Int)).toNat = M.length - P.length := by omega
 rw [o10 rfl T138 rfl]
 unfold F138 c138
 simp (disch := first | omega | fail) only [push_cast, seval, ui5, lu7, y81, bj9, wrap64, dec_lt, cw6, nl3, qc6, mr8, nb8, if_pos, if_neg, h0, hr0l, hz]
 rw [e1]
 simp (disch := first | omega | fail) only [push_cast, seval, ui5, lu7, y81, bj9, wrap64, dec_lt, cw6, nl3, qc6, mr8, nb8, if_pos, if_neg]
 rw [e2]
 simp (disch := first | omega | fail) only [push_cast, seval, ui5, lu7, y81, bj9, wrap64, dec_lt, cw6, nl3, qc6, mr8, nb8, if_pos, if_neg, hpnl, hNl, hsub]
 rw [e3]
 have hiff : ((N'.drop P.length).any fun r => !decide ((wf r n).v = 0)) = true ↔ ∃ k, P.length ≤ k ∧ k < N'.length ∧ wf (nth N' k) n ≠ 0 := by
  rw [List.any_eq_true]
  constructor
  ·rintro ⟨r, hr, hne⟩
   obtain ⟨i, hi⟩ := List.getElem?_of_mem hr
   rw [List.getElem?_drop] at hi
   refine ⟨P.length + i, by omega, (List.getElem?_eq_some_iff.1 hi).1, fun e => ?_⟩
   rw [xr8 hi] at e
   rw [decide_eq_true (r57.2 e)] at hne
   cases hne
  ·rintro ⟨k, k1, k2, k3⟩
   refine ⟨nth N' k, List.mem_of_getElem? (i := k - P.length) (by rw [List.getElem?_drop, show P.length + (k - P.length) = k by omega, gu3 k2]), ?_⟩
   rw [decide_eq_false fun e => k3 (r57.1 e)]; rfl
 by_cases hex : ((N'.drop P.length).any fun r => !decide ((wf r n).v = 0)) = true
 ·rw [if_pos hex, s1 (hiff.1 hex)]
 ·rw [if_neg hex, s2 fun h => hex (hiff.2 h)]
  simp (disch := first | omega | fail) only [push_cast, seval, ui5, lu7, y81, bj9, wrap64, dec_lt, cw6, nl3, qc6, mr8, nb8, if_pos, if_neg, hz2, hpnl]
  rw [e4]
  simp (disch := first | omega | fail) only [push_cast, seval, ui5, lu7, y81, bj9, wrap64, dec_lt, cw6, nl3, qc6, mr8, nb8, if_pos, if_neg]
end
end Go.Proofs.Ytjpejkakodbchaa
namespace Go.Proofs.Ytjpejkakodbchaa
open Go.Am Go.Vm Go.Alg
section
variable {q : Int} {b b' : Bool} {nl nl' nr e : Nat}
theorem kd4 [IsFld q] (v : Int) : o24 W 137 [.x (.int .i64 v), .fz b (.pt e [pF q])] [] = some (.x (.bool (!fok q v)), [], []) := by
 rw [o10 rfl T137 rfl]
 unfold F137 c137
 simp (disch := first | omega | fail) only [push_cast, seval, ui5, lu7, y81, bj9, wrap64, dec_lt, cw6, nl3, qc6, mr8, nb8, if_pos, if_neg]
def yc4 (q : Int) (M : List (List Int)) (y : List Int) : Int := if matE q M = 0 then if y.length ≠ M.length then 6 else if (y.any fun v => !fok q v) = true then 2 else 0 else matE q M
theorem qu2 {M : List (List Int)} {y : List Int} (he : ¬ yc4 q M y = 0) :
 o24 W 87 [.x (.int .i64 q), .fz b (.sl nl 0 1 (lvs nr M)), .fz b' (.sl nl' 0 1 (ivs y))] [] = some (.tup [.x (.slice none 0 0), .x (.bool false), .x (.int .i64 (yc4 q M y))], [], []) := by
 have e1 := fun b nl nr => or9 (M := M) (q := q) (b := b) (nl := nl) (nr := nr)
 unfold yc4 at he ⊢
 by_cases h1 : matE q M = 0
 ·simp only [if_pos h1] at he ⊢
  obtain ⟨⟨⟨p0, m0, g0, mod⟩, hn⟩, N, hN, hNl, _⟩ := ou8 h1
  haveI : IsFld q := ⟨⟨p0, m0, g0, mod, hn⟩⟩
  have hMl : M.length ≤ 64 := by rw [hN, List.length_map]; exact hNl
  by_cases h2 : y.length = M.length
  ·rw [if_neg (by omega)] at he ⊢
   by_cases h3 : (y.any fun v => !fok q v) = true
   ·rw [if_pos h3] at he ⊢
    have hf := fun bl nl b e => eg0 (nl := nl) (l := y) (bl := bl) (k := 137) (b := b) (t := .pt e [pF q]) kd4 rfl (by omega)
    rw [h3] at hf
    rw [o10 rfl T87 rfl]
    unfold F87 c87
    simp (disch := first | omega | fail) only [push_cast, seval, ui5, lu7, y81, bj9, wrap64, dec_lt, cw6, nl3, qc6, mr8, nb8, if_pos, if_neg, e1, h1, h2, hf]
   ·rw [if_neg h3] at he; exact absurd rfl he
  ·rw [if_pos h2]
   have h8 : ¬ (y.length : Int) = (M.length : Int) := by omega
   rw [o10 rfl T87 rfl]
   unfold F87 c87
   simp (disch := first | omega | fail) only [push_cast, seval, ui5, lu7, y81, bj9, wrap64, dec_lt, cw6, nl3, qc6, mr8, nb8, if_pos, if_neg, e1, h1, nb8 h8]
 ·simp only [if_neg h1] at he ⊢
  rw [o10 rfl T87 rfl]
  unfold F87 c87
  simp (disch := first | omega | fail) only [push_cast, seval, ui5, lu7, y81, bj9, wrap64, dec_lt, cw6, nl3, qc6, mr8, nb8, if_pos, if_neg, e1, nb8 h1]
theorem s21 (h1 : matE q [] = 0) : o24 W 87 [.x (.int .i64 q), .fz b (.sl nl 0 1 []), .fz b' (.sl nl' 0 1 [])] [] = some (.tup [.x (.slice none 0 0), .x (.bool true), .x (.int .i64 0)], [], []) := by
 have e1 := fun b nl => or9 (q := q) (M := []) (b := b) (nl := nl) (nr := 0)
 simp only [em1, h1] at e1
 obtain ⟨⟨⟨p0, m0, g0, mod⟩, hn⟩, _⟩ := ou8 h1
 haveI : IsFld q := ⟨⟨p0, m0, g0, mod, hn⟩⟩
 have hf := fun bl nl b e => eg0 (nl := nl) (l := []) (bl := bl) (k := 137) (b := b) (t := .pt e [pF q]) kd4 rfl (by simp)
 simp only [lz6, List.any_nil] at hf
 rw [o10 rfl T87 rfl]
 unfold F87 c87
 simp (disch := first | omega | fail) only [push_cast, seval, ui5, lu7, y81, bj9, wrap64, dec_lt, cw6, nl3, qc6, mr8, nb8, if_pos, if_neg, e1, hf]
theorem zx6 [IsFld q] {M : List (List (El q))} {y : List (El q)} {n : Nat} (hy : y.length = M.length) (h0 : 0 < M.length) (hl : M.length ≤ 64) (hr : ∀ r ∈ M, r.length = n) (hn0 : 0 < n) (hn : n ≤ 64) :
 o24 W 87 [.x (.int .i64 q), .fz b (.sl nl 0 1 (lvs nr (M.map vs))), .fz b' (.sl nl' 0 1 (ivs (vs y)))] [] = match solR n M y with
  | none => some (.tup [.x (.slice none 0 0), .x (.bool false), .x (.int .i64 0)], [], [])
  | some x => some (.tup [.own 0 [], .x (.bool true), .x (.int .i64 0)], [.sl 0 3 1 (ivs (vs x))], []) := by
 have h1 := sy6 hl hr hn0 hn
 have e1 := fun b nl nr => or9 (q := q) (M := M.map vs) (b := b) (nl := nl) (nr := nr)
 simp only [h1] at e1
 have hf := fun bl nl b e => eg0 (nl := nl) (l := vs y) (bl := bl) (k := 137) (b := b) (t := .pt e [pF q]) kd4 rfl (by rw [fi2]; omega)
 have hany : ((vs y).any fun v => !fok q v) = false := List.any_eq_false.2 fun z hz => by
  obtain ⟨x, _, rfl⟩ := List.mem_map.1 hz
  rw [x.ok]; decide
 simp only [hany] at hf
 have e2 := fun b nl nr b' nl' => ub4 (b := b) (nl := nl) (nr := nr) (b' := b') (nl' := nl') hy hr h0 hn0 (by omega) (by omega)
 rw [o10 rfl T87 rfl]
 unfold F87 c87
 cases hs : solR n M y with
 | none =>
   simp only [hs] at e2
   simp (disch := first | omega | fail) only [push_cast, seval, ui5, lu7, y81, bj9, wrap64, dec_lt, cw6, nl3, qc6, mr8, nb8, if_pos, if_neg, e1, hf, e2, hy]
 | some x =>
   simp only [hs] at e2
   simp (disch := first | omega | fail) only [push_cast, seval, ui5, lu7, y81, bj9, wrap64, dec_lt, cw6, nl3, qc6, mr8, nb8, if_pos, if_neg, e1, hf, e2, hy]
end
section
variable {α : Type} {n : Nat}
def t88 (n : Nat) (f : Nat → Nat → α) : List (List α) := (List.range n).map fun r => (List.range n).map fun j => f r j
theorem tr8 (f : Nat → Nat → α) : (t88 n f).length = n := by simp [t88]
theorem ov3 (f : Nat → Nat → α) {i : Nat} (hi : i < n) : (t88 n f)[i]? = some ((List.range n).map fun j => f i j) := by
 unfold t88; rw [List.getElem?_map, List.getElem?_range hi]; rfl
theorem k41 {f g : Nat → Nat → α} (h : ∀ i j, i < n → j < n → f i j = g i j) : t88 n f = t88 n g := by
 unfold t88
 refine List.map_congr_left fun i hi => List.map_congr_left fun j hj => h i j (List.mem_range.1 hi) (List.mem_range.1 hj)
theorem q28 (f : Nat → Nat → α) {i k : Nat} (v : α) : (t88 n f).set i (((List.range n).map fun j => f i j).set k v) = t88 n fun r j => if r = i ∧ j = k then v else f r j := by
 refine List.ext_getElem? fun r => ?_
 rw [List.getElem?_set, tr8]
 by_cases hr : r < n
 ·rw [ov3 _ hr]
  by_cases h : i = r
  ·subst h
   rw [if_pos rfl, if_pos hr, ov3 _ hr]
   congr 1
   refine List.ext_getElem? fun j => ?_
   rw [List.getElem?_set, List.length_map, List.length_range]
   by_cases hj : j < n
   ·rw [List.getElem?_map, List.getElem?_map, List.getElem?_range hj]
    by_cases h2 : k = j
    ·subst h2; rw [if_pos rfl, if_pos hj]; simp
    ·rw [if_neg h2]
     show some (f i j) = some (if i = i ∧ j = k then v else f i j)
     rw [if_neg (show ¬ (i = i ∧ j = k) from fun h => h2 h.2.symm)]
   ·rw [List.getElem?_eq_none (by simp; omega), List.getElem?_eq_none (by simp; omega)]
    split
    ·rw [if_neg (by omega)]
    ·rfl
  ·rw [if_neg h, ov3 _ hr]
   congr 1
   refine List.map_congr_left fun j _ => ?_
   rw [if_neg fun e => h e.1.symm]
 ·rw [List.getElem?_eq_none (by rw [tr8]; omega), List.getElem?_eq_none (by rw [tr8]; omega)]
  split
  ·rw [if_neg (by omega)]
  ·rfl
theorem bj0 (n : Nat) (z : α) : List.replicate n (List.replicate n z) = t88 n fun _ _ => z := by
 unfold t88
 refine List.ext_getElem? fun r => ?_
 rw [List.getElem?_map, List.getElem?_replicate]
 by_cases hr : r < n
 ·rw [if_pos hr, List.getElem?_range hr]
  show some _ = some _
  congr 1
  refine List.ext_getElem? fun j => ?_
  rw [List.getElem?_map, List.getElem?_replicate]
  by_cases hj : j < n
  ·rw [if_pos hj, List.getElem?_range hj]; rfl
  ·rw [if_neg hj, List.getElem?_eq_none (by simpa using hj)]; rfl
 ·rw [if_neg hr, List.getElem?_eq_none (by simpa using hr)]; rfl
end
section
variable {q : Int} [IsFld q] {b b' : Bool} {nl nl' nr : Nat} {M : List (List (El q))} {n : Nat}
theorem kr8 {K : List (List Int)} (hK : K.length = n) (hn : n ≤ 64) : ∀ (d i : Nat), i + d = n → ∀ ks,
 vgoL W ⟨hNo, [.tmp 4, .tmp 5], 0⟩ [0, 1, 7, 37, 38] c139L0 (.blk 0 [0, 1, 7] :: ks) [(0, .x (.int .i64 q)), (1, .fz b (.sl nl 0 1 (lvs nr K))), (7, .own 0 []), (37, .x (.int .i64 n)), (38, .x (.int .i64 i))] [.sl 0 23 1 (lls 2 ((List.replicate n (List.replicate n (0 : Int))).take i ++ List.replicate d []))] =
  vgo W ⟨hNo, [.tmp 4, .tmp 5], 0⟩ ks (VFr.of [(0, .x (.int .i64 q)), (1, .fz b (.sl nl 0 1 (lvs nr K))), (7, .own 0 [])]) [.sl 0 23 1 (lls 2 (List.replicate n (List.replicate n (0 : Int))))]
 | 0, i, hi, ks => by
   rw [List.replicate_zero, List.append_nil, List.take_of_length_le (by rw [List.length_replicate]; omega), sb5 c139L0.eq_def]
   simp (disch := first | omega | fail) only [push_cast, seval, ui5, lu7, y81, bj9, wrap64, dec_lt, cw6, nl3, qc6, mr8, nb8, if_pos, if_neg]
 | d + 1, i, hi, ks => by
   have ih := kr8 hK hn d (i + 1) (by omega) ks
   have hg : (List.replicate n (List.replicate n (0 : Int)))[i]? = some (List.replicate n 0) := by rw [List.getElem?_replicate, if_pos (by omega)]
   have hx := l52 (n := d) hg
   have hYl : ((List.replicate n (List.replicate n (0 : Int))).take i ++ List.replicate (d + 1) []).length = n := by
    simp only [List.length_append, List.length_take, List.length_replicate]; omega
   rw [← hx] at ih
   generalize (List.replicate n (List.replicate n (0 : Int))).take i ++ List.replicate (d + 1) [] = Y at ih hYl
   rw [Int.natCast_add, Int.natCast_one] at ih
   rw [← ih, sb5 c139L0.eq_def]
   simp (disch := first | omega | fail) only [push_cast, seval, ui5, lu7, y81, bj9, wrap64, dec_lt, cw6, nl3, qc6, mr8, nb8, if_pos, if_neg, hK, hYl, y81]
theorem v60 {f : Nat → Nat → El q} {x : List (El q)} {k : Nat} (hx : x.length = n) (hk : k < n) (hn : n ≤ 64) {K : List (List Int)} : ∀ (d i : Nat), i + d = n → ∀ ks,
 vgoL W ⟨hNo, [.tmp 4, .tmp 5], 0⟩ [0, 1, 7, 9, 49, 50, 68, 69, 70] c139L1 (.blk 4 [0, 1, 7, 49, 50] :: ks) [(0, .x (.int .i64 q)), (1, .fz b (.sl nl 0 1 (lvs nr K))), (7, .own 0 []), (9, .x (.int .i64 k)), (49, .x (.int .i64 n)), (50, .x (.int .i64 k)), (68, .own 1 []), (69, .x (.int .i64 n)), (70, .x (.int .i64 i))] [.sl 0 23 1 (lls 2 ((t88 n fun r j => if j = k ∧ r < i then wf x r else f r j).map vs)), .sl 0 3 1 (ivs (vs x))] =
  vgo W ⟨hNo, [.tmp 4, .tmp 5], 0⟩ ks (VFr.of [(0, .x (.int .i64 q)), (1, .fz b (.sl nl 0 1 (lvs nr K))), (7, .own 0 []), (49, .x (.int .i64 n)), (50, .x (.int .i64 k))]) [.sl 0 23 1 (lls 2 ((t88 n fun r j => if j = k then wf x r else f r j).map vs)), .sl 0 3 1 (ivs (vs x))]
 | 0, i, hi, ks => by
   rw [k41 (f := fun r j => if j = k ∧ r < i then wf x r else f r j) (g := fun r j => if j = k then wf x r else f r j) fun r j hr hj => by
    by_cases h : j = k
    ·show (if j = k ∧ r < i then _ else _) = if j = k then _ else _
     rw [if_pos h, if_pos ⟨h, by omega⟩]
    ·show (if j = k ∧ r < i then _ else _) = if j = k then _ else _
     rw [if_neg h, if_neg fun e => h e.1], sb5 c139L1.eq_def]
   simp (disch := first | omega | fail) only [push_cast, seval, ui5, lu7, y81, bj9, wrap64, dec_lt, cw6, nl3, qc6, mr8, nb8, if_pos, if_neg]
 | d + 1, i, hi, ks => by
   have ih := v60 (f := f) hx hk hn d (i + 1) (by omega) ks (K := K)
   have hG : t88 n (fun r j => if j = k ∧ r < i + 1 then wf x r else f r j) = (t88 n fun r j => if j = k ∧ r < i then wf x r else f r j).set i (((List.range n).map fun j => if j = k ∧ i < i then wf x i else f i j).set k (wf x i)) := by
    rw [q28]
    refine k41 fun r j hr hj => ?_
    show (if j = k ∧ r < i + 1 then wf x r else f r j) = if r = i ∧ j = k then wf x i else if j = k ∧ r < i then wf x r else f r j
    by_cases h : j = k
    ·by_cases h2 : r = i
     ·rw [if_pos (show j = k ∧ r < i + 1 from ⟨h, by omega⟩), if_pos (show r = i ∧ j = k from ⟨h2, h⟩), h2]
     ·rw [if_neg (show ¬ (r = i ∧ j = k) from fun e => h2 e.1)]
      by_cases h3 : r < i
      ·rw [if_pos (show j = k ∧ r < i + 1 from ⟨h, by omega⟩), if_pos (show j = k ∧ r < i from ⟨h, h3⟩)]
      ·rw [if_neg (show ¬ (j = k ∧ r < i + 1) from fun e => by have := e.2; omega), if_neg (show ¬ (j = k ∧ r < i) from fun e => h3 e.2)]
    ·rw [if_neg (show ¬ (j = k ∧ r < i + 1) from fun e => h e.1), if_neg (show ¬ (r = i ∧ j = k) from fun e => h e.2), if_neg (show ¬ (j = k ∧ r < i) from fun e => h e.1)]
   have hg := ov3 (n := n) (fun r j => if j = k ∧ r < i then wf x r else f r j) (i := i) (by omega)
   have hgl := tr8 (n := n) fun r j => if j = k ∧ r < i then wf x r else f r j
   rw [hG] at ih
   have hrl : ((List.range n).map fun j => if j = k ∧ i < i then wf x i else f i j).length = n := by simp
   generalize ((List.range n).map fun j => if j = k ∧ i < i then wf x i else f i j) = row at ih hg hrl
   generalize (t88 n fun r j => if j = k ∧ r < i then wf x r else f r j) = Y at ih hg hgl
   rw [List.map_set, ← g52, Int.natCast_add, Int.natCast_one] at ih
   have h1 := mla (nl := 2) hg
   have h2 := iva (l := x) (i := i) (by omega)
   rw [← ih, sb5 c139L1.eq_def]
   simp (disch := first | omega | fail) only [push_cast, seval, ui5, lu7, y81, bj9, wrap64, dec_lt, cw6, nl3, qc6, mr8, nb8, if_pos, if_neg, h1, h2, hgl, hrl, y81]
theorem hj7 (hMl : M.length = n) (hr : ∀ r ∈ M, r.length = n) (hn : n ≤ 64) : ∀ (d k : Nat), k + d = n → ∀ ks,
 vgoL W ⟨hNo, [.tmp 4, .tmp 5], 0⟩ [0, 1, 7, 49, 50] c139L2 (.blk 2 [7] :: ks) [(0, .x (.int .i64 q)), (1, .fz b (.sl nl 0 1 (lvs nr (M.map vs)))), (7, .own 0 []), (49, .x (.int .i64 n)), (50, .x (.int .i64 k))] [.sl 0 23 1 (lls 2 ((t88 n fun r j => if j < k then wf ((solR n M (f05 n j)).getD []) r else 0).map vs))] =
  if ((List.range' k d).any fun j => (solR n M (f05 n j)).isNone) = true then some (.tup [.x (.slice none 0 0), .x (.int .i64 8)], [], []) else
  vgo W ⟨hNo, [.tmp 4, .tmp 5], 0⟩ ks (VFr.of [(7, .own 0 [])]) [.sl 0 23 1 (lls 2 ((t88 n fun r j => wf ((solR n M (f05 n j)).getD []) r).map vs))]
 | 0, k, hk, ks => by
   rw [if_neg (by simp), k41 (f := fun r j => if j < k then wf ((solR n M (f05 n j)).getD []) r else 0) (g := fun r j => wf ((solR n M (f05 n j)).getD []) r) fun r j hr hj => if_pos (by omega), sb5 c139L2.eq_def]
   simp (disch := first | omega | fail) only [push_cast, seval, ui5, lu7, y81, bj9, wrap64, dec_lt, cw6, nl3, qc6, mr8, nb8, if_pos, if_neg]
 | d + 1, k, hk, ks => by
   have ih := hj7 hMl hr hn d (k + 1) (by omega) ks
   have hu : (List.replicate n (0 : Int)).set k 1 = vs (f05 n k : List (El q)) := by unfold f05; rw [← g52, ← qj2]; rfl
   have e2 := fun b nl nr b' nl' => ub4 (b := b) (nl := nl) (nr := nr) (b' := b') (nl' := nl') (y := f05 n k) (by rw [sm5, hMl]) hr (by omega) (by omega) (by omega) (by omega)
   rw [List.range'_succ, List.any_cons]
   cases hs : solR n M (f05 n k) with
   | none =>
     simp only [hs] at e2
     rw [Option.isNone_none, Bool.true_or, if_pos rfl, sb5 c139L2.eq_def]
     simp (disch := first | omega | fail) only [push_cast, seval, ui5, lu7, y81, bj9, wrap64, dec_lt, cw6, nl3, qc6, mr8, nb8, if_pos, if_neg, hMl, hu, e2]
   | some x =>
     simp only [hs] at e2
     obtain ⟨hxl, _⟩ := l11 hr (by rw [sm5, hMl]) hs
     have e3 := fun ks => v60 (b := b) (nl := nl) (nr := nr) (K := M.map vs) (f := fun r j => if j < k then wf ((solR n M (f05 n j)).getD []) r else 0) (x := x) (k := k) hxl (by omega) hn n 0 (by omega) ks
     have hG0 : t88 n (fun r j => if j = k ∧ r < 0 then wf x r else if j < k then wf ((solR n M (f05 n j)).getD []) r else 0) = t88 n fun r j => if j < k then wf ((solR n M (f05 n j)).getD []) r else 0 := k41 fun r j _ _ => if_neg fun e => Nat.not_lt_zero _ e.2
     have hG1 : t88 n (fun r j => if j = k then wf x r else if j < k then wf ((solR n M (f05 n j)).getD []) r else 0) = t88 n fun r j => if j < k + 1 then wf ((solR n M (f05 n j)).getD []) r else 0 := k41 fun r j _ _ => by
      by_cases h : j = k
      ·subst h; rw [if_pos rfl, if_pos (by omega), hs]; rfl
      ·rw [if_neg h]
       by_cases h2 : j < k
       ·rw [if_pos h2, if_pos (by omega)]
       ·rw [if_neg h2, if_neg (by omega)]
     rw [hG0, hG1] at e3
     simp only [Int.natCast_zero, List.take_zero, List.drop_zero, rp2, lz6, x25, List.map_nil, List.length_nil] at e3
     rw [Option.isNone_some, Bool.false_or]
     rw [Int.natCast_add, Int.natCast_one] at ih
     rw [← ih, sb5 c139L2.eq_def]
     simp (disch := first | omega | fail) only [push_cast, seval, ui5, lu7, y81, bj9, wrap64, dec_lt, cw6, nl3, qc6, mr8, nb8, if_pos, if_neg, hMl, hu, e2, hxl]
     rw [e3]
     simp (disch := first | omega | fail) only [push_cast, seval, ui5, lu7, y81, bj9, wrap64, dec_lt, cw6, nl3, qc6, mr8, nb8, if_pos, if_neg]
end
section
variable {q : Int} {b b' : Bool} {nl nl' nr e : Nat}
theorem ik7 {M : List (List Int)} (he : ¬ matE q M = 0) :
 o24 W 139 [.x (.int .i64 q), .fz b (.sl nl 0 1 (lvs nr M))] [] = some (.tup [.x (.slice none 0 0), .x (.int .i64 (matE q M))], [], []) := by
 have e1 := fun b nl nr => or9 (M := M) (q := q) (b := b) (nl := nl) (nr := nr)
 rw [o10 rfl T139 rfl]
 unfold F139 c139
 simp (disch := first | omega | fail) only [push_cast, seval, ui5, lu7, y81, bj9, wrap64, dec_lt, cw6, nl3, qc6, mr8, nb8, if_pos, if_neg, e1, nb8 he]
theorem p89 (h1 : matE q [] = 0) : o24 W 139 [.x (.int .i64 q), .fz b (.sl nl 0 1 [])] [] = some (.tup [.own 0 [], .x (.int .i64 0)], [.sl 0 23 1 []], []) := by
 have e1 := fun b nl => or9 (q := q) (M := []) (b := b) (nl := nl) (nr := 0)
 simp only [em1, h1] at e1
 rw [o10 rfl T139 rfl]
 unfold F139 c139
 simp (disch := first | omega | fail) only [push_cast, seval, ui5, lu7, y81, bj9, wrap64, dec_lt, cw6, nl3, qc6, mr8, nb8, if_pos, if_neg, e1]
 rw [sb5 c139L0.eq_def]
 simp (disch := first | omega | fail) only [push_cast, seval, ui5, lu7, y81, bj9, wrap64, dec_lt, cw6, nl3, qc6, mr8, nb8, if_pos, if_neg]
 rw [sb5 c139L2.eq_def]
 simp (disch := first | omega | fail) only [push_cast, seval, ui5, lu7, y81, bj9, wrap64, dec_lt, cw6, nl3, qc6, mr8, nb8, if_pos, if_neg]
theorem uo1 [IsFld q] {M : List (List (El q))} {n : Nat} (h0 : 0 < M.length) (hl : M.length ≤ 64) (hr : ∀ r ∈ M, r.length = n) (hn0 : 0 < n) (hn : n ≤ 64) (hne : M.length ≠ n) :
 o24 W 139 [.x (.int .i64 q), .fz b (.sl nl 0 1 (lvs nr (M.map vs)))] [] = some (.tup [.x (.slice none 0 0), .x (.int .i64 3)], [], []) := by
 have h1 := sy6 hl hr hn0 hn
 have e1 := fun b nl nr => or9 (q := q) (M := M.map vs) (b := b) (nl := nl) (nr := nr)
 simp only [h1] at e1
 obtain ⟨r0, hr0⟩ := ge6 (l := M) (i := 0) h0
 have h3 := mva (nl := nr) hr0
 have h4 := hr r0 (List.mem_of_getElem? hr0)
 have h8 : ¬ (M.length : Int) = (n : Int) := by omega
 rw [o10 rfl T139 rfl]
 unfold F139 c139
 simp (disch := first | omega | fail) only [push_cast, seval, ui5, lu7, y81, bj9, wrap64, dec_lt, cw6, nl3, qc6, mr8, nb8, if_pos, if_neg, e1, h3, h4, nb8 h8]
theorem j95 [IsFld q] {M : List (List (El q))} {n : Nat} (hMl : M.length = n) (hr : ∀ r ∈ M, r.length = n) (hn0 : 0 < n) (hn : n ≤ 64) :
 o24 W 139 [.x (.int .i64 q), .fz b (.sl nl 0 1 (lvs nr (M.map vs)))] [] = if ((List.range' 0 n).any fun j => (solR n M (f05 n j)).isNone) = true then some (.tup [.x (.slice none 0 0), .x (.int .i64 8)], [], []) else
  some (.tup [.own 0 [], .x (.int .i64 0)], [.sl 0 23 1 (lls 2 ((t88 n fun r j => wf ((solR n M (f05 n j)).getD []) r).map vs))], []) := by
 have h1 := sy6 (by omega) hr hn0 hn
 have e1 := fun b nl nr => or9 (q := q) (M := M.map vs) (b := b) (nl := nl) (nr := nr)
 simp only [h1] at e1
 obtain ⟨r0, hr0⟩ := ge6 (l := M) (i := 0) (by omega)
 have h3 := mva (nl := nr) hr0
 have h4 := hr r0 (List.mem_of_getElem? hr0)
 have e2 := fun ks => kr8 (q := q) (b := b) (nl := nl) (nr := nr) (K := M.map vs) (by rw [List.length_map]; exact hMl) hn n 0 (by omega) ks
 rw [List.take_zero, List.nil_append] at e2
 simp only [Int.natCast_zero] at e2
 have e3 := fun ks => hj7 (b := b) (nl := nl) (nr := nr) hMl hr hn n 0 (by omega) ks
 have hz := fc2 n
 have hG0 : (t88 n fun r j => if j < 0 then wf ((solR n M (f05 n j)).getD []) r else 0) = t88 n fun _ _ => (0 : El q) := k41 fun r j _ _ => if_neg (Nat.not_lt_zero _)
 rw [hG0] at e3
 have hG : lls 2 (List.replicate n (List.replicate n (0 : Int))) = lls 2 ((t88 n fun _ _ => (0 : El q)).map vs) := by
  rw [← bj0, List.map_replicate, ← qj2]; rfl
 rw [hG] at e2
 simp only [Int.natCast_zero] at e3
 rw [o10 rfl T139 rfl]
 unfold F139 c139
 simp (disch := first | omega | fail) only [push_cast, seval, ui5, lu7, y81, bj9, wrap64, dec_lt, cw6, nl3, qc6, mr8, nb8, if_pos, if_neg, e1, h3, h4, hMl, hz]
 rw [e2]
 simp (disch := first | omega | fail) only [push_cast, seval, ui5, lu7, y81, bj9, wrap64, dec_lt, cw6, nl3, qc6, mr8, nb8, if_pos, if_neg, hMl]
 rw [e3]
 split
 ·rfl
 ·simp (disch := first | omega | fail) only [push_cast, seval, ui5, lu7, y81, bj9, wrap64, dec_lt, cw6, nl3, qc6, mr8, nb8, if_pos, if_neg]
end
end Go.Proofs.Ytjpejkakodbchaa
namespace Go.Proofs.Ytjpejkakodbchaa
open Go.Am Go.Vm Go.Alg
section
variable {q p m g : Int} {t : Tree} {b : Bool} {nl nr : Nat} {M : List (List Int)}
theorem de8 [IsFld q] (u : RFo q p m g t) {i : Nat} {r : List Int} (hr : M[i]? = some r) (hrl : r.length ≤ 64) (hMl : M.length ≤ 64) :
 ∀ (n k : Nat), k + n = r.length → ∀ ks,
   vgoL W ⟨hNo, [.tmp 4], 0⟩ [1, 5, 7, 8] c15L0 (.blk 2 [1, 5, 7] :: ks) [(1, .fz b (.sl nl 0 1 (lvs nr M))), (5, .own 0 []), (7, .x (.int .i64 i)), (8, .x (.int .i64 k))] [.pt 28 [.v (.int .i64 q), .v (.int .i64 p), .v (.int .i64 m), .v (.int .i64 g), .fz t]] =
    if (r.drop k).any (fun v => !fok q v) = true then some (.x (.int .i64 2), [], []) else vgo W ⟨hNo, [.tmp 4], 0⟩ ks (VFr.of [(1, .fz b (.sl nl 0 1 (lvs nr M))), (5, .own 0 []), (7, .x (.int .i64 i))]) [.pt 28 [.v (.int .i64 q), .v (.int .i64 p), .v (.int .i64 m), .v (.int .i64 g), .fz t]]
 | 0, k, hk, ks => by
   have hi : i < M.length := (List.getElem?_eq_some_iff.1 hr).1
   have h0 := lat (nl := nr) hr
   rw [oh9 (by omega), if_neg (by simp), sb5 c15L0.eq_def]
   simp (disch := first | omega | fail) only [push_cast, seval, ui5, lu7, y81, bj9, wrap64, dec_lt, cw6, nl3, qc6, mr8, nb8, if_pos, if_neg, h0]
 | n + 1, k, hk, ks => by
   have ih := de8 u hr hrl hMl n (k + 1) (by omega) ks
   have hi : i < M.length := (List.getElem?_eq_some_iff.1 hr).1
   have h0 := lat (nl := nr) hr
   obtain ⟨a, ha⟩ := ge6 (l := r) (i := k) (by omega)
   have h1 := iat ha
   have ht := u.n
   have ho := u.o
   have vhas := fun x : Int => xb9 (q := q) (x := x)
   rw [u.e] at vhas
   rw [Int.natCast_add, Int.natCast_one] at ih
   rw [i62 ha, List.any_cons]
   cases hf : fok q a with
   | true =>
     rw [Bool.not_true, Bool.false_or, ← ih, sb5 c15L0.eq_def]
     simp (disch := first | omega | fail) only [push_cast, seval, ui5, lu7, y81, bj9, wrap64, dec_lt, cw6, nl3, qc6, mr8, nb8, if_pos, if_neg, h0, h1, ht, ho, vhas, hf]
   | false =>
     rw [Bool.not_false, Bool.true_or, if_pos rfl, sb5 c15L0.eq_def]
     simp (disch := first | omega | fail) only [push_cast, seval, ui5, lu7, y81, bj9, wrap64, dec_lt, cw6, nl3, qc6, mr8, nb8, if_pos, if_neg, h0, h1, ht, ho, vhas, hf]
theorem qc1 [IsFld q] (u : RFo q p m g t) (hMl : M.length ≤ 64) {n0 : Nat} (hn0 : n0 = (nth M 0).length) :
 ∀ (d i : Nat), i + d = M.length → ∀ ks,
   vgoL W ⟨hNo, [.tmp 4], 0⟩ [1, 5, 7] c15L1 (.blk 0 [] :: ks) [(1, .fz b (.sl nl 0 1 (lvs nr M))), (5, .own 0 []), (7, .x (.int .i64 i))] [.pt 28 [.v (.int .i64 q), .v (.int .i64 p), .v (.int .i64 m), .v (.int .i64 g), .fz t]] =
    if wb9 q n0 (M.drop i) = 0 then vgo W ⟨hNo, [.tmp 4], 0⟩ ks (VFr.of []) [.pt 28 [.v (.int .i64 q), .v (.int .i64 p), .v (.int .i64 m), .v (.int .i64 g), .fz t]] else some (.x (.int .i64 (wb9 q n0 (M.drop i))), [], [])
 | 0, i, hi, ks => by
   rw [oh9 (by omega), wb9, if_pos rfl, sb5 c15L1.eq_def]
   simp (disch := first | omega | fail) only [push_cast, seval, ui5, lu7, y81, bj9, wrap64, dec_lt, cw6, nl3, qc6, mr8, nb8, if_pos, if_neg]
 | d + 1, i, hi, ks => by
   obtain ⟨r, hr⟩ := ge6 (l := M) (i := i) (by omega)
   obtain ⟨r0, hr0⟩ := ge6 (l := M) (i := 0) (by omega)
   have hr0l : r0.length = n0 := by rw [hn0, xr8 hr0]
   have h0 := lat (nl := nr) hr
   have h1 := lat (nl := nr) hr0
   have ih := qc1 u hMl hn0 d (i + 1) (by omega) ks
   rw [Int.natCast_add, Int.natCast_one] at ih
   rw [i62 hr]
   by_cases hne : r.length = n0
   ·by_cases hz : r.length = 0
    ·have hrow : rowE q n0 r = 3 := by unfold rowE; rw [if_pos (.inr hz)]
     rw [kj7 hrow (by decide), if_neg (by decide), sb5 c15L1.eq_def]
     simp (disch := first | omega | fail) only [push_cast, seval, ui5, lu7, y81, bj9, wrap64, dec_lt, cw6, nl3, qc6, mr8, nb8, if_pos, if_neg, h0, h1, hr0l]
    ·by_cases h64 : 64 < r.length
     ·have hrow : rowE q n0 r = 4 := by unfold rowE; rw [if_neg (by omega), if_pos h64]
      rw [kj7 hrow (by decide), if_neg (by decide), sb5 c15L1.eq_def]
      simp (disch := first | omega | fail) only [push_cast, seval, ui5, lu7, y81, bj9, wrap64, dec_lt, cw6, nl3, qc6, mr8, nb8, if_pos, if_neg, h0, h1, hr0l]
     ·have e := fun ks => de8 (b := b) (nl := nl) (nr := nr) u hr (by omega) hMl r.length 0 (by omega) ks
      simp only [Int.natCast_zero, List.take_zero, List.drop_zero, rp2, lz6, x25, List.map_nil, List.length_nil] at e
      cases hany : (r.any fun v => !fok q v) with
      | true =>
        have hrow : rowE q n0 r = 2 := by unfold rowE; rw [if_neg (by omega), if_neg h64, if_pos hany]
        rw [hany] at e
        rw [kj7 hrow (by decide), if_neg (by decide), sb5 c15L1.eq_def]
        simp (disch := first | omega | fail) only [push_cast, seval, ui5, lu7, y81, bj9, wrap64, dec_lt, cw6, nl3, qc6, mr8, nb8, if_pos, if_neg, h0, h1, hr0l]
        rw [e, if_pos rfl]
      | false =>
        have hrow : rowE q n0 r = 0 := by unfold rowE; rw [if_neg (by omega), if_neg h64, if_neg (by rw [hany]; decide)]
        rw [hany] at e
        rw [qf5 hrow, ← ih, sb5 c15L1.eq_def]
        simp (disch := first | omega | fail) only [push_cast, seval, ui5, lu7, y81, bj9, wrap64, dec_lt, cw6, nl3, qc6, mr8, nb8, if_pos, if_neg, h0, h1, hr0l]
        rw [e, if_neg (by decide)]
        simp (disch := first | omega | fail) only [push_cast, seval, ui5, lu7, y81, bj9, wrap64, dec_lt, cw6, nl3, qc6, mr8, nb8, if_pos, if_neg]
   ·have hrow : rowE q n0 r = 3 := by unfold rowE; rw [if_pos (.inl hne)]
    have hne' : ¬ (r.length : Int) = (n0 : Int) := by omega
    rw [kj7 hrow (by decide), if_neg (by decide), sb5 c15L1.eq_def]
    simp (disch := first | omega | fail) only [push_cast, seval, ui5, lu7, y81, bj9, wrap64, dec_lt, cw6, nl3, qc6, mr8, nb8, if_pos, if_neg, h0, h1, hr0l, nb8 hne']
theorem rz8 {q : Int} : o24 W 15 [.x (.int .i64 q), .fz b (.sl nl 0 1 (lvs nr M))] [] = some (.x (.int .i64 (matE q M)), [], []) := by
 unfold matE
 cases hn : fldN q.toNat with
 | none =>
   have e1 := fg0 hn
   rw [o10 rfl T15 rfl]
   unfold F15 c15
   simp (disch := first | omega | fail) only [push_cast, seval, ui5, lu7, y81, bj9, wrap64, dec_lt, cw6, nl3, qc6, mr8, nb8, if_pos, if_neg, e1]
 | some x =>
   obtain ⟨p0, m0, g0, mod⟩ := x
   haveI : IsFld q := ⟨⟨p0, m0, g0, mod, hn⟩⟩
   obtain ⟨p, m, g, t, u⟩ := k75 q
   have ht := u.n
   have e0 : o24 W 16 [.x (.int .i64 q)] [] = _ := uw8
   rw [u.e] at e0
   simp only
   by_cases h64 : 64 < M.length
   ·rw [if_pos h64, o10 rfl T15 rfl]
    unfold F15 c15
    simp (disch := first | omega | fail) only [push_cast, seval, ui5, lu7, y81, bj9, wrap64, dec_lt, cw6, nl3, qc6, mr8, nb8, if_pos, if_neg, e0, ht]
   ·have e := fun ks => qc1 (M := M) (b := b) (nl := nl) (nr := nr) u (by omega) rfl M.length 0 (by omega) ks
    rw [if_neg h64, o10 rfl T15 rfl]
    simp only [Int.natCast_zero, List.take_zero, List.drop_zero, rp2, lz6, x25, List.map_nil, List.length_nil] at e
    unfold F15 c15
    simp (disch := first | omega | fail) only [push_cast, seval, ui5, lu7, y81, bj9, wrap64, dec_lt, cw6, nl3, qc6, mr8, nb8, if_pos, if_neg, e0, ht]
    rw [e]
    by_cases hr : wb9 q (nth M 0).length M = 0
    ·rw [if_pos hr, hr]
     simp (disch := first | omega | fail) only [push_cast, seval, ui5, lu7, y81, bj9, wrap64, dec_lt, cw6, nl3, qc6, mr8, nb8, if_pos, if_neg]
    ·rw [if_neg hr]
end
end Go.Proofs.Ytjpejkakodbchaa
namespace Go.Proofs.Ytjpejkakodbchaa
open Go.Am Go.Vm Go.Alg
section
variable {b b' : Bool} {nl nl' nr nr' : Nat}
theorem ft0 {l k : List Int} (hl : l.length ≤ 9223372036854775807) (hk : k.length = l.length) : ∀ (d i : Nat), i + d = l.length → ∀ ks,
 vgoL W ⟨hNo, [.tmp 4], 0⟩ [0, 1, 5] c58L0 (.blk 0 [] :: ks) [(0, .fz b (.sl nl 0 1 (ivs l))), (1, .fz b' (.sl nl' 0 1 (ivs k))), (5, .x (.int .i64 i))] [] =
  if l.drop i = k.drop i then vgo W ⟨hNo, [.tmp 4], 0⟩ ks (VFr.of []) [] else some (.x (.bool false), [], [])
 | 0, i, hi, ks => by
   rw [oh9 (by omega), oh9 (by omega), if_pos rfl, sb5 c58L0.eq_def]
   simp (disch := first | omega | fail) only [push_cast, seval, ui5, lu7, y81, bj9, wrap64, dec_lt, cw6, nl3, qc6, mr8, nb8, if_pos, if_neg]
 | d + 1, i, hi, ks => by
   have ih := ft0 hl hk d (i + 1) (by omega) ks
   obtain ⟨a, ha⟩ := ge6 (l := l) (i := i) (by omega)
   obtain ⟨c, hc⟩ := ge6 (l := k) (i := i) (by omega)
   have h1 := iat ha
   have h2 := iat hc
   rw [i62 ha, i62 hc]
   rw [Int.natCast_add, Int.natCast_one] at ih
   by_cases h : a = c
   ·have hiff : (a :: l.drop (i + 1) = c :: k.drop (i + 1)) = (l.drop (i + 1) = k.drop (i + 1)) := by rw [h]; simp
    simp only [hiff]
    rw [← ih, sb5 c58L0.eq_def]
    simp (disch := first | omega | fail) only [push_cast, seval, ui5, lu7, y81, bj9, wrap64, dec_lt, cw6, nl3, qc6, mr8, nb8, if_pos, if_neg, h1, h2, h]
   ·rw [if_neg (by intro e; exact h (List.cons.inj e).1), sb5 c58L0.eq_def]
    simp (disch := first | omega | fail) only [push_cast, seval, ui5, lu7, y81, bj9, wrap64, dec_lt, cw6, nl3, qc6, mr8, nb8, if_pos, if_neg, h1, h2, nb8 h]
theorem nb2 {l k : List Int} (hl : l.length ≤ 9223372036854775807) : o24 W 58 [.fz b (.sl nl 0 1 (ivs l)), .fz b' (.sl nl' 0 1 (ivs k))] [] = some (.x (.bool (decide (l = k))), [], []) := by
 by_cases hk : k.length = l.length
 ·have e := fun ks => ft0 (b := b) (b' := b') (nl := nl) (nl' := nl') hl hk l.length 0 (by omega) ks
  simp only [Int.natCast_zero, List.take_zero, List.drop_zero, rp2, lz6, x25, List.map_nil, List.length_nil] at e
  rw [o10 rfl T58 rfl]
  unfold F58 c58
  simp (disch := first | omega | fail) only [push_cast, seval, ui5, lu7, y81, bj9, wrap64, dec_lt, cw6, nl3, qc6, mr8, nb8, if_pos, if_neg, hk]
  rw [e]
  by_cases h : l = k
  ·rw [if_pos h, decide_eq_true h]
   simp (disch := first | omega | fail) only [push_cast, seval, ui5, lu7, y81, bj9, wrap64, dec_lt, cw6, nl3, qc6, mr8, nb8, if_pos, if_neg]
  ·rw [if_neg h, decide_eq_false h]
 ·have h : ¬ l = k := fun e => hk (by rw [e])
  have h8 : ¬ (l.length : Int) = (k.length : Int) := by omega
  rw [decide_eq_false h, o10 rfl T58 rfl]
  unfold F58 c58
  simp (disch := first | omega | fail) only [push_cast, seval, ui5, lu7, y81, bj9, wrap64, dec_lt, cw6, nl3, qc6, mr8, nb8, if_pos, if_neg, nb8 h8]
theorem h39 {l k : List (List Int)} (hl : l.length ≤ 9223372036854775807) (he : ∀ r ∈ l, r.length ≤ 9223372036854775807) (hk : k.length = l.length) (hx : 83 = 83) : ∀ (d i : Nat), i + d = l.length → ∀ ks,
 vgoL W ⟨hNo, [.tmp 4], 0⟩ [0, 1, 5] c83L0 (.blk 0 [] :: ks) [(0, .fz b (.sl nl 0 1 (lvs nr l))), (1, .fz b' (.sl nl' 0 1 (lvs nr' k))), (5, .x (.int .i64 i))] [] =
  if l.drop i = k.drop i then vgo W ⟨hNo, [.tmp 4], 0⟩ ks (VFr.of []) [] else some (.x (.bool false), [], [])
 | 0, i, hi, ks => by
   rw [oh9 (by omega), oh9 (by omega), if_pos rfl, sb5 c83L0.eq_def]
   simp (disch := first | omega | fail) only [push_cast, seval, ui5, lu7, y81, bj9, wrap64, dec_lt, cw6, nl3, qc6, mr8, nb8, if_pos, if_neg]
 | d + 1, i, hi, ks => by
   have ih := h39 hl he hk hx d (i + 1) (by omega) ks
   obtain ⟨a, ha⟩ := ge6 (l := l) (i := i) (by omega)
   obtain ⟨c, hc⟩ := ge6 (l := k) (i := i) (by omega)
   have h1 := lat (nl := nr) ha
   have h2 := lat (nl := nr') hc
   have e := fun b b' nl nl' => nb2 (b := b) (b' := b') (nl := nl) (nl' := nl') (l := a) (k := c) (he a (List.mem_of_getElem? ha))
   rw [i62 ha, i62 hc]
   rw [Int.natCast_add, Int.natCast_one] at ih
   by_cases h : a = c
   ·have hiff : (a :: l.drop (i + 1) = c :: k.drop (i + 1)) = (l.drop (i + 1) = k.drop (i + 1)) := by rw [h]; simp
    simp only [decide_eq_true h] at e
    simp only [hiff]
    rw [← ih, sb5 c83L0.eq_def]
    simp (disch := first | omega | fail) only [push_cast, seval, ui5, lu7, y81, bj9, wrap64, dec_lt, cw6, nl3, qc6, mr8, nb8, if_pos, if_neg, h1, h2, e]
   ·simp only [decide_eq_false h] at e
    rw [if_neg (by intro e; exact h (List.cons.inj e).1), sb5 c83L0.eq_def]
    simp (disch := first | omega | fail) only [push_cast, seval, ui5, lu7, y81, bj9, wrap64, dec_lt, cw6, nl3, qc6, mr8, nb8, if_pos, if_neg, h1, h2, e]
theorem us3 {l k : List (List Int)} (hl : l.length ≤ 9223372036854775807) (he : ∀ r ∈ l, r.length ≤ 9223372036854775807) : o24 W 83 [.fz b (.sl nl 0 1 (lvs nr l)), .fz b' (.sl nl' 0 1 (lvs nr' k))] [] = some (.x (.bool (decide (l = k))), [], []) := by
 by_cases hk : k.length = l.length
 ·have e := fun ks => h39 (b := b) (b' := b') (nl := nl) (nl' := nl') (nr := nr) (nr' := nr') hl he hk rfl l.length 0 (by omega) ks
  simp only [Int.natCast_zero, List.take_zero, List.drop_zero, rp2, lz6, x25, List.map_nil, List.length_nil] at e
  rw [o10 rfl T83 rfl]
  unfold F83 c83
  simp (disch := first | omega | fail) only [push_cast, seval, ui5, lu7, y81, bj9, wrap64, dec_lt, cw6, nl3, qc6, mr8, nb8, if_pos, if_neg, hk]
  rw [e]
  by_cases h : l = k
  ·rw [if_pos h, decide_eq_true h]
   simp (disch := first | omega | fail) only [push_cast, seval, ui5, lu7, y81, bj9, wrap64, dec_lt, cw6, nl3, qc6, mr8, nb8, if_pos, if_neg]
  ·rw [if_neg h, decide_eq_false h]
 ·have h : ¬ l = k := fun e => hk (by rw [e])
  have h8 : ¬ (l.length : Int) = (k.length : Int) := by omega
  rw [decide_eq_false h, o10 rfl T83 rfl]
  unfold F83 c83
  simp (disch := first | omega | fail) only [push_cast, seval, ui5, lu7, y81, bj9, wrap64, dec_lt, cw6, nl3, qc6, mr8, nb8, if_pos, if_neg, nb8 h8]
theorem dy0 {l k : List (List Int)} {e f : Int} (hl : l.length ≤ 9223372036854775807) (he : ∀ r ∈ l, r.length ≤ 9223372036854775807) : o24 W 20 [.fz b (.sl nl 0 1 (lvs nr l)), .x (.int .i64 e), .fz b' (.sl nl' 0 1 (lvs nr' k)), .x (.int .i64 f)] [] = some (.x (.bool (if f = 0 then decide (e = 0) && decide (l = k) else decide (e = f) && decide (l.length = 0))), [], []) := by
 have h1 := fun b b' nl nl' nr nr' => us3 (b := b) (b' := b') (nl := nl) (nl' := nl') (nr := nr) (nr' := nr') (k := k) hl he
 by_cases hf : f = 0
 ·rw [if_pos hf]
  by_cases h0 : e = 0
  ·rw [decide_eq_true h0, Bool.true_and, o10 rfl T20 rfl]
   unfold F20 c20
   simp (disch := first | omega | fail) only [push_cast, seval, ui5, lu7, y81, bj9, wrap64, dec_lt, cw6, nl3, qc6, mr8, nb8, if_pos, if_neg, hf, h0, h1]
  ·rw [decide_eq_false h0, Bool.false_and, o10 rfl T20 rfl]
   unfold F20 c20
   simp (disch := first | omega | fail) only [push_cast, seval, ui5, lu7, y81, bj9, wrap64, dec_lt, cw6, nl3, qc6, mr8, nb8, if_pos, if_neg, hf, nb8 h0]
 ·rw [if_neg hf]
  by_cases h0 : e = f
  ·subst h0
   have h8 : ((l.length : Int) = 0) = (l.length = 0) := by simp only [eq_iff_iff]; omega
   rw [decide_eq_true rfl, Bool.true_and, o10 rfl T20 rfl]
   unfold F20 c20
   by_cases hz : l.length = 0
   ·rw [decide_eq_true hz]
    simp (disch := first | omega | fail) only [push_cast, seval, ui5, lu7, y81, bj9, wrap64, dec_lt, cw6, nl3, qc6, mr8, nb8, if_pos, if_neg, nb8 hf, hz]
   ·rw [decide_eq_false hz]
    simp (disch := first | omega | fail) only [push_cast, seval, ui5, lu7, y81, bj9, wrap64, dec_lt, cw6, nl3, qc6, mr8, nb8, if_pos, if_neg, nb8 hf]
  ·rw [decide_eq_false h0, Bool.false_and, o10 rfl T20 rfl]
   unfold F20 c20
   simp (disch := first | omega | fail) only [push_cast, seval, ui5, lu7, y81, bj9, wrap64, dec_lt, cw6, nl3, qc6, mr8, nb8, if_pos, if_neg, nb8 hf, nb8 h0]
theorem ea2 {l k : List Int} {e f : Int} (hl : l.length ≤ 9223372036854775807) : o24 W 35 [.fz b (.sl nl 0 1 (ivs l)), .x (.int .i64 e), .fz b' (.sl nl' 0 1 (ivs k)), .x (.int .i64 f)] [] = some (.x (.bool (if f = 0 then decide (e = 0) && decide (l = k) else decide (e = f) && decide (l.length = 0))), [], []) := by
 have h1 := fun b b' nl nl' => nb2 (b := b) (b' := b') (nl := nl) (nl' := nl') (k := k) hl
 by_cases hf : f = 0
 ·rw [if_pos hf]
  by_cases h0 : e = 0
  ·rw [decide_eq_true h0, Bool.true_and, o10 rfl T35 rfl]
   unfold F35 c35
   simp (disch := first | omega | fail) only [push_cast, seval, ui5, lu7, y81, bj9, wrap64, dec_lt, cw6, nl3, qc6, mr8, nb8, if_pos, if_neg, hf, h0, h1]
  ·rw [decide_eq_false h0, Bool.false_and, o10 rfl T35 rfl]
   unfold F35 c35
   simp (disch := first | omega | fail) only [push_cast, seval, ui5, lu7, y81, bj9, wrap64, dec_lt, cw6, nl3, qc6, mr8, nb8, if_pos, if_neg, hf, nb8 h0]
 ·rw [if_neg hf]
  by_cases h0 : e = f
  ·subst h0
   rw [decide_eq_true rfl, Bool.true_and, o10 rfl T35 rfl]
   unfold F35 c35
   by_cases hz : l.length = 0
   ·rw [decide_eq_true hz]
    simp (disch := first | omega | fail) only [push_cast, seval, ui5, lu7, y81, bj9, wrap64, dec_lt, cw6, nl3, qc6, mr8, nb8, if_pos, if_neg, nb8 hf, hz]
   ·rw [decide_eq_false hz]
    simp (disch := first | omega | fail) only [push_cast, seval, ui5, lu7, y81, bj9, wrap64, dec_lt, cw6, nl3, qc6, mr8, nb8, if_pos, if_neg, nb8 hf]
  ·rw [decide_eq_false h0, Bool.false_and, o10 rfl T35 rfl]
   unfold F35 c35
   simp (disch := first | omega | fail) only [push_cast, seval, ui5, lu7, y81, bj9, wrap64, dec_lt, cw6, nl3, qc6, mr8, nb8, if_pos, if_neg, nb8 hf, nb8 h0]
theorem ib6 {l k : Int} {e f : Int} : o24 W 53 [.x (.int .i64 l), .x (.int .i64 e), .x (.int .i64 k), .x (.int .i64 f)] [] = some (.x (.bool (if f = 0 then decide (e = 0) && decide (l = k) else decide (e = f) && decide (l = 0))), [], []) := by
 by_cases hf : f = 0
 ·rw [if_pos hf]
  by_cases h0 : e = 0
  ·rw [decide_eq_true h0, Bool.true_and, o10 rfl T53 rfl]
   unfold F53 c53
   simp (disch := first | omega | fail) only [push_cast, seval, ui5, lu7, y81, bj9, wrap64, dec_lt, cw6, nl3, qc6, mr8, nb8, if_pos, if_neg, hf, h0]
  ·rw [decide_eq_false h0, Bool.false_and, o10 rfl T53 rfl]
   unfold F53 c53
   simp (disch := first | omega | fail) only [push_cast, seval, ui5, lu7, y81, bj9, wrap64, dec_lt, cw6, nl3, qc6, mr8, nb8, if_pos, if_neg, hf, nb8 h0]
 ·rw [if_neg hf]
  by_cases h0 : e = f
  ·subst h0
   rw [decide_eq_true rfl, Bool.true_and, o10 rfl T53 rfl]
   unfold F53 c53
   simp (disch := first | omega | fail) only [push_cast, seval, ui5, lu7, y81, bj9, wrap64, dec_lt, cw6, nl3, qc6, mr8, nb8, if_pos, if_neg, nb8 hf]
  ·rw [decide_eq_false h0, Bool.false_and, o10 rfl T53 rfl]
   unfold F53 c53
   simp (disch := first | omega | fail) only [push_cast, seval, ui5, lu7, y81, bj9, wrap64, dec_lt, cw6, nl3, qc6, mr8, nb8, if_pos, if_neg, nb8 hf, nb8 h0]
theorem ec0 {l : List (List Int)} (hl : l.length ≤ 9223372036854775807) : ∀ (d i : Nat) (n : Int), i + d = l.length → ∃ m : Int, ∀ (b : Bool) (nl nr : Nat) ks,
 vgoL W ⟨hNo, [.tmp 2], 0⟩ [0, 3, 4] c14L0 (.blk 0 [3] :: ks) [(0, .fz b (.sl nl 0 1 (lvs nr l))), (3, .x (.int .i64 n)), (4, .x (.int .i64 i))] [] = vgo W ⟨hNo, [.tmp 2], 0⟩ ks (VFr.of [(3, .x (.int .i64 m))]) []
 | 0, i, n, hi => by
   refine ⟨n, fun b nl nr ks => ?_⟩
   rw [sb5 c14L0.eq_def]
   simp (disch := first | omega | fail) only [push_cast, seval, ui5, lu7, y81, bj9, wrap64, dec_lt, cw6, nl3, qc6, mr8, nb8, if_pos, if_neg]
 | d + 1, i, n, hi => by
   obtain ⟨r, hr⟩ := ge6 (l := l) (i := i) (by omega)
   have h1 := fun nr => lat (nl := nr) hr
   by_cases hn : n ≤ 6000
   ·obtain ⟨m, hm⟩ := ec0 hl d (i + 1) (IntKind.wrap .i64 (n + r.length)) (by omega)
    refine ⟨m, fun b nl nr ks => ?_⟩
    have ih := hm b nl nr ks
    rw [Int.natCast_add, Int.natCast_one] at ih
    rw [← ih, sb5 c14L0.eq_def]
    simp (disch := first | omega | fail) only [push_cast, seval, ui5, lu7, y81, bj9, wrap64, dec_lt, cw6, nl3, qc6, mr8, nb8, if_pos, if_neg, h1, nl3 hn]
   ·refine ⟨n, fun b nl nr ks => ?_⟩
    rw [sb5 c14L0.eq_def]
    simp (disch := first | omega | fail) only [push_cast, seval, ui5, lu7, y81, bj9, wrap64, dec_lt, cw6, nl3, qc6, mr8, nb8, if_pos, if_neg, h1]
theorem tr6 {l : List (List Int)} (hl : l.length ≤ 9223372036854775807) : ∃ z : Bool, ∀ b nl nr, o24 W 14 [.fz b (.sl nl 0 1 (lvs nr l))] [] = some (.x (.bool z), [], []) := by
 obtain ⟨m, e⟩ := ec0 hl l.length 0 l.length (by omega)
 simp only [Int.natCast_zero] at e
 refine ⟨decide (6000 < m), fun b nl nr => ?_⟩
 rw [o10 rfl T14 rfl]
 unfold F14 c14
 simp (disch := first | omega | fail) only [push_cast, seval, ui5, lu7, y81, bj9, wrap64, dec_lt, cw6, nl3, qc6, mr8, nb8, if_pos, if_neg]
 rw [e]
 simp (disch := first | omega | fail) only [push_cast, seval, ui5, lu7, y81, bj9, wrap64, dec_lt, cw6, nl3, qc6, mr8, nb8, if_pos, if_neg]
section
variable {q : Int} [IsFld q]
theorem e85 {p m g : Int} {t : Tree} (u : RFo q p m g t) {l : List Int} (hl : l.length ≤ 9223372036854775807) : ∀ (d i : Nat), i + d = l.length → ∀ ks,
 vgoL W ⟨hNo, [.tmp 4], 0⟩ [1, 2, 5] c32L0 (.blk 0 [] :: ks) [(1, .fz b (.sl nl 0 1 (ivs l))), (2, .own 0 []), (5, .x (.int .i64 i))] [.pt 28 [.v (.int .i64 q), .v (.int .i64 p), .v (.int .i64 m), .v (.int .i64 g), .fz t]] =
  if ((l.drop i).any fun v => !fok q v) = true then some (.x (.bool false), [], []) else vgo W ⟨hNo, [.tmp 4], 0⟩ ks (VFr.of []) [.pt 28 [.v (.int .i64 q), .v (.int .i64 p), .v (.int .i64 m), .v (.int .i64 g), .fz t]]
 | 0, i, hi, ks => by
   rw [oh9 (by omega), if_neg (by simp), sb5 c32L0.eq_def]
   simp (disch := first | omega | fail) only [push_cast, seval, ui5, lu7, y81, bj9, wrap64, dec_lt, cw6, nl3, qc6, mr8, nb8, if_pos, if_neg]
 | d + 1, i, hi, ks => by
   have ih := e85 u hl d (i + 1) (by omega) ks
   obtain ⟨a, ha⟩ := ge6 (l := l) (i := i) (by omega)
   have h1 := iat ha
   rw [Int.natCast_add, Int.natCast_one] at ih
   have ht := u.n
   have ho := u.o
   have vhas := fun x : Int => xb9 (q := q) (x := x)
   rw [u.e] at vhas
   rw [i62 ha, List.any_cons]
   cases h : fok q a with
   | true =>
     simp only [h, Bool.not_true, Bool.false_or]
     rw [← ih, sb5 c32L0.eq_def]
     simp (disch := first | omega | fail) only [push_cast, seval, ui5, lu7, y81, bj9, wrap64, dec_lt, cw6, nl3, qc6, mr8, nb8, if_pos, if_neg, h1, vhas, ht, ho, h]
   | false =>
     simp only [h, Bool.not_false, Bool.true_or, if_true]
     rw [sb5 c32L0.eq_def]
     simp (disch := first | omega | fail) only [push_cast, seval, ui5, lu7, y81, bj9, wrap64, dec_lt, cw6, nl3, qc6, mr8, nb8, if_pos, if_neg, h1, vhas, ht, ho, h]
theorem q19 {l : List Int} (hl : l.length ≤ 9223372036854775807) : o24 W 32 [.agg (rFs q), .fz b (.sl nl 0 1 (ivs l))] [] = some (.x (.bool (!(l.any fun v => !fok q v))), [], []) := by
 obtain ⟨p, m, g, t, u⟩ := k75 q
 have e := fun ks => e85 (b := b) (nl := nl) u hl l.length 0 (by omega) ks
 simp only [Int.natCast_zero, List.take_zero, List.drop_zero, rp2, lz6, x25, List.map_nil, List.length_nil] at e
 have ht := u.n
 rw [o10 rfl T32 rfl, u.e]
 unfold F32 c32
 simp (disch := first | omega | fail) only [push_cast, seval, ui5, lu7, y81, bj9, wrap64, dec_lt, cw6, nl3, qc6, mr8, nb8, if_pos, if_neg, ht]
 rw [e]
 cases (l.any fun v => !fok q v) with
 | true => rw [if_pos rfl]; rfl
 | false =>
   rw [if_neg (by decide)]
   simp (disch := first | omega | fail) only [push_cast, seval, ui5, lu7, y81, bj9, wrap64, dec_lt, cw6, nl3, qc6, mr8, nb8, if_pos, if_neg]
end
end
end Go.Proofs.Ytjpejkakodbchaa
namespace Go.Proofs.Ytjpejkakodbchaa
open Go.Am Go.Vm Go.Alg
section
variable {K : Type} [FK K]
theorem w04 (N : Nat) (a : List K) : ∀ (Q : List (List K)) (k : Nat) (x : List K) (i : Nat), x.length = N → i < N → wf (prow N a Q k x) i = wf x i + sumN Q.length fun j => wf a (k + j) * wf (nth Q j) i
 | [], k, x, i, hx, hi => by rw [prow]; show _ = wf x i + sumN 0 _; rw [wr8, FK.add_zero]
 | w :: Q, k, x, i, hx, hi => by
   rw [prow, w04 N a Q (k + 1) _ i (by rw [ev4]; exact hx) hi, ga7 _ _ _ _ _ _ (by omega), if_pos (by omega), List.length_cons, c68, FK.add_assoc]
   congr 2
   exact rc1 fun j _ => by rw [show k + 1 + j = k + (j + 1) by omega]; rfl
theorem qm4 {n : Nat} (f : Nat → K) {j : Nat} (hj : j < n) : wf ((List.range n).map f) j = f j := by
 unfold wf; rw [List.getD_eq_getElem?_getD, List.getElem?_map, List.getElem?_range hj]; rfl
theorem x69 {n : Nat} {M : List (List K)} (hMl : M.length = n) (hr : ∀ r ∈ M, r.length = n) {X : Nat → List K} (hX : ∀ j, j < n → solR n M (f05 n j) = some (X j)) :
 em6 n M (t88 n fun r j => wf (X j) r) = t88 n fun r j => if r = j then 1 else 0 := by
 refine List.ext_getElem? fun r => ?_
 unfold em6
 rw [List.getElem?_map]
 by_cases hrn : r < n
 ·rw [ov3 _ hrn, gu3 (by omega)]
  show some _ = some _
  congr 1
  refine ou9 (by rw [kv3]; simp) ?_
  funext i
  by_cases hi : i < n
  ·rw [w04 n _ _ _ _ _ (by simp) hi, qm4 _ hi, tr8]
   obtain ⟨x1, x2⟩ := l11 hr (by rw [sm5, hMl]) (hX i hi)
   have h0 : wf (List.replicate n (0 : K)) i = 0 := by rw [i66 (by simpa using hi), List.getElem_replicate]
   have h1 := x2 r (by omega)
   rw [h0, zero_add, ← ez3 hi r, ← h1]
   refine rc1 fun j hj => ?_
   rw [Nat.zero_add, xr8 (ov3 _ hj), qm4 _ hi]; rfl
  ·rw [ez8 (by rw [kv3]; simp; omega), ez8 (by simp; omega)]
 ·rw [List.getElem?_eq_none (by omega), List.getElem?_eq_none (by rw [tr8]; omega)]; rfl
end
section
variable {q : Int} {b b' : Bool} {nl nl' nr nr' n0 : Nat}
section
variable [IsFld q] {n : Nat}
theorem q70 (hn : n ≤ 64) {i : Nat} (hi : i < n) : ∀ (d k : Nat), k + d = n → ∀ ks,
 vgoL W ⟨hNo, [.tmp 10], 0⟩ [13, 14, 15] c88L0 (.blk 2 [13, 14] :: ks) [(13, .own 0 []), (14, .x (.int .i64 i)), (15, .x (.int .i64 k))] [.sl n0 23 1 (lls 2 ((t88 n fun r j => if r = j then (1 : El q) else 0).map vs))] =
  vgo W ⟨hNo, [.tmp 10], 0⟩ ks (VFr.of [(13, .own 0 []), (14, .x (.int .i64 i))]) [.sl n0 23 1 (lls 2 ((t88 n fun r j => if r = j then (1 : El q) else 0).map vs))]
 | 0, k, hk, ks => by
   have hl := tr8 (n := n) fun r j => if r = j then (1 : El q) else 0
   rw [sb5 c88L0.eq_def]
   simp (disch := first | omega | fail) only [push_cast, seval, ui5, lu7, y81, bj9, wrap64, dec_lt, cw6, nl3, qc6, mr8, nb8, if_pos, if_neg, hl]
 | d + 1, k, hk, ks => by
   have ih := q70 hn hi d (k + 1) (by omega) ks
   have hl := tr8 (n := n) fun r j => if r = j then (1 : El q) else 0
   have h1 := mla (nl := 2) (ov3 (fun r j => if r = j then (1 : El q) else 0) hi)
   have h2 := iva (l := (List.range n).map fun j => if i = j then (1 : El q) else 0) (i := k) (by simp; omega)
   rw [qm4 _ (by omega)] at h2
   have hrl : ((List.range n).map fun j => if i = j then (1 : El q) else 0).length = n := by simp
   rw [Int.natCast_add, Int.natCast_one] at ih
   by_cases hik : i = k
   ·rw [if_pos hik, wh3] at h2
    subst hik
    rw [← ih, sb5 c88L0.eq_def]
    simp (disch := first | omega | fail) only [push_cast, seval, ui5, lu7, y81, bj9, wrap64, dec_lt, cw6, nl3, qc6, mr8, nb8, if_pos, if_neg, hl, h1, h2, hrl, List.length_range]
   ·rw [if_neg hik, hc8] at h2
    have h8 : ¬ (i : Int) = (k : Int) := by omega
    rw [← ih, sb5 c88L0.eq_def]
    simp (disch := first | omega | fail) only [push_cast, seval, ui5, lu7, y81, bj9, wrap64, dec_lt, cw6, nl3, qc6, mr8, nb8, if_pos, if_neg, hl, h1, h2, hrl, List.length_range, nb8 h8]
theorem wr5 (hn : n ≤ 64) : ∀ (d i : Nat), i + d = n → ∀ ks,
 vgoL W ⟨hNo, [.tmp 10], 0⟩ [13, 14] c88L1 (.blk 0 [] :: ks) [(13, .own 0 []), (14, .x (.int .i64 i))] [.sl n0 23 1 (lls 2 ((t88 n fun r j => if r = j then (1 : El q) else 0).map vs))] =
  vgo W ⟨hNo, [.tmp 10], 0⟩ ks (VFr.of []) [.sl n0 23 1 (lls 2 ((t88 n fun r j => if r = j then (1 : El q) else 0).map vs))]
 | 0, i, hi, ks => by
   have hl := tr8 (n := n) fun r j => if r = j then (1 : El q) else 0
   rw [sb5 c88L1.eq_def]
   simp (disch := first | omega | fail) only [push_cast, seval, ui5, lu7, y81, bj9, wrap64, dec_lt, cw6, nl3, qc6, mr8, nb8, if_pos, if_neg, hl]
 | d + 1, i, hi, ks => by
   have ih := wr5 hn d (i + 1) (by omega) ks
   have hl := tr8 (n := n) fun r j => if r = j then (1 : El q) else 0
   have e := fun ks => q70 (q := q) (n0 := n0) hn (i := i) (by omega) n 0 (by omega) ks
   simp only [Int.natCast_zero, List.take_zero, List.drop_zero, rp2, lz6, x25, List.map_nil, List.length_nil] at e
   rw [Int.natCast_add, Int.natCast_one] at ih
   rw [← ih, sb5 c88L1.eq_def]
   simp (disch := first | omega | fail) only [push_cast, seval, ui5, lu7, y81, bj9, wrap64, dec_lt, cw6, nl3, qc6, mr8, nb8, if_pos, if_neg, hl]
   rw [e]
   simp (disch := first | omega | fail) only [push_cast, seval, ui5, lu7, y81, bj9, wrap64, dec_lt, cw6, nl3, qc6, mr8, nb8, if_pos, if_neg]
end
theorem h52 {M : List (List Int)} {n : Int} {F : List AV} (he : ¬ matE q M = 0) (hF : ∃ (z p m g : Int) (t : Tree), F = [.x (.int .i64 z), .x (.int .i64 p), .x (.int .i64 m), .x (.int .i64 g), .fz true t] ∧ isNode t = true) :
 o24 W 88 [.x (.int .i64 q), .agg F, .fz b (.sl nl 0 1 (lvs nr M)), .x (.int .i64 n), .x (.int .i64 (matE q M))] [] = some (.x (.bool true), [], []) := by
 have e1 := fun b nl nr => ik7 (b := b) (nl := nl) (nr := nr) he
 obtain ⟨z, p, m, g, t, rfl, ht⟩ := hF
 rw [o10 rfl T88 rfl]
 unfold F88 c88
 simp (disch := first | omega | fail) only [push_cast, seval, ui5, lu7, y81, bj9, wrap64, dec_lt, cw6, nl3, qc6, mr8, nb8, if_pos, if_neg, nb8 he, e1, ht]
theorem u51 (he : matE q [] = 0) : o24 W 88 [.x (.int .i64 q), .agg (rFs q), .fz b (.sl nl 0 1 []), .x (.int .i64 0), .x (.int .i64 0)] [] = some (.x (.bool true), [], []) := by
 obtain ⟨⟨⟨p0, m0, g0, mod⟩, hn⟩, _⟩ := ou8 he
 haveI : IsFld q := ⟨⟨p0, m0, g0, mod, hn⟩⟩
 obtain ⟨p, m, g, t, u⟩ := k75 q
 have ht := u.n
 have e1 := fun b nl => p89 (b := b) (nl := nl) he
 rw [o10 rfl T88 rfl, u.e]
 unfold F88 c88
 simp (disch := first | omega | fail) only [push_cast, seval, ui5, lu7, y81, bj9, wrap64, dec_lt, cw6, nl3, qc6, mr8, nb8, if_pos, if_neg, e1, ht]
theorem c38 [IsFld q] {M : List (List (El q))} {n : Nat} (h0 : 0 < M.length) (hl : M.length ≤ 64) (hr : ∀ r ∈ M, r.length = n) (hn0 : 0 < n) (hn : n ≤ 64) :
 o24 W 88 [.x (.int .i64 q), .agg (rFs q), .fz b (.sl nl 0 1 (lvs nr (M.map vs))), .x (.int .i64 (redR M).length), .x (.int .i64 0)] [] = some (.x (.bool true), [], []) := by
 obtain ⟨p, m, g, t, u⟩ := k75 q
 have ht := u.n
 have ho := u.o
 obtain ⟨r0, hr0⟩ := ge6 (l := M) (i := 0) h0
 have h3 := mva (nl := nr) hr0
 have h4 := hr r0 (List.mem_of_getElem? hr0)
 by_cases hMl : M.length = n
 ·have e1 := fun b nl nr => j95 (b := b) (nl := nl) (nr := nr) hMl hr hn0 hn
  by_cases hrk : (redR M).length < M.length
  ·obtain ⟨k, k1, k2⟩ := pp9 hr hrk
   have hany : ((List.range' 0 n).any fun j => (solR n M (f05 n j)).isNone) = true := List.any_eq_true.2 ⟨k, List.mem_range'_1.2 (by omega), by rw [← hMl] at k2 ⊢; rw [k2]; rfl⟩
   simp only [if_pos hany] at e1
   rw [o10 rfl T88 rfl, u.e]
   unfold F88 c88
   simp (disch := first | omega | fail) only [push_cast, seval, ui5, lu7, y81, bj9, wrap64, dec_lt, cw6, nl3, qc6, mr8, nb8, if_pos, if_neg, e1, ht, ho, h3, h4, hMl]
  ·have hrk2 : (redR M).length = M.length := by have := ew4 hr; omega
   have hall : ∀ j, ∃ x, solR n M (f05 n j) = some x := fun j => j11 hr hrk2 (by rw [sm5, hMl])
   have hany : ((List.range' 0 n).any fun j => (solR n M (f05 n j)).isNone) = false := List.any_eq_false.2 fun j _ => by
    obtain ⟨x, hx⟩ := hall j
    rw [hx]; simp
   simp only [hany, Bool.false_eq_true, if_false] at e1
   have hX : ∀ j, j < n → solR n M (f05 n j) = some ((solR n M (f05 n j)).getD []) := fun j _ => by
    obtain ⟨x, hx⟩ := hall j
    rw [hx]; rfl
   have hprod := x69 hMl hr hX
   obtain ⟨X, hXe⟩ : ∃ X : List (List (El q)), X = t88 n fun r j => wf ((solR n M (f05 n j)).getD []) r := ⟨_, rfl⟩
   rw [← hXe] at hprod
   simp only [← hXe] at e1
   have hXl : X.length = n := by rw [hXe, tr8]
   have hXr : ∀ r ∈ X, r.length = n := fun r hr => by
    rw [hXe] at hr
    obtain ⟨i, _, rfl⟩ := List.mem_map.1 hr
    simp
   have e2 := fun b nl nr => rz8 (q := q) (M := X.map vs) (b := b) (nl := nl) (nr := nr)
   have e3 := fun b b' nl nl' nr nr' => h29 (b := b) (b' := b') (nl := nl) (nl' := nl') (nr := nr) (nr' := nr') (P := M) (Q := X) (N := n) (fun a ha => by rw [hr a ha, hXl]) hXr (by omega) (by omega) (by omega) (by omega)
   rw [u.e, hprod] at e3
   have hm := sy6 (q := q) (by omega) hXr hn0 hn
   simp only [hm] at e2
   obtain ⟨x0, hx0⟩ := ge6 (l := X) (i := 0) (by omega)
   have h5 := mla (nl := 2) hx0
   have h6 := hXr x0 (List.mem_of_getElem? hx0)
   have e4 := fun n0 ks => wr5 (q := q) (n0 := n0) hn n 0 (by omega) ks
   simp only [Int.natCast_zero] at e4
   rw [o10 rfl T88 rfl, u.e]
   unfold F88 c88
   simp (disch := first | omega | fail) only [push_cast, seval, ui5, lu7, y81, bj9, wrap64, dec_lt, cw6, nl3, qc6, mr8, nb8, if_pos, if_neg, e1, e2, e3, ht, ho, h3, h4, hMl, hrk2, hXl, h5, h6]
   rw [e4]
   simp (disch := first | omega | fail) only [push_cast, seval, ui5, lu7, y81, bj9, wrap64, dec_lt, cw6, nl3, qc6, mr8, nb8, if_pos, if_neg]
 ·have e1 := fun b nl nr => uo1 (b := b) (nl := nl) (nr := nr) h0 hl hr hn0 hn hMl
  have h8 : ¬ (M.length : Int) = (n : Int) := by omega
  rw [o10 rfl T88 rfl, u.e]
  unfold F88 c88
  simp (disch := first | omega | fail) only [push_cast, seval, ui5, lu7, y81, bj9, wrap64, dec_lt, cw6, nl3, qc6, mr8, nb8, if_pos, if_neg, e1, ht, ho, h3, h4, nb8 h8]
end
end Go.Proofs.Ytjpejkakodbchaa
