/-
  What comes back of a word of values of a polynomial, few of which are wrong: there is but one message, and whatever pair of polynomials hangs on each other at all places tells it. Condition: a field. The one form is told by what rows span; a form of forms; what is made 0 by what is made 0; in plain Lean. No condition. Equations that can be solved are; the equations by which errors are found; polyn ..
-/
import Derived.Test.YtghfdpdiibiigaaK6
set_option linter.unusedVariables false
set_option linter.unusedSimpArgs false
set_option linter.unusedSectionVars false
set_option maxRecDepth 100000
namespace Go.Alg
section
variable {K : Type} [FK K]
def loc : List K → List K
 | [] => [1]
 | x :: l => mulK [-x, 1] (loc l)
theorem mo3 (x : K) : Trm ([-x, 1] : List K) := fun _ => ki8
theorem tt9 (x y : K) : ev [-x, 1] y = y - x := by
 rw [ev, ev, ev, mul_zero, FK.add_zero, FK.mul_one, FK.add_comm]; rfl
theorem h44 : ∀ l : List K, Trm (loc l)
 | [] => py3 ki8
 | x :: l => ho6 _ _
theorem ru2 : ∀ l : List K, (loc l).length = l.length + 1
 | [] => rfl
 | x :: l => by
   have ih := ru2 l
   rw [loc, lk3 (mo3 x) (h44 l) (by simp) (fun e => by rw [e] at ih; simp at ih), ih]
   simp; omega
theorem d45 : ∀ l : List K, wf (loc l) l.length = 1
 | [] => rfl
 | x :: l => by
   rw [loc, zu9, List.length_cons, show l.length + 1 = 1 + l.length by omega, b30 (fun i hi => ez8 (by simp; omega)) (fun i hi => ez8 (by rw [ru2]; omega)), d45 l]
   exact FK.mul_one _
theorem zb6 {y : K} : ∀ {l : List K}, y ∈ l → ev (loc l) y = 0
 | x :: l, h => by
   rw [loc, jo3, tt9]
   rcases List.mem_cons.1 h with rfl | h
   ·rw [sub_self, zero_mul]
   ·rw [zb6 h, mul_zero]
def badF (a : List K) (p : K × K) : Bool := decide (ev a p.1 ≠ p.2)
def offK (a : List K) (P : List (K × K)) : Nat := (P.filter (badF a)).length
def errK (a : List K) (P : List (K × K)) : List K := (P.filter (badF a)).map Prod.fst
def okK (a : List K) (P : List (K × K)) : List K := (P.filter fun p => !badF a p).map Prod.fst
theorem qd3 (a : List K) (P : List (K × K)) : (errK a P).length = offK a P := by unfold errK offK; rw [List.length_map]
theorem wy1 (a : List K) : ∀ P : List (K × K), (okK a P).length + offK a P = P.length
 | [] => rfl
 | p :: P => by
   have ih := wy1 a P
   unfold okK offK at ih ⊢
   rw [List.filter_cons, List.filter_cons]
   cases h : badF a p
   ·rw [if_pos (show (!false) = true from rfl), if_neg (by decide)]
    simp only [List.map_cons, List.length_cons] at ih ⊢; omega
   ·rw [if_neg (by decide), if_pos rfl]
    simp only [List.length_cons] at ih ⊢; omega
theorem zr2 {a : List K} {p : K × K} : badF a p = false ↔ ev a p.1 = p.2 := by unfold badF; simp
theorem sw0 {a : List K} {P : List (K × K)} {x : K} (h : x ∈ okK a P) : ∃ y, (x, y) ∈ P ∧ ev a x = y := by
 obtain ⟨p, hp, rfl⟩ := List.mem_map.1 h
 obtain ⟨h1, h2⟩ := List.mem_filter.1 hp
 exact ⟨p.2, h1, zr2.1 (by simpa using h2)⟩
theorem ns1 {a : List K} {P : List (K × K)} (hn : (P.map Prod.fst).Nodup) : (okK a P).Nodup := by
 unfold okK
 exact hn.sublist (List.Sublist.map _ List.filter_sublist)
theorem d59 {a : List K} {P : List (K × K)} {p : K × K} (hp : p ∈ P) (h : ev a p.1 ≠ p.2) : p.1 ∈ errK a P := by
 refine List.mem_map.2 ⟨p, List.mem_filter.2 ⟨hp, ?_⟩, rfl⟩
 unfold badF
 exact decide_eq_true h
theorem kw9 {a b : List K} (h : wf a = wf b) : badF a = badF b := by
 funext p
 unfold badF
 rw [ma4 h]
theorem tx3 {a b : List K} (h : wf a = wf b) (P : List (K × K)) : offK a P = offK b P := by unfold offK; rw [kw9 h]
structure NearP (P : List (K × K)) (k : Nat) (a : List K) : Prop where
 len : a.length = k
 off : 2 * offK a P + k ≤ P.length
structure Hang (P : List (K × K)) (k : Nat) (N E : List K) : Prop where
 at' : ∀ p ∈ P, ev N p.1 = p.2 * ev E p.1
 n : ∀ j, P.length + k ≤ 2 * j → wf N j = 0
 e : ∀ j, P.length < 2 * j + k → wf E j = 0
theorem f76 {P : List (K × K)} {k : Nat} {a N E : List K} (hn : (P.map Prod.fst).Nodup) (h : NearP P k a) (g : Hang P k N E) : wf N = disc (wf a) (wf E) := by
 rw [← zu9]
 have hl := wy1 a P
 have ho := h.off
 refine yn1 (ns1 (a := a) hn) (fun j hj => g.n j (by omega)) (fun j hj => ?_) fun x hx => ?_
 ·rw [zu9]
  refine hr3 (n := k) (m := (P.length - k) / 2 + 1) (fun i hi => ez8 (by rw [h.len]; exact hi)) (fun i hi => g.e i (by omega)) (by omega)
 ·obtain ⟨y, h1, h2⟩ := sw0 hx
  rw [jo3, g.at' _ h1, h2]
theorem y98 {P : List (K × K)} {k : Nat} {a : List K} (h : NearP P k a) {l : List K} (hl : 2 * l.length + k ≤ P.length) (hs : ∀ x ∈ errK a P, x ∈ l) : Hang P k (mulK a (loc l)) (loc l) := by
 refine ⟨fun p hp => ?_, fun j hj => ?_, fun j hj => ez8 (by rw [ru2]; omega)⟩
 ·rw [jo3]
  by_cases he : ev a p.1 = p.2
  ·rw [he]
  ·rw [zb6 (hs _ (d59 hp he)), mul_zero, mul_zero]
 ·rw [zu9]
  exact hr3 (n := k) (m := l.length + 1) (fun i hi => ez8 (by rw [h.len]; exact hi)) (fun i hi => ez8 (by rw [ru2]; exact hi)) (by omega)
theorem pe7 {f g h : Nat → K} {n m : Nat} (hf : ∀ k, n ≤ k → f k = 0) (hg : ∀ k, n ≤ k → g k = 0) (hh : ∀ k, m ≤ k → h k = 0) (hne : h ≠ fun _ => 0) (e : disc f h = disc g h) : f = g := by
 refine Classical.byContradiction fun hfg => ?_
 have hD : (fun k => f k + -g k) ≠ fun _ => 0 := fun e => hfg (funext fun k => sub_eq_zero.1 (congrFun e k))
 obtain ⟨i, j, _, _, _, _, h1⟩ := fq3 (n := n) (m := m) (fun k hk => by rw [hf k hk, hg k hk, neg_zero, FK.add_zero]) hh hD hne
 apply h1
 rw [bf5, fh4, e, FK.add_neg]
theorem yh0 (l : List K) : wf (loc l) ≠ fun _ => 0 := fun e => ki8 (by rw [← d45 l, e])
theorem c08 {P : List (K × K)} {k : Nat} {a b : List K} (hn : (P.map Prod.fst).Nodup) (h : NearP P k a) (g : NearP P k b) : a = b := by
 have h1 := f76 hn h (y98 g (l := errK b P) (by rw [qd3]; exact g.off) fun x hx => hx)
 rw [zu9] at h1
 refine ou8 (by rw [h.len, g.len]) (pe7 (n := k) (m := (loc (errK b P)).length) (fun i hi => ez8 (by rw [h.len]; exact hi)) (fun i hi => ez8 (by rw [g.len]; exact hi)) (fun i hi => ez8 hi) (yh0 _) h1.symm)
open Classical in
noncomputable def recK (P : List (K × K)) (k : Nat) : Option (List K) := if h : ∃ a, NearP P k a then some (Classical.choose h) else none
theorem s93 {P : List (K × K)} {k : Nat} {a : List K} (hn : (P.map Prod.fst).Nodup) (h : NearP P k a) : recK P k = some a := by
 unfold recK
 rw [dif_pos ⟨a, h⟩]
 exact congrArg some (c08 hn (Classical.choose_spec ⟨a, h⟩) h)
theorem z27 {P : List (K × K)} {k : Nat} (h : ¬ ∃ a, NearP P k a) : recK P k = none := by
 unfold recK
 rw [dif_neg h]
theorem vc6 {P : List (K × K)} {k : Nat} {a : List K} (h : recK P k = some a) : NearP P k a := by
 unfold recK at h
 split at h
 ·rename_i hx
  have := Classical.choose_spec hx
  cases h; exact this
 ·cases h
def qi3 (a : List K) (k : Nat) : List K := ofF k (wf a)
theorem of2 (a : List K) (k : Nat) : (qi3 a k).length = k := gh0 _ _
theorem yq4 {a : List K} {k : Nat} (h : ∀ j, k ≤ j → wf a j = 0) : wf (qi3 a k) = wf a := ot8 h
theorem r63 {a : List K} {k : Nat} (h : a.length = k) : qi3 (xa4 a) k = a := ou8 (by rw [of2, h]) (by rw [yq4 (by rw [vb5]; exact fun j hj => ez8 (by omega)), vb5])
theorem n35 {P : List (K × K)} {k : Nat} {Q : List K} (hn : (P.map Prod.fst).Nodup) (hl : Q.length ≤ k) (ho : 2 * offK Q P + k ≤ P.length) : recK P k = some (qi3 Q k) := by
 have hw : wf (qi3 Q k) = wf Q := yq4 fun j hj => ez8 (by omega)
 exact s93 hn ⟨of2 _ _, by rw [tx3 hw]; exact ho⟩
theorem k38 {P : List (K × K)} {k : Nat} {a N E Q R : List K} (hn : (P.map Prod.fst).Nodup) (h : recK P k = some a) (g : Hang P k N E) (hE : Trm E) (hE0 : E ≠ []) (hd : IsDiv N E Q R) : R = [] ∧ Q.length ≤ k ∧ 2 * offK Q P + k ≤ P.length ∧ qi3 Q k = a := by
 have hN := vc6 h
 have e := f76 hn hN g
 obtain ⟨h1, h2⟩ := hd.uniq hE (IsDiv.of_mul hE hE0 e)
 subst h1 h2
 refine ⟨rfl, df7 fun j hj => ez8 (by rw [hN.len]; exact hj), ?_, r63 hN.len⟩
 rw [tx3 (vb5 a)]; exact hN.off
end
end Go.Alg
namespace Go.Alg
section
variable {K : Type} [FK K] {n : Nat}
end
end Go.Alg
namespace Go.Alg
section
variable {K : Type} [FK K]
theorem qc0 {n : Nat} {M : List (List K)} {b x : List K} (hM : ∀ m ∈ M, m.length = n) (hb : b.length = M.length) (hx : ∀ i, i < M.length → sumN n (fun j => wf (M.getD i []) j * wf x j) = wf b i) : ∃ y, solR n M b = some y := by
 unfold solR
 split
 ·rename_i hno
  exfalso
  obtain ⟨r1, r2, r3⟩ := bi2 (a86 (b := b) hM)
  obtain ⟨a, ha, h0⟩ := List.any_eq_true.1 hno
  have h0 : a.1 = n := by simpa using h0
  have hsp : Span ((augL M b).map wf) (wf a.2) := (r3 _).1 (.mem (he1.2 ⟨a, ha, rfl⟩))
  have hone : wf a.2 n = 1 := by
   have := r1.one (a.1, wf a.2) (xe5.2 ⟨a, ha, rfl⟩)
   rw [h0] at this; exact this
  have hlow : ∀ k, k < n → wf a.2 k = 0 := fun k hk => by
   have := r1.before (a.1, wf a.2) (xe5.2 ⟨a, ha, rfl⟩) k (by show k < a.1; omega)
   exact this
  have key : sumN n (fun j => wf a.2 j * wf x j) = wf a.2 n := by
   refine hsp.lin (P := fun w => sumN n (fun j => w j * wf x j) = w n) ?_ (fun u r c hu hr => ?_) fun r hr => ?_
   ·exact ja4 fun j _ => zero_mul _
   ·show sumN n (fun j => (u j + c * r j) * wf x j) = u n + c * r n
    rw [← hu, ← hr, ← x18, ← pv3]
    exact rc1 fun j _ => by rw [add_mul, FK.mul_assoc]
   ·obtain ⟨m, hm, rfl⟩ := List.mem_map.1 hr
    obtain ⟨i, hi, rfl⟩ := List.getElem_of_mem hm
    have hiM : i < M.length := by unfold augL at hi; rw [List.length_zipWith] at hi; omega
    have haug : (augL M b)[i] = M[i] ++ [b[i]'(by omega)] := by simp only [augL, List.getElem_zipWith]
    have hml : M[i].length = n := hM _ (List.getElem_mem hiM)
    have h1 := hx i hiM
    rw [List.getD_eq_getElem?_getD, List.getElem?_eq_getElem hiM] at h1
    rw [haug, n97, hml, if_pos rfl, ← i66 (l := b) (by omega), ← h1]
    refine rc1 fun j hj => ?_
    rw [n97, hml, if_neg (by omega)]; rfl
  rw [hone, ja4 fun j hj => by rw [hlow j hj, zero_mul]] at key
  exact ki8 key.symm
 ·exact ⟨_, rfl⟩
def ki6 (t k : Nat) (p : K × K) : List K := ofF t (fun d => p.2 * pw p.1 d) ++ ofF (t + k) (fun d => -pw p.1 d)
def eqR (t : Nat) (p : K × K) : K := -(p.2 * pw p.1 t)
theorem up9 (t k : Nat) (p : K × K) : (ki6 t k p).length = t + (t + k) := by unfold ki6; rw [List.length_append, gh0, gh0]
theorem pj0 (t k : Nat) (p : K × K) (s : Nat → K) : sumN (t + (t + k)) (fun j => wf (ki6 t k p) j * s j) = p.2 * (sumN t fun d => s d * pw p.1 d) + -(sumN (t + k) fun d => s (t + d) * pw p.1 d) := by
 rw [d17, ← x18]
 congr 1
 ·refine rc1 fun j hj => ?_
  unfold ki6
  rw [nz0, gh0, if_pos hj, b43, if_pos hj, FK.mul_assoc, FK.mul_comm (pw _ _)]
 ·rw [show -(sumN (t + k) fun d => s (t + d) * pw p.1 d) = sumN (t + k) fun d => -(s (t + d) * pw p.1 d) from (eq0 _ _).symm]
  refine rc1 fun j hj => ?_
  unfold ki6
  rw [nz0, gh0, if_neg (by omega), b43, if_pos (by omega), Nat.add_sub_cancel_left, neg_mul, FK.mul_comm]
theorem hb5 {P : List (K × K)} {t k : Nat} {s : List K} (ht : t = (P.length - k) / 2) (hk : k ≤ P.length) (hs : s.length = t + (t + k)) (h : ∀ p ∈ P, sumN (t + (t + k)) (fun j => wf (ki6 t k p) j * wf s j) = eqR t p) : Hang P k (s.drop t) (s.take t ++ [1]) := by
 have hN : ∀ p : K × K, ev (s.drop t) p.1 = sumN (t + k) fun d => wf s (t + d) * pw p.1 d := fun p => by
  rw [tf2 _ _ (t + k) (by rw [List.length_drop]; omega)]
  refine rc1 fun d _ => ?_
  unfold wf
  rw [List.getD_eq_getElem?_getD, List.getD_eq_getElem?_getD, List.getElem?_drop]
 have hE : ∀ p : K × K, ev (s.take t ++ [1]) p.1 = (sumN t fun d => wf s d * pw p.1 d) + pw p.1 t := fun p => by
  rw [tf2 _ _ (t + 1) (by simp; omega), cp9]
  congr 1
  ·refine rc1 fun d hd => ?_
   rw [nz0, if_pos (by simp; omega), g29, if_pos hd]
  ·rw [nz0, if_neg (by simp; omega), List.length_take, Nat.min_eq_left (by omega), Nat.sub_self]
   exact one_mul _
 refine ⟨fun p hp => ?_, fun j hj => ez8 (by rw [List.length_drop]; omega), fun j hj => ez8 (by simp; omega)⟩
 have h1 := h p hp
 rw [pj0] at h1
 unfold eqR at h1
 rw [hN, hE, FK.mul_add]
 generalize (sumN t fun d => wf s d * pw p.1 d) = A at h1 ⊢
 generalize (sumN (t + k) fun d => wf s (t + d) * pw p.1 d) = B at h1 ⊢
 have h2 : p.2 * A + -B + (p.2 * pw p.1 t + B) = -(p.2 * pw p.1 t) + (p.2 * pw p.1 t + B) := by rw [h1]
 have h3 : p.2 * A + -B + (p.2 * pw p.1 t + B) = (p.2 * A + p.2 * pw p.1 t) + (-B + B) := by ac_rfl
 rw [h3, neg_add, FK.add_zero, ← FK.add_assoc, neg_add, zero_add] at h2
 exact h2.symm
theorem xk7 {P : List (K × K)} {t k : Nat} {N E : List K} (hNl : N.length ≤ t + k) (hEl : E.length ≤ t + 1) (g : Hang P k N E) (hE : wf E t = 1) : ∀ p ∈ P, sumN (t + (t + k)) (fun j => wf (ki6 t k p) j * wf (ofF t (wf E) ++ ofF (t + k) (wf N)) j) = eqR t p := fun p hp => by
 rw [pj0]
 have h1 := g.at' p hp
 rw [tf2 N p.1 (t + k) hNl, tf2 E p.1 (t + 1) hEl, cp9, hE, one_mul] at h1
 have e1 : (sumN t fun d => wf (ofF t (wf E) ++ ofF (t + k) (wf N)) d * pw p.1 d) = sumN t fun d => wf E d * pw p.1 d := rc1 fun d hd => by rw [nz0, gh0, if_pos hd, b43, if_pos hd]
 have e2 : (sumN (t + k) fun d => wf (ofF t (wf E) ++ ofF (t + k) (wf N)) (t + d) * pw p.1 d) = sumN (t + k) fun d => wf N d * pw p.1 d := rc1 fun d hd => by rw [nz0, gh0, if_neg (by omega), Nat.add_sub_cancel_left, b43, if_pos hd]
 rw [e1, e2, h1, FK.mul_add, tp9, ← FK.add_assoc, FK.add_neg, zero_add]
 rfl
theorem bw9 {P : List (K × K)} {k : Nat} {a : List K} (h : NearP P k a) : ∃ s : List K, ∀ p ∈ P, sumN ((P.length - k) / 2 + ((P.length - k) / 2 + k)) (fun j => wf (ki6 ((P.length - k) / 2) k p) j * wf s j) = eqR ((P.length - k) / 2) p := by
 have ho := h.off
 have g := y98 h (l := errK a P ++ List.replicate ((P.length - k) / 2 - offK a P) 0) (by rw [List.length_append, qd3, List.length_replicate]; omega) fun x hx => by simp [hx]
 have hl : (errK a P ++ List.replicate ((P.length - k) / 2 - offK a P) (0 : K)).length = (P.length - k) / 2 := by
  rw [List.length_append, qd3, List.length_replicate]; omega
 refine ⟨_, xk7 ?_ (by rw [ru2, hl]; exact Nat.le_refl _) g ?_⟩
 ·have := bx4 a (loc (errK a P ++ List.replicate ((P.length - k) / 2 - offK a P) (0 : K)))
  rw [ru2, hl, h.len] at this; omega
 ·have := d45 (errK a P ++ List.replicate ((P.length - k) / 2 - offK a P) (0 : K))
  rw [hl] at this
  exact this
end
end Go.Alg
namespace Go.Proofs.Ytghfdpdiibiigaa
open Go.Am Go.Vm Go.Alg
def AllB (q : Nat) (L : List Int) : Prop := L.Perm (pn (List.range q))
theorem AllB.len {q : Nat} {L : List Int} (h : AllB q L) : L.length = q := by rw [h.length_eq, im5, List.length_range]
theorem swap_perm {α : Type} [DecidableEq α] {l : List α} {i j : Nat} {x y : α} (hi : l[i]? = some x) (hj : l[j]? = some y) : ((l.set i y).set j x).Perm l := by
 obtain ⟨h1, e1⟩ := List.getElem?_eq_some_iff.1 hi
 obtain ⟨h2, e2⟩ := List.getElem?_eq_some_iff.1 hj
 refine List.perm_iff_count.2 fun a => ?_
 by_cases hij : i = j
 ·subst hij
  rw [List.set_set, ← e1, List.set_getElem_self]
 ·rw [List.count_set (by simpa using h2), List.count_set h1, List.getElem_set_ne hij]
  subst e1 e2
  have c1 : l[i] ∈ l := List.getElem_mem h1
  have c2 : l[j] ∈ l := List.getElem_mem h2
  have p1 := List.count_pos_iff.2 c1
  have p2 := List.count_pos_iff.2 c2
  by_cases ha : l[i] = a <;> by_cases hb : l[j] = a <;> simp [ha, hb] <;> (try subst ha) <;> (try subst hb) <;> omega
section
variable {raw : List Int} {b : Bool} {nl : Nat}
theorem mn8 {q n : Nat} (hq : q ≤ 1000) : ∀ (d i : Nat), i + d = q → ∀ ks,
 vgoL W ⟨hNo, [.tmp 6], 0⟩ [0, 1, 2, 7, 8] c14L0 (.blk 0 [0, 1, 2, 7] :: ks) [(0, .fz b (.sl nl 0 1 (ivs raw))), (1, .x (.int .i64 q)), (2, .x (.int .i64 n)), (7, .own 0 []), (8, .x (.int .i64 i))] [.sl 0 3 1 (ivs (pn (List.range i) ++ List.replicate (q - i) 0))] =
  vgo W ⟨hNo, [.tmp 6], 0⟩ ks (VFr.of [(0, .fz b (.sl nl 0 1 (ivs raw))), (1, .x (.int .i64 q)), (2, .x (.int .i64 n)), (7, .own 0 [])]) [.sl 0 3 1 (ivs (pn (List.range q)))]
 | 0, i, hi, ks => by
   obtain rfl : i = q := by omega
   rw [Nat.sub_self, List.replicate_zero, List.append_nil, sb5 c14L0.eq_def]
   simp (disch := first | omega | fail) only [push_cast, seval, ui5, lu7, y81, bj9, wrap64, dec_lt, cw6, nl3, qc6, mr8, nb8, if_pos, if_neg]
 | d + 1, i, hi, ks => by
   have ih := mn8 hq (n := n) d (i + 1) (by omega) ks
   have hl : (pn (List.range i) ++ List.replicate (q - i) (0 : Int)).length = q := by
    rw [List.length_append, im5, List.length_range, List.length_replicate]; omega
   have hs : (pn (List.range i) ++ List.replicate (q - i) (0 : Int)).set i (i : Int) = pn (List.range (i + 1)) ++ List.replicate (q - (i + 1)) 0 := by
    rw [List.set_append_right _ _ (by rw [im5, List.length_range]; omega), im5, List.length_range, Nat.sub_self, show q - i = (q - (i + 1)) + 1 by omega, List.replicate_succ, List.set_cons_zero, List.range_succ]
    unfold pn
    rw [List.map_append]
    simp
   rw [Int.natCast_add, Int.natCast_one, ← hs] at ih
   generalize pn (List.range i) ++ List.replicate (q - i) (0 : Int) = L at *
   rw [← ih, sb5 c14L0.eq_def]
   simp (disch := first | omega | fail) only [push_cast, seval, ui5, lu7, y81, bj9, wrap64, dec_lt, cw6, nl3, qc6, mr8, nb8, if_pos, if_neg, hl]
theorem c38 (hrl : raw.length ≤ 9223372036854775807) {q n : Nat} (hq : q ≤ 1000) (hn : n ≤ q) : ∀ (d i : Nat) (L : List Int), i + d = n → AllB q L → ∃ L', AllB q L' ∧ ∀ (b : Bool) (nl : Nat), ∀ ks,
 vgoL W ⟨hNo, [.tmp 6], 0⟩ [0, 1, 2, 7, 9] c14L1 (.blk 2 [2, 7] :: ks) [(0, .fz b (.sl nl 0 1 (ivs raw))), (1, .x (.int .i64 q)), (2, .x (.int .i64 n)), (7, .own 0 []), (9, .x (.int .i64 i))] [.sl 0 3 1 (ivs L)] =
  vgo W ⟨hNo, [.tmp 6], 0⟩ ks (VFr.of [(2, .x (.int .i64 n)), (7, .own 0 [])]) [.sl 0 3 1 (ivs L')]
 | 0, i, L, hi, hL => by
   refine ⟨L, hL, fun b nl ks => ?_⟩
   rw [sb5 c14L1.eq_def]
   simp (disch := first | omega | fail) only [push_cast, seval, ui5, lu7, y81, bj9, wrap64, dec_lt, cw6, nl3, qc6, mr8, nb8, if_pos, if_neg]
 | d + 1, i, L, hi, hL => by
   have hl := hL.len
   have hr := bd0 (l := raw) (i := (i : Int)) (by omega) (by omega)
   have e1 := fun b nl => yc3 (b := b) (nl := nl) (raw := raw) (i := (i : Int)) (by omega) hrl
   have hpos : (0 : Int) < (q : Int) - (i : Int) := by omega
   have e2 := s88 (a := rwI raw (i : Int)) (n := (q : Int) - (i : Int)) hr.1 hr.2 hpos
   have hk := h58 (a := rwI raw (i : Int)) (n := (q : Int) - (i : Int)) hpos
   obtain ⟨k, hk1, hk2⟩ := o99 hk.1 hk.2
   rw [hk1] at e2
   obtain ⟨x, hx⟩ := ge6 (l := L) (i := i) (by omega)
   obtain ⟨y, hy⟩ := ge6 (l := L) (i := i + k) (by omega)
   obtain ⟨L', h1, h2⟩ := c38 hrl hq hn d (i + 1) ((L.set i y).set (i + k) x) (by omega) ((swap_perm hx hy).trans hL)
   refine ⟨L', h1, fun b nl ks => ?_⟩
   have ih := h2 b nl ks
   have l1 := iat hx
   have l2 := iat hy
   have w1 : IntKind.wrap .i64 ((i : Int) + (k : Int)) = ((i + k : Nat) : Int) := by rw [wrap64 (by omega) (by omega)]; omega
   have l3 : (L.set i y).length = q := by rw [List.length_set, hl]
   have l4 : ((L.set i y).set (i + k) x).length = q := by rw [List.length_set, l3]
   rw [Int.natCast_add, Int.natCast_one] at ih
   rw [← ih, sb5 c14L1.eq_def]
   have hik : i + k < q := by omega
   generalize i + k = j at *
   simp (disch := first | omega | fail) only [push_cast, seval, ui5, lu7, y81, bj9, wrap64, dec_lt, cw6, nl3, qc6, mr8, nb8, if_pos, if_neg, e1, e2, w1, l1, l2, hl, l3]
theorem mz4 (hrl : raw.length ≤ 9223372036854775807) {q n : Nat} (hq : q ≤ 1000) (hn : n ≤ q) : ∃ L : List Int, L.length = n ∧ L.Nodup ∧ (∀ z ∈ L, 0 ≤ z ∧ z < q) ∧ ∀ (b : Bool) (nl : Nat), o24 W 14 [.fz b (.sl nl 0 1 (ivs raw)), .x (.int .i64 q), .x (.int .i64 n)] [] = some (.own 0 [], [.sl 0 3 1 (ivs L)], []) := by
 obtain ⟨L', h1, h2⟩ := c38 hrl hq hn n 0 (pn (List.range q)) (by omega) (List.Perm.refl _)
 have e1 := fun b nl ks => mn8 (raw := raw) (b := b) (nl := nl) (q := q) (n := n) hq q 0 (by omega) ks
 have hl := h1.len
 have hnd : L'.Nodup := h1.nodup_iff.2 (by
  unfold pn
  rw [List.nodup_iff_pairwise_ne, List.pairwise_map]
  exact List.nodup_range.imp fun h e => h (by omega))
 have hmem : ∀ z ∈ L', 0 ≤ z ∧ z < q := fun z hz => by
  have := h1.mem_iff.1 hz
  unfold pn at this
  obtain ⟨k, hk, rfl⟩ := List.mem_map.1 this
  have := List.mem_range.1 hk
  omega
 refine ⟨L'.take n, by rw [List.length_take]; omega, hnd.sublist (List.take_sublist _ _), fun z hz => hmem z (List.mem_of_mem_take hz), fun b nl => ?_⟩
 rw [show pn (List.range 0) ++ List.replicate (q - 0) (0 : Int) = List.replicate q 0 from rfl] at e1
 simp only [Int.natCast_zero] at e1 h2
 rw [o10 rfl T14 rfl]
 unfold F14 c14
 simp (disch := first | omega | fail) only [push_cast, seval, ui5, lu7, y81, bj9, wrap64, dec_lt, cw6, nl3, qc6, mr8, nb8, if_pos, if_neg]
 rw [e1]
 simp (disch := first | omega | fail) only [push_cast, seval, ui5, lu7, y81, bj9, wrap64, dec_lt, cw6, nl3, qc6, mr8, nb8, if_pos, if_neg]
 rw [h2]
 simp (disch := first | omega | fail) only [push_cast, seval, ui5, lu7, y81, bj9, wrap64, dec_lt, cw6, nl3, qc6, mr8, nb8, if_pos, if_neg, hl, Int.sub_zero]
end
theorem ax8 {q : Int} {L : List Int} (h : ∀ z ∈ L, 0 ≤ z ∧ z < q) (hn : L.Nodup) : ∃ X : List (El q), L = vs X ∧ X.Nodup := by
 obtain ⟨X, rfl⟩ := n39 (q := q) (l := L) fun z hz => iy2 (h z hz)
 refine ⟨X, rfl, ?_⟩
 unfold vs at hn
 rw [List.nodup_iff_pairwise_ne, List.pairwise_map] at hn
 exact hn.imp fun h e => h (by rw [e])
section
variable {a c : List Int} {b b' : Bool} {nl nl' : Nat}
end
end Go.Proofs.Ytghfdpdiibiigaa
namespace Go.Proofs.Ytghfdpdiibiigaa
open Go.Am Go.Vm Go.Alg
def rdL (q : Int) (all : List Int) : Nat → Nat → Int
 | 0, _ => 0
 | n + 1, i => if fok q (gi all i) = true then (if (all.take i).any (fun y => decide (gi all i = y)) = true then 7 else rdL q all n (i + 1)) else 2
def rdE (q : Int) (xs : List Int) (k : Int) : Int := match fldN q.toNat with
 | none => 1
 | some _ => if xs.length < 1 ∨ 64 < xs.length then 4 else if rdL q xs xs.length 0 = 0 then (if k < 1 ∨ (xs.length : Int) < k then 6 else 0) else rdL q xs xs.length 0
theorem y76 {q : Int} {xs : List Int} : ∀ (n i : Nat), i + n = xs.length → rdL q xs n i = 0 → (∀ z ∈ xs.take i, fok q z = true) → (xs.take i).Nodup → (∀ z ∈ xs, fok q z = true) ∧ xs.Nodup
 | 0, i, hi, _, h1, h2 => by
   rw [List.take_of_length_le (by omega)] at h1 h2
   exact ⟨h1, h2⟩
 | n + 1, i, hi, h, h1, h2 => by
   rw [rdL] at h
   split at h
   ·rename_i h3
    split at h
    ·cases h
    ·rename_i h4
     have hg : xs[i]? = some (gi xs i) := by
      have hlt : i < xs.length := by omega
      rw [List.getElem?_eq_getElem hlt]
      unfold gi
      rw [Int.toNat_natCast, List.getD_eq_getElem?_getD, List.getElem?_eq_getElem hlt]; rfl
     refine y76 n (i + 1) (by omega) h (fun z hz => ?_) ?_
     ·rw [List.take_add_one, hg, Option.toList_some] at hz
      rcases List.mem_append.1 hz with hz | hz
      ·exact h1 z hz
      ·rw [List.mem_singleton.1 hz]; exact h3
     ·rw [List.take_add_one, hg, Option.toList_some, List.nodup_append]
      refine ⟨h2, by simp, fun a ha c hc => ?_⟩
      rw [List.mem_singleton.1 hc]
      rintro rfl
      exact h4 (List.any_eq_true.2 ⟨_, ha, by simp⟩)
   ·cases h
theorem pf7 {q : Int} {xs : List Int} (h : ∀ z ∈ xs, fok q z = true) (hn : xs.Nodup) : ∀ (n i : Nat), i + n = xs.length → rdL q xs n i = 0
 | 0, i, _ => rfl
 | n + 1, i, hi => by
   have hlt : i < xs.length := by omega
   have hg : gi xs i = xs[i] := by
    unfold gi
    rw [Int.toNat_natCast, List.getD_eq_getElem?_getD, List.getElem?_eq_getElem hlt]; rfl
   rw [rdL, hg, if_pos (h _ (List.getElem_mem hlt)), if_neg fun h1 => ?_]
   ·exact pf7 h hn n (i + 1) (by omega)
   ·obtain ⟨y, hy, h2⟩ := List.any_eq_true.1 h1
    have h2 : y = xs[i] := by have : xs[i] = y := by simpa using h2
                              exact this.symm
    obtain ⟨j, hj, e⟩ := List.getElem_of_mem hy
    rw [List.length_take] at hj
    rw [List.getElem_take] at e
    have hp := List.pairwise_iff_getElem.1 hn j i (by omega) hlt (by omega)
    exact hp (e.trans h2)
theorem z24 {q : Int} {xs : List Int} {k : Int} (h : rdE q xs k = 0) : IsFld q ∧ ∃ X : List (El q), xs = vs X ∧ X.Nodup ∧ 1 ≤ X.length ∧ X.length ≤ 64 ∧ 1 ≤ k ∧ k ≤ X.length := by
 unfold rdE at h
 split at h
 ·cases h
 ·rename_i x hn
  obtain ⟨p0, m0, g0, mod⟩ := x
  split at h
  ·cases h
  ·split at h
   ·rename_i h1 h2
    split at h
    ·cases h
    ·rename_i h3
     obtain ⟨h4, h5⟩ := y76 xs.length 0 (by omega) h2 (fun z hz => by simp at hz) (by simp)
     obtain ⟨X, hX, hX2⟩ := ax8 (q := q) (L := xs) (fun z hz => gc0.1 (h4 z hz)) h5
     have hl : X.length = xs.length := by rw [hX, fi2]
     exact ⟨⟨⟨p0, m0, g0, mod, hn⟩⟩, X, hX, hX2, by omega, by omega, by omega, by omega⟩
   ·rename_i h1 h2; exact absurd h h2
theorem sn0 {q : Int} {X : List (El q)} (hn : X.Nodup) : (vs X).Nodup := by
 unfold vs
 rw [List.nodup_iff_pairwise_ne, List.pairwise_map]
 exact hn.imp fun h e => h (El.ext' e)
theorem la8 {q : Int} [h : IsFld q] {X : List (El q)} (hn : X.Nodup) (h1 : 1 ≤ X.length) (h2 : X.length ≤ 64) {k : Int} (k1 : 1 ≤ k) (k2 : k ≤ X.length) : rdE q (vs X) k = 0 := by
 obtain ⟨p, m, g, mod, hf⟩ := h.ok
 unfold rdE
 rw [hf]
 simp only
 rw [if_neg (by rw [fi2]; omega), pf7 (fun z hz => by
  obtain ⟨x, _, rfl⟩ := List.mem_map.1 hz
  exact x.ok) (sn0 hn) _ _ (by omega), if_pos rfl, if_neg (by rw [fi2]; omega)]
section
variable {q : Int} {b : Bool} {nl : Nat} {xs : List Int} {k : Int}
theorem cf6 [IsFld q] (hl : xs.length ≤ 1000000) : ∀ (n i : Nat), i + n = xs.length → ∀ ks,
 vgoL W ⟨hNo, [.tmp 6], 0⟩ [1, 2, 7, 27, 28, 29] c63L0 (.blk 0 [1, 2] :: ks) [(1, .fz b (.sl nl 0 1 (ivs xs))), (2, .x (.int .i64 k)), (7, .fz true (pF q)), (27, .fz b (.sl nl 0 1 (ivs xs))), (28, .x (.int .i64 xs.length)), (29, .x (.int .i64 i))] [] =
  if rdL q xs n i = 0 then vgo W ⟨hNo, [.tmp 6], 0⟩ ks (VFr.of [(1, .fz b (.sl nl 0 1 (ivs xs))), (2, .x (.int .i64 k))]) [] else some (.x (.int .i64 (rdL q xs n i)), [], [])
 | 0, i, hi, ks => by
   rw [rdL, if_pos rfl, sb5 c63L0.eq_def]
   simp (disch := first | omega | fail) only [push_cast, seval, ui5, lu7, y81, bj9, wrap64, dec_lt, cw6, nl3, qc6, mr8, nb8, if_pos, if_neg]
 | n + 1, i, hi, ks => by
   have ih := cf6 hl n (i + 1) (by omega) ks
   have h1 := ui5 (zs := xs) (i := i) (by omega)
   have e1 := fun nl => o94 (b := b) (nl := nl) (x := gi xs i) (l := xs.take i) (by rw [List.length_take]; omega)
   rw [Int.natCast_add, Int.natCast_one] at ih
   cases hk : fok q (gi xs i) with
   | false =>
     have hrd : rdL q xs (n + 1) i = 2 := by rw [rdL, hk]; rfl
     rw [hrd, if_neg (by decide), sb5 c63L0.eq_def]
     simp (disch := first | omega | fail) only [push_cast, seval, ui5, lu7, y81, bj9, wrap64, dec_lt, cw6, nl3, qc6, mr8, nb8, if_pos, if_neg, h1, hk]
   | true =>
     cases hc : (xs.take i).any fun y => decide (gi xs i = y) with
     | true =>
       rw [hc] at e1
       have hrd : rdL q xs (n + 1) i = 7 := by rw [rdL, hk, if_pos rfl, hc]; rfl
       rw [hrd, if_neg (by decide), sb5 c63L0.eq_def]
       simp (disch := first | omega | fail) only [push_cast, seval, ui5, lu7, y81, bj9, wrap64, dec_lt, cw6, nl3, qc6, mr8, nb8, if_pos, if_neg, h1, hk, e1, Int.sub_zero]
     | false =>
       rw [hc] at e1
       have hrd : rdL q xs (n + 1) i = rdL q xs n (i + 1) := by rw [rdL, hk, if_pos rfl, hc]; rfl
       rw [hrd, ← ih, sb5 c63L0.eq_def]
       simp (disch := first | omega | fail) only [push_cast, seval, ui5, lu7, y81, bj9, wrap64, dec_lt, cw6, nl3, qc6, mr8, nb8, if_pos, if_neg, h1, hk, e1, Int.sub_zero]
theorem h23 (hl : xs.length ≤ 9223372036854775807) : o24 W 63 [.x (.int .i64 q), .fz b (.sl nl 0 1 (ivs xs)), .x (.int .i64 k)] [] = some (.x (.int .i64 (rdE q xs k)), [], []) := by
 unfold rdE
 cases hn : fldN q.toNat with
 | none =>
   have e0 := ug9 hn
   rw [o10 rfl T63 rfl]
   unfold F63 c63
   simp (disch := first | omega | fail) only [push_cast, seval, ui5, lu7, y81, bj9, wrap64, dec_lt, cw6, nl3, qc6, mr8, nb8, if_pos, if_neg, e0]
 | some x =>
   obtain ⟨p0, m0, g0, mod⟩ := x
   haveI : IsFld q := ⟨⟨p0, m0, g0, mod, hn⟩⟩
   simp only
   by_cases h1 : xs.length < 1 ∨ 64 < xs.length
   ·rw [if_pos h1, o10 rfl T63 rfl]
    unfold F63 c63
    by_cases h2 : xs.length < 1
    ·simp (disch := first | omega | fail) only [push_cast, seval, ui5, lu7, y81, bj9, wrap64, dec_lt, cw6, nl3, qc6, mr8, nb8, if_pos, if_neg]
    ·simp (disch := first | omega | fail) only [push_cast, seval, ui5, lu7, y81, bj9, wrap64, dec_lt, cw6, nl3, qc6, mr8, nb8, if_pos, if_neg]
   ·rw [if_neg h1]
    have e1 := fun ks => cf6 (q := q) (b := b) (nl := nl) (k := k) (xs := xs) (by omega) xs.length 0 (by omega) ks
    simp only [Int.natCast_zero, List.take_zero, List.drop_zero, rp2, lz6, x25, List.map_nil, List.length_nil] at e1
    by_cases h2 : rdL q xs xs.length 0 = 0
    ·simp only [if_pos h2] at e1
     rw [if_pos h2, o10 rfl T63 rfl]
     unfold F63 c63
     simp (disch := first | omega | fail) only [push_cast, seval, ui5, lu7, y81, bj9, wrap64, dec_lt, cw6, nl3, qc6, mr8, nb8, if_pos, if_neg]
     rw [e1]
     by_cases h3 : k < 1
     ·rw [if_pos (Or.inl h3)]
      simp (disch := first | omega | fail) only [push_cast, seval, ui5, lu7, y81, bj9, wrap64, dec_lt, cw6, nl3, qc6, mr8, nb8, if_pos, if_neg]
     ·by_cases h4 : (xs.length : Int) < k
      ·rw [if_pos (Or.inr h4)]
       simp (disch := first | omega | fail) only [push_cast, seval, ui5, lu7, y81, bj9, wrap64, dec_lt, cw6, nl3, qc6, mr8, nb8, if_pos, if_neg]
      ·rw [if_neg (by omega)]
       simp (disch := first | omega | fail) only [push_cast, seval, ui5, lu7, y81, bj9, wrap64, dec_lt, cw6, nl3, qc6, mr8, nb8, if_pos, if_neg]
    ·simp only [if_neg h2] at e1
     rw [if_neg h2, o10 rfl T63 rfl]
     unfold F63 c63
     simp (disch := first | omega | fail) only [push_cast, seval, ui5, lu7, y81, bj9, wrap64, dec_lt, cw6, nl3, qc6, mr8, nb8, if_pos, if_neg]
     rw [e1]
end
def encT {q : Int} (f : El q → El q) (X : List (El q)) (hq : IsFld q) : Nat → Nat → List (El q) → List (El q)
 | 0, _, z => z
 | n + 1, i, z => encT f X hq n (i + 1) (z.set i (f (wf X i)))
section
variable {q : Int} [hq : IsFld q]
theorem ks7 (f : El q → El q) (X : List (El q)) : ∀ (n i : Nat) (z : List (El q)), (encT f X hq n i z).length = z.length
 | 0, _, _ => rfl
 | n + 1, i, z => by rw [encT, ks7 f X n, List.length_set]
theorem ip1 (f : El q → El q) (X : List (El q)) : ∀ (n i : Nat) (z : List (El q)), i + n ≤ z.length → ∀ j, wf (encT f X hq n i z) j = if i ≤ j ∧ j < i + n then f (wf X j) else wf z j
 | 0, i, z, _, j => by rw [encT, if_neg (by omega)]
 | n + 1, i, z, h, j => by
   rw [encT, ip1 f X n (i + 1) _ (by rw [List.length_set]; omega), wf_set (by omega)]
   by_cases h1 : j = i
   ·subst h1
    rw [if_neg (by omega), if_pos rfl, if_pos (by omega)]
   ·rw [if_neg h1]
    by_cases h2 : i + 1 ≤ j ∧ j < i + 1 + n
    ·rw [if_pos h2, if_pos (by omega)]
    ·rw [if_neg h2, if_neg (by omega)]
theorem n91 (f : El q → El q) (X : List (El q)) {z : List (El q)} (hz : z.length = X.length) : encT f X hq X.length 0 z = X.map f := by
 refine ou8 (by rw [ks7, hz, List.length_map]) (funext fun j => ?_)
 rw [ip1 f X _ _ _ (by omega)]
 by_cases h : j < X.length
 ·rw [if_pos (by omega), i66 h, i66 (by simpa using h), List.getElem_map]
 ·rw [if_neg (by omega), ez8 (by omega), ez8 (by simp; omega)]
variable {b b' : Bool} {nl nl' : Nat} {X m : List (El q)}
theorem gc4 (hX : X.length ≤ 1000) (hm : m.length ≤ 128) : ∀ (n i : Nat) (z : List (El q)), i + n = X.length → z.length = X.length → ∀ ks,
 vgoL W ⟨h39, [.tmp 6, .tmp 7], 0⟩ [0, 2, 10, 30, 31, 32] c39L0 (.blk 0 [10] :: ks) [(0, .x (.int .i64 q)), (2, .fz b' (.sl nl' 0 1 (ivs (vs m)))), (10, .own 0 []), (30, .fz b (.sl nl 0 1 (ivs (vs X)))), (31, .x (.int .i64 X.length)), (32, .x (.int .i64 i))] [.sl 0 3 1 (ivs (vs z))] =
  vgo W ⟨h39, [.tmp 6, .tmp 7], 0⟩ ks (VFr.of [(10, .own 0 [])]) [.sl 0 3 1 (ivs (vs (encT (fun x => ev m x) X hq n i z)))]
 | 0, i, z, hi, hz, ks => by
   rw [encT, sb5 c39L0.eq_def]
   simp (disch := first | omega | fail) only [push_cast, seval, ui5, lu7, y81, bj9, wrap64, dec_lt, cw6, nl3, qc6, mr8, nb8, if_pos, if_neg]
 | n + 1, i, z, hi, hz, ks => by
   have ih := gc4 hX hm n (i + 1) (z.set i (ev m (wf X i))) (by omega) (by rw [List.length_set]; exact hz) ks
   have h1 := iva (l := X) (i := i) (by omega)
   have e1 := fun b nl => yu6 (b := b) (nl := nl) (a := m) (x := wf X i) hm
   rw [Int.natCast_add, Int.natCast_one, ← g52] at ih
   rw [encT, ← ih, sb5 c39L0.eq_def]
   simp (disch := first | omega | fail) only [push_cast, seval, ui5, lu7, y81, bj9, wrap64, dec_lt, cw6, nl3, qc6, mr8, nb8, if_pos, if_neg, h1, e1]
theorem su9 (hn : X.Nodup) (h1 : 1 ≤ m.length) (h2 : m.length ≤ X.length) (h3 : X.length ≤ 64) :
 o24 W 39 [.x (.int .i64 q), .fz b (.sl nl 0 1 (ivs (vs X))), .fz b' (.sl nl' 0 1 (ivs (vs m)))] [] = some (.tup [.own 0 [], .x (.int .i64 0)], [.sl 0 3 1 (ivs (vs (X.map fun x => ev m x)))], []) := by
 have e1 := fun b nl => h23 (q := q) (b := b) (nl := nl) (xs := vs X) (k := m.length) (by rw [fi2]; omega)
 simp only [la8 hn (by omega) h3 (show (1 : Int) ≤ (m.length : Int) by omega) (by omega)] at e1
 have e2 := fun b nl => bw7 (q := q) (b := b) (nl := nl) (l := vs m) (by rw [fi2]; omega)
 simp only [i31 (show m.length ≤ 128 by omega)] at e2
 have e3 := fun ks => gc4 (b := b) (nl := nl) (b' := b') (nl' := nl') (X := X) (m := m) (by omega) (by omega) X.length 0 (List.replicate X.length 0) (by omega) (by simp) ks
 rw [n91 _ _ (by simp)] at e3
 have hz : List.replicate X.length (0 : Int) = vs (List.replicate X.length (0 : El q)) := by rw [← qj2]; rfl
 simp only [Int.natCast_zero, List.take_zero, List.drop_zero, rp2, lz6, x25, List.map_nil, List.length_nil] at e3
 rw [o10 rfl T39 rfl]
 unfold F39 c39
 simp (disch := first | omega | fail) only [push_cast, seval, ui5, lu7, y81, bj9, wrap64, dec_lt, cw6, nl3, qc6, mr8, nb8, if_pos, if_neg, e1, e2, hz]
 rw [e3]
 simp (disch := first | omega | fail) only [push_cast, seval, ui5, lu7, y81, bj9, wrap64, dec_lt, cw6, nl3, qc6, mr8, nb8, if_pos, if_neg]
end
end Go.Proofs.Ytghfdpdiibiigaa
namespace Go.Proofs.Ytghfdpdiibiigaa
open Go.Am Go.Vm Go.Alg
section
variable {q : Int}
def oV : Option (El q) → Int
 | none => -1
 | some x => x.v
def ws (W : List (Option (El q))) : List Int := W.map oV
theorem u67 (W : List (Option (El q))) : (ws W).length = W.length := by unfold ws; rw [List.length_map]
theorem qb7 {W : List (Option (El q))} {i : Nat} {o : Option (El q)} (h : W[i]? = some o) : (ws W)[i]? = some (oV o) := by
 unfold ws; rw [List.getElem?_map, h]; rfl
def kh0 : List (El q) → List (Option (El q)) → List (El q × El q)
 | x :: X, some y :: W => (x, y) :: kh0 X W
 | x :: X, none :: W => kh0 X W
 | _, _ => []
theorem f98 : ∀ (X : List (El q)) (W : List (Option (El q))), ((kh0 X W).map Prod.fst).Sublist X
 | x :: X, some y :: W => by rw [kh0]; exact (f98 X W).cons_cons x
 | x :: X, none :: W => by rw [kh0]; exact (f98 X W).cons x
 | [], W => by rw [kh0] <;> simp
 | x :: X, [] => by rw [kh0] <;> simp
theorem ah8 (X : List (El q)) (W : List (Option (El q))) : (kh0 X W).length ≤ X.length := by
 have := (f98 X W).length_le
 rw [List.length_map] at this; exact this
def wrdE (q : Int) (xs : List Int) (k : Int) (w : List Int) : Int := if rdE q xs k = 0 then if w.length ≠ xs.length then 6 else if (w.any fun v => !decide (v = -1) && !fok q v) = true then 2 else 0 else rdE q xs k
theorem p09 (W : List (Option (El q))) : ((ws W).any fun v => !decide (v = -1) && !fok q v) = false := List.any_eq_false.2 fun z hz => by
 obtain ⟨o, _, rfl⟩ := List.mem_map.1 hz
 cases o with
 | none => simp [oV]
 | some x => show (!decide (x.v = -1) && !fok q x.v) = _ → False
             rw [x.ok]; simp
end
section
variable {q : Int} {b b' : Bool} {nl nl' : Nat}
theorem cl4 [IsFld q] {e : Nat} (v : Int) : o24 W 87 [.x (.int .i64 v), .fz b (.pt e [pF q])] [] = some (.x (.bool (!decide (v = -1) && !fok q v)), [], []) := by
 rw [o10 rfl T87 rfl]
 unfold F87 c87
 by_cases h : v = -1
 ·simp (disch := first | omega | fail) only [push_cast, seval, ui5, lu7, y81, bj9, wrap64, dec_lt, cw6, nl3, qc6, mr8, nb8, if_pos, if_neg, h]
 ·simp (disch := first | omega | fail) only [push_cast, seval, ui5, lu7, y81, bj9, wrap64, dec_lt, cw6, nl3, qc6, mr8, nb8, if_pos, if_neg, nb8 h]
theorem hd9 {xs w : List Int} {k : Int} (hx : xs.length ≤ 9223372036854775807) (hw : w.length ≤ 9223372036854775807) :
 o24 W 65 [.x (.int .i64 q), .fz b (.sl nl 0 1 (ivs xs)), .x (.int .i64 k), .fz b' (.sl nl' 0 1 (ivs w))] [] = some (.x (.int .i64 (wrdE q xs k w)), [], []) := by
 have e1 := fun b nl => h23 (q := q) (b := b) (nl := nl) (k := k) hx
 unfold wrdE
 by_cases h1 : rdE q xs k = 0
 ·simp only [if_pos h1]
  haveI := (z24 h1).1
  by_cases h2 : w.length = xs.length
  ·rw [if_neg (by omega)]
   have hf := fun bl nl b e => eg0 (nl := nl) (l := w) (bl := bl) (k := 87) (b := b) (t := .pt e [pF q]) cl4 rfl (by omega)
   rw [o10 rfl T65 rfl]
   unfold F65 c65
   by_cases h3 : (w.any fun v => !decide (v = -1) && !fok q v) = true
   ·rw [if_pos h3]
    rw [h3] at hf
    simp (disch := first | omega | fail) only [push_cast, seval, ui5, lu7, y81, bj9, wrap64, dec_lt, cw6, nl3, qc6, mr8, nb8, if_pos, if_neg, e1, h1, h2, hf]
   ·rw [if_neg h3]
    rw [Bool.not_eq_true] at h3
    rw [h3] at hf
    simp (disch := first | omega | fail) only [push_cast, seval, ui5, lu7, y81, bj9, wrap64, dec_lt, cw6, nl3, qc6, mr8, nb8, if_pos, if_neg, e1, h1, h2, hf]
  ·rw [if_pos h2]
   have h8 : ¬ (w.length : Int) = (xs.length : Int) := by omega
   rw [o10 rfl T65 rfl]
   unfold F65 c65
   simp (disch := first | omega | fail) only [push_cast, seval, ui5, lu7, y81, bj9, wrap64, dec_lt, cw6, nl3, qc6, mr8, nb8, if_pos, if_neg, e1, h1, nb8 h8]
 ·simp only [if_neg h1]
  rw [o10 rfl T65 rfl]
  unfold F65 c65
  simp (disch := first | omega | fail) only [push_cast, seval, ui5, lu7, y81, bj9, wrap64, dec_lt, cw6, nl3, qc6, mr8, nb8, if_pos, if_neg, e1, nb8 h1]
theorem ww2 {X : List (El q)} {U : List (Option (El q))} (hl : U.length = X.length) (hX : X.length ≤ 1000000) : ∀ (n i : Nat) (A : List (El q × El q)), i + n = X.length → A.length ≤ i → ∀ ks,
 vgoL W ⟨h66, [.tmp 4, .tmp 5], 0⟩ [0, 4, 5, 8, 9, 10] c66L0 (.blk 0 [4, 5] :: ks) [(0, .fz b (.sl nl 0 1 (ivs (vs X)))), (4, .own 0 []), (5, .own 1 []), (8, .fz b' (.sl nl' 0 1 (ivs (ws U)))), (9, .x (.int .i64 X.length)), (10, .x (.int .i64 i))] [.sl 1 3 1 (ivs (vs (A.map Prod.fst))), .sl 1 3 1 (ivs (vs (A.map Prod.snd)))] =
  vgo W ⟨h66, [.tmp 4, .tmp 5], 0⟩ ks (VFr.of [(4, .own 0 []), (5, .own 1 [])]) [.sl 1 3 1 (ivs (vs ((A ++ kh0 (X.drop i) (U.drop i)).map Prod.fst))), .sl 1 3 1 (ivs (vs ((A ++ kh0 (X.drop i) (U.drop i)).map Prod.snd)))]
 | 0, i, A, hi, hA, ks => by
   rw [oh9 (by omega), oh9 (by omega), show kh0 ([] : List (El q)) [] = [] from rfl, List.append_nil, sb5 c66L0.eq_def]
   simp (disch := first | omega | fail) only [push_cast, seval, ui5, lu7, y81, bj9, wrap64, dec_lt, cw6, nl3, qc6, mr8, nb8, if_pos, if_neg]
 | n + 1, i, A, hi, hA, ks => by
   obtain ⟨x, hx⟩ := ge6 (l := X) (i := i) (by omega)
   obtain ⟨o, ho⟩ := ge6 (l := U) (i := i) (by omega)
   have h1 := iat (qb7 ho)
   have h2 := iat (show (vs X)[i]? = some x.v by unfold vs; rw [List.getElem?_map, hx]; rfl)
   have hlt : i < X.length := by omega
   have hwl := u67 U
   rw [i62 hx, i62 ho]
   cases o with
   | none =>
     rw [show oV (none : Option (El q)) = -1 from rfl] at h1
     have ih := ww2 hl hX n (i + 1) A (by omega) (by omega) ks
     rw [Int.natCast_add, Int.natCast_one] at ih
     rw [kh0, ← ih, sb5 c66L0.eq_def]
     simp (disch := first | omega | fail) only [push_cast, seval, ui5, lu7, y81, bj9, wrap64, dec_lt, cw6, nl3, qc6, mr8, nb8, if_pos, if_neg, h1, hwl]
   | some y =>
     rw [show oV (some y) = y.v from rfl] at h1
     have ih := ww2 hl hX n (i + 1) (A ++ [(x, y)]) (by omega) (by rw [List.length_append, List.length_singleton]; omega) ks
     have hy : ¬ y.v = -1 := by have := y.lo; omega
     rw [Int.natCast_add, Int.natCast_one, List.append_assoc, List.singleton_append, List.map_append, List.map_append, gq8, gq8, show vs (List.map Prod.fst [(x, y)]) = [x.v] from rfl, show vs (List.map Prod.snd [(x, y)]) = [y.v] from rfl] at ih
     rw [kh0, ← ih, sb5 c66L0.eq_def]
     simp (disch := first | omega | fail) only [push_cast, seval, ui5, lu7, y81, bj9, wrap64, dec_lt, cw6, nl3, qc6, mr8, nb8, if_pos, if_neg, h1, h2, hwl, nb8 hy]
theorem jl7 {X : List (El q)} {U : List (Option (El q))} (hl : U.length = X.length) (hX : X.length ≤ 1000000) :
 o24 W 66 [.fz b (.sl nl 0 1 (ivs (vs X))), .fz b' (.sl nl' 0 1 (ivs (ws U)))] [] = some (.tup [.own 0 [], .own 1 []], [.sl 1 3 1 (ivs (vs ((kh0 X U).map Prod.fst))), .sl 1 3 1 (ivs (vs ((kh0 X U).map Prod.snd)))], []) := by
 have e := fun ks => ww2 (b := b) (nl := nl) (b' := b') (nl' := nl') hl hX X.length 0 [] (by omega) (by simp) ks
 rw [List.drop_zero, List.drop_zero, List.nil_append] at e
 simp only [List.map_nil, rp2, lz6, Int.natCast_zero] at e
 have hwl := u67 U
 rw [o10 rfl T66 rfl]
 unfold F66 c66
 simp (disch := first | omega | fail) only [push_cast, seval, ui5, lu7, y81, bj9, wrap64, dec_lt, cw6, nl3, qc6, mr8, nb8, if_pos, if_neg, hwl, hl]
 rw [e]
 simp (disch := first | omega | fail) only [push_cast, seval, ui5, lu7, y81, bj9, wrap64, dec_lt, cw6, nl3, qc6, mr8, nb8, if_pos, if_neg]
theorem di6 [IsFld q] (a : List (El q)) (p : El q × El q) (P : List (El q × El q)) : offK a (p :: P) = (if ev a p.1 = p.2 then 0 else 1) + offK a P := by
 unfold offK
 rw [List.filter_cons]
 by_cases h : ev a p.1 = p.2
 ·rw [if_pos h, zr2.2 h, if_neg (by decide), Nat.zero_add]
 ·have hb : badF a p = true := by unfold badF; simpa using h
  rw [if_neg h, hb, if_pos rfl, List.length_cons, Nat.add_comm]
theorem jm8 [IsFld q] {P : List (El q × El q)} {a : List (El q)} {k : Int} {b2 : Bool} {nl2 : Nat} (ha : a.length ≤ 128) (hP : P.length ≤ 1000) : ∀ (n i m : Nat), i + n = P.length → m ≤ i → ∀ ks,
 vgoL W ⟨hNo, [.tmp 10, .tmp 11], 0⟩ [0, 1, 2, 3, 4, 12, 17, 18] c89L0 (.blk 0 [1, 4, 12] :: ks) [(0, .x (.int .i64 q)), (1, .fz b (.sl nl 0 1 (ivs (vs (P.map Prod.fst))))), (2, .fz b' (.sl nl' 0 1 (ivs (vs (P.map Prod.snd))))), (3, .fz b2 (.sl nl2 0 1 (ivs (vs a)))), (4, .x (.int .i64 k)), (12, .x (.int .i64 m)), (17, .x (.int .i64 P.length)), (18, .x (.int .i64 i))] [] =
  vgo W ⟨hNo, [.tmp 10, .tmp 11], 0⟩ ks (VFr.of [(1, .fz b (.sl nl 0 1 (ivs (vs (P.map Prod.fst))))), (4, .x (.int .i64 k)), (12, .x (.int .i64 (m + offK a (P.drop i) : Nat)))]) []
 | 0, i, m, hi, hm, ks => by
   rw [oh9 (by omega), show offK a ([] : List (El q × El q)) = 0 from rfl, Nat.add_zero, sb5 c89L0.eq_def]
   simp (disch := first | omega | fail) only [push_cast, seval, ui5, lu7, y81, bj9, wrap64, dec_lt, cw6, nl3, qc6, mr8, nb8, if_pos, if_neg]
 | n + 1, i, m, hi, hm, ks => by
   obtain ⟨p, hp⟩ := ge6 (l := P) (i := i) (by omega)
   have h1 := iat (show (vs (P.map Prod.fst))[i]? = some p.1.v by unfold vs; rw [List.getElem?_map, List.getElem?_map, hp]; rfl)
   have h2 := iat (show (vs (P.map Prod.snd))[i]? = some p.2.v by unfold vs; rw [List.getElem?_map, List.getElem?_map, hp]; rfl)
   have e1 := fun b nl => yu6 (b := b) (nl := nl) (x := p.1) ha
   have hlt : i < P.length := by omega
   have ih := jm8 (k := k) (b2 := b2) (nl2 := nl2) ha hP n (i + 1) (m + if ev a p.1 = p.2 then 0 else 1) (by omega) (by split <;> omega) ks
   rw [i62 hp, di6]
   rw [Nat.add_assoc] at ih
   rw [← ih, sb5 c89L0.eq_def]
   by_cases h : ev a p.1 = p.2
   ·rw [if_pos h, Nat.add_zero, Int.natCast_add, Int.natCast_one]
    rw [h] at e1
    simp (disch := first | omega | fail) only [push_cast, seval, ui5, lu7, y81, bj9, wrap64, dec_lt, cw6, nl3, qc6, mr8, nb8, if_pos, if_neg, h1, h2, e1]
   ·have hv : ¬ (ev a p.1).v = p.2.v := fun e => h (El.ext' e)
    rw [if_neg h, Int.natCast_add, Int.natCast_one, Int.natCast_add, Int.natCast_one]
    simp (disch := first | omega | fail) only [push_cast, seval, ui5, lu7, y81, bj9, wrap64, dec_lt, cw6, nl3, qc6, mr8, nb8, if_pos, if_neg, h1, h2, e1, nb8 hv]
theorem oq2 [IsFld q] {P : List (El q × El q)} {a : List (El q)} {k : Nat} {b2 : Bool} {nl2 : Nat} (ha : a.length ≤ 128) (hP : P.length ≤ 1000) (hk : k ≤ 1000) :
 o24 W 89 [.x (.int .i64 q), .fz b (.sl nl 0 1 (ivs (vs (P.map Prod.fst)))), .fz b' (.sl nl' 0 1 (ivs (vs (P.map Prod.snd)))), .fz b2 (.sl nl2 0 1 (ivs (vs a))), .x (.int .i64 k)] [] = some (.tup [.x (.int .i64 (offK a P : Nat)), .x (.bool (decide (2 * offK a P + k ≤ P.length)))], [], []) := by
 have e := fun ks => jm8 (b := b) (nl := nl) (b' := b') (nl' := nl') (b2 := b2) (nl2 := nl2) (k := k) ha hP P.length 0 0 (by omega) (by omega) ks
 rw [List.drop_zero, Nat.zero_add] at e
 simp only [Int.natCast_zero] at e
 have ho : offK a P ≤ P.length := List.length_filter_le _ _
 have w1 : IntKind.wrap .i64 (2 * ((offK a P : Nat) : Int)) = 2 * ((offK a P : Nat) : Int) := wrap64 (by omega) (by omega)
 have w2 : IntKind.wrap .i64 ((P.length : Int) - (k : Int)) = (P.length : Int) - (k : Int) := wrap64 (by omega) (by omega)
 have hd : decide (2 * ((offK a P : Nat) : Int) ≤ (P.length : Int) - (k : Int)) = decide (2 * offK a P + k ≤ P.length) := decide_eq_decide.2 (by omega)
 rw [o10 rfl T89 rfl]
 unfold F89 c89
 simp (disch := first | omega | fail) only [push_cast, seval, ui5, lu7, y81, bj9, wrap64, dec_lt, cw6, nl3, qc6, mr8, nb8, if_pos, if_neg, List.length_map]
 rw [e]
 simp (disch := first | omega | fail) only [push_cast, seval, ui5, lu7, y81, bj9, wrap64, dec_lt, cw6, nl3, qc6, mr8, nb8, if_pos, if_neg, w1, w2, hd, List.length_map]
theorem om1 [IsFld q] {a : List (El q)} {k : Nat} (ha : a.length ≤ k) (hk : k ≤ 1000) :
 o24 W 90 [.fz b (.sl nl 0 1 (ivs (vs a))), .x (.int .i64 k)] [] = some (.own 0 [], [.sl 0 3 1 (ivs (vs (qi3 a k)))], []) := by
 have hf : vs (qi3 a k) = vs a ++ List.replicate (k - a.length) 0 := by
  rw [← hc8 (q := q), qj2, ← gq8]
  congr 1
  refine ou8 (by rw [of2]; simp; omega) ?_
  rw [yq4 fun j hj => ez8 (by omega)]
  funext j
  rw [nz0, m13]
  split
  ·rfl
  ·exact ez8 (by omega)
 have hs : setL (ivs (List.replicate k 0)) 0 (ivs ((vs a).take k)) = ivs (vs a ++ List.replicate (k - a.length) 0) := by
  rw [List.take_of_length_le (by rw [fi2]; exact ha)]
  have hl : (ivs (vs a)).length = a.length := by rw [gf1, fi2]
  rw [dn3 (by rw [hl, gf1, List.length_replicate]; omega), hl]
  unfold ivs
  rw [List.map_append, List.map_replicate, List.map_replicate, List.take_zero, List.nil_append, List.drop_replicate, Nat.zero_add]
 rw [hf, o10 rfl T90 rfl]
 unfold F90 c90
 simp (disch := first | omega | fail) only [push_cast, seval, ui5, lu7, y81, bj9, wrap64, dec_lt, cw6, nl3, qc6, mr8, nb8, if_pos, if_neg, hs]
end
end Go.Proofs.Ytghfdpdiibiigaa
namespace Go.Proofs.Ytghfdpdiibiigaa
open Go.Am Go.Vm Go.Alg
section
variable {q : Int} {b : Bool} {nl nr e : Nat} {M : List (List Int)}
theorem g07 [IsFld q] (v : Int) : o24 W 93 [.x (.int .i64 v), .fz b (.pt e [pF q])] [] = some (.x (.bool (!fok q v)), [], []) := by
 rw [o10 rfl T93 rfl]
 unfold F93 c93
 simp (disch := first | omega | fail) only [push_cast, seval, ui5, lu7, y81, bj9, wrap64, dec_lt, cw6, nl3, qc6, mr8, nb8, if_pos, if_neg]
theorem bc0 [IsFld q] (hMl : M.length ≤ 64) {n0 : Nat} (hn0 : n0 = (nth M 0).length) : ∀ (d i : Nat), i + d = M.length → ∀ ks,
 vgoL W ⟨hNo, [.tmp 4], 0⟩ [1, 5, 20, 21, 22] c74L0 (.blk 0 [] :: ks) [(1, .fz b (.sl nl 0 1 (lvs nr M))), (5, .own 0 []), (20, .fz b (.sl nl 0 1 (lvs nr M))), (21, .x (.int .i64 M.length)), (22, .x (.int .i64 i))] [.pt 41 [.fz (pF q)]] =
  if wb9 q n0 (M.drop i) = 0 then vgo W ⟨hNo, [.tmp 4], 0⟩ ks (VFr.of []) [.pt 41 [.fz (pF q)]] else some (.x (.int .i64 (wb9 q n0 (M.drop i))), [], [])
 | 0, i, hi, ks => by
   rw [oh9 (by omega), wb9, if_pos rfl, sb5 c74L0.eq_def]
   simp (disch := first | omega | fail) only [push_cast, seval, ui5, lu7, y81, bj9, wrap64, dec_lt, cw6, nl3, qc6, mr8, nb8, if_pos, if_neg]
 | d + 1, i, hi, ks => by
   obtain ⟨r, hr⟩ := ge6 (l := M) (i := i) (by omega)
   obtain ⟨r0, hr0⟩ := ge6 (l := M) (i := 0) (by omega)
   have hr0l : r0.length = n0 := by rw [hn0, xr8 hr0]
   have h0 := lat (nl := nr) hr
   have h1 := lat (nl := nr) hr0
   have ih := bc0 hMl hn0 d (i + 1) (by omega) ks
   rw [Int.natCast_add, Int.natCast_one] at ih
   rw [i62 hr]
   by_cases hne : r.length = n0
   ·by_cases hz : r.length = 0
    ·have hrow : rowE q n0 r = 3 := by unfold rowE; rw [if_pos (.inr hz)]
     rw [kj7 hrow (by decide), if_neg (by decide), sb5 c74L0.eq_def]
     simp (disch := first | omega | fail) only [push_cast, seval, ui5, lu7, y81, bj9, wrap64, dec_lt, cw6, nl3, qc6, mr8, nb8, if_pos, if_neg, h0, h1, hr0l]
    ·by_cases h64 : 64 < r.length
     ·have hrow : rowE q n0 r = 4 := by unfold rowE; rw [if_neg (by omega), if_pos h64]
      rw [kj7 hrow (by decide), if_neg (by decide), sb5 c74L0.eq_def]
      simp (disch := first | omega | fail) only [push_cast, seval, ui5, lu7, y81, bj9, wrap64, dec_lt, cw6, nl3, qc6, mr8, nb8, if_pos, if_neg, h0, h1, hr0l]
     ·have hf := fun bl nl b e => eg0 (nl := nl) (l := r) (bl := bl) (k := 93) (b := b) (t := .pt e [pF q]) g07 rfl (by omega)
      cases hany : (r.any fun v => !fok q v) with
      | true =>
        have hrow : rowE q n0 r = 2 := by unfold rowE; rw [if_neg (by omega), if_neg h64, if_pos hany]
        rw [hany] at hf
        rw [kj7 hrow (by decide), if_neg (by decide), sb5 c74L0.eq_def]
        simp (disch := first | omega | fail) only [push_cast, seval, ui5, lu7, y81, bj9, wrap64, dec_lt, cw6, nl3, qc6, mr8, nb8, if_pos, if_neg, h0, h1, hr0l, hf]
      | false =>
        have hrow : rowE q n0 r = 0 := by unfold rowE; rw [if_neg (by omega), if_neg h64, if_neg (by rw [hany]; decide)]
        rw [hany] at hf
        rw [qf5 hrow, ← ih, sb5 c74L0.eq_def]
        simp (disch := first | omega | fail) only [push_cast, seval, ui5, lu7, y81, bj9, wrap64, dec_lt, cw6, nl3, qc6, mr8, nb8, if_pos, if_neg, h0, h1, hr0l, hf]
   ·have hrow : rowE q n0 r = 3 := by unfold rowE; rw [if_pos (.inl hne)]
    have hne' : ¬ (r.length : Int) = (n0 : Int) := by omega
    rw [kj7 hrow (by decide), if_neg (by decide), sb5 c74L0.eq_def]
    simp (disch := first | omega | fail) only [push_cast, seval, ui5, lu7, y81, bj9, wrap64, dec_lt, cw6, nl3, qc6, mr8, nb8, if_pos, if_neg, h0, h1, hr0l, nb8 hne']
theorem or9 : o24 W 74 [.x (.int .i64 q), .fz b (.sl nl 0 1 (lvs nr M))] [] = some (.x (.int .i64 (matE q M)), [], []) := by
 unfold matE
 cases hn : fldN q.toNat with
 | none =>
   have e1 := ug9 hn
   rw [o10 rfl T74 rfl]
   unfold F74 c74
   simp (disch := first | omega | fail) only [push_cast, seval, ui5, lu7, y81, bj9, wrap64, dec_lt, cw6, nl3, qc6, mr8, nb8, if_pos, if_neg, e1]
 | some x =>
   obtain ⟨p0, m0, g0, mod⟩ := x
   haveI : IsFld q := ⟨⟨p0, m0, g0, mod, hn⟩⟩
   simp only
   by_cases h64 : 64 < M.length
   ·rw [if_pos h64, o10 rfl T74 rfl]
    unfold F74 c74
    simp (disch := first | omega | fail) only [push_cast, seval, ui5, lu7, y81, bj9, wrap64, dec_lt, cw6, nl3, qc6, mr8, nb8, if_pos, if_neg]
   ·have e := fun ks => bc0 (q := q) (M := M) (b := b) (nl := nl) (nr := nr) (by omega) rfl M.length 0 (by omega) ks
    rw [if_neg h64, o10 rfl T74 rfl]
    simp only [Int.natCast_zero, List.take_zero, List.drop_zero, rp2, lz6, x25, List.map_nil, List.length_nil] at e
    unfold F74 c74
    simp (disch := first | omega | fail) only [push_cast, seval, ui5, lu7, y81, bj9, wrap64, dec_lt, cw6, nl3, qc6, mr8, nb8, if_pos, if_neg]
    rw [e]
    by_cases hr : wb9 q (nth M 0).length M = 0
    ·rw [if_pos hr, hr]
     simp (disch := first | omega | fail) only [push_cast, seval, ui5, lu7, y81, bj9, wrap64, dec_lt, cw6, nl3, qc6, mr8, nb8, if_pos, if_neg]
    ·rw [if_neg hr]
end
end Go.Proofs.Ytghfdpdiibiigaa
namespace Go.Proofs.Ytghfdpdiibiigaa
open Go.Am Go.Vm Go.Alg
section
variable {q : Int} [IsFld q] {b b' : Bool} {nl nl' nr : Nat} {c : El q}
theorem eh8 {r : List (El q)} (hW : r.length ≤ 100000) : ∀ (n j : Nat), j + n = r.length → ∀ ks,
 vgoL W ⟨hNo, [], 1⟩ [0, 1, 2, 8, 9] c95L0 (.blk 0 [] :: ks) [(0, .fz b (pF q)), (1, .own 0 []), (2, .x (.int .i64 c.v)), (8, .x (.int .i64 r.length)), (9, .x (.int .i64 j))] [.sl nl 3 1 (ivs (vs ((xf5 c r).take j ++ r.drop j)))] =
  vgo W ⟨hNo, [], 1⟩ ks (VFr.of []) [.sl nl 3 1 (ivs (vs (xf5 c r)))]
 | 0, j, hj, ks => by
   obtain rfl : j = r.length := by omega
   unfold xf5
   rw [l44, sb5 c95L0.eq_def]
   simp (disch := first | omega | fail) only [push_cast, seval, ui5, lu7, y81, bj9, wrap64, dec_lt, cw6, nl3, qc6, mr8, nb8, if_pos, if_neg]
 | n + 1, j, hj, ks => by
   have ih := eh8 hW n (j + 1) (by omega) ks
   obtain ⟨a, ha⟩ := ge6 (l := r) (i := j) (by omega)
   have hcl := mh9 (fun x => x * c) r j
   have hat := zw5 (f := fun x => x * c) (l := r) (j := j) (by omega)
   have hset := fz1 (f := fun x => x * c) ha
   have hsc : ∀ x : List (El q), xf5 c x = x.map fun x => x * c := fun _ => rfl
   rw [hsc, ← hset] at ih
   rw [hsc]
   generalize hy : (r.map fun x => x * c).take j ++ r.drop j = y at ih hcl hat hset
   have hwy : wf y j = a := by
    unfold wf; rw [List.getD_eq_getElem?_getD, hat, ha]; rfl
   have h1 := iva (l := y) (i := j) (by omega)
   rw [hwy] at h1
   have hs := g52 y j (a * c)
   rw [ym6] at hs
   rw [Int.natCast_add, Int.natCast_one] at ih
   rw [← ih, sb5 c95L0.eq_def]
   simp (disch := first | omega | fail) only [push_cast, seval, ui5, lu7, y81, bj9, wrap64, dec_lt, cw6, nl3, qc6, mr8, nb8, if_pos, if_neg, h1, hs]
theorem em7 {r : List (El q)} (hW : r.length ≤ 100000) :
 o24 W 95 [.fz b (pF q), .own 0 [], .x (.int .i64 c.v)] [.sl nl 3 1 (ivs (vs r))] = some (.tup [], [], [.sl nl 3 1 (ivs (vs (xf5 c r)))]) := by
 have e := fun ks => eh8 (b := b) (nl := nl) (c := c) (r := r) hW r.length 0 (by omega) ks
 rw [List.take_zero, List.nil_append, List.drop_zero] at e
 simp only [Int.natCast_zero] at e
 rw [o10 rfl T95 rfl]
 unfold F95 c95
 simp (disch := first | omega | fail) only [push_cast, seval, ui5, lu7, y81, bj9, wrap64, dec_lt, cw6, nl3, qc6, mr8, nb8, if_pos, if_neg]
 rw [e]
 simp (disch := first | omega | fail) only [push_cast, seval, ui5, lu7, y81, bj9, wrap64, dec_lt, cw6, nl3, qc6, mr8, nb8, if_pos, if_neg]
theorem jh0 {r o : List (El q)} (hl : o.length = r.length) (hW : r.length ≤ 100000) : ∀ (n j : Nat), j + n = r.length → ∀ ks,
 vgoL W ⟨hNo, [], 1⟩ [0, 1, 2, 3, 10, 11] c96L0 (.blk 0 [] :: ks) [(0, .fz b (pF q)), (1, .own 0 []), (2, .fz b' (.sl nl' 0 1 (ivs (vs o)))), (3, .x (.int .i64 c.v)), (10, .x (.int .i64 r.length)), (11, .x (.int .i64 j))] [.sl nl 3 1 (ivs (vs ((dx9 c r o).take j ++ r.drop j)))] =
  vgo W ⟨hNo, [], 1⟩ ks (VFr.of []) [.sl nl 3 1 (ivs (vs (dx9 c r o)))]
 | 0, j, hj, ks => by
   have hll : (dx9 c r o).length = r.length := wx1 hl.symm
   rw [oh9 (by omega), List.append_nil, List.take_of_length_le (by omega), sb5 c96L0.eq_def]
   simp (disch := first | omega | fail) only [push_cast, seval, ui5, lu7, y81, bj9, wrap64, dec_lt, cw6, nl3, qc6, mr8, nb8, if_pos, if_neg]
 | n + 1, j, hj, ks => by
   have ih := jh0 hl hW n (j + 1) (by omega) ks
   have hll : (dx9 c r o).length = r.length := wx1 hl.symm
   have hy : ((dx9 c r o).take j ++ r.drop j).set j (wf r j - c * wf o j) = (dx9 c r o).take (j + 1) ++ r.drop (j + 1) := by
    rw [List.take_succ_eq_append_getElem (by omega), ← i66 (by omega), rq0 hl.symm, List.set_append_right _ _ (by rw [List.length_take]; omega), List.length_take, Nat.min_eq_left (by omega), Nat.sub_self, List.drop_eq_getElem_cons (by omega : j < r.length), List.set_cons_zero, List.append_assoc]; rfl
   have hyl : ((dx9 c r o).take j ++ r.drop j).length = r.length := by simp only [List.length_append, List.length_take, List.length_drop]; omega
   have hyw : wf ((dx9 c r o).take j ++ r.drop j) j = wf r j := by
    unfold wf
    rw [List.getD_eq_getElem?_getD, List.getD_eq_getElem?_getD, List.getElem?_append_right (by rw [List.length_take]; omega), List.length_take, Nat.min_eq_left (by omega), Nat.sub_self, List.getElem?_drop, Nat.add_zero]
   rw [← hy] at ih
   generalize (dx9 c r o).take j ++ r.drop j = y at ih hyl hyw
   have h1 := iva (l := y) (i := j) (by omega)
   have h2 := iva (l := o) (i := j) (by omega)
   rw [hyw] at h1
   have hs := g52 y j (wf r j - c * wf o j)
   rw [bq9, ym6] at hs
   rw [Int.natCast_add, Int.natCast_one] at ih
   rw [← ih, sb5 c96L0.eq_def]
   simp (disch := first | omega | fail) only [push_cast, seval, ui5, lu7, y81, bj9, wrap64, dec_lt, cw6, nl3, qc6, mr8, nb8, if_pos, if_neg, h1, h2, hs]
theorem nq1 {r o : List (El q)} (hl : o.length = r.length) (hW : r.length ≤ 100000) :
 o24 W 96 [.fz b (pF q), .own 0 [], .fz b' (.sl nl' 0 1 (ivs (vs o))), .x (.int .i64 c.v)] [.sl nl 3 1 (ivs (vs r))] = some (.tup [], [], [.sl nl 3 1 (ivs (vs (dx9 c r o)))]) := by
 have e := fun ks => jh0 (b := b) (b' := b') (nl := nl) (nl' := nl') (c := c) hl hW r.length 0 (by omega) ks
 rw [List.take_zero, List.nil_append, List.drop_zero] at e
 simp only [Int.natCast_zero] at e
 rw [o10 rfl T96 rfl]
 unfold F96 c96
 simp (disch := first | omega | fail) only [push_cast, seval, ui5, lu7, y81, bj9, wrap64, dec_lt, cw6, nl3, qc6, mr8, nb8, if_pos, if_neg]
 rw [e]
 simp (disch := first | omega | fail) only [push_cast, seval, ui5, lu7, y81, bj9, wrap64, dec_lt, cw6, nl3, qc6, mr8, nb8, if_pos, if_neg]
end
theorem fc2 (n : Nat) : repT [Tree.sl 2 3 1 []] n = lls 2 (List.replicate n []) := by
 induction n with
 | zero => rfl
 | succ n ih => rw [repT, ih]; rfl
theorem l52 {M : List (List Int)} {i n : Nat} {r : List Int} (hr : M[i]? = some r) : (M.take i ++ List.replicate (n + 1) []).set i r = M.take (i + 1) ++ List.replicate n [] := by
 have hi := (List.getElem?_eq_some_iff.1 hr).1
 rw [List.set_append_right _ _ (by rw [List.length_take]; omega), List.length_take, Nat.min_eq_left (by omega), Nat.sub_self, List.replicate_succ, List.set_cons_zero, List.take_add_one, hr, List.append_assoc]; rfl
section
variable {b : Bool} {nl nr : Nat} {M : List (List Int)}
end
end Go.Proofs.Ytghfdpdiibiigaa
namespace Go.Proofs.Ytghfdpdiibiigaa
open Go.Am Go.Vm Go.Alg
theorem em1 {α : Type} {l : List α} {i : Nat} {x : α} (h : l[i]? = some x) : l.set i x = l := by
 obtain ⟨h1, h2⟩ := List.getElem?_eq_some_iff.1 h
 rw [← h2]; exact List.set_getElem_self h1
section
variable {q : Int} [IsFld q] {T5 : Tree} {M : List (List (El q))} {R n c at' : Nat}
theorem aw7 (P : List Nat) (c : Nat) : pn P ++ [(c : Int)] = pn (P ++ [c]) := by unfold pn; rw [List.map_append]; rfl
end
end Go.Proofs.Ytghfdpdiibiigaa
namespace Go.Proofs.Ytghfdpdiibiigaa
open Go.Am Go.Vm Go.Alg
section
variable {q : Int} [IsFld q] {n R : Nat}
end
end Go.Proofs.Ytghfdpdiibiigaa
namespace Go.Proofs.Ytghfdpdiibiigaa
open Go.Am Go.Vm Go.Alg
section
variable {q : Int} {b : Bool} {nl nr : Nat}
theorem sy6 [IsFld q] {N : List (List (El q))} {n : Nat} (hl : N.length ≤ 64) (hr : ∀ r ∈ N, r.length = n) (h0 : 0 < n) (hn : n ≤ 64) : matE q (N.map vs) = 0 := by
 obtain ⟨d, hd⟩ := gh1 (q := q)
 unfold matE
 rw [hd]
 show (if 64 < (N.map vs).length then 4 else _) = (0 : Int)
 rw [if_neg (by rw [List.length_map]; omega), kn4]
 have : ∀ L : List (List (El q)), (∀ r ∈ L, r ∈ N) → wb9 q (nth N 0).length (L.map vs) = 0 := by
  intro L
  induction L with
  | nil => intro _; rfl
  | cons r L ih =>
    intro h
    have h1 : r ∈ N := h r (by simp)
    have h2 : (nth N 0).length = n := by
     cases N with
     | nil => cases h1
     | cons a N => exact hr a (by simp)
    rw [List.map_cons, wb9, if_pos, ih fun x hx => h x (by simp [hx])]
    unfold rowE
    rw [fi2, hr r h1, h2, if_neg (by omega), if_neg (by omega), if_neg]
    intro h3
    obtain ⟨z, hz, h4⟩ := List.any_eq_true.1 h3
    obtain ⟨x, hx, rfl⟩ := List.mem_map.1 hz
    rw [x.ok] at h4
    cases h4
 exact this N fun r h => h
end
end Go.Proofs.Ytghfdpdiibiigaa
namespace Go.Proofs.Ytghfdpdiibiigaa
open Go.Am Go.Vm Go.Alg
section
variable {q p m g : Int} [IsFld q] {t : Tree} {b : Bool} {nl nr n6 n7 n9 : Nat} {M : List (List (El q))} {A : List (Nat × List (El q))} {w : Nat} {i8 : Nat}
end
end Go.Proofs.Ytghfdpdiibiigaa
namespace Go.Proofs.Ytghfdpdiibiigaa
open Go.Am Go.Vm Go.Alg
theorem b28 {α : Type} {M : List (List α)} {b : List α} (h : b.length = M.length) : (augL M b).length = M.length := by unfold augL; rw [List.length_zipWith, h, Nat.min_self]
section
variable {q p m g : Int} [IsFld q] {t : Tree} {b b' : Bool} {nl nl' nr n7 n8 : Nat} {M : List (List (El q))} {A : List (Nat × List (El q))} {N : Nat}
end
end Go.Proofs.Ytghfdpdiibiigaa
namespace Go.Proofs.Ytghfdpdiibiigaa
open Go.Am Go.Vm Go.Alg
theorem vu3 {q : Int} {M : List (List (El q))} {at' i : Nat} (hii : i ≠ at') : ((((lls 2 (M.map vs)).set at' Tree.junk).set i Tree.junk).set at' (.sl 2 3 1 (ivs (vs (nth M i))))).set i (.sl 2 3 1 (ivs (vs (nth M at')))) = lls 2 ((swpM M at' i).map vs) := by
 have hsw : (swpM M at' i).map vs = ((M.map vs).set at' (vs (nth M i))).set i (vs (nth M at')) := by unfold swpM; rw [List.map_set, List.map_set]
 rw [hsw, ← y81, ← y81]
 refine List.ext_getElem? fun k => ?_
 simp only [List.getElem?_set, List.length_set]
 by_cases c1 : i = k <;> by_cases c2 : at' = k <;> simp [c1, c2]
theorem aw4 {q : Int} {M : List (List (El q))} {i : Nat} : (lls 2 (M.map vs)).set i (.sl 2 3 1 (ivs (vs (nth M i)))) = lls 2 ((swpM M i i).map vs) := by
 have hsw : (swpM M i i).map vs = ((M.map vs).set i (vs (nth M i))).set i (vs (nth M i)) := by unfold swpM; rw [List.map_set, List.map_set]
 rw [y81, hsw, List.set_set]
section
variable {q : Int} [IsFld q] {b b' : Bool} {nl nl' nr : Nat} {M : List (List (El q))} {y : List (El q)} {n R : Nat}
theorem gz1 (hy : y.length = M.length) (hMl : ∀ r ∈ M, r.length = n) (hn0 : 0 < n) (hMn : M.length ≤ 500) (hN : n ≤ 900) : ∀ (d i : Nat), i + d = M.length → ∀ ks,
 vgoL W ⟨h80, [.tmp 6, .tmp 7], 0⟩ [1, 2, 8, 10, 11, 36, 37] c80L0 (.blk 0 [8, 10, 11] :: ks) [(1, .fz b (.sl nl 0 1 (lvs nr (M.map vs)))), (2, .fz b' (.sl nl' 0 1 (ivs (vs y)))), (8, .fz true (pF q)), (10, .x (.int .i64 n)), (11, .own 0 []), (36, .x (.int .i64 M.length)), (37, .x (.int .i64 i))] [.sl 0 22 1 (lls 2 (((augL M y).map vs).take i ++ List.replicate d []))] =
  vgo W ⟨h80, [.tmp 6, .tmp 7], 0⟩ ks (VFr.of [(8, .fz true (pF q)), (10, .x (.int .i64 n)), (11, .own 0 [])]) [.sl 0 22 1 (lls 2 ((augL M y).map vs))]
 | 0, i, hi, ks => by
   have hl := b28 hy
   rw [List.replicate_zero, List.append_nil, List.take_of_length_le (by rw [List.length_map]; omega), sb5 c80L0.eq_def]
   simp (disch := first | omega | fail) only [push_cast, seval, ui5, lu7, y81, bj9, wrap64, dec_lt, cw6, nl3, qc6, mr8, nb8, if_pos, if_neg]
 | d + 1, i, hi, ks => by
   obtain ⟨r, hr⟩ := ge6 (l := M) (i := i) (by omega)
   obtain ⟨x, hx⟩ := ge6 (l := y) (i := i) (by omega)
   have hrl := hMl r (List.mem_of_getElem? hr)
   have hwx : wf y i = x := by
    obtain ⟨h1, h2⟩ := List.getElem?_eq_some_iff.1 hx
    rw [i66 h1, h2]
   have ih := gz1 hy hMl hn0 hMn hN d (i + 1) (by omega) ks
   have hg : ((augL M y).map vs)[i]? = some (vs (r ++ [x])) := by
    rw [List.getElem?_map]
    have h : (augL M y)[i]? = some (r ++ [x]) := by unfold augL; rw [List.getElem?_zipWith, hr, hx]
    rw [h]; rfl
   have hl := b28 hy
   have hn := l52 (n := d) hg
   have hYl : (((augL M y).map vs).take i ++ List.replicate (d + 1) []).length = M.length := by
    simp only [List.length_append, List.length_take, List.length_map, List.length_replicate]; omega
   rw [← hn] at ih
   generalize ((augL M y).map vs).take i ++ List.replicate (d + 1) [] = Y at ih hYl
   rw [Int.natCast_add, Int.natCast_one] at ih
   have h0 := mva (nl := nr) hr
   have h1 := iva (l := y) (i := i) (by omega)
   rw [hwx] at h1
   have hcp := fun b nl => u27 (b := b) (nl := nl) (l := vs r) (by rw [fi2]; omega) (by rw [fi2]; omega)
   have hv : vs r ++ [x.v] = vs (r ++ [x]) := by rw [gq8]; rfl
   rw [← ih, sb5 c80L0.eq_def]
   simp (disch := first | omega | fail) only [push_cast, seval, ui5, lu7, y81, bj9, wrap64, dec_lt, cw6, nl3, qc6, mr8, nb8, if_pos, if_neg, h0, h1, hcp, hYl, hv, y81]
theorem zw3 {b b' : Bool} {nl e : Nat} {r : List (El q)} {c : Nat} (hc : c < r.length) (hl : r.length ≤ 1000) : o24 W 94 [.fz b (.sl nl 0 1 (ivs (vs r))), .fz b' (.pt e [.v (.int .i64 c)])] [] = some (.x (.bool (decide ((wf r c).v ≠ 0))), [], []) := by
 have h1 := iva (l := r) (i := c) hc
 rw [o10 rfl T94 rfl]
 unfold F94 c94
 simp (disch := first | omega | fail) only [push_cast, seval, ui5, lu7, y81, bj9, wrap64, dec_lt, cw6, nl3, qc6, mr8, nb8, if_pos, if_neg, h1]
 by_cases h : (wf r c).v = 0
 ·rw [decide_eq_true h, decide_eq_false (by simpa using h)]; rfl
 ·rw [decide_eq_false h, decide_eq_true h]; rfl
section
variable {T5 : Tree} {c at' n0 : Nat}
theorem gr3 (hR : M.length = R) (hR2 : R ≤ 1000) (hn2 : n ≤ 1000) (hrow : ∀ k, k < R → (nth M k).length = n) (hc : c < n) (hat : at' < R) :
 ∀ (d k : Nat), k + d = R → ∀ ks,
   vgoL W ⟨h80, [.tmp 6, .tmp 7], 0⟩ [8, 10, 11, 13, 14, 15, 55, 56, 102, 103] c80L1 (.blk 4 [8, 10, 11, 13, 14, 55, 56] :: ks) [(8, .fz true (pF q)), (10, .x (.int .i64 n0)), (11, .own 0 []), (13, .own 1 []), (14, .own 2 []), (15, .x (.int .i64 at')), (55, .x (.int .i64 n0)), (56, .x (.int .i64 c)), (102, .x (.int .i64 R)), (103, .x (.int .i64 k))] [.sl 0 22 1 (lls 2 (((clrM M at' c).take k ++ M.drop k).map vs)), T5, .pt 3 [.v (.int .i64 c)]] =
    vgo W ⟨h80, [.tmp 6, .tmp 7], 0⟩ ks (VFr.of [(8, .fz true (pF q)), (10, .x (.int .i64 n0)), (11, .own 0 []), (13, .own 1 []), (14, .own 2 []), (55, .x (.int .i64 n0)), (56, .x (.int .i64 c))]) [.sl 0 22 1 (lls 2 ((clrM M at' c).map vs)), T5, .pt 3 [.v (.int .i64 c)]]
 | 0, k, hk, ks => by
   have hcl := wq1 M at' c
   rw [oh9 (by omega), List.append_nil, List.take_of_length_le (by omega), sb5 c80L1.eq_def]
   simp (disch := first | omega | fail) only [push_cast, seval, ui5, lu7, y81, bj9, wrap64, dec_lt, cw6, nl3, qc6, mr8, nb8, if_pos, if_neg]
 | d + 1, k, hk, ks => by
   have ih := gr3 hR hR2 hn2 hrow hc hat d (k + 1) (by omega) ks
   have hcl := wq1 M at' c
   have hck := kc5 (M := M) (at' := at') (c := c) (k := k) (by omega)
   have hY : ((clrM M at' c).take k ++ M.drop k).length = R := by simp only [List.length_append, List.length_take, List.length_drop]; omega
   have hYk : ((clrM M at' c).take k ++ M.drop k)[k]? = some (nth M k) := by
    rw [List.getElem?_append_right (by rw [List.length_take]; omega), List.length_take, Nat.min_eq_left (by omega), Nat.sub_self, List.getElem?_drop, Nat.add_zero, gu3 (by omega)]
   have hYa : ((clrM M at' c).take k ++ M.drop k)[at']? = some (nth M at') := by
    by_cases h : at' < k
    ·rw [List.getElem?_append_left (by rw [List.length_take]; omega), List.getElem?_take, if_pos h, kc5 (by omega), if_pos rfl]
    ·rw [List.getElem?_append_right (by rw [List.length_take]; omega), List.length_take, Nat.min_eq_left (by omega), List.getElem?_drop, show k + (at' - k) = at' by omega, gu3 (by omega)]
   have hYn : ((clrM M at' c).take k ++ M.drop k).set k (if k = at' then nth M k else dx9 (wf (nth M k) c) (nth M k) (nth M at')) = (clrM M at' c).take (k + 1) ++ M.drop (k + 1) := by
    rw [List.set_append_right _ _ (by rw [List.length_take]; omega), List.length_take, Nat.min_eq_left (by omega), Nat.sub_self, List.drop_eq_getElem_cons (by omega : k < M.length), List.set_cons_zero, List.take_add_one, hck, List.append_assoc]; rfl
   rw [← hYn] at ih
   generalize (clrM M at' c).take k ++ M.drop k = Y at ih hY hYk hYa
   rw [Int.natCast_add, Int.natCast_one] at ih
   have h1 := mla (nl := 2) hYk
   have h2 := mla (nl := 2) hYa
   have h3 := iva (l := nth M k) (i := c) (by rw [hrow k (by omega)]; exact hc)
   have hsame : Y.set k (nth M k) = Y := em1 hYk
   have hlk := hrow k (by omega)
   have hla := hrow at' hat
   by_cases hka : k = at'
   ·rw [if_pos hka, hsame] at ih
    rw [← ih, sb5 c80L1.eq_def]
    simp (disch := first | omega | fail) only [push_cast, seval, ui5, lu7, y81, bj9, wrap64, dec_lt, cw6, nl3, qc6, mr8, nb8, if_pos, if_neg, h1, h2, h3, hY, hlk]
   ·rw [if_neg hka] at ih
    have hl := fun b b' nl nl' => nq1 (b := b) (b' := b') (nl := nl) (nl' := nl') (c := wf (nth M k) c) (r := nth M k) (o := nth M at') (by rw [hrow k (by omega), hrow at' hat]) (by rw [hrow k (by omega)]; omega)
    have hs : (lls 2 (Y.map vs)).set k (.sl 2 3 1 (ivs (vs (dx9 (wf (nth M k) c) (nth M k) (nth M at'))))) = lls 2 ((Y.set k (dx9 (wf (nth M k) c) (nth M k) (nth M at'))).map vs) := by rw [y81, List.map_set]
    have hj : ((lls 2 (Y.map vs)).set k Tree.junk)[k]? = some Tree.junk := List.getElem?_set_self (by rw [qf0, List.length_map]; omega)
    rw [← ih, sb5 c80L1.eq_def]
    simp (disch := first | omega | fail) only [push_cast, seval, ui5, lu7, y81, bj9, wrap64, dec_lt, cw6, nl3, qc6, mr8, nb8, if_pos, if_neg, h1, h2, h3, hY, hlk, hl, hj, List.getElem?_set_ne, List.set_set, hs]
end
theorem wh0 {M0 : List (List (El q))} {n0 : Nat} (hR : M0.length = R) (hR0 : 0 < R) (hR2 : R ≤ 1000) (hn2 : n ≤ 1000) (hn0 : n0 < n) :
 ∀ (d c : Nat) (M : List (List (El q))) (P : List Nat), c + d = n0 → RedI n M0 M P c → ∃ (M' : List (List (El q))) (P' : List Nat), RedI n M0 M' P' n0 ∧ ∀ ks,
   vgoL W ⟨h80, [.tmp 6, .tmp 7], 0⟩ [8, 10, 11, 13, 55, 56] c80L2 (.blk 2 [10, 11, 13] :: ks) [(8, .fz true (pF q)), (10, .x (.int .i64 n0)), (11, .own 0 []), (13, .own 1 []), (55, .x (.int .i64 n0)), (56, .x (.int .i64 c))] [.sl 0 22 1 (lls 2 (M.map vs)), .sl 1 3 1 (ivs (pn P))] =
    vgo W ⟨h80, [.tmp 6, .tmp 7], 0⟩ ks (VFr.of [(10, .x (.int .i64 n0)), (11, .own 0 []), (13, .own 1 [])]) [.sl 0 22 1 (lls 2 (M'.map vs)), .sl 1 3 1 (ivs (pn P'))]
 | 0, c, M, P, hd, I => by
   obtain rfl : c = n0 := by omega
   refine ⟨M, P, I, fun ks => ?_⟩
   rw [sb5 c80L2.eq_def]
   simp (disch := first | omega | fail) only [push_cast, seval, ui5, lu7, y81, bj9, wrap64, dec_lt, cw6, nl3, qc6, mr8, nb8, if_pos, if_neg]
 | d + 1, c, M, P, hd, I => by
   have hMl : M.length = R := by rw [I.len, hR]
   have hpl := I.pl
   have hpn := im5 P
   have IH := wh0 hR hR0 hR2 hn2 hn0 d (c + 1)
   obtain ⟨at', hat'⟩ : ∃ a, a = P.length := ⟨_, rfl⟩
   have hrow : ∀ k, k < R → (nth M k).length = n := fun k hk => I.len_nth (by omega)
   obtain ⟨m, hm⟩ : ∃ m, m = List.take (R - at') (List.drop at' (List.map vs M)) := ⟨_, rfl⟩
   have hmm : ∀ {j : Nat} {x : List Int}, m[j]? = some x → at' + j < R ∧ x = vs (nth M (at' + j)) := fun {j x} h => by
    have hj := (List.getElem?_eq_some_iff.1 h).1
    rw [hm, List.length_take, List.length_drop, List.length_map] at hj
    rw [hm, List.getElem?_take, if_pos (by omega), List.getElem?_drop, List.getElem?_map, gu3 (by omega)] at h
    exact ⟨by omega, (Option.some.inj h).symm⟩
   have hml : m.length = R - at' := by rw [hm, List.length_take, List.length_drop, List.length_map]; omega
   have hk : ∀ (bl b : Bool) (e : Nat), ∀ r ∈ m, o24 W 94 [.fz bl (.sl 2 0 1 (ivs r)), .fz b (.pt e [.v (.int .i64 c)])] [] = some (.x (.bool (decide (gi r c ≠ 0))), [], []) := fun bl b e r hr => by
    obtain ⟨j, hj⟩ := List.getElem?_of_mem hr
    obtain ⟨h2, rfl⟩ := hmm hj
    have := hrow (at' + j) h2
    rw [zw3 (by omega) (by omega), v86]; rfl
   have hix := fun bl nl b e => aj5 (bl := bl) (nl := nl) (nr := 2) (m := m) (k := 94) (b := b) (t := .pt e [.v (.int .i64 c)]) (p := fun r => decide (gi r c ≠ 0)) (hk bl b e) rfl (by omega)
   rcases nu4 (fun r => decide (gi r c ≠ 0)) 0 m with ⟨f1, f2⟩ | ⟨j, x, f1, f2, f3⟩
   ·rw [f1, hm] at hix
    have I' := I.skip (by omega) (fun k h1 h2 => by
     have hmk : vs (nth M k) ∈ m := by
      refine List.mem_of_getElem? (i := k - at') ?_
      rw [hm, List.getElem?_take, if_pos (by omega), List.getElem?_drop, List.getElem?_map, gu3 (by omega), show at' + (k - at') = k by omega]; rfl
     have := f2 _ hmk
     rw [v86] at this
     have h3 : (ge (nth M k) c).v = 0 := by simpa using this
     exact r57.1 h3)
    obtain ⟨M', P', r1, r3⟩ := IH M P (by omega) I'
    refine ⟨M', P', r1, fun ks => ?_⟩
    have ih := r3 ks
    rw [Int.natCast_add, Int.natCast_one] at ih
    rw [← hat'] at hpn
    have hnn : ((M.length : Int) - (at' : Int)).toNat = R - at' := by omega
    rw [← ih, sb5 c80L2.eq_def]
    simp (disch := first | omega | fail) only [push_cast, seval, ui5, lu7, y81, bj9, wrap64, dec_lt, cw6, nl3, qc6, mr8, nb8, if_pos, if_neg, hpn, hnn, hix]
   ·have hj := (List.getElem?_eq_some_iff.1 f2).1
    obtain ⟨hR1, rfl⟩ := hmm f2
    rw [f1, Nat.zero_add, hm] at hix
    obtain ⟨i, hi⟩ : ∃ i, i = at' + j := ⟨_, rfl⟩
    rw [← hi] at f3 hR1
    have hne : wf (nth M i) c ≠ 0 := fun e => by
     have h3 : gi (vs (nth M i)) c ≠ 0 := by simpa using f3
     rw [v86] at h3
     exact h3 (r57.2 e)
    have I' := qt5 I (by omega) (i := i) (by omega) (by omega) hne
    rw [← hat'] at I'
    have hscl : (sclM M at' i c).length = M.length := np1
    have hsrow := k39 (c := c) (M := M) (fun k hk => hrow k (by omega)) (at' := at') (i := i) (by omega) (by omega)
    have hin := gr3 (n0 := n0) (T5 := .sl 1 3 1 (ivs (pn P))) (M := sclM M at' i c) (R := R) (n := n) (c := c) (at' := at') (by omega) hR2 hn2 (fun k hk => hsrow k (by omega)) (by omega) (by omega) R 0 (by omega)
    obtain ⟨M', P', r1, r3⟩ := IH (clrM (sclM M at' i c) at' c) (P ++ [c]) (by omega) I'
    refine ⟨M', P', r1, fun ks => ?_⟩
    have ih := r3 ks
    rw [Int.natCast_add, Int.natCast_one] at ih
    rw [← hat'] at hpn
    have hia : (at' : Int) + (j : Int) = (i : Int) := by omega
    have hnn : ((M.length : Int) - (at' : Int)).toNat = R - at' := by omega
    have hla := hrow i (by omega)
    have hlb := hrow at' (by omega)
    have h2 := mla (nl := 2) (M := M) (i := i) (gu3 (by omega))
    have h3 := mla (nl := 2) (M := M) (i := at') (gu3 (by omega))
    have hswl : (swpM M at' i).length = M.length := p58
    have h4 := mla (nl := 2) (M := swpM M at' i) (i := at') (r := nth M i) (by rw [gu3 (by omega), fj6 (by omega) (by omega)])
    have h5 := iva (l := nth M i) (i := c) (by omega)
    have e2 := rl7 hne
    have hsc := fun b nl => em7 (b := b) (nl := nl) (c := FK.inv (wf (nth M i) c)) (r := nth M i) (by omega)
    have hs2 : (lls 2 ((swpM M at' i).map vs)).set at' (.sl 2 3 1 (ivs (vs (xf5 (FK.inv (wf (nth M i) c)) (nth M i))))) = lls 2 ((sclM M at' i c).map vs) := by unfold sclM; rw [y81, List.map_set]
    have hL : (lls 2 (M.map vs)).length = R := by rw [qf0, List.length_map]; exact hMl
    simp only [e2] at hsc
    rw [List.take_zero, List.nil_append, List.drop_zero] at hin
    simp only [Int.natCast_zero] at hin
    have hpush := aw7 P c
    have k3 : ((lls 2 ((swpM M at' i).map vs)).set at' Tree.junk)[at']? = some Tree.junk := List.getElem?_set_self (by rw [qf0, List.length_map]; omega)
    by_cases hii : i = at'
    ·have k1 : ((lls 2 (M.map vs)).set at' Tree.junk)[at']? = some Tree.junk := List.getElem?_set_self (by omega)
     subst hii
     have k2 := aw4 (M := M) (i := i)
     rw [← ih, sb5 c80L2.eq_def]
     simp (disch := first | omega | fail) only [push_cast, seval, ui5, lu7, y81, bj9, wrap64, dec_lt, cw6, nl3, qc6, mr8, nb8, if_pos, if_neg, hpn, hnn, hix, hia, h3, k1, List.set_set, k2, k3, h4, h5, hsc, hs2, hscl]
     rw [hMl, hin]
     simp (disch := first | omega | fail) only [push_cast, seval, ui5, lu7, y81, bj9, wrap64, dec_lt, cw6, nl3, qc6, mr8, nb8, if_pos, if_neg, hpn, hpush]
    ·have k1 : ((lls 2 (M.map vs)).set at' Tree.junk)[i]? = some (.sl 2 3 1 (ivs (vs (nth M i)))) := by rw [List.getElem?_set_ne (by omega)]; exact h2
     have k2 := vu3 (M := M) hii
     rw [← ih, sb5 c80L2.eq_def]
     simp (disch := first | omega | fail) only [push_cast, seval, ui5, lu7, y81, bj9, wrap64, dec_lt, cw6, nl3, qc6, mr8, nb8, if_pos, if_neg, hpn, hnn, hix, hia, h2, h3, k1, k2, k3, h4, h5, hsc, hs2, hscl, List.set_set]
     rw [hMl, hin]
     simp (disch := first | omega | fail) only [push_cast, seval, ui5, lu7, y81, bj9, wrap64, dec_lt, cw6, nl3, qc6, mr8, nb8, if_pos, if_neg, hpn, hpush]
theorem rm1 {P : List Nat} {n0 : Nat} (hR : M.length = R) (hR2 : R ≤ 1000) (hrow : ∀ k, k < R → (nth M k).length = n0 + 1) (hn2 : n0 ≤ 1000) (hP : P.length ≤ R) :
 ∀ (d k : Nat), P.length + k + d = R → ∀ ks,
   vgoL W ⟨h80, [.tmp 6, .tmp 7], 0⟩ [10, 11, 13, 135, 136, 137] c80L3 (.blk 6 [10, 11, 13] :: ks) [(10, .x (.int .i64 n0)), (11, .own 0 []), (13, .own 1 []), (135, .sub 0 [] 1 P.length (R - P.length)), (136, .x (.int .i64 ((R : Int) - (P.length : Int)))), (137, .x (.int .i64 k))] [.sl 0 22 1 (lls 2 (M.map vs)), .sl 1 3 1 (ivs (pn P))] =
    if ((M.drop (P.length + k)).any fun r => !decide ((wf r n0).v = 0)) = true then some (.tup [.x (.slice none 0 0), .x (.bool false)], [], []) else
    vgo W ⟨h80, [.tmp 6, .tmp 7], 0⟩ ks (VFr.of [(10, .x (.int .i64 n0)), (11, .own 0 []), (13, .own 1 [])]) [.sl 0 22 1 (lls 2 (M.map vs)), .sl 1 3 1 (ivs (pn P))]
 | 0, k, hk, ks => by
   rw [oh9 (by omega), if_neg (by simp), sb5 c80L3.eq_def]
   simp (disch := first | omega | fail) only [push_cast, seval, ui5, lu7, y81, bj9, wrap64, dec_lt, cw6, nl3, qc6, mr8, nb8, if_pos, if_neg]
 | d + 1, k, hk, ks => by
   have ih := rm1 hR hR2 hrow hn2 hP d (k + 1) (by omega) ks
   rw [Int.natCast_add, Int.natCast_one] at ih
   have h1 := mla (nl := 2) (M := M) (i := P.length + k) (gu3 (by omega))
   have h2 := iva (l := nth M (P.length + k)) (i := n0) (by rw [hrow _ (by omega)]; omega)
   have h3 := hrow (P.length + k) (by omega)
   by_cases hz : (wf (nth M (P.length + k)) n0).v = 0
   ·have hz0 := r57.1 hz
    rw [i62 (gu3 (by omega)), List.any_cons, decide_eq_true hz, Bool.not_true, Bool.false_or, show P.length + k + 1 = P.length + (k + 1) by omega, ← ih, sb5 c80L3.eq_def]
    simp (disch := first | omega | fail) only [push_cast, seval, ui5, lu7, y81, bj9, wrap64, dec_lt, cw6, nl3, qc6, mr8, nb8, if_pos, if_neg, h1, h2, h3, mr8 hz]
   ·rw [i62 (gu3 (by omega)), List.any_cons, decide_eq_false hz, Bool.not_false, Bool.true_or, if_pos rfl, sb5 c80L3.eq_def]
    simp (disch := first | omega | fail) only [push_cast, seval, ui5, lu7, y81, bj9, wrap64, dec_lt, cw6, nl3, qc6, mr8, nb8, if_pos, if_neg, h1, h2, h3, nb8 hz]
theorem wf6 {α : Type} {M : List (List α)} {P : List Nat} {k p : Nat} (hp : P[k]? = some p) (hk : k < M.length) : (outP M P)[k]? = some (p, nth M k) := by
 have h1 := (List.getElem?_eq_some_iff.1 hp).1
 unfold outP
 rw [List.getElem?_zip_eq_some]
 exact ⟨hp, by rw [List.getElem?_take, if_pos h1, gu3 hk]⟩
theorem u44 {P : List Nat} {n0 : Nat} (hR : M.length = R) (hR2 : R ≤ 1000) (hrow : ∀ k, k < R → (nth M k).length = n0 + 1) (hn2 : n0 ≤ 1000) (hP : P.length ≤ R) (hPn : ∀ p ∈ P, p < n0) :
 ∀ (d k : Nat) (x : List (El q)), k + d = P.length → x.length = n0 → ∀ ks,
   vgoL W ⟨h80, [.tmp 6, .tmp 7], 0⟩ [10, 11, 20, 149, 150, 151] c80L4 (.blk 8 [20] :: ks) [(10, .x (.int .i64 n0)), (11, .own 0 []), (20, .own 1 []), (149, .own 2 []), (150, .x (.int .i64 P.length)), (151, .x (.int .i64 k))] [.sl 0 22 1 (lls 2 (M.map vs)), .sl 0 3 1 (ivs (vs x)), .sl 1 3 1 (ivs (pn P))] =
    vgo W ⟨h80, [.tmp 6, .tmp 7], 0⟩ ks (VFr.of [(20, .own 1 [])]) [.sl 0 22 1 (lls 2 (M.map vs)), .sl 0 3 1 (ivs (vs (setP n0 ((outP M P).drop k) x))), .sl 1 3 1 (ivs (pn P))]
 | 0, k, x, hk, hx, ks => by
   have hol : (outP M P).length = P.length := by unfold outP; rw [List.length_zip, List.length_take]; omega
   rw [oh9 (by omega), setP, sb5 c80L4.eq_def]
   simp (disch := first | omega | fail) only [push_cast, seval, ui5, lu7, y81, bj9, wrap64, dec_lt, cw6, nl3, qc6, mr8, nb8, if_pos, if_neg]
 | d + 1, k, x, hk, hx, ks => by
   obtain ⟨p, hp⟩ := ge6 (l := P) (i := k) (by omega)
   have hpn := hPn p (List.mem_of_getElem? hp)
   have ho := wf6 (M := M) hp (by omega)
   have ih := u44 hR hR2 hrow hn2 hP hPn d (k + 1) (x.set p (wf (nth M k) n0)) (by omega) (by rw [List.length_set]; exact hx) ks
   rw [Int.natCast_add, Int.natCast_one] at ih
   have h1 := mla (nl := 2) (M := M) (i := k) (gu3 (by omega))
   have h2 := iva (l := nth M k) (i := n0) (by rw [hrow k (by omega)]; omega)
   have h3 : (ivs (pn P))[k]? = some (.v (.int .i64 p)) := iat (by unfold pn; rw [List.getElem?_map, hp]; rfl)
   have h4 := hrow k (by omega)
   have hs := g52 x p (wf (nth M k) n0)
   have hpl := im5 P
   rw [i62 ho, setP, ← ih, sb5 c80L4.eq_def]
   simp (disch := first | omega | fail) only [push_cast, seval, ui5, lu7, y81, bj9, wrap64, dec_lt, cw6, nl3, qc6, mr8, nb8, if_pos, if_neg, h1, h2, h3, h4, hs, hpl]
theorem ub4 (hy : y.length = M.length) (hMl : ∀ r ∈ M, r.length = n) (hM0 : 0 < M.length) (hn0 : 0 < n) (hMn : M.length ≤ 500) (hN : n ≤ 900) :
 o24 W 80 [.x (.int .i64 q), .fz b (.sl nl 0 1 (lvs nr (M.map vs))), .fz b' (.sl nl' 0 1 (ivs (vs y)))] [] = match solR n M y with
  | none => some (.tup [.x (.slice none 0 0), .x (.bool false)], [], [])
  | some x => some (.tup [.own 0 [], .x (.bool true)], [.sl 0 3 1 (ivs (vs x))], []) := by
 have e1 := fun ks => gz1 (b := b) (b' := b') (nl := nl) (nl' := nl') (nr := nr) hy hMl hn0 hMn hN M.length 0 (by omega) ks
 rw [List.take_zero, List.nil_append] at e1
 simp only [Int.natCast_zero] at e1
 have haug := b28 hy
 obtain ⟨N', P, I, e2⟩ := wh0 (n := n + 1) (n0 := n) (M0 := augL M y) (R := M.length) haug hM0 (by omega) (by omega) (by omega) n 0 (augL M y) [] (by omega) (RedI.start (a86 hMl))
 obtain ⟨s1, s2⟩ := z55 hMl hy I
 have hNl : N'.length = M.length := by rw [I.len, haug]
 have hrow : ∀ k, k < M.length → (nth N' k).length = n + 1 := fun k hk => I.len_nth (by omega)
 have hpl := I.pl
 have e3 := fun ks => rm1 (M := N') (P := P) (n0 := n) hNl (by omega) hrow (by omega) (by omega) (M.length - P.length) 0 (by omega) ks
 have e4 := fun ks => u44 (M := N') (P := P) (n0 := n) hNl (by omega) hrow (by omega) (by omega) (fun p hp => I.lt p hp) P.length 0 (List.replicate n 0) (by omega) (by simp) ks
 rw [List.drop_zero] at e4
 simp only [Int.natCast_zero, Nat.add_zero] at e3 e4
 have hnil : ivs (pn []) = [] := rfl
 rw [hnil] at e2
 simp only [Int.natCast_zero] at e2
 obtain ⟨r0, hr0⟩ := ge6 (l := M) (i := 0) hM0
 have h0 := mva (nl := nr) hr0
 have hr0l := hMl r0 (List.mem_of_getElem? hr0)
 have hz := fc2 M.length
 have hz2 : List.replicate n (0 : Int) = vs (List.replicate n (0 : El q)) := by rw [← qj2]; rfl
 have hpnl := im5 P
 have hsub : ((M.length : Int) - (P.length : Int)).toNat = M.length - P.length := by omega
 rw [o10 rfl T80 rfl]
 unfold F80 c80
 simp (disch := first | omega | fail) only [push_cast, seval, ui5, lu7, y81, bj9, wrap64, dec_lt, cw6, nl3, qc6, mr8, nb8, if_pos, if_neg, h0, hr0l, hz]
 rw [e1]
 simp (disch := first | omega | fail) only [push_cast, seval, ui5, lu7, y81, bj9, wrap64, dec_lt, cw6, nl3, qc6, mr8, nb8, if_pos, if_neg]
 rw [e2]
 simp (disch := first | omega | fail) only [push_cast, seval, ui5, lu7, y81, bj9, wrap64, dec_lt, cw6, nl3, qc6, mr8, nb8, if_pos, if_neg, hpnl, hNl, hsub]
 rw [e3]
 have hiff : ((N'.drop P.length).any fun r => !decide ((wf r n).v = 0)) = true ↔ ∃ k, P.length ≤ k ∧ k < N'.length ∧ wf (nth N' k) n ≠ 0 := by
  rw [List.any_eq_true]
  constructor
  ·rintro ⟨r, hr, hne⟩
   obtain ⟨i, hi⟩ := List.getElem?_of_mem hr
   rw [List.getElem?_drop] at hi
   refine ⟨P.length + i, by omega, (List.getElem?_eq_some_iff.1 hi).1, fun e => ?_⟩
   rw [xr8 hi] at e
   rw [decide_eq_true (r57.2 e)] at hne
   cases hne
  ·rintro ⟨k, k1, k2, k3⟩
   refine ⟨nth N' k, List.mem_of_getElem? (i := k - P.length) (by rw [List.getElem?_drop, show P.length + (k - P.length) = k by omega, gu3 k2]), ?_⟩
   rw [decide_eq_false fun e => k3 (r57.1 e)]; rfl
 by_cases hex : ((N'.drop P.length).any fun r => !decide ((wf r n).v = 0)) = true
 ·rw [if_pos hex, s1 (hiff.1 hex)]
 ·rw [if_neg hex, s2 fun h => hex (hiff.2 h)]
  simp (disch := first | omega | fail) only [push_cast, seval, ui5, lu7, y81, bj9, wrap64, dec_lt, cw6, nl3, qc6, mr8, nb8, if_pos, if_neg, hz2, hpnl]
  rw [e4]
  simp (disch := first | omega | fail) only [push_cast, seval, ui5, lu7, y81, bj9, wrap64, dec_lt, cw6, nl3, qc6, mr8, nb8, if_pos, if_neg]
end
end Go.Proofs.Ytghfdpdiibiigaa
namespace Go.Proofs.Ytghfdpdiibiigaa
open Go.Am Go.Vm Go.Alg
section
variable {q : Int} {b b' : Bool} {nl nl' nr e : Nat}
theorem kd4 [IsFld q] (v : Int) : o24 W 79 [.x (.int .i64 v), .fz b (.pt e [pF q])] [] = some (.x (.bool (!fok q v)), [], []) := by
 rw [o10 rfl T79 rfl]
 unfold F79 c79
 simp (disch := first | omega | fail) only [push_cast, seval, ui5, lu7, y81, bj9, wrap64, dec_lt, cw6, nl3, qc6, mr8, nb8, if_pos, if_neg]
theorem zx6 [IsFld q] {M : List (List (El q))} {y : List (El q)} {n : Nat} (hy : y.length = M.length) (h0 : 0 < M.length) (hl : M.length ≤ 64) (hr : ∀ r ∈ M, r.length = n) (hn0 : 0 < n) (hn : n ≤ 64) :
 o24 W 52 [.x (.int .i64 q), .fz b (.sl nl 0 1 (lvs nr (M.map vs))), .fz b' (.sl nl' 0 1 (ivs (vs y)))] [] = match solR n M y with
  | none => some (.tup [.x (.slice none 0 0), .x (.bool false), .x (.int .i64 0)], [], [])
  | some x => some (.tup [.own 0 [], .x (.bool true), .x (.int .i64 0)], [.sl 0 3 1 (ivs (vs x))], []) := by
 have h1 := sy6 hl hr hn0 hn
 have e1 := fun b nl nr => or9 (q := q) (M := M.map vs) (b := b) (nl := nl) (nr := nr)
 simp only [h1] at e1
 have hf := fun bl nl b e => eg0 (nl := nl) (l := vs y) (bl := bl) (k := 79) (b := b) (t := .pt e [pF q]) kd4 rfl (by rw [fi2]; omega)
 have hany : ((vs y).any fun v => !fok q v) = false := List.any_eq_false.2 fun z hz => by
  obtain ⟨x, _, rfl⟩ := List.mem_map.1 hz
  rw [x.ok]; decide
 simp only [hany] at hf
 have e2 := fun b nl nr b' nl' => ub4 (b := b) (nl := nl) (nr := nr) (b' := b') (nl' := nl') hy hr h0 hn0 (by omega) (by omega)
 rw [o10 rfl T52 rfl]
 unfold F52 c52
 cases hs : solR n M y with
 | none =>
   simp only [hs] at e2
   simp (disch := first | omega | fail) only [push_cast, seval, ui5, lu7, y81, bj9, wrap64, dec_lt, cw6, nl3, qc6, mr8, nb8, if_pos, if_neg, e1, hf, e2, hy]
 | some x =>
   simp only [hs] at e2
   simp (disch := first | omega | fail) only [push_cast, seval, ui5, lu7, y81, bj9, wrap64, dec_lt, cw6, nl3, qc6, mr8, nb8, if_pos, if_neg, e1, hf, e2, hy]
end
section
variable {α : Type} {n : Nat}
end
section
variable {q : Int} [IsFld q] {b b' : Bool} {nl nl' nr : Nat} {M : List (List (El q))} {n : Nat}
end
section
variable {q : Int} {b b' : Bool} {nl nl' nr e : Nat}
end
end Go.Proofs.Ytghfdpdiibiigaa
namespace Go.Alg
section
variable {K : Type} [FK K]
theorem vp7 {P : List (K × K)} {k : Nat} (h : P.length < k) : recK P k = none := z27 fun ⟨a, ha⟩ => by have := ha.off; omega
theorem wt4 {P : List (K × K)} {k : Nat} {N E : List K} (hn : (P.map Prod.fst).Nodup) (g : Hang P k N E) (hE0 : wf E ≠ fun _ => 0) :
 recK P k = if (remP (xa4 N) (xa4 E) = [] ∧ (quoP (xa4 N) (xa4 E)).length ≤ k) ∧ 2 * offK (quoP (xa4 N) (xa4 E)) P + k ≤ P.length then some (qi3 (quoP (xa4 N) (xa4 E)) k) else none := by
 have hE1 : xa4 E ≠ [] := fun h => hE0 (rj1.1 h)
 have hd := h79 (a := xa4 N) (t12 E) hE1
 have g' : Hang P k (xa4 N) (xa4 E) := ⟨fun p hp => by rw [hd5, hd5]; exact g.at' p hp, by rw [vb5]; exact g.n, by rw [vb5]; exact g.e⟩
 split
 ·rename_i h
  exact n35 hn h.1.2 h.2
 ·rename_i h
  cases hr : recK P k with
  | none => rfl
  | some a =>
    obtain ⟨h1, h2, h3, h4⟩ := k38 hn hr g' (t12 E) hE1 hd
    exact absurd ⟨⟨h1, h2⟩, h3⟩ h
theorem z57 {n : Nat} {M : List (List K)} {b s : List K} (h : solR n M b = some s) : s.length = n := by
 unfold solR at h
 split at h
 ·cases h
 ·cases h
  rw [l94, List.length_replicate]
theorem oq8 {P : List (K × K)} {k : Nat} (h : solR ((P.length - k) / 2 + ((P.length - k) / 2 + k)) (P.map (ki6 ((P.length - k) / 2) k)) (P.map (eqR ((P.length - k) / 2))) = none) : recK P k = none := by
 refine z27 fun ⟨a, ha⟩ => ?_
 obtain ⟨s, hs⟩ := bw9 ha
 obtain ⟨y, hy⟩ := qc0 (n := (P.length - k) / 2 + ((P.length - k) / 2 + k)) (M := P.map (ki6 ((P.length - k) / 2) k)) (b := P.map (eqR ((P.length - k) / 2))) (x := s) (fun m hm => by
  obtain ⟨p, _, rfl⟩ := List.mem_map.1 hm
  exact up9 _ _ _) (by rw [List.length_map, List.length_map]) fun i hi => by
   rw [List.length_map] at hi
   have h1 := hs P[i] (List.getElem_mem hi)
   rw [List.getD_eq_getElem?_getD, List.getElem?_map, List.getElem?_eq_getElem hi, i66 (by rw [List.length_map]; exact hi), List.getElem_map]
   exact h1
 rw [h] at hy
 cases hy
theorem rr0 {P : List (K × K)} {k : Nat} {s : List K} (hk : k ≤ P.length) (h : solR ((P.length - k) / 2 + ((P.length - k) / 2 + k)) (P.map (ki6 ((P.length - k) / 2) k)) (P.map (eqR ((P.length - k) / 2))) = some s) : Hang P k (s.drop ((P.length - k) / 2)) (s.take ((P.length - k) / 2) ++ [1]) := by
 refine hb5 rfl hk (z57 h) fun p hp => ?_
 obtain ⟨i, hi, rfl⟩ := List.getElem_of_mem hp
 have h1 := (l11 (n := (P.length - k) / 2 + ((P.length - k) / 2 + k)) (fun m hm => by
  obtain ⟨p, _, rfl⟩ := List.mem_map.1 hm
  exact up9 _ _ _) (by rw [List.length_map, List.length_map]) h).2
 have h2 := h1 i (by rw [List.length_map]; exact hi)
 rw [List.getD_eq_getElem?_getD, List.getElem?_map, List.getElem?_eq_getElem hi, i66 (by rw [List.length_map]; exact hi), List.getElem_map] at h2
 exact h2
theorem kc1 (l : List K) : wf (l ++ [1]) ≠ fun _ => 0 := fun e => by
 have h := congrFun e l.length
 rw [nz0, if_neg (by omega), Nat.sub_self] at h
 exact ki8 h
end
end Go.Alg
namespace Go.Proofs.Ytghfdpdiibiigaa
open Go.Am Go.Vm Go.Alg
section
variable {q : Int} [h : IsFld q]
theorem mc5 (x : El q) : ∀ n : Nat, (pw x n).v = powI q x.v n
 | 0 => rfl
 | n + 1 => by rw [pw, ym6, mc5 x n, powI]
theorem v_pw (x : El q) (n : Nat) : fpow q x.v n = (pw x n).v := by
 obtain ⟨p, m, g, mod, hn⟩ := h.ok
 obtain ⟨hf, t, _⟩ := jj8 hn
 rw [mc5]
 cases n with
 | zero =>
   rw [fpow, x.ok]
   show (bif !true || ((x.v == 0) && decide (((0 : Nat) : Int) < 0)) then _ else _) = _
   rw [decide_eq_false (by omega), Bool.and_false]; rfl
 | succ n => exact (v22 t hf.q2 ⟨x.lo, x.hi⟩ (n + 1) (by omega)).symm
theorem xe7 {K : Type} [FK K] (n : Nat) (f : Nat → K) : ofF (n + 1) f = ofF n f ++ [f n] := by
 unfold ofF; rw [List.range_succ, List.map_append]; rfl
end
theorem sk4 {A : Bool → Nat → Bool → Nat → Nat → Prop} (h : ∀ b nl b' nl', ∃ n, A b nl b' nl' n) : ∃ F : Bool → Nat → Bool → Nat → Nat, ∀ b nl b' nl', A b nl b' nl' (F b nl b' nl') :=
 ⟨fun b nl b' nl' => Classical.choose (h b nl b' nl'), fun b nl b' nl' => Classical.choose_spec (h b nl b' nl')⟩
section
variable {q : Int} [IsFld q] {b b' : Bool} {nl nl' : Nat} {P : List (El q × El q)} {k : Nat}
theorem up6 {a : List (El q)} {b2 : Bool} {nl2 : Nat} (hal : a.length ≤ k) (hk : k ≤ 100) (hP : P.length ≤ 100) :
 o24 W 69 [.x (.int .i64 q), .fz b (.sl nl 0 1 (ivs (vs (P.map Prod.fst)))), .fz b' (.sl nl' 0 1 (ivs (vs (P.map Prod.snd)))), .fz b2 (.sl nl2 0 1 (ivs (vs a))), .x (.int .i64 k)] [] =
  if 2 * offK a P + k ≤ P.length then some (.tup [.own 0 [], .x (.int .i64 (offK a P : Nat)), .x (.bool true), .x (.int .i64 0)], [.sl 0 3 1 (ivs (vs (qi3 a k)))], []) else some (.tup [.own 0 [], .x (.int .i64 0), .x (.bool false), .x (.int .i64 0)], [.sl 1 3 1 []], []) := by
 have e1 := fun b nl b' nl' b2 nl2 => oq2 (b := b) (nl := nl) (b' := b') (nl' := nl') (b2 := b2) (nl2 := nl2) (P := P) (a := a) (k := k) (by omega) (by omega) (by omega)
 have e2 := fun b nl => om1 (b := b) (nl := nl) hal (by omega)
 rw [o10 rfl T69 rfl]
 unfold F69 c69
 by_cases h : 2 * offK a P + k ≤ P.length
 ·rw [decide_eq_true h] at e1
  rw [if_pos h]
  simp (disch := first | omega | fail) only [push_cast, seval, ui5, lu7, y81, bj9, wrap64, dec_lt, cw6, nl3, qc6, mr8, nb8, if_pos, if_neg, e1, e2]
 ·rw [decide_eq_false h] at e1
  rw [if_neg h]
  simp (disch := first | omega | fail) only [push_cast, seval, ui5, lu7, y81, bj9, wrap64, dec_lt, cw6, nl3, qc6, mr8, nb8, if_pos, if_neg, e1, e2]
theorem rg0 {t : Nat} {i : Nat} {p : El q × El q} (hp : P[i]? = some p) (hP : P.length ≤ 100) (ht : t ≤ 100) {L I : Int} {T2 T3 : Tree} {n1 n2 : Nat} : ∀ (n d : Nat), d + n = t → ∀ ks,
 vgoL W ⟨h42, [.tmp 8, .tmp 9, .tmp 10, .tmp 11], 0⟩ [0, 2, 13, 14, 15, 17, 18, 19, 20, 21, 58, 59, 62, 63] c42L0 (.blk 2 [0, 2, 13, 14, 15, 17, 18, 19, 20, 21, 58, 59] :: ks) [(0, .x (.int .i64 q)), (2, .x (.int .i64 k)), (13, .own 0 []), (14, .own 1 []), (15, .fz true (pF q)), (17, .x (.int .i64 t)), (18, .own 2 []), (19, .own 3 []), (20, .x (.int .i64 i)), (21, .own 4 []), (58, .x (.int .i64 L)), (59, .x (.int .i64 I)), (62, .x (.int .i64 t)), (63, .x (.int .i64 d))] [.sl n1 3 1 (ivs (vs (P.map Prod.fst))), .sl n2 3 1 (ivs (vs (P.map Prod.snd))), T2, T3, .sl 1 3 1 (ivs (vs (ofF d fun j => p.2 * pw p.1 j)))] =
  vgo W ⟨h42, [.tmp 8, .tmp 9, .tmp 10, .tmp 11], 0⟩ ks (VFr.of [(0, .x (.int .i64 q)), (2, .x (.int .i64 k)), (13, .own 0 []), (14, .own 1 []), (15, .fz true (pF q)), (17, .x (.int .i64 t)), (18, .own 2 []), (19, .own 3 []), (20, .x (.int .i64 i)), (21, .own 4 []), (58, .x (.int .i64 L)), (59, .x (.int .i64 I))]) [.sl n1 3 1 (ivs (vs (P.map Prod.fst))), .sl n2 3 1 (ivs (vs (P.map Prod.snd))), T2, T3, .sl 1 3 1 (ivs (vs (ofF t fun j => p.2 * pw p.1 j)))]
 | 0, d, hd, ks => by
   obtain rfl : d = t := by omega
   rw [sb5 c42L0.eq_def]
   simp (disch := first | omega | fail) only [push_cast, seval, ui5, lu7, y81, bj9, wrap64, dec_lt, cw6, nl3, qc6, mr8, nb8, if_pos, if_neg]
 | n + 1, d, hd, ks => by
   have ih := rg0 hp hP ht (L := L) (I := I) (T2 := T2) (T3 := T3) (n1 := n1) (n2 := n2) n (d + 1) (by omega) ks
   have h1 := iat (show (vs (P.map Prod.fst))[i]? = some p.1.v by unfold vs; rw [List.getElem?_map, List.getElem?_map, hp]; rfl)
   have h2 := iat (show (vs (P.map Prod.snd))[i]? = some p.2.v by unfold vs; rw [List.getElem?_map, List.getElem?_map, hp]; rfl)
   have hi : i < P.length := (List.getElem?_eq_some_iff.1 hp).1
   have hpw := v_pw p.1 d
   have hl := gh0 d fun j => p.2 * pw p.1 j
   rw [Int.natCast_add, Int.natCast_one, xe7, gq8, show vs [p.2 * pw p.1 d] = [fmul q p.2.v (pw p.1 d).v] from rfl] at ih
   rw [← ih, sb5 c42L0.eq_def]
   generalize ofF d (fun j => p.2 * pw p.1 j) = Z at *
   simp (disch := first | omega | fail) only [push_cast, seval, ui5, lu7, y81, bj9, wrap64, dec_lt, cw6, nl3, qc6, mr8, nb8, if_pos, if_neg, h1, h2, hpw, hl, List.length_map]
theorem jy2 {t : Nat} {i : Nat} {p : El q × El q} (hp : P[i]? = some p) (hP : P.length ≤ 100) (ht : t ≤ 100) {m : Nat} (hm : m ≤ 200) {Y : List (El q)} (hY : Y.length ≤ 100) {L I : Int} {T2 T3 : Tree} {n1 n2 : Nat} : ∀ (n d : Nat), d + n = m → ∀ ks,
 vgoL W ⟨h42, [.tmp 8, .tmp 9, .tmp 10, .tmp 11], 0⟩ [0, 2, 13, 14, 15, 17, 18, 19, 20, 21, 58, 59, 85, 86] c42L1 (.blk 4 [0, 2, 13, 14, 15, 17, 18, 19, 20, 21, 58, 59] :: ks) [(0, .x (.int .i64 q)), (2, .x (.int .i64 k)), (13, .own 0 []), (14, .own 1 []), (15, .fz true (pF q)), (17, .x (.int .i64 t)), (18, .own 2 []), (19, .own 3 []), (20, .x (.int .i64 i)), (21, .own 4 []), (58, .x (.int .i64 L)), (59, .x (.int .i64 I)), (85, .x (.int .i64 m)), (86, .x (.int .i64 d))] [.sl n1 3 1 (ivs (vs (P.map Prod.fst))), .sl n2 3 1 (ivs (vs (P.map Prod.snd))), T2, T3, .sl 1 3 1 (ivs (vs (Y ++ ofF d fun j => -pw p.1 j)))] =
  vgo W ⟨h42, [.tmp 8, .tmp 9, .tmp 10, .tmp 11], 0⟩ ks (VFr.of [(0, .x (.int .i64 q)), (2, .x (.int .i64 k)), (13, .own 0 []), (14, .own 1 []), (15, .fz true (pF q)), (17, .x (.int .i64 t)), (18, .own 2 []), (19, .own 3 []), (20, .x (.int .i64 i)), (21, .own 4 []), (58, .x (.int .i64 L)), (59, .x (.int .i64 I))]) [.sl n1 3 1 (ivs (vs (P.map Prod.fst))), .sl n2 3 1 (ivs (vs (P.map Prod.snd))), T2, T3, .sl 1 3 1 (ivs (vs (Y ++ ofF m fun j => -pw p.1 j)))]
 | 0, d, hd, ks => by
   obtain rfl : d = m := by omega
   rw [sb5 c42L1.eq_def]
   simp (disch := first | omega | fail) only [push_cast, seval, ui5, lu7, y81, bj9, wrap64, dec_lt, cw6, nl3, qc6, mr8, nb8, if_pos, if_neg]
 | n + 1, d, hd, ks => by
   have ih := jy2 hp hP ht hm hY (L := L) (I := I) (T2 := T2) (T3 := T3) (n1 := n1) (n2 := n2) n (d + 1) (by omega) ks
   have h1 := iat (show (vs (P.map Prod.fst))[i]? = some p.1.v by unfold vs; rw [List.getElem?_map, List.getElem?_map, hp]; rfl)
   have hi : i < P.length := (List.getElem?_eq_some_iff.1 hp).1
   have hpw := v_pw p.1 d
   have hl := gh0 d fun j => -pw p.1 j
   rw [Int.natCast_add, Int.natCast_one, xe7, ← List.append_assoc, gq8, show vs [-pw p.1 d] = [fneg q (pw p.1 d).v] from rfl] at ih
   rw [← ih, sb5 c42L1.eq_def]
   have hl2 : (Y ++ ofF d fun j => -pw p.1 j).length = Y.length + d := by rw [List.length_append, hl]
   generalize (Y ++ ofF d fun j => -pw p.1 j) = Z at *
   simp (disch := first | omega | fail) only [push_cast, seval, ui5, lu7, y81, bj9, wrap64, dec_lt, cw6, nl3, qc6, mr8, nb8, if_pos, if_neg, h1, hpw, hl2, List.length_map]
theorem lo1 {t : Nat} (hP : P.length ≤ 100) (ht : t ≤ 100) (hk : k ≤ 100) {n1 n2 : Nat} : ∀ (n i : Nat), i + n = P.length → ∀ ks,
 vgoL W ⟨h42, [.tmp 8, .tmp 9, .tmp 10, .tmp 11], 0⟩ [0, 2, 13, 14, 15, 17, 18, 19, 58, 59] c42L2 (.blk 0 [0, 2, 13, 14, 17, 18, 19] :: ks) [(0, .x (.int .i64 q)), (2, .x (.int .i64 k)), (13, .own 0 []), (14, .own 1 []), (15, .fz true (pF q)), (17, .x (.int .i64 t)), (18, .own 2 []), (19, .own 3 []), (58, .x (.int .i64 P.length)), (59, .x (.int .i64 i))] [.sl n1 3 1 (ivs (vs (P.map Prod.fst))), .sl n2 3 1 (ivs (vs (P.map Prod.snd))), .sl 1 22 1 (lls 2 (((P.take i).map (ki6 t k)).map vs)), .sl 1 3 1 (ivs (vs ((P.take i).map (eqR t))))] =
  vgo W ⟨h42, [.tmp 8, .tmp 9, .tmp 10, .tmp 11], 0⟩ ks (VFr.of [(0, .x (.int .i64 q)), (2, .x (.int .i64 k)), (13, .own 0 []), (14, .own 1 []), (17, .x (.int .i64 t)), (18, .own 2 []), (19, .own 3 [])]) [.sl n1 3 1 (ivs (vs (P.map Prod.fst))), .sl n2 3 1 (ivs (vs (P.map Prod.snd))), .sl 1 22 1 (lls 2 ((P.map (ki6 t k)).map vs)), .sl 1 3 1 (ivs (vs (P.map (eqR t))))]
 | 0, i, hi, ks => by
   rw [List.take_of_length_le (by omega), sb5 c42L2.eq_def]
   simp (disch := first | omega | fail) only [push_cast, seval, ui5, lu7, y81, bj9, wrap64, dec_lt, cw6, nl3, qc6, mr8, nb8, if_pos, if_neg]
 | n + 1, i, hi, ks => by
   have ih := lo1 hP ht hk (n1 := n1) (n2 := n2) n (i + 1) (by omega) ks
   obtain ⟨p, hp⟩ := ge6 (l := P) (i := i) (by omega)
   have h1 := iat (show (vs (P.map Prod.fst))[i]? = some p.1.v by unfold vs; rw [List.getElem?_map, List.getElem?_map, hp]; rfl)
   have h2 := iat (show (vs (P.map Prod.snd))[i]? = some p.2.v by unfold vs; rw [List.getElem?_map, List.getElem?_map, hp]; rfl)
   have hpw := v_pw p.1 t
   have e1 := fun L I T2 T3 n1 n2 ks => rg0 (k := k) hp hP ht (L := L) (I := I) (T2 := T2) (T3 := T3) (n1 := n1) (n2 := n2) t 0 (by omega) ks
   have e2 := fun L I T2 T3 n1 n2 ks => jy2 (k := k) hp hP ht (m := t + k) (by omega) (Y := ofF t fun j => p.2 * pw p.1 j) (by rw [gh0]; exact ht) (L := L) (I := I) (T2 := T2) (T3 := T3) (n1 := n1) (n2 := n2) (t + k) 0 (by omega) ks
   rw [show (ofF t fun j => p.2 * pw p.1 j) ++ (ofF (t + k) fun j => -pw p.1 j) = ki6 t k p from rfl, show ofF 0 (fun j => -pw p.1 j) = [] from rfl, List.append_nil] at e2
   rw [show ofF 0 (fun j => p.2 * pw p.1 j) = [] from rfl] at e1
   simp only [Int.natCast_zero, rp2, lz6, Int.natCast_add] at e1 e2
   have w1 : IntKind.wrap .i64 ((t : Int) + (k : Int)) = (t : Int) + (k : Int) := wrap64 (by omega) (by omega)
   have hlt : i < P.length := by omega
   have hl1 : (List.map vs (List.map (ki6 t k) (List.take i P))).length = i := by rw [List.length_map, List.length_map, List.length_take]; omega
   have hl2 : (List.map (eqR t) (List.take i P)).length = i := by rw [List.length_map, List.length_take]; omega
   rw [Int.natCast_add, Int.natCast_one, List.take_add_one, hp, Option.toList_some, List.map_append, List.map_append, List.map_append, gq8, show List.map vs (List.map (ki6 t k) [p]) = [vs (ki6 t k p)] from rfl, show vs (List.map (eqR t) [p]) = [fneg q (fmul q p.2.v (pw p.1 t).v)] from rfl] at ih
   rw [← ih, sb5 c42L2.eq_def]
   simp (disch := first | omega | fail) only [push_cast, seval, ui5, lu7, y81, bj9, wrap64, dec_lt, cw6, nl3, qc6, mr8, nb8, if_pos, if_neg]
   rw [e1]
   simp (disch := first | omega | fail) only [push_cast, seval, ui5, lu7, y81, bj9, wrap64, dec_lt, cw6, nl3, qc6, mr8, nb8, if_pos, if_neg, w1]
   rw [e2]
   simp (disch := first | omega | fail) only [push_cast, seval, ui5, lu7, y81, bj9, wrap64, dec_lt, cw6, nl3, qc6, mr8, nb8, if_pos, if_neg, h1, h2, hpw, hl1, hl2, List.length_map]
theorem yx3 {X : List (El q)} {U : List (Option (El q))} (hn : X.Nodup) : ((kh0 X U).map Prod.fst).Nodup := hn.sublist (f98 X U)
theorem y91 {X : List (El q)} {U : List (Option (El q))} {k : Nat} (hn : X.Nodup) (hX1 : 1 ≤ X.length) (hX : X.length ≤ 64) (hU : U.length = X.length) (k1 : 1 ≤ k) (k2 : k ≤ X.length) : wrdE q (vs X) k (ws U) = 0 := by
 unfold wrdE
 rw [if_pos (la8 hn hX1 hX (by omega) (by omega)), if_neg (by rw [u67, fi2]; omega), p09, if_neg (by decide)]
def yg9 (P : List (El q × El q)) : Option (List (El q)) → Option VRes
 | some a => some (.tup [.own 0 [], .x (.int .i64 (offK a P : Nat)), .x (.bool true), .x (.int .i64 0)], [.sl 0 3 1 (ivs (vs a))], [])
 | none => some (.tup [.own 0 [], .x (.int .i64 0), .x (.bool false), .x (.int .i64 0)], [.sl 1 3 1 []], [])
theorem on4 {X : List (El q)} {U : List (Option (El q))} {k : Nat} (hn : X.Nodup) (hX1 : 1 ≤ X.length) (hX : X.length ≤ 64) (hU : U.length = X.length) (k1 : 1 ≤ k) (k2 : k ≤ X.length) :
 o24 W 42 [.x (.int .i64 q), .fz b (.sl nl 0 1 (ivs (vs X))), .x (.int .i64 k), .fz b' (.sl nl' 0 1 (ivs (ws U)))] [] = yg9 (kh0 X U) (recK (kh0 X U) k) := by
 have e1 := fun b nl b' nl' => hd9 (q := q) (b := b) (nl := nl) (b' := b') (nl' := nl') (xs := vs X) (w := ws U) (k := k) (by rw [fi2]; omega) (by rw [u67]; omega)
 simp only [y91 hn hX1 hX hU k1 k2] at e1
 have e2 := fun b nl b' nl' => jl7 (b := b) (nl := nl) (b' := b') (nl' := nl') hU (by omega)
 have hPl := ah8 X U
 have hPn := yx3 (U := U) hn
 generalize kh0 X U = P at *
 by_cases hlt : P.length < k
 ·rw [vp7 hlt]
  rw [o10 rfl T42 rfl]
  unfold F42 c42
  unfold yg9
  simp (disch := first | omega | fail) only [push_cast, seval, ui5, lu7, y81, bj9, wrap64, dec_lt, cw6, nl3, qc6, mr8, nb8, if_pos, if_neg, e1, e2, List.length_map, hlt]
 ·obtain ⟨t, ht⟩ : ∃ t, t = (P.length - k) / 2 := ⟨_, rfl⟩
  have hlt' : ¬ (P.length : Int) < (k : Int) := by omega
  have w1 : IntKind.wrap .i64 ((P.length : Int) - (k : Int)) = ((P.length - k : Nat) : Int) := by rw [wrap64 (by omega) (by omega)]; omega
  have w2 : IntKind.wrap .i64 (((P.length : Int) - (k : Int)).tdiv 2) = (t : Int) := by
   rw [Int.tdiv_eq_ediv_of_nonneg (by omega), wrap64 (by omega) (by omega)]; omega
  have e3 := fun n1 n2 ks => lo1 (k := k) (P := P) (t := t) (by omega) (by omega) (by omega) (n1 := n1) (n2 := n2) P.length 0 (by omega) ks
  rw [List.take_zero] at e3
  simp only [List.map_nil, rp2, lz6, Int.natCast_zero, show lls 2 [] = [] from rfl] at e3
  have e4 := fun b nl nr b' nl' => zx6 (b := b) (nl := nl) (nr := nr) (b' := b') (nl' := nl') (M := P.map (ki6 t k)) (y := P.map (eqR t)) (n := t + (t + k)) (by rw [List.length_map, List.length_map]) (by rw [List.length_map]; omega) (by rw [List.length_map]; omega) (fun m hm => by
   obtain ⟨p, _, rfl⟩ := List.mem_map.1 hm
   exact up9 _ _ _) (by omega) (by omega)
  rw [o10 rfl T42 rfl]
  unfold F42 c42
  cases hs : solR (t + (t + k)) (P.map (ki6 t k)) (P.map (eqR t)) with
  | none =>
    simp only [hs] at e4
    rw [oq8 (by rw [← ht]; exact hs)]
    unfold yg9
    simp (disch := first | omega | fail) only [push_cast, seval, ui5, lu7, y81, bj9, wrap64, dec_lt, cw6, nl3, qc6, mr8, nb8, if_pos, if_neg, e1, e2, List.length_map, cw6 (Int.not_lt.1 hlt'), w2]
    rw [e3]
    simp (disch := first | omega | fail) only [push_cast, seval, ui5, lu7, y81, bj9, wrap64, dec_lt, cw6, nl3, qc6, mr8, nb8, if_pos, if_neg, e4]
  | some s =>
    simp only [hs] at e4
    have hsl := z57 hs
    have hE0 := kc1 (s.take t)
    have g := rr0 (P := P) (k := k) (s := s) (by omega) (by rw [← ht]; exact hs)
    rw [← ht] at g
    have e5 := fun b nl => h19 (b := b) (nl := nl) (zs := vs (s.take t)) (by rw [fi2, List.length_take]; omega)
    have e6 := fun b nl b' nl' => pl2 (b := b) (nl := nl) (b' := b') (nl' := nl') (a := s.drop t) (c := s.take t ++ [1]) (by rw [List.length_drop]; omega) (by rw [List.length_append, List.length_take, List.length_singleton]; omega) fun e => hE0 (rj1.1 e)
    rw [wt4 hPn g hE0]
    have htk : (vs s).take t = vs (s.take t) := ee1 _ _
    have hdr : (vs s).drop t = vs (s.drop t) := by unfold vs; rw [List.map_drop]
    obtain ⟨F, e6⟩ := sk4 e6
    simp (disch := first | omega | fail) only [push_cast, seval, ui5, lu7, y81, bj9, wrap64, dec_lt, cw6, nl3, qc6, mr8, nb8, if_pos, if_neg, e1, e2, List.length_map, cw6 (Int.not_lt.1 hlt'), w2]
    rw [e3]
    have hc1 : vs (s.take t ++ [1]) = vs (s.take t) ++ [1] := by rw [gq8]; rfl
    have htk2 : (vs (s.drop t)).take ((t : Int) + ((t : Int) + (k : Int)) - (t : Int)).toNat = vs (s.drop t) := List.take_of_length_le (by rw [fi2, List.length_drop]; omega)
    rw [hc1] at e6
    generalize quoP (xa4 (s.drop t)) (xa4 (s.take t ++ [1])) = Q at *
    generalize remP (xa4 (s.drop t)) (xa4 (s.take t ++ [1])) = R at *
    by_cases h1 : R = [] ∧ Q.length ≤ k
    ·have hR : R.length = 0 := by rw [h1.1]; rfl
     have hQ := h1.2
     have e7 := fun b nl b' nl' b2 nl2 => up6 (b := b) (nl := nl) (b' := b') (nl' := nl') (b2 := b2) (nl2 := nl2) (P := P) (a := Q) (k := k) hQ (by omega) (by omega)
     by_cases h2 : 2 * offK Q P + k ≤ P.length
     ·rw [if_pos ⟨h1, h2⟩]
      simp only [if_pos h2] at e7
      have h3 : offK (qi3 Q k) P = offK Q P := tx3 (yq4 fun j hj => ez8 (by omega)) P
      unfold yg9
      simp (disch := first | omega | fail) only [push_cast, seval, ui5, lu7, y81, bj9, wrap64, dec_lt, cw6, nl3, qc6, mr8, nb8, if_pos, if_neg, e4, Int.sub_zero, htk, hdr, htk2, e5, e6, hsl, hR, hQ, e7, h3]
     ·rw [if_neg fun h => h2 h.2]
      simp only [if_neg h2] at e7
      unfold yg9
      simp (disch := first | omega | fail) only [push_cast, seval, ui5, lu7, y81, bj9, wrap64, dec_lt, cw6, nl3, qc6, mr8, nb8, if_pos, if_neg, e4, Int.sub_zero, htk, hdr, htk2, e5, e6, hsl, hR, hQ, e7]
    ·rw [if_neg fun h => h1 h.1]
     unfold yg9
     by_cases hR : R.length = 0
     ·have hQ : ¬ Q.length ≤ k := fun h => h1 ⟨List.eq_nil_of_length_eq_zero hR, h⟩
      have hQ' : (k : Int) < (Q.length : Int) := by omega
      simp (disch := first | omega | fail) only [push_cast, seval, ui5, lu7, y81, bj9, wrap64, dec_lt, cw6, nl3, qc6, mr8, nb8, if_pos, if_neg, e4, Int.sub_zero, htk, hdr, htk2, e5, e6, hsl, hR, dec_lt hQ']
     ·have hR' : (0 : Int) < (R.length : Int) := by omega
      simp (disch := first | omega | fail) only [push_cast, seval, ui5, lu7, y81, bj9, wrap64, dec_lt, cw6, nl3, qc6, mr8, nb8, if_pos, if_neg, e4, Int.sub_zero, htk, hdr, htk2, e5, e6, hsl, dec_lt hR']
end
end Go.Proofs.Ytghfdpdiibiigaa
namespace Go.Alg
section
variable {K : Type} [FK K]
def scT (c : K) : Nat → Nat → List K → List K
 | 0, k, z => z
 | n + 1, k, z => scT c n (k + 1) (z.set k (wf z k * c))
theorem m70 (c : K) : ∀ (n k : Nat) (z : List K), k + n = z.length → scT c n k z = z.take k ++ (z.drop k).map fun x => x * c
 | 0, k, z, h => by rw [scT, List.drop_of_length_le (by omega), List.take_of_length_le (by omega)]; simp
 | n + 1, k, z, h => by
   have hk : k < z.length := by omega
   rw [scT, m70 c n (k + 1) _ (by rw [List.length_set]; omega)]
   rw [List.take_add_one, List.getElem?_set_self hk, List.take_set_of_le (Nat.le_refl _), List.drop_set_of_lt (Nat.lt_succ_self _), List.drop_eq_getElem_cons hk, List.map_cons, i66 hk]
   simp
theorem ou4 (c : K) (z : List K) : scT c z.length 0 z = z.map fun x => x * c := by
 rw [m70 c _ _ _ (by omega)]; simp
end
end Go.Alg
namespace Go.Proofs.Ytghfdpdiibiigaa
open Go.Am Go.Vm Go.Alg
theorem ef8 {α : Type} {l : List α} (h : l ≠ []) : nlT l = 0 := by
 cases l with
 | nil => exact absurd rfl h
 | cons a l => rfl
section
variable {q : Int} [IsFld q] {b : Bool} {nl : Nat} {s : List (El q)}
end
end Go.Proofs.Ytghfdpdiibiigaa
namespace Go.Alg
section
variable {K : Type} [FK K]
theorem ty2 {a d : K} (h : d ≠ 0) : d * (a * FK.inv d) = a := by
 rw [FK.mul_comm a, ← FK.mul_assoc, FK.mul_inv d h, one_mul]
structure ThrI (P R : List (K × K)) (out all : List K) : Prop where
 tr : Trm out
 lo : out.length ≤ P.length
 la : all.length ≤ P.length + 1
 ok : ∀ p ∈ P, ev out p.1 = p.2
 z : ∀ p ∈ P, ev all p.1 = 0
 nz : ∀ p ∈ R, ev all p.1 ≠ 0
theorem ThrI.start (R : List (K × K)) : ThrI [] R [] [1] := ⟨wg5, Nat.le_refl _, Nat.le_refl _, fun p h => (by cases h), fun p h => (by cases h), fun p h e => ki8 (by
 have : ev [1] p.1 = (1 : K) := by rw [ev, ev, mul_zero, FK.add_zero]
 rw [← this, e])⟩
theorem ThrI.out {P R : List (K × K)} {out all : List K} {p : K × K} (h : ThrI P (p :: R) out all) :
 Trm (addK out (all.map fun c => c * ((p.2 - ev out p.1) * FK.inv (ev all p.1)))) ∧ (addK out (all.map fun c => c * ((p.2 - ev out p.1) * FK.inv (ev all p.1)))).length ≤ P.length + 1 ∧ ∀ r ∈ P ++ [p], ev (addK out (all.map fun c => c * ((p.2 - ev out p.1) * FK.inv (ev all p.1)))) r.1 = r.2 := by
 refine ⟨y42 _ _, ?_, fun r hr => ?_⟩
 ·have h1 := mk8 out (all.map fun c => c * ((p.2 - ev out p.1) * FK.inv (ev all p.1)))
  rw [List.length_map] at h1
  have h2 := h.lo
  have h3 := h.la
  omega
 ·rw [k99, hi7]
  rcases List.mem_append.1 hr with hr | hr
  ·rw [h.z r hr, zero_mul, FK.add_zero, h.ok r hr]
  ·rw [List.mem_singleton.1 hr, ty2 (h.nz p (by simp)), FK.add_comm, fj9]
theorem ThrI.step {P R : List (K × K)} {out all : List K} {p : K × K} (hn : ∀ r ∈ R, r.1 ≠ p.1) (h : ThrI P (p :: R) out all) :
 ThrI (P ++ [p]) R (addK out (all.map fun c => c * ((p.2 - ev out p.1) * FK.inv (ev all p.1)))) (mulK all [-p.1, 1]) := by
 obtain ⟨h1, h2, h3⟩ := h.out
 refine ⟨h1, by rw [List.length_append]; exact h2, ?_, h3, fun r hr => ?_, fun r hr e => ?_⟩
 ·have h4 := bx4 all [-p.1, 1]
  have h5 := h.la
  simp only [List.length_cons, List.length_nil, List.length_append] at h4 ⊢
  omega
 ·rw [jo3, tt9]
  rcases List.mem_append.1 hr with hr | hr
  ·rw [h.z r hr, zero_mul]
  ·rw [List.mem_singleton.1 hr, sub_eq, FK.add_neg, mul_zero]
 ·rw [jo3, tt9] at e
  rcases mul_eq_zero e with e | e
  ·exact h.nz r (by simp [hr]) e
  ·exact hn r hr (by rw [← fj9 r.1 p.1, e, zero_add])
theorem ThrI.ne {P R : List (K × K)} {out all : List K} {p : K × K} (h : ThrI P (p :: R) out all) : all ≠ [] := by
 rintro rfl
 exact h.nz p (by simp) rfl
def negT : Nat → Nat → List K → List K
 | 0, k, z => z
 | n + 1, k, z => negT n (k + 1) (z.set k (-wf z k))
theorem h72 : ∀ (n k : Nat) (z : List K), k + n = z.length → negT n k z = z.take k ++ (z.drop k).map fun x => -x
 | 0, k, z, h => by rw [negT, List.drop_of_length_le (by omega), List.take_of_length_le (by omega)]; simp
 | n + 1, k, z, h => by
   have hk : k < z.length := by omega
   rw [negT, h72 n (k + 1) _ (by rw [List.length_set]; omega)]
   rw [List.take_add_one, List.getElem?_set_self hk, List.take_set_of_le (Nat.le_refl _), List.drop_set_of_lt (Nat.lt_succ_self _), List.drop_eq_getElem_cons hk, List.map_cons, i66 hk]
   simp
theorem um4 (z : List K) : negT z.length 0 z = z.map fun x => -x := by rw [h72 _ _ _ (by omega)]; simp
structure EuI (P : List (K × K)) (k : Nat) (high low u v : List K) : Prop where
 th : Trm high
 tl : Trm low
 tv : Trm v
 nv : v ≠ []
 eh : ∀ p ∈ P, ev high p.1 = p.2 * ev u p.1
 el : ∀ p ∈ P, ev low p.1 = p.2 * ev v p.1
 sum : high.length + v.length = P.length + 2
 lt : low.length < high.length
 ut : u.length < v.length
 big : P.length + k + 2 ≤ 2 * high.length
theorem EuI.start {P : List (K × K)} {k : Nat} {high low : List K} (hk : k ≤ P.length) (h1 : Trm high) (h2 : high.length = P.length + 1) (h3 : ∀ p ∈ P, ev high p.1 = 0) (h4 : Trm low) (h5 : low.length ≤ P.length) (h6 : ∀ p ∈ P, ev low p.1 = p.2) : EuI P k high low [] [1] :=
 ⟨h1, h4, py3 ki8, by simp, fun p hp => by rw [h3 p hp]; exact (mul_zero _).symm, fun p hp => by rw [h6 p hp, ev, ev, mul_zero, FK.add_zero, FK.mul_one], by rw [h2]; rfl, by omega, by simp, by omega⟩
theorem EuI.quo {P : List (K × K)} {k : Nat} {high low u v : List K} (h : EuI P k high low u v) (hc : P.length + k + 2 ≤ 2 * low.length) :
 (quoP high low).length = high.length - low.length + 1 ∧ quoP high low ≠ [] ∧ Trm (quoP high low) ∧ Trm (remP high low) ∧ (remP high low).length < low.length ∧ (mulK (quoP high low) v).length = high.length - low.length + v.length := by
 have hl : low ≠ [] := by rintro rfl; simp at hc
 have hd := h79 (a := high) h.tl hl
 have h1 := hd.len h.th h.tl (Nat.le_of_lt h.lt)
 refine ⟨h1.1, h1.2, hd.q, hd.r, hd.lt, ?_⟩
 rw [lk3 hd.q h.tv h1.2 h.nv, h1.1]
 omega
theorem EuI.step {P : List (K × K)} {k : Nat} {high low u v : List K} (h : EuI P k high low u v) (hc : P.length + k + 2 ≤ 2 * low.length) :
 EuI P k low (remP high low) v (addK u ((mulK (quoP high low) v).map fun x => -x)) := by
 obtain ⟨q1, q2, q3, q4, q5, q6⟩ := h.quo hc
 have hl : low ≠ [] := by rintro rfl; simp at hc
 have hd := h79 (a := high) h.tl hl
 have hsum := h.sum
 have hlt := h.lt
 have hut := h.ut
 have hle : (addK u ((mulK (quoP high low) v).map fun x => -x)).length ≤ high.length - low.length + v.length := by
  have h1 := mk8 u ((mulK (quoP high low) v).map fun x => -x)
  rw [List.length_map, q6] at h1
  omega
 have hge : high.length - low.length + v.length ≤ (addK u ((mulK (quoP high low) v).map fun x => -x)).length := by
  refine Classical.byContradiction fun hno => ?_
  have h1 : wf (addK u ((mulK (quoP high low) v).map fun x => -x)) (high.length - low.length + v.length - 1) = 0 := ez8 (by omega)
  rw [w62] at h1
  simp only at h1
  rw [ez8 (l := u) (by omega), zero_add, qm4 (f := fun x => -x) neg_zero, neg_eq_zero] at h1
  have h2 := ho6 (quoP high low) v (by omega)
  rw [q6] at h2
  exact h2 h1
 have hlen := Nat.le_antisymm hle hge
 refine ⟨h.tl, q4, y42 _ _, ?_, h.el, fun p hp => ?_, ?_, q5, ?_, hc⟩
 ·intro e
  rw [e] at hlen
  simp only [List.length_nil] at hlen
  omega
 ·have h1 := hd.ev p.1
  rw [h.eh p hp, h.el p hp] at h1
  rw [k99, ft7, jo3, FK.mul_add, h1]
  generalize ev (quoP high low) p.1 = A
  generalize ev (remP high low) p.1 = B
  generalize ev v p.1 = C
  rw [mul_neg, show p.2 * (A * C) = A * (p.2 * C) from mul_left_comm _ _ _, FK.add_comm (A * _), FK.add_assoc, FK.add_neg, FK.add_zero]
 ·omega
 ·omega
theorem EuI.done {P : List (K × K)} {k : Nat} {high low u v : List K} (h : EuI P k high low u v) (hc : ¬ P.length + k + 2 ≤ 2 * low.length) : Hang P k low v :=
 ⟨h.el, fun j hj => ez8 (by omega), fun j hj => ez8 (by have := h.sum; have := h.big; omega)⟩
end
end Go.Alg
namespace Go.Proofs.Ytghfdpdiibiigaa
open Go.Am Go.Vm Go.Alg
section
variable {q : Int} [IsFld q] {b b' : Bool} {nl nl' : Nat} {P : List (El q × El q)}
theorem ga0 {c : El q} {T0 T1 : Tree} {i : Nat} {L : Int} {x : Int} : ∀ (n k : Nat) (z : List (El q)), k + n = z.length → z.length ≤ 1000 → ∀ ks,
 vgoL W ⟨h71, [.tmp 6, .tmp 7], 0⟩ [0, 1, 2, 8, 12, 13, 14, 15, 20, 21, 41, 42, 43, 79, 80] c71L0 (.blk 2 [0, 1, 2, 8, 12, 13, 14, 15, 21, 41, 42, 43] :: ks) [(0, .x (.int .i64 q)), (1, .fz b (.sl nl 0 1 (ivs (vs (P.map Prod.fst))))), (2, .fz b' (.sl nl' 0 1 (ivs (vs (P.map Prod.snd))))), (8, .fz true (pF q)), (12, .own 0 []), (13, .own 1 []), (14, .x (.int .i64 i)), (15, .x (.int .i64 x)), (20, .x (.int .i64 c.v)), (21, .own 2 []), (41, .fz b (.sl nl 0 1 (ivs (vs (P.map Prod.fst))))), (42, .x (.int .i64 L)), (43, .x (.int .i64 i)), (79, .x (.int .i64 z.length)), (80, .x (.int .i64 k))] [T0, T1, .sl 0 3 1 (ivs (vs z))] =
  vgo W ⟨h71, [.tmp 6, .tmp 7], 0⟩ ks (VFr.of [(0, .x (.int .i64 q)), (1, .fz b (.sl nl 0 1 (ivs (vs (P.map Prod.fst))))), (2, .fz b' (.sl nl' 0 1 (ivs (vs (P.map Prod.snd))))), (8, .fz true (pF q)), (12, .own 0 []), (13, .own 1 []), (14, .x (.int .i64 i)), (15, .x (.int .i64 x)), (21, .own 2 []), (41, .fz b (.sl nl 0 1 (ivs (vs (P.map Prod.fst))))), (42, .x (.int .i64 L)), (43, .x (.int .i64 i))]) [T0, T1, .sl 0 3 1 (ivs (vs (scT c n k z)))]
 | 0, k, z, hk, hz, ks => by
   rw [scT, sb5 c71L0.eq_def]
   simp (disch := first | omega | fail) only [push_cast, seval, ui5, lu7, y81, bj9, wrap64, dec_lt, cw6, nl3, qc6, mr8, nb8, if_pos, if_neg]
 | n + 1, k, z, hk, hz, ks => by
   have ih := ga0 (c := c) (T0 := T0) (T1 := T1) (i := i) (L := L) (x := x) n (k + 1) (z.set k (wf z k * c)) (by rw [List.length_set]; omega) (by rw [List.length_set]; omega) ks
   have h1 := iva (l := z) (i := k) (by omega)
   rw [Int.natCast_add, Int.natCast_one, ← g52, ym6, List.length_set] at ih
   rw [scT, ← ih, sb5 c71L0.eq_def]
   simp (disch := first | omega | fail) only [push_cast, seval, ui5, lu7, y81, bj9, wrap64, dec_lt, cw6, nl3, qc6, mr8, nb8, if_pos, if_neg, h1]
theorem yz4 {nf : Nat} {out : List (El q)} {T : Tree} (ks) : 
 vgoL W ⟨h71, [.tmp 6, .tmp 7], 0⟩ [0, 1, 2, 8, 12, 13, 41, 42, 43] c71L1 (.blk 0 [12] :: ks) [(0, .x (.int .i64 q)), (1, .fz b (.sl nl 0 1 (ivs (vs (P.map Prod.fst))))), (2, .fz b' (.sl nl' 0 1 (ivs (vs (P.map Prod.snd))))), (8, .fz true (pF q)), (12, .own 0 []), (13, .own 1 []), (41, .fz b (.sl nl 0 1 (ivs (vs (P.map Prod.fst))))), (42, .x (.int .i64 P.length)), (43, .x (.int .i64 P.length))] [.sl nf 3 1 (ivs (vs out)), T] =
  vgo W ⟨h71, [.tmp 6, .tmp 7], 0⟩ ks (VFr.of [(12, .own 0 [])]) [.sl nf 3 1 (ivs (vs out)), T] := by
 rw [sb5 c71L1.eq_def]
 simp (disch := first | omega | fail) only [push_cast, seval, ui5, lu7, y81, bj9, wrap64, dec_lt, cw6, nl3, qc6, mr8, nb8, if_pos, if_neg]
theorem za0 (hP : P.length ≤ 64) (hn : (P.map Prod.fst).Nodup) : ∀ (R A : List (El q × El q)) (p : El q × El q) (out all : List (El q)), A ++ p :: R = P → ThrI A (p :: R) out all → ∃ out', Trm out' ∧ out'.length ≤ P.length ∧ (∀ p ∈ P, ev out' p.1 = p.2) ∧ ∀ (b : Bool) (nl : Nat) (b' : Bool) (nl' nf na : Nat), ∃ n1 T, ∀ ks,
 vgoL W ⟨h71, [.tmp 6, .tmp 7], 0⟩ [0, 1, 2, 8, 12, 13, 41, 42, 43] c71L1 (.blk 0 [12] :: ks) [(0, .x (.int .i64 q)), (1, .fz b (.sl nl 0 1 (ivs (vs (P.map Prod.fst))))), (2, .fz b' (.sl nl' 0 1 (ivs (vs (P.map Prod.snd))))), (8, .fz true (pF q)), (12, .own 0 []), (13, .own 1 []), (41, .fz b (.sl nl 0 1 (ivs (vs (P.map Prod.fst))))), (42, .x (.int .i64 P.length)), (43, .x (.int .i64 A.length))] [.sl nf 3 1 (ivs (vs out)), .sl na 3 1 (ivs (vs all))] =
  vgo W ⟨h71, [.tmp 6, .tmp 7], 0⟩ ks (VFr.of [(12, .own 0 [])]) [.sl n1 3 1 (ivs (vs out')), T] := by
 intro R
 induction R with
 | nil =>
   intro A p out all hA h
   obtain ⟨o1, o2, o3⟩ := h.out
   have hAl : A.length + 1 = P.length := by rw [← hA]; simp
   have hla := h.la
   have hlo := h.lo
   have hane := h.ne
   have hnz := h.nz p (by simp)
   refine ⟨_, o1, by omega, by rw [← hA]; exact o3, fun b nl b' nl' nf na => ?_⟩
   have hp : P[A.length]? = some p := by rw [← hA]; simp
   have h1 := iat (show (vs (P.map Prod.fst))[A.length]? = some p.1.v by unfold vs; rw [List.getElem?_map, List.getElem?_map, hp]; rfl)
   have h2 := iat (show (vs (P.map Prod.snd))[A.length]? = some p.2.v by unfold vs; rw [List.getElem?_map, List.getElem?_map, hp]; rfl)
   have e1 := fun b nl => yu6 (b := b) (nl := nl) (a := all) (x := p.1) (by omega)
   have e2 := fun b nl => yu6 (b := b) (nl := nl) (a := out) (x := p.1) (by omega)
   have hat : ¬ (ev all p.1).v = 0 := fun e => hnz (El.ext' e)
   have hinv := rl7 hnz
   have e3 := fun b nl => h19 (b := b) (nl := nl) (zs := vs all) (by rw [fi2]; omega)
   simp only [ks8, ef8 hane] at e3
   obtain ⟨c, hc⟩ : ∃ c, (p.2 - ev out p.1) * FK.inv (ev all p.1) = c := ⟨_, rfl⟩
   have hcv : fmul q (fsub q p.2.v (ev out p.1).v) (finv q (ev all p.1).v) = c.v := by rw [← hc, ← hinv]; rfl
   rw [hc]
   have e4 := fun b nl b' nl' T0 T1 i L x ks => ga0 (b := b) (nl := nl) (b' := b') (nl' := nl') (P := P) (c := c) (T0 := T0) (T1 := T1) (i := i) (L := L) (x := x) all.length 0 all (by omega) (by omega) ks
   rw [ou4] at e4
   simp only [Int.natCast_zero] at e4
   have e5 := fun b nl b' nl' => wa2 (b := b) (nl := nl) (b' := b') (nl' := nl') (a := out) (c := all.map fun x => x * c) (by omega) (by rw [List.length_map]; omega)
   have e6 := fun b nl b' nl' nf T ks => yz4 (b := b) (nl := nl) (b' := b') (nl' := nl') (P := P) (nf := nf) (out := addK out (all.map fun x => x * c)) (T := T) ks
   rw [← hAl, Int.natCast_add, Int.natCast_one] at e6
   refine ⟨nlT (addK out (all.map fun x => x * c)), .sl na 3 1 (ivs (vs all)), fun ks => ?_⟩
   rw [← e6 b nl b' nl' (nlT (addK out (all.map fun x => x * c))) (.sl na 3 1 (ivs (vs all))) ks, sb5 c71L1.eq_def, ← hAl, Int.natCast_add, Int.natCast_one]
   simp (disch := first | omega | fail) only [push_cast, seval, ui5, lu7, y81, bj9, wrap64, dec_lt, cw6, nl3, qc6, mr8, nb8, if_pos, if_neg, h1, h2, e1, e2, nb8 hat, hcv, e3, List.length_map, hAl]
   rw [e4]
   simp (disch := first | omega | fail) only [push_cast, seval, ui5, lu7, y81, bj9, wrap64, dec_lt, cw6, nl3, qc6, mr8, nb8, if_pos, if_neg, e5, List.length_map, hAl]
 | cons p2 R ih =>
   intro A p out all hA h
   have hne : ∀ r ∈ p2 :: R, r.1 ≠ p.1 := fun r hr e => by
    rw [← hA, List.map_append, List.map_cons] at hn
    have h1 := (List.nodup_cons.1 (List.nodup_append.1 hn).2.1).1
    exact h1 (List.mem_map.2 ⟨r, hr, e⟩)
   have hs := h.step hne
   have hAl : A.length + 2 ≤ P.length := by rw [← hA, List.length_append, List.length_cons, List.length_cons]; omega
   have hla := h.la
   have hlo := h.lo
   have hane := h.ne
   have hnz := h.nz p (by simp)
   have hp : P[A.length]? = some p := by rw [← hA]; simp
   have h1 := iat (show (vs (P.map Prod.fst))[A.length]? = some p.1.v by unfold vs; rw [List.getElem?_map, List.getElem?_map, hp]; rfl)
   have h2 := iat (show (vs (P.map Prod.snd))[A.length]? = some p.2.v by unfold vs; rw [List.getElem?_map, List.getElem?_map, hp]; rfl)
   have e1 := fun b nl => yu6 (b := b) (nl := nl) (a := all) (x := p.1) (by omega)
   have e2 := fun b nl => yu6 (b := b) (nl := nl) (a := out) (x := p.1) (by omega)
   have hat : ¬ (ev all p.1).v = 0 := fun e => hnz (El.ext' e)
   have hinv := rl7 hnz
   have e3 := fun b nl => h19 (b := b) (nl := nl) (zs := vs all) (by rw [fi2]; omega)
   simp only [ks8, ef8 hane] at e3
   obtain ⟨c, hc⟩ : ∃ c, (p.2 - ev out p.1) * FK.inv (ev all p.1) = c := ⟨_, rfl⟩
   have hcv : fmul q (fsub q p.2.v (ev out p.1).v) (finv q (ev all p.1).v) = c.v := by rw [← hc, ← hinv]; rfl
   rw [hc] at hs
   obtain ⟨out', o1, o2, o3, o4⟩ := ih (A ++ [p]) p2 _ _ (by rw [List.append_assoc]; exact hA) hs
   refine ⟨out', o1, o2, o3, fun b nl b' nl' nf na => ?_⟩
   have e4 := fun b nl b' nl' T0 T1 i L x ks => ga0 (b := b) (nl := nl) (b' := b') (nl' := nl') (P := P) (c := c) (T0 := T0) (T1 := T1) (i := i) (L := L) (x := x) all.length 0 all (by omega) (by omega) ks
   rw [ou4] at e4
   simp only [Int.natCast_zero] at e4
   have e5 := fun b nl b' nl' => wa2 (b := b) (nl := nl) (b' := b') (nl' := nl') (a := out) (c := all.map fun x => x * c) (by omega) (by rw [List.length_map]; omega)
   obtain ⟨F, e6⟩ := sk4 fun b nl b' nl' => td8 (b := b) (nl := nl) (b' := b') (nl' := nl') (a := all) (c := [-p.1, 1]) (by omega) (by simp)
   rw [show ivs (vs [-p.1, 1]) = [Tree.v (.int .i64 (fneg q p.1.v)), Tree.v (.int .i64 1)] from rfl] at e6
   obtain ⟨n1, T, hfin⟩ := o4 b nl b' nl' (nlT (addK out (all.map fun x => x * c))) (F false na false 0)
   refine ⟨n1, T, fun ks => ?_⟩
   have ih2 := hfin ks
   have hlt : (A.length : Int) + 1 < (P.length : Int) := by omega
   rw [List.length_append, List.length_singleton, Int.natCast_add, Int.natCast_one] at ih2
   rw [← ih2, sb5 c71L1.eq_def]
   simp (disch := first | omega | fail) only [push_cast, seval, ui5, lu7, y81, bj9, wrap64, dec_lt, cw6, nl3, qc6, mr8, nb8, if_pos, if_neg, h1, h2, e1, e2, nb8 hat, hcv, e3, List.length_map]
   rw [e4]
   simp (disch := first | omega | fail) only [push_cast, seval, ui5, lu7, y81, bj9, wrap64, dec_lt, cw6, nl3, qc6, mr8, nb8, if_pos, if_neg, e5, List.length_map, dec_lt hlt, e6]
theorem jx5 (hP0 : P ≠ []) (hP : P.length ≤ 64) (hn : (P.map Prod.fst).Nodup) : ∃ out : List (El q), Trm out ∧ out.length ≤ P.length ∧ (∀ p ∈ P, ev out p.1 = p.2) ∧ ∀ (b : Bool) (nl : Nat) (b' : Bool) (nl' : Nat), ∃ n,
 o24 W 71 [.x (.int .i64 q), .fz b (.sl nl 0 1 (ivs (vs (P.map Prod.fst)))), .fz b' (.sl nl' 0 1 (ivs (vs (P.map Prod.snd))))] [] = some (.tup [.own 0 [], .x (.int .i64 0)], [.sl n 3 1 (ivs (vs out))], []) := by
 cases hPc : P with
 | nil => exact absurd hPc hP0
 | cons p R =>
   obtain ⟨out, o1, o2, o3, o4⟩ := za0 hP hn R [] p [] [1] hPc.symm (ThrI.start _)
   rw [← hPc]
   refine ⟨out, o1, o2, o3, fun b nl b' nl' => ?_⟩
   obtain ⟨n1, T, e2⟩ := o4 b nl b' nl' 1 0
   rw [show ivs (vs [(1 : El q)]) = [Tree.v (.int .i64 1)] from rfl] at e2
   simp only [rp2, lz6, List.length_nil, Int.natCast_zero] at e2
   have e1 := fun b nl b' nl' => ce8 (b := b) (nl := nl) (b' := b') (nl' := nl') (a := P.map Prod.fst) (c := P.map Prod.snd) (by rw [List.length_map]; omega) (by rw [List.length_map]; omega)
   refine ⟨n1, ?_⟩
   rw [o10 rfl T71 rfl]
   unfold F71 c71
   simp (disch := first | omega | fail) only [push_cast, seval, ui5, lu7, y81, bj9, wrap64, dec_lt, cw6, nl3, qc6, mr8, nb8, if_pos, if_neg, e1, List.length_map]
   rw [e2]
   simp (disch := first | omega | fail) only [push_cast, seval, ui5, lu7, y81, bj9, wrap64, dec_lt, cw6, nl3, qc6, mr8, nb8, if_pos, if_neg]
end
end Go.Proofs.Ytghfdpdiibiigaa
namespace Go.Proofs.Ytghfdpdiibiigaa
open Go.Am Go.Vm Go.Alg
section
variable {K : Type} [FK K]
def hiT : List K → List (K × K) → List K
 | h, [] => h
 | h, p :: P => hiT (mulK h [-p.1, 1]) P
theorem gd4 : ∀ (P : List (K × K)) (h : List K), Trm h → h ≠ [] → Trm (hiT h P) ∧ (hiT h P).length = h.length + P.length ∧ (∀ y, ev h y = 0 → ev (hiT h P) y = 0) ∧ ∀ p ∈ P, ev (hiT h P) p.1 = 0
 | [], h, h1, h2 => ⟨h1, rfl, fun y e => e, fun p hp => by cases hp⟩
 | p :: P, h, h1, h2 => by
   have hl := lk3 h1 (mo3 p.1) h2 (by simp)
   have h0 : 0 < h.length := List.length_pos_iff.2 h2
   simp only [List.length_cons, List.length_nil] at hl
   obtain ⟨a1, a2, a3, a4⟩ := gd4 P (mulK h [-p.1, 1]) (ho6 _ _) (fun e => by rw [e] at hl; simp only [List.length_nil] at hl; omega)
   rw [hiT]
   refine ⟨a1, by rw [a2, hl, List.length_cons]; omega, fun y e => a3 y (by rw [jo3, e, zero_mul]), fun r hr => ?_⟩
   rcases List.mem_cons.1 hr with rfl | hr
   ·exact a3 _ (by rw [jo3, tt9, sub_eq, FK.add_neg, mul_zero])
   ·exact a4 r hr
end
section
variable {q : Int} [IsFld q] {b b' : Bool} {nl nl' : Nat} {P : List (El q × El q)} {k : Nat}
theorem c05 (hP : P.length ≤ 64) (hk : k ≤ 64) {n1 : Nat} {T : Tree} : ∀ (n i : Nat) (h : List (El q)) (nh : Nat), i + n = P.length → h.length ≤ i + 1 → ∃ nh', ∀ ks,
 vgoL W ⟨h43, [.tmp 8, .tmp 9, .tmp 10, .tmp 11], 0⟩ [0, 2, 13, 14, 15, 17, 58, 59, 60] c43L0 (.blk 0 [0, 2, 13, 14, 15, 17] :: ks) [(0, .x (.int .i64 q)), (2, .x (.int .i64 k)), (13, .own 0 []), (14, .own 1 []), (15, .fz true (pF q)), (17, .own 2 []), (58, .own 0 []), (59, .x (.int .i64 P.length)), (60, .x (.int .i64 i))] [.sl n1 3 1 (ivs (vs (P.map Prod.fst))), T, .sl nh 3 1 (ivs (vs h))] =
  vgo W ⟨h43, [.tmp 8, .tmp 9, .tmp 10, .tmp 11], 0⟩ ks (VFr.of [(0, .x (.int .i64 q)), (2, .x (.int .i64 k)), (13, .own 0 []), (14, .own 1 []), (15, .fz true (pF q)), (17, .own 2 [])]) [.sl n1 3 1 (ivs (vs (P.map Prod.fst))), T, .sl nh' 3 1 (ivs (vs (hiT h (P.drop i))))]
 | 0, i, h, nh, hi, hl => by
   refine ⟨nh, fun ks => ?_⟩
   rw [oh9 (by omega), hiT, sb5 c43L0.eq_def]
   simp (disch := first | omega | fail) only [push_cast, seval, ui5, lu7, y81, bj9, wrap64, dec_lt, cw6, nl3, qc6, mr8, nb8, if_pos, if_neg, List.length_map]
 | n + 1, i, h, nh, hi, hl => by
   obtain ⟨p, hp⟩ := ge6 (l := P) (i := i) (by omega)
   have h1 := iat (show (vs (P.map Prod.fst))[i]? = some p.1.v by unfold vs; rw [List.getElem?_map, List.getElem?_map, hp]; rfl)
   have hml := bx4 h [-p.1, 1]
   simp only [List.length_cons, List.length_nil] at hml
   have htl := tb1 h
   have htl2 := tb1 [-p.1, 1]
   simp only [List.length_cons, List.length_nil] at htl2
   obtain ⟨F, e1⟩ := sk4 fun b nl b' nl' => h84 (b := b) (nl := nl) (b' := b') (nl' := nl') (a := h) (c := [-p.1, 1]) (by omega) (by simp) fun e => by have := e.2.2; omega
   rw [show ivs (vs [-p.1, 1]) = [Tree.v (.int .i64 (fneg q p.1.v)), Tree.v (.int .i64 1)] from rfl] at e1
   obtain ⟨nh', e2⟩ := c05 hP hk (n1 := n1) (T := T) n (i + 1) (mulK h [-p.1, 1]) (F false nh false 0) (by omega) (by omega)
   refine ⟨nh', fun ks => ?_⟩
   have ih := e2 ks
   have hlt : i < P.length := by omega
   rw [Int.natCast_add, Int.natCast_one] at ih
   rw [i62 hp, hiT, ← ih, sb5 c43L0.eq_def]
   simp (disch := first | omega | fail) only [push_cast, seval, ui5, lu7, y81, bj9, wrap64, dec_lt, cw6, nl3, qc6, mr8, nb8, if_pos, if_neg, h1, e1, List.length_map]
theorem ly5 {T0 T1 T2 T3 T4 T5 : Tree} {nz : Nat} : ∀ (n i : Nat) (z : List (El q)), i + n = z.length → z.length ≤ 1000 → ∀ ks,
 vgoL W ⟨h43, [.tmp 8, .tmp 9, .tmp 10, .tmp 11], 0⟩ [0, 2, 13, 14, 15, 20, 22, 23, 25, 27, 108, 109] c43L1 (.blk 4 [0, 2, 13, 14, 15, 20, 22, 23, 25, 27] :: ks) [(0, .x (.int .i64 q)), (2, .x (.int .i64 k)), (13, .own 0 []), (14, .own 1 []), (15, .fz true (pF q)), (20, .own 2 []), (22, .own 3 []), (23, .own 4 []), (25, .own 5 []), (27, .own 6 []), (108, .x (.int .i64 z.length)), (109, .x (.int .i64 i))] [T0, T1, T2, T3, T4, T5, .sl nz 3 1 (ivs (vs z))] =
  vgo W ⟨h43, [.tmp 8, .tmp 9, .tmp 10, .tmp 11], 0⟩ ks (VFr.of [(0, .x (.int .i64 q)), (2, .x (.int .i64 k)), (13, .own 0 []), (14, .own 1 []), (15, .fz true (pF q)), (20, .own 2 []), (22, .own 3 []), (23, .own 4 []), (25, .own 5 []), (27, .own 6 [])]) [T0, T1, T2, T3, T4, T5, .sl nz 3 1 (ivs (vs (negT n i z)))]
 | 0, i, z, hk, hz, ks => by
   rw [negT, sb5 c43L1.eq_def]
   simp (disch := first | omega | fail) only [push_cast, seval, ui5, lu7, y81, bj9, wrap64, dec_lt, cw6, nl3, qc6, mr8, nb8, if_pos, if_neg]
 | n + 1, i, z, hk, hz, ks => by
   have ih := ly5 (T0 := T0) (T1 := T1) (T2 := T2) (T3 := T3) (T4 := T4) (T5 := T5) (nz := nz) n (i + 1) (z.set i (-wf z i)) (by rw [List.length_set]; omega) (by rw [List.length_set]; omega) ks
   have h1 := iva (l := z) (i := i) (by omega)
   rw [Int.natCast_add, Int.natCast_one, ← g52, tg5, List.length_set] at ih
   rw [negT, ← ih, sb5 c43L1.eq_def]
   simp (disch := first | omega | fail) only [push_cast, seval, ui5, lu7, y81, bj9, wrap64, dec_lt, cw6, nl3, qc6, mr8, nb8, if_pos, if_neg, h1]
theorem mh7 (hP : P.length ≤ 64) (hk : k ≤ P.length) (hk0 : 0 < k) {nx : Nat} {Ty : Tree} : ∀ (d : Nat) (high low u v : List (El q)), low.length ≤ d → EuI P k high low u v → ∃ high' low' u' v', EuI P k high' low' u' v' ∧ ¬ P.length + k + 2 ≤ 2 * low'.length ∧ ∀ a1 a2 a3 a4 : Nat, ∃ b1 b2 b3 b4 : Nat, ∀ ks,
 vgoL W ⟨h43, [.tmp 8, .tmp 9, .tmp 10, .tmp 11], 0⟩ [0, 2, 13, 14, 15, 17, 20, 22, 23] c43L2 (.blk 2 [0, 2, 13, 14, 20, 23] :: ks) [(0, .x (.int .i64 q)), (2, .x (.int .i64 k)), (13, .own 0 []), (14, .own 1 []), (15, .fz true (pF q)), (17, .own 2 []), (20, .own 3 []), (22, .own 4 []), (23, .own 5 [])] [.sl nx 3 1 (ivs (vs (P.map Prod.fst))), Ty, .sl a1 3 1 (ivs (vs high)), .sl a2 3 1 (ivs (vs low)), .sl a3 3 1 (ivs (vs u)), .sl a4 3 1 (ivs (vs v))] =
  vgo W ⟨h43, [.tmp 8, .tmp 9, .tmp 10, .tmp 11], 0⟩ ks (VFr.of [(0, .x (.int .i64 q)), (2, .x (.int .i64 k)), (13, .own 0 []), (14, .own 1 []), (20, .own 3 []), (23, .own 5 [])]) [.sl nx 3 1 (ivs (vs (P.map Prod.fst))), Ty, .sl b1 3 1 (ivs (vs high')), .sl b2 3 1 (ivs (vs low')), .sl b3 3 1 (ivs (vs u')), .sl b4 3 1 (ivs (vs v'))] := by
 intro d
 induction d with
 | zero =>
   intro high low u v hd h
   have hl0 : low.length = 0 := by omega
   refine ⟨high, low, u, v, h, by omega, fun a1 a2 a3 a4 => ⟨a1, a2, a3, a4, fun ks => ?_⟩⟩
   have w1 : IntKind.wrap .i64 ((low.length : Int) - 1) = (low.length : Int) - 1 := wrap64 (by omega) (by omega)
   have w2 : IntKind.wrap .i64 (2 * ((low.length : Int) - 1)) = 2 * ((low.length : Int) - 1) := wrap64 (by omega) (by omega)
   have w3 : IntKind.wrap .i64 ((P.length : Int) + (k : Int)) = (P.length : Int) + (k : Int) := wrap64 (by omega) (by omega)
   have hno : 2 * ((low.length : Int) - 1) < (P.length : Int) + (k : Int) := by omega
   rw [sb5 c43L2.eq_def]
   simp (disch := first | omega | fail) only [push_cast, seval, ui5, lu7, y81, bj9, wrap64, dec_lt, cw6, nl3, qc6, mr8, nb8, if_pos, if_neg, List.length_map, w1, w2, w3, qc6 hno]
 | succ d ih =>
   intro high low u v hd h
   have hsum := h.sum
   have hlt := h.lt
   have hut := h.ut
   have hbig := h.big
   have w1 : IntKind.wrap .i64 ((low.length : Int) - 1) = (low.length : Int) - 1 := wrap64 (by omega) (by omega)
   have w2 : IntKind.wrap .i64 (2 * ((low.length : Int) - 1)) = 2 * ((low.length : Int) - 1) := wrap64 (by omega) (by omega)
   have w3 : IntKind.wrap .i64 ((P.length : Int) + (k : Int)) = (P.length : Int) + (k : Int) := wrap64 (by omega) (by omega)
   by_cases hc : P.length + k + 2 ≤ 2 * low.length
   ·obtain ⟨q1, q2, q3, q4, q5, q6⟩ := h.quo hc
    have hs := h.step hc
    have hyes : (P.length : Int) + (k : Int) ≤ 2 * ((low.length : Int) - 1) := by omega
    have hlow : xa4 low ≠ [] := by
     rw [ou7 h.tl]
     rintro rfl
     simp at hc
    obtain ⟨F1, e1⟩ := sk4 fun b nl b' nl' => pl2 (b := b) (nl := nl) (b' := b') (nl' := nl') (a := high) (c := low) (by omega) (by omega) hlow
    rw [ou7 h.th, ou7 h.tl] at e1
    obtain ⟨Q, hQ⟩ : ∃ Q, quoP high low = Q := ⟨_, rfl⟩
    obtain ⟨R, hR⟩ : ∃ R, remP high low = R := ⟨_, rfl⟩
    rw [hQ, hR] at e1
    rw [hQ] at q1 q2 q3 q6
    rw [hR] at q4 q5
    rw [hQ, hR] at hs
    have t1 := tb1 Q
    have t2 := tb1 v
    obtain ⟨F2, e2⟩ := sk4 fun b nl b' nl' => h84 (b := b) (nl := nl) (b' := b') (nl' := nl') (a := Q) (c := v) (by omega) (by omega) fun e => by have := e.2.2; omega
    obtain ⟨Z, hZ⟩ : ∃ Z, mulK Q v = Z := ⟨_, rfl⟩
    rw [hZ] at e2 q6 hs
    have e3 := fun T0 T1 T2 T3 T4 T5 nz ks => ly5 (q := q) (k := k) (T0 := T0) (T1 := T1) (T2 := T2) (T3 := T3) (T4 := T4) (T5 := T5) (nz := nz) Z.length 0 Z (by omega) (by omega) ks
    rw [um4] at e3
    simp only [Int.natCast_zero] at e3
    have e4 := fun b nl b' nl' => wa2 (b := b) (nl := nl) (b' := b') (nl' := nl') (a := u) (c := Z.map fun x => -x) (by omega) (by rw [List.length_map]; omega)
    obtain ⟨high', low', u', v', f1, f2, f3⟩ := ih low R v _ (by omega) hs
    refine ⟨high', low', u', v', f1, f2, fun a1 a2 a3 a4 => ?_⟩
    obtain ⟨b1, b2, b3, b4, f4⟩ := f3 a2 (nlT R) a4 (nlT (addK u (Z.map fun x => -x)))
    refine ⟨b1, b2, b3, b4, fun ks => ?_⟩
    rw [← f4 ks, sb5 c43L2.eq_def]
    simp (disch := first | omega | fail) only [push_cast, seval, ui5, lu7, y81, bj9, wrap64, dec_lt, cw6, nl3, qc6, mr8, nb8, if_pos, if_neg, List.length_map, w1, w2, w3, nl3 hyes, e1, e2]
    rw [e3]
    simp (disch := first | omega | fail) only [push_cast, seval, ui5, lu7, y81, bj9, wrap64, dec_lt, cw6, nl3, qc6, mr8, nb8, if_pos, if_neg, List.length_map, e4]
   ·refine ⟨high, low, u, v, h, hc, fun a1 a2 a3 a4 => ⟨a1, a2, a3, a4, fun ks => ?_⟩⟩
    have hno : 2 * ((low.length : Int) - 1) < (P.length : Int) + (k : Int) := by omega
    rw [sb5 c43L2.eq_def]
    simp (disch := first | omega | fail) only [push_cast, seval, ui5, lu7, y81, bj9, wrap64, dec_lt, cw6, nl3, qc6, mr8, nb8, if_pos, if_neg, List.length_map, w1, w2, w3, qc6 hno]
theorem bx5 {X : List (El q)} {U : List (Option (El q))} {k : Nat} (hn : X.Nodup) (hX1 : 1 ≤ X.length) (hX : X.length ≤ 64) (hU : U.length = X.length) (k1 : 1 ≤ k) (k2 : k ≤ X.length) :
 o24 W 43 [.x (.int .i64 q), .fz b (.sl nl 0 1 (ivs (vs X))), .x (.int .i64 k), .fz b' (.sl nl' 0 1 (ivs (ws U)))] [] = yg9 (kh0 X U) (recK (kh0 X U) k) := by
 have e1 := fun b nl b' nl' => hd9 (q := q) (b := b) (nl := nl) (b' := b') (nl' := nl') (xs := vs X) (w := ws U) (k := k) (by rw [fi2]; omega) (by rw [u67]; omega)
 simp only [y91 hn hX1 hX hU k1 k2] at e1
 have e2 := fun b nl b' nl' => jl7 (b := b) (nl := nl) (b' := b') (nl' := nl') hU (by omega)
 have hPl := ah8 X U
 have hPn := yx3 (U := U) hn
 generalize kh0 X U = P at *
 by_cases hlt : P.length < k
 ·rw [vp7 hlt]
  rw [o10 rfl T43 rfl]
  unfold F43 c43
  unfold yg9
  simp (disch := first | omega | fail) only [push_cast, seval, ui5, lu7, y81, bj9, wrap64, dec_lt, cw6, nl3, qc6, mr8, nb8, if_pos, if_neg, e1, e2, List.length_map, hlt]
 ·have hlt' : ¬ (P.length : Int) < (k : Int) := by omega
  have hP0 : P ≠ [] := by rintro rfl; simp at hlt; omega
  obtain ⟨h1, h2, h3, h4⟩ := gd4 P [(1 : El q)] (py3 ki8) (by simp)
  simp only [List.length_singleton] at h2
  have e3 := fun n1 T => c05 (k := k) (P := P) (by omega) (by omega) (n1 := n1) (T := T) P.length 0 [1] 0 (by omega) (by simp)
  rw [List.drop_zero, show ivs (vs [(1 : El q)]) = [Tree.v (.int .i64 1)] from rfl] at e3
  simp only [Int.natCast_zero] at e3
  obtain ⟨low, o1, o2, o3, o4⟩ := jx5 (q := q) hP0 (by omega) hPn
  obtain ⟨F1, e4⟩ := sk4 o4
  obtain ⟨high', low', u', v', f1, f2, f3⟩ := mh7 (P := P) (k := k) (by omega) (by omega) (by omega) (nx := 1) (Ty := .sl 1 3 1 (ivs (vs (P.map Prod.snd)))) low.length (hiT [1] P) low [] [1] (Nat.le_refl _) (EuI.start (by omega) h1 (by omega) h4 o1 o2 o3)
  obtain ⟨nh, e3'⟩ := e3 1 (.sl 1 3 1 (ivs (vs (P.map Prod.snd))))
  obtain ⟨b1, b2, b3, b4, e5⟩ := f3 nh (F1 false 1 false 1) 1 0
  rw [show ivs (vs [(1 : El q)]) = [Tree.v (.int .i64 1)] from rfl] at e5
  simp only [rp2, lz6] at e5
  have hE0 : wf v' ≠ fun _ => 0 := fun e => f1.nv (by rw [← ou7 f1.tv]; exact vy9 e)
  have hsum := f1.sum
  have hlw := f1.lt
  have hbig := f1.big
  obtain ⟨F2, e6⟩ := sk4 fun b nl b' nl' => pl2 (b := b) (nl := nl) (b' := b') (nl' := nl') (a := low') (c := v') (by omega) (by omega) fun e => hE0 (rj1.1 e)
  rw [wt4 hPn (f1.done f2) hE0]
  rw [o10 rfl T43 rfl]
  unfold F43 c43
  simp (disch := first | omega | fail) only [push_cast, seval, ui5, lu7, y81, bj9, wrap64, dec_lt, cw6, nl3, qc6, mr8, nb8, if_pos, if_neg, e1, e2, List.length_map, cw6 (Int.not_lt.1 hlt')]
  rw [e3']
  simp (disch := first | omega | fail) only [push_cast, seval, ui5, lu7, y81, bj9, wrap64, dec_lt, cw6, nl3, qc6, mr8, nb8, if_pos, if_neg, e4]
  rw [e5]
  generalize quoP (xa4 low') (xa4 v') = Q at *
  generalize remP (xa4 low') (xa4 v') = R at *
  by_cases h1 : R = [] ∧ Q.length ≤ k
  ·have hR : R.length = 0 := by rw [h1.1]; rfl
   have hQ := h1.2
   have e7 := fun b nl b' nl' b2 nl2 => up6 (b := b) (nl := nl) (b' := b') (nl' := nl') (b2 := b2) (nl2 := nl2) (P := P) (a := Q) (k := k) hQ (by omega) (by omega)
   by_cases h2 : 2 * offK Q P + k ≤ P.length
   ·rw [if_pos ⟨h1, h2⟩]
    simp only [if_pos h2] at e7
    have h3 : offK (qi3 Q k) P = offK Q P := tx3 (yq4 fun j hj => ez8 (by omega)) P
    unfold yg9
    simp (disch := first | omega | fail) only [push_cast, seval, ui5, lu7, y81, bj9, wrap64, dec_lt, cw6, nl3, qc6, mr8, nb8, if_pos, if_neg, e6, hR, hQ, e7, h3]
   ·rw [if_neg fun h => h2 h.2]
    simp only [if_neg h2] at e7
    unfold yg9
    simp (disch := first | omega | fail) only [push_cast, seval, ui5, lu7, y81, bj9, wrap64, dec_lt, cw6, nl3, qc6, mr8, nb8, if_pos, if_neg, e6, hR, hQ, e7]
  ·rw [if_neg fun h => h1 h.1]
   unfold yg9
   by_cases hR : R.length = 0
   ·have hQ : ¬ Q.length ≤ k := fun h => h1 ⟨List.eq_nil_of_length_eq_zero hR, h⟩
    have hQ' : (k : Int) < (Q.length : Int) := by omega
    simp (disch := first | omega | fail) only [push_cast, seval, ui5, lu7, y81, bj9, wrap64, dec_lt, cw6, nl3, qc6, mr8, nb8, if_pos, if_neg, e6, hR, dec_lt hQ']
   ·have hR' : (0 : Int) < (R.length : Int) := by omega
    simp (disch := first | omega | fail) only [push_cast, seval, ui5, lu7, y81, bj9, wrap64, dec_lt, cw6, nl3, qc6, mr8, nb8, if_pos, if_neg, e6, dec_lt hR']
end
end Go.Proofs.Ytghfdpdiibiigaa
namespace Go.Proofs.Ytghfdpdiibiigaa
open Go.Am Go.Vm Go.Alg
section
variable {b b' : Bool} {nl nl' nr nr' : Nat}
theorem ft0 {l k : List Int} (hl : l.length ≤ 9223372036854775807) (hk : k.length = l.length) : ∀ (d i : Nat), i + d = l.length → ∀ ks,
 vgoL W ⟨hNo, [.tmp 4], 0⟩ [0, 1, 5] c16L0 (.blk 0 [] :: ks) [(0, .fz b (.sl nl 0 1 (ivs l))), (1, .fz b' (.sl nl' 0 1 (ivs k))), (5, .x (.int .i64 i))] [] =
  if l.drop i = k.drop i then vgo W ⟨hNo, [.tmp 4], 0⟩ ks (VFr.of []) [] else some (.x (.bool false), [], [])
 | 0, i, hi, ks => by
   rw [oh9 (by omega), oh9 (by omega), if_pos rfl, sb5 c16L0.eq_def]
   simp (disch := first | omega | fail) only [push_cast, seval, ui5, lu7, y81, bj9, wrap64, dec_lt, cw6, nl3, qc6, mr8, nb8, if_pos, if_neg]
 | d + 1, i, hi, ks => by
   have ih := ft0 hl hk d (i + 1) (by omega) ks
   obtain ⟨a, ha⟩ := ge6 (l := l) (i := i) (by omega)
   obtain ⟨c, hc⟩ := ge6 (l := k) (i := i) (by omega)
   have h1 := iat ha
   have h2 := iat hc
   rw [i62 ha, i62 hc]
   rw [Int.natCast_add, Int.natCast_one] at ih
   by_cases h : a = c
   ·have hiff : (a :: l.drop (i + 1) = c :: k.drop (i + 1)) = (l.drop (i + 1) = k.drop (i + 1)) := by rw [h]; simp
    simp only [hiff]
    rw [← ih, sb5 c16L0.eq_def]
    simp (disch := first | omega | fail) only [push_cast, seval, ui5, lu7, y81, bj9, wrap64, dec_lt, cw6, nl3, qc6, mr8, nb8, if_pos, if_neg, h1, h2, h]
   ·rw [if_neg (by intro e; exact h (List.cons.inj e).1), sb5 c16L0.eq_def]
    simp (disch := first | omega | fail) only [push_cast, seval, ui5, lu7, y81, bj9, wrap64, dec_lt, cw6, nl3, qc6, mr8, nb8, if_pos, if_neg, h1, h2, nb8 h]
theorem nb2 {l k : List Int} (hl : l.length ≤ 9223372036854775807) : o24 W 16 [.fz b (.sl nl 0 1 (ivs l)), .fz b' (.sl nl' 0 1 (ivs k))] [] = some (.x (.bool (decide (l = k))), [], []) := by
 by_cases hk : k.length = l.length
 ·have e := fun ks => ft0 (b := b) (b' := b') (nl := nl) (nl' := nl') hl hk l.length 0 (by omega) ks
  simp only [Int.natCast_zero, List.take_zero, List.drop_zero, rp2, lz6, x25, List.map_nil, List.length_nil] at e
  rw [o10 rfl T16 rfl]
  unfold F16 c16
  simp (disch := first | omega | fail) only [push_cast, seval, ui5, lu7, y81, bj9, wrap64, dec_lt, cw6, nl3, qc6, mr8, nb8, if_pos, if_neg, hk]
  rw [e]
  by_cases h : l = k
  ·rw [if_pos h, decide_eq_true h]
   simp (disch := first | omega | fail) only [push_cast, seval, ui5, lu7, y81, bj9, wrap64, dec_lt, cw6, nl3, qc6, mr8, nb8, if_pos, if_neg]
  ·rw [if_neg h, decide_eq_false h]
 ·have h : ¬ l = k := fun e => hk (by rw [e])
  have h8 : ¬ (l.length : Int) = (k.length : Int) := by omega
  rw [decide_eq_false h, o10 rfl T16 rfl]
  unfold F16 c16
  simp (disch := first | omega | fail) only [push_cast, seval, ui5, lu7, y81, bj9, wrap64, dec_lt, cw6, nl3, qc6, mr8, nb8, if_pos, if_neg, nb8 h8]
section
variable {q : Int} [IsFld q]
end
end
end Go.Proofs.Ytghfdpdiibiigaa
namespace Go.Proofs.Ytghfdpdiibiigaa
open Go.Am Go.Vm Go.Alg
section
variable {q : Int}
def non : List (Option (El q)) → Nat
 | [] => 0
 | none :: U => non U + 1
 | some _ :: U => non U
def dif : List (El q) → List (Option (El q)) → Nat
 | x :: V, some y :: U => (if x = y then 0 else 1) + dif V U
 | x :: V, none :: U => dif V U
 | _, _ => 0
theorem no6 : ∀ (X : List (El q)) (U : List (Option (El q))), X.length = U.length → (kh0 X U).length + non U = X.length
 | [], [], _ => rfl
 | x :: X, none :: U, h => by
   have := no6 X U (by simpa using h)
   rw [kh0, non, List.length_cons]; omega
 | x :: X, some y :: U, h => by
   have := no6 X U (by simpa using h)
   rw [kh0, non, List.length_cons, List.length_cons]; omega
theorem ta0 [IsFld q] (m : List (El q)) : ∀ (X : List (El q)) (U : List (Option (El q))), X.length = U.length → offK m (kh0 X U) = dif (X.map fun x => ev m x) U
 | [], [], _ => rfl
 | x :: X, none :: U, h => by
   rw [kh0, ta0 m X U (by simpa using h)]; rfl
 | x :: X, some y :: U, h => by
   rw [kh0, di6, ta0 m X U (by simpa using h)]; rfl
theorem nj7 : ∀ (U : List (Option (El q))) (i : Nat) (x : El q), U[i]? = some (some x) → non (U.set i none) = non U + 1
 | o :: U, 0, x, h => by
   simp only [List.getElem?_cons_zero, Option.some.injEq] at h
   subst h; rfl
 | o :: U, i + 1, x, h => by
   have := nj7 U i x (by simpa using h)
   cases o <;> simp only [List.set_cons_succ, non, this]
theorem jh1 : ∀ (U : List (Option (El q))) (i : Nat) (x v : El q), U[i]? = some (some x) → non (U.set i (some v)) = non U
 | o :: U, 0, x, v, h => by
   simp only [List.getElem?_cons_zero, Option.some.injEq] at h
   subst h; rfl
 | o :: U, i + 1, x, v, h => by
   have := jh1 U i x v (by simpa using h)
   cases o <;> simp only [List.set_cons_succ, non, this]
theorem ey1 : ∀ (V : List (El q)) (U : List (Option (El q))) (i : Nat) (x : El q), U[i]? = some (some x) → V[i]? = some x → dif V (U.set i none) = dif V U
 | y :: V, o :: U, 0, x, h, g => by
   simp only [List.getElem?_cons_zero, Option.some.injEq] at h g
   subst h g
   show dif V U = (if y = y then 0 else 1) + dif V U
   rw [if_pos rfl, Nat.zero_add]
 | y :: V, o :: U, i + 1, x, h, g => by
   have := ey1 V U i x (by simpa using h) (by simpa using g)
   cases o <;> simp only [List.set_cons_succ, dif, this]
 | [], U, i, x, h, g => by simp at g
theorem wj1 : ∀ (V : List (El q)) (U : List (Option (El q))) (i : Nat) (x v : El q), U[i]? = some (some x) → V[i]? = some x → dif V (U.set i (some v)) = dif V U + if v = x then 0 else 1
 | y :: V, o :: U, 0, x, v, h, g => by
   simp only [List.getElem?_cons_zero, Option.some.injEq] at h g
   subst h g
   show (if y = v then 0 else 1) + dif V U = (if y = y then 0 else 1) + dif V U + if v = y then 0 else 1
   rw [if_pos rfl]
   by_cases e : y = v
   ·rw [if_pos e, if_pos e.symm]; omega
   ·rw [if_neg e, if_neg fun h => e h.symm]; omega
 | y :: V, o :: U, i + 1, x, v, h, g => by
   have := wj1 V U i x v (by simpa using h) (by simpa using g)
   cases o <;> simp only [List.set_cons_succ, dif, this] <;> omega
 | [], U, i, x, v, h, g => by simp at g
theorem bf0 (U : List (Option (El q))) (i : Nat) (o : Option (El q)) : ws (U.set i o) = (ws U).set i (oV o) := by unfold ws; rw [List.map_set]
theorem s61 (V : List (El q)) : ws (V.map some) = vs V := by unfold ws vs; rw [List.map_map]; rfl
theorem z50 : ∀ V : List (El q), dif V (V.map some) = 0
 | [] => rfl
 | x :: V => by rw [List.map_cons, dif, if_pos rfl, z50 V]
theorem oo8 : ∀ V : List (El q), non (V.map some) = 0
 | [] => rfl
 | x :: V => by rw [List.map_cons, non, oo8 V]
end
section
variable {q : Int} [IsFld q] {b : Bool} {nl : Nat} {raw : List Int}
theorem ly8 {V : List (El q)} (hV : V.length ≤ 100) {lost : Nat} (hlo : lost ≤ V.length) {k tu : Int} {T0 T1 : Tree} : ∀ (d i : Nat) (U : List (Option (El q))), i + d = lost → U.length = V.length → (∀ j, i ≤ j → U[j]? = (V[j]?).map some) → dif V U = 0 → non U = i → ∃ U' : List (Option (El q)), U'.length = V.length ∧ (∀ j, lost ≤ j → U'[j]? = (V[j]?).map some) ∧ dif V U' = 0 ∧ non U' = lost ∧ ∀ ks,
 vgoL W ⟨hNo, [.tmp 12], 0⟩ [0, 1, 3, 4, 5, 13, 14, 15, 17] c8L0 (.blk 0 [0, 1, 3, 4, 5, 13, 14, 15] :: ks) [(0, .fz b (.sl nl 0 1 (ivs raw))), (1, .x (.int .i64 q)), (3, .x (.int .i64 k)), (4, .x (.int .i64 lost)), (5, .x (.int .i64 tu)), (13, .own 0 []), (14, .own 1 []), (15, .own 2 []), (17, .x (.int .i64 i))] [T0, T1, .sl 0 3 1 (ivs (ws U))] =
  vgo W ⟨hNo, [.tmp 12], 0⟩ ks (VFr.of [(0, .fz b (.sl nl 0 1 (ivs raw))), (1, .x (.int .i64 q)), (3, .x (.int .i64 k)), (4, .x (.int .i64 lost)), (5, .x (.int .i64 tu)), (13, .own 0 []), (14, .own 1 []), (15, .own 2 [])]) [T0, T1, .sl 0 3 1 (ivs (ws U'))]
 | 0, i, U, hi, hU, hs, h1, h2 => by
   obtain rfl : i = lost := by omega
   refine ⟨U, hU, hs, h1, h2, fun ks => ?_⟩
   rw [sb5 c8L0.eq_def]
   simp (disch := first | omega | fail) only [push_cast, seval, ui5, lu7, y81, bj9, wrap64, dec_lt, cw6, nl3, qc6, mr8, nb8, if_pos, if_neg]
 | d + 1, i, U, hi, hU, hs, h1, h2 => by
   obtain ⟨x, hx⟩ := ge6 (l := V) (i := i) (by omega)
   have hUi : U[i]? = some (some x) := by rw [hs i (Nat.le_refl _), hx]; rfl
   obtain ⟨U', a1, a2, a3, a4, a5⟩ := ly8 hV hlo (k := k) (tu := tu) (T0 := T0) (T1 := T1) d (i + 1) (U.set i none) (by omega) (by rw [List.length_set, hU]) (fun j hj => by
    rw [List.getElem?_set_ne (by omega)]
    exact hs j (by omega)) (by rw [ey1 V U i x hUi hx, h1]) (by rw [nj7 U i x hUi, h2])
   refine ⟨U', a1, a2, a3, a4, fun ks => ?_⟩
   have ih := a5 ks
   have hwl : (ws U).length = V.length := by rw [u67, hU]
   rw [Int.natCast_add, Int.natCast_one, bf0, show oV (none : Option (El q)) = -1 from rfl] at ih
   have hlt : i < V.length := by omega
   rw [← ih, sb5 c8L0.eq_def]
   simp (disch := first | omega | fail) only [push_cast, seval, ui5, lu7, y81, bj9, wrap64, dec_lt, cw6, nl3, qc6, mr8, nb8, if_pos, if_neg, hwl]
theorem q06 (hrl : raw.length ≤ 9223372036854775807) {V : List (El q)} (hV : V.length ≤ 100) {lost tu : Nat} (hlo : lost + tu ≤ V.length) {k : Int} {T0 T1 : Tree} : ∀ (d i : Nat) (U : List (Option (El q))), i + d = lost + tu → lost ≤ i → U.length = V.length → (∀ j, i ≤ j → U[j]? = (V[j]?).map some) → dif V U ≤ i - lost → non U = lost → ∃ U' : List (Option (El q)), U'.length = V.length ∧ dif V U' ≤ tu ∧ non U' = lost ∧ ∀ ks,
 vgoL W ⟨hNo, [.tmp 12], 0⟩ [0, 1, 3, 4, 5, 13, 14, 15, 18, 19] c8L1 (.blk 2 [1, 3, 13, 14, 15, 18] :: ks) [(0, .fz b (.sl nl 0 1 (ivs raw))), (1, .x (.int .i64 q)), (3, .x (.int .i64 k)), (4, .x (.int .i64 lost)), (5, .x (.int .i64 tu)), (13, .own 0 []), (14, .own 1 []), (15, .own 2 []), (18, .x (.int .i64 (dif V U : Nat))), (19, .x (.int .i64 i))] [T0, T1, .sl 0 3 1 (ivs (ws U))] =
  vgo W ⟨hNo, [.tmp 12], 0⟩ ks (VFr.of [(1, .x (.int .i64 q)), (3, .x (.int .i64 k)), (13, .own 0 []), (14, .own 1 []), (15, .own 2 []), (18, .x (.int .i64 (dif V U' : Nat)))]) [T0, T1, .sl 0 3 1 (ivs (ws U'))]
 | 0, i, U, hi, hli, hU, hs, h1, h2 => by
   refine ⟨U, hU, by omega, h2, fun ks => ?_⟩
   have w1 : IntKind.wrap .i64 ((lost : Int) + (tu : Int)) = (i : Int) := by rw [wrap64 (by omega) (by omega)]; omega
   rw [sb5 c8L1.eq_def]
   simp (disch := first | omega | fail) only [push_cast, seval, ui5, lu7, y81, bj9, wrap64, dec_lt, cw6, nl3, qc6, mr8, nb8, if_pos, if_neg, w1]
 | d + 1, i, U, hi, hli, hU, hs, h1, h2 => by
   obtain ⟨x, hx⟩ := ge6 (l := V) (i := i) (by omega)
   have hUi : U[i]? = some (some x) := by rw [hs i (Nat.le_refl _), hx]; rfl
   have q2 := aw0 (q := q)
   have hr := bd0 (l := raw) (i := 20 + (i : Int)) (by omega) (by omega)
   have e1 := fun b nl => yc3 (b := b) (nl := nl) (raw := raw) (i := 20 + (i : Int)) (by omega) hrl
   have e2 := s88 (a := rwI raw (20 + (i : Int))) (n := q) hr.1 hr.2 (by omega)
   have hk := h58 (a := rwI raw (20 + (i : Int))) (n := q) (by omega)
   obtain ⟨v, hv⟩ : ∃ v : El q, pkI (rwI raw (20 + (i : Int))) q = v.v := ⟨⟨_, hk.1, hk.2⟩, rfl⟩
   rw [hv] at e2
   have hdt := wj1 V U i x v hUi hx
   obtain ⟨U', a1, a2, a3, a4⟩ := q06 hrl hV hlo (k := k) (T0 := T0) (T1 := T1) d (i + 1) (U.set i (some v)) (by omega) (by omega) (by rw [List.length_set, hU]) (fun j hj => by
    rw [List.getElem?_set_ne (by omega)]
    exact hs j (by omega)) (by rw [hdt]; split <;> omega) (by rw [jh1 U i x v hUi, h2])
   refine ⟨U', a1, a2, a3, fun ks => ?_⟩
   have ih := a4 ks
   have hwl : (ws U).length = V.length := by rw [u67, hU]
   have h3 := iat (qb7 hUi)
   rw [show oV (some x) = x.v from rfl] at h3
   have w1 : IntKind.wrap .i64 ((lost : Int) + (tu : Int)) = (lost : Int) + (tu : Int) := wrap64 (by omega) (by omega)
   have w2 : IntKind.wrap .i64 (20 + (i : Int)) = 20 + (i : Int) := wrap64 (by omega) (by omega)
   have hlt : i < V.length := by omega
   have hlt2 : (i : Int) < (lost : Int) + (tu : Int) := by omega
   have hdb : dif V U ≤ 1000 := by omega
   rw [Int.natCast_add, Int.natCast_one, bf0, show oV (some v) = v.v from rfl, hdt] at ih
   rw [← ih, sb5 c8L1.eq_def]
   by_cases h : v = x
   ·rw [if_pos h, Nat.add_zero]
    have hvx : v.v = x.v := by rw [h]
    rw [hvx] at e2 ⊢
    simp (disch := first | omega | fail) only [push_cast, seval, ui5, lu7, y81, bj9, wrap64, dec_lt, cw6, nl3, qc6, mr8, nb8, if_pos, if_neg, w1, dec_lt hlt2, w2, e1, e2, h3, hwl]
   ·rw [if_neg h, Int.natCast_add, Int.natCast_one]
    have hvx : ¬ v.v = x.v := fun e => h (El.ext' e)
    simp (disch := first | omega | fail) only [push_cast, seval, ui5, lu7, y81, bj9, wrap64, dec_lt, cw6, nl3, qc6, mr8, nb8, if_pos, if_neg, w1, dec_lt hlt2, w2, e1, e2, h3, hwl, nb8 hvx]
end
theorem cs4 {raw : List Int} {b : Bool} {nl : Nat} (hl : raw.length ≤ 9223372036854775807) {q n k lo tu : Int} (q1 : -9223372036854775808 ≤ q) (q2 : q ≤ 9223372036854775807) (n1 : -9223372036854775808 ≤ n) (n2 : n ≤ 9223372036854775807) (k1 : -9223372036854775808 ≤ k) (k2 : k ≤ 9223372036854775807) (l1 : -9223372036854775808 ≤ lo) (l2 : lo ≤ 9223372036854775807) (t1 : -9223372036854775808 ≤ tu) (t2 : tu ≤ 9223372036854775807) :
 o24 W 8 [.fz b (.sl nl 0 1 (ivs raw)), .x (.int .i64 q), .x (.int .i64 n), .x (.int .i64 k), .x (.int .i64 lo), .x (.int .i64 tu)] [] = some (.x (.bool true), [], []) := by
 by_cases h256 : 256 < raw.length
 ·rw [o10 rfl T8 rfl]
  unfold F8 c8
  simp (disch := first | omega | fail) only [push_cast, seval, ui5, lu7, y81, bj9, wrap64, dec_lt, cw6, nl3, qc6, mr8, nb8, if_pos, if_neg]
 ·obtain ⟨z, hz, e0⟩ := jx7 q q1 q2
  obtain ⟨z1, z2, hfz⟩ := x14 hz
  haveI := hfz
  have p1 := s88 n1 n2 (show (0 : Int) < 16 by omega)
  have hp := h58 (a := n) (n := 16) (by omega)
  have w1 : IntKind.wrap .i64 (1 + pkI n 16) = 1 + pkI n 16 := wrap64 (by omega) (by omega)
  have main : ∀ (N : Nat), 1 ≤ N → N ≤ 16 → (N : Int) ≤ z → ∃ (K : Nat) (X m : List (El z)), o24 W 9 [.x (.int .i64 k), .x (.int .i64 (N : Int))] [] = some (.x (.int .i64 ((K : Int) - 1)), [], []) ∧ 1 ≤ K ∧ K ≤ N ∧ X.length = N ∧ X.Nodup ∧ m.length = K ∧ (∀ b nl, o24 W 14 [.fz b (.sl nl 0 1 (ivs raw)), .x (.int .i64 z), .x (.int .i64 N)] [] = some (.own 0 [], [.sl 0 3 1 (ivs (vs X))], [])) ∧
   (∀ b nl, o24 W 11 [.fz b (.sl nl 0 1 (ivs raw)), .x (.int .i64 3), .x (.int .i64 z), .x (.int .i64 K)] [] = some (.own 0 [], [.sl 1 3 1 (ivs (vs m))], [])) := by
   intro N hN1 hN2 hNz
   have p2 := s88 k1 k2 (show (0 : Int) < (N : Int) by omega)
   have hk := h58 (a := k) (n := (N : Int)) (by omega)
   obtain ⟨K, hK⟩ : ∃ K : Nat, (K : Int) = pkI k (N : Int) + 1 := ⟨(pkI k (N : Int) + 1).toNat, by omega⟩
   obtain ⟨m, hm, hml⟩ := m61 (raw := raw) (frm := 3) (q := z) (n := K) (by omega)
   have s1 := fun b nl => vv4 (b := b) (nl := nl) hl (frm := 3) (q := z) (by omega) (by omega) (by omega) (N := K) (by omega)
   rw [hm] at s1
   obtain ⟨zn, rfl⟩ : ∃ zn : Nat, z = (zn : Int) := ⟨z.toNat, by omega⟩
   obtain ⟨L, h1, h2, h3, h4⟩ := mz4 hl (q := zn) (n := N) (by omega) (by omega)
   obtain ⟨X, rfl, hXn⟩ := ax8 h3 h2
   rw [fi2] at h1
   refine ⟨K, X, m, by rw [p2, show (K : Int) - 1 = pkI k (N : Int) by omega], by omega, by omega, h1, hXn, hml, h4, s1⟩
  have fin : ∀ (N : Nat), 1 ≤ N → N ≤ 16 → (N : Int) ≤ z → (if z < 1 + pkI n 16 then z else 1 + pkI n 16) = (N : Int) → o24 W 8 [.fz b (.sl nl 0 1 (ivs raw)), .x (.int .i64 q), .x (.int .i64 n), .x (.int .i64 k), .x (.int .i64 lo), .x (.int .i64 tu)] [] = some (.x (.bool true), [], []) := by
   intro N hN1 hN2 hNz hif
   obtain ⟨K, X, m, p2, hK1, hK2, hX, hXn, hm, e1, e2⟩ := main N hN1 hN2 hNz
   have w2 : IntKind.wrap .i64 (1 + ((K : Int) - 1)) = (K : Int) := by rw [wrap64 (by omega) (by omega)]; omega
   have w3 : IntKind.wrap .i64 ((N : Int) - (K : Int)) = (N : Int) - (K : Int) := wrap64 (by omega) (by omega)
   have w4 : IntKind.wrap .i64 ((N : Int) - (K : Int) + 1) = (N : Int) - (K : Int) + 1 := wrap64 (by omega) (by omega)
   have p3 := s88 l1 l2 (show (0 : Int) < (N : Int) - (K : Int) + 1 by omega)
   have hp3 := h58 (a := lo) (n := (N : Int) - (K : Int) + 1) (by omega)
   obtain ⟨A, hA⟩ : ∃ A : Nat, pkI lo ((N : Int) - (K : Int) + 1) = (A : Int) := ⟨(pkI lo ((N : Int) - (K : Int) + 1)).toNat, by omega⟩
   rw [hA] at p3 hp3
   have w5 : IntKind.wrap .i64 ((N : Int) - (K : Int) - (A : Int)) = (N : Int) - (K : Int) - (A : Int) := wrap64 (by omega) (by omega)
   obtain ⟨H, hH⟩ : ∃ H : Nat, H = (N - K - A) / 2 := ⟨_, rfl⟩
   have w6 : ((N : Int) - (K : Int) - (A : Int)).tdiv 2 = (H : Int) := by rw [Int.tdiv_eq_ediv_of_nonneg (by omega)]; omega
   have w7 : IntKind.wrap .i64 (H : Int) = (H : Int) := wrap64 (by omega) (by omega)
   have w8 : IntKind.wrap .i64 ((H : Int) + 1) = (H : Int) + 1 := wrap64 (by omega) (by omega)
   have p4 := s88 t1 t2 (show (0 : Int) < (H : Int) + 1 by omega)
   have hp4 := h58 (a := tu) (n := (H : Int) + 1) (by omega)
   obtain ⟨B, hB⟩ : ∃ B : Nat, pkI tu ((H : Int) + 1) = (B : Int) := ⟨(pkI tu ((H : Int) + 1)).toNat, by omega⟩
   rw [hB] at p4 hp4
   have e4 := fun b nl b' nl' => su9 (b := b) (nl := nl) (b' := b') (nl' := nl') (m := m) hXn (by omega) (by omega) (by omega)
   obtain ⟨V, hV⟩ : ∃ V, (X.map fun x => ev m x) = V := ⟨_, rfl⟩
   rw [hV] at e4
   have hVl : V.length = N := by rw [← hV, List.length_map, hX]
   obtain ⟨U1, a1, a2, a3, a4, a5⟩ := ly8 (q := z) (b := b) (nl := nl) (raw := raw) (V := V) (by omega) (lost := A) (by omega) (k := K) (tu := B) (T0 := .sl 0 3 1 (ivs (vs X))) (T1 := .sl 1 3 1 (ivs (vs m))) A 0 (V.map some) (Nat.zero_add _) (by rw [List.length_map]) (fun j _ => by rw [List.getElem?_map]) (z50 V) (oo8 V)
   obtain ⟨U2, c1, c2, c3, c4⟩ := q06 (q := z) (b := b) (nl := nl) hl (V := V) (by omega) (lost := A) (tu := B) (by omega) (k := K) (T0 := .sl 0 3 1 (ivs (vs X))) (T1 := .sl 1 3 1 (ivs (vs m))) B A U1 rfl (Nat.le_refl _) a1 a2 (by omega) a4
   rw [s61] at a5
   rw [a3] at c4
   simp only [Int.natCast_zero] at a5 c4
   have hXU : X.length = U2.length := by rw [c1, hVl, hX]
   have g1 := no6 X U2 hXU
   have g2 := ta0 m X U2 hXU
   rw [hV] at g2
   have hnear : NearP (kh0 X U2) K m := ⟨hm, by rw [g2]; omega⟩
   have hrec := s93 (yx3 hXn) hnear
   have e5 := fun b nl b' nl' => on4 (b := b) (nl := nl) (b' := b') (nl' := nl') (X := X) (U := U2) (k := K) hXn (by omega) (by omega) hXU.symm (by omega) (by omega)
   have e6 := fun b nl b' nl' => bx5 (b := b) (nl := nl) (b' := b') (nl' := nl') (X := X) (U := U2) (k := K) hXn (by omega) (by omega) hXU.symm (by omega) (by omega)
   have hb : yg9 (kh0 X U2) (some m) = some (.tup [.own 0 [], .x (.int .i64 (dif V U2 : Nat)), .x (.bool true), .x (.int .i64 0)], [.sl 0 3 1 (ivs (vs m))], []) := by rw [← g2]; rfl
   rw [hrec, hb] at e5 e6
   have e7 := fun b nl b' nl' => nb2 (b := b) (nl := nl) (b' := b') (nl' := nl') (l := vs m) (k := vs m) (by rw [fi2]; omega)
   rw [decide_eq_true (rfl : vs m = vs m)] at e7
   rw [o10 rfl T8 rfl]
   unfold F8 c8
   by_cases hlt : z < 1 + pkI n 16
   ·rw [if_pos hlt] at hif
    subst hif
    simp (disch := first | omega | fail) only [push_cast, seval, ui5, lu7, y81, bj9, wrap64, dec_lt, cw6, nl3, qc6, mr8, nb8, if_pos, if_neg, e0, p1, w1, dec_lt hlt, p2, w2, e1, e2, e4, hVl, p3, w3, w4, w5, w6, w7, w8, p4]
    rw [a5]
    simp (disch := first | omega | fail) only [push_cast, seval, ui5, lu7, y81, bj9, wrap64, dec_lt, cw6, nl3, qc6, mr8, nb8, if_pos, if_neg]
    rw [c4]
    simp (disch := first | omega | fail) only [push_cast, seval, ui5, lu7, y81, bj9, wrap64, dec_lt, cw6, nl3, qc6, mr8, nb8, if_pos, if_neg, e5, e6, e7]
   ·rw [if_neg hlt] at hif
    replace w1 := w1.trans hif
    rw [hif] at hlt
    simp (disch := first | omega | fail) only [push_cast, seval, ui5, lu7, y81, bj9, wrap64, dec_lt, cw6, nl3, qc6, mr8, nb8, if_pos, if_neg, e0, p1, w1, cw6 (Int.not_lt.1 hlt), p2, w2, e1, e2, e4, hVl, p3, w3, w4, w5, w6, w7, w8, p4]
    rw [a5]
    simp (disch := first | omega | fail) only [push_cast, seval, ui5, lu7, y81, bj9, wrap64, dec_lt, cw6, nl3, qc6, mr8, nb8, if_pos, if_neg]
    rw [c4]
    simp (disch := first | omega | fail) only [push_cast, seval, ui5, lu7, y81, bj9, wrap64, dec_lt, cw6, nl3, qc6, mr8, nb8, if_pos, if_neg, e5, e6, e7]
  by_cases hlt : z < 1 + pkI n 16
  ·exact fin z.toNat (by omega) (by omega) (by omega) (by rw [if_pos hlt]; omega)
  ·exact fin (1 + pkI n 16).toNat (by omega) (by omega) (by omega) (by rw [if_neg hlt]; omega)
end Go.Proofs.Ytghfdpdiibiigaa
namespace Go.Proofs.Ytghfdpdiibiigaa
open Go.Am Go.Vm Go.Alg
section
variable {h : H} {l : List AV} {ws : List Value}
theorem a23 : Vm.VRL h [] (allZ h) (allZ h) [] [] := by rw [Vm.VRL]
theorem dp0 (r : Vm.VRL h [] (allZ h) (allZ h) l ws) (v : Value) : Vm.VRL h [] (allZ h) (allZ h) (.x v :: l) (v :: ws) := by
 rw [Vm.VRL]; exact ⟨v, ws, rfl, by rw [Vm.VR], r⟩
theorem qj4 {sa : Option Addr} {c : Nat} {zs : List Int} (hr : RdI h sa c zs) : ∀ o, sa.map (·.block) = some o → allZ h o := fun o ho => by
 rcases hr with ⟨rfl, _⟩ | ⟨_, o2, off, r2, rfl, h1, _⟩
 ·cases ho
 ·cases ho; exact h48 h1
theorem sk6 (r : Vm.VRL h [] (allZ h) (allZ h) l ws) {sa : Option Addr} {c : Nat} {zs : List Int} (hr : RdI h sa c zs) : Vm.VRL h [] (allZ h) (allZ h) (.fz true (.sl 2 0 1 (ivs zs)) :: l) (.slice sa zs.length c :: ws) := by
 rw [Vm.VRL]; exact ⟨_, ws, rfl, by rw [Vm.VR]; exact pd9 hr (qj4 hr), r⟩
end
end Go.Proofs.Ytghfdpdiibiigaa
namespace Go.Proofs.Ytghfdpdiibiigaa
open Go.Am Go.Vm Go.Alg
theorem bh3 (h : H) (s0 : Option Addr) (c0 : Nat) (z0 : List Int) (r0 : RdI h s0 c0 z0) (_ : ss4 h 1 s0 = true) (_ : z0.length ≤ 9223372036854775807) (a1 : Int) (_ : -9223372036854775808 ≤ a1) (_ : a1 ≤ 9223372036854775807) (a2 : Int) (_ : -9223372036854775808 ≤ a2) (_ : a2 ≤ 9223372036854775807) (a3 : Int) (_ : -9223372036854775808 ≤ a3) (_ : a3 ≤ 9223372036854775807) (a4 : Int) (_ : -9223372036854775808 ≤ a4) (_ : a4 ≤ 9223372036854775807) (a5 : Int) (_ : -9223372036854775808 ≤ a5) (_ : a5 ≤ 9223372036854775807) :
 ∃ h', call T 8 [.slice s0 z0.length c0, .int .i64 a1, .int .i64 a2, .int .i64 a3, .int .i64 a4, .int .i64 a5] h = some (.bool true, h') :=
 vlaw lw2 (sk6 (dp0 (dp0 (dp0 (dp0 (dp0 a23 _) _) _) _) _) r0) (by apply cs4 <;> assumption)
end Go.Proofs.Ytghfdpdiibiigaa
