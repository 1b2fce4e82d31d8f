/-
  Whatever order is drawn for a region's operations, the small machine comes to what it comes to in the text's order. No condition.
-/
import Derived.Test.YtammndhoillliaaEm5
import Derived.Orders
namespace Go.Am
set_option linter.unusedVariables false
set_option linter.unusedSimpArgs false

section
variable {T : Tab} {g : List ARes → List It → Fr → H → Res} {n0 : Nat}

theorem runOps_append : ∀ {l1 l2 : List AOper} {fr : Fr} {h : H} {r}, runOps T g n0 (l1 ++ l2) fr h = some r ↔ ∃ fr1 h1, runOps T g n0 l1 fr h = some (fr1, h1) ∧ runOps T g n0 l2 fr1 h1 = some r
  | [], l2, fr, h, r => by
    constructor
    · intro hr; exact ⟨fr, h, rfl, hr⟩
    · rintro ⟨fr1, h1, he, hr⟩; cases he; exact hr
  | o :: l1, l2, fr, h, r => by
    simp only [List.cons_append, runOps]
    cases stepO T g n0 o fr h with
    | none => simp
    | some p => obtain ⟨fr1, h1⟩ := p; simp only; exact runOps_append

/-- may the first of two that stand so be put behind the second? -/
def swapAny (a b : AOper) : Bool := swapOK a b || swapOK2 a b
theorem swapA (hg : ∀ rs ks fr h v h', g rs ks fr h = some (v, h') → h.length ≤ h'.length) (hE : ∀ ρ, EmbG ρ g) (hT : GoodT T) {o1 o2 : AOper} (hs : swapAny o1 o2 = true) (q1 : o1.op.good = true) (q2 : o2.op.good = true) {fr fr1 fr2 : Fr} {h h1 h2 : H} (hn : n0 ≤ h.length) (hw : WFs fr h)
    (s1 : stepO T g n0 o1 fr h = some (fr1, h1)) (s2 : stepO T g n0 o2 fr1 h1 = some (fr2, h2)) :
    ∃ fr1' h1' fr2' h2', stepO T g n0 o2 fr h = some (fr1', h1') ∧ stepO T g n0 o1 fr1' h1' = some (fr2', h2') ∧ Eqv n0 fr2 h2 fr2' h2' := by
  simp only [swapAny, Bool.or_eq_true] at hs
  rcases hs with hs | hs
  · obtain ⟨fr1', h1', k1, k2⟩ := swap hs hn s1 s2
    have hwf : WFs fr2 h2 := WFs.run (n0 := n0) hE hT (l := [o1, o2]) (by simp [q1, q2]) hw (by simp only [runOps, s1, s2])
    exact ⟨fr1', h1', fr2, h2, k1, k2, hwf.eqv n0⟩
  · exact swap2 hE hT hs q1 q2 hn hw s1 s2

/-- an operation goes behind all those that it may go behind -/
theorem run_past (hg : ∀ rs ks fr h v h', g rs ks fr h = some (v, h') → h.length ≤ h'.length) (hE : ∀ ρ, EmbG ρ g) (hT : GoodT T) {o : AOper} (ho : o.op.good = true) : ∀ {l : List AOper} {fr fr' : Fr} {h h' : H}, (l.all fun o => o.op.good) = true → n0 ≤ h.length → WFs fr h → (∀ x ∈ l, swapAny o x = true) →
    runOps T g n0 (o :: l) fr h = some (fr', h') → ∃ fr2 h2, runOps T g n0 (l ++ [o]) fr h = some (fr2, h2) ∧ Eqv n0 fr' h' fr2 h2
  | [], fr, fr', h, h', _, hn, hw, _, hr => ⟨fr', h', hr, (WFs.run (n0 := n0) hE hT (l := [o]) (by simp [ho]) hw hr).eqv n0⟩
  | x :: l, fr, fr', h, h', hl, hn, hw, hs, hr => by
    simp only [List.all_cons, Bool.and_eq_true] at hl
    simp only [runOps] at hr
    cases h1 : stepO T g n0 o fr h with
    | none => rw [h1] at hr; cases hr
    | some p1 =>
      obtain ⟨f1, g1⟩ := p1
      rw [h1] at hr
      simp only at hr
      cases h2 : stepO T g n0 x f1 g1 with
      | none => rw [h2] at hr; cases hr
      | some p2 =>
        obtain ⟨f2, g2⟩ := p2
        rw [h2] at hr
        simp only at hr
        obtain ⟨f3, g3, f4, g4, k1, k2, k3⟩ := swapA hg hE hT (hs x (by simp)) ho hl.1 hn hw h1 h2
        have l1 := stepO_len hg h1
        have l2 := stepO_len hg h2
        have l3 := stepO_len hg k1
        have l4 := stepO_len hg k2
        obtain ⟨f5, g5, k4, k5⟩ := k3.run hE hT hl.2 (by omega) hr
        have hw3 : WFs f3 g3 := WFs.run (n0 := n0) hE hT (l := [x]) (by simp [hl.1]) hw (by simp only [runOps, k1])
        obtain ⟨f6, g6, k6, k7⟩ := run_past hg hE hT ho (l := l) (fr := f3) (h := g3) hl.2 (by omega) hw3 (fun y hy => hs y (by simp [hy])) (by simp only [runOps, k2]; exact k4)
        exact ⟨f6, g6, by simp only [List.cons_append, runOps, k1]; exact k6, k5.trans k7⟩

/-- any order in which whatever may not be put behind stays ahead -/
theorem run_perm (hg : ∀ rs ks fr h v h', g rs ks fr h = some (v, h') → h.length ≤ h'.length) (hE : ∀ ρ, EmbG ρ g) (hT : GoodT T) (A : Nat → AOper) (hA : ∀ i, (A i).op.good = true) : ∀ (S L : List Nat) {fr fr' : Fr} {h h' : H}, n0 ≤ h.length → WFs fr h → S.Pairwise (· < ·) → L.Perm S →
    (∀ L1 x L2, L = L1 ++ x :: L2 → ∀ i ∈ S, i < x → swapAny (A i) (A x) = false → i ∈ L1) →
    runOps T g n0 (S.map A) fr h = some (fr', h') → ∃ fr2 h2, runOps T g n0 (L.map A) fr h = some (fr2, h2) ∧ Eqv n0 fr' h' fr2 h2
  | [], L, fr, fr', h, h', hn, hw, _, hp, _, hr => by
    obtain rfl := List.perm_nil.1 hp
    cases hr
    exact ⟨fr, h, rfl, hw.eqv n0⟩
  | i :: S, L, fr, fr', h, h', hn, hw, hsrt, hp, hord, hr => by
    have hall : ∀ M : List Nat, ((M.map A).all fun o => o.op.good) = true := fun M => by rw [List.all_eq_true]; intro x hx; obtain ⟨y, _, rfl⟩ := List.mem_map.1 hx; exact hA y
    have hnd : L.Nodup := (hp.nodup_iff).2 (hsrt.imp fun h => Nat.ne_of_lt h)
    have hi : i ∈ L := hp.mem_iff.2 (by simp)
    obtain ⟨L1, L2, rfl⟩ := List.append_of_mem hi
    have hp' : (L1 ++ L2).Perm S := (List.Perm.cons_inv ((List.perm_middle.symm).trans hp))
    have hsrt' : S.Pairwise (· < ·) := hsrt.of_cons
    have hmin : ∀ x ∈ S, i < x := fun x hx => List.rel_of_pairwise_cons hsrt hx
    simp only [List.map_cons, runOps] at hr
    cases h1 : stepO T g n0 (A i) fr h with
    | none => rw [h1] at hr; cases hr
    | some p1 =>
      obtain ⟨f1, g1⟩ := p1
      rw [h1] at hr
      simp only at hr
      have hn1 : n0 ≤ g1.length := Nat.le_trans hn (stepO_len hg h1)
      have hw1 : WFs f1 g1 := WFs.run (n0 := n0) hE hT (l := [A i]) (by simp [hA]) hw (by simp only [runOps, h1])
      obtain ⟨f2, g2, e2, ih⟩ := run_perm hg hE hT A hA S (L1 ++ L2) (fr := f1) (h := g1) hn1 hw1 hsrt' hp' (fun M1 x M2 he k hk hkx hsw => by
        have hki : k ≠ i := fun e => by have := hmin k hk; omega
        rcases List.append_eq_append_iff.1 he with ⟨a', e1, e2⟩ | ⟨c', e1, e2⟩
        · -- x lies in L2
          have := hord (L1 ++ i :: a') x M2 (by rw [e2]; simp) k (by simp [hk]) hkx hsw
          rw [e1]
          simp only [List.mem_append, List.mem_cons] at this ⊢
          rcases this with h | h | h
          · exact .inl h
          · exact absurd h hki
          · exact .inr h
        · cases c' with
          | nil =>
            simp only [List.nil_append] at e2
            have := hord (L1 ++ [i]) x M2 (by rw [← e2]; simp) k (by simp [hk]) hkx hsw
            simp only [List.append_nil] at e1
            rw [← e1]
            simp only [List.mem_append, List.mem_singleton] at this
            rcases this with h | h
            · exact h
            · exact absurd h hki
          | cons y c' =>
            simp only [List.cons_append, List.cons.injEq] at e2
            obtain ⟨rfl, e2⟩ := e2
            exact hord M1 x (c' ++ i :: L2) (by rw [e1]; simp) k (by simp [hk]) hkx hsw) hr
      rw [List.map_append, runOps_append] at e2
      obtain ⟨fr2, h2, k1, k2⟩ := e2
      obtain ⟨f3, g3, k3, k4⟩ : ∃ f3 g3, runOps T g n0 (L1.map A ++ [A i]) fr h = some (f3, g3) ∧ Eqv n0 fr2 h2 f3 g3 := by
        refine run_past hg hE hT (hA i) (hall L1) hn hw (fun x hx => ?_) (by simp only [runOps, h1]; exact k1)
        obtain ⟨y, hy, rfl⟩ := List.mem_map.1 hx
        cases hsw : swapAny (A i) (A y) with
        | true => rfl
        | false =>
          obtain ⟨M1, M2, e⟩ := List.append_of_mem hy
          have hyS : y ∈ S := hp'.mem_iff.1 (by simp [hy])
          have := hord M1 y (M2 ++ i :: L2) (by rw [e]; simp) i (by simp) (hmin y hyS) hsw
          have hiL1 : i ∈ L1 := by rw [e]; simp [this]
          exact absurd rfl ((List.nodup_append.1 hnd).2.2 i hiL1 i (by simp))
      obtain ⟨f4, g4, k5, k6⟩ := k4.run hE hT (hall L2) (Nat.le_trans hn1 (runOps_len hg k1)) k2
      refine ⟨f4, g4, ?_, ih.trans k6⟩
      rw [show (L1 ++ i :: L2).map A = (L1.map A ++ [A i]) ++ L2.map A by simp, runOps_append]
      exact ⟨f3, g3, k3, k5⟩
end

/-! ### the model's orders -/
/-- i must stand ahead of j -/
inductive Dep (ops : Array Oper) : Nat → Nat → Prop
  | edge {i j : Nat} {o : Oper} {e : Edge} : ops[j]? = some o → e ∈ o.after → Region.binds .any e = true → e.on = i → Dep ops i j
  | trans {i k j : Nat} : Dep ops i k → Dep ops k j → Dep ops i j

/-- a number worked out ahead of its use -/
def force {α : Sort _} : Nat → (Nat → α) → α
  | 0, k => k 0
  | n + 1, k => k (n + 1)
theorem force_eq {α : Sort _} (n : Nat) (k : Nat → α) : force n k = k n := by cases n <;> rfl
/-- the operations that must stand ahead of each, as bits: W for each operation -/
def maskE (W acc : Nat) : List Edge → Nat
  | [] => 0
  | e :: l => if Region.binds .any e && decide (e.on < W) then (2 ^ e.on ||| ((acc >>> (W * e.on)) % 2 ^ W)) ||| maskE W acc l else maskE W acc l
def befN (W : Nat) : List Oper → Nat → Nat → Nat
  | [], _, acc => acc
  | o :: r, j, acc => force (acc ||| (maskE W acc o.after.toList <<< (W * j))) fun a => befN W r (j + 1) a
theorem maskE_spec {W acc k : Nat} : ∀ {l : List Edge}, (maskE W acc l).testBit k = true → k < W ∧ ∃ e ∈ l, Region.binds .any e = true ∧ (k = e.on ∨ acc.testBit (W * e.on + k) = true)
  | [], h => by simp [maskE] at h
  | e :: l, h => by
    simp only [maskE] at h
    split at h
    · rename_i hb
      simp only [Bool.and_eq_true, decide_eq_true_eq] at hb
      simp only [Nat.testBit_or, Nat.testBit_two_pow, Nat.testBit_mod_two_pow, Nat.testBit_shiftRight, Bool.or_eq_true, Bool.and_eq_true, decide_eq_true_eq] at h
      rcases h with (h | h) | h
      · exact ⟨by omega, e, by simp, hb.1, .inl h.symm⟩
      · exact ⟨h.1, e, by simp, hb.1, .inr h.2⟩
      · obtain ⟨h1, e', h2, h3⟩ := maskE_spec h
        exact ⟨h1, e', by simp [h2], h3⟩
    · obtain ⟨h1, e', h2, h3⟩ := maskE_spec h
      exact ⟨h1, e', by simp [h2], h3⟩
theorem befN_spec (ops : Array Oper) (W : Nat) : ∀ (r : List Oper) (j acc : Nat), (∀ k, r[k]? = ops[j + k]?) → (∀ j' i, i < W → acc.testBit (W * j' + i) = true → Dep ops i j') →
    ∀ j' i, i < W → (befN W r j acc).testBit (W * j' + i) = true → Dep ops i j'
  | [], j, acc, _, hacc => hacc
  | o :: r, j, acc, hr, hacc => by
    simp only [befN, force_eq]
    refine befN_spec ops W r (j + 1) _ (fun k => ?_) ?_
    · have := hr (k + 1)
      rw [show j + 1 + k = j + (k + 1) by omega, ← this]
      rfl
    · intro j' i hi h
      simp only [Nat.testBit_or, Nat.testBit_shiftLeft, Bool.or_eq_true, Bool.and_eq_true, decide_eq_true_eq] at h
      rcases h with h | ⟨h1, h2⟩
      · exact hacc j' i hi h
      · obtain ⟨h3, e, he, hb, h4⟩ := maskE_spec h2
        have ho : ops[j]? = some o := by have := hr 0; simpa using this.symm
        have q1 : W * j < W * (j' + 1) := by rw [Nat.mul_succ]; omega
        have q2 : W * j' < W * (j + 1) := by rw [Nat.mul_succ]; omega
        have r1 := Nat.lt_of_mul_lt_mul_left q1
        have r2 := Nat.lt_of_mul_lt_mul_left q2
        obtain rfl : j' = j := by omega
        have hk : W * j' + i - W * j' = i := by omega
        rw [hk] at h4
        rcases h4 with h4 | h4
        · exact .edge ho (by simpa using he) hb h4.symm
        · exact .trans (hacc _ _ hi h4) (.edge ho (by simpa using he) hb rfl)

/-- each edge leads to what stands ahead -/
def edgesDown (ops : Array Oper) : Bool := ops.toList.zipIdx.all fun (o, j) => o.after.toList.all fun e => !Region.binds .any e || decide (e.on < j)
theorem edgesDown_spec {ops : Array Oper} (h : edgesDown ops = true) {j : Nat} {o : Oper} (ho : ops[j]? = some o) {e : Edge} (he : e ∈ o.after) (hb : Region.binds .any e = true) : e.on < j := by
  unfold edgesDown at h
  rw [List.all_eq_true] at h
  have hm : (o, j) ∈ ops.toList.zipIdx := by
    rw [List.mem_zipIdx_iff_getElem?]; simpa using ho
  have := h (o, j) hm
  simp only [List.all_eq_true] at this
  have := this e (by simpa using he)
  simpa [hb] using this

/-- what a list of orders keeps -/
structure Topo (ops : Array Oper) (L : List Nat) : Prop where
  perm : L.Perm (List.range ops.size)
  ahead : ∀ L1 j L2, L = L1 ++ j :: L2 → ∀ o, ops[j]? = some o → ∀ e ∈ o.after, Region.binds .any e = true → e.on ∈ L1

theorem Topo.dep {ops : Array Oper} {L : List Nat} (h : Topo ops L) {i j : Nat} (hd : Dep ops i j) : ∀ L1 L2, L = L1 ++ j :: L2 → i ∈ L1 := by
  induction hd with
  | edge ho he hb hi => intro L1 L2 hl; rw [← hi]; exact h.ahead L1 _ L2 hl _ ho _ he hb
  | @trans i k j hik hkj ih1 ih2 =>
    intro L1 L2 hl
    have hk := ih2 L1 L2 hl
    obtain ⟨A, C, rfl⟩ := List.append_of_mem hk
    have := ih1 A (C ++ j :: L2) (by rw [hl]; simp)
    simp [this]

theorem linearise_go_spec (ops : Array Oper) (hdn : edgesDown ops = true) : ∀ (fuel t : Nat) (listed : Array Bool) (D : List Nat), listed.size = ops.size → (∀ i, i < ops.size → (listed.getD i true = true ↔ i ∈ D)) → D.Nodup → (∀ i ∈ D, i < ops.size) →
    D.length + fuel = ops.size →
    ∃ L, Region.linearise.go .any ops fuel t listed [] = L ∧ (D ++ L).Perm (List.range ops.size) ∧
      ∀ L1 j L2, L = L1 ++ j :: L2 → ∀ o, ops[j]? = some o → ∀ e ∈ o.after, Region.binds .any e = true → e.on ∈ D ∨ e.on ∈ L1
  | 0, t, listed, D, hs, hl, hnd, hlt, hlen => by
    refine ⟨[], rfl, ?_, fun L1 j L2 h => by simp at h⟩
    rw [List.append_nil, List.perm_ext_iff_of_nodup hnd List.nodup_range]
    intro i
    constructor
    · intro hi; exact List.mem_range.2 (hlt i hi)
    · intro hi
      by_cases hD : i ∈ D
      · exact hD
      · have hc : (i :: D).Nodup := List.nodup_cons.2 ⟨hD, hnd⟩
        have := hc.length_le_of_subset (l₂ := List.range ops.size) (fun x hx => by
          rcases List.mem_cons.1 hx with rfl | hx
          · exact hi
          · exact List.mem_range.2 (hlt x hx))
        simp at this
        omega
  | fuel + 1, t, listed, D, hs, hl, hnd, hlt, hlen => by
    have hfalse : ∀ i, i < ops.size → (listed.getD i false = true ↔ i ∈ D) := by
      intro i hi
      rw [← hl i hi]
      have : i < listed.size := by omega
      simp [Array.getD_eq_getD_getElem?, this]
    have hne : Region.ready .any ops listed ≠ [] := by
      intro hnil
      have hall : ∀ k i, i < k → i < ops.size → i ∈ D := by
        intro k
        induction k with
        | zero => intro i hi; omega
        | succ k ih =>
          intro i hik hi
          cases hli : listed.getD i true with
          | true => exact (hl i hi).1 hli
          | false =>
            exfalso
            have : i ∈ Region.ready .any ops listed := by
              rw [mem_ready]
              refine ⟨hli, ops[i], Array.getElem?_eq_getElem hi, fun e he hb => ?_⟩
              have hdn' := edgesDown_spec hdn (Array.getElem?_eq_getElem hi) he hb
              exact (hfalse _ (by omega)).2 (ih _ (by omega) (by omega))
            rw [hnil] at this
            cases this
      have hsub : List.range ops.size ⊆ D := fun i hi => hall ops.size i (List.mem_range.1 hi) (List.mem_range.1 hi)
      have := (List.nodup_range (n := ops.size)).length_le_of_subset hsub
      simp at this
      omega
    have hlen0 : 0 < (Region.ready .any ops listed).length := List.length_pos_iff.2 hne
    have hmod : t % (Region.ready .any ops listed).length < (Region.ready .any ops listed).length := Nat.mod_lt _ hlen0
    have hget : (Region.ready .any ops listed)[t % (Region.ready .any ops listed).length]? = some ((Region.ready .any ops listed)[t % (Region.ready .any ops listed).length]) := List.getElem?_eq_getElem hmod
    generalize hi : (Region.ready .any ops listed)[t % (Region.ready .any ops listed).length] = i at hget
    have him : i ∈ Region.ready .any ops listed := by rw [← hi]; exact List.getElem_mem _
    obtain ⟨h1, o, ho, hedges⟩ := mem_ready.1 him
    have hin : i < ops.size := (Array.getElem?_eq_some_iff.1 ho).1
    have hiD : i ∉ D := fun h => by rw [(hl i hin).2 h] at h1; cases h1
    obtain ⟨L, hL, hp, ha⟩ := linearise_go_spec ops hdn fuel (t / (Region.ready .any ops listed).length) (listed.setIfInBounds i true) (D ++ [i]) (by simpa using hs) (fun j hj => by
      by_cases hij : i = j
      · subst hij
        have : i < listed.size := by omega
        simp [Array.getD_eq_getD_getElem?, this]
      · rw [getD_set_ne true hij, hl j hj]
        simp [Ne.symm hij]) (by
      rw [List.nodup_append]
      exact ⟨hnd, by simp, fun a ha b hb => by simp at hb; subst hb; exact fun e => hiD (e ▸ ha)⟩) (fun j hj => by
      simp only [List.mem_append, List.mem_singleton] at hj
      rcases hj with hj | rfl
      · exact hlt j hj
      · exact hin) (by simp; omega)
    refine ⟨i :: L, ?_, by simpa using hp, fun L1 j L2 he o' ho' e hem hb => ?_⟩
    · simp only [Region.linearise.go]
      change (match (Region.ready .any ops listed)[t % (Region.ready .any ops listed).length]? with
        | some i => Region.linearise.go .any ops fuel (t / (Region.ready .any ops listed).length) (listed.setIfInBounds i true) [i]
        | none => [].reverse) = i :: L
      rw [hget]
      simp only
      rw [linearise_go_acc, hL]
      rfl
    · cases L1 with
      | nil =>
        simp only [List.nil_append, List.cons.injEq] at he
        obtain ⟨rfl, _⟩ := he
        rw [ho] at ho'
        cases ho'
        have := hedges e hem hb
        have hlt' : e.on < ops.size := by have := edgesDown_spec hdn ho hem hb; omega
        exact .inl ((hfalse _ hlt').1 this)
      | cons x L1 =>
        simp only [List.cons_append, List.cons.injEq] at he
        obtain ⟨rfl, he⟩ := he
        rcases ha L1 j L2 he o' ho' e hem hb with h | h
        · simp only [List.mem_append, List.mem_singleton] at h
          rcases h with h | h
          · exact .inl h
          · exact .inr (by simp [h])
        · exact .inr (by simp [h])

theorem schedule_topo {ops : Array Oper} (hdn : edgesDown ops = true) (t : Nat) : Topo ops (Region.schedule true ops t) := by
  obtain ⟨L, hL, hp, ha⟩ := linearise_go_spec ops hdn ops.size t (Array.replicate ops.size false) [] (by simp) (fun i hi => by simp [hi]) (by simp) (by simp) (by simp)
  have e : Region.schedule true ops t = L := by
    simp only [Region.schedule, Bool.true_or, if_true]
    exact hL
  rw [e]
  refine ⟨by simpa using hp, fun L1 j L2 he o ho e hem hb => ?_⟩
  rcases ha L1 j L2 he o ho e hem hb with h | h
  · cases h
  · exact h

/-- whatever hangs on nothing of one another may be put behind one another -/
def commutes (ops : List Oper) (l : List AOper) : Bool :=
  force (befN ops.length ops 0 0) fun b =>
  l.zipIdx.all fun (x, j) => (l.take j).zipIdx.all fun (y, i) => (decide (i < ops.length) && b.testBit (ops.length * j + i)) || swapAny y x

theorem commutes_spec {ops : Array Oper} {l : List AOper} (h : commutes ops.toList l = true) {i j : Nat} (hij : i < j) {x y : AOper} (hx : l[j]? = some x) (hy : l[i]? = some y) : Dep ops i j ∨ swapAny y x = true := by
  unfold commutes at h
  rw [force_eq, List.all_eq_true] at h
  have h1 := h (x, j) (List.mem_zipIdx_iff_getElem?.2 hx)
  simp only [List.all_eq_true] at h1
  have h2 := h1 (y, i) (List.mem_zipIdx_iff_getElem?.2 (by simp only; rw [List.getElem?_take, if_pos hij]; exact hy))
  simp only [Bool.or_eq_true, Bool.and_eq_true, decide_eq_true_eq] at h2
  rcases h2 with h2 | h2
  · exact .inl (befN_spec ops _ ops.toList 0 0 (fun k => by simp) (fun j' i hi h => by simp at h) j i h2.1 h2.2)
  · exact .inr h2

/-- whatever order is drawn -/
theorem run_schedule {T : Tab} {g : List ARes → List It → Fr → H → Res} (hg : ∀ rs ks fr h v h', g rs ks fr h = some (v, h') → h.length ≤ h'.length) (hE : ∀ ρ, EmbG ρ g) (hT : GoodT T) {ops : Array Oper} {l : List AOper} (hlen : l.length = ops.size) (hgood : (l.all fun o => o.op.good) = true)
    (hdn : edgesDown ops = true) (hc : commutes ops.toList l = true) (t : Nat) {fr fr' : Fr} {h h' : H} (hw : WFs fr h) (hr : runOps T g h.length l fr h = some (fr', h')) (d : AOper) (hd : d.op.good = true) :
    ∃ fr2 h2, runOps T g h.length ((Region.schedule true ops t).map fun i => l.getD i d) fr h = some (fr2, h2) ∧ Eqv h.length fr' h' fr2 h2 := by
  have ht := schedule_topo hdn t
  have hid : (List.range ops.size).map (fun i => l.getD i d) = l := by
    apply List.ext_getElem?
    intro i
    by_cases hi : i < ops.size
    · simp [hi, hlen, List.getD_eq_getElem?_getD]
    · rw [List.getElem?_eq_none (by simp; omega), List.getElem?_eq_none (by omega)]
  refine run_perm hg hE hT (fun i => l.getD i d) (fun i => ?_) (List.range ops.size) _ (Nat.le_refl _) hw List.pairwise_lt_range ht.perm (fun L1 x L2 he i hi hix hsw => ?_) (by rw [hid]; exact hr)
  · simp only [List.getD_eq_getElem?_getD]
    cases hi : l[i]? with
    | none => exact hd
    | some o => exact (List.all_eq_true.1 hgood) o (List.mem_of_getElem? hi)
  have hx : x < ops.size := List.mem_range.1 (ht.perm.mem_iff.1 (by rw [he]; simp))
  have hi' := List.mem_range.1 hi
  rcases commutes_spec hc hix (x := l.getD x d) (y := l.getD i d) (by simp [List.getD_eq_getElem?_getD, hlen, hx]) (by simp [List.getD_eq_getElem?_getD, hlen, hi']) with hd | hd
  · exact ht.dep hd L1 L2 he
  · rw [hd] at hsw; cases hsw
end Go.Am
