/-
  Composite literals, min and max, held against the small machine's; and all operations together. No condition.
-/
import Derived.Test.YtammndhoillliaaAm7
namespace Go.Am
set_option linter.unusedVariables false
set_option linter.unusedSimpArgs false
open Go.RowKit (Below)

theorem splice_length {l vs : List Value} {off : Nat} (h : off + vs.length ≤ l.length) : (splice l off vs).length = l.length := by
  unfold splice; simp; omega
theorem splice_splice {l x y : List Value} {off : Nat} (h : off + x.length ≤ l.length) : splice (splice l off x) (off + x.length) y = splice l off (x ++ y) := by
  unfold splice
  have hA : (l.take off ++ x).length = off + x.length := by simp; omega
  rw [List.take_append_of_le_length (by omega), List.take_of_length_le (by omega), List.drop_append, List.drop_eq_nil_of_le (by omega), List.nil_append, hA, List.drop_drop, List.length_append,
    show off + x.length + (off + x.length + y.length - (off + x.length)) = off + (x.length + y.length) by omega, ← List.append_assoc]
theorem foldl_set (off : Nat) : ∀ (vs : List Value) (j : Nat) (cells : Array Value), off + j + vs.length ≤ cells.size →
    ((vs.zipIdx j).foldl (fun cs (x : Value × Nat) => cs.setIfInBounds (off + x.2) x.1) cells).toList = splice cells.toList (off + j) vs
  | [], j, cells, _ => by simp [splice]
  | v :: vs, j, cells, hl => by
    simp only [List.length_cons] at hl
    simp only [List.zipIdx_cons, List.foldl_cons]
    rw [foldl_set off vs (j + 1) _ (by simp; omega)]
    unfold splice
    apply List.ext_getElem?
    intro i
    have hs : cells.toList.length = cells.size := by simp
    simp only [Array.toList_setIfInBounds, List.getElem?_append, List.length_take, List.length_set, List.length_cons, List.getElem?_take, List.getElem?_drop, List.length_append, hs]
    have e1 : min (off + (j + 1)) cells.size = off + j + 1 := by omega
    have e2 : min (off + j) cells.size = off + j := by omega
    rw [e1, e2]
    by_cases h1 : i < off + j
    · rw [if_pos (by omega), if_pos (by omega), if_pos (by omega), if_pos (by omega), if_pos (by omega), if_pos (by omega), List.getElem?_set_ne (by omega)]
    · by_cases h2 : i = off + j
      · subst h2
        rw [if_pos (by omega), if_pos (by omega), if_pos (by omega), if_pos (by omega), if_neg (by omega)]
        rw [List.getElem?_set_self (by omega)]
        simp
      · by_cases h3 : i < off + j + 1 + vs.length
        · rw [if_pos (by omega), if_neg (by omega), if_pos (by omega), if_neg (by omega)]
          rw [show i - (off + j) = (i - (off + j + 1)) + 1 by omega]
          simp
        · rw [if_neg (by omega), if_neg (by omega), List.getElem?_set_ne (by omega)]
          congr 1
          omega

/-- one part of a composite literal -/
theorem fill_one (off : Nat) (v : Value) (cells : Array Value) (h : off + v.cells.size ≤ cells.size) :
    (v.cells.zipIdx.foldl (fun cs (x : Value × Nat) => cs.setIfInBounds (off + x.2) x.1) cells).toList = splice cells.toList off v.cells.toList := by
  rw [← Array.foldl_toList, Array.toList_zipIdx]
  have := foldl_set off v.cells.toList 0 cells (by simpa using h)
  simpa using this

/-- the places of the small machine's composite literals are the model's -/
theorem fill_sound {φ : Ren} {n : Nat} {pl : Nat → Option (Nat × Nat)} {pl' : Nat → Option (Nat × Nat)} (hpl : ∀ i x, pl i = some x → pl' i = some x) :
    ∀ (vs : List (Nat × Value)) (vs' : List (Nat × Value)) (cells : List Value) (cells' : Array Value) (out : List Value), afill pl cells vs = some out → LR φ n cells cells'.toList → (∀ c ∈ cells, c.oneCell' = true) →
      vs.length = vs'.length → (∀ (i : Nat) x, vs[i]? = some x → ∃ y, vs'[i]? = some y ∧ y.1 = x.1 ∧ VR φ n x.2 y.2) →
      ∃ out', Instr.fill pl' cells' vs' = some out' ∧ LR φ n out out'.toList ∧ ∀ c ∈ out, c.oneCell' = true
  | [], vs', cells, cells', out, ha, hc, h1, hl, _ => by
    obtain rfl : vs' = [] := List.eq_nil_of_length_eq_zero hl.symm
    simp only [afill, Option.some.injEq] at ha
    subst ha
    exact ⟨cells', rfl, hc, h1⟩
  | (i, v) :: vs, vs', cells, cells', out, ha, hc, h1, hl, hv => by
    cases vs' with
    | nil => simp at hl
    | cons y vs' =>
      obtain ⟨y1, e1, e2, e3⟩ := hv 0 (i, v) rfl
      simp only [List.getElem?_cons_zero, Option.some.injEq] at e1
      subst e1
      obtain ⟨i', v'⟩ := y
      simp only at e2 e3
      subst e2
      simp only [afill] at ha
      cases hp : pl i' with
      | none => rw [hp] at ha; cases ha
      | some os =>
        obtain ⟨off, size⟩ := os
        rw [hp] at ha
        simp only at ha
        split at ha
        · cases ha
        · rename_i hcond
          simp only [Bool.or_eq_true, not_or, Bool.not_eq_true, Bool.not_eq_false', decide_eq_true_eq, decide_eq_false_iff_not, Decidable.not_not] at hcond
          obtain ⟨⟨hs, hf⟩, hfit⟩ := hcond
          have hs' : v'.cells.size = size := by rw [e3.cells_size]; exact hs
          have hcl : cells'.size = cells.length := by have := hc.1; simpa using this.symm
          have hone' := fill_one off v' cells' (by omega)
          have hsp : LR φ n (splice cells off v.cells.toList) (v'.cells.zipIdx.foldl (fun cs (x : Value × Nat) => cs.setIfInBounds (off + x.2) x.1) cells').toList := by
            rw [hone']; exact hc.splice e3.cells off
          obtain ⟨out', k1, k2, k3⟩ := fill_sound hpl vs vs' _ _ out ha hsp (fun c hcc => by
              unfold splice at hcc
              simp only [List.mem_append] at hcc
              rcases hcc with (hcc | hcc) | hcc
              · exact h1 c (List.mem_of_mem_take hcc)
              · exact e3.cells_one hf c hcc
              · exact h1 c (List.mem_of_mem_drop hcc)) (by simpa using hl) (fun j x hj => by simpa using hv (j + 1) x (by simpa using hj))
          refine ⟨out', ?_, k2, k3⟩
          simp only [Instr.fill, hpl _ _ hp]
          rw [if_neg (by simp; omega)]
          exact k1

section
variable {P : Program} {B : Nat} {φ : Ren} {nt : Nat} {fr : Fr} {h : H} {a : Act} {w : World} {o : Oper}

theorem evp_sound (hF : FR φ h.length nt fr a.tmps) : ∀ {xs : List (Nat × Operand)} {vs : List (Nat × Value)}, evp fr xs = some vs →
    vs.length = (xs.map fun p => (p.1, a.eval p.2)).length ∧ ∀ (i : Nat) x, vs[i]? = some x → ∃ y, (xs.map fun p => (p.1, a.eval p.2))[i]? = some y ∧ y.1 = x.1 ∧ VR φ h.length x.2 y.2
  | [], vs, hx => by cases hx; exact ⟨rfl, fun i x h => by simp at h⟩
  | (k, x) :: xs, vs, hx => by
    simp only [evp] at hx
    split at hx
    · rename_i v vs' h1 h2
      cases hx
      obtain ⟨e1, e2⟩ := evp_sound hF h2
      refine ⟨by simp [e1], fun i y hy => ?_⟩
      cases i with
      | zero => simp at hy; subst hy; exact ⟨(k, a.eval x), by simp, rfl, ev_sound hF h1⟩
      | succ i => simpa using e2 i y (by simpa using hy)
    · cases hx

theorem s_build {t : TypeId} {parts : Array (Nat × Operand)} {zs : Value} {pl : List (Nat × Nat)} (ho : o.op = .build t parts)
    (hb : ∀ (ps : List (Nat × Value)) (out : Array Value), Instr.fill (fun i => pl[i]?) zs.cells ps = some out → P.built t ps = some out) (hc : zs.cells.all closed1 = true)
    (hF : FR φ h.length nt fr a.tmps) (hH : HR φ B h w) {v h'} (ha : aop fr h (.build zs.cells.toList pl parts.toList) = some (v, h')) : OpOK P B φ h a w o v h' := by
  simp only [aop] at ha
  split at ha
  · rename_i vs hvs
    split at ha
    · rename_i cs hcs
      cases ha
      obtain ⟨e1, e2⟩ := evp_sound hF hvs
      have hcl : zs.cells.toList.all closed1 = true := by simpa [Array.all_toList] using hc
      obtain ⟨out', k1, k2, k3⟩ := fill_sound (φ := φ) (n := h.length) (pl := fun i => pl[i]?) (pl' := fun i => pl[i]?) (fun _ _ h => h) vs _ _ zs.cells cs hcs (closed1_LR hcl) (fun c hc => (closed1_VR (φ := φ) (n := 0) (List.all_eq_true.1 hcl c hc)).2) e1 e2
      have hl : (parts.map fun (i, x) => (i, a.eval x)).toList = parts.toList.map fun p => (p.1, a.eval p.2) := by simp
      have hr := run_build (P := P) w t (parts.map fun (i, x) => (i, a.eval x)) out' (by rw [hl]; exact hb _ _ k1)
      have hag := k2.agg k3
      refine OpOK.pure hH (v' := .agg out') ?_ (by simpa using hag)
      simp [execOp, ho, hr]
    · cases ha
  · cases ha

theorem getElem_cat {size : Nat} : ∀ (vs : List Value), sized size vs = true → (cat vs).length = vs.length * size ∧ ∀ c ∈ cat vs, ∃ v ∈ vs, flat v = true ∧ c ∈ v.cells.toList
  | [], _ => ⟨by simp [cat], fun c h => by simp [cat] at h⟩
  | v :: vs, hs => by
    simp only [sized, Bool.and_eq_true, beq_iff_eq] at hs
    obtain ⟨h1, h2⟩ := getElem_cat vs hs.2
    refine ⟨by simp [cat, h1, hs.1.1, Nat.add_mul]; omega, fun c hc => ?_⟩
    simp only [cat, List.mem_append] at hc
    rcases hc with hc | hc
    · exact ⟨v, by simp, hs.1.2, hc⟩
    · obtain ⟨u, h3, h4, h5⟩ := h2 c hc
      exact ⟨u, by simp [h3], h4, h5⟩

theorem fill_seq {size : Nat} : ∀ (vs : List Value) (k : Nat) (cells : Array Value), (∀ v ∈ vs, v.cells.size = size) → (k + vs.length) * size ≤ cells.size →
    ∃ out, Instr.fill (fun i => some (i * size, size)) cells ((List.range' k vs.length).zip vs) = some out ∧ out.toList = splice cells.toList (k * size) (cat vs)
  | [], k, cells, _, _ => ⟨cells, by simp [Instr.fill], by simp [cat, splice]⟩
  | v :: vs, k, cells, hs, hl => by
    have hv : v.cells.size = size := hs v (by simp)
    have hfit : k * size + size ≤ cells.size := by
      have : (k + 1) * size ≤ (k + (vs.length + 1)) * size := Nat.mul_le_mul_right _ (by omega)
      simp only [List.length_cons] at hl
      rw [Nat.add_mul, Nat.one_mul] at this
      omega
    have hone := fill_one (k * size) v cells (by omega)
    have hsz : (v.cells.zipIdx.foldl (fun cs (x : Value × Nat) => cs.setIfInBounds (k * size + x.2) x.1) cells).size = cells.size := by
      rw [← Array.length_toList, hone, splice_length (by simp; omega), Array.length_toList]
    obtain ⟨out, h1, h2⟩ := fill_seq vs (k + 1) _ (fun u hu => hs u (by simp [hu])) (by rw [hsz]; simp only [List.length_cons] at hl; rw [show k + 1 + vs.length = k + (vs.length + 1) by omega]; exact hl)
    refine ⟨out, ?_, ?_⟩
    · simp only [List.length_cons, List.range'_succ, List.zip_cons_cons, Instr.fill]
      rw [if_neg (by simp; omega)]
      exact h1
    · have hvl : v.cells.toList.length = size := by simpa using hv
      rw [h2, hone, Nat.add_mul, Nat.one_mul]
      have := splice_splice (l := cells.toList) (x := v.cells.toList) (y := cat vs) (off := k * size) (by simp; omega)
      rw [hvl] at this
      exact this

theorem zip_parts (f : Operand → Value) : ∀ (l : List (Nat × Operand)), l.map (fun p => (p.1, f p.2)) = (l.map (·.1)).zip ((l.map (·.2)).map f)
  | [] => rfl
  | p :: l => by simp [zip_parts f l]

theorem s_mkSl {t e : TypeId} {len : Nat} {parts : Array (Nat × Operand)} {i : TypeInfo} {z : Value} (ho : o.op = .buildSlice t len parts) (ht : P.underlying t = some (.slice e)) (hi : P.info? e = some i) (hz : i.zero = some z)
    (_hc : z.cells.all closed1 = true) (hzs : z.cells.size = i.size) (hlen : len * i.size ≤ 16777216) (hix : parts.toList.map (·.1) = List.range len)
    (hF : FR φ h.length nt fr a.tmps) (hH : HR φ B h w) {v h'} (ha : aop fr h (.mkSl e i.size len (parts.toList.map (·.2))) = some (v, h')) : OpOK P B φ h a w o v h' := by
  simp only [aop] at ha
  split at ha
  · rename_i vs hvs
    split at ha
    · rename_i hcond
      simp only [Bool.and_eq_true, beq_iff_eq] at hcond
      obtain ⟨hsz, hvl⟩ := hcond
      cases ha
      have hL := evs_sound hF hvs
      obtain ⟨hcl, hcm⟩ := getElem_cat vs hsz
      have hpl : parts.toList.length = len := by have := congrArg List.length hix; simpa using this
      generalize hvs' : (parts.toList.map (·.2)).map a.eval = vs' at hL
      have hvl' : vs'.length = len := by rw [← hL.1]; exact hvl
      have hsz' : ∀ u ∈ vs', u.cells.size = i.size := by
        intro u hu
        obtain ⟨j, hj, he⟩ := List.getElem_of_mem hu
        obtain ⟨u', h1, h2⟩ := hL.2 j (vs[j]'(by rw [hL.1]; exact hj)) (List.getElem?_eq_getElem _)
        rw [List.getElem?_eq_getElem hj, Option.some.injEq] at h1
        have hm : vs[j]'(by rw [hL.1]; exact hj) ∈ vs := List.getElem_mem _
        have hs2 : ∀ x ∈ vs, x.cells.size = i.size := by
          clear hcl hcm hL hvs hvl hvl' hj he h1 h2 hm
          induction vs with
          | nil => simp
          | cons x xs ih =>
            simp only [sized, Bool.and_eq_true, beq_iff_eq] at hsz
            intro y hy
            rcases List.mem_cons.1 hy with rfl | hy
            · exact hsz.1.1
            · exact ih hsz.2 y hy
        rw [← he, h1, h2.cells_size]
        exact hs2 _ hm
      have hparts : (parts.map fun (j, x) => (j, a.eval x)).toList = (List.range' 0 vs'.length).zip vs' := by
        rw [hvl', ← List.range_eq_range', ← hix, ← hvs', ← zip_parts]
        simp
      generalize hzc : ((Array.range (len * i.size)).map (fun j => (if len * i.size = 0 then #[] else z.cells)[j % (if len * i.size = 0 then #[] else z.cells).size]!)) = zc
      have hzcs : zc.size = len * i.size := by rw [← hzc]; simp
      obtain ⟨out, h1, h2⟩ := fill_seq (size := i.size) vs' 0 zc hsz' (by rw [hzcs, Nat.zero_add, hvl']; omega)
      have hcat : LR φ h.length (cat vs) (cat vs') := by
        clear hparts h1 h2 hsz' hvl' hvs' hcl hcm hsz hvl hvs
        obtain ⟨l1, l2⟩ := hL
        induction vs generalizing vs' with
        | nil => obtain rfl : vs' = [] := List.eq_nil_of_length_eq_zero (by simpa using l1.symm); exact LR.nil _ _
        | cons x xs ih =>
          cases vs' with
          | nil => simp at l1
          | cons y ys =>
            obtain ⟨y', k1, k2⟩ := l2 0 x rfl
            simp only [List.getElem?_cons_zero, Option.some.injEq] at k1
            subst k1
            exact k2.cells.append (ih ys (by simpa using l1) (fun j u hj => by simpa using l2 (j + 1) u (by simpa using hj)))
      have hcl' : (cat vs').length = len * i.size := by rw [← hcat.1, hcl, hvl]
      have hout : out.toList = cat vs' := by
        rw [h2, Nat.zero_mul]
        unfold splice
        simp only [List.take_zero, List.nil_append, Nat.zero_add]
        rw [List.drop_eq_nil_of_le (by simp [hzcs, hcl'])]
        simp
      refine OpOK.new (cur := out) hH rfl (v' := .slice (some ⟨w.heap.size, 0, none⟩) len len) ?_ (.inl rfl) (fun c hc => ?_) (fun j u hj => ?_) ?_
      · have h1' : Instr.fill (fun j => some (j * i.size, i.size)) zc (parts.map fun (j, x) => (j, a.eval x)).toList = some out := by rw [hparts]; exact h1
        rw [← hzc] at h1'
        have hgt : ¬ (16777216 < len * i.size) := by omega
        by_cases h0 : len * i.size = 0
        · simp only [h0, if_true] at h1'
          simp [execOp, ho, Instr.buildSlice, run_underlying ht, run_sizeOf hi, h0] at h1' ⊢
          simp [h1', newRow]
        · simp only [h0, if_false] at h1'
          simp [execOp, ho, Instr.buildSlice, run_underlying ht, run_sizeOf hi, h0, hgt, run_zeroValue hi hz] at h1' ⊢
          simp [h1', newRow]
      · obtain ⟨u, k1, k2, k3⟩ := hcm c hc
        obtain ⟨j, hj, he⟩ := List.getElem_of_mem k1
        obtain ⟨u', k4, k5⟩ := hL.2 j u (by rw [← he]; exact List.getElem?_eq_getElem hj)
        exact k5.cells_one k2 c k3
      · obtain ⟨u', k1, k2⟩ := hcat.2 j u hj
        exact ⟨u', by rw [← hout] at k1; simpa using k1, k2⟩
      · have hos : out.size = len * i.size := by rw [← Array.length_toList, hout, hcl']
        have := VR.sl (φ := φ.with h.length ⟨w.heap.size, 0, out.size, i.size, true⟩) (n := h.length + 1) h.length 0 len len len 0 (by omega) (Nat.le_refl _) (by rw [Ren.with_same]; exact .inl rfl)
          (by rw [Ren.with_same]; intro _; simp [hos])
        rw [Ren.with_same] at this
        exact this
    · cases ha
  · cases ha

theorem aints_spec {k : IntKind} : ∀ {vs : List Value} {l : List Int}, aints k vs = some l → vs = l.map (Value.int k)
  | [], l, h => by cases h; rfl
  | v :: vs, l, h => by
    unfold aints at h
    split at h
    · rename_i heq; cases heq
    · rename_i k' n r heq
      cases heq
      split at h
      · rename_i hk
        subst hk
        split at h
        · rename_i l' hl
          cases h
          simp [aints_spec hl]
        · cases h
      · cases h
    · cases h

theorem LR.ints {φ : Ren} {n : Nat} {k : IntKind} {l : List Int} {vs' : List Value} (h : LR φ n (l.map (Value.int k)) vs') : vs' = l.map (Value.int k) := by
  apply List.ext_getElem?
  intro i
  by_cases hi : i < l.length
  · obtain ⟨v', h1, h2⟩ := h.2 i (.int k l[i]) (by simp [hi])
    rw [h1, int_inv h2]; simp [hi]
  · have := h.1
    rw [List.getElem?_eq_none (by simp at this; omega), List.getElem?_eq_none (by simp; omega)]

theorem fold_min {k : IntKind} : ∀ (l : List Int) (n : Int), ((l.map (Value.int k)).foldlM Builtin.min2 (.int k n)).run P w = .ok (.int k (l.foldl (mm false) n)) w
  | [], n => by simp
  | x :: l, n => by
    simp only [List.map_cons, List.foldlM_cons, Sem.run_bind, Builtin.min2, Sem.run_pure, Result.andThen_ok, List.foldl_cons]
    exact fold_min l _
theorem fold_max {k : IntKind} : ∀ (l : List Int) (n : Int), ((l.map (Value.int k)).foldlM Builtin.max2 (.int k n)).run P w = .ok (.int k (l.foldl (mm true) n)) w
  | [], n => by simp
  | x :: l, n => by
    simp only [List.map_cons, List.foldlM_cons, Sem.run_bind, Builtin.max2, Sem.run_pure, Result.andThen_ok, List.foldl_cons]
    exact fold_max l _

theorem s_minmax {mx : Bool} {ts : Array TypeId} {xs : Array Operand} (ho : o.op = .call { callee := .builtin (if mx then .max else .min), args := xs, argTypes := ts })
    (hF : FR φ h.length nt fr a.tmps) (hH : HR φ B h w) {v h'} (ha : aop fr h (.minmax mx xs.toList) = some (v, h')) : OpOK P B φ h a w o v h' := by
  simp only [aop] at ha
  split at ha
  · rename_i vs hvs
    split at ha
    · rename_i k n r
      split at ha
      · rename_i l hl
        cases ha
        have hL := evs_sound hF hvs
        rw [aints_spec hl] at hL
        have he : (xs.toList.map a.eval) = (n :: l).map (Value.int k) := by
          have : LR φ h.length ((n :: l).map (Value.int k)) (xs.toList.map a.eval) := hL
          exact LR.ints this
        refine OpOK.pure hH ?_ (.int _ _)
        have he2 : (xs.map a.eval).toList = (n :: l).map (Value.int k) := by simpa using he
        cases mx
        · simp only [execOp, ho, resolve, invoke, builtin]
          simp [Builtin.min_, he2, fold_min]
          simp at he
          simp [he, fold_min]
        · simp only [execOp, ho, resolve, invoke, builtin]
          simp at he
          simp [Builtin.max_, he, fold_max]
      · cases ha
    · cases ha
  · cases ha
end
end Go.Am
