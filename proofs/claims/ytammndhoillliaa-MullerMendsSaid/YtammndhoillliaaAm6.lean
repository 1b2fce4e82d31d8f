/-
  The rest of the model's operations, held against the small machine's: those that write, and slices. No condition.
-/
import Derived.Test.YtammndhoillliaaAm5
namespace Go.Am
set_option linter.unusedVariables false
set_option linter.unusedSimpArgs false
open Go.RowKit (Below)

/-- a row of its own whose cells are others -/
theorem HR.write {φ : Ren} {B : Nat} {h : H} {w w' : World} (hh : HR φ B h w) {o : Nat} {r : Row} (hr : h.row o = some r) (ho : r.own = true) (cs : List Value) (cur : Array Value)
    (hsz : w'.heap.size = w.heap.size) (hoth : ∀ k, k ≠ (φ o).blk → w'.heap[k]? = w.heap[k]?) (hb : w'.heap[(φ o).blk]? = some (.cells cur r.elem (0, 0))) (hcap : cur.size = (φ o).cap)
    (hone : ∀ c ∈ cs, c.oneCell' = true) (hcs : ∀ (i : Nat) (c : Value), cs[i]? = some c → ∃ v, cur[(φ o).sh + i]? = some v ∧ VR φ h.length c v) :
    HR φ B (h.set o (.row { r with cells := cs })) w' := by
  have hlt := row_lt hr
  have hl : (h.set o (Ob.row { r with cells := cs })).length = h.length := by simp
  have hrow : ∀ {o' r'}, H.row (h.set o (Ob.row { r with cells := cs })) o' = some r' → (o' = o ∧ r' = { r with cells := cs }) ∨ (o' ≠ o ∧ h.row o' = some r') := by
    intro o' r' h'
    rw [row_set] at h'
    split at h'
    · rename_i he; simp at h'; exact .inl ⟨he.1.symm, h'.symm⟩
    · rename_i hne; exact .inr ⟨fun e => hne ⟨e.symm, hlt⟩, h'⟩
  have hroot : ∀ {o' r'}, H.row (h.set o (Ob.row { r with cells := cs })) o' = some r' → ∃ r0, h.row o' = some r0 ∧ r0.own = r'.own := by
    intro o' r' h'
    rcases hrow h' with ⟨rfl, rfl⟩ | ⟨_, h'⟩
    · exact ⟨r, hr, rfl⟩
    · exact ⟨r', h', rfl⟩
  obtain ⟨g0, g2, g3, g4⟩ := hh.own o r hr ho
  refine ⟨fun o' r' h' own' => ?_, fun o' r' h' own' => ?_, fun o' r' h' => ?_, fun a b ra rb h1 h2 o1 o2 he => ?_, by rw [hsz]; exact hh.size⟩
  · rw [hl]
    rcases hrow h' with ⟨rfl, rfl⟩ | ⟨hne, h'⟩
    · exact ⟨g0, g2, g3, cur, hb, hcap, hcs⟩
    · obtain ⟨k0, k2, k3, cur', k4, k5, k6⟩ := hh.own o' r' h' own'
      exact ⟨k0, k2, k3, cur', by rw [hoth _ (fun e => hne (hh.inj o' o r' r h' hr own' ho e))]; exact k4, k5, k6⟩
  · rw [hl]
    rcases hrow h' with ⟨rfl, rfl⟩ | ⟨hne, h'⟩
    · rw [ho] at own'; cases own'
    · obtain ⟨kn, k0, k1⟩ := hh.ro o' r' h' own'
      refine ⟨kn, k0, fun i c hc => ?_⟩
      obtain ⟨v, k2, k3⟩ := k1 i c hc
      exact ⟨v, by rw [← k2]; exact World.cell?_of_block (hoth _ (by simp; omega)), k3⟩
  · rcases hrow h' with ⟨rfl, rfl⟩ | ⟨hne, h'⟩
    · exact hone
    · exact hh.one o' r' h'
  · obtain ⟨ra', e1, e2⟩ := hroot h1
    obtain ⟨rb', e3, e4⟩ := hroot h2
    exact hh.inj a b ra' rb' e1 e3 (e2.trans o1) (e4.trans o2) he

theorem sts_spec {h h' : H} {o off : Nat} {vs : List Value} (hs : h.sts o off vs = some h') :
    ∃ r, h.row o = some r ∧ r.own = true ∧ off + vs.length ≤ r.cells.length ∧ h' = h.set o (.row { r with cells := splice r.cells off vs }) := by
  unfold H.sts at hs
  split at hs
  · rename_i r hr
    split at hs
    · rename_i hc
      simp only [Bool.and_eq_true, decide_eq_true_eq] at hc
      cases hs
      exact ⟨r, hr, hc.1, hc.2, rfl⟩
    · cases hs
  · cases hs

/-- writing cells -/
theorem HR.stores {P : Program} {φ : Ren} {B : Nat} {h h' : H} {w : World} (hh : HR φ B h w) {o off : Nat} {vs vs' : List Value} (hs : h.sts o off vs = some h')
    (hv : LR φ h.length vs vs') (hone : ∀ c ∈ vs, c.oneCell' = true) :
    ∃ w', (storeCells ⟨(φ o).blk, (φ o).sh + off, none⟩ vs').run P w = .ok () w' ∧ HR φ B h' w' ∧ h'.length = h.length ∧ Below B w w' := by
  obtain ⟨r, hr, ho, hfit, rfl⟩ := sts_spec hs
  obtain ⟨g0, g2, g3, cur, g4, g5, g6⟩ := hh.own o r hr ho
  generalize hS : (φ o).sh = S at *
  have hlen : r.cells.length = 0 ∨ S + r.cells.length ≤ cur.size := by
    rcases Nat.eq_zero_or_pos r.cells.length with h0 | h0
    · exact .inl h0
    · obtain ⟨v, h1, _⟩ := g6 (r.cells.length - 1) (r.cells[r.cells.length - 1]'(by omega)) (List.getElem?_eq_getElem _)
      have := (Array.getElem?_eq_some_iff.1 h1).1
      omega
  rcases Nat.eq_zero_or_pos vs.length with hv0 | hv0
  · obtain rfl := List.eq_nil_of_length_eq_zero hv0
    obtain rfl : vs' = [] := List.eq_nil_of_length_eq_zero (by rw [← hv.1]; rfl)
    refine ⟨w, by simp [storeCells], hh.write hr ho _ cur rfl (fun _ _ => rfl) g4 g5 ?_ ?_, by simp, Below.refl _ _⟩
    · simp only [splice, List.append_nil, List.length_nil, Nat.add_zero, List.take_append_drop]; exact hh.one o r hr
    · simp only [splice, List.append_nil, List.length_nil, Nat.add_zero, List.take_append_drop, hS]; exact g6
  have hfit' : (S + off) + 0 + vs'.length ≤ cur.size := by rw [← hv.1]; omega
  have hst := run_storeCells_at P (φ o).blk (S + off) r.elem vs' 0 cur w g4 hfit' (hv.one hone)
  simp only [Nat.add_zero] at hst
  refine ⟨_, hst, ?_, by simp, ?_⟩
  · refine hh.write hr ho _ (cur.toList.take (S + off) ++ vs' ++ cur.toList.drop (S + off + vs'.length)).toArray (by simp [World.setRow]) (fun k hk => setRow_other w _ k _ hk) (setRow_heap w _ cur _ _ _ g4) ?_ ?_ ?_
    · rw [← g5]; simp; omega
    · intro c hc
      unfold splice at hc
      simp only [List.mem_append] at hc
      rcases hc with (hc | hc) | hc
      · exact hh.one o r hr c (List.mem_of_mem_take hc)
      · exact hone c hc
      · exact hh.one o r hr c (List.mem_of_mem_drop hc)
    · intro i c hc
      unfold splice at hc
      have hl1 : (r.cells.take off).length = off := by simp; omega
      have hl2 : (cur.toList.take (S + off)).length = S + off := by simp; omega
      rw [List.append_assoc] at hc
      rw [hS]
      simp only [List.getElem?_toArray, List.append_assoc]
      by_cases hi : i < off
      · rw [List.getElem?_append_left (by omega), List.getElem?_take, if_pos hi] at hc
        rw [List.getElem?_append_left (by omega), List.getElem?_take, if_pos (by omega)]
        obtain ⟨v, h1, h2⟩ := g6 i c hc
        exact ⟨v, by simpa using h1, h2⟩
      · rw [List.getElem?_append_right (by omega), hl1] at hc
        rw [List.getElem?_append_right (by omega), hl2, show S + i - (S + off) = i - off by omega]
        by_cases hi2 : i - off < vs.length
        · rw [List.getElem?_append_left hi2] at hc
          rw [List.getElem?_append_left (by rw [← hv.1]; exact hi2)]
          exact hv.2 _ c hc
        · rw [List.getElem?_append_right (by omega), List.getElem?_drop] at hc
          rw [List.getElem?_append_right (by rw [← hv.1]; omega), List.getElem?_drop, ← hv.1]
          rw [show off + vs.length + (i - off - vs.length) = i by omega] at hc
          rw [show S + off + vs.length + (i - off - vs.length) = S + i by omega]
          obtain ⟨v, h1, h2⟩ := g6 i c hc
          exact ⟨v, by simpa using h1, h2⟩
  · exact ⟨rfl, rfl, rfl, by simp [World.setRow], fun k hk => setRow_other w _ k _ (by omega)⟩

section
variable {P : Program} {B : Nat} {φ : Ren} {nt : Nat} {fr : Fr} {h : H} {a : Act} {w : World} {o : Oper}

theorem s_st {t : TypeId} {x y : Operand} {i : TypeInfo} (ho : o.op = .store t x y) (hi : P.info? t = some i) (hF : FR φ h.length nt fr a.tmps) (hH : HR φ B h w) {v h'}
    (ha : aop fr h (.st i.size x y) = some (v, h')) : OpOK P B φ h a w o v h' := by
  simp only [aop] at ha
  split at ha
  · rename_i p u hp hu
    obtain ⟨h1, hlt, e⟩ := ptr_inv (ev_sound hF hp)
    have ru := ev_sound hF hu
    split at ha
    · cases ha
    · rename_i hc
      simp only [Bool.or_eq_true, not_or, Bool.not_eq_true, bne_eq_false_iff_eq, Bool.not_eq_false'] at hc
      obtain ⟨⟨_, hsz⟩, hfl⟩ := hc
      split at ha
      · rename_i h2 hst
        cases ha
        obtain ⟨w', k1, k2, k3, k4⟩ := hH.stores (P := P) hst ru.cells (ru.cells_one hfl)
        refine ⟨φ, undef, w', ?_, (fun u hu => by cases hu), k2, Ext.refl _ _, by omega, k4⟩
        have hsz' : (a.eval y).cells.size = i.size := by rw [ru.cells_size, hsz]
        simp [execOp, ho, e, Instr.storeAt, Instr.sureAddr, storeVar, run_sizeOf hi, hsz', k1]
      · cases ha
  · cases ha

theorem getElem_rep {zs : List Value} (hz : 0 < zs.length) : ∀ (n i : Nat), (rep zs n)[i]? = if i < n * zs.length then zs[i % zs.length]? else none
  | 0, i => by simp [rep]
  | n + 1, i => by
    simp only [rep]
    by_cases hi : i < zs.length
    · rw [List.getElem?_append_left hi, Nat.mod_eq_of_lt hi, if_pos]
      have := Nat.le_mul_of_pos_left zs.length (show 0 < n + 1 by omega)
      exact Nat.lt_of_lt_of_le hi this
    · rw [List.getElem?_append_right (by omega), getElem_rep hz n, show i % zs.length = (i - zs.length) % zs.length from Nat.mod_eq_sub_mod (by omega)]
      have : (n + 1) * zs.length = n * zs.length + zs.length := Nat.succ_mul _ _
      by_cases h1 : i - zs.length < n * zs.length
      · rw [if_pos h1, if_pos (by omega)]
      · rw [if_neg h1, if_neg (by omega)]

theorem s_mks {t e : TypeId} {x y : Operand} {i : TypeInfo} {z : Value} (ho : o.op = .makeSlice t x y) (ht : P.underlying t = some (.slice e)) (hi : P.info? e = some i) (hz : i.zero = some z) (hc : z.cells.all closed1 = true) (hs : z.cells.size = i.size) (hp : 0 < i.size)
    (hF : FR φ h.length nt fr a.tmps) (hH : HR φ B h w) {v h'}
    (ha : aop fr h (.mks e i.size i.bytes z.cells.toList x y) = some (v, h')) : OpOK P B φ h a w o v h' := by
  simp only [aop] at ha
  split at ha
  · rename_i k1 l k2 c hl hcc
    have e1 := int_inv (ev_sound hF hl)
    have e2 := int_inv (ev_sound hF hcc)
    split at ha
    · rename_i hb
      obtain ⟨b1, b2, b3, b4⟩ := hb
      cases ha
      have hcl : ∀ c ∈ z.cells.toList, closed1 c = true := by rw [Array.all_eq_true'] at hc; simpa using hc
      have hzl : z.cells.toList.length = i.size := by simpa using hs
      have hrun := run_make (P := P) w t e i z ht hi hz k1 k2 l c b1 b2 (by rw [Int.mul_comm]; omega) (by omega)
      have hmem : ∀ u ∈ rep z.cells.toList c.toNat, closed1 u = true := by
        intro u hu
        obtain ⟨j, hj, he⟩ := List.getElem_of_mem hu
        have h2 : (rep z.cells.toList c.toNat)[j]? = some u := by rw [← he]; exact List.getElem?_eq_getElem hj
        rw [getElem_rep (by omega)] at h2
        split at h2
        · exact hcl u (List.mem_of_getElem? h2)
        · cases h2
      refine OpOK.new (cur := madeCells z.cells (c.toNat * i.size)) hH rfl (v' := .slice (some ⟨w.heap.size, 0, none⟩) l.toNat c.toNat) (by simp [execOp, ho, e1, e2, hrun]) (.inl rfl) (fun u hu => (closed1_VR (φ := φ) (n := 0) (hmem u hu)).2) (fun j u hj => ?_) ?_
      · refine ⟨u, ?_, (closed1_VR (hmem u (List.mem_of_getElem? hj))).1⟩
        simp only at hj
        rw [getElem_rep (by omega), hzl] at hj
        split at hj
        · rename_i hlt
          unfold madeCells
          rw [Array.getElem?_map, Array.getElem?_range, if_pos hlt]
          simp only [Option.map_some]
          have hm : j % z.cells.size < z.cells.size := Nat.mod_lt _ (by omega)
          rw [← hs, Array.getElem?_toList, Array.getElem?_eq_getElem hm] at hj
          rw [getElem!_pos z.cells _ hm]
          exact hj
        · cases hj
      · have := VR.sl (φ := φ.with h.length ⟨w.heap.size, 0, (madeCells z.cells (c.toNat * i.size)).size, i.size, true⟩) (n := h.length + 1) h.length 0 l.toNat c.toNat c.toNat 0 (by omega) (Nat.le_refl _) (by rw [Ren.with_same]; exact .inl rfl)
          (by rw [Ren.with_same]; intro _; simp [size_madeCells])
        simpa [Ren.with_same] using this
    · cases ha
  · cases ha

theorem evo_sound (hF : FR φ h.length nt fr a.tmps) {x : Option Operand} {r : Option Int} (hx : evo fr x = some r) :
    (x = none ∧ r = none) ∨ ∃ y k i, x = some y ∧ r = some i ∧ a.eval y = .int k i := by
  cases x with
  | none => simp [evo] at hx; exact .inl ⟨rfl, hx.symm⟩
  | some y =>
    simp only [evo] at hx
    split at hx
    · rename_i v hv
      split at hx
      · rename_i i hi
        cases hx
        cases v <;> simp [bound] at hi
        subst hi
        exact .inr ⟨y, _, _, rfl, rfl, int_inv (ev_sound hF hv)⟩
      · cases hx
    · cases hx

theorem bounds_run {lo hi : Option Operand} {l' h2 : Option Int} (hF : FR φ h.length nt fr a.tmps) (h1 : evo fr lo = some l') (h2' : evo fr hi = some h2) (sl : Bool) {len cap : Nat}
    (hb : 0 ≤ l'.getD 0 ∧ l'.getD 0 ≤ h2.getD len ∧ h2.getD len ≤ cap) :
    (Instr.sliceBounds sl len cap (lo.map a.eval) (hi.map a.eval) none).run P w = .ok ((l'.getD 0).toNat, (h2.getD len).toNat, cap) w := by
  rcases evo_sound hF h1 with ⟨rfl, rfl⟩ | ⟨y, k, i, rfl, rfl, e⟩ <;> rcases evo_sound hF h2' with ⟨rfl, rfl⟩ | ⟨y', k', i', rfl, rfl, e'⟩ <;>
    simp only [Option.getD_none, Option.getD_some] at hb ⊢
  · simp [Instr.sliceBounds]
  · obtain ⟨b1, b2, b3⟩ := hb
    simp [Instr.sliceBounds, e', Instr.sliceBound, asIntOf, b3, show (0 : Int) ≤ i' by omega]
  · obtain ⟨b1, b2, b3⟩ := hb
    simp [Instr.sliceBounds, e, Instr.sliceBound, asIntOf, b1, b2]
  · obtain ⟨b1, b2, b3⟩ := hb
    have b2' : i ≤ (i'.toNat : Int) := by omega
    simp [Instr.sliceBounds, e, e', Instr.sliceBound, asIntOf, b1, b2', b3, show (0 : Int) ≤ i' by omega]
    intro h; exfalso; omega

theorem s_sl {t e : TypeId} {x : Operand} {lo hi : Option Operand} {i : TypeInfo} (ho : o.op = .slice t x lo hi none) (ht : P.underlying t = some (.slice e)) (hi' : P.info? e = some i)
    (hF : FR φ h.length nt fr a.tmps) (hH : HR φ B h w) {v h'}
    (ha : aop fr h (.sl i.size x lo hi) = some (v, h')) : OpOK P B φ h a w o v h' := by
  simp only [aop] at ha
  split at ha
  · rename_i p l c lo' hi2 hp hlo hhi
    split at ha
    · rename_i hb
      cases ha
      have rp := ev_sound hF hp
      cases p with
      | none =>
        obtain ⟨rfl, rfl, e1⟩ := snil_inv rp
        have z1 : lo'.getD 0 = 0 := by omega
        have z2 : hi2.getD ((0 : Nat) : Int) = 0 := by omega
        have hbr := bounds_run (P := P) (w := w) (len := 0) (cap := 0) hF hlo hhi true (by rw [z1, z2]; simp)
        rw [z1, z2] at hbr
        rw [z1, z2]
        refine OpOK.pure hH (v' := .slice none 0 0) ?_ ?_
        · simp [execOp, ho, e1, Instr.sliceAt, run_underlying ht, Instr.slice, hbr, run_sizeOf hi']
        · simpa using VR.snil
      | some p =>
        obtain ⟨h1, hlt, hinv⟩ := sl_inv rp
        rcases hinv with ⟨rfl, rfl, hown, x, e1⟩ | ⟨c', q, hc, hq, hcap, e1⟩
        · have z1 : lo'.getD 0 = 0 := by omega
          have z2 : hi2.getD ((0 : Nat) : Int) = 0 := by omega
          have hbr := bounds_run (P := P) (w := w) (len := 0) (cap := 0) hF hlo hhi true (by rw [z1, z2]; simp)
          rw [z1, z2] at hbr
          rw [z1, z2]
          refine OpOK.pure hH (v' := .slice (some x) 0 0) ?_ ?_
          · simp [execOp, ho, e1, Instr.sliceAt, run_underlying ht, Instr.slice, hbr, run_sizeOf hi']
          · obtain ⟨o1, off1, sp⟩ := p
            simp only at h1 hlt hown
            subst h1
            simpa using VR.slz o1 off1 x hlt hown
        have hbr := bounds_run (P := P) (w := w) (len := l) (cap := c') hF hlo hhi true ⟨hb.1, hb.2.1, by have := hb.2.2.1; omega⟩
        generalize lo'.getD 0 = L at *
        generalize hi2.getD (l : Int) = R at *
        refine OpOK.pure hH (v' := .slice (if c' = L.toNat then some ⟨(φ p.block).blk, q, none⟩ else some ((⟨(φ p.block).blk, q, none⟩ : Addr).add (L.toNat * i.size))) (R.toNat - L.toNat) (c' - L.toNat)) ?_ ?_
        · simp [execOp, ho, e1, Instr.sliceAt, run_underlying ht, Instr.slice, hbr, run_sizeOf hi']
        · have er : R.toNat - L.toNat = (R - L).toNat := by omega
          rw [er]
          obtain ⟨o1, off1, sp⟩ := p
          simp only at h1 hlt hq hcap hb ⊢
          subst h1
          have hcap2 : (φ o1).own = true → L.toNat ≤ c' → q + L.toNat * i.size + (c' - L.toNat) * (φ o1).unit ≤ (φ o1).cap := by
            intro ho hl
            have h3 := hcap ho
            have hu := hb.2.2.2
            simp only [unitOk] at hu
            split at hu
            · rename_i r hr
              cases hown : r.own with
              | true =>
                have hue : r.unit = i.size := by simpa [hown] using hu
                have := (hH.own o1 r hr hown).2.1
                rw [this, hue] at h3 ⊢
                have e3 : L.toNat * i.size + (c' - L.toNat) * i.size = c' * i.size := by rw [← Nat.add_mul]; congr 1; omega
                omega
              | false => rw [(hH.ro o1 r hr hown).1] at ho; cases ho
            · cases hu
          by_cases hcl : (c : Int) = L
          · rw [if_pos hcl]
            have hR : (R - L).toNat = 0 := by omega
            have hcc : ((c : Int) - L).toNat = 0 := by omega
            rw [hR, hcc]
            by_cases hc2 : c' = L.toNat
            · rw [if_pos hc2]
              exact .sl o1 off1 0 0 _ q hlt (by omega) (.inr ⟨rfl, rfl⟩) (fun ho => by have := hcap ho; rw [show c' - L.toNat = 0 by omega]; omega)
            · rw [if_neg hc2, add_off]
              exact .sl o1 off1 0 0 _ _ hlt (by omega) (.inr ⟨rfl, rfl⟩) (fun ho => hcap2 ho (by omega))
          · rw [if_neg hcl, if_neg (by omega), add_off]
            have hq' : q = (φ o1).sh + off1 := by omega
            exact .sl o1 (off1 + L.toNat * i.size) _ _ _ _ hlt (by omega) (.inl (by omega)) (fun ho => hcap2 ho (by omega))
    · cases ha
  · cases ha

theorem s_sls {t : TypeId} {x : Operand} {lo hi : Option Operand} (ho : o.op = .slice t x lo hi none) (ht : P.underlying t = some .string)
    (hF : FR φ h.length nt fr a.tmps) (hH : HR φ B h w) {v h'}
    (ha : aop fr h (.sls x lo hi) = some (v, h')) : OpOK P B φ h a w o v h' := by
  simp only [aop] at ha
  split at ha
  · rename_i s lo' hi2 hp hlo hhi
    split at ha
    · rename_i hb
      cases ha
      have e1 := str_inv (ev_sound hF hp)
      have hbr := bounds_run (P := P) (w := w) (len := s.size) (cap := s.size) hF hlo hhi false hb
      refine OpOK.pure hH ?_ (.str _)
      simp [execOp, ho, e1, Instr.sliceAt, run_underlying ht, Instr.slice, hbr]
    · cases ha
  · cases ha

theorem s_len {x : Operand} {t e : TypeId} {ts : Array TypeId} (ho : o.op = .call { callee := .builtin .len, args := #[x], argTypes := ts }) (h0 : ts[0]? = some t) (ht : P.underlying t = some (.slice e))
    (hF : FR φ h.length nt fr a.tmps) (hH : HR φ B h w) {v h'}
    (ha : aop fr h (.len x) = some (v, h')) : OpOK P B φ h a w o v h' := by
  simp only [aop] at ha
  split at ha
  · rename_i p n c hp
    cases ha
    have rp := ev_sound hF hp
    have e1 : ∃ p' c', a.eval x = .slice p' n c' := by cases p with
      | none => obtain ⟨rfl, rfl, e⟩ := snil_inv rp; exact ⟨_, _, e⟩
      | some p => obtain ⟨_, c', e⟩ := sl_any rp; exact ⟨_, _, e⟩
    obtain ⟨p', c', e1⟩ := e1
    refine OpOK.pure hH ?_ (.int _ _)
    simp [execOp, ho, resolve, invoke, builtin, Builtin.len_, h0, e1, run_underlying ht, goInt]
  · cases ha

theorem s_lenS {x : Operand} {t : TypeId} {ts : Array TypeId} (ho : o.op = .call { callee := .builtin .len, args := #[x], argTypes := ts }) (h0 : ts[0]? = some t) (ht : P.underlying t = some .string)
    (hF : FR φ h.length nt fr a.tmps) (hH : HR φ B h w) {v h'}
    (ha : aop fr h (.lenS x) = some (v, h')) : OpOK P B φ h a w o v h' := by
  simp only [aop] at ha
  split at ha
  · rename_i s hp
    cases ha
    have e1 := str_inv (ev_sound hF hp)
    refine OpOK.pure hH ?_ (.int _ _)
    simp [execOp, ho, resolve, invoke, builtin, Builtin.len_, h0, e1, run_underlying ht, goInt]
  · cases ha

theorem s_lenK {x : Operand} {t : TypeId} {n : Nat} {ts : Array TypeId} (ho : o.op = .call { callee := .builtin .len, args := #[x], argTypes := ts }) (h0 : ts[0]? = some t)
    (ht : (∃ e, P.underlying t = some (.array n e)) ∨ ∃ u e, P.underlying t = some (.pointer u) ∧ P.underlying u = some (.array n e)) (hH : HR φ B h w) {v h'}
    (ha : aop fr h (.lenK n) = some (v, h')) : OpOK P B φ h a w o v h' := by
  simp only [aop] at ha
  cases ha
  refine OpOK.pure hH ?_ (.int _ _)
  rcases ht with ⟨e, ht⟩ | ⟨u, e, ht, hu⟩
  · simp [execOp, ho, resolve, invoke, builtin, Builtin.len_, h0, run_underlying ht, goInt]
  · simp [execOp, ho, resolve, invoke, builtin, Builtin.len_, h0, run_underlying ht, run_underlying hu, goInt]
end
end Go.Am
