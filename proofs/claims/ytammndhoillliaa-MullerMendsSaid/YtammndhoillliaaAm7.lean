/-
  Append, copy, composite literals, min and max, held against the small machine's; and all operations together. No condition.
-/
import Derived.Test.YtammndhoillliaaAm6
namespace Go.Am
set_option linter.unusedVariables false
set_option linter.unusedSimpArgs false
open Go.RowKit (Below)

section
variable {P : Program} {B : Nat} {φ : Ren} {nt : Nat} {fr : Fr} {h : H} {a : Act} {w : World} {o : Oper}

/-- the source of an append or a copy -/
theorem src_sound (hH : HR φ B h w) {size m : Nat} {x x' : Value} {news : List Value} (hs : srcCells h size m x = some news) (hx : VR φ h.length x x') :
    ∃ b' l d' news', x' = .slice b' l d' ∧ news.length = m * size ∧ (∀ c ∈ news, c.oneCell' = true) ∧ LR φ h.length news news' ∧ (Builtin.firstCells size m x').run P w = .ok news'.toArray w ∧
      (m ≠ 0 → ∃ p, b' = some p ∧ ∀ (j : Nat) (v : Value), news'[j]? = some v → w.cell? (p.add j) = some v) := by
  unfold srcCells at hs
  split at hs
  · rename_i b l d
    split at hs
    · rename_i h0
      cases hs
      subst h0
      cases b with
      | none =>
        obtain ⟨rfl, rfl, rfl⟩ := snil_inv hx
        exact ⟨none, 0, 0, [], rfl, by simp, by simp, LR.nil _ _, by simp [Builtin.firstCells], fun h => absurd rfl h⟩
      | some b =>
        obtain ⟨_, c', rfl⟩ := sl_any hx
        exact ⟨_, _, _, [], rfl, by simp, by simp, LR.nil _ _, by simp [Builtin.firstCells, loadCells, loadCellsFrom], fun h => absurd rfl h⟩
    · rename_i h0
      split at hs
      · rename_i hml
        split at hs
        · rename_i p
          split at hs
          · obtain ⟨h1, hlt, hinv⟩ := sl_inv hx
            obtain ⟨c', q, _, hq, _, rfl⟩ := hinv.resolve_left fun hh => by omega
            clear hinv
            obtain rfl : q = (φ p.block).sh + p.off := by omega
            obtain ⟨hlen, hone, cs', k1, k2⟩ := hH.cells hs
            refine ⟨_, _, _, cs', rfl, hlen, hone, k1, ?_, fun _ => ⟨_, rfl, k2⟩⟩
            exact run_firstCells_some (P := P) w size m _ l c' cs' (by rw [← k1.1, hlen]) k2
          · cases hs
        · cases hs
      · cases hs
  · cases hs

theorem s_cpy {d s : Operand} {t u e : TypeId} {i : TypeInfo} (ho : o.op = .call { callee := .builtin .copy, args := #[d, s], argTypes := #[t, u] }) (ht : P.underlying t = some (.slice e)) (hi : P.info? e = some i)
    (hF : FR φ h.length nt fr a.tmps) (hH : HR φ B h w) {v h'} (ha : aop fr h (.cpy i.size d s) = some (v, h')) : OpOK P B φ h a w o v h' := by
  simp only [aop] at ha
  split at ha
  · rename_i dv sv hd hs
    split at ha
    · rename_i v2 h2 hc
      cases ha
      unfold acpy at hc
      split at hc
      · rename_i da dl dc sa sl sc
        split at hc
        · rename_i cs hcs
          have rd := ev_sound hF hd
          have rs := ev_sound hF hs
          obtain ⟨b', l, d', news', e1, hlen, hone, hLR, hrun, _⟩ := src_sound (P := P) hH hcs rs
          have hl : l = sl := by
            cases sa with
            | none => obtain ⟨rfl, rfl, e2⟩ := snil_inv rs; rw [e2] at e1; cases e1; rfl
            | some p => obtain ⟨_, c', e2⟩ := sl_any rs; rw [e2] at e1; cases e1; rfl
          subst hl
          split at hc
          · rename_i h0
            cases hc
            rw [h0] at hlen hrun
            obtain rfl : news' = [] := List.eq_nil_of_length_eq_zero (by rw [← hLR.1, hlen]; simp)
            refine OpOK.pure hH ?_ (.int _ _)
            have h0' : Nat.min l dl = 0 := h0
            cases da with
            | none => obtain ⟨rfl, rfl, e2⟩ := snil_inv rd
                      simp [execOp, ho, resolve, invoke, builtin, Builtin.copy_, e1, e2, run_underlying ht, Builtin.lenOf, run_sizeOf hi, goInt] at hrun ⊢
                      simp [hrun]
            | some p => obtain ⟨_, c', e2⟩ := sl_any rd
                        rw [e1] at hrun
                        simp [execOp, ho, resolve, invoke, builtin, Builtin.copy_, e1, e2, run_underlying ht, Builtin.lenOf, run_sizeOf hi, goInt, h0', hrun, storeCells]
          · rename_i h0
            split at hc
            · rename_i p
              split at hc
              · split at hc
                · rename_i h3 hst
                  cases hc
                  obtain ⟨_, hlt, hinv⟩ := sl_inv rd
                  obtain ⟨c', q, _, hq, _, e2⟩ := hinv.resolve_left fun hh => by omega
                  clear hinv
                  obtain rfl : q = (φ p.block).sh + p.off := by omega
                  obtain ⟨w', k1, k2, k3, k4⟩ := hH.stores (P := P) hst hLR hone
                  refine ⟨φ, .int .i64 (min l dl : Nat), w', ?_, fun u hu => by cases hu; exact .int _ _, k2, Ext.refl _ _, by omega, k4⟩
                  rw [e1] at hrun
                  have hrun' : (Builtin.firstCells i.size (Nat.min l dl) (.slice b' l d')).run P w = .ok news'.toArray w := hrun
                  simp [execOp, ho, resolve, invoke, builtin, Builtin.copy_, e1, e2, run_underlying ht, Builtin.lenOf, run_sizeOf hi, goInt, hrun', k1]
                · cases hc
              · cases hc
            · cases hc
        · cases hc
      · cases hc
    · cases ha
  · cases ha

theorem run_app_room {t ty e : TypeId} {i : TypeInfo} (ht : P.underlying t = some (.slice e)) (hi : P.info? e = some i) {p : Addr} {n c m l d : Nat} {b : Option Addr} {news : List Value} {w' : World}
    (hl : l = m) (hroom : n + m ≤ c) (hf : (Builtin.firstCells i.size m (.slice b l d)).run P w = .ok news.toArray w) (hst : (storeCells (p.add (n * i.size)) news).run P w = .ok () w') :
    (Builtin.append_ #[t, t] ty #[.slice (some p) n c, .slice b l d]).run P w = .ok (.slice (some p) (n + m) c) w' := by
  subst hl
  simp [Builtin.append_, run_underlying ht, sizeOf, typeInfo, hi, Builtin.lenOf, hroom, hf, hst]

theorem s_app {s x : Operand} {t e : TypeId} {i : TypeInfo} {z : Value} (ho : o.op = .call { callee := .builtin .append, args := #[s, x], argTypes := #[t, t] }) (ht : P.underlying t = some (.slice e)) (hi : P.info? e = some i)
    (hz : i.zero = some z) (hzs : z.cells.size = i.size) (hp : 0 < i.size)
    (hF : FR φ h.length nt fr a.tmps) (hH : HR φ B h w) {v h'} (ha : aop fr h (.app e i.size i.bytes s x) = some (v, h')) : OpOK P B φ h a w o v h' := by
  simp only [aop] at ha
  split at ha
  · rename_i sv xv hs hx
    split at ha
    · rename_i v2 h2 hc
      cases ha
      have rs := ev_sound hF hs
      have rx := ev_sound hF hx
      have hexec : ∀ v' w', (Builtin.append_ #[t, t] o.type #[a.eval s, a.eval x]).run P w = .ok v' w' → (execOp a.eval o).run P w = .ok (.value v') w' := by
        intro v' w' hr
        simp [execOp, ho, resolve, invoke, builtin, hr]
      unfold aapp at hc
      split at hc
      · rename_i sa n c b m d
        split at hc
        · rename_i news hnews
          obtain ⟨b', l, d', news', e1, hlen, hone, hLR, hrun, hsrc⟩ := src_sound (P := P) hH hnews rx
          have hl : l = m := by
            cases b with
            | none => obtain ⟨rfl, rfl, e2⟩ := snil_inv rx; rw [e2] at e1; cases e1; rfl
            | some p => obtain ⟨_, c', e2⟩ := sl_any rx; rw [e2] at e1; cases e1; rfl
          rw [e1] at hrun
          have hlen' : news'.length = m * i.size := by rw [← hLR.1, hlen]
          split at hc
          · -- nil
            split at hc
            · split at hc
              · rename_i hm
                cases hc
                subst hm
                subst hl
                obtain ⟨rfl, rfl, e2⟩ := snil_inv rs
                obtain rfl : news' = [] := List.eq_nil_of_length_eq_zero (by simpa using hlen')
                refine OpOK.pure hH (hexec _ _ ?_) .snil
                rw [e1, e2]
                simp [Builtin.append_, run_underlying ht, sizeOf, typeInfo, hi, Builtin.lenOf, hrun]
              · rename_i hm
                split at hc
                · rename_i hfew
                  cases hc
                  obtain ⟨rfl, rfl, e2⟩ := snil_inv rs
                  subst hl
                  simp only [few, Bool.and_eq_true, decide_eq_true_eq] at hfew
                  obtain ⟨p, rfl, hcell⟩ := hsrc hm
                  have hr := run_append_nil (P := P) w t o.type e i z ht hi hz p l d' news' hlen' hcell (by omega) (by omega) (by omega)
                  have hge := grownCap_ge w l 0 e
                  refine OpOK.new (cur := news'.toArray ++ Builtin.zeroCells z.cells (grownCap w l 0 e - l)) hH rfl (hexec _ _ (by rw [e1, e2]; exact hr)) (.inr rfl) hone (fun j u hj => ?_) ?_
                  · obtain ⟨u', h3, h4⟩ := hLR.2 j u hj
                    have hjl : j < news'.length := (List.getElem?_eq_some_iff.1 h3).1
                    refine ⟨u', ?_, h4⟩
                    rw [Array.getElem?_append_left (by simpa using hjl)]
                    simpa using h3
                  · have := VR.sl (φ := φ.with h.length ⟨w.heap.size, 0, (news'.toArray ++ Builtin.zeroCells z.cells (grownCap w l 0 e - l)).size, i.size, true⟩) (n := h.length + 1) h.length 0 l l (grownCap w l 0 e) 0 (by omega) hge (by rw [Ren.with_same]; exact .inl rfl)
                      (by
                        rw [Ren.with_same]; intro _
                        simp only [Array.size_append, List.size_toArray, size_zeroCells, hzs, hlen', ← Nat.add_mul]
                        rw [show l + (grownCap w l 0 e - l) = grownCap w l 0 e by omega]; omega)
                    rw [Ren.with_same] at this
                    exact this
                · cases hc
            · cases hc
          · -- a row of its own
            rename_i p
            split at hc
            · rename_i r hr
              split at hc
              · rename_i hcond
                simp only [Bool.and_eq_true, beq_iff_eq, decide_eq_true_eq, few] at hcond
                obtain ⟨⟨⟨⟨⟨⟨hown, hspot⟩, helem⟩, hunit⟩, hnc⟩, hfit⟩, hfew1, hfew2⟩ := hcond
                cases hc
                subst hl
                obtain ⟨_, hlt, hinv⟩ := sl_inv rs
                obtain ⟨c', q, hcc, hq, hcap, e2⟩ := hinv.resolve_left fun hh => by
                  have h3 := hh.2.2.1
                  rw [(hH.own p.block r hr hown).1] at h3; cases h3
                obtain ⟨g0, g2, g3, cur, g4, g5, g6⟩ := hH.own p.block r hr hown
                have hcap := hcap g0
                rw [g2, hunit, ← g5] at hcap
                have hkl : (kill h p.block).length = h.length := by simp [kill]
                have hK := hH.kill p.block
                have hfree : ∀ o r', H.row (kill h p.block) o = some r' → r'.own = true → (φ o).blk ≠ (φ p.block).blk := by
                  intro o r' hr' ho' he
                  unfold kill at hr'
                  rw [row_set] at hr'
                  split at hr'
                  · cases hr'
                  · rename_i hne
                    exact hne ⟨(hH.inj o p.block r' r hr' hr ho' hown he).symm, row_lt hr⟩
                have holds : ∃ olds', LR φ h.length ((r.cells.drop p.off).take (n * i.size)) olds' ∧ ∀ (j : Nat) (v : Value), olds'[j]? = some v → w.cell? ((⟨(φ p.block).blk, q, none⟩ : Addr).add j) = some v := by
                  by_cases hn0 : n = 0
                  · subst hn0; exact ⟨[], by simpa using LR.nil _ _, by simp⟩
                  · obtain rfl : q = (φ p.block).sh + p.off := by omega
                    have hlds : h.lds p.block p.off (n * i.size) = some ((r.cells.drop p.off).take (n * i.size)) := by unfold H.lds; rw [hr]; simp [hfit]
                    obtain ⟨_, _, cs', k1, k2⟩ := hH.cells hlds
                    exact ⟨cs', k1, k2⟩
                obtain ⟨olds', hLo, hcello⟩ := holds
                have hoL : ((r.cells.drop p.off).take (n * i.size)).length = n * i.size := by simp; omega
                have hone2 : ∀ c ∈ (r.cells.drop p.off).take (n * i.size) ++ news, c.oneCell' = true := by
                  intro c hc
                  rcases List.mem_append.1 hc with hc | hc
                  · exact hH.one _ r hr c (List.mem_of_mem_drop (List.mem_of_mem_take hc))
                  · exact hone c hc
                have hLall := hLo.append hLR
                by_cases hroom : n + l ≤ c'
                · -- in place
                  have hq2 : q + n * i.size + 0 + news'.length ≤ cur.size := by
                    have : (n + l) * i.size ≤ c' * i.size := Nat.mul_le_mul_right _ hroom
                    rw [Nat.add_mul] at this
                    omega
                  have hst := run_storeCells_at P (φ p.block).blk (q + n * i.size) r.elem news' 0 cur w g4 hq2 (hLR.one hone)
                  simp only [Nat.add_zero] at hst hq2
                  have hr2 := run_app_room (P := P) (w := w) (ty := o.type) ht hi (p := ⟨(φ p.block).blk, q, none⟩) (n := n) (c := c') rfl hroom hrun (by rw [add_off]; exact hst)
                  have hpush := hK.push (w' := w.setRow (φ p.block).blk (cur.toList.take (q + n * i.size) ++ news' ++ cur.toList.drop (q + n * i.size + news'.length)).toArray)
                    ⟨(r.cells.drop p.off).take (n * i.size) ++ news, e, i.size, true⟩ (φ p.block).blk q (cur.toList.take (q + n * i.size) ++ news' ++ cur.toList.drop (q + n * i.size + news'.length)).toArray rfl (by simp [World.setRow])
                    (fun k _ hk => setRow_other w _ k _ hk) g3 hfree (by rw [← helem]; exact setRow_heap w _ cur _ _ _ g4) hone2 (fun j u hj => ?_)
                  · have hcs : (cur.toList.take (q + n * i.size) ++ news' ++ cur.toList.drop (q + n * i.size + news'.length)).toArray.size = cur.size := by simp; omega
                    refine ⟨_, _, _, hexec _ _ (by rw [e1, e2]; exact hr2), fun u hu => ?_, hpush, by rw [hkl]; exact Ext.with _ _ _, by simp [hkl], ⟨rfl, rfl, rfl, by simp [World.setRow], fun k hk => setRow_other w _ k _ (by omega)⟩⟩
                    cases hu
                    rw [hkl, hcs]
                    have := VR.sl (φ := φ.with h.length ⟨(φ p.block).blk, q, cur.size, i.size, true⟩) (n := h.length + 1) h.length 0 (n + l) (n + l) c' q (by omega) hroom (by rw [Ren.with_same]; exact .inl rfl)
                      (by rw [Ren.with_same]; intro _; exact hcap)
                    rw [Ren.with_same] at this
                    simpa [hkl] using this
                  · rw [hkl]
                    simp only at hj
                    obtain ⟨u', h3, h4⟩ := hLall.2 j u hj
                    refine ⟨u', ?_, h4⟩
                    have hl2 : (cur.toList.take (q + n * i.size)).length = q + n * i.size := by simp; omega
                    simp only [List.getElem?_toArray, List.append_assoc]
                    by_cases hjn : j < n * i.size
                    · rw [List.getElem?_append_left (by rw [← hLo.1, hoL]; exact hjn)] at h3
                      rw [List.getElem?_append_left (by omega), List.getElem?_take, if_pos (by omega)]
                      have hcell := hcello j u' h3
                      rw [add_off, cell_of_row w _ _ cur _ _ g4] at hcell
                      simpa using hcell
                    · rw [List.getElem?_append_right (by rw [← hLo.1, hoL]; omega), ← hLo.1, hoL] at h3
                      rw [List.getElem?_append_right (by omega), hl2, show q + j - (q + n * i.size) = j - n * i.size by omega]
                      have := (List.getElem?_eq_some_iff.1 h3).1
                      rw [List.getElem?_append_left this]
                      exact h3
                · -- it grows
                  have hm : l ≠ 0 := by omega
                  obtain ⟨p2, rfl, hcell⟩ := hsrc hm
                  have hr2 := run_append_grow (P := P) w t o.type e i z ht hi hz ⟨(φ p.block).blk, q, none⟩ n c' olds' (by rw [← hLo.1, hoL]) hcello p2 l d' news' hlen' hcell (by omega) (by omega) (growslice_fits (by omega) hfew2)
                  have hge := grownCap_ge w (n + l) c' e
                  have hpush := hK.push (w' := w.drew.alloc (.cells (olds'.toArray ++ news'.toArray ++ Builtin.zeroCells z.cells (grownCap w (n + l) c' e - (n + l))) e))
                    ⟨(r.cells.drop p.off).take (n * i.size) ++ news, e, i.size, true⟩ w.heap.size 0 (olds'.toArray ++ news'.toArray ++ Builtin.zeroCells z.cells (grownCap w (n + l) c' e - (n + l))) rfl (by simp)
                    (fun k hk _ => Below.heap_alloc w.drew _ k hk) hH.size (fun o r' hr' ho' => ?_) (Go.heap_alloc_new w.drew _) hone2 (fun j u hj => ?_)
                  · refine ⟨_, _, _, hexec _ _ (by rw [e1, e2]; exact hr2), fun u hu => ?_, hpush, by rw [hkl]; exact Ext.with _ _ _, by simp [hkl], ⟨rfl, rfl, rfl, by simp, fun k hk => Below.heap_alloc w.drew _ k (Nat.lt_of_lt_of_le hk hH.size)⟩⟩
                    cases hu
                    rw [hkl]
                    have := VR.sl (φ := φ.with h.length ⟨w.heap.size, 0, (olds'.toArray ++ news'.toArray ++ Builtin.zeroCells z.cells (grownCap w (n + l) c' e - (n + l))).size, i.size, true⟩) (n := h.length + 1) h.length 0 (n + l) (n + l) (grownCap w (n + l) c' e) 0 (by omega) hge (by rw [Ren.with_same]; exact .inl rfl)
                      (by
                        rw [Ren.with_same]; intro _
                        simp only [Array.size_append, List.size_toArray, size_zeroCells, hzs, hlen', ← hLo.1, hoL, ← Nat.add_mul]
                        rw [show n + l + (grownCap w (n + l) c' e - (n + l)) = grownCap w (n + l) c' e by omega]; omega)
                    rw [Ren.with_same] at this
                    simpa [hkl] using this
                  · obtain ⟨_, _, _, cur', h4, _⟩ := hK.own o r' hr' ho'
                    have := (Array.getElem?_eq_some_iff.1 h4).1
                    omega
                  · rw [hkl]
                    simp only at hj
                    obtain ⟨u', h3, h4⟩ := hLall.2 j u hj
                    refine ⟨u', ?_, h4⟩
                    have hjl := (List.getElem?_eq_some_iff.1 h3).1
                    rw [Nat.zero_add, Array.getElem?_append_left (by simpa using hjl)]
                    simpa using h3
              · cases hc
            · cases hc
        · cases hc
      · cases hc
    · cases ha
  · cases ha
end
end Go.Am
