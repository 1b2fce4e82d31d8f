/-
  More of the model's operations, held against the small machine's: those that look into memory or make some. No condition.
-/
import Derived.Test.YtammndhoillliaaAm4
namespace Go.Am
set_option linter.unusedVariables false
set_option linter.unusedSimpArgs false
open Go.RowKit (Below)

theorem ptr_inv {φ : Ren} {n : Nat} {a : Addr} {v' : Value} (h : VR φ n (.pointer (some a)) v') :
    a.spot = none ∧ a.block < n ∧ v' = .pointer (some ⟨(φ a.block).blk, (φ a.block).sh + a.off, none⟩) := by
  cases h; exact ⟨rfl, ‹_›, rfl⟩
theorem sl_inv {φ : Ren} {n : Nat} {a : Addr} {l c : Nat} {v' : Value} (h : VR φ n (.slice (some a) l c) v') :
    a.spot = none ∧ a.block < n ∧ ((l = 0 ∧ c = 0 ∧ (φ a.block).own = false ∧ ∃ x, v' = .slice (some x) 0 0) ∨ ∃ c' q, c ≤ c' ∧ (q = (φ a.block).sh + a.off ∨ (l = 0 ∧ c = 0)) ∧ ((φ a.block).own = true → q + c' * (φ a.block).unit ≤ (φ a.block).cap) ∧ v' = .slice (some ⟨(φ a.block).blk, q, none⟩) l c') := by
  cases h with
  | sl o off l c c' q h1 h2 h3 h4 => exact ⟨rfl, h1, .inr ⟨_, _, h2, h3, h4, rfl⟩⟩
  | slz o off x h1 h2 => exact ⟨rfl, h1, .inl ⟨rfl, rfl, h2, x, rfl⟩⟩
theorem sl_any {φ : Ren} {n : Nat} {a : Addr} {l c : Nat} {v' : Value} (h : VR φ n (.slice (some a) l c) v') : ∃ x c', v' = .slice (some x) l c' := by
  obtain ⟨_, _, h⟩ := sl_inv h
  rcases h with ⟨rfl, rfl, _, x, rfl⟩ | ⟨c', q, _, _, _, rfl⟩
  · exact ⟨x, 0, rfl⟩
  · exact ⟨_, c', rfl⟩
theorem snil_inv {φ : Ren} {n : Nat} {l c : Nat} {v' : Value} (h : VR φ n (.slice none l c) v') : l = 0 ∧ c = 0 ∧ v' = .slice none 0 0 := by
  cases h; exact ⟨rfl, rfl, rfl⟩
theorem agg_inv {φ : Ren} {n : Nat} {cs : Array Value} {v' : Value} (h : VR φ n (.agg cs) v') :
    ∃ cs', v' = .agg cs' ∧ LR φ n cs.toList cs'.toList ∧ ∀ c ∈ cs.toList, c.oneCell' = true := by
  cases h with
  | agg _ cs' hs h1 hh =>
    refine ⟨cs', rfl, LR.of_arrays hs hh, fun c hc => ?_⟩
    obtain ⟨i, hi, he⟩ := List.getElem_of_mem hc
    rw [← he]; simpa using h1 i (by simpa using hi)
theorem LR.agg {φ : Ren} {n : Nat} {l l' : List Value} (h : LR φ n l l') (h1 : ∀ c ∈ l, c.oneCell' = true) : VR φ n (.agg l.toArray) (.agg l'.toArray) :=
  .agg _ _ (by simpa using h.1) (fun i hi => h1 _ (by simp)) h.arrays
theorem LR.tuple {φ : Ren} {n : Nat} {l l' : List Value} (h : LR φ n l l') : VR φ n (.tuple l.toArray) (.tuple l'.toArray) :=
  .tuple _ _ (by simpa using h.1) h.arrays
theorem LR.func {φ : Ren} {n : Nat} {l l' : List Value} (f : FuncId) (h : LR φ n l l') : VR φ n (.func (.func f) #[] l.toArray) (.func (.func f) #[] l'.toArray) :=
  .func _ _ _ (by simpa using h.1) h.arrays
theorem tuple_inv {φ : Ren} {n : Nat} {cs : Array Value} {v' : Value} (h : VR φ n (.tuple cs) v') : ∃ cs', v' = .tuple cs' ∧ LR φ n cs.toList cs'.toList := by
  cases h with
  | tuple _ cs' hs hh => exact ⟨cs', rfl, LR.of_arrays hs hh⟩

theorem run_isAgg {P : Program} {t : TypeId} {d : TypeDesc} (hd : P.underlying t = some d) (w : World) : (isAgg t).run P w = .ok (isAggD d) w := by
  cases d <;> simp [isAgg, run_underlying hd, isAggD]
theorem run_sizeOf {P : Program} {t : TypeId} {i : TypeInfo} (hi : P.info? t = some i) (w : World) : (sizeOf t).run P w = .ok i.size w := by
  simp [sizeOf, typeInfo, hi]
theorem run_zeroValue {P : Program} {t : TypeId} {i : TypeInfo} {z : Value} (hi : P.info? t = some i) (hz : i.zero = some z) (w : World) : (zeroValue t).run P w = .ok z w := by
  simp [zeroValue, typeInfo, hi, hz]
theorem add_off (b o n : Nat) : (⟨b, o, none⟩ : Addr).add n = ⟨b, o + n, none⟩ := by
  unfold Addr.add; split <;> simp_all

theorem lds_spec {h : H} {o off n : Nat} {cs : List Value} (hl : h.lds o off n = some cs) : ∃ r, h.row o = some r ∧ off + n ≤ r.cells.length ∧ cs = (r.cells.drop off).take n := by
  unfold H.lds at hl
  split at hl
  · rename_i r hr
    split at hl
    · cases hl; exact ⟨r, hr, ‹_›, rfl⟩
    · cases hl
  · cases hl
/-- reading several cells -/
theorem HR.cells {φ : Ren} {B : Nat} {h : H} {w : World} (hh : HR φ B h w) {o off n : Nat} {cs : List Value} (hl : h.lds o off n = some cs) :
    cs.length = n ∧ (∀ c ∈ cs, c.oneCell' = true) ∧ ∃ cs', LR φ h.length cs cs' ∧ ∀ (j : Nat) (v : Value), cs'[j]? = some v → w.cell? ((⟨(φ o).blk, (φ o).sh + off, none⟩ : Addr).add j) = some v := by
  obtain ⟨r, hr, hn, rfl⟩ := lds_spec hl
  have hlen : ((r.cells.drop off).take n).length = n := by simp; omega
  have hget : ∀ j, j < n → ∃ v, w.cell? ((⟨(φ o).blk, (φ o).sh + off, none⟩ : Addr).add j) = some v ∧ VR φ h.length (((r.cells.drop off).take n).getD j undef) v := by
    intro j hj
    have hlt : off + j < r.cells.length := by omega
    obtain ⟨v, h1, h2⟩ := hh.cell hr (i := off + j) (c := r.cells[off + j]) (List.getElem?_eq_getElem hlt)
    refine ⟨v, by rw [add_off, Nat.add_assoc]; exact h1, ?_⟩
    rw [List.getD_eq_getElem?_getD, List.getElem?_take, if_pos hj, List.getElem?_drop, List.getElem?_eq_getElem hlt]
    exact h2
  refine ⟨hlen, fun c hc => hh.one o r hr c (List.mem_of_mem_drop (List.mem_of_mem_take hc)), ?_⟩
  refine ⟨(List.range n).map fun j => (w.cell? ((⟨(φ o).blk, (φ o).sh + off, none⟩ : Addr).add j)).getD undef, ⟨by simp; omega, fun j v hj => ?_⟩, fun j v hj => ?_⟩
  · have hjn : j < n := by have := (List.getElem?_eq_some_iff.1 hj).1; omega
    obtain ⟨u, h1, h2⟩ := hget j hjn
    refine ⟨u, by simp [hjn, h1], ?_⟩
    rw [List.getD_eq_getElem?_getD, hj] at h2
    exact h2
  · have hjn : j < n := by have := (List.getElem?_eq_some_iff.1 hj).1; simpa using this
    obtain ⟨u, h1, h2⟩ := hget j hjn
    simp [hjn, h1] at hj
    rw [h1, hj]

section
variable {P : Program} {B : Nat} {φ : Ren} {nt : Nat} {fr : Fr} {h : H} {a : Act} {w : World} {o : Oper}

theorem eqIn_slice (d : Nat) {t e : TypeId} (ht : P.underlying t = some (.slice e)) (x : Option Addr) (l c : Nat) : (Op.equalIn (d + 1) t (.slice x l c) (.slice none 0 0)).run P w = .ok x.isNone w := by
  cases x <;> simp [Op.equalIn, run_underlying ht]
theorem eqIn_ptr (d : Nat) {t e : TypeId} (ht : P.underlying t = some (.pointer e)) (x : Option Addr) : (Op.equalIn (d + 1) t (.pointer x) (.pointer none)).run P w = .ok x.isNone w := by
  cases x <;> simp [Op.equalIn, run_underlying ht]
theorem eqIn_func (d : Nat) {t : TypeId} {p r : Array TypeId} {s : Bool} (ht : P.underlying t = some (.func p r s)) (f : FuncId) (cs : Array Value) : (Op.equalIn (d + 1) t (.func (.func f) #[] cs) .nilFunc).run P w = .ok false w := by
  simp [Op.equalIn, run_underlying ht]
theorem eqIn_nilFunc (d : Nat) {t : TypeId} {p r : Array TypeId} {s : Bool} (ht : P.underlying t = some (.func p r s)) : (Op.equalIn (d + 1) t .nilFunc .nilFunc).run P w = .ok true w := by
  simp [Op.equalIn, run_underlying ht]
theorem eqIn_bool (d : Nat) {t : TypeId} (ht : P.underlying t = some .bool) (p q : Bool) : (Op.equalIn (d + 1) t (.bool p) (.bool q)).run P w = .ok (p == q) w := by
  simp [Op.equalIn, run_underlying ht]
/-- a comparison by '==' or '!=' whose operands are no numbers and no strings -/
theorem run_eqneq {neg : Bool} {t : TypeId} {x y : Operand} {p q : Value} {b : Bool} (h1 : (Op.equal t p q).run P w = .ok b w)
    (hk : (∃ m n, p = .bool m ∧ q = .bool n) ∨ (∃ a l c, p = .slice a l c ∧ q = .slice none 0 0) ∨ (∃ a, p = .pointer a ∧ q = .pointer none) ∨ (q = .nilFunc ∧ (p = .nilFunc ∨ ∃ f cs, p = .func (.func f) #[] cs))) :
    ((do eqGuard (if neg then BinOp.neq else BinOp.eql) t x y p q; binOp (if neg then BinOp.neq else BinOp.eql) t p q) : Sem Value).run P w = .ok (.bool (neg != b)) w := by
  have hg : ∀ op, (eqGuard op t x y p q).run P w = .ok () w := by
    intro op
    rcases hk with ⟨m, n, rfl, rfl⟩ | ⟨a, l, c, rfl, rfl⟩ | ⟨a, rfl, rfl⟩ | ⟨rfl, rfl | ⟨f, cs, rfl⟩⟩ <;> (unfold eqGuard; cases op <;> simp)
  have hb : (binOp (if neg then BinOp.neq else BinOp.eql) t p q).run P w = .ok (.bool (neg != b)) w := by
    rcases hk with ⟨m, n, rfl, rfl⟩ | ⟨a, l, c, rfl, rfl⟩ | ⟨a, rfl, rfl⟩ | ⟨rfl, rfl | ⟨f, cs, rfl⟩⟩ <;> (cases neg <;> simp [binOp, h1])
  simp only [Sem.run_bind, hg, Result.andThen_ok, hb]

theorem s_eqb {neg : Bool} {t u : TypeId} {x y : Operand} (ho : o.op = .binOp (if neg then .neq else .eql) t x y u) (ht : P.underlying t = some .bool) (hF : FR φ h.length nt fr a.tmps) (hH : HR φ B h w) {v h'}
    (ha : aop fr h (.eqb neg x y) = some (v, h')) : OpOK P B φ h a w o v h' := by
  simp only [aop] at ha
  split at ha
  · rename_i p q hp hq
    cases ha
    have ep := bool_inv (ev_sound hF hp)
    have eq := bool_inv (ev_sound hF hq)
    refine OpOK.pure hH ?_ (.bool _)
    have := run_eqneq (P := P) (w := w) (neg := neg) (x := x) (y := y) (eqIn_bool (w := w) 9999 ht p q) (.inl ⟨p, q, rfl, rfl⟩)
    simp only [execOp, ho, ep, eq]
    rw [Sem.run_bind, this]; rfl
  · cases ha

theorem s_eqn {neg : Bool} {k : Nat} {t u : TypeId} {x : Operand} {c : Value} (ho : o.op = .binOp (if neg then .neq else .eql) t x (.const c) u)
    (hk : (k = 0 ∧ c = .slice none 0 0 ∧ ∃ e, P.underlying t = some (.slice e)) ∨ (k = 1 ∧ c = .pointer none ∧ ∃ e, P.underlying t = some (.pointer e)) ∨ (k = 2 ∧ c = .nilFunc ∧ ∃ p r s, P.underlying t = some (.func p r s)))
    (hF : FR φ h.length nt fr a.tmps) (hH : HR φ B h w) {v h'}
    (ha : aop fr h (.eqn neg k x) = some (v, h')) : OpOK P B φ h a w o v h' := by
  simp only [aop] at ha
  split at ha
  · rename_i p hp
    have rp := ev_sound hF hp
    split at ha
    · rename_i b hb
      cases ha
      refine OpOK.pure hH ?_ (.bool _)
      have key : ((do eqGuard (if neg then BinOp.neq else BinOp.eql) t x (.const c) (a.eval x) c; binOp (if neg then BinOp.neq else BinOp.eql) t (a.eval x) c) : Sem Value).run P w = .ok (.bool (neg != b)) w := by
        rcases hk with ⟨rfl, rfl, e, ht⟩ | ⟨rfl, rfl, e, ht⟩ | ⟨rfl, rfl, e1, e2, e3, ht⟩
        · unfold anil at hb
          split at hb <;> first | (exfalso; omega) | (cases hb; done) | skip
          · cases hb
            generalize a.eval x = v' at rp ⊢
            cases rp with
            | snil => exact run_eqneq (eqIn_slice (w := w) 9999 ht none 0 0) (.inr (.inl ⟨_, _, _, rfl, rfl⟩))
            | sl => exact run_eqneq (eqIn_slice (w := w) 9999 ht (some _) _ _) (.inr (.inl ⟨_, _, _, rfl, rfl⟩))
            | slz => exact run_eqneq (eqIn_slice (w := w) 9999 ht (some _) _ _) (.inr (.inl ⟨_, _, _, rfl, rfl⟩))
        · unfold anil at hb
          split at hb <;> first | (exfalso; omega) | (cases hb; done) | skip
          · cases hb
            generalize a.eval x = v' at rp ⊢
            cases rp with
            | pnil => exact run_eqneq (eqIn_ptr (w := w) 9999 ht none) (.inr (.inr (.inl ⟨_, rfl, rfl⟩)))
            | ptr => exact run_eqneq (eqIn_ptr (w := w) 9999 ht (some _)) (.inr (.inr (.inl ⟨_, rfl, rfl⟩)))
        · unfold anil at hb
          split at hb <;> first | (exfalso; omega) | (cases hb; done) | skip
          · cases hb
            generalize a.eval x = v' at rp ⊢
            cases rp with
            | nilFunc => exact run_eqneq (eqIn_nilFunc (w := w) 9999 ht) (.inr (.inr (.inr ⟨rfl, .inl rfl⟩)))
          · cases hb
            generalize a.eval x = v' at rp ⊢
            cases rp with
            | func f cs cs' => exact run_eqneq (eqIn_func (w := w) 9999 ht f cs') (.inr (.inr (.inr ⟨rfl, .inr ⟨_, _, rfl⟩⟩)))
      have ec : a.eval (.const c) = c := rfl
      simp only [execOp, ho, ec]
      rw [Sem.run_bind, key]; rfl
    · cases ha
  · cases ha

theorem s_un {op : UnOp} {t : TypeId} {x : Operand} (ho : o.op = .unOp op t x) (hF : FR φ h.length nt fr a.tmps) (hH : HR φ B h w) {v h'}
    (ha : aop fr h (.un op x) = some (v, h')) : OpOK P B φ h a w o v h' := by
  simp only [aop] at ha
  split at ha
  · rename_i p hp
    have rp := ev_sound hF hp
    split at ha
    · rename_i u hu
      cases ha
      unfold aun at hu
      split at hu <;> first | (cases hu; done) | skip
      · cases hu; have e := bool_inv rp; exact OpOK.pure hH (by simp [execOp, ho, e, Op.unary]) (.bool _)
      · cases hu; have e := int_inv rp; exact OpOK.pure hH (by simp [execOp, ho, e, Op.unary, Op.intArith]) (.int _ _)
      · cases hu; have e := int_inv rp; exact OpOK.pure hH (by simp [execOp, ho, e, Op.unary, Op.intBits, bits]) (.int _ _)
    · cases ha
  · cases ha

theorem s_conv {s d : TypeId} {k k' : IntKind} {x : Operand} (ho : o.op = .convert s d x) (hs : P.underlying s = some (.int k')) (hd : P.underlying d = some (.int k)) (hF : FR φ h.length nt fr a.tmps) (hH : HR φ B h w) {v h'}
    (ha : aop fr h (.conv k x) = some (v, h')) : OpOK P B φ h a w o v h' := by
  simp only [aop] at ha
  split at ha
  · rename_i p hp
    cases ha
    have e := int_inv (ev_sound hF hp)
    exact OpOK.pure hH (by simp [execOp, ho, e, convert, run_underlying hs, run_underlying hd, Conv.intToInt]) (.int _ _)
  · cases ha

/-- a new row: what is left to show -/
theorem OpOK.new {φ : Ren} {h : H} {r : Row} {v : Value} (hH : HR φ B h w) {cur : Array Value} (hr : r.own = true) {v' : Value} {w' : World}
    (hrun : (execOp a.eval o).run P w = .ok (.value v') w') (hw : w' = w.alloc (.cells cur r.elem) ∨ w' = w.drew.alloc (.cells cur r.elem)) (hone : ∀ c ∈ r.cells, c.oneCell' = true)
    (hcur : ∀ (i : Nat) (c : Value), r.cells[i]? = some c → ∃ v, cur[i]? = some v ∧ VR φ h.length c v)
    (hv : VR (φ.with h.length ⟨w.heap.size, 0, cur.size, r.unit, true⟩) (h.length + 1) v v') : OpOK P B φ h a w o (some v) (h ++ [.row r]) := by
  have hsz : w'.heap.size = w.heap.size + 1 := by rcases hw with rfl | rfl <;> simp
  have hold : ∀ k, k < w.heap.size → w'.heap[k]? = w.heap[k]? := by
    intro k hk
    rcases hw with rfl | rfl
    · exact Below.heap_alloc w _ k hk
    · exact Below.heap_alloc w.drew _ k hk
  have hnew : w'.heap[w.heap.size]? = some (.cells cur r.elem) := by
    rcases hw with rfl | rfl
    · exact Go.heap_alloc_new w _
    · exact Go.heap_alloc_new w.drew _
  refine ⟨_, v', w', hrun, fun u hu => ?_, hH.push r w.heap.size 0 cur hr (by omega) (fun k hk _ => hold k hk) hH.size (fun o r hr ho => ?_) hnew hone (by simpa using hcur), Ext.with _ _ _, by simp, ?_⟩
  · cases hu; simpa using hv
  · obtain ⟨_, _, _, cur, h4, _⟩ := hH.own o r hr ho
    have := (Array.getElem?_eq_some_iff.1 h4).1
    omega
  · have hb : ∀ k, k < B → w'.heap[k]? = w.heap[k]? := fun k hk => hold k (Nat.lt_of_lt_of_le hk hH.size)
    rcases hw with rfl | rfl <;> exact ⟨rfl, rfl, rfl, by simp, hb⟩

theorem s_alloc {t : TypeId} {i : TypeInfo} {z : Value} (ho : o.op = .alloc t) (hi : P.info? t = some i) (hz : i.zero = some z) (hc : z.cells.all closed1 = true) (hH : HR φ B h w) {v h'}
    (ha : aop fr h (.alloc t z.cells.toList) = some (v, h')) : OpOK P B φ h a w o v h' := by
  simp only [aop] at ha
  cases ha
  have hcl : ∀ c ∈ z.cells.toList, closed1 c = true := by rw [Array.all_eq_true'] at hc; simpa using hc
  refine OpOK.new (cur := z.cells) hH rfl (v' := .pointer (some ⟨w.heap.size, 0, none⟩)) (by simp [execOp, ho, Instr.alloc, run_zeroValue hi hz, newVar, newRow]) (.inl rfl) (fun c hc => (closed1_VR (φ := φ) (n := 0) (hcl c hc)).2) (fun j c hj => ?_) ?_
  · exact ⟨c, by simpa using hj, (closed1_VR (hcl c (List.mem_of_getElem? hj))).1⟩
  · have := VR.ptr (φ := φ.with h.length ⟨w.heap.size, 0, z.cells.size, 0, true⟩) (n := h.length + 1) h.length 0 (by omega)
    simpa [Ren.with_same] using this

theorem s_box {t : TypeId} {n : Nat} {x : Operand} (ho : o.op = .box t x) (hF : FR φ h.length nt fr a.tmps) (hH : HR φ B h w) {v h'}
    (ha : aop fr h (.box t n x) = some (v, h')) : OpOK P B φ h a w o v h' := by
  simp only [aop] at ha
  split at ha
  · rename_i u hu
    split at ha
    · rename_i hs
      cases ha
      have ru := ev_sound hF hu
      refine OpOK.new (cur := (a.eval x).cells) hH rfl (v' := .pointer (some ⟨w.heap.size, 0, none⟩)) (by simp [execOp, ho, Instr.box, newVar, newRow]) (.inl rfl) (ru.cells_one hs.2) (fun j c hj => ?_) ?_
      · obtain ⟨v', h1, h2⟩ := ru.cells.2 j c hj
        exact ⟨v', by simpa using h1, h2⟩
      · have := VR.ptr (φ := φ.with h.length ⟨w.heap.size, 0, (a.eval x).cells.size, 0, true⟩) (n := h.length + 1) h.length 0 (by omega)
        simpa [Ren.with_same] using this
    · cases ha
  · cases ha

theorem s_ld {t : TypeId} {x : Operand} {d : TypeDesc} {i : TypeInfo} (ho : o.op = .load t x) (hd : P.underlying t = some d) (hi : P.info? t = some i) (hF : FR φ h.length nt fr a.tmps) (hH : HR φ B h w) {v h'}
    (ha : aop fr h (.ld (isAggD d) i.size x) = some (v, h')) : OpOK P B φ h a w o v h' := by
  simp only [aop] at ha
  split at ha
  · rename_i p hp
    obtain ⟨hs, hlt, e⟩ := ptr_inv (ev_sound hF hp)
    simp only [hs, Option.isSome_none, Bool.false_eq_true, if_false] at ha
    split at ha
    · rename_i hag
      split at ha
      · rename_i cs hcs
        cases ha
        obtain ⟨hlen, hone, cs', h1, h2⟩ := hH.cells hcs
        have hl := run_loadCells_list (P := P) w ⟨(φ p.block).blk, (φ p.block).sh + p.off, none⟩ cs' h2
        rw [← h1.1, hlen] at hl
        refine OpOK.pure hH ?_ (h1.agg hone)
        simp [execOp, ho, e, Instr.loadAt, Instr.sureAddr, loadVar, run_isAgg hd, hag, run_sizeOf hi, hl]
      · cases ha
    · rename_i hag
      split at ha
      · rename_i u hu
        cases ha
        unfold H.ld1 at hu
        split at hu
        · rename_i r hr
          obtain ⟨u', h1, h2⟩ := hH.cell hr hu
          refine OpOK.pure hH ?_ h2
          simp [execOp, ho, e, Instr.loadAt, Instr.sureAddr, loadVar, run_isAgg hd, hag, h1]
        · cases hu
      · cases ha
  · cases ha

theorem s_nilck {x : Operand} (ho : o.op = .nilCheck x) (hF : FR φ h.length nt fr a.tmps) (hH : HR φ B h w) {v h'}
    (ha : aop fr h (.nilck x) = some (v, h')) : OpOK P B φ h a w o v h' := by
  simp only [aop] at ha
  split at ha
  · rename_i p hp
    cases ha
    have rp := ev_sound hF hp
    obtain ⟨hs, hlt, e⟩ := ptr_inv rp
    refine OpOK.pure hH ?_ rp
    simp [execOp, ho, e]
  · cases ha

theorem s_mkf {f : FuncId} {first cap : Array Operand} (ho : o.op = .makeFunc (.func f) first cap) (hfi : first.isEmpty = true) (hF : FR φ h.length nt fr a.tmps) (hH : HR φ B h w) {v h'}
    (ha : aop fr h (.mkf f cap.toList) = some (v, h')) : OpOK P B φ h a w o v h' := by
  simp only [aop] at ha
  split at ha
  · rename_i vs hvs
    cases ha
    have hl := evs_sound hF hvs
    have he : first = #[] := by simpa using hfi
    subst he
    have e : (cap.toList.map a.eval).toArray = cap.map a.eval := by apply Array.toList_inj.1; simp
    refine OpOK.pure hH ?_ (hl.func f)
    rw [e]
    simp [execOp, ho, Instr.makeFunc]
  · cases ha

theorem s_faddr {s : TypeId} {x : Operand} {f : Nat} {fs : Array Field} {fd : Field} {i : TypeInfo} (ho : o.op = .fieldAddr s x f) (hs : P.underlying s = some (.struct fs)) (hf : fs[f]? = some fd) (hi : P.info? fd.type = some i) (hz : ¬ i.size = 0)
    (hF : FR φ h.length nt fr a.tmps) (hH : HR φ B h w) {v h'} (ha : aop fr h (.faddr fd.offset x) = some (v, h')) : OpOK P B φ h a w o v h' := by
  simp only [aop] at ha
  split at ha
  · rename_i p hp
    obtain ⟨h1, hlt, e⟩ := ptr_inv (ev_sound hF hp)
    simp only [h1, Option.isSome_none, Bool.false_eq_true, if_false] at ha
    cases ha
    have := VR.ptr (φ := φ) (n := h.length) p.block (p.off + fd.offset) hlt
    refine OpOK.pure hH ?_ this
    simp [execOp, ho, e, Instr.fieldAt, run_underlying hs, hf, Instr.sureAddr, fieldPlace, run_sizeOf hi, hz, add_off, Nat.add_assoc]
  · cases ha

theorem part_run {t : TypeId} {d : TypeDesc} {i : TypeInfo} (hd : P.underlying t = some d) (hi : P.info? t = some i) {cs cs' : Array Value} (hl : LR φ h.length cs.toList cs'.toList) (hone : ∀ c ∈ cs.toList, c.oneCell' = true) (off : Nat) :
    (isAggD d = true → ∃ v', (part t cs' off).run P w = .ok v' w ∧ VR φ h.length (.agg (cs.extract off (off + i.size))) v') ∧
    (isAggD d = false → ∀ u, cs[off]? = some u → ∃ v', (part t cs' off).run P w = .ok v' w ∧ VR φ h.length u v') := by
  constructor
  · intro hag
    refine ⟨.agg (cs'.extract off (off + i.size)), by simp [part, run_isAgg hd, hag, run_sizeOf hi], ?_⟩
    have hl2 := (hl.drop off).take i.size
    have e1 : ∀ l : Array Value, l.extract off (off + i.size) = (((l.toList.drop off).take i.size)).toArray := by
      intro l; apply Array.toList_inj.1; simp [Array.toList_extract, List.extract]
    rw [e1, e1]
    exact hl2.agg fun c hc => hone c (List.mem_of_mem_drop (List.mem_of_mem_take hc))
  · intro hag u hu
    obtain ⟨v', h1, h2⟩ := hl.2 off u (by simpa using hu)
    have h1' : cs'[off]? = some v' := by simpa using h1
    exact ⟨v', by simp [part, run_isAgg hd, hag, h1'], h2⟩

theorem s_fld {s : TypeId} {x : Operand} {f : Nat} {fs : Array Field} {fd : Field} {d : TypeDesc} {i : TypeInfo} (ho : o.op = .field s x f) (hs : P.underlying s = some (.struct fs)) (hf : fs[f]? = some fd) (hd : P.underlying fd.type = some d) (hi : P.info? fd.type = some i)
    (hF : FR φ h.length nt fr a.tmps) (hH : HR φ B h w) {v h'} (ha : aop fr h (.fld (isAggD d) fd.offset i.size x) = some (v, h')) : OpOK P B φ h a w o v h' := by
  simp only [aop] at ha
  split at ha
  · rename_i cs hp
    obtain ⟨cs', e, hl, hone⟩ := agg_inv (ev_sound hF hp)
    have hpart := part_run (P := P) (w := w) hd hi hl hone fd.offset
    have hx : ∀ v', (part fd.type cs' fd.offset).run P w = .ok v' w → (execOp a.eval o).run P w = .ok (.value v') w := by
      intro v' hv'
      simp [execOp, ho, e, Instr.field, run_underlying hs, hf, asAgg, hv']
    split at ha
    · rename_i hag
      cases ha
      obtain ⟨v', h1, h2⟩ := hpart.1 hag
      exact OpOK.pure hH (hx v' h1) h2
    · rename_i hag
      split at ha
      · rename_i u hu
        cases ha
        obtain ⟨v', h1, h2⟩ := hpart.2 hag u hu
        exact OpOK.pure hH (hx v' h1) h2
      · cases ha
  · cases ha

theorem s_iaddr {t e : TypeId} {x ix : Operand} {i : TypeInfo} (ho : o.op = .indexAddr t x ix) (ht : P.underlying t = some (.slice e)) (hi : P.info? e = some i)
    (hF : FR φ h.length nt fr a.tmps) (hH : HR φ B h w) {v h'} (ha : aop fr h (.iaddr i.size x ix) = some (v, h')) : OpOK P B φ h a w o v h' := by
  simp only [aop] at ha
  split at ha
  · rename_i p l c k j hp hj
    obtain ⟨h1, hlt, hinv⟩ := sl_inv (ev_sound hF hp)
    have e2 := int_inv (ev_sound hF hj)
    split at ha
    · rename_i hb
      obtain ⟨c', q, _, hq, _, e1⟩ := hinv.resolve_left fun hh => by omega
      obtain rfl : q = (φ p.block).sh + p.off := by omega
      simp only [h1, Option.isSome_none, Bool.false_eq_true, if_false] at ha
      cases ha
      have := VR.ptr (φ := φ) (n := h.length) p.block (p.off + j.toNat * i.size) hlt
      refine OpOK.pure hH ?_ this
      simp [execOp, ho, e1, e2, Instr.indexAt, run_underlying ht, asIntOf, hb, run_sizeOf hi, add_off, Nat.add_assoc]
    · cases ha
  · cases ha

theorem s_iaddrA {t e : TypeId} {n : Nat} {x ix : Operand} {i : TypeInfo} (ho : o.op = .indexAddr t x ix) (ht : P.underlying t = some (.array n e)) (hi : P.info? e = some i)
    (hF : FR φ h.length nt fr a.tmps) (hH : HR φ B h w) {v h'} (ha : aop fr h (.iaddrA n i.size x ix) = some (v, h')) : OpOK P B φ h a w o v h' := by
  simp only [aop] at ha
  split at ha
  · rename_i p k j hp hj
    obtain ⟨h1, hlt, e1⟩ := ptr_inv (ev_sound hF hp)
    have e2 := int_inv (ev_sound hF hj)
    split at ha
    · rename_i hb
      simp only [h1, Option.isSome_none, Bool.false_eq_true, if_false] at ha
      cases ha
      have := VR.ptr (φ := φ) (n := h.length) p.block (p.off + j.toNat * i.size) hlt
      refine OpOK.pure hH ?_ this
      simp [execOp, ho, e1, e2, Instr.indexAt, run_underlying ht, Instr.sureAddr, asIntOf, hb, run_sizeOf hi, add_off, Nat.add_assoc]
    · cases ha
  · cases ha

theorem s_idxA {t e : TypeId} {n : Nat} {x ix : Operand} {d : TypeDesc} {i : TypeInfo} (ho : o.op = .index t x ix) (ht : P.underlying t = some (.array n e)) (hd : P.underlying e = some d) (hi : P.info? e = some i)
    (hF : FR φ h.length nt fr a.tmps) (hH : HR φ B h w) {v h'} (ha : aop fr h (.idxA n i.size (isAggD d) x ix) = some (v, h')) : OpOK P B φ h a w o v h' := by
  simp only [aop] at ha
  split at ha
  · rename_i cs k j hp hj
    obtain ⟨cs', e1, hl, hone⟩ := agg_inv (ev_sound hF hp)
    have e2 := int_inv (ev_sound hF hj)
    split at ha
    · rename_i hb
      have hpart := part_run (P := P) (w := w) hd hi hl hone (j.toNat * i.size)
      have hx : ∀ v', (part e cs' (j.toNat * i.size)).run P w = .ok v' w → (execOp a.eval o).run P w = .ok (.value v') w := by
        intro v' hv'
        simp [execOp, ho, e1, e2, Instr.index, run_underlying ht, asIntOf, hb, run_sizeOf hi, hv']
      split at ha
      · rename_i hag
        cases ha
        obtain ⟨v', h1, h2⟩ := hpart.1 hag
        exact OpOK.pure hH (hx v' h1) h2
      · rename_i hag
        split at ha
        · rename_i u hu
          cases ha
          obtain ⟨v', h1, h2⟩ := hpart.2 hag u hu
          exact OpOK.pure hH (hx v' h1) h2
        · cases ha
    · cases ha
  · cases ha

theorem s_idxS {t : TypeId} {x ix : Operand} (ho : o.op = .index t x ix) (ht : P.underlying t = some .string)
    (hF : FR φ h.length nt fr a.tmps) (hH : HR φ B h w) {v h'} (ha : aop fr h (.idxS x ix) = some (v, h')) : OpOK P B φ h a w o v h' := by
  simp only [aop] at ha
  split at ha
  · rename_i s k j hp hj
    have e1 := str_inv (ev_sound hF hp)
    have e2 := int_inv (ev_sound hF hj)
    split at ha
    · rename_i h0
      split at ha
      · rename_i b hb
        cases ha
        refine OpOK.pure hH ?_ (.int _ _)
        simp [execOp, ho, e1, e2, Instr.index, run_underlying ht, asIntOf, h0, hb]
      · cases ha
    · cases ha
  · cases ha

theorem s_ext {x : Operand} {i : Nat} (ho : o.op = .extract x i) (hF : FR φ h.length nt fr a.tmps) (hH : HR φ B h w) {v h'}
    (ha : aop fr h (.ext i x) = some (v, h')) : OpOK P B φ h a w o v h' := by
  simp only [aop] at ha
  split at ha
  · rename_i vs hp
    obtain ⟨cs', e1, hl⟩ := tuple_inv (ev_sound hF hp)
    split at ha
    · rename_i u hu
      cases ha
      obtain ⟨v', h1, h2⟩ := hl.2 i u (by simpa using hu)
      have h1' : cs'[i]? = some v' := by simpa using h1
      refine OpOK.pure hH ?_ h2
      simp [execOp, ho, e1, Instr.extract, h1']
    · cases ha
  · cases ha
end
end Go.Am
