/-
  How the small machine's memory lies in the model's world: values, frames and rows, and that this is kept. No condition.
-/
import Derived.Test.YtammndhoillliaaAm2
namespace Go.Am
set_option linter.unusedVariables false
set_option linter.unusedSimpArgs false

/-- where an object of the small machine lies -/
structure Ent where
  blk : Nat
  sh : Nat
  cap : Nat
  unit : Nat
  own : Bool
abbrev Ren := Nat → Ent

inductive VR (φ : Ren) (n : Nat) : Value → Value → Prop
  | bool (b : Bool) : VR φ n (.bool b) (.bool b)
  | int (k : IntKind) (i : Int) : VR φ n (.int k i) (.int k i)
  | float (k : FloatKind) (i : Nat) : VR φ n (.float k i) (.float k i)
  | str (s : ByteArray) : VR φ n (.string s) (.string s)
  | nilFunc : VR φ n .nilFunc .nilFunc
  | nilIface : VR φ n .nilIface .nilIface
  | pnil : VR φ n (.pointer none) (.pointer none)
  | snil : VR φ n (.slice none 0 0) (.slice none 0 0)
  | mnil : VR φ n (.map none) (.map none)
  | ptr (o off : Nat) : o < n → VR φ n (.pointer (some ⟨o, off, none⟩)) (.pointer (some ⟨(φ o).blk, (φ o).sh + off, none⟩))
  | sl (o off l c c' q : Nat) : o < n → c ≤ c' → (q = (φ o).sh + off ∨ (l = 0 ∧ c = 0)) → ((φ o).own = true → q + c' * (φ o).unit ≤ (φ o).cap) →
      VR φ n (.slice (some ⟨o, off, none⟩) l c) (.slice (some ⟨(φ o).blk, q, none⟩) l c')
  /-- an empty slice that came in: its address says nothing -/
  | slz (o off : Nat) (x : Addr) : o < n → (φ o).own = false → VR φ n (.slice (some ⟨o, off, none⟩) 0 0) (.slice (some x) 0 0)
  | func (f : FuncId) (cs cs' : Array Value) : cs.size = cs'.size → (∀ i (h : i < cs.size) (h' : i < cs'.size), VR φ n cs[i] cs'[i]) → VR φ n (.func (.func f) #[] cs) (.func (.func f) #[] cs')
  | agg (cs cs' : Array Value) : cs.size = cs'.size → (∀ i (h : i < cs.size), cs[i].oneCell' = true) → (∀ i (h : i < cs.size) (h' : i < cs'.size), VR φ n cs[i] cs'[i]) → VR φ n (.agg cs) (.agg cs')
  | tuple (cs cs' : Array Value) : cs.size = cs'.size → (∀ i (h : i < cs.size) (h' : i < cs'.size), VR φ n cs[i] cs'[i]) → VR φ n (.tuple cs) (.tuple cs')

/-- φ' goes on where φ ends -/
def Ext (φ : Ren) (n : Nat) (φ' : Ren) : Prop := ∀ o, o < n → φ' o = φ o
theorem Ext.refl (φ : Ren) (n : Nat) : Ext φ n φ := fun _ _ => rfl
theorem Ext.trans {φ φ' φ'' : Ren} {n n' : Nat} (h : Ext φ n φ') (h' : Ext φ' n' φ'') (hn : n ≤ n') : Ext φ n φ'' :=
  fun o ho => (h' o (by omega)).trans (h o ho)

theorem VR.mono {φ φ' : Ren} {n n' : Nat} {v v' : Value} (h : VR φ n v v') (he : Ext φ n φ') (hn : n ≤ n') : VR φ' n' v v' := by
  induction h with
  | bool b => exact .bool b
  | int k i => exact .int k i
  | float k i => exact .float k i
  | str s => exact .str s
  | nilFunc => exact .nilFunc
  | nilIface => exact .nilIface
  | pnil => exact .pnil
  | snil => exact .snil
  | mnil => exact .mnil
  | ptr o off ho => rw [← he o ho]; exact .ptr o off (by omega)
  | sl o off l c c' q ho hc hq hcap => rw [← he o ho]; exact .sl o off l c c' q (by omega) hc (by rw [he o ho]; exact hq) (by rw [he o ho]; exact hcap)
  | slz o off x ho hw => exact .slz o off x (by omega) (by rw [he o ho]; exact hw)
  | func f cs cs' hs _ ih => exact .func f cs cs' hs ih
  | agg cs cs' hs h1 _ ih => exact .agg cs cs' hs h1 ih
  | tuple cs cs' hs _ ih => exact .tuple cs cs' hs ih

theorem VR.one {φ : Ren} {n : Nat} {v v' : Value} (h : VR φ n v v') : v'.oneCell' = v.oneCell' := by cases h <;> rfl

/-- lists of values, one by one -/
def LR (φ : Ren) (n : Nat) (l l' : List Value) : Prop := l.length = l'.length ∧ ∀ (i : Nat) (v : Value), l[i]? = some v → ∃ v', l'[i]? = some v' ∧ VR φ n v v'

theorem LR.nil (φ : Ren) (n : Nat) : LR φ n [] [] := ⟨rfl, fun i v h => by simp at h⟩
theorem LR.cons {φ : Ren} {n : Nat} {v v' : Value} {l l' : List Value} (hv : VR φ n v v') (hl : LR φ n l l') : LR φ n (v :: l) (v' :: l') := by
  refine ⟨by simp [hl.1], fun i u h => ?_⟩
  cases i with
  | zero => simp at h; subst h; exact ⟨v', rfl, hv⟩
  | succ i => simpa using hl.2 i u (by simpa using h)
theorem LR.mono {φ φ' : Ren} {n n' : Nat} {l l' : List Value} (h : LR φ n l l') (he : Ext φ n φ') (hn : n ≤ n') : LR φ' n' l l' :=
  ⟨h.1, fun i v hv => let ⟨v', h1, h2⟩ := h.2 i v hv; ⟨v', h1, h2.mono he hn⟩⟩
theorem LR.append {φ : Ren} {n : Nat} {a a' b b' : List Value} (ha : LR φ n a a') (hb : LR φ n b b') : LR φ n (a ++ b) (a' ++ b') := by
  refine ⟨by simp [ha.1, hb.1], fun i v h => ?_⟩
  by_cases hi : i < a.length
  · rw [List.getElem?_append_left hi] at h
    rw [List.getElem?_append_left (by rw [← ha.1]; exact hi)]
    exact ha.2 i v h
  · rw [List.getElem?_append_right (by omega)] at h
    rw [List.getElem?_append_right (by rw [← ha.1]; omega), ← ha.1]
    exact hb.2 _ v h
theorem LR.take {φ : Ren} {n : Nat} {a a' : List Value} (ha : LR φ n a a') (k : Nat) : LR φ n (a.take k) (a'.take k) := by
  refine ⟨by simp [ha.1], fun i v h => ?_⟩
  rw [List.getElem?_take] at h ⊢
  split at h
  · rw [if_pos ‹_›]; exact ha.2 i v h
  · cases h
theorem LR.drop {φ : Ren} {n : Nat} {a a' : List Value} (ha : LR φ n a a') (k : Nat) : LR φ n (a.drop k) (a'.drop k) := by
  refine ⟨by simp [ha.1], fun i v h => ?_⟩
  rw [List.getElem?_drop] at h ⊢
  exact ha.2 _ v h
theorem LR.splice {φ : Ren} {n : Nat} {a a' b b' : List Value} (ha : LR φ n a a') (hb : LR φ n b b') (off : Nat) : LR φ n (splice a off b) (splice a' off b') := by
  unfold Am.splice
  rw [hb.1]
  exact ((ha.take off).append hb).append (ha.drop _)
theorem LR.of_arrays {φ : Ren} {n : Nat} {cs cs' : Array Value} (hs : cs.size = cs'.size) (h : ∀ i (h : i < cs.size) (h' : i < cs'.size), VR φ n cs[i] cs'[i]) : LR φ n cs.toList cs'.toList := by
  refine ⟨by simpa using hs, fun i v hv => ?_⟩
  rw [Array.getElem?_toList] at hv ⊢
  obtain ⟨hi, he⟩ := Array.getElem?_eq_some_iff.1 hv
  exact ⟨cs'[i]'(by omega), by simp [hs ▸ hi], he ▸ h i hi (by omega)⟩
theorem LR.arrays {φ : Ren} {n : Nat} {l l' : List Value} (h : LR φ n l l') : ∀ i (h : i < l.toArray.size) (h' : i < l'.toArray.size), VR φ n l.toArray[i] l'.toArray[i] := by
  intro i h1 h2
  obtain ⟨v', h3, h4⟩ := h.2 i l[i] (by simp [List.getElem?_eq_getElem (show i < l.length by simpa using h1)])
  simp at h1 h2 ⊢
  rw [List.getElem?_eq_getElem h2] at h3
  simp at h3
  rw [h3]; exact h4
theorem LR.one {φ : Ren} {n : Nat} {l l' : List Value} (h : LR φ n l l') (h1 : ∀ v ∈ l, v.oneCell' = true) : ∀ v ∈ l', v.oneCell' = true := by
  intro v' hv'
  obtain ⟨i, hi, he⟩ := List.getElem_of_mem hv'
  have hil : i < l.length := by rw [h.1]; exact hi
  obtain ⟨u, h2, h3⟩ := h.2 i l[i] (List.getElem?_eq_getElem hil)
  rw [List.getElem?_eq_getElem hi] at h2
  simp at h2
  rw [← he, h2, h3.one]
  exact h1 _ (List.getElem_mem hil)

theorem VR.cells {φ : Ren} {n : Nat} {v v' : Value} (h : VR φ n v v') : LR φ n v.cells.toList v'.cells.toList := by
  cases h with
  | agg cs cs' hs _ hh => exact LR.of_arrays hs hh
  | _ => refine LR.cons ?_ (LR.nil _ _); constructor <;> assumption
theorem VR.cells_size {φ : Ren} {n : Nat} {v v' : Value} (h : VR φ n v v') : v'.cells.size = v.cells.size := by
  have := h.cells.1; simpa using this.symm
theorem VR.cells_one {φ : Ren} {n : Nat} {v v' : Value} (h : VR φ n v v') (hf : flat v = true) : ∀ c ∈ v.cells.toList, c.oneCell' = true := by
  cases h with
  | agg cs cs' hs h1 hh =>
    intro c hc
    obtain ⟨i, hi, he⟩ := List.getElem_of_mem hc
    have : i < cs.size := by simpa [Value.cells] using hi
    rw [← he]; simpa [Value.cells] using h1 i this
  | tuple => cases hf
  | _ => intro c hc; simp [Value.cells] at hc; subst hc; rfl

theorem closed1_VR {φ : Ren} {n : Nat} {v : Value} (h : closed1 v = true) : VR φ n v v ∧ v.oneCell' = true := by
  unfold closed1 at h
  split at h <;> first | cases h; done | exact ⟨by constructor, rfl⟩
theorem closed_VR {φ : Ren} {n : Nat} {v : Value} (h : closed v = true) : VR φ n v v := by
  unfold closed at h
  split at h
  · rename_i cs
    rw [Array.all_eq_true] at h
    exact .agg cs cs rfl (fun i hi => (closed1_VR (φ := φ) (n := n) (h i hi)).2) fun i hi _ => (closed1_VR (h i hi)).1
  · rename_i cs
    rw [Array.all_eq_true] at h
    exact .tuple cs cs rfl fun i hi _ => (closed1_VR (h i hi)).1
  · exact (closed1_VR h).1
theorem closed1_LR {φ : Ren} {n : Nat} {l : List Value} (h : l.all closed1 = true) : LR φ n l l := by
  rw [List.all_eq_true] at h
  exact ⟨rfl, fun i v hv => ⟨v, hv, (closed1_VR (h v (List.mem_of_getElem? hv))).1⟩⟩

/-! ### frames -/
def FR (φ : Ren) (n nt : Nat) (fr : Fr) (tmps : Array Value) : Prop := nt ≤ tmps.size ∧ ∀ (t : Nat) (v : Value), fr t = some v → ∃ v', tmps[t]? = some v' ∧ VR φ n v v'

theorem FR.mono {φ φ' : Ren} {n n' nt : Nat} {fr : Fr} {tmps : Array Value} (h : FR φ n nt fr tmps) (he : Ext φ n φ') (hn : n ≤ n') : FR φ' n' nt fr tmps :=
  ⟨h.1, fun t v hv => let ⟨v', h1, h2⟩ := h.2 t v hv; ⟨v', h1, h2.mono he hn⟩⟩
theorem beq_true {a b : Nat} (h : Nat.beq a b = true) : a = b := Nat.eq_of_beq_eq_true h
theorem FR.put {φ : Ren} {n nt : Nat} {fr : Fr} {a : Act} (h : FR φ n nt fr a.tmps) (dst : Option Nat) (hd : ∀ d, dst = some d → d < nt) (v : Option Value) (v' : Value)
    (hv : ∀ u : Value, v = some u → VR φ n u v') : FR φ n nt (fr.put dst v) (a.put dst v').tmps := by
  cases dst with
  | none => exact h
  | some d =>
    have hdn := hd d rfl
    have hds : d < a.tmps.size := Nat.lt_of_lt_of_le hdn h.1
    refine ⟨by simpa [Act.put] using h.1, fun t u hu => ?_⟩
    simp only [Act.put]
    have hcase : (Nat.beq t d = true ∧ v = some u) ∨ (Nat.beq t d = false ∧ fr t = some u) := by
      cases v with
      | none =>
        simp only [Fr.put, Fr.del] at hu
        cases hb : Nat.beq t d with
        | true => rw [hb] at hu; cases hu
        | false => rw [hb] at hu; exact .inr ⟨rfl, hu⟩
      | some v =>
        simp only [Fr.put, Fr.set] at hu
        cases hb : Nat.beq t d with
        | true => rw [hb] at hu; exact .inl ⟨rfl, hu⟩
        | false => rw [hb] at hu; exact .inr ⟨rfl, hu⟩
    rcases hcase with ⟨hb, rfl⟩ | ⟨hb, hu⟩
    · obtain rfl := beq_true hb
      exact ⟨v', by simp [hds], hv u rfl⟩
    · have hne : d ≠ t := by rintro rfl; rw [Nat.beq_refl] at hb; cases hb
      rw [Array.getElem?_setIfInBounds_ne hne]
      exact h.2 t u hu
theorem of_keepL (fr : Fr) : ∀ (ks : List Nat) (t : Nat) (v : Value), Fr.of (keepL fr ks) t = some v → fr t = some v
  | [], t, v, h => by simp [keepL, Fr.of] at h
  | k :: ks, t, v, h => by
    simp only [keepL] at h
    cases hk : fr k with
    | none => rw [hk] at h; exact of_keepL fr ks t v h
    | some u =>
      rw [hk] at h
      simp only [Fr.of] at h
      cases hb : Nat.beq t k with
      | true => rw [hb] at h; obtain rfl := beq_true hb; rw [hk]; exact h
      | false => rw [hb] at h; exact of_keepL fr ks t v h
theorem FR.keep {φ : Ren} {n nt : Nat} {fr : Fr} {tmps : Array Value} (h : FR φ n nt fr tmps) (ks : List Nat) : FR φ n nt (Fr.of (keepL fr ks)) tmps :=
  ⟨h.1, fun t v hv => h.2 t v (of_keepL fr ks t v hv)⟩
theorem args_get (vs : List Value) : ∀ (k t : Nat) (v : Value), Fr.args k vs t = some v → k ≤ t ∧ vs[t - k]? = some v := by
  induction vs with
  | nil => intro k t v h; simp [Fr.args] at h
  | cons u vs ih =>
    intro k t v h
    simp only [Fr.args] at h
    cases hb : Nat.beq t k with
    | true => rw [hb] at h; obtain rfl := beq_true hb; simp at h; subst h; exact ⟨Nat.le_refl _, by simp⟩
    | false =>
      rw [hb] at h
      obtain ⟨h1, h2⟩ := ih (k + 1) t v h
      exact ⟨by omega, by rw [show t - k = (t - (k + 1)) + 1 by omega]; simpa using h2⟩

/-! ### memory -/
structure HR (φ : Ren) (B : Nat) (h : H) (w : World) : Prop where
  own : ∀ o r, h.row o = some r → r.own = true → (φ o).own = true ∧ (φ o).unit = r.unit ∧ B ≤ (φ o).blk ∧
    ∃ cur, w.heap[(φ o).blk]? = some (.cells cur r.elem (0, 0)) ∧ cur.size = (φ o).cap ∧ ∀ (i : Nat) (c : Value), r.cells[i]? = some c → ∃ v, cur[(φ o).sh + i]? = some v ∧ VR φ h.length c v
  ro : ∀ o r, h.row o = some r → r.own = false → (φ o).own = false ∧ (φ o).blk < B ∧ ∀ (i : Nat) (c : Value), r.cells[i]? = some c → ∃ v, w.cell? ⟨(φ o).blk, (φ o).sh + i, none⟩ = some v ∧ VR φ h.length c v
  one : ∀ o r, h.row o = some r → ∀ c ∈ r.cells, c.oneCell' = true
  inj : ∀ o o' r r', h.row o = some r → h.row o' = some r' → r.own = true → r'.own = true → (φ o).blk = (φ o').blk → o = o'
  size : B ≤ w.heap.size

theorem row_lt {h : H} {o : Nat} {r : Row} (hr : h.row o = some r) : o < h.length := by
  unfold H.row at hr
  split at hr
  · rename_i hh
    exact (List.getElem?_eq_some_iff.1 hh).1
  · cases hr
theorem row_append_old {h : H} {b : List Ob} {o : Nat} (ho : o < h.length) : H.row (h ++ b) o = h.row o := by
  unfold H.row; rw [List.getElem?_append_left ho]
theorem row_append_new {h : H} {r : Row} : H.row (h ++ [.row r]) h.length = some r := by
  unfold H.row; simp
theorem row_append_some {h : H} {r r' : Row} {o : Nat} (hr : H.row (h ++ [.row r]) o = some r') : (o < h.length ∧ h.row o = some r') ∨ (o = h.length ∧ r' = r) := by
  have hlt := row_lt hr
  simp at hlt
  by_cases ho : o < h.length
  · exact .inl ⟨ho, by rw [row_append_old ho] at hr; exact hr⟩
  · obtain rfl : o = h.length := by omega
    rw [row_append_new] at hr
    exact .inr ⟨rfl, by simpa using hr.symm⟩
theorem row_set {h : H} {o o' : Nat} {b : Ob} : H.row (h.set o b) o' = if o = o' ∧ o < h.length then (match b with | .row r => some r | _ => none) else h.row o' := by
  unfold H.row
  rw [List.getElem?_set]
  by_cases he : o = o'
  · subst he
    by_cases hl : o < h.length
    · simp [hl]; cases b <;> rfl
    · simp [hl]
  · simp [he]

/-- reading a cell -/
theorem HR.cell {φ : Ren} {B : Nat} {h : H} {w : World} (hh : HR φ B h w) {o : Nat} {r : Row} (hr : h.row o = some r) {i : Nat} {c : Value} (hc : r.cells[i]? = some c) :
    ∃ v, w.cell? ⟨(φ o).blk, (φ o).sh + i, none⟩ = some v ∧ VR φ h.length c v := by
  cases ho : r.own with
  | true =>
    obtain ⟨_, _, _, cur, h1, _, h2⟩ := hh.own o r hr ho
    obtain ⟨v, h3, h4⟩ := h2 i c hc
    refine ⟨v, ?_, h4⟩
    rw [cell_of_row w _ _ cur _ _ h1]
    exact h3
  | false => exact (hh.ro o r hr ho).2.2 i c hc

/-- a world that is the same below and at all rows that are live -/
theorem HR.same {φ : Ren} {B : Nat} {h : H} {w w' : World} (hh : HR φ B h w) (hs : w.heap.size ≤ w'.heap.size)
    (hb : ∀ k, k < w.heap.size → w'.heap[k]? = w.heap[k]?) : HR φ B h w' := by
  refine ⟨fun o r hr ho => ?_, fun o r hr ho => ?_, hh.one, hh.inj, Nat.le_trans hh.size hs⟩
  · obtain ⟨h0, h2, h3, cur, h4, h5, h6⟩ := hh.own o r hr ho
    exact ⟨h0, h2, h3, cur, by rw [hb _ (Array.getElem?_eq_some_iff.1 h4).1]; exact h4, h5, h6⟩
  · obtain ⟨hn, h0, h1⟩ := hh.ro o r hr ho
    refine ⟨hn, h0, fun i c hc => ?_⟩
    obtain ⟨v, h2, h3⟩ := h1 i c hc
    exact ⟨v, by rw [← h2]; exact World.cell?_of_block (hb _ (Nat.lt_of_lt_of_le h0 hh.size)), h3⟩

def Ren.with (φ : Ren) (n : Nat) (e : Ent) : Ren := fun o => if o = n then e else φ o
theorem Ext.with (φ : Ren) (n : Nat) (e : Ent) : Ext φ n (φ.with n e) := fun o ho => by simp [Ren.with]; intro h; omega
theorem Ren.with_same (φ : Ren) (n : Nat) (e : Ent) : φ.with n e n = e := by simp [Ren.with]

/-- a new row of its own -/
theorem HR.push {φ : Ren} {B : Nat} {h : H} {w w' : World} (hh : HR φ B h w) (r : Row) (b sh : Nat) (cur : Array Value)
    (hr : r.own = true) (hsz : w.heap.size ≤ w'.heap.size) (hold : ∀ k, k < w.heap.size → k ≠ b → w'.heap[k]? = w.heap[k]?) (hB : B ≤ b)
    (hfree : ∀ o r, h.row o = some r → r.own = true → (φ o).blk ≠ b) (hb : w'.heap[b]? = some (.cells cur r.elem (0, 0)))
    (hone : ∀ c ∈ r.cells, c.oneCell' = true) (hcur : ∀ (i : Nat) (c : Value), r.cells[i]? = some c → ∃ v, cur[sh + i]? = some v ∧ VR φ h.length c v) :
    HR (φ.with h.length ⟨b, sh, cur.size, r.unit, true⟩) B (h ++ [.row r]) w' := by
  have hext := Ext.with φ h.length ⟨b, sh, cur.size, r.unit, true⟩
  have hlen : (h ++ [Ob.row r]).length = h.length + 1 := by simp
  have hmono : ∀ {c v}, VR φ h.length c v → VR (φ.with h.length ⟨b, sh, cur.size, r.unit, true⟩) (h ++ [Ob.row r]).length c v := fun hv => hv.mono hext (by omega)
  refine ⟨fun o r' hr' ho => ?_, fun o r' hr' ho => ?_, fun o r' hr' => ?_, fun o o' r1 r2 h1 h2 o1 o2 he => ?_, Nat.le_trans hh.size hsz⟩
  · rcases row_append_some hr' with ⟨hlt, hr'⟩ | ⟨rfl, rfl⟩
    · rw [hext o hlt]
      obtain ⟨h0, h2, h3, cur', h4, h5, h6⟩ := hh.own o r' hr' ho
      refine ⟨h0, h2, h3, cur', ?_, h5, fun i c hc => let ⟨v, h7, h8⟩ := h6 i c hc; ⟨v, h7, hmono h8⟩⟩
      rw [hold _ (Array.getElem?_eq_some_iff.1 h4).1 (hfree o r' hr' ho)]; exact h4
    · rw [Ren.with_same]
      exact ⟨rfl, rfl, hB, cur, hb, rfl, fun i c hc => let ⟨v, h7, h8⟩ := hcur i c hc; ⟨v, h7, hmono h8⟩⟩
  · rcases row_append_some hr' with ⟨hlt, hr'⟩ | ⟨rfl, rfl⟩
    · rw [hext o hlt]
      obtain ⟨hn, h0, h1⟩ := hh.ro o r' hr' ho
      refine ⟨hn, h0, fun i c hc => ?_⟩
      obtain ⟨v, h2, h3⟩ := h1 i c hc
      exact ⟨v, by rw [← h2]; exact World.cell?_of_block (hold _ (Nat.lt_of_lt_of_le h0 hh.size) (by simp; omega)), hmono h3⟩
    · rw [hr] at ho; cases ho
  · rcases row_append_some hr' with ⟨hlt, hr'⟩ | ⟨rfl, rfl⟩
    · exact hh.one o r' hr'
    · exact hone
  · rcases row_append_some h1 with ⟨l1, k1⟩ | ⟨rfl, rfl⟩ <;> rcases row_append_some h2 with ⟨l2, k2⟩ | ⟨rfl, rfl⟩
    · rw [hext o l1, hext o' l2] at he; exact hh.inj o o' r1 r2 k1 k2 o1 o2 he
    · rw [hext o l1, Ren.with_same] at he; exact absurd he (hfree o r1 k1 o1)
    · rw [hext o' l2, Ren.with_same] at he; exact absurd he.symm (hfree o' r2 k2 o2)
    · rfl

/-- a row is let go -/
theorem HR.kill {φ : Ren} {B : Nat} {h : H} {w : World} (hh : HR φ B h w) (o : Nat) : HR φ B (Go.Am.kill h o) w := by
  have hl : (Go.Am.kill h o).length = h.length := by simp [Go.Am.kill]
  have hrow : ∀ {o' r}, (Go.Am.kill h o).row o' = some r → h.row o' = some r ∧ o' ≠ o := by
    intro o' r hr
    have hlt := row_lt hr
    rw [hl] at hlt
    unfold Go.Am.kill at hr
    rw [row_set] at hr
    split at hr
    · cases hr
    · rename_i hne; exact ⟨hr, fun e => hne ⟨e.symm, by omega⟩⟩
  refine ⟨fun o' r hr ho => ?_, fun o' r hr ho => ?_, fun o' r hr => hh.one o' r (hrow hr).1, fun a b r r' h1 h2 => hh.inj a b r r' (hrow h1).1 (hrow h2).1, hh.size⟩
  · rw [hl]; exact hh.own o' r (hrow hr).1 ho
  · rw [hl]; exact hh.ro o' r (hrow hr).1 ho
end Go.Am
