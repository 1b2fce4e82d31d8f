/-
  A law's arguments that are slices of integers, as rows that are only read. Conditions: those of each theorem.
-/
import Derived.Test.YtammndhoillliaaAm19
import Derived.WideShapes
namespace Go.Am
open Go.RowKit (Below)

/-- a slice of integers of one kind that came in -/
def RoI (k : IntKind) (w : World) (a : Option Addr) (len cap : Nat) (zs : List Int) : Prop :=
  (a = none ∧ len = 0 ∧ cap = 0 ∧ zs = []) ∨
  ∃ x, a = some x ∧ x.spot = none ∧ x.block < w.heap.size ∧ len ≤ cap ∧ zs.length = cap ∧ ∀ i, i < zs.length → w.cell? (x.add i) = some (.int k (zs.getD i 0))

theorem okWide_addr {P : Program} {w : World} {base : Nat} {t e : TypeId} {x : Addr} {len cap : Nat} (ht : P.underlying t = some (.slice e)) (h : Value.okWide P w .any base t (.slice (some x) len cap)) :
    x.spot = none ∧ x.block < w.heap.size := by
  simp only [Value.okWide, ht, Cell.okWide, Cell.ok, World.has] at h
  obtain ⟨_, _, _, hs, row, cells, hsh, _⟩ := h
  refine ⟨hs, ?_⟩
  unfold World.shape? at hsh
  by_cases hb : x.block < w.heap.size
  · exact hb
  · rw [Array.getElem?_eq_none (by omega)] at hsh; cases hsh

theorem addr_add {x : Addr} (hx : x.spot = none) (i : Nat) : x.add i = ⟨x.block, x.off + i, none⟩ := by
  unfold Addr.add
  obtain ⟨b, o, s⟩ := x
  simp only at hx
  subst hx
  split
  · rename_i h; subst h; rfl
  · rfl

/-- a row that is only read comes in -/
theorem HR.pushRo {φ : Ren} {B : Nat} {h : H} {w : World} (hh : HR φ B h w) (r : Row) (b sh cap u : Nat) (hr : r.own = false) (hB : b < B) (hone : ∀ c ∈ r.cells, c.oneCell' = true)
    (hc : ∀ (i : Nat) (c : Value), r.cells[i]? = some c → ∃ v, w.cell? ⟨b, sh + i, none⟩ = some v ∧ VR φ h.length c v) :
    HR (φ.with h.length ⟨b, sh, cap, u, false⟩) B (h ++ [.row r]) w := by
  have hext := Ext.with φ h.length ⟨b, sh, cap, u, false⟩
  have hlen : (h ++ [Ob.row r]).length = h.length + 1 := by simp
  have hmono : ∀ {c v}, VR φ h.length c v → VR (φ.with h.length ⟨b, sh, cap, u, false⟩) (h ++ [Ob.row r]).length c v := fun hv => hv.mono hext (by omega)
  refine ⟨fun o r' hr' ho => ?_, fun o r' hr' ho => ?_, fun o r' hr' => ?_, fun o o' r1 r2 h1 h2 o1 o2 he => ?_, hh.size⟩
  · rcases row_append_some hr' with ⟨hlt, hr'⟩ | ⟨rfl, rfl⟩
    · rw [hext o hlt]
      obtain ⟨h0, h2, h3, cur', h4, h5, h6⟩ := hh.own o r' hr' ho
      exact ⟨h0, h2, h3, cur', h4, h5, fun i c hc => let ⟨v, h7, h8⟩ := h6 i c hc; ⟨v, h7, hmono h8⟩⟩
    · rw [hr] at ho; cases ho
  · rcases row_append_some hr' with ⟨hlt, hr'⟩ | ⟨rfl, rfl⟩
    · rw [hext o hlt]
      obtain ⟨hn, h0, h1⟩ := hh.ro o r' hr' ho
      exact ⟨hn, h0, fun i c hc => let ⟨v, h2, h3⟩ := h1 i c hc; ⟨v, h2, hmono h3⟩⟩
    · rw [Ren.with_same]
      exact ⟨rfl, hB, fun i c hi => let ⟨v, h7, h8⟩ := hc i c hi; ⟨v, h7, hmono h8⟩⟩
  · rcases row_append_some hr' with ⟨hlt, hr'⟩ | ⟨rfl, rfl⟩
    · exact hh.one o r' hr'
    · exact hone
  · rcases row_append_some h1 with ⟨l1, k1⟩ | ⟨rfl, rfl⟩ <;> rcases row_append_some h2 with ⟨l2, k2⟩ | ⟨rfl, rfl⟩
    · rw [hext o l1, hext o' l2] at he; exact hh.inj o o' r1 r2 k1 k2 o1 o2 he
    · rw [hr] at o2; cases o2
    · rw [hr] at o1; cases o1
    · rfl

/-- a slice of integers of any kind, as it is read -/
def RdK (k : IntKind) (h : H) (sa : Option Addr) (c : Nat) (zs : List Int) : Prop :=
  (sa = none ∧ c = 0 ∧ zs = []) ∨ (zs.length ≤ c ∧ ∃ o off r, sa = some ⟨o, off, none⟩ ∧ h.row o = some r ∧ (r.own = true → r.unit = 1) ∧ ∀ i : Int, 0 ≤ i → i < zs.length → r.cells[off + i.toNat]? = some (.int k (gi zs i)))
theorem RdK.i64 {h : H} {sa : Option Addr} {c : Nat} {zs : List Int} (hr : RdK .i64 h sa c zs) : RdI h sa c zs := hr

/-- the next argument, a slice -/
theorem arg_slice {k : IntKind} {φ : Ren} {B : Nat} {h : H} {w : World} (hB : B = w.heap.size) (hh : HR φ B h w) {a : Option Addr} {len cap : Nat} {zs : List Int} (hw : RoI k w a len cap zs) (e : TypeId) :
    ∃ φ' h' sa, Ext φ h.length φ' ∧ h <+: h' ∧ HR φ' B h' w ∧ VR φ' h'.length (.slice sa len cap) (.slice a len cap) ∧ RdK k h' sa cap (zs.take len) ∧ unitOk h' 1 sa = true ∧ (zs.take len).length = len := by
  rcases hw with ⟨rfl, rfl, rfl, rfl⟩ | ⟨x, rfl, hs, hb, hl, hz, hc⟩
  · exact ⟨φ, h, none, Ext.refl _ _, List.prefix_refl _, hh, .snil, .inl ⟨rfl, rfl, rfl⟩, rfl, rfl⟩
  · have hrow : H.row (h ++ [.row ⟨zs.map (.int k), e, 1, false⟩]) h.length = some ⟨zs.map (.int k), e, 1, false⟩ := row_push_new
    refine ⟨φ.with h.length ⟨x.block, x.off, cap, 1, false⟩, h ++ [.row ⟨zs.map (.int k), e, 1, false⟩], some ⟨h.length, 0, none⟩, Ext.with _ _ _, List.prefix_append _ _, hh.pushRo ⟨zs.map (.int k), e, 1, false⟩ _ _ cap 1 rfl (by omega) ?_ ?_, ?_, .inr ⟨?_, h.length, 0, _, rfl, hrow, ?_⟩, ?_, ?_⟩
    · intro c hc'
      obtain ⟨z, _, rfl⟩ := List.mem_map.mp hc'
      rfl
    · intro i c hi
      rw [List.getElem?_map] at hi
      obtain ⟨z, hz1, rfl⟩ := Option.map_eq_some_iff.mp hi
      have hil := (List.getElem?_eq_some_iff.1 hz1).1
      have := hc i hil
      rw [addr_add hs] at this
      refine ⟨_, this, ?_⟩
      rw [List.getD_eq_getElem?_getD, hz1]
      exact .int k z
    · have hv := VR.sl (φ := φ.with h.length ⟨x.block, x.off, cap, 1, false⟩) (n := (h ++ [Ob.row ⟨zs.map (.int k), e, 1, false⟩]).length) h.length 0 len cap cap x.off (by simp) (Nat.le_refl _) (.inl (by rw [Ren.with_same]; rfl)) (by rw [Ren.with_same]; intro h; cases h)
      rw [Ren.with_same] at hv
      have hx : x = ⟨x.block, x.off, none⟩ := by obtain ⟨b, o, s⟩ := x; simp only at hs; subst hs; rfl
      rw [hx]
      exact hv
    · rw [List.length_take]; omega
    · refine ⟨fun h => by (cases h), ?_⟩
      intro i h0 hi
      rw [List.length_take] at hi
      show (zs.map (Value.int k))[0 + i.toNat]? = _
      rw [Nat.zero_add, List.getElem?_map]
      have hg : (zs.take len)[i.toNat]? = some (gi (zs.take len) i) := gi_eq h0 (by rw [List.length_take]; omega)
      rw [List.getElem?_take, if_pos (by omega)] at hg
      rw [hg]; rfl
    · unfold unitOk; simp only [hrow]; rfl
    · rw [List.length_take]; omega
theorem RdK.mono {k : IntKind} {h h' : H} {sa : Option Addr} {c : Nat} {zs : List Int} (hr : RdK k h sa c zs) (hp : h <+: h') : RdK k h' sa c zs := by
  rcases hr with h1 | ⟨h1, o, off, r, h2, h3, h4⟩
  · exact .inl h1
  · exact .inr ⟨h1, o, off, r, h2, by rw [row_prefix hp (row_some_lt h3)]; exact h3, h4⟩
theorem unitOk_mono {h h' : H} {n : Nat} {sa : Option Addr} (hu : unitOk h n sa = true) (hp : h <+: h') : unitOk h' n sa = true := by
  unfold unitOk at hu ⊢
  split
  · rfl
  · rename_i a
    simp only at hu
    cases hr : h.row a.block with
    | none => rw [hr] at hu; cases hu
    | some r => rw [row_prefix hp (row_some_lt hr), hr]; rw [hr] at hu; exact hu
end Go.Am
