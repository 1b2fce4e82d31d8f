/-
  More rules to reckon with: rows that are written, added and read. No condition.
-/
import Derived.Test.YtammndhoillliaaAm16
namespace Go.Am

@[push_cast] theorem arr_list {α : Type} (l : List α) : (List.toArray l).toList = l := rfl
@[push_cast] theorem arr_get {α : Type} (l : List α) (i : Nat) : (List.toArray l)[i]? = l[i]? := by simp
@[push_cast] theorem arr_empty : (#[] : Array Value).isEmpty = true := rfl
@[push_cast] theorem app_nil {α : Type} (l : List α) : [] ++ l = l := rfl
@[push_cast] theorem app_cons {α : Type} (a : α) (l l' : List α) : (a :: l) ++ l' = a :: (l ++ l') := rfl
@[push_cast] theorem getD_none {α : Type} (a : α) : (none : Option α).getD a = a := rfl
@[push_cast] theorem getD_some {α : Type} (a b : α) : (some b : Option α).getD a = b := rfl
@[push_cast] theorem map_some' {α β : Type} (f : α → β) (b : α) : (some b).map f = some (f b) := rfl
@[push_cast] theorem len_nil {α : Type} : ([] : List α).length = 0 := rfl
@[push_cast] theorem len_cons {α : Type} (a : α) (l : List α) : (a :: l).length = l.length + 1 := rfl
@[push_cast] theorem size_arr {α : Type} (l : List α) : (List.toArray l).size = l.length := rfl
@[push_cast] theorem beq_nat (a : Nat) : (a == a) = true := beq_self_eq_true a
@[push_cast] theorem bne_nat (a : Nat) : (a != a) = false := by simp

theorem ld1_of {h : H} {o : Nat} {r : Row} (hr : h.row o = some r) (off : Nat) : h.ld1 o off = r.cells[off]? := by unfold H.ld1; rw [hr]
theorem ld1_old {h : H} {b : Ob} {o off : Nat} (ho : o < h.length) : H.ld1 (h ++ [b]) o off = h.ld1 o off := by unfold H.ld1; rw [row_push_old ho]
theorem ld1_new {h : H} {r : Row} {o off : Nat} (ho : o = h.length) : H.ld1 (h ++ [.row r]) o off = r.cells[off]? := by subst ho; unfold H.ld1; rw [row_push_new]
theorem row_old {h : H} {b : Ob} {o : Nat} (ho : o < h.length) : H.row (h ++ [b]) o = h.row o := row_push_old ho
theorem row_new {h : H} {r : Row} {o : Nat} (ho : o = h.length) : H.row (h ++ [.row r]) o = some r := by subst ho; exact row_push_new
theorem ld1_other {h : H} {o o' off : Nat} {b : Ob} (hne : o ≠ o') : H.ld1 (h.set o b) o' off = h.ld1 o' off := by unfold H.ld1; rw [row_set_other hne]
theorem row_same {h : H} {o o' : Nat} {r : Row} (he : o' = o) (ho : o < h.length) : H.row (h.set o (.row r)) o' = some r := by subst he; exact row_set_same ho
theorem ld1_same {h : H} {o o' off : Nat} {r : Row} (he : o' = o) (ho : o < h.length) : H.ld1 (h.set o (.row r)) o' off = r.cells[off]? := by unfold H.ld1; rw [row_same he ho]
theorem len_set {h : H} {o : Nat} {b : Ob} : (h.set o b).length = h.length := List.length_set
theorem len_push {h : H} {b : Ob} : (h ++ [b]).length = h.length + 1 := by simp
theorem len_kill {h : H} {o : Nat} : (kill h o).length = h.length := List.length_set
theorem row_kill {h : H} {o o' : Nat} (hne : o ≠ o') : H.row (kill h o) o' = h.row o' := row_set_other hne
theorem ld1_kill {h : H} {o o' off : Nat} (hne : o ≠ o') : H.ld1 (kill h o) o' off = h.ld1 o' off := ld1_other hne
theorem pre_kill {h h' : H} {o : Nat} (hp : h <+: h') (ho : h.length ≤ o) : h <+: kill h' o := pre_set hp ho

/-- one cell written whole -/
theorem sts_one {h : H} {o : Nat} {v v' : Value} {e u : Nat} (hr : h.row o = some ⟨[v], e, u, true⟩) : h.sts o 0 [v'] = some (h.set o (.row ⟨[v'], e, u, true⟩)) := by
  unfold H.sts; rw [hr]; rfl
theorem ints_set {zs : List Int} {i : Nat} {v : Int} (hi : i < zs.length) : splice (ints zs) i [.int .i64 v] = ints (zs.set i v) := by
  unfold splice ints
  have hl : i < (zs.map (Value.int .i64)).length := by simpa using hi
  rw [List.map_set, List.set_eq_take_append_cons_drop, if_pos hl]
  simp
theorem sts_int {h : H} {o : Nat} {zs : List Int} {i v : Int} {e u : Nat} (hr : h.row o = some ⟨ints zs, e, u, true⟩) (h0 : 0 ≤ i) (hi : i < zs.length) :
    h.sts o i.toNat [.int .i64 v] = some (h.set o (.row ⟨ints (zs.set i.toNat v), e, u, true⟩)) := by
  unfold H.sts; rw [hr]
  simp only [Bool.true_and, List.length_cons, List.length_nil, ints_len]
  rw [if_pos (by simp; omega), ints_set (by omega)]
theorem ld1_int {h : H} {o : Nat} {zs : List Int} {i : Int} {e u : Nat} {b : Bool} (hr : h.row o = some ⟨ints zs, e, u, b⟩) (h0 : 0 ≤ i) (hi : i < zs.length) :
    h.ld1 o i.toNat = some (.int .i64 (gi zs i)) := by rw [ld1_of hr]; exact ints_get h0 hi
theorem lds_int {h : H} {o : Nat} {zs : List Int} {e u a n : Nat} {b : Bool} (hr : h.row o = some ⟨ints zs, e, u, b⟩) (hb : a + n ≤ zs.length) :
    h.lds o a n = some (ints ((zs.drop a).take n)) := by
  unfold H.lds; rw [hr]
  simp only [ints_len]
  rw [if_pos hb]
  unfold ints
  rw [List.map_take, List.map_drop]
theorem rep_int (n : Nat) (v : Int) : rep [.int .i64 v] n = ints (List.replicate n v) := by
  induction n with
  | zero => rfl
  | succ n ih => simp [rep, ints, List.replicate_succ, ih]
theorem ints_app (xs ys : List Int) : ints xs ++ ints ys = ints (xs ++ ys) := by simp [ints]

/-- an address of a growing list: nothing yet, or a row of its own that it fills -/
def Grown (h : H) (sa : Option Addr) (c : Nat) (zs : List Int) (lo : Nat) : Prop :=
  (sa = none ∧ c = 0 ∧ zs = []) ∨ ∃ o, sa = some ⟨o, 0, none⟩ ∧ lo ≤ o ∧ c = zs.length ∧ h.row o = some ⟨ints zs, 3, 1, true⟩

theorem Grown.app {h : H} {sa : Option Addr} {c lo : Nat} {zs ys : List Int} {x : Value} (hg : Grown h sa c zs lo) (hx : ∃ a b d, x = .slice a b d ∧ b = ys.length)
    (hs : srcCells h 1 ys.length x = some (ints ys)) (hy : ys ≠ []) (hl : zs.length + ys.length ≤ 1099511627776) (hlo : lo ≤ h.length) :
    ∃ sa' h', aapp 3 1 8 h (.slice sa zs.length c) x = some (.slice sa' (zs ++ ys).length (zs ++ ys).length, h') ∧ Grown h' sa' (zs ++ ys).length (zs ++ ys) lo ∧ h.length ≤ h'.length ∧
      (∀ o, o < lo → h'.row o = h.row o) ∧ (∀ p : H, p.length ≤ lo → p <+: h → p <+: h') := by
  obtain ⟨a, b, d, rfl, rfl⟩ := hx
  have hyl : ys.length ≠ 0 := fun e => hy (List.length_eq_zero_iff.mp e)
  rcases hg with ⟨rfl, rfl, rfl⟩ | ⟨o, rfl, ho, rfl, hr⟩
  · refine ⟨some ⟨h.length, 0, none⟩, h ++ [.row ⟨ints ys, 3, 1, true⟩], ?_, .inr ⟨h.length, rfl, hlo, rfl, ?_⟩, by simp, ?_, ?_⟩
    · unfold aapp; simp only [hs, List.length_nil, List.nil_append]
      rw [if_pos (by simp), if_neg hyl, if_pos (by simp [few] at *; omega)]
    · simp only [List.nil_append]; exact row_push_new
    · intro o ho; exact row_push_old (by omega)
    · intro p _ hp; exact pre_push hp
  · have hol := row_some_lt hr
    refine ⟨some ⟨h.length, 0, none⟩, kill h o ++ [.row ⟨ints (zs ++ ys), 3, 1, true⟩], ?_, .inr ⟨h.length, rfl, by omega, rfl, ?_⟩, by simp [len_kill], ?_, ?_⟩
    · unfold aapp; simp only [hs, hr]
      rw [if_pos (by simp [few, ints_len] at *; omega)]
      simp only [List.drop_zero, Nat.mul_one, List.length_append]
      rw [List.take_of_length_le (by simp [ints_len]), ints_app]
    · rw [show h.length = (kill h o).length from len_kill.symm]; exact row_push_new
    · intro o' ho'; rw [row_push_old (by rw [len_kill]; omega), row_kill (by omega)]
    · intro p hpl hp; exact pre_push (pre_kill hp (by omega))
theorem Grown.rd {h : H} {sa : Option Addr} {c lo : Nat} {zs : List Int} (hg : Grown h sa c zs lo) : RdI h sa c zs := by
  rcases hg with hn | ⟨o, rfl, _, rfl, hr⟩
  · exact .inl hn
  · exact RdI.ofRow hr rfl
theorem Grown.carry {h h' : H} {sa : Option Addr} {c lo : Nat} {zs : List Int} (hg : Grown h sa c zs lo) (hk : ∀ o, lo ≤ o → o < h.length → h'.row o = h.row o) : Grown h' sa c zs lo := by
  rcases hg with hn | ⟨o, h1, h2, h3, hr⟩
  · exact .inl hn
  · exact .inr ⟨o, h1, h2, h3, by rw [hk o h2 (row_some_lt hr)]; exact hr⟩
theorem Grown.len {h : H} {sa : Option Addr} {c lo : Nat} {zs : List Int} (hg : Grown h sa c zs lo) : zs.length = c := by
  rcases hg with ⟨_, rfl, rfl⟩ | ⟨_, _, _, h3, _⟩
  · rfl
  · exact h3.symm
end Go.Am
