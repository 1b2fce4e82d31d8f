/-
  Rows of truth values as one number's bits; a stack of numbers; what stays as it was. No condition.
-/
import Derived.Test.YtammndhoillliaaAm17
namespace Go.Am

def bitsV (m len : Nat) : List Value := (List.range len).map fun i => .bool (m.testBit i)
theorem bits_len (m len : Nat) : (bitsV m len).length = len := by simp [bitsV]
theorem bits_get {m len i : Nat} (hi : i < len) : (bitsV m len)[i]? = some (.bool (m.testBit i)) := by
  unfold bitsV; rw [List.getElem?_map, List.getElem?_range hi]; rfl
theorem one_shl_bit (i j : Nat) : (1 <<< i).testBit j = decide (i = j) := by
  rw [Nat.one_shiftLeft, Nat.testBit_two_pow]
theorem bits_splice {m m' len i : Nat} {b : Bool} (hi : i < len) (h1 : m'.testBit i = b) (h2 : ∀ j, j ≠ i → m'.testBit j = m.testBit j) :
    splice (bitsV m len) i [.bool b] = bitsV m' len := by
  have hs : splice (bitsV m len) i [.bool b] = (bitsV m len).set i (.bool b) := by
    unfold splice
    rw [List.set_eq_take_append_cons_drop, if_pos (by rw [bits_len]; exact hi)]
    simp
  rw [hs]
  refine List.ext_getElem? fun j => ?_
  rw [List.getElem?_set]
  by_cases hji : i = j
  · subst hji
    rw [if_pos rfl, if_pos (by rw [bits_len]; exact hi), bits_get hi, h1]
  · rw [if_neg hji]
    by_cases hj : j < len
    · rw [bits_get hj, bits_get hj, h2 j (fun e => hji e.symm)]
    · rw [List.getElem?_eq_none (by rw [bits_len]; omega), List.getElem?_eq_none (by rw [bits_len]; omega)]
theorem or_bit (m i j : Nat) : (m ||| 1 <<< i).testBit j = (m.testBit j || decide (i = j)) := by rw [Nat.testBit_or, one_shl_bit]
theorem xor_bit (m i j : Nat) : (m ^^^ (1 <<< i)).testBit j = (m.testBit j != decide (i = j)) := by rw [Nat.testBit_xor, one_shl_bit]
theorem bits_on {m len i : Nat} (hi : i < len) : splice (bitsV m len) i [.bool true] = bitsV (m ||| 1 <<< i) len :=
  bits_splice hi (by rw [or_bit]; simp) (fun j hj => by rw [or_bit, decide_eq_false (fun e => hj e.symm)]; simp)
theorem bits_off {m len i : Nat} (hi : i < len) (hm : m.testBit i = true) : splice (bitsV m len) i [.bool false] = bitsV (m ^^^ (1 <<< i)) len :=
  bits_splice hi (by rw [xor_bit, hm]; simp) (fun j hj => by rw [xor_bit, decide_eq_false (fun e => hj e.symm)]; simp)
theorem bits_back {m len i : Nat} (hi : i < len) (hm : m.testBit i = true) : splice (bitsV (m ^^^ (1 <<< i)) len) i [.bool true] = bitsV m len :=
  bits_splice hi hm (fun j hj => by rw [xor_bit, decide_eq_false (fun e => hj e.symm)]; simp)
theorem ld1_bit {h : H} {o : Nat} {m len e u : Nat} {b : Bool} (hr : h.row o = some ⟨bitsV m len, e, u, b⟩) {i : Int} {k : Nat} (hk : i = (k : Int)) (hi : k < len) :
    h.ld1 o i.toNat = some (.bool (m.testBit k)) := by
  subst hk; rw [ld1_of hr]; exact bits_get hi
theorem sts_bit {h : H} {o : Nat} {m m' len e u : Nat} {v : Bool} (hr : h.row o = some ⟨bitsV m len, e, u, true⟩) {i : Int} {k : Nat} (hk : i = (k : Int)) (hi : k < len)
    (hs : splice (bitsV m len) k [.bool v] = bitsV m' len) : h.sts o i.toNat [.bool v] = some (h.set o (.row ⟨bitsV m' len, e, u, true⟩)) := by
  subst hk; unfold H.sts; rw [hr]
  simp only [Bool.true_and, List.length_cons, List.length_nil, bits_len, Int.toNat_natCast]
  rw [if_pos (by simp; omega), hs]
theorem rep_bit (n : Nat) : rep [.bool false] n = bitsV 0 n := by
  have h1 : rep [.bool false] n = List.replicate n (.bool false) := by
    induction n with
    | zero => rfl
    | succ n ih => simp [rep, List.replicate_succ, ih]
  rw [h1]
  refine List.ext_getElem? fun j => ?_
  by_cases hj : j < n
  · rw [bits_get hj, List.getElem?_replicate, if_pos hj]; simp
  · rw [List.getElem?_eq_none (by simp; omega), List.getElem?_eq_none (by rw [bits_len]; omega)]

/-! ### how many bits are set -/
def pop (m : Nat) : Nat → Nat
  | 0 => 0
  | k + 1 => pop m k + (m.testBit k).toNat
theorem pop_le (m : Nat) : ∀ k, pop m k ≤ k
  | 0 => Nat.le_refl _
  | k + 1 => by have := pop_le m k; unfold pop; cases m.testBit k <;> simp <;> omega
theorem pop_xor {m i : Nat} (hm : m.testBit i = true) : ∀ len, (i < len → pop (m ^^^ (1 <<< i)) len + 1 = pop m len) ∧ (len ≤ i → pop (m ^^^ (1 <<< i)) len = pop m len)
  | 0 => ⟨fun h => absurd h (by omega), fun _ => rfl⟩
  | len + 1 => by
    have ih := pop_xor hm len
    unfold pop
    by_cases h : i = len
    · subst h
      have := ih.2 (Nat.le_refl _)
      refine ⟨fun _ => ?_, fun h => absurd h (by omega)⟩
      rw [xor_bit, hm, this]; simp
    · have e : (m ^^^ (1 <<< i)).testBit len = m.testBit len := by rw [xor_bit, decide_eq_false h]; simp
      rw [e]
      refine ⟨fun h1 => ?_, fun h1 => ?_⟩
      · have := ih.1 (by omega); omega
      · have := ih.2 (by omega); omega

/-! ### a stack -/
def Stk (h : H) (sa : Option Addr) (c : Nat) (zs : List Int) (lo : Nat) : Prop :=
  ∃ o all, sa = some ⟨o, 0, none⟩ ∧ lo ≤ o ∧ h.row o = some ⟨ints all, 3, 1, true⟩ ∧ all.take zs.length = zs ∧ zs.length ≤ c ∧ c ≤ all.length
theorem Stk.app {h : H} {sa : Option Addr} {c lo : Nat} {zs : List Int} {y : Int} (hs : Stk h sa c zs lo) (hl : zs.length ≤ 1000000) :
    ∃ sa' h', aapp 3 1 8 (h ++ [.row ⟨[.int .i64 y], 3, 1, true⟩]) (.slice sa zs.length c) (.slice (some ⟨h.length, 0, none⟩) 1 1) = some (.slice sa' (zs.length + 1) (zs.length + 1), h') ∧
      Stk h' sa' (zs.length + 1) (zs ++ [y]) lo ∧ h.length ≤ h'.length ∧ (∀ o, o < lo → h'[o]? = h[o]?) := by
  obtain ⟨o, all, rfl, ho, hr, ht, h1, h2⟩ := hs
  have hol := row_some_lt hr
  have hal : zs.length ≤ all.length := by omega
  refine ⟨some ⟨h.length + 1, 0, none⟩, kill (h ++ [.row ⟨[.int .i64 y], 3, 1, true⟩]) o ++ [.row ⟨ints (zs ++ [y]), 3, 1, true⟩], ?_, ⟨h.length + 1, zs ++ [y], rfl, by omega, row_new (by rw [len_kill, len_push]), List.take_of_length_le (by simp), by simp, by simp⟩, by rw [len_push, len_kill, len_push]; omega, ?_⟩
  · unfold aapp srcCells H.lds
    simp only [row_push_new]
    rw [if_neg (by omega), if_pos (Nat.le_refl 1)]
    simp only [none_isNone, if_true]
    rw [if_pos (by simp)]
    simp only [row_old hol, hr]
    rw [if_pos (by simp [few, ints_len]; omega)]
    rw [len_push]
    have e : (ints all).take (zs.length * 1) = ints zs := by unfold ints; rw [Nat.mul_one, ← List.map_take, ht]
    simp only [List.drop_zero, e]
    congr 1
    simp [ints]
  · intro o' ho'
    rw [List.getElem?_append_left (by rw [len_kill, len_push]; omega)]
    unfold kill
    rw [List.getElem?_set_ne (by omega), List.getElem?_append_left (by omega)]
theorem Stk.carry {h h' : H} {sa : Option Addr} {c lo : Nat} {zs : List Int} (hs : Stk h sa c zs lo) (hk : ∀ o, lo ≤ o → o < h.length → h'.row o = h.row o) : Stk h' sa c zs lo := by
  obtain ⟨o, all, h1, h2, hr, h3⟩ := hs
  exact ⟨o, all, h1, h2, by rw [hk o h2 (row_some_lt hr)]; exact hr, h3⟩
theorem Stk.last {h : H} {sa : Option Addr} {c lo : Nat} {zs : List Int} {y : Int} (hs : Stk h sa c (zs ++ [y]) lo) :
    ∃ o, sa = some ⟨o, 0, none⟩ ∧ lo ≤ o ∧ o < h.length ∧ h.ld1 o zs.length = some (.int .i64 y) ∧ zs.length + 1 ≤ c ∧ unitOk h 1 sa = true ∧ Stk h sa c zs lo := by
  obtain ⟨o, all, rfl, ho, hr, ht, h1, h2⟩ := hs
  have hl : (zs ++ [y]).length = zs.length + 1 := by simp
  refine ⟨o, rfl, ho, row_some_lt hr, ?_, by omega, by unfold unitOk; simp only [hr]; rfl, o, all, rfl, ho, hr, ?_, by omega, h2⟩
  · rw [ld1_of hr]
    have e : all[zs.length]? = some y := by
      have : (all.take (zs ++ [y]).length)[zs.length]? = some y := by rw [ht]; simp
      rw [List.getElem?_take, if_pos (by omega)] at this
      exact this
    show (ints all)[zs.length]? = _
    unfold ints
    rw [List.getElem?_map, e]; rfl
  · have : (all.take (zs ++ [y]).length).take zs.length = zs := by rw [ht]; simp
    rwa [List.take_take, Nat.min_eq_left (by omega)] at this
theorem row_get {h h' : H} {o : Nat} (he : h'[o]? = h[o]?) : h'.row o = h.row o := by unfold H.row; rw [he]
theorem pre_of {h h' : H} (hl : h.length ≤ h'.length) (hk : ∀ o, o < h.length → h'[o]? = h[o]?) : h <+: h' := by
  rw [List.prefix_iff_eq_take]
  refine List.ext_getElem? fun o => ?_
  by_cases ho : o < h.length
  · rw [List.getElem?_take, if_pos ho, hk o ho]
  · rw [List.getElem?_eq_none (by omega), List.getElem?_eq_none (by simp; omega)]
end Go.Am
