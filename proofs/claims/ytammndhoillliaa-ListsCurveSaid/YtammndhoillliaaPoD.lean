/-
  What poly.trim, Check and the document's Trim, PolyMay compute. Conditions: lists as memory tells them.
  What poly.both, times, Mul and Add compute. Conditions: lists as memory tells them.
  What poly.Add and lists.Curve compute. Conditions: lists as memory tells them.
-/
import Derived.Test.YtammndhoillliaaPoA
import Derived.Test.YtammndhoillliaaL4
namespace Go.Proofs.Ytammndhoillliaa
open Go.Am
set_option linter.unusedVariables false
set_option linter.unusedSimpArgs false
set_option maxRecDepth 30000

section
variable {h : H} {sa : Option Addr} {c : Nat} {l : List Int}
theorem sl_pre (hr : RdI h sa c l) : (if (c : Int) = 0 then sa else Option.map (fun a => (⟨a.block, a.off, none⟩ : Addr)) sa) = sa := by
  rcases hr with ⟨rfl, _⟩ | ⟨_, o, off, r, rfl, _⟩
  · split <;> rfl
  · split <;> rfl
theorem sl_ok (hr : RdI h sa c l) {n : Nat} (hn : n ≤ l.length) : (0 : Int) ≤ 0 ∧ (0 : Int) ≤ (n : Int) ∧ (n : Int) ≤ (c : Int) ∧ unitOk h 1 sa = true := by
  have hc : l.length ≤ c := by
    rcases hr with ⟨_, rfl, rfl⟩ | ⟨h1, _⟩
    · simp
    · exact h1
  exact ⟨by omega, by omega, by omega, hr.unit⟩
/-- a clone, nil where it was nil -/
theorem clone2_call (hr : RdI h sa c l) (hl : l.length ≤ 1000000) : ∃ (s' : Option Addr) (c' : Nat) (h' : H), h <+: h' ∧ Grown h' s' c' l h.length ∧ call T 98 [.slice sa l.length c] h = some (.slice s' l.length c', h') := by
  cases sa with
  | none =>
    have hl0 : l = [] ∧ c = 0 := by
      rcases hr with ⟨_, h1, h2⟩ | ⟨_, o, off, r, h1, _⟩
      · exact ⟨h2, h1⟩
      · cases h1
    obtain ⟨rfl, rfl⟩ := hl0
    refine ⟨none, 0, h, List.prefix_refl _, .nil, ?_⟩
    rw [call_at T98 rfl]
    unfold F98 c98
    simp (disch := first | omega | (simp only [Go.Am.len_push, Go.Am.len_set, Go.Am.len_kill] <;> omega) | fail) only [push_cast, Nat.reduceBEq, Nat.reduceAdd, Nat.reduceMul, Nat.reduceSub, Nat.reduceLT, Nat.reduceGT, Nat.reduceLeDiff, Nat.reduceEqDiff, Int.reduceToNat, Int.reduceAdd, Int.reduceMul, Int.reduceSub, Int.reduceNeg, Int.reduceLT, Int.reduceLE, Int.reduceEq, Nat.zero_add, Nat.add_zero, Nat.mul_one, eq_self, ne_eq, not_true, not_false_iff, and_true, true_and, and_self, List.getElem?_cons_zero, List.getElem?_cons_succ, List.map_cons, List.map_nil]
  | some x =>
    obtain ⟨o, off, rfl⟩ : ∃ o off, x = ⟨o, off, none⟩ := by
      rcases hr with ⟨h1, _⟩ | ⟨_, o, off, r, h1, _⟩
      · cases h1
      · cases h1; exact ⟨o, off, rfl⟩
    have hs := (hr.mono (List.prefix_append h [.row ⟨[], 3, 1, true⟩])).src
    have e : aapp 3 1 8 (h ++ [.row ⟨[], 3, 1, true⟩]) (.slice (some ⟨h.length, 0, none⟩) 0 0) (.slice (some ⟨o, off, none⟩) l.length c) = some (.slice (some ⟨h.length + 1, 0, none⟩) l.length l.length, kill (h ++ [.row ⟨[], 3, 1, true⟩]) h.length ++ [.row ⟨ints l, 3, 1, true⟩]) := by
      unfold aapp
      simp only [hs, row_push_new]
      rw [if_pos (by simp [few]; omega), len_push, Nat.zero_add]
      rfl
    refine ⟨some ⟨h.length + 1, 0, none⟩, l.length, kill (h ++ [.row ⟨[], 3, 1, true⟩]) h.length ++ [.row ⟨ints l, 3, 1, true⟩], pre_push (pre_kill (List.prefix_append _ _) (Nat.le_refl _)), .inr ⟨h.length + 1, rfl, by omega, rfl, front_row⟩, ?_⟩
    rw [call_at T98 rfl]
    unfold F98 c98
    simp (disch := first | omega | (simp only [Go.Am.len_push, Go.Am.len_set, Go.Am.len_kill] <;> omega) | fail) only [push_cast, Nat.reduceBEq, Nat.reduceAdd, Nat.reduceMul, Nat.reduceSub, Nat.reduceLT, Nat.reduceGT, Nat.reduceLeDiff, Nat.reduceEqDiff, Int.reduceToNat, Int.reduceAdd, Int.reduceMul, Int.reduceSub, Int.reduceNeg, Int.reduceLT, Int.reduceLE, Int.reduceEq, Nat.zero_add, Nat.add_zero, Nat.mul_one, eq_self, ne_eq, not_true, not_false_iff, and_true, true_and, and_self, List.getElem?_cons_zero, List.getElem?_cons_succ, List.map_cons, List.map_nil, e]

/-! ### trim -/
theorem ptrim_loop (hr : RdI h sa c l) (hl : l.length ≤ 1000000) : ∀ (n : Nat), n ≤ l.length → ∀ ks,
    goL T [.tmp 2] [0, 3] c160L0 (.blk 0 [0, 3] :: ks) [(0, .slice sa l.length c), (3, .int .i64 n)] h = go T [.tmp 2] ks (Fr.of [(0, .slice sa l.length c), (3, .int .i64 (trimN l n : Nat))]) h
  | 0, hn, ks => by
    rw [goL_at c160L0.eq_def, trimN]
    simp (disch := first | omega | (simp only [Go.Am.len_push, Go.Am.len_set, Go.Am.len_kill] <;> omega) | fail) only [push_cast, Nat.reduceBEq, Nat.reduceAdd, Nat.reduceMul, Nat.reduceSub, Nat.reduceLT, Nat.reduceGT, Nat.reduceLeDiff, Nat.reduceEqDiff, Int.reduceToNat, Int.reduceAdd, Int.reduceMul, Int.reduceSub, Int.reduceNeg, Int.reduceLT, Int.reduceLE, Int.reduceEq, Nat.zero_add, Nat.add_zero, Nat.mul_one, eq_self, ne_eq, not_true, not_false_iff, and_true, true_and, and_self, List.getElem?_cons_zero, List.getElem?_cons_succ, List.map_cons, List.map_nil, wrap64, dec_lt, dec_nlt, dec_le, dec_nle, dec_eq, dec_ne, if_pos, if_neg, Int.natCast_add, Int.natCast_one, Int.natCast_zero, Int.toNat_natCast]
  | n + 1, hn, ks => by
    have ih := ptrim_loop hr hl n (by omega) ks
    obtain ⟨o, off, rfl, _, l1⟩ := hr.at (i := n) (by omega)
    have w1 : IntKind.wrap .i64 (((n + 1 : Nat) : Int) - 1) = (n : Int) := by rw [wrap64 (by omega) (by omega)]; omega
    rw [Int.natCast_add, Int.natCast_one] at w1
    rw [goL_at c160L0.eq_def, trimN]
    by_cases h0 : gi l n = 0
    · rw [if_pos h0, ← ih]
      simp (disch := first | omega | (simp only [Go.Am.len_push, Go.Am.len_set, Go.Am.len_kill] <;> omega) | fail) only [push_cast, Nat.reduceBEq, Nat.reduceAdd, Nat.reduceMul, Nat.reduceSub, Nat.reduceLT, Nat.reduceGT, Nat.reduceLeDiff, Nat.reduceEqDiff, Int.reduceToNat, Int.reduceAdd, Int.reduceMul, Int.reduceSub, Int.reduceNeg, Int.reduceLT, Int.reduceLE, Int.reduceEq, Nat.zero_add, Nat.add_zero, Nat.mul_one, eq_self, ne_eq, not_true, not_false_iff, and_true, true_and, and_self, List.getElem?_cons_zero, List.getElem?_cons_succ, List.map_cons, List.map_nil, wrap64, dec_lt, dec_nlt, dec_le, dec_nle, dec_eq, dec_ne, if_pos, if_neg, Int.natCast_add, Int.natCast_one, Int.natCast_zero, Int.toNat_natCast, w1, l1]
    · rw [if_neg h0]
      simp (disch := first | omega | (simp only [Go.Am.len_push, Go.Am.len_set, Go.Am.len_kill] <;> omega) | fail) only [push_cast, Nat.reduceBEq, Nat.reduceAdd, Nat.reduceMul, Nat.reduceSub, Nat.reduceLT, Nat.reduceGT, Nat.reduceLeDiff, Nat.reduceEqDiff, Int.reduceToNat, Int.reduceAdd, Int.reduceMul, Int.reduceSub, Int.reduceNeg, Int.reduceLT, Int.reduceLE, Int.reduceEq, Nat.zero_add, Nat.add_zero, Nat.mul_one, eq_self, ne_eq, not_true, not_false_iff, and_true, true_and, and_self, List.getElem?_cons_zero, List.getElem?_cons_succ, List.map_cons, List.map_nil, wrap64, dec_lt, dec_nlt, dec_le, dec_nle, dec_eq, dec_ne, if_pos, if_neg, Int.natCast_add, Int.natCast_one, Int.natCast_zero, Int.toNat_natCast, w1, l1, dec_ne h0]
theorem ptrim_call (hr : RdI h sa c l) (hl : l.length ≤ 1000000) : ∃ (s' : Option Addr) (c' : Nat) (h' : H), h <+: h' ∧ Grown h' s' c' (trimL l) h.length ∧
    call T 160 [.slice sa l.length c] h = some (.slice s' (trimL l).length c', h') := by
  have hsub := hr.sub (trimN l l.length)
  have hle := trimN_le l l.length
  obtain ⟨s', c', h', k1, k2, e1⟩ := clone2_call hsub (by rw [List.length_take]; omega)
  have hlen : (l.take (trimN l l.length)).length = trimN l l.length := trimL_len l
  rw [hlen] at e1
  have hlen2 : (trimL l).length = trimN l l.length := trimL_len l
  rw [hlen2]
  refine ⟨s', c', h', k1, k2, ?_⟩
  have e2 := fun ks => ptrim_loop hr hl l.length (Nat.le_refl _) ks
  have hp := sl_pre hr
  have ho := sl_ok hr hle
  rw [call_at T160 rfl]
  unfold F160 c160
  simp (disch := first | omega | (simp only [Go.Am.len_push, Go.Am.len_set, Go.Am.len_kill] <;> omega) | fail) only [push_cast, Nat.reduceBEq, Nat.reduceAdd, Nat.reduceMul, Nat.reduceSub, Nat.reduceLT, Nat.reduceGT, Nat.reduceLeDiff, Nat.reduceEqDiff, Int.reduceToNat, Int.reduceAdd, Int.reduceMul, Int.reduceSub, Int.reduceNeg, Int.reduceLT, Int.reduceLE, Int.reduceEq, Nat.zero_add, Nat.add_zero, Nat.mul_one, eq_self, ne_eq, not_true, not_false_iff, and_true, true_and, and_self, List.getElem?_cons_zero, List.getElem?_cons_succ, List.map_cons, List.map_nil]
  rw [e2]
  simp (disch := first | omega | (simp only [Go.Am.len_push, Go.Am.len_set, Go.Am.len_kill] <;> omega) | fail) only [push_cast, Nat.reduceBEq, Nat.reduceAdd, Nat.reduceMul, Nat.reduceSub, Nat.reduceLT, Nat.reduceGT, Nat.reduceLeDiff, Nat.reduceEqDiff, Int.reduceToNat, Int.reduceAdd, Int.reduceMul, Int.reduceSub, Int.reduceNeg, Int.reduceLT, Int.reduceLE, Int.reduceEq, Nat.zero_add, Nat.add_zero, Nat.mul_one, eq_self, ne_eq, not_true, not_false_iff, and_true, true_and, and_self, List.getElem?_cons_zero, List.getElem?_cons_succ, List.map_cons, List.map_nil, ho, ho.2.2.2, hp, Int.sub_zero, Int.toNat_natCast, e1]
theorem rtrim_loop (hr : RdI h sa c l) (hl : l.length ≤ 1000000) : ∀ (n : Nat), n ≤ l.length → ∀ ks,
    goL T [.tmp 2] [0, 3] c132L0 (.blk 0 [0, 3] :: ks) [(0, .slice sa l.length c), (3, .int .i64 n)] h = go T [.tmp 2] ks (Fr.of [(0, .slice sa l.length c), (3, .int .i64 (trimN l n : Nat))]) h
  | 0, hn, ks => by
    rw [goL_at c132L0.eq_def, trimN]
    simp (disch := first | omega | (simp only [Go.Am.len_push, Go.Am.len_set, Go.Am.len_kill] <;> omega) | fail) only [push_cast, Nat.reduceBEq, Nat.reduceAdd, Nat.reduceMul, Nat.reduceSub, Nat.reduceLT, Nat.reduceGT, Nat.reduceLeDiff, Nat.reduceEqDiff, Int.reduceToNat, Int.reduceAdd, Int.reduceMul, Int.reduceSub, Int.reduceNeg, Int.reduceLT, Int.reduceLE, Int.reduceEq, Nat.zero_add, Nat.add_zero, Nat.mul_one, eq_self, ne_eq, not_true, not_false_iff, and_true, true_and, and_self, List.getElem?_cons_zero, List.getElem?_cons_succ, List.map_cons, List.map_nil, wrap64, dec_lt, dec_nlt, dec_le, dec_nle, dec_eq, dec_ne, if_pos, if_neg, Int.natCast_add, Int.natCast_one, Int.natCast_zero, Int.toNat_natCast]
  | n + 1, hn, ks => by
    have ih := rtrim_loop hr hl n (by omega) ks
    obtain ⟨o, off, rfl, _, l1⟩ := hr.at (i := n) (by omega)
    have w1 : IntKind.wrap .i64 (((n + 1 : Nat) : Int) - 1) = (n : Int) := by rw [wrap64 (by omega) (by omega)]; omega
    rw [Int.natCast_add, Int.natCast_one] at w1
    rw [goL_at c132L0.eq_def, trimN]
    by_cases h0 : gi l n = 0
    · rw [if_pos h0, ← ih]
      simp (disch := first | omega | (simp only [Go.Am.len_push, Go.Am.len_set, Go.Am.len_kill] <;> omega) | fail) only [push_cast, Nat.reduceBEq, Nat.reduceAdd, Nat.reduceMul, Nat.reduceSub, Nat.reduceLT, Nat.reduceGT, Nat.reduceLeDiff, Nat.reduceEqDiff, Int.reduceToNat, Int.reduceAdd, Int.reduceMul, Int.reduceSub, Int.reduceNeg, Int.reduceLT, Int.reduceLE, Int.reduceEq, Nat.zero_add, Nat.add_zero, Nat.mul_one, eq_self, ne_eq, not_true, not_false_iff, and_true, true_and, and_self, List.getElem?_cons_zero, List.getElem?_cons_succ, List.map_cons, List.map_nil, wrap64, dec_lt, dec_nlt, dec_le, dec_nle, dec_eq, dec_ne, if_pos, if_neg, Int.natCast_add, Int.natCast_one, Int.natCast_zero, Int.toNat_natCast, w1, l1]
    · rw [if_neg h0]
      simp (disch := first | omega | (simp only [Go.Am.len_push, Go.Am.len_set, Go.Am.len_kill] <;> omega) | fail) only [push_cast, Nat.reduceBEq, Nat.reduceAdd, Nat.reduceMul, Nat.reduceSub, Nat.reduceLT, Nat.reduceGT, Nat.reduceLeDiff, Nat.reduceEqDiff, Int.reduceToNat, Int.reduceAdd, Int.reduceMul, Int.reduceSub, Int.reduceNeg, Int.reduceLT, Int.reduceLE, Int.reduceEq, Nat.zero_add, Nat.add_zero, Nat.mul_one, eq_self, ne_eq, not_true, not_false_iff, and_true, true_and, and_self, List.getElem?_cons_zero, List.getElem?_cons_succ, List.map_cons, List.map_nil, wrap64, dec_lt, dec_nlt, dec_le, dec_nle, dec_eq, dec_ne, if_pos, if_neg, Int.natCast_add, Int.natCast_one, Int.natCast_zero, Int.toNat_natCast, w1, l1, dec_ne h0]
theorem rtrim_call (hr : RdI h sa c l) (hl : l.length ≤ 1000000) : ∃ (o : Nat) (h' : H), Fresh h h' o (trimL l) ∧
    call T 132 [.slice sa l.length c] h = some (.slice (some ⟨o, 0, none⟩) (trimL l).length (trimL l).length, h') := by
  have hsub := hr.sub (trimN l l.length)
  have hle := trimN_le l l.length
  obtain ⟨o, h', k1, e1⟩ := copy_call hsub (by rw [List.length_take]; omega)
  have hlen : (l.take (trimN l l.length)).length = trimN l l.length := trimL_len l
  rw [hlen] at e1
  have hlen2 : (trimL l).length = trimN l l.length := trimL_len l
  rw [hlen2]
  refine ⟨o, h', k1, ?_⟩
  have e2 := fun ks => rtrim_loop hr hl l.length (Nat.le_refl _) ks
  have hp := sl_pre hr
  have ho := sl_ok hr hle
  rw [call_at T132 rfl]
  unfold F132 c132
  simp (disch := first | omega | (simp only [Go.Am.len_push, Go.Am.len_set, Go.Am.len_kill] <;> omega) | fail) only [push_cast, Nat.reduceBEq, Nat.reduceAdd, Nat.reduceMul, Nat.reduceSub, Nat.reduceLT, Nat.reduceGT, Nat.reduceLeDiff, Nat.reduceEqDiff, Int.reduceToNat, Int.reduceAdd, Int.reduceMul, Int.reduceSub, Int.reduceNeg, Int.reduceLT, Int.reduceLE, Int.reduceEq, Nat.zero_add, Nat.add_zero, Nat.mul_one, eq_self, ne_eq, not_true, not_false_iff, and_true, true_and, and_self, List.getElem?_cons_zero, List.getElem?_cons_succ, List.map_cons, List.map_nil]
  rw [e2]
  simp (disch := first | omega | (simp only [Go.Am.len_push, Go.Am.len_set, Go.Am.len_kill] <;> omega) | fail) only [push_cast, Nat.reduceBEq, Nat.reduceAdd, Nat.reduceMul, Nat.reduceSub, Nat.reduceLT, Nat.reduceGT, Nat.reduceLeDiff, Nat.reduceEqDiff, Int.reduceToNat, Int.reduceAdd, Int.reduceMul, Int.reduceSub, Int.reduceNeg, Int.reduceLT, Int.reduceLE, Int.reduceEq, Nat.zero_add, Nat.add_zero, Nat.mul_one, eq_self, ne_eq, not_true, not_false_iff, and_true, true_and, and_self, List.getElem?_cons_zero, List.getElem?_cons_succ, List.map_cons, List.map_nil, ho, ho.2.2.2, hp, Int.sub_zero, Int.toNat_natCast, e1]

/-! ### may it be? -/
section
variable {q p g : Int} {m : Nat} {mod : List Int} {F E L om fm cm : Nat}
theorem pchk2_loop (u : PUse h F q p m g mod E L om fm cm) (hr : RdI h sa c l) (hl : l.length ≤ 1000000) : ∀ (n i : Nat), i + n = l.length → ∀ ks,
    goL T [.tmp 4] [5, 20, 21, 22] c129L0 (.blk 0 [] :: ks) [(5, .pointer (some ⟨F, 0, none⟩)), (20, .slice sa l.length c), (21, .int .i64 l.length), (22, .int .i64 i)] h =
      if anyF (fun v => !fok q v) l n i = true then some (.int .i64 2, h) else go T [.tmp 4] ks (Fr.of []) h
  | 0, i, hi, ks => by
    rw [goL_at c129L0.eq_def, anyF, if_neg (by decide)]
    simp (disch := first | omega | (simp only [Go.Am.len_push, Go.Am.len_set, Go.Am.len_kill] <;> omega) | fail) only [push_cast, Nat.reduceBEq, Nat.reduceAdd, Nat.reduceMul, Nat.reduceSub, Nat.reduceLT, Nat.reduceGT, Nat.reduceLeDiff, Nat.reduceEqDiff, Int.reduceToNat, Int.reduceAdd, Int.reduceMul, Int.reduceSub, Int.reduceNeg, Int.reduceLT, Int.reduceLE, Int.reduceEq, Nat.zero_add, Nat.add_zero, Nat.mul_one, eq_self, ne_eq, not_true, not_false_iff, and_true, true_and, and_self, List.getElem?_cons_zero, List.getElem?_cons_succ, List.map_cons, List.map_nil, wrap64, dec_lt, dec_nlt, dec_le, dec_nle, dec_eq, dec_ne, if_pos, if_neg, Int.natCast_add, Int.natCast_one, Int.natCast_zero, Int.toNat_natCast]
  | n + 1, i, hi, ks => by
    have ih := pchk2_loop u hr hl n (i + 1) (by omega) ks
    obtain ⟨o, off, rfl, _, l1⟩ := hr.at (i := i) (by omega)
    have e1 := phas_call u (gi l i)
    rw [Int.natCast_add, Int.natCast_one] at ih
    rw [goL_at c129L0.eq_def, anyF]
    cases hk : fok q (gi l i) with
    | true =>
      rw [hk] at e1
      rw [Bool.not_true, Bool.false_or, ← ih]
      simp (disch := first | omega | (simp only [Go.Am.len_push, Go.Am.len_set, Go.Am.len_kill] <;> omega) | fail) only [push_cast, Nat.reduceBEq, Nat.reduceAdd, Nat.reduceMul, Nat.reduceSub, Nat.reduceLT, Nat.reduceGT, Nat.reduceLeDiff, Nat.reduceEqDiff, Int.reduceToNat, Int.reduceAdd, Int.reduceMul, Int.reduceSub, Int.reduceNeg, Int.reduceLT, Int.reduceLE, Int.reduceEq, Nat.zero_add, Nat.add_zero, Nat.mul_one, eq_self, ne_eq, not_true, not_false_iff, and_true, true_and, and_self, List.getElem?_cons_zero, List.getElem?_cons_succ, List.map_cons, List.map_nil, wrap64, dec_lt, dec_nlt, dec_le, dec_nle, dec_eq, dec_ne, if_pos, if_neg, Int.natCast_add, Int.natCast_one, Int.natCast_zero, Int.toNat_natCast, l1, e1]
    | false =>
      rw [hk] at e1
      rw [Bool.not_false, Bool.true_or, if_pos rfl]
      simp (disch := first | omega | (simp only [Go.Am.len_push, Go.Am.len_set, Go.Am.len_kill] <;> omega) | fail) only [push_cast, Nat.reduceBEq, Nat.reduceAdd, Nat.reduceMul, Nat.reduceSub, Nat.reduceLT, Nat.reduceGT, Nat.reduceLeDiff, Nat.reduceEqDiff, Int.reduceToNat, Int.reduceAdd, Int.reduceMul, Int.reduceSub, Int.reduceNeg, Int.reduceLT, Int.reduceLE, Int.reduceEq, Nat.zero_add, Nat.add_zero, Nat.mul_one, eq_self, ne_eq, not_true, not_false_iff, and_true, true_and, and_self, List.getElem?_cons_zero, List.getElem?_cons_succ, List.map_cons, List.map_nil, wrap64, dec_lt, dec_nlt, dec_le, dec_nle, dec_eq, dec_ne, if_pos, if_neg, Int.natCast_add, Int.natCast_one, Int.natCast_zero, Int.toNat_natCast, l1, e1]
end
theorem pcheck2_call (q : Int) (hr : RdI h sa c l) (hl : l.length ≤ 9223372036854775807) : ∃ h' : H, h <+: h' ∧ call T 129 [.int .i64 q, .slice sa l.length c] h = some (.int .i64 (pokE q l), h') := by
  unfold pokE
  cases hq : fldN q.toNat with
  | none =>
    obtain ⟨h1, p1, e1⟩ := new_none q hq h
    refine ⟨h1, p1, ?_⟩
    rw [call_at T129 rfl]
    unfold F129 c129
    simp (disch := first | omega | (simp only [Go.Am.len_push, Go.Am.len_set, Go.Am.len_kill] <;> omega) | fail) only [push_cast, Nat.reduceBEq, Nat.reduceAdd, Nat.reduceMul, Nat.reduceSub, Nat.reduceLT, Nat.reduceGT, Nat.reduceLeDiff, Nat.reduceEqDiff, Int.reduceToNat, Int.reduceAdd, Int.reduceMul, Int.reduceSub, Int.reduceNeg, Int.reduceLT, Int.reduceLE, Int.reduceEq, Nat.zero_add, Nat.add_zero, Nat.mul_one, eq_self, ne_eq, not_true, not_false_iff, and_true, true_and, and_self, List.getElem?_cons_zero, List.getElem?_cons_succ, List.map_cons, List.map_nil, wrap64, dec_lt, dec_nlt, dec_le, dec_nle, dec_eq, dec_ne, if_pos, if_neg, Int.natCast_add, Int.natCast_one, Int.natCast_zero, Int.toNat_natCast, e1]
  | some x =>
    obtain ⟨p, m, g, mod⟩ := x
    obtain ⟨h1, F, p1, hp, e1⟩ := new_some q hq h
    obtain ⟨E, L, om, fm, cm, u⟩ := hp.use hq
    refine ⟨h1, p1, ?_⟩
    simp only
    by_cases h128 : 128 < l.length
    · rw [if_pos h128, call_at T129 rfl]
      unfold F129 c129
      simp (disch := first | omega | (simp only [Go.Am.len_push, Go.Am.len_set, Go.Am.len_kill] <;> omega) | fail) only [push_cast, Nat.reduceBEq, Nat.reduceAdd, Nat.reduceMul, Nat.reduceSub, Nat.reduceLT, Nat.reduceGT, Nat.reduceLeDiff, Nat.reduceEqDiff, Int.reduceToNat, Int.reduceAdd, Int.reduceMul, Int.reduceSub, Int.reduceNeg, Int.reduceLT, Int.reduceLE, Int.reduceEq, Nat.zero_add, Nat.add_zero, Nat.mul_one, eq_self, ne_eq, not_true, not_false_iff, and_true, true_and, and_self, List.getElem?_cons_zero, List.getElem?_cons_succ, List.map_cons, List.map_nil, wrap64, dec_lt, dec_nlt, dec_le, dec_nle, dec_eq, dec_ne, if_pos, if_neg, Int.natCast_add, Int.natCast_one, Int.natCast_zero, Int.toNat_natCast, e1]
    · rw [if_neg h128]
      have e2 := fun ks => pchk2_loop u (hr.mono p1) (by omega) l.length 0 (by omega) ks
      rw [anyF_all] at e2
      simp only [Int.natCast_zero] at e2
      rw [call_at T129 rfl]
      unfold F129 c129
      simp (disch := first | omega | (simp only [Go.Am.len_push, Go.Am.len_set, Go.Am.len_kill] <;> omega) | fail) only [push_cast, Nat.reduceBEq, Nat.reduceAdd, Nat.reduceMul, Nat.reduceSub, Nat.reduceLT, Nat.reduceGT, Nat.reduceLeDiff, Nat.reduceEqDiff, Int.reduceToNat, Int.reduceAdd, Int.reduceMul, Int.reduceSub, Int.reduceNeg, Int.reduceLT, Int.reduceLE, Int.reduceEq, Nat.zero_add, Nat.add_zero, Nat.mul_one, eq_self, ne_eq, not_true, not_false_iff, and_true, true_and, and_self, List.getElem?_cons_zero, List.getElem?_cons_succ, List.map_cons, List.map_nil, wrap64, dec_lt, dec_nlt, dec_le, dec_nle, dec_eq, dec_ne, if_pos, if_neg, Int.natCast_add, Int.natCast_one, Int.natCast_zero, Int.toNat_natCast, e1]
      rw [e2]
      cases ha : l.any fun v => !fok q v with
      | true => rw [if_pos rfl, if_pos rfl]
      | false => rw [if_neg (by decide), if_neg (by decide)]; simp (disch := first | omega | (simp only [Go.Am.len_push, Go.Am.len_set, Go.Am.len_kill] <;> omega) | fail) only [push_cast, Nat.reduceBEq, Nat.reduceAdd, Nat.reduceMul, Nat.reduceSub, Nat.reduceLT, Nat.reduceGT, Nat.reduceLeDiff, Nat.reduceEqDiff, Int.reduceToNat, Int.reduceAdd, Int.reduceMul, Int.reduceSub, Int.reduceNeg, Int.reduceLT, Int.reduceLE, Int.reduceEq, Nat.zero_add, Nat.add_zero, Nat.mul_one, eq_self, ne_eq, not_true, not_false_iff, and_true, true_and, and_self, List.getElem?_cons_zero, List.getElem?_cons_succ, List.map_cons, List.map_nil]
end
end Go.Proofs.Ytammndhoillliaa
namespace Go.Proofs.Ytammndhoillliaa
open Go.Am
set_option linter.unusedVariables false
set_option linter.unusedSimpArgs false
set_option maxRecDepth 30000

def bothE (q : Int) (a b : List Int) : Int := if pokE q a = 0 then pokE q b else pokE q a
section
variable {h : H} {sa sb : Option Addr} {ca cb : Nat} {a b : List Int} {q : Int}
theorem pboth_bad (ha : RdI h sa ca a) (hb : RdI h sb cb b) (hla : a.length ≤ 9223372036854775807) (hlb : b.length ≤ 9223372036854775807) (he : ¬ bothE q a b = 0) : ∃ h' : H, h <+: h' ∧
    call T 158 [.int .i64 q, .slice sa a.length ca, .slice sb b.length cb] h = some (.tuple #[.pointer none, .slice none 0 0, .slice none 0 0, .int .i64 (bothE q a b)], h') := by
  unfold bothE at he ⊢
  obtain ⟨h1, p1, e1⟩ := pcheck2_call q ha hla
  by_cases h0 : pokE q a = 0
  · rw [if_pos h0] at he ⊢
    obtain ⟨h2, p2, e2⟩ := pcheck2_call q (hb.mono p1) hlb
    rw [h0] at e1
    refine ⟨h2, p1.trans p2, ?_⟩
    rw [call_at T158 rfl]
    unfold F158 c158
    simp (disch := first | omega | (simp only [Go.Am.len_push, Go.Am.len_set, Go.Am.len_kill] <;> omega) | fail) only [push_cast, Nat.reduceBEq, Nat.reduceAdd, Nat.reduceMul, Nat.reduceSub, Nat.reduceLT, Nat.reduceGT, Nat.reduceLeDiff, Nat.reduceEqDiff, Int.reduceToNat, Int.reduceAdd, Int.reduceMul, Int.reduceSub, Int.reduceNeg, Int.reduceLT, Int.reduceLE, Int.reduceEq, Nat.zero_add, Nat.add_zero, Nat.mul_one, eq_self, ne_eq, not_true, not_false_iff, and_true, true_and, and_self, List.getElem?_cons_zero, List.getElem?_cons_succ, List.map_cons, List.map_nil, wrap64, dec_lt, dec_nlt, dec_le, dec_nle, dec_eq, dec_ne, if_pos, if_neg, Int.natCast_add, Int.natCast_one, Int.natCast_zero, Int.toNat_natCast, e1, e2, dec_ne he]
  · rw [if_neg h0] at he ⊢
    refine ⟨h1, p1, ?_⟩
    rw [call_at T158 rfl]
    unfold F158 c158
    simp (disch := first | omega | (simp only [Go.Am.len_push, Go.Am.len_set, Go.Am.len_kill] <;> omega) | fail) only [push_cast, Nat.reduceBEq, Nat.reduceAdd, Nat.reduceMul, Nat.reduceSub, Nat.reduceLT, Nat.reduceGT, Nat.reduceLeDiff, Nat.reduceEqDiff, Int.reduceToNat, Int.reduceAdd, Int.reduceMul, Int.reduceSub, Int.reduceNeg, Int.reduceLT, Int.reduceLE, Int.reduceEq, Nat.zero_add, Nat.add_zero, Nat.mul_one, eq_self, ne_eq, not_true, not_false_iff, and_true, true_and, and_self, List.getElem?_cons_zero, List.getElem?_cons_succ, List.map_cons, List.map_nil, wrap64, dec_lt, dec_nlt, dec_le, dec_nle, dec_eq, dec_ne, if_pos, if_neg, Int.natCast_add, Int.natCast_one, Int.natCast_zero, Int.toNat_natCast, e1, dec_ne he]
theorem bothE_ok {q : Int} {a b : List Int} (h : bothE q a b = 0) : pokE q a = 0 ∧ pokE q b = 0 := by
  unfold bothE at h
  split at h
  · exact ⟨by assumption, h⟩
  · contradiction
theorem grown_block {h : H} {s : Option Addr} {c lo : Nat} {zs : List Int} (hg : Grown h s c zs lo) {x : Addr} (hx : s = some x) : lo ≤ x.block ∧ x.block < h.length ∧ x = ⟨x.block, 0, none⟩ := by
  rcases hg with ⟨rfl, _⟩ | ⟨o, rfl, h1, h2, h3⟩
  · cases hx
  · cases hx; exact ⟨h1, row_some_lt h3, rfl⟩
theorem _root_.Go.Am.Grown.mono {h h' : H} {s : Option Addr} {c lo : Nat} {zs : List Int} (hg : Grown h s c zs lo) (hp : h <+: h') : Grown h' s c zs lo := hg.carry fun o _ ho => row_prefix hp ho
theorem _root_.Go.Am.Grown.low {h : H} {s : Option Addr} {c lo lo' : Nat} {zs : List Int} (hg : Grown h s c zs lo) (hl : lo' ≤ lo) : Grown h s c zs lo' := by
  rcases hg with h1 | ⟨o, h1, h2, h3, h4⟩
  · exact .inl h1
  · exact .inr ⟨o, h1, by omega, h3, h4⟩
theorem pboth_ok {p g : Int} {m : Nat} {mod : List Int} (hn : fldN q.toNat = some (p, m, g, mod)) (ha : RdI h sa ca a) (hb : RdI h sb cb b) (ea : pokE q a = 0) (eb : pokE q b = 0) : ∃ (hF : H) (F : Nat) (s1 s2 : Option Addr) (c1 c2 : Nat) (h' : H),
    h <+: hF ∧ hF <+: h' ∧ PFld hF F q p m g mod ∧ Grown h' s1 c1 (trimL a) hF.length ∧ Grown h' s2 c2 (trimL b) hF.length ∧ (∀ x y, s1 = some x → s2 = some y → x.block ≠ y.block) ∧
    call T 158 [.int .i64 q, .slice sa a.length ca, .slice sb b.length cb] h = some (.tuple #[.pointer (some ⟨F, 0, none⟩), .slice s1 (trimL a).length c1, .slice s2 (trimL b).length c2, .int .i64 0], h') := by
  obtain ⟨_, la, _⟩ := pokE_ok ea
  obtain ⟨_, lb, _⟩ := pokE_ok eb
  obtain ⟨h1, p1, e1⟩ := pcheck2_call q ha (by omega)
  obtain ⟨h2, p2, e2⟩ := pcheck2_call q (hb.mono p1) (by omega)
  obtain ⟨h3, F, p3, hF, e3⟩ := new_some q hn h2
  obtain ⟨s1, c1, h4, p4, g1, e4⟩ := ptrim_call (ha.mono (p1.trans (p2.trans p3))) (by omega)
  obtain ⟨s2, c2, h5, p5, g2, e5⟩ := ptrim_call (hb.mono (p1.trans (p2.trans (p3.trans p4)))) (by omega)
  rw [ea] at e1
  rw [eb] at e2
  refine ⟨h3, F, s1, s2, c1, c2, h5, p1.trans (p2.trans p3), p4.trans p5, hF, g1.mono p5, g2.low p4.length_le, fun x y hx hy => ?_, ?_⟩
  · have := grown_block g1 hx
    have := grown_block g2 hy
    omega
  · rw [call_at T158 rfl]
    unfold F158 c158
    simp (disch := first | omega | (simp only [Go.Am.len_push, Go.Am.len_set, Go.Am.len_kill] <;> omega) | fail) only [push_cast, Nat.reduceBEq, Nat.reduceAdd, Nat.reduceMul, Nat.reduceSub, Nat.reduceLT, Nat.reduceGT, Nat.reduceLeDiff, Nat.reduceEqDiff, Int.reduceToNat, Int.reduceAdd, Int.reduceMul, Int.reduceSub, Int.reduceNeg, Int.reduceLT, Int.reduceLE, Int.reduceEq, Nat.zero_add, Nat.add_zero, Nat.mul_one, eq_self, ne_eq, not_true, not_false_iff, and_true, true_and, and_self, List.getElem?_cons_zero, List.getElem?_cons_succ, List.map_cons, List.map_nil, wrap64, dec_lt, dec_nlt, dec_le, dec_nle, dec_eq, dec_ne, if_pos, if_neg, Int.natCast_add, Int.natCast_one, Int.natCast_zero, Int.toNat_natCast, e1, e2, e3, e4, e5]
end

/-! ### products -/
section
variable {hF : H} {q p g : Int} {m : Nat} {mod : List Int} {F : Nat} {sb : Option Addr} {cb : Nat} {b : List Int}
theorem ptimes_in (hn : fldN q.toNat = some (p, m, g, mod)) (hf : FOk q p m mod) (hp : PFld hF F q p m g mod) (hb : RdI hF sb cb b) (hlb : b.length ≤ 128) {N : Nat} (hN : N ≤ 1000) (v : Int) {i : Nat} (hi : i + b.length ≤ N) {o : Nat} (ho : hF.length ≤ o) (V27 V28 V29 : Value) : ∀ (n k : Nat) (out : List Int) (G : H), k + n = b.length → out.length = N → hF <+: G → G.row o = some ⟨ints out, 3, 1, true⟩ →
    ∃ G' : H, hF <+: G' ∧ G'.row o = some ⟨ints (rowM q v b i n k out), 3, 1, true⟩ ∧ ∀ ks,
      goL T [.tmp 6] [0, 2, 7, 8, 9, 27, 28, 29, 34, 35, 36] c159L0 (.blk 2 [0, 2, 7, 27, 28, 29] :: ks) [(0, .pointer (some ⟨F, 0, none⟩)), (2, .slice sb b.length cb), (7, .slice (some ⟨o, 0, none⟩) N N), (8, .int .i64 i), (9, .int .i64 v), (27, V27), (28, V28), (29, V29), (34, .slice sb b.length cb), (35, .int .i64 b.length), (36, .int .i64 k)] G =
        go T [.tmp 6] ks (Fr.of [(0, .pointer (some ⟨F, 0, none⟩)), (2, .slice sb b.length cb), (7, .slice (some ⟨o, 0, none⟩) N N), (27, V27), (28, V28), (29, V29)]) G'
  | 0, k, out, G, hk, hl, hpr, ro => by
    refine ⟨G, hpr, ro, fun ks => ?_⟩
    rw [goL_at c159L0.eq_def]
    simp (disch := first | omega | (simp only [Go.Am.len_push, Go.Am.len_set, Go.Am.len_kill] <;> omega) | fail) only [push_cast, Nat.reduceBEq, Nat.reduceAdd, Nat.reduceMul, Nat.reduceSub, Nat.reduceLT, Nat.reduceGT, Nat.reduceLeDiff, Nat.reduceEqDiff, Int.reduceToNat, Int.reduceAdd, Int.reduceMul, Int.reduceSub, Int.reduceNeg, Int.reduceLT, Int.reduceLE, Int.reduceEq, Nat.zero_add, Nat.add_zero, Nat.mul_one, eq_self, ne_eq, not_true, not_false_iff, and_true, true_and, and_self, List.getElem?_cons_zero, List.getElem?_cons_succ, List.map_cons, List.map_nil, wrap64, dec_lt, dec_nlt, dec_le, dec_nle, dec_eq, dec_ne, if_pos, if_neg, Int.natCast_add, Int.natCast_one, Int.natCast_zero, Int.toNat_natCast]
  | n + 1, k, out, G, hk, hl, hpr, ro => by
    have IH := ptimes_in hn hf hp hb hlb hN v hi ho V27 V28 V29 n
    obtain ⟨E, L, om, fm, cm, u⟩ := (hp.mono hpr).use hn
    obtain ⟨ob, offb, rfl, _, l1⟩ := (hb.mono hpr).at (i := k) (by omega)
    have l2 := ld1_int ro (i := ((i + k : Nat) : Int)) (by omega) (by omega)
    rw [Int.toNat_natCast] at l2
    have e1 := pmul_call hn u v (gi b k)
    have e2 := padd_call hn u hf (gi out ((i + k : Nat) : Int)) (fmul q v (gi b k))
    have es := sts_int ro (i := ((i + k : Nat) : Int)) (v := fadd q (gi out ((i + k : Nat) : Int)) (fmul q v (gi b k))) (by omega) (by omega)
    rw [Int.toNat_natCast] at es
    obtain ⟨G1, eG1⟩ : ∃ G1 : H, G1 = G.set o (.row ⟨ints (out.set (i + k) (fadd q (gi out ((i + k : Nat) : Int)) (fmul q v (gi b k)))), 3, 1, true⟩) := ⟨_, rfl⟩
    rw [← eG1] at es
    have p1 : hF <+: G1 := by rw [eG1]; exact pre_set hpr ho
    have r1 : G1.row o = some ⟨ints (out.set (i + k) (fadd q (gi out ((i + k : Nat) : Int)) (fmul q v (gi b k)))), 3, 1, true⟩ := by rw [eG1]; exact row_set_same (row_some_lt ro)
    obtain ⟨G', k1, k2, k3⟩ := IH (k + 1) _ G1 (by omega) (by simpa using hl) p1 r1
    refine ⟨G', k1, k2, fun ks => ?_⟩
    have ih := k3 ks
    rw [Int.natCast_add, Int.natCast_one] at ih
    have hik : ((i : Int) + (k : Int)).toNat = i + k := by omega
    rw [Int.natCast_add] at l2 e2 es
    rw [goL_at c159L0.eq_def, ← ih]
    simp (disch := first | omega | (simp only [Go.Am.len_push, Go.Am.len_set, Go.Am.len_kill] <;> omega) | fail) only [push_cast, Nat.reduceBEq, Nat.reduceAdd, Nat.reduceMul, Nat.reduceSub, Nat.reduceLT, Nat.reduceGT, Nat.reduceLeDiff, Nat.reduceEqDiff, Int.reduceToNat, Int.reduceAdd, Int.reduceMul, Int.reduceSub, Int.reduceNeg, Int.reduceLT, Int.reduceLE, Int.reduceEq, Nat.zero_add, Nat.add_zero, Nat.mul_one, eq_self, ne_eq, not_true, not_false_iff, and_true, true_and, and_self, List.getElem?_cons_zero, List.getElem?_cons_succ, List.map_cons, List.map_nil, wrap64, dec_lt, dec_nlt, dec_le, dec_nle, dec_eq, dec_ne, if_pos, if_neg, Int.natCast_add, Int.natCast_one, Int.natCast_zero, Int.toNat_natCast, l1, l2, e1, e2, es, hik]
theorem ptimes_out (hn : fldN q.toNat = some (p, m, g, mod)) (hf : FOk q p m mod) (hp : PFld hF F q p m g mod) {sa : Option Addr} {ca : Nat} {a : List Int} (ha : RdI hF sa ca a) (hla : a.length ≤ 128) (hb : RdI hF sb cb b) (hlb : b.length ≤ 128) {N : Nat} (hN : N + 1 = a.length + b.length) {o : Nat} (ho : hF.length ≤ o) : ∀ (n i : Nat) (out : List Int) (G : H), i + n = a.length → out.length = N → hF <+: G → G.row o = some ⟨ints out, 3, 1, true⟩ →
    ∃ G' : H, hF <+: G' ∧ G'.row o = some ⟨ints (mulM q a b n i out), 3, 1, true⟩ ∧ ∀ ks,
      goL T [.tmp 6] [0, 2, 7, 27, 28, 29] c159L1 (.blk 0 [7] :: ks) [(0, .pointer (some ⟨F, 0, none⟩)), (2, .slice sb b.length cb), (7, .slice (some ⟨o, 0, none⟩) N N), (27, .slice sa a.length ca), (28, .int .i64 a.length), (29, .int .i64 i)] G =
        go T [.tmp 6] ks (Fr.of [(7, .slice (some ⟨o, 0, none⟩) N N)]) G'
  | 0, i, out, G, hk, hl, hpr, ro => by
    refine ⟨G, hpr, ro, fun ks => ?_⟩
    rw [goL_at c159L1.eq_def]
    simp (disch := first | omega | (simp only [Go.Am.len_push, Go.Am.len_set, Go.Am.len_kill] <;> omega) | fail) only [push_cast, Nat.reduceBEq, Nat.reduceAdd, Nat.reduceMul, Nat.reduceSub, Nat.reduceLT, Nat.reduceGT, Nat.reduceLeDiff, Nat.reduceEqDiff, Int.reduceToNat, Int.reduceAdd, Int.reduceMul, Int.reduceSub, Int.reduceNeg, Int.reduceLT, Int.reduceLE, Int.reduceEq, Nat.zero_add, Nat.add_zero, Nat.mul_one, eq_self, ne_eq, not_true, not_false_iff, and_true, true_and, and_self, List.getElem?_cons_zero, List.getElem?_cons_succ, List.map_cons, List.map_nil, wrap64, dec_lt, dec_nlt, dec_le, dec_nle, dec_eq, dec_ne, if_pos, if_neg, Int.natCast_add, Int.natCast_one, Int.natCast_zero, Int.toNat_natCast]
  | n + 1, i, out, G, hk, hl, hpr, ro => by
    have IH := ptimes_out hn hf hp ha hla hb hlb hN ho n
    obtain ⟨oa, offa, rfl, _, l1⟩ := (ha.mono hpr).at (i := i) (by omega)
    obtain ⟨G1, j1, j2, j3⟩ := ptimes_in hn hf hp hb hlb (N := N) (by omega) (gi a i) (i := i) (by omega) ho (.slice (some ⟨oa, offa, none⟩) a.length ca) (.int .i64 a.length) (.int .i64 i) b.length 0 out G (by omega) hl hpr ro
    simp only [Int.natCast_zero] at j3
    obtain ⟨G', k1, k2, k3⟩ := IH (i + 1) (rowM q (gi a i) b i b.length 0 out) G1 (by omega) (by rw [rowM_len]; exact hl) j1 j2
    refine ⟨G', k1, k2, fun ks => ?_⟩
    have ih := k3 ks
    rw [Int.natCast_add, Int.natCast_one] at ih
    rw [goL_at c159L1.eq_def, ← ih]
    simp (disch := first | omega | (simp only [Go.Am.len_push, Go.Am.len_set, Go.Am.len_kill] <;> omega) | fail) only [push_cast, Nat.reduceBEq, Nat.reduceAdd, Nat.reduceMul, Nat.reduceSub, Nat.reduceLT, Nat.reduceGT, Nat.reduceLeDiff, Nat.reduceEqDiff, Int.reduceToNat, Int.reduceAdd, Int.reduceMul, Int.reduceSub, Int.reduceNeg, Int.reduceLT, Int.reduceLE, Int.reduceEq, Nat.zero_add, Nat.add_zero, Nat.mul_one, eq_self, ne_eq, not_true, not_false_iff, and_true, true_and, and_self, List.getElem?_cons_zero, List.getElem?_cons_succ, List.map_cons, List.map_nil, wrap64, dec_lt, dec_nlt, dec_le, dec_nle, dec_eq, dec_ne, if_pos, if_neg, Int.natCast_add, Int.natCast_one, Int.natCast_zero, Int.toNat_natCast, l1]
    rw [j3]
    simp (disch := first | omega | (simp only [Go.Am.len_push, Go.Am.len_set, Go.Am.len_kill] <;> omega) | fail) only [push_cast, Nat.reduceBEq, Nat.reduceAdd, Nat.reduceMul, Nat.reduceSub, Nat.reduceLT, Nat.reduceGT, Nat.reduceLeDiff, Nat.reduceEqDiff, Int.reduceToNat, Int.reduceAdd, Int.reduceMul, Int.reduceSub, Int.reduceNeg, Int.reduceLT, Int.reduceLE, Int.reduceEq, Nat.zero_add, Nat.add_zero, Nat.mul_one, eq_self, ne_eq, not_true, not_false_iff, and_true, true_and, and_self, List.getElem?_cons_zero, List.getElem?_cons_succ, List.map_cons, List.map_nil, wrap64]
theorem ptimes_call {h : H} (hn : fldN q.toNat = some (p, m, g, mod)) (hp : PFld h F q p m g mod) {sa : Option Addr} {ca : Nat} {a : List Int} (ha : RdI h sa ca a) (hla : a.length ≤ 128) (hb : RdI h sb cb b) (hlb : b.length ≤ 128) : ∃ (s : Option Addr) (c : Nat) (h' : H), h <+: h' ∧ Grown h' s c (pmulL q a b) h.length ∧
    call T 159 [.pointer (some ⟨F, 0, none⟩), .slice sa a.length ca, .slice sb b.length cb] h = some (.slice s (pmulL q a b).length c, h') := by
  have hf : FOk q p m mod := by
    obtain ⟨h2, _⟩ := fldN_le hn
    have := (fld_ok hn).1
    rwa [show ((q.toNat : Nat) : Int) = q by omega] at this
  unfold pmulL
  by_cases ha0 : a.length = 0
  · rw [if_pos (.inl ha0)]
    refine ⟨none, 0, h, List.prefix_refl _, .nil, ?_⟩
    have ha0' : (a.length : Int) = 0 := by omega
    rw [call_at T159 rfl]
    unfold F159 c159
    simp (disch := first | omega | (simp only [Go.Am.len_push, Go.Am.len_set, Go.Am.len_kill] <;> omega) | fail) only [push_cast, Nat.reduceBEq, Nat.reduceAdd, Nat.reduceMul, Nat.reduceSub, Nat.reduceLT, Nat.reduceGT, Nat.reduceLeDiff, Nat.reduceEqDiff, Int.reduceToNat, Int.reduceAdd, Int.reduceMul, Int.reduceSub, Int.reduceNeg, Int.reduceLT, Int.reduceLE, Int.reduceEq, Nat.zero_add, Nat.add_zero, Nat.mul_one, eq_self, ne_eq, not_true, not_false_iff, and_true, true_and, and_self, List.getElem?_cons_zero, List.getElem?_cons_succ, List.map_cons, List.map_nil, wrap64, dec_lt, dec_nlt, dec_le, dec_nle, dec_eq, dec_ne, if_pos, if_neg, Int.natCast_add, Int.natCast_one, Int.natCast_zero, Int.toNat_natCast, List.length_nil]
  · by_cases hb0 : b.length = 0
    · rw [if_pos (.inr hb0)]
      refine ⟨none, 0, h, List.prefix_refl _, .nil, ?_⟩
      rw [call_at T159 rfl]
      unfold F159 c159
      simp (disch := first | omega | (simp only [Go.Am.len_push, Go.Am.len_set, Go.Am.len_kill] <;> omega) | fail) only [push_cast, Nat.reduceBEq, Nat.reduceAdd, Nat.reduceMul, Nat.reduceSub, Nat.reduceLT, Nat.reduceGT, Nat.reduceLeDiff, Nat.reduceEqDiff, Int.reduceToNat, Int.reduceAdd, Int.reduceMul, Int.reduceSub, Int.reduceNeg, Int.reduceLT, Int.reduceLE, Int.reduceEq, Nat.zero_add, Nat.add_zero, Nat.mul_one, eq_self, ne_eq, not_true, not_false_iff, and_true, true_and, and_self, List.getElem?_cons_zero, List.getElem?_cons_succ, List.map_cons, List.map_nil, wrap64, dec_lt, dec_nlt, dec_le, dec_nle, dec_eq, dec_ne, if_pos, if_neg, Int.natCast_add, Int.natCast_one, Int.natCast_zero, Int.toNat_natCast, List.length_nil]
    · rw [if_neg (by omega)]
      obtain ⟨N, hN⟩ : ∃ N : Nat, N = a.length + b.length - 1 := ⟨_, rfl⟩
      rw [← hN]
      obtain ⟨G1, eG1⟩ : ∃ G1 : H, G1 = h ++ [.row ⟨ints (List.replicate N 0), 3, 1, true⟩] := ⟨_, rfl⟩
      have r1 : G1.row h.length = some ⟨ints (List.replicate N 0), 3, 1, true⟩ := by rw [eG1]; exact row_push_new
      have p1 : h <+: G1 := by rw [eG1]; exact List.prefix_append _ _
      obtain ⟨G2, k1, k2, k3⟩ := ptimes_out hn hf hp ha hla hb hlb (N := N) (by omega) (o := h.length) (Nat.le_refl _) a.length 0 (List.replicate N 0) G1 (by omega) (by simp) p1 r1
      simp only [Int.natCast_zero] at k3
      have hml : (mulM q a b a.length 0 (List.replicate N 0)).length = N := by rw [mulM_len]; simp
      have hrd : RdI G2 (some ⟨h.length, 0, none⟩) N (mulM q a b a.length 0 (List.replicate N 0)) := by have := RdI.ofRow k2 rfl; rwa [hml] at this
      obtain ⟨s', c', G3, p3, g3, e3⟩ := ptrim_call hrd (by omega)
      rw [hml] at e3
      refine ⟨s', c', G3, k1.trans p3, g3.low k1.length_le, ?_⟩
      have hr0 : rep [.int .i64 0] N = ints (List.replicate N 0) := rep_int _ _
      have hNi : (a.length : Int) + (b.length : Int) - 1 = (N : Int) := by omega
      rw [call_at T159 rfl]
      unfold F159 c159
      simp (disch := first | omega | (simp only [Go.Am.len_push, Go.Am.len_set, Go.Am.len_kill] <;> omega) | fail) only [push_cast, Nat.reduceBEq, Nat.reduceAdd, Nat.reduceMul, Nat.reduceSub, Nat.reduceLT, Nat.reduceGT, Nat.reduceLeDiff, Nat.reduceEqDiff, Int.reduceToNat, Int.reduceAdd, Int.reduceMul, Int.reduceSub, Int.reduceNeg, Int.reduceLT, Int.reduceLE, Int.reduceEq, Nat.zero_add, Nat.add_zero, Nat.mul_one, eq_self, ne_eq, not_true, not_false_iff, and_true, true_and, and_self, List.getElem?_cons_zero, List.getElem?_cons_succ, List.map_cons, List.map_nil, wrap64, dec_lt, dec_nlt, dec_le, dec_nle, dec_eq, dec_ne, if_pos, if_neg, Int.natCast_add, Int.natCast_one, Int.natCast_zero, Int.toNat_natCast, hNi, hr0, ← eG1]
      rw [k3]
      simp (disch := first | omega | (simp only [Go.Am.len_push, Go.Am.len_set, Go.Am.len_kill] <;> omega) | fail) only [push_cast, Nat.reduceBEq, Nat.reduceAdd, Nat.reduceMul, Nat.reduceSub, Nat.reduceLT, Nat.reduceGT, Nat.reduceLeDiff, Nat.reduceEqDiff, Int.reduceToNat, Int.reduceAdd, Int.reduceMul, Int.reduceSub, Int.reduceNeg, Int.reduceLT, Int.reduceLE, Int.reduceEq, Nat.zero_add, Nat.add_zero, Nat.mul_one, eq_self, ne_eq, not_true, not_false_iff, and_true, true_and, and_self, List.getElem?_cons_zero, List.getElem?_cons_succ, List.map_cons, List.map_nil, e3]
end

def mulE (q : Int) (a b : List Int) : Int := if bothE q a b = 0 then (if (trimL a).length ≠ 0 ∧ (trimL b).length ≠ 0 ∧ 128 < (trimL a).length + (trimL b).length - 1 then 4 else 0) else bothE q a b
def mulV (q : Int) (a b : List Int) : List Int := if mulE q a b = 0 then pmulL q (trimL a) (trimL b) else []
theorem mulE_ok {q : Int} {a b : List Int} (h : mulE q a b = 0) : bothE q a b = 0 ∧ ((trimL a).length = 0 ∨ (trimL b).length = 0 ∨ (trimL a).length + (trimL b).length - 1 ≤ 128) := by
  unfold mulE at h
  split at h
  · split at h
    · cases h
    · exact ⟨by assumption, by omega⟩
  · contradiction
section
variable {h : H} {sa sb : Option Addr} {ca cb : Nat} {a b : List Int} {q : Int}
theorem pmul2_call (ha : RdI h sa ca a) (hb : RdI h sb cb b) (hla : a.length ≤ 9223372036854775807) (hlb : b.length ≤ 9223372036854775807) : ∃ (s : Option Addr) (c : Nat) (h' : H), h <+: h' ∧ Grown h' s c (mulV q a b) h.length ∧
    call T 130 [.int .i64 q, .slice sa a.length ca, .slice sb b.length cb] h = some (.tuple #[.slice s (mulV q a b).length c, .int .i64 (mulE q a b)], h') := by
  by_cases he : bothE q a b = 0
  rotate_left
  · obtain ⟨h1, p1, e1⟩ := pboth_bad ha hb hla hlb he
    have hE : mulE q a b = bothE q a b := by unfold mulE; rw [if_neg he]
    have hV : mulV q a b = [] := by unfold mulV; rw [hE, if_neg he]
    rw [hE, hV]
    refine ⟨none, 0, h1, p1, .nil, ?_⟩
    rw [call_at T130 rfl]
    unfold F130 c130
    simp (disch := first | omega | (simp only [Go.Am.len_push, Go.Am.len_set, Go.Am.len_kill] <;> omega) | fail) only [push_cast, Nat.reduceBEq, Nat.reduceAdd, Nat.reduceMul, Nat.reduceSub, Nat.reduceLT, Nat.reduceGT, Nat.reduceLeDiff, Nat.reduceEqDiff, Int.reduceToNat, Int.reduceAdd, Int.reduceMul, Int.reduceSub, Int.reduceNeg, Int.reduceLT, Int.reduceLE, Int.reduceEq, Nat.zero_add, Nat.add_zero, Nat.mul_one, eq_self, ne_eq, not_true, not_false_iff, and_true, true_and, and_self, List.getElem?_cons_zero, List.getElem?_cons_succ, List.map_cons, List.map_nil, wrap64, dec_lt, dec_nlt, dec_le, dec_nle, dec_eq, dec_ne, if_pos, if_neg, Int.natCast_add, Int.natCast_one, Int.natCast_zero, Int.toNat_natCast, e1, dec_ne he, List.length_nil]
  obtain ⟨ea, eb⟩ := bothE_ok he
  obtain ⟨⟨x, hx⟩, la, _⟩ := pokE_ok ea
  obtain ⟨_, lb, _⟩ := pokE_ok eb
  obtain ⟨p, m, g, mod⟩ := x
  obtain ⟨hF, F, s1, s2, c1, c2, h1, p0, p1, hp, g1, g2, _, e1⟩ := pboth_ok hx ha hb ea eb
  have l1 := trimL_le a
  have l2 := trimL_le b
  by_cases ha0 : (trimL a).length = 0
  · have hE : mulE q a b = 0 := by unfold mulE; rw [if_pos he, if_neg (by omega)]
    have hV : mulV q a b = [] := by unfold mulV pmulL; rw [if_pos hE, if_pos (.inl ha0)]
    rw [hE, hV]
    refine ⟨none, 0, h1, p0.trans p1, .nil, ?_⟩
    rw [call_at T130 rfl]
    unfold F130 c130
    simp (disch := first | omega | (simp only [Go.Am.len_push, Go.Am.len_set, Go.Am.len_kill] <;> omega) | fail) only [push_cast, Nat.reduceBEq, Nat.reduceAdd, Nat.reduceMul, Nat.reduceSub, Nat.reduceLT, Nat.reduceGT, Nat.reduceLeDiff, Nat.reduceEqDiff, Int.reduceToNat, Int.reduceAdd, Int.reduceMul, Int.reduceSub, Int.reduceNeg, Int.reduceLT, Int.reduceLE, Int.reduceEq, Nat.zero_add, Nat.add_zero, Nat.mul_one, eq_self, ne_eq, not_true, not_false_iff, and_true, true_and, and_self, List.getElem?_cons_zero, List.getElem?_cons_succ, List.map_cons, List.map_nil, wrap64, dec_lt, dec_nlt, dec_le, dec_nle, dec_eq, dec_ne, if_pos, if_neg, Int.natCast_add, Int.natCast_one, Int.natCast_zero, Int.toNat_natCast, e1, List.length_nil]
  · by_cases hb0 : (trimL b).length = 0
    · have hE : mulE q a b = 0 := by unfold mulE; rw [if_pos he, if_neg (by omega)]
      have hV : mulV q a b = [] := by unfold mulV pmulL; rw [if_pos hE, if_pos (.inr hb0)]
      rw [hE, hV]
      refine ⟨none, 0, h1, p0.trans p1, .nil, ?_⟩
      rw [call_at T130 rfl]
      unfold F130 c130
      simp (disch := first | omega | (simp only [Go.Am.len_push, Go.Am.len_set, Go.Am.len_kill] <;> omega) | fail) only [push_cast, Nat.reduceBEq, Nat.reduceAdd, Nat.reduceMul, Nat.reduceSub, Nat.reduceLT, Nat.reduceGT, Nat.reduceLeDiff, Nat.reduceEqDiff, Int.reduceToNat, Int.reduceAdd, Int.reduceMul, Int.reduceSub, Int.reduceNeg, Int.reduceLT, Int.reduceLE, Int.reduceEq, Nat.zero_add, Nat.add_zero, Nat.mul_one, eq_self, ne_eq, not_true, not_false_iff, and_true, true_and, and_self, List.getElem?_cons_zero, List.getElem?_cons_succ, List.map_cons, List.map_nil, wrap64, dec_lt, dec_nlt, dec_le, dec_nle, dec_eq, dec_ne, if_pos, if_neg, Int.natCast_add, Int.natCast_one, Int.natCast_zero, Int.toNat_natCast, e1, List.length_nil]
    · by_cases h128 : 128 < (trimL a).length + (trimL b).length - 1
      · have hE : mulE q a b = 4 := by unfold mulE; rw [if_pos he, if_pos ⟨ha0, hb0, h128⟩]
        have hV : mulV q a b = [] := by unfold mulV; rw [hE, if_neg (by decide)]
        rw [hE, hV]
        refine ⟨none, 0, h1, p0.trans p1, .nil, ?_⟩
        rw [call_at T130 rfl]
        unfold F130 c130
        simp (disch := first | omega | (simp only [Go.Am.len_push, Go.Am.len_set, Go.Am.len_kill] <;> omega) | fail) only [push_cast, Nat.reduceBEq, Nat.reduceAdd, Nat.reduceMul, Nat.reduceSub, Nat.reduceLT, Nat.reduceGT, Nat.reduceLeDiff, Nat.reduceEqDiff, Int.reduceToNat, Int.reduceAdd, Int.reduceMul, Int.reduceSub, Int.reduceNeg, Int.reduceLT, Int.reduceLE, Int.reduceEq, Nat.zero_add, Nat.add_zero, Nat.mul_one, eq_self, ne_eq, not_true, not_false_iff, and_true, true_and, and_self, List.getElem?_cons_zero, List.getElem?_cons_succ, List.map_cons, List.map_nil, wrap64, dec_lt, dec_nlt, dec_le, dec_nle, dec_eq, dec_ne, if_pos, if_neg, Int.natCast_add, Int.natCast_one, Int.natCast_zero, Int.toNat_natCast, e1, List.length_nil]
      · have hE : mulE q a b = 0 := by unfold mulE; rw [if_pos he, if_neg (by omega)]
        have hV : mulV q a b = pmulL q (trimL a) (trimL b) := by unfold mulV; rw [if_pos hE]
        obtain ⟨s, c, h2, p2, g3, e2⟩ := ptimes_call hx (hp.mono p1) g1.rd (by omega) g2.rd (by omega)
        rw [hE, hV]
        refine ⟨s, c, h2, p0.trans (p1.trans p2), g3.low (by have := (p0.trans p1).length_le; omega), ?_⟩
        rw [call_at T130 rfl]
        unfold F130 c130
        simp (disch := first | omega | (simp only [Go.Am.len_push, Go.Am.len_set, Go.Am.len_kill] <;> omega) | fail) only [push_cast, Nat.reduceBEq, Nat.reduceAdd, Nat.reduceMul, Nat.reduceSub, Nat.reduceLT, Nat.reduceGT, Nat.reduceLeDiff, Nat.reduceEqDiff, Int.reduceToNat, Int.reduceAdd, Int.reduceMul, Int.reduceSub, Int.reduceNeg, Int.reduceLT, Int.reduceLE, Int.reduceEq, Nat.zero_add, Nat.add_zero, Nat.mul_one, eq_self, ne_eq, not_true, not_false_iff, and_true, true_and, and_self, List.getElem?_cons_zero, List.getElem?_cons_succ, List.map_cons, List.map_nil, wrap64, dec_lt, dec_nlt, dec_le, dec_nle, dec_eq, dec_ne, if_pos, if_neg, Int.natCast_add, Int.natCast_one, Int.natCast_zero, Int.toNat_natCast, e1, e2]
end
end Go.Proofs.Ytammndhoillliaa
namespace Go.Proofs.Ytammndhoillliaa
open Go.Am
set_option linter.unusedVariables false
set_option linter.unusedSimpArgs false
set_option maxRecDepth 30000

def addR (q : Int) (b : List Int) : Nat → Nat → List Int → List Int
  | 0, _, a => a
  | n + 1, i, a => addR q b n (i + 1) (a.set i (fadd q (gi a i) (gi b i)))
theorem addR_len (q : Int) (b : List Int) : ∀ (n i : Nat) (a : List Int), (addR q b n i a).length = a.length
  | 0, _, _ => rfl
  | n + 1, i, a => by rw [addR, addR_len q b n]; simp
theorem addR_gi (q : Int) (b : List Int) : ∀ (n i : Nat) (a : List Int), i + n = b.length → b.length ≤ a.length → ∀ j : Nat, gi (addR q b n i a) j = if i ≤ j ∧ j < b.length then fadd q (gi a j) (gi b j) else gi a j
  | 0, i, a, hi, hl, j => by rw [addR, if_neg (by omega)]
  | n + 1, i, a, hi, hl, j => by
    rw [addR, addR_gi q b n (i + 1) _ (by omega) (by simpa using hl) j, gi_set (by omega)]
    by_cases h1 : i = j
    · subst h1
      rw [if_neg (by omega), if_pos rfl, if_pos ⟨Nat.le_refl _, by omega⟩]
    · by_cases h2 : i + 1 ≤ j ∧ j < b.length
      · rw [if_pos h2, if_neg h1, if_pos ⟨by omega, h2.2⟩]
      · rw [if_neg h2, if_neg h1, if_neg (by omega)]
section
variable {q p g : Int} {m : Nat} {mod : List Int}
theorem addR_eq (hn : fldN q.toNat = some (p, m, g, mod)) {a b : List Int} (ha : AllF q a) (hl : b.length ≤ a.length) : trimL (addR q b b.length 0 a) = paddL q a b := by
  unfold paddL
  refine trimL_congr fun i => ?_
  rw [addR_gi q b b.length 0 a (by omega) hl, sumL_gi hn]
  by_cases hi : i < b.length
  · rw [if_pos ⟨by omega, hi⟩]
  · rw [if_neg (by omega), gi_out (l := b) (by omega), fadd_zero hn (allF_gi0 hn ha i)]
variable {hF : H} {F : Nat}
theorem padd_in (hn : fldN q.toNat = some (p, m, g, mod)) (hf : FOk q p m mod) (hp : PFld hF F q p m g mod) {b : List Int} {o o2 N : Nat} (hN : N ≤ 1000) (hb : b.length ≤ N) (hne : o ≠ o2) (ho : hF.length ≤ o) : ∀ (n i : Nat) (a : List Int) (G : H), i + n = b.length → a.length = N → hF <+: G → G.row o = some ⟨ints a, 3, 1, true⟩ → G.row o2 = some ⟨ints b, 3, 1, true⟩ →
    ∃ G' : H, hF <+: G' ∧ G'.row o = some ⟨ints (addR q b n i a), 3, 1, true⟩ ∧ ∀ ks,
      goL T [.tmp 6, .tmp 7] [1, 8, 31, 32, 33] c131L0 (.blk 0 [1] :: ks) [(1, .slice (some ⟨o, 0, none⟩) N N), (8, .pointer (some ⟨F, 0, none⟩)), (31, .slice (some ⟨o2, 0, none⟩) b.length b.length), (32, .int .i64 b.length), (33, .int .i64 i)] G =
        go T [.tmp 6, .tmp 7] ks (Fr.of [(1, .slice (some ⟨o, 0, none⟩) N N)]) G'
  | 0, i, a, G, hi, hl, hpr, r1, r2 => by
    refine ⟨G, hpr, r1, fun ks => ?_⟩
    rw [goL_at c131L0.eq_def]
    simp (disch := first | omega | (simp only [Go.Am.len_push, Go.Am.len_set, Go.Am.len_kill] <;> omega) | fail) only [push_cast, Nat.reduceBEq, Nat.reduceAdd, Nat.reduceMul, Nat.reduceSub, Nat.reduceLT, Nat.reduceGT, Nat.reduceLeDiff, Nat.reduceEqDiff, Int.reduceToNat, Int.reduceAdd, Int.reduceMul, Int.reduceSub, Int.reduceNeg, Int.reduceLT, Int.reduceLE, Int.reduceEq, Nat.zero_add, Nat.add_zero, Nat.mul_one, eq_self, ne_eq, not_true, not_false_iff, and_true, true_and, and_self, List.getElem?_cons_zero, List.getElem?_cons_succ, List.map_cons, List.map_nil, wrap64, dec_lt, dec_nlt, dec_le, dec_nle, dec_eq, dec_ne, if_pos, if_neg, Int.natCast_add, Int.natCast_one, Int.natCast_zero, Int.toNat_natCast]
  | n + 1, i, a, G, hi, hl, hpr, r1, r2 => by
    obtain ⟨E, L, om, fm, cm, u⟩ := (hp.mono hpr).use hn
    have l1 := ld1_int r1 (i := (i : Int)) (by omega) (by omega)
    have l2 := ld1_int r2 (i := (i : Int)) (by omega) (by omega)
    rw [Int.toNat_natCast] at l1 l2
    have e1 := padd_call hn u hf (gi a i) (gi b i)
    have es := sts_int r1 (i := (i : Int)) (v := fadd q (gi a i) (gi b i)) (by omega) (by omega)
    rw [Int.toNat_natCast] at es
    obtain ⟨G1, eG1⟩ : ∃ G1 : H, G1 = G.set o (.row ⟨ints (a.set i (fadd q (gi a i) (gi b i))), 3, 1, true⟩) := ⟨_, rfl⟩
    rw [← eG1] at es
    have p1 : hF <+: G1 := by rw [eG1]; exact pre_set hpr ho
    have r1' : G1.row o = some ⟨ints (a.set i (fadd q (gi a i) (gi b i))), 3, 1, true⟩ := by rw [eG1]; exact row_set_same (row_some_lt r1)
    have r2' : G1.row o2 = some ⟨ints b, 3, 1, true⟩ := by rw [eG1, row_set_other hne]; exact r2
    obtain ⟨G', k1, k2, k3⟩ := padd_in hn hf hp hN hb hne ho n (i + 1) _ G1 (by omega) (by simpa using hl) p1 r1' r2'
    refine ⟨G', k1, k2, fun ks => ?_⟩
    have ih := k3 ks
    rw [Int.natCast_add, Int.natCast_one] at ih
    rw [goL_at c131L0.eq_def, ← ih]
    simp (disch := first | omega | (simp only [Go.Am.len_push, Go.Am.len_set, Go.Am.len_kill] <;> omega) | fail) only [push_cast, Nat.reduceBEq, Nat.reduceAdd, Nat.reduceMul, Nat.reduceSub, Nat.reduceLT, Nat.reduceGT, Nat.reduceLeDiff, Nat.reduceEqDiff, Int.reduceToNat, Int.reduceAdd, Int.reduceMul, Int.reduceSub, Int.reduceNeg, Int.reduceLT, Int.reduceLE, Int.reduceEq, Nat.zero_add, Nat.add_zero, Nat.mul_one, eq_self, ne_eq, not_true, not_false_iff, and_true, true_and, and_self, List.getElem?_cons_zero, List.getElem?_cons_succ, List.map_cons, List.map_nil, wrap64, dec_lt, dec_nlt, dec_le, dec_nle, dec_eq, dec_ne, if_pos, if_neg, Int.natCast_add, Int.natCast_one, Int.natCast_zero, Int.toNat_natCast, l1, l2, e1, es]
/-- from where both are made on: the greater takes the less -/
theorem padd_tail (hn : fldN q.toNat = some (p, m, g, mod)) (hp : PFld hF F q p m g mod) {a b : List Int} (ha : AllF q a) (hla : a.length ≤ 128) (hl : b.length ≤ a.length) {h1 : H} (p1 : hF <+: h1) {s1 s2 : Option Addr} {c1 c2 : Nat} (g1 : Grown h1 s1 c1 a hF.length) (g2 : Grown h1 s2 c2 b hF.length) (hd : ∀ x y, s1 = some x → s2 = some y → x.block ≠ y.block) :
    ∃ (s : Option Addr) (c : Nat) (G h' : H), hF <+: G ∧ G <+: h' ∧ Grown h' s c (paddL q a b) hF.length ∧ call T 160 [.slice s1 a.length c1] G = some (.slice s (paddL q a b).length c, h') ∧ ∀ ks,
      goL T [.tmp 6, .tmp 7] [1, 8, 31, 32, 33] c131L0 (.blk 0 [1] :: ks) [(1, .slice s1 a.length c1), (8, .pointer (some ⟨F, 0, none⟩)), (31, .slice s2 b.length c2), (32, .int .i64 b.length), (33, .int .i64 0)] h1 =
        go T [.tmp 6, .tmp 7] ks (Fr.of [(1, .slice s1 a.length c1)]) G := by
  have hf : FOk q p m mod := by
    obtain ⟨h2, _⟩ := fldN_le hn
    have := (fld_ok hn).1
    rwa [show ((q.toNat : Nat) : Int) = q by omega] at this
  by_cases hb0 : b.length = 0
  · have hbn : b = [] := List.eq_nil_of_length_eq_zero hb0
    subst hbn
    obtain ⟨s, c, h', k1, k2, k3⟩ := ptrim_call g1.rd (by omega)
    have hpa : paddL q a [] = trimL a := by rw [← addR_eq hn ha (by simp)]; rfl
    rw [hpa]
    refine ⟨s, c, h1, h', p1, k1, k2.low p1.length_le, k3, fun ks => ?_⟩
    rw [goL_at c131L0.eq_def]
    simp (disch := first | omega | (simp only [Go.Am.len_push, Go.Am.len_set, Go.Am.len_kill] <;> omega) | fail) only [push_cast, Nat.reduceBEq, Nat.reduceAdd, Nat.reduceMul, Nat.reduceSub, Nat.reduceLT, Nat.reduceGT, Nat.reduceLeDiff, Nat.reduceEqDiff, Int.reduceToNat, Int.reduceAdd, Int.reduceMul, Int.reduceSub, Int.reduceNeg, Int.reduceLT, Int.reduceLE, Int.reduceEq, Nat.zero_add, Nat.add_zero, Nat.mul_one, eq_self, ne_eq, not_true, not_false_iff, and_true, true_and, and_self, List.getElem?_cons_zero, List.getElem?_cons_succ, List.map_cons, List.map_nil, wrap64, dec_lt, dec_nlt, dec_le, dec_nle, dec_eq, dec_ne, if_pos, if_neg, Int.natCast_add, Int.natCast_one, Int.natCast_zero, Int.toNat_natCast, List.length_nil]
  · rcases g2 with ⟨_, _, rfl⟩ | ⟨o2, rfl, ho2, rfl, r2⟩
    · exact absurd rfl hb0
    rcases g1 with ⟨_, _, rfl⟩ | ⟨o1, rfl, ho1, rfl, r1⟩
    · exact absurd (by simpa using hl) hb0
    obtain ⟨G, k1, k2, k3⟩ := padd_in hn hf hp (N := a.length) (by omega) hl (hd _ _ rfl rfl) ho1 b.length 0 a h1 (by omega) rfl p1 r1 r2
    simp only [Int.natCast_zero] at k3
    have hal := addR_len q b b.length 0 a
    have hrd : RdI G (some ⟨o1, 0, none⟩) a.length (addR q b b.length 0 a) := by have := RdI.ofRow k2 rfl; rwa [hal] at this
    obtain ⟨s, c, h', j1, j2, j3⟩ := ptrim_call hrd (by omega)
    rw [addR_eq hn ha hl] at j2 j3
    rw [hal] at j3
    exact ⟨s, c, G, h', k1, j1, j2.low k1.length_le, j3, k3⟩
end
def addV (q : Int) (a b : List Int) : List Int := if bothE q a b = 0 then paddL q a b else []
section
variable {h : H} {sa sb : Option Addr} {ca cb : Nat} {a b : List Int} {q : Int}
theorem padd2_call (ha : RdI h sa ca a) (hb : RdI h sb cb b) (hla : a.length ≤ 9223372036854775807) (hlb : b.length ≤ 9223372036854775807) : ∃ (s : Option Addr) (c : Nat) (h' : H), h <+: h' ∧ Grown h' s c (addV q a b) h.length ∧
    call T 131 [.int .i64 q, .slice sa a.length ca, .slice sb b.length cb] h = some (.tuple #[.slice s (addV q a b).length c, .int .i64 (bothE q a b)], h') := by
  by_cases he : bothE q a b = 0
  rotate_left
  · obtain ⟨h1, p1, e1⟩ := pboth_bad ha hb hla hlb he
    have hV : addV q a b = [] := by unfold addV; rw [if_neg he]
    rw [hV]
    refine ⟨none, 0, h1, p1, .nil, ?_⟩
    rw [call_at T131 rfl]
    unfold F131 c131
    simp (disch := first | omega | (simp only [Go.Am.len_push, Go.Am.len_set, Go.Am.len_kill] <;> omega) | fail) only [push_cast, Nat.reduceBEq, Nat.reduceAdd, Nat.reduceMul, Nat.reduceSub, Nat.reduceLT, Nat.reduceGT, Nat.reduceLeDiff, Nat.reduceEqDiff, Int.reduceToNat, Int.reduceAdd, Int.reduceMul, Int.reduceSub, Int.reduceNeg, Int.reduceLT, Int.reduceLE, Int.reduceEq, Nat.zero_add, Nat.add_zero, Nat.mul_one, eq_self, ne_eq, not_true, not_false_iff, and_true, true_and, and_self, List.getElem?_cons_zero, List.getElem?_cons_succ, List.map_cons, List.map_nil, wrap64, dec_lt, dec_nlt, dec_le, dec_nle, dec_eq, dec_ne, if_pos, if_neg, Int.natCast_add, Int.natCast_one, Int.natCast_zero, Int.toNat_natCast, e1, dec_ne he, List.length_nil]
  obtain ⟨ea, eb⟩ := bothE_ok he
  obtain ⟨⟨x, hx⟩, la, fa⟩ := pokE_ok ea
  obtain ⟨_, lb, fb⟩ := pokE_ok eb
  obtain ⟨p, m, g, mod⟩ := x
  obtain ⟨hF, F, s1, s2, c1, c2, h1, p0, p1, hp, g1, g2, hd, e1⟩ := pboth_ok hx ha hb ea eb
  have l1 := trimL_le a
  have l2 := trimL_le b
  have hV : addV q a b = paddL q (trimL a) (trimL b) := by unfold addV; rw [if_pos he, paddL_trim hx]
  rw [hV, he]
  by_cases hlt : (trimL a).length < (trimL b).length
  · obtain ⟨s, c, G, h', q1, q2, q3, q4, q5⟩ := padd_tail hx hp (trimL_all fb) (by omega) (Nat.le_of_lt hlt) p1 g2 g1 (fun x y hx hy => (hd y x hy hx).symm)
    rw [paddL_comm]
    refine ⟨s, c, h', p0.trans (q1.trans q2), q3.low p0.length_le, ?_⟩
    rw [call_at T131 rfl]
    unfold F131 c131
    simp (disch := first | omega | (simp only [Go.Am.len_push, Go.Am.len_set, Go.Am.len_kill] <;> omega) | fail) only [push_cast, Nat.reduceBEq, Nat.reduceAdd, Nat.reduceMul, Nat.reduceSub, Nat.reduceLT, Nat.reduceGT, Nat.reduceLeDiff, Nat.reduceEqDiff, Int.reduceToNat, Int.reduceAdd, Int.reduceMul, Int.reduceSub, Int.reduceNeg, Int.reduceLT, Int.reduceLE, Int.reduceEq, Nat.zero_add, Nat.add_zero, Nat.mul_one, eq_self, ne_eq, not_true, not_false_iff, and_true, true_and, and_self, List.getElem?_cons_zero, List.getElem?_cons_succ, List.map_cons, List.map_nil, wrap64, dec_lt, dec_nlt, dec_le, dec_nle, dec_eq, dec_ne, if_pos, if_neg, Int.natCast_add, Int.natCast_one, Int.natCast_zero, Int.toNat_natCast, e1]
    rw [q5]
    simp (disch := first | omega | (simp only [Go.Am.len_push, Go.Am.len_set, Go.Am.len_kill] <;> omega) | fail) only [push_cast, Nat.reduceBEq, Nat.reduceAdd, Nat.reduceMul, Nat.reduceSub, Nat.reduceLT, Nat.reduceGT, Nat.reduceLeDiff, Nat.reduceEqDiff, Int.reduceToNat, Int.reduceAdd, Int.reduceMul, Int.reduceSub, Int.reduceNeg, Int.reduceLT, Int.reduceLE, Int.reduceEq, Nat.zero_add, Nat.add_zero, Nat.mul_one, eq_self, ne_eq, not_true, not_false_iff, and_true, true_and, and_self, List.getElem?_cons_zero, List.getElem?_cons_succ, List.map_cons, List.map_nil, q4]
  · obtain ⟨s, c, G, h', q1, q2, q3, q4, q5⟩ := padd_tail hx hp (trimL_all fa) (by omega) (by omega) p1 g1 g2 hd
    refine ⟨s, c, h', p0.trans (q1.trans q2), q3.low p0.length_le, ?_⟩
    rw [call_at T131 rfl]
    unfold F131 c131
    simp (disch := first | omega | (simp only [Go.Am.len_push, Go.Am.len_set, Go.Am.len_kill] <;> omega) | fail) only [push_cast, Nat.reduceBEq, Nat.reduceAdd, Nat.reduceMul, Nat.reduceSub, Nat.reduceLT, Nat.reduceGT, Nat.reduceLeDiff, Nat.reduceEqDiff, Int.reduceToNat, Int.reduceAdd, Int.reduceMul, Int.reduceSub, Int.reduceNeg, Int.reduceLT, Int.reduceLE, Int.reduceEq, Nat.zero_add, Nat.add_zero, Nat.mul_one, eq_self, ne_eq, not_true, not_false_iff, and_true, true_and, and_self, List.getElem?_cons_zero, List.getElem?_cons_succ, List.map_cons, List.map_nil, wrap64, dec_lt, dec_nlt, dec_le, dec_nle, dec_eq, dec_ne, if_pos, if_neg, Int.natCast_add, Int.natCast_one, Int.natCast_zero, Int.toNat_natCast, e1]
    rw [q5]
    simp (disch := first | omega | (simp only [Go.Am.len_push, Go.Am.len_set, Go.Am.len_kill] <;> omega) | fail) only [push_cast, Nat.reduceBEq, Nat.reduceAdd, Nat.reduceMul, Nat.reduceSub, Nat.reduceLT, Nat.reduceGT, Nat.reduceLeDiff, Nat.reduceEqDiff, Int.reduceToNat, Int.reduceAdd, Int.reduceMul, Int.reduceSub, Int.reduceNeg, Int.reduceLT, Int.reduceLE, Int.reduceEq, Nat.zero_add, Nat.add_zero, Nat.mul_one, eq_self, ne_eq, not_true, not_false_iff, and_true, true_and, and_self, List.getElem?_cons_zero, List.getElem?_cons_succ, List.map_cons, List.map_nil, q4]
end

/-! ### lists.Curve -/
theorem paddL_trimmed (q : Int) (a b : List Int) : Trimmed (paddL q a b) := trimL_trimmed _
section
variable {h0 : H} {sa sy : Option Addr} {C cy : Nat} {cs : List (List Int)} {y : List Int} {q : Int}
theorem take_rev {α : Type} {l : List α} {j : Nat} {x : α} (h : l[j]? = some x) : (l.take (j + 1)).reverse = x :: (l.take j).reverse := by
  obtain ⟨hj, he⟩ := List.getElem?_eq_some_iff.1 h
  rw [List.take_succ_eq_append_getElem hj, List.reverse_append, he]; rfl
theorem pcurve_loop (hr : RdLL h0 sa C cs) (hl2 : ∀ c ∈ cs, c.length ≤ 9223372036854775807) (hcs : cs.length ≤ 64) (hy : RdI h0 sy cy y) (ey : pokE q y = 0) : ∀ (j : Nat) (s : List Int) (ss : Option Addr) (cc : Nat) (G : H), j ≤ cs.length → pokE q s = 0 → Trimmed s → RdI G ss cc s → h0 <+: G →
    ∃ (s' : Option Addr) (c' : Nat) (G' : H), h0 <+: G' ∧ RdI G' s' c' (curN q (trimL y) (cs.take j).reverse s).2 ∧ ∀ ks,
      goL T [.tmp 6, .tmp 7] [0, 1, 2, 9, 10] c74L0 (.blk 0 [9] :: ks) [(0, .int .i64 q), (1, .slice sa cs.length C), (2, .slice sy y.length cy), (9, .slice ss s.length cc), (10, .int .i64 ((j : Int) - 1))] G =
        if (curN q (trimL y) (cs.take j).reverse s).1 = 0 then go T [.tmp 6, .tmp 7] ks (Fr.of [(9, .slice s' (curN q (trimL y) (cs.take j).reverse s).2.length c')]) G'
        else some (.tuple #[.slice none 0 0, .int .i64 (curN q (trimL y) (cs.take j).reverse s).1], G')
  | 0, s, ss, cc, G, hj, es, ts, hs, hp => by
    refine ⟨ss, cc, G, hp, hs, fun ks => ?_⟩
    have hc : curN q (trimL y) (cs.take 0).reverse s = (0, s) := rfl
    rw [goL_at c74L0.eq_def, hc, if_pos rfl]
    simp (disch := first | omega | (simp only [Go.Am.len_push, Go.Am.len_set, Go.Am.len_kill] <;> omega) | fail) only [push_cast, Nat.reduceBEq, Nat.reduceAdd, Nat.reduceMul, Nat.reduceSub, Nat.reduceLT, Nat.reduceGT, Nat.reduceLeDiff, Nat.reduceEqDiff, Int.reduceToNat, Int.reduceAdd, Int.reduceMul, Int.reduceSub, Int.reduceNeg, Int.reduceLT, Int.reduceLE, Int.reduceEq, Nat.zero_add, Nat.add_zero, Nat.mul_one, eq_self, ne_eq, not_true, not_false_iff, and_true, true_and, and_self, List.getElem?_cons_zero, List.getElem?_cons_succ, List.map_cons, List.map_nil, wrap64, dec_lt, dec_nlt, dec_le, dec_nle, dec_eq, dec_ne, if_pos, if_neg, Int.natCast_add, Int.natCast_one, Int.natCast_zero, Int.toNat_natCast]
  | j + 1, s, ss, cc, G, hj, es, ts, hs, hp => by
    have IH := pcurve_loop hr hl2 hcs hy ey j
    obtain ⟨c, hc⟩ := at_some (l := cs) (i := j) (by omega)
    have hcl := hl2 c (List.mem_of_getElem? hc)
    obtain ⟨⟨x, hx⟩, ls, fs⟩ := pokE_ok es
    obtain ⟨_, ly, fy⟩ := pokE_ok ey
    obtain ⟨p, m, g, mod⟩ := x
    obtain ⟨o, a, c', rfl, l1, hra⟩ := (hr.mono hp).at hc
    obtain ⟨s1, c1, G1, p1, g1, e1⟩ := pmul2_call (q := q) hs (hy.mono hp) (by omega) (by omega)
    have hj1 : ((j + 1 : Nat) : Int) - 1 = (j : Int) := by omega
    have hbe : bothE q s y = 0 := by unfold bothE; rw [if_pos es, ey]
    have hts := trimL_id ts
    have htr := take_rev hc
    rw [htr]
    by_cases h128 : s.length ≠ 0 ∧ (trimL y).length ≠ 0 ∧ 128 < s.length + (trimL y).length - 1
    · have hcu : curN q (trimL y) (c :: (cs.take j).reverse) s = (4, []) := by rw [curN, if_pos h128]
      have hmE : mulE q s y = 4 := by unfold mulE; rw [if_pos hbe, hts, if_pos h128]
      rw [hcu]
      refine ⟨none, 0, G1, hp.trans p1, .nil, fun ks => ?_⟩
      rw [hmE] at e1
      rw [if_neg (show ¬ (4 : Int) = 0 by decide), hj1, goL_at c74L0.eq_def]
      simp (disch := first | omega | (simp only [Go.Am.len_push, Go.Am.len_set, Go.Am.len_kill] <;> omega) | fail) only [push_cast, Nat.reduceBEq, Nat.reduceAdd, Nat.reduceMul, Nat.reduceSub, Nat.reduceLT, Nat.reduceGT, Nat.reduceLeDiff, Nat.reduceEqDiff, Int.reduceToNat, Int.reduceAdd, Int.reduceMul, Int.reduceSub, Int.reduceNeg, Int.reduceLT, Int.reduceLE, Int.reduceEq, Nat.zero_add, Nat.add_zero, Nat.mul_one, eq_self, ne_eq, not_true, not_false_iff, and_true, true_and, and_self, List.getElem?_cons_zero, List.getElem?_cons_succ, List.map_cons, List.map_nil, wrap64, dec_lt, dec_nlt, dec_le, dec_nle, dec_eq, dec_ne, if_pos, if_neg, Int.natCast_add, Int.natCast_one, Int.natCast_zero, Int.toNat_natCast, e1]
    · have hmE : mulE q s y = 0 := by unfold mulE; rw [if_pos hbe, hts, if_neg h128]
      have hmV : mulV q s y = pmulL q s (trimL y) := by unfold mulV; rw [if_pos hmE, hts]
      rw [hmE, hmV] at e1
      rw [hmV] at g1
      have hml := pmulL_len (q := q) s (trimL y)
      have hml2 : (pmulL q s (trimL y)).length ≤ 128 := by
        by_cases h0 : s.length = 0 ∨ (trimL y).length = 0
        · unfold pmulL; rw [if_pos h0]; simp
        · omega
      have fm := pmulL_all hx fs (trimL_all fy)
      have em := pokE_mk hx hml2 fm
      obtain ⟨s2, c2, G2, p2, g2, e2⟩ := padd2_call (q := q) g1.rd (hra.mono p1) (by omega) hcl
      have hbe2 : bothE q (pmulL q s (trimL y)) c = pokE q c := by unfold bothE; rw [if_pos em]
      by_cases hpc : pokE q c = 0
      · have hcu : curN q (trimL y) (c :: (cs.take j).reverse) s = curN q (trimL y) (cs.take j).reverse (paddL q (pmulL q s (trimL y)) c) := by rw [curN, if_neg h128, if_pos hpc]
        have hV : addV q (pmulL q s (trimL y)) c = paddL q (pmulL q s (trimL y)) c := by unfold addV; rw [hbe2, if_pos hpc]
        obtain ⟨_, lc, fc⟩ := pokE_ok hpc
        have hal := paddL_len (q := q) (pmulL q s (trimL y)) c
        obtain ⟨s3, c3, G3, k1, k2, k3⟩ := IH (paddL q (pmulL q s (trimL y)) c) s2 c2 G2 (by omega) (pokE_mk hx (by omega) (paddL_all hx fm fc)) (paddL_trimmed _ _ _) (by rw [← hV]; exact g2.rd) (hp.trans (p1.trans p2))
        rw [hcu]
        refine ⟨s3, c3, G3, k1, k2, fun ks => ?_⟩
        rw [hbe2, hpc, hV] at e2
        rw [hj1, goL_at c74L0.eq_def, ← k3 ks]
        have l1' := ld1_pre l1 p1
        simp (disch := first | omega | (simp only [Go.Am.len_push, Go.Am.len_set, Go.Am.len_kill] <;> omega) | fail) only [push_cast, Nat.reduceBEq, Nat.reduceAdd, Nat.reduceMul, Nat.reduceSub, Nat.reduceLT, Nat.reduceGT, Nat.reduceLeDiff, Nat.reduceEqDiff, Int.reduceToNat, Int.reduceAdd, Int.reduceMul, Int.reduceSub, Int.reduceNeg, Int.reduceLT, Int.reduceLE, Int.reduceEq, Nat.zero_add, Nat.add_zero, Nat.mul_one, eq_self, ne_eq, not_true, not_false_iff, and_true, true_and, and_self, List.getElem?_cons_zero, List.getElem?_cons_succ, List.map_cons, List.map_nil, wrap64, dec_lt, dec_nlt, dec_le, dec_nle, dec_eq, dec_ne, if_pos, if_neg, Int.natCast_add, Int.natCast_one, Int.natCast_zero, Int.toNat_natCast, e1, l1', e2]
      · have hcu : curN q (trimL y) (c :: (cs.take j).reverse) s = (pokE q c, []) := by rw [curN, if_neg h128, if_neg hpc]
        rw [hcu]
        refine ⟨none, 0, G2, hp.trans (p1.trans p2), .nil, fun ks => ?_⟩
        rw [hbe2] at e2
        rw [if_neg hpc, hj1, goL_at c74L0.eq_def]
        have l1' := ld1_pre l1 p1
        simp (disch := first | omega | (simp only [Go.Am.len_push, Go.Am.len_set, Go.Am.len_kill] <;> omega) | fail) only [push_cast, Nat.reduceBEq, Nat.reduceAdd, Nat.reduceMul, Nat.reduceSub, Nat.reduceLT, Nat.reduceGT, Nat.reduceLeDiff, Nat.reduceEqDiff, Int.reduceToNat, Int.reduceAdd, Int.reduceMul, Int.reduceSub, Int.reduceNeg, Int.reduceLT, Int.reduceLE, Int.reduceEq, Nat.zero_add, Nat.add_zero, Nat.mul_one, eq_self, ne_eq, not_true, not_false_iff, and_true, true_and, and_self, List.getElem?_cons_zero, List.getElem?_cons_succ, List.map_cons, List.map_nil, wrap64, dec_lt, dec_nlt, dec_le, dec_nle, dec_eq, dec_ne, if_pos, if_neg, Int.natCast_add, Int.natCast_one, Int.natCast_zero, Int.toNat_natCast, e1, l1', e2, dec_ne hpc]
theorem curN_bad (y : List Int) : ∀ (r : List (List Int)) (s : List Int), (curN q y r s).1 ≠ 0 → (curN q y r s).2 = []
  | [], s, h => absurd rfl h
  | c :: r, s, h => by
    rw [curN] at h ⊢
    split
    · rfl
    · rename_i h1
      rw [if_neg h1] at h
      split
      · rename_i h2
        rw [if_pos h2] at h
        exact curN_bad y r _ h
      · rfl
theorem pcurve_call {h : H} (hr : RdLL h sa C cs) (hl2 : Len2 cs) (hy : RdI h sy cy y) (hly : y.length ≤ 9223372036854775807) : ∃ (s' : Option Addr) (c' : Nat) (h' : H), h <+: h' ∧ RdI h' s' c' (curP q cs y).2 ∧
    call T 74 [.int .i64 q, .slice sa cs.length C, .slice sy y.length cy] h = some (.tuple #[.slice s' (curP q cs y).2.length c', .int .i64 (curP q cs y).1], h') := by
  obtain ⟨h1, p1, e1⟩ := pcheck2_call q hy hly
  have hll := hl2.len
  by_cases ey : pokE q y = 0
  rotate_left
  · have hc : curP q cs y = (pokE q y, []) := by unfold curP; rw [if_neg ey]
    rw [hc]
    refine ⟨none, 0, h1, p1, .nil, ?_⟩
    rw [call_at T74 rfl]
    unfold F74 c74
    simp (disch := first | omega | (simp only [Go.Am.len_push, Go.Am.len_set, Go.Am.len_kill] <;> omega) | fail) only [push_cast, Nat.reduceBEq, Nat.reduceAdd, Nat.reduceMul, Nat.reduceSub, Nat.reduceLT, Nat.reduceGT, Nat.reduceLeDiff, Nat.reduceEqDiff, Int.reduceToNat, Int.reduceAdd, Int.reduceMul, Int.reduceSub, Int.reduceNeg, Int.reduceLT, Int.reduceLE, Int.reduceEq, Nat.zero_add, Nat.add_zero, Nat.mul_one, eq_self, ne_eq, not_true, not_false_iff, and_true, true_and, and_self, List.getElem?_cons_zero, List.getElem?_cons_succ, List.map_cons, List.map_nil, wrap64, dec_lt, dec_nlt, dec_le, dec_nle, dec_eq, dec_ne, if_pos, if_neg, Int.natCast_add, Int.natCast_one, Int.natCast_zero, Int.toNat_natCast, e1, dec_ne ey, List.length_nil]
  rw [ey] at e1
  by_cases h64 : 64 < cs.length
  · have hc : curP q cs y = (4, []) := by unfold curP; rw [if_pos ey, if_pos h64]
    rw [hc]
    refine ⟨none, 0, h1, p1, .nil, ?_⟩
    rw [call_at T74 rfl]
    unfold F74 c74
    simp (disch := first | omega | (simp only [Go.Am.len_push, Go.Am.len_set, Go.Am.len_kill] <;> omega) | fail) only [push_cast, Nat.reduceBEq, Nat.reduceAdd, Nat.reduceMul, Nat.reduceSub, Nat.reduceLT, Nat.reduceGT, Nat.reduceLeDiff, Nat.reduceEqDiff, Int.reduceToNat, Int.reduceAdd, Int.reduceMul, Int.reduceSub, Int.reduceNeg, Int.reduceLT, Int.reduceLE, Int.reduceEq, Nat.zero_add, Nat.add_zero, Nat.mul_one, eq_self, ne_eq, not_true, not_false_iff, and_true, true_and, and_self, List.getElem?_cons_zero, List.getElem?_cons_succ, List.map_cons, List.map_nil, wrap64, dec_lt, dec_nlt, dec_le, dec_nle, dec_eq, dec_ne, if_pos, if_neg, Int.natCast_add, Int.natCast_one, Int.natCast_zero, Int.toNat_natCast, e1, List.length_nil]
  · have hc : curP q cs y = curN q (trimL y) cs.reverse [] := by unfold curP; rw [if_pos ey, if_neg h64]
    obtain ⟨⟨x, hx⟩, _, _⟩ := pokE_ok ey
    obtain ⟨s', c', G', k1, k2, k3⟩ := pcurve_loop (q := q) (hr.mono p1) hl2.each (by omega) (hy.mono p1) ey cs.length [] none 0 h1 (Nat.le_refl _) (pokE_mk hx (by simp) (fun v hv => by cases hv)) (fun h => absurd rfl h) .nil (List.prefix_refl _)
    rw [List.take_length] at k2 k3
    rw [List.length_nil] at k3
    rw [hc]
    obtain ⟨R, hR⟩ : ∃ R, R = curN q (trimL y) cs.reverse [] := ⟨_, rfl⟩
    have hbad := curN_bad (q := q) (trimL y) cs.reverse []
    rw [← hR] at k2 k3 hbad ⊢
    by_cases h0 : R.1 = 0
    · refine ⟨s', c', G', p1.trans k1, k2, ?_⟩
      rw [call_at T74 rfl]
      unfold F74 c74
      simp (disch := first | omega | (simp only [Go.Am.len_push, Go.Am.len_set, Go.Am.len_kill] <;> omega) | fail) only [push_cast, Nat.reduceBEq, Nat.reduceAdd, Nat.reduceMul, Nat.reduceSub, Nat.reduceLT, Nat.reduceGT, Nat.reduceLeDiff, Nat.reduceEqDiff, Int.reduceToNat, Int.reduceAdd, Int.reduceMul, Int.reduceSub, Int.reduceNeg, Int.reduceLT, Int.reduceLE, Int.reduceEq, Nat.zero_add, Nat.add_zero, Nat.mul_one, eq_self, ne_eq, not_true, not_false_iff, and_true, true_and, and_self, List.getElem?_cons_zero, List.getElem?_cons_succ, List.map_cons, List.map_nil, wrap64, dec_lt, dec_nlt, dec_le, dec_nle, dec_eq, dec_ne, if_pos, if_neg, Int.natCast_add, Int.natCast_one, Int.natCast_zero, Int.toNat_natCast, e1]
      rw [k3, if_pos h0]
      simp (disch := first | omega | (simp only [Go.Am.len_push, Go.Am.len_set, Go.Am.len_kill] <;> omega) | fail) only [push_cast, Nat.reduceBEq, Nat.reduceAdd, Nat.reduceMul, Nat.reduceSub, Nat.reduceLT, Nat.reduceGT, Nat.reduceLeDiff, Nat.reduceEqDiff, Int.reduceToNat, Int.reduceAdd, Int.reduceMul, Int.reduceSub, Int.reduceNeg, Int.reduceLT, Int.reduceLE, Int.reduceEq, Nat.zero_add, Nat.add_zero, Nat.mul_one, eq_self, ne_eq, not_true, not_false_iff, and_true, true_and, and_self, List.getElem?_cons_zero, List.getElem?_cons_succ, List.map_cons, List.map_nil, wrap64, dec_lt, dec_nlt, dec_le, dec_nle, dec_eq, dec_ne, if_pos, if_neg, Int.natCast_add, Int.natCast_one, Int.natCast_zero, Int.toNat_natCast, h0]
    · rw [hbad h0]
      refine ⟨none, 0, G', p1.trans k1, .nil, ?_⟩
      rw [call_at T74 rfl]
      unfold F74 c74
      simp (disch := first | omega | (simp only [Go.Am.len_push, Go.Am.len_set, Go.Am.len_kill] <;> omega) | fail) only [push_cast, Nat.reduceBEq, Nat.reduceAdd, Nat.reduceMul, Nat.reduceSub, Nat.reduceLT, Nat.reduceGT, Nat.reduceLeDiff, Nat.reduceEqDiff, Int.reduceToNat, Int.reduceAdd, Int.reduceMul, Int.reduceSub, Int.reduceNeg, Int.reduceLT, Int.reduceLE, Int.reduceEq, Nat.zero_add, Nat.add_zero, Nat.mul_one, eq_self, ne_eq, not_true, not_false_iff, and_true, true_and, and_self, List.getElem?_cons_zero, List.getElem?_cons_succ, List.map_cons, List.map_nil, wrap64, dec_lt, dec_nlt, dec_le, dec_nle, dec_eq, dec_ne, if_pos, if_neg, Int.natCast_add, Int.natCast_one, Int.natCast_zero, Int.toNat_natCast, e1]
      rw [k3, if_neg h0]
      try simp (disch := first | omega | (simp only [Go.Am.len_push, Go.Am.len_set, Go.Am.len_kill] <;> omega) | fail) only [push_cast, Nat.reduceBEq, Nat.reduceAdd, Nat.reduceMul, Nat.reduceSub, Nat.reduceLT, Nat.reduceGT, Nat.reduceLeDiff, Nat.reduceEqDiff, Int.reduceToNat, Int.reduceAdd, Int.reduceMul, Int.reduceSub, Int.reduceNeg, Int.reduceLT, Int.reduceLE, Int.reduceEq, Nat.zero_add, Nat.add_zero, Nat.mul_one, eq_self, ne_eq, not_true, not_false_iff, and_true, true_and, and_self, List.getElem?_cons_zero, List.getElem?_cons_succ, List.map_cons, List.map_nil, List.length_nil]
end
end Go.Proofs.Ytammndhoillliaa
