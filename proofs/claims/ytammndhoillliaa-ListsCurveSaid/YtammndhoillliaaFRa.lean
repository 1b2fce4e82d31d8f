/-
  What syndromeref's Digits, Number and F.Has compute. Conditions: those of each theorem.
  What syndromeref's F.Has and F.Mul compute. Conditions: those of each theorem.
  What syndromeref's F.Mul computes: its loops. Conditions: those of each theorem.
  What syndromeref's F.Mul computes: the remainder's loops, and the whole. Conditions: those of each theorem.
  What syndromeref's F.Mul computes. Conditions: those of each theorem.
-/
import Derived.Test.YtammndhoillliaaCode
import Derived.Test.YtammndhoillliaaAm22
namespace Go.Proofs.Ytammndhoillliaa
open Go.Am
set_option linter.unusedVariables false
set_option linter.unusedSimpArgs false

/-- the digits of a number, the lowest first -/
def digs (p : Int) : Nat → Int → List Int
  | 0, _ => []
  | n + 1, a => (a % p) :: digs p n (a / p)
theorem digs_len (p : Int) : ∀ (n : Nat) (a : Int), (digs p n a).length = n
  | 0, _ => rfl
  | n + 1, a => by simp [digs, digs_len p n]
/-- a number of digits -/
def numb (p : Int) : List Int → Int
  | [] => 0
  | d :: r => numb p r * p + d

theorem digs_loop (p : Int) (m lo : Nat) (hp : 1 ≤ p) : ∀ (k : Nat) (a i : Int) (zs : List Int) (sa : Option Addr) (c : Nat) (g : H), i = (zs.length : Int) → zs.length + k = m → m ≤ 1000 → 0 ≤ a → a ≤ 1000000 → Grown g sa c zs lo → lo ≤ g.length →
    ∃ (sa' : Option Addr) (c' : Nat) (g' : H), Grown g' sa' c' (zs ++ digs p k a) lo ∧ g.length ≤ g'.length ∧ (∀ q : H, q.length ≤ lo → q <+: g → q <+: g') ∧
      ∀ ks, goL T [.tmp 6] [0, 1, 2, 7, 8] c118L0 (.blk 0 [7] :: ks) [(0, .int .i64 a), (1, .int .i64 p), (2, .int .i64 m), (7, .slice sa zs.length c), (8, .int .i64 i)] g =
        go T [.tmp 6] ks (Fr.of [(7, .slice sa' (zs ++ digs p k a).length c')]) g'
  | 0, a, i, zs, sa, c, g, hi, hk, hm, ha, ha2, hg, hlo => by
    subst hi
    refine ⟨sa, c, g, by simpa [digs] using hg, Nat.le_refl _, fun q _ h => h, fun ks => ?_⟩
    rw [goL_at c118L0.eq_def]
    simp (disch := first | omega | (simp only [Go.Am.len_push, Go.Am.len_set, Go.Am.len_kill] <;> omega) | fail) only [push_cast, Nat.reduceBEq, Nat.reduceAdd, Nat.reduceMul, Nat.reduceSub, Nat.reduceLT, Nat.reduceGT, Nat.reduceLeDiff, Nat.reduceEqDiff, Int.reduceToNat, Int.reduceAdd, Int.reduceMul, Int.reduceSub, Int.reduceNeg, Int.reduceLT, Int.reduceLE, Int.reduceEq, Nat.zero_add, Nat.add_zero, Nat.mul_one, eq_self, ne_eq, not_true, not_false_iff, and_true, true_and, and_self, List.getElem?_cons_zero, List.getElem?_cons_succ, List.map_cons, List.map_nil, dec_nlt, digs, List.append_nil]
  | k + 1, a, i, zs, sa, c, g, hi, hk, hm, ha, ha2, hg, hlo => by
    subst hi
    obtain ⟨sa1, g1, e1, hg1, hl1, _, hpre⟩ := hg.one (y := a % p) (by omega) hlo
    have hd1 : 0 ≤ a / p := Int.ediv_nonneg ha (by omega)
    have hd2 : a / p ≤ a := Int.ediv_le_self _ ha
    obtain ⟨sa2, c2, g2, hg2, hl2, hpre2, ih⟩ := digs_loop p m lo hp k (a / p) ((zs.length : Int) + 1) (zs ++ [a % p]) sa1 (zs.length + 1) g1 (by simp) (by simp; omega) hm hd1 (by omega) hg1 (by omega)
    have he : zs ++ digs p (k + 1) a = zs ++ [a % p] ++ digs p k (a / p) := by simp [digs]
    refine ⟨sa2, c2, g2, by rw [he]; exact hg2, by omega, fun q h1 h2 => hpre2 q h1 (hpre q h1 h2), fun ks => ?_⟩
    rw [he, ← ih ks, goL_at c118L0.eq_def]
    have hp0 : ¬ p = 0 := by omega
    have q1 : a.tmod p = a % p := Int.tmod_eq_emod_of_nonneg ha
    have q2 : a.tdiv p = a / p := Int.tdiv_eq_ediv_of_nonneg ha
    have hlen : (zs ++ [a % p]).length = zs.length + 1 := by simp
    simp (disch := first | omega | (simp only [Go.Am.len_push, Go.Am.len_set, Go.Am.len_kill] <;> omega) | fail) only [push_cast, Nat.reduceBEq, Nat.reduceAdd, Nat.reduceMul, Nat.reduceSub, Nat.reduceLT, Nat.reduceGT, Nat.reduceLeDiff, Nat.reduceEqDiff, Int.reduceToNat, Int.reduceAdd, Int.reduceMul, Int.reduceSub, Int.reduceNeg, Int.reduceLT, Int.reduceLE, Int.reduceEq, Nat.zero_add, Nat.add_zero, Nat.mul_one, eq_self, ne_eq, not_true, not_false_iff, and_true, true_and, and_self, List.getElem?_cons_zero, List.getElem?_cons_succ, List.map_cons, List.map_nil, dec_lt, wrap64, hp0, q1, q2, e1, hlen]

/-- Digits -/
theorem digits_call (a p : Int) (m : Nat) (h : H) (hp : 1 ≤ p) (hm : m ≤ 1000) (ha : 0 ≤ a) (ha2 : a ≤ 1000000) :
    ∃ (sa : Option Addr) (c : Nat) (h' : H), call T 118 [.int .i64 a, .int .i64 p, .int .i64 m] h = some (.slice sa m c, h') ∧ h <+: h' ∧ Grown h' sa c (digs p m a) h.length := by
  obtain ⟨sa, c, g, hg, hl, hpre, ih⟩ := digs_loop p m h.length hp m a 0 [] none 0 h rfl (by simp) hm ha ha2 .nil (Nat.le_refl _)
  refine ⟨sa, c, g, ?_, hpre h (Nat.le_refl _) (List.prefix_refl _), by simpa using hg⟩
  rw [call_at T118 rfl]
  unfold F118 c118
  have ih' := ih [.code (.seq (.region [⟨(some 23), (.mv (.tmp 7)), none, false⟩, ⟨(some 6), (.mv (.tmp 23)), none, false⟩]) .ret)]
  simp only [List.nil_append, digs_len, List.length_nil] at ih'
  simp (disch := first | omega | (simp only [Go.Am.len_push, Go.Am.len_set, Go.Am.len_kill] <;> omega) | fail) only [push_cast, Nat.reduceBEq, Nat.reduceAdd, Nat.reduceMul, Nat.reduceSub, Nat.reduceLT, Nat.reduceGT, Nat.reduceLeDiff, Nat.reduceEqDiff, Int.reduceToNat, Int.reduceAdd, Int.reduceMul, Int.reduceSub, Int.reduceNeg, Int.reduceLT, Int.reduceLE, Int.reduceEq, Nat.zero_add, Nat.add_zero, Nat.mul_one, eq_self, ne_eq, not_true, not_false_iff, and_true, true_and, and_self, List.getElem?_cons_zero, List.getElem?_cons_succ, List.map_cons, List.map_nil]
  rw [ih']
  simp (disch := first | omega | (simp only [Go.Am.len_push, Go.Am.len_set, Go.Am.len_kill] <;> omega) | fail) only [push_cast, Nat.reduceBEq, Nat.reduceAdd, Nat.reduceMul, Nat.reduceSub, Nat.reduceLT, Nat.reduceGT, Nat.reduceLeDiff, Nat.reduceEqDiff, Int.reduceToNat, Int.reduceAdd, Int.reduceMul, Int.reduceSub, Int.reduceNeg, Int.reduceLT, Int.reduceLE, Int.reduceEq, Nat.zero_add, Nat.add_zero, Nat.mul_one, eq_self, ne_eq, not_true, not_false_iff, and_true, true_and, and_self, List.getElem?_cons_zero, List.getElem?_cons_succ, List.map_cons, List.map_nil]

theorem numb_loop (p : Int) (zs : List Int) (o off c : Nat) (h : H) (hr : RdI h (some ⟨o, off, none⟩) c zs) (hp : 0 ≤ p) (hp2 : p ≤ 64) (hz : ∀ z ∈ zs, 0 ≤ z ∧ z ≤ 64) (hl2 : zs.length ≤ 1000) : ∀ (k : Nat) (a i : Int), i + 1 = (k : Int) → k ≤ zs.length → a = numb p (zs.drop k) → (∀ j, j ≤ zs.length → 0 ≤ numb p (zs.drop j) ∧ numb p (zs.drop j) ≤ 1000000) →
    ∀ ks, goL T [.tmp 4] [0, 1, 5, 6] c127L0 (.blk 0 [5] :: ks) [(0, .slice (some ⟨o, off, none⟩) zs.length c), (1, .int .i64 p), (5, .int .i64 a), (6, .int .i64 i)] h =
        go T [.tmp 4] ks (Fr.of [(5, .int .i64 (numb p zs))]) h
  | 0, a, i, hi, hk, ha, hb => fun ks => by
    rw [goL_at c127L0.eq_def]
    have : i = -1 := by omega
    subst this ha
    rw [List.drop_zero]
    simp (disch := first | omega | (simp only [Go.Am.len_push, Go.Am.len_set, Go.Am.len_kill] <;> omega) | fail) only [push_cast, Nat.reduceBEq, Nat.reduceAdd, Nat.reduceMul, Nat.reduceSub, Nat.reduceLT, Nat.reduceGT, Nat.reduceLeDiff, Nat.reduceEqDiff, Int.reduceToNat, Int.reduceAdd, Int.reduceMul, Int.reduceSub, Int.reduceNeg, Int.reduceLT, Int.reduceLE, Int.reduceEq, Nat.zero_add, Nat.add_zero, Nat.mul_one, eq_self, ne_eq, not_true, not_false_iff, and_true, true_and, and_self, List.getElem?_cons_zero, List.getElem?_cons_succ, List.map_cons, List.map_nil, dec_nle]
  | k + 1, a, i, hi, hk, ha, hb => fun ks => by
    obtain rfl : i = (k : Int) := by omega
    have e1 := hr.ld (i := (k : Int)) (by omega) (by omega)
    have hi1 : 0 ≤ (k : Int) ∧ (k : Int) < (zs.length : Int) := by omega
    have hd : zs.drop k = gi zs k :: zs.drop (k + 1) := by
      rw [List.drop_eq_getElem_cons (by omega)]
      congr 1
      rw [gi_get (by omega) (by omega)]
      simp
    have hgm := hz _ (gi_mem hi1.1 hi1.2)
    have hb1 := hb (k + 1) hk
    have hb2 := hb k (by omega)
    rw [← ha] at hb1
    have hn : numb p (zs.drop k) = a * p + gi zs k := by rw [hd, numb, ← ha]
    rw [hn] at hb2
    have hm : 0 ≤ a * p := Int.mul_nonneg hb1.1 hp
    rw [← numb_loop p zs o off c h hr hp hp2 hz hl2 k (a * p + gi zs k) ((k : Int) - 1) (by omega) (by omega) hn.symm hb ks]
    rw [goL_at c127L0.eq_def]
    simp (disch := first | omega | (simp only [Go.Am.len_push, Go.Am.len_set, Go.Am.len_kill] <;> omega) | fail) only [push_cast, Nat.reduceBEq, Nat.reduceAdd, Nat.reduceMul, Nat.reduceSub, Nat.reduceLT, Nat.reduceGT, Nat.reduceLeDiff, Nat.reduceEqDiff, Int.reduceToNat, Int.reduceAdd, Int.reduceMul, Int.reduceSub, Int.reduceNeg, Int.reduceLT, Int.reduceLE, Int.reduceEq, Nat.zero_add, Nat.add_zero, Nat.mul_one, eq_self, ne_eq, not_true, not_false_iff, and_true, true_and, and_self, List.getElem?_cons_zero, List.getElem?_cons_succ, List.map_cons, List.map_nil, dec_le, wrap64, hi1, e1]

theorem number_call (p : Int) (zs : List Int) (sa : Option Addr) (c : Nat) (h : H) (hr : RdI h sa c zs) (hp : 0 ≤ p) (hp2 : p ≤ 64) (hz : ∀ z ∈ zs, 0 ≤ z ∧ z ≤ 64) (hl : 1 ≤ zs.length) (hl2 : zs.length ≤ 1000)
    (hb : ∀ j, j ≤ zs.length → 0 ≤ numb p (zs.drop j) ∧ numb p (zs.drop j) ≤ 1000000) :
    call T 127 [.slice sa zs.length c, .int .i64 p] h = some (.int .i64 (numb p zs), h) := by
  obtain ⟨o, off, rfl, _, _⟩ := hr.addr (by omega)
  rw [call_at T127 rfl]
  unfold F127 c127
  simp (disch := first | omega | (simp only [Go.Am.len_push, Go.Am.len_set, Go.Am.len_kill] <;> omega) | fail) only [push_cast, Nat.reduceBEq, Nat.reduceAdd, Nat.reduceMul, Nat.reduceSub, Nat.reduceLT, Nat.reduceGT, Nat.reduceLeDiff, Nat.reduceEqDiff, Int.reduceToNat, Int.reduceAdd, Int.reduceMul, Int.reduceSub, Int.reduceNeg, Int.reduceLT, Int.reduceLE, Int.reduceEq, Nat.zero_add, Nat.add_zero, Nat.mul_one, eq_self, ne_eq, not_true, not_false_iff, and_true, true_and, and_self, List.getElem?_cons_zero, List.getElem?_cons_succ, List.map_cons, List.map_nil, wrap64]
  rw [numb_loop p zs o off c h hr hp hp2 hz hl2 zs.length 0 ((zs.length : Int) - 1) (by omega) (Nat.le_refl _) (by rw [List.drop_length]; rfl) hb]
  simp (disch := first | omega | (simp only [Go.Am.len_push, Go.Am.len_set, Go.Am.len_kill] <;> omega) | fail) only [push_cast, Nat.reduceBEq, Nat.reduceAdd, Nat.reduceMul, Nat.reduceSub, Nat.reduceLT, Nat.reduceGT, Nat.reduceLeDiff, Nat.reduceEqDiff, Int.reduceToNat, Int.reduceAdd, Int.reduceMul, Int.reduceSub, Int.reduceNeg, Int.reduceLT, Int.reduceLE, Int.reduceEq, Nat.zero_add, Nat.add_zero, Nat.mul_one, eq_self, ne_eq, not_true, not_false_iff, and_true, true_and, and_self, List.getElem?_cons_zero, List.getElem?_cons_succ, List.map_cons, List.map_nil]
end Go.Proofs.Ytammndhoillliaa
namespace Go.Proofs.Ytammndhoillliaa
open Go.Am
set_option linter.unusedVariables false
set_option linter.unusedSimpArgs false

/-- a field's cells as the document's answer holds it -/
abbrev fvL (q p m g : Int) (ms : Value) : List Value := [.int .i64 q, .int .i64 p, .int .i64 m, .int .i64 g, ms]
abbrev fv (q p m g : Int) (ms : Value) : Value := .agg (fvL q p m g ms).toArray
abbrev fvR (q p m g : Int) (ms : Value) : Ob := .row ⟨fvL q p m g ms, 67, 0, true⟩

theorem has_call (q p m g a : Int) (ms : Value) (h : H) : call T 50 [fv q p m g ms, .int .i64 a] h = some (.bool (decide (0 ≤ a) && decide (a < q)), h ++ [fvR q p m g ms]) := by
  rw [call_at T50 rfl]
  unfold F50 c50
  have hl : H.ld1 (h ++ [fvR q p m g ms]) h.length 0 = some (.int .i64 q) := by rw [ld1_new rfl]; rfl
  by_cases h0 : 0 ≤ a
  · simp (disch := first | omega | (simp only [Go.Am.len_push, Go.Am.len_set, Go.Am.len_kill] <;> omega) | fail) only [push_cast, Nat.reduceBEq, Nat.reduceAdd, Nat.reduceMul, Nat.reduceSub, Nat.reduceLT, Nat.reduceGT, Nat.reduceLeDiff, Nat.reduceEqDiff, Int.reduceToNat, Int.reduceAdd, Int.reduceMul, Int.reduceSub, Int.reduceNeg, Int.reduceLT, Int.reduceLE, Int.reduceEq, Nat.zero_add, Nat.add_zero, Nat.mul_one, eq_self, ne_eq, not_true, not_false_iff, and_true, true_and, and_self, List.getElem?_cons_zero, List.getElem?_cons_succ, List.map_cons, List.map_nil, dec_le h0, hl]
  · simp (disch := first | omega | (simp only [Go.Am.len_push, Go.Am.len_set, Go.Am.len_kill] <;> omega) | fail) only [push_cast, Nat.reduceBEq, Nat.reduceAdd, Nat.reduceMul, Nat.reduceSub, Nat.reduceLT, Nat.reduceGT, Nat.reduceLeDiff, Nat.reduceEqDiff, Int.reduceToNat, Int.reduceAdd, Int.reduceMul, Int.reduceSub, Int.reduceNeg, Int.reduceLT, Int.reduceLE, Int.reduceEq, Nat.zero_add, Nat.add_zero, Nat.mul_one, eq_self, ne_eq, not_true, not_false_iff, and_true, true_and, and_self, List.getElem?_cons_zero, List.getElem?_cons_succ, List.map_cons, List.map_nil, dec_nle (Int.lt_of_not_ge h0)]

/-- numbers added, c times others -/
def axpy (p c : Int) : List Int → List Int → List Int
  | a :: l, y :: ys => ((a + c * y) % p) :: axpy p c l ys
  | l, _ => l
def conv (p : Int) (ys : List Int) : List Int → List Int → List Int
  | [], l => l
  | x :: xs, l => match axpy p x l ys with
    | [] => []
    | a :: r => a :: conv p ys xs r
def red (p : Int) (nm : List Int) (m : Nat) : Nat → List Int → List Int
  | 0, l => l
  | n + 1, l => red p nm m n (l.take n ++ axpy p (gi l (n + m : Nat)) ((l.take (n + m)).drop n) nm)
def mulP (p : Int) (m : Nat) (mod : List Int) (a b : Int) : Int := numb p (red p ((mod.take m).map fun d => p - d) m m (conv p (digs p m b) (digs p m a) (List.replicate (2 * m) 0)))
def mulR (q p : Int) (m : Nat) (mod : List Int) (a b : Int) : Int :=
  if 0 ≤ a ∧ a < q then if 0 ≤ b ∧ b < q then if m = 1 then a * b % p else mulP p m mod a b else -1 else -1

theorem axpy_len (p c : Int) : ∀ (l ys : List Int), (axpy p c l ys).length = l.length
  | [], ys => by cases ys <;> rfl
  | a :: l, [] => rfl
  | a :: l, y :: ys => by simp [axpy, axpy_len p c l ys]
theorem conv_len (p : Int) (ys : List Int) : ∀ (xs l : List Int), (conv p ys xs l).length = l.length
  | [], l => rfl
  | x :: xs, l => by
    rw [conv]
    have := axpy_len p x l ys
    cases h : axpy p x l ys with
    | nil => rw [h] at this; simpa using this
    | cons a r => rw [h] at this; simp [conv_len p ys xs r]; simpa using this
theorem red_len (p : Int) (nm : List Int) (m : Nat) : ∀ (n : Nat) (l : List Int), l.length = n + m → (red p nm m n l).length = m
  | 0, l, h => by rw [red]; omega
  | n + 1, l, h => by
    rw [red]
    refine red_len p nm m n _ ?_
    rw [List.length_append, axpy_len, List.length_take, List.length_drop, List.length_take]
    omega
/-- of digits -/
def Dig (p : Int) (l : List Int) : Prop := ∀ z ∈ l, 0 ≤ z ∧ z < p
theorem Dig.axpy {p c : Int} (hp : 0 < p) : ∀ {l : List Int} (ys : List Int), Dig p l → Dig p (axpy p c l ys)
  | [], ys, h => by cases ys <;> exact h
  | a :: l, [], h => h
  | a :: l, y :: ys, h => by
    intro z hz
    rw [Go.Proofs.Ytammndhoillliaa.axpy, List.mem_cons] at hz
    rcases hz with rfl | hz
    · exact ⟨Int.emod_nonneg _ (by omega), Int.emod_lt_of_pos _ hp⟩
    · exact Dig.axpy hp ys (fun z hz => h z (List.mem_cons_of_mem _ hz)) z hz
theorem Dig.conv {p : Int} (hp : 0 < p) (ys : List Int) : ∀ (xs : List Int) {l : List Int}, Dig p l → Dig p (conv p ys xs l)
  | [], l, h => h
  | x :: xs, l, h => by
    rw [Go.Proofs.Ytammndhoillliaa.conv]
    have h1 := h.axpy (c := x) hp ys
    cases he : Go.Proofs.Ytammndhoillliaa.axpy p x l ys with
    | nil => exact fun z hz => absurd hz (List.not_mem_nil)
    | cons a r =>
      rw [he] at h1
      intro z hz
      rw [List.mem_cons] at hz
      rcases hz with rfl | hz
      · exact h1 _ (List.mem_cons_self ..)
      · exact Dig.conv hp ys xs (fun z hz => h1 z (List.mem_cons_of_mem _ hz)) z hz
theorem Dig.red {p : Int} (hp : 0 < p) (nm : List Int) (m : Nat) : ∀ (n : Nat) {l : List Int}, Dig p l → Dig p (red p nm m n l)
  | 0, l, h => h
  | n + 1, l, h => by
    rw [Go.Proofs.Ytammndhoillliaa.red]
    refine Dig.red hp nm m n (fun z hz => ?_)
    rw [List.mem_append] at hz
    rcases hz with hz | hz
    · exact h z (List.mem_of_mem_take hz)
    · exact Dig.axpy hp nm (fun z hz => h z (List.mem_of_mem_take (List.mem_of_mem_drop hz))) z hz
theorem Dig.zero {p : Int} (hp : 0 < p) (n : Nat) : Dig p (List.replicate n 0) := fun z hz => by
  obtain rfl := List.eq_of_mem_replicate hz
  omega
theorem Dig.digs {p : Int} (hp : 0 < p) : ∀ (n : Nat) (a : Int), Dig p (digs p n a)
  | 0, a => fun z hz => absurd hz (List.not_mem_nil)
  | n + 1, a => by
    intro z hz
    rw [Go.Proofs.Ytammndhoillliaa.digs, List.mem_cons] at hz
    rcases hz with rfl | hz
    · exact ⟨Int.emod_nonneg _ (by omega), Int.emod_lt_of_pos _ hp⟩
    · exact Dig.digs hp n _ z hz
theorem numb_bound {p : Int} (hp : 0 < p) : ∀ {l : List Int}, Dig p l → 0 ≤ numb p l ∧ numb p l < p ^ l.length
  | [], _ => by simp [numb]
  | d :: r, h => by
    have h1 := numb_bound hp (l := r) (fun z hz => h z (List.mem_cons_of_mem _ hz))
    have h2 := h d (List.mem_cons_self ..)
    rw [numb, List.length_cons, Int.pow_succ]
    have h3 : 0 ≤ numb p r * p := Int.mul_nonneg h1.1 (by omega)
    have h4 : (numb p r + 1) * p ≤ p ^ r.length * p := Int.mul_le_mul_of_nonneg_right (by omega) (by omega)
    rw [Int.add_mul] at h4
    omega
end Go.Proofs.Ytammndhoillliaa
namespace Go.Proofs.Ytammndhoillliaa
open Go.Am
set_option linter.unusedVariables false
set_option linter.unusedSimpArgs false
set_option maxRecDepth 30000

theorem gi_nonneg {p : Int} {l : List Int} (hp : 0 < p) (hd : Dig p l) (i : Int) : 0 ≤ gi l i ∧ gi l i < p := by
  unfold gi
  rw [List.getD_eq_getElem?_getD]
  cases h : l[i.toNat]? with
  | none => simp; omega
  | some v => exact hd v (List.mem_of_getElem? h)
theorem set_mid {pre r : List Int} {a v : Int} {i : Nat} (hi : i = pre.length) : (pre ++ a :: r).set i v = pre ++ v :: r := by
  subst hi; rw [List.set_append_right _ _ (Nat.le_refl _)]; simp
theorem gi_mid {pre r : List Int} {a : Int} {i : Nat} (hi : i = pre.length) : gi (pre ++ a :: r) i = a := by
  subst hi; unfold gi; simp [List.getD_eq_getElem?_getD]
theorem cons_of_len {l : List Int} (h : 0 < l.length) : ∃ a r, l = a :: r := by
  cases l with
  | nil => simp at h
  | cons a r => exact ⟨a, r, rfl⟩
theorem drop_gi {zs : List Int} {i : Nat} (hi : i < zs.length) : zs.drop i = gi zs i :: zs.drop (i + 1) := by
  rw [List.drop_eq_getElem_cons hi]
  congr 1
  rw [gi_get (by omega) (by omega)]
  simp
theorem prod_le {x y p : Int} (hx : 0 ≤ x ∧ x < p) (hy : 0 ≤ y ∧ y < p) (hp : p ≤ 64) : 0 ≤ x * y ∧ x * y ≤ 4096 := by
  have h1 : x * y ≤ 64 * 64 := Int.mul_le_mul (by omega) (by omega) hy.1 (by omega)
  exact ⟨Int.mul_nonneg hx.1 hy.1, h1⟩

section
variable {q p g0 : Int} {m : Nat} {ms : Value} {h1 : H} {B : Nat}

theorem conv_in (hB : h1.row B = some ⟨fvL q p m g0 ms, 67, 0, true⟩) {xs ys : List Int} {ox fx cx oy fy cy : Nat} (hx : RdI h1 (some ⟨ox, fx, none⟩) cx xs) (hy : RdI h1 (some ⟨oy, fy, none⟩) cy ys)
    (hxl : xs.length = m) (hyl : ys.length = m) (hm : m ≤ 10) (hp : 0 < p) (hp2 : p ≤ 64) (hxd : Dig p xs) (hyd : Dig p ys) (iN : Nat) (hiN : iN < m) :
    ∀ (n : Nat) (k : Int) (kN : Nat) (pre rest : List Int) (g : H), k = (kN : Int) → kN + n = m → pre.length = iN + kN → (pre ++ rest).length = 2 * m → Dig p (pre ++ rest) → h1 <+: g → g.row h1.length = some ⟨ints (pre ++ rest), 3, 1, true⟩ →
    ∃ g' : H, h1 <+: g' ∧ g'.row h1.length = some ⟨ints (pre ++ axpy p (gi xs iN) rest (ys.drop kN)), 3, 1, true⟩ ∧ Dig p (pre ++ axpy p (gi xs iN) rest (ys.drop kN)) ∧
      ∀ ks, goL T [.tmp 6] [3, 7, 8, 9, 10, 11] c56L0 (.blk 2 [3, 7, 8, 9, 10] :: ks) [(3, .pointer (some ⟨B, 0, none⟩)), (7, .slice (some ⟨ox, fx, none⟩) m cx), (8, .slice (some ⟨oy, fy, none⟩) m cy), (9, .slice (some ⟨h1.length, 0, none⟩) (2 * m) (2 * m)), (10, .int .i64 iN), (11, .int .i64 k)] g =
        go T [.tmp 6] ks (Fr.of [(3, .pointer (some ⟨B, 0, none⟩)), (7, .slice (some ⟨ox, fx, none⟩) m cx), (8, .slice (some ⟨oy, fy, none⟩) m cy), (9, .slice (some ⟨h1.length, 0, none⟩) (2 * m) (2 * m)), (10, .int .i64 iN)]) g'
  | 0, k, kN, pre, rest, g, hk, hn, hpl, hl, hd, hp1, hr => by
    subst hk
    have e : ys.drop kN = [] := List.drop_eq_nil_of_le (by omega)
    have e2 : axpy p (gi xs iN) rest [] = rest := by cases rest <;> rfl
    refine ⟨g, hp1, by rw [e, e2]; exact hr, by rw [e, e2]; exact hd, fun ks => ?_⟩
    rw [goL_at c56L0.eq_def]
    have b2 : g.ld1 B 2 = some (.int .i64 m) := ld1_at (row_pre hB hp1) rfl
    simp (disch := first | omega | (simp only [Go.Am.len_push, Go.Am.len_set, Go.Am.len_kill] <;> omega) | fail) only [push_cast, Nat.reduceBEq, Nat.reduceAdd, Nat.reduceMul, Nat.reduceSub, Nat.reduceLT, Nat.reduceGT, Nat.reduceLeDiff, Nat.reduceEqDiff, Int.reduceToNat, Int.reduceAdd, Int.reduceMul, Int.reduceSub, Int.reduceNeg, Int.reduceLT, Int.reduceLE, Int.reduceEq, Nat.zero_add, Nat.add_zero, Nat.mul_one, eq_self, ne_eq, not_true, not_false_iff, and_true, true_and, and_self, List.getElem?_cons_zero, List.getElem?_cons_succ, List.map_cons, List.map_nil, dec_nlt, b2]
  | n + 1, k, kN, pre, rest, g, hk, hn, hpl, hl, hd, hp1, hr => by
    subst hk
    obtain ⟨a, r, rfl⟩ : ∃ a r, rest = a :: r := cons_of_len (by rw [List.length_append] at hl; omega)
    have b2 : g.ld1 B 2 = some (.int .i64 m) := ld1_at (row_pre hB hp1) rfl
    have b1 : g.ld1 B 1 = some (.int .i64 p) := ld1_at (row_pre hB hp1) rfl
    have ex := (hx.mono hp1).ld (i := (iN : Int)) (by omega) (by omega)
    have ey := (hy.mono hp1).ld (i := (kN : Int)) (by omega) (by omega)
    have ge : gi (pre ++ a :: r) ((iN : Int) + (kN : Int)) = a := by
      have := gi_mid (pre := pre) (r := r) (a := a) (i := iN + kN) (by omega)
      rw [Int.natCast_add] at this; exact this
    have el := ld1_int hr (i := (iN : Int) + (kN : Int)) (by omega) (by omega)
    rw [ge] at el
    have hg := pre_len hp1
    have hlt := row_some_lt hr
    have hi1 : 0 ≤ (iN : Int) ∧ (iN : Int) < (m : Int) := by omega
    have hi2 : 0 ≤ (kN : Int) ∧ (kN : Int) < (m : Int) := by omega
    have hi3 : 0 ≤ (iN : Int) + (kN : Int) ∧ (iN : Int) + (kN : Int) < 2 * (m : Int) := by omega
    have hxy := prod_le (gi_nonneg hp hxd iN) (gi_nonneg hp hyd kN) hp2
    have ha := hd a (by simp)
    obtain ⟨v, hv⟩ : ∃ v, v = (a + gi xs iN * gi ys kN) % p := ⟨_, rfl⟩
    have es := sts_int hr (i := (iN : Int) + (kN : Int)) (v := v) (by omega) (by omega)
    have hset : (pre ++ a :: r).set ((iN : Int) + (kN : Int)).toNat v = pre ++ [v] ++ r := by rw [set_mid (by omega)]; simp
    have q1 : (a + gi xs iN * gi ys kN).tmod p = v := by rw [hv]; exact Int.tmod_eq_emod_of_nonneg (by omega)
    have hvd : 0 ≤ v ∧ v < p := by rw [hv]; exact ⟨Int.emod_nonneg _ (by omega), Int.emod_lt_of_pos _ hp⟩
    have hd' : Dig p (pre ++ [v] ++ r) := by
      intro z hz
      simp only [List.append_assoc, List.mem_append, List.mem_cons, List.not_mem_nil, or_false] at hz
      rcases hz with hz | rfl | hz
      · exact hd z (by simp [hz])
      · exact hvd
      · exact hd z (by simp [hz])
    have hrow' : H.row (g.set h1.length (.row ⟨ints (pre ++ [v] ++ r), 3, 1, true⟩)) h1.length = some ⟨ints (pre ++ [v] ++ r), 3, 1, true⟩ := row_set_same hlt
    obtain ⟨g', p', r', d', ih⟩ := conv_in hB hx hy hxl hyl hm hp hp2 hxd hyd iN hiN n ((kN : Int) + 1) (kN + 1) (pre ++ [v]) r _ (by omega) (by omega) (by simp; omega) (by simp at hl ⊢; omega) hd' (pre_set hp1 (Nat.le_refl _)) hrow'
    have he : pre ++ axpy p (gi xs iN) (a :: r) (ys.drop kN) = pre ++ [v] ++ axpy p (gi xs iN) r (ys.drop (kN + 1)) := by
      rw [drop_gi (by omega), axpy, hv]; simp
    refine ⟨g', p', by rw [he]; exact r', by rw [he]; exact d', fun ks => ?_⟩
    rw [hset] at es
    rw [← ih ks, goL_at c56L0.eq_def]
    have hp0 : ¬ p = 0 := by omega
    simp (disch := first | omega | (simp only [Go.Am.len_push, Go.Am.len_set, Go.Am.len_kill] <;> omega) | fail) only [push_cast, Nat.reduceBEq, Nat.reduceAdd, Nat.reduceMul, Nat.reduceSub, Nat.reduceLT, Nat.reduceGT, Nat.reduceLeDiff, Nat.reduceEqDiff, Int.reduceToNat, Int.reduceAdd, Int.reduceMul, Int.reduceSub, Int.reduceNeg, Int.reduceLT, Int.reduceLE, Int.reduceEq, Nat.zero_add, Nat.add_zero, Nat.mul_one, eq_self, ne_eq, not_true, not_false_iff, and_true, true_and, and_self, List.getElem?_cons_zero, List.getElem?_cons_succ, List.map_cons, List.map_nil, dec_lt, wrap64, b1, b2, ex, ey, el, hi1, hi2, hi3, hp0, q1, es]

theorem conv_out (hB : h1.row B = some ⟨fvL q p m g0 ms, 67, 0, true⟩) {xs ys : List Int} {ox fx cx oy fy cy : Nat} (hx : RdI h1 (some ⟨ox, fx, none⟩) cx xs) (hy : RdI h1 (some ⟨oy, fy, none⟩) cy ys)
    (hxl : xs.length = m) (hyl : ys.length = m) (hm : m ≤ 10) (hp : 0 < p) (hp2 : p ≤ 64) (hxd : Dig p xs) (hyd : Dig p ys) :
    ∀ (n : Nat) (i : Int) (iN : Nat) (pre rest : List Int) (g : H), i = (iN : Int) → iN + n = m → pre.length = iN → (pre ++ rest).length = 2 * m → Dig p (pre ++ rest) → h1 <+: g → g.row h1.length = some ⟨ints (pre ++ rest), 3, 1, true⟩ →
    ∃ g' : H, h1 <+: g' ∧ g'.row h1.length = some ⟨ints (pre ++ conv p ys (xs.drop iN) rest), 3, 1, true⟩ ∧
      ∀ ks, goL T [.tmp 6] [3, 7, 8, 9, 10] c56L1 (.blk 0 [3, 9] :: ks) [(3, .pointer (some ⟨B, 0, none⟩)), (7, .slice (some ⟨ox, fx, none⟩) m cx), (8, .slice (some ⟨oy, fy, none⟩) m cy), (9, .slice (some ⟨h1.length, 0, none⟩) (2 * m) (2 * m)), (10, .int .i64 i)] g =
        go T [.tmp 6] ks (Fr.of [(3, .pointer (some ⟨B, 0, none⟩)), (9, .slice (some ⟨h1.length, 0, none⟩) (2 * m) (2 * m))]) g'
  | 0, i, iN, pre, rest, g, hi, hn, hpl, hl, hd, hp1, hr => by
    subst hi
    have e : xs.drop iN = [] := List.drop_eq_nil_of_le (by omega)
    refine ⟨g, hp1, by rw [e, conv]; exact hr, fun ks => ?_⟩
    rw [goL_at c56L1.eq_def]
    have b2 : g.ld1 B 2 = some (.int .i64 m) := ld1_at (row_pre hB hp1) rfl
    simp (disch := first | omega | (simp only [Go.Am.len_push, Go.Am.len_set, Go.Am.len_kill] <;> omega) | fail) only [push_cast, Nat.reduceBEq, Nat.reduceAdd, Nat.reduceMul, Nat.reduceSub, Nat.reduceLT, Nat.reduceGT, Nat.reduceLeDiff, Nat.reduceEqDiff, Int.reduceToNat, Int.reduceAdd, Int.reduceMul, Int.reduceSub, Int.reduceNeg, Int.reduceLT, Int.reduceLE, Int.reduceEq, Nat.zero_add, Nat.add_zero, Nat.mul_one, eq_self, ne_eq, not_true, not_false_iff, and_true, true_and, and_self, List.getElem?_cons_zero, List.getElem?_cons_succ, List.map_cons, List.map_nil, dec_nlt, b2]
  | n + 1, i, iN, pre, rest, g, hi, hn, hpl, hl, hd, hp1, hr => by
    subst hi
    have b2 : g.ld1 B 2 = some (.int .i64 m) := ld1_at (row_pre hB hp1) rfl
    obtain ⟨g1, p1, r1, d1, in1⟩ := conv_in hB hx hy hxl hyl hm hp hp2 hxd hyd iN (by omega) m 0 0 pre rest g rfl (by omega) (by omega) hl hd hp1 hr
    rw [List.drop_zero] at r1 d1
    have hal := axpy_len p (gi xs iN) rest ys
    obtain ⟨a, r, har⟩ : ∃ a r, axpy p (gi xs iN) rest ys = a :: r := cons_of_len (by rw [List.length_append] at hl; omega)
    rw [har] at r1 d1 hal
    have e1 : pre ++ a :: r = pre ++ [a] ++ r := by simp
    rw [e1] at r1 d1
    obtain ⟨g2, p2, r2, ih⟩ := conv_out hB hx hy hxl hyl hm hp hp2 hxd hyd n ((iN : Int) + 1) (iN + 1) (pre ++ [a]) r g1 (by omega) (by omega) (by simp; omega) (by simp at hl hal ⊢; omega) d1 p1 r1
    have he : pre ++ conv p ys (xs.drop iN) rest = pre ++ [a] ++ conv p ys (xs.drop (iN + 1)) r := by
      rw [drop_gi (by omega), conv, har]; simp
    refine ⟨g2, p2, by rw [he]; exact r2, fun ks => ?_⟩
    rw [← ih ks, goL_at c56L1.eq_def]
    simp (disch := first | omega | (simp only [Go.Am.len_push, Go.Am.len_set, Go.Am.len_kill] <;> omega) | fail) only [push_cast, Nat.reduceBEq, Nat.reduceAdd, Nat.reduceMul, Nat.reduceSub, Nat.reduceLT, Nat.reduceGT, Nat.reduceLeDiff, Nat.reduceEqDiff, Int.reduceToNat, Int.reduceAdd, Int.reduceMul, Int.reduceSub, Int.reduceNeg, Int.reduceLT, Int.reduceLE, Int.reduceEq, Nat.zero_add, Nat.add_zero, Nat.mul_one, eq_self, ne_eq, not_true, not_false_iff, and_true, true_and, and_self, List.getElem?_cons_zero, List.getElem?_cons_succ, List.map_cons, List.map_nil, dec_lt, b2]
    rw [in1]
    simp (disch := first | omega | (simp only [Go.Am.len_push, Go.Am.len_set, Go.Am.len_kill] <;> omega) | fail) only [push_cast, Nat.reduceBEq, Nat.reduceAdd, Nat.reduceMul, Nat.reduceSub, Nat.reduceLT, Nat.reduceGT, Nat.reduceLeDiff, Nat.reduceEqDiff, Int.reduceToNat, Int.reduceAdd, Int.reduceMul, Int.reduceSub, Int.reduceNeg, Int.reduceLT, Int.reduceLE, Int.reduceEq, Nat.zero_add, Nat.add_zero, Nat.mul_one, eq_self, ne_eq, not_true, not_false_iff, and_true, true_and, and_self, List.getElem?_cons_zero, List.getElem?_cons_succ, List.map_cons, List.map_nil, wrap64]
end
end Go.Proofs.Ytammndhoillliaa
namespace Go.Proofs.Ytammndhoillliaa
open Go.Am
set_option linter.unusedVariables false
set_option linter.unusedSimpArgs false
set_option maxRecDepth 30000

section
variable {q p g0 : Int} {m : Nat} {om fm cm : Nat} {h1 : H} {B : Nat} {mod : List Int}

theorem red_in (hB : h1.row B = some ⟨fvL q p m g0 (.slice (some ⟨om, fm, none⟩) mod.length cm), 67, 0, true⟩) (hM : RdI h1 (some ⟨om, fm, none⟩) cm mod)
    (hml : mod.length = m + 1) (hm : m ≤ 10) (hp : 0 < p) (hp2 : p ≤ 64) (hmd : Dig p mod) (nN : Nat) (hnN : nN < m) (c : Int) (zs : List Int) (hc : 0 ≤ c ∧ c < p) :
    ∀ (n : Nat) (k : Int) (kN : Nat) (pre mid : List Int) (g : H), k = (kN : Int) → kN + n = m → pre.length = nN + kN → mid.length = n → (pre ++ mid ++ c :: zs).length = 2 * m → Dig p (pre ++ mid ++ c :: zs) → h1 <+: g → g.row h1.length = some ⟨ints (pre ++ mid ++ c :: zs), 3, 1, true⟩ →
    ∃ g' : H, h1 <+: g' ∧ g'.row h1.length = some ⟨ints (pre ++ axpy p c mid (((mod.take m).map fun d => p - d).drop kN) ++ c :: zs), 3, 1, true⟩ ∧ Dig p (pre ++ axpy p c mid (((mod.take m).map fun d => p - d).drop kN) ++ c :: zs) ∧
      ∀ ks, goL T [.tmp 6] [3, 9, 12, 13] c56L2 (.blk 6 [3, 9, 12] :: ks) [(3, .pointer (some ⟨B, 0, none⟩)), (9, .slice (some ⟨h1.length, 0, none⟩) (2 * m) (2 * m)), (12, .int .i64 ((nN : Int) + m)), (13, .int .i64 k)] g =
        go T [.tmp 6] ks (Fr.of [(3, .pointer (some ⟨B, 0, none⟩)), (9, .slice (some ⟨h1.length, 0, none⟩) (2 * m) (2 * m)), (12, .int .i64 ((nN : Int) + m))]) g'
  | 0, k, kN, pre, mid, g, hk, hn, hpl, hml2, hl, hd, hp1, hr => by
    subst hk
    obtain rfl := List.eq_nil_of_length_eq_zero hml2
    have e2 : ∀ l, axpy p c [] l = [] := fun l => by cases l <;> rfl
    refine ⟨g, hp1, by rw [e2]; exact hr, by rw [e2]; exact hd, fun ks => ?_⟩
    rw [goL_at c56L2.eq_def]
    have b2 : g.ld1 B 2 = some (.int .i64 m) := ld1_at (row_pre hB hp1) rfl
    simp (disch := first | omega | (simp only [Go.Am.len_push, Go.Am.len_set, Go.Am.len_kill] <;> omega) | fail) only [push_cast, Nat.reduceBEq, Nat.reduceAdd, Nat.reduceMul, Nat.reduceSub, Nat.reduceLT, Nat.reduceGT, Nat.reduceLeDiff, Nat.reduceEqDiff, Int.reduceToNat, Int.reduceAdd, Int.reduceMul, Int.reduceSub, Int.reduceNeg, Int.reduceLT, Int.reduceLE, Int.reduceEq, Nat.zero_add, Nat.add_zero, Nat.mul_one, eq_self, ne_eq, not_true, not_false_iff, and_true, true_and, and_self, List.getElem?_cons_zero, List.getElem?_cons_succ, List.map_cons, List.map_nil, dec_nlt, b2]
  | n + 1, k, kN, pre, mid, g, hk, hn, hpl, hml2, hl, hd, hp1, hr => by
    subst hk
    obtain ⟨a, r, rfl⟩ : ∃ a r, mid = a :: r := cons_of_len (by omega)
    have b2 : g.ld1 B 2 = some (.int .i64 m) := ld1_at (row_pre hB hp1) rfl
    have b1 : g.ld1 B 1 = some (.int .i64 p) := ld1_at (row_pre hB hp1) rfl
    have b4 : g.ld1 B 4 = some (.slice (some ⟨om, fm, none⟩) mod.length cm) := ld1_at (row_pre hB hp1) rfl
    have em := (hM.mono hp1).ld (i := (kN : Int)) (by omega) (by omega)
    have ge : gi (pre ++ a :: r ++ c :: zs) ((nN : Int) + (kN : Int)) = a := by
      have := gi_mid (pre := pre) (r := r ++ c :: zs) (a := a) (i := nN + kN) (by omega)
      rw [Int.natCast_add] at this; simpa using this
    have gc : gi (pre ++ a :: r ++ c :: zs) ((nN : Int) + (m : Int)) = c := by
      have := gi_mid (pre := pre ++ a :: r) (r := zs) (a := c) (i := nN + m) (by simp at hml2 ⊢; omega)
      rw [Int.natCast_add] at this; exact this
    have el := ld1_int hr (i := (nN : Int) + (kN : Int)) (by omega) (by omega)
    have ec := ld1_int hr (i := (nN : Int) + (m : Int)) (by omega) (by omega)
    rw [ge] at el
    rw [gc] at ec
    have hg := pre_len hp1
    have hlt := row_some_lt hr
    have hi2 : 0 ≤ (kN : Int) ∧ (kN : Int) < (m : Int) + 1 := by omega
    have hi3 : 0 ≤ (nN : Int) + (kN : Int) ∧ (nN : Int) + (kN : Int) < 2 * (m : Int) := by omega
    have hi4 : 0 ≤ (nN : Int) + (m : Int) ∧ (nN : Int) + (m : Int) < 2 * (m : Int) := by omega
    have hmk := gi_nonneg hp hmd kN
    have hxy : 0 ≤ c * (p - gi mod kN) ∧ c * (p - gi mod kN) ≤ 4096 := by
      have : c * (p - gi mod kN) ≤ 64 * 64 := Int.mul_le_mul (by omega) (by omega) (by omega) (by omega)
      exact ⟨Int.mul_nonneg hc.1 (by omega), this⟩
    have ha := hd a (by simp)
    obtain ⟨v, hv⟩ : ∃ v, v = (a + c * (p - gi mod kN)) % p := ⟨_, rfl⟩
    have es := sts_int hr (i := (nN : Int) + (kN : Int)) (v := v) (by omega) (by omega)
    have hset : (pre ++ a :: r ++ c :: zs).set ((nN : Int) + (kN : Int)).toNat v = pre ++ [v] ++ r ++ c :: zs := by
      have := set_mid (pre := pre) (r := r ++ c :: zs) (a := a) (v := v) (i := ((nN : Int) + (kN : Int)).toNat) (by omega)
      simpa using this
    have q1 : (a + c * (p - gi mod kN)).tmod p = v := by rw [hv]; exact Int.tmod_eq_emod_of_nonneg (by omega)
    have hvd : 0 ≤ v ∧ v < p := by rw [hv]; exact ⟨Int.emod_nonneg _ (by omega), Int.emod_lt_of_pos _ hp⟩
    have hd' : Dig p (pre ++ [v] ++ r ++ c :: zs) := by
      intro z hz
      simp only [List.append_assoc, List.mem_append, List.mem_cons, List.not_mem_nil, or_false] at hz
      rcases hz with hz | rfl | hz | rfl | hz
      · exact hd z (by simp [hz])
      · exact hvd
      · exact hd z (by simp [hz])
      · exact hc
      · exact hd z (by simp [hz])
    have hrow' : H.row (g.set h1.length (.row ⟨ints (pre ++ [v] ++ r ++ c :: zs), 3, 1, true⟩)) h1.length = some ⟨ints (pre ++ [v] ++ r ++ c :: zs), 3, 1, true⟩ := row_set_same hlt
    obtain ⟨g', p', r', d', ih⟩ := red_in hB hM hml hm hp hp2 hmd nN hnN c zs hc n ((kN : Int) + 1) (kN + 1) (pre ++ [v]) r _ (by omega) (by omega) (by simp; omega) (by simpa using hml2) (by simp at hl ⊢; omega) hd' (pre_set hp1 (Nat.le_refl _)) hrow'
    have hkl : kN < ((mod.take m).map fun d => p - d).length := by simp; omega
    have hgk : gi ((mod.take m).map fun d => p - d) kN = p - gi mod kN := by
      unfold gi
      rw [List.getD_eq_getElem?_getD, List.getD_eq_getElem?_getD, List.getElem?_map, List.getElem?_take, if_pos (by omega), List.getElem?_eq_getElem (show ((kN : Int)).toNat < mod.length by omega)]
      rfl
    have he : pre ++ axpy p c (a :: r) (((mod.take m).map fun d => p - d).drop kN) ++ c :: zs = pre ++ [v] ++ axpy p c r (((mod.take m).map fun d => p - d).drop (kN + 1)) ++ c :: zs := by
      rw [drop_gi hkl, hgk, axpy, hv]; simp
    refine ⟨g', p', by rw [he]; exact r', by rw [he]; exact d', fun ks => ?_⟩
    rw [hset] at es
    rw [← ih ks, goL_at c56L2.eq_def]
    have hp0 : ¬ p = 0 := by omega
    have hnm : (nN : Int) + m - m = nN := by omega
    rw [hml] at b4
    simp (disch := first | omega | (simp only [Go.Am.len_push, Go.Am.len_set, Go.Am.len_kill] <;> omega) | fail) only [push_cast, Nat.reduceBEq, Nat.reduceAdd, Nat.reduceMul, Nat.reduceSub, Nat.reduceLT, Nat.reduceGT, Nat.reduceLeDiff, Nat.reduceEqDiff, Int.reduceToNat, Int.reduceAdd, Int.reduceMul, Int.reduceSub, Int.reduceNeg, Int.reduceLT, Int.reduceLE, Int.reduceEq, Nat.zero_add, Nat.add_zero, Nat.mul_one, eq_self, ne_eq, not_true, not_false_iff, and_true, true_and, and_self, List.getElem?_cons_zero, List.getElem?_cons_succ, List.map_cons, List.map_nil, dec_lt, wrap64, hnm, b1, b2, b4, em, el, ec, hi2, hi3, hi4, hp0, q1, es]

theorem red_out (hB : h1.row B = some ⟨fvL q p m g0 (.slice (some ⟨om, fm, none⟩) mod.length cm), 67, 0, true⟩) (hM : RdI h1 (some ⟨om, fm, none⟩) cm mod)
    (hml : mod.length = m + 1) (hm : m ≤ 10) (hp : 0 < p) (hp2 : p ≤ 64) (hmd : Dig p mod) :
    ∀ (n : Nat) (l zs : List Int) (g : H), n ≤ m → l.length = n + m → (l ++ zs).length = 2 * m → Dig p (l ++ zs) → h1 <+: g → g.row h1.length = some ⟨ints (l ++ zs), 3, 1, true⟩ →
    ∃ (g' : H) (ws : List Int), h1 <+: g' ∧ g'.row h1.length = some ⟨ints (red p ((mod.take m).map fun d => p - d) m n l ++ ws), 3, 1, true⟩ ∧ (red p ((mod.take m).map fun d => p - d) m n l ++ ws).length = 2 * m ∧
      ∀ ks, goL T [.tmp 6] [3, 9, 12] c56L3 (.blk 4 [3, 9] :: ks) [(3, .pointer (some ⟨B, 0, none⟩)), (9, .slice (some ⟨h1.length, 0, none⟩) (2 * m) (2 * m)), (12, .int .i64 ((n : Int) + m - 1))] g =
        go T [.tmp 6] ks (Fr.of [(3, .pointer (some ⟨B, 0, none⟩)), (9, .slice (some ⟨h1.length, 0, none⟩) (2 * m) (2 * m))]) g'
  | 0, l, zs, g, hnm, hll, hl, hd, hp1, hr => by
    refine ⟨g, zs, hp1, by rw [red]; exact hr, by rw [red]; exact hl, fun ks => ?_⟩
    rw [goL_at c56L3.eq_def]
    have b2 : g.ld1 B 2 = some (.int .i64 m) := ld1_at (row_pre hB hp1) rfl
    simp (disch := first | omega | (simp only [Go.Am.len_push, Go.Am.len_set, Go.Am.len_kill] <;> omega) | fail) only [push_cast, Nat.reduceBEq, Nat.reduceAdd, Nat.reduceMul, Nat.reduceSub, Nat.reduceLT, Nat.reduceGT, Nat.reduceLeDiff, Nat.reduceEqDiff, Int.reduceToNat, Int.reduceAdd, Int.reduceMul, Int.reduceSub, Int.reduceNeg, Int.reduceLT, Int.reduceLE, Int.reduceEq, Nat.zero_add, Nat.add_zero, Nat.mul_one, eq_self, ne_eq, not_true, not_false_iff, and_true, true_and, and_self, List.getElem?_cons_zero, List.getElem?_cons_succ, List.map_cons, List.map_nil, dec_nle, b2]
  | n + 1, l, zs, g, hnm, hll, hl, hd, hp1, hr => by
    have b2 : g.ld1 B 2 = some (.int .i64 m) := ld1_at (row_pre hB hp1) rfl
    -- the list in three parts
    have hc := gi_nonneg hp (fun z hz => hd z (by simp [hz]) : Dig p l) ((n + m : Nat) : Int)
    have hsp : l = l.take n ++ (l.take (n + m)).drop n ++ [gi l ((n + m : Nat) : Int)] := by
      have h2 : l.take (n + m) = l.take n ++ (l.take (n + m)).drop n := by
        conv => lhs; rw [← List.take_append_drop n (l.take (n + m))]
        rw [List.take_take, Nat.min_eq_left (by omega)]
      rw [← h2]
      have h3 : l.drop (n + m) = [gi l ((n + m : Nat) : Int)] := by rw [drop_gi (by omega), List.drop_eq_nil_of_le (by omega)]
      rw [← h3, List.take_append_drop]
    obtain ⟨c, hcd⟩ : ∃ c, c = gi l ((n + m : Nat) : Int) := ⟨_, rfl⟩
    obtain ⟨pre, hpre⟩ : ∃ x, x = l.take n := ⟨_, rfl⟩
    obtain ⟨mid, hmid⟩ : ∃ x, x = (l.take (n + m)).drop n := ⟨_, rfl⟩
    rw [← hcd, ← hpre, ← hmid] at hsp
    rw [← hcd] at hc
    have hprel : pre.length = n := by rw [hpre, List.length_take]; omega
    have hmidl : mid.length = m := by rw [hmid, List.length_drop, List.length_take]; omega
    have hsp2 : l ++ zs = pre ++ mid ++ c :: zs := by rw [hsp]; simp
    rw [hsp2] at hr hd hl
    obtain ⟨g1, p1, r1, d1, in1⟩ := red_in hB hM hml hm hp hp2 hmd n (by omega) c zs hc m 0 0 pre mid g rfl (by omega) (by omega) hmidl hl hd hp1 hr
    rw [List.drop_zero] at r1 d1
    obtain ⟨l', hl'⟩ : ∃ x, x = pre ++ axpy p c mid ((mod.take m).map fun d => p - d) := ⟨_, rfl⟩
    rw [← hl'] at r1 d1
    have hl'l : l'.length = n + m := by rw [hl', List.length_append, axpy_len]; omega
    have hlt := row_some_lt r1
    have hz : zs.length + (n + m + 1) = 2 * m := by simp at hl; omega
    have es := sts_int r1 (i := (n : Int) + (m : Int)) (v := 0) (by omega) (by simp; omega)
    have hset : (l' ++ c :: zs).set ((n : Int) + (m : Int)).toNat 0 = l' ++ 0 :: zs := set_mid (by omega)
    rw [hset] at es
    have hrow' : H.row (g1.set h1.length (.row ⟨ints (l' ++ 0 :: zs), 3, 1, true⟩)) h1.length = some ⟨ints (l' ++ 0 :: zs), 3, 1, true⟩ := row_set_same hlt
    have hd' : Dig p (l' ++ 0 :: zs) := by
      intro z hz
      simp only [List.mem_append, List.mem_cons] at hz
      rcases hz with hz | rfl | hz
      · exact d1 z (by simp [hz])
      · omega
      · exact d1 z (by simp [hz])
    obtain ⟨g2, ws, p2, r2, l2, ih⟩ := red_out hB hM hml hm hp hp2 hmd n l' (0 :: zs) _ (by omega) hl'l (by simp; omega) hd' (pre_set p1 (Nat.le_refl _)) hrow'
    have he : red p ((mod.take m).map fun d => p - d) m (n + 1) l = red p ((mod.take m).map fun d => p - d) m n l' := by
      rw [red, hl', hpre, hmid, hcd]
    refine ⟨g2, ws, p2, by rw [he]; exact r2, by rw [he]; exact l2, fun ks => ?_⟩
    have hi4 : 0 ≤ (n : Int) + (m : Int) ∧ (n : Int) + (m : Int) < 2 * (m : Int) := by omega
    have hq : ((n + 1 : Nat) : Int) + m - 1 = (n : Int) + m := by omega
    rw [← ih ks, goL_at c56L3.eq_def, hq]
    simp (disch := first | omega | (simp only [Go.Am.len_push, Go.Am.len_set, Go.Am.len_kill] <;> omega) | fail) only [push_cast, Nat.reduceBEq, Nat.reduceAdd, Nat.reduceMul, Nat.reduceSub, Nat.reduceLT, Nat.reduceGT, Nat.reduceLeDiff, Nat.reduceEqDiff, Int.reduceToNat, Int.reduceAdd, Int.reduceMul, Int.reduceSub, Int.reduceNeg, Int.reduceLT, Int.reduceLE, Int.reduceEq, Nat.zero_add, Nat.add_zero, Nat.mul_one, eq_self, ne_eq, not_true, not_false_iff, and_true, true_and, and_self, List.getElem?_cons_zero, List.getElem?_cons_succ, List.map_cons, List.map_nil, dec_le, b2]
    rw [in1]
    simp (disch := first | omega | (simp only [Go.Am.len_push, Go.Am.len_set, Go.Am.len_kill] <;> omega) | fail) only [push_cast, Nat.reduceBEq, Nat.reduceAdd, Nat.reduceMul, Nat.reduceSub, Nat.reduceLT, Nat.reduceGT, Nat.reduceLeDiff, Nat.reduceEqDiff, Int.reduceToNat, Int.reduceAdd, Int.reduceMul, Int.reduceSub, Int.reduceNeg, Int.reduceLT, Int.reduceLE, Int.reduceEq, Nat.zero_add, Nat.add_zero, Nat.mul_one, eq_self, ne_eq, not_true, not_false_iff, and_true, true_and, and_self, List.getElem?_cons_zero, List.getElem?_cons_succ, List.map_cons, List.map_nil, wrap64, hi4, es]
end
end Go.Proofs.Ytammndhoillliaa
namespace Go.Proofs.Ytammndhoillliaa
open Go.Am
set_option linter.unusedVariables false
set_option linter.unusedSimpArgs false
set_option maxRecDepth 30000

theorem ipow_mono {p : Int} (hp : 1 ≤ p) {a b : Nat} (h : a ≤ b) : p ^ a ≤ p ^ b := by
  have hpos : ∀ n : Nat, 0 ≤ p ^ n := fun n => by
    induction n with
    | zero => simp
    | succ n ih => rw [Int.pow_succ]; exact Int.mul_nonneg ih (by omega)
  induction h with
  | refl => exact Int.le_refl _
  | step h ih =>
    rw [Nat.succ_eq_add_one, Int.pow_succ]
    rename_i k
    have h2 := Int.mul_le_mul_of_nonneg_left hp (hpos k)
    omega
theorem mul_call {q p g0 : Int} {m : Nat} {om fm cm : Nat} {mod : List Int} (h : H) (hM : RdI h (some ⟨om, fm, none⟩) cm mod) (hml : mod.length = m + 1) (hm1 : 1 ≤ m) (hm : m ≤ 10) (hp1 : 2 ≤ p) (hp2 : p ≤ 64)
    (hmd : Dig p mod) (hpm : p ^ m ≤ 1000000) (hq : q ≤ 64) (a b : Int) :
    ∃ h' : H, h <+: h' ∧ call T 56 [fv q p m g0 (.slice (some ⟨om, fm, none⟩) mod.length cm), .int .i64 a, .int .i64 b] h = some (.int .i64 (mulR q p m mod a b), h') := by
  obtain ⟨ms, hms⟩ : ∃ ms, ms = Value.slice (some ⟨om, fm, none⟩) mod.length cm := ⟨_, rfl⟩
  rw [← hms]
  obtain ⟨h1, eh1⟩ : ∃ h1 : H, h1 = h ++ [fvR q p m g0 ms] := ⟨_, rfl⟩
  have r1 : h1.row h.length = some ⟨fvL q p m g0 ms, 67, 0, true⟩ := by rw [eh1]; exact row_push_new
  have p1 : h <+: h1 := by rw [eh1]; exact List.prefix_append _ _
  have l1 := lds_all r1 (n := 5) rfl
  have hasA := has_call q p m g0 a ms h1
  obtain ⟨h2, eh2⟩ : ∃ h2 : H, h2 = h1 ++ [fvR q p m g0 ms] := ⟨_, rfl⟩
  rw [← eh2] at hasA
  have p2 : h1 <+: h2 := by rw [eh2]; exact List.prefix_append _ _
  have l2 := lds_all (row_pre r1 p2) (n := 5) rfl
  have hasB := has_call q p m g0 b ms h2
  obtain ⟨h3, eh3⟩ : ∃ h3 : H, h3 = h2 ++ [fvR q p m g0 ms] := ⟨_, rfl⟩
  rw [← eh3] at hasB
  have p3 : h2 <+: h3 := by rw [eh3]; exact List.prefix_append _ _
  have r3 := row_pre r1 (p2.trans p3)
  by_cases hA : 0 ≤ a ∧ a < q
  rotate_left
  · refine ⟨h2, p1.trans p2, ?_⟩
    have : (decide (0 ≤ a) && decide (a < q)) = false := by
      cases hx : (decide (0 ≤ a) && decide (a < q)) with
      | false => rfl
      | true => simp at hx; exact absurd hx hA
    rw [this] at hasA
    rw [mulR, if_neg hA, call_at T56 rfl]
    unfold F56 c56
    simp (disch := first | omega | (simp only [Go.Am.len_push, Go.Am.len_set, Go.Am.len_kill] <;> omega) | fail) only [push_cast, Nat.reduceBEq, Nat.reduceAdd, Nat.reduceMul, Nat.reduceSub, Nat.reduceLT, Nat.reduceGT, Nat.reduceLeDiff, Nat.reduceEqDiff, Int.reduceToNat, Int.reduceAdd, Int.reduceMul, Int.reduceSub, Int.reduceNeg, Int.reduceLT, Int.reduceLE, Int.reduceEq, Nat.zero_add, Nat.add_zero, Nat.mul_one, eq_self, ne_eq, not_true, not_false_iff, and_true, true_and, and_self, List.getElem?_cons_zero, List.getElem?_cons_succ, List.map_cons, List.map_nil, ← eh1, l1, hasA]
  by_cases hBb : 0 ≤ b ∧ b < q
  rotate_left
  · refine ⟨h3, (p1.trans p2).trans p3, ?_⟩
    have : (decide (0 ≤ b) && decide (b < q)) = false := by
      cases hx : (decide (0 ≤ b) && decide (b < q)) with
      | false => rfl
      | true => simp at hx; exact absurd hx hBb
    rw [this] at hasB
    rw [decide_eq_true hA.1, decide_eq_true hA.2] at hasA
    rw [mulR, if_pos hA, if_neg hBb, call_at T56 rfl]
    unfold F56 c56
    simp (disch := first | omega | (simp only [Go.Am.len_push, Go.Am.len_set, Go.Am.len_kill] <;> omega) | fail) only [push_cast, Nat.reduceBEq, Nat.reduceAdd, Nat.reduceMul, Nat.reduceSub, Nat.reduceLT, Nat.reduceGT, Nat.reduceLeDiff, Nat.reduceEqDiff, Int.reduceToNat, Int.reduceAdd, Int.reduceMul, Int.reduceSub, Int.reduceNeg, Int.reduceLT, Int.reduceLE, Int.reduceEq, Nat.zero_add, Nat.add_zero, Nat.mul_one, eq_self, ne_eq, not_true, not_false_iff, and_true, true_and, and_self, List.getElem?_cons_zero, List.getElem?_cons_succ, List.map_cons, List.map_nil, ← eh1, l1, hasA, l2, hasB]
  rw [decide_eq_true hA.1, decide_eq_true hA.2] at hasA
  rw [decide_eq_true hBb.1, decide_eq_true hBb.2] at hasB
  rw [mulR, if_pos hA, if_pos hBb]
  have b1 : h3.ld1 h.length 1 = some (.int .i64 p) := ld1_at r3 rfl
  have b2 : h3.ld1 h.length 2 = some (.int .i64 m) := ld1_at r3 rfl
  have hp0 : ¬ p = 0 := by omega
  by_cases hone : m = 1
  · refine ⟨h3, (p1.trans p2).trans p3, ?_⟩
    have hab : a * b ≤ 64 * 64 := Int.mul_le_mul (by omega) (by omega) (by omega) (by omega)
    have hab0 := Int.mul_nonneg hA.1 hBb.1
    have q1 : (a * b).tmod p = a * b % p := Int.tmod_eq_emod_of_nonneg hab0
    have hmi : ((m : Int) = 1) := by omega
    rw [if_pos hone, call_at T56 rfl]
    unfold F56 c56
    simp (disch := first | omega | (simp only [Go.Am.len_push, Go.Am.len_set, Go.Am.len_kill] <;> omega) | fail) only [push_cast, Nat.reduceBEq, Nat.reduceAdd, Nat.reduceMul, Nat.reduceSub, Nat.reduceLT, Nat.reduceGT, Nat.reduceLeDiff, Nat.reduceEqDiff, Int.reduceToNat, Int.reduceAdd, Int.reduceMul, Int.reduceSub, Int.reduceNeg, Int.reduceLT, Int.reduceLE, Int.reduceEq, Nat.zero_add, Nat.add_zero, Nat.mul_one, eq_self, ne_eq, not_true, not_false_iff, and_true, true_and, and_self, List.getElem?_cons_zero, List.getElem?_cons_succ, List.map_cons, List.map_nil, ← eh1, l1, hasA, l2, hasB, b1, b2, dec_eq hmi, wrap64, hp0, q1]
  rw [if_neg hone]
  have hmi : ¬ ((m : Int) = 1) := by omega
  -- the digits
  obtain ⟨sx, cx, h4, ex, p4, gx⟩ := digits_call a p m h3 (by omega) (by omega) hA.1 (by omega)
  have b1' : h4.ld1 h.length 1 = some (.int .i64 p) := ld1_pre b1 p4
  have b2' : h4.ld1 h.length 2 = some (.int .i64 m) := ld1_pre b2 p4
  obtain ⟨sy, cy, h5, ey, p5, gy⟩ := digits_call b p m h4 (by omega) (by omega) hBb.1 (by omega)
  have b1'' : h5.ld1 h.length 1 = some (.int .i64 p) := ld1_pre b1' p5
  have b2'' : h5.ld1 h.length 2 = some (.int .i64 m) := ld1_pre b2' p5
  have rx := (gx.rd).mono p5
  have ry := gy.rd
  have hxl : (digs p m a).length = m := digs_len _ _ _
  have hyl : (digs p m b).length = m := digs_len _ _ _
  obtain ⟨ox, fx, rfl, _, _⟩ := rx.addr (by omega)
  obtain ⟨oy, fy, rfl, _, _⟩ := ry.addr (by omega)
  have r5 := row_pre r3 (p4.trans p5)
  have hM5 := hM.mono ((((p1.trans p2).trans p3).trans p4).trans p5)
  have hpp : 0 < p := by omega
  -- the product
  obtain ⟨h6, eh6⟩ : ∃ h6 : H, h6 = h5 ++ [.row ⟨ints (List.replicate (2 * m) 0), 3, 1, true⟩] := ⟨_, rfl⟩
  have p6 : h5 <+: h6 := by rw [eh6]; exact List.prefix_append _ _
  have r6 : h6.row h5.length = some ⟨ints ([] ++ List.replicate (2 * m) 0), 3, 1, true⟩ := by rw [eh6]; exact row_push_new
  obtain ⟨h7, p7, r7, co⟩ := conv_out r5 rx ry hxl hyl hm hpp hp2 (Dig.digs hpp m a) (Dig.digs hpp m b) m 0 0 [] (List.replicate (2 * m) 0) h6 rfl (by omega) rfl (by simp) (by simpa using Dig.zero hpp (2 * m)) p6 r6
  rw [List.drop_zero, List.nil_append] at r7
  obtain ⟨l, hl⟩ : ∃ l, l = conv p (digs p m b) (digs p m a) (List.replicate (2 * m) 0) := ⟨_, rfl⟩
  rw [← hl] at r7
  have hll : l.length = m + m := by rw [hl, conv_len]; simp; omega
  have hld : Dig p l := by rw [hl]; exact Dig.conv hpp _ _ (Dig.zero hpp _)
  rw [hms] at r5
  obtain ⟨h8, ws, p8, r8, l8, ro⟩ := red_out r5 hM5 hml hm hpp hp2 hmd m l [] h7 (Nat.le_refl _) hll (by simp; omega) (by simpa using hld) p7 (by simpa using r7)
  obtain ⟨z, hz⟩ : ∃ z, z = red p ((mod.take m).map fun d => p - d) m m l := ⟨_, rfl⟩
  rw [← hz] at r8 l8
  have hzl : z.length = m := by rw [hz]; exact red_len _ _ _ _ _ hll
  have hzd : Dig p z := by rw [hz]; exact Dig.red hpp _ _ _ hld
  have b1e : h8.ld1 h.length 1 = some (.int .i64 p) := ld1_pre b1'' p8
  have b2e : h8.ld1 h.length 2 = some (.int .i64 m) := ld1_pre b2'' p8
  have b27 : h7.ld1 h.length 2 = some (.int .i64 m) := ld1_pre b2'' p7
  have rz : RdI h8 (some ⟨h5.length, 0, none⟩) (2 * m) z := .inr ⟨by omega, h5.length, 0, _, rfl, r8, fun _ => rfl, fun i h0 hi => by
    rw [Nat.zero_add]
    show (ints (z ++ ws))[i.toNat]? = _
    unfold ints
    rw [List.getElem?_map, List.getElem?_append_left (by omega), gi_eq h0 hi]; rfl⟩
  have hb : ∀ j, j ≤ z.length → 0 ≤ numb p (z.drop j) ∧ numb p (z.drop j) ≤ 1000000 := by
    intro j hj
    have h1 := numb_bound hpp (l := z.drop j) (fun x hx => hzd x (List.mem_of_mem_drop hx))
    have h2 : p ^ (z.drop j).length ≤ p ^ m := ipow_mono (by omega) (by rw [List.length_drop]; omega)
    omega
  have hnum := number_call p z (some ⟨h5.length, 0, none⟩) (2 * m) h8 rz (by omega) hp2 (fun x hx => by have := hzd x hx; omega) (by omega) (by omega) hb
  rw [hzl] at hnum
  have hu : unitOk h8 1 (some ⟨h5.length, 0, none⟩) = true := by unfold unitOk; simp only [r8]; rfl
  refine ⟨h8, ((((p1.trans p2).trans p3).trans p4).trans p5).trans p8, ?_⟩
  rw [mulP, ← hl, ← hz, call_at T56 rfl]
  unfold F56 c56
  have c1 : 0 ≤ 2 * (m : Int) ∧ 2 * (m : Int) ≤ 2 * (m : Int) ∧ 2 * (m : Int) ≤ 1099511627776 ∧ 2 * (m : Int) * 8 ≤ 140737488355328 := by omega
  have c2 : (2 * (m : Int)).toNat = 2 * m := by omega
  have c3 : 0 ≤ (0 : Int) ∧ 0 ≤ (m : Int) ∧ (m : Int) ≤ 2 * (m : Int) := by omega
  have c4 : ¬ 2 * (m : Int) = 0 := by omega
  simp (disch := first | omega | (simp only [Go.Am.len_push, Go.Am.len_set, Go.Am.len_kill] <;> omega) | fail) only [push_cast, Nat.reduceBEq, Nat.reduceAdd, Nat.reduceMul, Nat.reduceSub, Nat.reduceLT, Nat.reduceGT, Nat.reduceLeDiff, Nat.reduceEqDiff, Int.reduceToNat, Int.reduceAdd, Int.reduceMul, Int.reduceSub, Int.reduceNeg, Int.reduceLT, Int.reduceLE, Int.reduceEq, Nat.zero_add, Nat.add_zero, Nat.mul_one, eq_self, ne_eq, not_true, not_false_iff, and_true, true_and, and_self, List.getElem?_cons_zero, List.getElem?_cons_succ, List.map_cons, List.map_nil, ← eh1, l1, hasA, l2, hasB, b1, b2, b1', b2', b1'', b2'', ex, ey, dec_ne hmi, wrap64, c1, c2, rep_int, ← eh6]
  rw [co]
  simp (disch := first | omega | (simp only [Go.Am.len_push, Go.Am.len_set, Go.Am.len_kill] <;> omega) | fail) only [push_cast, Nat.reduceBEq, Nat.reduceAdd, Nat.reduceMul, Nat.reduceSub, Nat.reduceLT, Nat.reduceGT, Nat.reduceLeDiff, Nat.reduceEqDiff, Int.reduceToNat, Int.reduceAdd, Int.reduceMul, Int.reduceSub, Int.reduceNeg, Int.reduceLT, Int.reduceLE, Int.reduceEq, Nat.zero_add, Nat.add_zero, Nat.mul_one, eq_self, ne_eq, not_true, not_false_iff, and_true, true_and, and_self, List.getElem?_cons_zero, List.getElem?_cons_succ, List.map_cons, List.map_nil, b27, wrap64]
  rw [show 2 * (m : Int) - 1 = (m : Int) + m - 1 by omega, ro]
  simp (disch := first | omega | (simp only [Go.Am.len_push, Go.Am.len_set, Go.Am.len_kill] <;> omega) | fail) only [push_cast, Nat.reduceBEq, Nat.reduceAdd, Nat.reduceMul, Nat.reduceSub, Nat.reduceLT, Nat.reduceGT, Nat.reduceLeDiff, Nat.reduceEqDiff, Int.reduceToNat, Int.reduceAdd, Int.reduceMul, Int.reduceSub, Int.reduceNeg, Int.reduceLT, Int.reduceLE, Int.reduceEq, Nat.zero_add, Nat.add_zero, Nat.mul_one, eq_self, ne_eq, not_true, not_false_iff, and_true, true_and, and_self, List.getElem?_cons_zero, List.getElem?_cons_succ, List.map_cons, List.map_nil, b1e, b2e, c3, hu, ite_self, Int.sub_zero, Int.toNat_natCast, c2, hnum]
end Go.Proofs.Ytammndhoillliaa
