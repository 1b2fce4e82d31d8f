/-
  How many bits are 1, and the monomials: the program's and the document's. Condition: few levels.
  The monomials: the program's and the document's. Condition: few levels.
  The monomials, told whole; the document's too; which codes there are. Condition: few levels.
-/
import Derived.Test.YtammndhoillliaaMuB
import Derived.Test.YtammndhoillliaaL4
namespace Go.Proofs.Ytammndhoillliaa
open Go.Am
set_option linter.unusedVariables false
set_option linter.unusedSimpArgs false
set_option maxRecDepth 30000

/-! ### how many bits are 1 -/
def pcA (s : Int) : Int := IntKind.wrap .u64 (Go.bits .and .u64 (s.fdiv (2 ^ min 1 (IntKind.bits .u64))) 6148914691236517205 + Go.bits .and .u64 s 6148914691236517205)
def pcB (s : Int) : Int := IntKind.wrap .u64 (Go.bits .and .u64 (s.fdiv (2 ^ min 2 (IntKind.bits .u64))) 3689348814741910323 + Go.bits .and .u64 s 3689348814741910323)
def pcC (s : Int) : Int := Go.bits .and .u64 (IntKind.wrap .u64 (s.fdiv (2 ^ min 4 (IntKind.bits .u64)) + s)) 1085102592571150095
def pcD (k : Nat) (s : Int) : Int := IntKind.wrap .u64 (s + s.fdiv (2 ^ min k (IntKind.bits .u64)))
def pc64 (s : Int) : Int := Go.bits .and .i64 (IntKind.wrap .i64 (pcD 32 (pcD 16 (pcD 8 (pcC (pcB (pcA s))))))) 127
theorem pc_checked : ((List.range 32).all fun s : Nat => decide (pc64 (s : Int) = ((popT s : Nat) : Int)) && decide (IntKind.wrap .u64 (s : Int) = (s : Int))) = true := by kernel_rfl
theorem pc_is {s : Nat} (hs : s < 32) : pc64 (s : Int) = ((popT s : Nat) : Int) ∧ IntKind.wrap .u64 (s : Int) = (s : Int) := by
  have h := List.all_eq_true.1 pc_checked s (List.mem_range.2 hs)
  rw [Bool.and_eq_true] at h
  exact ⟨of_decide_eq_true h.1, of_decide_eq_true h.2⟩
section
variable {h : H}
theorem ones64_call (s : Int) : call T 150 [.int .u64 s] h = some (.int .i64 (pc64 s), h) := by
  rw [call_at T150 rfl]
  unfold F150 c150
  simp (disch := first | omega | (simp only [Go.Am.len_push, Go.Am.len_set, Go.Am.len_kill] <;> omega) | fail) only [push_cast, Nat.reduceBEq, Nat.reduceAdd, Nat.reduceMul, Nat.reduceSub, Nat.reduceLT, Nat.reduceGT, Nat.reduceLeDiff, Nat.reduceEqDiff, Int.reduceToNat, Int.reduceAdd, Int.reduceMul, Int.reduceSub, Int.reduceNeg, Int.reduceLT, Int.reduceLE, Int.reduceEq, Nat.zero_add, Nat.add_zero, Nat.mul_one, eq_self, ne_eq, not_true, not_false_iff, and_true, true_and, and_self, List.getElem?_cons_zero, List.getElem?_cons_succ, List.map_cons, List.map_nil]
  rfl
theorem ones_call {s : Nat} (hs : s < 32) : call T 99 [.int .u64 s] h = some (.int .i64 (popT s), h) := by
  have e := ones64_call (h := h) (s : Int)
  rw [(pc_is hs).1] at e
  rw [call_at T99 rfl]
  unfold F99 c99
  simp (disch := first | omega | (simp only [Go.Am.len_push, Go.Am.len_set, Go.Am.len_kill] <;> omega) | fail) only [push_cast, Nat.reduceBEq, Nat.reduceAdd, Nat.reduceMul, Nat.reduceSub, Nat.reduceLT, Nat.reduceGT, Nat.reduceLeDiff, Nat.reduceEqDiff, Int.reduceToNat, Int.reduceAdd, Int.reduceMul, Int.reduceSub, Int.reduceNeg, Int.reduceLT, Int.reduceLE, Int.reduceEq, Nat.zero_add, Nat.add_zero, Nat.mul_one, eq_self, ne_eq, not_true, not_false_iff, and_true, true_and, and_self, List.getElem?_cons_zero, List.getElem?_cons_succ, List.map_cons, List.map_nil, e]
def onesF : Nat → Nat → Nat
  | 0, _ => 0
  | f + 1, s => if s = 0 then 0 else s % 2 + onesF f (s / 2)
theorem onesF_le : ∀ f s : Nat, onesF f s ≤ f
  | 0, _ => Nat.le_refl _
  | f + 1, s => by
    have := onesF_le f (s / 2)
    rw [onesF]; split <;> omega
theorem ones_checked : ((List.range 32).all fun s : Nat => decide (onesF 5 s = popT s)) = true := by kernel_rfl
theorem rones_loop : ∀ (f s n : Nat), s < 2 ^ f → f ≤ 40 → n + f ≤ 1000 → ∀ ks,
    goL T [.tmp 2] [0, 3] c104L0 (.blk 0 [3] :: ks) [(0, .int .i64 s), (3, .int .i64 n)] h = go T [.tmp 2] ks (Fr.of [(3, .int .i64 (n + onesF f s : Nat))]) h
  | 0, s, n, hs, hf, hn, ks => by
    have h0 : s = 0 := by simpa using hs
    subst h0
    rw [goL_at c104L0.eq_def, onesF, Nat.add_zero]
    simp (disch := first | omega | (simp only [Go.Am.len_push, Go.Am.len_set, Go.Am.len_kill] <;> omega) | fail) only [push_cast, Nat.reduceBEq, Nat.reduceAdd, Nat.reduceMul, Nat.reduceSub, Nat.reduceLT, Nat.reduceGT, Nat.reduceLeDiff, Nat.reduceEqDiff, Int.reduceToNat, Int.reduceAdd, Int.reduceMul, Int.reduceSub, Int.reduceNeg, Int.reduceLT, Int.reduceLE, Int.reduceEq, Nat.zero_add, Nat.add_zero, Nat.mul_one, eq_self, ne_eq, not_true, not_false_iff, and_true, true_and, and_self, List.getElem?_cons_zero, List.getElem?_cons_succ, List.map_cons, List.map_nil, wrap64, dec_lt, dec_nlt, dec_le, dec_nle, dec_eq, dec_ne, if_pos, if_neg, Int.natCast_add, Int.natCast_one, Int.natCast_zero, Int.toNat_natCast]
  | f + 1, s, n, hs, hf, hn, ks => by
    have hp : 2 ^ (f + 1) ≤ 2 ^ 40 := Nat.pow_le_pow_right (by omega) hf
    have h40 : (2 : Nat) ^ 40 = 1099511627776 := by decide
    have ih := rones_loop f (s / 2) (n + s % 2) (by rw [Nat.pow_succ] at hs; omega) (by omega) (by omega) ks
    rw [goL_at c104L0.eq_def, onesF]
    by_cases h0 : s = 0
    · rw [if_pos h0, Nat.add_zero]
      simp (disch := first | omega | (simp only [Go.Am.len_push, Go.Am.len_set, Go.Am.len_kill] <;> omega) | fail) only [push_cast, Nat.reduceBEq, Nat.reduceAdd, Nat.reduceMul, Nat.reduceSub, Nat.reduceLT, Nat.reduceGT, Nat.reduceLeDiff, Nat.reduceEqDiff, Int.reduceToNat, Int.reduceAdd, Int.reduceMul, Int.reduceSub, Int.reduceNeg, Int.reduceLT, Int.reduceLE, Int.reduceEq, Nat.zero_add, Nat.add_zero, Nat.mul_one, eq_self, ne_eq, not_true, not_false_iff, and_true, true_and, and_self, List.getElem?_cons_zero, List.getElem?_cons_succ, List.map_cons, List.map_nil, wrap64, dec_lt, dec_nlt, dec_le, dec_nle, dec_eq, dec_ne, if_pos, if_neg, Int.natCast_add, Int.natCast_one, Int.natCast_zero, Int.toNat_natCast]
    · rw [if_neg h0, ← Nat.add_assoc, ← ih]
      have hm : (s : Int).tmod 2 = ((s % 2 : Nat) : Int) := by rw [Int.tmod_eq_emod_of_nonneg (by omega)]; omega
      have hd : (s : Int).tdiv 2 = ((s / 2 : Nat) : Int) := by rw [Int.tdiv_eq_ediv_of_nonneg (by omega)]; omega
      simp (disch := first | omega | (simp only [Go.Am.len_push, Go.Am.len_set, Go.Am.len_kill] <;> omega) | fail) only [push_cast, Nat.reduceBEq, Nat.reduceAdd, Nat.reduceMul, Nat.reduceSub, Nat.reduceLT, Nat.reduceGT, Nat.reduceLeDiff, Nat.reduceEqDiff, Int.reduceToNat, Int.reduceAdd, Int.reduceMul, Int.reduceSub, Int.reduceNeg, Int.reduceLT, Int.reduceLE, Int.reduceEq, Nat.zero_add, Nat.add_zero, Nat.mul_one, eq_self, ne_eq, not_true, not_false_iff, and_true, true_and, and_self, List.getElem?_cons_zero, List.getElem?_cons_succ, List.map_cons, List.map_nil, wrap64, dec_lt, dec_nlt, dec_le, dec_nle, dec_eq, dec_ne, if_pos, if_neg, Int.natCast_add, Int.natCast_one, Int.natCast_zero, Int.toNat_natCast, hm, hd]
theorem rones_call {s : Nat} (hs : s < 32) : call T 104 [.int .i64 s] h = some (.int .i64 (popT s), h) := by
  have e := fun ks => rones_loop (h := h) 5 s 0 (by simpa using hs) (by omega) (by omega) ks
  have hc := of_decide_eq_true (List.all_eq_true.1 ones_checked s (List.mem_range.2 hs))
  rw [hc, Nat.zero_add] at e
  simp only [Int.natCast_zero] at e
  rw [call_at T104 rfl]
  unfold F104 c104
  simp (disch := first | omega | (simp only [Go.Am.len_push, Go.Am.len_set, Go.Am.len_kill] <;> omega) | fail) only [push_cast, Nat.reduceBEq, Nat.reduceAdd, Nat.reduceMul, Nat.reduceSub, Nat.reduceLT, Nat.reduceGT, Nat.reduceLeDiff, Nat.reduceEqDiff, Int.reduceToNat, Int.reduceAdd, Int.reduceMul, Int.reduceSub, Int.reduceNeg, Int.reduceLT, Int.reduceLE, Int.reduceEq, Nat.zero_add, Nat.add_zero, Nat.mul_one, eq_self, ne_eq, not_true, not_false_iff, and_true, true_and, and_self, List.getElem?_cons_zero, List.getElem?_cons_succ, List.map_cons, List.map_nil]
  rw [e]
  simp (disch := first | omega | (simp only [Go.Am.len_push, Go.Am.len_set, Go.Am.len_kill] <;> omega) | fail) only [push_cast, Nat.reduceBEq, Nat.reduceAdd, Nat.reduceMul, Nat.reduceSub, Nat.reduceLT, Nat.reduceGT, Nat.reduceLeDiff, Nat.reduceEqDiff, Int.reduceToNat, Int.reduceAdd, Int.reduceMul, Int.reduceSub, Int.reduceNeg, Int.reduceLT, Int.reduceLE, Int.reduceEq, Nat.zero_add, Nat.add_zero, Nat.mul_one, eq_self, ne_eq, not_true, not_false_iff, and_true, true_and, and_self, List.getElem?_cons_zero, List.getElem?_cons_succ, List.map_cons, List.map_nil]
end
end Go.Proofs.Ytammndhoillliaa
namespace Go.Proofs.Ytammndhoillliaa
open Go.Am
set_option linter.unusedVariables false
set_option linter.unusedSimpArgs false
set_option maxRecDepth 30000

def cst (l : List Nat) : List Int := l.map fun n : Nat => (n : Int)
theorem shl_checked : ((List.range 6).all fun m : Nat => decide (IntKind.wrap .i64 (1 * 2 ^ min m (IntKind.bits .i64)) = ((2 ^ m : Nat) : Int))) = true := by kernel_rfl
theorem shl_is {m : Nat} (hm : m ≤ 5) : IntKind.wrap .i64 (1 * 2 ^ min m (IntKind.bits .i64)) = ((2 ^ m : Nat) : Int) := of_decide_eq_true (List.all_eq_true.1 shl_checked m (List.mem_range.2 (by omega)))
theorem two_le {m : Nat} (hm : m ≤ 5) : 2 ^ m ≤ 32 := Nat.pow_le_pow_right (n := 2) (by omega) hm
section
variable {h0 : H}
theorem pmon_in {r k m M : Nat} (hr : r ≤ 5) (hk : k ≤ 6) (hm : m ≤ 5) (hM : M ≤ 32) : ∀ (n s : Nat) (zs : List Int) (sa : Option Addr) (c : Nat) (G : H), s + n = M → zs.length + n ≤ 1000 → h0 <+: G → Grown G sa c zs h0.length →
    ∃ (sa' : Option Addr) (c' : Nat) (G' : H), h0 <+: G' ∧ Grown G' sa' c' (zs ++ cst ((List.range' s n).filter fun s => popT s == k)) h0.length ∧ ∀ ks,
      goL T [.tmp 4] [0, 1, 5, 6, 14, 15] c97L0 (.blk 2 [0, 1, 5, 6] :: ks) [(0, .int .i64 r), (1, .int .i64 m), (5, .slice sa zs.length c), (6, .int .i64 k), (14, .int .i64 M), (15, .int .i64 s)] G =
        go T [.tmp 4] ks (Fr.of [(0, .int .i64 r), (1, .int .i64 m), (5, .slice sa' (zs ++ cst ((List.range' s n).filter fun s => popT s == k)).length c'), (6, .int .i64 k)]) G'
  | 0, s, zs, sa, c, G, hs, hz, hp, hg => by
    refine ⟨sa, c, G, hp, by simpa [cst] using hg, fun ks => ?_⟩
    have hnil : zs ++ cst ((List.range' s 0).filter fun s => popT s == k) = zs := by simp [cst]
    rw [hnil, goL_at c97L0.eq_def]
    simp (disch := first | omega | (simp only [Go.Am.len_push, Go.Am.len_set, Go.Am.len_kill] <;> omega) | fail) only [push_cast, Nat.reduceBEq, Nat.reduceAdd, Nat.reduceMul, Nat.reduceSub, Nat.reduceLT, Nat.reduceGT, Nat.reduceLeDiff, Nat.reduceEqDiff, Int.reduceToNat, Int.reduceAdd, Int.reduceMul, Int.reduceSub, Int.reduceNeg, Int.reduceLT, Int.reduceLE, Int.reduceEq, Nat.zero_add, Nat.add_zero, Nat.mul_one, eq_self, ne_eq, not_true, not_false_iff, and_true, true_and, and_self, List.getElem?_cons_zero, List.getElem?_cons_succ, List.map_cons, List.map_nil, wrap64, dec_lt, dec_nlt, dec_le, dec_nle, dec_eq, dec_ne, if_pos, if_neg, Int.natCast_add, Int.natCast_one, Int.natCast_zero, Int.toNat_natCast]
  | n + 1, s, zs, sa, c, G, hs, hz, hp, hg => by
    have IH := pmon_in hr hk hm hM n (s + 1)
    have e1 := ones_call (h := G) (s := s) (by omega)
    have w1 := (pc_is (s := s) (by omega)).2
    by_cases hpk : popT s = k
    · obtain ⟨s3, G3, ea, hg3, _, _, hpre⟩ := hg.one (y := (s : Int)) (by omega) (pre_len hp)
      have hlen : (zs ++ [(s : Int)]).length = zs.length + 1 := by simp
      have hl : zs ++ cst ((List.range' s (n + 1)).filter fun s => popT s == k) = (zs ++ [(s : Int)]) ++ cst ((List.range' (s + 1) n).filter fun s => popT s == k) := by
        rw [List.range'_succ, List.filter_cons, if_pos (by simpa using hpk)]; simp [cst]
      obtain ⟨s4, c4, G4, k1, k2, k3⟩ := IH (zs ++ [(s : Int)]) s3 (zs.length + 1) G3 (by omega) (by omega) (hpre h0 (Nat.le_refl _) hp) hg3
      rw [hl]
      refine ⟨s4, c4, G4, k1, k2, fun ks => ?_⟩
      have ih := k3 ks
      rw [Int.natCast_add, Int.natCast_one] at ih
      rw [goL_at c97L0.eq_def, ← ih]
      simp (disch := first | omega | (simp only [Go.Am.len_push, Go.Am.len_set, Go.Am.len_kill] <;> omega) | fail) only [push_cast, Nat.reduceBEq, Nat.reduceAdd, Nat.reduceMul, Nat.reduceSub, Nat.reduceLT, Nat.reduceGT, Nat.reduceLeDiff, Nat.reduceEqDiff, Int.reduceToNat, Int.reduceAdd, Int.reduceMul, Int.reduceSub, Int.reduceNeg, Int.reduceLT, Int.reduceLE, Int.reduceEq, Nat.zero_add, Nat.add_zero, Nat.mul_one, eq_self, ne_eq, not_true, not_false_iff, and_true, true_and, and_self, List.getElem?_cons_zero, List.getElem?_cons_succ, List.map_cons, List.map_nil, wrap64, dec_lt, dec_nlt, dec_le, dec_nle, dec_eq, dec_ne, if_pos, if_neg, Int.natCast_add, Int.natCast_one, Int.natCast_zero, Int.toNat_natCast, e1, w1, ea, hlen]
    · have hl : zs ++ cst ((List.range' s (n + 1)).filter fun s => popT s == k) = zs ++ cst ((List.range' (s + 1) n).filter fun s => popT s == k) := by
        rw [List.range'_succ, List.filter_cons, if_neg (by simpa using hpk)]
      obtain ⟨s4, c4, G4, k1, k2, k3⟩ := IH zs sa c G (by omega) (by omega) hp hg
      rw [hl]
      refine ⟨s4, c4, G4, k1, k2, fun ks => ?_⟩
      have ih := k3 ks
      rw [Int.natCast_add, Int.natCast_one] at ih
      rw [goL_at c97L0.eq_def, ← ih]
      simp (disch := first | omega | (simp only [Go.Am.len_push, Go.Am.len_set, Go.Am.len_kill] <;> omega) | fail) only [push_cast, Nat.reduceBEq, Nat.reduceAdd, Nat.reduceMul, Nat.reduceSub, Nat.reduceLT, Nat.reduceGT, Nat.reduceLeDiff, Nat.reduceEqDiff, Int.reduceToNat, Int.reduceAdd, Int.reduceMul, Int.reduceSub, Int.reduceNeg, Int.reduceLT, Int.reduceLE, Int.reduceEq, Nat.zero_add, Nat.add_zero, Nat.mul_one, eq_self, ne_eq, not_true, not_false_iff, and_true, true_and, and_self, List.getElem?_cons_zero, List.getElem?_cons_succ, List.map_cons, List.map_nil, wrap64, dec_lt, dec_nlt, dec_le, dec_nle, dec_eq, dec_ne, if_pos, if_neg, Int.natCast_add, Int.natCast_one, Int.natCast_zero, Int.toNat_natCast, e1, w1]
/-- monomials of k variables and of n more -/
def monR (m : Nat) : Nat → Nat → List Nat
  | 0, _ => []
  | n + 1, k => ((List.range (2 ^ m)).filter fun s => popT s == k) ++ monR m n (k + 1)
theorem monR_eq (m : Nat) : ∀ n k, monR m n k = (List.range' k n).flatMap fun k => (List.range (2 ^ m)).filter fun s => popT s == k
  | 0, _ => rfl
  | n + 1, k => by rw [monR, monR_eq m n, List.range'_succ, List.flatMap_cons]
theorem monR_all (r m : Nat) : monR m (r + 1) 0 = monN r m := by rw [monR_eq, monN, ← List.range_eq_range']
theorem monR_len (m : Nat) : ∀ n k, (monR m n k).length ≤ n * 2 ^ m
  | 0, _ => by simp [monR]
  | n + 1, k => by
    have := monR_len m n (k + 1)
    have h2 := List.length_filter_le (fun s => popT s == k) (List.range (2 ^ m))
    rw [List.length_range] at h2
    rw [monR, List.length_append, Nat.add_mul]
    omega
theorem pmon_out {r m : Nat} (hr : r ≤ 5) (hm : m ≤ 5) : ∀ (n k : Nat) (zs : List Int) (sa : Option Addr) (c : Nat) (G : H), k + n = r + 1 → zs.length ≤ k * 32 → h0 <+: G → Grown G sa c zs h0.length →
    ∃ (sa' : Option Addr) (c' : Nat) (G' : H), h0 <+: G' ∧ Grown G' sa' c' (zs ++ cst (monR m n k)) h0.length ∧ ∀ ks,
      goL T [.tmp 4] [0, 1, 5, 6] c97L1 (.blk 0 [5] :: ks) [(0, .int .i64 r), (1, .int .i64 m), (5, .slice sa zs.length c), (6, .int .i64 k)] G =
        go T [.tmp 4] ks (Fr.of [(5, .slice sa' (zs ++ cst (monR m n k)).length c')]) G'
  | 0, k, zs, sa, c, G, hk, hz, hp, hg => by
    have hnil : zs ++ cst (monR m 0 k) = zs := by simp [cst, monR]
    rw [hnil]
    refine ⟨sa, c, G, hp, hg, fun ks => ?_⟩
    rw [goL_at c97L1.eq_def]
    simp (disch := first | omega | (simp only [Go.Am.len_push, Go.Am.len_set, Go.Am.len_kill] <;> omega) | fail) only [push_cast, Nat.reduceBEq, Nat.reduceAdd, Nat.reduceMul, Nat.reduceSub, Nat.reduceLT, Nat.reduceGT, Nat.reduceLeDiff, Nat.reduceEqDiff, Int.reduceToNat, Int.reduceAdd, Int.reduceMul, Int.reduceSub, Int.reduceNeg, Int.reduceLT, Int.reduceLE, Int.reduceEq, Nat.zero_add, Nat.add_zero, Nat.mul_one, eq_self, ne_eq, not_true, not_false_iff, and_true, true_and, and_self, List.getElem?_cons_zero, List.getElem?_cons_succ, List.map_cons, List.map_nil, wrap64, dec_lt, dec_nlt, dec_le, dec_nle, dec_eq, dec_ne, if_pos, if_neg, Int.natCast_add, Int.natCast_one, Int.natCast_zero, Int.toNat_natCast]
  | n + 1, k, zs, sa, c, G, hk, hz, hp, hg => by
    have IH := pmon_out hr hm n (k + 1)
    obtain ⟨M, hMe⟩ : ∃ M, M = 2 ^ m := ⟨_, rfl⟩
    have hM := two_le hm
    have hsh := shl_is hm
    rw [← hMe] at hM hsh
    obtain ⟨s3, c3, G3, j1, j2, j3⟩ := pmon_in (h0 := h0) hr (k := k) (by omega) hm hM M 0 zs sa c G (by omega) (by omega) hp hg
    rw [← List.range_eq_range'] at j2 j3
    have hfl := List.length_filter_le (fun s => popT s == k) (List.range M)
    rw [List.length_range] at hfl
    obtain ⟨s4, c4, G4, k1, k2, k3⟩ := IH _ s3 c3 G3 (by omega) (by rw [List.length_append]; simp only [cst, List.length_map]; omega) j1 j2
    have hl : zs ++ cst (monR m (n + 1) k) = zs ++ cst ((List.range M).filter fun s => popT s == k) ++ cst (monR m n (k + 1)) := by simp [cst, monR, hMe]
    rw [hl]
    refine ⟨s4, c4, G4, k1, k2, fun ks => ?_⟩
    have ih := k3 ks
    rw [Int.natCast_add, Int.natCast_one] at ih
    simp only [Int.natCast_zero] at j3
    rw [goL_at c97L1.eq_def, ← ih]
    simp (disch := first | omega | (simp only [Go.Am.len_push, Go.Am.len_set, Go.Am.len_kill] <;> omega) | fail) only [push_cast, Nat.reduceBEq, Nat.reduceAdd, Nat.reduceMul, Nat.reduceSub, Nat.reduceLT, Nat.reduceGT, Nat.reduceLeDiff, Nat.reduceEqDiff, Int.reduceToNat, Int.reduceAdd, Int.reduceMul, Int.reduceSub, Int.reduceNeg, Int.reduceLT, Int.reduceLE, Int.reduceEq, Nat.zero_add, Nat.add_zero, Nat.mul_one, eq_self, ne_eq, not_true, not_false_iff, and_true, true_and, and_self, List.getElem?_cons_zero, List.getElem?_cons_succ, List.map_cons, List.map_nil, wrap64, dec_lt, dec_nlt, dec_le, dec_nle, dec_eq, dec_ne, if_pos, if_neg, Int.natCast_add, Int.natCast_one, Int.natCast_zero, Int.toNat_natCast, hsh]
    rw [j3]
    simp (disch := first | omega | (simp only [Go.Am.len_push, Go.Am.len_set, Go.Am.len_kill] <;> omega) | fail) only [push_cast, Nat.reduceBEq, Nat.reduceAdd, Nat.reduceMul, Nat.reduceSub, Nat.reduceLT, Nat.reduceGT, Nat.reduceLeDiff, Nat.reduceEqDiff, Int.reduceToNat, Int.reduceAdd, Int.reduceMul, Int.reduceSub, Int.reduceNeg, Int.reduceLT, Int.reduceLE, Int.reduceEq, Nat.zero_add, Nat.add_zero, Nat.mul_one, eq_self, ne_eq, not_true, not_false_iff, and_true, true_and, and_self, List.getElem?_cons_zero, List.getElem?_cons_succ, List.map_cons, List.map_nil, wrap64, dec_lt, dec_nlt, dec_le, dec_nle, dec_eq, dec_ne, if_pos, if_neg, Int.natCast_add, Int.natCast_one, Int.natCast_zero, Int.toNat_natCast]
end
end Go.Proofs.Ytammndhoillliaa
namespace Go.Proofs.Ytammndhoillliaa
open Go.Am
set_option linter.unusedVariables false
set_option linter.unusedSimpArgs false
set_option maxRecDepth 30000

section
variable {h : H}
theorem pmon_call {r m : Nat} (hr : r ≤ 5) (hm : m ≤ 5) : ∃ (sa : Option Addr) (c : Nat) (h' : H), h <+: h' ∧ Grown h' sa c (cst (monN r m)) h.length ∧ call T 97 [.int .i64 r, .int .i64 m] h = some (.slice sa (monN r m).length c, h') := by
  obtain ⟨s1, c1, G, k1, k2, k3⟩ := pmon_out (h0 := h) hr hm (r + 1) 0 [] none 0 h (by omega) (by simp) (List.prefix_refl _) .nil
  rw [monR_all, List.nil_append] at k2 k3
  simp only [Int.natCast_zero, List.length_nil] at k3
  have hl : (cst (monN r m)).length = (monN r m).length := by simp [cst]
  rw [hl] at k3
  refine ⟨s1, c1, G, k1, k2, ?_⟩
  rw [call_at T97 rfl]
  unfold F97 c97
  simp (disch := first | omega | (simp only [Go.Am.len_push, Go.Am.len_set, Go.Am.len_kill] <;> omega) | fail) only [push_cast, Nat.reduceBEq, Nat.reduceAdd, Nat.reduceMul, Nat.reduceSub, Nat.reduceLT, Nat.reduceGT, Nat.reduceLeDiff, Nat.reduceEqDiff, Int.reduceToNat, Int.reduceAdd, Int.reduceMul, Int.reduceSub, Int.reduceNeg, Int.reduceLT, Int.reduceLE, Int.reduceEq, Nat.zero_add, Nat.add_zero, Nat.mul_one, eq_self, ne_eq, not_true, not_false_iff, and_true, true_and, and_self, List.getElem?_cons_zero, List.getElem?_cons_succ, List.map_cons, List.map_nil]
  rw [k3]
  simp (disch := first | omega | (simp only [Go.Am.len_push, Go.Am.len_set, Go.Am.len_kill] <;> omega) | fail) only [push_cast, Nat.reduceBEq, Nat.reduceAdd, Nat.reduceMul, Nat.reduceSub, Nat.reduceLT, Nat.reduceGT, Nat.reduceLeDiff, Nat.reduceEqDiff, Int.reduceToNat, Int.reduceAdd, Int.reduceMul, Int.reduceSub, Int.reduceNeg, Int.reduceLT, Int.reduceLE, Int.reduceEq, Nat.zero_add, Nat.add_zero, Nat.mul_one, eq_self, ne_eq, not_true, not_false_iff, and_true, true_and, and_self, List.getElem?_cons_zero, List.getElem?_cons_succ, List.map_cons, List.map_nil]
end
section
variable {h0 : H}
theorem rmon_in {r k m M : Nat} (hr : r ≤ 5) (hk : k ≤ 6) (hm : m ≤ 5) (hM : M ≤ 32) (hsh : IntKind.wrap .i64 (1 * 2 ^ min m (IntKind.bits .i64)) = (M : Int)) : ∀ (n s : Nat) (zs : List Int) (sa : Option Addr) (c : Nat) (G : H), s + n = M → zs.length + n ≤ 1000 → h0 <+: G → Grown G sa c zs h0.length →
    ∃ (sa' : Option Addr) (c' : Nat) (G' : H), h0 <+: G' ∧ Grown G' sa' c' (zs ++ cst ((List.range' s n).filter fun s => popT s == k)) h0.length ∧ ∀ ks,
      goL T [.tmp 4] [0, 1, 5, 6, 7] c18L0 (.blk 2 [0, 1, 5, 6] :: ks) [(0, .int .i64 r), (1, .int .i64 m), (5, .slice sa zs.length c), (6, .int .i64 k), (7, .int .i64 s)] G =
        go T [.tmp 4] ks (Fr.of [(0, .int .i64 r), (1, .int .i64 m), (5, .slice sa' (zs ++ cst ((List.range' s n).filter fun s => popT s == k)).length c'), (6, .int .i64 k)]) G'
  | 0, s, zs, sa, c, G, hs, hz, hp, hg => by
    refine ⟨sa, c, G, hp, by simpa [cst] using hg, fun ks => ?_⟩
    have hnil : zs ++ cst ((List.range' s 0).filter fun s => popT s == k) = zs := by simp [cst]
    rw [hnil, goL_at c18L0.eq_def]
    simp (disch := first | omega | (simp only [Go.Am.len_push, Go.Am.len_set, Go.Am.len_kill] <;> omega) | fail) only [push_cast, Nat.reduceBEq, Nat.reduceAdd, Nat.reduceMul, Nat.reduceSub, Nat.reduceLT, Nat.reduceGT, Nat.reduceLeDiff, Nat.reduceEqDiff, Int.reduceToNat, Int.reduceAdd, Int.reduceMul, Int.reduceSub, Int.reduceNeg, Int.reduceLT, Int.reduceLE, Int.reduceEq, Nat.zero_add, Nat.add_zero, Nat.mul_one, eq_self, ne_eq, not_true, not_false_iff, and_true, true_and, and_self, List.getElem?_cons_zero, List.getElem?_cons_succ, List.map_cons, List.map_nil, wrap64, dec_lt, dec_nlt, dec_le, dec_nle, dec_eq, dec_ne, if_pos, if_neg, Int.natCast_add, Int.natCast_one, Int.natCast_zero, Int.toNat_natCast, hsh]
  | n + 1, s, zs, sa, c, G, hs, hz, hp, hg => by
    have IH := rmon_in hr hk hm hM hsh n (s + 1)
    have e1 := rones_call (h := G) (s := s) (by omega)
    by_cases hpk : popT s = k
    · obtain ⟨s3, G3, ea, hg3, _, _, hpre⟩ := hg.one (y := (s : Int)) (by omega) (pre_len hp)
      have hlen : (zs ++ [(s : Int)]).length = zs.length + 1 := by simp
      have hl : zs ++ cst ((List.range' s (n + 1)).filter fun s => popT s == k) = (zs ++ [(s : Int)]) ++ cst ((List.range' (s + 1) n).filter fun s => popT s == k) := by
        rw [List.range'_succ, List.filter_cons, if_pos (by simpa using hpk)]; simp [cst]
      obtain ⟨s4, c4, G4, k1, k2, k3⟩ := IH (zs ++ [(s : Int)]) s3 (zs.length + 1) G3 (by omega) (by omega) (hpre h0 (Nat.le_refl _) hp) hg3
      rw [hl]
      refine ⟨s4, c4, G4, k1, k2, fun ks => ?_⟩
      have ih := k3 ks
      rw [Int.natCast_add, Int.natCast_one] at ih
      rw [goL_at c18L0.eq_def, ← ih]
      simp (disch := first | omega | (simp only [Go.Am.len_push, Go.Am.len_set, Go.Am.len_kill] <;> omega) | fail) only [push_cast, Nat.reduceBEq, Nat.reduceAdd, Nat.reduceMul, Nat.reduceSub, Nat.reduceLT, Nat.reduceGT, Nat.reduceLeDiff, Nat.reduceEqDiff, Int.reduceToNat, Int.reduceAdd, Int.reduceMul, Int.reduceSub, Int.reduceNeg, Int.reduceLT, Int.reduceLE, Int.reduceEq, Nat.zero_add, Nat.add_zero, Nat.mul_one, eq_self, ne_eq, not_true, not_false_iff, and_true, true_and, and_self, List.getElem?_cons_zero, List.getElem?_cons_succ, List.map_cons, List.map_nil, wrap64, dec_lt, dec_nlt, dec_le, dec_nle, dec_eq, dec_ne, if_pos, if_neg, Int.natCast_add, Int.natCast_one, Int.natCast_zero, Int.toNat_natCast, e1, hsh, ea, hlen]
    · have hl : zs ++ cst ((List.range' s (n + 1)).filter fun s => popT s == k) = zs ++ cst ((List.range' (s + 1) n).filter fun s => popT s == k) := by
        rw [List.range'_succ, List.filter_cons, if_neg (by simpa using hpk)]
      obtain ⟨s4, c4, G4, k1, k2, k3⟩ := IH zs sa c G (by omega) (by omega) hp hg
      rw [hl]
      refine ⟨s4, c4, G4, k1, k2, fun ks => ?_⟩
      have ih := k3 ks
      rw [Int.natCast_add, Int.natCast_one] at ih
      rw [goL_at c18L0.eq_def, ← ih]
      simp (disch := first | omega | (simp only [Go.Am.len_push, Go.Am.len_set, Go.Am.len_kill] <;> omega) | fail) only [push_cast, Nat.reduceBEq, Nat.reduceAdd, Nat.reduceMul, Nat.reduceSub, Nat.reduceLT, Nat.reduceGT, Nat.reduceLeDiff, Nat.reduceEqDiff, Int.reduceToNat, Int.reduceAdd, Int.reduceMul, Int.reduceSub, Int.reduceNeg, Int.reduceLT, Int.reduceLE, Int.reduceEq, Nat.zero_add, Nat.add_zero, Nat.mul_one, eq_self, ne_eq, not_true, not_false_iff, and_true, true_and, and_self, List.getElem?_cons_zero, List.getElem?_cons_succ, List.map_cons, List.map_nil, wrap64, dec_lt, dec_nlt, dec_le, dec_nle, dec_eq, dec_ne, if_pos, if_neg, Int.natCast_add, Int.natCast_one, Int.natCast_zero, Int.toNat_natCast, e1, hsh]
theorem rmon_out {r m : Nat} (hr : r ≤ 5) (hm : m ≤ 5) : ∀ (n k : Nat) (zs : List Int) (sa : Option Addr) (c : Nat) (G : H), k + n = r + 1 → zs.length ≤ k * 32 → h0 <+: G → Grown G sa c zs h0.length →
    ∃ (sa' : Option Addr) (c' : Nat) (G' : H), h0 <+: G' ∧ Grown G' sa' c' (zs ++ cst (monR m n k)) h0.length ∧ ∀ ks,
      goL T [.tmp 4] [0, 1, 5, 6] c18L1 (.blk 0 [5] :: ks) [(0, .int .i64 r), (1, .int .i64 m), (5, .slice sa zs.length c), (6, .int .i64 k)] G =
        go T [.tmp 4] ks (Fr.of [(5, .slice sa' (zs ++ cst (monR m n k)).length c')]) G'
  | 0, k, zs, sa, c, G, hk, hz, hp, hg => by
    have hnil : zs ++ cst (monR m 0 k) = zs := by simp [cst, monR]
    rw [hnil]
    refine ⟨sa, c, G, hp, hg, fun ks => ?_⟩
    rw [goL_at c18L1.eq_def]
    simp (disch := first | omega | (simp only [Go.Am.len_push, Go.Am.len_set, Go.Am.len_kill] <;> omega) | fail) only [push_cast, Nat.reduceBEq, Nat.reduceAdd, Nat.reduceMul, Nat.reduceSub, Nat.reduceLT, Nat.reduceGT, Nat.reduceLeDiff, Nat.reduceEqDiff, Int.reduceToNat, Int.reduceAdd, Int.reduceMul, Int.reduceSub, Int.reduceNeg, Int.reduceLT, Int.reduceLE, Int.reduceEq, Nat.zero_add, Nat.add_zero, Nat.mul_one, eq_self, ne_eq, not_true, not_false_iff, and_true, true_and, and_self, List.getElem?_cons_zero, List.getElem?_cons_succ, List.map_cons, List.map_nil, wrap64, dec_lt, dec_nlt, dec_le, dec_nle, dec_eq, dec_ne, if_pos, if_neg, Int.natCast_add, Int.natCast_one, Int.natCast_zero, Int.toNat_natCast]
  | n + 1, k, zs, sa, c, G, hk, hz, hp, hg => by
    have IH := rmon_out hr hm n (k + 1)
    obtain ⟨M, hMe⟩ : ∃ M, M = 2 ^ m := ⟨_, rfl⟩
    have hM := two_le hm
    have hsh := shl_is hm
    rw [← hMe] at hM hsh
    obtain ⟨s3, c3, G3, j1, j2, j3⟩ := rmon_in (h0 := h0) hr (k := k) (by omega) hm hM hsh M 0 zs sa c G (by omega) (by omega) hp hg
    rw [← List.range_eq_range'] at j2 j3
    have hfl := List.length_filter_le (fun s => popT s == k) (List.range M)
    rw [List.length_range] at hfl
    obtain ⟨s4, c4, G4, k1, k2, k3⟩ := IH _ s3 c3 G3 (by omega) (by rw [List.length_append]; simp only [cst, List.length_map]; omega) j1 j2
    have hl : zs ++ cst (monR m (n + 1) k) = zs ++ cst ((List.range M).filter fun s => popT s == k) ++ cst (monR m n (k + 1)) := by simp [cst, monR, hMe]
    rw [hl]
    refine ⟨s4, c4, G4, k1, k2, fun ks => ?_⟩
    have ih := k3 ks
    rw [Int.natCast_add, Int.natCast_one] at ih
    simp only [Int.natCast_zero] at j3
    rw [goL_at c18L1.eq_def, ← ih]
    simp (disch := first | omega | (simp only [Go.Am.len_push, Go.Am.len_set, Go.Am.len_kill] <;> omega) | fail) only [push_cast, Nat.reduceBEq, Nat.reduceAdd, Nat.reduceMul, Nat.reduceSub, Nat.reduceLT, Nat.reduceGT, Nat.reduceLeDiff, Nat.reduceEqDiff, Int.reduceToNat, Int.reduceAdd, Int.reduceMul, Int.reduceSub, Int.reduceNeg, Int.reduceLT, Int.reduceLE, Int.reduceEq, Nat.zero_add, Nat.add_zero, Nat.mul_one, eq_self, ne_eq, not_true, not_false_iff, and_true, true_and, and_self, List.getElem?_cons_zero, List.getElem?_cons_succ, List.map_cons, List.map_nil, wrap64, dec_lt, dec_nlt, dec_le, dec_nle, dec_eq, dec_ne, if_pos, if_neg, Int.natCast_add, Int.natCast_one, Int.natCast_zero, Int.toNat_natCast, hsh]
    rw [j3]
    simp (disch := first | omega | (simp only [Go.Am.len_push, Go.Am.len_set, Go.Am.len_kill] <;> omega) | fail) only [push_cast, Nat.reduceBEq, Nat.reduceAdd, Nat.reduceMul, Nat.reduceSub, Nat.reduceLT, Nat.reduceGT, Nat.reduceLeDiff, Nat.reduceEqDiff, Int.reduceToNat, Int.reduceAdd, Int.reduceMul, Int.reduceSub, Int.reduceNeg, Int.reduceLT, Int.reduceLE, Int.reduceEq, Nat.zero_add, Nat.add_zero, Nat.mul_one, eq_self, ne_eq, not_true, not_false_iff, and_true, true_and, and_self, List.getElem?_cons_zero, List.getElem?_cons_succ, List.map_cons, List.map_nil, wrap64, dec_lt, dec_nlt, dec_le, dec_nle, dec_eq, dec_ne, if_pos, if_neg, Int.natCast_add, Int.natCast_one, Int.natCast_zero, Int.toNat_natCast]
end
section
variable {h : H}
theorem rmon_call {r m : Nat} (hr : r ≤ 5) (hm : m ≤ 5) : ∃ (sa : Option Addr) (c : Nat) (h' : H), h <+: h' ∧ Grown h' sa c (cst (monN r m)) h.length ∧ call T 18 [.int .i64 r, .int .i64 m] h = some (.slice sa (monN r m).length c, h') := by
  obtain ⟨s1, c1, G, k1, k2, k3⟩ := rmon_out (h0 := h) hr hm (r + 1) 0 [] none 0 h (by omega) (by simp) (List.prefix_refl _) .nil
  rw [monR_all, List.nil_append] at k2 k3
  simp only [Int.natCast_zero, List.length_nil] at k3
  have hl : (cst (monN r m)).length = (monN r m).length := by simp [cst]
  rw [hl] at k3
  refine ⟨s1, c1, G, k1, k2, ?_⟩
  rw [call_at T18 rfl]
  unfold F18 c18
  simp (disch := first | omega | (simp only [Go.Am.len_push, Go.Am.len_set, Go.Am.len_kill] <;> omega) | fail) only [push_cast, Nat.reduceBEq, Nat.reduceAdd, Nat.reduceMul, Nat.reduceSub, Nat.reduceLT, Nat.reduceGT, Nat.reduceLeDiff, Nat.reduceEqDiff, Int.reduceToNat, Int.reduceAdd, Int.reduceMul, Int.reduceSub, Int.reduceNeg, Int.reduceLT, Int.reduceLE, Int.reduceEq, Nat.zero_add, Nat.add_zero, Nat.mul_one, eq_self, ne_eq, not_true, not_false_iff, and_true, true_and, and_self, List.getElem?_cons_zero, List.getElem?_cons_succ, List.map_cons, List.map_nil]
  rw [k3]
  simp (disch := first | omega | (simp only [Go.Am.len_push, Go.Am.len_set, Go.Am.len_kill] <;> omega) | fail) only [push_cast, Nat.reduceBEq, Nat.reduceAdd, Nat.reduceMul, Nat.reduceSub, Nat.reduceLT, Nat.reduceGT, Nat.reduceLeDiff, Nat.reduceEqDiff, Int.reduceToNat, Int.reduceAdd, Int.reduceMul, Int.reduceSub, Int.reduceNeg, Int.reduceLT, Int.reduceLE, Int.reduceEq, Nat.zero_add, Nat.add_zero, Nat.mul_one, eq_self, ne_eq, not_true, not_false_iff, and_true, true_and, and_self, List.getElem?_cons_zero, List.getElem?_cons_succ, List.map_cons, List.map_nil]
/-! ### which codes there are -/
def mulE0 (r m : Int) : Int := if m < 1 ∨ 5 < m then 4 else if r < 0 ∨ m < r then 6 else 0
theorem mulE0_ok {r m : Int} (h : mulE0 r m = 0) : 1 ≤ m ∧ m ≤ 5 ∧ 0 ≤ r ∧ r ≤ m := by
  unfold mulE0 at h
  split at h
  · cases h
  · split at h
    · cases h
    · omega
theorem pchk0_call (r m : Int) : call T 93 [.int .i64 r, .int .i64 m] h = some (.int .i64 (mulE0 r m), h) := by
  unfold mulE0
  rw [call_at T93 rfl]
  unfold F93 c93
  by_cases h1 : m < 1
  · rw [if_pos (.inl h1)]
    simp (disch := first | omega | (simp only [Go.Am.len_push, Go.Am.len_set, Go.Am.len_kill] <;> omega) | fail) only [push_cast, Nat.reduceBEq, Nat.reduceAdd, Nat.reduceMul, Nat.reduceSub, Nat.reduceLT, Nat.reduceGT, Nat.reduceLeDiff, Nat.reduceEqDiff, Int.reduceToNat, Int.reduceAdd, Int.reduceMul, Int.reduceSub, Int.reduceNeg, Int.reduceLT, Int.reduceLE, Int.reduceEq, Nat.zero_add, Nat.add_zero, Nat.mul_one, eq_self, ne_eq, not_true, not_false_iff, and_true, true_and, and_self, List.getElem?_cons_zero, List.getElem?_cons_succ, List.map_cons, List.map_nil, wrap64, dec_lt, dec_nlt, dec_le, dec_nle, dec_eq, dec_ne, if_pos, if_neg, Int.natCast_add, Int.natCast_one, Int.natCast_zero, Int.toNat_natCast]
  · by_cases h2 : 5 < m
    · rw [if_pos (.inr h2)]
      simp (disch := first | omega | (simp only [Go.Am.len_push, Go.Am.len_set, Go.Am.len_kill] <;> omega) | fail) only [push_cast, Nat.reduceBEq, Nat.reduceAdd, Nat.reduceMul, Nat.reduceSub, Nat.reduceLT, Nat.reduceGT, Nat.reduceLeDiff, Nat.reduceEqDiff, Int.reduceToNat, Int.reduceAdd, Int.reduceMul, Int.reduceSub, Int.reduceNeg, Int.reduceLT, Int.reduceLE, Int.reduceEq, Nat.zero_add, Nat.add_zero, Nat.mul_one, eq_self, ne_eq, not_true, not_false_iff, and_true, true_and, and_self, List.getElem?_cons_zero, List.getElem?_cons_succ, List.map_cons, List.map_nil, wrap64, dec_lt, dec_nlt, dec_le, dec_nle, dec_eq, dec_ne, if_pos, if_neg, Int.natCast_add, Int.natCast_one, Int.natCast_zero, Int.toNat_natCast]
    · rw [if_neg (by omega)]
      by_cases h3 : r < 0
      · rw [if_pos (.inl h3)]
        simp (disch := first | omega | (simp only [Go.Am.len_push, Go.Am.len_set, Go.Am.len_kill] <;> omega) | fail) only [push_cast, Nat.reduceBEq, Nat.reduceAdd, Nat.reduceMul, Nat.reduceSub, Nat.reduceLT, Nat.reduceGT, Nat.reduceLeDiff, Nat.reduceEqDiff, Int.reduceToNat, Int.reduceAdd, Int.reduceMul, Int.reduceSub, Int.reduceNeg, Int.reduceLT, Int.reduceLE, Int.reduceEq, Nat.zero_add, Nat.add_zero, Nat.mul_one, eq_self, ne_eq, not_true, not_false_iff, and_true, true_and, and_self, List.getElem?_cons_zero, List.getElem?_cons_succ, List.map_cons, List.map_nil, wrap64, dec_lt, dec_nlt, dec_le, dec_nle, dec_eq, dec_ne, if_pos, if_neg, Int.natCast_add, Int.natCast_one, Int.natCast_zero, Int.toNat_natCast]
      · by_cases h4 : m < r
        · rw [if_pos (.inr h4)]
          simp (disch := first | omega | (simp only [Go.Am.len_push, Go.Am.len_set, Go.Am.len_kill] <;> omega) | fail) only [push_cast, Nat.reduceBEq, Nat.reduceAdd, Nat.reduceMul, Nat.reduceSub, Nat.reduceLT, Nat.reduceGT, Nat.reduceLeDiff, Nat.reduceEqDiff, Int.reduceToNat, Int.reduceAdd, Int.reduceMul, Int.reduceSub, Int.reduceNeg, Int.reduceLT, Int.reduceLE, Int.reduceEq, Nat.zero_add, Nat.add_zero, Nat.mul_one, eq_self, ne_eq, not_true, not_false_iff, and_true, true_and, and_self, List.getElem?_cons_zero, List.getElem?_cons_succ, List.map_cons, List.map_nil, wrap64, dec_lt, dec_nlt, dec_le, dec_nle, dec_eq, dec_ne, if_pos, if_neg, Int.natCast_add, Int.natCast_one, Int.natCast_zero, Int.toNat_natCast]
        · rw [if_neg (by omega)]
          simp (disch := first | omega | (simp only [Go.Am.len_push, Go.Am.len_set, Go.Am.len_kill] <;> omega) | fail) only [push_cast, Nat.reduceBEq, Nat.reduceAdd, Nat.reduceMul, Nat.reduceSub, Nat.reduceLT, Nat.reduceGT, Nat.reduceLeDiff, Nat.reduceEqDiff, Int.reduceToNat, Int.reduceAdd, Int.reduceMul, Int.reduceSub, Int.reduceNeg, Int.reduceLT, Int.reduceLE, Int.reduceEq, Nat.zero_add, Nat.add_zero, Nat.mul_one, eq_self, ne_eq, not_true, not_false_iff, and_true, true_and, and_self, List.getElem?_cons_zero, List.getElem?_cons_succ, List.map_cons, List.map_nil, wrap64, dec_lt, dec_nlt, dec_le, dec_nle, dec_eq, dec_ne, if_pos, if_neg, Int.natCast_add, Int.natCast_one, Int.natCast_zero, Int.toNat_natCast]
theorem rchk0_call (r m : Int) : call T 15 [.int .i64 r, .int .i64 m] h = some (.int .i64 (mulE0 r m), h) := by
  unfold mulE0
  rw [call_at T15 rfl]
  unfold F15 c15
  by_cases h1 : m < 1
  · rw [if_pos (.inl h1)]
    simp (disch := first | omega | (simp only [Go.Am.len_push, Go.Am.len_set, Go.Am.len_kill] <;> omega) | fail) only [push_cast, Nat.reduceBEq, Nat.reduceAdd, Nat.reduceMul, Nat.reduceSub, Nat.reduceLT, Nat.reduceGT, Nat.reduceLeDiff, Nat.reduceEqDiff, Int.reduceToNat, Int.reduceAdd, Int.reduceMul, Int.reduceSub, Int.reduceNeg, Int.reduceLT, Int.reduceLE, Int.reduceEq, Nat.zero_add, Nat.add_zero, Nat.mul_one, eq_self, ne_eq, not_true, not_false_iff, and_true, true_and, and_self, List.getElem?_cons_zero, List.getElem?_cons_succ, List.map_cons, List.map_nil, wrap64, dec_lt, dec_nlt, dec_le, dec_nle, dec_eq, dec_ne, if_pos, if_neg, Int.natCast_add, Int.natCast_one, Int.natCast_zero, Int.toNat_natCast]
  · by_cases h2 : 5 < m
    · rw [if_pos (.inr h2)]
      simp (disch := first | omega | (simp only [Go.Am.len_push, Go.Am.len_set, Go.Am.len_kill] <;> omega) | fail) only [push_cast, Nat.reduceBEq, Nat.reduceAdd, Nat.reduceMul, Nat.reduceSub, Nat.reduceLT, Nat.reduceGT, Nat.reduceLeDiff, Nat.reduceEqDiff, Int.reduceToNat, Int.reduceAdd, Int.reduceMul, Int.reduceSub, Int.reduceNeg, Int.reduceLT, Int.reduceLE, Int.reduceEq, Nat.zero_add, Nat.add_zero, Nat.mul_one, eq_self, ne_eq, not_true, not_false_iff, and_true, true_and, and_self, List.getElem?_cons_zero, List.getElem?_cons_succ, List.map_cons, List.map_nil, wrap64, dec_lt, dec_nlt, dec_le, dec_nle, dec_eq, dec_ne, if_pos, if_neg, Int.natCast_add, Int.natCast_one, Int.natCast_zero, Int.toNat_natCast]
    · rw [if_neg (by omega)]
      by_cases h3 : r < 0
      · rw [if_pos (.inl h3)]
        simp (disch := first | omega | (simp only [Go.Am.len_push, Go.Am.len_set, Go.Am.len_kill] <;> omega) | fail) only [push_cast, Nat.reduceBEq, Nat.reduceAdd, Nat.reduceMul, Nat.reduceSub, Nat.reduceLT, Nat.reduceGT, Nat.reduceLeDiff, Nat.reduceEqDiff, Int.reduceToNat, Int.reduceAdd, Int.reduceMul, Int.reduceSub, Int.reduceNeg, Int.reduceLT, Int.reduceLE, Int.reduceEq, Nat.zero_add, Nat.add_zero, Nat.mul_one, eq_self, ne_eq, not_true, not_false_iff, and_true, true_and, and_self, List.getElem?_cons_zero, List.getElem?_cons_succ, List.map_cons, List.map_nil, wrap64, dec_lt, dec_nlt, dec_le, dec_nle, dec_eq, dec_ne, if_pos, if_neg, Int.natCast_add, Int.natCast_one, Int.natCast_zero, Int.toNat_natCast]
      · by_cases h4 : m < r
        · rw [if_pos (.inr h4)]
          simp (disch := first | omega | (simp only [Go.Am.len_push, Go.Am.len_set, Go.Am.len_kill] <;> omega) | fail) only [push_cast, Nat.reduceBEq, Nat.reduceAdd, Nat.reduceMul, Nat.reduceSub, Nat.reduceLT, Nat.reduceGT, Nat.reduceLeDiff, Nat.reduceEqDiff, Int.reduceToNat, Int.reduceAdd, Int.reduceMul, Int.reduceSub, Int.reduceNeg, Int.reduceLT, Int.reduceLE, Int.reduceEq, Nat.zero_add, Nat.add_zero, Nat.mul_one, eq_self, ne_eq, not_true, not_false_iff, and_true, true_and, and_self, List.getElem?_cons_zero, List.getElem?_cons_succ, List.map_cons, List.map_nil, wrap64, dec_lt, dec_nlt, dec_le, dec_nle, dec_eq, dec_ne, if_pos, if_neg, Int.natCast_add, Int.natCast_one, Int.natCast_zero, Int.toNat_natCast]
        · rw [if_neg (by omega)]
          simp (disch := first | omega | (simp only [Go.Am.len_push, Go.Am.len_set, Go.Am.len_kill] <;> omega) | fail) only [push_cast, Nat.reduceBEq, Nat.reduceAdd, Nat.reduceMul, Nat.reduceSub, Nat.reduceLT, Nat.reduceGT, Nat.reduceLeDiff, Nat.reduceEqDiff, Int.reduceToNat, Int.reduceAdd, Int.reduceMul, Int.reduceSub, Int.reduceNeg, Int.reduceLT, Int.reduceLE, Int.reduceEq, Nat.zero_add, Nat.add_zero, Nat.mul_one, eq_self, ne_eq, not_true, not_false_iff, and_true, true_and, and_self, List.getElem?_cons_zero, List.getElem?_cons_succ, List.map_cons, List.map_nil, wrap64, dec_lt, dec_nlt, dec_le, dec_nle, dec_eq, dec_ne, if_pos, if_neg, Int.natCast_add, Int.natCast_one, Int.natCast_zero, Int.toNat_natCast]
end
end Go.Proofs.Ytammndhoillliaa
