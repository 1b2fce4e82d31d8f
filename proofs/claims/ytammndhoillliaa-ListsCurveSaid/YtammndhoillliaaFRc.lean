/-
  What syndromeref's F.Mul, Neg, Add and Sub compute, as the table's numbers. Conditions: a field of the table.
  What syndromeref's F.Add and F.Sub compute. Conditions: a field of the table.
-/
import Derived.Test.YtammndhoillliaaFM0
import Derived.Test.YtammndhoillliaaFM1
import Derived.Test.YtammndhoillliaaFM2
import Derived.Test.YtammndhoillliaaFM3
import Derived.Test.YtammndhoillliaaFM4
import Derived.Test.YtammndhoillliaaFPc
namespace Go.Proofs.Ytammndhoillliaa
open Go.Am
set_option linter.unusedVariables false
set_option linter.unusedSimpArgs false
set_option maxRecDepth 30000

theorem rows_of {n lo c : Nat} {p g : Int} {m : Nat} {mod : List Int} (hn : fldN n = some (p, m, g, mod)) (h : mulRows n lo c = true) {a b : Nat} (ha : lo ≤ a) (ha2 : a < lo + c) (hb : b < n) : mulR n p m mod a b = fmul n a b := by
  unfold mulRows at h
  rw [hn] at h
  simp only [List.all_eq_true, List.mem_range, decide_eq_true_eq] at h
  have := h (a - lo) (by omega) b hb
  rw [show a - lo + lo = a by omega] at this
  exact this
theorem check_of {n : Nat} {p g : Int} {m : Nat} {mod : List Int} (hn : fldN n = some (p, m, g, mod)) (h : mulCheck n = true) {a b : Nat} (ha : a < n) (hb : b < n) : mulR n p m mod a b = fmul n a b := by
  unfold mulCheck at h
  rw [hn] at h
  simp only [List.all_eq_true, List.mem_range, decide_eq_true_eq] at h
  exact h a ha b hb
theorem mulR_nat {n : Nat} {p g : Int} {m : Nat} {mod : List Int} (hn : fldN n = some (p, m, g, mod)) {a b : Nat} (ha : a < n) (hb : b < n) : mulR n p m mod a b = fmul n a b := by
  obtain ⟨h2, h64⟩ := fldN_le hn
  by_cases c1 : n < 31
  · have := List.all_eq_true.1 mul_checked0 (n - 2) (List.mem_range.2 (by omega))
    rw [show n - 2 + 2 = n by omega] at this
    exact check_of hn this ha hb
  by_cases c2 : n < 48
  · have := List.all_eq_true.1 mul_checked1 (n - 31) (List.mem_range.2 (by omega))
    rw [show n - 31 + 31 = n by omega] at this
    exact check_of hn this ha hb
  by_cases c3 : n < 63
  · have := List.all_eq_true.1 mul_checked2 (n - 48) (List.mem_range.2 (by omega))
    rw [show n - 48 + 48 = n by omega] at this
    exact check_of hn this ha hb
  by_cases c4 : n = 63
  · subst c4; cases hn
  obtain rfl : n = 64 := by omega
  by_cases d0 : a < 8
  · exact rows_of hn mul_row0 (by omega) (by omega) hb
  by_cases d1 : a < 16
  · exact rows_of hn mul_row1 (by omega) (by omega) hb
  by_cases d2 : a < 24
  · exact rows_of hn mul_row2 (by omega) (by omega) hb
  by_cases d3 : a < 32
  · exact rows_of hn mul_row3 (by omega) (by omega) hb
  by_cases d4 : a < 40
  · exact rows_of hn mul_row4 (by omega) (by omega) hb
  by_cases d5 : a < 48
  · exact rows_of hn mul_row5 (by omega) (by omega) hb
  by_cases d6 : a < 56
  · exact rows_of hn mul_row6 (by omega) (by omega) hb
  · exact rows_of hn mul_row7 (by omega) (by omega) hb
theorem mulR_eq {q p g : Int} {m : Nat} {mod : List Int} (hn : fldN q.toNat = some (p, m, g, mod)) (a b : Int) : mulR q p m mod a b = fmul q a b := by
  obtain ⟨h2, h64⟩ := fldN_le hn
  by_cases ha : 0 ≤ a ∧ a < q
  rotate_left
  · rw [mulR, if_neg ha, fmul, fok_f ha]; rfl
  by_cases hb : 0 ≤ b ∧ b < q
  rotate_left
  · rw [mulR, if_pos ha, if_neg hb, fmul, fok_t ha, fok_f hb]; rfl
  have := mulR_nat hn (a := a.toNat) (b := b.toNat) (by omega) (by omega)
  rw [show ((q.toNat : Nat) : Int) = q by omega, show ((a.toNat : Nat) : Int) = a by omega, show ((b.toNat : Nat) : Int) = b by omega] at this
  exact this

/-- a field of the document's lies there -/
structure RUse (h : H) (q p : Int) (m : Nat) (g : Int) (mod : List Int) (om cm : Nat) : Prop where
  hn : fldN q.toNat = some (p, m, g, mod)
  rm : RdI h (some ⟨om, 0, none⟩) cm mod
theorem RUse.mono {h h' : H} {q p : Int} {m : Nat} {g : Int} {mod : List Int} {om cm : Nat} (u : RUse h q p m g mod om cm) (hp : h <+: h') : RUse h' q p m g mod om cm := ⟨u.hn, u.rm.mono hp⟩
theorem RUse.ok {h : H} {q p : Int} {m : Nat} {g : Int} {mod : List Int} {om cm : Nat} (u : RUse h q p m g mod om cm) : FOk q p m mod := by
  obtain ⟨h2, _⟩ := fldN_le u.hn
  have := (fld_ok u.hn).1
  rw [show ((q.toNat : Nat) : Int) = q by omega] at this
  exact this
abbrev rv (q p : Int) (m : Nat) (g : Int) (mod : List Int) (om cm : Nat) : Value := fv q p m g (.slice (some ⟨om, 0, none⟩) mod.length cm)
abbrev rvR (q p : Int) (m : Nat) (g : Int) (mod : List Int) (om cm : Nat) : Ob := fvR q p m g (.slice (some ⟨om, 0, none⟩) mod.length cm)

section
variable {h : H} {q p : Int} {m : Nat} {g : Int} {mod : List Int} {om cm : Nat}
theorem rhas_call (a : Int) : call T 50 [rv q p m g mod om cm, .int .i64 a] h = some (.bool (fok q a), h ++ [rvR q p m g mod om cm]) := has_call q p m g a _ h
theorem rmul_call (u : RUse h q p m g mod om cm) (a b : Int) : ∃ h' : H, h <+: h' ∧ call T 56 [rv q p m g mod om cm, .int .i64 a, .int .i64 b] h = some (.int .i64 (fmul q a b), h') := by
  obtain ⟨h', p1, e⟩ := u.ok.mul (g0 := g) h u.rm a b
  rw [mulR_eq u.hn] at e
  exact ⟨h', p1, e⟩

/-! ### opposites -/
theorem numb_neg (p : Int) : ∀ (n : Nat) (a : Int), numb p ((digs p n a).map fun d => (p - d) % p) = negN p n a
  | 0, a => rfl
  | n + 1, a => by rw [digs, List.map_cons, numb, negN, numb_neg p n (a / p), Int.mul_comm]; omega
theorem numb_add (p : Int) : ∀ (n : Nat) (a b : Int), numb p (List.zipWith (fun x y => (x + y) % p) (digs p n a) (digs p n b)) = addN p n a b
  | 0, a, b => rfl
  | n + 1, a, b => by rw [digs, digs, List.zipWith_cons_cons, numb, addN, numb_add p n (a / p) (b / p), Int.mul_comm]; omega
theorem rneg_loop {h1 : H} {B o : Nat} {ms : Value} (hf : FOk q p m mod) (hB : h1.row B = some ⟨fvL q p m g ms, 67, 0, true⟩) (ho : h1.length ≤ o) :
    ∀ (n : Nat) (k : Int) (pre rest : List Int) (G : H), k = (pre.length : Int) → pre.length + n = m → rest.length = n → Dig p rest → h1 <+: G → G.row o = some ⟨ints (pre ++ rest), 3, 1, true⟩ →
    ∃ G' : H, h1 <+: G' ∧ G'.row o = some ⟨ints (pre ++ rest.map fun d => (p - d) % p), 3, 1, true⟩ ∧
      ∀ ks, goL T [.tmp 4] [2, 5, 6] c58L0 (.blk 0 [2, 5] :: ks) [(2, .pointer (some ⟨B, 0, none⟩)), (5, .slice (some ⟨o, 0, none⟩) m m), (6, .int .i64 k)] G =
        go T [.tmp 4] ks (Fr.of [(2, .pointer (some ⟨B, 0, none⟩)), (5, .slice (some ⟨o, 0, none⟩) m m)]) G'
  | 0, k, pre, rest, G, hk, hn, hl, hd, hp1, hr => by
    subst hk
    obtain rfl := List.eq_nil_of_length_eq_zero hl
    refine ⟨G, hp1, hr, fun ks => ?_⟩
    have b2 : G.ld1 B 2 = some (.int .i64 m) := ld1_at (row_pre hB hp1) rfl
    rw [goL_at c58L0.eq_def]
    simp (disch := first | omega | (simp only [Go.Am.len_push, Go.Am.len_set, Go.Am.len_kill] <;> omega) | fail) only [push_cast, Nat.reduceBEq, Nat.reduceAdd, Nat.reduceMul, Nat.reduceSub, Nat.reduceLT, Nat.reduceGT, Nat.reduceLeDiff, Nat.reduceEqDiff, Int.reduceToNat, Int.reduceAdd, Int.reduceMul, Int.reduceSub, Int.reduceNeg, Int.reduceLT, Int.reduceLE, Int.reduceEq, Nat.zero_add, Nat.add_zero, Nat.mul_one, eq_self, ne_eq, not_true, not_false_iff, and_true, true_and, and_self, List.getElem?_cons_zero, List.getElem?_cons_succ, List.map_cons, List.map_nil, dec_nlt, b2]
  | n + 1, k, pre, rest, G, hk, hn, hl, hd, hp1, hr => by
    subst hk
    have hp := hf.p2
    have hp64 := hf.p64
    have hm10 := hf.m10
    obtain ⟨a, r, rfl⟩ : ∃ a r, rest = a :: r := cons_of_len (by omega)
    have b1 : G.ld1 B 1 = some (.int .i64 p) := ld1_at (row_pre hB hp1) rfl
    have b2 : G.ld1 B 2 = some (.int .i64 m) := ld1_at (row_pre hB hp1) rfl
    have ge : gi (pre ++ a :: r) (pre.length : Int) = a := gi_mid rfl
    have el := ld1_int hr (i := (pre.length : Int)) (by omega) (by simp; omega)
    rw [ge] at el
    have hi3 : 0 ≤ (pre.length : Int) ∧ (pre.length : Int) < (m : Int) := by omega
    have ha := hd a (by simp)
    obtain ⟨v, hv⟩ : ∃ v, v = (p - a) % p := ⟨_, rfl⟩
    have es' := sts_int hr (i := (pre.length : Int)) (v := v) (by omega) (by simp; omega)
    have hset : (pre ++ a :: r).set ((pre.length : Int)).toNat v = pre ++ [v] ++ r := by rw [set_mid (by omega)]; simp
    have q1 : (p - a).tmod p = v := by rw [hv]; exact Int.tmod_eq_emod_of_nonneg (by omega)
    rw [hset] at es'
    have hrow' : H.row (G.set o (.row ⟨ints (pre ++ [v] ++ r), 3, 1, true⟩)) o = some ⟨ints (pre ++ [v] ++ r), 3, 1, true⟩ := row_set_same (row_some_lt hr)
    obtain ⟨G', p', r', ih⟩ := rneg_loop hf hB ho n ((pre.length : Int) + 1) (pre ++ [v]) r _ (by simp) (by simp; omega) (by simpa using hl) (fun z hz => hd z (by simp [hz])) (pre_set hp1 ho) hrow'
    have he : pre ++ (a :: r).map (fun d => (p - d) % p) = pre ++ [v] ++ r.map (fun d => (p - d) % p) := by rw [List.map_cons, ← hv]; simp
    refine ⟨G', p', by rw [he]; exact r', fun ks => ?_⟩
    rw [← ih ks, goL_at c58L0.eq_def]
    have hp0 : ¬ p = 0 := by omega
    simp (disch := first | omega | (simp only [Go.Am.len_push, Go.Am.len_set, Go.Am.len_kill] <;> omega) | fail) only [push_cast, Nat.reduceBEq, Nat.reduceAdd, Nat.reduceMul, Nat.reduceSub, Nat.reduceLT, Nat.reduceGT, Nat.reduceLeDiff, Nat.reduceEqDiff, Int.reduceToNat, Int.reduceAdd, Int.reduceMul, Int.reduceSub, Int.reduceNeg, Int.reduceLT, Int.reduceLE, Int.reduceEq, Nat.zero_add, Nat.add_zero, Nat.mul_one, eq_self, ne_eq, not_true, not_false_iff, and_true, true_and, and_self, List.getElem?_cons_zero, List.getElem?_cons_succ, List.map_cons, List.map_nil, dec_lt, wrap64, b1, b2, el, hi3, hp0, q1, es']
theorem digs_map_dig {p : Int} (hp : 0 < p) (l : List Int) : Dig p (l.map fun d => (p - d) % p) := fun z hz => by
  obtain ⟨d, _, rfl⟩ := List.mem_map.1 hz
  exact ⟨Int.emod_nonneg _ (by omega), Int.emod_lt_of_pos _ hp⟩
theorem rneg_call (u : RUse h q p m g mod om cm) (a : Int) : ∃ h' : H, h <+: h' ∧ call T 58 [rv q p m g mod om cm, .int .i64 a] h = some (.int .i64 (fneg q a), h') := by
  have hf := u.ok
  have hp := hf.p2
  have hp64 := hf.p64
  have hq64 := hf.q64
  have hm1 := hf.m1
  have hm10 := hf.m10
  obtain ⟨hc, hdg⟩ := fdat_eq u.hn
  obtain ⟨ms, hms⟩ : ∃ ms, ms = Value.slice (some ⟨om, 0, none⟩) mod.length cm := ⟨_, rfl⟩
  obtain ⟨h1, eh1⟩ : ∃ h1 : H, h1 = h ++ [fvR q p m g ms] := ⟨_, rfl⟩
  have r1 : h1.row h.length = some ⟨fvL q p m g ms, 67, 0, true⟩ := by rw [eh1]; exact row_push_new
  have p1 : h <+: h1 := by rw [eh1]; exact List.prefix_append _ _
  have l1 := lds_all r1 (n := 5) rfl
  obtain ⟨h2, eh2⟩ : ∃ h2 : H, h2 = h1 ++ [fvR q p m g ms] := ⟨_, rfl⟩
  have p2 : h1 <+: h2 := by rw [eh2]; exact List.prefix_append _ _
  have hasA : call T 50 [fv q p m g ms, .int .i64 a] h1 = some (.bool (fok q a), h2) := by rw [eh2]; exact has_call q p m g a ms h1
  have e0 : rv q p m g mod om cm = fv q p m g ms := by rw [hms]
  rw [fneg, hc, hdg, e0]
  rcases fok_cases q a with ⟨ho, h0, ha1⟩ | ho
  rotate_left
  · rw [ho] at hasA ⊢
    refine ⟨h2, p1.trans p2, ?_⟩
    rw [call_at T58 rfl]
    unfold F58 c58
    simp (disch := first | omega | (simp only [Go.Am.len_push, Go.Am.len_set, Go.Am.len_kill] <;> omega) | fail) only [push_cast, Nat.reduceBEq, Nat.reduceAdd, Nat.reduceMul, Nat.reduceSub, Nat.reduceLT, Nat.reduceGT, Nat.reduceLeDiff, Nat.reduceEqDiff, Int.reduceToNat, Int.reduceAdd, Int.reduceMul, Int.reduceSub, Int.reduceNeg, Int.reduceLT, Int.reduceLE, Int.reduceEq, Nat.zero_add, Nat.add_zero, Nat.mul_one, eq_self, ne_eq, not_true, not_false_iff, and_true, true_and, and_self, List.getElem?_cons_zero, List.getElem?_cons_succ, List.map_cons, List.map_nil, ← eh1, l1, hasA]
  rw [ho] at hasA ⊢
  have r2 := row_pre r1 p2
  have b1 : h2.ld1 h.length 1 = some (.int .i64 p) := ld1_at r2 rfl
  have b2 : h2.ld1 h.length 2 = some (.int .i64 m) := ld1_at r2 rfl
  obtain ⟨sx, cx, h3, ex, p3, gx⟩ := digits_call a p m h2 (by omega) (by omega) h0 (by omega)
  obtain ⟨ds, hds⟩ : ∃ ds, ds = digs p m a := ⟨_, rfl⟩
  have hdl : ds.length = m := by rw [hds]; exact digs_len _ _ _
  rw [← hds] at gx
  obtain ⟨o, rfl, hol, rfl, ro⟩ : ∃ o, sx = some ⟨o, 0, none⟩ ∧ h2.length ≤ o ∧ cx = ds.length ∧ h3.row o = some ⟨ints ds, 3, 1, true⟩ := by
    rcases gx with ⟨_, _, h0⟩ | h0
    · rw [h0] at hdl; simp at hdl; omega
    · exact h0
  rw [hdl] at ex
  obtain ⟨h4, p4, r4, lo⟩ := rneg_loop hf r2 hol m 0 [] ds h3 rfl (by simp) hdl (by rw [hds]; exact Dig.digs (by omega) _ _) p3 ro
  simp only [List.nil_append] at r4
  obtain ⟨z, hz⟩ : ∃ z, z = ds.map fun d => (p - d) % p := ⟨_, rfl⟩
  rw [← hz] at r4
  have hzl : z.length = m := by rw [hz]; simpa using hdl
  have hzd : Dig p z := by rw [hz]; exact digs_map_dig (by omega) ds
  have rz : RdI h4 (some ⟨o, 0, none⟩) m z := by have := RdI.ofRow r4 rfl; rw [hzl] at this; exact this
  have hb : ∀ j, j ≤ z.length → 0 ≤ numb p (z.drop j) ∧ numb p (z.drop j) ≤ 1000000 := by
    intro j hj
    have h1 := numb_bound (p := p) (by omega) (l := z.drop j) (fun x hx => hzd x (List.mem_of_mem_drop hx))
    have h2 : p ^ (z.drop j).length ≤ p ^ m := ipow_mono (by omega) (by rw [List.length_drop]; omega)
    rw [hf.pm] at h2
    omega
  have hnum := number_call p z (some ⟨o, 0, none⟩) m h4 rz (by omega) hp64 (fun x hx => by have := hzd x hx; omega) (by omega) (by omega) hb
  have hv : numb p z = negN p m a := by rw [hz, hds]; exact numb_neg p m a
  rw [hzl, hv] at hnum
  have b14 : h4.ld1 h.length 1 = some (.int .i64 p) := ld1_at (row_pre r2 p4) rfl
  refine ⟨h4, (p1.trans p2).trans p4, ?_⟩
  rw [call_at T58 rfl]
  unfold F58 c58
  simp (disch := first | omega | (simp only [Go.Am.len_push, Go.Am.len_set, Go.Am.len_kill] <;> omega) | fail) only [push_cast, Nat.reduceBEq, Nat.reduceAdd, Nat.reduceMul, Nat.reduceSub, Nat.reduceLT, Nat.reduceGT, Nat.reduceLeDiff, Nat.reduceEqDiff, Int.reduceToNat, Int.reduceAdd, Int.reduceMul, Int.reduceSub, Int.reduceNeg, Int.reduceLT, Int.reduceLE, Int.reduceEq, Nat.zero_add, Nat.add_zero, Nat.mul_one, eq_self, ne_eq, not_true, not_false_iff, and_true, true_and, and_self, List.getElem?_cons_zero, List.getElem?_cons_succ, List.map_cons, List.map_nil, ← eh1, l1, hasA, b1, b2, ex]
  rw [lo]
  simp (disch := first | omega | (simp only [Go.Am.len_push, Go.Am.len_set, Go.Am.len_kill] <;> omega) | fail) only [push_cast, Nat.reduceBEq, Nat.reduceAdd, Nat.reduceMul, Nat.reduceSub, Nat.reduceLT, Nat.reduceGT, Nat.reduceLeDiff, Nat.reduceEqDiff, Int.reduceToNat, Int.reduceAdd, Int.reduceMul, Int.reduceSub, Int.reduceNeg, Int.reduceLT, Int.reduceLE, Int.reduceEq, Nat.zero_add, Nat.add_zero, Nat.mul_one, eq_self, ne_eq, not_true, not_false_iff, and_true, true_and, and_self, List.getElem?_cons_zero, List.getElem?_cons_succ, List.map_cons, List.map_nil, b14, hnum]
end
end Go.Proofs.Ytammndhoillliaa
namespace Go.Proofs.Ytammndhoillliaa
open Go.Am
set_option linter.unusedVariables false
set_option linter.unusedSimpArgs false
set_option maxRecDepth 30000

def xorCheck (n : Nat) : Bool := match fldN n with
  | none => true
  | some (p, m, _, _) => bif decide (p = 2) then (List.range n).all fun a => (List.range n).all fun b => decide (Go.bits .xor .i64 (a : Int) (b : Int) = addN 2 m a b) else true
theorem xor_checked : ((List.range 63).all fun n => xorCheck (n + 2)) = true := by kernel_rfl
theorem xor_add {q g : Int} {m : Nat} {mod : List Int} (hn : fldN q.toNat = some (2, m, g, mod)) {a b : Int} (ha : 0 ≤ a ∧ a < q) (hb : 0 ≤ b ∧ b < q) : Go.bits .xor .i64 a b = addN 2 m a b := by
  obtain ⟨h2, h64⟩ := fldN_le hn
  have h := List.all_eq_true.1 xor_checked (q.toNat - 2) (List.mem_range.2 (by omega))
  rw [show q.toNat - 2 + 2 = q.toNat by omega] at h
  unfold xorCheck at h
  rw [hn] at h
  simp only [decide_true, cond_true, List.all_eq_true, List.mem_range, decide_eq_true_eq] at h
  have := h a.toNat (by omega) b.toNat (by omega)
  rw [show ((a.toNat : Nat) : Int) = a by omega, show ((b.toNat : Nat) : Int) = b by omega] at this
  exact this

section
variable {h : H} {q p : Int} {m : Nat} {g : Int} {mod : List Int} {om cm : Nat}
theorem radd_loop {h1 : H} {B o oy fy cy : Nat} {ms : Value} {ys : List Int} (hf : FOk q p m mod) (hB : h1.row B = some ⟨fvL q p m g ms, 67, 0, true⟩) (ho : h1.length ≤ o) (hyl : ys.length = m) (hyd : Dig p ys) :
    ∀ (n : Nat) (k : Int) (pre rest : List Int) (G : H), k = (pre.length : Int) → pre.length + n = m → rest.length = n → Dig p rest → h1 <+: G → G.row o = some ⟨ints (pre ++ rest), 3, 1, true⟩ →
      (∀ i : Int, 0 ≤ i → i < m → G.ld1 oy (fy + i.toNat) = some (.int .i64 (gi ys i))) → oy ≠ o →
    ∃ G' : H, h1 <+: G' ∧ G'.row o = some ⟨ints (pre ++ List.zipWith (fun x y => (x + y) % p) rest (ys.drop pre.length)), 3, 1, true⟩ ∧
      ∀ ks, goL T [.tmp 6] [3, 7, 8, 9] c52L0 (.blk 0 [3, 7] :: ks) [(3, .pointer (some ⟨B, 0, none⟩)), (7, .slice (some ⟨o, 0, none⟩) m m), (8, .slice (some ⟨oy, fy, none⟩) m cy), (9, .int .i64 k)] G =
        go T [.tmp 6] ks (Fr.of [(3, .pointer (some ⟨B, 0, none⟩)), (7, .slice (some ⟨o, 0, none⟩) m m)]) G'
  | 0, k, pre, rest, G, hk, hn, hl, hd, hp1, hr, hy, hne => by
    subst hk
    obtain rfl := List.eq_nil_of_length_eq_zero hl
    refine ⟨G, hp1, by rw [List.zipWith_nil_left]; exact hr, fun ks => ?_⟩
    have b2 : G.ld1 B 2 = some (.int .i64 m) := ld1_at (row_pre hB hp1) rfl
    rw [goL_at c52L0.eq_def]
    simp (disch := first | omega | (simp only [Go.Am.len_push, Go.Am.len_set, Go.Am.len_kill] <;> omega) | fail) only [push_cast, Nat.reduceBEq, Nat.reduceAdd, Nat.reduceMul, Nat.reduceSub, Nat.reduceLT, Nat.reduceGT, Nat.reduceLeDiff, Nat.reduceEqDiff, Int.reduceToNat, Int.reduceAdd, Int.reduceMul, Int.reduceSub, Int.reduceNeg, Int.reduceLT, Int.reduceLE, Int.reduceEq, Nat.zero_add, Nat.add_zero, Nat.mul_one, eq_self, ne_eq, not_true, not_false_iff, and_true, true_and, and_self, List.getElem?_cons_zero, List.getElem?_cons_succ, List.map_cons, List.map_nil, dec_nlt, b2]
  | n + 1, k, pre, rest, G, hk, hn, hl, hd, hp1, hr, hy, hne => by
    subst hk
    have hp := hf.p2
    have hp64 := hf.p64
    have hm10 := hf.m10
    obtain ⟨a, r, rfl⟩ : ∃ a r, rest = a :: r := cons_of_len (by omega)
    have b1 : G.ld1 B 1 = some (.int .i64 p) := ld1_at (row_pre hB hp1) rfl
    have b2 : G.ld1 B 2 = some (.int .i64 m) := ld1_at (row_pre hB hp1) rfl
    have ge : gi (pre ++ a :: r) (pre.length : Int) = a := gi_mid rfl
    have el := ld1_int hr (i := (pre.length : Int)) (by omega) (by simp; omega)
    rw [ge] at el
    have ey := hy (pre.length : Int) (by omega) (by omega)
    have hi3 : 0 ≤ (pre.length : Int) ∧ (pre.length : Int) < (m : Int) := by omega
    have ha := hd a (by simp)
    have hb := gi_nonneg (p := p) (by omega) hyd (pre.length : Int)
    obtain ⟨v, hv⟩ : ∃ v, v = (a + gi ys (pre.length : Int)) % p := ⟨_, rfl⟩
    have es' := sts_int hr (i := (pre.length : Int)) (v := v) (by omega) (by simp; omega)
    have hset : (pre ++ a :: r).set ((pre.length : Int)).toNat v = pre ++ [v] ++ r := by rw [set_mid (by omega)]; simp
    have q1 : (a + gi ys (pre.length : Int)).tmod p = v := by rw [hv]; exact Int.tmod_eq_emod_of_nonneg (by omega)
    rw [hset] at es'
    have hrow' : H.row (G.set o (.row ⟨ints (pre ++ [v] ++ r), 3, 1, true⟩)) o = some ⟨ints (pre ++ [v] ++ r), 3, 1, true⟩ := row_set_same (row_some_lt hr)
    obtain ⟨G', p', r', ih⟩ := radd_loop (cy := cy) hf hB ho hyl hyd n ((pre.length : Int) + 1) (pre ++ [v]) r _ (by simp) (by simp; omega) (by simpa using hl) (fun z hz => hd z (by simp [hz])) (pre_set hp1 ho) hrow'
      (fun i h0 hi => by rw [ld1_other (fun e => hne e.symm)]; exact hy i h0 hi) hne
    have hpl : (pre ++ [v]).length = pre.length + 1 := by simp
    have he : pre ++ List.zipWith (fun x y => (x + y) % p) (a :: r) (ys.drop pre.length) = pre ++ [v] ++ List.zipWith (fun x y => (x + y) % p) r (ys.drop (pre ++ [v]).length) := by
      rw [drop_gi (by omega), List.zipWith_cons_cons, ← hv, hpl]; simp
    refine ⟨G', p', by rw [he]; exact r', fun ks => ?_⟩
    rw [← ih ks, goL_at c52L0.eq_def]
    have hp0 : ¬ p = 0 := by omega
    simp (disch := first | omega | (simp only [Go.Am.len_push, Go.Am.len_set, Go.Am.len_kill] <;> omega) | fail) only [push_cast, Nat.reduceBEq, Nat.reduceAdd, Nat.reduceMul, Nat.reduceSub, Nat.reduceLT, Nat.reduceGT, Nat.reduceLeDiff, Nat.reduceEqDiff, Int.reduceToNat, Int.reduceAdd, Int.reduceMul, Int.reduceSub, Int.reduceNeg, Int.reduceLT, Int.reduceLE, Int.reduceEq, Nat.zero_add, Nat.add_zero, Nat.mul_one, eq_self, ne_eq, not_true, not_false_iff, and_true, true_and, and_self, List.getElem?_cons_zero, List.getElem?_cons_succ, List.map_cons, List.map_nil, dec_lt, wrap64, b1, b2, el, ey, hi3, hp0, q1, es']
theorem radd_call (u : RUse h q p m g mod om cm) (a b : Int) : ∃ h' : H, h <+: h' ∧ call T 52 [rv q p m g mod om cm, .int .i64 a, .int .i64 b] h = some (.int .i64 (fadd q a b), h') := by
  have hf := u.ok
  have hp := hf.p2
  have hp64 := hf.p64
  have hq64 := hf.q64
  have hm1 := hf.m1
  have hm10 := hf.m10
  obtain ⟨hc, hdg⟩ := fdat_eq u.hn
  obtain ⟨ms, hms⟩ : ∃ ms, ms = Value.slice (some ⟨om, 0, none⟩) mod.length cm := ⟨_, rfl⟩
  have e0 : rv q p m g mod om cm = fv q p m g ms := by rw [hms]
  obtain ⟨h1, eh1⟩ : ∃ h1 : H, h1 = h ++ [fvR q p m g ms] := ⟨_, rfl⟩
  have r1 : h1.row h.length = some ⟨fvL q p m g ms, 67, 0, true⟩ := by rw [eh1]; exact row_push_new
  have p1 : h <+: h1 := by rw [eh1]; exact List.prefix_append _ _
  have l1 := lds_all r1 (n := 5) rfl
  obtain ⟨h2, eh2⟩ : ∃ h2 : H, h2 = h1 ++ [fvR q p m g ms] := ⟨_, rfl⟩
  have p2 : h1 <+: h2 := by rw [eh2]; exact List.prefix_append _ _
  have hasA : call T 50 [fv q p m g ms, .int .i64 a] h1 = some (.bool (fok q a), h2) := by rw [eh2]; exact has_call q p m g a ms h1
  have r2 := row_pre r1 p2
  have l2 := lds_all r2 (n := 5) rfl
  obtain ⟨h3, eh3⟩ : ∃ h3 : H, h3 = h2 ++ [fvR q p m g ms] := ⟨_, rfl⟩
  have p3 : h2 <+: h3 := by rw [eh3]; exact List.prefix_append _ _
  have hasB : call T 50 [fv q p m g ms, .int .i64 b] h2 = some (.bool (fok q b), h3) := by rw [eh3]; exact has_call q p m g b ms h2
  have r3 := row_pre r2 p3
  rw [fadd, hc, hdg, e0]
  rcases fok_cases q a with ⟨ho, h0, ha1⟩ | ho
  rotate_left
  · rw [ho] at hasA ⊢
    refine ⟨h2, p1.trans p2, ?_⟩
    rw [call_at T52 rfl]
    unfold F52 c52
    simp (disch := first | omega | (simp only [Go.Am.len_push, Go.Am.len_set, Go.Am.len_kill] <;> omega) | fail) only [push_cast, Nat.reduceBEq, Nat.reduceAdd, Nat.reduceMul, Nat.reduceSub, Nat.reduceLT, Nat.reduceGT, Nat.reduceLeDiff, Nat.reduceEqDiff, Int.reduceToNat, Int.reduceAdd, Int.reduceMul, Int.reduceSub, Int.reduceNeg, Int.reduceLT, Int.reduceLE, Int.reduceEq, Nat.zero_add, Nat.add_zero, Nat.mul_one, eq_self, ne_eq, not_true, not_false_iff, and_true, true_and, and_self, List.getElem?_cons_zero, List.getElem?_cons_succ, List.map_cons, List.map_nil, ← eh1, l1, hasA]
  rw [ho] at hasA ⊢
  rcases fok_cases q b with ⟨hob, h0b, hb1⟩ | hob
  rotate_left
  · rw [hob] at hasB ⊢
    refine ⟨h3, (p1.trans p2).trans p3, ?_⟩
    rw [call_at T52 rfl]
    unfold F52 c52
    simp (disch := first | omega | (simp only [Go.Am.len_push, Go.Am.len_set, Go.Am.len_kill] <;> omega) | fail) only [push_cast, Nat.reduceBEq, Nat.reduceAdd, Nat.reduceMul, Nat.reduceSub, Nat.reduceLT, Nat.reduceGT, Nat.reduceLeDiff, Nat.reduceEqDiff, Int.reduceToNat, Int.reduceAdd, Int.reduceMul, Int.reduceSub, Int.reduceNeg, Int.reduceLT, Int.reduceLE, Int.reduceEq, Nat.zero_add, Nat.add_zero, Nat.mul_one, eq_self, ne_eq, not_true, not_false_iff, and_true, true_and, and_self, List.getElem?_cons_zero, List.getElem?_cons_succ, List.map_cons, List.map_nil, ← eh1, l1, hasA, l2, hasB]
  rw [hob] at hasB ⊢
  have b1 : h3.ld1 h.length 1 = some (.int .i64 p) := ld1_at r3 rfl
  have b2 : h3.ld1 h.length 2 = some (.int .i64 m) := ld1_at r3 rfl
  have hp0 : ¬ p = 0 := by omega
  by_cases hone : m = 1
  · refine ⟨h3, (p1.trans p2).trans p3, ?_⟩
    have hmi : (m : Int) = 1 := by omega
    have q1 : (a + b).tmod p = (a + b) % p := Int.tmod_eq_emod_of_nonneg (by omega)
    have ev : addN p m a b = (a + b) % p := by subst hone; rw [addN, addN, Int.mul_zero, Int.add_zero, ← Int.add_emod]
    rw [ev, call_at T52 rfl]
    unfold F52 c52
    simp (disch := first | omega | (simp only [Go.Am.len_push, Go.Am.len_set, Go.Am.len_kill] <;> omega) | fail) only [push_cast, Nat.reduceBEq, Nat.reduceAdd, Nat.reduceMul, Nat.reduceSub, Nat.reduceLT, Nat.reduceGT, Nat.reduceLeDiff, Nat.reduceEqDiff, Int.reduceToNat, Int.reduceAdd, Int.reduceMul, Int.reduceSub, Int.reduceNeg, Int.reduceLT, Int.reduceLE, Int.reduceEq, Nat.zero_add, Nat.add_zero, Nat.mul_one, eq_self, ne_eq, not_true, not_false_iff, and_true, true_and, and_self, List.getElem?_cons_zero, List.getElem?_cons_succ, List.map_cons, List.map_nil, ← eh1, l1, hasA, l2, hasB, b1, b2, dec_eq hmi, wrap64, hp0, q1]
  have hmi : ¬ (m : Int) = 1 := by omega
  by_cases htwo : p = 2
  · refine ⟨h3, (p1.trans p2).trans p3, ?_⟩
    have hx : Go.bits .xor .i64 a b = addN p m a b := by
      have hn := u.hn
      rw [htwo] at hn ⊢
      exact xor_add hn ⟨h0, ha1⟩ ⟨h0b, hb1⟩
    rw [call_at T52 rfl]
    unfold F52 c52
    simp (disch := first | omega | (simp only [Go.Am.len_push, Go.Am.len_set, Go.Am.len_kill] <;> omega) | fail) only [push_cast, Nat.reduceBEq, Nat.reduceAdd, Nat.reduceMul, Nat.reduceSub, Nat.reduceLT, Nat.reduceGT, Nat.reduceLeDiff, Nat.reduceEqDiff, Int.reduceToNat, Int.reduceAdd, Int.reduceMul, Int.reduceSub, Int.reduceNeg, Int.reduceLT, Int.reduceLE, Int.reduceEq, Nat.zero_add, Nat.add_zero, Nat.mul_one, eq_self, ne_eq, not_true, not_false_iff, and_true, true_and, and_self, List.getElem?_cons_zero, List.getElem?_cons_succ, List.map_cons, List.map_nil, ← eh1, l1, hasA, l2, hasB, b1, b2, dec_ne hmi, dec_eq htwo, hx]
  obtain ⟨sx, cx, h4, ex, p4, gx⟩ := digits_call a p m h3 (by omega) (by omega) h0 (by omega)
  obtain ⟨xs, hxs⟩ : ∃ ds, ds = digs p m a := ⟨_, rfl⟩
  have hxl : xs.length = m := by rw [hxs]; exact digs_len _ _ _
  have hxd : Dig p xs := by rw [hxs]; exact Dig.digs (by omega) _ _
  rw [← hxs] at gx
  obtain ⟨o, rfl, hol, rfl, ro⟩ : ∃ o, sx = some ⟨o, 0, none⟩ ∧ h3.length ≤ o ∧ cx = xs.length ∧ h4.row o = some ⟨ints xs, 3, 1, true⟩ := by
    rcases gx with ⟨_, _, h0⟩ | h0
    · rw [h0] at hxl; simp at hxl; omega
    · exact h0
  rw [hxl] at ex
  have b14 : h4.ld1 h.length 1 = some (.int .i64 p) := ld1_pre b1 p4
  have b24 : h4.ld1 h.length 2 = some (.int .i64 m) := ld1_pre b2 p4
  obtain ⟨sy, cy, h5, ey, p5, gy⟩ := digits_call b p m h4 (by omega) (by omega) h0b (by omega)
  obtain ⟨ys, hys⟩ : ∃ ds, ds = digs p m b := ⟨_, rfl⟩
  have hyl : ys.length = m := by rw [hys]; exact digs_len _ _ _
  have hyd : Dig p ys := by rw [hys]; exact Dig.digs (by omega) _ _
  rw [← hys] at gy
  obtain ⟨oy, rfl, holy, rfl, roy⟩ : ∃ o, sy = some ⟨o, 0, none⟩ ∧ h4.length ≤ o ∧ cy = ys.length ∧ h5.row o = some ⟨ints ys, 3, 1, true⟩ := by
    rcases gy with ⟨_, _, h0⟩ | h0
    · rw [h0] at hyl; simp at hyl; omega
    · exact h0
  rw [hyl] at ey
  have hoo : o < h4.length := row_some_lt ro
  have hld : ∀ i : Int, 0 ≤ i → i < m → h5.ld1 oy (0 + i.toNat) = some (.int .i64 (gi ys i)) := fun i hi0 hi => by rw [Nat.zero_add]; exact ld1_int roy hi0 (by omega)
  obtain ⟨h6, p6, r6, lo⟩ := radd_loop (oy := oy) (fy := 0) (cy := m) hf r3 hol hyl hyd m 0 [] xs h5 rfl (by simp) hxl hxd (p4.trans p5) (row_pre ro p5) hld (by omega)
  simp only [List.nil_append, List.length_nil, List.drop_zero] at r6
  obtain ⟨z, hz⟩ : ∃ z, z = List.zipWith (fun x y => (x + y) % p) xs ys := ⟨_, rfl⟩
  rw [← hz] at r6
  have hzl : z.length = m := by rw [hz, List.length_zipWith]; omega
  have hv : numb p z = addN p m a b := by rw [hz, hxs, hys]; exact numb_add p m a b
  have hzd : Dig p z := by
    rw [hz]
    intro w hw
    rw [List.mem_iff_getElem?] at hw
    obtain ⟨i, hi⟩ := hw
    rw [List.getElem?_zipWith] at hi
    cases hx : xs[i]? with
    | none => rw [hx] at hi; cases hi
    | some x =>
      cases hy : ys[i]? with
      | none => rw [hx, hy] at hi; cases hi
      | some y =>
        rw [hx, hy] at hi
        cases hi
        exact ⟨Int.emod_nonneg _ hp0, Int.emod_lt_of_pos _ (by omega)⟩
  have rz : RdI h6 (some ⟨o, 0, none⟩) m z := by have := RdI.ofRow r6 rfl; rw [hzl] at this; exact this
  have hb : ∀ j, j ≤ z.length → 0 ≤ numb p (z.drop j) ∧ numb p (z.drop j) ≤ 1000000 := by
    intro j hj
    have h1 := numb_bound (p := p) (by omega) (l := z.drop j) (fun x hx => hzd x (List.mem_of_mem_drop hx))
    have h2 : p ^ (z.drop j).length ≤ p ^ m := ipow_mono (by omega) (by rw [List.length_drop]; omega)
    rw [hf.pm] at h2
    omega
  have hnum := number_call p z (some ⟨o, 0, none⟩) m h6 rz (by omega) hp64 (fun x hx => by have := hzd x hx; omega) (by omega) (by omega) hb
  rw [hzl, hv] at hnum
  have b16 : h6.ld1 h.length 1 = some (.int .i64 p) := ld1_at (row_pre r3 p6) rfl
  refine ⟨h6, ((p1.trans p2).trans p3).trans p6, ?_⟩
  rw [call_at T52 rfl]
  unfold F52 c52
  simp (disch := first | omega | (simp only [Go.Am.len_push, Go.Am.len_set, Go.Am.len_kill] <;> omega) | fail) only [push_cast, Nat.reduceBEq, Nat.reduceAdd, Nat.reduceMul, Nat.reduceSub, Nat.reduceLT, Nat.reduceGT, Nat.reduceLeDiff, Nat.reduceEqDiff, Int.reduceToNat, Int.reduceAdd, Int.reduceMul, Int.reduceSub, Int.reduceNeg, Int.reduceLT, Int.reduceLE, Int.reduceEq, Nat.zero_add, Nat.add_zero, Nat.mul_one, eq_self, ne_eq, not_true, not_false_iff, and_true, true_and, and_self, List.getElem?_cons_zero, List.getElem?_cons_succ, List.map_cons, List.map_nil, ← eh1, l1, hasA, l2, hasB, b1, b2, dec_ne hmi, dec_ne htwo, ex, b14, b24, ey]
  rw [lo]
  simp (disch := first | omega | (simp only [Go.Am.len_push, Go.Am.len_set, Go.Am.len_kill] <;> omega) | fail) only [push_cast, Nat.reduceBEq, Nat.reduceAdd, Nat.reduceMul, Nat.reduceSub, Nat.reduceLT, Nat.reduceGT, Nat.reduceLeDiff, Nat.reduceEqDiff, Int.reduceToNat, Int.reduceAdd, Int.reduceMul, Int.reduceSub, Int.reduceNeg, Int.reduceLT, Int.reduceLE, Int.reduceEq, Nat.zero_add, Nat.add_zero, Nat.mul_one, eq_self, ne_eq, not_true, not_false_iff, and_true, true_and, and_self, List.getElem?_cons_zero, List.getElem?_cons_succ, List.map_cons, List.map_nil, b16, hnum]
theorem rsub_call (u : RUse h q p m g mod om cm) (a b : Int) : ∃ h' : H, h <+: h' ∧ call T 54 [rv q p m g mod om cm, .int .i64 a, .int .i64 b] h = some (.int .i64 (fsub q a b), h') := by
  obtain ⟨ms, hms⟩ : ∃ ms, ms = Value.slice (some ⟨om, 0, none⟩) mod.length cm := ⟨_, rfl⟩
  have e0 : rv q p m g mod om cm = fv q p m g ms := by rw [hms]
  obtain ⟨h1, eh1⟩ : ∃ h1 : H, h1 = h ++ [fvR q p m g ms] := ⟨_, rfl⟩
  have r1 : h1.row h.length = some ⟨fvL q p m g ms, 67, 0, true⟩ := by rw [eh1]; exact row_push_new
  have p1 : h <+: h1 := by rw [eh1]; exact List.prefix_append _ _
  have l1 := lds_all r1 (n := 5) rfl
  obtain ⟨h2, p2, en⟩ := rneg_call (u.mono p1) b
  have l2 := lds_all (row_pre r1 p2) (n := 5) rfl
  obtain ⟨h3, p3, ea⟩ := radd_call (u.mono (p1.trans p2)) a (fneg q b)
  rw [e0] at en ea ⊢
  refine ⟨h3, (p1.trans p2).trans p3, ?_⟩
  rw [call_at T54 rfl, fsub]
  unfold F54 c54
  simp (disch := first | omega | (simp only [Go.Am.len_push, Go.Am.len_set, Go.Am.len_kill] <;> omega) | fail) only [push_cast, Nat.reduceBEq, Nat.reduceAdd, Nat.reduceMul, Nat.reduceSub, Nat.reduceLT, Nat.reduceGT, Nat.reduceLeDiff, Nat.reduceEqDiff, Int.reduceToNat, Int.reduceAdd, Int.reduceMul, Int.reduceSub, Int.reduceNeg, Int.reduceLT, Int.reduceLE, Int.reduceEq, Nat.zero_add, Nat.add_zero, Nat.mul_one, eq_self, ne_eq, not_true, not_false_iff, and_true, true_and, and_self, List.getElem?_cons_zero, List.getElem?_cons_succ, List.map_cons, List.map_nil, ← eh1, l1, en, l2, ea]
end
end Go.Proofs.Ytammndhoillliaa
