/-
  FieldSays: the program's field answers as the document's, of any numbers. No condition.
-/
import Derived.Test.YtammndhoillliaaFRd
import Derived.Test.YtammndhoillliaaSame
namespace Go.Proofs.Ytammndhoillliaa
open Go.Am
set_option linter.unusedVariables false
set_option linter.unusedSimpArgs false
set_option maxRecDepth 100000
set_option maxHeartbeats 4000000

theorem withP_len (q s : Int) (hq : q ≤ 64) : (withP q s).length ≤ 64 := by
  unfold withP
  split
  · cases decide (_ = fch q) && decide (fdg q % _ = 0)
    · simp
    · have := withN_len q s q.toNat 0
      simp only [cond_true]; omega
  · simp

theorem fieldSays_call (q a b k s : Int) (h : H) : ∃ h' : H, h <+: h' ∧ call T 8 [.int .i64 q, .int .i64 a, .int .i64 b, .int .i64 k, .int .i64 s] h = some (.bool true, h') := by
  cases hn : fldN q.toNat with
  | none =>
    obtain ⟨h1, p1, e1⟩ := new_none q hn h
    obtain ⟨h2, p2, e2⟩ := field_none q hn h1
    obtain ⟨h3, eh3⟩ : ∃ h3 : H, h3 = h2 ++ [zrR] := ⟨_, rfl⟩
    have r3 : h3.row h2.length = some ⟨fvL 0 0 0 0 (.slice none 0 0), 67, 0, true⟩ := by rw [eh3]; exact row_push_new
    have s3 := sts_whole (vs := fvL 0 0 0 0 (.slice none 0 0)) r3 rfl
    refine ⟨h3.set h2.length zrR, ?_, ?_⟩
    · rw [eh3, set_push]; exact pre_push (p1.trans p2)
    rw [call_at T8 rfl]
    unfold F8 c8
    simp (disch := first | omega | (simp only [Go.Am.len_push, Go.Am.len_set, Go.Am.len_kill] <;> omega) | fail) only [push_cast, Nat.reduceBEq, Nat.reduceAdd, Nat.reduceMul, Nat.reduceSub, Nat.reduceLT, Nat.reduceGT, Nat.reduceLeDiff, Nat.reduceEqDiff, Int.reduceToNat, Int.reduceAdd, Int.reduceMul, Int.reduceSub, Int.reduceNeg, Int.reduceLT, Int.reduceLE, Int.reduceEq, Nat.zero_add, Nat.add_zero, Nat.mul_one, eq_self, ne_eq, not_true, not_false_iff, and_true, true_and, and_self, List.getElem?_cons_zero, List.getElem?_cons_succ, List.map_cons, List.map_nil, e1, e2, ← eh3, s3]
  | some x =>
    obtain ⟨p, m, g, mod⟩ := x
    obtain ⟨hl2, hl64⟩ := fldN_le hn
    have hf : FOk q p m mod := by have := (fld_ok hn).1; rw [show ((q.toNat : Nat) : Int) = q by omega] at this; exact this
    have hml := hf.ml
    have hm10 := hf.m10
    obtain ⟨h1, F, p1, hPF, e1⟩ := new_some q hn h
    obtain ⟨h2, om, cm, p2, rm2, e2⟩ := field_some q hn h1
    obtain ⟨h3, eh3⟩ : ∃ h3 : H, h3 = h2 ++ [zrR] := ⟨_, rfl⟩
    have r3 : h3.row h2.length = some ⟨fvL 0 0 0 0 (.slice none 0 0), 67, 0, true⟩ := by rw [eh3]; exact row_push_new
    have s3 := sts_whole (vs := fvL q p m g (.slice (some ⟨om, 0, none⟩) mod.length cm)) r3 rfl
    obtain ⟨h4, eh4⟩ : ∃ h4 : H, h4 = h3.set h2.length (rvR q p m g mod om cm) := ⟨_, rfl⟩
    rw [← eh4] at s3
    have p4 : h2 <+: h4 := by rw [eh4, eh3, set_push]; exact List.prefix_append _ _
    have r4 : h4.row h2.length = some ⟨fvL q p m g (.slice (some ⟨om, 0, none⟩) mod.length cm), 67, 0, true⟩ := by rw [eh4]; exact row_set_same (row_some_lt r3)
    have u4 : RUse h4 q p m g mod om cm := ⟨hn, rm2.mono p4⟩
    obtain ⟨E, L, om', fm', cm', v4⟩ := ((hPF.mono p2).mono p4).use hn
    have hB4 : h2.length < h4.length := row_some_lt r4
    -- the first questions
    have cc1 := psize_call v4
    have cc2 := pchar_call v4
    have cc3 := pdegree_call v4
    have cc4 := pgen_call v4
    have b1 : h4.ld1 h2.length 1 = some (.int .i64 p) := ld1_at r4 rfl
    have b2 : h4.ld1 h2.length 2 = some (.int .i64 m) := ld1_at r4 rfl
    have b3 : h4.ld1 h2.length 3 = some (.int .i64 g) := ld1_at r4 rfl
    obtain ⟨h5, o5, p5, rp5, cc5⟩ := ppoly_call v4 (by omega)
    have r5 := row_pre r4 p5
    have b4 : h5.ld1 h2.length 4 = some (.slice (some ⟨om, 0, none⟩) mod.length cm) := ld1_at r5 rfl
    have u5 := u4.mono p5
    have v5 := v4.mono p5
    have cc6 := same_call (some ⟨o5, 0, none⟩) (some ⟨om, 0, none⟩) mod.length cm mod mod h5 (by omega) rp5 u5.rm
    have cc7 := phas_call v5 a
    have l5 := lds_all r5 (n := 5) rfl
    have cc8 := rhas_call (h := h5) (q := q) (p := p) (m := m) (g := g) (mod := mod) (om := om) (cm := cm) a
    obtain ⟨h6, eh6⟩ : ∃ h6 : H, h6 = h5 ++ [rvR q p m g mod om cm] := ⟨_, rfl⟩
    rw [← eh6] at cc8
    have p6 : h5 <+: h6 := by rw [eh6]; exact List.prefix_append _ _
    have dB4 : decide (h2.length < h4.length) = true := decide_eq_true hB4
    -- sums and products
    have r6 := row_pre r5 p6
    have u6 := u5.mono p6
    have v6 := v5.mono p6
    have dB6 : decide (h2.length < h6.length) = true := decide_eq_true (row_some_lt r6)
    have l6 := lds_all r6 (n := 5) rfl
    have d1 := padd_call hn v6 hf a b
    obtain ⟨h7, p7, d2⟩ := radd_call u6 a b
    have r7 := row_pre r6 p7
    have u7 := u6.mono p7
    have v7 := v6.mono p7
    have l7 := lds_all r7 (n := 5) rfl
    have d3 := psub_call hn v7 hf a b
    obtain ⟨h8, p8, d4⟩ := rsub_call u7 a b
    have r8 := row_pre r7 p8
    have u8 := u7.mono p8
    have v8 := v7.mono p8
    have l8 := lds_all r8 (n := 5) rfl
    have d5 := pmul_call hn v8 a b
    obtain ⟨h9, p9, d6⟩ := rmul_call u8 a b
    have r9 := row_pre r8 p9
    have u9 := u8.mono p9
    have v9 := v8.mono p9
    have l9 := lds_all r9 (n := 5) rfl
    have d7 := pneg_call hn v9 hf a
    obtain ⟨h10, p10, d8⟩ := rneg_call u9 a
    have r10 := row_pre r9 p10
    have u10 := u9.mono p10
    have v10 := v9.mono p10
    have l10 := lds_all r10 (n := 5) rfl
    have d9 := pinv_call hn v10 a
    obtain ⟨h11, p11, d10⟩ := rinv_call u10 a
    have r11 := row_pre r10 p11
    have u11 := u10.mono p11
    have v11 := v10.mono p11
    have l11 := lds_all r11 (n := 5) rfl
    have dB11 : decide (h2.length < h11.length) = true := decide_eq_true (row_some_lt r11)
    -- powers
    have f1 := ppow_call hn v11 a k
    obtain ⟨h12, p12, f2⟩ := rpow_call u11 a k
    have r12 := row_pre r11 p12
    have u12 := u11.mono p12
    have v12 := v11.mono p12
    have l12 := lds_all r12 (n := 5) rfl
    have f3 := plog_call v12 a
    obtain ⟨h13, p13, f4⟩ := rlog_call u12 a
    have r13 := row_pre r12 p13
    have u13 := u12.mono p13
    have v13 := v12.mono p13
    have l13 := lds_all r13 (n := 5) rfl
    have f5 := pfrob_call hn v13 hf a k
    obtain ⟨h14, p14, f6⟩ := rfrob_call u13 a k
    have r14 := row_pre r13 p14
    have u14 := u13.mono p14
    have v14 := v13.mono p14
    have l14 := lds_all r14 (n := 5) rfl
    have f7 := ptrace_call hn v14 hf a
    obtain ⟨h15, p15, f8⟩ := rtrace_call u14 a
    have r15 := row_pre r14 p15
    have u15 := u14.mono p15
    have v15 := v14.mono p15
    have l15 := lds_all r15 (n := 5) rfl
    have f9 := pnorm_call hn v15 hf a
    obtain ⟨h16, p16, f10⟩ := rnorm_call u15 a
    have r16 := row_pre r15 p16
    have u16 := u15.mono p16
    have v16 := v15.mono p16
    obtain ⟨sw, cw, h17, p17, rw17, f11⟩ := pwithin_call hn v16 hf s
    have r17 := row_pre r16 p17
    have u17 := u16.mono p17
    have l17 := lds_all r17 (n := 5) rfl
    obtain ⟨sx, cx, h18, p18, rx18, f12⟩ := rwithin_call u17 s
    have f13 := same_call sw sx cw cx (withP q s) (withP q s) h18 (by have := withP_len q s hf.q64; omega) (rw17.mono p18) rx18
    have pp : h <+: h18 := p1.trans (p2.trans (p4.trans (p5.trans (p6.trans (p7.trans (p8.trans (p9.trans (p10.trans (p11.trans (p12.trans (p13.trans (p14.trans (p15.trans (p16.trans (p17.trans (p18))))))))))))))))
    have z := fun x : H => List.prefix_refl x
    refine ⟨h18, pp, ?_⟩
    rw [call_at T8 rfl]
    unfold F8 c8
    simp (disch := first | omega | (simp only [Go.Am.len_push, Go.Am.len_set, Go.Am.len_kill] <;> omega) | fail) only [push_cast, Nat.reduceBEq, Nat.reduceAdd, Nat.reduceMul, Nat.reduceSub, Nat.reduceLT, Nat.reduceGT, Nat.reduceLeDiff, Nat.reduceEqDiff, Int.reduceToNat, Int.reduceAdd, Int.reduceMul, Int.reduceSub, Int.reduceNeg, Int.reduceLT, Int.reduceLE, Int.reduceEq, Nat.zero_add, Nat.add_zero, Nat.mul_one, eq_self, ne_eq, not_true, not_false_iff, and_true, true_and, and_self, List.getElem?_cons_zero, List.getElem?_cons_succ, List.map_cons, List.map_nil, e1, e2, ← eh3, s3, cc1, cc2, cc3, cc4, b1, b2, b3, cc5, b4, cc6, cc7, l5, cc8, dB4, behind_true (z _), behind_true p5, behind_true p6, bne_self_eq_false, beq_self_eq_true]
    simp (disch := first | omega | (simp only [Go.Am.len_push, Go.Am.len_set, Go.Am.len_kill] <;> omega) | fail) only [push_cast, Nat.reduceBEq, Nat.reduceAdd, Nat.reduceMul, Nat.reduceSub, Nat.reduceLT, Nat.reduceGT, Nat.reduceLeDiff, Nat.reduceEqDiff, Int.reduceToNat, Int.reduceAdd, Int.reduceMul, Int.reduceSub, Int.reduceNeg, Int.reduceLT, Int.reduceLE, Int.reduceEq, Nat.zero_add, Nat.add_zero, Nat.mul_one, eq_self, ne_eq, not_true, not_false_iff, and_true, true_and, and_self, List.getElem?_cons_zero, List.getElem?_cons_succ, List.map_cons, List.map_nil, behind_true (z _), l6, l7, l8, d1, d2, d3, d4, d5, d6, dB6, behind_true p7, behind_true p8, behind_true p9]
    simp (disch := first | omega | (simp only [Go.Am.len_push, Go.Am.len_set, Go.Am.len_kill] <;> omega) | fail) only [push_cast, Nat.reduceBEq, Nat.reduceAdd, Nat.reduceMul, Nat.reduceSub, Nat.reduceLT, Nat.reduceGT, Nat.reduceLeDiff, Nat.reduceEqDiff, Int.reduceToNat, Int.reduceAdd, Int.reduceMul, Int.reduceSub, Int.reduceNeg, Int.reduceLT, Int.reduceLE, Int.reduceEq, Nat.zero_add, Nat.add_zero, Nat.mul_one, eq_self, ne_eq, not_true, not_false_iff, and_true, true_and, and_self, List.getElem?_cons_zero, List.getElem?_cons_succ, List.map_cons, List.map_nil, behind_true (z _), l9, l10, d7, d8, d9, d10, dB6, behind_true p10, behind_true p11]
    simp (disch := first | omega | (simp only [Go.Am.len_push, Go.Am.len_set, Go.Am.len_kill] <;> omega) | fail) only [push_cast, Nat.reduceBEq, Nat.reduceAdd, Nat.reduceMul, Nat.reduceSub, Nat.reduceLT, Nat.reduceGT, Nat.reduceLeDiff, Nat.reduceEqDiff, Int.reduceToNat, Int.reduceAdd, Int.reduceMul, Int.reduceSub, Int.reduceNeg, Int.reduceLT, Int.reduceLE, Int.reduceEq, Nat.zero_add, Nat.add_zero, Nat.mul_one, eq_self, ne_eq, not_true, not_false_iff, and_true, true_and, and_self, List.getElem?_cons_zero, List.getElem?_cons_succ, List.map_cons, List.map_nil, behind_true (z _), l11, l12, l13, dB11, f1, f2, f3, f4, f5, f6, behind_true p12, behind_true p13, behind_true p14]
    simp (disch := first | omega | (simp only [Go.Am.len_push, Go.Am.len_set, Go.Am.len_kill] <;> omega) | fail) only [push_cast, Nat.reduceBEq, Nat.reduceAdd, Nat.reduceMul, Nat.reduceSub, Nat.reduceLT, Nat.reduceGT, Nat.reduceLeDiff, Nat.reduceEqDiff, Int.reduceToNat, Int.reduceAdd, Int.reduceMul, Int.reduceSub, Int.reduceNeg, Int.reduceLT, Int.reduceLE, Int.reduceEq, Nat.zero_add, Nat.add_zero, Nat.mul_one, eq_self, ne_eq, not_true, not_false_iff, and_true, true_and, and_self, List.getElem?_cons_zero, List.getElem?_cons_succ, List.map_cons, List.map_nil, behind_true (z _), l14, l15, l17, dB11, f7, f8, f9, f10, f11, f12, f13, behind_true p15, behind_true p16, behind_true p17, behind_true p18]
end Go.Proofs.Ytammndhoillliaa
