/-
  Functions of this seat as the small machine's code, written by a program of my own (gen.py); each is checked to be what the model's function is turned into. No condition.
-/
import Derived.Test.YtghfdpdiibiigaaK1
import Derived.Test.YtghfdpdiibiigaaProg
set_option linter.unusedVariables false
set_option linter.unusedSimpArgs false
set_option linter.unusedSectionVars false
set_option maxRecDepth 100000
namespace Go.Proofs.Ytghfdpdiibiigaa
open Go.Am
/- 6: syndrome/syndrometop.TopMassey -/
def c6L0 : ACode := (.seq (.seq (.region [.m 52 14, .m 53 2, .o 54 (.b .lss 52 53)]) (.cond (.tmp 54) .skip (.exit 2))) (.seq (.block 3 [2, 3, 9, 10, 11, 12, 13, 14] (.region [.m 57 9, .m 58 13, .m 59 9, .m 60 10, .m 61 14, .o 62 (.i 1 60 61), .o 63 (.l 62), .m 64 11, .m 65 12, .o 66 (.c .sub 65 1), .m 67 14, .o 68 (.b .sub 66 67), .o 69 (.i 1 64 68), .o 70 (.l 69), .o 71 (.q 22 [59, 63, 70]), .o 72 (.q 21 [57, 58, 71]), .m 13 72])) (.region [.m 55 14, .o 56 (.c .add 55 1), .m 14 56])))
def c6L1 : ACode := (.seq (.seq (.region [.m 42 12, .m 43 2, .o 44 (.bin .mul (.const (.int .i64 2)) (.tmp 43)), .o 45 (.c .add 44 4), .m 46 3, .o 47 (.call 9 [(.tmp 46), (.const (.int .i64 9))]), .o 48 (.b .add 45 47), .o 49 (.b .lss 42 48)]) (.cond (.tmp 49) .skip (.exit 0))) (.seq (.block 1 [2, 3, 9, 10, 11, 12] (.seq (.region [.k 13 0]) (.seq (.seq (.region [.k 14 0]) (.block 2 [2, 3, 9, 10, 11, 12, 13] (.loop [2, 3, 9, 10, 11, 12, 13, 14] c6L0))) (.region [.m 73 11, .m 74 13, .o 75 (.mkSl 3 1 1 [(.tmp 74)]), .o 76 (.app 3 1 8 (.tmp 73) (.tmp 75)), .m 11 76])))) (.region [.m 50 12, .o 51 (.c .add 50 1), .m 12 51])))
def c6L2 : ACode := (.seq (.seq (.region [.m 122 21, .m 123 16, .o 124 (.n 123), .o 125 (.b .lss 122 124)]) (.cond (.tmp 125) .skip (.exit 6))) (.seq (.block 7 [9, 11, 16, 19, 20, 21] (.region [.m 128 9, .m 129 20, .m 130 9, .m 131 16, .m 132 21, .o 133 (.i 1 131 132), .o 134 (.l 133), .m 135 11, .m 136 19, .m 137 21, .o 138 (.b .sub 136 137), .o 139 (.i 1 135 138), .o 140 (.l 139), .o 141 (.q 22 [130, 134, 140]), .o 142 (.q 24 [128, 129, 141]), .m 20 142])) (.region [.m 126 21, .o 127 (.c .add 126 1), .m 21 127])))
def c6L3 : ACode := (.seq (.seq (.region [.m 116 19, .m 117 11, .o 118 (.n 117), .o 119 (.b .lss 116 118)]) (.cond (.tmp 119) .skip (.exit 4))) (.seq (.block 5 [9, 11, 16, 19] (.seq (.region [.k 20 0]) (.seq (.seq (.region [.k 21 1]) (.block 6 [9, 11, 16, 19, 20] (.loop [9, 11, 16, 19, 20, 21] c6L2))) (.seq (.region [.m 143 20, .m 144 11, .m 145 19, .o 146 (.i 1 144 145), .o 147 (.l 146), .o 148 (.b .neq 143 147)]) (.cond (.tmp 148) (.seq (.region [.o 8 (.mv (.const (.bool false)))]) .ret) .skip))))) (.region [.m 120 19, .o 121 (.c .add 120 1), .m 19 121])))
def c6 : ACode := (.seq (.region [.o 8 (.mv (.const (.bool false)))]) (.seq (.seq (.region [.m 22 0, .o 23 (.n 22), .o 24 (.c .gtr 23 256)]) (.cond (.tmp 24) (.seq (.region [.o 8 (.mv (.const (.bool true)))]) .ret) .skip)) (.seq (.region [.m 25 1, .o 26 (.q 19 [25]), .m 9 26]) (.seq (.seq (.region [.m 27 9, .o 28 (.eqn false 1 (.tmp 27))]) (.cond (.tmp 28) (.seq (.region [.o 8 (.mv (.const (.bool false)))]) .ret) .skip)) (.seq (.region [.m 29 2, .o 30 (.call 9 [(.tmp 29), (.const (.int .i64 6))]), .m 2 30]) (.seq (.region [.m 31 0, .m 32 9, .o 33 (.q 20 [32]), .m 34 2, .o 35 (.call 11 [(.tmp 31), (.const (.int .i64 0)), (.tmp 33), (.tmp 34)]), .m 10 35]) (.seq (.region [.m 36 0, .m 37 9, .o 38 (.q 20 [37]), .m 39 2, .o 40 (.call 11 [(.tmp 36), (.const (.int .i64 9)), (.tmp 38), (.tmp 39)]), .m 11 40]) (.seq (.seq (.region [.m 41 2, .m 12 41]) (.block 0 [2, 9, 11] (.loop [2, 3, 9, 10, 11, 12] c6L1))) (.seq (.region [.m 77 11, .o 78 (.n 77), .o 79 (.c .sub 78 4), .m 15 79]) (.seq (.region [.m 81 9, ⟨(some 82), (.call 20 [(.tmp 81)]), none, true⟩, .m 83 11, .m 84 15, .o 85 (.sl 1 (.tmp 83) none (some (.tmp 84))), .o 86 (.q 38 [82, 85]), .m 80 86, .o 87 (.e 0 80), .o 88 (.e 1 80), .o 89 (.e 2 80), .m 16 87, .m 17 88, .m 18 89]) (.seq (.seq (.region [.m 90 18, .o 91 (.c .neq 90 0), .m 92 91, .g 93 (.m 17) 92 false, .g 94 (.m 2) 92 false, .g 95 (.b .gtr 93 94) 92 false, .o 96 (.pick (.tmp 92) (.const (.bool true)) (.tmp 95)), .m 97 96, .g 98 (.m 16) 97 false, .g 99 (.n 98) 97 false, .g 100 (.c .eql 99 0) 97 false, .o 101 (.pick (.tmp 97) (.const (.bool true)) (.tmp 100)), .m 102 101, .g 103 (.m 16) 102 false, .g 104 (.iaddr 1 (.tmp 103) (.const (.int .i64 0))) 102 false, .g 105 (.l 104) 102 false, .g 106 (.c .neq 105 1) 102 false, .o 107 (.pick (.tmp 102) (.const (.bool true)) (.tmp 106)), .m 108 107, .g 109 (.m 16) 108 false, .g 110 (.n 109) 108 false, .g 111 (.m 17) 108 false, .g 112 (.c .add 111 1) 108 false, .g 113 (.b .gtr 110 112) 108 false, .o 114 (.pick (.tmp 108) (.const (.bool true)) (.tmp 113))]) (.cond (.tmp 114) (.seq (.region [.o 8 (.mv (.const (.bool false)))]) .ret) .skip)) (.seq (.seq (.region [.m 115 15, .m 19 115]) (.block 4 [] (.loop [9, 11, 16, 19] c6L3))) (.seq (.region [.o 8 (.mv (.const (.bool true)))]) .ret)))))))))))))
def F6 : AFun := ⟨c6, 4, 149, [(.tmp 8)]⟩
def K6 : Nat → List Nat × List Nat
 | 0 => ([2, 3, 9, 10, 11, 12], [2, 9, 11])
 | 1 => ([], [2, 3, 9, 10, 11, 12])
 | 2 => ([2, 3, 9, 10, 11, 12, 13, 14], [2, 3, 9, 10, 11, 12, 13])
 | 3 => ([], [2, 3, 9, 10, 11, 12, 13, 14])
 | 4 => ([9, 11, 16, 19], [])
 | 5 => ([], [9, 11, 16, 19])
 | 6 => ([9, 11, 16, 19, 20, 21], [9, 11, 16, 19, 20])
 | 7 => ([], [9, 11, 16, 19, 20, 21])
 | _ => ([], [])
theorem F6_ok : kj8 Try.prog K6 Try.f6 = some F6 := by kernel_rfl
/- 9: syndrome/syndromeref.Pick -/
def c9 : ACode := (.seq (.region [.k 4 0]) (.seq (.seq (.region [.m 5 0, .o 6 (.c .lss 5 0)]) (.cond (.tmp 6) (.region [.m 7 0, .o 8 (.c .add 7 1), .o 9 (.un .neg (.tmp 8)), .m 0 9]) .skip)) (.seq (.region [.m 10 0, .m 11 1, .o 12 (.b .rem 10 11), .m 4 12]) .ret)))
def F9 : AFun := ⟨c9, 2, 13, [(.tmp 4)]⟩
def K9 : Nat → List Nat × List Nat
 | _ => ([], [])
theorem F9_ok : kj8 Try.prog K9 Try.f9 = some F9 := by kernel_rfl
/- 11: syndrome/syndromeref.Numbers -/
def c11L0 : ACode := (.seq (.seq (.region [.m 11 10, .m 12 3, .o 13 (.b .lss 11 12)]) (.cond (.tmp 13) .skip (.exit 0))) (.seq (.block 1 [0, 1, 2, 3, 9, 10] (.region [.m 16 9, .m 17 0, .m 18 1, .m 19 10, .o 20 (.b .add 18 19), .o 21 (.q 41 [17, 20]), .m 22 2, .o 23 (.q 9 [21, 22]), .o 24 (.mkSl 3 1 1 [(.tmp 23)]), .o 25 (.app 3 1 8 (.tmp 16) (.tmp 24)), .m 9 25])) (.region [.m 14 10, .o 15 (.c .add 14 1), .m 10 15])))
def c11 : ACode := (.seq (.region [.o 8 (.mv (.const (.slice none 0 0)))]) (.seq (.region [.o 9 (.mv (.const (.slice none 0 0)))]) (.seq (.seq (.region [.k 10 0]) (.block 0 [9] (.loop [0, 1, 2, 3, 9, 10] c11L0))) (.seq (.region [.m 26 9, .m 8 26]) .ret))))
def F11 : AFun := ⟨c11, 4, 27, [(.tmp 8)]⟩
def K11 : Nat → List Nat × List Nat
 | 0 => ([0, 1, 2, 3, 9, 10], [9])
 | 1 => ([], [0, 1, 2, 3, 9, 10])
 | _ => ([], [])
theorem F11_ok : kj8 Try.prog K11 Try.f11 = some F11 := by kernel_rfl
/- 19: syndrome/syndrometop.fieldOf -/
def c19 : ACode := (.seq (.region [.o 2 (.mv (.const (.pointer none)))]) (.seq (.region [.m 6 0, .o 7 (.q 33 [6]), .o 8 (.q 36 [7]), .m 5 8, .o 9 (.e 0 5), .o 10 (.e 1 5), .m 3 9, .m 4 10]) (.seq (.seq (.region [.m 11 4, .o 12 (.c .neq 11 0), .m 13 12, .g 14 (.m 3) 13 false, .g 15 (.eqn false 1 (.tmp 14)) 13 false, .o 16 (.pick (.tmp 13) (.const (.bool true)) (.tmp 15)), .m 17 16, .g 18 (.m 3) 17 false, .g 19 (.q 20 [18]) 17 false, .g 20 (.m 0) 17 false, .g 21 (.q 33 [20]) 17 false, .g 22 (.b .neq 19 21) 17 false, .o 23 (.pick (.tmp 17) (.const (.bool true)) (.tmp 22)), .m 24 23, .g 25 (.m 3) 24 false, .g 26 (.q 29 [25]) 24 false, .g 27 (.c .lss 26 2) 24 false, .o 28 (.pick (.tmp 24) (.const (.bool true)) (.tmp 27))]) (.cond (.tmp 28) (.seq (.region [.o 2 (.mv (.const (.pointer none)))]) .ret) .skip)) (.seq (.region [.m 29 3, .m 2 29]) .ret))))
def F19 : AFun := ⟨c19, 1, 30, [(.tmp 2)]⟩
def K19 : Nat → List Nat × List Nat
 | _ => ([], [])
theorem F19_ok : kj8 Try.prog K19 Try.f19 = some F19 := by kernel_rfl
/- 20: (*syndrome/field.Field).Size -/
def c20 : ACode := (.seq (.region [.k 2 0]) (.seq (.region [.m 3 0, .o 4 (.nilck (.tmp 3)), .o 5 (.f 0 4), .o 6 (.l 5), .m 2 6]) .ret))
def F20 : AFun := ⟨c20, 1, 7, [(.tmp 2)]⟩
def K20 : Nat → List Nat × List Nat
 | _ => ([], [])
theorem F20_ok : kj8 Try.prog K20 Try.f20 = some F20 := by kernel_rfl
/- 21: (*syndrome/field.Field).Add -/
def c21L0 : ACode := (.seq (.region [.o 24 (.b .lss 23 22)]) (.seq (.cond (.tmp 24) .skip (.exit 0)) (.seq (.block 1 [0, 1, 2, 7, 8, 22, 23] (.seq (.region [.m 25 7, .m 26 1, .m 27 0, .o 28 (.nilck (.tmp 27)), .o 29 (.f 1 28), .o 30 (.l 29), .o 31 (.b .rem 26 30), .m 32 2, .m 33 0, .o 34 (.nilck (.tmp 33)), .o 35 (.f 1 34), .o 36 (.l 35), .o 37 (.b .rem 32 36), .o 38 (.b .add 31 37), .m 39 0, .o 40 (.nilck (.tmp 39)), .o 41 (.f 1 40), .o 42 (.l 41), .o 43 (.b .rem 38 42), .m 44 8, .o 45 (.b .mul 43 44), .o 46 (.b .add 25 45), .m 7 46]) (.region [.m 47 1, .m 48 0, .o 49 (.nilck (.tmp 48)), .o 50 (.f 1 49), .o 51 (.l 50), .o 52 (.b .quo 47 51), .m 53 2, .m 54 0, .o 55 (.nilck (.tmp 54)), .o 56 (.f 1 55), .o 57 (.l 56), .o 58 (.b .quo 53 57), .m 59 8, .m 60 0, .o 61 (.nilck (.tmp 60)), .o 62 (.f 1 61), .o 63 (.l 62), .o 64 (.b .mul 59 63), .m 1 52, .m 2 58, .m 8 64]))) (.region [.o 65 (.c .add 23 1), .m 23 65]))))
def c21 : ACode := (.seq (.region [.k 6 0]) (.seq (.seq (.region [.m 9 0, .m 10 1, .o 11 (.q 53 [9, 10]), .o 12 (.un .not (.tmp 11)), .m 13 12, .g 14 (.m 0) 13 false, .g 15 (.m 2) 13 false, .g 16 (.q 53 [14, 15]) 13 false, .g 17 (.un .not (.tmp 16)) 13 false, .o 18 (.pick (.tmp 13) (.const (.bool true)) (.tmp 17))]) (.cond (.tmp 18) (.seq (.region [.k 6 (-1)]) .ret) .skip)) (.seq (.region [.k 7 0, .k 8 1]) (.seq (.seq (.region [.m 19 0, .o 20 (.nilck (.tmp 19)), .o 21 (.f 2 20), .o 22 (.l 21), .k 23 0]) (.block 0 [7] (.loop [0, 1, 2, 7, 8, 22, 23] c21L0))) (.seq (.region [.m 66 7, .m 6 66]) .ret)))))
def F21 : AFun := ⟨c21, 3, 67, [(.tmp 6)]⟩
def K21 : Nat → List Nat × List Nat
 | 0 => ([0, 1, 2, 7, 8, 22, 23], [7])
 | 1 => ([], [0, 1, 2, 7, 8, 22, 23])
 | _ => ([], [])
theorem F21_ok : kj8 Try.prog K21 Try.f21 = some F21 := by kernel_rfl
/- 22: (*syndrome/field.Field).Mul -/
def c22 : ACode := (.seq (.region [.k 6 0]) (.seq (.seq (.region [.m 7 0, .m 8 1, .o 9 (.q 53 [7, 8]), .o 10 (.un .not (.tmp 9)), .m 11 10, .g 12 (.m 0) 11 false, .g 13 (.m 2) 11 false, .g 14 (.q 53 [12, 13]) 11 false, .g 15 (.un .not (.tmp 14)) 11 false, .o 16 (.pick (.tmp 11) (.const (.bool true)) (.tmp 15))]) (.cond (.tmp 16) (.seq (.region [.k 6 (-1)]) .ret) .skip)) (.seq (.seq (.region [.m 17 1, .o 18 (.c .eql 17 0), .m 19 18, .g 20 (.m 2) 19 false, .g 21 (.c .eql 20 0) 19 false, .o 22 (.pick (.tmp 19) (.const (.bool true)) (.tmp 21))]) (.cond (.tmp 22) (.seq (.region [.k 6 0]) .ret) .skip)) (.seq (.region [.m 23 0, .o 24 (.nilck (.tmp 23)), .o 25 (.f 5 24), .o 26 (.l 25), .m 27 0, .o 28 (.nilck (.tmp 27)), .o 29 (.f 6 28), .o 30 (.l 29), .m 31 1, .o 32 (.i 1 30 31), .o 33 (.l 32), .m 34 0, .o 35 (.nilck (.tmp 34)), .o 36 (.f 6 35), .o 37 (.l 36), .m 38 2, .o 39 (.i 1 37 38), .o 40 (.l 39), .o 41 (.b .add 33 40), .m 42 0, .o 43 (.nilck (.tmp 42)), .o 44 (.f 0 43), .o 45 (.l 44), .o 46 (.c .sub 45 1), .o 47 (.b .rem 41 46), .o 48 (.i 1 26 47), .o 49 (.l 48), .m 6 49]) .ret))))
def F22 : AFun := ⟨c22, 3, 50, [(.tmp 6)]⟩
def K22 : Nat → List Nat × List Nat
 | _ => ([], [])
theorem F22_ok : kj8 Try.prog K22 Try.f22 = some F22 := by kernel_rfl
/- 23: (*syndrome/field.Field).Neg -/
def c23L0 : ACode := (.seq (.region [.o 16 (.b .lss 15 14)]) (.seq (.cond (.tmp 16) .skip (.exit 0)) (.seq (.block 1 [0, 1, 5, 6, 14, 15] (.seq (.region [.m 17 5, .m 18 0, .o 19 (.nilck (.tmp 18)), .o 20 (.f 1 19), .o 21 (.l 20), .m 22 1, .m 23 0, .o 24 (.nilck (.tmp 23)), .o 25 (.f 1 24), .o 26 (.l 25), .o 27 (.b .rem 22 26), .o 28 (.b .sub 21 27), .m 29 0, .o 30 (.nilck (.tmp 29)), .o 31 (.f 1 30), .o 32 (.l 31), .o 33 (.b .rem 28 32), .m 34 6, .o 35 (.b .mul 33 34), .o 36 (.b .add 17 35), .m 5 36]) (.region [.m 37 1, .m 38 0, .o 39 (.nilck (.tmp 38)), .o 40 (.f 1 39), .o 41 (.l 40), .o 42 (.b .quo 37 41), .m 43 6, .m 44 0, .o 45 (.nilck (.tmp 44)), .o 46 (.f 1 45), .o 47 (.l 46), .o 48 (.b .mul 43 47), .m 1 42, .m 6 48]))) (.region [.o 49 (.c .add 15 1), .m 15 49]))))
def c23 : ACode := (.seq (.region [.k 4 0]) (.seq (.seq (.region [.m 7 0, .m 8 1, .o 9 (.q 53 [7, 8]), .o 10 (.un .not (.tmp 9))]) (.cond (.tmp 10) (.seq (.region [.k 4 (-1)]) .ret) .skip)) (.seq (.region [.k 5 0, .k 6 1]) (.seq (.seq (.region [.m 11 0, .o 12 (.nilck (.tmp 11)), .o 13 (.f 2 12), .o 14 (.l 13), .k 15 0]) (.block 0 [5] (.loop [0, 1, 5, 6, 14, 15] c23L0))) (.seq (.region [.m 50 5, .m 4 50]) .ret)))))
def F23 : AFun := ⟨c23, 2, 51, [(.tmp 4)]⟩
def K23 : Nat → List Nat × List Nat
 | 0 => ([0, 1, 5, 6, 14, 15], [5])
 | 1 => ([], [0, 1, 5, 6, 14, 15])
 | _ => ([], [])
theorem F23_ok : kj8 Try.prog K23 Try.f23 = some F23 := by kernel_rfl
/- 24: (*syndrome/field.Field).Sub -/
def c24 : ACode := (.seq (.region [.k 6 0]) (.seq (.region [.m 7 0, .m 8 1, .m 9 0, .m 10 2, .o 11 (.q 23 [9, 10]), .o 12 (.q 21 [7, 8, 11]), .m 6 12]) .ret))
def F24 : AFun := ⟨c24, 3, 13, [(.tmp 6)]⟩
def K24 : Nat → List Nat × List Nat
 | _ => ([], [])
theorem F24_ok : kj8 Try.prog K24 Try.f24 = some F24 := by kernel_rfl
/- 25: (*syndrome/field.Field).Inv -/
def c25 : ACode := (.seq (.region [.k 4 0]) (.seq (.seq (.region [.m 5 0, .m 6 1, .o 7 (.q 53 [5, 6]), .o 8 (.un .not (.tmp 7)), .m 9 8, .g 10 (.m 1) 9 false, .g 11 (.c .eql 10 0) 9 false, .o 12 (.pick (.tmp 9) (.const (.bool true)) (.tmp 11))]) (.cond (.tmp 12) (.seq (.region [.k 4 (-1)]) .ret) .skip)) (.seq (.region [.m 13 0, .o 14 (.nilck (.tmp 13)), .o 15 (.f 5 14), .o 16 (.l 15), .m 17 0, .o 18 (.nilck (.tmp 17)), .o 19 (.f 0 18), .o 20 (.l 19), .o 21 (.c .sub 20 1), .m 22 0, .o 23 (.nilck (.tmp 22)), .o 24 (.f 6 23), .o 25 (.l 24), .m 26 1, .o 27 (.i 1 25 26), .o 28 (.l 27), .o 29 (.b .sub 21 28), .m 30 0, .o 31 (.nilck (.tmp 30)), .o 32 (.f 0 31), .o 33 (.l 32), .o 34 (.c .sub 33 1), .o 35 (.b .rem 29 34), .o 36 (.i 1 16 35), .o 37 (.l 36), .m 4 37]) .ret)))
def F25 : AFun := ⟨c25, 2, 38, [(.tmp 4)]⟩
def K25 : Nat → List Nat × List Nat
 | _ => ([], [])
theorem F25_ok : kj8 Try.prog K25 Try.f25 = some F25 := by kernel_rfl
/- 29: (*syndrome/field.Field).Char -/
def c29 : ACode := (.seq (.region [.k 2 0]) (.seq (.region [.m 3 0, .o 4 (.nilck (.tmp 3)), .o 5 (.f 1 4), .o 6 (.l 5), .m 2 6]) .ret))
def F29 : AFun := ⟨c29, 1, 7, [(.tmp 2)]⟩
def K29 : Nat → List Nat × List Nat
 | _ => ([], [])
theorem F29_ok : kj8 Try.prog K29 Try.f29 = some F29 := by kernel_rfl
/- 33: syndrome/syndromeref.SizeOf -/
def c33 : ACode := (.seq (.region [.k 2 0]) (.seq (.region [.o 5 (.call 54 []), .m 3 5]) (.seq (.region [.m 6 0, .o 7 (.call 9 [(.tmp 6), (.const (.int .i64 100))]), .m 4 7]) (.seq (.seq (.region [.m 8 4, .o 9 (.c .lss 8 60)]) (.cond (.tmp 9) (.seq (.region [.m 10 3, .m 11 4, .o 12 (.c .rem 11 7), .o 13 (.i 1 10 12), .o 14 (.l 13), .m 2 14]) .ret) .skip)) (.seq (.region [.m 15 3, .m 16 0, .o 17 (.c .quo 16 100), .m 18 3, .o 19 (.n 18), .o 20 (.q 9 [17, 19]), .o 21 (.i 1 15 20), .o 22 (.l 21), .m 2 22]) .ret)))))
def F33 : AFun := ⟨c33, 1, 23, [(.tmp 2)]⟩
def K33 : Nat → List Nat × List Nat
 | _ => ([], [])
theorem F33_ok : kj8 Try.prog K33 Try.f33 = some F33 := by kernel_rfl
/- 36: syndrome/field.New -/
def tb2 : List Value := [(.int .u32 0), (.int .i32 0), (.int .u32 0), (.int .u32 0), (.int .i32 0), (.int .u32 0), (.int .u32 0), (.int .i32 0), (.int .u32 0), (.int .u32 0), (.int .i32 0), (.int .u32 0), (.int .u32 0), (.int .i32 0), (.int .u32 0), (.int .u32 0), (.int .i32 0), (.int .u32 0), (.int .u32 0), (.int .i32 0), (.int .u32 0), (.int .u32 0), (.int .i32 0), (.int .u32 0), (.int .u32 0), (.int .i32 0), (.int .u32 0), (.int .u32 0), (.int .i32 0), (.int .u32 0), (.int .u32 0), (.int .i32 0), (.int .u32 0), (.int .u32 0), (.int .i32 0), (.int .u32 0), (.int .u32 0), (.int .i32 0), (.int .u32 0), (.int .u32 0), (.int .i32 0), (.int .u32 0), (.int .u32 0), (.int .i32 0), (.int .u32 0), (.int .u32 0), (.int .i32 0), (.int .u32 0), (.int .u32 0), (.int .i32 0), (.int .u32 0), (.int .u32 0), (.int .i32 0), (.int .u32 0), (.int .u32 0), (.int .i32 0), (.int .u32 0), (.int .u32 0), (.int .i32 0), (.int .u32 0), (.int .u32 0), (.int .i32 0), (.int .u32 0), (.int .u32 0), (.int .i32 0), (.int .u32 0), (.int .u32 0), (.int .i32 0), (.int .u32 0), (.int .u32 0), (.int .i32 0), (.int .u32 0), (.int .u32 0), (.int .i32 0), (.int .u32 0), (.int .u32 0), (.int .i32 0), (.int .u32 0), (.int .u32 0), (.int .i32 0), (.int .u32 0), (.int .u32 0), (.int .i32 0), (.int .u32 0), (.int .u32 0), (.int .i32 0), (.int .u32 0), (.int .u32 0), (.int .i32 0), (.int .u32 0), (.int .u32 0), (.int .i32 0), (.int .u32 0), (.int .u32 0), (.int .i32 0), (.int .u32 0), (.int .u32 0), (.int .i32 0), (.int .u32 0), (.int .u32 0), (.int .i32 0), (.int .u32 0), (.int .u32 0), (.int .i32 0), (.int .u32 0), (.int .u32 0), (.int .i32 0), (.int .u32 0), (.int .u32 0), (.int .i32 0), (.int .u32 0), (.int .u32 0), (.int .i32 0), (.int .u32 0), (.int .u32 0), (.int .i32 0), (.int .u32 0), (.int .u32 0), (.int .i32 0), (.int .u32 0), (.int .u32 0), (.int .i32 0), (.int .u32 0), (.int .u32 0), (.int .i32 0), (.int .u32 0), (.int .u32 0), (.int .i32 0), (.int .u32 0), (.int .u32 0), (.int .i32 0), (.int .u32 0), (.int .u32 0), (.int .i32 0), (.int .u32 0), (.int .u32 0), (.int .i32 0), (.int .u32 0), (.int .u32 0), (.int .i32 0), (.int .u32 0), (.int .u32 0), (.int .i32 0), (.int .u32 0), (.int .u32 0), (.int .i32 0), (.int .u32 0), (.int .u32 0), (.int .i32 0), (.int .u32 0), (.int .u32 0), (.int .i32 0), (.int .u32 0), (.int .u32 0), (.int .i32 0), (.int .u32 0), (.int .u32 0), (.int .i32 0), (.int .u32 0), (.int .u32 0), (.int .i32 0), (.int .u32 0), (.int .u32 0), (.int .i32 0), (.int .u32 0), (.int .u32 0), (.int .i32 0), (.int .u32 0), (.int .u32 0), (.int .i32 0), (.int .u32 0), (.int .u32 0), (.int .i32 0), (.int .u32 0), (.int .u32 0), (.int .i32 0), (.int .u32 0), (.int .u32 0), (.int .i32 0), (.int .u32 0), (.int .u32 0), (.int .i32 0), (.int .u32 0), (.int .u32 0), (.int .i32 0), (.int .u32 0), (.int .u32 0), (.int .i32 0), (.int .u32 0), (.int .u32 0), (.int .i32 0), (.int .u32 0), (.int .u32 0), (.int .i32 0), (.int .u32 0), (.pointer none), (.pointer none), (.pointer none), (.pointer none), (.pointer none), (.pointer none), (.pointer none), (.pointer none), (.pointer none), (.pointer none), (.pointer none), (.pointer none), (.pointer none), (.pointer none), (.pointer none), (.pointer none), (.pointer none), (.pointer none), (.pointer none), (.pointer none), (.pointer none), (.pointer none), (.pointer none), (.pointer none), (.pointer none), (.pointer none), (.pointer none), (.pointer none), (.pointer none), (.pointer none), (.pointer none), (.pointer none), (.pointer none), (.pointer none), (.pointer none), (.pointer none), (.pointer none), (.pointer none), (.pointer none), (.pointer none), (.pointer none), (.pointer none), (.pointer none), (.pointer none), (.pointer none), (.pointer none), (.pointer none), (.pointer none), (.pointer none), (.pointer none), (.pointer none), (.pointer none), (.pointer none), (.pointer none), (.pointer none), (.pointer none), (.pointer none), (.pointer none), (.pointer none), (.pointer none), (.pointer none), (.pointer none), (.pointer none), (.pointer none), (.pointer none)]
def c36 : ACode := (.seq (.region [.o 1 (.box 3 1 (.tmp 0)), .o 2 (.mv (.const (.pointer none))), .k 3 0]) (.seq (.seq (.region [.o 5 (.l 1), .o 6 (.c .lss 5 2), .m 7 6, .g 8 (.l 1) 7 false, .g 9 (.c .gtr 8 64) 7 false, .o 10 (.pick (.tmp 7) (.const (.bool true)) (.tmp 9))]) (.cond (.tmp 10) (.seq (.region [.o 2 (.mv (.const (.pointer none))), .k 3 1]) .ret) .skip)) (.seq (.region [.o 4 (.alloc 93 tb2)]) (.seq (.region [.o 11 (.l 1), .o 12 (.f 0 4), .o 13 (.iaddrA 65 3 (.tmp 12) (.tmp 11)), .o 14 (.mkf 59 [(.tmp 1), (.tmp 4)]), .o 15 (.q 58 [13, 14])]) (.seq (.seq (.region [.o 16 (.l 1), .o 17 (.f 195 4), .o 18 (.iaddrA 65 1 (.tmp 17) (.tmp 16)), .o 19 (.l 18), .o 20 (.eqn false 1 (.tmp 19))]) (.cond (.tmp 20) (.seq (.region [.o 2 (.mv (.const (.pointer none))), .k 3 1]) .ret) .skip)) (.seq (.region [.o 21 (.l 1), .o 22 (.f 195 4), .o 23 (.iaddrA 65 1 (.tmp 22) (.tmp 21)), .o 24 (.l 23), .m 2 24, .k 3 0]) .ret))))))
def F36 : AFun := ⟨c36, 1, 25, [(.tmp 2), (.tmp 3)]⟩
def K36 : Nat → List Nat × List Nat
 | _ => ([], [])
theorem F36_ok : kj8 Try.prog K36 Try.f36 = some F36 := by kernel_rfl
/- 38: syndrome/reed.Massey -/
def c38L0 : ACode := (.seq (.region [.o 43 (.b .lss 42 41)]) (.seq (.cond (.tmp 43) .skip (.exit 2)) (.seq (.block 3 [0, 1, 4, 5, 8, 10, 11, 12, 13, 14, 36, 37, 40, 41, 42] (.seq (.region [.m 44 42, .o 45 (.i 1 40 42), .o 46 (.l 45), .m 15 44, .m 16 46]) (.seq (.region [.m 47 15, .m 48 13, .o 49 (.b .leq 47 48)]) (.cond (.tmp 49) (.region [.m 50 8, .m 51 14, .m 52 8, .m 53 16, .m 54 1, .m 55 13, .m 56 15, .o 57 (.b .sub 55 56), .o 58 (.i 1 54 57), .o 59 (.l 58), .o 60 (.q 22 [52, 53, 59]), .o 61 (.q 21 [50, 51, 60]), .m 14 61]) .skip)))) (.region [.o 62 (.c .add 42 1), .m 42 62]))))
def c38L1 : ACode := (.seq (.region [.o 82 (.b .lss 81 80)]) (.seq (.cond (.tmp 82) .skip (.exit 4)) (.seq (.block 5 [0, 1, 4, 5, 8, 10, 11, 12, 13, 14, 17, 18, 36, 37, 80, 81] (.seq (.region [.m 83 81, .m 19 83]) (.region [.m 84 17, .m 85 19, .m 86 8, .m 87 17, .m 88 19, .o 89 (.i 1 87 88), .o 90 (.l 89), .m 91 18, .o 92 (.q 22 [86, 90, 91]), .o 93 (.i 1 84 85), .n (.st 1 (.tmp 93) (.tmp 92))]))) (.region [.o 94 (.c .add 81 1), .m 81 94]))))
def c38L2 : ACode := (.seq (.region [.o 38 (.b .lss 37 36)]) (.seq (.cond (.tmp 38) .skip (.exit 0)) (.seq (.block 1 [0, 1, 4, 5, 8, 10, 11, 12, 36, 37] (.seq (.region [.m 39 37, .m 13 39]) (.seq (.region [.k 14 0]) (.seq (.seq (.region [.m 40 4, .o 41 (.n 40), .k 42 0]) (.block 2 [0, 1, 4, 5, 8, 10, 11, 12, 13, 14, 36, 37] (.loop [0, 1, 4, 5, 8, 10, 11, 12, 13, 14, 36, 37, 40, 41, 42] c38L0))) (.seq (.seq (.region [.m 63 14, .o 64 (.c .eql 63 0)]) (.cond (.tmp 64) (.seq (.region [.m 65 11, .o 66 (.c .add 65 1), .m 11 66]) (.exit 1)) .skip)) (.seq (.region [.m 67 11, .o 68 (.mks 3 1 8 [(.int .i64 0)] (.tmp 67) (.tmp 67)), .m 69 10, .o 70 (.app 3 1 8 (.tmp 68) (.tmp 69)), .m 17 70]) (.seq (.region [.m 71 8, .m 72 8, .m 73 14, .m 74 8, .m 75 12, .o 76 (.q 25 [74, 75]), .o 77 (.q 22 [72, 73, 76]), .o 78 (.q 23 [71, 77]), .m 18 78]) (.seq (.seq (.region [.m 79 17, .o 80 (.n 79), .k 81 0]) (.block 4 [0, 1, 4, 5, 8, 10, 11, 12, 13, 14, 17, 36, 37] (.loop [0, 1, 4, 5, 8, 10, 11, 12, 13, 14, 17, 18, 36, 37, 80, 81] c38L1))) (.seq (.region [.m 96 0, .m 97 4, .m 98 17, .o 99 (.q 62 [96, 97, 98]), .m 95 99, .o 100 (.e 0 95), .o 101 (.e 1 95), .m 20 100, .m 21 101]) (.seq (.seq (.region [.m 102 5, .o 103 (.bin .mul (.const (.int .i64 2)) (.tmp 102)), .m 104 13, .o 105 (.b .leq 103 104)]) (.cond (.tmp 105) (.region [.m 106 13, .o 107 (.c .add 106 1), .m 108 5, .o 109 (.b .sub 107 108), .m 110 4, .m 111 14, .m 5 109, .m 10 110, .m 12 111, .k 11 1]) (.region [.m 112 11, .o 113 (.c .add 112 1), .m 11 113]))) (.region [.m 114 20, .m 4 114]))))))))))) (.region [.o 115 (.c .add 37 1), .m 37 115]))))
def c38 : ACode := (.seq (.region [.o 4 (.mv (.const (.slice none 0 0))), .k 5 0, .k 6 0]) (.seq (.seq (.region [.m 22 0, .m 23 1, .o 24 (.q 61 [22, 23]), .m 7 24]) (.seq (.region [.m 25 7, .o 26 (.c .neq 25 0)]) (.cond (.tmp 26) (.seq (.region [.m 27 7, .o 4 (.mv (.const (.slice none 0 0))), .k 5 0, .m 6 27]) .ret) .skip))) (.seq (.region [.m 29 0, .o 30 (.q 36 [29]), .m 28 30, .o 31 (.e 0 28), .o 32 (.e 1 28), .m 8 31, .m 9 32]) (.seq (.region [.o 33 (.mkSl 3 1 1 [(.const (.int .i64 1))]), .o 34 (.mkSl 3 1 1 [(.const (.int .i64 1))]), .m 4 33, .m 10 34]) (.seq (.region [.k 11 1, .k 12 1]) (.seq (.seq (.region [.m 35 1, .o 36 (.n 35), .k 37 0]) (.block 0 [4, 5] (.loop [0, 1, 4, 5, 8, 10, 11, 12, 36, 37] c38L2))) (.seq (.region [.m 116 4, .m 117 5, .m 4 116, .m 5 117, .k 6 0]) .ret)))))))
def F38 : AFun := ⟨c38, 2, 118, [(.tmp 4), (.tmp 5), (.tmp 6)]⟩
def K38 : Nat → List Nat × List Nat
 | 0 => ([0, 1, 4, 5, 8, 10, 11, 12, 36, 37], [4, 5])
 | 1 => ([], [0, 1, 4, 5, 8, 10, 11, 12, 36, 37])
 | 2 => ([0, 1, 4, 5, 8, 10, 11, 12, 13, 14, 36, 37, 40, 41, 42], [0, 1, 4, 5, 8, 10, 11, 12, 13, 14, 36, 37])
 | 3 => ([], [0, 1, 4, 5, 8, 10, 11, 12, 13, 14, 36, 37, 40, 41, 42])
 | 4 => ([0, 1, 4, 5, 8, 10, 11, 12, 13, 14, 17, 18, 36, 37, 80, 81], [0, 1, 4, 5, 8, 10, 11, 12, 13, 14, 17, 36, 37])
 | 5 => ([], [0, 1, 4, 5, 8, 10, 11, 12, 13, 14, 17, 18, 36, 37, 80, 81])
 | _ => ([], [])
theorem F38_ok : kj8 Try.prog K38 Try.f38 = some F38 := by kernel_rfl
/- 41: syndrome/syndromeref.Raw -/
def c41 : ACode := (.seq (.region [.k 4 0]) (.seq (.seq (.region [.m 5 0, .o 6 (.n 5), .o 7 (.c .eql 6 0)]) (.cond (.tmp 7) (.seq (.region [.m 8 1, .m 4 8]) .ret) .skip)) (.seq (.region [.m 9 0, .m 10 1, .m 11 0, .o 12 (.n 11), .o 13 (.b .rem 10 12), .o 14 (.i 1 9 13), .o 15 (.l 14), .m 16 1, .m 17 0, .o 18 (.n 17), .o 19 (.b .quo 16 18), .o 20 (.c .mul 19 7919), .o 21 (.b .add 15 20), .m 4 21]) .ret)))
def F41 : AFun := ⟨c41, 2, 22, [(.tmp 4)]⟩
def K41 : Nat → List Nat × List Nat
 | _ => ([], [])
theorem F41_ok : kj8 Try.prog K41 Try.f41 = some F41 := by kernel_rfl
/- 53: (*syndrome/field.Field).Has -/
def c53 : ACode := (.seq (.region [.o 4 (.mv (.const (.bool false)))]) (.seq (.region [.m 5 1, .o 6 (.c .geq 5 0), .m 7 6, .g 8 (.m 1) 7 true, .g 9 (.m 0) 7 true, .g 10 (.nilck (.tmp 9)) 7 true, .g 11 (.f 0 10) 7 true, .g 12 (.l 11) 7 true, .g 13 (.b .lss 8 12) 7 true, .o 14 (.pick (.tmp 7) (.tmp 13) (.const (.bool false))), .m 4 14]) .ret))
def F53 : AFun := ⟨c53, 2, 15, [(.tmp 4)]⟩
def K53 : Nat → List Nat × List Nat
 | _ => ([], [])
theorem F53_ok : kj8 Try.prog K53 Try.f53 = some F53 := by kernel_rfl
/- 54: syndrome/syndromeref.Sizes -/
def c54L0 : ACode := (.seq (.seq (.region [.m 5 2, .o 6 (.c .leq 5 64)]) (.cond (.tmp 6) .skip (.exit 0))) (.seq (.block 1 [1, 2] (.seq (.region [.m 10 2, .o 11 (.q 81 [10]), .m 9 11, .o 12 (.e 0 9), .o 13 (.e 1 9), .m 3 12, .m 4 13]) (.seq (.region [.m 14 3, .o 15 (.c .gtr 14 0)]) (.cond (.tmp 15) (.region [.m 16 1, .m 17 2, .o 18 (.mkSl 3 1 1 [(.tmp 17)]), .o 19 (.app 3 1 8 (.tmp 16) (.tmp 18)), .m 1 19]) .skip)))) (.region [.m 7 2, .o 8 (.c .add 7 1), .m 2 8])))
def c54 : ACode := (.seq (.region [.o 0 (.mv (.const (.slice none 0 0)))]) (.seq (.region [.o 1 (.mv (.const (.slice none 0 0)))]) (.seq (.seq (.region [.k 2 2]) (.block 0 [1] (.loop [1, 2] c54L0))) (.seq (.region [.m 20 1, .m 0 20]) .ret))))
def F54 : AFun := ⟨c54, 0, 21, [(.tmp 0)]⟩
def K54 : Nat → List Nat × List Nat
 | 0 => ([1, 2], [1])
 | 1 => ([], [1, 2])
 | _ => ([], [])
theorem F54_ok : kj8 Try.prog K54 Try.f54 = some F54 := by kernel_rfl
/- 55: syndrome/field.prime -/
def c55L0 : ACode := (.seq (.seq (.region [.m 4 0, .m 5 2, .o 6 (.b .rem 4 5), .o 7 (.c .neq 6 0)]) (.cond (.tmp 7) .skip (.exit 0))) (.block 1 [0, 2, 3] (.region [.m 8 2, .o 9 (.c .add 8 1), .m 2 9])))
def c55L1 : ACode := (.seq (.seq (.region [.m 10 0, .m 11 2, .o 12 (.b .rem 10 11), .o 13 (.c .eql 12 0)]) (.cond (.tmp 13) .skip (.exit 2))) (.seq (.block 3 [0, 2, 3] (.region [.m 17 3, .o 18 (.c .add 17 1), .m 3 18])) (.region [.m 14 0, .m 15 2, .o 16 (.b .quo 14 15), .m 0 16])))
def c55 : ACode := (.seq (.region [.k 2 0, .k 3 0]) (.seq (.region [.k 2 2]) (.seq (.block 0 [0, 2, 3] (.loop [0, 2, 3] c55L0)) (.seq (.block 2 [0, 2, 3] (.loop [0, 2, 3] c55L1)) (.seq (.seq (.region [.m 19 0, .o 20 (.c .neq 19 1)]) (.cond (.tmp 20) (.seq (.region [.k 2 0, .k 3 0]) .ret) .skip)) (.seq (.region [.m 21 2, .m 22 3, .m 2 21, .m 3 22]) .ret))))))
def F55 : AFun := ⟨c55, 1, 23, [(.tmp 2), (.tmp 3)]⟩
def K55 : Nat → List Nat × List Nat
 | 0 => ([0, 2, 3], [0, 2, 3])
 | 1 => ([], [0, 2, 3])
 | 2 => ([0, 2, 3], [0, 2, 3])
 | 3 => ([], [0, 2, 3])
 | _ => ([], [])
theorem F55_ok : kj8 Try.prog K55 Try.f55 = some F55 := by kernel_rfl
/- 57: syndrome/field.digits -/
def c57L0 : ACode := (.seq (.region [.o 14 (.b .lss 13 12)]) (.seq (.cond (.tmp 14) .skip (.exit 0)) (.seq (.block 1 [0, 1, 7, 12, 13] (.seq (.region [.m 15 13, .m 8 15]) (.seq (.region [.m 16 7, .m 17 8, .m 18 0, .m 19 1, .o 20 (.b .rem 18 19), .o 21 (.i 1 16 17), .n (.st 1 (.tmp 21) (.tmp 20))]) (.region [.m 22 0, .m 23 1, .o 24 (.b .quo 22 23), .m 0 24])))) (.region [.o 25 (.c .add 13 1), .m 13 25]))))
def c57 : ACode := (.seq (.region [.o 6 (.mv (.const (.slice none 0 0)))]) (.seq (.region [.m 9 2, .o 10 (.mks 3 1 8 [(.int .i64 0)] (.tmp 9) (.tmp 9)), .m 7 10]) (.seq (.seq (.region [.m 11 7, .o 12 (.n 11), .k 13 0]) (.block 0 [7] (.loop [0, 1, 7, 12, 13] c57L0))) (.seq (.region [.m 26 7, .m 6 26]) .ret))))
def F57 : AFun := ⟨c57, 3, 27, [(.tmp 6)]⟩
def K57 : Nat → List Nat × List Nat
 | 0 => ([0, 1, 7, 12, 13], [7])
 | 1 => ([], [0, 1, 7, 12, 13])
 | _ => ([], [])
theorem F57_ok : kj8 Try.prog K57 Try.f57 = some F57 := by kernel_rfl
/- 59: syndrome/field.New$1 -/
def c59 : ACode := (.region [.o 2 (.l 0), .o 3 (.l 0), ⟨(some 4), (.call 60 [(.tmp 3)]), none, true⟩, .o 5 (.f 195 1), .o 6 (.iaddrA 65 1 (.tmp 5) (.tmp 2)), .n (.st 1 (.tmp 6) (.tmp 4))])
def F59 : AFun := ⟨c59, 2, 7, []⟩
def K59 : Nat → List Nat × List Nat
 | _ => ([], [])
theorem F59_ok : kj8 Try.prog K59 Try.f59 = some F59 := by kernel_rfl
/- 60: syndrome/field.build -/
def c60L0 : ACode := (.seq (.seq (.region [.m 28 5, .o 29 (.q 84 [28]), .o 30 (.un .not (.tmp 29))]) (.cond (.tmp 30) .skip (.exit 0))) (.seq (.block 1 [5] .skip) (.region [.m 31 5, .o 32 (.nilck (.tmp 31)), .o 33 (.f 4 32), .o 34 (.l 33), .o 35 (.c .add 34 1), .o 36 (.nilck (.tmp 31)), .o 37 (.f 4 36), .n (.st 1 (.tmp 37) (.tmp 35))])))
def c60L1 : ACode := (.seq (.region [.o 45 (.b .lss 44 43)]) (.seq (.cond (.tmp 45) .skip (.exit 2)) (.seq (.block 3 [3, 4, 5, 43, 44] (.seq (.region [.m 46 44, .m 6 46]) (.seq (.region [.m 47 5, .m 48 6, .m 49 3, .m 50 4, .o 51 (.q 57 [48, 49, 50]), .o 52 (.mkSl 3 1 1 [(.const (.int .i64 1))]), .o 53 (.app 3 1 8 (.tmp 51) (.tmp 52)), .o 54 (.nilck (.tmp 47)), .o 55 (.f 3 54), .n (.st 1 (.tmp 55) (.tmp 53))]) (.seq (.region [.m 56 5, .o 57 (.q 84 [56])]) (.cond (.tmp 57) (.seq (.region [.m 58 5, .m 2 58]) .ret) .skip))))) (.region [.o 59 (.c .add 44 1), .m 44 59]))))
def c60 : ACode := (.seq (.region [.o 2 (.mv (.const (.pointer none)))]) (.seq (.region [.m 8 0, .o 9 (.q 55 [8]), .m 7 9, .o 10 (.e 0 7), .o 11 (.e 1 7), .m 3 10, .m 4 11]) (.seq (.seq (.region [.m 12 3, .o 13 (.c .eql 12 0)]) (.cond (.tmp 13) (.seq (.region [.o 2 (.mv (.const (.pointer none)))]) .ret) .skip)) (.seq (.region [.m 14 0, .m 15 3, .m 16 4, .o 17 (.build [(.int .i64 0), (.int .i64 0), (.int .i64 0), (.slice none 0 0), (.int .i64 0), (.slice none 0 0), (.slice none 0 0)] [(0, 1), (1, 1), (2, 1), (3, 1), (4, 1), (5, 1), (6, 1)] [(0, (.tmp 14)), (1, (.tmp 15)), (2, (.tmp 16))]), .o 18 (.box 72 7 (.tmp 17)), .m 5 18]) (.seq (.seq (.region [.m 19 4, .o 20 (.c .eql 19 1)]) (.cond (.tmp 20) (.seq (.region [.m 21 5, .o 22 (.mkSl 3 1 2 [(.const (.int .i64 0)), (.const (.int .i64 1))]), .o 23 (.nilck (.tmp 21)), .o 24 (.f 3 23), .n (.st 1 (.tmp 24) (.tmp 22))]) (.seq (.seq (.region [.m 25 5, .o 26 (.nilck (.tmp 25)), .o 27 (.f 4 26), .n (.st 1 (.tmp 27) (.const (.int .i64 1)))]) (.block 0 [5] (.loop [5] c60L0))) (.seq (.region [.m 38 5, .m 2 38]) .ret))) .skip)) (.seq (.region [.m 39 5, .m 40 3, .o 41 (.nilck (.tmp 39)), .o 42 (.f 4 41), .n (.st 1 (.tmp 42) (.tmp 40))]) (.seq (.seq (.region [.m 43 0, .k 44 0]) (.block 2 [] (.loop [3, 4, 5, 43, 44] c60L1))) (.seq (.region [.o 2 (.mv (.const (.pointer none)))]) .ret))))))))
def F60 : AFun := ⟨c60, 1, 60, [(.tmp 2)]⟩
def K60 : Nat → List Nat × List Nat
 | 0 => ([5], [5])
 | 1 => ([], [5])
 | 2 => ([3, 4, 5, 43, 44], [])
 | 3 => ([], [3, 4, 5, 43, 44])
 | _ => ([], [])
theorem F60_ok : kj8 Try.prog K60 Try.f60 = some F60 := by kernel_rfl
/- 61: syndrome/poly.Check -/
def c61L0 : ACode := (.seq (.region [.o 23 (.b .lss 22 21)]) (.seq (.cond (.tmp 23) .skip (.exit 0)) (.seq (.block 1 [5, 20, 21, 22] (.seq (.region [.o 24 (.i 1 20 22), .o 25 (.l 24), .m 8 25]) (.seq (.region [.m 26 5, .m 27 8, .o 28 (.q 53 [26, 27]), .o 29 (.un .not (.tmp 28))]) (.cond (.tmp 29) (.seq (.region [.k 4 2]) .ret) .skip)))) (.region [.o 30 (.c .add 22 1), .m 22 30]))))
def c61 : ACode := (.seq (.region [.k 4 0]) (.seq (.region [.m 10 0, .o 11 (.q 36 [10]), .m 9 11, .o 12 (.e 0 9), .o 13 (.e 1 9), .m 5 12, .m 6 13]) (.seq (.seq (.region [.m 14 6, .o 15 (.c .neq 14 0)]) (.cond (.tmp 15) (.seq (.region [.m 16 6, .m 4 16]) .ret) .skip)) (.seq (.seq (.region [.m 17 1, .o 18 (.n 17), .o 19 (.c .gtr 18 128)]) (.cond (.tmp 19) (.seq (.region [.k 4 4]) .ret) .skip)) (.seq (.seq (.region [.m 20 1, .o 21 (.n 20), .k 22 0]) (.block 0 [] (.loop [5, 20, 21, 22] c61L0))) (.seq (.region [.k 4 0]) .ret))))))
def F61 : AFun := ⟨c61, 2, 31, [(.tmp 4)]⟩
def K61 : Nat → List Nat × List Nat
 | 0 => ([5, 20, 21, 22], [])
 | 1 => ([], [5, 20, 21, 22])
 | _ => ([], [])
theorem F61_ok : kj8 Try.prog K61 Try.f61 = some F61 := by kernel_rfl
/- 62: syndrome/poly.Add -/
def c62L0 : ACode := (.seq (.region [.o 34 (.b .lss 33 32)]) (.seq (.cond (.tmp 34) .skip (.exit 0)) (.seq (.block 1 [1, 8, 31, 32, 33] (.seq (.region [.m 35 33, .o 36 (.i 1 31 33), .o 37 (.l 36), .m 10 35, .m 11 37]) (.region [.m 38 1, .m 39 10, .m 40 8, .m 41 1, .m 42 10, .o 43 (.i 1 41 42), .o 44 (.l 43), .m 45 11, .o 46 (.q 21 [40, 44, 45]), .o 47 (.i 1 38 39), .n (.st 1 (.tmp 47) (.tmp 46))]))) (.region [.o 48 (.c .add 33 1), .m 33 48]))))
def c62 : ACode := (.seq (.region [.o 6 (.mv (.const (.slice none 0 0))), .k 7 0]) (.seq (.region [.m 13 0, .m 14 1, .m 15 2, .o 16 (.q 85 [13, 14, 15]), .m 12 16, .o 17 (.e 0 12), .o 18 (.e 1 12), .o 19 (.e 2 12), .o 20 (.e 3 12), .m 8 17, .m 1 18, .m 2 19, .m 9 20]) (.seq (.seq (.region [.m 21 9, .o 22 (.c .neq 21 0)]) (.cond (.tmp 22) (.seq (.region [.m 23 9, .o 6 (.mv (.const (.slice none 0 0))), .m 7 23]) .ret) .skip)) (.seq (.seq (.region [.m 24 1, .o 25 (.n 24), .m 26 2, .o 27 (.n 26), .o 28 (.b .lss 25 27)]) (.cond (.tmp 28) (.region [.m 29 2, .m 30 1, .m 1 29, .m 2 30]) .skip)) (.seq (.seq (.region [.m 31 2, .o 32 (.n 31), .k 33 0]) (.block 0 [1] (.loop [1, 8, 31, 32, 33] c62L0))) (.seq (.region [.m 49 1, .o 50 (.q 86 [49]), .m 6 50, .k 7 0]) .ret))))))
def F62 : AFun := ⟨c62, 3, 51, [(.tmp 6), (.tmp 7)]⟩
def K62 : Nat → List Nat × List Nat
 | 0 => ([1, 8, 31, 32, 33], [1])
 | 1 => ([], [1, 8, 31, 32, 33])
 | _ => ([], [])
theorem F62_ok : kj8 Try.prog K62 Try.f62 = some F62 := by kernel_rfl
/- 68: slices.Clone[[]int,int] -/
def c68 : ACode := (.seq (.region [.o 2 (.mv (.const (.slice none 0 0)))]) (.seq (.seq (.region [.m 3 0, .o 4 (.eqn false 0 (.tmp 3))]) (.cond (.tmp 4) (.seq (.region [.o 2 (.mv (.const (.slice none 0 0)))]) .ret) .skip)) (.seq (.region [.o 5 (.mkSl 3 1 0 []), .m 6 0, .o 7 (.app 3 1 8 (.tmp 5) (.tmp 6)), .m 2 7]) .ret)))
def F68 : AFun := ⟨c68, 1, 8, [(.tmp 2)]⟩
def K68 : Nat → List Nat × List Nat
 | _ => ([], [])
theorem F68_ok : kj8 Try.prog K68 Try.f68 = some F68 := by kernel_rfl
/- 81: syndrome/syndromeref.Prime -/
def c81L0 : ACode := (.seq (.seq (.region [.m 15 0, .m 16 4, .o 17 (.b .rem 15 16), .o 18 (.c .eql 17 0)]) (.cond (.tmp 18) .skip (.exit 2))) (.block 3 [0, 4, 5] (.seq (.region [.m 19 0, .m 20 4, .o 21 (.b .quo 19 20), .m 0 21]) (.region [.m 22 5, .o 23 (.c .add 22 1), .m 5 23]))))
def c81L1 : ACode := (.seq (.seq (.region [.m 6 4, .m 7 0, .o 8 (.b .leq 6 7)]) (.cond (.tmp 8) .skip (.exit 0))) (.seq (.block 1 [0, 4] (.seq (.seq (.region [.m 11 0, .m 12 4, .o 13 (.b .rem 11 12), .o 14 (.c .neq 13 0)]) (.cond (.tmp 14) (.exit 1) .skip)) (.seq (.region [.k 5 0]) (.seq (.block 2 [0, 4, 5] (.loop [0, 4, 5] c81L0)) (.seq (.seq (.region [.m 24 0, .o 25 (.c .eql 24 1)]) (.cond (.tmp 25) (.seq (.region [.m 26 4, .m 27 5, .m 2 26, .m 3 27]) .ret) .skip)) (.seq (.region [.k 2 0, .k 3 0]) .ret)))))) (.region [.m 9 4, .o 10 (.c .add 9 1), .m 4 10])))
def c81 : ACode := (.seq (.region [.k 2 0, .k 3 0]) (.seq (.seq (.region [.k 4 2]) (.block 0 [] (.loop [0, 4] c81L1))) (.seq (.region [.k 2 0, .k 3 0]) .ret)))
def F81 : AFun := ⟨c81, 1, 28, [(.tmp 2), (.tmp 3)]⟩
def K81 : Nat → List Nat × List Nat
 | 0 => ([0, 4], [])
 | 1 => ([], [0, 4])
 | 2 => ([0, 4, 5], [0, 4, 5])
 | 3 => ([], [0, 4, 5])
 | _ => ([], [])
theorem F81_ok : kj8 Try.prog K81 Try.f81 = some F81 := by kernel_rfl
/- 84: (*syndrome/field.Field).fill -/
def c84L0 : ACode := (.seq (.region [.o 29 (.b .lss 28 27)]) (.seq (.cond (.tmp 29) .skip (.exit 0)) (.seq (.block 1 [0, 27, 28] (.seq (.region [.m 30 28, .m 3 30]) (.region [.m 31 0, .o 32 (.nilck (.tmp 31)), .o 33 (.f 6 32), .o 34 (.l 33), .m 35 3, .o 36 (.i 1 34 35), .n (.st 1 (.tmp 36) (.const (.int .i64 (-1))))]))) (.region [.o 37 (.c .add 28 1), .m 28 37]))))
def c84L1 : ACode := (.seq (.region [.o 44 (.b .lss 43 42)]) (.seq (.cond (.tmp 44) .skip (.exit 2)) (.seq (.block 3 [0, 4, 42, 43] (.seq (.region [.m 45 43, .m 5 45]) (.seq (.seq (.region [.m 46 4, .o 47 (.c .eql 46 0), .m 48 47, .g 49 (.m 0) 48 false, .g 50 (.nilck (.tmp 49)) 48 false, .g 51 (.f 6 50) 48 false, .g 52 (.l 51) 48 false, .g 53 (.m 4) 48 false, .g 54 (.i 1 52 53) 48 false, .g 55 (.l 54) 48 false, .g 56 (.c .geq 55 0) 48 false, .o 57 (.pick (.tmp 48) (.const (.bool true)) (.tmp 56))]) (.cond (.tmp 57) (.seq (.region [.o 2 (.mv (.const (.bool false)))]) .ret) .skip)) (.seq (.region [.m 58 0, .o 59 (.nilck (.tmp 58)), .o 60 (.f 5 59), .o 61 (.l 60), .m 62 5, .m 63 0, .o 64 (.nilck (.tmp 63)), .o 65 (.f 6 64), .o 66 (.l 65), .m 67 4, .m 68 4, .m 69 5, .o 70 (.i 1 61 62), .n (.st 1 (.tmp 70) (.tmp 68)), .o 71 (.i 1 66 67), .n (.st 1 (.tmp 71) (.tmp 69))]) (.region [.m 72 0, .m 73 4, .o 74 (.q 101 [72, 73]), .m 4 74]))))) (.region [.o 75 (.c .add 43 1), .m 43 75]))))
def c84 : ACode := (.seq (.region [.o 2 (.mv (.const (.bool false)))]) (.seq (.region [.m 6 0, .m 7 0, .o 8 (.nilck (.tmp 7)), .o 9 (.f 0 8), .o 10 (.l 9), .o 11 (.c .sub 10 1), .o 12 (.mks 3 1 8 [(.int .i64 0)] (.tmp 11) (.tmp 11)), .o 13 (.nilck (.tmp 6)), .o 14 (.f 5 13), .n (.st 1 (.tmp 14) (.tmp 12))]) (.seq (.region [.m 15 0, .m 16 0, .o 17 (.nilck (.tmp 16)), .o 18 (.f 0 17), .o 19 (.l 18), .o 20 (.mks 3 1 8 [(.int .i64 0)] (.tmp 19) (.tmp 19)), .o 21 (.nilck (.tmp 15)), .o 22 (.f 6 21), .n (.st 1 (.tmp 22) (.tmp 20))]) (.seq (.seq (.region [.m 23 0, .o 24 (.nilck (.tmp 23)), .o 25 (.f 6 24), .o 26 (.l 25), .o 27 (.n 26), .k 28 0]) (.block 0 [0] (.loop [0, 27, 28] c84L0))) (.seq (.region [.k 4 1]) (.seq (.seq (.region [.m 38 0, .o 39 (.nilck (.tmp 38)), .o 40 (.f 0 39), .o 41 (.l 40), .o 42 (.c .sub 41 1), .k 43 0]) (.block 2 [4] (.loop [0, 4, 42, 43] c84L1))) (.seq (.region [.m 76 4, .o 77 (.c .eql 76 1), .m 2 77]) .ret)))))))
def F84 : AFun := ⟨c84, 1, 78, [(.tmp 2)]⟩
def K84 : Nat → List Nat × List Nat
 | 0 => ([0, 27, 28], [0])
 | 1 => ([], [0, 27, 28])
 | 2 => ([0, 4, 42, 43], [4])
 | 3 => ([], [0, 4, 42, 43])
 | _ => ([], [])
theorem F84_ok : kj8 Try.prog K84 Try.f84 = some F84 := by kernel_rfl
/- 85: syndrome/poly.both -/
def c85 : ACode := (.seq (.region [.o 6 (.mv (.const (.pointer none))), .o 7 (.mv (.const (.slice none 0 0))), .o 8 (.mv (.const (.slice none 0 0))), .k 9 0]) (.seq (.region [.m 13 0, .m 14 1, .o 15 (.q 61 [13, 14]), .m 10 15]) (.seq (.seq (.region [.m 16 10, .o 17 (.c .eql 16 0)]) (.cond (.tmp 17) (.region [.m 18 0, .m 19 2, .o 20 (.q 61 [18, 19]), .m 10 20]) .skip)) (.seq (.seq (.region [.m 21 10, .o 22 (.c .neq 21 0)]) (.cond (.tmp 22) (.seq (.region [.m 23 10, .o 6 (.mv (.const (.pointer none))), .o 7 (.mv (.const (.slice none 0 0))), .o 8 (.mv (.const (.slice none 0 0))), .m 9 23]) .ret) .skip)) (.seq (.region [.m 25 0, .o 26 (.q 36 [25]), .m 24 26, .o 27 (.e 0 24), .o 28 (.e 1 24), .m 11 27, .m 12 28]) (.seq (.region [.m 29 11, .m 30 1, .o 31 (.q 86 [30]), .m 32 2, .o 33 (.q 86 [32]), .m 6 29, .m 7 31, .m 8 33, .k 9 0]) .ret))))))
def F85 : AFun := ⟨c85, 3, 34, [(.tmp 6), (.tmp 7), (.tmp 8), (.tmp 9)]⟩
def K85 : Nat → List Nat × List Nat
 | _ => ([], [])
theorem F85_ok : kj8 Try.prog K85 Try.f85 = some F85 := by kernel_rfl
/- 86: syndrome/poly.trim -/
def c86L0 : ACode := (.seq (.seq (.region [.m 6 3, .o 7 (.c .gtr 6 0), .m 8 7, .g 9 (.m 0) 8 true, .g 10 (.m 3) 8 true, .g 11 (.c .sub 10 1) 8 true, .g 12 (.i 1 9 11) 8 true, .g 13 (.l 12) 8 true, .g 14 (.c .eql 13 0) 8 true, .o 15 (.pick (.tmp 8) (.tmp 14) (.const (.bool false)))]) (.cond (.tmp 15) .skip (.exit 0))) (.block 1 [0, 3] (.region [.m 16 3, .o 17 (.c .sub 16 1), .m 3 17])))
def c86 : ACode := (.seq (.region [.o 2 (.mv (.const (.slice none 0 0)))]) (.seq (.region [.m 4 0, .o 5 (.n 4), .m 3 5]) (.seq (.block 0 [0, 3] (.loop [0, 3] c86L0)) (.seq (.region [.m 18 0, .m 19 3, .o 20 (.sl 1 (.tmp 18) none (some (.tmp 19))), .o 21 (.q 68 [20]), .m 2 21]) .ret))))
def F86 : AFun := ⟨c86, 1, 22, [(.tmp 2)]⟩
def K86 : Nat → List Nat × List Nat
 | 0 => ([0, 3], [0, 3])
 | 1 => ([], [0, 3])
 | _ => ([], [])
theorem F86_ok : kj8 Try.prog K86 Try.f86 = some F86 := by kernel_rfl
/- 101: (*syndrome/field.Field).turn -/
def c101L0 : ACode := (.seq (.region [.o 57 (.b .lss 56 55)]) (.seq (.cond (.tmp 57) .skip (.exit 0)) (.seq (.block 1 [0, 5, 6, 55, 56] (.seq (.region [.m 58 56, .m 7 58]) (.region [.m 59 5, .m 60 7, .m 61 5, .m 62 7, .o 63 (.i 1 61 62), .o 64 (.l 63), .m 65 6, .m 66 0, .o 67 (.nilck (.tmp 66)), .o 68 (.f 1 67), .o 69 (.l 68), .m 70 0, .o 71 (.nilck (.tmp 70)), .o 72 (.f 3 71), .o 73 (.l 72), .m 74 7, .o 75 (.i 1 73 74), .o 76 (.l 75), .o 77 (.b .sub 69 76), .o 78 (.b .mul 65 77), .o 79 (.b .add 64 78), .m 80 0, .o 81 (.nilck (.tmp 80)), .o 82 (.f 1 81), .o 83 (.l 82), .o 84 (.b .rem 79 83), .o 85 (.i 1 59 60), .n (.st 1 (.tmp 85) (.tmp 84))]))) (.region [.o 86 (.c .add 56 1), .m 56 86]))))
def c101 : ACode := (.seq (.region [.k 4 0]) (.seq (.seq (.region [.m 8 0, .o 9 (.nilck (.tmp 8)), .o 10 (.f 2 9), .o 11 (.l 10), .o 12 (.c .eql 11 1)]) (.cond (.tmp 12) (.seq (.region [.m 13 1, .m 14 0, .o 15 (.nilck (.tmp 14)), .o 16 (.f 4 15), .o 17 (.l 16), .o 18 (.b .mul 13 17), .m 19 0, .o 20 (.nilck (.tmp 19)), .o 21 (.f 1 20), .o 22 (.l 21), .o 23 (.b .rem 18 22), .m 4 23]) .ret) .skip)) (.seq (.region [.m 24 1, .m 25 0, .o 26 (.nilck (.tmp 25)), .o 27 (.f 1 26), .o 28 (.l 27), .m 29 0, .o 30 (.nilck (.tmp 29)), .o 31 (.f 2 30), .o 32 (.l 31), .o 33 (.q 57 [24, 28, 32]), .m 5 33]) (.seq (.region [.m 34 5, .m 35 0, .o 36 (.nilck (.tmp 35)), .o 37 (.f 2 36), .o 38 (.l 37), .o 39 (.c .sub 38 1), .o 40 (.i 1 34 39), .o 41 (.l 40), .m 6 41]) (.seq (.region [.m 42 5, .o 43 (.sl 1 (.tmp 42) (some (.const (.int .i64 1))) none), .m 44 5, .m 45 0, .o 46 (.nilck (.tmp 45)), .o 47 (.f 2 46), .o 48 (.l 47), .o 49 (.c .sub 48 1), .o 50 (.sl 1 (.tmp 44) none (some (.tmp 49))), .o 51 (.cpy 1 (.tmp 43) (.tmp 50))]) (.seq (.region [.m 52 5, .o 53 (.iaddr 1 (.tmp 52) (.const (.int .i64 0))), .n (.st 1 (.tmp 53) (.const (.int .i64 0)))]) (.seq (.seq (.region [.m 54 5, .o 55 (.n 54), .k 56 0]) (.block 0 [0, 5] (.loop [0, 5, 6, 55, 56] c101L0))) (.seq (.region [.m 87 5, .m 88 0, .o 89 (.nilck (.tmp 88)), .o 90 (.f 1 89), .o 91 (.l 90), .o 92 (.q 106 [87, 91]), .m 4 92]) .ret))))))))
def F101 : AFun := ⟨c101, 2, 93, [(.tmp 4)]⟩
def K101 : Nat → List Nat × List Nat
 | 0 => ([0, 5, 6, 55, 56], [0, 5])
 | 1 => ([], [0, 5, 6, 55, 56])
 | _ => ([], [])
theorem F101_ok : kj8 Try.prog K101 Try.f101 = some F101 := by kernel_rfl
/- 106: syndrome/field.number -/
def c106L0 : ACode := (.seq (.seq (.region [.m 10 6, .o 11 (.c .geq 10 0)]) (.cond (.tmp 11) .skip (.exit 0))) (.seq (.block 1 [0, 1, 5, 6] (.region [.m 14 5, .m 15 1, .o 16 (.b .mul 14 15), .m 17 0, .m 18 6, .o 19 (.i 1 17 18), .o 20 (.l 19), .o 21 (.b .add 16 20), .m 5 21])) (.region [.m 12 6, .o 13 (.c .sub 12 1), .m 6 13])))
def c106 : ACode := (.seq (.region [.k 4 0]) (.seq (.region [.k 5 0]) (.seq (.seq (.region [.m 7 0, .o 8 (.n 7), .o 9 (.c .sub 8 1), .m 6 9]) (.block 0 [5] (.loop [0, 1, 5, 6] c106L0))) (.seq (.region [.m 22 5, .m 4 22]) .ret))))
def F106 : AFun := ⟨c106, 2, 23, [(.tmp 4)]⟩
def K106 : Nat → List Nat × List Nat
 | 0 => ([0, 1, 5, 6], [5])
 | 1 => ([], [0, 1, 5, 6])
 | _ => ([], [])
theorem F106_ok : kj8 Try.prog K106 Try.f106 = some F106 := by kernel_rfl
end Go.Proofs.Ytghfdpdiibiigaa
