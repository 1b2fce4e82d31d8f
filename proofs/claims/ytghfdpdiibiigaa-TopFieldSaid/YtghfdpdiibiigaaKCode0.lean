/-
  Functions of this seat as the small machine's code, written by a program of my own (gen.py); each is checked to be what the model's function is turned into. No condition.
-/
import Derived.Test.YtghfdpdiibiigaaK1
import Derived.Test.YtghfdpdiibiigaaProg
set_option linter.unusedVariables false
set_option linter.unusedSimpArgs false
set_option linter.unusedSectionVars false
set_option maxRecDepth 100000
namespace Go.Proofs.Ytghfdpdiibiigaa
open Go.Am
/- 4: syndrome/syndrometop.TopField -/
def c4 : ACode := (.seq (.region [.o 8 (.mv (.const (.bool false)))]) (.seq (.region [.m 11 0, .o 12 (.q 19 [11]), .m 9 12]) (.seq (.seq (.region [.m 13 9, .o 14 (.eqn false 1 (.tmp 13))]) (.cond (.tmp 14) (.seq (.region [.o 8 (.mv (.const (.bool false)))]) .ret) .skip)) (.seq (.region [.m 15 9, .o 16 (.q 20 [15]), .m 10 16]) (.seq (.region [.m 17 1, .m 18 10, .o 19 (.q 9 [17, 18]), .m 1 19]) (.seq (.region [.m 20 2, .m 21 10, .o 22 (.q 9 [20, 21]), .m 2 22]) (.seq (.region [.m 23 3, .m 24 10, .o 25 (.q 9 [23, 24]), .m 3 25]) (.seq (.seq (.region [.m 26 9, .m 27 1, .m 28 2, .o 29 (.q 21 [26, 27, 28]), .m 30 9, .m 31 2, .m 32 1, .o 33 (.q 21 [30, 31, 32]), .o 34 (.b .neq 29 33), .m 35 34, .g 36 (.m 9) 35 false, .g 37 (.m 1) 35 false, .g 38 (.m 2) 35 false, .g 39 (.q 22 [36, 37, 38]) 35 false, .g 40 (.m 9) 35 false, .g 41 (.m 2) 35 false, .g 42 (.m 1) 35 false, .g 43 (.q 22 [40, 41, 42]) 35 false, .g 44 (.b .neq 39 43) 35 false, .o 45 (.pick (.tmp 35) (.const (.bool true)) (.tmp 44)), .m 46 45, .g 47 (.m 9) 46 false, .g 48 (.m 9) 46 false, .g 49 (.m 1) 46 false, .g 50 (.m 2) 46 false, .g 51 (.q 21 [48, 49, 50]) 46 false, .g 52 (.m 3) 46 false, .g 53 (.q 21 [47, 51, 52]) 46 false, .g 54 (.m 9) 46 false, .g 55 (.m 1) 46 false, .g 56 (.m 9) 46 false, .g 57 (.m 2) 46 false, .g 58 (.m 3) 46 false, .g 59 (.q 21 [56, 57, 58]) 46 false, .g 60 (.q 21 [54, 55, 59]) 46 false, .g 61 (.b .neq 53 60) 46 false, .o 62 (.pick (.tmp 46) (.const (.bool true)) (.tmp 61)), .m 63 62, .g 64 (.m 9) 63 false, .g 65 (.m 9) 63 false, .g 66 (.m 1) 63 false, .g 67 (.m 2) 63 false, .g 68 (.q 22 [65, 66, 67]) 63 false, .g 69 (.m 3) 63 false, .g 70 (.q 22 [64, 68, 69]) 63 false, .g 71 (.m 9) 63 false, .g 72 (.m 1) 63 false, .g 73 (.m 9) 63 false, .g 74 (.m 2) 63 false, .g 75 (.m 3) 63 false, .g 76 (.q 22 [73, 74, 75]) 63 false, .g 77 (.q 22 [71, 72, 76]) 63 false, .g 78 (.b .neq 70 77) 63 false, .o 79 (.pick (.tmp 63) (.const (.bool true)) (.tmp 78))]) (.cond (.tmp 79) (.seq (.region [.o 8 (.mv (.const (.bool false)))]) .ret) .skip)) (.seq (.seq (.region [.m 80 9, .m 81 1, .m 82 9, .m 83 2, .m 84 3, .o 85 (.q 21 [82, 83, 84]), .o 86 (.q 22 [80, 81, 85]), .m 87 9, .m 88 9, .m 89 1, .m 90 2, .o 91 (.q 22 [88, 89, 90]), .m 92 9, .m 93 1, .m 94 3, .o 95 (.q 22 [92, 93, 94]), .o 96 (.q 21 [87, 91, 95]), .o 97 (.b .neq 86 96), .m 98 97, .g 99 (.m 9) 98 false, .g 100 (.m 1) 98 false, .g 101 (.call 21 [(.tmp 99), (.tmp 100), (.const (.int .i64 0))]) 98 false, .g 102 (.m 1) 98 false, .g 103 (.b .neq 101 102) 98 false, .o 104 (.pick (.tmp 98) (.const (.bool true)) (.tmp 103)), .m 105 104, .g 106 (.m 9) 105 false, .g 107 (.m 1) 105 false, .g 108 (.call 22 [(.tmp 106), (.tmp 107), (.const (.int .i64 1))]) 105 false, .g 109 (.m 1) 105 false, .g 110 (.b .neq 108 109) 105 false, .o 111 (.pick (.tmp 105) (.const (.bool true)) (.tmp 110)), .m 112 111, .g 113 (.m 9) 112 false, .g 114 (.m 1) 112 false, .g 115 (.m 9) 112 false, .g 116 (.m 1) 112 false, .g 117 (.q 23 [115, 116]) 112 false, .g 118 (.q 21 [113, 114, 117]) 112 false, .g 119 (.c .neq 118 0) 112 false, .o 120 (.pick (.tmp 112) (.const (.bool true)) (.tmp 119)), .m 121 120, .g 122 (.m 9) 121 false, .g 123 (.m 9) 121 false, .g 124 (.m 1) 121 false, .g 125 (.m 2) 121 false, .g 126 (.q 21 [123, 124, 125]) 121 false, .g 127 (.m 2) 121 false, .g 128 (.q 24 [122, 126, 127]) 121 false, .g 129 (.m 1) 121 false, .g 130 (.b .neq 128 129) 121 false, .o 131 (.pick (.tmp 121) (.const (.bool true)) (.tmp 130))]) (.cond (.tmp 131) (.seq (.region [.o 8 (.mv (.const (.bool false)))]) .ret) .skip)) (.seq (.region [.m 132 9, .m 133 1, .o 134 (.q 25 [132, 133]), .o 135 (.c .eql 134 (-1)), .m 136 1, .o 137 (.c .eql 136 0), .o 138 (.eqb false (.tmp 135) (.tmp 137)), .m 139 138, .g 140 (.m 1) 139 true, .g 141 (.c .eql 140 0) 139 true, .g 142 (.m 141) 139 true, .g 143 (.m 9) 142 false, .g 144 (.m 1) 142 false, .g 145 (.m 9) 142 false, .g 146 (.m 1) 142 false, .g 147 (.q 25 [145, 146]) 142 false, .g 148 (.q 22 [143, 144, 147]) 142 false, .g 149 (.c .eql 148 1) 142 false, .g 150 (.m 149) 142 false, .g 151 (.m 9) 150 true, .g 152 (.m 9) 150 true, .g 153 (.q 27 [152]) 150 true, .g 154 (.m 9) 150 true, .g 155 (.m 1) 150 true, .g 156 (.q 28 [154, 155]) 150 true, .g 157 (.q 26 [151, 153, 156]) 150 true, .g 158 (.m 1) 150 true, .g 159 (.b .eql 157 158) 150 true, .g 160 (.pick (.tmp 150) (.tmp 159) (.const (.bool false))) 142 false, .g 161 (.pick (.tmp 142) (.const (.bool true)) (.tmp 160)) 139 true, .o 162 (.pick (.tmp 139) (.tmp 161) (.const (.bool false))), .m 8 162]) .ret))))))))))
def F4 : AFun := ⟨c4, 4, 163, [(.tmp 8)]⟩
def K4 : Nat → List Nat × List Nat
 | _ => ([], [])
theorem F4_ok : kj8 Try.prog K4 Try.f4 = some F4 := by kernel_rfl
/- 9: syndrome/syndromeref.Pick -/
def c9 : ACode := (.seq (.region [.k 4 0]) (.seq (.seq (.region [.m 5 0, .o 6 (.c .lss 5 0)]) (.cond (.tmp 6) (.region [.m 7 0, .o 8 (.c .add 7 1), .o 9 (.un .neg (.tmp 8)), .m 0 9]) .skip)) (.seq (.region [.m 10 0, .m 11 1, .o 12 (.b .rem 10 11), .m 4 12]) .ret)))
def F9 : AFun := ⟨c9, 2, 13, [(.tmp 4)]⟩
def K9 : Nat → List Nat × List Nat
 | _ => ([], [])
theorem F9_ok : kj8 Try.prog K9 Try.f9 = some F9 := by kernel_rfl
/- 19: syndrome/syndrometop.fieldOf -/
def c19 : ACode := (.seq (.region [.o 2 (.mv (.const (.pointer none)))]) (.seq (.region [.m 6 0, .o 7 (.q 33 [6]), .o 8 (.q 36 [7]), .m 5 8, .o 9 (.e 0 5), .o 10 (.e 1 5), .m 3 9, .m 4 10]) (.seq (.seq (.region [.m 11 4, .o 12 (.c .neq 11 0), .m 13 12, .g 14 (.m 3) 13 false, .g 15 (.eqn false 1 (.tmp 14)) 13 false, .o 16 (.pick (.tmp 13) (.const (.bool true)) (.tmp 15)), .m 17 16, .g 18 (.m 3) 17 false, .g 19 (.q 20 [18]) 17 false, .g 20 (.m 0) 17 false, .g 21 (.q 33 [20]) 17 false, .g 22 (.b .neq 19 21) 17 false, .o 23 (.pick (.tmp 17) (.const (.bool true)) (.tmp 22)), .m 24 23, .g 25 (.m 3) 24 false, .g 26 (.q 29 [25]) 24 false, .g 27 (.c .lss 26 2) 24 false, .o 28 (.pick (.tmp 24) (.const (.bool true)) (.tmp 27))]) (.cond (.tmp 28) (.seq (.region [.o 2 (.mv (.const (.pointer none)))]) .ret) .skip)) (.seq (.region [.m 29 3, .m 2 29]) .ret))))
def F19 : AFun := ⟨c19, 1, 30, [(.tmp 2)]⟩
def K19 : Nat → List Nat × List Nat
 | _ => ([], [])
theorem F19_ok : kj8 Try.prog K19 Try.f19 = some F19 := by kernel_rfl
/- 20: (*syndrome/field.Field).Size -/
def c20 : ACode := (.seq (.region [.k 2 0]) (.seq (.region [.m 3 0, .o 4 (.nilck (.tmp 3)), .o 5 (.f 0 4), .o 6 (.l 5), .m 2 6]) .ret))
def F20 : AFun := ⟨c20, 1, 7, [(.tmp 2)]⟩
def K20 : Nat → List Nat × List Nat
 | _ => ([], [])
theorem F20_ok : kj8 Try.prog K20 Try.f20 = some F20 := by kernel_rfl
/- 21: (*syndrome/field.Field).Add -/
def c21L0 : ACode := (.seq (.region [.o 24 (.b .lss 23 22)]) (.seq (.cond (.tmp 24) .skip (.exit 0)) (.seq (.block 1 [0, 1, 2, 7, 8, 22, 23] (.seq (.region [.m 25 7, .m 26 1, .m 27 0, .o 28 (.nilck (.tmp 27)), .o 29 (.f 1 28), .o 30 (.l 29), .o 31 (.b .rem 26 30), .m 32 2, .m 33 0, .o 34 (.nilck (.tmp 33)), .o 35 (.f 1 34), .o 36 (.l 35), .o 37 (.b .rem 32 36), .o 38 (.b .add 31 37), .m 39 0, .o 40 (.nilck (.tmp 39)), .o 41 (.f 1 40), .o 42 (.l 41), .o 43 (.b .rem 38 42), .m 44 8, .o 45 (.b .mul 43 44), .o 46 (.b .add 25 45), .m 7 46]) (.region [.m 47 1, .m 48 0, .o 49 (.nilck (.tmp 48)), .o 50 (.f 1 49), .o 51 (.l 50), .o 52 (.b .quo 47 51), .m 53 2, .m 54 0, .o 55 (.nilck (.tmp 54)), .o 56 (.f 1 55), .o 57 (.l 56), .o 58 (.b .quo 53 57), .m 59 8, .m 60 0, .o 61 (.nilck (.tmp 60)), .o 62 (.f 1 61), .o 63 (.l 62), .o 64 (.b .mul 59 63), .m 1 52, .m 2 58, .m 8 64]))) (.region [.o 65 (.c .add 23 1), .m 23 65]))))
def c21 : ACode := (.seq (.region [.k 6 0]) (.seq (.seq (.region [.m 9 0, .m 10 1, .o 11 (.q 53 [9, 10]), .o 12 (.un .not (.tmp 11)), .m 13 12, .g 14 (.m 0) 13 false, .g 15 (.m 2) 13 false, .g 16 (.q 53 [14, 15]) 13 false, .g 17 (.un .not (.tmp 16)) 13 false, .o 18 (.pick (.tmp 13) (.const (.bool true)) (.tmp 17))]) (.cond (.tmp 18) (.seq (.region [.k 6 (-1)]) .ret) .skip)) (.seq (.region [.k 7 0, .k 8 1]) (.seq (.seq (.region [.m 19 0, .o 20 (.nilck (.tmp 19)), .o 21 (.f 2 20), .o 22 (.l 21), .k 23 0]) (.block 0 [7] (.loop [0, 1, 2, 7, 8, 22, 23] c21L0))) (.seq (.region [.m 66 7, .m 6 66]) .ret)))))
def F21 : AFun := ⟨c21, 3, 67, [(.tmp 6)]⟩
def K21 : Nat → List Nat × List Nat
 | 0 => ([0, 1, 2, 7, 8, 22, 23], [7])
 | 1 => ([], [0, 1, 2, 7, 8, 22, 23])
 | _ => ([], [])
theorem F21_ok : kj8 Try.prog K21 Try.f21 = some F21 := by kernel_rfl
/- 22: (*syndrome/field.Field).Mul -/
def c22 : ACode := (.seq (.region [.k 6 0]) (.seq (.seq (.region [.m 7 0, .m 8 1, .o 9 (.q 53 [7, 8]), .o 10 (.un .not (.tmp 9)), .m 11 10, .g 12 (.m 0) 11 false, .g 13 (.m 2) 11 false, .g 14 (.q 53 [12, 13]) 11 false, .g 15 (.un .not (.tmp 14)) 11 false, .o 16 (.pick (.tmp 11) (.const (.bool true)) (.tmp 15))]) (.cond (.tmp 16) (.seq (.region [.k 6 (-1)]) .ret) .skip)) (.seq (.seq (.region [.m 17 1, .o 18 (.c .eql 17 0), .m 19 18, .g 20 (.m 2) 19 false, .g 21 (.c .eql 20 0) 19 false, .o 22 (.pick (.tmp 19) (.const (.bool true)) (.tmp 21))]) (.cond (.tmp 22) (.seq (.region [.k 6 0]) .ret) .skip)) (.seq (.region [.m 23 0, .o 24 (.nilck (.tmp 23)), .o 25 (.f 5 24), .o 26 (.l 25), .m 27 0, .o 28 (.nilck (.tmp 27)), .o 29 (.f 6 28), .o 30 (.l 29), .m 31 1, .o 32 (.i 1 30 31), .o 33 (.l 32), .m 34 0, .o 35 (.nilck (.tmp 34)), .o 36 (.f 6 35), .o 37 (.l 36), .m 38 2, .o 39 (.i 1 37 38), .o 40 (.l 39), .o 41 (.b .add 33 40), .m 42 0, .o 43 (.nilck (.tmp 42)), .o 44 (.f 0 43), .o 45 (.l 44), .o 46 (.c .sub 45 1), .o 47 (.b .rem 41 46), .o 48 (.i 1 26 47), .o 49 (.l 48), .m 6 49]) .ret))))
def F22 : AFun := ⟨c22, 3, 50, [(.tmp 6)]⟩
def K22 : Nat → List Nat × List Nat
 | _ => ([], [])
theorem F22_ok : kj8 Try.prog K22 Try.f22 = some F22 := by kernel_rfl
/- 23: (*syndrome/field.Field).Neg -/
def c23L0 : ACode := (.seq (.region [.o 16 (.b .lss 15 14)]) (.seq (.cond (.tmp 16) .skip (.exit 0)) (.seq (.block 1 [0, 1, 5, 6, 14, 15] (.seq (.region [.m 17 5, .m 18 0, .o 19 (.nilck (.tmp 18)), .o 20 (.f 1 19), .o 21 (.l 20), .m 22 1, .m 23 0, .o 24 (.nilck (.tmp 23)), .o 25 (.f 1 24), .o 26 (.l 25), .o 27 (.b .rem 22 26), .o 28 (.b .sub 21 27), .m 29 0, .o 30 (.nilck (.tmp 29)), .o 31 (.f 1 30), .o 32 (.l 31), .o 33 (.b .rem 28 32), .m 34 6, .o 35 (.b .mul 33 34), .o 36 (.b .add 17 35), .m 5 36]) (.region [.m 37 1, .m 38 0, .o 39 (.nilck (.tmp 38)), .o 40 (.f 1 39), .o 41 (.l 40), .o 42 (.b .quo 37 41), .m 43 6, .m 44 0, .o 45 (.nilck (.tmp 44)), .o 46 (.f 1 45), .o 47 (.l 46), .o 48 (.b .mul 43 47), .m 1 42, .m 6 48]))) (.region [.o 49 (.c .add 15 1), .m 15 49]))))
def c23 : ACode := (.seq (.region [.k 4 0]) (.seq (.seq (.region [.m 7 0, .m 8 1, .o 9 (.q 53 [7, 8]), .o 10 (.un .not (.tmp 9))]) (.cond (.tmp 10) (.seq (.region [.k 4 (-1)]) .ret) .skip)) (.seq (.region [.k 5 0, .k 6 1]) (.seq (.seq (.region [.m 11 0, .o 12 (.nilck (.tmp 11)), .o 13 (.f 2 12), .o 14 (.l 13), .k 15 0]) (.block 0 [5] (.loop [0, 1, 5, 6, 14, 15] c23L0))) (.seq (.region [.m 50 5, .m 4 50]) .ret)))))
def F23 : AFun := ⟨c23, 2, 51, [(.tmp 4)]⟩
def K23 : Nat → List Nat × List Nat
 | 0 => ([0, 1, 5, 6, 14, 15], [5])
 | 1 => ([], [0, 1, 5, 6, 14, 15])
 | _ => ([], [])
theorem F23_ok : kj8 Try.prog K23 Try.f23 = some F23 := by kernel_rfl
/- 24: (*syndrome/field.Field).Sub -/
def c24 : ACode := (.seq (.region [.k 6 0]) (.seq (.region [.m 7 0, .m 8 1, .m 9 0, .m 10 2, .o 11 (.q 23 [9, 10]), .o 12 (.q 21 [7, 8, 11]), .m 6 12]) .ret))
def F24 : AFun := ⟨c24, 3, 13, [(.tmp 6)]⟩
def K24 : Nat → List Nat × List Nat
 | _ => ([], [])
theorem F24_ok : kj8 Try.prog K24 Try.f24 = some F24 := by kernel_rfl
/- 25: (*syndrome/field.Field).Inv -/
def c25 : ACode := (.seq (.region [.k 4 0]) (.seq (.seq (.region [.m 5 0, .m 6 1, .o 7 (.q 53 [5, 6]), .o 8 (.un .not (.tmp 7)), .m 9 8, .g 10 (.m 1) 9 false, .g 11 (.c .eql 10 0) 9 false, .o 12 (.pick (.tmp 9) (.const (.bool true)) (.tmp 11))]) (.cond (.tmp 12) (.seq (.region [.k 4 (-1)]) .ret) .skip)) (.seq (.region [.m 13 0, .o 14 (.nilck (.tmp 13)), .o 15 (.f 5 14), .o 16 (.l 15), .m 17 0, .o 18 (.nilck (.tmp 17)), .o 19 (.f 0 18), .o 20 (.l 19), .o 21 (.c .sub 20 1), .m 22 0, .o 23 (.nilck (.tmp 22)), .o 24 (.f 6 23), .o 25 (.l 24), .m 26 1, .o 27 (.i 1 25 26), .o 28 (.l 27), .o 29 (.b .sub 21 28), .m 30 0, .o 31 (.nilck (.tmp 30)), .o 32 (.f 0 31), .o 33 (.l 32), .o 34 (.c .sub 33 1), .o 35 (.b .rem 29 34), .o 36 (.i 1 16 35), .o 37 (.l 36), .m 4 37]) .ret)))
def F25 : AFun := ⟨c25, 2, 38, [(.tmp 4)]⟩
def K25 : Nat → List Nat × List Nat
 | _ => ([], [])
theorem F25_ok : kj8 Try.prog K25 Try.f25 = some F25 := by kernel_rfl
/- 26: (*syndrome/field.Field).Pow -/
def c26 : ACode := (.seq (.region [.k 6 0]) (.seq (.seq (.region [.m 7 0, .m 8 1, .o 9 (.q 53 [7, 8]), .o 10 (.un .not (.tmp 9)), .m 11 10, .g 12 (.m 1) 11 false, .g 13 (.c .eql 12 0) 11 false, .g 14 (.m 13) 11 false, .g 15 (.m 2) 14 true, .g 16 (.c .lss 15 0) 14 true, .g 17 (.pick (.tmp 14) (.tmp 16) (.const (.bool false))) 11 false, .o 18 (.pick (.tmp 11) (.const (.bool true)) (.tmp 17))]) (.cond (.tmp 18) (.seq (.region [.k 6 (-1)]) .ret) .skip)) (.seq (.seq (.region [.m 19 2, .o 20 (.c .eql 19 0)]) (.cond (.tmp 20) (.seq (.region [.k 6 1]) .ret) .skip)) (.seq (.seq (.region [.m 21 1, .o 22 (.c .eql 21 0)]) (.cond (.tmp 22) (.seq (.region [.k 6 0]) .ret) .skip)) (.seq (.region [.m 23 2, .m 24 0, .o 25 (.nilck (.tmp 24)), .o 26 (.f 0 25), .o 27 (.l 26), .o 28 (.c .sub 27 1), .o 29 (.b .rem 23 28), .m 2 29]) (.seq (.seq (.region [.m 30 2, .o 31 (.c .lss 30 0)]) (.cond (.tmp 31) (.region [.m 32 2, .m 33 0, .o 34 (.nilck (.tmp 33)), .o 35 (.f 0 34), .o 36 (.l 35), .o 37 (.c .sub 36 1), .o 38 (.b .add 32 37), .m 2 38]) .skip)) (.seq (.region [.m 39 0, .o 40 (.nilck (.tmp 39)), .o 41 (.f 5 40), .o 42 (.l 41), .m 43 0, .o 44 (.nilck (.tmp 43)), .o 45 (.f 6 44), .o 46 (.l 45), .m 47 1, .o 48 (.i 1 46 47), .o 49 (.l 48), .m 50 2, .o 51 (.b .mul 49 50), .m 52 0, .o 53 (.nilck (.tmp 52)), .o 54 (.f 0 53), .o 55 (.l 54), .o 56 (.c .sub 55 1), .o 57 (.b .rem 51 56), .o 58 (.i 1 42 57), .o 59 (.l 58), .m 6 59]) .ret)))))))
def F26 : AFun := ⟨c26, 3, 60, [(.tmp 6)]⟩
def K26 : Nat → List Nat × List Nat
 | _ => ([], [])
theorem F26_ok : kj8 Try.prog K26 Try.f26 = some F26 := by kernel_rfl
/- 27: (*syndrome/field.Field).Gen -/
def c27 : ACode := (.seq (.region [.k 2 0]) (.seq (.region [.m 3 0, .o 4 (.nilck (.tmp 3)), .o 5 (.f 4 4), .o 6 (.l 5), .m 2 6]) .ret))
def F27 : AFun := ⟨c27, 1, 7, [(.tmp 2)]⟩
def K27 : Nat → List Nat × List Nat
 | _ => ([], [])
theorem F27_ok : kj8 Try.prog K27 Try.f27 = some F27 := by kernel_rfl
/- 28: (*syndrome/field.Field).Log -/
def c28 : ACode := (.seq (.region [.k 4 0]) (.seq (.seq (.region [.m 5 0, .m 6 1, .o 7 (.q 53 [5, 6]), .o 8 (.un .not (.tmp 7))]) (.cond (.tmp 8) (.seq (.region [.k 4 (-1)]) .ret) .skip)) (.seq (.region [.m 9 0, .o 10 (.nilck (.tmp 9)), .o 11 (.f 6 10), .o 12 (.l 11), .m 13 1, .o 14 (.i 1 12 13), .o 15 (.l 14), .m 4 15]) .ret)))
def F28 : AFun := ⟨c28, 2, 16, [(.tmp 4)]⟩
def K28 : Nat → List Nat × List Nat
 | _ => ([], [])
theorem F28_ok : kj8 Try.prog K28 Try.f28 = some F28 := by kernel_rfl
/- 29: (*syndrome/field.Field).Char -/
def c29 : ACode := (.seq (.region [.k 2 0]) (.seq (.region [.m 3 0, .o 4 (.nilck (.tmp 3)), .o 5 (.f 1 4), .o 6 (.l 5), .m 2 6]) .ret))
def F29 : AFun := ⟨c29, 1, 7, [(.tmp 2)]⟩
def K29 : Nat → List Nat × List Nat
 | _ => ([], [])
theorem F29_ok : kj8 Try.prog K29 Try.f29 = some F29 := by kernel_rfl
/- 33: syndrome/syndromeref.SizeOf -/
def c33 : ACode := (.seq (.region [.k 2 0]) (.seq (.region [.o 5 (.call 54 []), .m 3 5]) (.seq (.region [.m 6 0, .o 7 (.call 9 [(.tmp 6), (.const (.int .i64 100))]), .m 4 7]) (.seq (.seq (.region [.m 8 4, .o 9 (.c .lss 8 60)]) (.cond (.tmp 9) (.seq (.region [.m 10 3, .m 11 4, .o 12 (.c .rem 11 7), .o 13 (.i 1 10 12), .o 14 (.l 13), .m 2 14]) .ret) .skip)) (.seq (.region [.m 15 3, .m 16 0, .o 17 (.c .quo 16 100), .m 18 3, .o 19 (.n 18), .o 20 (.q 9 [17, 19]), .o 21 (.i 1 15 20), .o 22 (.l 21), .m 2 22]) .ret)))))
def F33 : AFun := ⟨c33, 1, 23, [(.tmp 2)]⟩
def K33 : Nat → List Nat × List Nat
 | _ => ([], [])
theorem F33_ok : kj8 Try.prog K33 Try.f33 = some F33 := by kernel_rfl
/- 36: syndrome/field.New -/
def tb2 : List Value := [(.int .u32 0), (.int .i32 0), (.int .u32 0), (.int .u32 0), (.int .i32 0), (.int .u32 0), (.int .u32 0), (.int .i32 0), (.int .u32 0), (.int .u32 0), (.int .i32 0), (.int .u32 0), (.int .u32 0), (.int .i32 0), (.int .u32 0), (.int .u32 0), (.int .i32 0), (.int .u32 0), (.int .u32 0), (.int .i32 0), (.int .u32 0), (.int .u32 0), (.int .i32 0), (.int .u32 0), (.int .u32 0), (.int .i32 0), (.int .u32 0), (.int .u32 0), (.int .i32 0), (.int .u32 0), (.int .u32 0), (.int .i32 0), (.int .u32 0), (.int .u32 0), (.int .i32 0), (.int .u32 0), (.int .u32 0), (.int .i32 0), (.int .u32 0), (.int .u32 0), (.int .i32 0), (.int .u32 0), (.int .u32 0), (.int .i32 0), (.int .u32 0), (.int .u32 0), (.int .i32 0), (.int .u32 0), (.int .u32 0), (.int .i32 0), (.int .u32 0), (.int .u32 0), (.int .i32 0), (.int .u32 0), (.int .u32 0), (.int .i32 0), (.int .u32 0), (.int .u32 0), (.int .i32 0), (.int .u32 0), (.int .u32 0), (.int .i32 0), (.int .u32 0), (.int .u32 0), (.int .i32 0), (.int .u32 0), (.int .u32 0), (.int .i32 0), (.int .u32 0), (.int .u32 0), (.int .i32 0), (.int .u32 0), (.int .u32 0), (.int .i32 0), (.int .u32 0), (.int .u32 0), (.int .i32 0), (.int .u32 0), (.int .u32 0), (.int .i32 0), (.int .u32 0), (.int .u32 0), (.int .i32 0), (.int .u32 0), (.int .u32 0), (.int .i32 0), (.int .u32 0), (.int .u32 0), (.int .i32 0), (.int .u32 0), (.int .u32 0), (.int .i32 0), (.int .u32 0), (.int .u32 0), (.int .i32 0), (.int .u32 0), (.int .u32 0), (.int .i32 0), (.int .u32 0), (.int .u32 0), (.int .i32 0), (.int .u32 0), (.int .u32 0), (.int .i32 0), (.int .u32 0), (.int .u32 0), (.int .i32 0), (.int .u32 0), (.int .u32 0), (.int .i32 0), (.int .u32 0), (.int .u32 0), (.int .i32 0), (.int .u32 0), (.int .u32 0), (.int .i32 0), (.int .u32 0), (.int .u32 0), (.int .i32 0), (.int .u32 0), (.int .u32 0), (.int .i32 0), (.int .u32 0), (.int .u32 0), (.int .i32 0), (.int .u32 0), (.int .u32 0), (.int .i32 0), (.int .u32 0), (.int .u32 0), (.int .i32 0), (.int .u32 0), (.int .u32 0), (.int .i32 0), (.int .u32 0), (.int .u32 0), (.int .i32 0), (.int .u32 0), (.int .u32 0), (.int .i32 0), (.int .u32 0), (.int .u32 0), (.int .i32 0), (.int .u32 0), (.int .u32 0), (.int .i32 0), (.int .u32 0), (.int .u32 0), (.int .i32 0), (.int .u32 0), (.int .u32 0), (.int .i32 0), (.int .u32 0), (.int .u32 0), (.int .i32 0), (.int .u32 0), (.int .u32 0), (.int .i32 0), (.int .u32 0), (.int .u32 0), (.int .i32 0), (.int .u32 0), (.int .u32 0), (.int .i32 0), (.int .u32 0), (.int .u32 0), (.int .i32 0), (.int .u32 0), (.int .u32 0), (.int .i32 0), (.int .u32 0), (.int .u32 0), (.int .i32 0), (.int .u32 0), (.int .u32 0), (.int .i32 0), (.int .u32 0), (.int .u32 0), (.int .i32 0), (.int .u32 0), (.int .u32 0), (.int .i32 0), (.int .u32 0), (.int .u32 0), (.int .i32 0), (.int .u32 0), (.int .u32 0), (.int .i32 0), (.int .u32 0), (.int .u32 0), (.int .i32 0), (.int .u32 0), (.int .u32 0), (.int .i32 0), (.int .u32 0), (.pointer none), (.pointer none), (.pointer none), (.pointer none), (.pointer none), (.pointer none), (.pointer none), (.pointer none), (.pointer none), (.pointer none), (.pointer none), (.pointer none), (.pointer none), (.pointer none), (.pointer none), (.pointer none), (.pointer none), (.pointer none), (.pointer none), (.pointer none), (.pointer none), (.pointer none), (.pointer none), (.pointer none), (.pointer none), (.pointer none), (.pointer none), (.pointer none), (.pointer none), (.pointer none), (.pointer none), (.pointer none), (.pointer none), (.pointer none), (.pointer none), (.pointer none), (.pointer none), (.pointer none), (.pointer none), (.pointer none), (.pointer none), (.pointer none), (.pointer none), (.pointer none), (.pointer none), (.pointer none), (.pointer none), (.pointer none), (.pointer none), (.pointer none), (.pointer none), (.pointer none), (.pointer none), (.pointer none), (.pointer none), (.pointer none), (.pointer none), (.pointer none), (.pointer none), (.pointer none), (.pointer none), (.pointer none), (.pointer none), (.pointer none), (.pointer none)]
def c36 : ACode := (.seq (.region [.o 1 (.box 3 1 (.tmp 0)), .o 2 (.mv (.const (.pointer none))), .k 3 0]) (.seq (.seq (.region [.o 5 (.l 1), .o 6 (.c .lss 5 2), .m 7 6, .g 8 (.l 1) 7 false, .g 9 (.c .gtr 8 64) 7 false, .o 10 (.pick (.tmp 7) (.const (.bool true)) (.tmp 9))]) (.cond (.tmp 10) (.seq (.region [.o 2 (.mv (.const (.pointer none))), .k 3 1]) .ret) .skip)) (.seq (.region [.o 4 (.alloc 93 tb2)]) (.seq (.region [.o 11 (.l 1), .o 12 (.f 0 4), .o 13 (.iaddrA 65 3 (.tmp 12) (.tmp 11)), .o 14 (.mkf 59 [(.tmp 1), (.tmp 4)]), .o 15 (.q 58 [13, 14])]) (.seq (.seq (.region [.o 16 (.l 1), .o 17 (.f 195 4), .o 18 (.iaddrA 65 1 (.tmp 17) (.tmp 16)), .o 19 (.l 18), .o 20 (.eqn false 1 (.tmp 19))]) (.cond (.tmp 20) (.seq (.region [.o 2 (.mv (.const (.pointer none))), .k 3 1]) .ret) .skip)) (.seq (.region [.o 21 (.l 1), .o 22 (.f 195 4), .o 23 (.iaddrA 65 1 (.tmp 22) (.tmp 21)), .o 24 (.l 23), .m 2 24, .k 3 0]) .ret))))))
def F36 : AFun := ⟨c36, 1, 25, [(.tmp 2), (.tmp 3)]⟩
def K36 : Nat → List Nat × List Nat
 | _ => ([], [])
theorem F36_ok : kj8 Try.prog K36 Try.f36 = some F36 := by kernel_rfl
/- 53: (*syndrome/field.Field).Has -/
def c53 : ACode := (.seq (.region [.o 4 (.mv (.const (.bool false)))]) (.seq (.region [.m 5 1, .o 6 (.c .geq 5 0), .m 7 6, .g 8 (.m 1) 7 true, .g 9 (.m 0) 7 true, .g 10 (.nilck (.tmp 9)) 7 true, .g 11 (.f 0 10) 7 true, .g 12 (.l 11) 7 true, .g 13 (.b .lss 8 12) 7 true, .o 14 (.pick (.tmp 7) (.tmp 13) (.const (.bool false))), .m 4 14]) .ret))
def F53 : AFun := ⟨c53, 2, 15, [(.tmp 4)]⟩
def K53 : Nat → List Nat × List Nat
 | _ => ([], [])
theorem F53_ok : kj8 Try.prog K53 Try.f53 = some F53 := by kernel_rfl
/- 54: syndrome/syndromeref.Sizes -/
def c54L0 : ACode := (.seq (.seq (.region [.m 5 2, .o 6 (.c .leq 5 64)]) (.cond (.tmp 6) .skip (.exit 0))) (.seq (.block 1 [1, 2] (.seq (.region [.m 10 2, .o 11 (.q 81 [10]), .m 9 11, .o 12 (.e 0 9), .o 13 (.e 1 9), .m 3 12, .m 4 13]) (.seq (.region [.m 14 3, .o 15 (.c .gtr 14 0)]) (.cond (.tmp 15) (.region [.m 16 1, .m 17 2, .o 18 (.mkSl 3 1 1 [(.tmp 17)]), .o 19 (.app 3 1 8 (.tmp 16) (.tmp 18)), .m 1 19]) .skip)))) (.region [.m 7 2, .o 8 (.c .add 7 1), .m 2 8])))
def c54 : ACode := (.seq (.region [.o 0 (.mv (.const (.slice none 0 0)))]) (.seq (.region [.o 1 (.mv (.const (.slice none 0 0)))]) (.seq (.seq (.region [.k 2 2]) (.block 0 [1] (.loop [1, 2] c54L0))) (.seq (.region [.m 20 1, .m 0 20]) .ret))))
def F54 : AFun := ⟨c54, 0, 21, [(.tmp 0)]⟩
def K54 : Nat → List Nat × List Nat
 | 0 => ([1, 2], [1])
 | 1 => ([], [1, 2])
 | _ => ([], [])
theorem F54_ok : kj8 Try.prog K54 Try.f54 = some F54 := by kernel_rfl
/- 55: syndrome/field.prime -/
def c55L0 : ACode := (.seq (.seq (.region [.m 4 0, .m 5 2, .o 6 (.b .rem 4 5), .o 7 (.c .neq 6 0)]) (.cond (.tmp 7) .skip (.exit 0))) (.block 1 [0, 2, 3] (.region [.m 8 2, .o 9 (.c .add 8 1), .m 2 9])))
def c55L1 : ACode := (.seq (.seq (.region [.m 10 0, .m 11 2, .o 12 (.b .rem 10 11), .o 13 (.c .eql 12 0)]) (.cond (.tmp 13) .skip (.exit 2))) (.seq (.block 3 [0, 2, 3] (.region [.m 17 3, .o 18 (.c .add 17 1), .m 3 18])) (.region [.m 14 0, .m 15 2, .o 16 (.b .quo 14 15), .m 0 16])))
def c55 : ACode := (.seq (.region [.k 2 0, .k 3 0]) (.seq (.region [.k 2 2]) (.seq (.block 0 [0, 2, 3] (.loop [0, 2, 3] c55L0)) (.seq (.block 2 [0, 2, 3] (.loop [0, 2, 3] c55L1)) (.seq (.seq (.region [.m 19 0, .o 20 (.c .neq 19 1)]) (.cond (.tmp 20) (.seq (.region [.k 2 0, .k 3 0]) .ret) .skip)) (.seq (.region [.m 21 2, .m 22 3, .m 2 21, .m 3 22]) .ret))))))
def F55 : AFun := ⟨c55, 1, 23, [(.tmp 2), (.tmp 3)]⟩
def K55 : Nat → List Nat × List Nat
 | 0 => ([0, 2, 3], [0, 2, 3])
 | 1 => ([], [0, 2, 3])
 | 2 => ([0, 2, 3], [0, 2, 3])
 | 3 => ([], [0, 2, 3])
 | _ => ([], [])
theorem F55_ok : kj8 Try.prog K55 Try.f55 = some F55 := by kernel_rfl
/- 57: syndrome/field.digits -/
def c57L0 : ACode := (.seq (.region [.o 14 (.b .lss 13 12)]) (.seq (.cond (.tmp 14) .skip (.exit 0)) (.seq (.block 1 [0, 1, 7, 12, 13] (.seq (.region [.m 15 13, .m 8 15]) (.seq (.region [.m 16 7, .m 17 8, .m 18 0, .m 19 1, .o 20 (.b .rem 18 19), .o 21 (.i 1 16 17), .n (.st 1 (.tmp 21) (.tmp 20))]) (.region [.m 22 0, .m 23 1, .o 24 (.b .quo 22 23), .m 0 24])))) (.region [.o 25 (.c .add 13 1), .m 13 25]))))
def c57 : ACode := (.seq (.region [.o 6 (.mv (.const (.slice none 0 0)))]) (.seq (.region [.m 9 2, .o 10 (.mks 3 1 8 [(.int .i64 0)] (.tmp 9) (.tmp 9)), .m 7 10]) (.seq (.seq (.region [.m 11 7, .o 12 (.n 11), .k 13 0]) (.block 0 [7] (.loop [0, 1, 7, 12, 13] c57L0))) (.seq (.region [.m 26 7, .m 6 26]) .ret))))
def F57 : AFun := ⟨c57, 3, 27, [(.tmp 6)]⟩
def K57 : Nat → List Nat × List Nat
 | 0 => ([0, 1, 7, 12, 13], [7])
 | 1 => ([], [0, 1, 7, 12, 13])
 | _ => ([], [])
theorem F57_ok : kj8 Try.prog K57 Try.f57 = some F57 := by kernel_rfl
/- 59: syndrome/field.New$1 -/
def c59 : ACode := (.region [.o 2 (.l 0), .o 3 (.l 0), ⟨(some 4), (.call 60 [(.tmp 3)]), none, true⟩, .o 5 (.f 195 1), .o 6 (.iaddrA 65 1 (.tmp 5) (.tmp 2)), .n (.st 1 (.tmp 6) (.tmp 4))])
def F59 : AFun := ⟨c59, 2, 7, []⟩
def K59 : Nat → List Nat × List Nat
 | _ => ([], [])
theorem F59_ok : kj8 Try.prog K59 Try.f59 = some F59 := by kernel_rfl
/- 60: syndrome/field.build -/
def c60L0 : ACode := (.seq (.seq (.region [.m 28 5, .o 29 (.q 84 [28]), .o 30 (.un .not (.tmp 29))]) (.cond (.tmp 30) .skip (.exit 0))) (.seq (.block 1 [5] .skip) (.region [.m 31 5, .o 32 (.nilck (.tmp 31)), .o 33 (.f 4 32), .o 34 (.l 33), .o 35 (.c .add 34 1), .o 36 (.nilck (.tmp 31)), .o 37 (.f 4 36), .n (.st 1 (.tmp 37) (.tmp 35))])))
def c60L1 : ACode := (.seq (.region [.o 45 (.b .lss 44 43)]) (.seq (.cond (.tmp 45) .skip (.exit 2)) (.seq (.block 3 [3, 4, 5, 43, 44] (.seq (.region [.m 46 44, .m 6 46]) (.seq (.region [.m 47 5, .m 48 6, .m 49 3, .m 50 4, .o 51 (.q 57 [48, 49, 50]), .o 52 (.mkSl 3 1 1 [(.const (.int .i64 1))]), .o 53 (.app 3 1 8 (.tmp 51) (.tmp 52)), .o 54 (.nilck (.tmp 47)), .o 55 (.f 3 54), .n (.st 1 (.tmp 55) (.tmp 53))]) (.seq (.region [.m 56 5, .o 57 (.q 84 [56])]) (.cond (.tmp 57) (.seq (.region [.m 58 5, .m 2 58]) .ret) .skip))))) (.region [.o 59 (.c .add 44 1), .m 44 59]))))
def c60 : ACode := (.seq (.region [.o 2 (.mv (.const (.pointer none)))]) (.seq (.region [.m 8 0, .o 9 (.q 55 [8]), .m 7 9, .o 10 (.e 0 7), .o 11 (.e 1 7), .m 3 10, .m 4 11]) (.seq (.seq (.region [.m 12 3, .o 13 (.c .eql 12 0)]) (.cond (.tmp 13) (.seq (.region [.o 2 (.mv (.const (.pointer none)))]) .ret) .skip)) (.seq (.region [.m 14 0, .m 15 3, .m 16 4, .o 17 (.build [(.int .i64 0), (.int .i64 0), (.int .i64 0), (.slice none 0 0), (.int .i64 0), (.slice none 0 0), (.slice none 0 0)] [(0, 1), (1, 1), (2, 1), (3, 1), (4, 1), (5, 1), (6, 1)] [(0, (.tmp 14)), (1, (.tmp 15)), (2, (.tmp 16))]), .o 18 (.box 72 7 (.tmp 17)), .m 5 18]) (.seq (.seq (.region [.m 19 4, .o 20 (.c .eql 19 1)]) (.cond (.tmp 20) (.seq (.region [.m 21 5, .o 22 (.mkSl 3 1 2 [(.const (.int .i64 0)), (.const (.int .i64 1))]), .o 23 (.nilck (.tmp 21)), .o 24 (.f 3 23), .n (.st 1 (.tmp 24) (.tmp 22))]) (.seq (.seq (.region [.m 25 5, .o 26 (.nilck (.tmp 25)), .o 27 (.f 4 26), .n (.st 1 (.tmp 27) (.const (.int .i64 1)))]) (.block 0 [5] (.loop [5] c60L0))) (.seq (.region [.m 38 5, .m 2 38]) .ret))) .skip)) (.seq (.region [.m 39 5, .m 40 3, .o 41 (.nilck (.tmp 39)), .o 42 (.f 4 41), .n (.st 1 (.tmp 42) (.tmp 40))]) (.seq (.seq (.region [.m 43 0, .k 44 0]) (.block 2 [] (.loop [3, 4, 5, 43, 44] c60L1))) (.seq (.region [.o 2 (.mv (.const (.pointer none)))]) .ret))))))))
def F60 : AFun := ⟨c60, 1, 60, [(.tmp 2)]⟩
def K60 : Nat → List Nat × List Nat
 | 0 => ([5], [5])
 | 1 => ([], [5])
 | 2 => ([3, 4, 5, 43, 44], [])
 | 3 => ([], [3, 4, 5, 43, 44])
 | _ => ([], [])
theorem F60_ok : kj8 Try.prog K60 Try.f60 = some F60 := by kernel_rfl
/- 81: syndrome/syndromeref.Prime -/
def c81L0 : ACode := (.seq (.seq (.region [.m 15 0, .m 16 4, .o 17 (.b .rem 15 16), .o 18 (.c .eql 17 0)]) (.cond (.tmp 18) .skip (.exit 2))) (.block 3 [0, 4, 5] (.seq (.region [.m 19 0, .m 20 4, .o 21 (.b .quo 19 20), .m 0 21]) (.region [.m 22 5, .o 23 (.c .add 22 1), .m 5 23]))))
def c81L1 : ACode := (.seq (.seq (.region [.m 6 4, .m 7 0, .o 8 (.b .leq 6 7)]) (.cond (.tmp 8) .skip (.exit 0))) (.seq (.block 1 [0, 4] (.seq (.seq (.region [.m 11 0, .m 12 4, .o 13 (.b .rem 11 12), .o 14 (.c .neq 13 0)]) (.cond (.tmp 14) (.exit 1) .skip)) (.seq (.region [.k 5 0]) (.seq (.block 2 [0, 4, 5] (.loop [0, 4, 5] c81L0)) (.seq (.seq (.region [.m 24 0, .o 25 (.c .eql 24 1)]) (.cond (.tmp 25) (.seq (.region [.m 26 4, .m 27 5, .m 2 26, .m 3 27]) .ret) .skip)) (.seq (.region [.k 2 0, .k 3 0]) .ret)))))) (.region [.m 9 4, .o 10 (.c .add 9 1), .m 4 10])))
def c81 : ACode := (.seq (.region [.k 2 0, .k 3 0]) (.seq (.seq (.region [.k 4 2]) (.block 0 [] (.loop [0, 4] c81L1))) (.seq (.region [.k 2 0, .k 3 0]) .ret)))
def F81 : AFun := ⟨c81, 1, 28, [(.tmp 2), (.tmp 3)]⟩
def K81 : Nat → List Nat × List Nat
 | 0 => ([0, 4], [])
 | 1 => ([], [0, 4])
 | 2 => ([0, 4, 5], [0, 4, 5])
 | 3 => ([], [0, 4, 5])
 | _ => ([], [])
theorem F81_ok : kj8 Try.prog K81 Try.f81 = some F81 := by kernel_rfl
/- 84: (*syndrome/field.Field).fill -/
def c84L0 : ACode := (.seq (.region [.o 29 (.b .lss 28 27)]) (.seq (.cond (.tmp 29) .skip (.exit 0)) (.seq (.block 1 [0, 27, 28] (.seq (.region [.m 30 28, .m 3 30]) (.region [.m 31 0, .o 32 (.nilck (.tmp 31)), .o 33 (.f 6 32), .o 34 (.l 33), .m 35 3, .o 36 (.i 1 34 35), .n (.st 1 (.tmp 36) (.const (.int .i64 (-1))))]))) (.region [.o 37 (.c .add 28 1), .m 28 37]))))
def c84L1 : ACode := (.seq (.region [.o 44 (.b .lss 43 42)]) (.seq (.cond (.tmp 44) .skip (.exit 2)) (.seq (.block 3 [0, 4, 42, 43] (.seq (.region [.m 45 43, .m 5 45]) (.seq (.seq (.region [.m 46 4, .o 47 (.c .eql 46 0), .m 48 47, .g 49 (.m 0) 48 false, .g 50 (.nilck (.tmp 49)) 48 false, .g 51 (.f 6 50) 48 false, .g 52 (.l 51) 48 false, .g 53 (.m 4) 48 false, .g 54 (.i 1 52 53) 48 false, .g 55 (.l 54) 48 false, .g 56 (.c .geq 55 0) 48 false, .o 57 (.pick (.tmp 48) (.const (.bool true)) (.tmp 56))]) (.cond (.tmp 57) (.seq (.region [.o 2 (.mv (.const (.bool false)))]) .ret) .skip)) (.seq (.region [.m 58 0, .o 59 (.nilck (.tmp 58)), .o 60 (.f 5 59), .o 61 (.l 60), .m 62 5, .m 63 0, .o 64 (.nilck (.tmp 63)), .o 65 (.f 6 64), .o 66 (.l 65), .m 67 4, .m 68 4, .m 69 5, .o 70 (.i 1 61 62), .n (.st 1 (.tmp 70) (.tmp 68)), .o 71 (.i 1 66 67), .n (.st 1 (.tmp 71) (.tmp 69))]) (.region [.m 72 0, .m 73 4, .o 74 (.q 101 [72, 73]), .m 4 74]))))) (.region [.o 75 (.c .add 43 1), .m 43 75]))))
def c84 : ACode := (.seq (.region [.o 2 (.mv (.const (.bool false)))]) (.seq (.region [.m 6 0, .m 7 0, .o 8 (.nilck (.tmp 7)), .o 9 (.f 0 8), .o 10 (.l 9), .o 11 (.c .sub 10 1), .o 12 (.mks 3 1 8 [(.int .i64 0)] (.tmp 11) (.tmp 11)), .o 13 (.nilck (.tmp 6)), .o 14 (.f 5 13), .n (.st 1 (.tmp 14) (.tmp 12))]) (.seq (.region [.m 15 0, .m 16 0, .o 17 (.nilck (.tmp 16)), .o 18 (.f 0 17), .o 19 (.l 18), .o 20 (.mks 3 1 8 [(.int .i64 0)] (.tmp 19) (.tmp 19)), .o 21 (.nilck (.tmp 15)), .o 22 (.f 6 21), .n (.st 1 (.tmp 22) (.tmp 20))]) (.seq (.seq (.region [.m 23 0, .o 24 (.nilck (.tmp 23)), .o 25 (.f 6 24), .o 26 (.l 25), .o 27 (.n 26), .k 28 0]) (.block 0 [0] (.loop [0, 27, 28] c84L0))) (.seq (.region [.k 4 1]) (.seq (.seq (.region [.m 38 0, .o 39 (.nilck (.tmp 38)), .o 40 (.f 0 39), .o 41 (.l 40), .o 42 (.c .sub 41 1), .k 43 0]) (.block 2 [4] (.loop [0, 4, 42, 43] c84L1))) (.seq (.region [.m 76 4, .o 77 (.c .eql 76 1), .m 2 77]) .ret)))))))
def F84 : AFun := ⟨c84, 1, 78, [(.tmp 2)]⟩
def K84 : Nat → List Nat × List Nat
 | 0 => ([0, 27, 28], [0])
 | 1 => ([], [0, 27, 28])
 | 2 => ([0, 4, 42, 43], [4])
 | 3 => ([], [0, 4, 42, 43])
 | _ => ([], [])
theorem F84_ok : kj8 Try.prog K84 Try.f84 = some F84 := by kernel_rfl
/- 101: (*syndrome/field.Field).turn -/
def c101L0 : ACode := (.seq (.region [.o 57 (.b .lss 56 55)]) (.seq (.cond (.tmp 57) .skip (.exit 0)) (.seq (.block 1 [0, 5, 6, 55, 56] (.seq (.region [.m 58 56, .m 7 58]) (.region [.m 59 5, .m 60 7, .m 61 5, .m 62 7, .o 63 (.i 1 61 62), .o 64 (.l 63), .m 65 6, .m 66 0, .o 67 (.nilck (.tmp 66)), .o 68 (.f 1 67), .o 69 (.l 68), .m 70 0, .o 71 (.nilck (.tmp 70)), .o 72 (.f 3 71), .o 73 (.l 72), .m 74 7, .o 75 (.i 1 73 74), .o 76 (.l 75), .o 77 (.b .sub 69 76), .o 78 (.b .mul 65 77), .o 79 (.b .add 64 78), .m 80 0, .o 81 (.nilck (.tmp 80)), .o 82 (.f 1 81), .o 83 (.l 82), .o 84 (.b .rem 79 83), .o 85 (.i 1 59 60), .n (.st 1 (.tmp 85) (.tmp 84))]))) (.region [.o 86 (.c .add 56 1), .m 56 86]))))
def c101 : ACode := (.seq (.region [.k 4 0]) (.seq (.seq (.region [.m 8 0, .o 9 (.nilck (.tmp 8)), .o 10 (.f 2 9), .o 11 (.l 10), .o 12 (.c .eql 11 1)]) (.cond (.tmp 12) (.seq (.region [.m 13 1, .m 14 0, .o 15 (.nilck (.tmp 14)), .o 16 (.f 4 15), .o 17 (.l 16), .o 18 (.b .mul 13 17), .m 19 0, .o 20 (.nilck (.tmp 19)), .o 21 (.f 1 20), .o 22 (.l 21), .o 23 (.b .rem 18 22), .m 4 23]) .ret) .skip)) (.seq (.region [.m 24 1, .m 25 0, .o 26 (.nilck (.tmp 25)), .o 27 (.f 1 26), .o 28 (.l 27), .m 29 0, .o 30 (.nilck (.tmp 29)), .o 31 (.f 2 30), .o 32 (.l 31), .o 33 (.q 57 [24, 28, 32]), .m 5 33]) (.seq (.region [.m 34 5, .m 35 0, .o 36 (.nilck (.tmp 35)), .o 37 (.f 2 36), .o 38 (.l 37), .o 39 (.c .sub 38 1), .o 40 (.i 1 34 39), .o 41 (.l 40), .m 6 41]) (.seq (.region [.m 42 5, .o 43 (.sl 1 (.tmp 42) (some (.const (.int .i64 1))) none), .m 44 5, .m 45 0, .o 46 (.nilck (.tmp 45)), .o 47 (.f 2 46), .o 48 (.l 47), .o 49 (.c .sub 48 1), .o 50 (.sl 1 (.tmp 44) none (some (.tmp 49))), .o 51 (.cpy 1 (.tmp 43) (.tmp 50))]) (.seq (.region [.m 52 5, .o 53 (.iaddr 1 (.tmp 52) (.const (.int .i64 0))), .n (.st 1 (.tmp 53) (.const (.int .i64 0)))]) (.seq (.seq (.region [.m 54 5, .o 55 (.n 54), .k 56 0]) (.block 0 [0, 5] (.loop [0, 5, 6, 55, 56] c101L0))) (.seq (.region [.m 87 5, .m 88 0, .o 89 (.nilck (.tmp 88)), .o 90 (.f 1 89), .o 91 (.l 90), .o 92 (.q 106 [87, 91]), .m 4 92]) .ret))))))))
def F101 : AFun := ⟨c101, 2, 93, [(.tmp 4)]⟩
def K101 : Nat → List Nat × List Nat
 | 0 => ([0, 5, 6, 55, 56], [0, 5])
 | 1 => ([], [0, 5, 6, 55, 56])
 | _ => ([], [])
theorem F101_ok : kj8 Try.prog K101 Try.f101 = some F101 := by kernel_rfl
/- 106: syndrome/field.number -/
def c106L0 : ACode := (.seq (.seq (.region [.m 10 6, .o 11 (.c .geq 10 0)]) (.cond (.tmp 11) .skip (.exit 0))) (.seq (.block 1 [0, 1, 5, 6] (.region [.m 14 5, .m 15 1, .o 16 (.b .mul 14 15), .m 17 0, .m 18 6, .o 19 (.i 1 17 18), .o 20 (.l 19), .o 21 (.b .add 16 20), .m 5 21])) (.region [.m 12 6, .o 13 (.c .sub 12 1), .m 6 13])))
def c106 : ACode := (.seq (.region [.k 4 0]) (.seq (.region [.k 5 0]) (.seq (.seq (.region [.m 7 0, .o 8 (.n 7), .o 9 (.c .sub 8 1), .m 6 9]) (.block 0 [5] (.loop [0, 1, 5, 6] c106L0))) (.seq (.region [.m 22 5, .m 4 22]) .ret))))
def F106 : AFun := ⟨c106, 2, 23, [(.tmp 4)]⟩
def K106 : Nat → List Nat × List Nat
 | 0 => ([0, 1, 5, 6], [5])
 | 1 => ([], [0, 1, 5, 6])
 | _ => ([], [])
theorem F106_ok : kj8 Try.prog K106 Try.f106 = some F106 := by kernel_rfl
end Go.Proofs.Ytghfdpdiibiigaa
