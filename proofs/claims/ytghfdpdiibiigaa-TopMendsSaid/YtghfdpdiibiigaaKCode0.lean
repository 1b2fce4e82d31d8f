/-
  Functions of this seat as the small machine's code, written by a program of my own (gen.py); each is checked to be what the model's function is turned into. No condition.
-/
import Derived.Test.YtghfdpdiibiigaaK1
import Derived.Test.YtghfdpdiibiigaaProg
set_option linter.unusedVariables false
set_option linter.unusedSimpArgs false
set_option linter.unusedSectionVars false
set_option maxRecDepth 100000
namespace Go.Proofs.Ytghfdpdiibiigaa
open Go.Am
/- 8: syndrome/syndrometop.TopMends -/
def c8L0 : ACode := (.seq (.seq (.region [.m 82 17, .m 83 4, .o 84 (.b .lss 82 83)]) (.cond (.tmp 84) .skip (.exit 0))) (.seq (.block 1 [0, 1, 3, 4, 5, 13, 14, 15, 17] (.region [.m 87 15, .m 88 17, .o 89 (.i 1 87 88), .n (.st 1 (.tmp 89) (.const (.int .i64 (-1))))])) (.region [.m 85 17, .o 86 (.c .add 85 1), .m 17 86])))
def c8L1 : ACode := (.seq (.seq (.region [.m 91 19, .m 92 4, .m 93 5, .o 94 (.b .add 92 93), .o 95 (.b .lss 91 94)]) (.cond (.tmp 95) .skip (.exit 2))) (.seq (.block 3 [0, 1, 3, 4, 5, 13, 14, 15, 18, 19] (.seq (.region [.m 98 0, .m 99 19, .o 100 (.bin .add (.const (.int .i64 20)) (.tmp 99)), .o 101 (.q 41 [98, 100]), .m 102 1, .o 103 (.q 9 [101, 102]), .m 20 103]) (.seq (.seq (.region [.m 104 20, .m 105 15, .m 106 19, .o 107 (.i 1 105 106), .o 108 (.l 107), .o 109 (.b .neq 104 108)]) (.cond (.tmp 109) (.region [.m 110 18, .o 111 (.c .add 110 1), .m 18 111]) .skip)) (.region [.m 112 15, .m 113 19, .m 114 20, .o 115 (.i 1 112 113), .n (.st 1 (.tmp 115) (.tmp 114))])))) (.region [.m 96 19, .o 97 (.c .add 96 1), .m 19 97])))
def c8 : ACode := (.seq (.region [.o 12 (.mv (.const (.bool false)))]) (.seq (.seq (.region [.m 28 0, .o 29 (.n 28), .o 30 (.c .gtr 29 256)]) (.cond (.tmp 30) (.seq (.region [.o 12 (.mv (.const (.bool true)))]) .ret) .skip)) (.seq (.region [.m 31 1, .o 32 (.q 33 [31]), .m 1 32]) (.seq (.region [.m 33 2, .o 34 (.call 9 [(.tmp 33), (.const (.int .i64 16))]), .o 35 (.bin .add (.const (.int .i64 1)) (.tmp 34)), .m 2 35]) (.seq (.seq (.region [.m 36 2, .m 37 1, .o 38 (.b .gtr 36 37)]) (.cond (.tmp 38) (.region [.m 39 1, .m 2 39]) .skip)) (.seq (.region [.m 40 3, .m 41 2, .o 42 (.q 9 [40, 41]), .o 43 (.bin .add (.const (.int .i64 1)) (.tmp 42)), .m 3 43]) (.seq (.region [.m 44 0, .m 45 1, .m 46 2, .o 47 (.q 14 [44, 45, 46]), .m 13 47]) (.seq (.region [.m 48 0, .m 49 1, .m 50 3, .o 51 (.call 11 [(.tmp 48), (.const (.int .i64 3)), (.tmp 49), (.tmp 50)]), .m 14 51]) (.seq (.region [.m 53 1, .m 54 13, .m 55 14, .o 56 (.q 39 [53, 54, 55]), .m 52 56, .o 57 (.e 0 52), .o 58 (.e 1 52), .m 15 57, .m 16 58]) (.seq (.seq (.region [.m 59 16, .o 60 (.c .neq 59 0), .m 61 60, .g 62 (.m 15) 61 false, .g 63 (.n 62) 61 false, .g 64 (.m 2) 61 false, .g 65 (.b .neq 63 64) 61 false, .o 66 (.pick (.tmp 61) (.const (.bool true)) (.tmp 65))]) (.cond (.tmp 66) (.seq (.region [.o 12 (.mv (.const (.bool false)))]) .ret) .skip)) (.seq (.region [.m 67 4, .m 68 2, .m 69 3, .o 70 (.b .sub 68 69), .o 71 (.c .add 70 1), .o 72 (.q 9 [67, 71]), .m 4 72]) (.seq (.region [.m 73 5, .m 74 2, .m 75 3, .o 76 (.b .sub 74 75), .m 77 4, .o 78 (.b .sub 76 77), .o 79 (.c .quo 78 2), .o 80 (.c .add 79 1), .o 81 (.q 9 [73, 80]), .m 5 81]) (.seq (.seq (.region [.k 17 0]) (.block 0 [0, 1, 3, 4, 5, 13, 14, 15] (.loop [0, 1, 3, 4, 5, 13, 14, 15, 17] c8L0))) (.seq (.region [.k 18 0]) (.seq (.seq (.region [.m 90 4, .m 19 90]) (.block 2 [1, 3, 13, 14, 15, 18] (.loop [0, 1, 3, 4, 5, 13, 14, 15, 18, 19] c8L1))) (.seq (.region [.m 117 1, .m 118 13, .m 119 3, .m 120 15, .o 121 (.q 42 [117, 118, 119, 120]), .m 116 121, .o 122 (.e 0 116), .o 123 (.e 1 116), .o 124 (.e 2 116), .o 125 (.e 3 116), .m 21 122, .m 22 123, .m 23 124, .m 16 125]) (.seq (.region [.m 127 1, .m 128 13, .m 129 3, .m 130 15, .o 131 (.q 43 [127, 128, 129, 130]), .m 126 131, .o 132 (.e 0 126), .o 133 (.e 1 126), .o 134 (.e 2 126), .o 135 (.e 3 126), .m 24 132, .m 25 133, .m 26 134, .m 27 135]) (.seq (.region [.m 136 16, .o 137 (.c .eql 136 0), .m 138 137, .g 139 (.m 27) 138 true, .g 140 (.c .eql 139 0) 138 true, .o 141 (.pick (.tmp 138) (.tmp 140) (.const (.bool false))), .m 142 141, .g 143 (.m 23) 142 true, .o 144 (.pick (.tmp 142) (.tmp 143) (.const (.bool false))), .m 145 144, .g 146 (.m 26) 145 true, .o 147 (.pick (.tmp 145) (.tmp 146) (.const (.bool false))), .m 148 147, .g 149 (.m 21) 148 true, .g 150 (.m 14) 148 true, .g 151 (.q 16 [149, 150]) 148 true, .o 152 (.pick (.tmp 148) (.tmp 151) (.const (.bool false))), .m 153 152, .g 154 (.m 24) 153 true, .g 155 (.m 14) 153 true, .g 156 (.q 16 [154, 155]) 153 true, .o 157 (.pick (.tmp 153) (.tmp 156) (.const (.bool false))), .m 158 157, .g 159 (.m 22) 158 true, .g 160 (.m 18) 158 true, .g 161 (.b .eql 159 160) 158 true, .o 162 (.pick (.tmp 158) (.tmp 161) (.const (.bool false))), .m 163 162, .g 164 (.m 25) 163 true, .g 165 (.m 18) 163 true, .g 166 (.b .eql 164 165) 163 true, .o 167 (.pick (.tmp 163) (.tmp 166) (.const (.bool false))), .m 12 167]) .ret))))))))))))))))))
def F8 : AFun := ⟨c8, 6, 168, [(.tmp 12)]⟩
def K8 : Nat → List Nat × List Nat
 | 0 => ([0, 1, 3, 4, 5, 13, 14, 15, 17], [0, 1, 3, 4, 5, 13, 14, 15])
 | 1 => ([], [0, 1, 3, 4, 5, 13, 14, 15, 17])
 | 2 => ([0, 1, 3, 4, 5, 13, 14, 15, 18, 19], [1, 3, 13, 14, 15, 18])
 | 3 => ([], [0, 1, 3, 4, 5, 13, 14, 15, 18, 19])
 | _ => ([], [])
theorem F8_ok : kj8 Try.prog K8 Try.f8 = some F8 := by kernel_rfl
/- 9: syndrome/syndromeref.Pick -/
def c9 : ACode := (.seq (.region [.k 4 0]) (.seq (.seq (.region [.m 5 0, .o 6 (.c .lss 5 0)]) (.cond (.tmp 6) (.region [.m 7 0, .o 8 (.c .add 7 1), .o 9 (.un .neg (.tmp 8)), .m 0 9]) .skip)) (.seq (.region [.m 10 0, .m 11 1, .o 12 (.b .rem 10 11), .m 4 12]) .ret)))
def F9 : AFun := ⟨c9, 2, 13, [(.tmp 4)]⟩
def K9 : Nat → List Nat × List Nat
 | _ => ([], [])
theorem F9_ok : kj8 Try.prog K9 Try.f9 = some F9 := by kernel_rfl
/- 11: syndrome/syndromeref.Numbers -/
def c11L0 : ACode := (.seq (.seq (.region [.m 11 10, .m 12 3, .o 13 (.b .lss 11 12)]) (.cond (.tmp 13) .skip (.exit 0))) (.seq (.block 1 [0, 1, 2, 3, 9, 10] (.region [.m 16 9, .m 17 0, .m 18 1, .m 19 10, .o 20 (.b .add 18 19), .o 21 (.q 41 [17, 20]), .m 22 2, .o 23 (.q 9 [21, 22]), .o 24 (.mkSl 3 1 1 [(.tmp 23)]), .o 25 (.app 3 1 8 (.tmp 16) (.tmp 24)), .m 9 25])) (.region [.m 14 10, .o 15 (.c .add 14 1), .m 10 15])))
def c11 : ACode := (.seq (.region [.o 8 (.mv (.const (.slice none 0 0)))]) (.seq (.region [.o 9 (.mv (.const (.slice none 0 0)))]) (.seq (.seq (.region [.k 10 0]) (.block 0 [9] (.loop [0, 1, 2, 3, 9, 10] c11L0))) (.seq (.region [.m 26 9, .m 8 26]) .ret))))
def F11 : AFun := ⟨c11, 4, 27, [(.tmp 8)]⟩
def K11 : Nat → List Nat × List Nat
 | 0 => ([0, 1, 2, 3, 9, 10], [9])
 | 1 => ([], [0, 1, 2, 3, 9, 10])
 | _ => ([], [])
theorem F11_ok : kj8 Try.prog K11 Try.f11 = some F11 := by kernel_rfl
/- 14: syndrome/syndromeref.PlacesOf -/
def c14L0 : ACode := (.seq (.seq (.region [.m 14 8, .m 15 1, .o 16 (.b .lss 14 15)]) (.cond (.tmp 16) .skip (.exit 0))) (.seq (.block 1 [0, 1, 2, 7, 8] (.region [.m 19 7, .m 20 8, .m 21 8, .o 22 (.i 1 19 20), .n (.st 1 (.tmp 22) (.tmp 21))])) (.region [.m 17 8, .o 18 (.c .add 17 1), .m 8 18])))
def c14L1 : ACode := (.seq (.seq (.region [.m 23 9, .m 24 2, .o 25 (.b .lss 23 24)]) (.cond (.tmp 25) .skip (.exit 2))) (.seq (.block 3 [0, 1, 2, 7, 9] (.seq (.region [.m 28 9, .m 29 0, .m 30 9, .o 31 (.q 41 [29, 30]), .m 32 1, .m 33 9, .o 34 (.b .sub 32 33), .o 35 (.q 9 [31, 34]), .o 36 (.b .add 28 35), .m 10 36]) (.seq (.region [.m 37 7, .m 38 9, .o 39 (.i 1 37 38), .o 40 (.l 39), .m 11 40]) (.seq (.region [.m 41 7, .m 42 9, .m 43 7, .m 44 10, .o 45 (.i 1 43 44), .o 46 (.l 45), .o 47 (.i 1 41 42), .n (.st 1 (.tmp 47) (.tmp 46))]) (.region [.m 48 7, .m 49 10, .m 50 11, .o 51 (.i 1 48 49), .n (.st 1 (.tmp 51) (.tmp 50))]))))) (.region [.m 26 9, .o 27 (.c .add 26 1), .m 9 27])))
def c14 : ACode := (.seq (.region [.o 6 (.mv (.const (.slice none 0 0)))]) (.seq (.region [.m 12 1, .o 13 (.mks 3 1 8 [(.int .i64 0)] (.tmp 12) (.tmp 12)), .m 7 13]) (.seq (.seq (.region [.k 8 0]) (.block 0 [0, 1, 2, 7] (.loop [0, 1, 2, 7, 8] c14L0))) (.seq (.seq (.region [.k 9 0]) (.block 2 [2, 7] (.loop [0, 1, 2, 7, 9] c14L1))) (.seq (.region [.m 52 7, .m 53 2, .o 54 (.sl 1 (.tmp 52) none (some (.tmp 53))), .m 6 54]) .ret)))))
def F14 : AFun := ⟨c14, 3, 55, [(.tmp 6)]⟩
def K14 : Nat → List Nat × List Nat
 | 0 => ([0, 1, 2, 7, 8], [0, 1, 2, 7])
 | 1 => ([], [0, 1, 2, 7, 8])
 | 2 => ([0, 1, 2, 7, 9], [2, 7])
 | 3 => ([], [0, 1, 2, 7, 9])
 | _ => ([], [])
theorem F14_ok : kj8 Try.prog K14 Try.f14 = some F14 := by kernel_rfl
/- 16: syndrome/syndromeref.Same -/
def c16L0 : ACode := (.seq (.seq (.region [.m 11 5, .m 12 0, .o 13 (.n 12), .o 14 (.b .lss 11 13)]) (.cond (.tmp 14) .skip (.exit 0))) (.seq (.block 1 [0, 1, 5] (.seq (.region [.m 17 0, .m 18 5, .o 19 (.i 1 17 18), .o 20 (.l 19), .m 21 1, .m 22 5, .o 23 (.i 1 21 22), .o 24 (.l 23), .o 25 (.b .neq 20 24)]) (.cond (.tmp 25) (.seq (.region [.o 4 (.mv (.const (.bool false)))]) .ret) .skip))) (.region [.m 15 5, .o 16 (.c .add 15 1), .m 5 16])))
def c16 : ACode := (.seq (.region [.o 4 (.mv (.const (.bool false)))]) (.seq (.seq (.region [.m 6 0, .o 7 (.n 6), .m 8 1, .o 9 (.n 8), .o 10 (.b .neq 7 9)]) (.cond (.tmp 10) (.seq (.region [.o 4 (.mv (.const (.bool false)))]) .ret) .skip)) (.seq (.seq (.region [.k 5 0]) (.block 0 [] (.loop [0, 1, 5] c16L0))) (.seq (.region [.o 4 (.mv (.const (.bool true)))]) .ret))))
def F16 : AFun := ⟨c16, 2, 26, [(.tmp 4)]⟩
def K16 : Nat → List Nat × List Nat
 | 0 => ([0, 1, 5], [])
 | 1 => ([], [0, 1, 5])
 | _ => ([], [])
theorem F16_ok : kj8 Try.prog K16 Try.f16 = some F16 := by kernel_rfl
/- 21: (*syndrome/field.Field).Add -/
def c21L0 : ACode := (.seq (.region [.o 24 (.b .lss 23 22)]) (.seq (.cond (.tmp 24) .skip (.exit 0)) (.seq (.block 1 [0, 1, 2, 7, 8, 22, 23] (.seq (.region [.m 25 7, .m 26 1, .m 27 0, .o 28 (.nilck (.tmp 27)), .o 29 (.f 1 28), .o 30 (.l 29), .o 31 (.b .rem 26 30), .m 32 2, .m 33 0, .o 34 (.nilck (.tmp 33)), .o 35 (.f 1 34), .o 36 (.l 35), .o 37 (.b .rem 32 36), .o 38 (.b .add 31 37), .m 39 0, .o 40 (.nilck (.tmp 39)), .o 41 (.f 1 40), .o 42 (.l 41), .o 43 (.b .rem 38 42), .m 44 8, .o 45 (.b .mul 43 44), .o 46 (.b .add 25 45), .m 7 46]) (.region [.m 47 1, .m 48 0, .o 49 (.nilck (.tmp 48)), .o 50 (.f 1 49), .o 51 (.l 50), .o 52 (.b .quo 47 51), .m 53 2, .m 54 0, .o 55 (.nilck (.tmp 54)), .o 56 (.f 1 55), .o 57 (.l 56), .o 58 (.b .quo 53 57), .m 59 8, .m 60 0, .o 61 (.nilck (.tmp 60)), .o 62 (.f 1 61), .o 63 (.l 62), .o 64 (.b .mul 59 63), .m 1 52, .m 2 58, .m 8 64]))) (.region [.o 65 (.c .add 23 1), .m 23 65]))))
def c21 : ACode := (.seq (.region [.k 6 0]) (.seq (.seq (.region [.m 9 0, .m 10 1, .o 11 (.q 53 [9, 10]), .o 12 (.un .not (.tmp 11)), .m 13 12, .g 14 (.m 0) 13 false, .g 15 (.m 2) 13 false, .g 16 (.q 53 [14, 15]) 13 false, .g 17 (.un .not (.tmp 16)) 13 false, .o 18 (.pick (.tmp 13) (.const (.bool true)) (.tmp 17))]) (.cond (.tmp 18) (.seq (.region [.k 6 (-1)]) .ret) .skip)) (.seq (.region [.k 7 0, .k 8 1]) (.seq (.seq (.region [.m 19 0, .o 20 (.nilck (.tmp 19)), .o 21 (.f 2 20), .o 22 (.l 21), .k 23 0]) (.block 0 [7] (.loop [0, 1, 2, 7, 8, 22, 23] c21L0))) (.seq (.region [.m 66 7, .m 6 66]) .ret)))))
def F21 : AFun := ⟨c21, 3, 67, [(.tmp 6)]⟩
def K21 : Nat → List Nat × List Nat
 | 0 => ([0, 1, 2, 7, 8, 22, 23], [7])
 | 1 => ([], [0, 1, 2, 7, 8, 22, 23])
 | _ => ([], [])
theorem F21_ok : kj8 Try.prog K21 Try.f21 = some F21 := by kernel_rfl
/- 22: (*syndrome/field.Field).Mul -/
def c22 : ACode := (.seq (.region [.k 6 0]) (.seq (.seq (.region [.m 7 0, .m 8 1, .o 9 (.q 53 [7, 8]), .o 10 (.un .not (.tmp 9)), .m 11 10, .g 12 (.m 0) 11 false, .g 13 (.m 2) 11 false, .g 14 (.q 53 [12, 13]) 11 false, .g 15 (.un .not (.tmp 14)) 11 false, .o 16 (.pick (.tmp 11) (.const (.bool true)) (.tmp 15))]) (.cond (.tmp 16) (.seq (.region [.k 6 (-1)]) .ret) .skip)) (.seq (.seq (.region [.m 17 1, .o 18 (.c .eql 17 0), .m 19 18, .g 20 (.m 2) 19 false, .g 21 (.c .eql 20 0) 19 false, .o 22 (.pick (.tmp 19) (.const (.bool true)) (.tmp 21))]) (.cond (.tmp 22) (.seq (.region [.k 6 0]) .ret) .skip)) (.seq (.region [.m 23 0, .o 24 (.nilck (.tmp 23)), .o 25 (.f 5 24), .o 26 (.l 25), .m 27 0, .o 28 (.nilck (.tmp 27)), .o 29 (.f 6 28), .o 30 (.l 29), .m 31 1, .o 32 (.i 1 30 31), .o 33 (.l 32), .m 34 0, .o 35 (.nilck (.tmp 34)), .o 36 (.f 6 35), .o 37 (.l 36), .m 38 2, .o 39 (.i 1 37 38), .o 40 (.l 39), .o 41 (.b .add 33 40), .m 42 0, .o 43 (.nilck (.tmp 42)), .o 44 (.f 0 43), .o 45 (.l 44), .o 46 (.c .sub 45 1), .o 47 (.b .rem 41 46), .o 48 (.i 1 26 47), .o 49 (.l 48), .m 6 49]) .ret))))
def F22 : AFun := ⟨c22, 3, 50, [(.tmp 6)]⟩
def K22 : Nat → List Nat × List Nat
 | _ => ([], [])
theorem F22_ok : kj8 Try.prog K22 Try.f22 = some F22 := by kernel_rfl
/- 23: (*syndrome/field.Field).Neg -/
def c23L0 : ACode := (.seq (.region [.o 16 (.b .lss 15 14)]) (.seq (.cond (.tmp 16) .skip (.exit 0)) (.seq (.block 1 [0, 1, 5, 6, 14, 15] (.seq (.region [.m 17 5, .m 18 0, .o 19 (.nilck (.tmp 18)), .o 20 (.f 1 19), .o 21 (.l 20), .m 22 1, .m 23 0, .o 24 (.nilck (.tmp 23)), .o 25 (.f 1 24), .o 26 (.l 25), .o 27 (.b .rem 22 26), .o 28 (.b .sub 21 27), .m 29 0, .o 30 (.nilck (.tmp 29)), .o 31 (.f 1 30), .o 32 (.l 31), .o 33 (.b .rem 28 32), .m 34 6, .o 35 (.b .mul 33 34), .o 36 (.b .add 17 35), .m 5 36]) (.region [.m 37 1, .m 38 0, .o 39 (.nilck (.tmp 38)), .o 40 (.f 1 39), .o 41 (.l 40), .o 42 (.b .quo 37 41), .m 43 6, .m 44 0, .o 45 (.nilck (.tmp 44)), .o 46 (.f 1 45), .o 47 (.l 46), .o 48 (.b .mul 43 47), .m 1 42, .m 6 48]))) (.region [.o 49 (.c .add 15 1), .m 15 49]))))
def c23 : ACode := (.seq (.region [.k 4 0]) (.seq (.seq (.region [.m 7 0, .m 8 1, .o 9 (.q 53 [7, 8]), .o 10 (.un .not (.tmp 9))]) (.cond (.tmp 10) (.seq (.region [.k 4 (-1)]) .ret) .skip)) (.seq (.region [.k 5 0, .k 6 1]) (.seq (.seq (.region [.m 11 0, .o 12 (.nilck (.tmp 11)), .o 13 (.f 2 12), .o 14 (.l 13), .k 15 0]) (.block 0 [5] (.loop [0, 1, 5, 6, 14, 15] c23L0))) (.seq (.region [.m 50 5, .m 4 50]) .ret)))))
def F23 : AFun := ⟨c23, 2, 51, [(.tmp 4)]⟩
def K23 : Nat → List Nat × List Nat
 | 0 => ([0, 1, 5, 6, 14, 15], [5])
 | 1 => ([], [0, 1, 5, 6, 14, 15])
 | _ => ([], [])
theorem F23_ok : kj8 Try.prog K23 Try.f23 = some F23 := by kernel_rfl
/- 24: (*syndrome/field.Field).Sub -/
def c24 : ACode := (.seq (.region [.k 6 0]) (.seq (.region [.m 7 0, .m 8 1, .m 9 0, .m 10 2, .o 11 (.q 23 [9, 10]), .o 12 (.q 21 [7, 8, 11]), .m 6 12]) .ret))
def F24 : AFun := ⟨c24, 3, 13, [(.tmp 6)]⟩
def K24 : Nat → List Nat × List Nat
 | _ => ([], [])
theorem F24_ok : kj8 Try.prog K24 Try.f24 = some F24 := by kernel_rfl
/- 25: (*syndrome/field.Field).Inv -/
def c25 : ACode := (.seq (.region [.k 4 0]) (.seq (.seq (.region [.m 5 0, .m 6 1, .o 7 (.q 53 [5, 6]), .o 8 (.un .not (.tmp 7)), .m 9 8, .g 10 (.m 1) 9 false, .g 11 (.c .eql 10 0) 9 false, .o 12 (.pick (.tmp 9) (.const (.bool true)) (.tmp 11))]) (.cond (.tmp 12) (.seq (.region [.k 4 (-1)]) .ret) .skip)) (.seq (.region [.m 13 0, .o 14 (.nilck (.tmp 13)), .o 15 (.f 5 14), .o 16 (.l 15), .m 17 0, .o 18 (.nilck (.tmp 17)), .o 19 (.f 0 18), .o 20 (.l 19), .o 21 (.c .sub 20 1), .m 22 0, .o 23 (.nilck (.tmp 22)), .o 24 (.f 6 23), .o 25 (.l 24), .m 26 1, .o 27 (.i 1 25 26), .o 28 (.l 27), .o 29 (.b .sub 21 28), .m 30 0, .o 31 (.nilck (.tmp 30)), .o 32 (.f 0 31), .o 33 (.l 32), .o 34 (.c .sub 33 1), .o 35 (.b .rem 29 34), .o 36 (.i 1 16 35), .o 37 (.l 36), .m 4 37]) .ret)))
def F25 : AFun := ⟨c25, 2, 38, [(.tmp 4)]⟩
def K25 : Nat → List Nat × List Nat
 | _ => ([], [])
theorem F25_ok : kj8 Try.prog K25 Try.f25 = some F25 := by kernel_rfl
/- 26: (*syndrome/field.Field).Pow -/
def c26 : ACode := (.seq (.region [.k 6 0]) (.seq (.seq (.region [.m 7 0, .m 8 1, .o 9 (.q 53 [7, 8]), .o 10 (.un .not (.tmp 9)), .m 11 10, .g 12 (.m 1) 11 false, .g 13 (.c .eql 12 0) 11 false, .g 14 (.m 13) 11 false, .g 15 (.m 2) 14 true, .g 16 (.c .lss 15 0) 14 true, .g 17 (.pick (.tmp 14) (.tmp 16) (.const (.bool false))) 11 false, .o 18 (.pick (.tmp 11) (.const (.bool true)) (.tmp 17))]) (.cond (.tmp 18) (.seq (.region [.k 6 (-1)]) .ret) .skip)) (.seq (.seq (.region [.m 19 2, .o 20 (.c .eql 19 0)]) (.cond (.tmp 20) (.seq (.region [.k 6 1]) .ret) .skip)) (.seq (.seq (.region [.m 21 1, .o 22 (.c .eql 21 0)]) (.cond (.tmp 22) (.seq (.region [.k 6 0]) .ret) .skip)) (.seq (.region [.m 23 2, .m 24 0, .o 25 (.nilck (.tmp 24)), .o 26 (.f 0 25), .o 27 (.l 26), .o 28 (.c .sub 27 1), .o 29 (.b .rem 23 28), .m 2 29]) (.seq (.seq (.region [.m 30 2, .o 31 (.c .lss 30 0)]) (.cond (.tmp 31) (.region [.m 32 2, .m 33 0, .o 34 (.nilck (.tmp 33)), .o 35 (.f 0 34), .o 36 (.l 35), .o 37 (.c .sub 36 1), .o 38 (.b .add 32 37), .m 2 38]) .skip)) (.seq (.region [.m 39 0, .o 40 (.nilck (.tmp 39)), .o 41 (.f 5 40), .o 42 (.l 41), .m 43 0, .o 44 (.nilck (.tmp 43)), .o 45 (.f 6 44), .o 46 (.l 45), .m 47 1, .o 48 (.i 1 46 47), .o 49 (.l 48), .m 50 2, .o 51 (.b .mul 49 50), .m 52 0, .o 53 (.nilck (.tmp 52)), .o 54 (.f 0 53), .o 55 (.l 54), .o 56 (.c .sub 55 1), .o 57 (.b .rem 51 56), .o 58 (.i 1 42 57), .o 59 (.l 58), .m 6 59]) .ret)))))))
def F26 : AFun := ⟨c26, 3, 60, [(.tmp 6)]⟩
def K26 : Nat → List Nat × List Nat
 | _ => ([], [])
theorem F26_ok : kj8 Try.prog K26 Try.f26 = some F26 := by kernel_rfl
/- 33: syndrome/syndromeref.SizeOf -/
def c33 : ACode := (.seq (.region [.k 2 0]) (.seq (.region [.o 5 (.call 54 []), .m 3 5]) (.seq (.region [.m 6 0, .o 7 (.call 9 [(.tmp 6), (.const (.int .i64 100))]), .m 4 7]) (.seq (.seq (.region [.m 8 4, .o 9 (.c .lss 8 60)]) (.cond (.tmp 9) (.seq (.region [.m 10 3, .m 11 4, .o 12 (.c .rem 11 7), .o 13 (.i 1 10 12), .o 14 (.l 13), .m 2 14]) .ret) .skip)) (.seq (.region [.m 15 3, .m 16 0, .o 17 (.c .quo 16 100), .m 18 3, .o 19 (.n 18), .o 20 (.q 9 [17, 19]), .o 21 (.i 1 15 20), .o 22 (.l 21), .m 2 22]) .ret)))))
def F33 : AFun := ⟨c33, 1, 23, [(.tmp 2)]⟩
def K33 : Nat → List Nat × List Nat
 | _ => ([], [])
theorem F33_ok : kj8 Try.prog K33 Try.f33 = some F33 := by kernel_rfl
/- 36: syndrome/field.New -/
def tb2 : List Value := [(.int .u32 0), (.int .i32 0), (.int .u32 0), (.int .u32 0), (.int .i32 0), (.int .u32 0), (.int .u32 0), (.int .i32 0), (.int .u32 0), (.int .u32 0), (.int .i32 0), (.int .u32 0), (.int .u32 0), (.int .i32 0), (.int .u32 0), (.int .u32 0), (.int .i32 0), (.int .u32 0), (.int .u32 0), (.int .i32 0), (.int .u32 0), (.int .u32 0), (.int .i32 0), (.int .u32 0), (.int .u32 0), (.int .i32 0), (.int .u32 0), (.int .u32 0), (.int .i32 0), (.int .u32 0), (.int .u32 0), (.int .i32 0), (.int .u32 0), (.int .u32 0), (.int .i32 0), (.int .u32 0), (.int .u32 0), (.int .i32 0), (.int .u32 0), (.int .u32 0), (.int .i32 0), (.int .u32 0), (.int .u32 0), (.int .i32 0), (.int .u32 0), (.int .u32 0), (.int .i32 0), (.int .u32 0), (.int .u32 0), (.int .i32 0), (.int .u32 0), (.int .u32 0), (.int .i32 0), (.int .u32 0), (.int .u32 0), (.int .i32 0), (.int .u32 0), (.int .u32 0), (.int .i32 0), (.int .u32 0), (.int .u32 0), (.int .i32 0), (.int .u32 0), (.int .u32 0), (.int .i32 0), (.int .u32 0), (.int .u32 0), (.int .i32 0), (.int .u32 0), (.int .u32 0), (.int .i32 0), (.int .u32 0), (.int .u32 0), (.int .i32 0), (.int .u32 0), (.int .u32 0), (.int .i32 0), (.int .u32 0), (.int .u32 0), (.int .i32 0), (.int .u32 0), (.int .u32 0), (.int .i32 0), (.int .u32 0), (.int .u32 0), (.int .i32 0), (.int .u32 0), (.int .u32 0), (.int .i32 0), (.int .u32 0), (.int .u32 0), (.int .i32 0), (.int .u32 0), (.int .u32 0), (.int .i32 0), (.int .u32 0), (.int .u32 0), (.int .i32 0), (.int .u32 0), (.int .u32 0), (.int .i32 0), (.int .u32 0), (.int .u32 0), (.int .i32 0), (.int .u32 0), (.int .u32 0), (.int .i32 0), (.int .u32 0), (.int .u32 0), (.int .i32 0), (.int .u32 0), (.int .u32 0), (.int .i32 0), (.int .u32 0), (.int .u32 0), (.int .i32 0), (.int .u32 0), (.int .u32 0), (.int .i32 0), (.int .u32 0), (.int .u32 0), (.int .i32 0), (.int .u32 0), (.int .u32 0), (.int .i32 0), (.int .u32 0), (.int .u32 0), (.int .i32 0), (.int .u32 0), (.int .u32 0), (.int .i32 0), (.int .u32 0), (.int .u32 0), (.int .i32 0), (.int .u32 0), (.int .u32 0), (.int .i32 0), (.int .u32 0), (.int .u32 0), (.int .i32 0), (.int .u32 0), (.int .u32 0), (.int .i32 0), (.int .u32 0), (.int .u32 0), (.int .i32 0), (.int .u32 0), (.int .u32 0), (.int .i32 0), (.int .u32 0), (.int .u32 0), (.int .i32 0), (.int .u32 0), (.int .u32 0), (.int .i32 0), (.int .u32 0), (.int .u32 0), (.int .i32 0), (.int .u32 0), (.int .u32 0), (.int .i32 0), (.int .u32 0), (.int .u32 0), (.int .i32 0), (.int .u32 0), (.int .u32 0), (.int .i32 0), (.int .u32 0), (.int .u32 0), (.int .i32 0), (.int .u32 0), (.int .u32 0), (.int .i32 0), (.int .u32 0), (.int .u32 0), (.int .i32 0), (.int .u32 0), (.int .u32 0), (.int .i32 0), (.int .u32 0), (.int .u32 0), (.int .i32 0), (.int .u32 0), (.int .u32 0), (.int .i32 0), (.int .u32 0), (.int .u32 0), (.int .i32 0), (.int .u32 0), (.int .u32 0), (.int .i32 0), (.int .u32 0), (.int .u32 0), (.int .i32 0), (.int .u32 0), (.pointer none), (.pointer none), (.pointer none), (.pointer none), (.pointer none), (.pointer none), (.pointer none), (.pointer none), (.pointer none), (.pointer none), (.pointer none), (.pointer none), (.pointer none), (.pointer none), (.pointer none), (.pointer none), (.pointer none), (.pointer none), (.pointer none), (.pointer none), (.pointer none), (.pointer none), (.pointer none), (.pointer none), (.pointer none), (.pointer none), (.pointer none), (.pointer none), (.pointer none), (.pointer none), (.pointer none), (.pointer none), (.pointer none), (.pointer none), (.pointer none), (.pointer none), (.pointer none), (.pointer none), (.pointer none), (.pointer none), (.pointer none), (.pointer none), (.pointer none), (.pointer none), (.pointer none), (.pointer none), (.pointer none), (.pointer none), (.pointer none), (.pointer none), (.pointer none), (.pointer none), (.pointer none), (.pointer none), (.pointer none), (.pointer none), (.pointer none), (.pointer none), (.pointer none), (.pointer none), (.pointer none), (.pointer none), (.pointer none), (.pointer none), (.pointer none)]
def c36 : ACode := (.seq (.region [.o 1 (.box 3 1 (.tmp 0)), .o 2 (.mv (.const (.pointer none))), .k 3 0]) (.seq (.seq (.region [.o 5 (.l 1), .o 6 (.c .lss 5 2), .m 7 6, .g 8 (.l 1) 7 false, .g 9 (.c .gtr 8 64) 7 false, .o 10 (.pick (.tmp 7) (.const (.bool true)) (.tmp 9))]) (.cond (.tmp 10) (.seq (.region [.o 2 (.mv (.const (.pointer none))), .k 3 1]) .ret) .skip)) (.seq (.region [.o 4 (.alloc 93 tb2)]) (.seq (.region [.o 11 (.l 1), .o 12 (.f 0 4), .o 13 (.iaddrA 65 3 (.tmp 12) (.tmp 11)), .o 14 (.mkf 59 [(.tmp 1), (.tmp 4)]), .o 15 (.q 58 [13, 14])]) (.seq (.seq (.region [.o 16 (.l 1), .o 17 (.f 195 4), .o 18 (.iaddrA 65 1 (.tmp 17) (.tmp 16)), .o 19 (.l 18), .o 20 (.eqn false 1 (.tmp 19))]) (.cond (.tmp 20) (.seq (.region [.o 2 (.mv (.const (.pointer none))), .k 3 1]) .ret) .skip)) (.seq (.region [.o 21 (.l 1), .o 22 (.f 195 4), .o 23 (.iaddrA 65 1 (.tmp 22) (.tmp 21)), .o 24 (.l 23), .m 2 24, .k 3 0]) .ret))))))
def F36 : AFun := ⟨c36, 1, 25, [(.tmp 2), (.tmp 3)]⟩
def K36 : Nat → List Nat × List Nat
 | _ => ([], [])
theorem F36_ok : kj8 Try.prog K36 Try.f36 = some F36 := by kernel_rfl
/- 39: syndrome/reed.Encode -/
def c39L0 : ACode := (.seq (.region [.o 33 (.b .lss 32 31)]) (.seq (.cond (.tmp 33) .skip (.exit 0)) (.seq (.block 1 [0, 2, 10, 30, 31, 32] (.seq (.region [.m 34 32, .o 35 (.i 1 30 32), .o 36 (.l 35), .m 11 34, .m 12 36]) (.region [.m 38 10, .m 39 11, .m 40 0, .m 41 2, .m 42 12, .o 43 (.q 64 [40, 41, 42]), .m 37 43, .o 44 (.e 0 37), .o 45 (.e 1 37), .o 46 (.i 1 38 39), .n (.st 1 (.tmp 46) (.tmp 44))]))) (.region [.o 47 (.c .add 32 1), .m 32 47]))))
def c39 : ACode := (.seq (.region [.o 6 (.mv (.const (.slice none 0 0))), .k 7 0]) (.seq (.seq (.region [.m 13 0, .m 14 1, .m 15 2, .o 16 (.n 15), .o 17 (.q 63 [13, 14, 16]), .m 8 17]) (.seq (.region [.m 18 8, .o 19 (.c .neq 18 0)]) (.cond (.tmp 19) (.seq (.region [.m 20 8, .o 6 (.mv (.const (.slice none 0 0))), .m 7 20]) .ret) .skip))) (.seq (.seq (.region [.m 21 0, .m 22 2, .o 23 (.q 61 [21, 22]), .m 9 23]) (.seq (.region [.m 24 9, .o 25 (.c .neq 24 0)]) (.cond (.tmp 25) (.seq (.region [.m 26 9, .o 6 (.mv (.const (.slice none 0 0))), .m 7 26]) .ret) .skip))) (.seq (.region [.m 27 1, .o 28 (.n 27), .o 29 (.mks 3 1 8 [(.int .i64 0)] (.tmp 28) (.tmp 28)), .m 10 29]) (.seq (.seq (.region [.m 30 1, .o 31 (.n 30), .k 32 0]) (.block 0 [10] (.loop [0, 2, 10, 30, 31, 32] c39L0))) (.seq (.region [.m 48 10, .m 6 48, .k 7 0]) .ret))))))
def F39 : AFun := ⟨c39, 3, 49, [(.tmp 6), (.tmp 7)]⟩
def K39 : Nat → List Nat × List Nat
 | 0 => ([0, 2, 10, 30, 31, 32], [10])
 | 1 => ([], [0, 2, 10, 30, 31, 32])
 | _ => ([], [])
theorem F39_ok : kj8 Try.prog K39 Try.f39 = some F39 := by kernel_rfl
/- 41: syndrome/syndromeref.Raw -/
def c41 : ACode := (.seq (.region [.k 4 0]) (.seq (.seq (.region [.m 5 0, .o 6 (.n 5), .o 7 (.c .eql 6 0)]) (.cond (.tmp 7) (.seq (.region [.m 8 1, .m 4 8]) .ret) .skip)) (.seq (.region [.m 9 0, .m 10 1, .m 11 0, .o 12 (.n 11), .o 13 (.b .rem 10 12), .o 14 (.i 1 9 13), .o 15 (.l 14), .m 16 1, .m 17 0, .o 18 (.n 17), .o 19 (.b .quo 16 18), .o 20 (.c .mul 19 7919), .o 21 (.b .add 15 20), .m 4 21]) .ret)))
def F41 : AFun := ⟨c41, 2, 22, [(.tmp 4)]⟩
def K41 : Nat → List Nat × List Nat
 | _ => ([], [])
theorem F41_ok : kj8 Try.prog K41 Try.f41 = some F41 := by kernel_rfl
/- 42: syndrome/reed.Solve -/
def c42L0 : ACode := (.seq (.region [.o 64 (.b .lss 63 62)]) (.seq (.cond (.tmp 64) .skip (.exit 2)) (.seq (.block 3 [0, 2, 13, 14, 15, 17, 18, 19, 20, 21, 58, 59, 62, 63] (.seq (.region [.m 65 63, .m 22 65]) (.region [.m 66 21, .m 67 15, .m 68 14, .m 69 20, .o 70 (.i 1 68 69), .o 71 (.l 70), .m 72 15, .m 73 13, .m 74 20, .o 75 (.i 1 73 74), .o 76 (.l 75), .m 77 22, ⟨(some 78), (.call 26 [(.tmp 72), (.tmp 76), (.tmp 77)]), none, true⟩, .o 79 (.q 22 [67, 71, 78]), .o 80 (.mkSl 3 1 1 [(.tmp 79)]), .o 81 (.app 3 1 8 (.tmp 66) (.tmp 80)), .m 21 81]))) (.region [.o 82 (.c .add 63 1), .m 63 82]))))
def c42L1 : ACode := (.seq (.region [.o 87 (.b .lss 86 85)]) (.seq (.cond (.tmp 87) .skip (.exit 4)) (.seq (.block 5 [0, 2, 13, 14, 15, 17, 18, 19, 20, 21, 58, 59, 85, 86] (.seq (.region [.m 88 86, .m 23 88]) (.region [.m 89 21, .m 90 15, .m 91 15, .m 92 13, .m 93 20, .o 94 (.i 1 92 93), .o 95 (.l 94), .m 96 23, .o 97 (.q 26 [91, 95, 96]), .o 98 (.q 23 [90, 97]), .o 99 (.mkSl 3 1 1 [(.tmp 98)]), .o 100 (.app 3 1 8 (.tmp 89) (.tmp 99)), .m 21 100]))) (.region [.o 101 (.c .add 86 1), .m 86 101]))))
def c42L2 : ACode := (.seq (.region [.o 60 (.b .lss 59 58)]) (.seq (.cond (.tmp 60) .skip (.exit 0)) (.seq (.block 1 [0, 2, 13, 14, 15, 17, 18, 19, 58, 59] (.seq (.region [.m 61 59, .m 20 61]) (.seq (.region [.o 21 (.mv (.const (.slice none 0 0)))]) (.seq (.seq (.region [.m 62 17, .k 63 0]) (.block 2 [0, 2, 13, 14, 15, 17, 18, 19, 20, 21, 58, 59] (.loop [0, 2, 13, 14, 15, 17, 18, 19, 20, 21, 58, 59, 62, 63] c42L0))) (.seq (.seq (.region [.m 83 17, .m 84 2, .o 85 (.b .add 83 84), .k 86 0]) (.block 4 [0, 2, 13, 14, 15, 17, 18, 19, 20, 21, 58, 59] (.loop [0, 2, 13, 14, 15, 17, 18, 19, 20, 21, 58, 59, 85, 86] c42L1))) (.seq (.region [.m 102 18, .m 103 21, .o 104 (.mkSl 22 1 1 [(.tmp 103)]), .o 105 (.app 22 1 24 (.tmp 102) (.tmp 104)), .m 18 105]) (.region [.m 106 19, .m 107 15, .m 108 15, .m 109 14, .m 110 20, .o 111 (.i 1 109 110), .o 112 (.l 111), .m 113 15, .m 114 13, .m 115 20, .o 116 (.i 1 114 115), .o 117 (.l 116), .m 118 17, ⟨(some 119), (.call 26 [(.tmp 113), (.tmp 117), (.tmp 118)]), none, true⟩, .o 120 (.q 22 [108, 112, 119]), .o 121 (.q 23 [107, 120]), .o 122 (.mkSl 3 1 1 [(.tmp 121)]), .o 123 (.app 3 1 8 (.tmp 106) (.tmp 122)), .m 19 123]))))))) (.region [.o 124 (.c .add 59 1), .m 59 124]))))
def c42 : ACode := (.seq (.region [.o 8 (.mv (.const (.slice none 0 0))), .k 9 0, .o 10 (.mv (.const (.bool false))), .k 11 0]) (.seq (.seq (.region [.m 29 0, .m 30 1, .m 31 2, .m 32 3, .o 33 (.q 65 [29, 30, 31, 32]), .m 12 33]) (.seq (.region [.m 34 12, .o 35 (.c .neq 34 0)]) (.cond (.tmp 35) (.seq (.region [.m 36 12, .o 8 (.mv (.const (.slice none 0 0))), .k 9 0, .o 10 (.mv (.const (.bool false))), .m 11 36]) .ret) .skip))) (.seq (.region [.m 38 1, .m 39 3, .o 40 (.q 66 [38, 39]), .m 37 40, .o 41 (.e 0 37), .o 42 (.e 1 37), .m 13 41, .m 14 42]) (.seq (.seq (.region [.m 43 13, .o 44 (.n 43), .m 45 2, .o 46 (.b .lss 44 45)]) (.cond (.tmp 46) (.seq (.region [.o 8 (.mv (.const (.slice none 0 0))), .k 9 0, .o 10 (.mv (.const (.bool false))), .k 11 0]) .ret) .skip)) (.seq (.region [.m 48 0, .o 49 (.q 36 [48]), .m 47 49, .o 50 (.e 0 47), .o 51 (.e 1 47), .m 15 50, .m 16 51]) (.seq (.region [.m 52 13, .o 53 (.n 52), .m 54 2, .o 55 (.b .sub 53 54), .o 56 (.c .quo 55 2), .m 17 56]) (.seq (.region [.o 18 (.mv (.const (.slice none 0 0)))]) (.seq (.region [.o 19 (.mv (.const (.slice none 0 0)))]) (.seq (.seq (.region [.m 57 13, .o 58 (.n 57), .k 59 0]) (.block 0 [0, 2, 13, 14, 17, 18, 19] (.loop [0, 2, 13, 14, 15, 17, 18, 19, 58, 59] c42L2))) (.seq (.region [.m 126 0, .m 127 18, .m 128 19, .o 129 (.q 52 [126, 127, 128]), .m 125 129, .o 130 (.e 0 125), .o 131 (.e 1 125), .o 132 (.e 2 125), .m 24 130, .m 25 131, .m 11 132]) (.seq (.seq (.region [.m 133 11, .o 134 (.c .neq 133 0), .m 135 134, .g 136 (.m 25) 135 false, .g 137 (.un .not (.tmp 136)) 135 false, .o 138 (.pick (.tmp 135) (.const (.bool true)) (.tmp 137))]) (.cond (.tmp 138) (.seq (.region [.o 8 (.mv (.const (.slice none 0 0))), .k 9 0, .o 10 (.mv (.const (.bool false))), .k 11 0]) .ret) .skip)) (.seq (.region [.m 140 0, .m 141 24, .m 142 17, .m 144 24, .m 145 17, .o 148 (.mkSl 3 1 1 [(.const (.int .i64 1))]), .o 146 (.sl 1 (.tmp 144) none (some (.tmp 145))), ⟨(some 147), (.call 68 [(.tmp 146)]), none, true⟩, .o 149 (.app 3 1 8 (.tmp 147) (.tmp 148)), .o 143 (.sl 1 (.tmp 141) (some (.tmp 142)) none), .o 150 (.q 67 [140, 143, 149]), .m 139 150, .o 151 (.e 0 139), .o 152 (.e 1 139), .o 153 (.e 2 139), .m 26 151, .m 27 152, .m 28 153]) (.seq (.seq (.region [.m 154 27, .o 155 (.n 154), .o 156 (.c .gtr 155 0), .m 157 156, .g 158 (.m 26) 157 false, .g 159 (.n 158) 157 false, .g 160 (.m 2) 157 false, .g 161 (.b .gtr 159 160) 157 false, .o 162 (.pick (.tmp 157) (.const (.bool true)) (.tmp 161))]) (.cond (.tmp 162) (.seq (.region [.o 8 (.mv (.const (.slice none 0 0))), .k 9 0, .o 10 (.mv (.const (.bool false))), .k 11 0]) .ret) .skip)) (.seq (.region [.m 163 0, .m 164 13, .m 165 14, .m 166 26, .m 167 2, .o 168 (.q 69 [163, 164, 165, 166, 167]), .o 169 (.e 0 168), .o 170 (.e 1 168), .o 171 (.e 2 168), .o 172 (.e 3 168), .m 8 169, .m 9 170, .m 10 171, .m 11 172]) .ret))))))))))))))
def F42 : AFun := ⟨c42, 4, 173, [(.tmp 8), (.tmp 9), (.tmp 10), (.tmp 11)]⟩
def K42 : Nat → List Nat × List Nat
 | 0 => ([0, 2, 13, 14, 15, 17, 18, 19, 58, 59], [0, 2, 13, 14, 17, 18, 19])
 | 1 => ([], [0, 2, 13, 14, 15, 17, 18, 19, 58, 59])
 | 2 => ([0, 2, 13, 14, 15, 17, 18, 19, 20, 21, 58, 59, 62, 63], [0, 2, 13, 14, 15, 17, 18, 19, 20, 21, 58, 59])
 | 3 => ([], [0, 2, 13, 14, 15, 17, 18, 19, 20, 21, 58, 59, 62, 63])
 | 4 => ([0, 2, 13, 14, 15, 17, 18, 19, 20, 21, 58, 59, 85, 86], [0, 2, 13, 14, 15, 17, 18, 19, 20, 21, 58, 59])
 | 5 => ([], [0, 2, 13, 14, 15, 17, 18, 19, 20, 21, 58, 59, 85, 86])
 | _ => ([], [])
theorem F42_ok : kj8 Try.prog K42 Try.f42 = some F42 := by kernel_rfl
/- 43: syndrome/reed.Euclid -/
def c43L0 : ACode := (.seq (.region [.o 61 (.b .lss 60 59)]) (.seq (.cond (.tmp 61) .skip (.exit 0)) (.seq (.block 1 [0, 2, 13, 14, 15, 17, 58, 59, 60] (.seq (.region [.o 62 (.i 1 58 60), .o 63 (.l 62), .m 19 63]) (.region [.m 65 0, .m 66 17, .m 67 15, .m 68 19, .o 69 (.q 23 [67, 68]), .o 70 (.mkSl 3 1 2 [(.tmp 69), (.const (.int .i64 1))]), .o 71 (.q 70 [65, 66, 70]), .m 64 71, .o 72 (.e 0 64), .o 73 (.e 1 64), .m 17 72]))) (.region [.o 74 (.c .add 60 1), .m 60 74]))))
def c43L1 : ACode := (.seq (.region [.o 110 (.b .lss 109 108)]) (.seq (.cond (.tmp 110) .skip (.exit 4)) (.seq (.block 5 [0, 2, 13, 14, 15, 20, 22, 23, 25, 27, 108, 109] (.seq (.region [.m 111 109, .m 29 111]) (.region [.m 112 27, .m 113 29, .m 114 15, .m 115 27, .m 116 29, .o 117 (.i 1 115 116), .o 118 (.l 117), .o 119 (.q 23 [114, 118]), .o 120 (.i 1 112 113), .n (.st 1 (.tmp 120) (.tmp 119))]))) (.region [.o 121 (.c .add 109 1), .m 109 121]))))
def c43L2 : ACode := (.seq (.seq (.region [.m 83 20, .o 84 (.n 83), .o 85 (.c .sub 84 1), .o 86 (.bin .mul (.const (.int .i64 2)) (.tmp 85)), .m 87 13, .o 88 (.n 87), .m 89 2, .o 90 (.b .add 88 89), .o 91 (.b .geq 86 90)]) (.cond (.tmp 91) .skip (.exit 2))) (.block 3 [0, 2, 13, 14, 15, 17, 20, 22, 23] (.seq (.region [.m 93 0, .m 94 17, .m 95 20, .o 96 (.q 67 [93, 94, 95]), .m 92 96, .o 97 (.e 0 92), .o 98 (.e 1 92), .o 99 (.e 2 92), .m 24 97, .m 25 98, .m 26 99]) (.seq (.region [.m 101 0, .m 102 24, .m 103 23, .o 104 (.q 70 [101, 102, 103]), .m 100 104, .o 105 (.e 0 100), .o 106 (.e 1 100), .m 27 105, .m 28 106]) (.seq (.seq (.region [.m 107 27, .o 108 (.n 107), .k 109 0]) (.block 4 [0, 2, 13, 14, 15, 20, 22, 23, 25, 27] (.loop [0, 2, 13, 14, 15, 20, 22, 23, 25, 27, 108, 109] c43L1))) (.seq (.region [.m 123 0, .m 124 22, .m 125 27, .o 126 (.q 62 [123, 124, 125]), .m 122 126, .o 127 (.e 0 122), .o 128 (.e 1 122), .m 30 127, .m 31 128]) (.region [.m 129 20, .m 130 25, .m 131 23, .m 132 30, .m 17 129, .m 20 130, .m 22 131, .m 23 132])))))))
def c43 : ACode := (.seq (.region [.o 8 (.mv (.const (.slice none 0 0))), .k 9 0, .o 10 (.mv (.const (.bool false))), .k 11 0]) (.seq (.seq (.region [.m 34 0, .m 35 1, .m 36 2, .m 37 3, .o 38 (.q 65 [34, 35, 36, 37]), .m 12 38]) (.seq (.region [.m 39 12, .o 40 (.c .neq 39 0)]) (.cond (.tmp 40) (.seq (.region [.m 41 12, .o 8 (.mv (.const (.slice none 0 0))), .k 9 0, .o 10 (.mv (.const (.bool false))), .m 11 41]) .ret) .skip))) (.seq (.region [.m 43 1, .m 44 3, .o 45 (.q 66 [43, 44]), .m 42 45, .o 46 (.e 0 42), .o 47 (.e 1 42), .m 13 46, .m 14 47]) (.seq (.seq (.region [.m 48 13, .o 49 (.n 48), .m 50 2, .o 51 (.b .lss 49 50)]) (.cond (.tmp 51) (.seq (.region [.o 8 (.mv (.const (.slice none 0 0))), .k 9 0, .o 10 (.mv (.const (.bool false))), .k 11 0]) .ret) .skip)) (.seq (.region [.m 53 0, .o 54 (.q 36 [53]), .m 52 54, .o 55 (.e 0 52), .o 56 (.e 1 52), .m 15 55, .m 16 56]) (.seq (.region [.o 57 (.mkSl 3 1 1 [(.const (.int .i64 1))]), .m 17 57]) (.seq (.seq (.region [.m 58 13, .o 59 (.n 58), .k 60 0]) (.block 0 [0, 2, 13, 14, 15, 17] (.loop [0, 2, 13, 14, 15, 17, 58, 59, 60] c43L0))) (.seq (.region [.m 76 0, .m 77 13, .m 78 14, .o 79 (.q 71 [76, 77, 78]), .m 75 79, .o 80 (.e 0 75), .o 81 (.e 1 75), .m 20 80, .m 21 81]) (.seq (.region [.o 22 (.mv (.const (.slice none 0 0))), .o 23 (.mv (.const (.slice none 0 0)))]) (.seq (.region [.o 82 (.mkSl 3 1 1 [(.const (.int .i64 1))]), .m 23 82]) (.seq (.block 2 [0, 2, 13, 14, 20, 23] (.loop [0, 2, 13, 14, 15, 17, 20, 22, 23] c43L2)) (.seq (.region [.m 134 0, .m 135 20, .m 136 23, .o 137 (.q 67 [134, 135, 136]), .m 133 137, .o 138 (.e 0 133), .o 139 (.e 1 133), .o 140 (.e 2 133), .m 32 138, .m 33 139, .m 11 140]) (.seq (.seq (.region [.m 141 11, .o 142 (.c .neq 141 0), .m 143 142, .g 144 (.m 33) 143 false, .g 145 (.n 144) 143 false, .g 146 (.c .gtr 145 0) 143 false, .o 147 (.pick (.tmp 143) (.const (.bool true)) (.tmp 146)), .m 148 147, .g 149 (.m 32) 148 false, .g 150 (.n 149) 148 false, .g 151 (.m 2) 148 false, .g 152 (.b .gtr 150 151) 148 false, .o 153 (.pick (.tmp 148) (.const (.bool true)) (.tmp 152))]) (.cond (.tmp 153) (.seq (.region [.o 8 (.mv (.const (.slice none 0 0))), .k 9 0, .o 10 (.mv (.const (.bool false))), .k 11 0]) .ret) .skip)) (.seq (.region [.m 154 0, .m 155 13, .m 156 14, .m 157 32, .m 158 2, .o 159 (.q 69 [154, 155, 156, 157, 158]), .o 160 (.e 0 159), .o 161 (.e 1 159), .o 162 (.e 2 159), .o 163 (.e 3 159), .m 8 160, .m 9 161, .m 10 162, .m 11 163]) .ret))))))))))))))
def F43 : AFun := ⟨c43, 4, 164, [(.tmp 8), (.tmp 9), (.tmp 10), (.tmp 11)]⟩
def K43 : Nat → List Nat × List Nat
 | 0 => ([0, 2, 13, 14, 15, 17, 58, 59, 60], [0, 2, 13, 14, 15, 17])
 | 1 => ([], [0, 2, 13, 14, 15, 17, 58, 59, 60])
 | 2 => ([0, 2, 13, 14, 15, 17, 20, 22, 23], [0, 2, 13, 14, 20, 23])
 | 3 => ([], [0, 2, 13, 14, 15, 17, 20, 22, 23])
 | 4 => ([0, 2, 13, 14, 15, 20, 22, 23, 25, 27, 108, 109], [0, 2, 13, 14, 15, 20, 22, 23, 25, 27])
 | 5 => ([], [0, 2, 13, 14, 15, 20, 22, 23, 25, 27, 108, 109])
 | _ => ([], [])
theorem F43_ok : kj8 Try.prog K43 Try.f43 = some F43 := by kernel_rfl
/- 51: slices.Contains[[]int,int] -/
def c51 : ACode := (.seq (.region [.o 4 (.mv (.const (.bool false)))]) (.seq (.region [.m 5 0, .m 6 1, .o 7 (.q 78 [5, 6]), .o 8 (.c .geq 7 0), .m 4 8]) .ret))
def F51 : AFun := ⟨c51, 2, 9, [(.tmp 4)]⟩
def K51 : Nat → List Nat × List Nat
 | _ => ([], [])
theorem F51_ok : kj8 Try.prog K51 Try.f51 = some F51 := by kernel_rfl
/- 52: syndrome/matrix.Solve -/
def c52 : ACode := (.seq (.region [.o 6 (.mv (.const (.slice none 0 0))), .o 7 (.mv (.const (.bool false))), .k 8 0]) (.seq (.region [.m 14 0, .m 15 1, .o 16 (.q 74 [14, 15]), .m 9 16]) (.seq (.seq (.region [.m 17 9, .o 18 (.c .neq 17 0)]) (.cond (.tmp 18) (.seq (.region [.m 19 9, .o 6 (.mv (.const (.slice none 0 0))), .o 7 (.mv (.const (.bool false))), .m 8 19]) .ret) .skip)) (.seq (.seq (.region [.m 20 2, .o 21 (.n 20), .m 22 1, .o 23 (.n 22), .o 24 (.b .neq 21 23)]) (.cond (.tmp 24) (.seq (.region [.o 6 (.mv (.const (.slice none 0 0))), .o 7 (.mv (.const (.bool false))), .k 8 6]) .ret) .skip)) (.seq (.region [.m 26 0, .o 27 (.q 36 [26]), .m 25 27, .o 28 (.e 0 25), .o 29 (.e 1 25), .o 10 (.alloc 41 [(.pointer none)]), .n (.st 1 (.tmp 10) (.tmp 28)), .m 11 29]) (.seq (.seq (.region [.m 30 2, .o 31 (.mkf 79 [(.tmp 10)]), .o 32 (.q 72 [30, 31])]) (.cond (.tmp 32) (.seq (.region [.o 6 (.mv (.const (.slice none 0 0))), .o 7 (.mv (.const (.bool false))), .k 8 2]) .ret) .skip)) (.seq (.seq (.region [.m 33 1, .o 34 (.n 33), .o 35 (.c .eql 34 0)]) (.cond (.tmp 35) (.seq (.region [.o 6 (.mv (.const (.slice none 0 0))), .o 7 (.mv (.const (.bool true))), .k 8 0]) .ret) .skip)) (.seq (.region [.m 37 0, .m 38 1, .m 39 2, .o 40 (.q 80 [37, 38, 39]), .m 36 40, .o 41 (.e 0 36), .o 42 (.e 1 36), .m 12 41, .m 13 42]) (.seq (.region [.m 43 12, .m 44 13, .m 6 43, .m 7 44, .k 8 0]) .ret)))))))))
def F52 : AFun := ⟨c52, 3, 45, [(.tmp 6), (.tmp 7), (.tmp 8)]⟩
def K52 : Nat → List Nat × List Nat
 | _ => ([], [])
theorem F52_ok : kj8 Try.prog K52 Try.f52 = some F52 := by kernel_rfl
/- 53: (*syndrome/field.Field).Has -/
def c53 : ACode := (.seq (.region [.o 4 (.mv (.const (.bool false)))]) (.seq (.region [.m 5 1, .o 6 (.c .geq 5 0), .m 7 6, .g 8 (.m 1) 7 true, .g 9 (.m 0) 7 true, .g 10 (.nilck (.tmp 9)) 7 true, .g 11 (.f 0 10) 7 true, .g 12 (.l 11) 7 true, .g 13 (.b .lss 8 12) 7 true, .o 14 (.pick (.tmp 7) (.tmp 13) (.const (.bool false))), .m 4 14]) .ret))
def F53 : AFun := ⟨c53, 2, 15, [(.tmp 4)]⟩
def K53 : Nat → List Nat × List Nat
 | _ => ([], [])
theorem F53_ok : kj8 Try.prog K53 Try.f53 = some F53 := by kernel_rfl
/- 54: syndrome/syndromeref.Sizes -/
def c54L0 : ACode := (.seq (.seq (.region [.m 5 2, .o 6 (.c .leq 5 64)]) (.cond (.tmp 6) .skip (.exit 0))) (.seq (.block 1 [1, 2] (.seq (.region [.m 10 2, .o 11 (.q 81 [10]), .m 9 11, .o 12 (.e 0 9), .o 13 (.e 1 9), .m 3 12, .m 4 13]) (.seq (.region [.m 14 3, .o 15 (.c .gtr 14 0)]) (.cond (.tmp 15) (.region [.m 16 1, .m 17 2, .o 18 (.mkSl 3 1 1 [(.tmp 17)]), .o 19 (.app 3 1 8 (.tmp 16) (.tmp 18)), .m 1 19]) .skip)))) (.region [.m 7 2, .o 8 (.c .add 7 1), .m 2 8])))
def c54 : ACode := (.seq (.region [.o 0 (.mv (.const (.slice none 0 0)))]) (.seq (.region [.o 1 (.mv (.const (.slice none 0 0)))]) (.seq (.seq (.region [.k 2 2]) (.block 0 [1] (.loop [1, 2] c54L0))) (.seq (.region [.m 20 1, .m 0 20]) .ret))))
def F54 : AFun := ⟨c54, 0, 21, [(.tmp 0)]⟩
def K54 : Nat → List Nat × List Nat
 | 0 => ([1, 2], [1])
 | 1 => ([], [1, 2])
 | _ => ([], [])
theorem F54_ok : kj8 Try.prog K54 Try.f54 = some F54 := by kernel_rfl
/- 55: syndrome/field.prime -/
def c55L0 : ACode := (.seq (.seq (.region [.m 4 0, .m 5 2, .o 6 (.b .rem 4 5), .o 7 (.c .neq 6 0)]) (.cond (.tmp 7) .skip (.exit 0))) (.block 1 [0, 2, 3] (.region [.m 8 2, .o 9 (.c .add 8 1), .m 2 9])))
def c55L1 : ACode := (.seq (.seq (.region [.m 10 0, .m 11 2, .o 12 (.b .rem 10 11), .o 13 (.c .eql 12 0)]) (.cond (.tmp 13) .skip (.exit 2))) (.seq (.block 3 [0, 2, 3] (.region [.m 17 3, .o 18 (.c .add 17 1), .m 3 18])) (.region [.m 14 0, .m 15 2, .o 16 (.b .quo 14 15), .m 0 16])))
def c55 : ACode := (.seq (.region [.k 2 0, .k 3 0]) (.seq (.region [.k 2 2]) (.seq (.block 0 [0, 2, 3] (.loop [0, 2, 3] c55L0)) (.seq (.block 2 [0, 2, 3] (.loop [0, 2, 3] c55L1)) (.seq (.seq (.region [.m 19 0, .o 20 (.c .neq 19 1)]) (.cond (.tmp 20) (.seq (.region [.k 2 0, .k 3 0]) .ret) .skip)) (.seq (.region [.m 21 2, .m 22 3, .m 2 21, .m 3 22]) .ret))))))
def F55 : AFun := ⟨c55, 1, 23, [(.tmp 2), (.tmp 3)]⟩
def K55 : Nat → List Nat × List Nat
 | 0 => ([0, 2, 3], [0, 2, 3])
 | 1 => ([], [0, 2, 3])
 | 2 => ([0, 2, 3], [0, 2, 3])
 | 3 => ([], [0, 2, 3])
 | _ => ([], [])
theorem F55_ok : kj8 Try.prog K55 Try.f55 = some F55 := by kernel_rfl
/- 57: syndrome/field.digits -/
def c57L0 : ACode := (.seq (.region [.o 14 (.b .lss 13 12)]) (.seq (.cond (.tmp 14) .skip (.exit 0)) (.seq (.block 1 [0, 1, 7, 12, 13] (.seq (.region [.m 15 13, .m 8 15]) (.seq (.region [.m 16 7, .m 17 8, .m 18 0, .m 19 1, .o 20 (.b .rem 18 19), .o 21 (.i 1 16 17), .n (.st 1 (.tmp 21) (.tmp 20))]) (.region [.m 22 0, .m 23 1, .o 24 (.b .quo 22 23), .m 0 24])))) (.region [.o 25 (.c .add 13 1), .m 13 25]))))
def c57 : ACode := (.seq (.region [.o 6 (.mv (.const (.slice none 0 0)))]) (.seq (.region [.m 9 2, .o 10 (.mks 3 1 8 [(.int .i64 0)] (.tmp 9) (.tmp 9)), .m 7 10]) (.seq (.seq (.region [.m 11 7, .o 12 (.n 11), .k 13 0]) (.block 0 [7] (.loop [0, 1, 7, 12, 13] c57L0))) (.seq (.region [.m 26 7, .m 6 26]) .ret))))
def F57 : AFun := ⟨c57, 3, 27, [(.tmp 6)]⟩
def K57 : Nat → List Nat × List Nat
 | 0 => ([0, 1, 7, 12, 13], [7])
 | 1 => ([], [0, 1, 7, 12, 13])
 | _ => ([], [])
theorem F57_ok : kj8 Try.prog K57 Try.f57 = some F57 := by kernel_rfl
/- 59: syndrome/field.New$1 -/
def c59 : ACode := (.region [.o 2 (.l 0), .o 3 (.l 0), ⟨(some 4), (.call 60 [(.tmp 3)]), none, true⟩, .o 5 (.f 195 1), .o 6 (.iaddrA 65 1 (.tmp 5) (.tmp 2)), .n (.st 1 (.tmp 6) (.tmp 4))])
def F59 : AFun := ⟨c59, 2, 7, []⟩
def K59 : Nat → List Nat × List Nat
 | _ => ([], [])
theorem F59_ok : kj8 Try.prog K59 Try.f59 = some F59 := by kernel_rfl
/- 60: syndrome/field.build -/
def c60L0 : ACode := (.seq (.seq (.region [.m 28 5, .o 29 (.q 84 [28]), .o 30 (.un .not (.tmp 29))]) (.cond (.tmp 30) .skip (.exit 0))) (.seq (.block 1 [5] .skip) (.region [.m 31 5, .o 32 (.nilck (.tmp 31)), .o 33 (.f 4 32), .o 34 (.l 33), .o 35 (.c .add 34 1), .o 36 (.nilck (.tmp 31)), .o 37 (.f 4 36), .n (.st 1 (.tmp 37) (.tmp 35))])))
def c60L1 : ACode := (.seq (.region [.o 45 (.b .lss 44 43)]) (.seq (.cond (.tmp 45) .skip (.exit 2)) (.seq (.block 3 [3, 4, 5, 43, 44] (.seq (.region [.m 46 44, .m 6 46]) (.seq (.region [.m 47 5, .m 48 6, .m 49 3, .m 50 4, .o 51 (.q 57 [48, 49, 50]), .o 52 (.mkSl 3 1 1 [(.const (.int .i64 1))]), .o 53 (.app 3 1 8 (.tmp 51) (.tmp 52)), .o 54 (.nilck (.tmp 47)), .o 55 (.f 3 54), .n (.st 1 (.tmp 55) (.tmp 53))]) (.seq (.region [.m 56 5, .o 57 (.q 84 [56])]) (.cond (.tmp 57) (.seq (.region [.m 58 5, .m 2 58]) .ret) .skip))))) (.region [.o 59 (.c .add 44 1), .m 44 59]))))
def c60 : ACode := (.seq (.region [.o 2 (.mv (.const (.pointer none)))]) (.seq (.region [.m 8 0, .o 9 (.q 55 [8]), .m 7 9, .o 10 (.e 0 7), .o 11 (.e 1 7), .m 3 10, .m 4 11]) (.seq (.seq (.region [.m 12 3, .o 13 (.c .eql 12 0)]) (.cond (.tmp 13) (.seq (.region [.o 2 (.mv (.const (.pointer none)))]) .ret) .skip)) (.seq (.region [.m 14 0, .m 15 3, .m 16 4, .o 17 (.build [(.int .i64 0), (.int .i64 0), (.int .i64 0), (.slice none 0 0), (.int .i64 0), (.slice none 0 0), (.slice none 0 0)] [(0, 1), (1, 1), (2, 1), (3, 1), (4, 1), (5, 1), (6, 1)] [(0, (.tmp 14)), (1, (.tmp 15)), (2, (.tmp 16))]), .o 18 (.box 72 7 (.tmp 17)), .m 5 18]) (.seq (.seq (.region [.m 19 4, .o 20 (.c .eql 19 1)]) (.cond (.tmp 20) (.seq (.region [.m 21 5, .o 22 (.mkSl 3 1 2 [(.const (.int .i64 0)), (.const (.int .i64 1))]), .o 23 (.nilck (.tmp 21)), .o 24 (.f 3 23), .n (.st 1 (.tmp 24) (.tmp 22))]) (.seq (.seq (.region [.m 25 5, .o 26 (.nilck (.tmp 25)), .o 27 (.f 4 26), .n (.st 1 (.tmp 27) (.const (.int .i64 1)))]) (.block 0 [5] (.loop [5] c60L0))) (.seq (.region [.m 38 5, .m 2 38]) .ret))) .skip)) (.seq (.region [.m 39 5, .m 40 3, .o 41 (.nilck (.tmp 39)), .o 42 (.f 4 41), .n (.st 1 (.tmp 42) (.tmp 40))]) (.seq (.seq (.region [.m 43 0, .k 44 0]) (.block 2 [] (.loop [3, 4, 5, 43, 44] c60L1))) (.seq (.region [.o 2 (.mv (.const (.pointer none)))]) .ret))))))))
def F60 : AFun := ⟨c60, 1, 60, [(.tmp 2)]⟩
def K60 : Nat → List Nat × List Nat
 | 0 => ([5], [5])
 | 1 => ([], [5])
 | 2 => ([3, 4, 5, 43, 44], [])
 | 3 => ([], [3, 4, 5, 43, 44])
 | _ => ([], [])
theorem F60_ok : kj8 Try.prog K60 Try.f60 = some F60 := by kernel_rfl
/- 61: syndrome/poly.Check -/
def c61L0 : ACode := (.seq (.region [.o 23 (.b .lss 22 21)]) (.seq (.cond (.tmp 23) .skip (.exit 0)) (.seq (.block 1 [5, 20, 21, 22] (.seq (.region [.o 24 (.i 1 20 22), .o 25 (.l 24), .m 8 25]) (.seq (.region [.m 26 5, .m 27 8, .o 28 (.q 53 [26, 27]), .o 29 (.un .not (.tmp 28))]) (.cond (.tmp 29) (.seq (.region [.k 4 2]) .ret) .skip)))) (.region [.o 30 (.c .add 22 1), .m 22 30]))))
def c61 : ACode := (.seq (.region [.k 4 0]) (.seq (.region [.m 10 0, .o 11 (.q 36 [10]), .m 9 11, .o 12 (.e 0 9), .o 13 (.e 1 9), .m 5 12, .m 6 13]) (.seq (.seq (.region [.m 14 6, .o 15 (.c .neq 14 0)]) (.cond (.tmp 15) (.seq (.region [.m 16 6, .m 4 16]) .ret) .skip)) (.seq (.seq (.region [.m 17 1, .o 18 (.n 17), .o 19 (.c .gtr 18 128)]) (.cond (.tmp 19) (.seq (.region [.k 4 4]) .ret) .skip)) (.seq (.seq (.region [.m 20 1, .o 21 (.n 20), .k 22 0]) (.block 0 [] (.loop [5, 20, 21, 22] c61L0))) (.seq (.region [.k 4 0]) .ret))))))
def F61 : AFun := ⟨c61, 2, 31, [(.tmp 4)]⟩
def K61 : Nat → List Nat × List Nat
 | 0 => ([5, 20, 21, 22], [])
 | 1 => ([], [5, 20, 21, 22])
 | _ => ([], [])
theorem F61_ok : kj8 Try.prog K61 Try.f61 = some F61 := by kernel_rfl
/- 62: syndrome/poly.Add -/
def c62L0 : ACode := (.seq (.region [.o 34 (.b .lss 33 32)]) (.seq (.cond (.tmp 34) .skip (.exit 0)) (.seq (.block 1 [1, 8, 31, 32, 33] (.seq (.region [.m 35 33, .o 36 (.i 1 31 33), .o 37 (.l 36), .m 10 35, .m 11 37]) (.region [.m 38 1, .m 39 10, .m 40 8, .m 41 1, .m 42 10, .o 43 (.i 1 41 42), .o 44 (.l 43), .m 45 11, .o 46 (.q 21 [40, 44, 45]), .o 47 (.i 1 38 39), .n (.st 1 (.tmp 47) (.tmp 46))]))) (.region [.o 48 (.c .add 33 1), .m 33 48]))))
def c62 : ACode := (.seq (.region [.o 6 (.mv (.const (.slice none 0 0))), .k 7 0]) (.seq (.region [.m 13 0, .m 14 1, .m 15 2, .o 16 (.q 85 [13, 14, 15]), .m 12 16, .o 17 (.e 0 12), .o 18 (.e 1 12), .o 19 (.e 2 12), .o 20 (.e 3 12), .m 8 17, .m 1 18, .m 2 19, .m 9 20]) (.seq (.seq (.region [.m 21 9, .o 22 (.c .neq 21 0)]) (.cond (.tmp 22) (.seq (.region [.m 23 9, .o 6 (.mv (.const (.slice none 0 0))), .m 7 23]) .ret) .skip)) (.seq (.seq (.region [.m 24 1, .o 25 (.n 24), .m 26 2, .o 27 (.n 26), .o 28 (.b .lss 25 27)]) (.cond (.tmp 28) (.region [.m 29 2, .m 30 1, .m 1 29, .m 2 30]) .skip)) (.seq (.seq (.region [.m 31 2, .o 32 (.n 31), .k 33 0]) (.block 0 [1] (.loop [1, 8, 31, 32, 33] c62L0))) (.seq (.region [.m 49 1, .o 50 (.q 86 [49]), .m 6 50, .k 7 0]) .ret))))))
def F62 : AFun := ⟨c62, 3, 51, [(.tmp 6), (.tmp 7)]⟩
def K62 : Nat → List Nat × List Nat
 | 0 => ([1, 8, 31, 32, 33], [1])
 | 1 => ([], [1, 8, 31, 32, 33])
 | _ => ([], [])
theorem F62_ok : kj8 Try.prog K62 Try.f62 = some F62 := by kernel_rfl
/- 63: syndrome/reed.Check -/
def c63L0 : ACode := (.seq (.region [.o 30 (.b .lss 29 28)]) (.seq (.cond (.tmp 30) .skip (.exit 0)) (.seq (.block 1 [1, 2, 7, 27, 28, 29] (.seq (.region [.m 31 29, .o 32 (.i 1 27 29), .o 33 (.l 32), .m 9 31, .m 10 33]) (.seq (.seq (.region [.m 34 7, .m 35 10, .o 36 (.q 53 [34, 35]), .o 37 (.un .not (.tmp 36))]) (.cond (.tmp 37) (.seq (.region [.k 6 2]) .ret) .skip)) (.seq (.region [.m 38 1, .m 39 9, .o 40 (.sl 1 (.tmp 38) none (some (.tmp 39))), .m 41 10, .o 42 (.q 51 [40, 41])]) (.cond (.tmp 42) (.seq (.region [.k 6 7]) .ret) .skip))))) (.region [.o 43 (.c .add 29 1), .m 29 43]))))
def c63 : ACode := (.seq (.region [.k 6 0]) (.seq (.region [.m 12 0, .o 13 (.q 36 [12]), .m 11 13, .o 14 (.e 0 11), .o 15 (.e 1 11), .m 7 14, .m 8 15]) (.seq (.seq (.region [.m 16 8, .o 17 (.c .neq 16 0)]) (.cond (.tmp 17) (.seq (.region [.m 18 8, .m 6 18]) .ret) .skip)) (.seq (.seq (.region [.m 19 1, .o 20 (.n 19), .o 21 (.c .lss 20 1), .m 22 21, .g 23 (.m 1) 22 false, .g 24 (.n 23) 22 false, .g 25 (.c .gtr 24 64) 22 false, .o 26 (.pick (.tmp 22) (.const (.bool true)) (.tmp 25))]) (.cond (.tmp 26) (.seq (.region [.k 6 4]) .ret) .skip)) (.seq (.seq (.region [.m 27 1, .o 28 (.n 27), .k 29 0]) (.block 0 [1, 2] (.loop [1, 2, 7, 27, 28, 29] c63L0))) (.seq (.seq (.region [.m 44 2, .o 45 (.c .lss 44 1), .m 46 45, .g 47 (.m 2) 46 false, .g 48 (.m 1) 46 false, .g 49 (.n 48) 46 false, .g 50 (.b .gtr 47 49) 46 false, .o 51 (.pick (.tmp 46) (.const (.bool true)) (.tmp 50))]) (.cond (.tmp 51) (.seq (.region [.k 6 6]) .ret) .skip)) (.seq (.region [.k 6 0]) .ret)))))))
def F63 : AFun := ⟨c63, 3, 52, [(.tmp 6)]⟩
def K63 : Nat → List Nat × List Nat
 | 0 => ([1, 2, 7, 27, 28, 29], [1, 2])
 | 1 => ([], [1, 2, 7, 27, 28, 29])
 | _ => ([], [])
theorem F63_ok : kj8 Try.prog K63 Try.f63 = some F63 := by kernel_rfl
/- 64: syndrome/poly.At -/
def c64L0 : ACode := (.seq (.seq (.region [.m 29 12, .o 30 (.c .geq 29 0)]) (.cond (.tmp 30) .skip (.exit 0))) (.seq (.block 1 [1, 2, 8, 11, 12] (.region [.m 33 8, .m 34 8, .m 35 11, .m 36 2, ⟨(some 37), (.call 22 [(.tmp 34), (.tmp 35), (.tmp 36)]), none, true⟩, .m 38 1, .m 39 12, .o 40 (.i 1 38 39), ⟨(some 41), (.ld false 1 (.tmp 40)), none, true⟩, .o 42 (.q 21 [33, 37, 41]), .m 11 42])) (.region [.m 31 12, .o 32 (.c .sub 31 1), .m 12 32])))
def c64 : ACode := (.seq (.region [.k 6 0, .k 7 0]) (.seq (.region [.m 14 0, .m 15 1, .m 16 2, .o 17 (.mkSl 3 1 1 [(.tmp 16)]), .o 18 (.q 85 [14, 15, 17]), .m 13 18, .o 19 (.e 0 13), .o 20 (.e 1 13), .o 21 (.e 2 13), .o 22 (.e 3 13), .m 8 19, .m 1 20, .m 9 21, .m 10 22]) (.seq (.seq (.region [.m 23 10, .o 24 (.c .neq 23 0)]) (.cond (.tmp 24) (.seq (.region [.m 25 10, .k 6 0, .m 7 25]) .ret) .skip)) (.seq (.region [.k 11 0]) (.seq (.seq (.region [.m 26 1, .o 27 (.n 26), .o 28 (.c .sub 27 1), .m 12 28]) (.block 0 [11] (.loop [1, 2, 8, 11, 12] c64L0))) (.seq (.region [.m 43 11, .m 6 43, .k 7 0]) .ret))))))
def F64 : AFun := ⟨c64, 3, 44, [(.tmp 6), (.tmp 7)]⟩
def K64 : Nat → List Nat × List Nat
 | 0 => ([1, 2, 8, 11, 12], [11])
 | 1 => ([], [1, 2, 8, 11, 12])
 | _ => ([], [])
theorem F64_ok : kj8 Try.prog K64 Try.f64 = some F64 := by kernel_rfl
/- 65: syndrome/reed.Word -/
def c65 : ACode := (.seq (.region [.k 8 0]) (.seq (.seq (.region [.m 12 0, .m 13 1, .m 14 2, .o 15 (.q 63 [12, 13, 14]), .m 9 15]) (.seq (.region [.m 16 9, .o 17 (.c .neq 16 0)]) (.cond (.tmp 17) (.seq (.region [.m 18 9, .m 8 18]) .ret) .skip))) (.seq (.seq (.region [.m 19 3, .o 20 (.n 19), .m 21 1, .o 22 (.n 21), .o 23 (.b .neq 20 22)]) (.cond (.tmp 23) (.seq (.region [.k 8 6]) .ret) .skip)) (.seq (.region [.m 25 0, .o 26 (.q 36 [25]), .m 24 26, .o 27 (.e 0 24), .o 28 (.e 1 24), .o 10 (.alloc 41 [(.pointer none)]), .n (.st 1 (.tmp 10) (.tmp 27)), .m 11 28]) (.seq (.seq (.region [.m 29 3, .o 30 (.mkf 87 [(.tmp 10)]), .o 31 (.q 72 [29, 30])]) (.cond (.tmp 31) (.seq (.region [.k 8 2]) .ret) .skip)) (.seq (.region [.k 8 0]) .ret))))))
def F65 : AFun := ⟨c65, 4, 32, [(.tmp 8)]⟩
def K65 : Nat → List Nat × List Nat
 | _ => ([], [])
theorem F65_ok : kj8 Try.prog K65 Try.f65 = some F65 := by kernel_rfl
/- 66: syndrome/reed.here -/
def c66L0 : ACode := (.seq (.region [.o 11 (.b .lss 10 9)]) (.seq (.cond (.tmp 11) .skip (.exit 0)) (.seq (.block 1 [0, 4, 5, 8, 9, 10] (.seq (.region [.m 12 10, .o 13 (.i 1 8 10), .o 14 (.l 13), .m 6 12, .m 7 14]) (.seq (.region [.m 15 7, .o 16 (.c .neq 15 (-1))]) (.cond (.tmp 16) (.region [.m 17 4, .m 18 0, .m 19 6, .o 20 (.i 1 18 19), .o 21 (.l 20), .o 22 (.mkSl 3 1 1 [(.tmp 21)]), .o 23 (.app 3 1 8 (.tmp 17) (.tmp 22)), .m 24 5, .m 25 7, .o 26 (.mkSl 3 1 1 [(.tmp 25)]), .o 27 (.app 3 1 8 (.tmp 24) (.tmp 26)), .m 4 23, .m 5 27]) .skip)))) (.region [.o 28 (.c .add 10 1), .m 10 28]))))
def c66 : ACode := (.seq (.region [.o 4 (.mv (.const (.slice none 0 0))), .o 5 (.mv (.const (.slice none 0 0)))]) (.seq (.seq (.region [.m 8 1, .o 9 (.n 8), .k 10 0]) (.block 0 [4, 5] (.loop [0, 4, 5, 8, 9, 10] c66L0))) (.seq (.region [.m 29 4, .m 30 5, .m 4 29, .m 5 30]) .ret)))
def F66 : AFun := ⟨c66, 2, 31, [(.tmp 4), (.tmp 5)]⟩
def K66 : Nat → List Nat × List Nat
 | 0 => ([0, 4, 5, 8, 9, 10], [4, 5])
 | 1 => ([], [0, 4, 5, 8, 9, 10])
 | _ => ([], [])
theorem F66_ok : kj8 Try.prog K66 Try.f66 = some F66 := by kernel_rfl
/- 67: syndrome/poly.Div -/
def c67 : ACode := (.seq (.region [.o 6 (.mv (.const (.slice none 0 0))), .o 7 (.mv (.const (.slice none 0 0))), .k 8 0]) (.seq (.region [.m 11 0, .m 12 1, .m 13 2, .o 14 (.q 85 [11, 12, 13]), .m 10 14, .o 15 (.e 0 10), .o 16 (.e 1 10), .o 17 (.e 2 10), .o 18 (.e 3 10), .m 9 15, .m 1 16, .m 2 17, .m 8 18]) (.seq (.seq (.region [.m 19 8, .o 20 (.c .neq 19 0)]) (.cond (.tmp 20) (.seq (.region [.m 21 8, .o 6 (.mv (.const (.slice none 0 0))), .o 7 (.mv (.const (.slice none 0 0))), .m 8 21]) .ret) .skip)) (.seq (.seq (.region [.m 22 2, .o 23 (.n 22), .o 24 (.c .eql 23 0)]) (.cond (.tmp 24) (.seq (.region [.o 6 (.mv (.const (.slice none 0 0))), .o 7 (.mv (.const (.slice none 0 0))), .k 8 5]) .ret) .skip)) (.seq (.region [.m 26 9, .m 27 1, .m 28 2, .o 29 (.q 88 [26, 27, 28]), .m 25 29, .o 30 (.e 0 25), .o 31 (.e 1 25), .m 6 30, .m 7 31]) (.seq (.region [.m 32 6, .m 33 7, .m 6 32, .m 7 33, .k 8 0]) .ret))))))
def F67 : AFun := ⟨c67, 3, 34, [(.tmp 6), (.tmp 7), (.tmp 8)]⟩
def K67 : Nat → List Nat × List Nat
 | _ => ([], [])
theorem F67_ok : kj8 Try.prog K67 Try.f67 = some F67 := by kernel_rfl
/- 68: slices.Clone[[]int,int] -/
def c68 : ACode := (.seq (.region [.o 2 (.mv (.const (.slice none 0 0)))]) (.seq (.seq (.region [.m 3 0, .o 4 (.eqn false 0 (.tmp 3))]) (.cond (.tmp 4) (.seq (.region [.o 2 (.mv (.const (.slice none 0 0)))]) .ret) .skip)) (.seq (.region [.o 5 (.mkSl 3 1 0 []), .m 6 0, .o 7 (.app 3 1 8 (.tmp 5) (.tmp 6)), .m 2 7]) .ret)))
def F68 : AFun := ⟨c68, 1, 8, [(.tmp 2)]⟩
def K68 : Nat → List Nat × List Nat
 | _ => ([], [])
theorem F68_ok : kj8 Try.prog K68 Try.f68 = some F68 := by kernel_rfl
/- 69: syndrome/reed.told -/
def c69 : ACode := (.seq (.region [.o 10 (.mv (.const (.slice none 0 0))), .k 11 0, .o 12 (.mv (.const (.bool false))), .k 13 0]) (.seq (.region [.m 17 0, .m 18 1, .m 19 2, .m 20 3, .m 21 4, .o 22 (.q 89 [17, 18, 19, 20, 21]), .m 16 22, .o 23 (.e 0 16), .o 24 (.e 1 16), .m 14 23, .m 15 24]) (.seq (.seq (.region [.m 25 15, .o 26 (.un .not (.tmp 25))]) (.cond (.tmp 26) (.seq (.region [.o 10 (.mv (.const (.slice none 0 0))), .k 11 0, .o 12 (.mv (.const (.bool false))), .k 13 0]) .ret) .skip)) (.seq (.region [.m 27 3, .m 28 4, .o 29 (.q 90 [27, 28]), .m 30 14, .m 10 29, .m 11 30, .o 12 (.mv (.const (.bool true))), .k 13 0]) .ret))))
def F69 : AFun := ⟨c69, 5, 31, [(.tmp 10), (.tmp 11), (.tmp 12), (.tmp 13)]⟩
def K69 : Nat → List Nat × List Nat
 | _ => ([], [])
theorem F69_ok : kj8 Try.prog K69 Try.f69 = some F69 := by kernel_rfl
/- 70: syndrome/poly.Mul -/
def c70 : ACode := (.seq (.region [.o 6 (.mv (.const (.slice none 0 0))), .k 7 0]) (.seq (.region [.m 11 0, .m 12 1, .m 13 2, .o 14 (.q 85 [11, 12, 13]), .m 10 14, .o 15 (.e 0 10), .o 16 (.e 1 10), .o 17 (.e 2 10), .o 18 (.e 3 10), .m 8 15, .m 1 16, .m 2 17, .m 9 18]) (.seq (.seq (.region [.m 19 9, .o 20 (.c .neq 19 0)]) (.cond (.tmp 20) (.seq (.region [.m 21 9, .o 6 (.mv (.const (.slice none 0 0))), .m 7 21]) .ret) .skip)) (.seq (.seq (.region [.m 22 1, .o 23 (.n 22), .o 24 (.c .eql 23 0), .m 25 24, .g 26 (.m 2) 25 false, .g 27 (.n 26) 25 false, .g 28 (.c .eql 27 0) 25 false, .o 29 (.pick (.tmp 25) (.const (.bool true)) (.tmp 28))]) (.cond (.tmp 29) (.seq (.region [.o 6 (.mv (.const (.slice none 0 0))), .k 7 0]) .ret) .skip)) (.seq (.seq (.region [.m 30 1, .o 31 (.n 30), .m 32 2, .o 33 (.n 32), .o 34 (.b .add 31 33), .o 35 (.c .sub 34 1), .o 36 (.c .gtr 35 128)]) (.cond (.tmp 36) (.seq (.region [.o 6 (.mv (.const (.slice none 0 0))), .k 7 4]) .ret) .skip)) (.seq (.region [.m 37 8, .m 38 1, .m 39 2, .o 40 (.q 91 [37, 38, 39]), .m 6 40, .k 7 0]) .ret))))))
def F70 : AFun := ⟨c70, 3, 41, [(.tmp 6), (.tmp 7)]⟩
def K70 : Nat → List Nat × List Nat
 | _ => ([], [])
theorem F70_ok : kj8 Try.prog K70 Try.f70 = some F70 := by kernel_rfl
/- 71: syndrome/poly.Through -/
def c71L0 : ACode := (.seq (.region [.o 81 (.b .lss 80 79)]) (.seq (.cond (.tmp 81) .skip (.exit 2)) (.seq (.block 3 [0, 1, 2, 8, 12, 13, 14, 15, 20, 21, 41, 42, 43, 79, 80] (.seq (.region [.m 82 80, .m 22 82]) (.region [.m 83 21, .m 84 22, .m 85 8, .m 86 21, .m 87 22, .o 88 (.i 1 86 87), .o 89 (.l 88), .m 90 20, .o 91 (.q 22 [85, 89, 90]), .o 92 (.i 1 83 84), .n (.st 1 (.tmp 92) (.tmp 91))]))) (.region [.o 93 (.c .add 80 1), .m 80 93]))))
def c71L1 : ACode := (.seq (.region [.o 44 (.b .lss 43 42)]) (.seq (.cond (.tmp 44) .skip (.exit 0)) (.seq (.block 1 [0, 1, 2, 8, 12, 13, 41, 42, 43] (.seq (.region [.m 45 43, .o 46 (.i 1 41 43), .o 47 (.l 46), .m 14 45, .m 15 47]) (.seq (.region [.m 49 0, .m 50 13, .m 51 15, .o 52 (.q 64 [49, 50, 51]), .m 48 52, .o 53 (.e 0 48), .o 54 (.e 1 48), .m 16 53, .m 17 54]) (.seq (.seq (.region [.m 55 16, .o 56 (.c .eql 55 0)]) (.cond (.tmp 56) (.seq (.region [.o 6 (.mv (.const (.slice none 0 0))), .k 7 7]) .ret) .skip)) (.seq (.region [.m 58 0, .m 59 12, .m 60 15, .o 61 (.q 64 [58, 59, 60]), .m 57 61, .o 62 (.e 0 57), .o 63 (.e 1 57), .m 18 62, .m 19 63]) (.seq (.region [.m 64 8, .m 65 8, .m 66 2, .m 67 14, .o 68 (.i 1 66 67), .o 69 (.l 68), .m 70 18, .o 71 (.q 24 [65, 69, 70]), .m 72 8, .m 73 16, .o 74 (.q 25 [72, 73]), .o 75 (.q 22 [64, 71, 74]), .m 20 75]) (.seq (.region [.m 76 13, .o 77 (.q 68 [76]), .m 21 77]) (.seq (.seq (.region [.m 78 21, .o 79 (.n 78), .k 80 0]) (.block 2 [0, 1, 2, 8, 12, 13, 14, 15, 21, 41, 42, 43] (.loop [0, 1, 2, 8, 12, 13, 14, 15, 20, 21, 41, 42, 43, 79, 80] c71L0))) (.seq (.region [.m 95 0, .m 96 12, .m 97 21, .o 98 (.q 62 [95, 96, 97]), .m 94 98, .o 99 (.e 0 94), .o 100 (.e 1 94), .m 12 99]) (.seq (.region [.m 101 14, .o 102 (.c .add 101 1), .m 103 1, .o 104 (.n 103), .o 105 (.b .lss 102 104)]) (.cond (.tmp 105) (.region [.m 106 8, .m 107 13, .m 108 8, .m 109 15, .o 110 (.q 23 [108, 109]), .o 111 (.mkSl 3 1 2 [(.tmp 110), (.const (.int .i64 1))]), .o 112 (.q 91 [106, 107, 111]), .m 13 112]) .skip))))))))))) (.region [.o 113 (.c .add 43 1), .m 43 113]))))
def c71 : ACode := (.seq (.region [.o 6 (.mv (.const (.slice none 0 0))), .k 7 0]) (.seq (.region [.m 24 0, .m 25 1, .m 26 2, .o 27 (.q 85 [24, 25, 26]), .m 23 27, .o 28 (.e 0 23), .o 29 (.e 1 23), .o 30 (.e 2 23), .o 31 (.e 3 23), .m 8 28, .m 9 29, .m 10 30, .m 11 31]) (.seq (.seq (.region [.m 32 11, .o 33 (.c .neq 32 0)]) (.cond (.tmp 33) (.seq (.region [.m 34 11, .o 6 (.mv (.const (.slice none 0 0))), .m 7 34]) .ret) .skip)) (.seq (.seq (.region [.m 35 1, .o 36 (.n 35), .m 37 2, .o 38 (.n 37), .o 39 (.b .neq 36 38)]) (.cond (.tmp 39) (.seq (.region [.o 6 (.mv (.const (.slice none 0 0))), .k 7 6]) .ret) .skip)) (.seq (.region [.o 12 (.mv (.const (.slice none 0 0)))]) (.seq (.region [.o 40 (.mkSl 3 1 1 [(.const (.int .i64 1))]), .m 13 40]) (.seq (.seq (.region [.m 41 1, .o 42 (.n 41), .k 43 0]) (.block 0 [12] (.loop [0, 1, 2, 8, 12, 13, 41, 42, 43] c71L1))) (.seq (.region [.m 114 12, .m 6 114, .k 7 0]) .ret))))))))
def F71 : AFun := ⟨c71, 3, 115, [(.tmp 6), (.tmp 7)]⟩
def K71 : Nat → List Nat × List Nat
 | 0 => ([0, 1, 2, 8, 12, 13, 41, 42, 43], [12])
 | 1 => ([], [0, 1, 2, 8, 12, 13, 41, 42, 43])
 | 2 => ([0, 1, 2, 8, 12, 13, 14, 15, 20, 21, 41, 42, 43, 79, 80], [0, 1, 2, 8, 12, 13, 14, 15, 21, 41, 42, 43])
 | 3 => ([], [0, 1, 2, 8, 12, 13, 14, 15, 20, 21, 41, 42, 43, 79, 80])
 | _ => ([], [])
theorem F71_ok : kj8 Try.prog K71 Try.f71 = some F71 := by kernel_rfl
/- 72: slices.ContainsFunc[[]int,int] -/
def c72 : ACode := (.seq (.region [.o 4 (.mv (.const (.bool false)))]) (.seq (.region [.m 5 0, .m 6 1, .o 7 (.q 92 [5, 6]), .o 8 (.c .geq 7 0), .m 4 8]) .ret))
def F72 : AFun := ⟨c72, 2, 9, [(.tmp 4)]⟩
def K72 : Nat → List Nat × List Nat
 | _ => ([], [])
theorem F72_ok : kj8 Try.prog K72 Try.f72 = some F72 := by kernel_rfl
/- 74: syndrome/matrix.Check -/
def c74L0 : ACode := (.seq (.region [.o 23 (.b .lss 22 21)]) (.seq (.cond (.tmp 23) .skip (.exit 0)) (.seq (.block 1 [1, 5, 20, 21, 22] (.seq (.region [.o 24 (.i 1 20 22), .o 25 (.l 24), .m 8 25]) (.seq (.seq (.region [.m 26 8, .o 27 (.n 26), .m 28 1, .o 29 (.iaddr 1 (.tmp 28) (.const (.int .i64 0))), .o 30 (.l 29), .o 31 (.n 30), .o 32 (.b .neq 27 31), .m 33 32, .g 34 (.m 8) 33 false, .g 35 (.n 34) 33 false, .g 36 (.c .eql 35 0) 33 false, .o 37 (.pick (.tmp 33) (.const (.bool true)) (.tmp 36))]) (.cond (.tmp 37) (.seq (.region [.k 4 3]) .ret) .skip)) (.seq (.seq (.region [.m 38 8, .o 39 (.n 38), .o 40 (.c .gtr 39 64)]) (.cond (.tmp 40) (.seq (.region [.k 4 4]) .ret) .skip)) (.seq (.region [.m 41 8, .o 42 (.mkf 93 [(.tmp 5)]), .o 43 (.q 72 [41, 42])]) (.cond (.tmp 43) (.seq (.region [.k 4 2]) .ret) .skip)))))) (.region [.o 44 (.c .add 22 1), .m 22 44]))))
def c74 : ACode := (.seq (.region [.k 4 0]) (.seq (.region [.m 10 0, .o 11 (.q 36 [10]), .m 9 11, .o 12 (.e 0 9), .o 13 (.e 1 9), .o 5 (.alloc 41 [(.pointer none)]), .n (.st 1 (.tmp 5) (.tmp 12)), .m 6 13]) (.seq (.seq (.region [.m 14 6, .o 15 (.c .neq 14 0)]) (.cond (.tmp 15) (.seq (.region [.m 16 6, .m 4 16]) .ret) .skip)) (.seq (.seq (.region [.m 17 1, .o 18 (.n 17), .o 19 (.c .gtr 18 64)]) (.cond (.tmp 19) (.seq (.region [.k 4 4]) .ret) .skip)) (.seq (.seq (.region [.m 20 1, .o 21 (.n 20), .k 22 0]) (.block 0 [] (.loop [1, 5, 20, 21, 22] c74L0))) (.seq (.region [.k 4 0]) .ret))))))
def F74 : AFun := ⟨c74, 2, 45, [(.tmp 4)]⟩
def K74 : Nat → List Nat × List Nat
 | 0 => ([1, 5, 20, 21, 22], [])
 | 1 => ([], [1, 5, 20, 21, 22])
 | _ => ([], [])
theorem F74_ok : kj8 Try.prog K74 Try.f74 = some F74 := by kernel_rfl
end Go.Proofs.Ytghfdpdiibiigaa
