/-
  Functions of this seat as the small machine's code, written by a program of my own (gen.py); each is checked to be what the model's function is turned into. No condition.
-/
import Derived.Test.YtjpejkakodbchaaK1
import Derived.Test.YtjpejkakodbchaaProg
set_option linter.unusedVariables false
set_option linter.unusedSimpArgs false
set_option linter.unusedSectionVars false
set_option maxRecDepth 100000
namespace Go.Proofs.Ytjpejkakodbchaa
open Go.Am
/- 11: syndrome/syndrometop.TopMatrix -/
def c11L0 : ACode := (.seq (.seq (.region [.m 44 13, .m 45 2, .o 46 (.b .lss 44 45)]) (.cond (.tmp 46) .skip (.exit 2))) (.seq (.block 3 [1, 2, 3, 9, 10, 11, 12, 13] (.region [.m 49 12, .m 50 9, .m 51 13, .o 52 (.i 1 50 51), .o 53 (.l 52), .m 54 11, .o 55 (.i 1 53 54), .o 56 (.l 55), .o 57 (.mkSl 3 1 1 [(.tmp 56)]), .o 58 (.app 3 1 8 (.tmp 49) (.tmp 57)), .m 12 58])) (.region [.m 47 13, .o 48 (.c .add 47 1), .m 13 48])))
def c11L1 : ACode := (.seq (.seq (.region [.m 39 11, .m 40 3, .o 41 (.b .lss 39 40)]) (.cond (.tmp 41) .skip (.exit 0))) (.seq (.block 1 [1, 2, 3, 9, 10, 11] (.seq (.region [.o 12 (.mv (.const (.slice none 0 0)))]) (.seq (.seq (.region [.k 13 0]) (.block 2 [1, 2, 3, 9, 10, 11, 12] (.loop [1, 2, 3, 9, 10, 11, 12, 13] c11L0))) (.region [.m 59 10, .m 60 12, .o 61 (.mkSl 23 1 1 [(.tmp 60)]), .o 62 (.app 23 1 24 (.tmp 59) (.tmp 61)), .m 10 62])))) (.region [.m 42 11, .o 43 (.c .add 42 1), .m 11 43])))
def c11 : ACode := (.seq (.region [.o 8 (.mv (.const (.bool false)))]) (.seq (.seq (.region [.m 23 0, .o 24 (.n 23), .o 25 (.c .gtr 24 256)]) (.cond (.tmp 25) (.seq (.region [.o 8 (.mv (.const (.bool true)))]) .ret) .skip)) (.seq (.region [.m 26 1, .o 27 (.q 22 [26]), .m 1 27]) (.seq (.region [.m 28 2, .o 29 (.call 23 [(.tmp 28), (.const (.int .i64 7))]), .o 30 (.bin .add (.const (.int .i64 1)) (.tmp 29)), .m 2 30]) (.seq (.region [.m 31 3, .o 32 (.call 23 [(.tmp 31), (.const (.int .i64 7))]), .o 33 (.bin .add (.const (.int .i64 1)) (.tmp 32)), .m 3 33]) (.seq (.region [.m 34 0, .m 35 1, .m 36 2, .m 37 3, .o 38 (.call 24 [(.tmp 34), (.const (.int .i64 0)), (.tmp 35), (.tmp 36), (.tmp 37)]), .m 9 38]) (.seq (.region [.o 10 (.mv (.const (.slice none 0 0)))]) (.seq (.seq (.region [.k 11 0]) (.block 0 [1, 2, 3, 9, 10] (.loop [1, 2, 3, 9, 10, 11] c11L1))) (.seq (.region [.m 64 1, .m 65 9, .o 66 (.q 63 [64, 65]), .m 63 66, .o 67 (.e 0 63), .o 68 (.e 1 63), .m 14 67, .m 15 68]) (.seq (.region [.m 70 1, .m 71 10, .o 72 (.q 63 [70, 71]), .m 69 72, .o 73 (.e 0 69), .o 74 (.e 1 69), .m 16 73, .m 17 74]) (.seq (.region [.m 76 1, .m 77 9, .o 78 (.q 64 [76, 77]), .m 75 78, .o 79 (.e 0 75), .o 80 (.e 1 75), .m 18 79, .m 19 80]) (.seq (.region [.m 82 1, .m 83 9, .o 84 (.q 65 [82, 83]), .m 81 84, .o 85 (.e 0 81), .o 86 (.e 1 81), .o 87 (.e 2 81), .m 20 85, .m 21 86, .m 22 87]) (.seq (.region [.m 88 15, .o 89 (.c .eql 88 0), .m 90 89, .g 91 (.m 17) 90 true, .g 92 (.c .eql 91 0) 90 true, .o 93 (.pick (.tmp 90) (.tmp 92) (.const (.bool false))), .m 94 93, .g 95 (.m 19) 94 true, .g 96 (.c .eql 95 0) 94 true, .o 97 (.pick (.tmp 94) (.tmp 96) (.const (.bool false))), .m 98 97, .g 99 (.m 22) 98 true, .g 100 (.c .eql 99 0) 98 true, .o 101 (.pick (.tmp 98) (.tmp 100) (.const (.bool false))), .m 102 101, .g 103 (.m 14) 102 true, .g 104 (.m 16) 102 true, .g 105 (.b .eql 103 104) 102 true, .o 106 (.pick (.tmp 102) (.tmp 105) (.const (.bool false))), .m 107 106, .g 108 (.m 14) 107 true, .g 109 (.m 18) 107 true, .g 110 (.n 109) 107 true, .g 111 (.b .add 108 110) 107 true, .g 112 (.m 3) 107 true, .g 113 (.b .eql 111 112) 107 true, .o 114 (.pick (.tmp 107) (.tmp 113) (.const (.bool false))), .m 115 114, .g 116 (.m 20) 115 true, .g 117 (.n 116) 115 true, .g 118 (.m 14) 115 true, .g 119 (.b .eql 117 118) 115 true, .o 120 (.pick (.tmp 115) (.tmp 119) (.const (.bool false))), .m 121 120, .g 122 (.m 21) 121 true, .g 123 (.n 122) 121 true, .g 124 (.m 14) 121 true, .g 125 (.b .eql 123 124) 121 true, .o 126 (.pick (.tmp 121) (.tmp 125) (.const (.bool false))), .m 127 126, .g 128 (.m 14) 127 true, .g 129 (.m 2) 127 true, .g 130 (.b .leq 128 129) 127 true, .o 131 (.pick (.tmp 127) (.tmp 130) (.const (.bool false))), .m 8 131]) .ret)))))))))))))
def F11 : AFun := ⟨c11, 4, 132, [(.tmp 8)]⟩
def K11 : Nat → List Nat × List Nat
  | 0 => ([1, 2, 3, 9, 10, 11], [1, 2, 3, 9, 10])
  | 1 => ([], [1, 2, 3, 9, 10, 11])
  | 2 => ([1, 2, 3, 9, 10, 11, 12, 13], [1, 2, 3, 9, 10, 11, 12])
  | 3 => ([], [1, 2, 3, 9, 10, 11, 12, 13])
  | _ => ([], [])
theorem F11_ok : kj8 Try.prog K11 Try.f11 = some F11 := by kernel_rfl
/- 19: syndrome/matrix.Check -/
def c19L0 : ACode := (.seq (.region [.o 23 (.b .lss 22 21)]) (.seq (.cond (.tmp 23) .skip (.exit 0)) (.seq (.block 1 [1, 5, 20, 21, 22] (.seq (.region [.o 24 (.i 1 20 22), .o 25 (.l 24), .m 8 25]) (.seq (.seq (.region [.m 26 8, .o 27 (.n 26), .m 28 1, .o 29 (.iaddr 1 (.tmp 28) (.const (.int .i64 0))), .o 30 (.l 29), .o 31 (.n 30), .o 32 (.b .neq 27 31), .m 33 32, .g 34 (.m 8) 33 false, .g 35 (.n 34) 33 false, .g 36 (.c .eql 35 0) 33 false, .o 37 (.pick (.tmp 33) (.const (.bool true)) (.tmp 36))]) (.cond (.tmp 37) (.seq (.region [.k 4 3]) .ret) .skip)) (.seq (.seq (.region [.m 38 8, .o 39 (.n 38), .o 40 (.c .gtr 39 64)]) (.cond (.tmp 40) (.seq (.region [.k 4 4]) .ret) .skip)) (.seq (.region [.m 41 8, .o 42 (.mkf 81 [(.tmp 5)]), .o 43 (.q 80 [41, 42])]) (.cond (.tmp 43) (.seq (.region [.k 4 2]) .ret) .skip)))))) (.region [.o 44 (.c .add 22 1), .m 22 44]))))
def c19 : ACode := (.seq (.region [.k 4 0]) (.seq (.region [.m 10 0, .o 11 (.q 77 [10]), .m 9 11, .o 12 (.e 0 9), .o 13 (.e 1 9), .o 5 (.alloc 107 [(.pointer none)]), .n (.st 1 (.tmp 5) (.tmp 12)), .m 6 13]) (.seq (.seq (.region [.m 14 6, .o 15 (.c .neq 14 0)]) (.cond (.tmp 15) (.seq (.region [.m 16 6, .m 4 16]) .ret) .skip)) (.seq (.seq (.region [.m 17 1, .o 18 (.n 17), .o 19 (.c .gtr 18 64)]) (.cond (.tmp 19) (.seq (.region [.k 4 4]) .ret) .skip)) (.seq (.seq (.region [.m 20 1, .o 21 (.n 20), .k 22 0]) (.block 0 [] (.loop [1, 5, 20, 21, 22] c19L0))) (.seq (.region [.k 4 0]) .ret))))))
def F19 : AFun := ⟨c19, 2, 45, [(.tmp 4)]⟩
def K19 : Nat → List Nat × List Nat
  | 0 => ([1, 5, 20, 21, 22], [])
  | 1 => ([], [1, 5, 20, 21, 22])
  | _ => ([], [])
theorem F19_ok : kj8 Try.prog K19 Try.f19 = some F19 := by kernel_rfl
/- 22: syndrome/syndromeref.SizeOf -/
def c22 : ACode := (.seq (.region [.k 2 0]) (.seq (.region [.o 5 (.call 89 []), .m 3 5]) (.seq (.region [.m 6 0, .o 7 (.call 23 [(.tmp 6), (.const (.int .i64 100))]), .m 4 7]) (.seq (.seq (.region [.m 8 4, .o 9 (.c .lss 8 60)]) (.cond (.tmp 9) (.seq (.region [.m 10 3, .m 11 4, .o 12 (.c .rem 11 7), .o 13 (.i 1 10 12), .o 14 (.l 13), .m 2 14]) .ret) .skip)) (.seq (.region [.m 15 3, .m 16 0, .o 17 (.c .quo 16 100), .m 18 3, .o 19 (.n 18), .o 20 (.q 23 [17, 19]), .o 21 (.i 1 15 20), .o 22 (.l 21), .m 2 22]) .ret)))))
def F22 : AFun := ⟨c22, 1, 23, [(.tmp 2)]⟩
def K22 : Nat → List Nat × List Nat
  | _ => ([], [])
theorem F22_ok : kj8 Try.prog K22 Try.f22 = some F22 := by kernel_rfl
/- 23: syndrome/syndromeref.Pick -/
def c23 : ACode := (.seq (.region [.k 4 0]) (.seq (.seq (.region [.m 5 0, .o 6 (.c .lss 5 0)]) (.cond (.tmp 6) (.region [.m 7 0, .o 8 (.c .add 7 1), .o 9 (.un .neg (.tmp 8)), .m 0 9]) .skip)) (.seq (.region [.m 10 0, .m 11 1, .o 12 (.b .rem 10 11), .m 4 12]) .ret)))
def F23 : AFun := ⟨c23, 2, 13, [(.tmp 4)]⟩
def K23 : Nat → List Nat × List Nat
  | _ => ([], [])
theorem F23_ok : kj8 Try.prog K23 Try.f23 = some F23 := by kernel_rfl
/- 24: syndrome/syndromeref.MatrixOf -/
def c24L0 : ACode := (.seq (.seq (.region [.m 13 12, .m 14 3, .o 15 (.b .lss 13 14)]) (.cond (.tmp 15) .skip (.exit 0))) (.seq (.block 1 [0, 1, 2, 3, 4, 11, 12] (.region [.m 18 11, .m 19 0, .m 20 1, .m 21 12, .m 22 4, .o 23 (.b .mul 21 22), .o 24 (.b .add 20 23), .m 25 2, .m 26 4, .o 27 (.q 25 [19, 24, 25, 26]), .o 28 (.mkSl 23 1 1 [(.tmp 27)]), .o 29 (.app 23 1 24 (.tmp 18) (.tmp 28)), .m 11 29])) (.region [.m 16 12, .o 17 (.c .add 16 1), .m 12 17])))
def c24 : ACode := (.seq (.region [.o 10 (.mv (.const (.slice none 0 0)))]) (.seq (.region [.o 11 (.mv (.const (.slice none 0 0)))]) (.seq (.seq (.region [.k 12 0]) (.block 0 [11] (.loop [0, 1, 2, 3, 4, 11, 12] c24L0))) (.seq (.region [.m 30 11, .m 10 30]) .ret))))
def F24 : AFun := ⟨c24, 5, 31, [(.tmp 10)]⟩
def K24 : Nat → List Nat × List Nat
  | 0 => ([0, 1, 2, 3, 4, 11, 12], [11])
  | 1 => ([], [0, 1, 2, 3, 4, 11, 12])
  | _ => ([], [])
theorem F24_ok : kj8 Try.prog K24 Try.f24 = some F24 := by kernel_rfl
/- 25: syndrome/syndromeref.Numbers -/
def c25L0 : ACode := (.seq (.seq (.region [.m 11 10, .m 12 3, .o 13 (.b .lss 11 12)]) (.cond (.tmp 13) .skip (.exit 0))) (.seq (.block 1 [0, 1, 2, 3, 9, 10] (.region [.m 16 9, .m 17 0, .m 18 1, .m 19 10, .o 20 (.b .add 18 19), .o 21 (.q 40 [17, 20]), .m 22 2, .o 23 (.q 23 [21, 22]), .o 24 (.mkSl 3 1 1 [(.tmp 23)]), .o 25 (.app 3 1 8 (.tmp 16) (.tmp 24)), .m 9 25])) (.region [.m 14 10, .o 15 (.c .add 14 1), .m 10 15])))
def c25 : ACode := (.seq (.region [.o 8 (.mv (.const (.slice none 0 0)))]) (.seq (.region [.o 9 (.mv (.const (.slice none 0 0)))]) (.seq (.seq (.region [.k 10 0]) (.block 0 [9] (.loop [0, 1, 2, 3, 9, 10] c25L0))) (.seq (.region [.m 26 9, .m 8 26]) .ret))))
def F25 : AFun := ⟨c25, 4, 27, [(.tmp 8)]⟩
def K25 : Nat → List Nat × List Nat
  | 0 => ([0, 1, 2, 3, 9, 10], [9])
  | 1 => ([], [0, 1, 2, 3, 9, 10])
  | _ => ([], [])
theorem F25_ok : kj8 Try.prog K25 Try.f25 = some F25 := by kernel_rfl
/- 40: syndrome/syndromeref.Raw -/
def c40 : ACode := (.seq (.region [.k 4 0]) (.seq (.seq (.region [.m 5 0, .o 6 (.n 5), .o 7 (.c .eql 6 0)]) (.cond (.tmp 7) (.seq (.region [.m 8 1, .m 4 8]) .ret) .skip)) (.seq (.region [.m 9 0, .m 10 1, .m 11 0, .o 12 (.n 11), .o 13 (.b .rem 10 12), .o 14 (.i 1 9 13), .o 15 (.l 14), .m 16 1, .m 17 0, .o 18 (.n 17), .o 19 (.b .quo 16 18), .o 20 (.c .mul 19 7919), .o 21 (.b .add 15 20), .m 4 21]) .ret)))
def F40 : AFun := ⟨c40, 2, 22, [(.tmp 4)]⟩
def K40 : Nat → List Nat × List Nat
  | _ => ([], [])
theorem F40_ok : kj8 Try.prog K40 Try.f40 = some F40 := by kernel_rfl
/- 63: syndrome/matrix.Rank -/
def c63 : ACode := (.seq (.region [.k 4 0, .k 5 0]) (.seq (.region [.m 10 0, .m 11 1, .o 12 (.q 65 [10, 11]), .m 9 12, .o 13 (.e 0 9), .o 14 (.e 1 9), .o 15 (.e 2 9), .m 6 13, .m 7 14, .m 8 15]) (.seq (.region [.m 16 7, .o 17 (.n 16), .m 18 8, .m 4 17, .m 5 18]) .ret)))
def F63 : AFun := ⟨c63, 2, 19, [(.tmp 4), (.tmp 5)]⟩
def K63 : Nat → List Nat × List Nat
  | _ => ([], [])
theorem F63_ok : kj8 Try.prog K63 Try.f63 = some F63 := by kernel_rfl
/- 64: syndrome/matrix.Null -/
def c64L0 : ACode := (.seq (.region [.o 57 (.b .lss 56 55)]) (.seq (.cond (.tmp 57) .skip (.exit 2)) (.seq (.block 3 [0, 1, 6, 7, 9, 11, 12, 13, 39, 40, 54, 55, 56] (.seq (.region [.m 58 56, .o 59 (.i 1 54 56), .o 60 (.l 59), .m 14 58, .m 15 60]) (.region [.m 61 13, .m 62 15, .m 63 9, .m 64 6, .m 65 14, .o 66 (.i 1 64 65), .o 67 (.l 66), .m 68 12, .o 69 (.i 1 67 68), .o 70 (.l 69), .o 71 (.q 115 [63, 70]), .o 72 (.i 1 61 62), .n (.st 1 (.tmp 72) (.tmp 71))]))) (.region [.o 73 (.c .add 56 1), .m 56 73]))))
def c64L1 : ACode := (.seq (.region [.o 41 (.b .lss 40 39)]) (.seq (.cond (.tmp 41) .skip (.exit 0)) (.seq (.block 1 [0, 1, 6, 7, 9, 11, 39, 40] (.seq (.region [.m 42 40, .m 12 42]) (.seq (.seq (.region [.m 43 7, .m 44 12, .o 45 (.q 114 [43, 44])]) (.cond (.tmp 45) (.exit 1) .skip)) (.seq (.region [.m 46 1, .o 47 (.iaddr 1 (.tmp 46) (.const (.int .i64 0))), .o 48 (.l 47), .o 49 (.n 48), .o 50 (.mks 3 1 8 [(.int .i64 0)] (.tmp 49) (.tmp 49)), .m 13 50]) (.seq (.region [.m 51 13, .m 52 12, .o 53 (.i 1 51 52), .n (.st 1 (.tmp 53) (.const (.int .i64 1)))]) (.seq (.seq (.region [.m 54 7, .o 55 (.n 54), .k 56 0]) (.block 2 [0, 1, 6, 7, 9, 11, 13, 39, 40] (.loop [0, 1, 6, 7, 9, 11, 12, 13, 39, 40, 54, 55, 56] c64L0))) (.region [.m 74 11, .m 75 13, .o 76 (.mkSl 23 1 1 [(.tmp 75)]), .o 77 (.app 23 1 24 (.tmp 74) (.tmp 76)), .m 11 77]))))))) (.region [.o 78 (.c .add 40 1), .m 40 78]))))
def c64 : ACode := (.seq (.region [.o 4 (.mv (.const (.slice none 0 0))), .k 5 0]) (.seq (.region [.m 17 0, .m 18 1, .o 19 (.q 65 [17, 18]), .m 16 19, .o 20 (.e 0 16), .o 21 (.e 1 16), .o 22 (.e 2 16), .m 6 20, .m 7 21, .m 8 22]) (.seq (.seq (.region [.m 23 8, .o 24 (.c .neq 23 0), .m 25 24, .g 26 (.m 1) 25 false, .g 27 (.n 26) 25 false, .g 28 (.c .eql 27 0) 25 false, .o 29 (.pick (.tmp 25) (.const (.bool true)) (.tmp 28))]) (.cond (.tmp 29) (.seq (.region [.m 30 8, .o 4 (.mv (.const (.slice none 0 0))), .m 5 30]) .ret) .skip)) (.seq (.region [.m 32 0, .o 33 (.q 77 [32]), .m 31 33, .o 34 (.e 0 31), .o 35 (.e 1 31), .m 9 34, .m 10 35]) (.seq (.region [.o 11 (.mv (.const (.slice none 0 0)))]) (.seq (.seq (.region [.m 36 1, .o 37 (.iaddr 1 (.tmp 36) (.const (.int .i64 0))), .o 38 (.l 37), .o 39 (.n 38), .k 40 0]) (.block 0 [0, 11] (.loop [0, 1, 6, 7, 9, 11, 39, 40] c64L1))) (.seq (.region [.m 80 0, .m 81 11, .o 82 (.q 65 [80, 81]), .m 79 82, .o 83 (.e 0 79), .o 84 (.e 1 79), .o 85 (.e 2 79), .m 11 83]) (.seq (.region [.m 86 11, .m 4 86, .k 5 0]) .ret))))))))
def F64 : AFun := ⟨c64, 2, 87, [(.tmp 4), (.tmp 5)]⟩
def K64 : Nat → List Nat × List Nat
  | 0 => ([0, 1, 6, 7, 9, 11, 39, 40], [0, 11])
  | 1 => ([], [0, 1, 6, 7, 9, 11, 39, 40])
  | 2 => ([0, 1, 6, 7, 9, 11, 12, 13, 39, 40, 54, 55, 56], [0, 1, 6, 7, 9, 11, 13, 39, 40])
  | 3 => ([], [0, 1, 6, 7, 9, 11, 12, 13, 39, 40, 54, 55, 56])
  | _ => ([], [])
theorem F64_ok : kj8 Try.prog K64 Try.f64 = some F64 := by kernel_rfl
/- 65: syndrome/matrix.Reduce -/
def c65L0 : ACode := (.seq (.region [.o 92 (.b .lss 91 90)]) (.seq (.cond (.tmp 92) .skip (.exit 2)) (.seq (.block 3 [1, 5, 8, 10, 11, 90, 91] (.seq (.region [.m 93 91, .m 13 93]) (.seq (.region [.m 94 13, .m 95 11, .o 96 (.b .neq 94 95), .m 97 96, .g 98 (.m 1) 97 true, .g 99 (.m 13) 97 true, .g 100 (.i 1 98 99) 97 true, .g 101 (.l 100) 97 true, .g 102 (.l 10) 97 true, .g 103 (.i 1 101 102) 97 true, .g 104 (.l 103) 97 true, .g 105 (.c .neq 104 0) 97 true, .o 106 (.pick (.tmp 97) (.tmp 105) (.const (.bool false)))]) (.cond (.tmp 106) (.region [.m 107 8, .m 108 1, .m 109 13, .o 110 (.i 1 108 109), .o 111 (.l 110), .m 112 1, .m 113 11, .o 114 (.i 1 112 113), .o 115 (.l 114), .m 116 1, .m 117 13, .o 118 (.i 1 116 117), .o 119 (.l 118), .o 120 (.l 10), .o 121 (.i 1 119 120), .o 122 (.l 121), .o 123 (.q 121 [107, 111, 115, 122])]) .skip)))) (.region [.o 124 (.c .add 91 1), .m 91 124]))))
def c65L1 : ACode := (.seq (.seq (.region [.o 32 (.l 10), .m 33 1, .o 34 (.iaddr 1 (.tmp 33) (.const (.int .i64 0))), .o 35 (.l 34), .o 36 (.n 35), .o 37 (.b .lss 32 36), .m 38 37, .g 39 (.m 5) 38 true, .g 40 (.n 39) 38 true, .g 41 (.m 1) 38 true, .g 42 (.n 41) 38 true, .g 43 (.b .lss 40 42) 38 true, .o 44 (.pick (.tmp 38) (.tmp 43) (.const (.bool false)))]) (.cond (.tmp 44) .skip (.exit 0))) (.seq (.block 1 [1, 5, 8, 10] (.seq (.region [.m 47 5, .o 48 (.n 47), .m 11 48]) (.seq (.region [.m 49 1, .m 50 11, .o 51 (.sl 1 (.tmp 49) (some (.tmp 50)) none), .o 52 (.mkf 118 [(.tmp 10)]), .o 53 (.q 117 [51, 52]), .m 12 53]) (.seq (.seq (.region [.m 54 12, .o 55 (.c .lss 54 0)]) (.cond (.tmp 55) (.exit 1) .skip)) (.seq (.region [.m 56 1, .m 57 11, .m 58 1, .m 59 11, .m 60 12, .o 61 (.b .add 59 60), .m 62 1, .m 63 11, .m 64 12, .o 65 (.b .add 63 64), .o 66 (.i 1 62 65), .o 67 (.l 66), .m 68 1, .m 69 11, .o 70 (.i 1 68 69), .o 71 (.l 70), .o 72 (.i 1 56 57), .n (.st 1 (.tmp 72) (.tmp 67)), .o 73 (.i 1 58 61), .n (.st 1 (.tmp 73) (.tmp 71))]) (.seq (.region [.m 74 8, .m 75 1, .m 76 11, .o 77 (.i 1 75 76), .o 78 (.l 77), .m 79 8, .m 80 1, .m 81 11, .o 82 (.i 1 80 81), .o 83 (.l 82), .o 84 (.l 10), .o 85 (.i 1 83 84), .o 86 (.l 85), ⟨(some 87), (.call 120 [(.tmp 79), (.tmp 86)]), none, true⟩, .o 88 (.q 119 [74, 78, 87])]) (.seq (.seq (.region [.m 89 1, .o 90 (.n 89), .k 91 0]) (.block 2 [1, 5, 8, 10] (.loop [1, 5, 8, 10, 11, 90, 91] c65L0))) (.region [.m 125 5, .o 126 (.l 10), .o 127 (.mkSl 3 1 1 [(.tmp 126)]), .o 128 (.app 3 1 8 (.tmp 125) (.tmp 127)), .m 5 128])))))))) (.seq (.seq (.region [.o 129 (.l 10)]) (.region [.o 10 (.alloc 3 [(.int .i64 0)]), .n (.st 1 (.tmp 10) (.tmp 129))])) (.region [.o 45 (.l 10), .o 46 (.c .add 45 1), .n (.st 1 (.tmp 10) (.tmp 46))]))))
def c65 : ACode := (.seq (.region [.o 4 (.mv (.const (.slice none 0 0))), .o 5 (.mv (.const (.slice none 0 0))), .k 6 0]) (.seq (.seq (.region [.m 14 0, .m 15 1, .o 16 (.q 19 [14, 15]), .m 7 16]) (.seq (.region [.m 17 7, .o 18 (.c .neq 17 0), .m 19 18, .g 20 (.m 1) 19 false, .g 21 (.n 20) 19 false, .g 22 (.c .eql 21 0) 19 false, .o 23 (.pick (.tmp 19) (.const (.bool true)) (.tmp 22))]) (.cond (.tmp 23) (.seq (.region [.m 24 7, .o 4 (.mv (.const (.slice none 0 0))), .o 5 (.mv (.const (.slice none 0 0))), .m 6 24]) .ret) .skip))) (.seq (.region [.m 26 0, .o 27 (.q 77 [26]), .m 25 27, .o 28 (.e 0 25), .o 29 (.e 1 25), .m 8 28, .m 9 29]) (.seq (.region [.m 30 1, .o 31 (.q 116 [30]), .m 1 31]) (.seq (.seq (.region [.o 10 (.alloc 3 [(.int .i64 0)]), .n (.st 1 (.tmp 10) (.const (.int .i64 0)))]) (.block 0 [1, 5] (.loop [1, 5, 8, 10] c65L1))) (.seq (.region [.m 130 1, .m 131 5, .o 132 (.n 131), .m 133 5, .o 134 (.n 133), .o 135 (.sl3 (.tmp 130) (.tmp 132) (.tmp 134)), .m 136 5, .m 4 135, .m 5 136, .k 6 0]) .ret))))))
def F65 : AFun := ⟨c65, 2, 137, [(.tmp 4), (.tmp 5), (.tmp 6)]⟩
def K65 : Nat → List Nat × List Nat
  | 0 => ([1, 5, 8, 10], [1, 5])
  | 1 => ([], [1, 5, 8, 10])
  | 2 => ([1, 5, 8, 10, 11, 90, 91], [1, 5, 8, 10])
  | 3 => ([], [1, 5, 8, 10, 11, 90, 91])
  | _ => ([], [])
theorem F65_ok : kj8 Try.prog K65 Try.f65 = some F65 := by kernel_rfl
/- 72: syndrome/syndromeref.Prime -/
def c72L0 : ACode := (.seq (.seq (.region [.m 15 0, .m 16 4, .o 17 (.b .rem 15 16), .o 18 (.c .eql 17 0)]) (.cond (.tmp 18) .skip (.exit 2))) (.block 3 [0, 4, 5] (.seq (.region [.m 19 0, .m 20 4, .o 21 (.b .quo 19 20), .m 0 21]) (.region [.m 22 5, .o 23 (.c .add 22 1), .m 5 23]))))
def c72L1 : ACode := (.seq (.seq (.region [.m 6 4, .m 7 0, .o 8 (.b .leq 6 7)]) (.cond (.tmp 8) .skip (.exit 0))) (.seq (.block 1 [0, 4] (.seq (.seq (.region [.m 11 0, .m 12 4, .o 13 (.b .rem 11 12), .o 14 (.c .neq 13 0)]) (.cond (.tmp 14) (.exit 1) .skip)) (.seq (.region [.k 5 0]) (.seq (.block 2 [0, 4, 5] (.loop [0, 4, 5] c72L0)) (.seq (.seq (.region [.m 24 0, .o 25 (.c .eql 24 1)]) (.cond (.tmp 25) (.seq (.region [.m 26 4, .m 27 5, .m 2 26, .m 3 27]) .ret) .skip)) (.seq (.region [.k 2 0, .k 3 0]) .ret)))))) (.region [.m 9 4, .o 10 (.c .add 9 1), .m 4 10])))
def c72 : ACode := (.seq (.region [.k 2 0, .k 3 0]) (.seq (.seq (.region [.k 4 2]) (.block 0 [] (.loop [0, 4] c72L1))) (.seq (.region [.k 2 0, .k 3 0]) .ret)))
def F72 : AFun := ⟨c72, 1, 28, [(.tmp 2), (.tmp 3)]⟩
def K72 : Nat → List Nat × List Nat
  | 0 => ([0, 4], [])
  | 1 => ([], [0, 4])
  | 2 => ([0, 4, 5], [0, 4, 5])
  | 3 => ([], [0, 4, 5])
  | _ => ([], [])
theorem F72_ok : kj8 Try.prog K72 Try.f72 = some F72 := by kernel_rfl
/- 77: syndrome/field.New -/
def b90 : List Value := [(.int .u32 0), (.int .i32 0), (.int .u32 0), (.int .u32 0), (.int .i32 0), (.int .u32 0), (.int .u32 0), (.int .i32 0), (.int .u32 0), (.int .u32 0), (.int .i32 0), (.int .u32 0), (.int .u32 0), (.int .i32 0), (.int .u32 0), (.int .u32 0), (.int .i32 0), (.int .u32 0), (.int .u32 0), (.int .i32 0), (.int .u32 0), (.int .u32 0), (.int .i32 0), (.int .u32 0), (.int .u32 0), (.int .i32 0), (.int .u32 0), (.int .u32 0), (.int .i32 0), (.int .u32 0), (.int .u32 0), (.int .i32 0), (.int .u32 0), (.int .u32 0), (.int .i32 0), (.int .u32 0), (.int .u32 0), (.int .i32 0), (.int .u32 0), (.int .u32 0), (.int .i32 0), (.int .u32 0), (.int .u32 0), (.int .i32 0), (.int .u32 0), (.int .u32 0), (.int .i32 0), (.int .u32 0), (.int .u32 0), (.int .i32 0), (.int .u32 0), (.int .u32 0), (.int .i32 0), (.int .u32 0), (.int .u32 0), (.int .i32 0), (.int .u32 0), (.int .u32 0), (.int .i32 0), (.int .u32 0), (.int .u32 0), (.int .i32 0), (.int .u32 0), (.int .u32 0), (.int .i32 0), (.int .u32 0), (.int .u32 0), (.int .i32 0), (.int .u32 0), (.int .u32 0), (.int .i32 0), (.int .u32 0), (.int .u32 0), (.int .i32 0), (.int .u32 0), (.int .u32 0), (.int .i32 0), (.int .u32 0), (.int .u32 0), (.int .i32 0), (.int .u32 0), (.int .u32 0), (.int .i32 0), (.int .u32 0), (.int .u32 0), (.int .i32 0), (.int .u32 0), (.int .u32 0), (.int .i32 0), (.int .u32 0), (.int .u32 0), (.int .i32 0), (.int .u32 0), (.int .u32 0), (.int .i32 0), (.int .u32 0), (.int .u32 0), (.int .i32 0), (.int .u32 0), (.int .u32 0), (.int .i32 0), (.int .u32 0), (.int .u32 0), (.int .i32 0), (.int .u32 0), (.int .u32 0), (.int .i32 0), (.int .u32 0), (.int .u32 0), (.int .i32 0), (.int .u32 0), (.int .u32 0), (.int .i32 0), (.int .u32 0), (.int .u32 0), (.int .i32 0), (.int .u32 0), (.int .u32 0), (.int .i32 0), (.int .u32 0), (.int .u32 0), (.int .i32 0), (.int .u32 0), (.int .u32 0), (.int .i32 0), (.int .u32 0), (.int .u32 0), (.int .i32 0), (.int .u32 0), (.int .u32 0), (.int .i32 0), (.int .u32 0), (.int .u32 0), (.int .i32 0), (.int .u32 0), (.int .u32 0), (.int .i32 0), (.int .u32 0), (.int .u32 0), (.int .i32 0), (.int .u32 0), (.int .u32 0), (.int .i32 0), (.int .u32 0), (.int .u32 0), (.int .i32 0), (.int .u32 0), (.int .u32 0), (.int .i32 0), (.int .u32 0), (.int .u32 0), (.int .i32 0), (.int .u32 0), (.int .u32 0), (.int .i32 0), (.int .u32 0), (.int .u32 0), (.int .i32 0), (.int .u32 0), (.int .u32 0), (.int .i32 0), (.int .u32 0), (.int .u32 0), (.int .i32 0), (.int .u32 0), (.int .u32 0), (.int .i32 0), (.int .u32 0), (.int .u32 0), (.int .i32 0), (.int .u32 0), (.int .u32 0), (.int .i32 0), (.int .u32 0), (.int .u32 0), (.int .i32 0), (.int .u32 0), (.int .u32 0), (.int .i32 0), (.int .u32 0), (.int .u32 0), (.int .i32 0), (.int .u32 0), (.int .u32 0), (.int .i32 0), (.int .u32 0), (.int .u32 0), (.int .i32 0), (.int .u32 0), (.int .u32 0), (.int .i32 0), (.int .u32 0), (.int .u32 0), (.int .i32 0), (.int .u32 0), (.pointer none), (.pointer none), (.pointer none), (.pointer none), (.pointer none), (.pointer none), (.pointer none), (.pointer none), (.pointer none), (.pointer none), (.pointer none), (.pointer none), (.pointer none), (.pointer none), (.pointer none), (.pointer none), (.pointer none), (.pointer none), (.pointer none), (.pointer none), (.pointer none), (.pointer none), (.pointer none), (.pointer none), (.pointer none), (.pointer none), (.pointer none), (.pointer none), (.pointer none), (.pointer none), (.pointer none), (.pointer none), (.pointer none), (.pointer none), (.pointer none), (.pointer none), (.pointer none), (.pointer none), (.pointer none), (.pointer none), (.pointer none), (.pointer none), (.pointer none), (.pointer none), (.pointer none), (.pointer none), (.pointer none), (.pointer none), (.pointer none), (.pointer none), (.pointer none), (.pointer none), (.pointer none), (.pointer none), (.pointer none), (.pointer none), (.pointer none), (.pointer none), (.pointer none), (.pointer none), (.pointer none), (.pointer none), (.pointer none), (.pointer none), (.pointer none)]
def c77 : ACode := (.seq (.region [.o 1 (.box 3 1 (.tmp 0)), .o 2 (.mv (.const (.pointer none))), .k 3 0]) (.seq (.seq (.region [.o 5 (.l 1), .o 6 (.c .lss 5 2), .m 7 6, .g 8 (.l 1) 7 false, .g 9 (.c .gtr 8 64) 7 false, .o 10 (.pick (.tmp 7) (.const (.bool true)) (.tmp 9))]) (.cond (.tmp 10) (.seq (.region [.o 2 (.mv (.const (.pointer none))), .k 3 1]) .ret) .skip)) (.seq (.region [.o 4 (.alloc 152 b90)]) (.seq (.region [.o 11 (.l 1), .o 12 (.f 0 4), .o 13 (.iaddrA 65 3 (.tmp 12) (.tmp 11)), .o 14 (.mkf 129 [(.tmp 1), (.tmp 4)]), .o 15 (.q 128 [13, 14])]) (.seq (.seq (.region [.o 16 (.l 1), .o 17 (.f 195 4), .o 18 (.iaddrA 65 1 (.tmp 17) (.tmp 16)), .o 19 (.l 18), .o 20 (.eqn false 1 (.tmp 19))]) (.cond (.tmp 20) (.seq (.region [.o 2 (.mv (.const (.pointer none))), .k 3 1]) .ret) .skip)) (.seq (.region [.o 21 (.l 1), .o 22 (.f 195 4), .o 23 (.iaddrA 65 1 (.tmp 22) (.tmp 21)), .o 24 (.l 23), .m 2 24, .k 3 0]) .ret))))))
def F77 : AFun := ⟨c77, 1, 25, [(.tmp 2), (.tmp 3)]⟩
def K77 : Nat → List Nat × List Nat
  | _ => ([], [])
theorem F77_ok : kj8 Try.prog K77 Try.f77 = some F77 := by kernel_rfl
/- 78: (*syndrome/field.Field).Add -/
def c78L0 : ACode := (.seq (.region [.o 24 (.b .lss 23 22)]) (.seq (.cond (.tmp 24) .skip (.exit 0)) (.seq (.block 1 [0, 1, 2, 7, 8, 22, 23] (.seq (.region [.m 25 7, .m 26 1, .m 27 0, .o 28 (.nilck (.tmp 27)), .o 29 (.f 1 28), .o 30 (.l 29), .o 31 (.b .rem 26 30), .m 32 2, .m 33 0, .o 34 (.nilck (.tmp 33)), .o 35 (.f 1 34), .o 36 (.l 35), .o 37 (.b .rem 32 36), .o 38 (.b .add 31 37), .m 39 0, .o 40 (.nilck (.tmp 39)), .o 41 (.f 1 40), .o 42 (.l 41), .o 43 (.b .rem 38 42), .m 44 8, .o 45 (.b .mul 43 44), .o 46 (.b .add 25 45), .m 7 46]) (.region [.m 47 1, .m 48 0, .o 49 (.nilck (.tmp 48)), .o 50 (.f 1 49), .o 51 (.l 50), .o 52 (.b .quo 47 51), .m 53 2, .m 54 0, .o 55 (.nilck (.tmp 54)), .o 56 (.f 1 55), .o 57 (.l 56), .o 58 (.b .quo 53 57), .m 59 8, .m 60 0, .o 61 (.nilck (.tmp 60)), .o 62 (.f 1 61), .o 63 (.l 62), .o 64 (.b .mul 59 63), .m 1 52, .m 2 58, .m 8 64]))) (.region [.o 65 (.c .add 23 1), .m 23 65]))))
def c78 : ACode := (.seq (.region [.k 6 0]) (.seq (.seq (.region [.m 9 0, .m 10 1, .o 11 (.q 82 [9, 10]), .o 12 (.un .not (.tmp 11)), .m 13 12, .g 14 (.m 0) 13 false, .g 15 (.m 2) 13 false, .g 16 (.q 82 [14, 15]) 13 false, .g 17 (.un .not (.tmp 16)) 13 false, .o 18 (.pick (.tmp 13) (.const (.bool true)) (.tmp 17))]) (.cond (.tmp 18) (.seq (.region [.k 6 (-1)]) .ret) .skip)) (.seq (.region [.k 7 0, .k 8 1]) (.seq (.seq (.region [.m 19 0, .o 20 (.nilck (.tmp 19)), .o 21 (.f 2 20), .o 22 (.l 21), .k 23 0]) (.block 0 [7] (.loop [0, 1, 2, 7, 8, 22, 23] c78L0))) (.seq (.region [.m 66 7, .m 6 66]) .ret)))))
def F78 : AFun := ⟨c78, 3, 67, [(.tmp 6)]⟩
def K78 : Nat → List Nat × List Nat
  | 0 => ([0, 1, 2, 7, 8, 22, 23], [7])
  | 1 => ([], [0, 1, 2, 7, 8, 22, 23])
  | _ => ([], [])
theorem F78_ok : kj8 Try.prog K78 Try.f78 = some F78 := by kernel_rfl
/- 79: (*syndrome/field.Field).Mul -/
def c79 : ACode := (.seq (.region [.k 6 0]) (.seq (.seq (.region [.m 7 0, .m 8 1, .o 9 (.q 82 [7, 8]), .o 10 (.un .not (.tmp 9)), .m 11 10, .g 12 (.m 0) 11 false, .g 13 (.m 2) 11 false, .g 14 (.q 82 [12, 13]) 11 false, .g 15 (.un .not (.tmp 14)) 11 false, .o 16 (.pick (.tmp 11) (.const (.bool true)) (.tmp 15))]) (.cond (.tmp 16) (.seq (.region [.k 6 (-1)]) .ret) .skip)) (.seq (.seq (.region [.m 17 1, .o 18 (.c .eql 17 0), .m 19 18, .g 20 (.m 2) 19 false, .g 21 (.c .eql 20 0) 19 false, .o 22 (.pick (.tmp 19) (.const (.bool true)) (.tmp 21))]) (.cond (.tmp 22) (.seq (.region [.k 6 0]) .ret) .skip)) (.seq (.region [.m 23 0, .o 24 (.nilck (.tmp 23)), .o 25 (.f 5 24), .o 26 (.l 25), .m 27 0, .o 28 (.nilck (.tmp 27)), .o 29 (.f 6 28), .o 30 (.l 29), .m 31 1, .o 32 (.i 1 30 31), .o 33 (.l 32), .m 34 0, .o 35 (.nilck (.tmp 34)), .o 36 (.f 6 35), .o 37 (.l 36), .m 38 2, .o 39 (.i 1 37 38), .o 40 (.l 39), .o 41 (.b .add 33 40), .m 42 0, .o 43 (.nilck (.tmp 42)), .o 44 (.f 0 43), .o 45 (.l 44), .o 46 (.c .sub 45 1), .o 47 (.b .rem 41 46), .o 48 (.i 1 26 47), .o 49 (.l 48), .m 6 49]) .ret))))
def F79 : AFun := ⟨c79, 3, 50, [(.tmp 6)]⟩
def K79 : Nat → List Nat × List Nat
  | _ => ([], [])
theorem F79_ok : kj8 Try.prog K79 Try.f79 = some F79 := by kernel_rfl
/- 80: slices.ContainsFunc[[]int,int] -/
def c80 : ACode := (.seq (.region [.o 4 (.mv (.const (.bool false)))]) (.seq (.region [.m 5 0, .m 6 1, .o 7 (.q 131 [5, 6]), .o 8 (.c .geq 7 0), .m 4 8]) .ret))
def F80 : AFun := ⟨c80, 2, 9, [(.tmp 4)]⟩
def K80 : Nat → List Nat × List Nat
  | _ => ([], [])
theorem F80_ok : kj8 Try.prog K80 Try.f80 = some F80 := by kernel_rfl
/- 81: syndrome/matrix.Check$1 -/
def c81 : ACode := (.seq (.region [.o 3 (.mv (.const (.bool false)))]) (.seq (.region [.o 4 (.l 1), .m 5 0, .o 6 (.q 82 [4, 5]), .o 7 (.un .not (.tmp 6)), .m 3 7]) .ret))
def F81 : AFun := ⟨c81, 2, 8, [(.tmp 3)]⟩
def K81 : Nat → List Nat × List Nat
  | _ => ([], [])
theorem F81_ok : kj8 Try.prog K81 Try.f81 = some F81 := by kernel_rfl
/- 82: (*syndrome/field.Field).Has -/
def c82 : ACode := (.seq (.region [.o 4 (.mv (.const (.bool false)))]) (.seq (.region [.m 5 1, .o 6 (.c .geq 5 0), .m 7 6, .g 8 (.m 1) 7 true, .g 9 (.m 0) 7 true, .g 10 (.nilck (.tmp 9)) 7 true, .g 11 (.f 0 10) 7 true, .g 12 (.l 11) 7 true, .g 13 (.b .lss 8 12) 7 true, .o 14 (.pick (.tmp 7) (.tmp 13) (.const (.bool false))), .m 4 14]) .ret))
def F82 : AFun := ⟨c82, 2, 15, [(.tmp 4)]⟩
def K82 : Nat → List Nat × List Nat
  | _ => ([], [])
theorem F82_ok : kj8 Try.prog K82 Try.f82 = some F82 := by kernel_rfl
/- 89: syndrome/syndromeref.Sizes -/
def c89L0 : ACode := (.seq (.seq (.region [.m 5 2, .o 6 (.c .leq 5 64)]) (.cond (.tmp 6) .skip (.exit 0))) (.seq (.block 1 [1, 2] (.seq (.region [.m 10 2, .o 11 (.q 72 [10]), .m 9 11, .o 12 (.e 0 9), .o 13 (.e 1 9), .m 3 12, .m 4 13]) (.seq (.region [.m 14 3, .o 15 (.c .gtr 14 0)]) (.cond (.tmp 15) (.region [.m 16 1, .m 17 2, .o 18 (.mkSl 3 1 1 [(.tmp 17)]), .o 19 (.app 3 1 8 (.tmp 16) (.tmp 18)), .m 1 19]) .skip)))) (.region [.m 7 2, .o 8 (.c .add 7 1), .m 2 8])))
def c89 : ACode := (.seq (.region [.o 0 (.mv (.const (.slice none 0 0)))]) (.seq (.region [.o 1 (.mv (.const (.slice none 0 0)))]) (.seq (.seq (.region [.k 2 2]) (.block 0 [1] (.loop [1, 2] c89L0))) (.seq (.region [.m 20 1, .m 0 20]) .ret))))
def F89 : AFun := ⟨c89, 0, 21, [(.tmp 0)]⟩
def K89 : Nat → List Nat × List Nat
  | 0 => ([1, 2], [1])
  | 1 => ([], [1, 2])
  | _ => ([], [])
theorem F89_ok : kj8 Try.prog K89 Try.f89 = some F89 := by kernel_rfl
/- 114: slices.Contains[[]int,int] -/
def c114 : ACode := (.seq (.region [.o 4 (.mv (.const (.bool false)))]) (.seq (.region [.m 5 0, .m 6 1, .o 7 (.q 149 [5, 6]), .o 8 (.c .geq 7 0), .m 4 8]) .ret))
def F114 : AFun := ⟨c114, 2, 9, [(.tmp 4)]⟩
def K114 : Nat → List Nat × List Nat
  | _ => ([], [])
theorem F114_ok : kj8 Try.prog K114 Try.f114 = some F114 := by kernel_rfl
/- 115: (*syndrome/field.Field).Neg -/
def c115L0 : ACode := (.seq (.region [.o 16 (.b .lss 15 14)]) (.seq (.cond (.tmp 16) .skip (.exit 0)) (.seq (.block 1 [0, 1, 5, 6, 14, 15] (.seq (.region [.m 17 5, .m 18 0, .o 19 (.nilck (.tmp 18)), .o 20 (.f 1 19), .o 21 (.l 20), .m 22 1, .m 23 0, .o 24 (.nilck (.tmp 23)), .o 25 (.f 1 24), .o 26 (.l 25), .o 27 (.b .rem 22 26), .o 28 (.b .sub 21 27), .m 29 0, .o 30 (.nilck (.tmp 29)), .o 31 (.f 1 30), .o 32 (.l 31), .o 33 (.b .rem 28 32), .m 34 6, .o 35 (.b .mul 33 34), .o 36 (.b .add 17 35), .m 5 36]) (.region [.m 37 1, .m 38 0, .o 39 (.nilck (.tmp 38)), .o 40 (.f 1 39), .o 41 (.l 40), .o 42 (.b .quo 37 41), .m 43 6, .m 44 0, .o 45 (.nilck (.tmp 44)), .o 46 (.f 1 45), .o 47 (.l 46), .o 48 (.b .mul 43 47), .m 1 42, .m 6 48]))) (.region [.o 49 (.c .add 15 1), .m 15 49]))))
def c115 : ACode := (.seq (.region [.k 4 0]) (.seq (.seq (.region [.m 7 0, .m 8 1, .o 9 (.q 82 [7, 8]), .o 10 (.un .not (.tmp 9))]) (.cond (.tmp 10) (.seq (.region [.k 4 (-1)]) .ret) .skip)) (.seq (.region [.k 5 0, .k 6 1]) (.seq (.seq (.region [.m 11 0, .o 12 (.nilck (.tmp 11)), .o 13 (.f 2 12), .o 14 (.l 13), .k 15 0]) (.block 0 [5] (.loop [0, 1, 5, 6, 14, 15] c115L0))) (.seq (.region [.m 50 5, .m 4 50]) .ret)))))
def F115 : AFun := ⟨c115, 2, 51, [(.tmp 4)]⟩
def K115 : Nat → List Nat × List Nat
  | 0 => ([0, 1, 5, 6, 14, 15], [5])
  | 1 => ([], [0, 1, 5, 6, 14, 15])
  | _ => ([], [])
theorem F115_ok : kj8 Try.prog K115 Try.f115 = some F115 := by kernel_rfl
/- 116: syndrome/matrix.clone -/
def c116L0 : ACode := (.seq (.region [.o 12 (.b .lss 11 10)]) (.seq (.cond (.tmp 12) .skip (.exit 0)) (.seq (.block 1 [3, 9, 10, 11] (.seq (.region [.m 13 11, .o 14 (.i 1 9 11), .o 15 (.l 14), .m 4 13, .m 5 15]) (.region [.m 16 3, .m 17 4, .m 18 5, .o 19 (.q 150 [18]), .o 20 (.i 1 16 17), .n (.st 1 (.tmp 20) (.tmp 19))]))) (.region [.o 21 (.c .add 11 1), .m 11 21]))))
def c116 : ACode := (.seq (.region [.o 2 (.mv (.const (.slice none 0 0)))]) (.seq (.region [.m 6 0, .o 7 (.n 6), .o 8 (.mks 23 1 24 [(.slice none 0 0)] (.tmp 7) (.tmp 7)), .m 3 8]) (.seq (.seq (.region [.m 9 0, .o 10 (.n 9), .k 11 0]) (.block 0 [3] (.loop [3, 9, 10, 11] c116L0))) (.seq (.region [.m 22 3, .m 2 22]) .ret))))
def F116 : AFun := ⟨c116, 1, 23, [(.tmp 2)]⟩
def K116 : Nat → List Nat × List Nat
  | 0 => ([3, 9, 10, 11], [3])
  | 1 => ([], [3, 9, 10, 11])
  | _ => ([], [])
theorem F116_ok : kj8 Try.prog K116 Try.f116 = some F116 := by kernel_rfl
/- 117: slices.IndexFunc[[][]int,[]int] -/
def c117L0 : ACode := (.seq (.region [.o 9 (.b .lss 8 7)]) (.seq (.cond (.tmp 9) .skip (.exit 0)) (.seq (.block 1 [0, 1, 7, 8] (.seq (.region [.m 10 8, .m 5 10]) (.seq (.region [.m 11 1, .m 12 0, .m 13 5, .o 14 (.i 1 12 13), .o 15 (.l 14), .o 16 (.calld (.tmp 11) [(.tmp 15)])]) (.cond (.tmp 16) (.seq (.region [.m 17 5, .m 4 17]) .ret) .skip)))) (.region [.o 18 (.c .add 8 1), .m 8 18]))))
def c117 : ACode := (.seq (.region [.k 4 0]) (.seq (.seq (.region [.m 6 0, .o 7 (.n 6), .k 8 0]) (.block 0 [] (.loop [0, 1, 7, 8] c117L0))) (.seq (.region [.k 4 (-1)]) .ret)))
def F117 : AFun := ⟨c117, 2, 19, [(.tmp 4)]⟩
def K117 : Nat → List Nat × List Nat
  | 0 => ([0, 1, 7, 8], [])
  | 1 => ([], [0, 1, 7, 8])
  | _ => ([], [])
theorem F117_ok : kj8 Try.prog K117 Try.f117 = some F117 := by kernel_rfl
/- 118: syndrome/matrix.Reduce$1 -/
def c118 : ACode := (.seq (.region [.o 3 (.mv (.const (.bool false)))]) (.seq (.region [.m 4 0, .o 5 (.l 1), .o 6 (.i 1 4 5), .o 7 (.l 6), .o 8 (.c .neq 7 0), .m 3 8]) .ret))
def F118 : AFun := ⟨c118, 2, 9, [(.tmp 3)]⟩
def K118 : Nat → List Nat × List Nat
  | _ => ([], [])
theorem F118_ok : kj8 Try.prog K118 Try.f118 = some F118 := by kernel_rfl
/- 119: syndrome/matrix.scale -/
def c119L0 : ACode := (.seq (.region [.o 10 (.b .lss 9 8)]) (.seq (.cond (.tmp 10) .skip (.exit 0)) (.seq (.block 1 [0, 1, 2, 8, 9] (.seq (.region [.m 11 9, .m 6 11]) (.region [.m 12 1, .m 13 6, .m 14 0, .m 15 1, .m 16 6, .o 17 (.i 1 15 16), .o 18 (.l 17), .m 19 2, .o 20 (.q 79 [14, 18, 19]), .o 21 (.i 1 12 13), .n (.st 1 (.tmp 21) (.tmp 20))]))) (.region [.o 22 (.c .add 9 1), .m 9 22]))))
def c119 : ACode := (.seq (.region [.m 7 1, .o 8 (.n 7), .k 9 0]) (.block 0 [] (.loop [0, 1, 2, 8, 9] c119L0)))
def F119 : AFun := ⟨c119, 3, 23, []⟩
def K119 : Nat → List Nat × List Nat
  | 0 => ([0, 1, 2, 8, 9], [])
  | 1 => ([], [0, 1, 2, 8, 9])
  | _ => ([], [])
theorem F119_ok : kj8 Try.prog K119 Try.f119 = some F119 := by kernel_rfl
/- 120: (*syndrome/field.Field).Inv -/
def c120 : ACode := (.seq (.region [.k 4 0]) (.seq (.seq (.region [.m 5 0, .m 6 1, .o 7 (.q 82 [5, 6]), .o 8 (.un .not (.tmp 7)), .m 9 8, .g 10 (.m 1) 9 false, .g 11 (.c .eql 10 0) 9 false, .o 12 (.pick (.tmp 9) (.const (.bool true)) (.tmp 11))]) (.cond (.tmp 12) (.seq (.region [.k 4 (-1)]) .ret) .skip)) (.seq (.region [.m 13 0, .o 14 (.nilck (.tmp 13)), .o 15 (.f 5 14), .o 16 (.l 15), .m 17 0, .o 18 (.nilck (.tmp 17)), .o 19 (.f 0 18), .o 20 (.l 19), .o 21 (.c .sub 20 1), .m 22 0, .o 23 (.nilck (.tmp 22)), .o 24 (.f 6 23), .o 25 (.l 24), .m 26 1, .o 27 (.i 1 25 26), .o 28 (.l 27), .o 29 (.b .sub 21 28), .m 30 0, .o 31 (.nilck (.tmp 30)), .o 32 (.f 0 31), .o 33 (.l 32), .o 34 (.c .sub 33 1), .o 35 (.b .rem 29 34), .o 36 (.i 1 16 35), .o 37 (.l 36), .m 4 37]) .ret)))
def F120 : AFun := ⟨c120, 2, 38, [(.tmp 4)]⟩
def K120 : Nat → List Nat × List Nat
  | _ => ([], [])
theorem F120_ok : kj8 Try.prog K120 Try.f120 = some F120 := by kernel_rfl
/- 121: syndrome/matrix.less -/
def c121L0 : ACode := (.seq (.region [.o 12 (.b .lss 11 10)]) (.seq (.cond (.tmp 12) .skip (.exit 0)) (.seq (.block 1 [0, 1, 2, 3, 10, 11] (.seq (.region [.m 13 11, .m 8 13]) (.region [.m 14 1, .m 15 8, .m 16 0, .m 17 1, .m 18 8, .o 19 (.i 1 17 18), .o 20 (.l 19), .m 21 0, .m 22 3, .m 23 2, .m 24 8, .o 25 (.i 1 23 24), .o 26 (.l 25), ⟨(some 27), (.call 79 [(.tmp 21), (.tmp 22), (.tmp 26)]), none, true⟩, .o 28 (.q 151 [16, 20, 27]), .o 29 (.i 1 14 15), .n (.st 1 (.tmp 29) (.tmp 28))]))) (.region [.o 30 (.c .add 11 1), .m 11 30]))))
def c121 : ACode := (.seq (.region [.m 9 1, .o 10 (.n 9), .k 11 0]) (.block 0 [] (.loop [0, 1, 2, 3, 10, 11] c121L0)))
def F121 : AFun := ⟨c121, 4, 31, []⟩
def K121 : Nat → List Nat × List Nat
  | 0 => ([0, 1, 2, 3, 10, 11], [])
  | 1 => ([], [0, 1, 2, 3, 10, 11])
  | _ => ([], [])
theorem F121_ok : kj8 Try.prog K121 Try.f121 = some F121 := by kernel_rfl
/- 127: syndrome/syndromeref.Number -/
def c127L0 : ACode := (.seq (.seq (.region [.m 10 6, .o 11 (.c .geq 10 0)]) (.cond (.tmp 11) .skip (.exit 0))) (.seq (.block 1 [0, 1, 5, 6] (.region [.m 14 5, .m 15 1, .o 16 (.b .mul 14 15), .m 17 0, .m 18 6, .o 19 (.i 1 17 18), .o 20 (.l 19), .o 21 (.b .add 16 20), .m 5 21])) (.region [.m 12 6, .o 13 (.c .sub 12 1), .m 6 13])))
def c127 : ACode := (.seq (.region [.k 4 0]) (.seq (.region [.k 5 0]) (.seq (.seq (.region [.m 7 0, .o 8 (.n 7), .o 9 (.c .sub 8 1), .m 6 9]) (.block 0 [5] (.loop [0, 1, 5, 6] c127L0))) (.seq (.region [.m 22 5, .m 4 22]) .ret))))
def F127 : AFun := ⟨c127, 2, 23, [(.tmp 4)]⟩
def K127 : Nat → List Nat × List Nat
  | 0 => ([0, 1, 5, 6], [5])
  | 1 => ([], [0, 1, 5, 6])
  | _ => ([], [])
theorem F127_ok : kj8 Try.prog K127 Try.f127 = some F127 := by kernel_rfl
/- 129: syndrome/field.New$1 -/
def c129 : ACode := (.region [.o 2 (.l 0), .o 3 (.l 0), ⟨(some 4), (.call 130 [(.tmp 3)]), none, true⟩, .o 5 (.f 195 1), .o 6 (.iaddrA 65 1 (.tmp 5) (.tmp 2)), .n (.st 1 (.tmp 6) (.tmp 4))])
def F129 : AFun := ⟨c129, 2, 7, []⟩
def K129 : Nat → List Nat × List Nat
  | _ => ([], [])
theorem F129_ok : kj8 Try.prog K129 Try.f129 = some F129 := by kernel_rfl
/- 130: syndrome/field.build -/
def c130L0 : ACode := (.seq (.seq (.region [.m 28 5, .o 29 (.q 155 [28]), .o 30 (.un .not (.tmp 29))]) (.cond (.tmp 30) .skip (.exit 0))) (.seq (.block 1 [5] .skip) (.region [.m 31 5, .o 32 (.nilck (.tmp 31)), .o 33 (.f 4 32), .o 34 (.l 33), .o 35 (.c .add 34 1), .o 36 (.nilck (.tmp 31)), .o 37 (.f 4 36), .n (.st 1 (.tmp 37) (.tmp 35))])))
def c130L1 : ACode := (.seq (.region [.o 45 (.b .lss 44 43)]) (.seq (.cond (.tmp 45) .skip (.exit 2)) (.seq (.block 3 [3, 4, 5, 43, 44] (.seq (.region [.m 46 44, .m 6 46]) (.seq (.region [.m 47 5, .m 48 6, .m 49 3, .m 50 4, .o 51 (.q 156 [48, 49, 50]), .o 52 (.mkSl 3 1 1 [(.const (.int .i64 1))]), .o 53 (.app 3 1 8 (.tmp 51) (.tmp 52)), .o 54 (.nilck (.tmp 47)), .o 55 (.f 3 54), .n (.st 1 (.tmp 55) (.tmp 53))]) (.seq (.region [.m 56 5, .o 57 (.q 155 [56])]) (.cond (.tmp 57) (.seq (.region [.m 58 5, .m 2 58]) .ret) .skip))))) (.region [.o 59 (.c .add 44 1), .m 44 59]))))
def c130 : ACode := (.seq (.region [.o 2 (.mv (.const (.pointer none)))]) (.seq (.region [.m 8 0, .o 9 (.q 154 [8]), .m 7 9, .o 10 (.e 0 7), .o 11 (.e 1 7), .m 3 10, .m 4 11]) (.seq (.seq (.region [.m 12 3, .o 13 (.c .eql 12 0)]) (.cond (.tmp 13) (.seq (.region [.o 2 (.mv (.const (.pointer none)))]) .ret) .skip)) (.seq (.region [.m 14 0, .m 15 3, .m 16 4, .o 17 (.build [(.int .i64 0), (.int .i64 0), (.int .i64 0), (.slice none 0 0), (.int .i64 0), (.slice none 0 0), (.slice none 0 0)] [(0, 1), (1, 1), (2, 1), (3, 1), (4, 1), (5, 1), (6, 1)] [(0, (.tmp 14)), (1, (.tmp 15)), (2, (.tmp 16))]), .o 18 (.box 156 7 (.tmp 17)), .m 5 18]) (.seq (.seq (.region [.m 19 4, .o 20 (.c .eql 19 1)]) (.cond (.tmp 20) (.seq (.region [.m 21 5, .o 22 (.mkSl 3 1 2 [(.const (.int .i64 0)), (.const (.int .i64 1))]), .o 23 (.nilck (.tmp 21)), .o 24 (.f 3 23), .n (.st 1 (.tmp 24) (.tmp 22))]) (.seq (.seq (.region [.m 25 5, .o 26 (.nilck (.tmp 25)), .o 27 (.f 4 26), .n (.st 1 (.tmp 27) (.const (.int .i64 1)))]) (.block 0 [5] (.loop [5] c130L0))) (.seq (.region [.m 38 5, .m 2 38]) .ret))) .skip)) (.seq (.region [.m 39 5, .m 40 3, .o 41 (.nilck (.tmp 39)), .o 42 (.f 4 41), .n (.st 1 (.tmp 42) (.tmp 40))]) (.seq (.seq (.region [.m 43 0, .k 44 0]) (.block 2 [] (.loop [3, 4, 5, 43, 44] c130L1))) (.seq (.region [.o 2 (.mv (.const (.pointer none)))]) .ret))))))))
def F130 : AFun := ⟨c130, 1, 60, [(.tmp 2)]⟩
def K130 : Nat → List Nat × List Nat
  | 0 => ([5], [5])
  | 1 => ([], [5])
  | 2 => ([3, 4, 5, 43, 44], [])
  | 3 => ([], [3, 4, 5, 43, 44])
  | _ => ([], [])
theorem F130_ok : kj8 Try.prog K130 Try.f130 = some F130 := by kernel_rfl
/- 131: slices.IndexFunc[[]int,int] -/
def c131L0 : ACode := (.seq (.region [.o 9 (.b .lss 8 7)]) (.seq (.cond (.tmp 9) .skip (.exit 0)) (.seq (.block 1 [0, 1, 7, 8] (.seq (.region [.m 10 8, .m 5 10]) (.seq (.region [.m 11 1, .m 12 0, .m 13 5, .o 14 (.i 1 12 13), .o 15 (.l 14), .o 16 (.calld (.tmp 11) [(.tmp 15)])]) (.cond (.tmp 16) (.seq (.region [.m 17 5, .m 4 17]) .ret) .skip)))) (.region [.o 18 (.c .add 8 1), .m 8 18]))))
def c131 : ACode := (.seq (.region [.k 4 0]) (.seq (.seq (.region [.m 6 0, .o 7 (.n 6), .k 8 0]) (.block 0 [] (.loop [0, 1, 7, 8] c131L0))) (.seq (.region [.k 4 (-1)]) .ret)))
def F131 : AFun := ⟨c131, 2, 19, [(.tmp 4)]⟩
def K131 : Nat → List Nat × List Nat
  | 0 => ([0, 1, 7, 8], [])
  | 1 => ([], [0, 1, 7, 8])
  | _ => ([], [])
theorem F131_ok : kj8 Try.prog K131 Try.f131 = some F131 := by kernel_rfl
/- 149: slices.Index[[]int,int] -/
def c149L0 : ACode := (.seq (.region [.o 9 (.b .lss 8 7)]) (.seq (.cond (.tmp 9) .skip (.exit 0)) (.seq (.block 1 [0, 1, 7, 8] (.seq (.region [.m 10 8, .m 5 10]) (.seq (.region [.m 11 1, .m 12 0, .m 13 5, .o 14 (.i 1 12 13), .o 15 (.l 14), .o 16 (.b .eql 11 15)]) (.cond (.tmp 16) (.seq (.region [.m 17 5, .m 4 17]) .ret) .skip)))) (.region [.o 18 (.c .add 8 1), .m 8 18]))))
def c149 : ACode := (.seq (.region [.k 4 0]) (.seq (.seq (.region [.m 6 0, .o 7 (.n 6), .k 8 0]) (.block 0 [] (.loop [0, 1, 7, 8] c149L0))) (.seq (.region [.k 4 (-1)]) .ret)))
def F149 : AFun := ⟨c149, 2, 19, [(.tmp 4)]⟩
def K149 : Nat → List Nat × List Nat
  | 0 => ([0, 1, 7, 8], [])
  | 1 => ([], [0, 1, 7, 8])
  | _ => ([], [])
theorem F149_ok : kj8 Try.prog K149 Try.f149 = some F149 := by kernel_rfl
/- 150: slices.Clone[[]int,int] -/
def c150 : ACode := (.seq (.region [.o 2 (.mv (.const (.slice none 0 0)))]) (.seq (.seq (.region [.m 3 0, .o 4 (.eqn false 0 (.tmp 3))]) (.cond (.tmp 4) (.seq (.region [.o 2 (.mv (.const (.slice none 0 0)))]) .ret) .skip)) (.seq (.region [.o 5 (.mkSl 3 1 0 []), .m 6 0, .o 7 (.app 3 1 8 (.tmp 5) (.tmp 6)), .m 2 7]) .ret)))
def F150 : AFun := ⟨c150, 1, 8, [(.tmp 2)]⟩
def K150 : Nat → List Nat × List Nat
  | _ => ([], [])
theorem F150_ok : kj8 Try.prog K150 Try.f150 = some F150 := by kernel_rfl
/- 151: (*syndrome/field.Field).Sub -/
def c151 : ACode := (.seq (.region [.k 6 0]) (.seq (.region [.m 7 0, .m 8 1, .m 9 0, .m 10 2, .o 11 (.q 115 [9, 10]), .o 12 (.q 78 [7, 8, 11]), .m 6 12]) .ret))
def F151 : AFun := ⟨c151, 3, 13, [(.tmp 6)]⟩
def K151 : Nat → List Nat × List Nat
  | _ => ([], [])
theorem F151_ok : kj8 Try.prog K151 Try.f151 = some F151 := by kernel_rfl
/- 154: syndrome/field.prime -/
def c154L0 : ACode := (.seq (.seq (.region [.m 4 0, .m 5 2, .o 6 (.b .rem 4 5), .o 7 (.c .neq 6 0)]) (.cond (.tmp 7) .skip (.exit 0))) (.block 1 [0, 2, 3] (.region [.m 8 2, .o 9 (.c .add 8 1), .m 2 9])))
def c154L1 : ACode := (.seq (.seq (.region [.m 10 0, .m 11 2, .o 12 (.b .rem 10 11), .o 13 (.c .eql 12 0)]) (.cond (.tmp 13) .skip (.exit 2))) (.seq (.block 3 [0, 2, 3] (.region [.m 17 3, .o 18 (.c .add 17 1), .m 3 18])) (.region [.m 14 0, .m 15 2, .o 16 (.b .quo 14 15), .m 0 16])))
def c154 : ACode := (.seq (.region [.k 2 0, .k 3 0]) (.seq (.region [.k 2 2]) (.seq (.block 0 [0, 2, 3] (.loop [0, 2, 3] c154L0)) (.seq (.block 2 [0, 2, 3] (.loop [0, 2, 3] c154L1)) (.seq (.seq (.region [.m 19 0, .o 20 (.c .neq 19 1)]) (.cond (.tmp 20) (.seq (.region [.k 2 0, .k 3 0]) .ret) .skip)) (.seq (.region [.m 21 2, .m 22 3, .m 2 21, .m 3 22]) .ret))))))
def F154 : AFun := ⟨c154, 1, 23, [(.tmp 2), (.tmp 3)]⟩
def K154 : Nat → List Nat × List Nat
  | 0 => ([0, 2, 3], [0, 2, 3])
  | 1 => ([], [0, 2, 3])
  | 2 => ([0, 2, 3], [0, 2, 3])
  | 3 => ([], [0, 2, 3])
  | _ => ([], [])
theorem F154_ok : kj8 Try.prog K154 Try.f154 = some F154 := by kernel_rfl
/- 155: (*syndrome/field.Field).fill -/
def c155L0 : ACode := (.seq (.region [.o 29 (.b .lss 28 27)]) (.seq (.cond (.tmp 29) .skip (.exit 0)) (.seq (.block 1 [0, 27, 28] (.seq (.region [.m 30 28, .m 3 30]) (.region [.m 31 0, .o 32 (.nilck (.tmp 31)), .o 33 (.f 6 32), .o 34 (.l 33), .m 35 3, .o 36 (.i 1 34 35), .n (.st 1 (.tmp 36) (.const (.int .i64 (-1))))]))) (.region [.o 37 (.c .add 28 1), .m 28 37]))))
def c155L1 : ACode := (.seq (.region [.o 44 (.b .lss 43 42)]) (.seq (.cond (.tmp 44) .skip (.exit 2)) (.seq (.block 3 [0, 4, 42, 43] (.seq (.region [.m 45 43, .m 5 45]) (.seq (.seq (.region [.m 46 4, .o 47 (.c .eql 46 0), .m 48 47, .g 49 (.m 0) 48 false, .g 50 (.nilck (.tmp 49)) 48 false, .g 51 (.f 6 50) 48 false, .g 52 (.l 51) 48 false, .g 53 (.m 4) 48 false, .g 54 (.i 1 52 53) 48 false, .g 55 (.l 54) 48 false, .g 56 (.c .geq 55 0) 48 false, .o 57 (.pick (.tmp 48) (.const (.bool true)) (.tmp 56))]) (.cond (.tmp 57) (.seq (.region [.o 2 (.mv (.const (.bool false)))]) .ret) .skip)) (.seq (.region [.m 58 0, .o 59 (.nilck (.tmp 58)), .o 60 (.f 5 59), .o 61 (.l 60), .m 62 5, .m 63 0, .o 64 (.nilck (.tmp 63)), .o 65 (.f 6 64), .o 66 (.l 65), .m 67 4, .m 68 4, .m 69 5, .o 70 (.i 1 61 62), .n (.st 1 (.tmp 70) (.tmp 68)), .o 71 (.i 1 66 67), .n (.st 1 (.tmp 71) (.tmp 69))]) (.region [.m 72 0, .m 73 4, .o 74 (.q 169 [72, 73]), .m 4 74]))))) (.region [.o 75 (.c .add 43 1), .m 43 75]))))
def c155 : ACode := (.seq (.region [.o 2 (.mv (.const (.bool false)))]) (.seq (.region [.m 6 0, .m 7 0, .o 8 (.nilck (.tmp 7)), .o 9 (.f 0 8), .o 10 (.l 9), .o 11 (.c .sub 10 1), .o 12 (.mks 3 1 8 [(.int .i64 0)] (.tmp 11) (.tmp 11)), .o 13 (.nilck (.tmp 6)), .o 14 (.f 5 13), .n (.st 1 (.tmp 14) (.tmp 12))]) (.seq (.region [.m 15 0, .m 16 0, .o 17 (.nilck (.tmp 16)), .o 18 (.f 0 17), .o 19 (.l 18), .o 20 (.mks 3 1 8 [(.int .i64 0)] (.tmp 19) (.tmp 19)), .o 21 (.nilck (.tmp 15)), .o 22 (.f 6 21), .n (.st 1 (.tmp 22) (.tmp 20))]) (.seq (.seq (.region [.m 23 0, .o 24 (.nilck (.tmp 23)), .o 25 (.f 6 24), .o 26 (.l 25), .o 27 (.n 26), .k 28 0]) (.block 0 [0] (.loop [0, 27, 28] c155L0))) (.seq (.region [.k 4 1]) (.seq (.seq (.region [.m 38 0, .o 39 (.nilck (.tmp 38)), .o 40 (.f 0 39), .o 41 (.l 40), .o 42 (.c .sub 41 1), .k 43 0]) (.block 2 [4] (.loop [0, 4, 42, 43] c155L1))) (.seq (.region [.m 76 4, .o 77 (.c .eql 76 1), .m 2 77]) .ret)))))))
def F155 : AFun := ⟨c155, 1, 78, [(.tmp 2)]⟩
def K155 : Nat → List Nat × List Nat
  | 0 => ([0, 27, 28], [0])
  | 1 => ([], [0, 27, 28])
  | 2 => ([0, 4, 42, 43], [4])
  | 3 => ([], [0, 4, 42, 43])
  | _ => ([], [])
theorem F155_ok : kj8 Try.prog K155 Try.f155 = some F155 := by kernel_rfl
/- 156: syndrome/field.digits -/
def c156L0 : ACode := (.seq (.region [.o 14 (.b .lss 13 12)]) (.seq (.cond (.tmp 14) .skip (.exit 0)) (.seq (.block 1 [0, 1, 7, 12, 13] (.seq (.region [.m 15 13, .m 8 15]) (.seq (.region [.m 16 7, .m 17 8, .m 18 0, .m 19 1, .o 20 (.b .rem 18 19), .o 21 (.i 1 16 17), .n (.st 1 (.tmp 21) (.tmp 20))]) (.region [.m 22 0, .m 23 1, .o 24 (.b .quo 22 23), .m 0 24])))) (.region [.o 25 (.c .add 13 1), .m 13 25]))))
def c156 : ACode := (.seq (.region [.o 6 (.mv (.const (.slice none 0 0)))]) (.seq (.region [.m 9 2, .o 10 (.mks 3 1 8 [(.int .i64 0)] (.tmp 9) (.tmp 9)), .m 7 10]) (.seq (.seq (.region [.m 11 7, .o 12 (.n 11), .k 13 0]) (.block 0 [7] (.loop [0, 1, 7, 12, 13] c156L0))) (.seq (.region [.m 26 7, .m 6 26]) .ret))))
def F156 : AFun := ⟨c156, 3, 27, [(.tmp 6)]⟩
def K156 : Nat → List Nat × List Nat
  | 0 => ([0, 1, 7, 12, 13], [7])
  | 1 => ([], [0, 1, 7, 12, 13])
  | _ => ([], [])
theorem F156_ok : kj8 Try.prog K156 Try.f156 = some F156 := by kernel_rfl
/- 169: (*syndrome/field.Field).turn -/
def c169L0 : ACode := (.seq (.region [.o 57 (.b .lss 56 55)]) (.seq (.cond (.tmp 57) .skip (.exit 0)) (.seq (.block 1 [0, 5, 6, 55, 56] (.seq (.region [.m 58 56, .m 7 58]) (.region [.m 59 5, .m 60 7, .m 61 5, .m 62 7, .o 63 (.i 1 61 62), .o 64 (.l 63), .m 65 6, .m 66 0, .o 67 (.nilck (.tmp 66)), .o 68 (.f 1 67), .o 69 (.l 68), .m 70 0, .o 71 (.nilck (.tmp 70)), .o 72 (.f 3 71), .o 73 (.l 72), .m 74 7, .o 75 (.i 1 73 74), .o 76 (.l 75), .o 77 (.b .sub 69 76), .o 78 (.b .mul 65 77), .o 79 (.b .add 64 78), .m 80 0, .o 81 (.nilck (.tmp 80)), .o 82 (.f 1 81), .o 83 (.l 82), .o 84 (.b .rem 79 83), .o 85 (.i 1 59 60), .n (.st 1 (.tmp 85) (.tmp 84))]))) (.region [.o 86 (.c .add 56 1), .m 56 86]))))
def c169 : ACode := (.seq (.region [.k 4 0]) (.seq (.seq (.region [.m 8 0, .o 9 (.nilck (.tmp 8)), .o 10 (.f 2 9), .o 11 (.l 10), .o 12 (.c .eql 11 1)]) (.cond (.tmp 12) (.seq (.region [.m 13 1, .m 14 0, .o 15 (.nilck (.tmp 14)), .o 16 (.f 4 15), .o 17 (.l 16), .o 18 (.b .mul 13 17), .m 19 0, .o 20 (.nilck (.tmp 19)), .o 21 (.f 1 20), .o 22 (.l 21), .o 23 (.b .rem 18 22), .m 4 23]) .ret) .skip)) (.seq (.region [.m 24 1, .m 25 0, .o 26 (.nilck (.tmp 25)), .o 27 (.f 1 26), .o 28 (.l 27), .m 29 0, .o 30 (.nilck (.tmp 29)), .o 31 (.f 2 30), .o 32 (.l 31), .o 33 (.q 156 [24, 28, 32]), .m 5 33]) (.seq (.region [.m 34 5, .m 35 0, .o 36 (.nilck (.tmp 35)), .o 37 (.f 2 36), .o 38 (.l 37), .o 39 (.c .sub 38 1), .o 40 (.i 1 34 39), .o 41 (.l 40), .m 6 41]) (.seq (.region [.m 42 5, .o 43 (.sl 1 (.tmp 42) (some (.const (.int .i64 1))) none), .m 44 5, .m 45 0, .o 46 (.nilck (.tmp 45)), .o 47 (.f 2 46), .o 48 (.l 47), .o 49 (.c .sub 48 1), .o 50 (.sl 1 (.tmp 44) none (some (.tmp 49))), .o 51 (.cpy 1 (.tmp 43) (.tmp 50))]) (.seq (.region [.m 52 5, .o 53 (.iaddr 1 (.tmp 52) (.const (.int .i64 0))), .n (.st 1 (.tmp 53) (.const (.int .i64 0)))]) (.seq (.seq (.region [.m 54 5, .o 55 (.n 54), .k 56 0]) (.block 0 [0, 5] (.loop [0, 5, 6, 55, 56] c169L0))) (.seq (.region [.m 87 5, .m 88 0, .o 89 (.nilck (.tmp 88)), .o 90 (.f 1 89), .o 91 (.l 90), .o 92 (.q 177 [87, 91]), .m 4 92]) .ret))))))))
def F169 : AFun := ⟨c169, 2, 93, [(.tmp 4)]⟩
def K169 : Nat → List Nat × List Nat
  | 0 => ([0, 5, 6, 55, 56], [0, 5])
  | 1 => ([], [0, 5, 6, 55, 56])
  | _ => ([], [])
theorem F169_ok : kj8 Try.prog K169 Try.f169 = some F169 := by kernel_rfl
/- 177: syndrome/field.number -/
def c177L0 : ACode := (.seq (.seq (.region [.m 10 6, .o 11 (.c .geq 10 0)]) (.cond (.tmp 11) .skip (.exit 0))) (.seq (.block 1 [0, 1, 5, 6] (.region [.m 14 5, .m 15 1, .o 16 (.b .mul 14 15), .m 17 0, .m 18 6, .o 19 (.i 1 17 18), .o 20 (.l 19), .o 21 (.b .add 16 20), .m 5 21])) (.region [.m 12 6, .o 13 (.c .sub 12 1), .m 6 13])))
def c177 : ACode := (.seq (.region [.k 4 0]) (.seq (.region [.k 5 0]) (.seq (.seq (.region [.m 7 0, .o 8 (.n 7), .o 9 (.c .sub 8 1), .m 6 9]) (.block 0 [5] (.loop [0, 1, 5, 6] c177L0))) (.seq (.region [.m 22 5, .m 4 22]) .ret))))
def F177 : AFun := ⟨c177, 2, 23, [(.tmp 4)]⟩
def K177 : Nat → List Nat × List Nat
  | 0 => ([0, 1, 5, 6], [5])
  | 1 => ([], [0, 1, 5, 6])
  | _ => ([], [])
theorem F177_ok : kj8 Try.prog K177 Try.f177 = some F177 := by kernel_rfl
end Go.Proofs.Ytjpejkakodbchaa
