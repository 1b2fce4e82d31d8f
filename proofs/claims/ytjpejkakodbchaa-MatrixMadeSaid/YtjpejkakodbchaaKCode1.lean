/-
  Functions of this seat as the small machine's code, written by a program of my own (gen.py); each is checked to be what the model's function is turned into. No condition.
-/
import Derived.Test.YtjpejkakodbchaaK1
import Derived.Test.YtjpejkakodbchaaProg
set_option linter.unusedVariables false
set_option linter.unusedSimpArgs false
set_option linter.unusedSectionVars false
set_option maxRecDepth 100000
namespace Go.Proofs.Ytjpejkakodbchaa
open Go.Am
/- 85: (syndrome/syndromeref.F).Null -/
def c85L0 : ACode := (.seq (.seq (.region [.m 32 12, .m 33 7, .o 34 (.n 33), .o 35 (.b .lss 32 34)]) (.cond (.tmp 35) .skip (.exit 2))) (.seq (.block 3 [2, 3, 7, 8, 9, 10, 11, 12] (.region [.m 38 11, .m 39 8, .m 40 12, .o 41 (.i 1 39 40), .o 42 (.l 41), .o 43 (.ld true 5 (.tmp 3)), .m 44 7, .m 45 12, .o 46 (.i 1 44 45), .o 47 (.l 46), .m 48 10, .o 49 (.i 1 47 48), .o 50 (.l 49), ⟨(some 51), (.call 136 [(.tmp 43), (.tmp 50)]), none, true⟩, .o 52 (.i 1 38 42), .n (.st 1 (.tmp 52) (.tmp 51))])) (.region [.m 36 12, .o 37 (.c .add 36 1), .m 12 37])))
def c85L1 : ACode := (.seq (.seq (.region [.m 19 10, .m 20 2, .o 21 (.b .lss 19 20)]) (.cond (.tmp 21) .skip (.exit 0))) (.seq (.block 1 [2, 3, 7, 8, 9, 10] (.seq (.seq (.region [.m 24 10, .m 25 8, .o 26 (.q 135 [24, 25])]) (.cond (.tmp 26) (.exit 1) .skip)) (.seq (.region [.m 27 2, .o 28 (.mks 3 1 8 [(.int .i64 0)] (.tmp 27) (.tmp 27)), .m 11 28]) (.seq (.region [.m 29 11, .m 30 10, .o 31 (.i 1 29 30), .n (.st 1 (.tmp 31) (.const (.int .i64 1)))]) (.seq (.seq (.region [.k 12 0]) (.block 2 [2, 3, 7, 8, 9, 10, 11] (.loop [2, 3, 7, 8, 9, 10, 11, 12] c85L0))) (.region [.m 53 9, .m 54 11, .o 55 (.mkSl 23 1 1 [(.tmp 54)]), .o 56 (.app 23 1 24 (.tmp 53) (.tmp 55)), .m 9 56])))))) (.region [.m 22 10, .o 23 (.c .add 22 1), .m 10 23])))
def c85 : ACode := (.seq (.region [.o 3 (.box 28 5 (.tmp 0)), .o 6 (.mv (.const (.slice none 0 0)))]) (.seq (.region [.o 14 (.ld true 5 (.tmp 3)), .m 15 1, .o 16 (.q 84 [14, 15]), .m 13 16, .o 17 (.e 0 13), .o 18 (.e 1 13), .m 7 17, .m 8 18]) (.seq (.region [.o 9 (.mv (.const (.slice none 0 0)))]) (.seq (.seq (.region [.k 10 0]) (.block 0 [3, 9] (.loop [2, 3, 7, 8, 9, 10] c85L1))) (.seq (.region [.o 58 (.ld true 5 (.tmp 3)), .m 59 9, .o 60 (.q 84 [58, 59]), .m 57 60, .o 61 (.e 0 57), .o 62 (.e 1 57), .m 9 61]) (.seq (.region [.m 63 9, .m 6 63]) .ret))))))
def F85 : AFun := ⟨c85, 3, 64, [(.tmp 6)]⟩
def K85 : Nat → List Nat × List Nat
 | 0 => ([2, 3, 7, 8, 9, 10], [3, 9])
 | 1 => ([], [2, 3, 7, 8, 9, 10])
 | 2 => ([2, 3, 7, 8, 9, 10, 11, 12], [2, 3, 7, 8, 9, 10, 11])
 | 3 => ([], [2, 3, 7, 8, 9, 10, 11, 12])
 | _ => ([], [])
theorem F85_ok : kj8 Try.prog K85 Try.f85 = some F85 := by kernel_rfl
/- 86: (syndrome/syndromeref.F).Solve -/
def c86L0 : ACode := (.seq (.seq (.region [.m 19 10, .m 20 1, .o 21 (.n 20), .o 22 (.b .lss 19 21)]) (.cond (.tmp 22) .skip (.exit 0))) (.seq (.block 1 [1, 2, 3, 8, 9, 10] (.region [.m 25 9, .m 26 1, .m 27 10, .o 28 (.i 1 26 27), .o 29 (.l 28), ⟨(some 30), (.call 132 [(.tmp 29)]), none, true⟩, .m 31 2, .m 32 10, .o 33 (.i 1 31 32), ⟨(some 34), (.ld false 1 (.tmp 33)), none, true⟩, .o 35 (.mkSl 3 1 1 [(.tmp 34)]), .o 36 (.app 3 1 8 (.tmp 30) (.tmp 35)), .o 37 (.mkSl 23 1 1 [(.tmp 36)]), .o 38 (.app 23 1 24 (.tmp 25) (.tmp 37)), .m 9 38])) (.region [.m 23 10, .o 24 (.c .add 23 1), .m 10 24])))
def c86L1 : ACode := (.seq (.seq (.region [.m 47 14, .m 48 11, .o 49 (.n 48), .o 50 (.b .lss 47 49)]) (.cond (.tmp 50) .skip (.exit 2))) (.seq (.block 3 [8, 11, 12, 13, 14] (.seq (.seq (.region [.m 53 12, .m 54 14, .o 55 (.i 1 53 54), .o 56 (.l 55), .m 57 8, .o 58 (.b .eql 56 57)]) (.cond (.tmp 58) (.seq (.region [.o 6 (.mv (.const (.slice none 0 0))), .o 7 (.mv (.const (.bool false)))]) .ret) .skip)) (.region [.m 59 13, .m 60 12, .m 61 14, .o 62 (.i 1 60 61), .o 63 (.l 62), .m 64 11, .m 65 14, .o 66 (.i 1 64 65), .o 67 (.l 66), .m 68 8, .o 69 (.i 1 67 68), .o 70 (.l 69), .o 71 (.i 1 59 63), .n (.st 1 (.tmp 71) (.tmp 70))]))) (.region [.m 51 14, .o 52 (.c .add 51 1), .m 14 52])))
def c86 : ACode := (.seq (.region [.o 3 (.box 28 5 (.tmp 0)), .o 6 (.mv (.const (.slice none 0 0))), .o 7 (.mv (.const (.bool false)))]) (.seq (.region [.m 15 1, .o 16 (.iaddr 1 (.tmp 15) (.const (.int .i64 0))), .o 17 (.l 16), .o 18 (.n 17), .m 8 18]) (.seq (.region [.o 9 (.mv (.const (.slice none 0 0)))]) (.seq (.seq (.region [.k 10 0]) (.block 0 [3, 8, 9] (.loop [1, 2, 3, 8, 9, 10] c86L0))) (.seq (.region [.o 40 (.ld true 5 (.tmp 3)), .m 41 9, .o 42 (.q 84 [40, 41]), .m 39 42, .o 43 (.e 0 39), .o 44 (.e 1 39), .m 11 43, .m 12 44]) (.seq (.region [.m 45 8, .o 46 (.mks 3 1 8 [(.int .i64 0)] (.tmp 45) (.tmp 45)), .m 13 46]) (.seq (.seq (.region [.k 14 0]) (.block 2 [13] (.loop [8, 11, 12, 13, 14] c86L1))) (.seq (.region [.m 72 13, .m 6 72, .o 7 (.mv (.const (.bool true)))]) .ret))))))))
def F86 : AFun := ⟨c86, 3, 73, [(.tmp 6), (.tmp 7)]⟩
def K86 : Nat → List Nat × List Nat
 | 0 => ([1, 2, 3, 8, 9, 10], [3, 8, 9])
 | 1 => ([], [1, 2, 3, 8, 9, 10])
 | 2 => ([8, 11, 12, 13, 14], [13])
 | 3 => ([], [8, 11, 12, 13, 14])
 | _ => ([], [])
theorem F86_ok : kj8 Try.prog K86 Try.f86 = some F86 := by kernel_rfl
/- 87: syndrome/matrix.Solve -/
def c87 : ACode := (.seq (.region [.o 6 (.mv (.const (.slice none 0 0))), .o 7 (.mv (.const (.bool false))), .k 8 0]) (.seq (.region [.m 14 0, .m 15 1, .o 16 (.q 19 [14, 15]), .m 9 16]) (.seq (.seq (.region [.m 17 9, .o 18 (.c .neq 17 0)]) (.cond (.tmp 18) (.seq (.region [.m 19 9, .o 6 (.mv (.const (.slice none 0 0))), .o 7 (.mv (.const (.bool false))), .m 8 19]) .ret) .skip)) (.seq (.seq (.region [.m 20 2, .o 21 (.n 20), .m 22 1, .o 23 (.n 22), .o 24 (.b .neq 21 23)]) (.cond (.tmp 24) (.seq (.region [.o 6 (.mv (.const (.slice none 0 0))), .o 7 (.mv (.const (.bool false))), .k 8 6]) .ret) .skip)) (.seq (.region [.m 26 0, .o 27 (.q 77 [26]), .m 25 27, .o 28 (.e 0 25), .o 29 (.e 1 25), .o 10 (.alloc 107 [(.pointer none)]), .n (.st 1 (.tmp 10) (.tmp 28)), .m 11 29]) (.seq (.seq (.region [.m 30 2, .o 31 (.mkf 137 [(.tmp 10)]), .o 32 (.q 80 [30, 31])]) (.cond (.tmp 32) (.seq (.region [.o 6 (.mv (.const (.slice none 0 0))), .o 7 (.mv (.const (.bool false))), .k 8 2]) .ret) .skip)) (.seq (.seq (.region [.m 33 1, .o 34 (.n 33), .o 35 (.c .eql 34 0)]) (.cond (.tmp 35) (.seq (.region [.o 6 (.mv (.const (.slice none 0 0))), .o 7 (.mv (.const (.bool true))), .k 8 0]) .ret) .skip)) (.seq (.region [.m 37 0, .m 38 1, .m 39 2, .o 40 (.q 138 [37, 38, 39]), .m 36 40, .o 41 (.e 0 36), .o 42 (.e 1 36), .m 12 41, .m 13 42]) (.seq (.region [.m 43 12, .m 44 13, .m 6 43, .m 7 44, .k 8 0]) .ret)))))))))
def F87 : AFun := ⟨c87, 3, 45, [(.tmp 6), (.tmp 7), (.tmp 8)]⟩
def K87 : Nat → List Nat × List Nat
 | _ => ([], [])
theorem F87_ok : kj8 Try.prog K87 Try.f87 = some F87 := by kernel_rfl
/- 88: syndrome/syndromelaw.inverse -/
def c88L0 : ACode := (.seq (.seq (.region [.m 95 15, .m 96 13, .o 97 (.n 96), .o 98 (.b .lss 95 97)]) (.cond (.tmp 98) .skip (.exit 2))) (.seq (.block 3 [13, 14, 15] (.seq (.region [.m 101 13, .m 102 14, .o 103 (.i 1 101 102), .o 104 (.l 103), .m 105 15, .o 106 (.i 1 104 105), .o 107 (.l 106), .o 108 (.c .eql 107 1), .m 109 14, .m 110 15, .o 111 (.b .eql 109 110), .o 112 (.eqb true (.tmp 108) (.tmp 111)), .m 113 112, .g 114 (.m 13) 113 false, .g 115 (.m 14) 113 false, .g 116 (.i 1 114 115) 113 false, .g 117 (.l 116) 113 false, .g 118 (.m 15) 113 false, .g 119 (.i 1 117 118) 113 false, .g 120 (.l 119) 113 false, .g 121 (.c .gtr 120 1) 113 false, .o 122 (.pick (.tmp 113) (.const (.bool true)) (.tmp 121))]) (.cond (.tmp 122) (.seq (.region [.o 10 (.mv (.const (.bool false)))]) .ret) .skip))) (.region [.m 99 15, .o 100 (.c .add 99 1), .m 15 100])))
def c88L1 : ACode := (.seq (.seq (.region [.m 89 14, .m 90 13, .o 91 (.n 90), .o 92 (.b .lss 89 91)]) (.cond (.tmp 92) .skip (.exit 0))) (.seq (.block 1 [13, 14] (.seq (.region [.k 15 0]) (.block 2 [13, 14] (.loop [13, 14, 15] c88L0)))) (.region [.m 93 14, .o 94 (.c .add 93 1), .m 14 94])))
def c88 : ACode := (.seq (.region [.o 6 (.box 28 5 (.tmp 1)), .o 10 (.mv (.const (.bool false)))]) (.seq (.seq (.region [.m 16 4, .o 17 (.c .eql 16 0), .m 18 17, .g 19 (.m 2) 18 true, .g 20 (.n 19) 18 true, .g 21 (.c .gtr 20 0) 18 true, .o 22 (.pick (.tmp 18) (.tmp 21) (.const (.bool false))), .m 23 22, .g 24 (.m 2) 23 true, .g 25 (.n 24) 23 true, .g 26 (.m 2) 23 true, .g 27 (.iaddr 1 (.tmp 26) (.const (.int .i64 0))) 23 true, .g 28 (.l 27) 23 true, .g 29 (.n 28) 23 true, .g 30 (.b .neq 25 29) 23 true, .o 31 (.pick (.tmp 23) (.tmp 30) (.const (.bool false)))]) (.cond (.tmp 31) (.region [.k 4 3]) .skip)) (.seq (.seq (.region [.m 32 4, .o 33 (.c .eql 32 0), .m 34 33, .g 35 (.m 3) 34 true, .g 36 (.m 2) 34 true, .g 37 (.n 36) 34 true, .g 38 (.b .lss 35 37) 34 true, .o 39 (.pick (.tmp 34) (.tmp 38) (.const (.bool false)))]) (.cond (.tmp 39) (.region [.k 4 8]) .skip)) (.seq (.region [.m 41 0, .m 42 2, .o 43 (.q 139 [41, 42]), .m 40 43, .o 44 (.e 0 40), .o 45 (.e 1 40), .m 11 44, .m 12 45]) (.seq (.seq (.region [.m 46 4, .o 47 (.c .neq 46 0), .m 48 47, .g 49 (.m 2) 48 false, .g 50 (.n 49) 48 false, .g 51 (.c .eql 50 0) 48 false, .o 52 (.pick (.tmp 48) (.const (.bool true)) (.tmp 51))]) (.cond (.tmp 52) (.seq (.region [.m 53 12, .m 54 4, .o 55 (.b .eql 53 54), .m 56 55, .g 57 (.m 11) 56 true, .g 58 (.n 57) 56 true, .g 59 (.c .eql 58 0) 56 true, .o 60 (.pick (.tmp 56) (.tmp 59) (.const (.bool false))), .m 10 60]) .ret) .skip)) (.seq (.seq (.region [.m 61 12, .o 62 (.c .neq 61 0), .m 63 62, .g 64 (.m 11) 63 false, .g 65 (.n 64) 63 false, .g 66 (.m 2) 63 false, .g 67 (.n 66) 63 false, .g 68 (.b .neq 65 67) 63 false, .o 69 (.pick (.tmp 63) (.const (.bool true)) (.tmp 68)), .m 70 69, .g 71 (.m 0) 70 false, .g 72 (.m 11) 70 false, .g 73 (.q 15 [71, 72]) 70 false, .g 74 (.c .neq 73 0) 70 false, .o 75 (.pick (.tmp 70) (.const (.bool true)) (.tmp 74)), .m 76 75, .g 77 (.m 11) 76 false, .g 78 (.iaddr 1 (.tmp 77) (.const (.int .i64 0))) 76 false, .g 79 (.l 78) 76 false, .g 80 (.n 79) 76 false, .g 81 (.m 2) 76 false, .g 82 (.n 81) 76 false, .g 83 (.b .neq 80 82) 76 false, .o 84 (.pick (.tmp 76) (.const (.bool true)) (.tmp 83))]) (.cond (.tmp 84) (.seq (.region [.o 10 (.mv (.const (.bool false)))]) .ret) .skip)) (.seq (.region [.o 85 (.ld true 5 (.tmp 6)), .m 86 2, .m 87 11, .o 88 (.q 17 [85, 86, 87]), .m 13 88]) (.seq (.seq (.region [.k 14 0]) (.block 0 [] (.loop [13, 14] c88L1))) (.seq (.region [.o 10 (.mv (.const (.bool true)))]) .ret)))))))))
def F88 : AFun := ⟨c88, 5, 123, [(.tmp 10)]⟩
def K88 : Nat → List Nat × List Nat
 | 0 => ([13, 14], [])
 | 1 => ([], [13, 14])
 | 2 => ([13, 14, 15], [13, 14])
 | 3 => ([], [13, 14, 15])
 | _ => ([], [])
theorem F88_ok : kj8 Try.prog K88 Try.f88 = some F88 := by kernel_rfl
/- 89: syndrome/syndromeref.Sizes -/
def c89L0 : ACode := (.seq (.seq (.region [.m 5 2, .o 6 (.c .leq 5 64)]) (.cond (.tmp 6) .skip (.exit 0))) (.seq (.block 1 [1, 2] (.seq (.region [.m 10 2, .o 11 (.q 72 [10]), .m 9 11, .o 12 (.e 0 9), .o 13 (.e 1 9), .m 3 12, .m 4 13]) (.seq (.region [.m 14 3, .o 15 (.c .gtr 14 0)]) (.cond (.tmp 15) (.region [.m 16 1, .m 17 2, .o 18 (.mkSl 3 1 1 [(.tmp 17)]), .o 19 (.app 3 1 8 (.tmp 16) (.tmp 18)), .m 1 19]) .skip)))) (.region [.m 7 2, .o 8 (.c .add 7 1), .m 2 8])))
def c89 : ACode := (.seq (.region [.o 0 (.mv (.const (.slice none 0 0)))]) (.seq (.region [.o 1 (.mv (.const (.slice none 0 0)))]) (.seq (.seq (.region [.k 2 2]) (.block 0 [1] (.loop [1, 2] c89L0))) (.seq (.region [.m 20 1, .m 0 20]) .ret))))
def F89 : AFun := ⟨c89, 0, 21, [(.tmp 0)]⟩
def K89 : Nat → List Nat × List Nat
 | 0 => ([1, 2], [1])
 | 1 => ([], [1, 2])
 | _ => ([], [])
theorem F89_ok : kj8 Try.prog K89 Try.f89 = some F89 := by kernel_rfl
/- 114: slices.Contains[[]int,int] -/
def c114 : ACode := (.seq (.region [.o 4 (.mv (.const (.bool false)))]) (.seq (.region [.m 5 0, .m 6 1, .o 7 (.q 149 [5, 6]), .o 8 (.c .geq 7 0), .m 4 8]) .ret))
def F114 : AFun := ⟨c114, 2, 9, [(.tmp 4)]⟩
def K114 : Nat → List Nat × List Nat
 | _ => ([], [])
theorem F114_ok : kj8 Try.prog K114 Try.f114 = some F114 := by kernel_rfl
/- 115: (*syndrome/field.Field).Neg -/
def c115L0 : ACode := (.seq (.region [.o 16 (.b .lss 15 14)]) (.seq (.cond (.tmp 16) .skip (.exit 0)) (.seq (.block 1 [0, 1, 5, 6, 14, 15] (.seq (.region [.m 17 5, .m 18 0, .o 19 (.nilck (.tmp 18)), .o 20 (.f 1 19), .o 21 (.l 20), .m 22 1, .m 23 0, .o 24 (.nilck (.tmp 23)), .o 25 (.f 1 24), .o 26 (.l 25), .o 27 (.b .rem 22 26), .o 28 (.b .sub 21 27), .m 29 0, .o 30 (.nilck (.tmp 29)), .o 31 (.f 1 30), .o 32 (.l 31), .o 33 (.b .rem 28 32), .m 34 6, .o 35 (.b .mul 33 34), .o 36 (.b .add 17 35), .m 5 36]) (.region [.m 37 1, .m 38 0, .o 39 (.nilck (.tmp 38)), .o 40 (.f 1 39), .o 41 (.l 40), .o 42 (.b .quo 37 41), .m 43 6, .m 44 0, .o 45 (.nilck (.tmp 44)), .o 46 (.f 1 45), .o 47 (.l 46), .o 48 (.b .mul 43 47), .m 1 42, .m 6 48]))) (.region [.o 49 (.c .add 15 1), .m 15 49]))))
def c115 : ACode := (.seq (.region [.k 4 0]) (.seq (.seq (.region [.m 7 0, .m 8 1, .o 9 (.q 82 [7, 8]), .o 10 (.un .not (.tmp 9))]) (.cond (.tmp 10) (.seq (.region [.k 4 (-1)]) .ret) .skip)) (.seq (.region [.k 5 0, .k 6 1]) (.seq (.seq (.region [.m 11 0, .o 12 (.nilck (.tmp 11)), .o 13 (.f 2 12), .o 14 (.l 13), .k 15 0]) (.block 0 [5] (.loop [0, 1, 5, 6, 14, 15] c115L0))) (.seq (.region [.m 50 5, .m 4 50]) .ret)))))
def F115 : AFun := ⟨c115, 2, 51, [(.tmp 4)]⟩
def K115 : Nat → List Nat × List Nat
 | 0 => ([0, 1, 5, 6, 14, 15], [5])
 | 1 => ([], [0, 1, 5, 6, 14, 15])
 | _ => ([], [])
theorem F115_ok : kj8 Try.prog K115 Try.f115 = some F115 := by kernel_rfl
/- 116: syndrome/matrix.clone -/
def c116L0 : ACode := (.seq (.region [.o 12 (.b .lss 11 10)]) (.seq (.cond (.tmp 12) .skip (.exit 0)) (.seq (.block 1 [3, 9, 10, 11] (.seq (.region [.m 13 11, .o 14 (.i 1 9 11), .o 15 (.l 14), .m 4 13, .m 5 15]) (.region [.m 16 3, .m 17 4, .m 18 5, .o 19 (.q 150 [18]), .o 20 (.i 1 16 17), .n (.st 1 (.tmp 20) (.tmp 19))]))) (.region [.o 21 (.c .add 11 1), .m 11 21]))))
def c116 : ACode := (.seq (.region [.o 2 (.mv (.const (.slice none 0 0)))]) (.seq (.region [.m 6 0, .o 7 (.n 6), .o 8 (.mks 23 1 24 [(.slice none 0 0)] (.tmp 7) (.tmp 7)), .m 3 8]) (.seq (.seq (.region [.m 9 0, .o 10 (.n 9), .k 11 0]) (.block 0 [3] (.loop [3, 9, 10, 11] c116L0))) (.seq (.region [.m 22 3, .m 2 22]) .ret))))
def F116 : AFun := ⟨c116, 1, 23, [(.tmp 2)]⟩
def K116 : Nat → List Nat × List Nat
 | 0 => ([3, 9, 10, 11], [3])
 | 1 => ([], [3, 9, 10, 11])
 | _ => ([], [])
theorem F116_ok : kj8 Try.prog K116 Try.f116 = some F116 := by kernel_rfl
/- 117: slices.IndexFunc[[][]int,[]int] -/
def c117L0 : ACode := (.seq (.region [.o 9 (.b .lss 8 7)]) (.seq (.cond (.tmp 9) .skip (.exit 0)) (.seq (.block 1 [0, 1, 7, 8] (.seq (.region [.m 10 8, .m 5 10]) (.seq (.region [.m 11 1, .m 12 0, .m 13 5, .o 14 (.i 1 12 13), .o 15 (.l 14), .o 16 (.calld (.tmp 11) [(.tmp 15)])]) (.cond (.tmp 16) (.seq (.region [.m 17 5, .m 4 17]) .ret) .skip)))) (.region [.o 18 (.c .add 8 1), .m 8 18]))))
def c117 : ACode := (.seq (.region [.k 4 0]) (.seq (.seq (.region [.m 6 0, .o 7 (.n 6), .k 8 0]) (.block 0 [] (.loop [0, 1, 7, 8] c117L0))) (.seq (.region [.k 4 (-1)]) .ret)))
def F117 : AFun := ⟨c117, 2, 19, [(.tmp 4)]⟩
def K117 : Nat → List Nat × List Nat
 | 0 => ([0, 1, 7, 8], [])
 | 1 => ([], [0, 1, 7, 8])
 | _ => ([], [])
theorem F117_ok : kj8 Try.prog K117 Try.f117 = some F117 := by kernel_rfl
/- 118: syndrome/matrix.Reduce$1 -/
def c118 : ACode := (.seq (.region [.o 3 (.mv (.const (.bool false)))]) (.seq (.region [.m 4 0, .o 5 (.l 1), .o 6 (.i 1 4 5), .o 7 (.l 6), .o 8 (.c .neq 7 0), .m 3 8]) .ret))
def F118 : AFun := ⟨c118, 2, 9, [(.tmp 3)]⟩
def K118 : Nat → List Nat × List Nat
 | _ => ([], [])
theorem F118_ok : kj8 Try.prog K118 Try.f118 = some F118 := by kernel_rfl
/- 119: syndrome/matrix.scale -/
def c119L0 : ACode := (.seq (.region [.o 10 (.b .lss 9 8)]) (.seq (.cond (.tmp 10) .skip (.exit 0)) (.seq (.block 1 [0, 1, 2, 8, 9] (.seq (.region [.m 11 9, .m 6 11]) (.region [.m 12 1, .m 13 6, .m 14 0, .m 15 1, .m 16 6, .o 17 (.i 1 15 16), .o 18 (.l 17), .m 19 2, .o 20 (.q 79 [14, 18, 19]), .o 21 (.i 1 12 13), .n (.st 1 (.tmp 21) (.tmp 20))]))) (.region [.o 22 (.c .add 9 1), .m 9 22]))))
def c119 : ACode := (.seq (.region [.m 7 1, .o 8 (.n 7), .k 9 0]) (.block 0 [] (.loop [0, 1, 2, 8, 9] c119L0)))
def F119 : AFun := ⟨c119, 3, 23, []⟩
def K119 : Nat → List Nat × List Nat
 | 0 => ([0, 1, 2, 8, 9], [])
 | 1 => ([], [0, 1, 2, 8, 9])
 | _ => ([], [])
theorem F119_ok : kj8 Try.prog K119 Try.f119 = some F119 := by kernel_rfl
/- 120: (*syndrome/field.Field).Inv -/
def c120 : ACode := (.seq (.region [.k 4 0]) (.seq (.seq (.region [.m 5 0, .m 6 1, .o 7 (.q 82 [5, 6]), .o 8 (.un .not (.tmp 7)), .m 9 8, .g 10 (.m 1) 9 false, .g 11 (.c .eql 10 0) 9 false, .o 12 (.pick (.tmp 9) (.const (.bool true)) (.tmp 11))]) (.cond (.tmp 12) (.seq (.region [.k 4 (-1)]) .ret) .skip)) (.seq (.region [.m 13 0, .o 14 (.nilck (.tmp 13)), .o 15 (.f 5 14), .o 16 (.l 15), .m 17 0, .o 18 (.nilck (.tmp 17)), .o 19 (.f 0 18), .o 20 (.l 19), .o 21 (.c .sub 20 1), .m 22 0, .o 23 (.nilck (.tmp 22)), .o 24 (.f 6 23), .o 25 (.l 24), .m 26 1, .o 27 (.i 1 25 26), .o 28 (.l 27), .o 29 (.b .sub 21 28), .m 30 0, .o 31 (.nilck (.tmp 30)), .o 32 (.f 0 31), .o 33 (.l 32), .o 34 (.c .sub 33 1), .o 35 (.b .rem 29 34), .o 36 (.i 1 16 35), .o 37 (.l 36), .m 4 37]) .ret)))
def F120 : AFun := ⟨c120, 2, 38, [(.tmp 4)]⟩
def K120 : Nat → List Nat × List Nat
 | _ => ([], [])
theorem F120_ok : kj8 Try.prog K120 Try.f120 = some F120 := by kernel_rfl
/- 121: syndrome/matrix.less -/
def c121L0 : ACode := (.seq (.region [.o 12 (.b .lss 11 10)]) (.seq (.cond (.tmp 12) .skip (.exit 0)) (.seq (.block 1 [0, 1, 2, 3, 10, 11] (.seq (.region [.m 13 11, .m 8 13]) (.region [.m 14 1, .m 15 8, .m 16 0, .m 17 1, .m 18 8, .o 19 (.i 1 17 18), .o 20 (.l 19), .m 21 0, .m 22 3, .m 23 2, .m 24 8, .o 25 (.i 1 23 24), .o 26 (.l 25), ⟨(some 27), (.call 79 [(.tmp 21), (.tmp 22), (.tmp 26)]), none, true⟩, .o 28 (.q 151 [16, 20, 27]), .o 29 (.i 1 14 15), .n (.st 1 (.tmp 29) (.tmp 28))]))) (.region [.o 30 (.c .add 11 1), .m 11 30]))))
def c121 : ACode := (.seq (.region [.m 9 1, .o 10 (.n 9), .k 11 0]) (.block 0 [] (.loop [0, 1, 2, 3, 10, 11] c121L0)))
def F121 : AFun := ⟨c121, 4, 31, []⟩
def K121 : Nat → List Nat × List Nat
 | 0 => ([0, 1, 2, 3, 10, 11], [])
 | 1 => ([], [0, 1, 2, 3, 10, 11])
 | _ => ([], [])
theorem F121_ok : kj8 Try.prog K121 Try.f121 = some F121 := by kernel_rfl
/- 127: syndrome/syndromeref.Number -/
def c127L0 : ACode := (.seq (.seq (.region [.m 10 6, .o 11 (.c .geq 10 0)]) (.cond (.tmp 11) .skip (.exit 0))) (.seq (.block 1 [0, 1, 5, 6] (.region [.m 14 5, .m 15 1, .o 16 (.b .mul 14 15), .m 17 0, .m 18 6, .o 19 (.i 1 17 18), .o 20 (.l 19), .o 21 (.b .add 16 20), .m 5 21])) (.region [.m 12 6, .o 13 (.c .sub 12 1), .m 6 13])))
def c127 : ACode := (.seq (.region [.k 4 0]) (.seq (.region [.k 5 0]) (.seq (.seq (.region [.m 7 0, .o 8 (.n 7), .o 9 (.c .sub 8 1), .m 6 9]) (.block 0 [5] (.loop [0, 1, 5, 6] c127L0))) (.seq (.region [.m 22 5, .m 4 22]) .ret))))
def F127 : AFun := ⟨c127, 2, 23, [(.tmp 4)]⟩
def K127 : Nat → List Nat × List Nat
 | 0 => ([0, 1, 5, 6], [5])
 | 1 => ([], [0, 1, 5, 6])
 | _ => ([], [])
theorem F127_ok : kj8 Try.prog K127 Try.f127 = some F127 := by kernel_rfl
/- 129: syndrome/field.New$1 -/
def c129 : ACode := (.region [.o 2 (.l 0), .o 3 (.l 0), ⟨(some 4), (.call 130 [(.tmp 3)]), none, true⟩, .o 5 (.f 195 1), .o 6 (.iaddrA 65 1 (.tmp 5) (.tmp 2)), .n (.st 1 (.tmp 6) (.tmp 4))])
def F129 : AFun := ⟨c129, 2, 7, []⟩
def K129 : Nat → List Nat × List Nat
 | _ => ([], [])
theorem F129_ok : kj8 Try.prog K129 Try.f129 = some F129 := by kernel_rfl
/- 130: syndrome/field.build -/
def c130L0 : ACode := (.seq (.seq (.region [.m 28 5, .o 29 (.q 155 [28]), .o 30 (.un .not (.tmp 29))]) (.cond (.tmp 30) .skip (.exit 0))) (.seq (.block 1 [5] .skip) (.region [.m 31 5, .o 32 (.nilck (.tmp 31)), .o 33 (.f 4 32), .o 34 (.l 33), .o 35 (.c .add 34 1), .o 36 (.nilck (.tmp 31)), .o 37 (.f 4 36), .n (.st 1 (.tmp 37) (.tmp 35))])))
def c130L1 : ACode := (.seq (.region [.o 45 (.b .lss 44 43)]) (.seq (.cond (.tmp 45) .skip (.exit 2)) (.seq (.block 3 [3, 4, 5, 43, 44] (.seq (.region [.m 46 44, .m 6 46]) (.seq (.region [.m 47 5, .m 48 6, .m 49 3, .m 50 4, .o 51 (.q 156 [48, 49, 50]), .o 52 (.mkSl 3 1 1 [(.const (.int .i64 1))]), .o 53 (.app 3 1 8 (.tmp 51) (.tmp 52)), .o 54 (.nilck (.tmp 47)), .o 55 (.f 3 54), .n (.st 1 (.tmp 55) (.tmp 53))]) (.seq (.region [.m 56 5, .o 57 (.q 155 [56])]) (.cond (.tmp 57) (.seq (.region [.m 58 5, .m 2 58]) .ret) .skip))))) (.region [.o 59 (.c .add 44 1), .m 44 59]))))
def c130 : ACode := (.seq (.region [.o 2 (.mv (.const (.pointer none)))]) (.seq (.region [.m 8 0, .o 9 (.q 154 [8]), .m 7 9, .o 10 (.e 0 7), .o 11 (.e 1 7), .m 3 10, .m 4 11]) (.seq (.seq (.region [.m 12 3, .o 13 (.c .eql 12 0)]) (.cond (.tmp 13) (.seq (.region [.o 2 (.mv (.const (.pointer none)))]) .ret) .skip)) (.seq (.region [.m 14 0, .m 15 3, .m 16 4, .o 17 (.build [(.int .i64 0), (.int .i64 0), (.int .i64 0), (.slice none 0 0), (.int .i64 0), (.slice none 0 0), (.slice none 0 0)] [(0, 1), (1, 1), (2, 1), (3, 1), (4, 1), (5, 1), (6, 1)] [(0, (.tmp 14)), (1, (.tmp 15)), (2, (.tmp 16))]), .o 18 (.box 156 7 (.tmp 17)), .m 5 18]) (.seq (.seq (.region [.m 19 4, .o 20 (.c .eql 19 1)]) (.cond (.tmp 20) (.seq (.region [.m 21 5, .o 22 (.mkSl 3 1 2 [(.const (.int .i64 0)), (.const (.int .i64 1))]), .o 23 (.nilck (.tmp 21)), .o 24 (.f 3 23), .n (.st 1 (.tmp 24) (.tmp 22))]) (.seq (.seq (.region [.m 25 5, .o 26 (.nilck (.tmp 25)), .o 27 (.f 4 26), .n (.st 1 (.tmp 27) (.const (.int .i64 1)))]) (.block 0 [5] (.loop [5] c130L0))) (.seq (.region [.m 38 5, .m 2 38]) .ret))) .skip)) (.seq (.region [.m 39 5, .m 40 3, .o 41 (.nilck (.tmp 39)), .o 42 (.f 4 41), .n (.st 1 (.tmp 42) (.tmp 40))]) (.seq (.seq (.region [.m 43 0, .k 44 0]) (.block 2 [] (.loop [3, 4, 5, 43, 44] c130L1))) (.seq (.region [.o 2 (.mv (.const (.pointer none)))]) .ret))))))))
def F130 : AFun := ⟨c130, 1, 60, [(.tmp 2)]⟩
def K130 : Nat → List Nat × List Nat
 | 0 => ([5], [5])
 | 1 => ([], [5])
 | 2 => ([3, 4, 5, 43, 44], [])
 | 3 => ([], [3, 4, 5, 43, 44])
 | _ => ([], [])
theorem F130_ok : kj8 Try.prog K130 Try.f130 = some F130 := by kernel_rfl
/- 131: slices.IndexFunc[[]int,int] -/
def c131L0 : ACode := (.seq (.region [.o 9 (.b .lss 8 7)]) (.seq (.cond (.tmp 9) .skip (.exit 0)) (.seq (.block 1 [0, 1, 7, 8] (.seq (.region [.m 10 8, .m 5 10]) (.seq (.region [.m 11 1, .m 12 0, .m 13 5, .o 14 (.i 1 12 13), .o 15 (.l 14), .o 16 (.calld (.tmp 11) [(.tmp 15)])]) (.cond (.tmp 16) (.seq (.region [.m 17 5, .m 4 17]) .ret) .skip)))) (.region [.o 18 (.c .add 8 1), .m 8 18]))))
def c131 : ACode := (.seq (.region [.k 4 0]) (.seq (.seq (.region [.m 6 0, .o 7 (.n 6), .k 8 0]) (.block 0 [] (.loop [0, 1, 7, 8] c131L0))) (.seq (.region [.k 4 (-1)]) .ret)))
def F131 : AFun := ⟨c131, 2, 19, [(.tmp 4)]⟩
def K131 : Nat → List Nat × List Nat
 | 0 => ([0, 1, 7, 8], [])
 | 1 => ([], [0, 1, 7, 8])
 | _ => ([], [])
theorem F131_ok : kj8 Try.prog K131 Try.f131 = some F131 := by kernel_rfl
/- 132: syndrome/syndromeref.Copy -/
def c132 : ACode := (.seq (.region [.o 2 (.mv (.const (.slice none 0 0)))]) (.seq (.region [.o 3 (.mkSl 3 1 0 []), .m 4 0, .o 5 (.app 3 1 8 (.tmp 3) (.tmp 4)), .m 2 5]) .ret))
def F132 : AFun := ⟨c132, 1, 6, [(.tmp 2)]⟩
def K132 : Nat → List Nat × List Nat
 | _ => ([], [])
theorem F132_ok : kj8 Try.prog K132 Try.f132 = some F132 := by kernel_rfl
/- 133: (syndrome/syndromeref.F).less -/
def c133L0 : ACode := (.seq (.seq (.region [.m 12 10, .m 13 1, .o 14 (.n 13), .o 15 (.b .lss 12 14)]) (.cond (.tmp 15) .skip (.exit 0))) (.seq (.block 1 [1, 2, 3, 4, 9, 10] (.seq (.region [.m 18 1, .m 19 10, .o 20 (.i 1 18 19), .o 21 (.l 20), .m 11 21]) (.seq (.seq (.region [.m 22 3, .o 23 (.c .neq 22 0), .m 24 23, .g 25 (.m 2) 24 true, .g 26 (.m 10) 24 true, .g 27 (.i 1 25 26) 24 true, .g 28 (.l 27) 24 true, .g 29 (.c .neq 28 0) 24 true, .o 30 (.pick (.tmp 24) (.tmp 29) (.const (.bool false)))]) (.cond (.tmp 30) (.region [.o 31 (.ld true 5 (.tmp 4)), .m 32 11, .o 33 (.ld true 5 (.tmp 4)), .m 34 3, .m 35 2, .m 36 10, .o 37 (.i 1 35 36), .o 38 (.l 37), ⟨(some 39), (.call 76 [(.tmp 33), (.tmp 34), (.tmp 38)]), none, true⟩, .o 40 (.q 148 [31, 32, 39]), .m 11 40]) .skip)) (.region [.m 41 9, .m 42 11, .o 43 (.mkSl 3 1 1 [(.tmp 42)]), .o 44 (.app 3 1 8 (.tmp 41) (.tmp 43)), .m 9 44])))) (.region [.m 16 10, .o 17 (.c .add 16 1), .m 10 17])))
def c133 : ACode := (.seq (.region [.o 4 (.box 28 5 (.tmp 0)), .o 8 (.mv (.const (.slice none 0 0)))]) (.seq (.region [.o 9 (.mv (.const (.slice none 0 0)))]) (.seq (.seq (.region [.k 10 0]) (.block 0 [9] (.loop [1, 2, 3, 4, 9, 10] c133L0))) (.seq (.region [.m 45 9, .m 8 45]) .ret))))
def F133 : AFun := ⟨c133, 4, 46, [(.tmp 8)]⟩
def K133 : Nat → List Nat × List Nat
 | 0 => ([1, 2, 3, 4, 9, 10], [9])
 | 1 => ([], [1, 2, 3, 4, 9, 10])
 | _ => ([], [])
theorem F133_ok : kj8 Try.prog K133 Try.f133 = some F133 := by kernel_rfl
/- 134: (syndrome/syndromeref.F).Inv -/
def c134L0 : ACode := (.seq (.seq (.region [.m 14 5, .o 15 (.f 0 2), .o 16 (.l 15), .o 17 (.b .lss 14 16)]) (.cond (.tmp 17) .skip (.exit 0))) (.seq (.block 1 [1, 2, 5] (.seq (.region [.o 20 (.ld true 5 (.tmp 2)), .m 21 1, .m 22 5, .o 23 (.q 76 [20, 21, 22]), .o 24 (.c .eql 23 1)]) (.cond (.tmp 24) (.seq (.region [.m 25 5, .m 4 25]) .ret) .skip))) (.region [.m 18 5, .o 19 (.c .add 18 1), .m 5 19])))
def c134 : ACode := (.seq (.region [.o 2 (.box 28 5 (.tmp 0)), .k 4 0]) (.seq (.seq (.region [.o 6 (.ld true 5 (.tmp 2)), .m 7 1, .o 8 (.q 71 [6, 7]), .o 9 (.un .not (.tmp 8)), .m 10 9, .g 11 (.m 1) 10 false, .g 12 (.c .eql 11 0) 10 false, .o 13 (.pick (.tmp 10) (.const (.bool true)) (.tmp 12))]) (.cond (.tmp 13) (.seq (.region [.k 4 (-1)]) .ret) .skip)) (.seq (.seq (.region [.k 5 1]) (.block 0 [] (.loop [1, 2, 5] c134L0))) (.seq (.region [.k 4 (-1)]) .ret))))
def F134 : AFun := ⟨c134, 2, 26, [(.tmp 4)]⟩
def K134 : Nat → List Nat × List Nat
 | 0 => ([1, 2, 5], [])
 | 1 => ([], [1, 2, 5])
 | _ => ([], [])
theorem F134_ok : kj8 Try.prog K134 Try.f134 = some F134 := by kernel_rfl
/- 135: syndrome/syndromeref.In -/
def c135L0 : ACode := (.seq (.seq (.region [.m 6 5, .m 7 1, .o 8 (.n 7), .o 9 (.b .lss 6 8)]) (.cond (.tmp 9) .skip (.exit 0))) (.seq (.block 1 [0, 1, 5] (.seq (.region [.m 12 1, .m 13 5, .o 14 (.i 1 12 13), .o 15 (.l 14), .m 16 0, .o 17 (.b .eql 15 16)]) (.cond (.tmp 17) (.seq (.region [.o 4 (.mv (.const (.bool true)))]) .ret) .skip))) (.region [.m 10 5, .o 11 (.c .add 10 1), .m 5 11])))
def c135 : ACode := (.seq (.region [.o 4 (.mv (.const (.bool false)))]) (.seq (.seq (.region [.k 5 0]) (.block 0 [] (.loop [0, 1, 5] c135L0))) (.seq (.region [.o 4 (.mv (.const (.bool false)))]) .ret)))
def F135 : AFun := ⟨c135, 2, 18, [(.tmp 4)]⟩
def K135 : Nat → List Nat × List Nat
 | 0 => ([0, 1, 5], [])
 | 1 => ([], [0, 1, 5])
 | _ => ([], [])
theorem F135_ok : kj8 Try.prog K135 Try.f135 = some F135 := by kernel_rfl
/- 136: (syndrome/syndromeref.F).Neg -/
def c136L0 : ACode := (.seq (.seq (.region [.m 17 6, .o 18 (.f 2 2), .o 19 (.l 18), .o 20 (.b .lss 17 19)]) (.cond (.tmp 20) .skip (.exit 0))) (.seq (.block 1 [2, 5, 6] (.region [.m 23 5, .m 24 6, .o 25 (.f 1 2), .o 26 (.l 25), .m 27 5, .m 28 6, .o 29 (.i 1 27 28), .o 30 (.l 29), .o 31 (.b .sub 26 30), .o 32 (.f 1 2), .o 33 (.l 32), .o 34 (.b .rem 31 33), .o 35 (.i 1 23 24), .n (.st 1 (.tmp 35) (.tmp 34))])) (.region [.m 21 6, .o 22 (.c .add 21 1), .m 6 22])))
def c136 : ACode := (.seq (.region [.o 2 (.box 28 5 (.tmp 0)), .k 4 0]) (.seq (.seq (.region [.o 7 (.ld true 5 (.tmp 2)), .m 8 1, .o 9 (.q 71 [7, 8]), .o 10 (.un .not (.tmp 9))]) (.cond (.tmp 10) (.seq (.region [.k 4 (-1)]) .ret) .skip)) (.seq (.region [.m 11 1, .o 12 (.f 1 2), .o 13 (.l 12), .o 14 (.f 2 2), .o 15 (.l 14), .o 16 (.q 74 [11, 13, 15]), .m 5 16]) (.seq (.seq (.region [.k 6 0]) (.block 0 [2, 5] (.loop [2, 5, 6] c136L0))) (.seq (.region [.m 36 5, .o 37 (.f 1 2), .o 38 (.l 37), .o 39 (.q 127 [36, 38]), .m 4 39]) .ret)))))
def F136 : AFun := ⟨c136, 2, 40, [(.tmp 4)]⟩
def K136 : Nat → List Nat × List Nat
 | 0 => ([2, 5, 6], [2, 5])
 | 1 => ([], [2, 5, 6])
 | _ => ([], [])
theorem F136_ok : kj8 Try.prog K136 Try.f136 = some F136 := by kernel_rfl
/- 137: syndrome/matrix.Solve$1 -/
def c137 : ACode := (.seq (.region [.o 3 (.mv (.const (.bool false)))]) (.seq (.region [.o 4 (.l 1), .m 5 0, .o 6 (.q 82 [4, 5]), .o 7 (.un .not (.tmp 6)), .m 3 7]) .ret))
def F137 : AFun := ⟨c137, 2, 8, [(.tmp 3)]⟩
def K137 : Nat → List Nat × List Nat
 | _ => ([], [])
theorem F137_ok : kj8 Try.prog K137 Try.f137 = some F137 := by kernel_rfl
/- 138: syndrome/matrix.solve -/
def c138L0 : ACode := (.seq (.region [.o 38 (.b .lss 37 36)]) (.seq (.cond (.tmp 38) .skip (.exit 0)) (.seq (.block 1 [1, 2, 8, 10, 11, 36, 37] (.seq (.region [.m 39 37, .m 12 39]) (.region [.m 40 11, .m 41 12, .m 42 1, .m 43 12, .o 44 (.i 1 42 43), .o 45 (.l 44), ⟨(some 46), (.call 150 [(.tmp 45)]), none, true⟩, .m 47 2, .m 48 12, .o 49 (.i 1 47 48), ⟨(some 50), (.ld false 1 (.tmp 49)), none, true⟩, .o 51 (.mkSl 3 1 1 [(.tmp 50)]), .o 52 (.app 3 1 8 (.tmp 46) (.tmp 51)), .o 53 (.i 1 40 41), .n (.st 1 (.tmp 53) (.tmp 52))]))) (.region [.o 54 (.c .add 37 1), .m 37 54]))))
def c138L1 : ACode := (.seq (.region [.o 104 (.b .lss 103 102)]) (.seq (.cond (.tmp 104) .skip (.exit 4)) (.seq (.block 5 [8, 10, 11, 13, 14, 15, 55, 56, 102, 103] (.seq (.region [.m 105 103, .m 17 105]) (.seq (.region [.m 106 17, .m 107 15, .o 108 (.b .neq 106 107)]) (.cond (.tmp 108) (.region [.m 109 8, .m 110 11, .m 111 17, .o 112 (.i 1 110 111), .o 113 (.l 112), .m 114 11, .m 115 15, .o 116 (.i 1 114 115), .o 117 (.l 116), .m 118 11, .m 119 17, .o 120 (.i 1 118 119), .o 121 (.l 120), .o 122 (.l 14), .o 123 (.i 1 121 122), .o 124 (.l 123), .o 125 (.q 121 [109, 113, 117, 124])]) .skip)))) (.region [.o 126 (.c .add 103 1), .m 103 126]))))
def c138L2 : ACode := (.seq (.region [.o 57 (.b .lss 56 55)]) (.seq (.cond (.tmp 57) .skip (.exit 2)) (.seq (.block 3 [8, 10, 11, 13, 55, 56] (.seq (.region [.m 58 56, .o 14 (.alloc 3 [(.int .i64 0)]), .n (.st 1 (.tmp 14) (.tmp 58))]) (.seq (.region [.m 59 13, .o 60 (.n 59), .m 15 60]) (.seq (.region [.m 61 11, .m 62 15, .o 63 (.sl 1 (.tmp 61) (some (.tmp 62)) none), .o 64 (.mkf 157 [(.tmp 14)]), .o 65 (.q 117 [63, 64]), .m 16 65]) (.seq (.seq (.region [.m 66 16, .o 67 (.c .lss 66 0)]) (.cond (.tmp 67) (.exit 3) .skip)) (.seq (.region [.m 68 11, .m 69 15, .m 70 11, .m 71 15, .m 72 16, .o 73 (.b .add 71 72), .m 74 11, .m 75 15, .m 76 16, .o 77 (.b .add 75 76), .o 78 (.i 1 74 77), .o 79 (.l 78), .m 80 11, .m 81 15, .o 82 (.i 1 80 81), .o 83 (.l 82), .o 84 (.i 1 68 69), .n (.st 1 (.tmp 84) (.tmp 79)), .o 85 (.i 1 70 73), .n (.st 1 (.tmp 85) (.tmp 83))]) (.seq (.region [.m 86 8, .m 87 11, .m 88 15, .o 89 (.i 1 87 88), .o 90 (.l 89), .m 91 8, .m 92 11, .m 93 15, .o 94 (.i 1 92 93), .o 95 (.l 94), .o 96 (.l 14), .o 97 (.i 1 95 96), .o 98 (.l 97), ⟨(some 99), (.call 120 [(.tmp 91), (.tmp 98)]), none, true⟩, .o 100 (.q 119 [86, 90, 99])]) (.seq (.seq (.region [.m 101 11, .o 102 (.n 101), .k 103 0]) (.block 4 [8, 10, 11, 13, 14, 55, 56] (.loop [8, 10, 11, 13, 14, 15, 55, 56, 102, 103] c138L1))) (.region [.m 127 13, .o 128 (.l 14), .o 129 (.mkSl 3 1 1 [(.tmp 128)]), .o 130 (.app 3 1 8 (.tmp 127) (.tmp 129)), .m 13 130]))))))))) (.region [.o 131 (.c .add 56 1), .m 56 131]))))
def c138L3 : ACode := (.seq (.region [.o 138 (.b .lss 137 136)]) (.seq (.cond (.tmp 138) .skip (.exit 6)) (.seq (.block 7 [10, 11, 13, 135, 136, 137] (.seq (.region [.o 139 (.i 1 135 137), .o 140 (.l 139), .m 19 140]) (.seq (.region [.m 141 19, .m 142 10, .o 143 (.i 1 141 142), .o 144 (.l 143), .o 145 (.c .neq 144 0)]) (.cond (.tmp 145) (.seq (.region [.o 6 (.mv (.const (.slice none 0 0))), .o 7 (.mv (.const (.bool false)))]) .ret) .skip)))) (.region [.o 146 (.c .add 137 1), .m 137 146]))))
def c138L4 : ACode := (.seq (.region [.o 152 (.b .lss 151 150)]) (.seq (.cond (.tmp 152) .skip (.exit 8)) (.seq (.block 9 [10, 11, 20, 149, 150, 151] (.seq (.region [.m 153 151, .o 154 (.i 1 149 151), .o 155 (.l 154), .m 21 153, .m 22 155]) (.region [.m 156 20, .m 157 22, .m 158 11, .m 159 21, .o 160 (.i 1 158 159), .o 161 (.l 160), .m 162 10, .o 163 (.i 1 161 162), .o 164 (.l 163), .o 165 (.i 1 156 157), .n (.st 1 (.tmp 165) (.tmp 164))]))) (.region [.o 166 (.c .add 151 1), .m 151 166]))))
def c138 : ACode := (.seq (.region [.o 6 (.mv (.const (.slice none 0 0))), .o 7 (.mv (.const (.bool false)))]) (.seq (.region [.m 24 0, .o 25 (.q 77 [24]), .m 23 25, .o 26 (.e 0 23), .o 27 (.e 1 23), .m 8 26, .m 9 27]) (.seq (.region [.m 28 1, .o 29 (.iaddr 1 (.tmp 28) (.const (.int .i64 0))), .o 30 (.l 29), .o 31 (.n 30), .m 10 31]) (.seq (.region [.m 32 1, .o 33 (.n 32), .o 34 (.mks 23 1 24 [(.slice none 0 0)] (.tmp 33) (.tmp 33)), .m 11 34]) (.seq (.seq (.region [.m 35 1, .o 36 (.n 35), .k 37 0]) (.block 0 [8, 10, 11] (.loop [1, 2, 8, 10, 11, 36, 37] c138L0))) (.seq (.region [.o 13 (.mv (.const (.slice none 0 0)))]) (.seq (.seq (.region [.m 55 10, .k 56 0]) (.block 2 [10, 11, 13] (.loop [8, 10, 11, 13, 55, 56] c138L2))) (.seq (.seq (.region [.m 132 11, .m 133 13, .o 134 (.n 133), .o 135 (.sl 1 (.tmp 132) (some (.tmp 134)) none), .o 136 (.n 135), .k 137 0]) (.block 6 [10, 11, 13] (.loop [10, 11, 13, 135, 136, 137] c138L3))) (.seq (.region [.m 147 10, .o 148 (.mks 3 1 8 [(.int .i64 0)] (.tmp 147) (.tmp 147)), .m 20 148]) (.seq (.seq (.region [.m 149 13, .o 150 (.n 149), .k 151 0]) (.block 8 [20] (.loop [10, 11, 20, 149, 150, 151] c138L4))) (.seq (.region [.m 167 20, .m 6 167, .o 7 (.mv (.const (.bool true)))]) .ret)))))))))))
def F138 : AFun := ⟨c138, 3, 168, [(.tmp 6), (.tmp 7)]⟩
def K138 : Nat → List Nat × List Nat
 | 0 => ([1, 2, 8, 10, 11, 36, 37], [8, 10, 11])
 | 1 => ([], [1, 2, 8, 10, 11, 36, 37])
 | 2 => ([8, 10, 11, 13, 55, 56], [10, 11, 13])
 | 3 => ([], [8, 10, 11, 13, 55, 56])
 | 4 => ([8, 10, 11, 13, 14, 15, 55, 56, 102, 103], [8, 10, 11, 13, 14, 55, 56])
 | 5 => ([], [8, 10, 11, 13, 14, 15, 55, 56, 102, 103])
 | 6 => ([10, 11, 13, 135, 136, 137], [10, 11, 13])
 | 7 => ([], [10, 11, 13, 135, 136, 137])
 | 8 => ([10, 11, 20, 149, 150, 151], [20])
 | 9 => ([], [10, 11, 20, 149, 150, 151])
 | _ => ([], [])
theorem F138_ok : kj8 Try.prog K138 Try.f138 = some F138 := by kernel_rfl
/- 139: syndrome/matrix.Inverse -/
def c139L0 : ACode := (.seq (.region [.o 39 (.b .lss 38 37)]) (.seq (.cond (.tmp 39) .skip (.exit 0)) (.seq (.block 1 [0, 1, 7, 37, 38] (.seq (.region [.m 40 38, .m 8 40]) (.region [.m 41 7, .m 42 8, .m 43 1, .o 44 (.n 43), .o 45 (.mks 3 1 8 [(.int .i64 0)] (.tmp 44) (.tmp 44)), .o 46 (.i 1 41 42), .n (.st 1 (.tmp 46) (.tmp 45))]))) (.region [.o 47 (.c .add 38 1), .m 38 47]))))
def c139L1 : ACode := (.seq (.region [.o 71 (.b .lss 70 69)]) (.seq (.cond (.tmp 71) .skip (.exit 4)) (.seq (.block 5 [0, 1, 7, 9, 49, 50, 68, 69, 70] (.seq (.region [.m 72 70, .o 73 (.i 1 68 70), .o 74 (.l 73), .m 13 72, .m 14 74]) (.region [.m 75 7, .m 76 13, .o 77 (.i 1 75 76), .o 78 (.l 77), .m 79 9, .m 80 14, .o 81 (.i 1 78 79), .n (.st 1 (.tmp 81) (.tmp 80))]))) (.region [.o 82 (.c .add 70 1), .m 70 82]))))
def c139L2 : ACode := (.seq (.region [.o 51 (.b .lss 50 49)]) (.seq (.cond (.tmp 51) .skip (.exit 2)) (.seq (.block 3 [0, 1, 7, 49, 50] (.seq (.region [.m 52 50, .m 9 52]) (.seq (.region [.m 53 1, .o 54 (.n 53), .o 55 (.mks 3 1 8 [(.int .i64 0)] (.tmp 54) (.tmp 54)), .m 10 55]) (.seq (.region [.m 56 10, .m 57 9, .o 58 (.i 1 56 57), .n (.st 1 (.tmp 58) (.const (.int .i64 1)))]) (.seq (.region [.m 60 0, .m 61 1, .m 62 10, .o 63 (.q 138 [60, 61, 62]), .m 59 63, .o 64 (.e 0 59), .o 65 (.e 1 59), .m 11 64, .m 12 65]) (.seq (.seq (.region [.m 66 12, .o 67 (.un .not (.tmp 66))]) (.cond (.tmp 67) (.seq (.region [.o 4 (.mv (.const (.slice none 0 0))), .k 5 8]) .ret) .skip)) (.seq (.region [.m 68 11, .o 69 (.n 68), .k 70 0]) (.block 4 [0, 1, 7, 49, 50] (.loop [0, 1, 7, 9, 49, 50, 68, 69, 70] c139L1))))))))) (.region [.o 83 (.c .add 50 1), .m 50 83]))))
def c139 : ACode := (.seq (.region [.o 4 (.mv (.const (.slice none 0 0))), .k 5 0]) (.seq (.seq (.region [.m 15 0, .m 16 1, .o 17 (.q 19 [15, 16]), .m 6 17]) (.seq (.region [.m 18 6, .o 19 (.c .neq 18 0)]) (.cond (.tmp 19) (.seq (.region [.m 20 6, .o 4 (.mv (.const (.slice none 0 0))), .m 5 20]) .ret) .skip))) (.seq (.seq (.region [.m 21 1, .o 22 (.n 21), .o 23 (.c .gtr 22 0), .m 24 23, .g 25 (.m 1) 24 true, .g 26 (.n 25) 24 true, .g 27 (.m 1) 24 true, .g 28 (.iaddr 1 (.tmp 27) (.const (.int .i64 0))) 24 true, .g 29 (.l 28) 24 true, .g 30 (.n 29) 24 true, .g 31 (.b .neq 26 30) 24 true, .o 32 (.pick (.tmp 24) (.tmp 31) (.const (.bool false)))]) (.cond (.tmp 32) (.seq (.region [.o 4 (.mv (.const (.slice none 0 0))), .k 5 3]) .ret) .skip)) (.seq (.region [.m 33 1, .o 34 (.n 33), .o 35 (.mks 23 1 24 [(.slice none 0 0)] (.tmp 34) (.tmp 34)), .m 7 35]) (.seq (.seq (.region [.m 36 1, .o 37 (.n 36), .k 38 0]) (.block 0 [0, 1, 7] (.loop [0, 1, 7, 37, 38] c139L0))) (.seq (.seq (.region [.m 48 1, .o 49 (.n 48), .k 50 0]) (.block 2 [7] (.loop [0, 1, 7, 49, 50] c139L2))) (.seq (.region [.m 84 7, .m 4 84, .k 5 0]) .ret)))))))
def F139 : AFun := ⟨c139, 2, 85, [(.tmp 4), (.tmp 5)]⟩
def K139 : Nat → List Nat × List Nat
 | 0 => ([0, 1, 7, 37, 38], [0, 1, 7])
 | 1 => ([], [0, 1, 7, 37, 38])
 | 2 => ([0, 1, 7, 49, 50], [7])
 | 3 => ([], [0, 1, 7, 49, 50])
 | 4 => ([0, 1, 7, 9, 49, 50, 68, 69, 70], [0, 1, 7, 49, 50])
 | 5 => ([], [0, 1, 7, 9, 49, 50, 68, 69, 70])
 | _ => ([], [])
theorem F139_ok : kj8 Try.prog K139 Try.f139 = some F139 := by kernel_rfl
/- 148: (syndrome/syndromeref.F).Sub -/
def c148 : ACode := (.seq (.region [.o 3 (.box 28 5 (.tmp 0)), .k 6 0]) (.seq (.region [.o 8 (.ld true 5 (.tmp 3)), .m 9 2, .o 10 (.q 136 [8, 9]), .m 7 10]) (.seq (.region [.o 11 (.ld true 5 (.tmp 3)), .m 12 1, .m 13 7, .o 14 (.q 75 [11, 12, 13]), .m 6 14]) .ret)))
def F148 : AFun := ⟨c148, 3, 15, [(.tmp 6)]⟩
def K148 : Nat → List Nat × List Nat
 | _ => ([], [])
theorem F148_ok : kj8 Try.prog K148 Try.f148 = some F148 := by kernel_rfl
/- 149: slices.Index[[]int,int] -/
def c149L0 : ACode := (.seq (.region [.o 9 (.b .lss 8 7)]) (.seq (.cond (.tmp 9) .skip (.exit 0)) (.seq (.block 1 [0, 1, 7, 8] (.seq (.region [.m 10 8, .m 5 10]) (.seq (.region [.m 11 1, .m 12 0, .m 13 5, .o 14 (.i 1 12 13), .o 15 (.l 14), .o 16 (.b .eql 11 15)]) (.cond (.tmp 16) (.seq (.region [.m 17 5, .m 4 17]) .ret) .skip)))) (.region [.o 18 (.c .add 8 1), .m 8 18]))))
def c149 : ACode := (.seq (.region [.k 4 0]) (.seq (.seq (.region [.m 6 0, .o 7 (.n 6), .k 8 0]) (.block 0 [] (.loop [0, 1, 7, 8] c149L0))) (.seq (.region [.k 4 (-1)]) .ret)))
def F149 : AFun := ⟨c149, 2, 19, [(.tmp 4)]⟩
def K149 : Nat → List Nat × List Nat
 | 0 => ([0, 1, 7, 8], [])
 | 1 => ([], [0, 1, 7, 8])
 | _ => ([], [])
theorem F149_ok : kj8 Try.prog K149 Try.f149 = some F149 := by kernel_rfl
/- 150: slices.Clone[[]int,int] -/
def c150 : ACode := (.seq (.region [.o 2 (.mv (.const (.slice none 0 0)))]) (.seq (.seq (.region [.m 3 0, .o 4 (.eqn false 0 (.tmp 3))]) (.cond (.tmp 4) (.seq (.region [.o 2 (.mv (.const (.slice none 0 0)))]) .ret) .skip)) (.seq (.region [.o 5 (.mkSl 3 1 0 []), .m 6 0, .o 7 (.app 3 1 8 (.tmp 5) (.tmp 6)), .m 2 7]) .ret)))
def F150 : AFun := ⟨c150, 1, 8, [(.tmp 2)]⟩
def K150 : Nat → List Nat × List Nat
 | _ => ([], [])
theorem F150_ok : kj8 Try.prog K150 Try.f150 = some F150 := by kernel_rfl
/- 151: (*syndrome/field.Field).Sub -/
def c151 : ACode := (.seq (.region [.k 6 0]) (.seq (.region [.m 7 0, .m 8 1, .m 9 0, .m 10 2, .o 11 (.q 115 [9, 10]), .o 12 (.q 78 [7, 8, 11]), .m 6 12]) .ret))
def F151 : AFun := ⟨c151, 3, 13, [(.tmp 6)]⟩
def K151 : Nat → List Nat × List Nat
 | _ => ([], [])
theorem F151_ok : kj8 Try.prog K151 Try.f151 = some F151 := by kernel_rfl
/- 154: syndrome/field.prime -/
def c154L0 : ACode := (.seq (.seq (.region [.m 4 0, .m 5 2, .o 6 (.b .rem 4 5), .o 7 (.c .neq 6 0)]) (.cond (.tmp 7) .skip (.exit 0))) (.block 1 [0, 2, 3] (.region [.m 8 2, .o 9 (.c .add 8 1), .m 2 9])))
def c154L1 : ACode := (.seq (.seq (.region [.m 10 0, .m 11 2, .o 12 (.b .rem 10 11), .o 13 (.c .eql 12 0)]) (.cond (.tmp 13) .skip (.exit 2))) (.seq (.block 3 [0, 2, 3] (.region [.m 17 3, .o 18 (.c .add 17 1), .m 3 18])) (.region [.m 14 0, .m 15 2, .o 16 (.b .quo 14 15), .m 0 16])))
def c154 : ACode := (.seq (.region [.k 2 0, .k 3 0]) (.seq (.region [.k 2 2]) (.seq (.block 0 [0, 2, 3] (.loop [0, 2, 3] c154L0)) (.seq (.block 2 [0, 2, 3] (.loop [0, 2, 3] c154L1)) (.seq (.seq (.region [.m 19 0, .o 20 (.c .neq 19 1)]) (.cond (.tmp 20) (.seq (.region [.k 2 0, .k 3 0]) .ret) .skip)) (.seq (.region [.m 21 2, .m 22 3, .m 2 21, .m 3 22]) .ret))))))
def F154 : AFun := ⟨c154, 1, 23, [(.tmp 2), (.tmp 3)]⟩
def K154 : Nat → List Nat × List Nat
 | 0 => ([0, 2, 3], [0, 2, 3])
 | 1 => ([], [0, 2, 3])
 | 2 => ([0, 2, 3], [0, 2, 3])
 | 3 => ([], [0, 2, 3])
 | _ => ([], [])
theorem F154_ok : kj8 Try.prog K154 Try.f154 = some F154 := by kernel_rfl
/- 155: (*syndrome/field.Field).fill -/
def c155L0 : ACode := (.seq (.region [.o 29 (.b .lss 28 27)]) (.seq (.cond (.tmp 29) .skip (.exit 0)) (.seq (.block 1 [0, 27, 28] (.seq (.region [.m 30 28, .m 3 30]) (.region [.m 31 0, .o 32 (.nilck (.tmp 31)), .o 33 (.f 6 32), .o 34 (.l 33), .m 35 3, .o 36 (.i 1 34 35), .n (.st 1 (.tmp 36) (.const (.int .i64 (-1))))]))) (.region [.o 37 (.c .add 28 1), .m 28 37]))))
def c155L1 : ACode := (.seq (.region [.o 44 (.b .lss 43 42)]) (.seq (.cond (.tmp 44) .skip (.exit 2)) (.seq (.block 3 [0, 4, 42, 43] (.seq (.region [.m 45 43, .m 5 45]) (.seq (.seq (.region [.m 46 4, .o 47 (.c .eql 46 0), .m 48 47, .g 49 (.m 0) 48 false, .g 50 (.nilck (.tmp 49)) 48 false, .g 51 (.f 6 50) 48 false, .g 52 (.l 51) 48 false, .g 53 (.m 4) 48 false, .g 54 (.i 1 52 53) 48 false, .g 55 (.l 54) 48 false, .g 56 (.c .geq 55 0) 48 false, .o 57 (.pick (.tmp 48) (.const (.bool true)) (.tmp 56))]) (.cond (.tmp 57) (.seq (.region [.o 2 (.mv (.const (.bool false)))]) .ret) .skip)) (.seq (.region [.m 58 0, .o 59 (.nilck (.tmp 58)), .o 60 (.f 5 59), .o 61 (.l 60), .m 62 5, .m 63 0, .o 64 (.nilck (.tmp 63)), .o 65 (.f 6 64), .o 66 (.l 65), .m 67 4, .m 68 4, .m 69 5, .o 70 (.i 1 61 62), .n (.st 1 (.tmp 70) (.tmp 68)), .o 71 (.i 1 66 67), .n (.st 1 (.tmp 71) (.tmp 69))]) (.region [.m 72 0, .m 73 4, .o 74 (.q 169 [72, 73]), .m 4 74]))))) (.region [.o 75 (.c .add 43 1), .m 43 75]))))
def c155 : ACode := (.seq (.region [.o 2 (.mv (.const (.bool false)))]) (.seq (.region [.m 6 0, .m 7 0, .o 8 (.nilck (.tmp 7)), .o 9 (.f 0 8), .o 10 (.l 9), .o 11 (.c .sub 10 1), .o 12 (.mks 3 1 8 [(.int .i64 0)] (.tmp 11) (.tmp 11)), .o 13 (.nilck (.tmp 6)), .o 14 (.f 5 13), .n (.st 1 (.tmp 14) (.tmp 12))]) (.seq (.region [.m 15 0, .m 16 0, .o 17 (.nilck (.tmp 16)), .o 18 (.f 0 17), .o 19 (.l 18), .o 20 (.mks 3 1 8 [(.int .i64 0)] (.tmp 19) (.tmp 19)), .o 21 (.nilck (.tmp 15)), .o 22 (.f 6 21), .n (.st 1 (.tmp 22) (.tmp 20))]) (.seq (.seq (.region [.m 23 0, .o 24 (.nilck (.tmp 23)), .o 25 (.f 6 24), .o 26 (.l 25), .o 27 (.n 26), .k 28 0]) (.block 0 [0] (.loop [0, 27, 28] c155L0))) (.seq (.region [.k 4 1]) (.seq (.seq (.region [.m 38 0, .o 39 (.nilck (.tmp 38)), .o 40 (.f 0 39), .o 41 (.l 40), .o 42 (.c .sub 41 1), .k 43 0]) (.block 2 [4] (.loop [0, 4, 42, 43] c155L1))) (.seq (.region [.m 76 4, .o 77 (.c .eql 76 1), .m 2 77]) .ret)))))))
def F155 : AFun := ⟨c155, 1, 78, [(.tmp 2)]⟩
def K155 : Nat → List Nat × List Nat
 | 0 => ([0, 27, 28], [0])
 | 1 => ([], [0, 27, 28])
 | 2 => ([0, 4, 42, 43], [4])
 | 3 => ([], [0, 4, 42, 43])
 | _ => ([], [])
theorem F155_ok : kj8 Try.prog K155 Try.f155 = some F155 := by kernel_rfl
/- 156: syndrome/field.digits -/
def c156L0 : ACode := (.seq (.region [.o 14 (.b .lss 13 12)]) (.seq (.cond (.tmp 14) .skip (.exit 0)) (.seq (.block 1 [0, 1, 7, 12, 13] (.seq (.region [.m 15 13, .m 8 15]) (.seq (.region [.m 16 7, .m 17 8, .m 18 0, .m 19 1, .o 20 (.b .rem 18 19), .o 21 (.i 1 16 17), .n (.st 1 (.tmp 21) (.tmp 20))]) (.region [.m 22 0, .m 23 1, .o 24 (.b .quo 22 23), .m 0 24])))) (.region [.o 25 (.c .add 13 1), .m 13 25]))))
def c156 : ACode := (.seq (.region [.o 6 (.mv (.const (.slice none 0 0)))]) (.seq (.region [.m 9 2, .o 10 (.mks 3 1 8 [(.int .i64 0)] (.tmp 9) (.tmp 9)), .m 7 10]) (.seq (.seq (.region [.m 11 7, .o 12 (.n 11), .k 13 0]) (.block 0 [7] (.loop [0, 1, 7, 12, 13] c156L0))) (.seq (.region [.m 26 7, .m 6 26]) .ret))))
def F156 : AFun := ⟨c156, 3, 27, [(.tmp 6)]⟩
def K156 : Nat → List Nat × List Nat
 | 0 => ([0, 1, 7, 12, 13], [7])
 | 1 => ([], [0, 1, 7, 12, 13])
 | _ => ([], [])
theorem F156_ok : kj8 Try.prog K156 Try.f156 = some F156 := by kernel_rfl
/- 157: syndrome/matrix.solve$1 -/
def c157 : ACode := (.seq (.region [.o 3 (.mv (.const (.bool false)))]) (.seq (.region [.m 4 0, .o 5 (.l 1), .o 6 (.i 1 4 5), .o 7 (.l 6), .o 8 (.c .neq 7 0), .m 3 8]) .ret))
def F157 : AFun := ⟨c157, 2, 9, [(.tmp 3)]⟩
def K157 : Nat → List Nat × List Nat
 | _ => ([], [])
theorem F157_ok : kj8 Try.prog K157 Try.f157 = some F157 := by kernel_rfl
/- 169: (*syndrome/field.Field).turn -/
def c169L0 : ACode := (.seq (.region [.o 57 (.b .lss 56 55)]) (.seq (.cond (.tmp 57) .skip (.exit 0)) (.seq (.block 1 [0, 5, 6, 55, 56] (.seq (.region [.m 58 56, .m 7 58]) (.region [.m 59 5, .m 60 7, .m 61 5, .m 62 7, .o 63 (.i 1 61 62), .o 64 (.l 63), .m 65 6, .m 66 0, .o 67 (.nilck (.tmp 66)), .o 68 (.f 1 67), .o 69 (.l 68), .m 70 0, .o 71 (.nilck (.tmp 70)), .o 72 (.f 3 71), .o 73 (.l 72), .m 74 7, .o 75 (.i 1 73 74), .o 76 (.l 75), .o 77 (.b .sub 69 76), .o 78 (.b .mul 65 77), .o 79 (.b .add 64 78), .m 80 0, .o 81 (.nilck (.tmp 80)), .o 82 (.f 1 81), .o 83 (.l 82), .o 84 (.b .rem 79 83), .o 85 (.i 1 59 60), .n (.st 1 (.tmp 85) (.tmp 84))]))) (.region [.o 86 (.c .add 56 1), .m 56 86]))))
def c169 : ACode := (.seq (.region [.k 4 0]) (.seq (.seq (.region [.m 8 0, .o 9 (.nilck (.tmp 8)), .o 10 (.f 2 9), .o 11 (.l 10), .o 12 (.c .eql 11 1)]) (.cond (.tmp 12) (.seq (.region [.m 13 1, .m 14 0, .o 15 (.nilck (.tmp 14)), .o 16 (.f 4 15), .o 17 (.l 16), .o 18 (.b .mul 13 17), .m 19 0, .o 20 (.nilck (.tmp 19)), .o 21 (.f 1 20), .o 22 (.l 21), .o 23 (.b .rem 18 22), .m 4 23]) .ret) .skip)) (.seq (.region [.m 24 1, .m 25 0, .o 26 (.nilck (.tmp 25)), .o 27 (.f 1 26), .o 28 (.l 27), .m 29 0, .o 30 (.nilck (.tmp 29)), .o 31 (.f 2 30), .o 32 (.l 31), .o 33 (.q 156 [24, 28, 32]), .m 5 33]) (.seq (.region [.m 34 5, .m 35 0, .o 36 (.nilck (.tmp 35)), .o 37 (.f 2 36), .o 38 (.l 37), .o 39 (.c .sub 38 1), .o 40 (.i 1 34 39), .o 41 (.l 40), .m 6 41]) (.seq (.region [.m 42 5, .o 43 (.sl 1 (.tmp 42) (some (.const (.int .i64 1))) none), .m 44 5, .m 45 0, .o 46 (.nilck (.tmp 45)), .o 47 (.f 2 46), .o 48 (.l 47), .o 49 (.c .sub 48 1), .o 50 (.sl 1 (.tmp 44) none (some (.tmp 49))), .o 51 (.cpy 1 (.tmp 43) (.tmp 50))]) (.seq (.region [.m 52 5, .o 53 (.iaddr 1 (.tmp 52) (.const (.int .i64 0))), .n (.st 1 (.tmp 53) (.const (.int .i64 0)))]) (.seq (.seq (.region [.m 54 5, .o 55 (.n 54), .k 56 0]) (.block 0 [0, 5] (.loop [0, 5, 6, 55, 56] c169L0))) (.seq (.region [.m 87 5, .m 88 0, .o 89 (.nilck (.tmp 88)), .o 90 (.f 1 89), .o 91 (.l 90), .o 92 (.q 177 [87, 91]), .m 4 92]) .ret))))))))
def F169 : AFun := ⟨c169, 2, 93, [(.tmp 4)]⟩
def K169 : Nat → List Nat × List Nat
 | 0 => ([0, 5, 6, 55, 56], [0, 5])
 | 1 => ([], [0, 5, 6, 55, 56])
 | _ => ([], [])
theorem F169_ok : kj8 Try.prog K169 Try.f169 = some F169 := by kernel_rfl
/- 177: syndrome/field.number -/
def c177L0 : ACode := (.seq (.seq (.region [.m 10 6, .o 11 (.c .geq 10 0)]) (.cond (.tmp 11) .skip (.exit 0))) (.seq (.block 1 [0, 1, 5, 6] (.region [.m 14 5, .m 15 1, .o 16 (.b .mul 14 15), .m 17 0, .m 18 6, .o 19 (.i 1 17 18), .o 20 (.l 19), .o 21 (.b .add 16 20), .m 5 21])) (.region [.m 12 6, .o 13 (.c .sub 12 1), .m 6 13])))
def c177 : ACode := (.seq (.region [.k 4 0]) (.seq (.region [.k 5 0]) (.seq (.seq (.region [.m 7 0, .o 8 (.n 7), .o 9 (.c .sub 8 1), .m 6 9]) (.block 0 [5] (.loop [0, 1, 5, 6] c177L0))) (.seq (.region [.m 22 5, .m 4 22]) .ret))))
def F177 : AFun := ⟨c177, 2, 23, [(.tmp 4)]⟩
def K177 : Nat → List Nat × List Nat
 | 0 => ([0, 1, 5, 6], [5])
 | 1 => ([], [0, 1, 5, 6])
 | _ => ([], [])
theorem F177_ok : kj8 Try.prog K177 Try.f177 = some F177 := by kernel_rfl
end Go.Proofs.Ytjpejkakodbchaa
