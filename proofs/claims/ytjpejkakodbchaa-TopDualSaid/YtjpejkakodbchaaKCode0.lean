/-
  Functions of this seat as the small machine's code, written by a program of my own (gen.py); each is checked to be what the model's function is turned into. No condition.
-/
import Derived.Test.YtjpejkakodbchaaK1
import Derived.Test.YtjpejkakodbchaaProg
set_option linter.unusedVariables false
set_option linter.unusedSimpArgs false
set_option linter.unusedSectionVars false
set_option maxRecDepth 100000
namespace Go.Proofs.Ytjpejkakodbchaa
open Go.Am
/- 10: syndrome/syndromelaw.GolayIs -/
def c10 : ACode := (.seq (.region [.o 0 (.mv (.const (.bool false)))]) (.seq (.region [.o 1 (.call 60 []), .o 2 (.mkSl 3 1 12 [(.const (.int .i64 1)), (.const (.int .i64 0)), (.const (.int .i64 1)), (.const (.int .i64 0)), (.const (.int .i64 1)), (.const (.int .i64 1)), (.const (.int .i64 1)), (.const (.int .i64 0)), (.const (.int .i64 0)), (.const (.int .i64 0)), (.const (.int .i64 1)), (.const (.int .i64 1))]), .o 3 (.call 61 [(.const (.int .i64 2)), (.const (.int .i64 23)), (.tmp 2)]), .o 4 (.q 59 [1, 3]), .m 5 4, .g 6 (.call 62 []) 5 true, .g 7 (.mkSl 3 1 6 [(.const (.int .i64 2)), (.const (.int .i64 0)), (.const (.int .i64 1)), (.const (.int .i64 2)), (.const (.int .i64 1)), (.const (.int .i64 1))]) 5 true, .g 8 (.call 61 [(.const (.int .i64 3)), (.const (.int .i64 11)), (.tmp 7)]) 5 true, .g 9 (.q 59 [6, 8]) 5 true, .o 10 (.pick (.tmp 5) (.tmp 9) (.const (.bool false))), .m 0 10]) .ret))
def F10 : AFun := ⟨c10, 0, 11, [(.tmp 0)]⟩
def K10 : Nat → List Nat × List Nat
  | _ => ([], [])
theorem F10_ok : kj8 Try.prog K10 Try.f10 = some F10 := by kernel_rfl
/- 12: syndrome/syndrometop.TopDual -/
def c12 : ACode := (.seq (.region [.o 10 (.mv (.const (.bool false)))]) (.seq (.seq (.region [.m 23 0, .o 24 (.n 23), .m 25 4, .o 26 (.n 25), .o 27 (.b .add 24 26), .o 28 (.c .gtr 27 256)]) (.cond (.tmp 28) (.seq (.region [.o 10 (.mv (.const (.bool true)))]) .ret) .skip)) (.seq (.region [.m 29 0, .m 30 1, .m 31 2, .m 32 3, .o 33 (.q 66 [29, 30, 31, 32]), .o 11 (.alloc 43 [(.int .i64 0), (.int .i64 0), (.slice none 0 0)]), .n (.st 3 (.tmp 11) (.tmp 33))]) (.seq (.region [.o 35 (.ld true 3 (.tmp 11)), .o 36 (.q 67 [35]), .m 34 36, .o 37 (.e 0 34), .o 38 (.e 1 34), .o 12 (.alloc 43 [(.int .i64 0), (.int .i64 0), (.slice none 0 0)]), .n (.st 3 (.tmp 12) (.tmp 37)), .m 13 38]) (.seq (.region [.o 40 (.ld true 3 (.tmp 11)), .o 41 (.q 68 [40]), .m 39 41, .o 42 (.e 0 39), .o 43 (.e 1 39), .o 14 (.alloc 43 [(.int .i64 0), (.int .i64 0), (.slice none 0 0)]), .n (.st 3 (.tmp 14) (.tmp 42)), .m 15 43]) (.seq (.region [.o 45 (.ld true 3 (.tmp 14)), .o 46 (.q 68 [45]), .m 44 46, .o 47 (.e 0 44), .o 48 (.e 1 44), .o 16 (.alloc 43 [(.int .i64 0), (.int .i64 0), (.slice none 0 0)]), .n (.st 3 (.tmp 16) (.tmp 47)), .m 17 48]) (.seq (.seq (.region [.m 49 13, .o 50 (.c .neq 49 0), .m 51 50, .g 52 (.m 15) 51 false, .g 53 (.c .neq 52 0) 51 false, .o 54 (.pick (.tmp 51) (.const (.bool true)) (.tmp 53)), .m 55 54, .g 56 (.m 17) 55 false, .g 57 (.c .neq 56 0) 55 false, .o 58 (.pick (.tmp 55) (.const (.bool true)) (.tmp 57)), .m 59 58, .g 60 (.ld true 3 (.tmp 16)) 59 false, .g 61 (.ld true 3 (.tmp 12)) 59 false, .g 62 (.q 59 [60, 61]) 59 false, .g 63 (.un .not (.tmp 62)) 59 false, .o 64 (.pick (.tmp 59) (.const (.bool true)) (.tmp 63)), .m 65 64, .g 66 (.f 2 12) 65 false, .g 67 (.l 66) 65 false, .g 68 (.n 67) 65 false, .g 69 (.f 2 14) 65 false, .g 70 (.l 69) 65 false, .g 71 (.n 70) 65 false, .g 72 (.b .add 68 71) 65 false, .g 73 (.f 1 11) 65 false, .g 74 (.l 73) 65 false, .g 75 (.b .neq 72 74) 65 false, .o 76 (.pick (.tmp 65) (.const (.bool true)) (.tmp 75))]) (.cond (.tmp 76) (.seq (.region [.o 10 (.mv (.const (.bool false)))]) .ret) .skip)) (.seq (.region [.o 78 (.ld true 3 (.tmp 11)), .m 79 4, .o 80 (.f 0 11), .o 81 (.l 80), .o 82 (.f 2 12), .o 83 (.l 82), .o 84 (.n 83), ⟨(some 85), (.call 25 [(.tmp 79), (.const (.int .i64 0)), (.tmp 81), (.tmp 84)]), none, true⟩, .o 86 (.q 69 [78, 85]), .m 77 86, .o 87 (.e 0 77), .o 88 (.e 1 77), .m 18 87, .m 13 88]) (.seq (.region [.o 90 (.ld true 3 (.tmp 14)), .m 91 4, .o 92 (.f 0 11), .o 93 (.l 92), .o 94 (.f 2 14), .o 95 (.l 94), .o 96 (.n 95), ⟨(some 97), (.call 25 [(.tmp 91), (.const (.int .i64 3)), (.tmp 93), (.tmp 96)]), none, true⟩, .o 98 (.q 69 [90, 97]), .m 89 98, .o 99 (.e 0 89), .o 100 (.e 1 89), .m 19 99, .m 15 100]) (.seq (.region [.o 102 (.ld true 3 (.tmp 11)), .m 103 18, .o 104 (.q 70 [102, 103]), .m 101 104, .o 105 (.e 0 101), .o 106 (.e 1 101), .m 20 105, .m 17 106]) (.seq (.region [.o 108 (.f 0 11), .o 109 (.l 108), .o 110 (.q 16 [109]), .m 107 110, .o 111 (.e 0 107), .o 112 (.e 1 107), .o 21 (.alloc 28 [(.int .i64 0), (.int .i64 0), (.int .i64 0), (.int .i64 0), (.slice none 0 0)]), .n (.st 5 (.tmp 21) (.tmp 111)), .m 22 112]) (.seq (.region [.m 113 13, .o 114 (.c .eql 113 0), .m 115 114, .g 116 (.m 15) 115 true, .g 117 (.c .eql 116 0) 115 true, .o 118 (.pick (.tmp 115) (.tmp 117) (.const (.bool false))), .m 119 118, .g 120 (.m 17) 119 true, .g 121 (.c .eql 120 0) 119 true, .o 122 (.pick (.tmp 119) (.tmp 121) (.const (.bool false))), .m 123 122, .g 124 (.m 20) 123 true, .o 125 (.pick (.tmp 123) (.tmp 124) (.const (.bool false))), .m 126 125, .g 127 (.m 18) 126 true, .g 128 (.n 127) 126 true, .g 129 (.m 19) 126 true, .g 130 (.n 129) 126 true, .g 131 (.b .eql 128 130) 126 true, .o 132 (.pick (.tmp 126) (.tmp 131) (.const (.bool false))), .m 133 132, .g 134 (.ld true 5 (.tmp 21)) 133 true, .g 135 (.m 18) 133 true, .g 136 (.m 19) 133 true, .g 137 (.q 33 [134, 135, 136]) 133 true, .g 138 (.c .eql 137 0) 133 true, .o 139 (.pick (.tmp 133) (.tmp 138) (.const (.bool false))), .m 10 139]) .ret))))))))))))
def F12 : AFun := ⟨c12, 5, 140, [(.tmp 10)]⟩
def K12 : Nat → List Nat × List Nat
  | _ => ([], [])
theorem F12_ok : kj8 Try.prog K12 Try.f12 = some F12 := by kernel_rfl
/- 16: syndrome/syndromeref.Field -/
def c16L0 : ACode := (.seq (.seq (.region [.m 32 7, .m 33 0, .o 34 (.b .lss 32 33)]) (.cond (.tmp 34) .skip (.exit 0))) (.seq (.block 1 [0, 2, 4, 5, 6, 7] (.seq (.region [.o 37 (.ld true 5 (.tmp 6)), .m 38 7, .o 39 (.q 73 [37, 38])]) (.cond (.tmp 39) (.seq (.region [.m 40 7, .o 41 (.f 3 6), .n (.st 1 (.tmp 41) (.tmp 40))]) (.seq (.region [.o 42 (.ld true 5 (.tmp 6)), .n (.st 5 (.tmp 2) (.tmp 42)), .k 3 0]) .ret)) .skip))) (.region [.m 35 7, .o 36 (.c .add 35 1), .m 7 36])))
def c16L1 : ACode := (.seq (.seq (.region [.m 45 8, .m 46 0, .o 47 (.b .lss 45 46)]) (.cond (.tmp 47) .skip (.exit 2))) (.seq (.block 3 [0, 2, 4, 5, 6, 8] (.seq (.region [.m 50 8, .m 51 4, .m 52 5, .o 53 (.q 74 [50, 51, 52]), .o 54 (.mkSl 3 1 1 [(.const (.int .i64 1))]), .o 55 (.app 3 1 8 (.tmp 53) (.tmp 54)), .o 56 (.f 4 6), .n (.st 1 (.tmp 56) (.tmp 55))]) (.seq (.region [.o 57 (.ld true 5 (.tmp 6)), .m 58 4, .o 59 (.q 73 [57, 58])]) (.cond (.tmp 59) (.seq (.region [.o 60 (.ld true 5 (.tmp 6)), .n (.st 5 (.tmp 2) (.tmp 60)), .k 3 0]) .ret) .skip)))) (.region [.m 48 8, .o 49 (.c .add 48 1), .m 8 49])))
def c16 : ACode := (.seq (.region [.o 2 (.alloc 28 [(.int .i64 0), (.int .i64 0), (.int .i64 0), (.int .i64 0), (.slice none 0 0)]), .k 3 0]) (.seq (.seq (.region [.m 9 0, .o 10 (.c .lss 9 2), .m 11 10, .g 12 (.m 0) 11 false, .g 13 (.c .gtr 12 64) 11 false, .o 14 (.pick (.tmp 11) (.const (.bool true)) (.tmp 13))]) (.cond (.tmp 14) (.seq (.region [.o 15 (.build [(.int .i64 0), (.int .i64 0), (.int .i64 0), (.int .i64 0), (.slice none 0 0)] [(0, 1), (1, 1), (2, 1), (3, 1), (4, 1)] []), .n (.st 5 (.tmp 2) (.tmp 15)), .k 3 1]) .ret) .skip)) (.seq (.region [.m 17 0, .o 18 (.q 72 [17]), .m 16 18, .o 19 (.e 0 16), .o 20 (.e 1 16), .m 4 19, .m 5 20]) (.seq (.seq (.region [.m 21 4, .o 22 (.c .eql 21 0)]) (.cond (.tmp 22) (.seq (.region [.o 23 (.build [(.int .i64 0), (.int .i64 0), (.int .i64 0), (.int .i64 0), (.slice none 0 0)] [(0, 1), (1, 1), (2, 1), (3, 1), (4, 1)] []), .n (.st 5 (.tmp 2) (.tmp 23)), .k 3 1]) .ret) .skip)) (.seq (.region [.m 24 0, .m 25 4, .m 26 5, .o 27 (.build [(.int .i64 0), (.int .i64 0), (.int .i64 0), (.int .i64 0), (.slice none 0 0)] [(0, 1), (1, 1), (2, 1), (3, 1), (4, 1)] [(0, (.tmp 24)), (1, (.tmp 25)), (2, (.tmp 26))]), .o 6 (.alloc 28 [(.int .i64 0), (.int .i64 0), (.int .i64 0), (.int .i64 0), (.slice none 0 0)]), .n (.st 5 (.tmp 6) (.tmp 27))]) (.seq (.seq (.region [.m 28 5, .o 29 (.c .eql 28 1)]) (.cond (.tmp 29) (.seq (.region [.o 30 (.mkSl 3 1 2 [(.const (.int .i64 0)), (.const (.int .i64 1))]), .o 31 (.f 4 6), .n (.st 1 (.tmp 31) (.tmp 30))]) (.seq (.region [.k 7 1]) (.block 0 [0, 2, 4, 5, 6] (.loop [0, 2, 4, 5, 6, 7] c16L0)))) .skip)) (.seq (.region [.m 43 4, .o 44 (.f 3 6), .n (.st 1 (.tmp 44) (.tmp 43))]) (.seq (.seq (.region [.k 8 0]) (.block 2 [2] (.loop [0, 2, 4, 5, 6, 8] c16L1))) (.seq (.region [.o 61 (.build [(.int .i64 0), (.int .i64 0), (.int .i64 0), (.int .i64 0), (.slice none 0 0)] [(0, 1), (1, 1), (2, 1), (3, 1), (4, 1)] []), .n (.st 5 (.tmp 2) (.tmp 61)), .k 3 1]) .ret)))))))))
def F16 : AFun := ⟨c16, 1, 62, [(.cell 2 true 5), (.tmp 3)]⟩
def K16 : Nat → List Nat × List Nat
  | 0 => ([0, 2, 4, 5, 6, 7], [0, 2, 4, 5, 6])
  | 1 => ([], [0, 2, 4, 5, 6, 7])
  | 2 => ([0, 2, 4, 5, 6, 8], [2])
  | 3 => ([], [0, 2, 4, 5, 6, 8])
  | _ => ([], [])
theorem F16_ok : kj8 Try.prog K16 Try.f16 = some F16 := by kernel_rfl
/- 19: syndrome/matrix.Check -/
def c19L0 : ACode := (.seq (.region [.o 23 (.b .lss 22 21)]) (.seq (.cond (.tmp 23) .skip (.exit 0)) (.seq (.block 1 [1, 5, 20, 21, 22] (.seq (.region [.o 24 (.i 1 20 22), .o 25 (.l 24), .m 8 25]) (.seq (.seq (.region [.m 26 8, .o 27 (.n 26), .m 28 1, .o 29 (.iaddr 1 (.tmp 28) (.const (.int .i64 0))), .o 30 (.l 29), .o 31 (.n 30), .o 32 (.b .neq 27 31), .m 33 32, .g 34 (.m 8) 33 false, .g 35 (.n 34) 33 false, .g 36 (.c .eql 35 0) 33 false, .o 37 (.pick (.tmp 33) (.const (.bool true)) (.tmp 36))]) (.cond (.tmp 37) (.seq (.region [.k 4 3]) .ret) .skip)) (.seq (.seq (.region [.m 38 8, .o 39 (.n 38), .o 40 (.c .gtr 39 64)]) (.cond (.tmp 40) (.seq (.region [.k 4 4]) .ret) .skip)) (.seq (.region [.m 41 8, .o 42 (.mkf 81 [(.tmp 5)]), .o 43 (.q 80 [41, 42])]) (.cond (.tmp 43) (.seq (.region [.k 4 2]) .ret) .skip)))))) (.region [.o 44 (.c .add 22 1), .m 22 44]))))
def c19 : ACode := (.seq (.region [.k 4 0]) (.seq (.region [.m 10 0, .o 11 (.q 77 [10]), .m 9 11, .o 12 (.e 0 9), .o 13 (.e 1 9), .o 5 (.alloc 107 [(.pointer none)]), .n (.st 1 (.tmp 5) (.tmp 12)), .m 6 13]) (.seq (.seq (.region [.m 14 6, .o 15 (.c .neq 14 0)]) (.cond (.tmp 15) (.seq (.region [.m 16 6, .m 4 16]) .ret) .skip)) (.seq (.seq (.region [.m 17 1, .o 18 (.n 17), .o 19 (.c .gtr 18 64)]) (.cond (.tmp 19) (.seq (.region [.k 4 4]) .ret) .skip)) (.seq (.seq (.region [.m 20 1, .o 21 (.n 20), .k 22 0]) (.block 0 [] (.loop [1, 5, 20, 21, 22] c19L0))) (.seq (.region [.k 4 0]) .ret))))))
def F19 : AFun := ⟨c19, 2, 45, [(.tmp 4)]⟩
def K19 : Nat → List Nat × List Nat
  | 0 => ([1, 5, 20, 21, 22], [])
  | 1 => ([], [1, 5, 20, 21, 22])
  | _ => ([], [])
theorem F19_ok : kj8 Try.prog K19 Try.f19 = some F19 := by kernel_rfl
/- 23: syndrome/syndromeref.Pick -/
def c23 : ACode := (.seq (.region [.k 4 0]) (.seq (.seq (.region [.m 5 0, .o 6 (.c .lss 5 0)]) (.cond (.tmp 6) (.region [.m 7 0, .o 8 (.c .add 7 1), .o 9 (.un .neg (.tmp 8)), .m 0 9]) .skip)) (.seq (.region [.m 10 0, .m 11 1, .o 12 (.b .rem 10 11), .m 4 12]) .ret)))
def F23 : AFun := ⟨c23, 2, 13, [(.tmp 4)]⟩
def K23 : Nat → List Nat × List Nat
  | _ => ([], [])
theorem F23_ok : kj8 Try.prog K23 Try.f23 = some F23 := by kernel_rfl
/- 24: syndrome/syndromeref.MatrixOf -/
def c24L0 : ACode := (.seq (.seq (.region [.m 13 12, .m 14 3, .o 15 (.b .lss 13 14)]) (.cond (.tmp 15) .skip (.exit 0))) (.seq (.block 1 [0, 1, 2, 3, 4, 11, 12] (.region [.m 18 11, .m 19 0, .m 20 1, .m 21 12, .m 22 4, .o 23 (.b .mul 21 22), .o 24 (.b .add 20 23), .m 25 2, .m 26 4, .o 27 (.q 25 [19, 24, 25, 26]), .o 28 (.mkSl 23 1 1 [(.tmp 27)]), .o 29 (.app 23 1 24 (.tmp 18) (.tmp 28)), .m 11 29])) (.region [.m 16 12, .o 17 (.c .add 16 1), .m 12 17])))
def c24 : ACode := (.seq (.region [.o 10 (.mv (.const (.slice none 0 0)))]) (.seq (.region [.o 11 (.mv (.const (.slice none 0 0)))]) (.seq (.seq (.region [.k 12 0]) (.block 0 [11] (.loop [0, 1, 2, 3, 4, 11, 12] c24L0))) (.seq (.region [.m 30 11, .m 10 30]) .ret))))
def F24 : AFun := ⟨c24, 5, 31, [(.tmp 10)]⟩
def K24 : Nat → List Nat × List Nat
  | 0 => ([0, 1, 2, 3, 4, 11, 12], [11])
  | 1 => ([], [0, 1, 2, 3, 4, 11, 12])
  | _ => ([], [])
theorem F24_ok : kj8 Try.prog K24 Try.f24 = some F24 := by kernel_rfl
/- 25: syndrome/syndromeref.Numbers -/
def c25L0 : ACode := (.seq (.seq (.region [.m 11 10, .m 12 3, .o 13 (.b .lss 11 12)]) (.cond (.tmp 13) .skip (.exit 0))) (.seq (.block 1 [0, 1, 2, 3, 9, 10] (.region [.m 16 9, .m 17 0, .m 18 1, .m 19 10, .o 20 (.b .add 18 19), .o 21 (.q 40 [17, 20]), .m 22 2, .o 23 (.q 23 [21, 22]), .o 24 (.mkSl 3 1 1 [(.tmp 23)]), .o 25 (.app 3 1 8 (.tmp 16) (.tmp 24)), .m 9 25])) (.region [.m 14 10, .o 15 (.c .add 14 1), .m 10 15])))
def c25 : ACode := (.seq (.region [.o 8 (.mv (.const (.slice none 0 0)))]) (.seq (.region [.o 9 (.mv (.const (.slice none 0 0)))]) (.seq (.seq (.region [.k 10 0]) (.block 0 [9] (.loop [0, 1, 2, 3, 9, 10] c25L0))) (.seq (.region [.m 26 9, .m 8 26]) .ret))))
def F25 : AFun := ⟨c25, 4, 27, [(.tmp 8)]⟩
def K25 : Nat → List Nat × List Nat
  | 0 => ([0, 1, 2, 3, 9, 10], [9])
  | 1 => ([], [0, 1, 2, 3, 9, 10])
  | _ => ([], [])
theorem F25_ok : kj8 Try.prog K25 Try.f25 = some F25 := by kernel_rfl
/- 33: (syndrome/syndromeref.F).Dot -/
def c33L0 : ACode := (.seq (.seq (.region [.m 9 8, .m 10 1, .o 11 (.n 10), .o 12 (.b .lss 9 11)]) (.cond (.tmp 12) .skip (.exit 0))) (.seq (.block 1 [1, 2, 3, 7, 8] (.region [.o 15 (.ld true 5 (.tmp 3)), .m 16 7, .o 17 (.ld true 5 (.tmp 3)), .m 18 1, .m 19 8, .o 20 (.i 1 18 19), .o 21 (.l 20), .m 22 2, .m 23 8, .o 24 (.i 1 22 23), .o 25 (.l 24), ⟨(some 26), (.call 76 [(.tmp 17), (.tmp 21), (.tmp 25)]), none, true⟩, .o 27 (.q 75 [15, 16, 26]), .m 7 27])) (.region [.m 13 8, .o 14 (.c .add 13 1), .m 8 14])))
def c33 : ACode := (.seq (.region [.o 3 (.box 28 5 (.tmp 0)), .k 6 0]) (.seq (.region [.k 7 0]) (.seq (.seq (.region [.k 8 0]) (.block 0 [7] (.loop [1, 2, 3, 7, 8] c33L0))) (.seq (.region [.m 28 7, .m 6 28]) .ret))))
def F33 : AFun := ⟨c33, 3, 29, [(.tmp 6)]⟩
def K33 : Nat → List Nat × List Nat
  | 0 => ([1, 2, 3, 7, 8], [7])
  | 1 => ([], [1, 2, 3, 7, 8])
  | _ => ([], [])
theorem F33_ok : kj8 Try.prog K33 Try.f33 = some F33 := by kernel_rfl
/- 40: syndrome/syndromeref.Raw -/
def c40 : ACode := (.seq (.region [.k 4 0]) (.seq (.seq (.region [.m 5 0, .o 6 (.n 5), .o 7 (.c .eql 6 0)]) (.cond (.tmp 7) (.seq (.region [.m 8 1, .m 4 8]) .ret) .skip)) (.seq (.region [.m 9 0, .m 10 1, .m 11 0, .o 12 (.n 11), .o 13 (.b .rem 10 12), .o 14 (.i 1 9 13), .o 15 (.l 14), .m 16 1, .m 17 0, .o 18 (.n 17), .o 19 (.b .quo 16 18), .o 20 (.c .mul 19 7919), .o 21 (.b .add 15 20), .m 4 21]) .ret)))
def F40 : AFun := ⟨c40, 2, 22, [(.tmp 4)]⟩
def K40 : Nat → List Nat × List Nat
  | _ => ([], [])
theorem F40_ok : kj8 Try.prog K40 Try.f40 = some F40 := by kernel_rfl
/- 58: syndrome/syndromeref.Same -/
def c58L0 : ACode := (.seq (.seq (.region [.m 11 5, .m 12 0, .o 13 (.n 12), .o 14 (.b .lss 11 13)]) (.cond (.tmp 14) .skip (.exit 0))) (.seq (.block 1 [0, 1, 5] (.seq (.region [.m 17 0, .m 18 5, .o 19 (.i 1 17 18), .o 20 (.l 19), .m 21 1, .m 22 5, .o 23 (.i 1 21 22), .o 24 (.l 23), .o 25 (.b .neq 20 24)]) (.cond (.tmp 25) (.seq (.region [.o 4 (.mv (.const (.bool false)))]) .ret) .skip))) (.region [.m 15 5, .o 16 (.c .add 15 1), .m 5 16])))
def c58 : ACode := (.seq (.region [.o 4 (.mv (.const (.bool false)))]) (.seq (.seq (.region [.m 6 0, .o 7 (.n 6), .m 8 1, .o 9 (.n 8), .o 10 (.b .neq 7 9)]) (.cond (.tmp 10) (.seq (.region [.o 4 (.mv (.const (.bool false)))]) .ret) .skip)) (.seq (.seq (.region [.k 5 0]) (.block 0 [] (.loop [0, 1, 5] c58L0))) (.seq (.region [.o 4 (.mv (.const (.bool true)))]) .ret))))
def F58 : AFun := ⟨c58, 2, 26, [(.tmp 4)]⟩
def K58 : Nat → List Nat × List Nat
  | 0 => ([0, 1, 5], [])
  | 1 => ([], [0, 1, 5])
  | _ => ([], [])
theorem F58_ok : kj8 Try.prog K58 Try.f58 = some F58 := by kernel_rfl
/- 59: syndrome/syndromeref.SameCode -/
def c59 : ACode := (.seq (.region [.o 2 (.box 43 3 (.tmp 0)), .o 3 (.box 43 3 (.tmp 1)), .o 4 (.mv (.const (.bool false)))]) (.seq (.region [.o 5 (.f 0 2), .o 6 (.l 5), .o 7 (.f 0 3), .o 8 (.l 7), .o 9 (.b .eql 6 8), .m 10 9, .g 11 (.f 1 2) 10 true, .g 12 (.l 11) 10 true, .g 13 (.f 1 3) 10 true, .g 14 (.l 13) 10 true, .g 15 (.b .eql 12 14) 10 true, .o 16 (.pick (.tmp 10) (.tmp 15) (.const (.bool false))), .m 17 16, .g 18 (.f 2 2) 17 true, .g 19 (.l 18) 17 true, .g 20 (.f 2 3) 17 true, .g 21 (.l 20) 17 true, .g 22 (.q 83 [19, 21]) 17 true, .o 23 (.pick (.tmp 17) (.tmp 22) (.const (.bool false))), .m 4 23]) .ret))
def F59 : AFun := ⟨c59, 2, 24, [(.tmp 4)]⟩
def K59 : Nat → List Nat × List Nat
  | _ => ([], [])
theorem F59_ok : kj8 Try.prog K59 Try.f59 = some F59 := by kernel_rfl
/- 64: syndrome/matrix.Null -/
def c64L0 : ACode := (.seq (.region [.o 57 (.b .lss 56 55)]) (.seq (.cond (.tmp 57) .skip (.exit 2)) (.seq (.block 3 [0, 1, 6, 7, 9, 11, 12, 13, 39, 40, 54, 55, 56] (.seq (.region [.m 58 56, .o 59 (.i 1 54 56), .o 60 (.l 59), .m 14 58, .m 15 60]) (.region [.m 61 13, .m 62 15, .m 63 9, .m 64 6, .m 65 14, .o 66 (.i 1 64 65), .o 67 (.l 66), .m 68 12, .o 69 (.i 1 67 68), .o 70 (.l 69), .o 71 (.q 115 [63, 70]), .o 72 (.i 1 61 62), .n (.st 1 (.tmp 72) (.tmp 71))]))) (.region [.o 73 (.c .add 56 1), .m 56 73]))))
def c64L1 : ACode := (.seq (.region [.o 41 (.b .lss 40 39)]) (.seq (.cond (.tmp 41) .skip (.exit 0)) (.seq (.block 1 [0, 1, 6, 7, 9, 11, 39, 40] (.seq (.region [.m 42 40, .m 12 42]) (.seq (.seq (.region [.m 43 7, .m 44 12, .o 45 (.q 114 [43, 44])]) (.cond (.tmp 45) (.exit 1) .skip)) (.seq (.region [.m 46 1, .o 47 (.iaddr 1 (.tmp 46) (.const (.int .i64 0))), .o 48 (.l 47), .o 49 (.n 48), .o 50 (.mks 3 1 8 [(.int .i64 0)] (.tmp 49) (.tmp 49)), .m 13 50]) (.seq (.region [.m 51 13, .m 52 12, .o 53 (.i 1 51 52), .n (.st 1 (.tmp 53) (.const (.int .i64 1)))]) (.seq (.seq (.region [.m 54 7, .o 55 (.n 54), .k 56 0]) (.block 2 [0, 1, 6, 7, 9, 11, 13, 39, 40] (.loop [0, 1, 6, 7, 9, 11, 12, 13, 39, 40, 54, 55, 56] c64L0))) (.region [.m 74 11, .m 75 13, .o 76 (.mkSl 23 1 1 [(.tmp 75)]), .o 77 (.app 23 1 24 (.tmp 74) (.tmp 76)), .m 11 77]))))))) (.region [.o 78 (.c .add 40 1), .m 40 78]))))
def c64 : ACode := (.seq (.region [.o 4 (.mv (.const (.slice none 0 0))), .k 5 0]) (.seq (.region [.m 17 0, .m 18 1, .o 19 (.q 65 [17, 18]), .m 16 19, .o 20 (.e 0 16), .o 21 (.e 1 16), .o 22 (.e 2 16), .m 6 20, .m 7 21, .m 8 22]) (.seq (.seq (.region [.m 23 8, .o 24 (.c .neq 23 0), .m 25 24, .g 26 (.m 1) 25 false, .g 27 (.n 26) 25 false, .g 28 (.c .eql 27 0) 25 false, .o 29 (.pick (.tmp 25) (.const (.bool true)) (.tmp 28))]) (.cond (.tmp 29) (.seq (.region [.m 30 8, .o 4 (.mv (.const (.slice none 0 0))), .m 5 30]) .ret) .skip)) (.seq (.region [.m 32 0, .o 33 (.q 77 [32]), .m 31 33, .o 34 (.e 0 31), .o 35 (.e 1 31), .m 9 34, .m 10 35]) (.seq (.region [.o 11 (.mv (.const (.slice none 0 0)))]) (.seq (.seq (.region [.m 36 1, .o 37 (.iaddr 1 (.tmp 36) (.const (.int .i64 0))), .o 38 (.l 37), .o 39 (.n 38), .k 40 0]) (.block 0 [0, 11] (.loop [0, 1, 6, 7, 9, 11, 39, 40] c64L1))) (.seq (.region [.m 80 0, .m 81 11, .o 82 (.q 65 [80, 81]), .m 79 82, .o 83 (.e 0 79), .o 84 (.e 1 79), .o 85 (.e 2 79), .m 11 83]) (.seq (.region [.m 86 11, .m 4 86, .k 5 0]) .ret))))))))
def F64 : AFun := ⟨c64, 2, 87, [(.tmp 4), (.tmp 5)]⟩
def K64 : Nat → List Nat × List Nat
  | 0 => ([0, 1, 6, 7, 9, 11, 39, 40], [0, 11])
  | 1 => ([], [0, 1, 6, 7, 9, 11, 39, 40])
  | 2 => ([0, 1, 6, 7, 9, 11, 12, 13, 39, 40, 54, 55, 56], [0, 1, 6, 7, 9, 11, 13, 39, 40])
  | 3 => ([], [0, 1, 6, 7, 9, 11, 12, 13, 39, 40, 54, 55, 56])
  | _ => ([], [])
theorem F64_ok : kj8 Try.prog K64 Try.f64 = some F64 := by kernel_rfl
/- 65: syndrome/matrix.Reduce -/
def c65L0 : ACode := (.seq (.region [.o 92 (.b .lss 91 90)]) (.seq (.cond (.tmp 92) .skip (.exit 2)) (.seq (.block 3 [1, 5, 8, 10, 11, 90, 91] (.seq (.region [.m 93 91, .m 13 93]) (.seq (.region [.m 94 13, .m 95 11, .o 96 (.b .neq 94 95), .m 97 96, .g 98 (.m 1) 97 true, .g 99 (.m 13) 97 true, .g 100 (.i 1 98 99) 97 true, .g 101 (.l 100) 97 true, .g 102 (.l 10) 97 true, .g 103 (.i 1 101 102) 97 true, .g 104 (.l 103) 97 true, .g 105 (.c .neq 104 0) 97 true, .o 106 (.pick (.tmp 97) (.tmp 105) (.const (.bool false)))]) (.cond (.tmp 106) (.region [.m 107 8, .m 108 1, .m 109 13, .o 110 (.i 1 108 109), .o 111 (.l 110), .m 112 1, .m 113 11, .o 114 (.i 1 112 113), .o 115 (.l 114), .m 116 1, .m 117 13, .o 118 (.i 1 116 117), .o 119 (.l 118), .o 120 (.l 10), .o 121 (.i 1 119 120), .o 122 (.l 121), .o 123 (.q 121 [107, 111, 115, 122])]) .skip)))) (.region [.o 124 (.c .add 91 1), .m 91 124]))))
def c65L1 : ACode := (.seq (.seq (.region [.o 32 (.l 10), .m 33 1, .o 34 (.iaddr 1 (.tmp 33) (.const (.int .i64 0))), .o 35 (.l 34), .o 36 (.n 35), .o 37 (.b .lss 32 36), .m 38 37, .g 39 (.m 5) 38 true, .g 40 (.n 39) 38 true, .g 41 (.m 1) 38 true, .g 42 (.n 41) 38 true, .g 43 (.b .lss 40 42) 38 true, .o 44 (.pick (.tmp 38) (.tmp 43) (.const (.bool false)))]) (.cond (.tmp 44) .skip (.exit 0))) (.seq (.block 1 [1, 5, 8, 10] (.seq (.region [.m 47 5, .o 48 (.n 47), .m 11 48]) (.seq (.region [.m 49 1, .m 50 11, .o 51 (.sl 1 (.tmp 49) (some (.tmp 50)) none), .o 52 (.mkf 118 [(.tmp 10)]), .o 53 (.q 117 [51, 52]), .m 12 53]) (.seq (.seq (.region [.m 54 12, .o 55 (.c .lss 54 0)]) (.cond (.tmp 55) (.exit 1) .skip)) (.seq (.region [.m 56 1, .m 57 11, .m 58 1, .m 59 11, .m 60 12, .o 61 (.b .add 59 60), .m 62 1, .m 63 11, .m 64 12, .o 65 (.b .add 63 64), .o 66 (.i 1 62 65), .o 67 (.l 66), .m 68 1, .m 69 11, .o 70 (.i 1 68 69), .o 71 (.l 70), .o 72 (.i 1 56 57), .n (.st 1 (.tmp 72) (.tmp 67)), .o 73 (.i 1 58 61), .n (.st 1 (.tmp 73) (.tmp 71))]) (.seq (.region [.m 74 8, .m 75 1, .m 76 11, .o 77 (.i 1 75 76), .o 78 (.l 77), .m 79 8, .m 80 1, .m 81 11, .o 82 (.i 1 80 81), .o 83 (.l 82), .o 84 (.l 10), .o 85 (.i 1 83 84), .o 86 (.l 85), ⟨(some 87), (.call 120 [(.tmp 79), (.tmp 86)]), none, true⟩, .o 88 (.q 119 [74, 78, 87])]) (.seq (.seq (.region [.m 89 1, .o 90 (.n 89), .k 91 0]) (.block 2 [1, 5, 8, 10] (.loop [1, 5, 8, 10, 11, 90, 91] c65L0))) (.region [.m 125 5, .o 126 (.l 10), .o 127 (.mkSl 3 1 1 [(.tmp 126)]), .o 128 (.app 3 1 8 (.tmp 125) (.tmp 127)), .m 5 128])))))))) (.seq (.seq (.region [.o 129 (.l 10)]) (.region [.o 10 (.alloc 3 [(.int .i64 0)]), .n (.st 1 (.tmp 10) (.tmp 129))])) (.region [.o 45 (.l 10), .o 46 (.c .add 45 1), .n (.st 1 (.tmp 10) (.tmp 46))]))))
def c65 : ACode := (.seq (.region [.o 4 (.mv (.const (.slice none 0 0))), .o 5 (.mv (.const (.slice none 0 0))), .k 6 0]) (.seq (.seq (.region [.m 14 0, .m 15 1, .o 16 (.q 19 [14, 15]), .m 7 16]) (.seq (.region [.m 17 7, .o 18 (.c .neq 17 0), .m 19 18, .g 20 (.m 1) 19 false, .g 21 (.n 20) 19 false, .g 22 (.c .eql 21 0) 19 false, .o 23 (.pick (.tmp 19) (.const (.bool true)) (.tmp 22))]) (.cond (.tmp 23) (.seq (.region [.m 24 7, .o 4 (.mv (.const (.slice none 0 0))), .o 5 (.mv (.const (.slice none 0 0))), .m 6 24]) .ret) .skip))) (.seq (.region [.m 26 0, .o 27 (.q 77 [26]), .m 25 27, .o 28 (.e 0 25), .o 29 (.e 1 25), .m 8 28, .m 9 29]) (.seq (.region [.m 30 1, .o 31 (.q 116 [30]), .m 1 31]) (.seq (.seq (.region [.o 10 (.alloc 3 [(.int .i64 0)]), .n (.st 1 (.tmp 10) (.const (.int .i64 0)))]) (.block 0 [1, 5] (.loop [1, 5, 8, 10] c65L1))) (.seq (.region [.m 130 1, .m 131 5, .o 132 (.n 131), .m 133 5, .o 134 (.n 133), .o 135 (.sl3 (.tmp 130) (.tmp 132) (.tmp 134)), .m 136 5, .m 4 135, .m 5 136, .k 6 0]) .ret))))))
def F65 : AFun := ⟨c65, 2, 137, [(.tmp 4), (.tmp 5), (.tmp 6)]⟩
def K65 : Nat → List Nat × List Nat
  | 0 => ([1, 5, 8, 10], [1, 5])
  | 1 => ([], [1, 5, 8, 10])
  | 2 => ([1, 5, 8, 10, 11, 90, 91], [1, 5, 8, 10])
  | 3 => ([], [1, 5, 8, 10, 11, 90, 91])
  | _ => ([], [])
theorem F65_ok : kj8 Try.prog K65 Try.f65 = some F65 := by kernel_rfl
/- 66: syndrome/syndromeref.CodeOf -/
def c66L0 : ACode := (.seq (.seq (.region [.m 18 1, .m 19 9, .o 20 (.c .add 19 1), .o 21 (.q 103 [18, 20]), .m 22 21, .g 23 (.m 9) 22 true, .g 24 (.c .lss 23 5) 22 true, .o 25 (.pick (.tmp 22) (.tmp 24) (.const (.bool false)))]) (.cond (.tmp 25) .skip (.exit 0))) (.block 1 [0, 1, 2, 3, 8, 9] (.region [.m 26 9, .o 27 (.c .add 26 1), .m 9 27])))
def c66 : ACode := (.seq (.region [.o 8 (.alloc 43 [(.int .i64 0), (.int .i64 0), (.slice none 0 0)])]) (.seq (.region [.o 10 (.mkSl 3 1 6 [(.const (.int .i64 2)), (.const (.int .i64 2)), (.const (.int .i64 3)), (.const (.int .i64 4)), (.const (.int .i64 5)), (.const (.int .i64 8))]), .m 11 1, .o 12 (.call 23 [(.tmp 11), (.const (.int .i64 6))]), .o 13 (.i 1 10 12), .o 14 (.l 13), .m 1 14]) (.seq (.region [.m 15 2, .o 16 (.call 23 [(.tmp 15), (.const (.int .i64 12))]), .o 17 (.bin .add (.const (.int .i64 1)) (.tmp 16)), .m 2 17]) (.seq (.region [.k 9 0]) (.seq (.block 0 [0, 1, 2, 3, 8, 9] (.loop [0, 1, 2, 3, 8, 9] c66L0)) (.seq (.region [.m 28 1, .m 29 2, .m 30 0, .m 31 1, .m 32 3, .m 33 9, .o 34 (.c .add 33 1), .o 35 (.q 23 [32, 34]), .m 36 2, .o 37 (.call 24 [(.tmp 30), (.const (.int .i64 0)), (.tmp 31), (.tmp 35), (.tmp 36)]), .o 38 (.build [(.int .i64 0), (.int .i64 0), (.slice none 0 0)] [(0, 1), (1, 1), (2, 1)] [(0, (.tmp 28)), (1, (.tmp 29)), (2, (.tmp 37))]), .n (.st 3 (.tmp 8) (.tmp 38))]) .ret))))))
def F66 : AFun := ⟨c66, 4, 39, [(.cell 8 true 3)]⟩
def K66 : Nat → List Nat × List Nat
  | 0 => ([0, 1, 2, 3, 8, 9], [0, 1, 2, 3, 8, 9])
  | 1 => ([], [0, 1, 2, 3, 8, 9])
  | _ => ([], [])
theorem F66_ok : kj8 Try.prog K66 Try.f66 = some F66 := by kernel_rfl
/- 67: syndrome/code.Make -/
def c67 : ACode := (.seq (.region [.o 1 (.box 43 3 (.tmp 0)), .o 2 (.alloc 43 [(.int .i64 0), (.int .i64 0), (.slice none 0 0)]), .k 3 0]) (.seq (.seq (.region [.o 8 (.ld true 3 (.tmp 1)), .o 9 (.q 122 [8]), .m 4 9]) (.seq (.region [.m 10 4, .o 11 (.c .neq 10 0)]) (.cond (.tmp 11) (.seq (.region [.o 12 (.build [(.int .i64 0), (.int .i64 0), (.slice none 0 0)] [(0, 1), (1, 1), (2, 1)] []), .m 13 4, .n (.st 3 (.tmp 2) (.tmp 12)), .m 3 13]) .ret) .skip))) (.seq (.region [.o 15 (.f 0 1), .o 16 (.l 15), .o 17 (.f 2 1), .o 18 (.l 17), .o 19 (.q 65 [16, 18]), .m 14 19, .o 20 (.e 0 14), .o 21 (.e 1 14), .o 22 (.e 2 14), .m 5 20, .m 6 21, .m 7 22]) (.seq (.region [.o 23 (.f 0 1), .o 24 (.l 23), .o 25 (.f 1 1), .o 26 (.l 25), .m 27 5, .o 28 (.build [(.int .i64 0), (.int .i64 0), (.slice none 0 0)] [(0, 1), (1, 1), (2, 1)] [(0, (.tmp 24)), (1, (.tmp 26)), (2, (.tmp 27))]), .n (.st 3 (.tmp 2) (.tmp 28)), .k 3 0]) .ret))))
def F67 : AFun := ⟨c67, 1, 29, [(.cell 2 true 3), (.tmp 3)]⟩
def K67 : Nat → List Nat × List Nat
  | _ => ([], [])
theorem F67_ok : kj8 Try.prog K67 Try.f67 = some F67 := by kernel_rfl
/- 68: syndrome/code.Dual -/
def c68L0 : ACode := (.seq (.region [.o 25 (.b .lss 24 23)]) (.seq (.cond (.tmp 25) .skip (.exit 0)) (.seq (.block 1 [1, 2, 23, 24] (.seq (.region [.m 26 24, .m 5 26]) (.seq (.region [.o 27 (.f 1 1), .o 28 (.l 27), .o 29 (.mks 3 1 8 [(.int .i64 0)] (.tmp 28) (.tmp 28)), .m 6 29]) (.seq (.region [.m 30 6, .m 31 5, .o 32 (.i 1 30 31), .n (.st 1 (.tmp 32) (.const (.int .i64 1)))]) (.region [.o 33 (.f 2 1), .o 34 (.l 33), .m 35 6, .o 36 (.mkSl 23 1 1 [(.tmp 35)]), .o 37 (.app 23 1 24 (.tmp 34) (.tmp 36)), .o 38 (.f 2 1), .n (.st 1 (.tmp 38) (.tmp 37))]))))) (.region [.o 39 (.c .add 24 1), .m 24 39]))))
def c68 : ACode := (.seq (.region [.o 1 (.box 43 3 (.tmp 0)), .o 2 (.alloc 43 [(.int .i64 0), (.int .i64 0), (.slice none 0 0)]), .k 3 0]) (.seq (.region [.o 10 (.ld true 3 (.tmp 1)), .o 11 (.q 67 [10]), .m 9 11, .o 12 (.e 0 9), .o 13 (.e 1 9), .n (.st 3 (.tmp 1) (.tmp 12)), .m 4 13]) (.seq (.seq (.region [.m 14 4, .o 15 (.c .neq 14 0)]) (.cond (.tmp 15) (.seq (.region [.o 16 (.build [(.int .i64 0), (.int .i64 0), (.slice none 0 0)] [(0, 1), (1, 1), (2, 1)] []), .m 17 4, .n (.st 3 (.tmp 2) (.tmp 16)), .m 3 17]) .ret) .skip)) (.seq (.seq (.region [.o 18 (.f 2 1), .o 19 (.l 18), .o 20 (.n 19), .o 21 (.c .eql 20 0)]) (.cond (.tmp 21) (.seq (.seq (.region [.o 22 (.f 1 1), .o 23 (.l 22), .k 24 0]) (.block 0 [1, 2] (.loop [1, 2, 23, 24] c68L0))) (.seq (.region [.o 40 (.ld true 3 (.tmp 1)), .n (.st 3 (.tmp 2) (.tmp 40)), .k 3 0]) .ret)) .skip)) (.seq (.region [.o 42 (.f 0 1), .o 43 (.l 42), .o 44 (.f 2 1), .o 45 (.l 44), .o 46 (.q 64 [43, 45]), .m 41 46, .o 47 (.e 0 41), .o 48 (.e 1 41), .m 7 47, .m 8 48]) (.seq (.region [.o 49 (.f 0 1), .o 50 (.l 49), .o 51 (.f 1 1), .o 52 (.l 51), .m 53 7, .o 54 (.build [(.int .i64 0), (.int .i64 0), (.slice none 0 0)] [(0, 1), (1, 1), (2, 1)] [(0, (.tmp 50)), (1, (.tmp 52)), (2, (.tmp 53))]), .n (.st 3 (.tmp 2) (.tmp 54)), .k 3 0]) .ret))))))
def F68 : AFun := ⟨c68, 1, 55, [(.cell 2 true 3), (.tmp 3)]⟩
def K68 : Nat → List Nat × List Nat
  | 0 => ([1, 2, 23, 24], [1, 2])
  | 1 => ([], [1, 2, 23, 24])
  | _ => ([], [])
theorem F68_ok : kj8 Try.prog K68 Try.f68 = some F68 := by kernel_rfl
/- 69: syndrome/code.Encode -/
def c69 : ACode := (.seq (.region [.o 2 (.box 43 3 (.tmp 0)), .o 4 (.mv (.const (.slice none 0 0))), .k 5 0]) (.seq (.region [.o 10 (.ld true 3 (.tmp 2)), .o 11 (.q 67 [10]), .m 9 11, .o 12 (.e 0 9), .o 13 (.e 1 9), .n (.st 3 (.tmp 2) (.tmp 12)), .m 6 13]) (.seq (.seq (.region [.m 14 6, .o 15 (.c .neq 14 0)]) (.cond (.tmp 15) (.seq (.region [.m 16 6, .o 4 (.mv (.const (.slice none 0 0))), .m 5 16]) .ret) .skip)) (.seq (.seq (.region [.m 17 1, .o 18 (.n 17), .o 19 (.f 2 2), .o 20 (.l 19), .o 21 (.n 20), .o 22 (.b .neq 18 21)]) (.cond (.tmp 22) (.seq (.region [.o 4 (.mv (.const (.slice none 0 0))), .k 5 6]) .ret) .skip)) (.seq (.region [.o 24 (.f 0 2), .o 25 (.l 24), .o 26 (.q 77 [25]), .m 23 26, .o 27 (.e 0 23), .o 28 (.e 1 23), .o 7 (.alloc 107 [(.pointer none)]), .n (.st 1 (.tmp 7) (.tmp 27)), .m 8 28]) (.seq (.seq (.region [.m 29 1, .o 30 (.mkf 123 [(.tmp 7)]), .o 31 (.q 80 [29, 30])]) (.cond (.tmp 31) (.seq (.region [.o 4 (.mv (.const (.slice none 0 0))), .k 5 2]) .ret) .skip)) (.seq (.region [.o 32 (.l 7), .o 33 (.ld true 3 (.tmp 2)), .m 34 1, .o 35 (.q 124 [32, 33, 34]), .m 4 35, .k 5 0]) .ret)))))))
def F69 : AFun := ⟨c69, 2, 36, [(.tmp 4), (.tmp 5)]⟩
def K69 : Nat → List Nat × List Nat
  | _ => ([], [])
theorem F69_ok : kj8 Try.prog K69 Try.f69 = some F69 := by kernel_rfl
/- 70: syndrome/code.Has -/
def c70 : ACode := (.seq (.region [.o 2 (.box 43 3 (.tmp 0)), .o 4 (.mv (.const (.bool false))), .k 5 0]) (.seq (.region [.o 9 (.ld true 3 (.tmp 2)), .m 10 1, .o 11 (.q 125 [9, 10]), .m 8 11, .o 12 (.e 0 8), .o 13 (.e 1 8), .m 6 12, .m 7 13]) (.seq (.region [.m 14 7, .o 15 (.c .eql 14 0), .m 16 15, .g 17 (.m 6) 16 true, .g 18 (.call 80 [(.tmp 17), (.func 126)]) 16 true, .g 19 (.un .not (.tmp 18)) 16 true, .o 20 (.pick (.tmp 16) (.tmp 19) (.const (.bool false))), .m 21 7, .m 4 20, .m 5 21]) .ret)))
def F70 : AFun := ⟨c70, 2, 22, [(.tmp 4), (.tmp 5)]⟩
def K70 : Nat → List Nat × List Nat
  | _ => ([], [])
theorem F70_ok : kj8 Try.prog K70 Try.f70 = some F70 := by kernel_rfl
/- 71: (syndrome/syndromeref.F).Has -/
def c71 : ACode := (.seq (.region [.o 2 (.box 28 5 (.tmp 0)), .o 4 (.mv (.const (.bool false)))]) (.seq (.region [.m 5 1, .o 6 (.c .geq 5 0), .m 7 6, .g 8 (.m 1) 7 true, .g 9 (.f 0 2) 7 true, .g 10 (.l 9) 7 true, .g 11 (.b .lss 8 10) 7 true, .o 12 (.pick (.tmp 7) (.tmp 11) (.const (.bool false))), .m 4 12]) .ret))
def F71 : AFun := ⟨c71, 2, 13, [(.tmp 4)]⟩
def K71 : Nat → List Nat × List Nat
  | _ => ([], [])
theorem F71_ok : kj8 Try.prog K71 Try.f71 = some F71 := by kernel_rfl
/- 72: syndrome/syndromeref.Prime -/
def c72L0 : ACode := (.seq (.seq (.region [.m 15 0, .m 16 4, .o 17 (.b .rem 15 16), .o 18 (.c .eql 17 0)]) (.cond (.tmp 18) .skip (.exit 2))) (.block 3 [0, 4, 5] (.seq (.region [.m 19 0, .m 20 4, .o 21 (.b .quo 19 20), .m 0 21]) (.region [.m 22 5, .o 23 (.c .add 22 1), .m 5 23]))))
def c72L1 : ACode := (.seq (.seq (.region [.m 6 4, .m 7 0, .o 8 (.b .leq 6 7)]) (.cond (.tmp 8) .skip (.exit 0))) (.seq (.block 1 [0, 4] (.seq (.seq (.region [.m 11 0, .m 12 4, .o 13 (.b .rem 11 12), .o 14 (.c .neq 13 0)]) (.cond (.tmp 14) (.exit 1) .skip)) (.seq (.region [.k 5 0]) (.seq (.block 2 [0, 4, 5] (.loop [0, 4, 5] c72L0)) (.seq (.seq (.region [.m 24 0, .o 25 (.c .eql 24 1)]) (.cond (.tmp 25) (.seq (.region [.m 26 4, .m 27 5, .m 2 26, .m 3 27]) .ret) .skip)) (.seq (.region [.k 2 0, .k 3 0]) .ret)))))) (.region [.m 9 4, .o 10 (.c .add 9 1), .m 4 10])))
def c72 : ACode := (.seq (.region [.k 2 0, .k 3 0]) (.seq (.seq (.region [.k 4 2]) (.block 0 [] (.loop [0, 4] c72L1))) (.seq (.region [.k 2 0, .k 3 0]) .ret)))
def F72 : AFun := ⟨c72, 1, 28, [(.tmp 2), (.tmp 3)]⟩
def K72 : Nat → List Nat × List Nat
  | 0 => ([0, 4], [])
  | 1 => ([], [0, 4])
  | 2 => ([0, 4, 5], [0, 4, 5])
  | 3 => ([], [0, 4, 5])
  | _ => ([], [])
theorem F72_ok : kj8 Try.prog K72 Try.f72 = some F72 := by kernel_rfl
/- 73: syndrome/syndromeref.full -/
def c73L0 : ACode := (.seq (.seq (.region [.m 11 7, .o 12 (.f 0 2), .o 13 (.l 12), .o 14 (.c .sub 13 1), .o 15 (.b .lss 11 14)]) (.cond (.tmp 15) .skip (.exit 0))) (.seq (.block 1 [1, 2, 5, 6, 7] (.seq (.seq (.region [.m 18 6, .o 19 (.c .eql 18 0), .m 20 19, .g 21 (.m 5) 20 false, .g 22 (.m 6) 20 false, .g 23 (.i 1 21 22) 20 false, .g 24 (.l 23) 20 false, .o 25 (.pick (.tmp 20) (.const (.bool true)) (.tmp 24))]) (.cond (.tmp 25) (.seq (.region [.o 4 (.mv (.const (.bool false)))]) .ret) .skip)) (.seq (.region [.m 26 5, .m 27 6, .o 28 (.i 1 26 27), .n (.st 1 (.tmp 28) (.const (.bool true)))]) (.region [.o 29 (.ld true 5 (.tmp 2)), .m 30 6, .m 31 1, .o 32 (.q 76 [29, 30, 31]), .m 6 32])))) (.region [.m 16 7, .o 17 (.c .add 16 1), .m 7 17])))
def c73 : ACode := (.seq (.region [.o 2 (.box 28 5 (.tmp 0)), .o 4 (.mv (.const (.bool false)))]) (.seq (.region [.o 8 (.f 0 2), .o 9 (.l 8), .o 10 (.mks 4 1 1 [(.bool false)] (.tmp 9) (.tmp 9)), .m 5 10]) (.seq (.region [.k 6 1]) (.seq (.seq (.region [.k 7 0]) (.block 0 [] (.loop [1, 2, 5, 6, 7] c73L0))) (.seq (.region [.o 4 (.mv (.const (.bool true)))]) .ret)))))
def F73 : AFun := ⟨c73, 2, 33, [(.tmp 4)]⟩
def K73 : Nat → List Nat × List Nat
  | 0 => ([1, 2, 5, 6, 7], [])
  | 1 => ([], [1, 2, 5, 6, 7])
  | _ => ([], [])
theorem F73_ok : kj8 Try.prog K73 Try.f73 = some F73 := by kernel_rfl
/- 74: syndrome/syndromeref.Digits -/
def c74L0 : ACode := (.seq (.seq (.region [.m 9 8, .m 10 2, .o 11 (.b .lss 9 10)]) (.cond (.tmp 11) .skip (.exit 0))) (.seq (.block 1 [0, 1, 2, 7, 8] (.seq (.region [.m 14 7, .m 15 0, .m 16 1, .o 17 (.b .rem 15 16), .o 18 (.mkSl 3 1 1 [(.tmp 17)]), .o 19 (.app 3 1 8 (.tmp 14) (.tmp 18)), .m 7 19]) (.region [.m 20 0, .m 21 1, .o 22 (.b .quo 20 21), .m 0 22]))) (.region [.m 12 8, .o 13 (.c .add 12 1), .m 8 13])))
def c74 : ACode := (.seq (.region [.o 6 (.mv (.const (.slice none 0 0)))]) (.seq (.region [.o 7 (.mv (.const (.slice none 0 0)))]) (.seq (.seq (.region [.k 8 0]) (.block 0 [7] (.loop [0, 1, 2, 7, 8] c74L0))) (.seq (.region [.m 23 7, .m 6 23]) .ret))))
def F74 : AFun := ⟨c74, 3, 24, [(.tmp 6)]⟩
def K74 : Nat → List Nat × List Nat
  | 0 => ([0, 1, 2, 7, 8], [7])
  | 1 => ([], [0, 1, 2, 7, 8])
  | _ => ([], [])
theorem F74_ok : kj8 Try.prog K74 Try.f74 = some F74 := by kernel_rfl
/- 75: (syndrome/syndromeref.F).Add -/
def c75L0 : ACode := (.seq (.seq (.region [.m 47 9, .o 48 (.f 2 3), .o 49 (.l 48), .o 50 (.b .lss 47 49)]) (.cond (.tmp 50) .skip (.exit 0))) (.seq (.block 1 [3, 7, 8, 9] (.region [.m 53 7, .m 54 9, .m 55 7, .m 56 9, .o 57 (.i 1 55 56), .o 58 (.l 57), .m 59 8, .m 60 9, .o 61 (.i 1 59 60), .o 62 (.l 61), .o 63 (.b .add 58 62), .o 64 (.f 1 3), .o 65 (.l 64), .o 66 (.b .rem 63 65), .o 67 (.i 1 53 54), .n (.st 1 (.tmp 67) (.tmp 66))])) (.region [.m 51 9, .o 52 (.c .add 51 1), .m 9 52])))
def c75 : ACode := (.seq (.region [.o 3 (.box 28 5 (.tmp 0)), .k 6 0]) (.seq (.seq (.region [.o 10 (.ld true 5 (.tmp 3)), .m 11 1, .o 12 (.q 71 [10, 11]), .o 13 (.un .not (.tmp 12)), .m 14 13, .g 15 (.ld true 5 (.tmp 3)) 14 false, .g 16 (.m 2) 14 false, .g 17 (.q 71 [15, 16]) 14 false, .g 18 (.un .not (.tmp 17)) 14 false, .o 19 (.pick (.tmp 14) (.const (.bool true)) (.tmp 18))]) (.cond (.tmp 19) (.seq (.region [.k 6 (-1)]) .ret) .skip)) (.seq (.seq (.region [.o 20 (.f 2 3), .o 21 (.l 20), .o 22 (.c .eql 21 1)]) (.cond (.tmp 22) (.seq (.region [.m 23 1, .m 24 2, .o 25 (.b .add 23 24), .o 26 (.f 1 3), .o 27 (.l 26), .o 28 (.b .rem 25 27), .m 6 28]) .ret) .skip)) (.seq (.seq (.region [.o 29 (.f 1 3), .o 30 (.l 29), .o 31 (.c .eql 30 2)]) (.cond (.tmp 31) (.seq (.region [.m 32 1, .m 33 2, .o 34 (.b .xor 32 33), .m 6 34]) .ret) .skip)) (.seq (.region [.m 35 1, .o 36 (.f 1 3), .o 37 (.l 36), .o 38 (.f 2 3), .o 39 (.l 38), .o 40 (.q 74 [35, 37, 39]), .m 7 40]) (.seq (.region [.m 41 2, .o 42 (.f 1 3), .o 43 (.l 42), .o 44 (.f 2 3), .o 45 (.l 44), .o 46 (.q 74 [41, 43, 45]), .m 8 46]) (.seq (.seq (.region [.k 9 0]) (.block 0 [3, 7] (.loop [3, 7, 8, 9] c75L0))) (.seq (.region [.m 68 7, .o 69 (.f 1 3), .o 70 (.l 69), .o 71 (.q 127 [68, 70]), .m 6 71]) .ret))))))))
def F75 : AFun := ⟨c75, 3, 72, [(.tmp 6)]⟩
def K75 : Nat → List Nat × List Nat
  | 0 => ([3, 7, 8, 9], [3, 7])
  | 1 => ([], [3, 7, 8, 9])
  | _ => ([], [])
theorem F75_ok : kj8 Try.prog K75 Try.f75 = some F75 := by kernel_rfl
/- 76: (syndrome/syndromeref.F).Mul -/
def c76L0 : ACode := (.seq (.seq (.region [.m 55 11, .o 56 (.f 2 3), .o 57 (.l 56), .o 58 (.b .lss 55 57)]) (.cond (.tmp 58) .skip (.exit 2))) (.seq (.block 3 [3, 7, 8, 9, 10, 11] (.region [.m 61 9, .m 62 10, .m 63 11, .o 64 (.b .add 62 63), .m 65 9, .m 66 10, .m 67 11, .o 68 (.b .add 66 67), .o 69 (.i 1 65 68), .o 70 (.l 69), .m 71 7, .m 72 10, .o 73 (.i 1 71 72), .o 74 (.l 73), .m 75 8, .m 76 11, .o 77 (.i 1 75 76), .o 78 (.l 77), .o 79 (.b .mul 74 78), .o 80 (.b .add 70 79), .o 81 (.f 1 3), .o 82 (.l 81), .o 83 (.b .rem 80 82), .o 84 (.i 1 61 64), .n (.st 1 (.tmp 84) (.tmp 83))])) (.region [.m 59 11, .o 60 (.c .add 59 1), .m 11 60])))
def c76L1 : ACode := (.seq (.seq (.region [.m 49 10, .o 50 (.f 2 3), .o 51 (.l 50), .o 52 (.b .lss 49 51)]) (.cond (.tmp 52) .skip (.exit 0))) (.seq (.block 1 [3, 7, 8, 9, 10] (.seq (.region [.k 11 0]) (.block 2 [3, 7, 8, 9, 10] (.loop [3, 7, 8, 9, 10, 11] c76L0)))) (.region [.m 53 10, .o 54 (.c .add 53 1), .m 10 54])))
def c76L2 : ACode := (.seq (.seq (.region [.m 95 13, .o 96 (.f 2 3), .o 97 (.l 96), .o 98 (.b .lss 95 97)]) (.cond (.tmp 98) .skip (.exit 6))) (.seq (.block 7 [3, 9, 12, 13] (.region [.m 101 9, .m 102 12, .o 103 (.f 2 3), .o 104 (.l 103), .o 105 (.b .sub 102 104), .m 106 13, .o 107 (.b .add 105 106), .m 108 9, .m 109 12, .o 110 (.f 2 3), .o 111 (.l 110), .o 112 (.b .sub 109 111), .m 113 13, .o 114 (.b .add 112 113), .o 115 (.i 1 108 114), .o 116 (.l 115), .m 117 9, .m 118 12, .o 119 (.i 1 117 118), .o 120 (.l 119), .o 121 (.f 1 3), .o 122 (.l 121), .o 123 (.f 4 3), .o 124 (.l 123), .m 125 13, .o 126 (.i 1 124 125), .o 127 (.l 126), .o 128 (.b .sub 122 127), .o 129 (.b .mul 120 128), .o 130 (.b .add 116 129), .o 131 (.f 1 3), .o 132 (.l 131), .o 133 (.b .rem 130 132), .o 134 (.i 1 101 107), .n (.st 1 (.tmp 134) (.tmp 133))])) (.region [.m 99 13, .o 100 (.c .add 99 1), .m 13 100])))
def c76L3 : ACode := (.seq (.seq (.region [.m 89 12, .o 90 (.f 2 3), .o 91 (.l 90), .o 92 (.b .geq 89 91)]) (.cond (.tmp 92) .skip (.exit 4))) (.seq (.block 5 [3, 9, 12] (.seq (.seq (.region [.k 13 0]) (.block 6 [3, 9, 12] (.loop [3, 9, 12, 13] c76L2))) (.region [.m 135 9, .m 136 12, .o 137 (.i 1 135 136), .n (.st 1 (.tmp 137) (.const (.int .i64 0)))]))) (.region [.m 93 12, .o 94 (.c .sub 93 1), .m 12 94])))
def c76 : ACode := (.seq (.region [.o 3 (.box 28 5 (.tmp 0)), .k 6 0]) (.seq (.seq (.region [.o 14 (.ld true 5 (.tmp 3)), .m 15 1, .o 16 (.q 71 [14, 15]), .o 17 (.un .not (.tmp 16)), .m 18 17, .g 19 (.ld true 5 (.tmp 3)) 18 false, .g 20 (.m 2) 18 false, .g 21 (.q 71 [19, 20]) 18 false, .g 22 (.un .not (.tmp 21)) 18 false, .o 23 (.pick (.tmp 18) (.const (.bool true)) (.tmp 22))]) (.cond (.tmp 23) (.seq (.region [.k 6 (-1)]) .ret) .skip)) (.seq (.seq (.region [.o 24 (.f 2 3), .o 25 (.l 24), .o 26 (.c .eql 25 1)]) (.cond (.tmp 26) (.seq (.region [.m 27 1, .m 28 2, .o 29 (.b .mul 27 28), .o 30 (.f 1 3), .o 31 (.l 30), .o 32 (.b .rem 29 31), .m 6 32]) .ret) .skip)) (.seq (.region [.m 33 1, .o 34 (.f 1 3), .o 35 (.l 34), .o 36 (.f 2 3), .o 37 (.l 36), .o 38 (.q 74 [33, 35, 37]), .m 7 38]) (.seq (.region [.m 39 2, .o 40 (.f 1 3), .o 41 (.l 40), .o 42 (.f 2 3), .o 43 (.l 42), .o 44 (.q 74 [39, 41, 43]), .m 8 44]) (.seq (.region [.o 45 (.f 2 3), .o 46 (.l 45), .o 47 (.bin .mul (.const (.int .i64 2)) (.tmp 46)), .o 48 (.mks 3 1 8 [(.int .i64 0)] (.tmp 47) (.tmp 47)), .m 9 48]) (.seq (.seq (.region [.k 10 0]) (.block 0 [3, 9] (.loop [3, 7, 8, 9, 10] c76L1))) (.seq (.seq (.region [.o 85 (.f 2 3), .o 86 (.l 85), .o 87 (.bin .mul (.const (.int .i64 2)) (.tmp 86)), .o 88 (.c .sub 87 1), .m 12 88]) (.block 4 [3, 9] (.loop [3, 9, 12] c76L3))) (.seq (.region [.m 138 9, .o 139 (.f 2 3), .o 140 (.l 139), .o 141 (.sl 1 (.tmp 138) none (some (.tmp 140))), .o 142 (.f 1 3), .o 143 (.l 142), .o 144 (.q 127 [141, 143]), .m 6 144]) .ret)))))))))
def F76 : AFun := ⟨c76, 3, 145, [(.tmp 6)]⟩
def K76 : Nat → List Nat × List Nat
  | 0 => ([3, 7, 8, 9, 10], [3, 9])
  | 1 => ([], [3, 7, 8, 9, 10])
  | 2 => ([3, 7, 8, 9, 10, 11], [3, 7, 8, 9, 10])
  | 3 => ([], [3, 7, 8, 9, 10, 11])
  | 4 => ([3, 9, 12], [3, 9])
  | 5 => ([], [3, 9, 12])
  | 6 => ([3, 9, 12, 13], [3, 9, 12])
  | 7 => ([], [3, 9, 12, 13])
  | _ => ([], [])
theorem F76_ok : kj8 Try.prog K76 Try.f76 = some F76 := by kernel_rfl
/- 77: syndrome/field.New -/
def b90 : List Value := [(.int .u32 0), (.int .i32 0), (.int .u32 0), (.int .u32 0), (.int .i32 0), (.int .u32 0), (.int .u32 0), (.int .i32 0), (.int .u32 0), (.int .u32 0), (.int .i32 0), (.int .u32 0), (.int .u32 0), (.int .i32 0), (.int .u32 0), (.int .u32 0), (.int .i32 0), (.int .u32 0), (.int .u32 0), (.int .i32 0), (.int .u32 0), (.int .u32 0), (.int .i32 0), (.int .u32 0), (.int .u32 0), (.int .i32 0), (.int .u32 0), (.int .u32 0), (.int .i32 0), (.int .u32 0), (.int .u32 0), (.int .i32 0), (.int .u32 0), (.int .u32 0), (.int .i32 0), (.int .u32 0), (.int .u32 0), (.int .i32 0), (.int .u32 0), (.int .u32 0), (.int .i32 0), (.int .u32 0), (.int .u32 0), (.int .i32 0), (.int .u32 0), (.int .u32 0), (.int .i32 0), (.int .u32 0), (.int .u32 0), (.int .i32 0), (.int .u32 0), (.int .u32 0), (.int .i32 0), (.int .u32 0), (.int .u32 0), (.int .i32 0), (.int .u32 0), (.int .u32 0), (.int .i32 0), (.int .u32 0), (.int .u32 0), (.int .i32 0), (.int .u32 0), (.int .u32 0), (.int .i32 0), (.int .u32 0), (.int .u32 0), (.int .i32 0), (.int .u32 0), (.int .u32 0), (.int .i32 0), (.int .u32 0), (.int .u32 0), (.int .i32 0), (.int .u32 0), (.int .u32 0), (.int .i32 0), (.int .u32 0), (.int .u32 0), (.int .i32 0), (.int .u32 0), (.int .u32 0), (.int .i32 0), (.int .u32 0), (.int .u32 0), (.int .i32 0), (.int .u32 0), (.int .u32 0), (.int .i32 0), (.int .u32 0), (.int .u32 0), (.int .i32 0), (.int .u32 0), (.int .u32 0), (.int .i32 0), (.int .u32 0), (.int .u32 0), (.int .i32 0), (.int .u32 0), (.int .u32 0), (.int .i32 0), (.int .u32 0), (.int .u32 0), (.int .i32 0), (.int .u32 0), (.int .u32 0), (.int .i32 0), (.int .u32 0), (.int .u32 0), (.int .i32 0), (.int .u32 0), (.int .u32 0), (.int .i32 0), (.int .u32 0), (.int .u32 0), (.int .i32 0), (.int .u32 0), (.int .u32 0), (.int .i32 0), (.int .u32 0), (.int .u32 0), (.int .i32 0), (.int .u32 0), (.int .u32 0), (.int .i32 0), (.int .u32 0), (.int .u32 0), (.int .i32 0), (.int .u32 0), (.int .u32 0), (.int .i32 0), (.int .u32 0), (.int .u32 0), (.int .i32 0), (.int .u32 0), (.int .u32 0), (.int .i32 0), (.int .u32 0), (.int .u32 0), (.int .i32 0), (.int .u32 0), (.int .u32 0), (.int .i32 0), (.int .u32 0), (.int .u32 0), (.int .i32 0), (.int .u32 0), (.int .u32 0), (.int .i32 0), (.int .u32 0), (.int .u32 0), (.int .i32 0), (.int .u32 0), (.int .u32 0), (.int .i32 0), (.int .u32 0), (.int .u32 0), (.int .i32 0), (.int .u32 0), (.int .u32 0), (.int .i32 0), (.int .u32 0), (.int .u32 0), (.int .i32 0), (.int .u32 0), (.int .u32 0), (.int .i32 0), (.int .u32 0), (.int .u32 0), (.int .i32 0), (.int .u32 0), (.int .u32 0), (.int .i32 0), (.int .u32 0), (.int .u32 0), (.int .i32 0), (.int .u32 0), (.int .u32 0), (.int .i32 0), (.int .u32 0), (.int .u32 0), (.int .i32 0), (.int .u32 0), (.int .u32 0), (.int .i32 0), (.int .u32 0), (.int .u32 0), (.int .i32 0), (.int .u32 0), (.int .u32 0), (.int .i32 0), (.int .u32 0), (.int .u32 0), (.int .i32 0), (.int .u32 0), (.pointer none), (.pointer none), (.pointer none), (.pointer none), (.pointer none), (.pointer none), (.pointer none), (.pointer none), (.pointer none), (.pointer none), (.pointer none), (.pointer none), (.pointer none), (.pointer none), (.pointer none), (.pointer none), (.pointer none), (.pointer none), (.pointer none), (.pointer none), (.pointer none), (.pointer none), (.pointer none), (.pointer none), (.pointer none), (.pointer none), (.pointer none), (.pointer none), (.pointer none), (.pointer none), (.pointer none), (.pointer none), (.pointer none), (.pointer none), (.pointer none), (.pointer none), (.pointer none), (.pointer none), (.pointer none), (.pointer none), (.pointer none), (.pointer none), (.pointer none), (.pointer none), (.pointer none), (.pointer none), (.pointer none), (.pointer none), (.pointer none), (.pointer none), (.pointer none), (.pointer none), (.pointer none), (.pointer none), (.pointer none), (.pointer none), (.pointer none), (.pointer none), (.pointer none), (.pointer none), (.pointer none), (.pointer none), (.pointer none), (.pointer none), (.pointer none)]
def c77 : ACode := (.seq (.region [.o 1 (.box 3 1 (.tmp 0)), .o 2 (.mv (.const (.pointer none))), .k 3 0]) (.seq (.seq (.region [.o 5 (.l 1), .o 6 (.c .lss 5 2), .m 7 6, .g 8 (.l 1) 7 false, .g 9 (.c .gtr 8 64) 7 false, .o 10 (.pick (.tmp 7) (.const (.bool true)) (.tmp 9))]) (.cond (.tmp 10) (.seq (.region [.o 2 (.mv (.const (.pointer none))), .k 3 1]) .ret) .skip)) (.seq (.region [.o 4 (.alloc 152 b90)]) (.seq (.region [.o 11 (.l 1), .o 12 (.f 0 4), .o 13 (.iaddrA 65 3 (.tmp 12) (.tmp 11)), .o 14 (.mkf 129 [(.tmp 1), (.tmp 4)]), .o 15 (.q 128 [13, 14])]) (.seq (.seq (.region [.o 16 (.l 1), .o 17 (.f 195 4), .o 18 (.iaddrA 65 1 (.tmp 17) (.tmp 16)), .o 19 (.l 18), .o 20 (.eqn false 1 (.tmp 19))]) (.cond (.tmp 20) (.seq (.region [.o 2 (.mv (.const (.pointer none))), .k 3 1]) .ret) .skip)) (.seq (.region [.o 21 (.l 1), .o 22 (.f 195 4), .o 23 (.iaddrA 65 1 (.tmp 22) (.tmp 21)), .o 24 (.l 23), .m 2 24, .k 3 0]) .ret))))))
def F77 : AFun := ⟨c77, 1, 25, [(.tmp 2), (.tmp 3)]⟩
def K77 : Nat → List Nat × List Nat
  | _ => ([], [])
theorem F77_ok : kj8 Try.prog K77 Try.f77 = some F77 := by kernel_rfl
/- 78: (*syndrome/field.Field).Add -/
def c78L0 : ACode := (.seq (.region [.o 24 (.b .lss 23 22)]) (.seq (.cond (.tmp 24) .skip (.exit 0)) (.seq (.block 1 [0, 1, 2, 7, 8, 22, 23] (.seq (.region [.m 25 7, .m 26 1, .m 27 0, .o 28 (.nilck (.tmp 27)), .o 29 (.f 1 28), .o 30 (.l 29), .o 31 (.b .rem 26 30), .m 32 2, .m 33 0, .o 34 (.nilck (.tmp 33)), .o 35 (.f 1 34), .o 36 (.l 35), .o 37 (.b .rem 32 36), .o 38 (.b .add 31 37), .m 39 0, .o 40 (.nilck (.tmp 39)), .o 41 (.f 1 40), .o 42 (.l 41), .o 43 (.b .rem 38 42), .m 44 8, .o 45 (.b .mul 43 44), .o 46 (.b .add 25 45), .m 7 46]) (.region [.m 47 1, .m 48 0, .o 49 (.nilck (.tmp 48)), .o 50 (.f 1 49), .o 51 (.l 50), .o 52 (.b .quo 47 51), .m 53 2, .m 54 0, .o 55 (.nilck (.tmp 54)), .o 56 (.f 1 55), .o 57 (.l 56), .o 58 (.b .quo 53 57), .m 59 8, .m 60 0, .o 61 (.nilck (.tmp 60)), .o 62 (.f 1 61), .o 63 (.l 62), .o 64 (.b .mul 59 63), .m 1 52, .m 2 58, .m 8 64]))) (.region [.o 65 (.c .add 23 1), .m 23 65]))))
def c78 : ACode := (.seq (.region [.k 6 0]) (.seq (.seq (.region [.m 9 0, .m 10 1, .o 11 (.q 82 [9, 10]), .o 12 (.un .not (.tmp 11)), .m 13 12, .g 14 (.m 0) 13 false, .g 15 (.m 2) 13 false, .g 16 (.q 82 [14, 15]) 13 false, .g 17 (.un .not (.tmp 16)) 13 false, .o 18 (.pick (.tmp 13) (.const (.bool true)) (.tmp 17))]) (.cond (.tmp 18) (.seq (.region [.k 6 (-1)]) .ret) .skip)) (.seq (.region [.k 7 0, .k 8 1]) (.seq (.seq (.region [.m 19 0, .o 20 (.nilck (.tmp 19)), .o 21 (.f 2 20), .o 22 (.l 21), .k 23 0]) (.block 0 [7] (.loop [0, 1, 2, 7, 8, 22, 23] c78L0))) (.seq (.region [.m 66 7, .m 6 66]) .ret)))))
def F78 : AFun := ⟨c78, 3, 67, [(.tmp 6)]⟩
def K78 : Nat → List Nat × List Nat
  | 0 => ([0, 1, 2, 7, 8, 22, 23], [7])
  | 1 => ([], [0, 1, 2, 7, 8, 22, 23])
  | _ => ([], [])
theorem F78_ok : kj8 Try.prog K78 Try.f78 = some F78 := by kernel_rfl
/- 79: (*syndrome/field.Field).Mul -/
def c79 : ACode := (.seq (.region [.k 6 0]) (.seq (.seq (.region [.m 7 0, .m 8 1, .o 9 (.q 82 [7, 8]), .o 10 (.un .not (.tmp 9)), .m 11 10, .g 12 (.m 0) 11 false, .g 13 (.m 2) 11 false, .g 14 (.q 82 [12, 13]) 11 false, .g 15 (.un .not (.tmp 14)) 11 false, .o 16 (.pick (.tmp 11) (.const (.bool true)) (.tmp 15))]) (.cond (.tmp 16) (.seq (.region [.k 6 (-1)]) .ret) .skip)) (.seq (.seq (.region [.m 17 1, .o 18 (.c .eql 17 0), .m 19 18, .g 20 (.m 2) 19 false, .g 21 (.c .eql 20 0) 19 false, .o 22 (.pick (.tmp 19) (.const (.bool true)) (.tmp 21))]) (.cond (.tmp 22) (.seq (.region [.k 6 0]) .ret) .skip)) (.seq (.region [.m 23 0, .o 24 (.nilck (.tmp 23)), .o 25 (.f 5 24), .o 26 (.l 25), .m 27 0, .o 28 (.nilck (.tmp 27)), .o 29 (.f 6 28), .o 30 (.l 29), .m 31 1, .o 32 (.i 1 30 31), .o 33 (.l 32), .m 34 0, .o 35 (.nilck (.tmp 34)), .o 36 (.f 6 35), .o 37 (.l 36), .m 38 2, .o 39 (.i 1 37 38), .o 40 (.l 39), .o 41 (.b .add 33 40), .m 42 0, .o 43 (.nilck (.tmp 42)), .o 44 (.f 0 43), .o 45 (.l 44), .o 46 (.c .sub 45 1), .o 47 (.b .rem 41 46), .o 48 (.i 1 26 47), .o 49 (.l 48), .m 6 49]) .ret))))
def F79 : AFun := ⟨c79, 3, 50, [(.tmp 6)]⟩
def K79 : Nat → List Nat × List Nat
  | _ => ([], [])
theorem F79_ok : kj8 Try.prog K79 Try.f79 = some F79 := by kernel_rfl
/- 80: slices.ContainsFunc[[]int,int] -/
def c80 : ACode := (.seq (.region [.o 4 (.mv (.const (.bool false)))]) (.seq (.region [.m 5 0, .m 6 1, .o 7 (.q 131 [5, 6]), .o 8 (.c .geq 7 0), .m 4 8]) .ret))
def F80 : AFun := ⟨c80, 2, 9, [(.tmp 4)]⟩
def K80 : Nat → List Nat × List Nat
  | _ => ([], [])
theorem F80_ok : kj8 Try.prog K80 Try.f80 = some F80 := by kernel_rfl
/- 81: syndrome/matrix.Check$1 -/
def c81 : ACode := (.seq (.region [.o 3 (.mv (.const (.bool false)))]) (.seq (.region [.o 4 (.l 1), .m 5 0, .o 6 (.q 82 [4, 5]), .o 7 (.un .not (.tmp 6)), .m 3 7]) .ret))
def F81 : AFun := ⟨c81, 2, 8, [(.tmp 3)]⟩
def K81 : Nat → List Nat × List Nat
  | _ => ([], [])
theorem F81_ok : kj8 Try.prog K81 Try.f81 = some F81 := by kernel_rfl
/- 82: (*syndrome/field.Field).Has -/
def c82 : ACode := (.seq (.region [.o 4 (.mv (.const (.bool false)))]) (.seq (.region [.m 5 1, .o 6 (.c .geq 5 0), .m 7 6, .g 8 (.m 1) 7 true, .g 9 (.m 0) 7 true, .g 10 (.nilck (.tmp 9)) 7 true, .g 11 (.f 0 10) 7 true, .g 12 (.l 11) 7 true, .g 13 (.b .lss 8 12) 7 true, .o 14 (.pick (.tmp 7) (.tmp 13) (.const (.bool false))), .m 4 14]) .ret))
def F82 : AFun := ⟨c82, 2, 15, [(.tmp 4)]⟩
def K82 : Nat → List Nat × List Nat
  | _ => ([], [])
theorem F82_ok : kj8 Try.prog K82 Try.f82 = some F82 := by kernel_rfl
/- 83: syndrome/syndromeref.SameAll -/
def c83L0 : ACode := (.seq (.seq (.region [.m 11 5, .m 12 0, .o 13 (.n 12), .o 14 (.b .lss 11 13)]) (.cond (.tmp 14) .skip (.exit 0))) (.seq (.block 1 [0, 1, 5] (.seq (.region [.m 17 0, .m 18 5, .o 19 (.i 1 17 18), .o 20 (.l 19), .m 21 1, .m 22 5, .o 23 (.i 1 21 22), .o 24 (.l 23), .o 25 (.q 58 [20, 24]), .o 26 (.un .not (.tmp 25))]) (.cond (.tmp 26) (.seq (.region [.o 4 (.mv (.const (.bool false)))]) .ret) .skip))) (.region [.m 15 5, .o 16 (.c .add 15 1), .m 5 16])))
def c83 : ACode := (.seq (.region [.o 4 (.mv (.const (.bool false)))]) (.seq (.seq (.region [.m 6 0, .o 7 (.n 6), .m 8 1, .o 9 (.n 8), .o 10 (.b .neq 7 9)]) (.cond (.tmp 10) (.seq (.region [.o 4 (.mv (.const (.bool false)))]) .ret) .skip)) (.seq (.seq (.region [.k 5 0]) (.block 0 [] (.loop [0, 1, 5] c83L0))) (.seq (.region [.o 4 (.mv (.const (.bool true)))]) .ret))))
def F83 : AFun := ⟨c83, 2, 27, [(.tmp 4)]⟩
def K83 : Nat → List Nat × List Nat
  | 0 => ([0, 1, 5], [])
  | 1 => ([], [0, 1, 5])
  | _ => ([], [])
theorem F83_ok : kj8 Try.prog K83 Try.f83 = some F83 := by kernel_rfl
/- 103: syndrome/syndromeref.Few -/
def c103L0 : ACode := (.seq (.seq (.region [.m 7 6, .m 8 1, .o 9 (.b .lss 7 8)]) (.cond (.tmp 9) .skip (.exit 0))) (.seq (.block 1 [0, 1, 5, 6] (.seq (.region [.m 12 5, .m 13 0, .o 14 (.b .mul 12 13), .m 5 14]) (.seq (.region [.m 15 5, .o 16 (.c .gtr 15 4096)]) (.cond (.tmp 16) (.seq (.region [.o 4 (.mv (.const (.bool false)))]) .ret) .skip)))) (.region [.m 10 6, .o 11 (.c .add 10 1), .m 6 11])))
def c103 : ACode := (.seq (.region [.o 4 (.mv (.const (.bool false)))]) (.seq (.region [.k 5 1]) (.seq (.seq (.region [.k 6 0]) (.block 0 [] (.loop [0, 1, 5, 6] c103L0))) (.seq (.region [.o 4 (.mv (.const (.bool true)))]) .ret))))
def F103 : AFun := ⟨c103, 2, 17, [(.tmp 4)]⟩
def K103 : Nat → List Nat × List Nat
  | 0 => ([0, 1, 5, 6], [])
  | 1 => ([], [0, 1, 5, 6])
  | _ => ([], [])
theorem F103_ok : kj8 Try.prog K103 Try.f103 = some F103 := by kernel_rfl
/- 109: syndrome/code.word -/
def c109 : ACode := (.seq (.region [.o 2 (.box 43 3 (.tmp 0)), .k 4 0]) (.seq (.seq (.region [.m 7 1, .o 8 (.n 7), .o 9 (.f 1 2), .o 10 (.l 9), .o 11 (.b .neq 8 10)]) (.cond (.tmp 11) (.seq (.region [.k 4 6]) .ret) .skip)) (.seq (.region [.o 13 (.f 0 2), .o 14 (.l 13), .o 15 (.q 77 [14]), .m 12 15, .o 16 (.e 0 12), .o 17 (.e 1 12), .o 5 (.alloc 107 [(.pointer none)]), .n (.st 1 (.tmp 5) (.tmp 16)), .m 6 17]) (.seq (.seq (.region [.m 18 1, .o 19 (.mkf 145 [(.tmp 5)]), .o 20 (.q 80 [18, 19])]) (.cond (.tmp 20) (.seq (.region [.k 4 2]) .ret) .skip)) (.seq (.region [.k 4 0]) .ret)))))
def F109 : AFun := ⟨c109, 2, 21, [(.tmp 4)]⟩
def K109 : Nat → List Nat × List Nat
  | _ => ([], [])
theorem F109_ok : kj8 Try.prog K109 Try.f109 = some F109 := by kernel_rfl
/- 114: slices.Contains[[]int,int] -/
def c114 : ACode := (.seq (.region [.o 4 (.mv (.const (.bool false)))]) (.seq (.region [.m 5 0, .m 6 1, .o 7 (.q 149 [5, 6]), .o 8 (.c .geq 7 0), .m 4 8]) .ret))
def F114 : AFun := ⟨c114, 2, 9, [(.tmp 4)]⟩
def K114 : Nat → List Nat × List Nat
  | _ => ([], [])
theorem F114_ok : kj8 Try.prog K114 Try.f114 = some F114 := by kernel_rfl
/- 115: (*syndrome/field.Field).Neg -/
def c115L0 : ACode := (.seq (.region [.o 16 (.b .lss 15 14)]) (.seq (.cond (.tmp 16) .skip (.exit 0)) (.seq (.block 1 [0, 1, 5, 6, 14, 15] (.seq (.region [.m 17 5, .m 18 0, .o 19 (.nilck (.tmp 18)), .o 20 (.f 1 19), .o 21 (.l 20), .m 22 1, .m 23 0, .o 24 (.nilck (.tmp 23)), .o 25 (.f 1 24), .o 26 (.l 25), .o 27 (.b .rem 22 26), .o 28 (.b .sub 21 27), .m 29 0, .o 30 (.nilck (.tmp 29)), .o 31 (.f 1 30), .o 32 (.l 31), .o 33 (.b .rem 28 32), .m 34 6, .o 35 (.b .mul 33 34), .o 36 (.b .add 17 35), .m 5 36]) (.region [.m 37 1, .m 38 0, .o 39 (.nilck (.tmp 38)), .o 40 (.f 1 39), .o 41 (.l 40), .o 42 (.b .quo 37 41), .m 43 6, .m 44 0, .o 45 (.nilck (.tmp 44)), .o 46 (.f 1 45), .o 47 (.l 46), .o 48 (.b .mul 43 47), .m 1 42, .m 6 48]))) (.region [.o 49 (.c .add 15 1), .m 15 49]))))
def c115 : ACode := (.seq (.region [.k 4 0]) (.seq (.seq (.region [.m 7 0, .m 8 1, .o 9 (.q 82 [7, 8]), .o 10 (.un .not (.tmp 9))]) (.cond (.tmp 10) (.seq (.region [.k 4 (-1)]) .ret) .skip)) (.seq (.region [.k 5 0, .k 6 1]) (.seq (.seq (.region [.m 11 0, .o 12 (.nilck (.tmp 11)), .o 13 (.f 2 12), .o 14 (.l 13), .k 15 0]) (.block 0 [5] (.loop [0, 1, 5, 6, 14, 15] c115L0))) (.seq (.region [.m 50 5, .m 4 50]) .ret)))))
def F115 : AFun := ⟨c115, 2, 51, [(.tmp 4)]⟩
def K115 : Nat → List Nat × List Nat
  | 0 => ([0, 1, 5, 6, 14, 15], [5])
  | 1 => ([], [0, 1, 5, 6, 14, 15])
  | _ => ([], [])
theorem F115_ok : kj8 Try.prog K115 Try.f115 = some F115 := by kernel_rfl
/- 116: syndrome/matrix.clone -/
def c116L0 : ACode := (.seq (.region [.o 12 (.b .lss 11 10)]) (.seq (.cond (.tmp 12) .skip (.exit 0)) (.seq (.block 1 [3, 9, 10, 11] (.seq (.region [.m 13 11, .o 14 (.i 1 9 11), .o 15 (.l 14), .m 4 13, .m 5 15]) (.region [.m 16 3, .m 17 4, .m 18 5, .o 19 (.q 150 [18]), .o 20 (.i 1 16 17), .n (.st 1 (.tmp 20) (.tmp 19))]))) (.region [.o 21 (.c .add 11 1), .m 11 21]))))
def c116 : ACode := (.seq (.region [.o 2 (.mv (.const (.slice none 0 0)))]) (.seq (.region [.m 6 0, .o 7 (.n 6), .o 8 (.mks 23 1 24 [(.slice none 0 0)] (.tmp 7) (.tmp 7)), .m 3 8]) (.seq (.seq (.region [.m 9 0, .o 10 (.n 9), .k 11 0]) (.block 0 [3] (.loop [3, 9, 10, 11] c116L0))) (.seq (.region [.m 22 3, .m 2 22]) .ret))))
def F116 : AFun := ⟨c116, 1, 23, [(.tmp 2)]⟩
def K116 : Nat → List Nat × List Nat
  | 0 => ([3, 9, 10, 11], [3])
  | 1 => ([], [3, 9, 10, 11])
  | _ => ([], [])
theorem F116_ok : kj8 Try.prog K116 Try.f116 = some F116 := by kernel_rfl
/- 117: slices.IndexFunc[[][]int,[]int] -/
def c117L0 : ACode := (.seq (.region [.o 9 (.b .lss 8 7)]) (.seq (.cond (.tmp 9) .skip (.exit 0)) (.seq (.block 1 [0, 1, 7, 8] (.seq (.region [.m 10 8, .m 5 10]) (.seq (.region [.m 11 1, .m 12 0, .m 13 5, .o 14 (.i 1 12 13), .o 15 (.l 14), .o 16 (.calld (.tmp 11) [(.tmp 15)])]) (.cond (.tmp 16) (.seq (.region [.m 17 5, .m 4 17]) .ret) .skip)))) (.region [.o 18 (.c .add 8 1), .m 8 18]))))
def c117 : ACode := (.seq (.region [.k 4 0]) (.seq (.seq (.region [.m 6 0, .o 7 (.n 6), .k 8 0]) (.block 0 [] (.loop [0, 1, 7, 8] c117L0))) (.seq (.region [.k 4 (-1)]) .ret)))
def F117 : AFun := ⟨c117, 2, 19, [(.tmp 4)]⟩
def K117 : Nat → List Nat × List Nat
  | 0 => ([0, 1, 7, 8], [])
  | 1 => ([], [0, 1, 7, 8])
  | _ => ([], [])
theorem F117_ok : kj8 Try.prog K117 Try.f117 = some F117 := by kernel_rfl
/- 118: syndrome/matrix.Reduce$1 -/
def c118 : ACode := (.seq (.region [.o 3 (.mv (.const (.bool false)))]) (.seq (.region [.m 4 0, .o 5 (.l 1), .o 6 (.i 1 4 5), .o 7 (.l 6), .o 8 (.c .neq 7 0), .m 3 8]) .ret))
def F118 : AFun := ⟨c118, 2, 9, [(.tmp 3)]⟩
def K118 : Nat → List Nat × List Nat
  | _ => ([], [])
theorem F118_ok : kj8 Try.prog K118 Try.f118 = some F118 := by kernel_rfl
/- 119: syndrome/matrix.scale -/
def c119L0 : ACode := (.seq (.region [.o 10 (.b .lss 9 8)]) (.seq (.cond (.tmp 10) .skip (.exit 0)) (.seq (.block 1 [0, 1, 2, 8, 9] (.seq (.region [.m 11 9, .m 6 11]) (.region [.m 12 1, .m 13 6, .m 14 0, .m 15 1, .m 16 6, .o 17 (.i 1 15 16), .o 18 (.l 17), .m 19 2, .o 20 (.q 79 [14, 18, 19]), .o 21 (.i 1 12 13), .n (.st 1 (.tmp 21) (.tmp 20))]))) (.region [.o 22 (.c .add 9 1), .m 9 22]))))
def c119 : ACode := (.seq (.region [.m 7 1, .o 8 (.n 7), .k 9 0]) (.block 0 [] (.loop [0, 1, 2, 8, 9] c119L0)))
def F119 : AFun := ⟨c119, 3, 23, []⟩
def K119 : Nat → List Nat × List Nat
  | 0 => ([0, 1, 2, 8, 9], [])
  | 1 => ([], [0, 1, 2, 8, 9])
  | _ => ([], [])
theorem F119_ok : kj8 Try.prog K119 Try.f119 = some F119 := by kernel_rfl
/- 120: (*syndrome/field.Field).Inv -/
def c120 : ACode := (.seq (.region [.k 4 0]) (.seq (.seq (.region [.m 5 0, .m 6 1, .o 7 (.q 82 [5, 6]), .o 8 (.un .not (.tmp 7)), .m 9 8, .g 10 (.m 1) 9 false, .g 11 (.c .eql 10 0) 9 false, .o 12 (.pick (.tmp 9) (.const (.bool true)) (.tmp 11))]) (.cond (.tmp 12) (.seq (.region [.k 4 (-1)]) .ret) .skip)) (.seq (.region [.m 13 0, .o 14 (.nilck (.tmp 13)), .o 15 (.f 5 14), .o 16 (.l 15), .m 17 0, .o 18 (.nilck (.tmp 17)), .o 19 (.f 0 18), .o 20 (.l 19), .o 21 (.c .sub 20 1), .m 22 0, .o 23 (.nilck (.tmp 22)), .o 24 (.f 6 23), .o 25 (.l 24), .m 26 1, .o 27 (.i 1 25 26), .o 28 (.l 27), .o 29 (.b .sub 21 28), .m 30 0, .o 31 (.nilck (.tmp 30)), .o 32 (.f 0 31), .o 33 (.l 32), .o 34 (.c .sub 33 1), .o 35 (.b .rem 29 34), .o 36 (.i 1 16 35), .o 37 (.l 36), .m 4 37]) .ret)))
def F120 : AFun := ⟨c120, 2, 38, [(.tmp 4)]⟩
def K120 : Nat → List Nat × List Nat
  | _ => ([], [])
theorem F120_ok : kj8 Try.prog K120 Try.f120 = some F120 := by kernel_rfl
/- 121: syndrome/matrix.less -/
def c121L0 : ACode := (.seq (.region [.o 12 (.b .lss 11 10)]) (.seq (.cond (.tmp 12) .skip (.exit 0)) (.seq (.block 1 [0, 1, 2, 3, 10, 11] (.seq (.region [.m 13 11, .m 8 13]) (.region [.m 14 1, .m 15 8, .m 16 0, .m 17 1, .m 18 8, .o 19 (.i 1 17 18), .o 20 (.l 19), .m 21 0, .m 22 3, .m 23 2, .m 24 8, .o 25 (.i 1 23 24), .o 26 (.l 25), ⟨(some 27), (.call 79 [(.tmp 21), (.tmp 22), (.tmp 26)]), none, true⟩, .o 28 (.q 151 [16, 20, 27]), .o 29 (.i 1 14 15), .n (.st 1 (.tmp 29) (.tmp 28))]))) (.region [.o 30 (.c .add 11 1), .m 11 30]))))
def c121 : ACode := (.seq (.region [.m 9 1, .o 10 (.n 9), .k 11 0]) (.block 0 [] (.loop [0, 1, 2, 3, 10, 11] c121L0)))
def F121 : AFun := ⟨c121, 4, 31, []⟩
def K121 : Nat → List Nat × List Nat
  | 0 => ([0, 1, 2, 3, 10, 11], [])
  | 1 => ([], [0, 1, 2, 3, 10, 11])
  | _ => ([], [])
theorem F121_ok : kj8 Try.prog K121 Try.f121 = some F121 := by kernel_rfl
/- 122: syndrome/code.Check -/
def c122 : ACode := (.seq (.region [.o 1 (.box 43 3 (.tmp 0)), .k 2 0]) (.seq (.seq (.region [.o 7 (.f 0 1), .o 8 (.l 7), .o 9 (.q 77 [8]), .m 6 9, .o 10 (.e 0 6), .o 11 (.e 1 6), .m 3 10, .m 4 11]) (.seq (.region [.m 12 4, .o 13 (.c .neq 12 0)]) (.cond (.tmp 13) (.seq (.region [.m 14 4, .m 2 14]) .ret) .skip))) (.seq (.seq (.region [.o 15 (.f 1 1), .o 16 (.l 15), .o 17 (.c .lss 16 1), .m 18 17, .g 19 (.f 1 1) 18 false, .g 20 (.l 19) 18 false, .g 21 (.c .gtr 20 64) 18 false, .o 22 (.pick (.tmp 18) (.const (.bool true)) (.tmp 21))]) (.cond (.tmp 22) (.seq (.region [.k 2 4]) .ret) .skip)) (.seq (.seq (.region [.o 23 (.f 0 1), .o 24 (.l 23), .o 25 (.f 2 1), .o 26 (.l 25), .o 27 (.q 19 [24, 26]), .m 5 27]) (.seq (.region [.m 28 5, .o 29 (.c .neq 28 0)]) (.cond (.tmp 29) (.seq (.region [.m 30 5, .m 2 30]) .ret) .skip))) (.seq (.seq (.region [.o 31 (.f 2 1), .o 32 (.l 31), .o 33 (.n 32), .o 34 (.c .gtr 33 0), .m 35 34, .g 36 (.f 2 1) 35 true, .g 37 (.l 36) 35 true, .g 38 (.iaddr 1 (.tmp 37) (.const (.int .i64 0))) 35 true, .g 39 (.l 38) 35 true, .g 40 (.n 39) 35 true, .g 41 (.f 1 1) 35 true, .g 42 (.l 41) 35 true, .g 43 (.b .neq 40 42) 35 true, .o 44 (.pick (.tmp 35) (.tmp 43) (.const (.bool false)))]) (.cond (.tmp 44) (.seq (.region [.k 2 3]) .ret) .skip)) (.seq (.region [.k 2 0]) .ret))))))
def F122 : AFun := ⟨c122, 1, 45, [(.tmp 2)]⟩
def K122 : Nat → List Nat × List Nat
  | _ => ([], [])
theorem F122_ok : kj8 Try.prog K122 Try.f122 = some F122 := by kernel_rfl
/- 123: syndrome/code.Encode$1 -/
def c123 : ACode := (.seq (.region [.o 3 (.mv (.const (.bool false)))]) (.seq (.region [.o 4 (.l 1), .m 5 0, .o 6 (.q 82 [4, 5]), .o 7 (.un .not (.tmp 6)), .m 3 7]) .ret))
def F123 : AFun := ⟨c123, 2, 8, [(.tmp 3)]⟩
def K123 : Nat → List Nat × List Nat
  | _ => ([], [])
theorem F123_ok : kj8 Try.prog K123 Try.f123 = some F123 := by kernel_rfl
/- 124: syndrome/code.encode -/
def c124L0 : ACode := (.seq (.region [.o 29 (.b .lss 28 27)]) (.seq (.cond (.tmp 29) .skip (.exit 2)) (.seq (.block 3 [0, 4, 7, 9, 15, 16, 17, 26, 27, 28] (.seq (.region [.m 30 28, .o 31 (.i 1 26 28), .o 32 (.l 31), .m 10 30, .m 11 32]) (.region [.m 33 7, .m 34 10, .m 35 0, .m 36 7, .m 37 10, .o 38 (.i 1 36 37), .o 39 (.l 38), .m 40 0, .m 41 9, .m 42 11, ⟨(some 43), (.call 79 [(.tmp 40), (.tmp 41), (.tmp 42)]), none, true⟩, .o 44 (.q 78 [35, 39, 43]), .o 45 (.i 1 33 34), .n (.st 1 (.tmp 45) (.tmp 44))]))) (.region [.o 46 (.c .add 28 1), .m 28 46]))))
def c124L1 : ACode := (.seq (.region [.o 18 (.b .lss 17 16)]) (.seq (.cond (.tmp 18) .skip (.exit 0)) (.seq (.block 1 [0, 4, 7, 15, 16, 17] (.seq (.region [.m 19 17, .o 20 (.i 1 15 17), .o 21 (.l 20), .m 8 19, .m 9 21]) (.seq (.region [.o 22 (.f 2 4), .o 23 (.l 22), .m 24 8, .o 25 (.i 1 23 24), .o 26 (.l 25), .o 27 (.n 26), .k 28 0]) (.block 2 [0, 4, 7, 15, 16, 17] (.loop [0, 4, 7, 9, 15, 16, 17, 26, 27, 28] c124L0))))) (.region [.o 47 (.c .add 17 1), .m 17 47]))))
def c124 : ACode := (.seq (.region [.o 4 (.box 43 3 (.tmp 1)), .o 6 (.mv (.const (.slice none 0 0)))]) (.seq (.region [.o 12 (.f 1 4), .o 13 (.l 12), .o 14 (.mks 3 1 8 [(.int .i64 0)] (.tmp 13) (.tmp 13)), .m 7 14]) (.seq (.seq (.region [.m 15 2, .o 16 (.n 15), .k 17 0]) (.block 0 [7] (.loop [0, 4, 7, 15, 16, 17] c124L1))) (.seq (.region [.m 48 7, .m 6 48]) .ret))))
def F124 : AFun := ⟨c124, 3, 49, [(.tmp 6)]⟩
def K124 : Nat → List Nat × List Nat
  | 0 => ([0, 4, 7, 15, 16, 17], [7])
  | 1 => ([], [0, 4, 7, 15, 16, 17])
  | 2 => ([0, 4, 7, 9, 15, 16, 17, 26, 27, 28], [0, 4, 7, 15, 16, 17])
  | 3 => ([], [0, 4, 7, 9, 15, 16, 17, 26, 27, 28])
  | _ => ([], [])
theorem F124_ok : kj8 Try.prog K124 Try.f124 = some F124 := by kernel_rfl
end Go.Proofs.Ytjpejkakodbchaa
