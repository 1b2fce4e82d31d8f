/-
  Functions of this seat as the small machine's code, written by a program of my own (gen.py); each is checked to be what the model's function is turned into. No condition.
-/
import Derived.Test.YtlhmdmedagjmnaaK1
import Derived.Test.YtlhmdmedagjmnaaProg
set_option linter.unusedVariables false
set_option linter.unusedSimpArgs false
set_option linter.unusedSectionVars false
set_option maxRecDepth 100000
namespace Go.Proofs.Ytlhmdmedagjmnaa
open Go.Am
/- 4: syndrome/syndrometop.TopSums -/
def c4:ACode:=(.seq (.region [.o 10 (.mv (.const (.bool false)))]) (.seq (.seq (.region [.m 25 0, .o 26 (.n 25), .o 27 (.c .gtr 26 256)]) (.cond (.tmp 27) (.seq (.region [.o 10 (.mv (.const (.bool true)))]) .ret) .skip)) (.seq (.region [.m 28 0, .m 29 1, .m 30 2, .m 31 3, .o 32 (.q 15 [28,29,30,31]), .o 11 (.alloc 24 [(.int .i64 0),(.int .i64 0),(.slice none 0 0)]), .n (.st 3 (.tmp 11) (.tmp 32))]) (.seq (.region [.o 33 (.f 0 11), .o 35 (.f 1 11), .m 37 0, .o 38 (.f 0 11), .m 40 4, .o 42 (.f 1 11), .o 34 (.l 33), .o 36 (.l 35), .o 39 (.l 38), .o 43 (.l 42),⟨(some 41),(.call 17 [(.tmp 40),(.const (.int .i64 4))]),none,true⟩,⟨(some 44),(.call 16 [(.tmp 37),(.const (.int .i64 31)),(.tmp 39),(.tmp 41),(.tmp 43)]),none,true⟩, .o 45 (.build [(.int .i64 0),(.int .i64 0),(.slice none 0 0)] [(0,1),(1,1),(2,1)] [(0,(.tmp 34)),(1,(.tmp 36)),(2,(.tmp 44))]), .o 12 (.alloc 24 [(.int .i64 0),(.int .i64 0),(.slice none 0 0)]), .n (.st 3 (.tmp 12) (.tmp 45))]) (.seq (.region [.o 47 (.ld true 3 (.tmp 11)), .o 48 (.ld true 3 (.tmp 12)), .o 49 (.q 10 [47,48]), .m 46 49, .o 50 (.e 0 46), .o 51 (.e 1 46), .o 13 (.alloc 24 [(.int .i64 0),(.int .i64 0),(.slice none 0 0)]), .n (.st 3 (.tmp 13) (.tmp 50)), .m 14 51]) (.seq (.region [.o 53 (.ld true 3 (.tmp 11)), .o 54 (.ld true 3 (.tmp 12)), .o 55 (.q 11 [53,54]), .m 52 55, .o 56 (.e 0 52), .o 57 (.e 1 52), .o 15 (.alloc 24 [(.int .i64 0),(.int .i64 0),(.slice none 0 0)]), .n (.st 3 (.tmp 15) (.tmp 56)), .m 16 57]) (.seq (.region [.o 59 (.ld true 3 (.tmp 11)), .o 60 (.q 18 [59]), .m 58 60, .o 61 (.e 0 58), .o 62 (.e 1 58), .o 17 (.alloc 24 [(.int .i64 0),(.int .i64 0),(.slice none 0 0)]), .n (.st 3 (.tmp 17) (.tmp 61)), .m 18 62]) (.seq (.region [.o 64 (.ld true 3 (.tmp 12)), .o 65 (.q 18 [64]), .m 63 65, .o 66 (.e 0 63), .o 67 (.e 1 63), .o 19 (.alloc 24 [(.int .i64 0),(.int .i64 0),(.slice none 0 0)]), .n (.st 3 (.tmp 19) (.tmp 66)), .m 20 67]) (.seq (.seq (.region [.m 68 14, .o 69 (.c .neq 68 0), .m 70 69, .g 71 (.m 16) 70 false, .g 72 (.c .neq 71 0) 70 false, .o 73 (.pick (.tmp 70) (.const (.bool true)) (.tmp 72)), .m 74 73, .g 75 (.m 18) 74 false, .g 76 (.c .neq 75 0) 74 false, .o 77 (.pick (.tmp 74) (.const (.bool true)) (.tmp 76)), .m 78 77, .g 79 (.m 20) 78 false, .g 80 (.c .neq 79 0) 78 false, .o 81 (.pick (.tmp 78) (.const (.bool true)) (.tmp 80)), .m 82 81, .g 83 (.f 1 13) 82 false, .g 84 (.l 83) 82 false, .g 85 (.f 1 11) 82 false, .g 86 (.l 85) 82 false, .g 87 (.b .neq 84 86) 82 false, .o 88 (.pick (.tmp 82) (.const (.bool true)) (.tmp 87)), .m 89 88, .g 90 (.f 1 15) 89 false, .g 91 (.l 90) 89 false, .g 92 (.f 1 11) 89 false, .g 93 (.l 92) 89 false, .g 94 (.b .neq 91 93) 89 false, .o 95 (.pick (.tmp 89) (.const (.bool true)) (.tmp 94)), .m 96 95, .g 97 (.f 2 13) 96 false, .g 98 (.l 97) 96 false, .g 99 (.n 98) 96 false, .g 100 (.f 2 15) 96 false, .g 101 (.l 100) 96 false, .g 102 (.n 101) 96 false, .g 103 (.b .add 99 102) 96 false, .g 104 (.f 2 17) 96 false, .g 105 (.l 104) 96 false, .g 106 (.n 105) 96 false, .g 107 (.f 2 19) 96 false, .g 108 (.l 107) 96 false, .g 109 (.n 108) 96 false, .g 110 (.b .add 106 109) 96 false, .g 111 (.b .neq 103 110) 96 false, .o 112 (.pick (.tmp 96) (.const (.bool true)) (.tmp 111))]) (.cond (.tmp 112) (.seq (.region [.o 10 (.mv (.const (.bool false)))]) .ret) .skip)) (.seq (.region [.o 114 (.ld true 3 (.tmp 13)), .o 115 (.q 19 [114]), .m 113 115, .o 116 (.e 0 113), .o 117 (.e 1 113), .o 21 (.alloc 24 [(.int .i64 0),(.int .i64 0),(.slice none 0 0)]), .n (.st 3 (.tmp 21) (.tmp 116)), .m 14 117]) (.seq (.region [.o 119 (.ld true 3 (.tmp 11)), .o 120 (.q 19 [119]), .m 118 120, .o 121 (.e 0 118), .o 122 (.e 1 118), .o 22 (.alloc 24 [(.int .i64 0),(.int .i64 0),(.slice none 0 0)]), .n (.st 3 (.tmp 22) (.tmp 121)), .m 16 122]) (.seq (.region [.o 124 (.ld true 3 (.tmp 12)), .o 125 (.q 19 [124]), .m 123 125, .o 126 (.e 0 123), .o 127 (.e 1 123), .o 23 (.alloc 24 [(.int .i64 0),(.int .i64 0),(.slice none 0 0)]), .n (.st 3 (.tmp 23) (.tmp 126)), .m 18 127]) (.seq (.region [.o 129 (.ld true 3 (.tmp 22)), .o 130 (.ld true 3 (.tmp 23)), .o 131 (.q 11 [129,130]), .m 128 131, .o 132 (.e 0 128), .o 133 (.e 1 128), .o 24 (.alloc 24 [(.int .i64 0),(.int .i64 0),(.slice none 0 0)]), .n (.st 3 (.tmp 24) (.tmp 132)), .m 20 133]) (.seq (.region [.m 134 14, .o 135 (.c .eql 134 0), .m 136 135, .g 137 (.m 16) 136 true, .g 138 (.c .eql 137 0) 136 true, .o 139 (.pick (.tmp 136) (.tmp 138) (.const (.bool false))), .m 140 139, .g 141 (.m 18) 140 true, .g 142 (.c .eql 141 0) 140 true, .o 143 (.pick (.tmp 140) (.tmp 142) (.const (.bool false))), .m 144 143, .g 145 (.m 20) 144 true, .g 146 (.c .eql 145 0) 144 true, .o 147 (.pick (.tmp 144) (.tmp 146) (.const (.bool false))), .m 148 147, .g 149 (.ld true 3 (.tmp 21)) 148 true, .g 150 (.ld true 3 (.tmp 24)) 148 true, .g 151 (.q 20 [149,150]) 148 true, .o 152 (.pick (.tmp 148) (.tmp 151) (.const (.bool false))), .m 10 152]) .ret))))))))))))))
def F4:AFun:=⟨c4,5,153,[(.tmp 10)]⟩
def K4:Nat→List Nat×List Nat
 |_=>([],[])
theorem F4_ok:kj8 Try.prog K4 Try.f4=some F4:=by kernel_rfl
/- 10: syndrome/code.Sum -/
def c10L0:ACode:=(.seq (.region [.o 35 (.b .lss 34 33)]) (.seq (.cond (.tmp 35) .skip (.exit 0)) (.seq (.block 1 [2,4,7,32,33,34] (.seq (.region [.o 36 (.i 1 32 34), .o 37 (.l 36), .m 9 37]) (.region [.o 39 (.f 0 2), .m 41 7, .m 42 9, .m 45 7, .o 46 (.n 45), .o 47 (.c .add 46 1), .o 48 (.minmax false [(.tmp 47),(.const (.int .i64 64))]), .o 40 (.ldb false 1 (.tmp 39)), .o 43 (.mkSl 34 1 1 [(.tmp 42)]), .o 44 (.app 34 1 24 (.tmp 41) (.tmp 43)), .o 49 (.sl 1 (.tmp 44) none (some (.tmp 48))), .o 50 (.q 45 [40,49]), .m 38 50, .o 51 (.e 0 38), .o 52 (.e 1 38), .o 53 (.e 2 38), .m 7 51]))) (.region [.o 54 (.c .add 34 1), .m 34 54]))))
def c10:ACode:=(.seq (.region [.o 2 (.box 24 3 (.tmp 0)), .o 3 (.box 24 3 (.tmp 1)), .o 4 (.alloc 24 [(.int .i64 0),(.int .i64 0),(.slice none 0 0)]), .k 5 0]) (.seq (.seq (.region [.o 10 (.ld true 3 (.tmp 2)), .o 11 (.ld true 3 (.tmp 3)), .o 12 (.q 44 [10,11]), .m 6 12]) (.seq (.region [.m 13 6, .o 14 (.c .neq 13 0)]) (.cond (.tmp 14) (.seq (.region [.o 15 (.build [(.int .i64 0),(.int .i64 0),(.slice none 0 0)] [(0,1),(1,1),(2,1)] []), .m 16 6, .n (.st 3 (.tmp 4) (.tmp 15)), .m 5 16]) .ret) .skip))) (.seq (.region [.o 18 (.ld true 3 (.tmp 2)), .o 19 (.q 18 [18]), .m 17 19, .o 20 (.e 0 17), .o 21 (.e 1 17), .n (.st 3 (.tmp 2) (.tmp 20))]) (.seq (.region [.o 23 (.ld true 3 (.tmp 3)), .o 24 (.q 18 [23]), .m 22 24, .o 25 (.e 0 22), .o 26 (.e 1 22), .n (.st 3 (.tmp 3) (.tmp 25))]) (.seq (.region [.o 7 (.mv (.const (.slice none 0 0)))]) (.seq (.region [.m 27 7, .o 28 (.f 2 2), .o 29 (.l 28), .o 30 (.app 34 1 24 (.tmp 27) (.tmp 29)), .m 7 30]) (.seq (.seq (.region [.o 31 (.f 2 3), .o 32 (.l 31), .o 33 (.n 32), .k 34 0]) (.block 0 [2,4,7] (.loop [2,4,7,32,33,34] c10L0))) (.seq (.region [.o 55 (.f 0 2), .o 56 (.l 55), .o 57 (.f 1 2), .o 58 (.l 57), .m 59 7, .o 60 (.build [(.int .i64 0),(.int .i64 0),(.slice none 0 0)] [(0,1),(1,1),(2,1)] [(0,(.tmp 56)),(1,(.tmp 58)),(2,(.tmp 59))]), .n (.st 3 (.tmp 4) (.tmp 60)), .k 5 0]) .ret))))))))
def F10:AFun:=⟨c10,2,61,[(.cell 4 true 3),(.tmp 5)]⟩
def K10:Nat→List Nat×List Nat
 |0=>([2,4,7,32,33,34],[2,4,7])
 |1=>([],[2,4,7,32,33,34])
 |_=>([],[])
theorem F10_ok:kj8 Try.prog K10 Try.f10=some F10:=by kernel_rfl
/- 11: syndrome/code.Meet -/
def c11:ACode:=(.seq (.region [.o 2 (.box 24 3 (.tmp 0)), .o 3 (.box 24 3 (.tmp 1)), .o 4 (.alloc 24 [(.int .i64 0),(.int .i64 0),(.slice none 0 0)]), .k 5 0]) (.seq (.seq (.region [.o 9 (.ld true 3 (.tmp 2)), .o 10 (.ld true 3 (.tmp 3)), .o 11 (.q 44 [9,10]), .m 6 11]) (.seq (.region [.m 12 6, .o 13 (.c .neq 12 0)]) (.cond (.tmp 13) (.seq (.region [.o 14 (.build [(.int .i64 0),(.int .i64 0),(.slice none 0 0)] [(0,1),(1,1),(2,1)] []), .m 15 6, .n (.st 3 (.tmp 4) (.tmp 14)), .m 5 15]) .ret) .skip))) (.seq (.region [.o 17 (.ld true 3 (.tmp 2)), .o 18 (.q 19 [17]), .m 16 18, .o 19 (.e 0 16), .o 20 (.e 1 16), .n (.st 3 (.tmp 2) (.tmp 19))]) (.seq (.region [.o 22 (.ld true 3 (.tmp 3)), .o 23 (.q 19 [22]), .m 21 23, .o 24 (.e 0 21), .o 25 (.e 1 21), .n (.st 3 (.tmp 3) (.tmp 24))]) (.seq (.region [.o 27 (.ld true 3 (.tmp 2)), .o 28 (.ld true 3 (.tmp 3)), .o 29 (.q 10 [27,28]), .m 26 29, .o 30 (.e 0 26), .o 31 (.e 1 26), .o 7 (.alloc 24 [(.int .i64 0),(.int .i64 0),(.slice none 0 0)]), .n (.st 3 (.tmp 7) (.tmp 30)), .m 8 31]) (.seq (.region [.o 32 (.ld true 3 (.tmp 7)), .o 33 (.q 19 [32]), .o 34 (.e 0 33), .o 35 (.e 1 33), .n (.st 3 (.tmp 4) (.tmp 34)), .m 5 35]) .ret))))))
def F11:AFun:=⟨c11,2,36,[(.cell 4 true 3),(.tmp 5)]⟩
def K11:Nat→List Nat×List Nat
 |_=>([],[])
theorem F11_ok:kj8 Try.prog K11 Try.f11=some F11:=by kernel_rfl
/- 15: syndrome/syndromeref.CodeOf -/
def c15L0:ACode:=(.seq (.seq (.region [.m 18 1, .m 19 9, .o 20 (.c .add 19 1), .o 21 (.q 31 [18,20]), .m 22 21, .g 23 (.m 9) 22 true, .g 24 (.c .lss 23 5) 22 true, .o 25 (.pick (.tmp 22) (.tmp 24) (.const (.bool false)))]) (.cond (.tmp 25) .skip (.exit 0))) (.block 1 [0,1,2,3,8,9] (.region [.m 26 9, .o 27 (.c .add 26 1), .m 9 27])))
def c15:ACode:=(.seq (.region [.o 8 (.alloc 24 [(.int .i64 0),(.int .i64 0),(.slice none 0 0)])]) (.seq (.region [.o 10 (.mkSl 3 1 6 [(.const (.int .i64 2)),(.const (.int .i64 2)),(.const (.int .i64 3)),(.const (.int .i64 4)),(.const (.int .i64 5)),(.const (.int .i64 8))]), .m 11 1, .o 12 (.call 17 [(.tmp 11),(.const (.int .i64 6))]), .o 13 (.i 1 10 12), .o 14 (.l 13), .m 1 14]) (.seq (.region [.m 15 2, .o 16 (.call 17 [(.tmp 15),(.const (.int .i64 12))]), .o 17 (.bin .add (.const (.int .i64 1)) (.tmp 16)), .m 2 17]) (.seq (.region [.k 9 0]) (.seq (.block 0 [0,1,2,3,8,9] (.loop [0,1,2,3,8,9] c15L0)) (.seq (.region [.m 28 1, .m 29 2, .m 30 0, .m 31 1, .m 32 3, .m 33 9, .o 34 (.c .add 33 1), .o 35 (.q 17 [32,34]), .m 36 2, .o 37 (.call 16 [(.tmp 30),(.const (.int .i64 0)),(.tmp 31),(.tmp 35),(.tmp 36)]), .o 38 (.build [(.int .i64 0),(.int .i64 0),(.slice none 0 0)] [(0,1),(1,1),(2,1)] [(0,(.tmp 28)),(1,(.tmp 29)),(2,(.tmp 37))]), .n (.st 3 (.tmp 8) (.tmp 38))]) .ret))))))
def F15:AFun:=⟨c15,4,39,[(.cell 8 true 3)]⟩
def K15:Nat→List Nat×List Nat
 |0=>([0,1,2,3,8,9],[0,1,2,3,8,9])
 |1=>([],[0,1,2,3,8,9])
 |_=>([],[])
theorem F15_ok:kj8 Try.prog K15 Try.f15=some F15:=by kernel_rfl
/- 16: syndrome/syndromeref.MatrixOf -/
def c16L0:ACode:=(.seq (.seq (.region [.m 13 12, .m 14 3, .o 15 (.b .lss 13 14)]) (.cond (.tmp 15) .skip (.exit 0))) (.seq (.block 1 [0,1,2,3,4,11,12] (.region [.m 18 11, .m 19 0, .m 20 1, .m 21 12, .m 22 4, .o 23 (.b .mul 21 22), .o 24 (.b .add 20 23), .m 25 2, .m 26 4, .o 27 (.q 22 [19,24,25,26]), .o 28 (.mkSl 34 1 1 [(.tmp 27)]), .o 29 (.app 34 1 24 (.tmp 18) (.tmp 28)), .m 11 29])) (.region [.m 16 12, .o 17 (.c .add 16 1), .m 12 17])))
def c16:ACode:=(.seq (.region [.o 10 (.mv (.const (.slice none 0 0)))]) (.seq (.region [.o 11 (.mv (.const (.slice none 0 0)))]) (.seq (.seq (.region [.k 12 0]) (.block 0 [11] (.loop [0,1,2,3,4,11,12] c16L0))) (.seq (.region [.m 30 11, .m 10 30]) .ret))))
def F16:AFun:=⟨c16,5,31,[(.tmp 10)]⟩
def K16:Nat→List Nat×List Nat
 |0=>([0,1,2,3,4,11,12],[11])
 |1=>([],[0,1,2,3,4,11,12])
 |_=>([],[])
theorem F16_ok:kj8 Try.prog K16 Try.f16=some F16:=by kernel_rfl
/- 17: syndrome/syndromeref.Pick -/
def c17:ACode:=(.seq (.region [.k 4 0]) (.seq (.seq (.region [.m 5 0, .o 6 (.c .lss 5 0)]) (.cond (.tmp 6) (.region [.m 7 0, .o 8 (.c .add 7 1), .o 9 (.un .neg (.tmp 8)), .m 0 9]) .skip)) (.seq (.region [.m 10 0, .m 11 1, .o 12 (.b .rem 10 11), .m 4 12]) .ret)))
def F17:AFun:=⟨c17,2,13,[(.tmp 4)]⟩
def K17:Nat→List Nat×List Nat
 |_=>([],[])
theorem F17_ok:kj8 Try.prog K17 Try.f17=some F17:=by kernel_rfl
/- 18: syndrome/code.Make -/
def c18:ACode:=(.seq (.region [.o 1 (.box 24 3 (.tmp 0)), .o 2 (.alloc 24 [(.int .i64 0),(.int .i64 0),(.slice none 0 0)]), .k 3 0]) (.seq (.seq (.region [.o 8 (.ld true 3 (.tmp 1)), .o 9 (.q 48 [8]), .m 4 9]) (.seq (.region [.m 10 4, .o 11 (.c .neq 10 0)]) (.cond (.tmp 11) (.seq (.region [.o 12 (.build [(.int .i64 0),(.int .i64 0),(.slice none 0 0)] [(0,1),(1,1),(2,1)] []), .m 13 4, .n (.st 3 (.tmp 2) (.tmp 12)), .m 3 13]) .ret) .skip))) (.seq (.region [.o 15 (.f 0 1), .o 16 (.l 15), .o 17 (.f 2 1), .o 18 (.l 17), .o 19 (.q 45 [16,18]), .m 14 19, .o 20 (.e 0 14), .o 21 (.e 1 14), .o 22 (.e 2 14), .m 5 20, .m 6 21, .m 7 22]) (.seq (.region [.o 23 (.f 0 1), .o 24 (.l 23), .o 25 (.f 1 1), .o 26 (.l 25), .m 27 5, .o 28 (.build [(.int .i64 0),(.int .i64 0),(.slice none 0 0)] [(0,1),(1,1),(2,1)] [(0,(.tmp 24)),(1,(.tmp 26)),(2,(.tmp 27))]), .n (.st 3 (.tmp 2) (.tmp 28)), .k 3 0]) .ret))))
def F18:AFun:=⟨c18,1,29,[(.cell 2 true 3),(.tmp 3)]⟩
def K18:Nat→List Nat×List Nat
 |_=>([],[])
theorem F18_ok:kj8 Try.prog K18 Try.f18=some F18:=by kernel_rfl
/- 19: syndrome/code.Dual -/
def c19L0:ACode:=(.seq (.region [.o 25 (.b .lss 24 23)]) (.seq (.cond (.tmp 25) .skip (.exit 0)) (.seq (.block 1 [1,2,23,24] (.seq (.region [.m 26 24, .m 5 26]) (.seq (.region [.o 27 (.f 1 1), .o 28 (.l 27), .o 29 (.mks 3 1 8 [(.int .i64 0)] (.tmp 28) (.tmp 28)), .m 6 29]) (.seq (.region [.m 30 6, .m 31 5, .o 32 (.i 1 30 31), .n (.st 1 (.tmp 32) (.const (.int .i64 1)))]) (.region [.o 33 (.f 2 1), .o 34 (.l 33), .m 35 6, .o 36 (.mkSl 34 1 1 [(.tmp 35)]), .o 37 (.app 34 1 24 (.tmp 34) (.tmp 36)), .o 38 (.f 2 1), .n (.st 1 (.tmp 38) (.tmp 37))]))))) (.region [.o 39 (.c .add 24 1), .m 24 39]))))
def c19:ACode:=(.seq (.region [.o 1 (.box 24 3 (.tmp 0)), .o 2 (.alloc 24 [(.int .i64 0),(.int .i64 0),(.slice none 0 0)]), .k 3 0]) (.seq (.region [.o 10 (.ld true 3 (.tmp 1)), .o 11 (.q 18 [10]), .m 9 11, .o 12 (.e 0 9), .o 13 (.e 1 9), .n (.st 3 (.tmp 1) (.tmp 12)), .m 4 13]) (.seq (.seq (.region [.m 14 4, .o 15 (.c .neq 14 0)]) (.cond (.tmp 15) (.seq (.region [.o 16 (.build [(.int .i64 0),(.int .i64 0),(.slice none 0 0)] [(0,1),(1,1),(2,1)] []), .m 17 4, .n (.st 3 (.tmp 2) (.tmp 16)), .m 3 17]) .ret) .skip)) (.seq (.seq (.region [.o 18 (.f 2 1), .o 19 (.l 18), .o 20 (.n 19), .o 21 (.c .eql 20 0)]) (.cond (.tmp 21) (.seq (.seq (.region [.o 22 (.f 1 1), .o 23 (.l 22), .k 24 0]) (.block 0 [1,2] (.loop [1,2,23,24] c19L0))) (.seq (.region [.o 40 (.ld true 3 (.tmp 1)), .n (.st 3 (.tmp 2) (.tmp 40)), .k 3 0]) .ret)) .skip)) (.seq (.region [.o 42 (.f 0 1), .o 43 (.l 42), .o 44 (.f 2 1), .o 45 (.l 44), .o 46 (.q 49 [43,45]), .m 41 46, .o 47 (.e 0 41), .o 48 (.e 1 41), .m 7 47, .m 8 48]) (.seq (.region [.o 49 (.f 0 1), .o 50 (.l 49), .o 51 (.f 1 1), .o 52 (.l 51), .m 53 7, .o 54 (.build [(.int .i64 0),(.int .i64 0),(.slice none 0 0)] [(0,1),(1,1),(2,1)] [(0,(.tmp 50)),(1,(.tmp 52)),(2,(.tmp 53))]), .n (.st 3 (.tmp 2) (.tmp 54)), .k 3 0]) .ret))))))
def F19:AFun:=⟨c19,1,55,[(.cell 2 true 3),(.tmp 3)]⟩
def K19:Nat→List Nat×List Nat
 |0=>([1,2,23,24],[1,2])
 |1=>([],[1,2,23,24])
 |_=>([],[])
theorem F19_ok:kj8 Try.prog K19 Try.f19=some F19:=by kernel_rfl
/- 20: syndrome/syndromeref.SameCode -/
def c20:ACode:=(.seq (.region [.o 2 (.box 24 3 (.tmp 0)), .o 3 (.box 24 3 (.tmp 1)), .o 4 (.mv (.const (.bool false)))]) (.seq (.region [.o 5 (.f 0 2), .o 6 (.l 5), .o 7 (.f 0 3), .o 8 (.l 7), .o 9 (.b .eql 6 8), .m 10 9, .g 11 (.f 1 2) 10 true, .g 12 (.l 11) 10 true, .g 13 (.f 1 3) 10 true, .g 14 (.l 13) 10 true, .g 15 (.b .eql 12 14) 10 true, .o 16 (.pick (.tmp 10) (.tmp 15) (.const (.bool false))), .m 17 16, .g 18 (.f 2 2) 17 true, .g 19 (.l 18) 17 true, .g 20 (.f 2 3) 17 true, .g 21 (.l 20) 17 true, .g 22 (.q 50 [19,21]) 17 true, .o 23 (.pick (.tmp 17) (.tmp 22) (.const (.bool false))), .m 4 23]) .ret))
def F20:AFun:=⟨c20,2,24,[(.tmp 4)]⟩
def K20:Nat→List Nat×List Nat
 |_=>([],[])
theorem F20_ok:kj8 Try.prog K20 Try.f20=some F20:=by kernel_rfl
/- 22: syndrome/syndromeref.Numbers -/
def c22L0:ACode:=(.seq (.seq (.region [.m 11 10, .m 12 3, .o 13 (.b .lss 11 12)]) (.cond (.tmp 13) .skip (.exit 0))) (.seq (.block 1 [0,1,2,3,9,10] (.region [.m 16 9, .m 17 0, .m 18 1, .m 19 10, .o 20 (.b .add 18 19), .o 21 (.q 40 [17,20]), .m 22 2, .o 23 (.q 17 [21,22]), .o 24 (.mkSl 3 1 1 [(.tmp 23)]), .o 25 (.app 3 1 8 (.tmp 16) (.tmp 24)), .m 9 25])) (.region [.m 14 10, .o 15 (.c .add 14 1), .m 10 15])))
def c22:ACode:=(.seq (.region [.o 8 (.mv (.const (.slice none 0 0)))]) (.seq (.region [.o 9 (.mv (.const (.slice none 0 0)))]) (.seq (.seq (.region [.k 10 0]) (.block 0 [9] (.loop [0,1,2,3,9,10] c22L0))) (.seq (.region [.m 26 9, .m 8 26]) .ret))))
def F22:AFun:=⟨c22,4,27,[(.tmp 8)]⟩
def K22:Nat→List Nat×List Nat
 |0=>([0,1,2,3,9,10],[9])
 |1=>([],[0,1,2,3,9,10])
 |_=>([],[])
theorem F22_ok:kj8 Try.prog K22 Try.f22=some F22:=by kernel_rfl
/- 27: syndrome/syndromeref.Same -/
def c27L0:ACode:=(.seq (.seq (.region [.m 11 5, .m 12 0, .o 13 (.n 12), .o 14 (.b .lss 11 13)]) (.cond (.tmp 14) .skip (.exit 0))) (.seq (.block 1 [0,1,5] (.seq (.region [.m 17 0, .m 18 5, .o 19 (.i 1 17 18), .o 20 (.l 19), .m 21 1, .m 22 5, .o 23 (.i 1 21 22), .o 24 (.l 23), .o 25 (.b .neq 20 24)]) (.cond (.tmp 25) (.seq (.region [.o 4 (.mv (.const (.bool false)))]) .ret) .skip))) (.region [.m 15 5, .o 16 (.c .add 15 1), .m 5 16])))
def c27:ACode:=(.seq (.region [.o 4 (.mv (.const (.bool false)))]) (.seq (.seq (.region [.m 6 0, .o 7 (.n 6), .m 8 1, .o 9 (.n 8), .o 10 (.b .neq 7 9)]) (.cond (.tmp 10) (.seq (.region [.o 4 (.mv (.const (.bool false)))]) .ret) .skip)) (.seq (.seq (.region [.k 5 0]) (.block 0 [] (.loop [0,1,5] c27L0))) (.seq (.region [.o 4 (.mv (.const (.bool true)))]) .ret))))
def F27:AFun:=⟨c27,2,26,[(.tmp 4)]⟩
def K27:Nat→List Nat×List Nat
 |0=>([0,1,5],[])
 |1=>([],[0,1,5])
 |_=>([],[])
theorem F27_ok:kj8 Try.prog K27 Try.f27=some F27:=by kernel_rfl
/- 31: syndrome/syndromeref.Few -/
def c31L0:ACode:=(.seq (.seq (.region [.m 7 6, .m 8 1, .o 9 (.b .lss 7 8)]) (.cond (.tmp 9) .skip (.exit 0))) (.seq (.block 1 [0,1,5,6] (.seq (.region [.m 12 5, .m 13 0, .o 14 (.b .mul 12 13), .m 5 14]) (.seq (.region [.m 15 5, .o 16 (.c .gtr 15 4096)]) (.cond (.tmp 16) (.seq (.region [.o 4 (.mv (.const (.bool false)))]) .ret) .skip)))) (.region [.m 10 6, .o 11 (.c .add 10 1), .m 6 11])))
def c31:ACode:=(.seq (.region [.o 4 (.mv (.const (.bool false)))]) (.seq (.region [.k 5 1]) (.seq (.seq (.region [.k 6 0]) (.block 0 [] (.loop [0,1,5,6] c31L0))) (.seq (.region [.o 4 (.mv (.const (.bool true)))]) .ret))))
def F31:AFun:=⟨c31,2,17,[(.tmp 4)]⟩
def K31:Nat→List Nat×List Nat
 |0=>([0,1,5,6],[])
 |1=>([],[0,1,5,6])
 |_=>([],[])
theorem F31_ok:kj8 Try.prog K31 Try.f31=some F31:=by kernel_rfl
/- 40: syndrome/syndromeref.Raw -/
def c40:ACode:=(.seq (.region [.k 4 0]) (.seq (.seq (.region [.m 5 0, .o 6 (.n 5), .o 7 (.c .eql 6 0)]) (.cond (.tmp 7) (.seq (.region [.m 8 1, .m 4 8]) .ret) .skip)) (.seq (.region [.m 9 0, .m 10 1, .m 11 0, .o 12 (.n 11), .o 13 (.b .rem 10 12), .o 14 (.i 1 9 13), .o 15 (.l 14), .m 16 1, .m 17 0, .o 18 (.n 17), .o 19 (.b .quo 16 18), .o 20 (.c .mul 19 7919), .o 21 (.b .add 15 20), .m 4 21]) .ret)))
def F40:AFun:=⟨c40,2,22,[(.tmp 4)]⟩
def K40:Nat→List Nat×List Nat
 |_=>([],[])
theorem F40_ok:kj8 Try.prog K40 Try.f40=some F40:=by kernel_rfl
/- 44: syndrome/code.pair -/
def c44:ACode:=(.seq (.region [.o 2 (.box 24 3 (.tmp 0)), .o 3 (.box 24 3 (.tmp 1)), .k 4 0]) (.seq (.region [.o 6 (.ld true 3 (.tmp 2)), .o 7 (.q 48 [6]), .m 5 7]) (.seq (.seq (.region [.m 8 5, .o 9 (.c .eql 8 0)]) (.cond (.tmp 9) (.region [.o 10 (.ld true 3 (.tmp 3)), .o 11 (.q 48 [10]), .m 5 11]) .skip)) (.seq (.seq (.region [.m 12 5, .o 13 (.c .eql 12 0), .m 14 13, .g 15 (.f 0 2) 14 true, .g 16 (.l 15) 14 true, .g 17 (.f 0 3) 14 true, .g 18 (.l 17) 14 true, .g 19 (.b .neq 16 18) 14 true, .g 20 (.m 19) 14 true, .g 21 (.f 1 2) 20 false, .g 22 (.l 21) 20 false, .g 23 (.f 1 3) 20 false, .g 24 (.l 23) 20 false, .g 25 (.b .neq 22 24) 20 false, .g 26 (.pick (.tmp 20) (.const (.bool true)) (.tmp 25)) 14 true, .o 27 (.pick (.tmp 14) (.tmp 26) (.const (.bool false)))]) (.cond (.tmp 27) (.region [.k 5 3]) .skip)) (.seq (.region [.m 28 5, .m 4 28]) .ret)))))
def F44:AFun:=⟨c44,2,29,[(.tmp 4)]⟩
def K44:Nat→List Nat×List Nat
 |_=>([],[])
theorem F44_ok:kj8 Try.prog K44 Try.f44=some F44:=by kernel_rfl
/- 45: syndrome/matrix.Reduce -/
def c45L0:ACode:=(.seq (.region [.o 92 (.b .lss 91 90)]) (.seq (.cond (.tmp 92) .skip (.exit 2)) (.seq (.block 3 [1,5,8,10,11,90,91] (.seq (.region [.m 93 91, .m 13 93]) (.seq (.region [.m 94 13, .m 95 11, .o 96 (.b .neq 94 95), .m 97 96, .g 98 (.m 1) 97 true, .g 99 (.m 13) 97 true, .g 100 (.i 1 98 99) 97 true, .g 101 (.l 100) 97 true, .g 102 (.l 10) 97 true, .g 103 (.i 1 101 102) 97 true, .g 104 (.l 103) 97 true, .g 105 (.c .neq 104 0) 97 true, .o 106 (.pick (.tmp 97) (.tmp 105) (.const (.bool false)))]) (.cond (.tmp 106) (.region [.m 107 8, .m 108 1, .m 109 13, .o 110 (.i 1 108 109), .o 111 (.l 110), .m 112 1, .m 113 11, .o 114 (.i 1 112 113), .o 115 (.l 114), .m 116 1, .m 117 13, .o 118 (.i 1 116 117), .o 119 (.l 118), .o 120 (.l 10), .o 121 (.i 1 119 120), .o 122 (.l 121), .o 123 (.q 89 [107,111,115,122])]) .skip)))) (.region [.o 124 (.c .add 91 1), .m 91 124]))))
def c45L1:ACode:=(.seq (.seq (.region [.o 32 (.l 10), .m 33 1, .o 34 (.iaddr 1 (.tmp 33) (.const (.int .i64 0))), .o 35 (.l 34), .o 36 (.n 35), .o 37 (.b .lss 32 36), .m 38 37, .g 39 (.m 5) 38 true, .g 40 (.n 39) 38 true, .g 41 (.m 1) 38 true, .g 42 (.n 41) 38 true, .g 43 (.b .lss 40 42) 38 true, .o 44 (.pick (.tmp 38) (.tmp 43) (.const (.bool false)))]) (.cond (.tmp 44) .skip (.exit 0))) (.seq (.block 1 [1,5,8,10] (.seq (.region [.m 47 5, .o 48 (.n 47), .m 11 48]) (.seq (.region [.m 49 1, .m 50 11, .o 51 (.sl 1 (.tmp 49) (some (.tmp 50)) none), .o 52 (.mkf 86 [(.tmp 10)]), .o 53 (.q 85 [51,52]), .m 12 53]) (.seq (.seq (.region [.m 54 12, .o 55 (.c .lss 54 0)]) (.cond (.tmp 55) (.exit 1) .skip)) (.seq (.region [.m 56 1, .m 57 11, .m 58 1, .m 59 11, .m 60 12, .o 61 (.b .add 59 60), .m 62 1, .m 63 11, .m 64 12, .o 65 (.b .add 63 64), .o 66 (.i 1 62 65), .o 67 (.l 66), .m 68 1, .m 69 11, .o 70 (.i 1 68 69), .o 71 (.l 70), .o 72 (.i 1 56 57), .n (.st 1 (.tmp 72) (.tmp 67)), .o 73 (.i 1 58 61), .n (.st 1 (.tmp 73) (.tmp 71))]) (.seq (.region [.m 74 8, .m 75 1, .m 76 11, .o 77 (.i 1 75 76), .o 78 (.l 77), .m 79 8, .m 80 1, .m 81 11, .o 82 (.i 1 80 81), .o 83 (.l 82), .o 84 (.l 10), .o 85 (.i 1 83 84), .o 86 (.l 85),⟨(some 87),(.call 88 [(.tmp 79),(.tmp 86)]),none,true⟩, .o 88 (.q 87 [74,78,87])]) (.seq (.seq (.region [.m 89 1, .o 90 (.n 89), .k 91 0]) (.block 2 [1,5,8,10] (.loop [1,5,8,10,11,90,91] c45L0))) (.region [.m 125 5, .o 126 (.l 10), .o 127 (.mkSl 3 1 1 [(.tmp 126)]), .o 128 (.app 3 1 8 (.tmp 125) (.tmp 127)), .m 5 128])))))))) (.seq (.seq (.region [.o 129 (.l 10)]) (.region [.o 10 (.alloc 3 [(.int .i64 0)]), .n (.st 1 (.tmp 10) (.tmp 129))])) (.region [.o 45 (.l 10), .o 46 (.c .add 45 1), .n (.st 1 (.tmp 10) (.tmp 46))]))))
def c45:ACode:=(.seq (.region [.o 4 (.mv (.const (.slice none 0 0))), .o 5 (.mv (.const (.slice none 0 0))), .k 6 0]) (.seq (.seq (.region [.m 14 0, .m 15 1, .o 16 (.q 83 [14,15]), .m 7 16]) (.seq (.region [.m 17 7, .o 18 (.c .neq 17 0), .m 19 18, .g 20 (.m 1) 19 false, .g 21 (.n 20) 19 false, .g 22 (.c .eql 21 0) 19 false, .o 23 (.pick (.tmp 19) (.const (.bool true)) (.tmp 22))]) (.cond (.tmp 23) (.seq (.region [.m 24 7, .o 4 (.mv (.const (.slice none 0 0))), .o 5 (.mv (.const (.slice none 0 0))), .m 6 24]) .ret) .skip))) (.seq (.region [.m 26 0, .o 27 (.q 51 [26]), .m 25 27, .o 28 (.e 0 25), .o 29 (.e 1 25), .m 8 28, .m 9 29]) (.seq (.region [.m 30 1, .o 31 (.q 84 [30]), .m 1 31]) (.seq (.seq (.region [.o 10 (.alloc 3 [(.int .i64 0)]), .n (.st 1 (.tmp 10) (.const (.int .i64 0)))]) (.block 0 [1,5] (.loop [1,5,8,10] c45L1))) (.seq (.region [.m 130 1, .m 131 5, .o 132 (.n 131), .m 133 5, .o 134 (.n 133), .o 135 (.sl3 (.tmp 130) (.tmp 132) (.tmp 134)), .m 136 5, .m 4 135, .m 5 136, .k 6 0]) .ret))))))
def F45:AFun:=⟨c45,2,137,[(.tmp 4),(.tmp 5),(.tmp 6)]⟩
def K45:Nat→List Nat×List Nat
 |0=>([1,5,8,10],[1,5])
 |1=>([],[1,5,8,10])
 |2=>([1,5,8,10,11,90,91],[1,5,8,10])
 |3=>([],[1,5,8,10,11,90,91])
 |_=>([],[])
theorem F45_ok:kj8 Try.prog K45 Try.f45=some F45:=by kernel_rfl
/- 48: syndrome/code.Check -/
def c48:ACode:=(.seq (.region [.o 1 (.box 24 3 (.tmp 0)), .k 2 0]) (.seq (.seq (.region [.o 7 (.f 0 1), .o 8 (.l 7), .o 9 (.q 51 [8]), .m 6 9, .o 10 (.e 0 6), .o 11 (.e 1 6), .m 3 10, .m 4 11]) (.seq (.region [.m 12 4, .o 13 (.c .neq 12 0)]) (.cond (.tmp 13) (.seq (.region [.m 14 4, .m 2 14]) .ret) .skip))) (.seq (.seq (.region [.o 15 (.f 1 1), .o 16 (.l 15), .o 17 (.c .lss 16 1), .m 18 17, .g 19 (.f 1 1) 18 false, .g 20 (.l 19) 18 false, .g 21 (.c .gtr 20 64) 18 false, .o 22 (.pick (.tmp 18) (.const (.bool true)) (.tmp 21))]) (.cond (.tmp 22) (.seq (.region [.k 2 4]) .ret) .skip)) (.seq (.seq (.region [.o 23 (.f 0 1), .o 24 (.l 23), .o 25 (.f 2 1), .o 26 (.l 25), .o 27 (.q 83 [24,26]), .m 5 27]) (.seq (.region [.m 28 5, .o 29 (.c .neq 28 0)]) (.cond (.tmp 29) (.seq (.region [.m 30 5, .m 2 30]) .ret) .skip))) (.seq (.seq (.region [.o 31 (.f 2 1), .o 32 (.l 31), .o 33 (.n 32), .o 34 (.c .gtr 33 0), .m 35 34, .g 36 (.f 2 1) 35 true, .g 37 (.l 36) 35 true, .g 38 (.iaddr 1 (.tmp 37) (.const (.int .i64 0))) 35 true, .g 39 (.l 38) 35 true, .g 40 (.n 39) 35 true, .g 41 (.f 1 1) 35 true, .g 42 (.l 41) 35 true, .g 43 (.b .neq 40 42) 35 true, .o 44 (.pick (.tmp 35) (.tmp 43) (.const (.bool false)))]) (.cond (.tmp 44) (.seq (.region [.k 2 3]) .ret) .skip)) (.seq (.region [.k 2 0]) .ret))))))
def F48:AFun:=⟨c48,1,45,[(.tmp 2)]⟩
def K48:Nat→List Nat×List Nat
 |_=>([],[])
theorem F48_ok:kj8 Try.prog K48 Try.f48=some F48:=by kernel_rfl
/- 49: syndrome/matrix.Null -/
def c49L0:ACode:=(.seq (.region [.o 57 (.b .lss 56 55)]) (.seq (.cond (.tmp 57) .skip (.exit 2)) (.seq (.block 3 [0,1,6,7,9,11,12,13,39,40,54,55,56] (.seq (.region [.m 58 56, .o 59 (.i 1 54 56), .o 60 (.l 59), .m 14 58, .m 15 60]) (.region [.m 61 13, .m 62 15, .m 63 9, .m 64 6, .m 65 14, .o 66 (.i 1 64 65), .o 67 (.l 66), .m 68 12, .o 69 (.i 1 67 68), .o 70 (.l 69), .o 71 (.q 92 [63,70]), .o 72 (.i 1 61 62), .n (.st 1 (.tmp 72) (.tmp 71))]))) (.region [.o 73 (.c .add 56 1), .m 56 73]))))
def c49L1:ACode:=(.seq (.region [.o 41 (.b .lss 40 39)]) (.seq (.cond (.tmp 41) .skip (.exit 0)) (.seq (.block 1 [0,1,6,7,9,11,39,40] (.seq (.region [.m 42 40, .m 12 42]) (.seq (.seq (.region [.m 43 7, .m 44 12, .o 45 (.q 61 [43,44])]) (.cond (.tmp 45) (.exit 1) .skip)) (.seq (.region [.m 46 1, .o 47 (.iaddr 1 (.tmp 46) (.const (.int .i64 0))), .o 48 (.l 47), .o 49 (.n 48), .o 50 (.mks 3 1 8 [(.int .i64 0)] (.tmp 49) (.tmp 49)), .m 13 50]) (.seq (.region [.m 51 13, .m 52 12, .o 53 (.i 1 51 52), .n (.st 1 (.tmp 53) (.const (.int .i64 1)))]) (.seq (.seq (.region [.m 54 7, .o 55 (.n 54), .k 56 0]) (.block 2 [0,1,6,7,9,11,13,39,40] (.loop [0,1,6,7,9,11,12,13,39,40,54,55,56] c49L0))) (.region [.m 74 11, .m 75 13, .o 76 (.mkSl 34 1 1 [(.tmp 75)]), .o 77 (.app 34 1 24 (.tmp 74) (.tmp 76)), .m 11 77]))))))) (.region [.o 78 (.c .add 40 1), .m 40 78]))))
def c49:ACode:=(.seq (.region [.o 4 (.mv (.const (.slice none 0 0))), .k 5 0]) (.seq (.region [.m 17 0, .m 18 1, .o 19 (.q 45 [17,18]), .m 16 19, .o 20 (.e 0 16), .o 21 (.e 1 16), .o 22 (.e 2 16), .m 6 20, .m 7 21, .m 8 22]) (.seq (.seq (.region [.m 23 8, .o 24 (.c .neq 23 0), .m 25 24, .g 26 (.m 1) 25 false, .g 27 (.n 26) 25 false, .g 28 (.c .eql 27 0) 25 false, .o 29 (.pick (.tmp 25) (.const (.bool true)) (.tmp 28))]) (.cond (.tmp 29) (.seq (.region [.m 30 8, .o 4 (.mv (.const (.slice none 0 0))), .m 5 30]) .ret) .skip)) (.seq (.region [.m 32 0, .o 33 (.q 51 [32]), .m 31 33, .o 34 (.e 0 31), .o 35 (.e 1 31), .m 9 34, .m 10 35]) (.seq (.region [.o 11 (.mv (.const (.slice none 0 0)))]) (.seq (.seq (.region [.m 36 1, .o 37 (.iaddr 1 (.tmp 36) (.const (.int .i64 0))), .o 38 (.l 37), .o 39 (.n 38), .k 40 0]) (.block 0 [0,11] (.loop [0,1,6,7,9,11,39,40] c49L1))) (.seq (.region [.m 80 0, .m 81 11, .o 82 (.q 45 [80,81]), .m 79 82, .o 83 (.e 0 79), .o 84 (.e 1 79), .o 85 (.e 2 79), .m 11 83]) (.seq (.region [.m 86 11, .m 4 86, .k 5 0]) .ret))))))))
def F49:AFun:=⟨c49,2,87,[(.tmp 4),(.tmp 5)]⟩
def K49:Nat→List Nat×List Nat
 |0=>([0,1,6,7,9,11,39,40],[0,11])
 |1=>([],[0,1,6,7,9,11,39,40])
 |2=>([0,1,6,7,9,11,12,13,39,40,54,55,56],[0,1,6,7,9,11,13,39,40])
 |3=>([],[0,1,6,7,9,11,12,13,39,40,54,55,56])
 |_=>([],[])
theorem F49_ok:kj8 Try.prog K49 Try.f49=some F49:=by kernel_rfl
/- 50: syndrome/syndromeref.SameAll -/
def c50L0:ACode:=(.seq (.seq (.region [.m 11 5, .m 12 0, .o 13 (.n 12), .o 14 (.b .lss 11 13)]) (.cond (.tmp 14) .skip (.exit 0))) (.seq (.block 1 [0,1,5] (.seq (.region [.m 17 0, .m 18 5, .o 19 (.i 1 17 18), .o 20 (.l 19), .m 21 1, .m 22 5, .o 23 (.i 1 21 22), .o 24 (.l 23), .o 25 (.q 27 [20,24]), .o 26 (.un .not (.tmp 25))]) (.cond (.tmp 26) (.seq (.region [.o 4 (.mv (.const (.bool false)))]) .ret) .skip))) (.region [.m 15 5, .o 16 (.c .add 15 1), .m 5 16])))
def c50:ACode:=(.seq (.region [.o 4 (.mv (.const (.bool false)))]) (.seq (.seq (.region [.m 6 0, .o 7 (.n 6), .m 8 1, .o 9 (.n 8), .o 10 (.b .neq 7 9)]) (.cond (.tmp 10) (.seq (.region [.o 4 (.mv (.const (.bool false)))]) .ret) .skip)) (.seq (.seq (.region [.k 5 0]) (.block 0 [] (.loop [0,1,5] c50L0))) (.seq (.region [.o 4 (.mv (.const (.bool true)))]) .ret))))
def F50:AFun:=⟨c50,2,27,[(.tmp 4)]⟩
def K50:Nat→List Nat×List Nat
 |0=>([0,1,5],[])
 |1=>([],[0,1,5])
 |_=>([],[])
theorem F50_ok:kj8 Try.prog K50 Try.f50=some F50:=by kernel_rfl
/- 51: syndrome/field.New -/
def oi4:List Value:=[(.int .u32 0),(.int .i32 0),(.int .u32 0),(.int .u32 0),(.int .i32 0),(.int .u32 0),(.int .u32 0),(.int .i32 0),(.int .u32 0),(.int .u32 0),(.int .i32 0),(.int .u32 0),(.int .u32 0),(.int .i32 0),(.int .u32 0),(.int .u32 0),(.int .i32 0),(.int .u32 0),(.int .u32 0),(.int .i32 0),(.int .u32 0),(.int .u32 0),(.int .i32 0),(.int .u32 0),(.int .u32 0),(.int .i32 0),(.int .u32 0),(.int .u32 0),(.int .i32 0),(.int .u32 0),(.int .u32 0),(.int .i32 0),(.int .u32 0),(.int .u32 0),(.int .i32 0),(.int .u32 0),(.int .u32 0),(.int .i32 0),(.int .u32 0),(.int .u32 0),(.int .i32 0),(.int .u32 0),(.int .u32 0),(.int .i32 0),(.int .u32 0),(.int .u32 0),(.int .i32 0),(.int .u32 0),(.int .u32 0),(.int .i32 0),(.int .u32 0),(.int .u32 0),(.int .i32 0),(.int .u32 0),(.int .u32 0),(.int .i32 0),(.int .u32 0),(.int .u32 0),(.int .i32 0),(.int .u32 0),(.int .u32 0),(.int .i32 0),(.int .u32 0),(.int .u32 0),(.int .i32 0),(.int .u32 0),(.int .u32 0),(.int .i32 0),(.int .u32 0),(.int .u32 0),(.int .i32 0),(.int .u32 0),(.int .u32 0),(.int .i32 0),(.int .u32 0),(.int .u32 0),(.int .i32 0),(.int .u32 0),(.int .u32 0),(.int .i32 0),(.int .u32 0),(.int .u32 0),(.int .i32 0),(.int .u32 0),(.int .u32 0),(.int .i32 0),(.int .u32 0),(.int .u32 0),(.int .i32 0),(.int .u32 0),(.int .u32 0),(.int .i32 0),(.int .u32 0),(.int .u32 0),(.int .i32 0),(.int .u32 0),(.int .u32 0),(.int .i32 0),(.int .u32 0),(.int .u32 0),(.int .i32 0),(.int .u32 0),(.int .u32 0),(.int .i32 0),(.int .u32 0),(.int .u32 0),(.int .i32 0),(.int .u32 0),(.int .u32 0),(.int .i32 0),(.int .u32 0),(.int .u32 0),(.int .i32 0),(.int .u32 0),(.int .u32 0),(.int .i32 0),(.int .u32 0),(.int .u32 0),(.int .i32 0),(.int .u32 0),(.int .u32 0),(.int .i32 0),(.int .u32 0),(.int .u32 0),(.int .i32 0),(.int .u32 0),(.int .u32 0),(.int .i32 0),(.int .u32 0),(.int .u32 0),(.int .i32 0),(.int .u32 0),(.int .u32 0),(.int .i32 0),(.int .u32 0),(.int .u32 0),(.int .i32 0),(.int .u32 0),(.int .u32 0),(.int .i32 0),(.int .u32 0),(.int .u32 0),(.int .i32 0),(.int .u32 0),(.int .u32 0),(.int .i32 0),(.int .u32 0),(.int .u32 0),(.int .i32 0),(.int .u32 0),(.int .u32 0),(.int .i32 0),(.int .u32 0),(.int .u32 0),(.int .i32 0),(.int .u32 0),(.int .u32 0),(.int .i32 0),(.int .u32 0),(.int .u32 0),(.int .i32 0),(.int .u32 0),(.int .u32 0),(.int .i32 0),(.int .u32 0),(.int .u32 0),(.int .i32 0),(.int .u32 0),(.int .u32 0),(.int .i32 0),(.int .u32 0),(.int .u32 0),(.int .i32 0),(.int .u32 0),(.int .u32 0),(.int .i32 0),(.int .u32 0),(.int .u32 0),(.int .i32 0),(.int .u32 0),(.int .u32 0),(.int .i32 0),(.int .u32 0),(.int .u32 0),(.int .i32 0),(.int .u32 0),(.int .u32 0),(.int .i32 0),(.int .u32 0),(.int .u32 0),(.int .i32 0),(.int .u32 0),(.int .u32 0),(.int .i32 0),(.int .u32 0),(.pointer none),(.pointer none),(.pointer none),(.pointer none),(.pointer none),(.pointer none),(.pointer none),(.pointer none),(.pointer none),(.pointer none),(.pointer none),(.pointer none),(.pointer none),(.pointer none),(.pointer none),(.pointer none),(.pointer none),(.pointer none),(.pointer none),(.pointer none),(.pointer none),(.pointer none),(.pointer none),(.pointer none),(.pointer none),(.pointer none),(.pointer none),(.pointer none),(.pointer none),(.pointer none),(.pointer none),(.pointer none),(.pointer none),(.pointer none),(.pointer none),(.pointer none),(.pointer none),(.pointer none),(.pointer none),(.pointer none),(.pointer none),(.pointer none),(.pointer none),(.pointer none),(.pointer none),(.pointer none),(.pointer none),(.pointer none),(.pointer none),(.pointer none),(.pointer none),(.pointer none),(.pointer none),(.pointer none),(.pointer none),(.pointer none),(.pointer none),(.pointer none),(.pointer none),(.pointer none),(.pointer none),(.pointer none),(.pointer none),(.pointer none),(.pointer none)]
def c51:ACode:=(.seq (.region [.o 1 (.box 3 1 (.tmp 0)), .o 2 (.mv (.const (.pointer none))), .k 3 0]) (.seq (.seq (.region [.o 5 (.l 1), .o 6 (.c .lss 5 2), .m 7 6, .g 8 (.l 1) 7 false, .g 9 (.c .gtr 8 64) 7 false, .o 10 (.pick (.tmp 7) (.const (.bool true)) (.tmp 9))]) (.cond (.tmp 10) (.seq (.region [.o 2 (.mv (.const (.pointer none))), .k 3 1]) .ret) .skip)) (.seq (.region [.o 4 (.alloc 132 oi4)]) (.seq (.region [.o 11 (.l 1), .o 12 (.f 0 4), .o 13 (.iaddrA 65 3 (.tmp 12) (.tmp 11)), .o 14 (.mkf 94 [(.tmp 1),(.tmp 4)]), .o 15 (.q 93 [13,14])]) (.seq (.seq (.region [.o 16 (.l 1), .o 17 (.f 195 4), .o 18 (.iaddrA 65 1 (.tmp 17) (.tmp 16)), .o 19 (.l 18), .o 20 (.eqn false 1 (.tmp 19))]) (.cond (.tmp 20) (.seq (.region [.o 2 (.mv (.const (.pointer none))), .k 3 1]) .ret) .skip)) (.seq (.region [.o 21 (.l 1), .o 22 (.f 195 4), .o 23 (.iaddrA 65 1 (.tmp 22) (.tmp 21)), .o 24 (.l 23), .m 2 24, .k 3 0]) .ret))))))
def F51:AFun:=⟨c51,1,25,[(.tmp 2),(.tmp 3)]⟩
def K51:Nat→List Nat×List Nat
 |_=>([],[])
theorem F51_ok:kj8 Try.prog K51 Try.f51=some F51:=by kernel_rfl
/- 58: (*syndrome/field.Field).Add -/
def c58L0:ACode:=(.seq (.region [.o 24 (.b .lss 23 22)]) (.seq (.cond (.tmp 24) .skip (.exit 0)) (.seq (.block 1 [0,1,2,7,8,22,23] (.seq (.region [.m 25 7, .m 26 1, .m 27 0, .o 28 (.nilck (.tmp 27)), .o 29 (.f 1 28), .o 30 (.l 29), .o 31 (.b .rem 26 30), .m 32 2, .m 33 0, .o 34 (.nilck (.tmp 33)), .o 35 (.f 1 34), .o 36 (.l 35), .o 37 (.b .rem 32 36), .o 38 (.b .add 31 37), .m 39 0, .o 40 (.nilck (.tmp 39)), .o 41 (.f 1 40), .o 42 (.l 41), .o 43 (.b .rem 38 42), .m 44 8, .o 45 (.b .mul 43 44), .o 46 (.b .add 25 45), .m 7 46]) (.region [.m 47 1, .m 48 0, .o 49 (.nilck (.tmp 48)), .o 50 (.f 1 49), .o 51 (.l 50), .o 52 (.b .quo 47 51), .m 53 2, .m 54 0, .o 55 (.nilck (.tmp 54)), .o 56 (.f 1 55), .o 57 (.l 56), .o 58 (.b .quo 53 57), .m 59 8, .m 60 0, .o 61 (.nilck (.tmp 60)), .o 62 (.f 1 61), .o 63 (.l 62), .o 64 (.b .mul 59 63), .m 1 52, .m 2 58, .m 8 64]))) (.region [.o 65 (.c .add 23 1), .m 23 65]))))
def c58:ACode:=(.seq (.region [.k 6 0]) (.seq (.seq (.region [.m 9 0, .m 10 1, .o 11 (.q 98 [9,10]), .o 12 (.un .not (.tmp 11)), .m 13 12, .g 14 (.m 0) 13 false, .g 15 (.m 2) 13 false, .g 16 (.q 98 [14,15]) 13 false, .g 17 (.un .not (.tmp 16)) 13 false, .o 18 (.pick (.tmp 13) (.const (.bool true)) (.tmp 17))]) (.cond (.tmp 18) (.seq (.region [.k 6 (-1)]) .ret) .skip)) (.seq (.region [.k 7 0, .k 8 1]) (.seq (.seq (.region [.m 19 0, .o 20 (.nilck (.tmp 19)), .o 21 (.f 2 20), .o 22 (.l 21), .k 23 0]) (.block 0 [7] (.loop [0,1,2,7,8,22,23] c58L0))) (.seq (.region [.m 66 7, .m 6 66]) .ret)))))
def F58:AFun:=⟨c58,3,67,[(.tmp 6)]⟩
def K58:Nat→List Nat×List Nat
 |0=>([0,1,2,7,8,22,23],[7])
 |1=>([],[0,1,2,7,8,22,23])
 |_=>([],[])
theorem F58_ok:kj8 Try.prog K58 Try.f58=some F58:=by kernel_rfl
/- 60: (*syndrome/field.Field).Mul -/
def c60:ACode:=(.seq (.region [.k 6 0]) (.seq (.seq (.region [.m 7 0, .m 8 1, .o 9 (.q 98 [7,8]), .o 10 (.un .not (.tmp 9)), .m 11 10, .g 12 (.m 0) 11 false, .g 13 (.m 2) 11 false, .g 14 (.q 98 [12,13]) 11 false, .g 15 (.un .not (.tmp 14)) 11 false, .o 16 (.pick (.tmp 11) (.const (.bool true)) (.tmp 15))]) (.cond (.tmp 16) (.seq (.region [.k 6 (-1)]) .ret) .skip)) (.seq (.seq (.region [.m 17 1, .o 18 (.c .eql 17 0), .m 19 18, .g 20 (.m 2) 19 false, .g 21 (.c .eql 20 0) 19 false, .o 22 (.pick (.tmp 19) (.const (.bool true)) (.tmp 21))]) (.cond (.tmp 22) (.seq (.region [.k 6 0]) .ret) .skip)) (.seq (.region [.m 23 0, .o 24 (.nilck (.tmp 23)), .o 25 (.f 5 24), .o 26 (.l 25), .m 27 0, .o 28 (.nilck (.tmp 27)), .o 29 (.f 6 28), .o 30 (.l 29), .m 31 1, .o 32 (.i 1 30 31), .o 33 (.l 32), .m 34 0, .o 35 (.nilck (.tmp 34)), .o 36 (.f 6 35), .o 37 (.l 36), .m 38 2, .o 39 (.i 1 37 38), .o 40 (.l 39), .o 41 (.b .add 33 40), .m 42 0, .o 43 (.nilck (.tmp 42)), .o 44 (.f 0 43), .o 45 (.l 44), .o 46 (.c .sub 45 1), .o 47 (.b .rem 41 46), .o 48 (.i 1 26 47), .o 49 (.l 48), .m 6 49]) .ret))))
def F60:AFun:=⟨c60,3,50,[(.tmp 6)]⟩
def K60:Nat→List Nat×List Nat
 |_=>([],[])
theorem F60_ok:kj8 Try.prog K60 Try.f60=some F60:=by kernel_rfl
/- 61: slices.Contains[[]int,int] -/
def c61:ACode:=(.seq (.region [.o 4 (.mv (.const (.bool false)))]) (.seq (.region [.m 5 0, .m 6 1, .o 7 (.q 102 [5,6]), .o 8 (.c .geq 7 0), .m 4 8]) .ret))
def F61:AFun:=⟨c61,2,9,[(.tmp 4)]⟩
def K61:Nat→List Nat×List Nat
 |_=>([],[])
theorem F61_ok:kj8 Try.prog K61 Try.f61=some F61:=by kernel_rfl
/- 74: slices.Clone[[]int,int] -/
def c74:ACode:=(.seq (.region [.o 2 (.mv (.const (.slice none 0 0)))]) (.seq (.seq (.region [.m 3 0, .o 4 (.eqn false 0 (.tmp 3))]) (.cond (.tmp 4) (.seq (.region [.o 2 (.mv (.const (.slice none 0 0)))]) .ret) .skip)) (.seq (.region [.o 5 (.mkSl 3 1 0 []), .m 6 0, .o 7 (.app 3 1 8 (.tmp 5) (.tmp 6)), .m 2 7]) .ret)))
def F74:AFun:=⟨c74,1,8,[(.tmp 2)]⟩
def K74:Nat→List Nat×List Nat
 |_=>([],[])
theorem F74_ok:kj8 Try.prog K74 Try.f74=some F74:=by kernel_rfl
/- 83: syndrome/matrix.Check -/
def c83L0:ACode:=(.seq (.region [.o 23 (.b .lss 22 21)]) (.seq (.cond (.tmp 23) .skip (.exit 0)) (.seq (.block 1 [1,5,20,21,22] (.seq (.region [.o 24 (.i 1 20 22), .o 25 (.l 24), .m 8 25]) (.seq (.seq (.region [.m 26 8, .o 27 (.n 26), .m 28 1, .o 29 (.iaddr 1 (.tmp 28) (.const (.int .i64 0))), .o 30 (.l 29), .o 31 (.n 30), .o 32 (.b .neq 27 31), .m 33 32, .g 34 (.m 8) 33 false, .g 35 (.n 34) 33 false, .g 36 (.c .eql 35 0) 33 false, .o 37 (.pick (.tmp 33) (.const (.bool true)) (.tmp 36))]) (.cond (.tmp 37) (.seq (.region [.k 4 3]) .ret) .skip)) (.seq (.seq (.region [.m 38 8, .o 39 (.n 38), .o 40 (.c .gtr 39 64)]) (.cond (.tmp 40) (.seq (.region [.k 4 4]) .ret) .skip)) (.seq (.region [.m 41 8, .o 42 (.mkf 111 [(.tmp 5)]), .o 43 (.q 96 [41,42])]) (.cond (.tmp 43) (.seq (.region [.k 4 2]) .ret) .skip)))))) (.region [.o 44 (.c .add 22 1), .m 22 44]))))
def c83:ACode:=(.seq (.region [.k 4 0]) (.seq (.region [.m 10 0, .o 11 (.q 51 [10]), .m 9 11, .o 12 (.e 0 9), .o 13 (.e 1 9), .o 5 (.alloc 81 [(.pointer none)]), .n (.st 1 (.tmp 5) (.tmp 12)), .m 6 13]) (.seq (.seq (.region [.m 14 6, .o 15 (.c .neq 14 0)]) (.cond (.tmp 15) (.seq (.region [.m 16 6, .m 4 16]) .ret) .skip)) (.seq (.seq (.region [.m 17 1, .o 18 (.n 17), .o 19 (.c .gtr 18 64)]) (.cond (.tmp 19) (.seq (.region [.k 4 4]) .ret) .skip)) (.seq (.seq (.region [.m 20 1, .o 21 (.n 20), .k 22 0]) (.block 0 [] (.loop [1,5,20,21,22] c83L0))) (.seq (.region [.k 4 0]) .ret))))))
def F83:AFun:=⟨c83,2,45,[(.tmp 4)]⟩
def K83:Nat→List Nat×List Nat
 |0=>([1,5,20,21,22],[])
 |1=>([],[1,5,20,21,22])
 |_=>([],[])
theorem F83_ok:kj8 Try.prog K83 Try.f83=some F83:=by kernel_rfl
/- 84: syndrome/matrix.clone -/
def c84L0:ACode:=(.seq (.region [.o 12 (.b .lss 11 10)]) (.seq (.cond (.tmp 12) .skip (.exit 0)) (.seq (.block 1 [3,9,10,11] (.seq (.region [.m 13 11, .o 14 (.i 1 9 11), .o 15 (.l 14), .m 4 13, .m 5 15]) (.region [.m 16 3, .m 17 4, .m 18 5, .o 19 (.q 74 [18]), .o 20 (.i 1 16 17), .n (.st 1 (.tmp 20) (.tmp 19))]))) (.region [.o 21 (.c .add 11 1), .m 11 21]))))
def c84:ACode:=(.seq (.region [.o 2 (.mv (.const (.slice none 0 0)))]) (.seq (.region [.m 6 0, .o 7 (.n 6), .o 8 (.mks 34 1 24 [(.slice none 0 0)] (.tmp 7) (.tmp 7)), .m 3 8]) (.seq (.seq (.region [.m 9 0, .o 10 (.n 9), .k 11 0]) (.block 0 [3] (.loop [3,9,10,11] c84L0))) (.seq (.region [.m 22 3, .m 2 22]) .ret))))
def F84:AFun:=⟨c84,1,23,[(.tmp 2)]⟩
def K84:Nat→List Nat×List Nat
 |0=>([3,9,10,11],[3])
 |1=>([],[3,9,10,11])
 |_=>([],[])
theorem F84_ok:kj8 Try.prog K84 Try.f84=some F84:=by kernel_rfl
/- 85: slices.IndexFunc[[][]int,[]int] -/
def c85L0:ACode:=(.seq (.region [.o 9 (.b .lss 8 7)]) (.seq (.cond (.tmp 9) .skip (.exit 0)) (.seq (.block 1 [0,1,7,8] (.seq (.region [.m 10 8, .m 5 10]) (.seq (.region [.m 11 1, .m 12 0, .m 13 5, .o 14 (.i 1 12 13), .o 15 (.l 14), .o 16 (.calld (.tmp 11) [(.tmp 15)])]) (.cond (.tmp 16) (.seq (.region [.m 17 5, .m 4 17]) .ret) .skip)))) (.region [.o 18 (.c .add 8 1), .m 8 18]))))
def c85:ACode:=(.seq (.region [.k 4 0]) (.seq (.seq (.region [.m 6 0, .o 7 (.n 6), .k 8 0]) (.block 0 [] (.loop [0,1,7,8] c85L0))) (.seq (.region [.k 4 (-1)]) .ret)))
def F85:AFun:=⟨c85,2,19,[(.tmp 4)]⟩
def K85:Nat→List Nat×List Nat
 |0=>([0,1,7,8],[])
 |1=>([],[0,1,7,8])
 |_=>([],[])
theorem F85_ok:kj8 Try.prog K85 Try.f85=some F85:=by kernel_rfl
/- 86: syndrome/matrix.Reduce$1 -/
def c86:ACode:=(.seq (.region [.o 3 (.mv (.const (.bool false)))]) (.seq (.region [.m 4 0, .o 5 (.l 1), .o 6 (.i 1 4 5), .o 7 (.l 6), .o 8 (.c .neq 7 0), .m 3 8]) .ret))
def F86:AFun:=⟨c86,2,9,[(.tmp 3)]⟩
def K86:Nat→List Nat×List Nat
 |_=>([],[])
theorem F86_ok:kj8 Try.prog K86 Try.f86=some F86:=by kernel_rfl
/- 87: syndrome/matrix.scale -/
def c87L0:ACode:=(.seq (.region [.o 10 (.b .lss 9 8)]) (.seq (.cond (.tmp 10) .skip (.exit 0)) (.seq (.block 1 [0,1,2,8,9] (.seq (.region [.m 11 9, .m 6 11]) (.region [.m 12 1, .m 13 6, .m 14 0, .m 15 1, .m 16 6, .o 17 (.i 1 15 16), .o 18 (.l 17), .m 19 2, .o 20 (.q 60 [14,18,19]), .o 21 (.i 1 12 13), .n (.st 1 (.tmp 21) (.tmp 20))]))) (.region [.o 22 (.c .add 9 1), .m 9 22]))))
def c87:ACode:=(.seq (.region [.m 7 1, .o 8 (.n 7), .k 9 0]) (.block 0 [] (.loop [0,1,2,8,9] c87L0)))
def F87:AFun:=⟨c87,3,23,[]⟩
def K87:Nat→List Nat×List Nat
 |0=>([0,1,2,8,9],[])
 |1=>([],[0,1,2,8,9])
 |_=>([],[])
theorem F87_ok:kj8 Try.prog K87 Try.f87=some F87:=by kernel_rfl
/- 88: (*syndrome/field.Field).Inv -/
def c88:ACode:=(.seq (.region [.k 4 0]) (.seq (.seq (.region [.m 5 0, .m 6 1, .o 7 (.q 98 [5,6]), .o 8 (.un .not (.tmp 7)), .m 9 8, .g 10 (.m 1) 9 false, .g 11 (.c .eql 10 0) 9 false, .o 12 (.pick (.tmp 9) (.const (.bool true)) (.tmp 11))]) (.cond (.tmp 12) (.seq (.region [.k 4 (-1)]) .ret) .skip)) (.seq (.region [.m 13 0, .o 14 (.nilck (.tmp 13)), .o 15 (.f 5 14), .o 16 (.l 15), .m 17 0, .o 18 (.nilck (.tmp 17)), .o 19 (.f 0 18), .o 20 (.l 19), .o 21 (.c .sub 20 1), .m 22 0, .o 23 (.nilck (.tmp 22)), .o 24 (.f 6 23), .o 25 (.l 24), .m 26 1, .o 27 (.i 1 25 26), .o 28 (.l 27), .o 29 (.b .sub 21 28), .m 30 0, .o 31 (.nilck (.tmp 30)), .o 32 (.f 0 31), .o 33 (.l 32), .o 34 (.c .sub 33 1), .o 35 (.b .rem 29 34), .o 36 (.i 1 16 35), .o 37 (.l 36), .m 4 37]) .ret)))
def F88:AFun:=⟨c88,2,38,[(.tmp 4)]⟩
def K88:Nat→List Nat×List Nat
 |_=>([],[])
theorem F88_ok:kj8 Try.prog K88 Try.f88=some F88:=by kernel_rfl
/- 89: syndrome/matrix.less -/
def c89L0:ACode:=(.seq (.region [.o 12 (.b .lss 11 10)]) (.seq (.cond (.tmp 12) .skip (.exit 0)) (.seq (.block 1 [0,1,2,3,10,11] (.seq (.region [.m 13 11, .m 8 13]) (.region [.m 14 1, .m 15 8, .m 16 0, .m 17 1, .m 18 8, .o 19 (.i 1 17 18), .o 20 (.l 19), .m 21 0, .m 22 3, .m 23 2, .m 24 8, .o 25 (.i 1 23 24), .o 26 (.l 25),⟨(some 27),(.call 60 [(.tmp 21),(.tmp 22),(.tmp 26)]),none,true⟩, .o 28 (.q 100 [16,20,27]), .o 29 (.i 1 14 15), .n (.st 1 (.tmp 29) (.tmp 28))]))) (.region [.o 30 (.c .add 11 1), .m 11 30]))))
def c89:ACode:=(.seq (.region [.m 9 1, .o 10 (.n 9), .k 11 0]) (.block 0 [] (.loop [0,1,2,3,10,11] c89L0)))
def F89:AFun:=⟨c89,4,31,[]⟩
def K89:Nat→List Nat×List Nat
 |0=>([0,1,2,3,10,11],[])
 |1=>([],[0,1,2,3,10,11])
 |_=>([],[])
theorem F89_ok:kj8 Try.prog K89 Try.f89=some F89:=by kernel_rfl
/- 92: (*syndrome/field.Field).Neg -/
def c92L0:ACode:=(.seq (.region [.o 16 (.b .lss 15 14)]) (.seq (.cond (.tmp 16) .skip (.exit 0)) (.seq (.block 1 [0,1,5,6,14,15] (.seq (.region [.m 17 5, .m 18 0, .o 19 (.nilck (.tmp 18)), .o 20 (.f 1 19), .o 21 (.l 20), .m 22 1, .m 23 0, .o 24 (.nilck (.tmp 23)), .o 25 (.f 1 24), .o 26 (.l 25), .o 27 (.b .rem 22 26), .o 28 (.b .sub 21 27), .m 29 0, .o 30 (.nilck (.tmp 29)), .o 31 (.f 1 30), .o 32 (.l 31), .o 33 (.b .rem 28 32), .m 34 6, .o 35 (.b .mul 33 34), .o 36 (.b .add 17 35), .m 5 36]) (.region [.m 37 1, .m 38 0, .o 39 (.nilck (.tmp 38)), .o 40 (.f 1 39), .o 41 (.l 40), .o 42 (.b .quo 37 41), .m 43 6, .m 44 0, .o 45 (.nilck (.tmp 44)), .o 46 (.f 1 45), .o 47 (.l 46), .o 48 (.b .mul 43 47), .m 1 42, .m 6 48]))) (.region [.o 49 (.c .add 15 1), .m 15 49]))))
def c92:ACode:=(.seq (.region [.k 4 0]) (.seq (.seq (.region [.m 7 0, .m 8 1, .o 9 (.q 98 [7,8]), .o 10 (.un .not (.tmp 9))]) (.cond (.tmp 10) (.seq (.region [.k 4 (-1)]) .ret) .skip)) (.seq (.region [.k 5 0, .k 6 1]) (.seq (.seq (.region [.m 11 0, .o 12 (.nilck (.tmp 11)), .o 13 (.f 2 12), .o 14 (.l 13), .k 15 0]) (.block 0 [5] (.loop [0,1,5,6,14,15] c92L0))) (.seq (.region [.m 50 5, .m 4 50]) .ret)))))
def F92:AFun:=⟨c92,2,51,[(.tmp 4)]⟩
def K92:Nat→List Nat×List Nat
 |0=>([0,1,5,6,14,15],[5])
 |1=>([],[0,1,5,6,14,15])
 |_=>([],[])
theorem F92_ok:kj8 Try.prog K92 Try.f92=some F92:=by kernel_rfl
/- 94: syndrome/field.New$1 -/
def c94:ACode:=(.region [.o 2 (.l 0), .o 3 (.l 0),⟨(some 4),(.call 95 [(.tmp 3)]),none,true⟩, .o 5 (.f 195 1), .o 6 (.iaddrA 65 1 (.tmp 5) (.tmp 2)), .n (.st 1 (.tmp 6) (.tmp 4))])
def F94:AFun:=⟨c94,2,7,[]⟩
def K94:Nat→List Nat×List Nat
 |_=>([],[])
theorem F94_ok:kj8 Try.prog K94 Try.f94=some F94:=by kernel_rfl
/- 95: syndrome/field.build -/
def c95L0:ACode:=(.seq (.seq (.region [.m 28 5, .o 29 (.q 116 [28]), .o 30 (.un .not (.tmp 29))]) (.cond (.tmp 30) .skip (.exit 0))) (.seq (.block 1 [5] .skip) (.region [.m 31 5, .o 32 (.nilck (.tmp 31)), .o 33 (.f 4 32), .o 34 (.l 33), .o 35 (.c .add 34 1), .o 36 (.nilck (.tmp 31)), .o 37 (.f 4 36), .n (.st 1 (.tmp 37) (.tmp 35))])))
def c95L1:ACode:=(.seq (.region [.o 45 (.b .lss 44 43)]) (.seq (.cond (.tmp 45) .skip (.exit 2)) (.seq (.block 3 [3,4,5,43,44] (.seq (.region [.m 46 44, .m 6 46]) (.seq (.region [.m 47 5, .m 48 6, .m 49 3, .m 50 4, .o 51 (.q 117 [48,49,50]), .o 52 (.mkSl 3 1 1 [(.const (.int .i64 1))]), .o 53 (.app 3 1 8 (.tmp 51) (.tmp 52)), .o 54 (.nilck (.tmp 47)), .o 55 (.f 3 54), .n (.st 1 (.tmp 55) (.tmp 53))]) (.seq (.region [.m 56 5, .o 57 (.q 116 [56])]) (.cond (.tmp 57) (.seq (.region [.m 58 5, .m 2 58]) .ret) .skip))))) (.region [.o 59 (.c .add 44 1), .m 44 59]))))
def c95:ACode:=(.seq (.region [.o 2 (.mv (.const (.pointer none)))]) (.seq (.region [.m 8 0, .o 9 (.q 115 [8]), .m 7 9, .o 10 (.e 0 7), .o 11 (.e 1 7), .m 3 10, .m 4 11]) (.seq (.seq (.region [.m 12 3, .o 13 (.c .eql 12 0)]) (.cond (.tmp 13) (.seq (.region [.o 2 (.mv (.const (.pointer none)))]) .ret) .skip)) (.seq (.region [.m 14 0, .m 15 3, .m 16 4, .o 17 (.build [(.int .i64 0),(.int .i64 0),(.int .i64 0),(.slice none 0 0),(.int .i64 0),(.slice none 0 0),(.slice none 0 0)] [(0,1),(1,1),(2,1),(3,1),(4,1),(5,1),(6,1)] [(0,(.tmp 14)),(1,(.tmp 15)),(2,(.tmp 16))]), .o 18 (.box 137 7 (.tmp 17)), .m 5 18]) (.seq (.seq (.region [.m 19 4, .o 20 (.c .eql 19 1)]) (.cond (.tmp 20) (.seq (.region [.m 21 5, .o 22 (.mkSl 3 1 2 [(.const (.int .i64 0)),(.const (.int .i64 1))]), .o 23 (.nilck (.tmp 21)), .o 24 (.f 3 23), .n (.st 1 (.tmp 24) (.tmp 22))]) (.seq (.seq (.region [.m 25 5, .o 26 (.nilck (.tmp 25)), .o 27 (.f 4 26), .n (.st 1 (.tmp 27) (.const (.int .i64 1)))]) (.block 0 [5] (.loop [5] c95L0))) (.seq (.region [.m 38 5, .m 2 38]) .ret))) .skip)) (.seq (.region [.m 39 5, .m 40 3, .o 41 (.nilck (.tmp 39)), .o 42 (.f 4 41), .n (.st 1 (.tmp 42) (.tmp 40))]) (.seq (.seq (.region [.m 43 0, .k 44 0]) (.block 2 [] (.loop [3,4,5,43,44] c95L1))) (.seq (.region [.o 2 (.mv (.const (.pointer none)))]) .ret))))))))
def F95:AFun:=⟨c95,1,60,[(.tmp 2)]⟩
def K95:Nat→List Nat×List Nat
 |0=>([5],[5])
 |1=>([],[5])
 |2=>([3,4,5,43,44],[])
 |3=>([],[3,4,5,43,44])
 |_=>([],[])
theorem F95_ok:kj8 Try.prog K95 Try.f95=some F95:=by kernel_rfl
/- 96: slices.ContainsFunc[[]int,int] -/
def c96:ACode:=(.seq (.region [.o 4 (.mv (.const (.bool false)))]) (.seq (.region [.m 5 0, .m 6 1, .o 7 (.q 118 [5,6]), .o 8 (.c .geq 7 0), .m 4 8]) .ret))
def F96:AFun:=⟨c96,2,9,[(.tmp 4)]⟩
def K96:Nat→List Nat×List Nat
 |_=>([],[])
theorem F96_ok:kj8 Try.prog K96 Try.f96=some F96:=by kernel_rfl
/- 98: (*syndrome/field.Field).Has -/
def c98:ACode:=(.seq (.region [.o 4 (.mv (.const (.bool false)))]) (.seq (.region [.m 5 1, .o 6 (.c .geq 5 0), .m 7 6, .g 8 (.m 1) 7 true, .g 9 (.m 0) 7 true, .g 10 (.nilck (.tmp 9)) 7 true, .g 11 (.f 0 10) 7 true, .g 12 (.l 11) 7 true, .g 13 (.b .lss 8 12) 7 true, .o 14 (.pick (.tmp 7) (.tmp 13) (.const (.bool false))), .m 4 14]) .ret))
def F98:AFun:=⟨c98,2,15,[(.tmp 4)]⟩
def K98:Nat→List Nat×List Nat
 |_=>([],[])
theorem F98_ok:kj8 Try.prog K98 Try.f98=some F98:=by kernel_rfl
/- 100: (*syndrome/field.Field).Sub -/
def c100:ACode:=(.seq (.region [.k 6 0]) (.seq (.region [.m 7 0, .m 8 1, .m 9 0, .m 10 2, .o 11 (.q 92 [9,10]), .o 12 (.q 58 [7,8,11]), .m 6 12]) .ret))
def F100:AFun:=⟨c100,3,13,[(.tmp 6)]⟩
def K100:Nat→List Nat×List Nat
 |_=>([],[])
theorem F100_ok:kj8 Try.prog K100 Try.f100=some F100:=by kernel_rfl
/- 102: slices.Index[[]int,int] -/
def c102L0:ACode:=(.seq (.region [.o 9 (.b .lss 8 7)]) (.seq (.cond (.tmp 9) .skip (.exit 0)) (.seq (.block 1 [0,1,7,8] (.seq (.region [.m 10 8, .m 5 10]) (.seq (.region [.m 11 1, .m 12 0, .m 13 5, .o 14 (.i 1 12 13), .o 15 (.l 14), .o 16 (.b .eql 11 15)]) (.cond (.tmp 16) (.seq (.region [.m 17 5, .m 4 17]) .ret) .skip)))) (.region [.o 18 (.c .add 8 1), .m 8 18]))))
def c102:ACode:=(.seq (.region [.k 4 0]) (.seq (.seq (.region [.m 6 0, .o 7 (.n 6), .k 8 0]) (.block 0 [] (.loop [0,1,7,8] c102L0))) (.seq (.region [.k 4 (-1)]) .ret)))
def F102:AFun:=⟨c102,2,19,[(.tmp 4)]⟩
def K102:Nat→List Nat×List Nat
 |0=>([0,1,7,8],[])
 |1=>([],[0,1,7,8])
 |_=>([],[])
theorem F102_ok:kj8 Try.prog K102 Try.f102=some F102:=by kernel_rfl
/- 109: syndrome/syndromeref.Number -/
def c109L0:ACode:=(.seq (.seq (.region [.m 10 6, .o 11 (.c .geq 10 0)]) (.cond (.tmp 11) .skip (.exit 0))) (.seq (.block 1 [0,1,5,6] (.region [.m 14 5, .m 15 1, .o 16 (.b .mul 14 15), .m 17 0, .m 18 6, .o 19 (.i 1 17 18), .o 20 (.l 19), .o 21 (.b .add 16 20), .m 5 21])) (.region [.m 12 6, .o 13 (.c .sub 12 1), .m 6 13])))
def c109:ACode:=(.seq (.region [.k 4 0]) (.seq (.region [.k 5 0]) (.seq (.seq (.region [.m 7 0, .o 8 (.n 7), .o 9 (.c .sub 8 1), .m 6 9]) (.block 0 [5] (.loop [0,1,5,6] c109L0))) (.seq (.region [.m 22 5, .m 4 22]) .ret))))
def F109:AFun:=⟨c109,2,23,[(.tmp 4)]⟩
def K109:Nat→List Nat×List Nat
 |0=>([0,1,5,6],[5])
 |1=>([],[0,1,5,6])
 |_=>([],[])
theorem F109_ok:kj8 Try.prog K109 Try.f109=some F109:=by kernel_rfl
/- 111: syndrome/matrix.Check$1 -/
def c111:ACode:=(.seq (.region [.o 3 (.mv (.const (.bool false)))]) (.seq (.region [.o 4 (.l 1), .m 5 0, .o 6 (.q 98 [4,5]), .o 7 (.un .not (.tmp 6)), .m 3 7]) .ret))
def F111:AFun:=⟨c111,2,8,[(.tmp 3)]⟩
def K111:Nat→List Nat×List Nat
 |_=>([],[])
theorem F111_ok:kj8 Try.prog K111 Try.f111=some F111:=by kernel_rfl
/- 115: syndrome/field.prime -/
def c115L0:ACode:=(.seq (.seq (.region [.m 4 0, .m 5 2, .o 6 (.b .rem 4 5), .o 7 (.c .neq 6 0)]) (.cond (.tmp 7) .skip (.exit 0))) (.block 1 [0,2,3] (.region [.m 8 2, .o 9 (.c .add 8 1), .m 2 9])))
def c115L1:ACode:=(.seq (.seq (.region [.m 10 0, .m 11 2, .o 12 (.b .rem 10 11), .o 13 (.c .eql 12 0)]) (.cond (.tmp 13) .skip (.exit 2))) (.seq (.block 3 [0,2,3] (.region [.m 17 3, .o 18 (.c .add 17 1), .m 3 18])) (.region [.m 14 0, .m 15 2, .o 16 (.b .quo 14 15), .m 0 16])))
def c115:ACode:=(.seq (.region [.k 2 0, .k 3 0]) (.seq (.region [.k 2 2]) (.seq (.block 0 [0,2,3] (.loop [0,2,3] c115L0)) (.seq (.block 2 [0,2,3] (.loop [0,2,3] c115L1)) (.seq (.seq (.region [.m 19 0, .o 20 (.c .neq 19 1)]) (.cond (.tmp 20) (.seq (.region [.k 2 0, .k 3 0]) .ret) .skip)) (.seq (.region [.m 21 2, .m 22 3, .m 2 21, .m 3 22]) .ret))))))
def F115:AFun:=⟨c115,1,23,[(.tmp 2),(.tmp 3)]⟩
def K115:Nat→List Nat×List Nat
 |0=>([0,2,3],[0,2,3])
 |1=>([],[0,2,3])
 |2=>([0,2,3],[0,2,3])
 |3=>([],[0,2,3])
 |_=>([],[])
theorem F115_ok:kj8 Try.prog K115 Try.f115=some F115:=by kernel_rfl
/- 116: (*syndrome/field.Field).fill -/
def c116L0:ACode:=(.seq (.region [.o 29 (.b .lss 28 27)]) (.seq (.cond (.tmp 29) .skip (.exit 0)) (.seq (.block 1 [0,27,28] (.seq (.region [.m 30 28, .m 3 30]) (.region [.m 31 0, .o 32 (.nilck (.tmp 31)), .o 33 (.f 6 32), .o 34 (.l 33), .m 35 3, .o 36 (.i 1 34 35), .n (.st 1 (.tmp 36) (.const (.int .i64 (-1))))]))) (.region [.o 37 (.c .add 28 1), .m 28 37]))))
def c116L1:ACode:=(.seq (.region [.o 44 (.b .lss 43 42)]) (.seq (.cond (.tmp 44) .skip (.exit 2)) (.seq (.block 3 [0,4,42,43] (.seq (.region [.m 45 43, .m 5 45]) (.seq (.seq (.region [.m 46 4, .o 47 (.c .eql 46 0), .m 48 47, .g 49 (.m 0) 48 false, .g 50 (.nilck (.tmp 49)) 48 false, .g 51 (.f 6 50) 48 false, .g 52 (.l 51) 48 false, .g 53 (.m 4) 48 false, .g 54 (.i 1 52 53) 48 false, .g 55 (.l 54) 48 false, .g 56 (.c .geq 55 0) 48 false, .o 57 (.pick (.tmp 48) (.const (.bool true)) (.tmp 56))]) (.cond (.tmp 57) (.seq (.region [.o 2 (.mv (.const (.bool false)))]) .ret) .skip)) (.seq (.region [.m 58 0, .o 59 (.nilck (.tmp 58)), .o 60 (.f 5 59), .o 61 (.l 60), .m 62 5, .m 63 0, .o 64 (.nilck (.tmp 63)), .o 65 (.f 6 64), .o 66 (.l 65), .m 67 4, .m 68 4, .m 69 5, .o 70 (.i 1 61 62), .n (.st 1 (.tmp 70) (.tmp 68)), .o 71 (.i 1 66 67), .n (.st 1 (.tmp 71) (.tmp 69))]) (.region [.m 72 0, .m 73 4, .o 74 (.q 130 [72,73]), .m 4 74]))))) (.region [.o 75 (.c .add 43 1), .m 43 75]))))
def c116:ACode:=(.seq (.region [.o 2 (.mv (.const (.bool false)))]) (.seq (.region [.m 6 0, .m 7 0, .o 8 (.nilck (.tmp 7)), .o 9 (.f 0 8), .o 10 (.l 9), .o 11 (.c .sub 10 1), .o 12 (.mks 3 1 8 [(.int .i64 0)] (.tmp 11) (.tmp 11)), .o 13 (.nilck (.tmp 6)), .o 14 (.f 5 13), .n (.st 1 (.tmp 14) (.tmp 12))]) (.seq (.region [.m 15 0, .m 16 0, .o 17 (.nilck (.tmp 16)), .o 18 (.f 0 17), .o 19 (.l 18), .o 20 (.mks 3 1 8 [(.int .i64 0)] (.tmp 19) (.tmp 19)), .o 21 (.nilck (.tmp 15)), .o 22 (.f 6 21), .n (.st 1 (.tmp 22) (.tmp 20))]) (.seq (.seq (.region [.m 23 0, .o 24 (.nilck (.tmp 23)), .o 25 (.f 6 24), .o 26 (.l 25), .o 27 (.n 26), .k 28 0]) (.block 0 [0] (.loop [0,27,28] c116L0))) (.seq (.region [.k 4 1]) (.seq (.seq (.region [.m 38 0, .o 39 (.nilck (.tmp 38)), .o 40 (.f 0 39), .o 41 (.l 40), .o 42 (.c .sub 41 1), .k 43 0]) (.block 2 [4] (.loop [0,4,42,43] c116L1))) (.seq (.region [.m 76 4, .o 77 (.c .eql 76 1), .m 2 77]) .ret)))))))
def F116:AFun:=⟨c116,1,78,[(.tmp 2)]⟩
def K116:Nat→List Nat×List Nat
 |0=>([0,27,28],[0])
 |1=>([],[0,27,28])
 |2=>([0,4,42,43],[4])
 |3=>([],[0,4,42,43])
 |_=>([],[])
theorem F116_ok:kj8 Try.prog K116 Try.f116=some F116:=by kernel_rfl
/- 117: syndrome/field.digits -/
def c117L0:ACode:=(.seq (.region [.o 14 (.b .lss 13 12)]) (.seq (.cond (.tmp 14) .skip (.exit 0)) (.seq (.block 1 [0,1,7,12,13] (.seq (.region [.m 15 13, .m 8 15]) (.seq (.region [.m 16 7, .m 17 8, .m 18 0, .m 19 1, .o 20 (.b .rem 18 19), .o 21 (.i 1 16 17), .n (.st 1 (.tmp 21) (.tmp 20))]) (.region [.m 22 0, .m 23 1, .o 24 (.b .quo 22 23), .m 0 24])))) (.region [.o 25 (.c .add 13 1), .m 13 25]))))
def c117:ACode:=(.seq (.region [.o 6 (.mv (.const (.slice none 0 0)))]) (.seq (.region [.m 9 2, .o 10 (.mks 3 1 8 [(.int .i64 0)] (.tmp 9) (.tmp 9)), .m 7 10]) (.seq (.seq (.region [.m 11 7, .o 12 (.n 11), .k 13 0]) (.block 0 [7] (.loop [0,1,7,12,13] c117L0))) (.seq (.region [.m 26 7, .m 6 26]) .ret))))
def F117:AFun:=⟨c117,3,27,[(.tmp 6)]⟩
def K117:Nat→List Nat×List Nat
 |0=>([0,1,7,12,13],[7])
 |1=>([],[0,1,7,12,13])
 |_=>([],[])
theorem F117_ok:kj8 Try.prog K117 Try.f117=some F117:=by kernel_rfl
/- 118: slices.IndexFunc[[]int,int] -/
def c118L0:ACode:=(.seq (.region [.o 9 (.b .lss 8 7)]) (.seq (.cond (.tmp 9) .skip (.exit 0)) (.seq (.block 1 [0,1,7,8] (.seq (.region [.m 10 8, .m 5 10]) (.seq (.region [.m 11 1, .m 12 0, .m 13 5, .o 14 (.i 1 12 13), .o 15 (.l 14), .o 16 (.calld (.tmp 11) [(.tmp 15)])]) (.cond (.tmp 16) (.seq (.region [.m 17 5, .m 4 17]) .ret) .skip)))) (.region [.o 18 (.c .add 8 1), .m 8 18]))))
def c118:ACode:=(.seq (.region [.k 4 0]) (.seq (.seq (.region [.m 6 0, .o 7 (.n 6), .k 8 0]) (.block 0 [] (.loop [0,1,7,8] c118L0))) (.seq (.region [.k 4 (-1)]) .ret)))
def F118:AFun:=⟨c118,2,19,[(.tmp 4)]⟩
def K118:Nat→List Nat×List Nat
 |0=>([0,1,7,8],[])
 |1=>([],[0,1,7,8])
 |_=>([],[])
theorem F118_ok:kj8 Try.prog K118 Try.f118=some F118:=by kernel_rfl
/- 130: (*syndrome/field.Field).turn -/
def c130L0:ACode:=(.seq (.region [.o 57 (.b .lss 56 55)]) (.seq (.cond (.tmp 57) .skip (.exit 0)) (.seq (.block 1 [0,5,6,55,56] (.seq (.region [.m 58 56, .m 7 58]) (.region [.m 59 5, .m 60 7, .m 61 5, .m 62 7, .o 63 (.i 1 61 62), .o 64 (.l 63), .m 65 6, .m 66 0, .o 67 (.nilck (.tmp 66)), .o 68 (.f 1 67), .o 69 (.l 68), .m 70 0, .o 71 (.nilck (.tmp 70)), .o 72 (.f 3 71), .o 73 (.l 72), .m 74 7, .o 75 (.i 1 73 74), .o 76 (.l 75), .o 77 (.b .sub 69 76), .o 78 (.b .mul 65 77), .o 79 (.b .add 64 78), .m 80 0, .o 81 (.nilck (.tmp 80)), .o 82 (.f 1 81), .o 83 (.l 82), .o 84 (.b .rem 79 83), .o 85 (.i 1 59 60), .n (.st 1 (.tmp 85) (.tmp 84))]))) (.region [.o 86 (.c .add 56 1), .m 56 86]))))
def c130:ACode:=(.seq (.region [.k 4 0]) (.seq (.seq (.region [.m 8 0, .o 9 (.nilck (.tmp 8)), .o 10 (.f 2 9), .o 11 (.l 10), .o 12 (.c .eql 11 1)]) (.cond (.tmp 12) (.seq (.region [.m 13 1, .m 14 0, .o 15 (.nilck (.tmp 14)), .o 16 (.f 4 15), .o 17 (.l 16), .o 18 (.b .mul 13 17), .m 19 0, .o 20 (.nilck (.tmp 19)), .o 21 (.f 1 20), .o 22 (.l 21), .o 23 (.b .rem 18 22), .m 4 23]) .ret) .skip)) (.seq (.region [.m 24 1, .m 25 0, .o 26 (.nilck (.tmp 25)), .o 27 (.f 1 26), .o 28 (.l 27), .m 29 0, .o 30 (.nilck (.tmp 29)), .o 31 (.f 2 30), .o 32 (.l 31), .o 33 (.q 117 [24,28,32]), .m 5 33]) (.seq (.region [.m 34 5, .m 35 0, .o 36 (.nilck (.tmp 35)), .o 37 (.f 2 36), .o 38 (.l 37), .o 39 (.c .sub 38 1), .o 40 (.i 1 34 39), .o 41 (.l 40), .m 6 41]) (.seq (.region [.m 42 5, .o 43 (.sl 1 (.tmp 42) (some (.const (.int .i64 1))) none), .m 44 5, .m 45 0, .o 46 (.nilck (.tmp 45)), .o 47 (.f 2 46), .o 48 (.l 47), .o 49 (.c .sub 48 1), .o 50 (.sl 1 (.tmp 44) none (some (.tmp 49))), .o 51 (.cpy 1 (.tmp 43) (.tmp 50))]) (.seq (.region [.m 52 5, .o 53 (.iaddr 1 (.tmp 52) (.const (.int .i64 0))), .n (.st 1 (.tmp 53) (.const (.int .i64 0)))]) (.seq (.seq (.region [.m 54 5, .o 55 (.n 54), .k 56 0]) (.block 0 [0,5] (.loop [0,5,6,55,56] c130L0))) (.seq (.region [.m 87 5, .m 88 0, .o 89 (.nilck (.tmp 88)), .o 90 (.f 1 89), .o 91 (.l 90), .o 92 (.q 135 [87,91]), .m 4 92]) .ret))))))))
def F130:AFun:=⟨c130,2,93,[(.tmp 4)]⟩
def K130:Nat→List Nat×List Nat
 |0=>([0,5,6,55,56],[0,5])
 |1=>([],[0,5,6,55,56])
 |_=>([],[])
theorem F130_ok:kj8 Try.prog K130 Try.f130=some F130:=by kernel_rfl
/- 135: syndrome/field.number -/
def c135L0:ACode:=(.seq (.seq (.region [.m 10 6, .o 11 (.c .geq 10 0)]) (.cond (.tmp 11) .skip (.exit 0))) (.seq (.block 1 [0,1,5,6] (.region [.m 14 5, .m 15 1, .o 16 (.b .mul 14 15), .m 17 0, .m 18 6, .o 19 (.i 1 17 18), .o 20 (.l 19), .o 21 (.b .add 16 20), .m 5 21])) (.region [.m 12 6, .o 13 (.c .sub 12 1), .m 6 13])))
def c135:ACode:=(.seq (.region [.k 4 0]) (.seq (.region [.k 5 0]) (.seq (.seq (.region [.m 7 0, .o 8 (.n 7), .o 9 (.c .sub 8 1), .m 6 9]) (.block 0 [5] (.loop [0,1,5,6] c135L0))) (.seq (.region [.m 22 5, .m 4 22]) .ret))))
def F135:AFun:=⟨c135,2,23,[(.tmp 4)]⟩
def K135:Nat→List Nat×List Nat
 |0=>([0,1,5,6],[5])
 |1=>([],[0,1,5,6])
 |_=>([],[])
theorem F135_ok:kj8 Try.prog K135 Try.f135=some F135:=by kernel_rfl
end Go.Proofs.Ytlhmdmedagjmnaa
