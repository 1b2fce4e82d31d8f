/-
  Functions of this seat as the small machine's code, written by a program of my own (gen.py); each is checked to be what the model's function is turned into. No condition.
-/
import Derived.Test.YtoglhlonhmmieaaGreatK2
import Derived.Test.YtoglhlonhmmieaaGreatProg
set_option linter.unusedVariables false
set_option linter.unusedSimpArgs false
set_option linter.unusedSectionVars false
set_option maxRecDepth 100000
namespace Go.Proofs.YtoglhlonhmmieaaGreat
open Go.Am
/- 3: syndrome/syndromelaw.PolySays -/
def c3:ACode:=(.seq (.region [.o 8 (.mv (.const (.bool false)))]) (.seq (.seq (.region [.m 28 1, .o 29 (.n 28), .m 30 2, .o 31 (.n 30), .o 32 (.b .add 29 31), .o 33 (.c .gtr 32 300)]) (.cond (.tmp 33) (.seq (.region [.o 8 (.mv (.const (.bool true)))]) .ret) .skip)) (.seq (.region [.m 34 0, .m 35 1, .o 36 (.q 5 [34,35]), .m 9 36]) (.seq (.region [.m 37 9, .m 10 37]) (.seq (.seq (.region [.m 38 10, .o 39 (.c .eql 38 0)]) (.cond (.tmp 39) (.region [.m 40 0, .m 41 2, .o 42 (.q 5 [40,41]), .m 10 42]) .skip)) (.seq (.seq (.region [.m 43 0, .m 44 1, .o 45 (.q 6 [43,44]), .m 46 9, .o 47 (.b .neq 45 46)]) (.cond (.tmp 47) (.seq (.region [.o 8 (.mv (.const (.bool false)))]) .ret) .skip)) (.seq (.region [.m 49 0, .o 50 (.q 7 [49]), .m 48 50, .o 51 (.e 0 48), .o 52 (.e 1 48), .o 11 (.alloc 26 [(.int .i64 0),(.int .i64 0),(.int .i64 0),(.int .i64 0),(.slice none 0 0)]), .n (.st 5 (.tmp 11) (.tmp 51)), .m 12 52]) (.seq (.region [.o 13 (.mv (.const (.slice none 0 0)))]) (.seq (.region [.o 14 (.mv (.const (.slice none 0 0)))]) (.seq (.region [.o 15 (.mv (.const (.slice none 0 0)))]) (.seq (.region [.o 16 (.mv (.const (.slice none 0 0)))]) (.seq (.region [.o 17 (.mv (.const (.slice none 0 0)))]) (.seq (.region [.m 53 10, .m 18 53]) (.seq (.region [.m 54 10, .m 19 54]) (.seq (.seq (.region [.m 55 10, .o 56 (.c .eql 55 0)]) (.cond (.tmp 56) (.seq (.region [.o 57 (.ld true 5 (.tmp 11)), .m 58 1, .m 59 2, .o 60 (.q 8 [57,58,59]), .m 13 60]) (.seq (.region [.o 61 (.ld true 5 (.tmp 11)), .m 62 1, .m 63 2, .o 64 (.q 9 [61,62,63]), .m 14 64]) (.seq (.region [.o 65 (.ld true 5 (.tmp 11)), .m 66 1, .m 67 2, .o 68 (.q 10 [65,66,67]), .m 17 68]) (.seq (.seq (.region [.m 69 14, .o 70 (.n 69), .o 71 (.c .gtr 70 128)]) (.cond (.tmp 71) (.region [.k 18 4]) .skip)) (.seq (.region [.m 72 2, .o 73 (.q 11 [72]), .o 74 (.n 73), .o 75 (.c .eql 74 0)]) (.cond (.tmp 75) (.region [.k 19 5]) (.region [.o 77 (.ld true 5 (.tmp 11)), .m 78 1, .m 79 2, .o 80 (.q 12 [77,78,79]), .m 76 80, .o 81 (.e 0 76), .o 82 (.e 1 76), .m 15 81, .m 16 82]))))))) .skip)) (.seq (.region [.m 84 0, .m 85 1, .m 86 2, .o 87 (.q 13 [84,85,86]), .m 83 87, .o 88 (.e 0 83), .o 89 (.e 1 83), .m 20 88, .m 21 89]) (.seq (.region [.m 91 0, .m 92 1, .m 93 2, .o 94 (.q 14 [91,92,93]), .m 90 94, .o 95 (.e 0 90), .o 96 (.e 1 90), .m 22 95, .m 23 96]) (.seq (.region [.m 98 0, .m 99 1, .m 100 2, .o 101 (.q 15 [98,99,100]), .m 97 101, .o 102 (.e 0 97), .o 103 (.e 1 97), .m 24 102, .m 25 103]) (.seq (.seq (.region [.m 104 20, .m 105 21, .m 106 13, .m 107 10, .o 108 (.q 16 [104,105,106,107]), .o 109 (.un .not (.tmp 108)), .m 110 109, .g 111 (.m 22) 110 false, .g 112 (.m 23) 110 false, .g 113 (.m 14) 110 false, .g 114 (.m 18) 110 false, .g 115 (.q 16 [111,112,113,114]) 110 false, .g 116 (.un .not (.tmp 115)) 110 false, .o 117 (.pick (.tmp 110) (.const (.bool true)) (.tmp 116)), .m 118 117, .g 119 (.m 24) 118 false, .g 120 (.m 25) 118 false, .g 121 (.m 17) 118 false, .g 122 (.m 10) 118 false, .g 123 (.q 16 [119,120,121,122]) 118 false, .g 124 (.un .not (.tmp 123)) 118 false, .o 125 (.pick (.tmp 118) (.const (.bool true)) (.tmp 124))]) (.cond (.tmp 125) (.seq (.region [.o 8 (.mv (.const (.bool false)))]) .ret) .skip)) (.seq (.region [.m 127 0, .m 128 1, .m 129 2, .o 130 (.q 17 [127,128,129]), .m 126 130, .o 131 (.e 0 126), .o 132 (.e 1 126), .o 133 (.e 2 126), .m 26 131, .m 27 132, .m 21 133]) (.seq (.seq (.region [.m 134 26, .m 135 21, .m 136 15, .m 137 19, .o 138 (.q 16 [134,135,136,137]), .o 139 (.un .not (.tmp 138)), .m 140 139, .g 141 (.m 27) 140 false, .g 142 (.m 21) 140 false, .g 143 (.m 16) 140 false, .g 144 (.m 19) 140 false, .g 145 (.q 16 [141,142,143,144]) 140 false, .g 146 (.un .not (.tmp 145)) 140 false, .o 147 (.pick (.tmp 140) (.const (.bool true)) (.tmp 146))]) (.cond (.tmp 147) (.seq (.region [.o 8 (.mv (.const (.bool false)))]) .ret) .skip)) (.seq (.region [.m 148 0, .m 149 1, .m 150 3, .m 151 9, .o 152 (.q 18 [148,149,150,151]), .m 153 152, .g 154 (.m 0) 153 true, .g 155 (.m 1) 153 true, .g 156 (.m 9) 153 true, .g 157 (.q 19 [154,155,156]) 153 true, .o 158 (.pick (.tmp 153) (.tmp 157) (.const (.bool false))), .m 159 158, .g 160 (.m 0) 159 true, .g 161 (.m 1) 159 true, .g 162 (.m 2) 159 true, .g 163 (.m 10) 159 true, .g 164 (.q 20 [160,161,162,163]) 159 true, .o 165 (.pick (.tmp 159) (.tmp 164) (.const (.bool false))), .m 8 165]) .ret))))))))))))))))))))))
def F3:AFun:=⟨c3,4,166,[(.tmp 8)]⟩
def K3:Nat→List Nat×List Nat
 |_=>([],[])
theorem F3_ok:kj8 Tryz.prog K3 noRg Tryz.f3=some F3:=by kernel_rfl
/- 4: syndrome/syndromelaw.PolyMade -/
def c4:ACode:=(.seq (.region [.o 10 (.mv (.const (.bool false)))]) (.seq (.seq (.region [.m 11 0, .o 12 (.n 11), .o 13 (.c .gtr 12 256)]) (.cond (.tmp 13) (.seq (.region [.o 10 (.mv (.const (.bool true)))]) .ret) .skip)) (.seq (.region [.m 14 1, .o 15 (.q 21 [14]), .m 1 15]) (.seq (.region [.m 16 2, .o 17 (.call 22 [(.tmp 16),(.const (.int .i64 9))]), .m 2 17]) (.seq (.region [.m 18 3, .o 19 (.call 22 [(.tmp 18),(.const (.int .i64 9))]), .m 3 19]) (.seq (.seq (.region [.m 20 2, .m 21 1, .o 22 (.b .gtr 20 21)]) (.cond (.tmp 22) (.region [.m 23 1, .m 2 23]) .skip)) (.seq (.region [.m 24 1, .m 25 0, .m 26 1, .m 27 2, .o 28 (.call 23 [(.tmp 25),(.const (.int .i64 0)),(.tmp 26),(.tmp 27)]), .m 29 0, .m 30 2, .m 31 1, .m 32 3, .o 33 (.q 23 [29,30,31,32]), .m 34 4, .m 35 1, .o 36 (.q 22 [34,35]), .o 37 (.q 3 [24,28,33,36]), .m 38 37, .g 39 (.m 1) 38 true, .g 40 (.m 0) 38 true, .g 41 (.m 1) 38 true, .g 42 (.m 2) 38 true, .g 43 (.q 24 [40,41,42]) 38 true, .g 44 (.m 0) 38 true, .g 45 (.m 2) 38 true, .g 46 (.m 1) 38 true, .g 47 (.m 2) 38 true, .g 48 (.q 23 [44,45,46,47]) 38 true, .g 49 (.call 20 [(.tmp 39),(.tmp 43),(.tmp 48),(.const (.int .i64 0))]) 38 true, .o 50 (.pick (.tmp 38) (.tmp 49) (.const (.bool false))), .m 10 50]) .ret)))))))
def F4:AFun:=⟨c4,5,51,[(.tmp 10)]⟩
def K4:Nat→List Nat×List Nat
 |_=>([],[])
theorem F4_ok:kj8 Tryz.prog K4 noRg Tryz.f4=some F4:=by kernel_rfl
/- 5: syndrome/syndromeref.PolyMay -/
def c5L0:ACode:=(.seq (.seq (.region [.m 19 7, .m 20 1, .o 21 (.n 20), .o 22 (.b .lss 19 21)]) (.cond (.tmp 22) .skip (.exit 0))) (.seq (.block 1 [1,5,7] (.seq (.region [.o 25 (.ld true 5 (.tmp 5)), .m 26 1, .m 27 7, .o 28 (.i 1 26 27), .o 29 (.l 28), .o 30 (.q 25 [25,29]), .o 31 (.un .not (.tmp 30))]) (.cond (.tmp 31) (.seq (.region [.k 4 2]) .ret) .skip))) (.region [.m 23 7, .o 24 (.c .add 23 1), .m 7 24])))
def c5:ACode:=(.seq (.region [.k 4 0]) (.seq (.region [.m 9 0, .o 10 (.q 7 [9]), .m 8 10, .o 11 (.e 0 8), .o 12 (.e 1 8), .o 5 (.alloc 26 [(.int .i64 0),(.int .i64 0),(.int .i64 0),(.int .i64 0),(.slice none 0 0)]), .n (.st 5 (.tmp 5) (.tmp 11)), .m 6 12]) (.seq (.seq (.region [.m 13 6, .o 14 (.c .neq 13 0)]) (.cond (.tmp 14) (.seq (.region [.m 15 6, .m 4 15]) .ret) .skip)) (.seq (.seq (.region [.m 16 1, .o 17 (.n 16), .o 18 (.c .gtr 17 128)]) (.cond (.tmp 18) (.seq (.region [.k 4 4]) .ret) .skip)) (.seq (.seq (.region [.k 7 0]) (.block 0 [] (.loop [1,5,7] c5L0))) (.seq (.region [.k 4 0]) .ret))))))
def F5:AFun:=⟨c5,2,32,[(.tmp 4)]⟩
def K5:Nat→List Nat×List Nat
 |0=>([1,5,7],[])
 |1=>([],[1,5,7])
 |_=>([],[])
theorem F5_ok:kj8 Tryz.prog K5 noRg Tryz.f5=some F5:=by kernel_rfl
/- 6: syndrome/poly.Check -/
def c6L0:ACode:=(.seq (.region [.o 23 (.b .lss 22 21)]) (.seq (.cond (.tmp 23) .skip (.exit 0)) (.seq (.block 1 [5,20,21,22] (.seq (.region [.o 24 (.i 1 20 22), .o 25 (.l 24), .m 8 25]) (.seq (.region [.m 26 5, .m 27 8, .o 28 (.q 27 [26,27]), .o 29 (.un .not (.tmp 28))]) (.cond (.tmp 29) (.seq (.region [.k 4 2]) .ret) .skip)))) (.region [.o 30 (.c .add 22 1), .m 22 30]))))
def c6:ACode:=(.seq (.region [.k 4 0]) (.seq (.region [.m 10 0, .o 11 (.q 26 [10]), .m 9 11, .o 12 (.e 0 9), .o 13 (.e 1 9), .m 5 12, .m 6 13]) (.seq (.seq (.region [.m 14 6, .o 15 (.c .neq 14 0)]) (.cond (.tmp 15) (.seq (.region [.m 16 6, .m 4 16]) .ret) .skip)) (.seq (.seq (.region [.m 17 1, .o 18 (.n 17), .o 19 (.c .gtr 18 128)]) (.cond (.tmp 19) (.seq (.region [.k 4 4]) .ret) .skip)) (.seq (.seq (.region [.m 20 1, .o 21 (.n 20), .k 22 0]) (.block 0 [] (.loop [5,20,21,22] c6L0))) (.seq (.region [.k 4 0]) .ret))))))
def F6:AFun:=⟨c6,2,31,[(.tmp 4)]⟩
def K6:Nat→List Nat×List Nat
 |0=>([5,20,21,22],[])
 |1=>([],[5,20,21,22])
 |_=>([],[])
theorem F6_ok:kj8 Tryz.prog K6 noRg Tryz.f6=some F6:=by kernel_rfl
/- 7: syndrome/syndromeref.Field -/
def c7L0:ACode:=(.seq (.seq (.region [.m 32 7, .m 33 0, .o 34 (.b .lss 32 33)]) (.cond (.tmp 34) .skip (.exit 0))) (.seq (.block 1 [0,2,4,5,6,7] (.seq (.region [.o 37 (.ld true 5 (.tmp 6)), .m 38 7, .o 39 (.q 29 [37,38])]) (.cond (.tmp 39) (.seq (.region [.m 40 7, .o 41 (.f 3 6), .n (.st 1 (.tmp 41) (.tmp 40))]) (.seq (.region [.o 42 (.ld true 5 (.tmp 6)), .n (.st 5 (.tmp 2) (.tmp 42)), .k 3 0]) .ret)) .skip))) (.region [.m 35 7, .o 36 (.c .add 35 1), .m 7 36])))
def c7L1:ACode:=(.seq (.seq (.region [.m 45 8, .m 46 0, .o 47 (.b .lss 45 46)]) (.cond (.tmp 47) .skip (.exit 2))) (.seq (.block 3 [0,2,4,5,6,8] (.seq (.region [.m 50 8, .m 51 4, .m 52 5, .o 53 (.q 30 [50,51,52]), .o 54 (.mkSl 3 1 1 [(.const (.int .i64 1))]), .o 55 (.app 3 1 8 (.tmp 53) (.tmp 54)), .o 56 (.f 4 6), .n (.st 1 (.tmp 56) (.tmp 55))]) (.seq (.region [.o 57 (.ld true 5 (.tmp 6)), .m 58 4, .o 59 (.q 29 [57,58])]) (.cond (.tmp 59) (.seq (.region [.o 60 (.ld true 5 (.tmp 6)), .n (.st 5 (.tmp 2) (.tmp 60)), .k 3 0]) .ret) .skip)))) (.region [.m 48 8, .o 49 (.c .add 48 1), .m 8 49])))
def c7:ACode:=(.seq (.region [.o 2 (.alloc 26 [(.int .i64 0),(.int .i64 0),(.int .i64 0),(.int .i64 0),(.slice none 0 0)]), .k 3 0]) (.seq (.seq (.region [.m 9 0, .o 10 (.c .lss 9 2), .m 11 10, .g 12 (.m 0) 11 false, .g 13 (.c .gtr 12 64) 11 false, .o 14 (.pick (.tmp 11) (.const (.bool true)) (.tmp 13))]) (.cond (.tmp 14) (.seq (.region [.o 15 (.build [(.int .i64 0),(.int .i64 0),(.int .i64 0),(.int .i64 0),(.slice none 0 0)] [(0,1),(1,1),(2,1),(3,1),(4,1)] []), .n (.st 5 (.tmp 2) (.tmp 15)), .k 3 1]) .ret) .skip)) (.seq (.region [.m 17 0, .o 18 (.q 28 [17]), .m 16 18, .o 19 (.e 0 16), .o 20 (.e 1 16), .m 4 19, .m 5 20]) (.seq (.seq (.region [.m 21 4, .o 22 (.c .eql 21 0)]) (.cond (.tmp 22) (.seq (.region [.o 23 (.build [(.int .i64 0),(.int .i64 0),(.int .i64 0),(.int .i64 0),(.slice none 0 0)] [(0,1),(1,1),(2,1),(3,1),(4,1)] []), .n (.st 5 (.tmp 2) (.tmp 23)), .k 3 1]) .ret) .skip)) (.seq (.region [.m 24 0, .m 25 4, .m 26 5, .o 27 (.build [(.int .i64 0),(.int .i64 0),(.int .i64 0),(.int .i64 0),(.slice none 0 0)] [(0,1),(1,1),(2,1),(3,1),(4,1)] [(0,(.tmp 24)),(1,(.tmp 25)),(2,(.tmp 26))]), .o 6 (.alloc 26 [(.int .i64 0),(.int .i64 0),(.int .i64 0),(.int .i64 0),(.slice none 0 0)]), .n (.st 5 (.tmp 6) (.tmp 27))]) (.seq (.seq (.region [.m 28 5, .o 29 (.c .eql 28 1)]) (.cond (.tmp 29) (.seq (.region [.o 30 (.mkSl 3 1 2 [(.const (.int .i64 0)),(.const (.int .i64 1))]), .o 31 (.f 4 6), .n (.st 1 (.tmp 31) (.tmp 30))]) (.seq (.region [.k 7 1]) (.block 0 [0,2,4,5,6] (.loop [0,2,4,5,6,7] c7L0)))) .skip)) (.seq (.region [.m 43 4, .o 44 (.f 3 6), .n (.st 1 (.tmp 44) (.tmp 43))]) (.seq (.seq (.region [.k 8 0]) (.block 2 [2] (.loop [0,2,4,5,6,8] c7L1))) (.seq (.region [.o 61 (.build [(.int .i64 0),(.int .i64 0),(.int .i64 0),(.int .i64 0),(.slice none 0 0)] [(0,1),(1,1),(2,1),(3,1),(4,1)] []), .n (.st 5 (.tmp 2) (.tmp 61)), .k 3 1]) .ret)))))))))
def F7:AFun:=⟨c7,1,62,[(.cell 2 true 5),(.tmp 3)]⟩
def K7:Nat→List Nat×List Nat
 |0=>([0,2,4,5,6,7],[0,2,4,5,6])
 |1=>([],[0,2,4,5,6,7])
 |2=>([0,2,4,5,6,8],[2])
 |3=>([],[0,2,4,5,6,8])
 |_=>([],[])
theorem F7_ok:kj8 Tryz.prog K7 noRg Tryz.f7=some F7:=by kernel_rfl
/- 8: syndrome/syndromeref.PAdd -/
def c8L0:ACode:=(.seq (.seq (.region [.m 11 8, .m 12 1, .o 13 (.n 12), .o 14 (.b .lss 11 13), .m 15 14, .g 16 (.m 8) 15 false, .g 17 (.m 2) 15 false, .g 18 (.n 17) 15 false, .g 19 (.b .lss 16 18) 15 false, .o 20 (.pick (.tmp 15) (.const (.bool true)) (.tmp 19))]) (.cond (.tmp 20) .skip (.exit 0))) (.seq (.block 1 [1,2,3,7,8] (.seq (.region [.k 9 0]) (.seq (.region [.k 10 0]) (.seq (.seq (.region [.m 23 8, .m 24 1, .o 25 (.n 24), .o 26 (.b .lss 23 25)]) (.cond (.tmp 26) (.region [.m 27 1, .m 28 8, .o 29 (.i 1 27 28), .o 30 (.l 29), .m 9 30]) .skip)) (.seq (.seq (.region [.m 31 8, .m 32 2, .o 33 (.n 32), .o 34 (.b .lss 31 33)]) (.cond (.tmp 34) (.region [.m 35 2, .m 36 8, .o 37 (.i 1 35 36), .o 38 (.l 37), .m 10 38]) .skip)) (.region [.m 39 7, .o 40 (.ld true 5 (.tmp 3)), .m 41 9, .m 42 10, .o 43 (.q 31 [40,41,42]), .o 44 (.mkSl 3 1 1 [(.tmp 43)]), .o 45 (.app 3 1 8 (.tmp 39) (.tmp 44)), .m 7 45])))))) (.region [.m 21 8, .o 22 (.c .add 21 1), .m 8 22])))
def c8:ACode:=(.seq (.region [.o 3 (.box 26 5 (.tmp 0)), .o 6 (.mv (.const (.slice none 0 0)))]) (.seq (.region [.o 7 (.mv (.const (.slice none 0 0)))]) (.seq (.seq (.region [.k 8 0]) (.block 0 [7] (.loop [1,2,3,7,8] c8L0))) (.seq (.region [.m 46 7, .o 47 (.q 11 [46]), .m 6 47]) .ret))))
def F8:AFun:=⟨c8,3,48,[(.tmp 6)]⟩
def K8:Nat→List Nat×List Nat
 |0=>([1,2,3,7,8],[7])
 |1=>([],[1,2,3,7,8])
 |_=>([],[])
theorem F8_ok:kj8 Tryz.prog K8 noRg Tryz.f8=some F8:=by kernel_rfl
/- 9: syndrome/syndromeref.PMul -/
def c9L0:ACode:=(.seq (.seq (.region [.m 35 9, .m 36 2, .o 37 (.n 36), .o 38 (.b .lss 35 37), .m 39 38, .g 40 (.m 1) 39 true, .g 41 (.m 8) 39 true, .g 42 (.i 1 40 41) 39 true, .g 43 (.l 42) 39 true, .g 44 (.c .neq 43 0) 39 true, .o 45 (.pick (.tmp 39) (.tmp 44) (.const (.bool false)))]) (.cond (.tmp 45) .skip (.exit 2))) (.seq (.block 3 [1,2,3,7,8,9] (.region [.m 48 7, .m 49 8, .m 50 9, .o 51 (.b .add 49 50), .o 52 (.ld true 5 (.tmp 3)), .m 53 7, .m 54 8, .m 55 9, .o 56 (.b .add 54 55), .o 57 (.i 1 53 56), .o 58 (.l 57), .o 59 (.ld true 5 (.tmp 3)), .m 60 1, .m 61 8, .o 62 (.i 1 60 61), .o 63 (.l 62), .m 64 2, .m 65 9, .o 66 (.i 1 64 65), .o 67 (.l 66),⟨(some 68),(.call 32 [(.tmp 59),(.tmp 63),(.tmp 67)]),none,true⟩, .o 69 (.q 31 [52,58,68]), .o 70 (.i 1 48 51), .n (.st 1 (.tmp 70) (.tmp 69))])) (.region [.m 46 9, .o 47 (.c .add 46 1), .m 9 47])))
def c9L1:ACode:=(.seq (.seq (.region [.m 29 8, .m 30 1, .o 31 (.n 30), .o 32 (.b .lss 29 31)]) (.cond (.tmp 32) .skip (.exit 0))) (.seq (.block 1 [1,2,3,7,8] (.seq (.region [.k 9 0]) (.block 2 [1,2,3,7,8] (.loop [1,2,3,7,8,9] c9L0)))) (.region [.m 33 8, .o 34 (.c .add 33 1), .m 8 34])))
def c9:ACode:=(.seq (.region [.o 3 (.box 26 5 (.tmp 0)), .o 6 (.mv (.const (.slice none 0 0)))]) (.seq (.region [.m 10 1, .o 11 (.q 11 [10]), .m 1 11]) (.seq (.region [.m 12 2, .o 13 (.q 11 [12]), .m 2 13]) (.seq (.seq (.region [.m 14 1, .o 15 (.n 14), .o 16 (.c .eql 15 0), .m 17 16, .g 18 (.m 2) 17 false, .g 19 (.n 18) 17 false, .g 20 (.c .eql 19 0) 17 false, .o 21 (.pick (.tmp 17) (.const (.bool true)) (.tmp 20))]) (.cond (.tmp 21) (.seq (.region [.o 6 (.mv (.const (.slice none 0 0)))]) .ret) .skip)) (.seq (.region [.m 22 1, .o 23 (.n 22), .m 24 2, .o 25 (.n 24), .o 26 (.b .add 23 25), .o 27 (.c .sub 26 1), .o 28 (.mks 3 1 8 [(.int .i64 0)] (.tmp 27) (.tmp 27)), .m 7 28]) (.seq (.seq (.region [.k 8 0]) (.block 0 [7] (.loop [1,2,3,7,8] c9L1))) (.seq (.region [.m 71 7, .o 72 (.q 11 [71]), .m 6 72]) .ret)))))))
def F9:AFun:=⟨c9,3,73,[(.tmp 6)]⟩
def K9:Nat→List Nat×List Nat
 |0=>([1,2,3,7,8],[7])
 |1=>([],[1,2,3,7,8])
 |2=>([1,2,3,7,8,9],[1,2,3,7,8])
 |3=>([],[1,2,3,7,8,9])
 |_=>([],[])
theorem F9_ok:kj8 Tryz.prog K9 noRg Tryz.f9=some F9:=by kernel_rfl
/- 10: syndrome/syndromeref.PGcd -/
def c10L0:ACode:=(.seq (.seq (.region [.m 13 2, .o 14 (.n 13), .o 15 (.c .gtr 14 0)]) (.cond (.tmp 15) .skip (.exit 0))) (.block 1 [1,2,3] (.seq (.region [.o 17 (.ld true 5 (.tmp 3)), .m 18 1, .m 19 2, .o 20 (.q 12 [17,18,19]), .m 16 20, .o 21 (.e 0 16), .o 22 (.e 1 16), .m 7 21, .m 8 22]) (.seq (.region [.m 23 2, .m 1 23]) (.region [.m 24 8, .m 2 24])))))
def c10:ACode:=(.seq (.region [.o 3 (.box 26 5 (.tmp 0)), .o 6 (.mv (.const (.slice none 0 0)))]) (.seq (.region [.m 9 1, .o 10 (.q 11 [9]), .m 1 10]) (.seq (.region [.m 11 2, .o 12 (.q 11 [11]), .m 2 12]) (.seq (.block 0 [1,3] (.loop [1,2,3] c10L0)) (.seq (.region [.o 25 (.ld true 5 (.tmp 3)), .m 26 1, .o 27 (.q 33 [25,26]), .m 6 27]) .ret)))))
def F10:AFun:=⟨c10,3,28,[(.tmp 6)]⟩
def K10:Nat→List Nat×List Nat
 |0=>([1,2,3],[1,3])
 |1=>([],[1,2,3])
 |_=>([],[])
theorem F10_ok:kj8 Tryz.prog K10 noRg Tryz.f10=some F10:=by kernel_rfl
/- 11: syndrome/syndromeref.Trim -/
def c11L0:ACode:=(.seq (.seq (.region [.m 6 3, .o 7 (.c .gtr 6 0), .m 8 7, .g 9 (.m 0) 8 true, .g 10 (.m 3) 8 true, .g 11 (.c .sub 10 1) 8 true, .g 12 (.i 1 9 11) 8 true, .g 13 (.l 12) 8 true, .g 14 (.c .eql 13 0) 8 true, .o 15 (.pick (.tmp 8) (.tmp 14) (.const (.bool false)))]) (.cond (.tmp 15) .skip (.exit 0))) (.block 1 [0,3] (.region [.m 16 3, .o 17 (.c .sub 16 1), .m 3 17])))
def c11:ACode:=(.seq (.region [.o 2 (.mv (.const (.slice none 0 0)))]) (.seq (.region [.m 4 0, .o 5 (.n 4), .m 3 5]) (.seq (.block 0 [0,3] (.loop [0,3] c11L0)) (.seq (.region [.m 18 0, .m 19 3, .o 20 (.sl 1 (.tmp 18) none (some (.tmp 19))), .o 21 (.q 34 [20]), .m 2 21]) .ret))))
def F11:AFun:=⟨c11,1,22,[(.tmp 2)]⟩
def K11:Nat→List Nat×List Nat
 |0=>([0,3],[0,3])
 |1=>([],[0,3])
 |_=>([],[])
theorem F11_ok:kj8 Tryz.prog K11 noRg Tryz.f11=some F11:=by kernel_rfl
/- 12: syndrome/syndromeref.PDiv -/
def c12L0:ACode:=(.seq (.seq (.region [.m 60 12, .m 61 2, .o 62 (.n 61), .o 63 (.b .lss 60 62)]) (.cond (.tmp 63) .skip (.exit 2))) (.seq (.block 3 [1,2,3,8,9,10,11,12] (.region [.m 66 1, .m 67 10, .m 68 12, .o 69 (.b .add 67 68), .o 70 (.ld true 5 (.tmp 3)), .m 71 1, .m 72 10, .m 73 12, .o 74 (.b .add 72 73), .o 75 (.i 1 71 74), .o 76 (.l 75), .o 77 (.ld true 5 (.tmp 3)), .m 78 11, .m 79 2, .m 80 12, .o 81 (.i 1 79 80), .o 82 (.l 81),⟨(some 83),(.call 32 [(.tmp 77),(.tmp 78),(.tmp 82)]),none,true⟩, .o 84 (.q 36 [70,76,83]), .o 85 (.i 1 66 69), .n (.st 1 (.tmp 85) (.tmp 84))])) (.region [.m 64 12, .o 65 (.c .add 64 1), .m 12 65])))
def c12L1:ACode:=(.seq (.seq (.region [.m 37 1, .o 38 (.n 37), .m 39 2, .o 40 (.n 39), .o 41 (.b .geq 38 40)]) (.cond (.tmp 41) .skip (.exit 0))) (.block 1 [1,2,3,8,9] (.seq (.region [.m 42 1, .o 43 (.n 42), .m 44 2, .o 45 (.n 44), .o 46 (.b .sub 43 45), .m 10 46]) (.seq (.region [.o 47 (.ld true 5 (.tmp 3)), .m 48 1, .m 49 1, .o 50 (.n 49), .o 51 (.c .sub 50 1), .o 52 (.i 1 48 51), .o 53 (.l 52), .m 54 9, .o 55 (.q 32 [47,53,54]), .m 11 55]) (.seq (.region [.m 56 8, .m 57 10, .m 58 11, .o 59 (.i 1 56 57), .n (.st 1 (.tmp 59) (.tmp 58))]) (.seq (.seq (.region [.k 12 0]) (.block 2 [1,2,3,8,9] (.loop [1,2,3,8,9,10,11,12] c12L0))) (.region [.m 86 1, .o 87 (.q 11 [86]), .m 1 87])))))))
def c12:ACode:=(.seq (.region [.o 3 (.box 26 5 (.tmp 0)), .o 6 (.mv (.const (.slice none 0 0))), .o 7 (.mv (.const (.slice none 0 0)))]) (.seq (.region [.m 13 1, .o 14 (.q 11 [13]), .m 1 14]) (.seq (.region [.m 15 2, .o 16 (.q 11 [15]), .m 2 16]) (.seq (.region [.o 8 (.mv (.const (.slice none 0 0)))]) (.seq (.seq (.region [.m 17 1, .o 18 (.n 17), .m 19 2, .o 20 (.n 19), .o 21 (.b .geq 18 20)]) (.cond (.tmp 21) (.region [.m 22 1, .o 23 (.n 22), .m 24 2, .o 25 (.n 24), .o 26 (.b .sub 23 25), .o 27 (.c .add 26 1), .o 28 (.mks 3 1 8 [(.int .i64 0)] (.tmp 27) (.tmp 27)), .m 8 28]) .skip)) (.seq (.region [.o 29 (.ld true 5 (.tmp 3)), .m 30 2, .m 31 2, .o 32 (.n 31), .o 33 (.c .sub 32 1), .o 34 (.i 1 30 33), .o 35 (.l 34), .o 36 (.q 35 [29,35]), .m 9 36]) (.seq (.block 0 [1,8] (.loop [1,2,3,8,9] c12L1)) (.seq (.region [.m 88 8, .o 89 (.q 11 [88]), .m 90 1, .m 6 89, .m 7 90]) .ret))))))))
def F12:AFun:=⟨c12,3,91,[(.tmp 6),(.tmp 7)]⟩
def K12:Nat→List Nat×List Nat
 |0=>([1,2,3,8,9],[1,8])
 |1=>([],[1,2,3,8,9])
 |2=>([1,2,3,8,9,10,11,12],[1,2,3,8,9])
 |3=>([],[1,2,3,8,9,10,11,12])
 |_=>([],[])
theorem F12_ok:kj8 Tryz.prog K12 noRg Tryz.f12=some F12:=by kernel_rfl
/- 13: syndrome/poly.Add -/
def c13L0:ACode:=(.seq (.region [.o 34 (.b .lss 33 32)]) (.seq (.cond (.tmp 34) .skip (.exit 0)) (.seq (.block 1 [1,8,31,32,33] (.seq (.region [.m 35 33, .o 36 (.i 1 31 33), .o 37 (.l 36), .m 10 35, .m 11 37]) (.region [.m 38 1, .m 39 10, .m 40 8, .m 41 1, .m 42 10, .o 43 (.i 1 41 42), .o 44 (.l 43), .m 45 11, .o 46 (.q 38 [40,44,45]), .o 47 (.i 1 38 39), .n (.st 1 (.tmp 47) (.tmp 46))]))) (.region [.o 48 (.c .add 33 1), .m 33 48]))))
def c13:ACode:=(.seq (.region [.o 6 (.mv (.const (.slice none 0 0))), .k 7 0]) (.seq (.region [.m 13 0, .m 14 1, .m 15 2, .o 16 (.q 37 [13,14,15]), .m 12 16, .o 17 (.e 0 12), .o 18 (.e 1 12), .o 19 (.e 2 12), .o 20 (.e 3 12), .m 8 17, .m 1 18, .m 2 19, .m 9 20]) (.seq (.seq (.region [.m 21 9, .o 22 (.c .neq 21 0)]) (.cond (.tmp 22) (.seq (.region [.m 23 9, .o 6 (.mv (.const (.slice none 0 0))), .m 7 23]) .ret) .skip)) (.seq (.seq (.region [.m 24 1, .o 25 (.n 24), .m 26 2, .o 27 (.n 26), .o 28 (.b .lss 25 27)]) (.cond (.tmp 28) (.region [.m 29 2, .m 30 1, .m 1 29, .m 2 30]) .skip)) (.seq (.seq (.region [.m 31 2, .o 32 (.n 31), .k 33 0]) (.block 0 [1] (.loop [1,8,31,32,33] c13L0))) (.seq (.region [.m 49 1, .o 50 (.q 39 [49]), .m 6 50, .k 7 0]) .ret))))))
def F13:AFun:=⟨c13,3,51,[(.tmp 6),(.tmp 7)]⟩
def K13:Nat→List Nat×List Nat
 |0=>([1,8,31,32,33],[1])
 |1=>([],[1,8,31,32,33])
 |_=>([],[])
theorem F13_ok:kj8 Tryz.prog K13 noRg Tryz.f13=some F13:=by kernel_rfl
/- 14: syndrome/poly.Mul -/
def c14:ACode:=(.seq (.region [.o 6 (.mv (.const (.slice none 0 0))), .k 7 0]) (.seq (.region [.m 11 0, .m 12 1, .m 13 2, .o 14 (.q 37 [11,12,13]), .m 10 14, .o 15 (.e 0 10), .o 16 (.e 1 10), .o 17 (.e 2 10), .o 18 (.e 3 10), .m 8 15, .m 1 16, .m 2 17, .m 9 18]) (.seq (.seq (.region [.m 19 9, .o 20 (.c .neq 19 0)]) (.cond (.tmp 20) (.seq (.region [.m 21 9, .o 6 (.mv (.const (.slice none 0 0))), .m 7 21]) .ret) .skip)) (.seq (.seq (.region [.m 22 1, .o 23 (.n 22), .o 24 (.c .eql 23 0), .m 25 24, .g 26 (.m 2) 25 false, .g 27 (.n 26) 25 false, .g 28 (.c .eql 27 0) 25 false, .o 29 (.pick (.tmp 25) (.const (.bool true)) (.tmp 28))]) (.cond (.tmp 29) (.seq (.region [.o 6 (.mv (.const (.slice none 0 0))), .k 7 0]) .ret) .skip)) (.seq (.seq (.region [.m 30 1, .o 31 (.n 30), .m 32 2, .o 33 (.n 32), .o 34 (.b .add 31 33), .o 35 (.c .sub 34 1), .o 36 (.c .gtr 35 128)]) (.cond (.tmp 36) (.seq (.region [.o 6 (.mv (.const (.slice none 0 0))), .k 7 4]) .ret) .skip)) (.seq (.region [.m 37 8, .m 38 1, .m 39 2, .o 40 (.q 40 [37,38,39]), .m 6 40, .k 7 0]) .ret))))))
def F14:AFun:=⟨c14,3,41,[(.tmp 6),(.tmp 7)]⟩
def K14:Nat→List Nat×List Nat
 |_=>([],[])
theorem F14_ok:kj8 Tryz.prog K14 noRg Tryz.f14=some F14:=by kernel_rfl
/- 15: syndrome/poly.Gcd -/
def c15L0:ACode:=(.seq (.seq (.region [.m 24 2, .o 25 (.n 24), .o 26 (.c .gtr 25 0)]) (.cond (.tmp 26) .skip (.exit 0))) (.block 1 [1,2,8] (.seq (.region [.m 28 8, .m 29 1, .m 30 2, .o 31 (.q 41 [28,29,30]), .m 27 31, .o 32 (.e 0 27), .o 33 (.e 1 27), .m 10 32, .m 11 33]) (.region [.m 34 2, .m 35 11, .m 1 34, .m 2 35]))))
def c15:ACode:=(.seq (.region [.o 6 (.mv (.const (.slice none 0 0))), .k 7 0]) (.seq (.region [.m 13 0, .m 14 1, .m 15 2, .o 16 (.q 37 [13,14,15]), .m 12 16, .o 17 (.e 0 12), .o 18 (.e 1 12), .o 19 (.e 2 12), .o 20 (.e 3 12), .m 8 17, .m 1 18, .m 2 19, .m 9 20]) (.seq (.seq (.region [.m 21 9, .o 22 (.c .neq 21 0)]) (.cond (.tmp 22) (.seq (.region [.m 23 9, .o 6 (.mv (.const (.slice none 0 0))), .m 7 23]) .ret) .skip)) (.seq (.block 0 [1,8] (.loop [1,2,8] c15L0)) (.seq (.region [.m 36 8, .m 37 1, .o 38 (.q 42 [36,37]), .m 6 38, .k 7 0]) .ret)))))
def F15:AFun:=⟨c15,3,39,[(.tmp 6),(.tmp 7)]⟩
def K15:Nat→List Nat×List Nat
 |0=>([1,2,8],[1,8])
 |1=>([],[1,2,8])
 |_=>([],[])
theorem F15_ok:kj8 Tryz.prog K15 noRg Tryz.f15=some F15:=by kernel_rfl
/- 16: syndrome/syndromelaw.list -/
def c16:ACode:=(.seq (.region [.o 8 (.mv (.const (.bool false)))]) (.seq (.seq (.region [.m 9 3, .o 10 (.c .neq 9 0)]) (.cond (.tmp 10) (.seq (.region [.m 11 1, .m 12 3, .o 13 (.b .eql 11 12), .m 14 13, .g 15 (.m 0) 14 true, .g 16 (.n 15) 14 true, .g 17 (.c .eql 16 0) 14 true, .o 18 (.pick (.tmp 14) (.tmp 17) (.const (.bool false))), .m 8 18]) .ret) .skip)) (.seq (.region [.m 19 1, .o 20 (.c .eql 19 0), .m 21 20, .g 22 (.m 0) 21 true, .g 23 (.m 2) 21 true, .g 24 (.q 43 [22,23]) 21 true, .o 25 (.pick (.tmp 21) (.tmp 24) (.const (.bool false))), .m 8 25]) .ret)))
def F16:AFun:=⟨c16,4,26,[(.tmp 8)]⟩
def K16:Nat→List Nat×List Nat
 |_=>([],[])
theorem F16_ok:kj8 Tryz.prog K16 noRg Tryz.f16=some F16:=by kernel_rfl
/- 17: syndrome/poly.Div -/
def c17:ACode:=(.seq (.region [.o 6 (.mv (.const (.slice none 0 0))), .o 7 (.mv (.const (.slice none 0 0))), .k 8 0]) (.seq (.region [.m 11 0, .m 12 1, .m 13 2, .o 14 (.q 37 [11,12,13]), .m 10 14, .o 15 (.e 0 10), .o 16 (.e 1 10), .o 17 (.e 2 10), .o 18 (.e 3 10), .m 9 15, .m 1 16, .m 2 17, .m 8 18]) (.seq (.seq (.region [.m 19 8, .o 20 (.c .neq 19 0)]) (.cond (.tmp 20) (.seq (.region [.m 21 8, .o 6 (.mv (.const (.slice none 0 0))), .o 7 (.mv (.const (.slice none 0 0))), .m 8 21]) .ret) .skip)) (.seq (.seq (.region [.m 22 2, .o 23 (.n 22), .o 24 (.c .eql 23 0)]) (.cond (.tmp 24) (.seq (.region [.o 6 (.mv (.const (.slice none 0 0))), .o 7 (.mv (.const (.slice none 0 0))), .k 8 5]) .ret) .skip)) (.seq (.region [.m 26 9, .m 27 1, .m 28 2, .o 29 (.q 41 [26,27,28]), .m 25 29, .o 30 (.e 0 25), .o 31 (.e 1 25), .m 6 30, .m 7 31]) (.seq (.region [.m 32 6, .m 33 7, .m 6 32, .m 7 33, .k 8 0]) .ret))))))
def F17:AFun:=⟨c17,3,34,[(.tmp 6),(.tmp 7),(.tmp 8)]⟩
def K17:Nat→List Nat×List Nat
 |_=>([],[])
theorem F17_ok:kj8 Tryz.prog K17 noRg Tryz.f17=some F17:=by kernel_rfl
/- 18: syndrome/syndromelaw.polyAt -/
def c18:ACode:=(.seq (.region [.o 8 (.mv (.const (.bool false)))]) (.seq (.seq (.region [.m 14 3, .o 15 (.c .eql 14 0)]) (.cond (.tmp 15) (.region [.m 16 0, .m 17 2, .o 18 (.mkSl 3 1 1 [(.tmp 17)]), .o 19 (.q 5 [16,18]), .m 3 19]) .skip)) (.seq (.region [.k 9 0]) (.seq (.seq (.region [.m 20 3, .o 21 (.c .eql 20 0)]) (.cond (.tmp 21) (.seq (.region [.m 23 0, .o 24 (.q 7 [23]), .m 22 24, .o 25 (.e 0 22), .o 26 (.e 1 22), .o 10 (.alloc 26 [(.int .i64 0),(.int .i64 0),(.int .i64 0),(.int .i64 0),(.slice none 0 0)]), .n (.st 5 (.tmp 10) (.tmp 25)), .m 11 26]) (.region [.o 27 (.ld true 5 (.tmp 10)), .m 28 1, .m 29 2, .o 30 (.q 44 [27,28,29]), .m 9 30])) .skip)) (.seq (.region [.m 32 0, .m 33 1, .m 34 2, .o 35 (.q 45 [32,33,34]), .m 31 35, .o 36 (.e 0 31), .o 37 (.e 1 31), .m 12 36, .m 13 37]) (.seq (.region [.m 38 12, .m 39 13, .m 40 9, .m 41 3, .o 42 (.q 46 [38,39,40,41]), .m 8 42]) .ret))))))
def F18:AFun:=⟨c18,4,43,[(.tmp 8)]⟩
def K18:Nat→List Nat×List Nat
 |_=>([],[])
theorem F18_ok:kj8 Tryz.prog K18 noRg Tryz.f18=some F18:=by kernel_rfl
/- 19: syndrome/syndromelaw.polyRoots -/
def c19L0:ACode:=(.seq (.seq (.region [.m 35 12, .m 36 0, .o 37 (.b .lss 35 36)]) (.cond (.tmp 37) .skip (.exit 0))) (.seq (.block 1 [0,1,2,7,8,9,10,12] (.seq (.region [.o 40 (.ld true 5 (.tmp 10)), .m 41 1, .m 42 12, .o 43 (.q 44 [40,41,42]), .o 44 (.c .eql 43 0)]) (.cond (.tmp 44) (.region [.m 45 7, .m 46 12, .o 47 (.mkSl 3 1 1 [(.tmp 46)]), .o 48 (.app 3 1 8 (.tmp 45) (.tmp 47)), .m 7 48]) .skip))) (.region [.m 38 12, .o 39 (.c .add 38 1), .m 12 39])))
def c19:ACode:=(.seq (.region [.o 6 (.mv (.const (.bool false)))]) (.seq (.seq (.region [.m 19 2, .o 20 (.c .eql 19 0), .m 21 20, .g 22 (.m 1) 21 true, .g 23 (.q 11 [22]) 21 true, .g 24 (.n 23) 21 true, .g 25 (.c .eql 24 0) 21 true, .o 26 (.pick (.tmp 21) (.tmp 25) (.const (.bool false)))]) (.cond (.tmp 26) (.region [.k 2 5]) .skip)) (.seq (.region [.o 7 (.mv (.const (.slice none 0 0)))]) (.seq (.region [.o 8 (.mv (.const (.slice none 0 0)))]) (.seq (.region [.m 27 2, .m 9 27]) (.seq (.seq (.region [.m 28 2, .o 29 (.c .eql 28 0)]) (.cond (.tmp 29) (.seq (.region [.m 31 0, .o 32 (.q 7 [31]), .m 30 32, .o 33 (.e 0 30), .o 34 (.e 1 30), .o 10 (.alloc 26 [(.int .i64 0),(.int .i64 0),(.int .i64 0),(.int .i64 0),(.slice none 0 0)]), .n (.st 5 (.tmp 10) (.tmp 33)), .m 11 34]) (.seq (.seq (.region [.k 12 0]) (.block 0 [0,1,2,7,8,9,10] (.loop [0,1,2,7,8,9,10,12] c19L0))) (.seq (.region [.m 49 0, .m 50 1, .o 51 (.q 11 [50]), .o 52 (.n 51), .o 53 (.c .sub 52 1), .o 54 (.q 47 [49,53]), .o 55 (.un .not (.tmp 54))]) (.cond (.tmp 55) (.region [.k 9 4]) (.region [.o 56 (.ld true 5 (.tmp 10)), .m 57 1, .o 58 (.q 48 [56,57]), .m 8 58]))))) .skip)) (.seq (.region [.m 60 0, .m 61 1, .o 62 (.q 49 [60,61]), .m 59 62, .o 63 (.e 0 59), .o 64 (.e 1 59), .m 13 63, .m 14 64]) (.seq (.region [.m 66 0, .m 67 1, .o 68 (.q 50 [66,67]), .m 65 68, .o 69 (.e 0 65), .o 70 (.e 1 65), .m 15 69, .m 16 70]) (.seq (.region [.m 72 0, .m 73 1, .o 74 (.q 51 [72,73]), .m 71 74, .o 75 (.e 0 71), .o 76 (.e 1 71), .m 17 75, .m 18 76]) (.seq (.region [.m 77 13, .m 78 14, .m 79 7, .m 80 2, .o 81 (.q 16 [77,78,79,80]), .m 82 81, .g 83 (.m 15) 82 true, .g 84 (.m 16) 82 true, .g 85 (.m 8) 82 true, .g 86 (.m 9) 82 true, .g 87 (.q 52 [83,84,85,86]) 82 true, .o 88 (.pick (.tmp 82) (.tmp 87) (.const (.bool false))), .m 89 88, .g 90 (.m 18) 89 true, .g 91 (.m 9) 89 true, .g 92 (.b .eql 90 91) 89 true, .o 93 (.pick (.tmp 89) (.tmp 92) (.const (.bool false))), .m 94 93, .g 95 (.m 17) 94 true, .g 96 (.m 9) 94 true, .g 97 (.c .eql 96 0) 94 true, .g 98 (.m 97) 94 true, .g 99 (.m 8) 98 true, .g 100 (.n 99) 98 true, .g 101 (.c .eql 100 1) 98 true, .g 102 (.pick (.tmp 98) (.tmp 101) (.const (.bool false))) 94 true, .g 103 (.eqb false (.tmp 95) (.tmp 102)) 94 true, .o 104 (.pick (.tmp 94) (.tmp 103) (.const (.bool false))), .m 6 104]) .ret))))))))))
def F19:AFun:=⟨c19,3,105,[(.tmp 6)]⟩
def K19:Nat→List Nat×List Nat
 |0=>([0,1,2,7,8,9,10,12],[0,1,2,7,8,9,10])
 |1=>([],[0,1,2,7,8,9,10,12])
 |_=>([],[])
theorem F19_ok:kj8 Tryz.prog K19 noRg Tryz.f19=some F19:=by kernel_rfl
/- 20: syndrome/syndromelaw.polyThrough -/
def c20L0:ACode:=(.seq (.seq (.region [.m 31 11, .m 32 1, .o 33 (.n 32), .o 34 (.b .lss 31 33), .m 35 34, .g 36 (.m 3) 35 true, .g 37 (.c .eql 36 0) 35 true, .o 38 (.pick (.tmp 35) (.tmp 37) (.const (.bool false)))]) (.cond (.tmp 38) .skip (.exit 0))) (.seq (.block 1 [0,1,2,3,9,10,11] (.seq (.region [.m 41 1, .m 42 11, .o 43 (.i 1 41 42), .o 44 (.l 43), .m 45 1, .m 46 11, .o 47 (.sl 1 (.tmp 45) none (some (.tmp 46))), .o 48 (.q 54 [44,47])]) (.cond (.tmp 48) (.region [.k 3 7]) .skip))) (.region [.m 39 11, .o 40 (.c .add 39 1), .m 11 40])))
def c20L1:ACode:=(.seq (.seq (.region [.m 64 14, .m 65 1, .o 66 (.n 65), .o 67 (.b .lss 64 66)]) (.cond (.tmp 67) .skip (.exit 2))) (.seq (.block 3 [1,2,9,10,12,14] (.seq (.region [.o 70 (.ld true 5 (.tmp 12)), .m 71 9, .m 72 1, .m 73 14, .o 74 (.i 1 72 73), .o 75 (.l 74),⟨(some 76),(.call 44 [(.tmp 70),(.tmp 71),(.tmp 75)]),none,true⟩, .m 77 2, .m 78 14, .o 79 (.i 1 77 78),⟨(some 80),(.ld false 1 (.tmp 79)),none,true⟩, .o 81 (.b .neq 76 80)]) (.cond (.tmp 81) (.seq (.region [.o 8 (.mv (.const (.bool false)))]) .ret) .skip))) (.region [.m 68 14, .o 69 (.c .add 68 1), .m 14 69])))
def c20:ACode:=(.seq (.region [.o 8 (.mv (.const (.bool false)))]) (.seq (.region [.m 16 0, .m 17 1, .m 18 2, .o 19 (.q 53 [16,17,18]), .m 15 19, .o 20 (.e 0 15), .o 21 (.e 1 15), .m 9 20, .m 10 21]) (.seq (.seq (.region [.m 22 3, .o 23 (.c .eql 22 0), .m 24 23, .g 25 (.m 1) 24 true, .g 26 (.n 25) 24 true, .g 27 (.m 2) 24 true, .g 28 (.n 27) 24 true, .g 29 (.b .neq 26 28) 24 true, .o 30 (.pick (.tmp 24) (.tmp 29) (.const (.bool false)))]) (.cond (.tmp 30) (.region [.k 3 6]) .skip)) (.seq (.seq (.region [.k 11 0]) (.block 0 [0,1,2,3,9,10] (.loop [0,1,2,3,9,10,11] c20L0))) (.seq (.seq (.region [.m 49 3, .o 50 (.c .neq 49 0)]) (.cond (.tmp 50) (.seq (.region [.m 51 10, .m 52 3, .o 53 (.b .eql 51 52), .m 54 53, .g 55 (.m 9) 54 true, .g 56 (.n 55) 54 true, .g 57 (.c .eql 56 0) 54 true, .o 58 (.pick (.tmp 54) (.tmp 57) (.const (.bool false))), .m 8 58]) .ret) .skip)) (.seq (.region [.m 60 0, .o 61 (.q 7 [60]), .m 59 61, .o 62 (.e 0 59), .o 63 (.e 1 59), .o 12 (.alloc 26 [(.int .i64 0),(.int .i64 0),(.int .i64 0),(.int .i64 0),(.slice none 0 0)]), .n (.st 5 (.tmp 12) (.tmp 62)), .m 13 63]) (.seq (.seq (.region [.k 14 0]) (.block 2 [1,9,10,12] (.loop [1,2,9,10,12,14] c20L1))) (.seq (.region [.m 82 10, .o 83 (.c .eql 82 0), .m 84 83, .g 85 (.m 9) 84 true, .g 86 (.n 85) 84 true, .g 87 (.m 1) 84 true, .g 88 (.n 87) 84 true, .g 89 (.b .leq 86 88) 84 true, .o 90 (.pick (.tmp 84) (.tmp 89) (.const (.bool false))), .m 91 90, .g 92 (.ld true 5 (.tmp 12)) 91 true, .g 93 (.m 9) 91 true, .g 94 (.q 55 [92,93]) 91 true, .o 95 (.pick (.tmp 91) (.tmp 94) (.const (.bool false))), .m 96 95, .g 97 (.m 9) 96 true, .g 98 (.m 9) 96 true, .g 99 (.q 11 [98]) 96 true, .g 100 (.q 43 [97,99]) 96 true, .o 101 (.pick (.tmp 96) (.tmp 100) (.const (.bool false))), .m 8 101]) .ret))))))))
def F20:AFun:=⟨c20,4,102,[(.tmp 8)]⟩
def K20:Nat→List Nat×List Nat
 |0=>([0,1,2,3,9,10,11],[0,1,2,3,9,10])
 |1=>([],[0,1,2,3,9,10,11])
 |2=>([1,2,9,10,12,14],[1,9,10,12])
 |3=>([],[1,2,9,10,12,14])
 |_=>([],[])
theorem F20_ok:kj8 Tryz.prog K20 noRg Tryz.f20=some F20:=by kernel_rfl
/- 21: syndrome/syndromeref.SizeOf -/
def c21:ACode:=(.seq (.region [.k 2 0]) (.seq (.region [.o 5 (.call 56 []), .m 3 5]) (.seq (.region [.m 6 0, .o 7 (.call 22 [(.tmp 6),(.const (.int .i64 100))]), .m 4 7]) (.seq (.seq (.region [.m 8 4, .o 9 (.c .lss 8 60)]) (.cond (.tmp 9) (.seq (.region [.m 10 3, .m 11 4, .o 12 (.c .rem 11 7), .o 13 (.i 1 10 12), .o 14 (.l 13), .m 2 14]) .ret) .skip)) (.seq (.region [.m 15 3, .m 16 0, .o 17 (.c .quo 16 100), .m 18 3, .o 19 (.n 18), .o 20 (.q 22 [17,19]), .o 21 (.i 1 15 20), .o 22 (.l 21), .m 2 22]) .ret)))))
def F21:AFun:=⟨c21,1,23,[(.tmp 2)]⟩
def K21:Nat→List Nat×List Nat
 |_=>([],[])
theorem F21_ok:kj8 Tryz.prog K21 noRg Tryz.f21=some F21:=by kernel_rfl
/- 22: syndrome/syndromeref.Pick -/
def c22:ACode:=(.seq (.region [.k 4 0]) (.seq (.seq (.region [.m 5 0, .o 6 (.c .lss 5 0)]) (.cond (.tmp 6) (.region [.m 7 0, .o 8 (.c .add 7 1), .o 9 (.un .neg (.tmp 8)), .m 0 9]) .skip)) (.seq (.region [.m 10 0, .m 11 1, .o 12 (.b .rem 10 11), .m 4 12]) .ret)))
def F22:AFun:=⟨c22,2,13,[(.tmp 4)]⟩
def K22:Nat→List Nat×List Nat
 |_=>([],[])
theorem F22_ok:kj8 Tryz.prog K22 noRg Tryz.f22=some F22:=by kernel_rfl
/- 23: syndrome/syndromeref.Numbers -/
def c23L0:ACode:=(.seq (.seq (.region [.m 11 10, .m 12 3, .o 13 (.b .lss 11 12)]) (.cond (.tmp 13) .skip (.exit 0))) (.seq (.block 1 [0,1,2,3,9,10] (.region [.m 16 9, .m 17 0, .m 18 1, .m 19 10, .o 20 (.b .add 18 19), .o 21 (.q 57 [17,20]), .m 22 2, .o 23 (.q 22 [21,22]), .o 24 (.mkSl 3 1 1 [(.tmp 23)]), .o 25 (.app 3 1 8 (.tmp 16) (.tmp 24)), .m 9 25])) (.region [.m 14 10, .o 15 (.c .add 14 1), .m 10 15])))
def c23:ACode:=(.seq (.region [.o 8 (.mv (.const (.slice none 0 0)))]) (.seq (.region [.o 9 (.mv (.const (.slice none 0 0)))]) (.seq (.seq (.region [.k 10 0]) (.block 0 [9] (.loop [0,1,2,3,9,10] c23L0))) (.seq (.region [.m 26 9, .m 8 26]) .ret))))
def F23:AFun:=⟨c23,4,27,[(.tmp 8)]⟩
def K23:Nat→List Nat×List Nat
 |0=>([0,1,2,3,9,10],[9])
 |1=>([],[0,1,2,3,9,10])
 |_=>([],[])
theorem F23_ok:kj8 Tryz.prog K23 noRg Tryz.f23=some F23:=by kernel_rfl
/- 24: syndrome/syndromeref.PlacesOf -/
def c24L0:ACode:=(.seq (.seq (.region [.m 14 8, .m 15 1, .o 16 (.b .lss 14 15)]) (.cond (.tmp 16) .skip (.exit 0))) (.seq (.block 1 [0,1,2,7,8] (.region [.m 19 7, .m 20 8, .m 21 8, .o 22 (.i 1 19 20), .n (.st 1 (.tmp 22) (.tmp 21))])) (.region [.m 17 8, .o 18 (.c .add 17 1), .m 8 18])))
def c24L1:ACode:=(.seq (.seq (.region [.m 23 9, .m 24 2, .o 25 (.b .lss 23 24)]) (.cond (.tmp 25) .skip (.exit 2))) (.seq (.block 3 [0,1,2,7,9] (.seq (.region [.m 28 9, .m 29 0, .m 30 9, .o 31 (.q 57 [29,30]), .m 32 1, .m 33 9, .o 34 (.b .sub 32 33), .o 35 (.q 22 [31,34]), .o 36 (.b .add 28 35), .m 10 36]) (.seq (.region [.m 37 7, .m 38 9, .o 39 (.i 1 37 38), .o 40 (.l 39), .m 11 40]) (.seq (.region [.m 41 7, .m 42 9, .m 43 7, .m 44 10, .o 45 (.i 1 43 44), .o 46 (.l 45), .o 47 (.i 1 41 42), .n (.st 1 (.tmp 47) (.tmp 46))]) (.region [.m 48 7, .m 49 10, .m 50 11, .o 51 (.i 1 48 49), .n (.st 1 (.tmp 51) (.tmp 50))]))))) (.region [.m 26 9, .o 27 (.c .add 26 1), .m 9 27])))
def c24:ACode:=(.seq (.region [.o 6 (.mv (.const (.slice none 0 0)))]) (.seq (.region [.m 12 1, .o 13 (.mks 3 1 8 [(.int .i64 0)] (.tmp 12) (.tmp 12)), .m 7 13]) (.seq (.seq (.region [.k 8 0]) (.block 0 [0,1,2,7] (.loop [0,1,2,7,8] c24L0))) (.seq (.seq (.region [.k 9 0]) (.block 2 [2,7] (.loop [0,1,2,7,9] c24L1))) (.seq (.region [.m 52 7, .m 53 2, .o 54 (.sl 1 (.tmp 52) none (some (.tmp 53))), .m 6 54]) .ret)))))
def F24:AFun:=⟨c24,3,55,[(.tmp 6)]⟩
def K24:Nat→List Nat×List Nat
 |0=>([0,1,2,7,8],[0,1,2,7])
 |1=>([],[0,1,2,7,8])
 |2=>([0,1,2,7,9],[2,7])
 |3=>([],[0,1,2,7,9])
 |_=>([],[])
theorem F24_ok:kj8 Tryz.prog K24 noRg Tryz.f24=some F24:=by kernel_rfl
/- 25: (syndrome/syndromeref.F).Has -/
def c25:ACode:=(.seq (.region [.o 2 (.box 26 5 (.tmp 0)), .o 4 (.mv (.const (.bool false)))]) (.seq (.region [.m 5 1, .o 6 (.c .geq 5 0), .m 7 6, .g 8 (.m 1) 7 true, .g 9 (.f 0 2) 7 true, .g 10 (.l 9) 7 true, .g 11 (.b .lss 8 10) 7 true, .o 12 (.pick (.tmp 7) (.tmp 11) (.const (.bool false))), .m 4 12]) .ret))
def F25:AFun:=⟨c25,2,13,[(.tmp 4)]⟩
def K25:Nat→List Nat×List Nat
 |_=>([],[])
theorem F25_ok:kj8 Tryz.prog K25 noRg Tryz.f25=some F25:=by kernel_rfl
/- 26: syndrome/field.New -/
def h59:List Value:=[(.int .u32 0),(.int .i32 0),(.int .u32 0),(.int .u32 0),(.int .i32 0),(.int .u32 0),(.int .u32 0),(.int .i32 0),(.int .u32 0),(.int .u32 0),(.int .i32 0),(.int .u32 0),(.int .u32 0),(.int .i32 0),(.int .u32 0),(.int .u32 0),(.int .i32 0),(.int .u32 0),(.int .u32 0),(.int .i32 0),(.int .u32 0),(.int .u32 0),(.int .i32 0),(.int .u32 0),(.int .u32 0),(.int .i32 0),(.int .u32 0),(.int .u32 0),(.int .i32 0),(.int .u32 0),(.int .u32 0),(.int .i32 0),(.int .u32 0),(.int .u32 0),(.int .i32 0),(.int .u32 0),(.int .u32 0),(.int .i32 0),(.int .u32 0),(.int .u32 0),(.int .i32 0),(.int .u32 0),(.int .u32 0),(.int .i32 0),(.int .u32 0),(.int .u32 0),(.int .i32 0),(.int .u32 0),(.int .u32 0),(.int .i32 0),(.int .u32 0),(.int .u32 0),(.int .i32 0),(.int .u32 0),(.int .u32 0),(.int .i32 0),(.int .u32 0),(.int .u32 0),(.int .i32 0),(.int .u32 0),(.int .u32 0),(.int .i32 0),(.int .u32 0),(.int .u32 0),(.int .i32 0),(.int .u32 0),(.int .u32 0),(.int .i32 0),(.int .u32 0),(.int .u32 0),(.int .i32 0),(.int .u32 0),(.int .u32 0),(.int .i32 0),(.int .u32 0),(.int .u32 0),(.int .i32 0),(.int .u32 0),(.int .u32 0),(.int .i32 0),(.int .u32 0),(.int .u32 0),(.int .i32 0),(.int .u32 0),(.int .u32 0),(.int .i32 0),(.int .u32 0),(.int .u32 0),(.int .i32 0),(.int .u32 0),(.int .u32 0),(.int .i32 0),(.int .u32 0),(.int .u32 0),(.int .i32 0),(.int .u32 0),(.int .u32 0),(.int .i32 0),(.int .u32 0),(.int .u32 0),(.int .i32 0),(.int .u32 0),(.int .u32 0),(.int .i32 0),(.int .u32 0),(.int .u32 0),(.int .i32 0),(.int .u32 0),(.int .u32 0),(.int .i32 0),(.int .u32 0),(.int .u32 0),(.int .i32 0),(.int .u32 0),(.int .u32 0),(.int .i32 0),(.int .u32 0),(.int .u32 0),(.int .i32 0),(.int .u32 0),(.int .u32 0),(.int .i32 0),(.int .u32 0),(.int .u32 0),(.int .i32 0),(.int .u32 0),(.int .u32 0),(.int .i32 0),(.int .u32 0),(.int .u32 0),(.int .i32 0),(.int .u32 0),(.int .u32 0),(.int .i32 0),(.int .u32 0),(.int .u32 0),(.int .i32 0),(.int .u32 0),(.int .u32 0),(.int .i32 0),(.int .u32 0),(.int .u32 0),(.int .i32 0),(.int .u32 0),(.int .u32 0),(.int .i32 0),(.int .u32 0),(.int .u32 0),(.int .i32 0),(.int .u32 0),(.int .u32 0),(.int .i32 0),(.int .u32 0),(.int .u32 0),(.int .i32 0),(.int .u32 0),(.int .u32 0),(.int .i32 0),(.int .u32 0),(.int .u32 0),(.int .i32 0),(.int .u32 0),(.int .u32 0),(.int .i32 0),(.int .u32 0),(.int .u32 0),(.int .i32 0),(.int .u32 0),(.int .u32 0),(.int .i32 0),(.int .u32 0),(.int .u32 0),(.int .i32 0),(.int .u32 0),(.int .u32 0),(.int .i32 0),(.int .u32 0),(.int .u32 0),(.int .i32 0),(.int .u32 0),(.int .u32 0),(.int .i32 0),(.int .u32 0),(.int .u32 0),(.int .i32 0),(.int .u32 0),(.int .u32 0),(.int .i32 0),(.int .u32 0),(.int .u32 0),(.int .i32 0),(.int .u32 0),(.int .u32 0),(.int .i32 0),(.int .u32 0),(.pointer none),(.pointer none),(.pointer none),(.pointer none),(.pointer none),(.pointer none),(.pointer none),(.pointer none),(.pointer none),(.pointer none),(.pointer none),(.pointer none),(.pointer none),(.pointer none),(.pointer none),(.pointer none),(.pointer none),(.pointer none),(.pointer none),(.pointer none),(.pointer none),(.pointer none),(.pointer none),(.pointer none),(.pointer none),(.pointer none),(.pointer none),(.pointer none),(.pointer none),(.pointer none),(.pointer none),(.pointer none),(.pointer none),(.pointer none),(.pointer none),(.pointer none),(.pointer none),(.pointer none),(.pointer none),(.pointer none),(.pointer none),(.pointer none),(.pointer none),(.pointer none),(.pointer none),(.pointer none),(.pointer none),(.pointer none),(.pointer none),(.pointer none),(.pointer none),(.pointer none),(.pointer none),(.pointer none),(.pointer none),(.pointer none),(.pointer none),(.pointer none),(.pointer none),(.pointer none),(.pointer none),(.pointer none),(.pointer none),(.pointer none),(.pointer none)]
def c26:ACode:=(.seq (.region [.o 1 (.box 3 1 (.tmp 0)), .o 2 (.mv (.const (.pointer none))), .k 3 0]) (.seq (.seq (.region [.o 5 (.l 1), .o 6 (.c .lss 5 2), .m 7 6, .g 8 (.l 1) 7 false, .g 9 (.c .gtr 8 64) 7 false, .o 10 (.pick (.tmp 7) (.const (.bool true)) (.tmp 9))]) (.cond (.tmp 10) (.seq (.region [.o 2 (.mv (.const (.pointer none))), .k 3 1]) .ret) .skip)) (.seq (.region [.o 4 (.alloc 94 h59)]) (.seq (.region [.o 11 (.l 1), .o 12 (.f 0 4), .o 13 (.iaddrA 65 3 (.tmp 12) (.tmp 11)), .o 14 (.mkf 59 [(.tmp 1),(.tmp 4)]), .o 15 (.q 58 [13,14])]) (.seq (.seq (.region [.o 16 (.l 1), .o 17 (.f 195 4), .o 18 (.iaddrA 65 1 (.tmp 17) (.tmp 16)), .o 19 (.l 18), .o 20 (.eqn false 1 (.tmp 19))]) (.cond (.tmp 20) (.seq (.region [.o 2 (.mv (.const (.pointer none))), .k 3 1]) .ret) .skip)) (.seq (.region [.o 21 (.l 1), .o 22 (.f 195 4), .o 23 (.iaddrA 65 1 (.tmp 22) (.tmp 21)), .o 24 (.l 23), .m 2 24, .k 3 0]) .ret))))))
def F26:AFun:=⟨c26,1,25,[(.tmp 2),(.tmp 3)]⟩
def K26:Nat→List Nat×List Nat
 |_=>([],[])
theorem F26_ok:kj8 Tryz.prog K26 noRg Tryz.f26=some F26:=by kernel_rfl
/- 27: (*syndrome/field.Field).Has -/
def c27:ACode:=(.seq (.region [.o 4 (.mv (.const (.bool false)))]) (.seq (.region [.m 5 1, .o 6 (.c .geq 5 0), .m 7 6, .g 8 (.m 1) 7 true, .g 9 (.m 0) 7 true, .g 10 (.nilck (.tmp 9)) 7 true, .g 11 (.f 0 10) 7 true, .g 12 (.l 11) 7 true, .g 13 (.b .lss 8 12) 7 true, .o 14 (.pick (.tmp 7) (.tmp 13) (.const (.bool false))), .m 4 14]) .ret))
def F27:AFun:=⟨c27,2,15,[(.tmp 4)]⟩
def K27:Nat→List Nat×List Nat
 |_=>([],[])
theorem F27_ok:kj8 Tryz.prog K27 noRg Tryz.f27=some F27:=by kernel_rfl
/- 28: syndrome/syndromeref.Prime -/
def c28L0:ACode:=(.seq (.seq (.region [.m 15 0, .m 16 4, .o 17 (.b .rem 15 16), .o 18 (.c .eql 17 0)]) (.cond (.tmp 18) .skip (.exit 2))) (.block 3 [0,4,5] (.seq (.region [.m 19 0, .m 20 4, .o 21 (.b .quo 19 20), .m 0 21]) (.region [.m 22 5, .o 23 (.c .add 22 1), .m 5 23]))))
def c28L1:ACode:=(.seq (.seq (.region [.m 6 4, .m 7 0, .o 8 (.b .leq 6 7)]) (.cond (.tmp 8) .skip (.exit 0))) (.seq (.block 1 [0,4] (.seq (.seq (.region [.m 11 0, .m 12 4, .o 13 (.b .rem 11 12), .o 14 (.c .neq 13 0)]) (.cond (.tmp 14) (.exit 1) .skip)) (.seq (.region [.k 5 0]) (.seq (.block 2 [0,4,5] (.loop [0,4,5] c28L0)) (.seq (.seq (.region [.m 24 0, .o 25 (.c .eql 24 1)]) (.cond (.tmp 25) (.seq (.region [.m 26 4, .m 27 5, .m 2 26, .m 3 27]) .ret) .skip)) (.seq (.region [.k 2 0, .k 3 0]) .ret)))))) (.region [.m 9 4, .o 10 (.c .add 9 1), .m 4 10])))
def c28:ACode:=(.seq (.region [.k 2 0, .k 3 0]) (.seq (.seq (.region [.k 4 2]) (.block 0 [] (.loop [0,4] c28L1))) (.seq (.region [.k 2 0, .k 3 0]) .ret)))
def F28:AFun:=⟨c28,1,28,[(.tmp 2),(.tmp 3)]⟩
def K28:Nat→List Nat×List Nat
 |0=>([0,4],[])
 |1=>([],[0,4])
 |2=>([0,4,5],[0,4,5])
 |3=>([],[0,4,5])
 |_=>([],[])
theorem F28_ok:kj8 Tryz.prog K28 noRg Tryz.f28=some F28:=by kernel_rfl
/- 29: syndrome/syndromeref.full -/
def c29L0:ACode:=(.seq (.seq (.region [.m 11 7, .o 12 (.f 0 2), .o 13 (.l 12), .o 14 (.c .sub 13 1), .o 15 (.b .lss 11 14)]) (.cond (.tmp 15) .skip (.exit 0))) (.seq (.block 1 [1,2,5,6,7] (.seq (.seq (.region [.m 18 6, .o 19 (.c .eql 18 0), .m 20 19, .g 21 (.m 5) 20 false, .g 22 (.m 6) 20 false, .g 23 (.i 1 21 22) 20 false, .g 24 (.l 23) 20 false, .o 25 (.pick (.tmp 20) (.const (.bool true)) (.tmp 24))]) (.cond (.tmp 25) (.seq (.region [.o 4 (.mv (.const (.bool false)))]) .ret) .skip)) (.seq (.region [.m 26 5, .m 27 6, .o 28 (.i 1 26 27), .n (.st 1 (.tmp 28) (.const (.bool true)))]) (.region [.o 29 (.ld true 5 (.tmp 2)), .m 30 6, .m 31 1, .o 32 (.q 32 [29,30,31]), .m 6 32])))) (.region [.m 16 7, .o 17 (.c .add 16 1), .m 7 17])))
def c29:ACode:=(.seq (.region [.o 2 (.box 26 5 (.tmp 0)), .o 4 (.mv (.const (.bool false)))]) (.seq (.region [.o 8 (.f 0 2), .o 9 (.l 8), .o 10 (.mks 4 1 1 [(.bool false)] (.tmp 9) (.tmp 9)), .m 5 10]) (.seq (.region [.k 6 1]) (.seq (.seq (.region [.k 7 0]) (.block 0 [] (.loop [1,2,5,6,7] c29L0))) (.seq (.region [.o 4 (.mv (.const (.bool true)))]) .ret)))))
def F29:AFun:=⟨c29,2,33,[(.tmp 4)]⟩
def K29:Nat→List Nat×List Nat
 |0=>([1,2,5,6,7],[])
 |1=>([],[1,2,5,6,7])
 |_=>([],[])
theorem F29_ok:kj8 Tryz.prog K29 noRg Tryz.f29=some F29:=by kernel_rfl
/- 30: syndrome/syndromeref.Digits -/
def c30L0:ACode:=(.seq (.seq (.region [.m 9 8, .m 10 2, .o 11 (.b .lss 9 10)]) (.cond (.tmp 11) .skip (.exit 0))) (.seq (.block 1 [0,1,2,7,8] (.seq (.region [.m 14 7, .m 15 0, .m 16 1, .o 17 (.b .rem 15 16), .o 18 (.mkSl 3 1 1 [(.tmp 17)]), .o 19 (.app 3 1 8 (.tmp 14) (.tmp 18)), .m 7 19]) (.region [.m 20 0, .m 21 1, .o 22 (.b .quo 20 21), .m 0 22]))) (.region [.m 12 8, .o 13 (.c .add 12 1), .m 8 13])))
def c30:ACode:=(.seq (.region [.o 6 (.mv (.const (.slice none 0 0)))]) (.seq (.region [.o 7 (.mv (.const (.slice none 0 0)))]) (.seq (.seq (.region [.k 8 0]) (.block 0 [7] (.loop [0,1,2,7,8] c30L0))) (.seq (.region [.m 23 7, .m 6 23]) .ret))))
def F30:AFun:=⟨c30,3,24,[(.tmp 6)]⟩
def K30:Nat→List Nat×List Nat
 |0=>([0,1,2,7,8],[7])
 |1=>([],[0,1,2,7,8])
 |_=>([],[])
theorem F30_ok:kj8 Tryz.prog K30 noRg Tryz.f30=some F30:=by kernel_rfl
/- 31: (syndrome/syndromeref.F).Add -/
def c31L0:ACode:=(.seq (.seq (.region [.m 47 9, .o 48 (.f 2 3), .o 49 (.l 48), .o 50 (.b .lss 47 49)]) (.cond (.tmp 50) .skip (.exit 0))) (.seq (.block 1 [3,7,8,9] (.region [.m 53 7, .m 54 9, .m 55 7, .m 56 9, .o 57 (.i 1 55 56), .o 58 (.l 57), .m 59 8, .m 60 9, .o 61 (.i 1 59 60), .o 62 (.l 61), .o 63 (.b .add 58 62), .o 64 (.f 1 3), .o 65 (.l 64), .o 66 (.b .rem 63 65), .o 67 (.i 1 53 54), .n (.st 1 (.tmp 67) (.tmp 66))])) (.region [.m 51 9, .o 52 (.c .add 51 1), .m 9 52])))
def c31:ACode:=(.seq (.region [.o 3 (.box 26 5 (.tmp 0)), .k 6 0]) (.seq (.seq (.region [.o 10 (.ld true 5 (.tmp 3)), .m 11 1, .o 12 (.q 25 [10,11]), .o 13 (.un .not (.tmp 12)), .m 14 13, .g 15 (.ld true 5 (.tmp 3)) 14 false, .g 16 (.m 2) 14 false, .g 17 (.q 25 [15,16]) 14 false, .g 18 (.un .not (.tmp 17)) 14 false, .o 19 (.pick (.tmp 14) (.const (.bool true)) (.tmp 18))]) (.cond (.tmp 19) (.seq (.region [.k 6 (-1)]) .ret) .skip)) (.seq (.seq (.region [.o 20 (.f 2 3), .o 21 (.l 20), .o 22 (.c .eql 21 1)]) (.cond (.tmp 22) (.seq (.region [.m 23 1, .m 24 2, .o 25 (.b .add 23 24), .o 26 (.f 1 3), .o 27 (.l 26), .o 28 (.b .rem 25 27), .m 6 28]) .ret) .skip)) (.seq (.seq (.region [.o 29 (.f 1 3), .o 30 (.l 29), .o 31 (.c .eql 30 2)]) (.cond (.tmp 31) (.seq (.region [.m 32 1, .m 33 2, .o 34 (.b .xor 32 33), .m 6 34]) .ret) .skip)) (.seq (.region [.m 35 1, .o 36 (.f 1 3), .o 37 (.l 36), .o 38 (.f 2 3), .o 39 (.l 38), .o 40 (.q 30 [35,37,39]), .m 7 40]) (.seq (.region [.m 41 2, .o 42 (.f 1 3), .o 43 (.l 42), .o 44 (.f 2 3), .o 45 (.l 44), .o 46 (.q 30 [41,43,45]), .m 8 46]) (.seq (.seq (.region [.k 9 0]) (.block 0 [3,7] (.loop [3,7,8,9] c31L0))) (.seq (.region [.m 68 7, .o 69 (.f 1 3), .o 70 (.l 69), .o 71 (.q 61 [68,70]), .m 6 71]) .ret))))))))
def F31:AFun:=⟨c31,3,72,[(.tmp 6)]⟩
def K31:Nat→List Nat×List Nat
 |0=>([3,7,8,9],[3,7])
 |1=>([],[3,7,8,9])
 |_=>([],[])
theorem F31_ok:kj8 Tryz.prog K31 noRg Tryz.f31=some F31:=by kernel_rfl
/- 32: (syndrome/syndromeref.F).Mul -/
def c32L0:ACode:=(.seq (.seq (.region [.m 55 11, .o 56 (.f 2 3), .o 57 (.l 56), .o 58 (.b .lss 55 57)]) (.cond (.tmp 58) .skip (.exit 2))) (.seq (.block 3 [3,7,8,9,10,11] (.region [.m 61 9, .m 62 10, .m 63 11, .o 64 (.b .add 62 63), .m 65 9, .m 66 10, .m 67 11, .o 68 (.b .add 66 67), .o 69 (.i 1 65 68), .o 70 (.l 69), .m 71 7, .m 72 10, .o 73 (.i 1 71 72), .o 74 (.l 73), .m 75 8, .m 76 11, .o 77 (.i 1 75 76), .o 78 (.l 77), .o 79 (.b .mul 74 78), .o 80 (.b .add 70 79), .o 81 (.f 1 3), .o 82 (.l 81), .o 83 (.b .rem 80 82), .o 84 (.i 1 61 64), .n (.st 1 (.tmp 84) (.tmp 83))])) (.region [.m 59 11, .o 60 (.c .add 59 1), .m 11 60])))
def c32L1:ACode:=(.seq (.seq (.region [.m 49 10, .o 50 (.f 2 3), .o 51 (.l 50), .o 52 (.b .lss 49 51)]) (.cond (.tmp 52) .skip (.exit 0))) (.seq (.block 1 [3,7,8,9,10] (.seq (.region [.k 11 0]) (.block 2 [3,7,8,9,10] (.loop [3,7,8,9,10,11] c32L0)))) (.region [.m 53 10, .o 54 (.c .add 53 1), .m 10 54])))
def c32L2:ACode:=(.seq (.seq (.region [.m 95 13, .o 96 (.f 2 3), .o 97 (.l 96), .o 98 (.b .lss 95 97)]) (.cond (.tmp 98) .skip (.exit 6))) (.seq (.block 7 [3,9,12,13] (.region [.m 101 9, .m 102 12, .o 103 (.f 2 3), .o 104 (.l 103), .o 105 (.b .sub 102 104), .m 106 13, .o 107 (.b .add 105 106), .m 108 9, .m 109 12, .o 110 (.f 2 3), .o 111 (.l 110), .o 112 (.b .sub 109 111), .m 113 13, .o 114 (.b .add 112 113), .o 115 (.i 1 108 114), .o 116 (.l 115), .m 117 9, .m 118 12, .o 119 (.i 1 117 118), .o 120 (.l 119), .o 121 (.f 1 3), .o 122 (.l 121), .o 123 (.f 4 3), .o 124 (.l 123), .m 125 13, .o 126 (.i 1 124 125), .o 127 (.l 126), .o 128 (.b .sub 122 127), .o 129 (.b .mul 120 128), .o 130 (.b .add 116 129), .o 131 (.f 1 3), .o 132 (.l 131), .o 133 (.b .rem 130 132), .o 134 (.i 1 101 107), .n (.st 1 (.tmp 134) (.tmp 133))])) (.region [.m 99 13, .o 100 (.c .add 99 1), .m 13 100])))
def c32L3:ACode:=(.seq (.seq (.region [.m 89 12, .o 90 (.f 2 3), .o 91 (.l 90), .o 92 (.b .geq 89 91)]) (.cond (.tmp 92) .skip (.exit 4))) (.seq (.block 5 [3,9,12] (.seq (.seq (.region [.k 13 0]) (.block 6 [3,9,12] (.loop [3,9,12,13] c32L2))) (.region [.m 135 9, .m 136 12, .o 137 (.i 1 135 136), .n (.st 1 (.tmp 137) (.const (.int .i64 0)))]))) (.region [.m 93 12, .o 94 (.c .sub 93 1), .m 12 94])))
def c32:ACode:=(.seq (.region [.o 3 (.box 26 5 (.tmp 0)), .k 6 0]) (.seq (.seq (.region [.o 14 (.ld true 5 (.tmp 3)), .m 15 1, .o 16 (.q 25 [14,15]), .o 17 (.un .not (.tmp 16)), .m 18 17, .g 19 (.ld true 5 (.tmp 3)) 18 false, .g 20 (.m 2) 18 false, .g 21 (.q 25 [19,20]) 18 false, .g 22 (.un .not (.tmp 21)) 18 false, .o 23 (.pick (.tmp 18) (.const (.bool true)) (.tmp 22))]) (.cond (.tmp 23) (.seq (.region [.k 6 (-1)]) .ret) .skip)) (.seq (.seq (.region [.o 24 (.f 2 3), .o 25 (.l 24), .o 26 (.c .eql 25 1)]) (.cond (.tmp 26) (.seq (.region [.m 27 1, .m 28 2, .o 29 (.b .mul 27 28), .o 30 (.f 1 3), .o 31 (.l 30), .o 32 (.b .rem 29 31), .m 6 32]) .ret) .skip)) (.seq (.region [.m 33 1, .o 34 (.f 1 3), .o 35 (.l 34), .o 36 (.f 2 3), .o 37 (.l 36), .o 38 (.q 30 [33,35,37]), .m 7 38]) (.seq (.region [.m 39 2, .o 40 (.f 1 3), .o 41 (.l 40), .o 42 (.f 2 3), .o 43 (.l 42), .o 44 (.q 30 [39,41,43]), .m 8 44]) (.seq (.region [.o 45 (.f 2 3), .o 46 (.l 45), .o 47 (.bin .mul (.const (.int .i64 2)) (.tmp 46)), .o 48 (.mks 3 1 8 [(.int .i64 0)] (.tmp 47) (.tmp 47)), .m 9 48]) (.seq (.seq (.region [.k 10 0]) (.block 0 [3,9] (.loop [3,7,8,9,10] c32L1))) (.seq (.seq (.region [.o 85 (.f 2 3), .o 86 (.l 85), .o 87 (.bin .mul (.const (.int .i64 2)) (.tmp 86)), .o 88 (.c .sub 87 1), .m 12 88]) (.block 4 [3,9] (.loop [3,9,12] c32L3))) (.seq (.region [.m 138 9, .o 139 (.f 2 3), .o 140 (.l 139), .o 141 (.sl 1 (.tmp 138) none (some (.tmp 140))), .o 142 (.f 1 3), .o 143 (.l 142), .o 144 (.q 61 [141,143]), .m 6 144]) .ret)))))))))
def F32:AFun:=⟨c32,3,145,[(.tmp 6)]⟩
def K32:Nat→List Nat×List Nat
 |0=>([3,7,8,9,10],[3,9])
 |1=>([],[3,7,8,9,10])
 |2=>([3,7,8,9,10,11],[3,7,8,9,10])
 |3=>([],[3,7,8,9,10,11])
 |4=>([3,9,12],[3,9])
 |5=>([],[3,9,12])
 |6=>([3,9,12,13],[3,9,12])
 |7=>([],[3,9,12,13])
 |_=>([],[])
theorem F32_ok:kj8 Tryz.prog K32 noRg Tryz.f32=some F32:=by kernel_rfl
/- 33: syndrome/syndromeref.Monic -/
def c33L0:ACode:=(.seq (.seq (.region [.m 20 6, .m 21 1, .o 22 (.n 21), .o 23 (.b .lss 20 22)]) (.cond (.tmp 23) .skip (.exit 0))) (.seq (.block 1 [1,2,5,6] (.region [.m 26 1, .m 27 6, .o 28 (.ld true 5 (.tmp 2)), .m 29 1, .m 30 6, .o 31 (.i 1 29 30), .o 32 (.l 31), .m 33 5, .o 34 (.q 32 [28,32,33]), .o 35 (.i 1 26 27), .n (.st 1 (.tmp 35) (.tmp 34))])) (.region [.m 24 6, .o 25 (.c .add 24 1), .m 6 25])))
def c33:ACode:=(.seq (.region [.o 2 (.box 26 5 (.tmp 0)), .o 4 (.mv (.const (.slice none 0 0)))]) (.seq (.region [.m 7 1, .o 8 (.q 11 [7]), .m 1 8]) (.seq (.seq (.region [.m 9 1, .o 10 (.n 9), .o 11 (.c .eql 10 0)]) (.cond (.tmp 11) (.seq (.region [.o 4 (.mv (.const (.slice none 0 0)))]) .ret) .skip)) (.seq (.region [.o 12 (.ld true 5 (.tmp 2)), .m 13 1, .m 14 1, .o 15 (.n 14), .o 16 (.c .sub 15 1), .o 17 (.i 1 13 16), .o 18 (.l 17), .o 19 (.q 35 [12,18]), .m 5 19]) (.seq (.seq (.region [.k 6 0]) (.block 0 [1] (.loop [1,2,5,6] c33L0))) (.seq (.region [.m 36 1, .m 4 36]) .ret))))))
def F33:AFun:=⟨c33,2,37,[(.tmp 4)]⟩
def K33:Nat→List Nat×List Nat
 |0=>([1,2,5,6],[1])
 |1=>([],[1,2,5,6])
 |_=>([],[])
theorem F33_ok:kj8 Tryz.prog K33 noRg Tryz.f33=some F33:=by kernel_rfl
/- 34: syndrome/syndromeref.Copy -/
def c34:ACode:=(.seq (.region [.o 2 (.mv (.const (.slice none 0 0)))]) (.seq (.region [.o 3 (.mkSl 3 1 0 []), .m 4 0, .o 5 (.app 3 1 8 (.tmp 3) (.tmp 4)), .m 2 5]) .ret))
def F34:AFun:=⟨c34,1,6,[(.tmp 2)]⟩
def K34:Nat→List Nat×List Nat
 |_=>([],[])
theorem F34_ok:kj8 Tryz.prog K34 noRg Tryz.f34=some F34:=by kernel_rfl
/- 35: (syndrome/syndromeref.F).Inv -/
def c35L0:ACode:=(.seq (.seq (.region [.m 14 5, .o 15 (.f 0 2), .o 16 (.l 15), .o 17 (.b .lss 14 16)]) (.cond (.tmp 17) .skip (.exit 0))) (.seq (.block 1 [1,2,5] (.seq (.region [.o 20 (.ld true 5 (.tmp 2)), .m 21 1, .m 22 5, .o 23 (.q 32 [20,21,22]), .o 24 (.c .eql 23 1)]) (.cond (.tmp 24) (.seq (.region [.m 25 5, .m 4 25]) .ret) .skip))) (.region [.m 18 5, .o 19 (.c .add 18 1), .m 5 19])))
def c35:ACode:=(.seq (.region [.o 2 (.box 26 5 (.tmp 0)), .k 4 0]) (.seq (.seq (.region [.o 6 (.ld true 5 (.tmp 2)), .m 7 1, .o 8 (.q 25 [6,7]), .o 9 (.un .not (.tmp 8)), .m 10 9, .g 11 (.m 1) 10 false, .g 12 (.c .eql 11 0) 10 false, .o 13 (.pick (.tmp 10) (.const (.bool true)) (.tmp 12))]) (.cond (.tmp 13) (.seq (.region [.k 4 (-1)]) .ret) .skip)) (.seq (.seq (.region [.k 5 1]) (.block 0 [] (.loop [1,2,5] c35L0))) (.seq (.region [.k 4 (-1)]) .ret))))
def F35:AFun:=⟨c35,2,26,[(.tmp 4)]⟩
def K35:Nat→List Nat×List Nat
 |0=>([1,2,5],[])
 |1=>([],[1,2,5])
 |_=>([],[])
theorem F35_ok:kj8 Tryz.prog K35 noRg Tryz.f35=some F35:=by kernel_rfl
/- 36: (syndrome/syndromeref.F).Sub -/
def c36:ACode:=(.seq (.region [.o 3 (.box 26 5 (.tmp 0)), .k 6 0]) (.seq (.region [.o 8 (.ld true 5 (.tmp 3)), .m 9 2, .o 10 (.q 62 [8,9]), .m 7 10]) (.seq (.region [.o 11 (.ld true 5 (.tmp 3)), .m 12 1, .m 13 7, .o 14 (.q 31 [11,12,13]), .m 6 14]) .ret)))
def F36:AFun:=⟨c36,3,15,[(.tmp 6)]⟩
def K36:Nat→List Nat×List Nat
 |_=>([],[])
theorem F36_ok:kj8 Tryz.prog K36 noRg Tryz.f36=some F36:=by kernel_rfl
/- 37: syndrome/poly.both -/
def c37:ACode:=(.seq (.region [.o 6 (.mv (.const (.pointer none))), .o 7 (.mv (.const (.slice none 0 0))), .o 8 (.mv (.const (.slice none 0 0))), .k 9 0]) (.seq (.region [.m 13 0, .m 14 1, .o 15 (.q 6 [13,14]), .m 10 15]) (.seq (.seq (.region [.m 16 10, .o 17 (.c .eql 16 0)]) (.cond (.tmp 17) (.region [.m 18 0, .m 19 2, .o 20 (.q 6 [18,19]), .m 10 20]) .skip)) (.seq (.seq (.region [.m 21 10, .o 22 (.c .neq 21 0)]) (.cond (.tmp 22) (.seq (.region [.m 23 10, .o 6 (.mv (.const (.pointer none))), .o 7 (.mv (.const (.slice none 0 0))), .o 8 (.mv (.const (.slice none 0 0))), .m 9 23]) .ret) .skip)) (.seq (.region [.m 25 0, .o 26 (.q 26 [25]), .m 24 26, .o 27 (.e 0 24), .o 28 (.e 1 24), .m 11 27, .m 12 28]) (.seq (.region [.m 29 11, .m 30 1, .o 31 (.q 39 [30]), .m 32 2, .o 33 (.q 39 [32]), .m 6 29, .m 7 31, .m 8 33, .k 9 0]) .ret))))))
def F37:AFun:=⟨c37,3,34,[(.tmp 6),(.tmp 7),(.tmp 8),(.tmp 9)]⟩
def K37:Nat→List Nat×List Nat
 |_=>([],[])
theorem F37_ok:kj8 Tryz.prog K37 noRg Tryz.f37=some F37:=by kernel_rfl
/- 38: (*syndrome/field.Field).Add -/
def c38L0:ACode:=(.seq (.region [.o 24 (.b .lss 23 22)]) (.seq (.cond (.tmp 24) .skip (.exit 0)) (.seq (.block 1 [0,1,2,7,8,22,23] (.seq (.region [.m 25 7, .m 26 1, .m 27 0, .o 28 (.nilck (.tmp 27)), .o 29 (.f 1 28), .o 30 (.l 29), .o 31 (.b .rem 26 30), .m 32 2, .m 33 0, .o 34 (.nilck (.tmp 33)), .o 35 (.f 1 34), .o 36 (.l 35), .o 37 (.b .rem 32 36), .o 38 (.b .add 31 37), .m 39 0, .o 40 (.nilck (.tmp 39)), .o 41 (.f 1 40), .o 42 (.l 41), .o 43 (.b .rem 38 42), .m 44 8, .o 45 (.b .mul 43 44), .o 46 (.b .add 25 45), .m 7 46]) (.region [.m 47 1, .m 48 0, .o 49 (.nilck (.tmp 48)), .o 50 (.f 1 49), .o 51 (.l 50), .o 52 (.b .quo 47 51), .m 53 2, .m 54 0, .o 55 (.nilck (.tmp 54)), .o 56 (.f 1 55), .o 57 (.l 56), .o 58 (.b .quo 53 57), .m 59 8, .m 60 0, .o 61 (.nilck (.tmp 60)), .o 62 (.f 1 61), .o 63 (.l 62), .o 64 (.b .mul 59 63), .m 1 52, .m 2 58, .m 8 64]))) (.region [.o 65 (.c .add 23 1), .m 23 65]))))
def c38:ACode:=(.seq (.region [.k 6 0]) (.seq (.seq (.region [.m 9 0, .m 10 1, .o 11 (.q 27 [9,10]), .o 12 (.un .not (.tmp 11)), .m 13 12, .g 14 (.m 0) 13 false, .g 15 (.m 2) 13 false, .g 16 (.q 27 [14,15]) 13 false, .g 17 (.un .not (.tmp 16)) 13 false, .o 18 (.pick (.tmp 13) (.const (.bool true)) (.tmp 17))]) (.cond (.tmp 18) (.seq (.region [.k 6 (-1)]) .ret) .skip)) (.seq (.region [.k 7 0, .k 8 1]) (.seq (.seq (.region [.m 19 0, .o 20 (.nilck (.tmp 19)), .o 21 (.f 2 20), .o 22 (.l 21), .k 23 0]) (.block 0 [7] (.loop [0,1,2,7,8,22,23] c38L0))) (.seq (.region [.m 66 7, .m 6 66]) .ret)))))
def F38:AFun:=⟨c38,3,67,[(.tmp 6)]⟩
def K38:Nat→List Nat×List Nat
 |0=>([0,1,2,7,8,22,23],[7])
 |1=>([],[0,1,2,7,8,22,23])
 |_=>([],[])
theorem F38_ok:kj8 Tryz.prog K38 noRg Tryz.f38=some F38:=by kernel_rfl
/- 39: syndrome/poly.trim -/
def c39L0:ACode:=(.seq (.seq (.region [.m 6 3, .o 7 (.c .gtr 6 0), .m 8 7, .g 9 (.m 0) 8 true, .g 10 (.m 3) 8 true, .g 11 (.c .sub 10 1) 8 true, .g 12 (.i 1 9 11) 8 true, .g 13 (.l 12) 8 true, .g 14 (.c .eql 13 0) 8 true, .o 15 (.pick (.tmp 8) (.tmp 14) (.const (.bool false)))]) (.cond (.tmp 15) .skip (.exit 0))) (.block 1 [0,3] (.region [.m 16 3, .o 17 (.c .sub 16 1), .m 3 17])))
def c39:ACode:=(.seq (.region [.o 2 (.mv (.const (.slice none 0 0)))]) (.seq (.region [.m 4 0, .o 5 (.n 4), .m 3 5]) (.seq (.block 0 [0,3] (.loop [0,3] c39L0)) (.seq (.region [.m 18 0, .m 19 3, .o 20 (.sl 1 (.tmp 18) none (some (.tmp 19))), .o 21 (.q 63 [20]), .m 2 21]) .ret))))
def F39:AFun:=⟨c39,1,22,[(.tmp 2)]⟩
def K39:Nat→List Nat×List Nat
 |0=>([0,3],[0,3])
 |1=>([],[0,3])
 |_=>([],[])
theorem F39_ok:kj8 Tryz.prog K39 noRg Tryz.f39=some F39:=by kernel_rfl
end Go.Proofs.YtoglhlonhmmieaaGreat
