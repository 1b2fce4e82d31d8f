/-
  Functions of this seat as the small machine's code, written by a program of my own (gen.py); each is checked to be what the model's function is turned into. No condition.
-/
import Derived.Test.YtlhmdmedagjmnaaK1
import Derived.Test.YtlhmdmedagjmnaaProg
set_option linter.unusedVariables false
set_option linter.unusedSimpArgs false
set_option linter.unusedSectionVars false
set_option maxRecDepth 100000
namespace Go.Proofs.Ytlhmdmedagjmnaa
open Go.Am
/- 7: syndrome/syndrometop.TopRing -/
def c7L0:ACode:=(.seq (.seq (.region [.m 61 14, .m 62 1, .o 63 (.b .lss 61 62)]) (.cond (.tmp 63) .skip (.exit 2))) (.seq (.block 3 [0,1,2,3,9,11,12,13,14] (.seq (.region [.m 66 9, .m 67 12, .m 68 14, .o 69 (.b .add 67 68), .m 70 9, .o 71 (.n 70), .o 72 (.b .rem 69 71), .o 73 (.i 1 66 72), .o 74 (.l 73), .m 15 74]) (.seq (.seq (.region [.m 75 15, .o 76 (.c .lss 75 0), .m 77 76, .g 78 (.m 15) 77 false, .g 79 (.m 0) 77 false, .g 80 (.b .geq 78 79) 77 false, .o 81 (.pick (.tmp 77) (.const (.bool true)) (.tmp 80))]) (.cond (.tmp 81) (.seq (.region [.o 8 (.mv (.const (.bool false)))]) .ret) .skip)) (.region [.m 82 13, .m 83 0, .o 84 (.b .mul 82 83), .m 85 15, .o 86 (.b .add 84 85), .m 13 86])))) (.region [.m 64 14, .o 65 (.c .add 64 1), .m 14 65])))
def c7L1:ACode:=(.seq (.seq (.region [.m 55 12, .m 56 9, .o 57 (.n 56), .o 58 (.b .lss 55 57)]) (.cond (.tmp 58) .skip (.exit 0))) (.seq (.block 1 [0,1,2,3,9,11,12] (.seq (.region [.k 13 0]) (.seq (.seq (.region [.k 14 0]) (.block 2 [0,1,2,3,9,11,12,13] (.loop [0,1,2,3,9,11,12,13,14] c7L0))) (.seq (.seq (.region [.m 87 11, .m 88 13, .o 89 (.i 1 87 88), .o 90 (.l 89)]) (.cond (.tmp 90) (.seq (.region [.o 8 (.mv (.const (.bool false)))]) .ret) .skip)) (.region [.m 91 11, .m 92 13, .o 93 (.i 1 91 92), .n (.st 1 (.tmp 93) (.const (.bool true)))]))))) (.region [.m 59 12, .o 60 (.c .add 59 1), .m 12 60])))
def c7L2:ACode:=(.seq (.seq (.region [.m 94 18, .m 95 2, .o 96 (.n 95), .o 97 (.bin .add (.const (.int .i64 1)) (.tmp 96)), .o 98 (.b .lss 94 97), .m 99 98, .g 100 (.m 18) 99 true, .g 101 (.c .lss 100 5) 99 true, .o 102 (.pick (.tmp 99) (.tmp 101) (.const (.bool false)))]) (.cond (.tmp 102) .skip (.exit 4))) (.seq (.block 5 [2,3,16,17,18] (.seq (.region [.m 105 2, .m 106 18, .o 107 (.q 40 [105,106]), .o 108 (.call 17 [(.tmp 107),(.const (.int .i64 3))]), .o 109 (.bin .add (.const (.int .i64 2)) (.tmp 108)), .m 19 109]) (.seq (.region [.m 110 16, .m 111 19, .o 112 (.mkSl 3 1 1 [(.tmp 111)]), .o 113 (.app 3 1 8 (.tmp 110) (.tmp 112)), .m 16 113]) (.region [.m 114 17, .m 115 19, .o 116 (.b .mul 114 115), .m 17 116])))) (.region [.m 103 18, .o 104 (.c .add 103 1), .m 18 104])))
def c7L3:ACode:=(.seq (.seq (.region [.m 170 26, .m 171 16, .o 172 (.n 171), .o 173 (.b .lss 170 172)]) (.cond (.tmp 173) .skip (.exit 6))) (.seq (.block 7 [16,20,21,25,26] (.region [.m 176 25, .m 177 20, .m 178 26, .o 179 (.i 1 177 178), .o 180 (.l 179), .m 181 21, .m 182 26, .o 183 (.i 1 181 182), .o 184 (.l 183), .o 185 (.b .sub 180 184), .m 186 20, .m 187 26, .o 188 (.i 1 186 187), .o 189 (.l 188), .m 190 21, .m 191 26, .o 192 (.i 1 190 191), .o 193 (.l 192), .o 194 (.b .sub 189 193), .o 195 (.b .mul 185 194), .o 196 (.b .add 176 195), .m 25 196])) (.region [.m 174 26, .o 175 (.c .add 174 1), .m 26 175])))
def c7:ACode:=(.seq (.region [.o 8 (.mv (.const (.bool false)))]) (.seq (.seq (.region [.m 27 2, .o 28 (.n 27), .o 29 (.c .gtr 28 64)]) (.cond (.tmp 29) (.seq (.region [.o 8 (.mv (.const (.bool true)))]) .ret) .skip)) (.seq (.region [.m 30 0, .o 31 (.call 17 [(.tmp 30),(.const (.int .i64 4))]), .o 32 (.bin .add (.const (.int .i64 2)) (.tmp 31)), .m 0 32]) (.seq (.region [.m 33 1, .o 34 (.call 17 [(.tmp 33),(.const (.int .i64 4))]), .o 35 (.bin .add (.const (.int .i64 1)) (.tmp 34)), .m 1 35]) (.seq (.region [.m 37 0, .m 38 1, .o 39 (.q 38 [37,38]), .m 36 39, .o 40 (.e 0 36), .o 41 (.e 1 36), .m 9 40, .m 10 41]) (.seq (.seq (.region [.m 42 10, .o 43 (.c .neq 42 0), .m 44 43, .g 45 (.m 9) 44 false, .g 46 (.n 45) 44 false, .g 47 (.m 0) 44 false, .g 48 (.m 1) 44 false, .g 49 (.q 39 [47,48]) 44 false, .g 50 (.b .neq 46 49) 44 false, .o 51 (.pick (.tmp 44) (.const (.bool true)) (.tmp 50))]) (.cond (.tmp 51) (.seq (.region [.o 8 (.mv (.const (.bool false)))]) .ret) .skip)) (.seq (.region [.m 52 9, .o 53 (.n 52), .o 54 (.mks 4 1 1 [(.bool false)] (.tmp 53) (.tmp 53)), .m 11 54]) (.seq (.seq (.region [.k 12 0]) (.block 0 [2,3] (.loop [0,1,2,3,9,11,12] c7L1))) (.seq (.region [.o 16 (.mv (.const (.slice none 0 0)))]) (.seq (.region [.k 17 1]) (.seq (.seq (.region [.k 18 0]) (.block 4 [3,16,17] (.loop [2,3,16,17,18] c7L2))) (.seq (.region [.m 117 3, .m 118 17, .o 119 (.c .sub 118 1), .o 120 (.q 17 [117,119]), .m 3 120]) (.seq (.region [.m 122 16, .m 123 3, .o 124 (.q 41 [122,123]), .m 121 124, .o 125 (.e 0 121), .o 126 (.e 1 121), .m 20 125, .m 10 126]) (.seq (.region [.m 128 16, .m 129 3, .o 130 (.c .add 129 1), .o 131 (.q 41 [128,130]), .m 127 131, .o 132 (.e 0 127), .o 133 (.e 1 127), .m 21 132, .m 22 133]) (.seq (.region [.m 135 16, .m 136 21, .o 137 (.q 42 [135,136]), .m 134 137, .o 138 (.e 0 134), .o 139 (.e 1 134), .m 23 138, .m 24 139]) (.seq (.seq (.region [.m 140 10, .o 141 (.c .neq 140 0), .m 142 141, .g 143 (.m 22) 142 false, .g 144 (.c .neq 143 0) 142 false, .o 145 (.pick (.tmp 142) (.const (.bool true)) (.tmp 144)), .m 146 145, .g 147 (.m 24) 146 false, .g 148 (.c .neq 147 0) 146 false, .o 149 (.pick (.tmp 146) (.const (.bool true)) (.tmp 148)), .m 150 149, .g 151 (.m 23) 150 false, .g 152 (.m 3) 150 false, .g 153 (.c .add 152 1) 150 false, .g 154 (.b .neq 151 153) 150 false, .o 155 (.pick (.tmp 150) (.const (.bool true)) (.tmp 154)), .m 156 155, .g 157 (.m 20) 156 false, .g 158 (.n 157) 156 false, .g 159 (.m 16) 156 false, .g 160 (.n 159) 156 false, .g 161 (.b .neq 158 160) 156 false, .o 162 (.pick (.tmp 156) (.const (.bool true)) (.tmp 161)), .m 163 162, .g 164 (.m 21) 163 false, .g 165 (.n 164) 163 false, .g 166 (.m 16) 163 false, .g 167 (.n 166) 163 false, .g 168 (.b .neq 165 167) 163 false, .o 169 (.pick (.tmp 163) (.const (.bool true)) (.tmp 168))]) (.cond (.tmp 169) (.seq (.region [.o 8 (.mv (.const (.bool false)))]) .ret) .skip)) (.seq (.region [.k 25 0]) (.seq (.seq (.region [.k 26 0]) (.block 6 [25] (.loop [16,20,21,25,26] c7L3))) (.seq (.region [.m 197 25, .o 198 (.c .eql 197 1), .m 8 198]) .ret)))))))))))))))))))
def F7:AFun:=⟨c7,4,199,[(.tmp 8)]⟩
def K7:Nat→List Nat×List Nat
 |0=>([0,1,2,3,9,11,12],[2,3])
 |1=>([],[0,1,2,3,9,11,12])
 |2=>([0,1,2,3,9,11,12,13,14],[0,1,2,3,9,11,12,13])
 |3=>([],[0,1,2,3,9,11,12,13,14])
 |4=>([2,3,16,17,18],[3,16,17])
 |5=>([],[2,3,16,17,18])
 |6=>([16,20,21,25,26],[25])
 |7=>([],[16,20,21,25,26])
 |_=>([],[])
theorem F7_ok:kj8 Try.prog K7 Try.f7=some F7:=by kernel_rfl
/- 17: syndrome/syndromeref.Pick -/
def c17:ACode:=(.seq (.region [.k 4 0]) (.seq (.seq (.region [.m 5 0, .o 6 (.c .lss 5 0)]) (.cond (.tmp 6) (.region [.m 7 0, .o 8 (.c .add 7 1), .o 9 (.un .neg (.tmp 8)), .m 0 9]) .skip)) (.seq (.region [.m 10 0, .m 11 1, .o 12 (.b .rem 10 11), .m 4 12]) .ret)))
def F17:AFun:=⟨c17,2,13,[(.tmp 4)]⟩
def K17:Nat→List Nat×List Nat
 |_=>([],[])
theorem F17_ok:kj8 Try.prog K17 Try.f17=some F17:=by kernel_rfl
/- 38: syndrome/digits.Ring -/
def c38L0:ACode:=(.seq (.region [.o 22 (.b .lss 21 20)]) (.seq (.cond (.tmp 22) .skip (.exit 0)) (.seq (.block 1 [2,3,6,20,21] (.seq (.region [.m 23 6, .o 24 (.l 2), .o 25 (.b .mul 23 24), .m 6 25]) (.seq (.region [.m 26 6, .o 27 (.c .gtr 26 1024)]) (.cond (.tmp 27) (.seq (.region [.o 4 (.mv (.const (.slice none 0 0))), .k 5 4]) .ret) .skip)))) (.region [.o 28 (.c .add 21 1), .m 21 28]))))
def c38:ACode:=(.seq (.region [.o 2 (.box 3 1 (.tmp 0)), .o 3 (.box 3 1 (.tmp 1)), .o 4 (.mv (.const (.slice none 0 0))), .k 5 0]) (.seq (.seq (.region [.o 10 (.l 2), .o 11 (.c .lss 10 2), .m 12 11, .g 13 (.l 2) 12 false, .g 14 (.c .gtr 13 10) 12 false, .o 15 (.pick (.tmp 12) (.const (.bool true)) (.tmp 14)), .m 16 15, .g 17 (.l 3) 16 false, .g 18 (.c .lss 17 1) 16 false, .o 19 (.pick (.tmp 16) (.const (.bool true)) (.tmp 18))]) (.cond (.tmp 19) (.seq (.region [.o 4 (.mv (.const (.slice none 0 0))), .k 5 6]) .ret) .skip)) (.seq (.region [.k 6 1]) (.seq (.seq (.region [.o 20 (.l 3), .k 21 0]) (.block 0 [2,3] (.loop [2,3,6,20,21] c38L0))) (.seq (.region [.o 7 (.alloc 34 [(.slice none 0 0)])]) (.seq (.region [.o 29 (.l 3), .o 30 (.c .add 29 1), .o 31 (.mks 3 1 8 [(.int .i64 0)] (.tmp 30) (.tmp 30)), .o 8 (.alloc 34 [(.slice none 0 0)]), .n (.st 1 (.tmp 8) (.tmp 31))]) (.seq (.region [.o 9 (.alloc 108 [.nilFunc])]) (.seq (.region [.o 32 (.mkf 80 [(.tmp 3),(.tmp 7),(.tmp 8),(.tmp 9),(.tmp 2)]), .n (.st 1 (.tmp 9) (.tmp 32))]) (.seq (.region [.o 33 (.l 9), .o 34 (.calld (.tmp 33) [(.const (.int .i64 1)),(.const (.int .i64 1))])]) (.seq (.region [.o 35 (.l 7), .m 4 35, .k 5 0]) .ret))))))))))
def F38:AFun:=⟨c38,2,36,[(.tmp 4),(.tmp 5)]⟩
def K38:Nat→List Nat×List Nat
 |0=>([2,3,6,20,21],[2,3])
 |1=>([],[2,3,6,20,21])
 |_=>([],[])
theorem F38_ok:kj8 Try.prog K38 Try.f38=some F38:=by kernel_rfl
/- 39: syndrome/syndrometop.power -/
def c39L0:ACode:=(.seq (.seq (.region [.m 7 6, .m 8 1, .o 9 (.b .lss 7 8)]) (.cond (.tmp 9) .skip (.exit 0))) (.seq (.block 1 [0,1,5,6] (.region [.m 12 5, .m 13 0, .o 14 (.b .mul 12 13), .m 5 14])) (.region [.m 10 6, .o 11 (.c .add 10 1), .m 6 11])))
def c39:ACode:=(.seq (.region [.k 4 0]) (.seq (.region [.k 5 1]) (.seq (.seq (.region [.k 6 0]) (.block 0 [5] (.loop [0,1,5,6] c39L0))) (.seq (.region [.m 15 5, .m 4 15]) .ret))))
def F39:AFun:=⟨c39,2,16,[(.tmp 4)]⟩
def K39:Nat→List Nat×List Nat
 |0=>([0,1,5,6],[5])
 |1=>([],[0,1,5,6])
 |_=>([],[])
theorem F39_ok:kj8 Try.prog K39 Try.f39=some F39:=by kernel_rfl
/- 40: syndrome/syndromeref.Raw -/
def c40:ACode:=(.seq (.region [.k 4 0]) (.seq (.seq (.region [.m 5 0, .o 6 (.n 5), .o 7 (.c .eql 6 0)]) (.cond (.tmp 7) (.seq (.region [.m 8 1, .m 4 8]) .ret) .skip)) (.seq (.region [.m 9 0, .m 10 1, .m 11 0, .o 12 (.n 11), .o 13 (.b .rem 10 12), .o 14 (.i 1 9 13), .o 15 (.l 14), .m 16 1, .m 17 0, .o 18 (.n 17), .o 19 (.b .quo 16 18), .o 20 (.c .mul 19 7919), .o 21 (.b .add 15 20), .m 4 21]) .ret)))
def F40:AFun:=⟨c40,2,22,[(.tmp 4)]⟩
def K40:Nat→List Nat×List Nat
 |_=>([],[])
theorem F40_ok:kj8 Try.prog K40 Try.f40=some F40:=by kernel_rfl
/- 41: syndrome/digits.Gray -/
def c41L0:ACode:=(.seq (.region [.o 22 (.b .lss 21 20)]) (.seq (.cond (.tmp 22) .skip (.exit 0)) (.seq (.block 1 [0,1,7,19,20,21] (.seq (.region [.o 23 (.i 1 19 21), .o 24 (.l 23), .m 9 24]) (.region [.m 25 7, .m 26 9, .o 27 (.b .mul 25 26), .m 7 27]))) (.region [.o 28 (.c .add 21 1), .m 21 28]))))
def c41L1:ACode:=(.seq (.region [.o 42 (.b .lss 41 40)]) (.seq (.cond (.tmp 42) .skip (.exit 2)) (.seq (.block 3 [1,7,10,39,40,41] (.seq (.region [.m 43 41, .o 44 (.i 1 39 41), .o 45 (.l 44), .m 11 43, .m 12 45]) (.seq (.region [.m 46 7, .m 47 12, .o 48 (.b .quo 46 47), .m 7 48]) (.seq (.region [.m 49 1, .m 50 7, .o 51 (.b .quo 49 50), .m 13 51]) (.seq (.region [.m 52 1, .m 53 7, .o 54 (.b .rem 52 53), .m 1 54]) (.seq (.region [.m 55 10, .m 56 11, .m 57 13, .o 58 (.i 1 55 56), .n (.st 1 (.tmp 58) (.tmp 57))]) (.seq (.region [.m 59 13, .o 60 (.c .rem 59 2), .o 61 (.c .eql 60 1)]) (.cond (.tmp 61) (.region [.m 62 7, .o 63 (.c .sub 62 1), .m 64 1, .o 65 (.b .sub 63 64), .m 1 65]) .skip)))))))) (.region [.o 66 (.c .add 41 1), .m 41 66]))))
def c41:ACode:=(.seq (.region [.o 4 (.mv (.const (.slice none 0 0))), .k 5 0]) (.seq (.seq (.region [.m 14 0, .o 15 (.q 81 [14]), .m 6 15]) (.seq (.region [.m 16 6, .o 17 (.c .neq 16 0)]) (.cond (.tmp 17) (.seq (.region [.m 18 6, .o 4 (.mv (.const (.slice none 0 0))), .m 5 18]) .ret) .skip))) (.seq (.region [.k 7 1]) (.seq (.seq (.region [.m 19 0, .o 20 (.n 19), .k 21 0]) (.block 0 [0,1,7] (.loop [0,1,7,19,20,21] c41L0))) (.seq (.seq (.region [.m 29 1, .o 30 (.c .lss 29 0), .m 31 30, .g 32 (.m 1) 31 false, .g 33 (.m 7) 31 false, .g 34 (.b .geq 32 33) 31 false, .o 35 (.pick (.tmp 31) (.const (.bool true)) (.tmp 34))]) (.cond (.tmp 35) (.seq (.region [.o 4 (.mv (.const (.slice none 0 0))), .k 5 10]) .ret) .skip)) (.seq (.region [.m 36 0, .o 37 (.n 36), .o 38 (.mks 3 1 8 [(.int .i64 0)] (.tmp 37) (.tmp 37)), .m 10 38]) (.seq (.seq (.region [.m 39 0, .o 40 (.n 39), .k 41 0]) (.block 2 [10] (.loop [1,7,10,39,40,41] c41L1))) (.seq (.region [.m 67 10, .m 4 67, .k 5 0]) .ret))))))))
def F41:AFun:=⟨c41,2,68,[(.tmp 4),(.tmp 5)]⟩
def K41:Nat→List Nat×List Nat
 |0=>([0,1,7,19,20,21],[0,1,7])
 |1=>([],[0,1,7,19,20,21])
 |2=>([1,7,10,39,40,41],[10])
 |3=>([],[1,7,10,39,40,41])
 |_=>([],[])
theorem F41_ok:kj8 Try.prog K41 Try.f41=some F41:=by kernel_rfl
/- 42: syndrome/digits.Place -/
def c42L0:ACode:=(.seq (.region [.o 26 (.b .lss 25 24)]) (.seq (.cond (.tmp 26) .skip (.exit 0)) (.seq (.block 1 [1,7,8,9,23,24,25] (.seq (.region [.m 27 25, .o 28 (.i 1 23 25), .o 29 (.l 28), .m 10 27, .m 11 29]) (.seq (.seq (.region [.m 30 1, .m 31 10, .o 32 (.i 1 30 31), .o 33 (.l 32), .o 34 (.c .lss 33 0), .m 35 34, .g 36 (.m 1) 35 false, .g 37 (.m 10) 35 false, .g 38 (.i 1 36 37) 35 false, .g 39 (.l 38) 35 false, .g 40 (.m 11) 35 false, .g 41 (.b .geq 39 40) 35 false, .o 42 (.pick (.tmp 35) (.const (.bool true)) (.tmp 41))]) (.cond (.tmp 42) (.seq (.region [.k 4 0, .k 5 2]) .ret) .skip)) (.seq (.region [.m 43 1, .m 44 10, .o 45 (.i 1 43 44), .o 46 (.l 45), .m 12 46]) (.seq (.seq (.region [.m 47 8]) (.cond (.tmp 47) (.region [.m 48 11, .o 49 (.c .sub 48 1), .m 50 12, .o 51 (.b .sub 49 50), .m 12 51]) .skip)) (.seq (.region [.m 52 7, .m 53 11, .o 54 (.b .mul 52 53), .m 55 12, .o 56 (.b .add 54 55), .m 7 56]) (.seq (.region [.m 57 9, .m 58 11, .o 59 (.b .mul 57 58), .m 9 59]) (.region [.m 60 1, .m 61 10, .o 62 (.i 1 60 61), .o 63 (.l 62), .o 64 (.c .rem 63 2), .o 65 (.c .eql 64 1), .m 66 8, .o 67 (.eqb true (.tmp 65) (.tmp 66)), .m 8 67])))))))) (.region [.o 68 (.c .add 25 1), .m 25 68]))))
def c42:ACode:=(.seq (.region [.k 4 0, .k 5 0]) (.seq (.seq (.region [.m 13 0, .o 14 (.q 81 [13]), .m 6 14]) (.seq (.region [.m 15 6, .o 16 (.c .neq 15 0)]) (.cond (.tmp 16) (.seq (.region [.m 17 6, .k 4 0, .m 5 17]) .ret) .skip))) (.seq (.seq (.region [.m 18 1, .o 19 (.n 18), .m 20 0, .o 21 (.n 20), .o 22 (.b .neq 19 21)]) (.cond (.tmp 22) (.seq (.region [.k 4 0, .k 5 6]) .ret) .skip)) (.seq (.region [.k 7 0, .o 8 (.mv (.const (.bool false))), .k 9 1]) (.seq (.seq (.region [.m 23 0, .o 24 (.n 23), .k 25 0]) (.block 0 [7] (.loop [1,7,8,9,23,24,25] c42L0))) (.seq (.region [.m 69 7, .m 4 69, .k 5 0]) .ret))))))
def F42:AFun:=⟨c42,2,70,[(.tmp 4),(.tmp 5)]⟩
def K42:Nat→List Nat×List Nat
 |0=>([1,7,8,9,23,24,25],[7])
 |1=>([],[1,7,8,9,23,24,25])
 |_=>([],[])
theorem F42_ok:kj8 Try.prog K42 Try.f42=some F42:=by kernel_rfl
/- 80: syndrome/digits.Ring$1 -/
def c80L0:ACode:=(.seq (.seq (.region [.m 44 9, .o 45 (.l 6), .o 46 (.b .lss 44 45)]) (.cond (.tmp 46) .skip (.exit 0))) (.seq (.block 1 [0,4,5,6,9] (.seq (.region [.o 49 (.l 4), .m 50 0, .m 51 9, .o 52 (.i 1 49 50), .n (.st 1 (.tmp 52) (.tmp 51))]) (.region [.o 53 (.l 5), .m 54 0, .o 55 (.c .add 54 1), .m 56 0, .o 57 (.calld (.tmp 53) [(.tmp 55),(.tmp 56)])]))) (.region [.m 47 9, .o 48 (.c .add 47 1), .m 9 48])))
def c80:ACode:=(.seq (.seq (.region [.m 10 0, .o 11 (.l 2), .o 12 (.b .gtr 10 11)]) (.cond (.tmp 12) (.seq (.seq (.region [.o 13 (.l 2), .m 14 1, .o 15 (.b .rem 13 14), .o 16 (.c .eql 15 0)]) (.cond (.tmp 16) (.region [.o 17 (.l 3), .o 18 (.l 4), .m 19 1, .o 20 (.c .add 19 1), .o 21 (.sl 1 (.tmp 18) (some (.const (.int .i64 1))) (some (.tmp 20))), .o 22 (.app 3 1 8 (.tmp 17) (.tmp 21)), .n (.st 1 (.tmp 3) (.tmp 22))]) .skip)) .ret) .skip)) (.seq (.region [.o 23 (.l 4), .m 24 0, .o 25 (.l 4), .m 26 0, .m 27 1, .o 28 (.b .sub 26 27), .o 29 (.i 1 25 28), .o 30 (.l 29), .o 31 (.i 1 23 24), .n (.st 1 (.tmp 31) (.tmp 30))]) (.seq (.region [.o 32 (.l 5), .m 33 0, .o 34 (.c .add 33 1), .m 35 1, .o 36 (.calld (.tmp 32) [(.tmp 34),(.tmp 35)])]) (.seq (.region [.o 37 (.l 4), .m 38 0, .m 39 1, .o 40 (.b .sub 38 39), .o 41 (.i 1 37 40), .o 42 (.l 41), .o 43 (.c .add 42 1), .m 9 43]) (.block 0 [] (.loop [0,4,5,6,9] c80L0))))))
def F80:AFun:=⟨c80,7,58,[]⟩
def K80:Nat→List Nat×List Nat
 |0=>([0,4,5,6,9],[])
 |1=>([],[0,4,5,6,9])
 |_=>([],[])
theorem F80_ok:kj8 Try.prog K80 Try.f80=some F80:=by kernel_rfl
/- 81: syndrome/digits.Check -/
def c81L0:ACode:=(.seq (.region [.o 17 (.b .lss 16 15)]) (.seq (.cond (.tmp 17) .skip (.exit 0)) (.seq (.block 1 [3,14,15,16] (.seq (.region [.o 18 (.i 1 14 16), .o 19 (.l 18), .m 5 19]) (.seq (.seq (.region [.m 20 5, .o 21 (.c .lss 20 2), .m 22 21, .g 23 (.m 5) 22 false, .g 24 (.c .gtr 23 10) 22 false, .o 25 (.pick (.tmp 22) (.const (.bool true)) (.tmp 24))]) (.cond (.tmp 25) (.seq (.region [.k 2 2]) .ret) .skip)) (.region [.m 26 3, .m 27 5, .o 28 (.b .mul 26 27), .m 3 28])))) (.region [.o 29 (.c .add 16 1), .m 16 29]))))
def c81:ACode:=(.seq (.region [.k 2 0]) (.seq (.seq (.region [.m 6 0, .o 7 (.n 6), .o 8 (.c .lss 7 1), .m 9 8, .g 10 (.m 0) 9 false, .g 11 (.n 10) 9 false, .g 12 (.c .gtr 11 10) 9 false, .o 13 (.pick (.tmp 9) (.const (.bool true)) (.tmp 12))]) (.cond (.tmp 13) (.seq (.region [.k 2 6]) .ret) .skip)) (.seq (.region [.k 3 1]) (.seq (.seq (.region [.m 14 0, .o 15 (.n 14), .k 16 0]) (.block 0 [3] (.loop [3,14,15,16] c81L0))) (.seq (.seq (.region [.m 30 3, .o 31 (.c .gtr 30 1024)]) (.cond (.tmp 31) (.seq (.region [.k 2 4]) .ret) .skip)) (.seq (.region [.k 2 0]) .ret))))))
def F81:AFun:=⟨c81,1,32,[(.tmp 2)]⟩
def K81:Nat→List Nat×List Nat
 |0=>([3,14,15,16],[3])
 |1=>([],[3,14,15,16])
 |_=>([],[])
theorem F81_ok:kj8 Try.prog K81 Try.f81=some F81:=by kernel_rfl
end Go.Proofs.Ytlhmdmedagjmnaa
