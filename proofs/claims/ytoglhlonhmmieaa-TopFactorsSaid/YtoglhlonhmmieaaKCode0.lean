/-
  Functions of this seat as the small machine's code, written by a program of my own (gen.py); each is checked to be what the model's function is turned into. No condition.
-/
import Derived.Test.YtoglhlonhmmieaaK2
import Derived.Test.YtoglhlonhmmieaaProg
set_option linter.unusedVariables false
set_option linter.unusedSimpArgs false
set_option linter.unusedSectionVars false
set_option maxRecDepth 100000
namespace Go.Proofs.Ytoglhlonhmmieaa
open Go.Am
/- 5: syndrome/syndrometop.TopFactors -/
def c5L0:ACode:=(.seq (.seq (.region [.m 114 24, .m 115 13, .o 116 (.n 115), .o 117 (.b .lss 114 116)]) (.cond (.tmp 117) .skip (.exit 2))) (.seq (.block 3 [1,11,13,15,17,19,20,21,22,23,24] (.seq (.region [.m 120 13, .m 121 20, .o 122 (.i 1 120 121), .o 123 (.l 122), .m 124 13, .m 125 24, .o 126 (.i 1 124 125), .o 127 (.l 126), .o 128 (.q 14 [123,127])]) (.cond (.tmp 128) (.region [.m 129 23, .o 130 (.c .add 129 1), .m 23 130]) .skip))) (.region [.m 118 24, .o 119 (.c .add 118 1), .m 24 119])))
def c5L1:ACode:=(.seq (.seq (.region [.m 131 25, .m 132 15, .o 133 (.n 132), .o 134 (.b .lss 131 133)]) (.cond (.tmp 134) .skip (.exit 4))) (.seq (.block 5 [1,11,13,15,17,19,20,21,22,23,25] (.seq (.region [.m 137 13, .m 138 20, .o 139 (.i 1 137 138), .o 140 (.l 139), .m 141 15, .m 142 25, .o 143 (.i 1 141 142), .o 144 (.l 143), .o 145 (.q 14 [140,144])]) (.cond (.tmp 145) (.region [.m 146 23, .o 147 (.c .sub 146 1), .m 23 147]) .skip))) (.region [.m 135 25, .o 136 (.c .add 135 1), .m 25 136])))
def c5L2:ACode:=(.seq (.seq (.region [.m 148 26, .m 149 17, .o 150 (.n 149), .o 151 (.b .lss 148 150)]) (.cond (.tmp 151) .skip (.exit 6))) (.seq (.block 7 [1,11,13,15,17,19,20,21,22,23,26] (.seq (.region [.m 154 13, .m 155 20, .o 156 (.i 1 154 155), .o 157 (.l 156), .m 158 17, .m 159 26, .o 160 (.i 1 158 159), .o 161 (.l 160), .o 162 (.q 14 [157,161])]) (.cond (.tmp 162) (.region [.m 163 23, .o 164 (.c .sub 163 1), .m 23 164]) .skip))) (.region [.m 152 26, .o 153 (.c .add 152 1), .m 26 153])))
def c5L3:ACode:=(.seq (.seq (.region [.m 99 20, .m 100 13, .o 101 (.n 100), .o 102 (.b .lss 99 101)]) (.cond (.tmp 102) .skip (.exit 0))) (.seq (.block 1 [1,11,13,15,17,19,20] (.seq (.region [.m 106 1, .m 107 13, .m 108 20, .o 109 (.i 1 107 108), .o 110 (.l 109), .o 111 (.q 28 [106,110]), .m 105 111, .o 112 (.e 0 105), .o 113 (.e 1 105), .m 21 112, .m 22 113]) (.seq (.region [.k 23 0]) (.seq (.seq (.region [.k 24 0]) (.block 2 [1,11,13,15,17,19,20,21,22,23] (.loop [1,11,13,15,17,19,20,21,22,23,24] c5L0))) (.seq (.seq (.region [.k 25 0]) (.block 4 [1,11,13,15,17,19,20,21,22,23] (.loop [1,11,13,15,17,19,20,21,22,23,25] c5L1))) (.seq (.seq (.region [.k 26 0]) (.block 6 [1,11,13,15,17,19,20,21,22,23] (.loop [1,11,13,15,17,19,20,21,22,23,26] c5L2))) (.seq (.seq (.region [.m 165 22, .o 166 (.c .neq 165 0), .m 167 166, .g 168 (.m 21) 167 false, .g 169 (.un .not (.tmp 168)) 167 false, .o 170 (.pick (.tmp 167) (.const (.bool true)) (.tmp 169)), .m 171 170, .g 172 (.m 23) 171 false, .g 173 (.c .neq 172 0) 171 false, .o 174 (.pick (.tmp 171) (.const (.bool true)) (.tmp 173))]) (.cond (.tmp 174) (.seq (.region [.o 8 (.mv (.const (.bool false)))]) .ret) .skip)) (.seq (.region [.m 176 1, .m 177 19, .m 178 13, .m 179 20, .o 180 (.i 1 178 179), .o 181 (.l 180), .o 182 (.q 26 [176,177,181]), .m 175 182, .o 183 (.e 0 175), .o 184 (.e 1 175), .m 19 183, .m 22 184]) (.seq (.region [.m 185 22, .o 186 (.c .neq 185 0)]) (.cond (.tmp 186) (.seq (.region [.o 8 (.mv (.const (.bool false)))]) .ret) .skip)))))))))) (.region [.m 103 20, .o 104 (.c .add 103 1), .m 20 104])))
def c5:ACode:=(.seq (.region [.o 8 (.mv (.const (.bool false)))]) (.seq (.seq (.region [.m 27 0, .o 28 (.n 27), .o 29 (.c .gtr 28 64)]) (.cond (.tmp 29) (.seq (.region [.o 8 (.mv (.const (.bool true)))]) .ret) .skip)) (.seq (.region [.o 30 (.mkSl 3 1 7 [(.const (.int .i64 2)),(.const (.int .i64 3)),(.const (.int .i64 4)),(.const (.int .i64 5)),(.const (.int .i64 7)),(.const (.int .i64 8)),(.const (.int .i64 9))]), .m 31 1, .o 32 (.call 22 [(.tmp 31),(.const (.int .i64 7))]), .o 33 (.i 1 30 32), .o 34 (.l 33), .m 1 34]) (.seq (.region [.m 35 0, .m 36 1, .m 37 2, .o 38 (.call 22 [(.tmp 37),(.const (.int .i64 4))]), .o 39 (.call 25 [(.tmp 35),(.const (.int .i64 0)),(.tmp 36),(.tmp 38)]), .o 40 (.mkSl 3 1 1 [(.const (.int .i64 1))]), .o 41 (.app 3 1 8 (.tmp 39) (.tmp 40)), .m 9 41]) (.seq (.region [.m 42 0, .m 43 1, .m 44 3, .o 45 (.call 22 [(.tmp 44),(.const (.int .i64 4))]), .o 46 (.call 25 [(.tmp 42),(.const (.int .i64 5)),(.tmp 43),(.tmp 45)]), .o 47 (.mkSl 3 1 1 [(.const (.int .i64 1))]), .o 48 (.app 3 1 8 (.tmp 46) (.tmp 47)), .m 10 48]) (.seq (.region [.m 50 1, .m 51 9, .m 52 10, .o 53 (.q 26 [50,51,52]), .m 49 53, .o 54 (.e 0 49), .o 55 (.e 1 49), .m 11 54, .m 12 55]) (.seq (.region [.m 57 1, .m 58 11, .o 59 (.q 27 [57,58]), .m 56 59, .o 60 (.e 0 56), .o 61 (.e 1 56), .m 13 60, .m 14 61]) (.seq (.region [.m 63 1, .m 64 9, .o 65 (.q 27 [63,64]), .m 62 65, .o 66 (.e 0 62), .o 67 (.e 1 62), .m 15 66, .m 16 67]) (.seq (.region [.m 69 1, .m 70 10, .o 71 (.q 27 [69,70]), .m 68 71, .o 72 (.e 0 68), .o 73 (.e 1 68), .m 17 72, .m 18 73]) (.seq (.seq (.region [.m 74 12, .o 75 (.c .neq 74 0), .m 76 75, .g 77 (.m 14) 76 false, .g 78 (.c .neq 77 0) 76 false, .o 79 (.pick (.tmp 76) (.const (.bool true)) (.tmp 78)), .m 80 79, .g 81 (.m 16) 80 false, .g 82 (.c .neq 81 0) 80 false, .o 83 (.pick (.tmp 80) (.const (.bool true)) (.tmp 82)), .m 84 83, .g 85 (.m 18) 84 false, .g 86 (.c .neq 85 0) 84 false, .o 87 (.pick (.tmp 84) (.const (.bool true)) (.tmp 86)), .m 88 87, .g 89 (.m 13) 88 false, .g 90 (.n 89) 88 false, .g 91 (.m 15) 88 false, .g 92 (.n 91) 88 false, .g 93 (.m 17) 88 false, .g 94 (.n 93) 88 false, .g 95 (.b .add 92 94) 88 false, .g 96 (.b .neq 90 95) 88 false, .o 97 (.pick (.tmp 88) (.const (.bool true)) (.tmp 96))]) (.cond (.tmp 97) (.seq (.region [.o 8 (.mv (.const (.bool false)))]) .ret) .skip)) (.seq (.region [.o 98 (.mkSl 3 1 1 [(.const (.int .i64 1))]), .m 19 98]) (.seq (.seq (.region [.k 20 0]) (.block 0 [11,19] (.loop [1,11,13,15,17,19,20] c5L3))) (.seq (.region [.m 187 19, .m 188 11, .o 189 (.q 14 [187,188]), .m 8 189]) .ret)))))))))))))
def F5:AFun:=⟨c5,4,190,[(.tmp 8)]⟩
def K5:Nat→List Nat×List Nat
 |0=>([1,11,13,15,17,19,20],[11,19])
 |1=>([],[1,11,13,15,17,19,20])
 |2=>([1,11,13,15,17,19,20,21,22,23,24],[1,11,13,15,17,19,20,21,22,23])
 |3=>([],[1,11,13,15,17,19,20,21,22,23,24])
 |4=>([1,11,13,15,17,19,20,21,22,23,25],[1,11,13,15,17,19,20,21,22,23])
 |5=>([],[1,11,13,15,17,19,20,21,22,23,25])
 |6=>([1,11,13,15,17,19,20,21,22,23,26],[1,11,13,15,17,19,20,21,22,23])
 |7=>([],[1,11,13,15,17,19,20,21,22,23,26])
 |_=>([],[])
theorem F5_ok:kj8 Try.prog K5 noRg Try.f5=some F5:=by kernel_rfl
/- 14: syndrome/syndromeref.Same -/
def c14L0:ACode:=(.seq (.seq (.region [.m 11 5, .m 12 0, .o 13 (.n 12), .o 14 (.b .lss 11 13)]) (.cond (.tmp 14) .skip (.exit 0))) (.seq (.block 1 [0,1,5] (.seq (.region [.m 17 0, .m 18 5, .o 19 (.i 1 17 18), .o 20 (.l 19), .m 21 1, .m 22 5, .o 23 (.i 1 21 22), .o 24 (.l 23), .o 25 (.b .neq 20 24)]) (.cond (.tmp 25) (.seq (.region [.o 4 (.mv (.const (.bool false)))]) .ret) .skip))) (.region [.m 15 5, .o 16 (.c .add 15 1), .m 5 16])))
def c14:ACode:=(.seq (.region [.o 4 (.mv (.const (.bool false)))]) (.seq (.seq (.region [.m 6 0, .o 7 (.n 6), .m 8 1, .o 9 (.n 8), .o 10 (.b .neq 7 9)]) (.cond (.tmp 10) (.seq (.region [.o 4 (.mv (.const (.bool false)))]) .ret) .skip)) (.seq (.seq (.region [.k 5 0]) (.block 0 [] (.loop [0,1,5] c14L0))) (.seq (.region [.o 4 (.mv (.const (.bool true)))]) .ret))))
def F14:AFun:=⟨c14,2,26,[(.tmp 4)]⟩
def K14:Nat→List Nat×List Nat
 |0=>([0,1,5],[])
 |1=>([],[0,1,5])
 |_=>([],[])
theorem F14_ok:kj8 Try.prog K14 noRg Try.f14=some F14:=by kernel_rfl
/- 22: syndrome/syndromeref.Pick -/
def c22:ACode:=(.seq (.region [.k 4 0]) (.seq (.seq (.region [.m 5 0, .o 6 (.c .lss 5 0)]) (.cond (.tmp 6) (.region [.m 7 0, .o 8 (.c .add 7 1), .o 9 (.un .neg (.tmp 8)), .m 0 9]) .skip)) (.seq (.region [.m 10 0, .m 11 1, .o 12 (.b .rem 10 11), .m 4 12]) .ret)))
def F22:AFun:=⟨c22,2,13,[(.tmp 4)]⟩
def K22:Nat→List Nat×List Nat
 |_=>([],[])
theorem F22_ok:kj8 Try.prog K22 noRg Try.f22=some F22:=by kernel_rfl
/- 23: syndrome/syndromeref.Raw -/
def c23:ACode:=(.seq (.region [.k 4 0]) (.seq (.seq (.region [.m 5 0, .o 6 (.n 5), .o 7 (.c .eql 6 0)]) (.cond (.tmp 7) (.seq (.region [.m 8 1, .m 4 8]) .ret) .skip)) (.seq (.region [.m 9 0, .m 10 1, .m 11 0, .o 12 (.n 11), .o 13 (.b .rem 10 12), .o 14 (.i 1 9 13), .o 15 (.l 14), .m 16 1, .m 17 0, .o 18 (.n 17), .o 19 (.b .quo 16 18), .o 20 (.c .mul 19 7919), .o 21 (.b .add 15 20), .m 4 21]) .ret)))
def F23:AFun:=⟨c23,2,22,[(.tmp 4)]⟩
def K23:Nat→List Nat×List Nat
 |_=>([],[])
theorem F23_ok:kj8 Try.prog K23 noRg Try.f23=some F23:=by kernel_rfl
/- 25: syndrome/syndromeref.Numbers -/
def c25L0:ACode:=(.seq (.seq (.region [.m 11 10, .m 12 3, .o 13 (.b .lss 11 12)]) (.cond (.tmp 13) .skip (.exit 0))) (.seq (.block 1 [0,1,2,3,9,10] (.region [.m 16 9, .m 17 0, .m 18 1, .m 19 10, .o 20 (.b .add 18 19), .o 21 (.q 23 [17,20]), .m 22 2, .o 23 (.q 22 [21,22]), .o 24 (.mkSl 3 1 1 [(.tmp 23)]), .o 25 (.app 3 1 8 (.tmp 16) (.tmp 24)), .m 9 25])) (.region [.m 14 10, .o 15 (.c .add 14 1), .m 10 15])))
def c25:ACode:=(.seq (.region [.o 8 (.mv (.const (.slice none 0 0)))]) (.seq (.region [.o 9 (.mv (.const (.slice none 0 0)))]) (.seq (.seq (.region [.k 10 0]) (.block 0 [9] (.loop [0,1,2,3,9,10] c25L0))) (.seq (.region [.m 26 9, .m 8 26]) .ret))))
def F25:AFun:=⟨c25,4,27,[(.tmp 8)]⟩
def K25:Nat→List Nat×List Nat
 |0=>([0,1,2,3,9,10],[9])
 |1=>([],[0,1,2,3,9,10])
 |_=>([],[])
theorem F25_ok:kj8 Try.prog K25 noRg Try.f25=some F25:=by kernel_rfl
/- 26: syndrome/poly.Mul -/
def c26:ACode:=(.seq (.region [.o 6 (.mv (.const (.slice none 0 0))), .k 7 0]) (.seq (.region [.m 11 0, .m 12 1, .m 13 2, .o 14 (.q 60 [11,12,13]), .m 10 14, .o 15 (.e 0 10), .o 16 (.e 1 10), .o 17 (.e 2 10), .o 18 (.e 3 10), .m 8 15, .m 1 16, .m 2 17, .m 9 18]) (.seq (.seq (.region [.m 19 9, .o 20 (.c .neq 19 0)]) (.cond (.tmp 20) (.seq (.region [.m 21 9, .o 6 (.mv (.const (.slice none 0 0))), .m 7 21]) .ret) .skip)) (.seq (.seq (.region [.m 22 1, .o 23 (.n 22), .o 24 (.c .eql 23 0), .m 25 24, .g 26 (.m 2) 25 false, .g 27 (.n 26) 25 false, .g 28 (.c .eql 27 0) 25 false, .o 29 (.pick (.tmp 25) (.const (.bool true)) (.tmp 28))]) (.cond (.tmp 29) (.seq (.region [.o 6 (.mv (.const (.slice none 0 0))), .k 7 0]) .ret) .skip)) (.seq (.seq (.region [.m 30 1, .o 31 (.n 30), .m 32 2, .o 33 (.n 32), .o 34 (.b .add 31 33), .o 35 (.c .sub 34 1), .o 36 (.c .gtr 35 128)]) (.cond (.tmp 36) (.seq (.region [.o 6 (.mv (.const (.slice none 0 0))), .k 7 4]) .ret) .skip)) (.seq (.region [.m 37 8, .m 38 1, .m 39 2, .o 40 (.q 61 [37,38,39]), .m 6 40, .k 7 0]) .ret))))))
def F26:AFun:=⟨c26,3,41,[(.tmp 6),(.tmp 7)]⟩
def K26:Nat→List Nat×List Nat
 |_=>([],[])
theorem F26_ok:kj8 Try.prog K26 noRg Try.f26=some F26:=by kernel_rfl
/- 27: syndrome/poly.Factors -/
def c27L0:ACode:=(.block 2000 [0,1,6,9,10,11,12] (.seq (.seq (.region [.m 59 10, .o 60 (.bin .mul (.const (.int .i64 2)) (.tmp 59)), .m 61 1, .o 62 (.n 61), .o 63 (.c .sub 62 1), .o 64 (.b .leq 60 63)]) (.cond (.tmp 64) (.seq (.region [.m 66 6, .m 67 1, .m 68 12, .o 69 (.q 67 [66,67,68]), .m 65 69, .o 70 (.e 0 65), .o 71 (.e 1 65), .m 13 70, .m 14 71]) (.seq (.region [.m 72 14, .o 73 (.n 72), .o 74 (.c .eql 73 0)]) (.cond (.tmp 74) (.seq (.region [.m 75 9, .m 76 12, .o 77 (.mkSl 22 1 1 [(.tmp 76)]), .o 78 (.app 22 1 24 (.tmp 75) (.tmp 77)), .m 9 78]) (.seq (.region [.m 79 13, .m 1 79]) (.exit 2000))) .skip))) .skip)) (.exit 2001)))
def c27L1:ACode:=(.seq (.seq (.region [.m 50 11, .o 51 (.eqn true 0 (.tmp 50))]) (.cond (.tmp 51) .skip (.exit 2))) (.seq (.block 3 [0,1,6,9,10,11] (.seq (.region [.m 55 11, .o 56 (.q 66 [55]), .o 57 (.mkSl 3 1 1 [(.const (.int .i64 1))]), .o 58 (.app 3 1 8 (.tmp 56) (.tmp 57)), .m 12 58]) (.block 2001 [0,1,6,9,10,11] (.loop [0,1,6,9,10,11,12] c27L0)))) (.region [.m 52 0, .m 53 11, .o 54 (.q 65 [52,53]), .m 11 54])))
def c27L2:ACode:=(.seq (.seq (.region [.m 39 10, .o 40 (.bin .mul (.const (.int .i64 2)) (.tmp 39)), .m 41 1, .o 42 (.n 41), .o 43 (.c .sub 42 1), .o 44 (.b .leq 40 43)]) (.cond (.tmp 44) .skip (.exit 0))) (.seq (.block 1 [0,1,6,9,10] (.seq (.region [.o 47 (.mkSl 3 1 1 [(.const (.int .i64 0))]), .m 48 10, .o 49 (.q 64 [47,48]), .m 11 49]) (.block 2 [0,1,6,9,10] (.loop [0,1,6,9,10,11] c27L1)))) (.region [.m 45 10, .o 46 (.c .add 45 1), .m 10 46])))
def c27L3:ACode:=(.seq (.region [.o 92 (.b .lss 91 90)]) (.seq (.cond (.tmp 92) .skip (.exit 4)) (.seq (.block 5 [9,90,91] (.seq (.region [.m 93 91, .m 15 93]) (.region [.m 94 9, .m 95 15, .m 96 9, .m 97 15, .o 98 (.i 1 96 97), .o 99 (.l 98), .o 100 (.q 66 [99]), .o 101 (.i 1 94 95), .n (.st 1 (.tmp 101) (.tmp 100))]))) (.region [.o 102 (.c .add 91 1), .m 91 102]))))
def c27:ACode:=(.seq (.region [.o 4 (.mv (.const (.slice none 0 0))), .k 5 0]) (.seq (.region [.m 17 0, .m 18 1, .o 19 (.call 60 [(.tmp 17),(.tmp 18),(.const (.slice none 0 0))]), .m 16 19, .o 20 (.e 0 16), .o 21 (.e 1 16), .o 22 (.e 2 16), .o 23 (.e 3 16), .m 6 20, .m 1 21, .m 7 22, .m 8 23]) (.seq (.seq (.region [.m 24 8, .o 25 (.c .neq 24 0)]) (.cond (.tmp 25) (.seq (.region [.m 26 8, .o 4 (.mv (.const (.slice none 0 0))), .m 5 26]) .ret) .skip)) (.seq (.seq (.region [.m 27 1, .o 28 (.n 27), .o 29 (.c .eql 28 0)]) (.cond (.tmp 29) (.seq (.region [.o 4 (.mv (.const (.slice none 0 0))), .k 5 5]) .ret) .skip)) (.seq (.seq (.region [.m 30 0, .m 31 1, .o 32 (.n 31), .o 33 (.c .sub 32 1), .o 34 (.q 62 [30,33]), .o 35 (.un .not (.tmp 34))]) (.cond (.tmp 35) (.seq (.region [.o 4 (.mv (.const (.slice none 0 0))), .k 5 4]) .ret) .skip)) (.seq (.region [.m 36 6, .m 37 1, .o 38 (.q 63 [36,37]), .m 1 38]) (.seq (.region [.o 9 (.mv (.const (.slice none 0 0)))]) (.seq (.seq (.region [.k 10 1]) (.block 0 [1,9] (.loop [0,1,6,9,10] c27L2))) (.seq (.seq (.region [.m 80 1, .o 81 (.n 80), .o 82 (.c .gtr 81 1)]) (.cond (.tmp 82) (.region [.m 83 9, .m 84 1, .o 85 (.mkSl 22 1 1 [(.tmp 84)]), .o 86 (.app 22 1 24 (.tmp 83) (.tmp 85)), .m 9 86]) .skip)) (.seq (.region [.m 87 9, .o 88 (.call 68 [(.tmp 87),(.func 69)])]) (.seq (.seq (.region [.m 89 9, .o 90 (.n 89), .k 91 0]) (.block 4 [9] (.loop [9,90,91] c27L3))) (.seq (.region [.m 103 9, .m 4 103, .k 5 0]) .ret))))))))))))
def F27:AFun:=⟨c27,2,104,[(.tmp 4),(.tmp 5)]⟩
def K27:Nat→List Nat×List Nat
 |0=>([0,1,6,9,10],[1,9])
 |1=>([],[0,1,6,9,10])
 |2=>([0,1,6,9,10,11],[0,1,6,9,10])
 |3=>([],[0,1,6,9,10,11])
 |4=>([9,90,91],[9])
 |5=>([],[9,90,91])
 |2000=>([],[0,1,6,9,10,11,12])
 |2001=>([0,1,6,9,10,11,12],[0,1,6,9,10,11])
 |_=>([],[])
theorem F27_ok:kj8 Try.prog K27 noRg Try.f27=some F27:=by kernel_rfl
/- 28: syndrome/poly.Irreducible -/
def c28:ACode:=(.seq (.region [.o 4 (.mv (.const (.bool false))), .k 5 0]) (.seq (.region [.m 9 0, .m 10 1, .o 11 (.q 27 [9,10]), .m 8 11, .o 12 (.e 0 8), .o 13 (.e 1 8), .m 6 12, .m 7 13]) (.seq (.region [.m 14 6, .o 15 (.n 14), .o 16 (.c .eql 15 1), .m 17 7, .m 4 16, .m 5 17]) .ret)))
def F28:AFun:=⟨c28,2,18,[(.tmp 4),(.tmp 5)]⟩
def K28:Nat→List Nat×List Nat
 |_=>([],[])
theorem F28_ok:kj8 Try.prog K28 noRg Try.f28=some F28:=by kernel_rfl
/- 58: syndrome/field.New -/
def ti1:List Value:=[(.int .u32 0),(.int .i32 0),(.int .u32 0),(.int .u32 0),(.int .i32 0),(.int .u32 0),(.int .u32 0),(.int .i32 0),(.int .u32 0),(.int .u32 0),(.int .i32 0),(.int .u32 0),(.int .u32 0),(.int .i32 0),(.int .u32 0),(.int .u32 0),(.int .i32 0),(.int .u32 0),(.int .u32 0),(.int .i32 0),(.int .u32 0),(.int .u32 0),(.int .i32 0),(.int .u32 0),(.int .u32 0),(.int .i32 0),(.int .u32 0),(.int .u32 0),(.int .i32 0),(.int .u32 0),(.int .u32 0),(.int .i32 0),(.int .u32 0),(.int .u32 0),(.int .i32 0),(.int .u32 0),(.int .u32 0),(.int .i32 0),(.int .u32 0),(.int .u32 0),(.int .i32 0),(.int .u32 0),(.int .u32 0),(.int .i32 0),(.int .u32 0),(.int .u32 0),(.int .i32 0),(.int .u32 0),(.int .u32 0),(.int .i32 0),(.int .u32 0),(.int .u32 0),(.int .i32 0),(.int .u32 0),(.int .u32 0),(.int .i32 0),(.int .u32 0),(.int .u32 0),(.int .i32 0),(.int .u32 0),(.int .u32 0),(.int .i32 0),(.int .u32 0),(.int .u32 0),(.int .i32 0),(.int .u32 0),(.int .u32 0),(.int .i32 0),(.int .u32 0),(.int .u32 0),(.int .i32 0),(.int .u32 0),(.int .u32 0),(.int .i32 0),(.int .u32 0),(.int .u32 0),(.int .i32 0),(.int .u32 0),(.int .u32 0),(.int .i32 0),(.int .u32 0),(.int .u32 0),(.int .i32 0),(.int .u32 0),(.int .u32 0),(.int .i32 0),(.int .u32 0),(.int .u32 0),(.int .i32 0),(.int .u32 0),(.int .u32 0),(.int .i32 0),(.int .u32 0),(.int .u32 0),(.int .i32 0),(.int .u32 0),(.int .u32 0),(.int .i32 0),(.int .u32 0),(.int .u32 0),(.int .i32 0),(.int .u32 0),(.int .u32 0),(.int .i32 0),(.int .u32 0),(.int .u32 0),(.int .i32 0),(.int .u32 0),(.int .u32 0),(.int .i32 0),(.int .u32 0),(.int .u32 0),(.int .i32 0),(.int .u32 0),(.int .u32 0),(.int .i32 0),(.int .u32 0),(.int .u32 0),(.int .i32 0),(.int .u32 0),(.int .u32 0),(.int .i32 0),(.int .u32 0),(.int .u32 0),(.int .i32 0),(.int .u32 0),(.int .u32 0),(.int .i32 0),(.int .u32 0),(.int .u32 0),(.int .i32 0),(.int .u32 0),(.int .u32 0),(.int .i32 0),(.int .u32 0),(.int .u32 0),(.int .i32 0),(.int .u32 0),(.int .u32 0),(.int .i32 0),(.int .u32 0),(.int .u32 0),(.int .i32 0),(.int .u32 0),(.int .u32 0),(.int .i32 0),(.int .u32 0),(.int .u32 0),(.int .i32 0),(.int .u32 0),(.int .u32 0),(.int .i32 0),(.int .u32 0),(.int .u32 0),(.int .i32 0),(.int .u32 0),(.int .u32 0),(.int .i32 0),(.int .u32 0),(.int .u32 0),(.int .i32 0),(.int .u32 0),(.int .u32 0),(.int .i32 0),(.int .u32 0),(.int .u32 0),(.int .i32 0),(.int .u32 0),(.int .u32 0),(.int .i32 0),(.int .u32 0),(.int .u32 0),(.int .i32 0),(.int .u32 0),(.int .u32 0),(.int .i32 0),(.int .u32 0),(.int .u32 0),(.int .i32 0),(.int .u32 0),(.int .u32 0),(.int .i32 0),(.int .u32 0),(.int .u32 0),(.int .i32 0),(.int .u32 0),(.int .u32 0),(.int .i32 0),(.int .u32 0),(.int .u32 0),(.int .i32 0),(.int .u32 0),(.int .u32 0),(.int .i32 0),(.int .u32 0),(.pointer none),(.pointer none),(.pointer none),(.pointer none),(.pointer none),(.pointer none),(.pointer none),(.pointer none),(.pointer none),(.pointer none),(.pointer none),(.pointer none),(.pointer none),(.pointer none),(.pointer none),(.pointer none),(.pointer none),(.pointer none),(.pointer none),(.pointer none),(.pointer none),(.pointer none),(.pointer none),(.pointer none),(.pointer none),(.pointer none),(.pointer none),(.pointer none),(.pointer none),(.pointer none),(.pointer none),(.pointer none),(.pointer none),(.pointer none),(.pointer none),(.pointer none),(.pointer none),(.pointer none),(.pointer none),(.pointer none),(.pointer none),(.pointer none),(.pointer none),(.pointer none),(.pointer none),(.pointer none),(.pointer none),(.pointer none),(.pointer none),(.pointer none),(.pointer none),(.pointer none),(.pointer none),(.pointer none),(.pointer none),(.pointer none),(.pointer none),(.pointer none),(.pointer none),(.pointer none),(.pointer none),(.pointer none),(.pointer none),(.pointer none),(.pointer none)]
def c58:ACode:=(.seq (.region [.o 1 (.box 3 1 (.tmp 0)), .o 2 (.mv (.const (.pointer none))), .k 3 0]) (.seq (.seq (.region [.o 5 (.l 1), .o 6 (.c .lss 5 2), .m 7 6, .g 8 (.l 1) 7 false, .g 9 (.c .gtr 8 64) 7 false, .o 10 (.pick (.tmp 7) (.const (.bool true)) (.tmp 9))]) (.cond (.tmp 10) (.seq (.region [.o 2 (.mv (.const (.pointer none))), .k 3 1]) .ret) .skip)) (.seq (.region [.o 4 (.alloc 128 ti1)]) (.seq (.region [.o 11 (.l 1), .o 12 (.f 0 4), .o 13 (.iaddrA 65 3 (.tmp 12) (.tmp 11)), .o 14 (.mkf 101 [(.tmp 1),(.tmp 4)]), .o 15 (.q 100 [13,14])]) (.seq (.seq (.region [.o 16 (.l 1), .o 17 (.f 195 4), .o 18 (.iaddrA 65 1 (.tmp 17) (.tmp 16)), .o 19 (.l 18), .o 20 (.eqn false 1 (.tmp 19))]) (.cond (.tmp 20) (.seq (.region [.o 2 (.mv (.const (.pointer none))), .k 3 1]) .ret) .skip)) (.seq (.region [.o 21 (.l 1), .o 22 (.f 195 4), .o 23 (.iaddrA 65 1 (.tmp 22) (.tmp 21)), .o 24 (.l 23), .m 2 24, .k 3 0]) .ret))))))
def F58:AFun:=⟨c58,1,25,[(.tmp 2),(.tmp 3)]⟩
def K58:Nat→List Nat×List Nat
 |_=>([],[])
theorem F58_ok:kj8 Try.prog K58 noRg Try.f58=some F58:=by kernel_rfl
/- 60: syndrome/poly.both -/
def c60:ACode:=(.seq (.region [.o 6 (.mv (.const (.pointer none))), .o 7 (.mv (.const (.slice none 0 0))), .o 8 (.mv (.const (.slice none 0 0))), .k 9 0]) (.seq (.region [.m 13 0, .m 14 1, .o 15 (.q 103 [13,14]), .m 10 15]) (.seq (.seq (.region [.m 16 10, .o 17 (.c .eql 16 0)]) (.cond (.tmp 17) (.region [.m 18 0, .m 19 2, .o 20 (.q 103 [18,19]), .m 10 20]) .skip)) (.seq (.seq (.region [.m 21 10, .o 22 (.c .neq 21 0)]) (.cond (.tmp 22) (.seq (.region [.m 23 10, .o 6 (.mv (.const (.pointer none))), .o 7 (.mv (.const (.slice none 0 0))), .o 8 (.mv (.const (.slice none 0 0))), .m 9 23]) .ret) .skip)) (.seq (.region [.m 25 0, .o 26 (.q 58 [25]), .m 24 26, .o 27 (.e 0 24), .o 28 (.e 1 24), .m 11 27, .m 12 28]) (.seq (.region [.m 29 11, .m 30 1, .o 31 (.q 104 [30]), .m 32 2, .o 33 (.q 104 [32]), .m 6 29, .m 7 31, .m 8 33, .k 9 0]) .ret))))))
def F60:AFun:=⟨c60,3,34,[(.tmp 6),(.tmp 7),(.tmp 8),(.tmp 9)]⟩
def K60:Nat→List Nat×List Nat
 |_=>([],[])
theorem F60_ok:kj8 Try.prog K60 noRg Try.f60=some F60:=by kernel_rfl
/- 61: syndrome/poly.times -/
def c61L0:ACode:=(.seq (.region [.o 37 (.b .lss 36 35)]) (.seq (.cond (.tmp 37) .skip (.exit 2)) (.seq (.block 3 [0,2,7,8,9,27,28,29,34,35,36] (.seq (.region [.m 38 36, .o 39 (.i 1 34 36), .o 40 (.l 39), .m 10 38, .m 11 40]) (.region [.m 41 7, .m 42 8, .m 43 10, .o 44 (.b .add 42 43), .m 45 0, .m 46 7, .m 47 8, .m 48 10, .o 49 (.b .add 47 48), .o 50 (.i 1 46 49), .o 51 (.l 50), .m 52 0, .m 53 9, .m 54 11,⟨(some 55),(.call 106 [(.tmp 52),(.tmp 53),(.tmp 54)]),none,true⟩, .o 56 (.q 105 [45,51,55]), .o 57 (.i 1 41 44), .n (.st 1 (.tmp 57) (.tmp 56))]))) (.region [.o 58 (.c .add 36 1), .m 36 58]))))
def c61L1:ACode:=(.seq (.region [.o 30 (.b .lss 29 28)]) (.seq (.cond (.tmp 30) .skip (.exit 0)) (.seq (.block 1 [0,2,7,27,28,29] (.seq (.region [.m 31 29, .o 32 (.i 1 27 29), .o 33 (.l 32), .m 8 31, .m 9 33]) (.seq (.region [.m 34 2, .o 35 (.n 34), .k 36 0]) (.block 2 [0,2,7,27,28,29] (.loop [0,2,7,8,9,27,28,29,34,35,36] c61L0))))) (.region [.o 59 (.c .add 29 1), .m 29 59]))))
def c61:ACode:=(.seq (.region [.o 6 (.mv (.const (.slice none 0 0)))]) (.seq (.seq (.region [.m 12 1, .o 13 (.n 12), .o 14 (.c .eql 13 0), .m 15 14, .g 16 (.m 2) 15 false, .g 17 (.n 16) 15 false, .g 18 (.c .eql 17 0) 15 false, .o 19 (.pick (.tmp 15) (.const (.bool true)) (.tmp 18))]) (.cond (.tmp 19) (.seq (.region [.o 6 (.mv (.const (.slice none 0 0)))]) .ret) .skip)) (.seq (.region [.m 20 1, .o 21 (.n 20), .m 22 2, .o 23 (.n 22), .o 24 (.b .add 21 23), .o 25 (.c .sub 24 1), .o 26 (.mks 3 1 8 [(.int .i64 0)] (.tmp 25) (.tmp 25)), .m 7 26]) (.seq (.seq (.region [.m 27 1, .o 28 (.n 27), .k 29 0]) (.block 0 [7] (.loop [0,2,7,27,28,29] c61L1))) (.seq (.region [.m 60 7, .o 61 (.q 104 [60]), .m 6 61]) .ret)))))
def F61:AFun:=⟨c61,3,62,[(.tmp 6)]⟩
def K61:Nat→List Nat×List Nat
 |0=>([0,2,7,27,28,29],[7])
 |1=>([],[0,2,7,27,28,29])
 |2=>([0,2,7,8,9,27,28,29,34,35,36],[0,2,7,27,28,29])
 |3=>([],[0,2,7,8,9,27,28,29,34,35,36])
 |_=>([],[])
theorem F61_ok:kj8 Try.prog K61 noRg Try.f61=some F61:=by kernel_rfl
/- 62: syndrome/poly.tries -/
def c62L0:ACode:=(.seq (.region [.o 9 (.b .lss 8 7)]) (.seq (.cond (.tmp 9) .skip (.exit 0)) (.seq (.block 1 [0,5,7,8] (.seq (.region [.m 10 5, .m 11 0, .o 12 (.b .mul 10 11), .m 5 12]) (.seq (.region [.m 13 5, .o 14 (.c .gtr 13 4096)]) (.cond (.tmp 14) (.seq (.region [.o 4 (.mv (.const (.bool false)))]) .ret) .skip)))) (.region [.o 15 (.c .add 8 1), .m 8 15]))))
def c62:ACode:=(.seq (.region [.o 4 (.mv (.const (.bool false)))]) (.seq (.region [.k 5 1]) (.seq (.seq (.region [.m 6 1, .o 7 (.c .quo 6 2), .k 8 0]) (.block 0 [] (.loop [0,5,7,8] c62L0))) (.seq (.region [.o 4 (.mv (.const (.bool true)))]) .ret))))
def F62:AFun:=⟨c62,2,16,[(.tmp 4)]⟩
def K62:Nat→List Nat×List Nat
 |0=>([0,5,7,8],[])
 |1=>([],[0,5,7,8])
 |_=>([],[])
theorem F62_ok:kj8 Try.prog K62 noRg Try.f62=some F62:=by kernel_rfl
/- 63: syndrome/poly.monic -/
def c63L0:ACode:=(.seq (.region [.o 21 (.b .lss 20 19)]) (.seq (.cond (.tmp 21) .skip (.exit 0)) (.seq (.block 1 [0,1,5,19,20] (.seq (.region [.m 22 20, .m 6 22]) (.region [.m 23 1, .m 24 6, .m 25 0, .m 26 1, .m 27 6, .o 28 (.i 1 26 27), .o 29 (.l 28), .m 30 5, .o 31 (.q 106 [25,29,30]), .o 32 (.i 1 23 24), .n (.st 1 (.tmp 32) (.tmp 31))]))) (.region [.o 33 (.c .add 20 1), .m 20 33]))))
def c63:ACode:=(.seq (.region [.o 4 (.mv (.const (.slice none 0 0)))]) (.seq (.seq (.region [.m 7 1, .o 8 (.n 7), .o 9 (.c .eql 8 0)]) (.cond (.tmp 9) (.seq (.region [.o 4 (.mv (.const (.slice none 0 0)))]) .ret) .skip)) (.seq (.region [.m 10 0, .m 11 1, .m 12 1, .o 13 (.n 12), .o 14 (.c .sub 13 1), .o 15 (.i 1 11 14), .o 16 (.l 15), .o 17 (.q 97 [10,16]), .m 5 17]) (.seq (.seq (.region [.m 18 1, .o 19 (.n 18), .k 20 0]) (.block 0 [1] (.loop [0,1,5,19,20] c63L0))) (.seq (.region [.m 34 1, .m 4 34]) .ret)))))
def F63:AFun:=⟨c63,2,35,[(.tmp 4)]⟩
def K63:Nat→List Nat×List Nat
 |0=>([0,1,5,19,20],[1])
 |1=>([],[0,1,5,19,20])
 |_=>([],[])
theorem F63_ok:kj8 Try.prog K63 noRg Try.f63=some F63:=by kernel_rfl
/- 64: slices.Repeat[[]int,int] -/
def c64L0:ACode:=(.seq (.seq (.region [.m 34 8, .m 35 7, .o 36 (.n 35), .o 37 (.b .lss 34 36)]) (.cond (.tmp 37) .skip (.exit 0))) (.block 1 [7,8] (.region [.m 38 8, .m 39 7, .m 40 8, .o 41 (.sl 1 (.tmp 39) (some (.tmp 40)) none), .m 42 7, .m 43 8, .o 44 (.sl 1 (.tmp 42) none (some (.tmp 43))), .o 45 (.cpy 1 (.tmp 41) (.tmp 44)), .o 46 (.b .add 38 45), .m 8 46])))
def c64:ACode:=(.seq (.region [.o 4 (.mv (.const (.slice none 0 0)))]) (.seq (.seq (.region [.m 9 1, .o 10 (.c .lss 9 0)]) (.cond (.tmp 10) .stuck .skip)) (.seq (.region [.m 13 0, .o 14 (.n 13), .o 15 (.conv .u64 (.tmp 14)), .m 16 1, .o 17 (.conv .u64 (.tmp 16)), .o 18 (.q 107 [15,17]), .m 12 18, .o 19 (.e 0 12), .o 20 (.e 1 12), .m 5 19, .m 6 20]) (.seq (.seq (.region [.m 21 5, .o 22 (.bin .gtr (.tmp 21) (.const (.int .u64 0))), .m 23 22, .g 24 (.m 6) 23 false, .g 25 (.bin .gtr (.tmp 24) (.const (.int .u64 9223372036854775807))) 23 false, .o 26 (.pick (.tmp 23) (.const (.bool true)) (.tmp 25))]) (.cond (.tmp 26) .stuck .skip)) (.seq (.region [.m 28 6, .o 29 (.conv .i64 (.tmp 28)), .o 30 (.mks 3 1 8 [(.int .i64 0)] (.tmp 29) (.tmp 29)), .m 7 30]) (.seq (.region [.m 31 7, .m 32 0, .o 33 (.cpy 1 (.tmp 31) (.tmp 32)), .m 8 33]) (.seq (.block 0 [7] (.loop [7,8] c64L0)) (.seq (.region [.m 47 7, .m 4 47]) .ret))))))))
def F64:AFun:=⟨c64,2,48,[(.tmp 4)]⟩
def K64:Nat→List Nat×List Nat
 |0=>([7,8],[7])
 |1=>([],[7,8])
 |_=>([],[])
theorem F64_ok:kj8 Try.prog K64 noRg Try.f64=some F64:=by kernel_rfl
/- 65: syndrome/poly.next -/
def c65L0:ACode:=(.seq (.seq (.region [.m 9 5, .o 10 (.c .geq 9 0)]) (.cond (.tmp 10) .skip (.exit 0))) (.seq (.block 1 [0,1,5] (.seq (.region [.m 13 1, .m 14 5, .o 15 (.i 1 13 14), .o 16 (.l 15), .o 17 (.c .add 16 1), .o 18 (.i 1 13 14), .n (.st 1 (.tmp 18) (.tmp 17))]) (.seq (.seq (.region [.m 19 1, .m 20 5, .o 21 (.i 1 19 20), .o 22 (.l 21), .m 23 0, .o 24 (.b .lss 22 23)]) (.cond (.tmp 24) (.seq (.region [.m 25 1, .m 4 25]) .ret) .skip)) (.region [.m 26 1, .m 27 5, .o 28 (.i 1 26 27), .n (.st 1 (.tmp 28) (.const (.int .i64 0)))])))) (.region [.m 11 5, .o 12 (.c .sub 11 1), .m 5 12])))
def c65:ACode:=(.seq (.region [.o 4 (.mv (.const (.slice none 0 0)))]) (.seq (.seq (.region [.m 6 1, .o 7 (.n 6), .o 8 (.c .sub 7 1), .m 5 8]) (.block 0 [] (.loop [0,1,5] c65L0))) (.seq (.region [.o 4 (.mv (.const (.slice none 0 0)))]) .ret)))
def F65:AFun:=⟨c65,2,29,[(.tmp 4)]⟩
def K65:Nat→List Nat×List Nat
 |0=>([0,1,5],[])
 |1=>([],[0,1,5])
 |_=>([],[])
theorem F65_ok:kj8 Try.prog K65 noRg Try.f65=some F65:=by kernel_rfl
/- 66: slices.Clone[[]int,int] -/
def c66:ACode:=(.seq (.region [.o 2 (.mv (.const (.slice none 0 0)))]) (.seq (.seq (.region [.m 3 0, .o 4 (.eqn false 0 (.tmp 3))]) (.cond (.tmp 4) (.seq (.region [.o 2 (.mv (.const (.slice none 0 0)))]) .ret) .skip)) (.seq (.region [.o 5 (.mkSl 3 1 0 []), .m 6 0, .o 7 (.app 3 1 8 (.tmp 5) (.tmp 6)), .m 2 7]) .ret)))
def F66:AFun:=⟨c66,1,8,[(.tmp 2)]⟩
def K66:Nat→List Nat×List Nat
 |_=>([],[])
theorem F66_ok:kj8 Try.prog K66 noRg Try.f66=some F66:=by kernel_rfl
/- 67: syndrome/poly.divide -/
def c67L0:ACode:=(.seq (.region [.o 60 (.b .lss 59 58)]) (.seq (.cond (.tmp 60) .skip (.exit 2)) (.seq (.block 3 [0,2,6,7,8,9,10,57,58,59] (.seq (.region [.m 61 59, .o 62 (.i 1 57 59), .o 63 (.l 62), .m 11 61, .m 12 63]) (.region [.m 64 7, .m 65 9, .m 66 11, .o 67 (.b .add 65 66), .m 68 0, .m 69 7, .m 70 9, .m 71 11, .o 72 (.b .add 70 71), .o 73 (.i 1 69 72), .o 74 (.l 73), .m 75 0, .m 76 10, .m 77 12,⟨(some 78),(.call 106 [(.tmp 75),(.tmp 76),(.tmp 77)]),none,true⟩, .o 79 (.q 108 [68,74,78]), .o 80 (.i 1 64 67), .n (.st 1 (.tmp 80) (.tmp 79))]))) (.region [.o 81 (.c .add 59 1), .m 59 81]))))
def c67L1:ACode:=(.seq (.seq (.region [.m 38 9, .o 39 (.c .geq 38 0)]) (.cond (.tmp 39) .skip (.exit 0))) (.seq (.block 1 [0,2,6,7,8,9] (.seq (.region [.m 42 0, .m 43 7, .m 44 9, .m 45 2, .o 46 (.n 45), .o 47 (.b .add 44 46), .o 48 (.c .sub 47 1), .o 49 (.i 1 43 48), .o 50 (.l 49), .m 51 8, .o 52 (.q 106 [42,50,51]), .m 10 52]) (.seq (.region [.m 53 6, .m 54 9, .m 55 10, .o 56 (.i 1 53 54), .n (.st 1 (.tmp 56) (.tmp 55))]) (.seq (.region [.m 57 2, .o 58 (.n 57), .k 59 0]) (.block 2 [0,2,6,7,8,9] (.loop [0,2,6,7,8,9,10,57,58,59] c67L0)))))) (.region [.m 40 9, .o 41 (.c .sub 40 1), .m 9 41])))
def c67:ACode:=(.seq (.region [.o 6 (.mv (.const (.slice none 0 0))), .o 7 (.mv (.const (.slice none 0 0)))]) (.seq (.region [.m 13 1, .o 14 (.q 66 [13]), .m 7 14]) (.seq (.seq (.region [.m 15 1, .o 16 (.n 15), .m 17 2, .o 18 (.n 17), .o 19 (.b .geq 16 18)]) (.cond (.tmp 19) (.region [.m 20 1, .o 21 (.n 20), .m 22 2, .o 23 (.n 22), .o 24 (.b .sub 21 23), .o 25 (.c .add 24 1), .o 26 (.mks 3 1 8 [(.int .i64 0)] (.tmp 25) (.tmp 25)), .m 6 26]) .skip)) (.seq (.region [.m 27 0, .m 28 2, .m 29 2, .o 30 (.n 29), .o 31 (.c .sub 30 1), .o 32 (.i 1 28 31), .o 33 (.l 32), .o 34 (.q 97 [27,33]), .m 8 34]) (.seq (.seq (.region [.m 35 6, .o 36 (.n 35), .o 37 (.c .sub 36 1), .m 9 37]) (.block 0 [6,7] (.loop [0,2,6,7,8,9] c67L1))) (.seq (.region [.m 82 6, .m 83 7, .o 84 (.q 104 [83]), .m 6 82, .m 7 84]) .ret))))))
def F67:AFun:=⟨c67,3,85,[(.tmp 6),(.tmp 7)]⟩
def K67:Nat→List Nat×List Nat
 |0=>([0,2,6,7,8,9],[6,7])
 |1=>([],[0,2,6,7,8,9])
 |2=>([0,2,6,7,8,9,10,57,58,59],[0,2,6,7,8,9])
 |3=>([],[0,2,6,7,8,9,10,57,58,59])
 |_=>([],[])
theorem F67_ok:kj8 Try.prog K67 noRg Try.f67=some F67:=by kernel_rfl
/- 68: slices.SortStableFunc[[][]int,[]int] -/
def c68:ACode:=(.region [.m 4 0, .m 5 0, .o 6 (.n 5), .m 7 1, .o 8 (.q 109 [4,6,7])])
def F68:AFun:=⟨c68,2,9,[]⟩
def K68:Nat→List Nat×List Nat
 |_=>([],[])
theorem F68_ok:kj8 Try.prog K68 noRg Try.f68=some F68:=by kernel_rfl
/- 69: syndrome/poly.Factors$1 -/
def c69:ACode:=(.seq (.region [.k 4 0]) (.seq (.seq (.region [.m 5 0, .o 6 (.n 5), .m 7 1, .o 8 (.n 7), .o 9 (.b .neq 6 8)]) (.cond (.tmp 9) (.seq (.region [.m 10 0, .o 11 (.n 10), .m 12 1, .o 13 (.n 12), .o 14 (.b .sub 11 13), .m 4 14]) .ret) .skip)) (.seq (.region [.m 15 0, .m 16 1, .o 17 (.q 70 [15,16]), .m 4 17]) .ret)))
def F69:AFun:=⟨c69,2,18,[(.tmp 4)]⟩
def K69:Nat→List Nat×List Nat
 |_=>([],[])
theorem F69_ok:kj8 Try.prog K69 noRg Try.f69=some F69:=by kernel_rfl
/- 70: slices.Compare[[]int,int] -/
def c70L0:ACode:=(.seq (.region [.o 12 (.b .lss 11 10)]) (.seq (.cond (.tmp 12) .skip (.exit 0)) (.seq (.block 1 [0,1,9,10,11] (.seq (.region [.m 13 11, .o 14 (.i 1 9 11), .o 15 (.l 14), .m 5 13, .m 6 15]) (.seq (.seq (.region [.m 16 5, .m 17 1, .o 18 (.n 17), .o 19 (.b .geq 16 18)]) (.cond (.tmp 19) (.seq (.region [.k 4 1]) .ret) .skip)) (.seq (.region [.m 20 1, .m 21 5, .o 22 (.i 1 20 21), .o 23 (.l 22), .m 7 23]) (.seq (.region [.m 24 6, .m 25 7, .o 26 (.q 110 [24,25]), .m 8 26]) (.seq (.region [.m 27 8, .o 28 (.c .neq 27 0)]) (.cond (.tmp 28) (.seq (.region [.m 29 8, .m 4 29]) .ret) .skip))))))) (.region [.o 30 (.c .add 11 1), .m 11 30]))))
def c70:ACode:=(.seq (.region [.k 4 0]) (.seq (.seq (.region [.m 9 0, .o 10 (.n 9), .k 11 0]) (.block 0 [0,1] (.loop [0,1,9,10,11] c70L0))) (.seq (.seq (.region [.m 31 0, .o 32 (.n 31), .m 33 1, .o 34 (.n 33), .o 35 (.b .lss 32 34)]) (.cond (.tmp 35) (.seq (.region [.k 4 (-1)]) .ret) .skip)) (.seq (.region [.k 4 0]) .ret))))
def F70:AFun:=⟨c70,2,36,[(.tmp 4)]⟩
def K70:Nat→List Nat×List Nat
 |0=>([0,1,9,10,11],[0,1])
 |1=>([],[0,1,9,10,11])
 |_=>([],[])
theorem F70_ok:kj8 Try.prog K70 noRg Try.f70=some F70:=by kernel_rfl
/- 88: (*syndrome/field.Field).Neg -/
def c88L0:ACode:=(.seq (.region [.o 16 (.b .lss 15 14)]) (.seq (.cond (.tmp 16) .skip (.exit 0)) (.seq (.block 1 [0,1,5,6,14,15] (.seq (.region [.m 17 5, .m 18 0, .o 19 (.nilck (.tmp 18)), .o 20 (.f 1 19), .o 21 (.l 20), .m 22 1, .m 23 0, .o 24 (.nilck (.tmp 23)), .o 25 (.f 1 24), .o 26 (.l 25), .o 27 (.b .rem 22 26), .o 28 (.b .sub 21 27), .m 29 0, .o 30 (.nilck (.tmp 29)), .o 31 (.f 1 30), .o 32 (.l 31), .o 33 (.b .rem 28 32), .m 34 6, .o 35 (.b .mul 33 34), .o 36 (.b .add 17 35), .m 5 36]) (.region [.m 37 1, .m 38 0, .o 39 (.nilck (.tmp 38)), .o 40 (.f 1 39), .o 41 (.l 40), .o 42 (.b .quo 37 41), .m 43 6, .m 44 0, .o 45 (.nilck (.tmp 44)), .o 46 (.f 1 45), .o 47 (.l 46), .o 48 (.b .mul 43 47), .m 1 42, .m 6 48]))) (.region [.o 49 (.c .add 15 1), .m 15 49]))))
def c88:ACode:=(.seq (.region [.k 4 0]) (.seq (.seq (.region [.m 7 0, .m 8 1, .o 9 (.q 116 [7,8]), .o 10 (.un .not (.tmp 9))]) (.cond (.tmp 10) (.seq (.region [.k 4 (-1)]) .ret) .skip)) (.seq (.region [.k 5 0, .k 6 1]) (.seq (.seq (.region [.m 11 0, .o 12 (.nilck (.tmp 11)), .o 13 (.f 2 12), .o 14 (.l 13), .k 15 0]) (.block 0 [5] (.loop [0,1,5,6,14,15] c88L0))) (.seq (.region [.m 50 5, .m 4 50]) .ret)))))
def F88:AFun:=⟨c88,2,51,[(.tmp 4)]⟩
def K88:Nat→List Nat×List Nat
 |0=>([0,1,5,6,14,15],[5])
 |1=>([],[0,1,5,6,14,15])
 |_=>([],[])
theorem F88_ok:kj8 Try.prog K88 noRg Try.f88=some F88:=by kernel_rfl
/- 97: (*syndrome/field.Field).Inv -/
def c97:ACode:=(.seq (.region [.k 4 0]) (.seq (.seq (.region [.m 5 0, .m 6 1, .o 7 (.q 116 [5,6]), .o 8 (.un .not (.tmp 7)), .m 9 8, .g 10 (.m 1) 9 false, .g 11 (.c .eql 10 0) 9 false, .o 12 (.pick (.tmp 9) (.const (.bool true)) (.tmp 11))]) (.cond (.tmp 12) (.seq (.region [.k 4 (-1)]) .ret) .skip)) (.seq (.region [.m 13 0, .o 14 (.nilck (.tmp 13)), .o 15 (.f 5 14), .o 16 (.l 15), .m 17 0, .o 18 (.nilck (.tmp 17)), .o 19 (.f 0 18), .o 20 (.l 19), .o 21 (.c .sub 20 1), .m 22 0, .o 23 (.nilck (.tmp 22)), .o 24 (.f 6 23), .o 25 (.l 24), .m 26 1, .o 27 (.i 1 25 26), .o 28 (.l 27), .o 29 (.b .sub 21 28), .m 30 0, .o 31 (.nilck (.tmp 30)), .o 32 (.f 0 31), .o 33 (.l 32), .o 34 (.c .sub 33 1), .o 35 (.b .rem 29 34), .o 36 (.i 1 16 35), .o 37 (.l 36), .m 4 37]) .ret)))
def F97:AFun:=⟨c97,2,38,[(.tmp 4)]⟩
def K97:Nat→List Nat×List Nat
 |_=>([],[])
theorem F97_ok:kj8 Try.prog K97 noRg Try.f97=some F97:=by kernel_rfl
/- 101: syndrome/field.New$1 -/
def c101:ACode:=(.region [.o 2 (.l 0), .o 3 (.l 0),⟨(some 4),(.call 102 [(.tmp 3)]),none,true⟩, .o 5 (.f 195 1), .o 6 (.iaddrA 65 1 (.tmp 5) (.tmp 2)), .n (.st 1 (.tmp 6) (.tmp 4))])
def F101:AFun:=⟨c101,2,7,[]⟩
def K101:Nat→List Nat×List Nat
 |_=>([],[])
theorem F101_ok:kj8 Try.prog K101 noRg Try.f101=some F101:=by kernel_rfl
/- 102: syndrome/field.build -/
def c102L0:ACode:=(.seq (.seq (.region [.m 28 5, .o 29 (.q 121 [28]), .o 30 (.un .not (.tmp 29))]) (.cond (.tmp 30) .skip (.exit 0))) (.seq (.block 1 [5] .skip) (.region [.m 31 5, .o 32 (.nilck (.tmp 31)), .o 33 (.f 4 32), .o 34 (.l 33), .o 35 (.c .add 34 1), .o 36 (.nilck (.tmp 31)), .o 37 (.f 4 36), .n (.st 1 (.tmp 37) (.tmp 35))])))
def c102L1:ACode:=(.seq (.region [.o 45 (.b .lss 44 43)]) (.seq (.cond (.tmp 45) .skip (.exit 2)) (.seq (.block 3 [3,4,5,43,44] (.seq (.region [.m 46 44, .m 6 46]) (.seq (.region [.m 47 5, .m 48 6, .m 49 3, .m 50 4, .o 51 (.q 122 [48,49,50]), .o 52 (.mkSl 3 1 1 [(.const (.int .i64 1))]), .o 53 (.app 3 1 8 (.tmp 51) (.tmp 52)), .o 54 (.nilck (.tmp 47)), .o 55 (.f 3 54), .n (.st 1 (.tmp 55) (.tmp 53))]) (.seq (.region [.m 56 5, .o 57 (.q 121 [56])]) (.cond (.tmp 57) (.seq (.region [.m 58 5, .m 2 58]) .ret) .skip))))) (.region [.o 59 (.c .add 44 1), .m 44 59]))))
def c102:ACode:=(.seq (.region [.o 2 (.mv (.const (.pointer none)))]) (.seq (.region [.m 8 0, .o 9 (.q 120 [8]), .m 7 9, .o 10 (.e 0 7), .o 11 (.e 1 7), .m 3 10, .m 4 11]) (.seq (.seq (.region [.m 12 3, .o 13 (.c .eql 12 0)]) (.cond (.tmp 13) (.seq (.region [.o 2 (.mv (.const (.pointer none)))]) .ret) .skip)) (.seq (.region [.m 14 0, .m 15 3, .m 16 4, .o 17 (.build [(.int .i64 0),(.int .i64 0),(.int .i64 0),(.slice none 0 0),(.int .i64 0),(.slice none 0 0),(.slice none 0 0)] [(0,1),(1,1),(2,1),(3,1),(4,1),(5,1),(6,1)] [(0,(.tmp 14)),(1,(.tmp 15)),(2,(.tmp 16))]), .o 18 (.box 141 7 (.tmp 17)), .m 5 18]) (.seq (.seq (.region [.m 19 4, .o 20 (.c .eql 19 1)]) (.cond (.tmp 20) (.seq (.region [.m 21 5, .o 22 (.mkSl 3 1 2 [(.const (.int .i64 0)),(.const (.int .i64 1))]), .o 23 (.nilck (.tmp 21)), .o 24 (.f 3 23), .n (.st 1 (.tmp 24) (.tmp 22))]) (.seq (.seq (.region [.m 25 5, .o 26 (.nilck (.tmp 25)), .o 27 (.f 4 26), .n (.st 1 (.tmp 27) (.const (.int .i64 1)))]) (.block 0 [5] (.loop [5] c102L0))) (.seq (.region [.m 38 5, .m 2 38]) .ret))) .skip)) (.seq (.region [.m 39 5, .m 40 3, .o 41 (.nilck (.tmp 39)), .o 42 (.f 4 41), .n (.st 1 (.tmp 42) (.tmp 40))]) (.seq (.seq (.region [.m 43 0, .k 44 0]) (.block 2 [] (.loop [3,4,5,43,44] c102L1))) (.seq (.region [.o 2 (.mv (.const (.pointer none)))]) .ret))))))))
def F102:AFun:=⟨c102,1,60,[(.tmp 2)]⟩
def K102:Nat→List Nat×List Nat
 |0=>([5],[5])
 |1=>([],[5])
 |2=>([3,4,5,43,44],[])
 |3=>([],[3,4,5,43,44])
 |_=>([],[])
theorem F102_ok:kj8 Try.prog K102 noRg Try.f102=some F102:=by kernel_rfl
/- 103: syndrome/poly.Check -/
def c103L0:ACode:=(.seq (.region [.o 23 (.b .lss 22 21)]) (.seq (.cond (.tmp 23) .skip (.exit 0)) (.seq (.block 1 [5,20,21,22] (.seq (.region [.o 24 (.i 1 20 22), .o 25 (.l 24), .m 8 25]) (.seq (.region [.m 26 5, .m 27 8, .o 28 (.q 116 [26,27]), .o 29 (.un .not (.tmp 28))]) (.cond (.tmp 29) (.seq (.region [.k 4 2]) .ret) .skip)))) (.region [.o 30 (.c .add 22 1), .m 22 30]))))
def c103:ACode:=(.seq (.region [.k 4 0]) (.seq (.region [.m 10 0, .o 11 (.q 58 [10]), .m 9 11, .o 12 (.e 0 9), .o 13 (.e 1 9), .m 5 12, .m 6 13]) (.seq (.seq (.region [.m 14 6, .o 15 (.c .neq 14 0)]) (.cond (.tmp 15) (.seq (.region [.m 16 6, .m 4 16]) .ret) .skip)) (.seq (.seq (.region [.m 17 1, .o 18 (.n 17), .o 19 (.c .gtr 18 128)]) (.cond (.tmp 19) (.seq (.region [.k 4 4]) .ret) .skip)) (.seq (.seq (.region [.m 20 1, .o 21 (.n 20), .k 22 0]) (.block 0 [] (.loop [5,20,21,22] c103L0))) (.seq (.region [.k 4 0]) .ret))))))
def F103:AFun:=⟨c103,2,31,[(.tmp 4)]⟩
def K103:Nat→List Nat×List Nat
 |0=>([5,20,21,22],[])
 |1=>([],[5,20,21,22])
 |_=>([],[])
theorem F103_ok:kj8 Try.prog K103 noRg Try.f103=some F103:=by kernel_rfl
/- 104: syndrome/poly.trim -/
def c104L0:ACode:=(.seq (.seq (.region [.m 6 3, .o 7 (.c .gtr 6 0), .m 8 7, .g 9 (.m 0) 8 true, .g 10 (.m 3) 8 true, .g 11 (.c .sub 10 1) 8 true, .g 12 (.i 1 9 11) 8 true, .g 13 (.l 12) 8 true, .g 14 (.c .eql 13 0) 8 true, .o 15 (.pick (.tmp 8) (.tmp 14) (.const (.bool false)))]) (.cond (.tmp 15) .skip (.exit 0))) (.block 1 [0,3] (.region [.m 16 3, .o 17 (.c .sub 16 1), .m 3 17])))
def c104:ACode:=(.seq (.region [.o 2 (.mv (.const (.slice none 0 0)))]) (.seq (.region [.m 4 0, .o 5 (.n 4), .m 3 5]) (.seq (.block 0 [0,3] (.loop [0,3] c104L0)) (.seq (.region [.m 18 0, .m 19 3, .o 20 (.sl 1 (.tmp 18) none (some (.tmp 19))), .o 21 (.q 66 [20]), .m 2 21]) .ret))))
def F104:AFun:=⟨c104,1,22,[(.tmp 2)]⟩
def K104:Nat→List Nat×List Nat
 |0=>([0,3],[0,3])
 |1=>([],[0,3])
 |_=>([],[])
theorem F104_ok:kj8 Try.prog K104 noRg Try.f104=some F104:=by kernel_rfl
/- 105: (*syndrome/field.Field).Add -/
def c105L0:ACode:=(.seq (.region [.o 24 (.b .lss 23 22)]) (.seq (.cond (.tmp 24) .skip (.exit 0)) (.seq (.block 1 [0,1,2,7,8,22,23] (.seq (.region [.m 25 7, .m 26 1, .m 27 0, .o 28 (.nilck (.tmp 27)), .o 29 (.f 1 28), .o 30 (.l 29), .o 31 (.b .rem 26 30), .m 32 2, .m 33 0, .o 34 (.nilck (.tmp 33)), .o 35 (.f 1 34), .o 36 (.l 35), .o 37 (.b .rem 32 36), .o 38 (.b .add 31 37), .m 39 0, .o 40 (.nilck (.tmp 39)), .o 41 (.f 1 40), .o 42 (.l 41), .o 43 (.b .rem 38 42), .m 44 8, .o 45 (.b .mul 43 44), .o 46 (.b .add 25 45), .m 7 46]) (.region [.m 47 1, .m 48 0, .o 49 (.nilck (.tmp 48)), .o 50 (.f 1 49), .o 51 (.l 50), .o 52 (.b .quo 47 51), .m 53 2, .m 54 0, .o 55 (.nilck (.tmp 54)), .o 56 (.f 1 55), .o 57 (.l 56), .o 58 (.b .quo 53 57), .m 59 8, .m 60 0, .o 61 (.nilck (.tmp 60)), .o 62 (.f 1 61), .o 63 (.l 62), .o 64 (.b .mul 59 63), .m 1 52, .m 2 58, .m 8 64]))) (.region [.o 65 (.c .add 23 1), .m 23 65]))))
def c105:ACode:=(.seq (.region [.k 6 0]) (.seq (.seq (.region [.m 9 0, .m 10 1, .o 11 (.q 116 [9,10]), .o 12 (.un .not (.tmp 11)), .m 13 12, .g 14 (.m 0) 13 false, .g 15 (.m 2) 13 false, .g 16 (.q 116 [14,15]) 13 false, .g 17 (.un .not (.tmp 16)) 13 false, .o 18 (.pick (.tmp 13) (.const (.bool true)) (.tmp 17))]) (.cond (.tmp 18) (.seq (.region [.k 6 (-1)]) .ret) .skip)) (.seq (.region [.k 7 0, .k 8 1]) (.seq (.seq (.region [.m 19 0, .o 20 (.nilck (.tmp 19)), .o 21 (.f 2 20), .o 22 (.l 21), .k 23 0]) (.block 0 [7] (.loop [0,1,2,7,8,22,23] c105L0))) (.seq (.region [.m 66 7, .m 6 66]) .ret)))))
def F105:AFun:=⟨c105,3,67,[(.tmp 6)]⟩
def K105:Nat→List Nat×List Nat
 |0=>([0,1,2,7,8,22,23],[7])
 |1=>([],[0,1,2,7,8,22,23])
 |_=>([],[])
theorem F105_ok:kj8 Try.prog K105 noRg Try.f105=some F105:=by kernel_rfl
/- 106: (*syndrome/field.Field).Mul -/
def c106:ACode:=(.seq (.region [.k 6 0]) (.seq (.seq (.region [.m 7 0, .m 8 1, .o 9 (.q 116 [7,8]), .o 10 (.un .not (.tmp 9)), .m 11 10, .g 12 (.m 0) 11 false, .g 13 (.m 2) 11 false, .g 14 (.q 116 [12,13]) 11 false, .g 15 (.un .not (.tmp 14)) 11 false, .o 16 (.pick (.tmp 11) (.const (.bool true)) (.tmp 15))]) (.cond (.tmp 16) (.seq (.region [.k 6 (-1)]) .ret) .skip)) (.seq (.seq (.region [.m 17 1, .o 18 (.c .eql 17 0), .m 19 18, .g 20 (.m 2) 19 false, .g 21 (.c .eql 20 0) 19 false, .o 22 (.pick (.tmp 19) (.const (.bool true)) (.tmp 21))]) (.cond (.tmp 22) (.seq (.region [.k 6 0]) .ret) .skip)) (.seq (.region [.m 23 0, .o 24 (.nilck (.tmp 23)), .o 25 (.f 5 24), .o 26 (.l 25), .m 27 0, .o 28 (.nilck (.tmp 27)), .o 29 (.f 6 28), .o 30 (.l 29), .m 31 1, .o 32 (.i 1 30 31), .o 33 (.l 32), .m 34 0, .o 35 (.nilck (.tmp 34)), .o 36 (.f 6 35), .o 37 (.l 36), .m 38 2, .o 39 (.i 1 37 38), .o 40 (.l 39), .o 41 (.b .add 33 40), .m 42 0, .o 43 (.nilck (.tmp 42)), .o 44 (.f 0 43), .o 45 (.l 44), .o 46 (.c .sub 45 1), .o 47 (.b .rem 41 46), .o 48 (.i 1 26 47), .o 49 (.l 48), .m 6 49]) .ret))))
def F106:AFun:=⟨c106,3,50,[(.tmp 6)]⟩
def K106:Nat→List Nat×List Nat
 |_=>([],[])
theorem F106_ok:kj8 Try.prog K106 noRg Try.f106=some F106:=by kernel_rfl
/- 107: math/bits.Mul -/
def c107:ACode:=(.seq (.region [.o 4 (.mv (.const (.int .u64 0))), .o 5 (.mv (.const (.int .u64 0)))]) (.seq (.cond (.const (.bool false)) (.seq (.region [.m 11 0, .o 12 (.conv .u32 (.tmp 11)), .m 13 1, .o 14 (.conv .u32 (.tmp 13)), .o 15 (.q 123 [12,14]), .m 10 15, .o 16 (.e 0 10), .o 17 (.e 1 10), .m 6 16, .m 7 17]) (.seq (.region [.m 18 6, .o 19 (.conv .u64 (.tmp 18)), .m 20 7, .o 21 (.conv .u64 (.tmp 20)), .m 4 19, .m 5 21]) .ret)) .skip) (.seq (.region [.m 23 0, .m 24 1, .o 25 (.q 124 [23,24]), .m 22 25, .o 26 (.e 0 22), .o 27 (.e 1 22), .m 8 26, .m 9 27]) (.seq (.region [.m 28 8, .m 29 9, .m 4 28, .m 5 29]) .ret))))
def F107:AFun:=⟨c107,2,30,[(.tmp 4),(.tmp 5)]⟩
def K107:Nat→List Nat×List Nat
 |_=>([],[])
theorem F107_ok:kj8 Try.prog K107 noRg Try.f107=some F107:=by kernel_rfl
/- 108: (*syndrome/field.Field).Sub -/
def c108:ACode:=(.seq (.region [.k 6 0]) (.seq (.region [.m 7 0, .m 8 1, .m 9 0, .m 10 2, .o 11 (.q 88 [9,10]), .o 12 (.q 105 [7,8,11]), .m 6 12]) .ret))
def F108:AFun:=⟨c108,3,13,[(.tmp 6)]⟩
def K108:Nat→List Nat×List Nat
 |_=>([],[])
theorem F108_ok:kj8 Try.prog K108 noRg Try.f108=some F108:=by kernel_rfl
/- 109: slices.stableCmpFunc[[]int] -/
def c109L0:ACode:=(.seq (.seq (.region [.m 11 8, .m 12 1, .o 13 (.b .leq 11 12)]) (.cond (.tmp 13) .skip (.exit 0))) (.block 1 [0,1,2,6,7,8] (.seq (.region [.m 14 0, .m 15 7, .m 16 8, .m 17 2, .o 18 (.q 125 [14,15,16,17])]) (.seq (.region [.m 19 8, .m 7 19]) (.region [.m 20 8, .m 21 6, .o 22 (.b .add 20 21), .m 8 22])))))
def c109L1:ACode:=(.seq (.seq (.region [.m 33 8, .m 34 1, .o 35 (.b .leq 33 34)]) (.cond (.tmp 35) .skip (.exit 4))) (.block 5 [0,1,2,6,7,8] (.seq (.region [.m 36 0, .m 37 7, .m 38 7, .m 39 6, .o 40 (.b .add 38 39), .m 41 8, .m 42 2, .o 43 (.q 126 [36,37,40,41,42])]) (.seq (.region [.m 44 8, .m 7 44]) (.region [.m 45 8, .m 46 6, .o 47 (.bin .mul (.const (.int .i64 2)) (.tmp 46)), .o 48 (.b .add 45 47), .m 8 48])))))
def c109L2:ACode:=(.seq (.seq (.region [.m 28 6, .m 29 1, .o 30 (.b .lss 28 29)]) (.cond (.tmp 30) .skip (.exit 2))) (.block 3 [0,1,2,6] (.seq (.region [.m 31 6, .o 32 (.bin .mul (.const (.int .i64 2)) (.tmp 31)), .k 7 0, .m 8 32]) (.seq (.block 4 [0,1,2,6,7] (.loop [0,1,2,6,7,8] c109L1)) (.seq (.seq (.region [.m 49 7, .m 50 6, .o 51 (.b .add 49 50), .m 9 51]) (.seq (.region [.m 52 9, .m 53 1, .o 54 (.b .lss 52 53)]) (.cond (.tmp 54) (.region [.m 55 0, .m 56 7, .m 57 9, .m 58 1, .m 59 2, .o 60 (.q 126 [55,56,57,58,59])]) .skip))) (.region [.m 61 6, .o 62 (.c .mul 61 2), .m 6 62]))))))
def c109:ACode:=(.seq (.region [.k 6 20]) (.seq (.region [.m 10 6, .k 7 0, .m 8 10]) (.seq (.block 0 [0,1,2,6,7] (.loop [0,1,2,6,7,8] c109L0)) (.seq (.region [.m 23 0, .m 24 7, .m 25 1, .m 26 2, .o 27 (.q 125 [23,24,25,26])]) (.block 2 [] (.loop [0,1,2,6] c109L2))))))
def F109:AFun:=⟨c109,3,63,[]⟩
def K109:Nat→List Nat×List Nat
 |0=>([0,1,2,6,7,8],[0,1,2,6,7])
 |1=>([],[0,1,2,6,7,8])
 |2=>([0,1,2,6],[])
 |3=>([],[0,1,2,6])
 |4=>([0,1,2,6,7,8],[0,1,2,6,7])
 |5=>([],[0,1,2,6,7,8])
 |_=>([],[])
theorem F109_ok:kj8 Try.prog K109 noRg Try.f109=some F109:=by kernel_rfl
/- 110: cmp.Compare[int] -/
def c110:ACode:=(.seq (.region [.k 4 0]) (.seq (.region [.m 7 0, .o 8 (.q 127 [7]), .m 5 8]) (.seq (.region [.m 9 1, .o 10 (.q 127 [9]), .m 6 10]) (.seq (.seq (.region [.m 11 5]) (.cond (.tmp 11) (.seq (.seq (.region [.m 12 6]) (.cond (.tmp 12) (.seq (.region [.k 4 0]) .ret) .skip)) (.seq (.region [.k 4 (-1)]) .ret)) .skip)) (.seq (.seq (.region [.m 13 6]) (.cond (.tmp 13) (.seq (.region [.k 4 1]) .ret) .skip)) (.seq (.seq (.region [.m 14 0, .m 15 1, .o 16 (.b .lss 14 15)]) (.cond (.tmp 16) (.seq (.region [.k 4 (-1)]) .ret) .skip)) (.seq (.seq (.region [.m 17 0, .m 18 1, .o 19 (.b .gtr 17 18)]) (.cond (.tmp 19) (.seq (.region [.k 4 1]) .ret) .skip)) (.seq (.region [.k 4 0]) .ret))))))))
def F110:AFun:=⟨c110,2,20,[(.tmp 4)]⟩
def K110:Nat→List Nat×List Nat
 |_=>([],[])
theorem F110_ok:kj8 Try.prog K110 noRg Try.f110=some F110:=by kernel_rfl
/- 116: (*syndrome/field.Field).Has -/
def c116:ACode:=(.seq (.region [.o 4 (.mv (.const (.bool false)))]) (.seq (.region [.m 5 1, .o 6 (.c .geq 5 0), .m 7 6, .g 8 (.m 1) 7 true, .g 9 (.m 0) 7 true, .g 10 (.nilck (.tmp 9)) 7 true, .g 11 (.f 0 10) 7 true, .g 12 (.l 11) 7 true, .g 13 (.b .lss 8 12) 7 true, .o 14 (.pick (.tmp 7) (.tmp 13) (.const (.bool false))), .m 4 14]) .ret))
def F116:AFun:=⟨c116,2,15,[(.tmp 4)]⟩
def K116:Nat→List Nat×List Nat
 |_=>([],[])
theorem F116_ok:kj8 Try.prog K116 noRg Try.f116=some F116:=by kernel_rfl
/- 120: syndrome/field.prime -/
def c120L0:ACode:=(.seq (.seq (.region [.m 4 0, .m 5 2, .o 6 (.b .rem 4 5), .o 7 (.c .neq 6 0)]) (.cond (.tmp 7) .skip (.exit 0))) (.block 1 [0,2,3] (.region [.m 8 2, .o 9 (.c .add 8 1), .m 2 9])))
def c120L1:ACode:=(.seq (.seq (.region [.m 10 0, .m 11 2, .o 12 (.b .rem 10 11), .o 13 (.c .eql 12 0)]) (.cond (.tmp 13) .skip (.exit 2))) (.seq (.block 3 [0,2,3] (.region [.m 17 3, .o 18 (.c .add 17 1), .m 3 18])) (.region [.m 14 0, .m 15 2, .o 16 (.b .quo 14 15), .m 0 16])))
def c120:ACode:=(.seq (.region [.k 2 0, .k 3 0]) (.seq (.region [.k 2 2]) (.seq (.block 0 [0,2,3] (.loop [0,2,3] c120L0)) (.seq (.block 2 [0,2,3] (.loop [0,2,3] c120L1)) (.seq (.seq (.region [.m 19 0, .o 20 (.c .neq 19 1)]) (.cond (.tmp 20) (.seq (.region [.k 2 0, .k 3 0]) .ret) .skip)) (.seq (.region [.m 21 2, .m 22 3, .m 2 21, .m 3 22]) .ret))))))
def F120:AFun:=⟨c120,1,23,[(.tmp 2),(.tmp 3)]⟩
def K120:Nat→List Nat×List Nat
 |0=>([0,2,3],[0,2,3])
 |1=>([],[0,2,3])
 |2=>([0,2,3],[0,2,3])
 |3=>([],[0,2,3])
 |_=>([],[])
theorem F120_ok:kj8 Try.prog K120 noRg Try.f120=some F120:=by kernel_rfl
/- 121: (*syndrome/field.Field).fill -/
def c121L0:ACode:=(.seq (.region [.o 29 (.b .lss 28 27)]) (.seq (.cond (.tmp 29) .skip (.exit 0)) (.seq (.block 1 [0,27,28] (.seq (.region [.m 30 28, .m 3 30]) (.region [.m 31 0, .o 32 (.nilck (.tmp 31)), .o 33 (.f 6 32), .o 34 (.l 33), .m 35 3, .o 36 (.i 1 34 35), .n (.st 1 (.tmp 36) (.const (.int .i64 (-1))))]))) (.region [.o 37 (.c .add 28 1), .m 28 37]))))
def c121L1:ACode:=(.seq (.region [.o 44 (.b .lss 43 42)]) (.seq (.cond (.tmp 44) .skip (.exit 2)) (.seq (.block 3 [0,4,42,43] (.seq (.region [.m 45 43, .m 5 45]) (.seq (.seq (.region [.m 46 4, .o 47 (.c .eql 46 0), .m 48 47, .g 49 (.m 0) 48 false, .g 50 (.nilck (.tmp 49)) 48 false, .g 51 (.f 6 50) 48 false, .g 52 (.l 51) 48 false, .g 53 (.m 4) 48 false, .g 54 (.i 1 52 53) 48 false, .g 55 (.l 54) 48 false, .g 56 (.c .geq 55 0) 48 false, .o 57 (.pick (.tmp 48) (.const (.bool true)) (.tmp 56))]) (.cond (.tmp 57) (.seq (.region [.o 2 (.mv (.const (.bool false)))]) .ret) .skip)) (.seq (.region [.m 58 0, .o 59 (.nilck (.tmp 58)), .o 60 (.f 5 59), .o 61 (.l 60), .m 62 5, .m 63 0, .o 64 (.nilck (.tmp 63)), .o 65 (.f 6 64), .o 66 (.l 65), .m 67 4, .m 68 4, .m 69 5, .o 70 (.i 1 61 62), .n (.st 1 (.tmp 70) (.tmp 68)), .o 71 (.i 1 66 67), .n (.st 1 (.tmp 71) (.tmp 69))]) (.region [.m 72 0, .m 73 4, .o 74 (.q 143 [72,73]), .m 4 74]))))) (.region [.o 75 (.c .add 43 1), .m 43 75]))))
def c121:ACode:=(.seq (.region [.o 2 (.mv (.const (.bool false)))]) (.seq (.region [.m 6 0, .m 7 0, .o 8 (.nilck (.tmp 7)), .o 9 (.f 0 8), .o 10 (.l 9), .o 11 (.c .sub 10 1), .o 12 (.mks 3 1 8 [(.int .i64 0)] (.tmp 11) (.tmp 11)), .o 13 (.nilck (.tmp 6)), .o 14 (.f 5 13), .n (.st 1 (.tmp 14) (.tmp 12))]) (.seq (.region [.m 15 0, .m 16 0, .o 17 (.nilck (.tmp 16)), .o 18 (.f 0 17), .o 19 (.l 18), .o 20 (.mks 3 1 8 [(.int .i64 0)] (.tmp 19) (.tmp 19)), .o 21 (.nilck (.tmp 15)), .o 22 (.f 6 21), .n (.st 1 (.tmp 22) (.tmp 20))]) (.seq (.seq (.region [.m 23 0, .o 24 (.nilck (.tmp 23)), .o 25 (.f 6 24), .o 26 (.l 25), .o 27 (.n 26), .k 28 0]) (.block 0 [0] (.loop [0,27,28] c121L0))) (.seq (.region [.k 4 1]) (.seq (.seq (.region [.m 38 0, .o 39 (.nilck (.tmp 38)), .o 40 (.f 0 39), .o 41 (.l 40), .o 42 (.c .sub 41 1), .k 43 0]) (.block 2 [4] (.loop [0,4,42,43] c121L1))) (.seq (.region [.m 76 4, .o 77 (.c .eql 76 1), .m 2 77]) .ret)))))))
def F121:AFun:=⟨c121,1,78,[(.tmp 2)]⟩
def K121:Nat→List Nat×List Nat
 |0=>([0,27,28],[0])
 |1=>([],[0,27,28])
 |2=>([0,4,42,43],[4])
 |3=>([],[0,4,42,43])
 |_=>([],[])
theorem F121_ok:kj8 Try.prog K121 noRg Try.f121=some F121:=by kernel_rfl
/- 122: syndrome/field.digits -/
def c122L0:ACode:=(.seq (.region [.o 14 (.b .lss 13 12)]) (.seq (.cond (.tmp 14) .skip (.exit 0)) (.seq (.block 1 [0,1,7,12,13] (.seq (.region [.m 15 13, .m 8 15]) (.seq (.region [.m 16 7, .m 17 8, .m 18 0, .m 19 1, .o 20 (.b .rem 18 19), .o 21 (.i 1 16 17), .n (.st 1 (.tmp 21) (.tmp 20))]) (.region [.m 22 0, .m 23 1, .o 24 (.b .quo 22 23), .m 0 24])))) (.region [.o 25 (.c .add 13 1), .m 13 25]))))
def c122:ACode:=(.seq (.region [.o 6 (.mv (.const (.slice none 0 0)))]) (.seq (.region [.m 9 2, .o 10 (.mks 3 1 8 [(.int .i64 0)] (.tmp 9) (.tmp 9)), .m 7 10]) (.seq (.seq (.region [.m 11 7, .o 12 (.n 11), .k 13 0]) (.block 0 [7] (.loop [0,1,7,12,13] c122L0))) (.seq (.region [.m 26 7, .m 6 26]) .ret))))
def F122:AFun:=⟨c122,3,27,[(.tmp 6)]⟩
def K122:Nat→List Nat×List Nat
 |0=>([0,1,7,12,13],[7])
 |1=>([],[0,1,7,12,13])
 |_=>([],[])
theorem F122_ok:kj8 Try.prog K122 noRg Try.f122=some F122:=by kernel_rfl
/- 124: math/bits.Mul64 -/
def c124:ACode:=(.seq (.region [.o 4 (.mv (.const (.int .u64 0))), .o 5 (.mv (.const (.int .u64 0)))]) (.seq (.region [.m 14 0, .o 15 (.bin .and (.tmp 14) (.const (.int .u64 4294967295))), .m 6 15]) (.seq (.region [.m 16 0, .o 17 (.bin .shr (.tmp 16) (.const (.int .u64 32))), .m 7 17]) (.seq (.region [.m 18 1, .o 19 (.bin .and (.tmp 18) (.const (.int .u64 4294967295))), .m 8 19]) (.seq (.region [.m 20 1, .o 21 (.bin .shr (.tmp 20) (.const (.int .u64 32))), .m 9 21]) (.seq (.region [.m 22 6, .m 23 8, .o 24 (.b .mul 22 23), .m 10 24]) (.seq (.region [.m 25 7, .m 26 8, .o 27 (.b .mul 25 26), .m 28 10, .o 29 (.bin .shr (.tmp 28) (.const (.int .u64 32))), .o 30 (.b .add 27 29), .m 11 30]) (.seq (.region [.m 31 11, .o 32 (.bin .and (.tmp 31) (.const (.int .u64 4294967295))), .m 12 32]) (.seq (.region [.m 33 11, .o 34 (.bin .shr (.tmp 33) (.const (.int .u64 32))), .m 13 34]) (.seq (.region [.m 35 12, .m 36 6, .m 37 9, .o 38 (.b .mul 36 37), .o 39 (.b .add 35 38), .m 12 39]) (.seq (.region [.m 40 7, .m 41 9, .o 42 (.b .mul 40 41), .m 43 13, .o 44 (.b .add 42 43), .m 45 12, .o 46 (.bin .shr (.tmp 45) (.const (.int .u64 32))), .o 47 (.b .add 44 46), .m 4 47]) (.seq (.region [.m 48 0, .m 49 1, .o 50 (.b .mul 48 49), .m 5 50]) .ret))))))))))))
def F124:AFun:=⟨c124,2,51,[(.tmp 4),(.tmp 5)]⟩
def K124:Nat→List Nat×List Nat
 |_=>([],[])
theorem F124_ok:kj8 Try.prog K124 noRg Try.f124=some F124:=by kernel_rfl
/- 125: slices.insertionSortCmpFunc[[]int] -/
def c125L0:ACode:=(.seq (.seq (.region [.m 18 9, .m 19 1, .o 20 (.b .gtr 18 19), .m 21 20, .g 22 (.m 3) 21 true, .g 23 (.m 0) 21 true, .g 24 (.m 9) 21 true, .g 25 (.i 1 23 24) 21 true, .g 26 (.l 25) 21 true, .g 27 (.m 0) 21 true, .g 28 (.m 9) 21 true, .g 29 (.c .sub 28 1) 21 true, .g 30 (.i 1 27 29) 21 true, .g 31 (.l 30) 21 true, .g 32 (.calld (.tmp 22) [(.tmp 26),(.tmp 31)]) 21 true, .g 33 (.c .lss 32 0) 21 true, .o 34 (.pick (.tmp 21) (.tmp 33) (.const (.bool false)))]) (.cond (.tmp 34) .skip (.exit 2))) (.seq (.block 3 [0,1,2,3,8,9] (.region [.m 37 0, .m 38 9, .m 39 0, .m 40 9, .o 41 (.c .sub 40 1), .m 42 0, .m 43 9, .o 44 (.c .sub 43 1), .o 45 (.i 1 42 44), .o 46 (.l 45), .m 47 0, .m 48 9, .o 49 (.i 1 47 48), .o 50 (.l 49), .o 51 (.i 1 37 38), .n (.st 1 (.tmp 51) (.tmp 46)), .o 52 (.i 1 39 41), .n (.st 1 (.tmp 52) (.tmp 50))])) (.region [.m 35 9, .o 36 (.c .sub 35 1), .m 9 36])))
def c125L1:ACode:=(.seq (.seq (.region [.m 12 8, .m 13 2, .o 14 (.b .lss 12 13)]) (.cond (.tmp 14) .skip (.exit 0))) (.seq (.block 1 [0,1,2,3,8] (.seq (.region [.m 17 8, .m 9 17]) (.block 2 [0,1,2,3,8] (.loop [0,1,2,3,8,9] c125L0)))) (.region [.m 15 8, .o 16 (.c .add 15 1), .m 8 16])))
def c125:ACode:=(.seq (.region [.m 10 1, .o 11 (.c .add 10 1), .m 8 11]) (.block 0 [] (.loop [0,1,2,3,8] c125L1)))
def F125:AFun:=⟨c125,4,53,[]⟩
def K125:Nat→List Nat×List Nat
 |0=>([0,1,2,3,8],[])
 |1=>([],[0,1,2,3,8])
 |2=>([0,1,2,3,8,9],[0,1,2,3,8])
 |3=>([],[0,1,2,3,8,9])
 |_=>([],[])
theorem F125_ok:kj8 Try.prog K125 noRg Try.f125=some F125:=by kernel_rfl
/- 126: slices.symMergeCmpFunc[[]int] -/
def c126L0:ACode:=(.seq (.seq (.region [.m 31 10, .m 32 11, .o 33 (.b .lss 31 32)]) (.cond (.tmp 33) .skip (.exit 0))) (.block 1 [0,1,4,10,11] (.seq (.region [.m 34 10, .m 35 11, .o 36 (.b .add 34 35), .o 37 (.conv .u64 (.tmp 36)), .o 38 (.bin .shr (.tmp 37) (.const (.int .u64 1))), .o 39 (.conv .i64 (.tmp 38)), .m 12 39]) (.seq (.region [.m 40 4, .m 41 0, .m 42 12, .o 43 (.i 1 41 42), .o 44 (.l 43), .m 45 0, .m 46 1, .o 47 (.i 1 45 46), .o 48 (.l 47), .o 49 (.calld (.tmp 40) [(.tmp 44),(.tmp 48)]), .o 50 (.c .lss 49 0)]) (.cond (.tmp 50) (.region [.m 51 12, .o 52 (.c .add 51 1), .m 10 52]) (.region [.m 53 12, .m 11 53]))))))
def c126L1:ACode:=(.seq (.seq (.region [.m 55 13, .m 56 10, .o 57 (.c .sub 56 1), .o 58 (.b .lss 55 57)]) (.cond (.tmp 58) .skip (.exit 2))) (.seq (.block 3 [0,10,13] (.region [.m 61 0, .m 62 13, .m 63 0, .m 64 13, .o 65 (.c .add 64 1), .m 66 0, .m 67 13, .o 68 (.c .add 67 1), .o 69 (.i 1 66 68), .o 70 (.l 69), .m 71 0, .m 72 13, .o 73 (.i 1 71 72), .o 74 (.l 73), .o 75 (.i 1 61 62), .n (.st 1 (.tmp 75) (.tmp 70)), .o 76 (.i 1 63 65), .n (.st 1 (.tmp 76) (.tmp 74))])) (.region [.m 59 13, .o 60 (.c .add 59 1), .m 13 60])))
def c126L2:ACode:=(.seq (.seq (.region [.m 83 14, .m 84 15, .o 85 (.b .lss 83 84)]) (.cond (.tmp 85) .skip (.exit 4))) (.block 5 [0,2,4,14,15] (.seq (.region [.m 86 14, .m 87 15, .o 88 (.b .add 86 87), .o 89 (.conv .u64 (.tmp 88)), .o 90 (.bin .shr (.tmp 89) (.const (.int .u64 1))), .o 91 (.conv .i64 (.tmp 90)), .m 16 91]) (.seq (.region [.m 92 4, .m 93 0, .m 94 2, .o 95 (.i 1 93 94), .o 96 (.l 95), .m 97 0, .m 98 16, .o 99 (.i 1 97 98), .o 100 (.l 99), .o 101 (.calld (.tmp 92) [(.tmp 96),(.tmp 100)]), .o 102 (.c .lss 101 0), .o 103 (.un .not (.tmp 102))]) (.cond (.tmp 103) (.region [.m 104 16, .o 105 (.c .add 104 1), .m 14 105]) (.region [.m 106 16, .m 15 106]))))))
def c126L3:ACode:=(.seq (.seq (.region [.m 108 17, .m 109 14, .o 110 (.b .gtr 108 109)]) (.cond (.tmp 110) .skip (.exit 6))) (.seq (.block 7 [0,14,17] (.region [.m 113 0, .m 114 17, .m 115 0, .m 116 17, .o 117 (.c .sub 116 1), .m 118 0, .m 119 17, .o 120 (.c .sub 119 1), .o 121 (.i 1 118 120), .o 122 (.l 121), .m 123 0, .m 124 17, .o 125 (.i 1 123 124), .o 126 (.l 125), .o 127 (.i 1 113 114), .n (.st 1 (.tmp 127) (.tmp 122)), .o 128 (.i 1 115 117), .n (.st 1 (.tmp 128) (.tmp 126))])) (.region [.m 111 17, .o 112 (.c .sub 111 1), .m 17 112])))
def c126L4:ACode:=(.seq (.seq (.region [.m 149 20, .m 150 21, .o 151 (.b .lss 149 150)]) (.cond (.tmp 151) .skip (.exit 8))) (.block 9 [0,1,2,3,4,18,19,20,21,22] (.seq (.region [.m 152 20, .m 153 21, .o 154 (.b .add 152 153), .o 155 (.conv .u64 (.tmp 154)), .o 156 (.bin .shr (.tmp 155) (.const (.int .u64 1))), .o 157 (.conv .i64 (.tmp 156)), .m 23 157]) (.seq (.region [.m 158 4, .m 159 0, .m 160 22, .m 161 23, .o 162 (.b .sub 160 161), .o 163 (.i 1 159 162), .o 164 (.l 163), .m 165 0, .m 166 23, .o 167 (.i 1 165 166), .o 168 (.l 167), .o 169 (.calld (.tmp 158) [(.tmp 164),(.tmp 168)]), .o 170 (.c .lss 169 0), .o 171 (.un .not (.tmp 170))]) (.cond (.tmp 171) (.region [.m 172 23, .o 173 (.c .add 172 1), .m 20 173]) (.region [.m 174 23, .m 21 174]))))))
def c126:ACode:=(.seq (.seq (.region [.m 25 2, .m 26 1, .o 27 (.b .sub 25 26), .o 28 (.c .eql 27 1)]) (.cond (.tmp 28) (.seq (.region [.m 29 2, .m 10 29]) (.seq (.region [.m 30 3, .m 11 30]) (.seq (.block 0 [0,1,10] (.loop [0,1,4,10,11] c126L0)) (.seq (.seq (.region [.m 54 1, .m 13 54]) (.block 2 [] (.loop [0,10,13] c126L1))) .ret)))) .skip)) (.seq (.seq (.region [.m 77 3, .m 78 2, .o 79 (.b .sub 77 78), .o 80 (.c .eql 79 1)]) (.cond (.tmp 80) (.seq (.region [.m 81 1, .m 14 81]) (.seq (.region [.m 82 2, .m 15 82]) (.seq (.block 4 [0,2,14] (.loop [0,2,4,14,15] c126L2)) (.seq (.seq (.region [.m 107 2, .m 17 107]) (.block 6 [] (.loop [0,14,17] c126L3))) .ret)))) .skip)) (.seq (.region [.m 129 1, .m 130 3, .o 131 (.b .add 129 130), .o 132 (.conv .u64 (.tmp 131)), .o 133 (.bin .shr (.tmp 132) (.const (.int .u64 1))), .o 134 (.conv .i64 (.tmp 133)), .m 18 134]) (.seq (.region [.m 135 18, .m 136 2, .o 137 (.b .add 135 136), .m 19 137]) (.seq (.region [.k 20 0, .k 21 0]) (.seq (.seq (.region [.m 138 2, .m 139 18, .o 140 (.b .gtr 138 139)]) (.cond (.tmp 140) (.seq (.region [.m 141 19, .m 142 3, .o 143 (.b .sub 141 142), .m 20 143]) (.region [.m 144 18, .m 21 144])) (.seq (.region [.m 145 1, .m 20 145]) (.region [.m 146 2, .m 21 146])))) (.seq (.region [.m 147 19, .o 148 (.c .sub 147 1), .m 22 148]) (.seq (.block 8 [0,1,2,3,4,18,19,20] (.loop [0,1,2,3,4,18,19,20,21,22] c126L4)) (.seq (.region [.m 175 19, .m 176 20, .o 177 (.b .sub 175 176), .m 24 177]) (.seq (.seq (.region [.m 178 20, .m 179 2, .o 180 (.b .lss 178 179), .m 181 180, .g 182 (.m 2) 181 true, .g 183 (.m 24) 181 true, .g 184 (.b .lss 182 183) 181 true, .o 185 (.pick (.tmp 181) (.tmp 184) (.const (.bool false)))]) (.cond (.tmp 185) (.region [.m 186 0, .m 187 20, .m 188 2, .m 189 24, .m 190 4, .o 191 (.q 144 [186,187,188,189,190])]) .skip)) (.seq (.seq (.region [.m 192 1, .m 193 20, .o 194 (.b .lss 192 193), .m 195 194, .g 196 (.m 20) 195 true, .g 197 (.m 18) 195 true, .g 198 (.b .lss 196 197) 195 true, .o 199 (.pick (.tmp 195) (.tmp 198) (.const (.bool false)))]) (.cond (.tmp 199) (.region [.m 200 0, .m 201 1, .m 202 20, .m 203 18, .m 204 4, .o 205 (.q 126 [200,201,202,203,204])]) .skip)) (.seq (.region [.m 206 18, .m 207 24, .o 208 (.b .lss 206 207), .m 209 208, .g 210 (.m 24) 209 true, .g 211 (.m 3) 209 true, .g 212 (.b .lss 210 211) 209 true, .o 213 (.pick (.tmp 209) (.tmp 212) (.const (.bool false)))]) (.cond (.tmp 213) (.region [.m 214 0, .m 215 18, .m 216 24, .m 217 3, .m 218 4, .o 219 (.q 126 [214,215,216,217,218])]) .skip)))))))))))))
def F126:AFun:=⟨c126,5,220,[]⟩
def K126:Nat→List Nat×List Nat
 |0=>([0,1,4,10,11],[0,1,10])
 |1=>([],[0,1,4,10,11])
 |2=>([0,10,13],[])
 |3=>([],[0,10,13])
 |4=>([0,2,4,14,15],[0,2,14])
 |5=>([],[0,2,4,14,15])
 |6=>([0,14,17],[])
 |7=>([],[0,14,17])
 |8=>([0,1,2,3,4,18,19,20,21,22],[0,1,2,3,4,18,19,20])
 |9=>([],[0,1,2,3,4,18,19,20,21,22])
 |_=>([],[])
theorem F126_ok:kj8 Try.prog K126 noRg Try.f126=some F126:=by kernel_rfl
end Go.Proofs.Ytoglhlonhmmieaa
