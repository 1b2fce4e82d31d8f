/-
  Functions of this seat as the small machine's code, written by a program of my own (gen.py); each is checked to be what the model's function is turned into. No condition.
-/
import Derived.Test.YtoglhlonhmmieaaK2
import Derived.Test.YtoglhlonhmmieaaProg
set_option linter.unusedVariables false
set_option linter.unusedSimpArgs false
set_option linter.unusedSectionVars false
set_option maxRecDepth 100000
namespace Go.Proofs.Ytoglhlonhmmieaa
open Go.Am
/- 4: syndrome/syndrometop.TopBounds -/
def c4L0:ACode:=(.seq (.seq (.region [.m 190 28, .o 191 (.f 1 11), .o 192 (.l 191), .o 193 (.b .leq 190 192)]) (.cond (.tmp 193) .skip (.exit 0))) (.seq (.block 1 [4,11,14,17,27,28] (.region [.m 196 27, .m 197 4, .m 198 28, .o 199 (.q 23 [197,198]), .o 200 (.call 22 [(.tmp 199),(.const (.int .i64 4))]), .o 201 (.mkSl 3 1 1 [(.tmp 200)]), .o 202 (.app 3 1 8 (.tmp 196) (.tmp 201)), .m 27 202])) (.region [.m 194 28, .o 195 (.c .add 194 1), .m 28 195])))
def c4:ACode:=(.seq (.region [.o 10 (.mv (.const (.bool false)))]) (.seq (.seq (.region [.m 32 0, .o 33 (.n 32), .m 34 4, .o 35 (.n 34), .o 36 (.b .add 33 35), .o 37 (.c .gtr 36 256)]) (.cond (.tmp 37) (.seq (.region [.o 10 (.mv (.const (.bool true)))]) .ret) .skip)) (.seq (.region [.m 38 0, .m 39 1, .m 40 2, .m 41 3, .o 42 (.q 9 [38,39,40,41]), .o 11 (.alloc 25 [(.int .i64 0),(.int .i64 0),(.slice none 0 0)]), .n (.st 3 (.tmp 11) (.tmp 42))]) (.seq (.region [.o 44 (.ld true 3 (.tmp 11)), .o 45 (.q 15 [44]), .m 43 45, .o 46 (.e 0 43), .o 47 (.e 1 43), .o 12 (.alloc 25 [(.int .i64 0),(.int .i64 0),(.slice none 0 0)]), .n (.st 3 (.tmp 12) (.tmp 46)), .m 13 47]) (.seq (.region [.o 49 (.ld true 3 (.tmp 11)), .o 50 (.q 16 [49]), .m 48 50, .o 51 (.e 0 48), .o 52 (.e 1 48), .m 14 51, .m 15 52]) (.seq (.seq (.region [.m 53 13, .o 54 (.c .neq 53 0), .m 55 54, .g 56 (.m 15) 55 false, .g 57 (.c .neq 56 0) 55 false, .o 58 (.pick (.tmp 55) (.const (.bool true)) (.tmp 57)), .m 59 58, .g 60 (.f 1 12) 59 false, .g 61 (.l 60) 59 false, .g 62 (.f 1 11) 59 false, .g 63 (.l 62) 59 false, .g 64 (.b .neq 61 63) 59 false, .o 65 (.pick (.tmp 59) (.const (.bool true)) (.tmp 64))]) (.cond (.tmp 65) (.seq (.region [.o 10 (.mv (.const (.bool false)))]) .ret) .skip)) (.seq (.region [.o 66 (.f 0 11), .o 67 (.l 66), .o 68 (.f 1 11), .o 69 (.l 68), .o 70 (.q 13 [67,69]), .m 16 70]) (.seq (.seq (.region [.m 71 14, .o 72 (.c .eql 71 0), .m 73 72, .g 74 (.m 16) 73 false, .g 75 (.c .lss 74 0) 73 false, .o 76 (.pick (.tmp 73) (.const (.bool true)) (.tmp 75))]) (.cond (.tmp 76) (.seq (.region [.m 77 14, .o 78 (.c .gtr 77 0), .m 79 78, .g 80 (.f 2 12) 79 false, .g 81 (.l 80) 79 false, .g 82 (.n 81) 79 false, .g 83 (.c .eql 82 0) 79 false, .o 84 (.pick (.tmp 79) (.const (.bool true)) (.tmp 83)), .m 10 84]) .ret) .skip)) (.seq (.region [.o 85 (.f 0 11), .o 86 (.l 85), .o 87 (.f 2 12), .o 88 (.l 87), .o 89 (.n 88), .o 90 (.q 13 [86,89]), .m 17 90]) (.seq (.region [.o 92 (.f 0 11), .o 93 (.l 92), .o 94 (.f 1 11), .o 95 (.l 94), .m 96 14, .o 97 (.q 17 [93,95,96]), .m 91 97, .o 98 (.e 0 91), .o 99 (.e 1 91), .m 18 98, .m 13 99]) (.seq (.region [.o 101 (.f 0 11), .o 102 (.l 101), .o 103 (.f 1 11), .o 104 (.l 103), .m 105 14, .o 106 (.q 18 [102,104,105]), .m 100 106, .o 107 (.e 0 100), .o 108 (.e 1 100), .m 19 107, .m 20 108]) (.seq (.region [.o 110 (.f 0 11), .o 111 (.l 110), .o 112 (.f 1 11), .o 113 (.l 112), .m 114 14, .o 115 (.q 19 [111,113,114]), .m 109 115, .o 116 (.e 0 109), .o 117 (.e 1 109), .m 21 116, .m 22 117]) (.seq (.region [.o 119 (.f 0 11), .o 120 (.l 119), .o 121 (.f 1 11), .o 122 (.l 121), .m 123 14, .o 124 (.q 20 [120,122,123]), .m 118 124, .o 125 (.e 0 118), .o 126 (.e 1 118), .m 23 125, .m 24 126]) (.seq (.region [.o 128 (.f 0 11), .o 129 (.l 128), .o 130 (.f 2 12), .o 131 (.l 130), .o 132 (.n 131), .m 133 14, .o 134 (.q 21 [129,132,133]), .m 127 134, .o 135 (.e 0 127), .o 136 (.e 1 127), .m 25 135, .m 26 136]) (.seq (.seq (.region [.m 137 13, .o 138 (.c .neq 137 0), .m 139 138, .g 140 (.m 20) 139 false, .g 141 (.c .neq 140 0) 139 false, .o 142 (.pick (.tmp 139) (.const (.bool true)) (.tmp 141)), .m 143 142, .g 144 (.m 22) 143 false, .g 145 (.c .neq 144 0) 143 false, .o 146 (.pick (.tmp 143) (.const (.bool true)) (.tmp 145)), .m 147 146, .g 148 (.m 24) 147 false, .g 149 (.c .neq 148 0) 147 false, .o 150 (.pick (.tmp 147) (.const (.bool true)) (.tmp 149)), .m 151 150, .g 152 (.m 26) 151 false, .g 153 (.c .neq 152 0) 151 false, .o 154 (.pick (.tmp 151) (.const (.bool true)) (.tmp 153)), .m 155 154, .g 156 (.m 17) 155 false, .g 157 (.m 18) 155 false, .g 158 (.b .gtr 156 157) 155 false, .o 159 (.pick (.tmp 155) (.const (.bool true)) (.tmp 158)), .m 160 159, .g 161 (.m 17) 160 false, .g 162 (.m 19) 160 false, .g 163 (.b .gtr 161 162) 160 false, .o 164 (.pick (.tmp 160) (.const (.bool true)) (.tmp 163)), .m 165 164, .g 166 (.m 21) 165 false, .g 167 (.c .gtr 166 0) 165 false, .g 168 (.m 167) 165 false, .g 169 (.m 17) 168 true, .g 170 (.m 21) 168 true, .g 171 (.b .gtr 169 170) 168 true, .g 172 (.pick (.tmp 168) (.tmp 171) (.const (.bool false))) 165 false, .o 173 (.pick (.tmp 165) (.const (.bool true)) (.tmp 172)), .m 174 173, .g 175 (.m 25) 174 false, .g 176 (.f 1 11) 174 false, .g 177 (.l 176) 174 false, .g 178 (.b .gtr 175 177) 174 false, .o 179 (.pick (.tmp 174) (.const (.bool true)) (.tmp 178)), .m 180 179, .g 181 (.m 23) 180 false, .g 182 (.m 18) 180 false, .g 183 (.b .gtr 181 182) 180 false, .o 184 (.pick (.tmp 180) (.const (.bool true)) (.tmp 183)), .m 185 184, .g 186 (.m 23) 185 false, .g 187 (.c .lss 186 1) 185 false, .o 188 (.pick (.tmp 185) (.const (.bool true)) (.tmp 187))]) (.cond (.tmp 188) (.seq (.region [.o 10 (.mv (.const (.bool false)))]) .ret) .skip)) (.seq (.region [.o 189 (.mkSl 3 1 1 [(.const (.int .i64 1))]), .m 27 189]) (.seq (.seq (.region [.k 28 1]) (.block 0 [11,14,17,27] (.loop [4,11,14,17,27,28] c4L0))) (.seq (.region [.o 204 (.f 0 11), .o 205 (.l 204), .o 206 (.f 1 11), .o 207 (.l 206), .m 208 14, .m 209 27, .o 210 (.q 24 [205,207,208,209]), .m 203 210, .o 211 (.e 0 203), .o 212 (.e 1 203), .o 213 (.e 2 203), .o 214 (.e 3 203), .m 29 211, .m 30 212, .m 31 213, .m 13 214]) (.seq (.region [.m 215 13, .o 216 (.c .eql 215 0), .m 217 216, .g 218 (.m 31) 217 true, .g 219 (.un .not (.tmp 218)) 217 true, .g 220 (.m 219) 217 true, .g 221 (.m 30) 220 false, .g 222 (.c .eql 221 1) 220 false, .g 223 (.m 222) 220 false, .g 224 (.m 17) 223 true, .g 225 (.m 29) 223 true, .g 226 (.b .leq 224 225) 223 true, .g 227 (.pick (.tmp 223) (.tmp 226) (.const (.bool false))) 220 false, .g 228 (.pick (.tmp 220) (.const (.bool true)) (.tmp 227)) 217 true, .o 229 (.pick (.tmp 217) (.tmp 228) (.const (.bool false))), .m 10 229]) .ret)))))))))))))))))))
def F4:AFun:=⟨c4,5,230,[(.tmp 10)]⟩
def K4:Nat→List Nat×List Nat
 |0=>([4,11,14,17,27,28],[11,14,17,27])
 |1=>([],[4,11,14,17,27,28])
 |_=>([],[])
theorem F4_ok:kj8 Try.prog K4 noRg Try.f4=some F4:=by kernel_rfl
/- 9: syndrome/syndromeref.CodeOf -/
def c9L0:ACode:=(.seq (.seq (.region [.m 18 1, .m 19 9, .o 20 (.c .add 19 1), .o 21 (.q 45 [18,20]), .m 22 21, .g 23 (.m 9) 22 true, .g 24 (.c .lss 23 5) 22 true, .o 25 (.pick (.tmp 22) (.tmp 24) (.const (.bool false)))]) (.cond (.tmp 25) .skip (.exit 0))) (.block 1 [0,1,2,3,8,9] (.region [.m 26 9, .o 27 (.c .add 26 1), .m 9 27])))
def c9:ACode:=(.seq (.region [.o 8 (.alloc 25 [(.int .i64 0),(.int .i64 0),(.slice none 0 0)])]) (.seq (.region [.o 10 (.mkSl 3 1 6 [(.const (.int .i64 2)),(.const (.int .i64 2)),(.const (.int .i64 3)),(.const (.int .i64 4)),(.const (.int .i64 5)),(.const (.int .i64 8))]), .m 11 1, .o 12 (.call 22 [(.tmp 11),(.const (.int .i64 6))]), .o 13 (.i 1 10 12), .o 14 (.l 13), .m 1 14]) (.seq (.region [.m 15 2, .o 16 (.call 22 [(.tmp 15),(.const (.int .i64 12))]), .o 17 (.bin .add (.const (.int .i64 1)) (.tmp 16)), .m 2 17]) (.seq (.region [.k 9 0]) (.seq (.block 0 [0,1,2,3,8,9] (.loop [0,1,2,3,8,9] c9L0)) (.seq (.region [.m 28 1, .m 29 2, .m 30 0, .m 31 1, .m 32 3, .m 33 9, .o 34 (.c .add 33 1), .o 35 (.q 22 [32,34]), .m 36 2, .o 37 (.call 46 [(.tmp 30),(.const (.int .i64 0)),(.tmp 31),(.tmp 35),(.tmp 36)]), .o 38 (.build [(.int .i64 0),(.int .i64 0),(.slice none 0 0)] [(0,1),(1,1),(2,1)] [(0,(.tmp 28)),(1,(.tmp 29)),(2,(.tmp 37))]), .n (.st 3 (.tmp 8) (.tmp 38))]) .ret))))))
def F9:AFun:=⟨c9,4,39,[(.cell 8 true 3)]⟩
def K9:Nat→List Nat×List Nat
 |0=>([0,1,2,3,8,9],[0,1,2,3,8,9])
 |1=>([],[0,1,2,3,8,9])
 |_=>([],[])
theorem F9_ok:kj8 Try.prog K9 noRg Try.f9=some F9:=by kernel_rfl
/- 11: syndrome/code.Weights -/
def c11L0:ACode:=(.seq (.seq (.region [.m 59 38, .o 60 (.c .geq 59 0)]) (.cond (.tmp 60) .skip (.exit 2))) (.seq (.block 3 [5,33,35,37,38,113] (.seq (.region [.m 63 37, .m 64 38, .o 65 (.i 1 63 64), .o 66 (.l 65), .o 67 (.c .add 66 1), .o 68 (.i 1 63 64), .n (.st 1 (.tmp 68) (.tmp 67))]) (.seq (.seq (.region [.m 69 37, .m 70 38, .o 71 (.i 1 69 70), .o 72 (.l 71), .o 73 (.f 0 33), .o 74 (.l 73), .o 75 (.b .lss 72 74)]) (.cond (.tmp 75) (.exit 2) .skip)) (.region [.m 76 37, .m 77 38, .o 78 (.i 1 76 77), .n (.st 1 (.tmp 78) (.const (.int .i64 0)))])))) (.region [.m 61 38, .o 62 (.c .sub 61 1), .m 38 62])))
def c11L1:ACode:=(.seq (.seq (.seq (.region [.m 50 37, .m 51 35, .o 52 (.ld true 3 (.tmp 33)), .m 53 37, .o 54 (.q 90 [51,52,53]), .o 113 (.pick (.tmp 113) (.tmp 114) (.const (.bool false))), .m 86 5, .m 103 50, .m 104 54]) (.seq (.block 1001 [5,33,35,37,113] (.seq (.region [.m 88 104]) (.block 1 [5,33,35,37,113] (.region [.o 105 (.l 86), .m 106 88,⟨(some 107),(.call 50 [(.tmp 106)]),none,true⟩, .o 108 (.i 1 105 107), .o 109 (.l 108), .o 110 (.c .add 109 1), .o 111 (.i 1 105 107), .n (.st 1 (.tmp 111) (.tmp 110))])))) (.region [.o 55 (.un .not (.tmp 113))]))) (.cond (.tmp 55) .skip (.exit 0))) (.block 1 [5,33,35,37,113] (.seq (.region [.m 56 37, .o 57 (.n 56), .o 58 (.c .sub 57 1), .m 38 58]) (.seq (.block 2 [5,33,35,37,38,113] (.loop [5,33,35,37,38,113] c11L0)) (.seq (.region [.m 79 38, .o 80 (.c .lss 79 0)]) (.cond (.tmp 80) (.exit 1000) .skip))))))
def c11:ACode:=(.seq (.region [.o 1 (.box 25 3 (.tmp 0)), .o 2 (.mv (.const (.slice none 0 0))), .k 3 0]) (.seq (.region [.o 9 (.ld true 3 (.tmp 1)), .o 10 (.q 48 [9]), .m 8 10, .o 11 (.e 0 8), .o 12 (.e 1 8), .n (.st 3 (.tmp 1) (.tmp 11)), .m 4 12]) (.seq (.seq (.region [.m 13 4, .o 14 (.c .neq 13 0)]) (.cond (.tmp 14) (.seq (.region [.m 15 4, .o 2 (.mv (.const (.slice none 0 0))), .m 3 15]) .ret) .skip)) (.seq (.region [.o 16 (.f 1 1), .o 17 (.l 16), .o 18 (.c .add 17 1), .o 19 (.mks 3 1 8 [(.int .i64 0)] (.tmp 18) (.tmp 18)), .o 5 (.alloc 22 [(.slice none 0 0)]), .n (.st 1 (.tmp 5) (.tmp 19))]) (.seq (.seq (.region [.o 20 (.ld true 3 (.tmp 1)), .o 21 (.q 49 [20])]) (.block 0 [5] (.seq (.block 0 [5,21] .skip) (.seq (.region [.o 113 (.mv (.const (.bool false))), .o 33 (.capt 89 1 0 (.tmp 21))]) (.seq (.block 1000 [113,5] (.seq (.region [.o 40 (.f 0 33), .o 41 (.l 40), .o 42 (.q 58 [41]), .m 39 42, .o 43 (.e 0 39), .o 44 (.e 1 39), .m 35 43, .m 36 44]) (.seq (.region [.o 45 (.f 2 33), .o 46 (.l 45), .o 47 (.n 46), .o 48 (.mks 3 1 8 [(.int .i64 0)] (.tmp 47) (.tmp 47)), .m 37 48]) (.block 0 [5,113] (.loop [5,33,35,37,113] c11L1))))) (.cond (.tmp 113) (.seq (.block 0 [5] .skip) .ret) (.block 0 [5] .skip))))))) (.seq (.region [.o 31 (.l 5), .m 2 31, .k 3 0]) .ret))))))
def F11:AFun:=⟨c11,1,32,[(.tmp 2),(.tmp 3)]⟩
def K11:Nat→List Nat×List Nat
 |0=>([],[5])
 |_=>([],[])
def K11I0:Nat→List Nat×List Nat
 |0=>([5,33,35,37,113],[5,113])
 |1=>([5,113],[5,33,35,37,113])
 |2=>([5,33,35,37,38,113],[5,33,35,37,38,113])
 |3=>([5,113],[5,33,35,37,38,113])
 |_=>([],[])
def K11B0:Nat→List Nat×List Nat
 |1=>([5,33,35,37,113],[5,33,35,37,113])
 |_=>([],[])
def R11:Nat→Option RgIn
 |0=>some ⟨89,1,1000,1001,[5,21],[5],[5,33,35,37,113],[5],[0,17],K11I0,K11B0⟩
 |_=>none
theorem F11_ok:kj8 Try.prog K11 R11 Try.f11=some F11:=by kernel_rfl
/- 13: syndrome/syndromeref.Power -/
def c13L0:ACode:=(.seq (.seq (.region [.m 7 6, .m 8 1, .o 9 (.b .lss 7 8)]) (.cond (.tmp 9) .skip (.exit 0))) (.seq (.block 1 [0,1,5,6] (.seq (.region [.m 12 5, .m 13 0, .o 14 (.b .mul 12 13), .m 5 14]) (.seq (.region [.m 15 5, .o 16 (.c .gtr 15 1073741824)]) (.cond (.tmp 16) (.seq (.region [.k 4 (-1)]) .ret) .skip)))) (.region [.m 10 6, .o 11 (.c .add 10 1), .m 6 11])))
def c13:ACode:=(.seq (.region [.k 4 0]) (.seq (.region [.k 5 1]) (.seq (.seq (.region [.k 6 0]) (.block 0 [5] (.loop [0,1,5,6] c13L0))) (.seq (.region [.m 17 5, .m 4 17]) .ret))))
def F13:AFun:=⟨c13,2,18,[(.tmp 4)]⟩
def K13:Nat→List Nat×List Nat
 |0=>([0,1,5,6],[5])
 |1=>([],[0,1,5,6])
 |_=>([],[])
theorem F13_ok:kj8 Try.prog K13 noRg Try.f13=some F13:=by kernel_rfl
/- 15: syndrome/code.Make -/
def c15:ACode:=(.seq (.region [.o 1 (.box 25 3 (.tmp 0)), .o 2 (.alloc 25 [(.int .i64 0),(.int .i64 0),(.slice none 0 0)]), .k 3 0]) (.seq (.seq (.region [.o 8 (.ld true 3 (.tmp 1)), .o 9 (.q 54 [8]), .m 4 9]) (.seq (.region [.m 10 4, .o 11 (.c .neq 10 0)]) (.cond (.tmp 11) (.seq (.region [.o 12 (.build [(.int .i64 0),(.int .i64 0),(.slice none 0 0)] [(0,1),(1,1),(2,1)] []), .m 13 4, .n (.st 3 (.tmp 2) (.tmp 12)), .m 3 13]) .ret) .skip))) (.seq (.region [.o 15 (.f 0 1), .o 16 (.l 15), .o 17 (.f 2 1), .o 18 (.l 17), .o 19 (.q 55 [16,18]), .m 14 19, .o 20 (.e 0 14), .o 21 (.e 1 14), .o 22 (.e 2 14), .m 5 20, .m 6 21, .m 7 22]) (.seq (.region [.o 23 (.f 0 1), .o 24 (.l 23), .o 25 (.f 1 1), .o 26 (.l 25), .m 27 5, .o 28 (.build [(.int .i64 0),(.int .i64 0),(.slice none 0 0)] [(0,1),(1,1),(2,1)] [(0,(.tmp 24)),(1,(.tmp 26)),(2,(.tmp 27))]), .n (.st 3 (.tmp 2) (.tmp 28)), .k 3 0]) .ret))))
def F15:AFun:=⟨c15,1,29,[(.cell 2 true 3),(.tmp 3)]⟩
def K15:Nat→List Nat×List Nat
 |_=>([],[])
theorem F15_ok:kj8 Try.prog K15 noRg Try.f15=some F15:=by kernel_rfl
/- 16: syndrome/code.Distance -/
def c16L0:ACode:=(.seq (.seq (.region [.m 15 6, .m 16 4, .o 17 (.n 16), .o 18 (.b .lss 15 17)]) (.cond (.tmp 18) .skip (.exit 0))) (.seq (.block 1 [4,6] (.seq (.region [.m 21 4, .m 22 6, .o 23 (.i 1 21 22), .o 24 (.l 23), .o 25 (.c .gtr 24 0)]) (.cond (.tmp 25) (.seq (.region [.m 26 6, .m 2 26, .k 3 0]) .ret) .skip))) (.region [.m 19 6, .o 20 (.c .add 19 1), .m 6 20])))
def c16:ACode:=(.seq (.region [.o 1 (.box 25 3 (.tmp 0)), .k 2 0, .k 3 0]) (.seq (.region [.o 8 (.ld true 3 (.tmp 1)), .o 9 (.q 11 [8]), .m 7 9, .o 10 (.e 0 7), .o 11 (.e 1 7), .m 4 10, .m 5 11]) (.seq (.seq (.region [.m 12 5, .o 13 (.c .neq 12 0)]) (.cond (.tmp 13) (.seq (.region [.m 14 5, .k 2 0, .m 3 14]) .ret) .skip)) (.seq (.seq (.region [.k 6 1]) (.block 0 [] (.loop [4,6] c16L0))) (.seq (.region [.k 2 0, .k 3 0]) .ret)))))
def F16:AFun:=⟨c16,1,27,[(.tmp 2),(.tmp 3)]⟩
def K16:Nat→List Nat×List Nat
 |0=>([4,6],[])
 |1=>([],[4,6])
 |_=>([],[])
theorem F16_ok:kj8 Try.prog K16 noRg Try.f16=some F16:=by kernel_rfl
/- 17: syndrome/weights.Hamming -/
def c17:ACode:=(.seq (.region [.k 6 0, .k 7 0]) (.seq (.seq (.region [.m 9 0, .m 10 1, .m 11 2, .o 12 (.q 56 [9,10,11]), .m 8 12]) (.seq (.region [.m 13 8, .o 14 (.c .neq 13 0)]) (.cond (.tmp 14) (.seq (.region [.m 15 8, .k 6 0, .m 7 15]) .ret) .skip))) (.seq (.region [.m 16 0, .m 17 1, .o 18 (.q 52 [16,17]), .m 19 0, .m 20 1, .m 21 2, .o 22 (.c .sub 21 1), .o 23 (.c .quo 22 2), .o 24 (.q 57 [19,20,23]), .o 25 (.b .quo 18 24), .m 6 25, .k 7 0]) .ret)))
def F17:AFun:=⟨c17,3,26,[(.tmp 6),(.tmp 7)]⟩
def K17:Nat→List Nat×List Nat
 |_=>([],[])
theorem F17_ok:kj8 Try.prog K17 noRg Try.f17=some F17:=by kernel_rfl
/- 18: syndrome/weights.Singleton -/
def c18:ACode:=(.seq (.region [.k 6 0, .k 7 0]) (.seq (.seq (.region [.m 9 0, .m 10 1, .m 11 2, .o 12 (.q 56 [9,10,11]), .m 8 12]) (.seq (.region [.m 13 8, .o 14 (.c .neq 13 0)]) (.cond (.tmp 14) (.seq (.region [.m 15 8, .k 6 0, .m 7 15]) .ret) .skip))) (.seq (.region [.m 16 0, .m 17 1, .m 18 2, .o 19 (.b .sub 17 18), .o 20 (.c .add 19 1), .o 21 (.q 52 [16,20]), .m 6 21, .k 7 0]) .ret)))
def F18:AFun:=⟨c18,3,22,[(.tmp 6),(.tmp 7)]⟩
def K18:Nat→List Nat×List Nat
 |_=>([],[])
theorem F18_ok:kj8 Try.prog K18 noRg Try.f18=some F18:=by kernel_rfl
/- 19: syndrome/weights.Plotkin -/
def c19:ACode:=(.seq (.region [.k 6 0, .k 7 0]) (.seq (.seq (.region [.m 9 0, .m 10 1, .m 11 2, .o 12 (.q 56 [9,10,11]), .m 8 12]) (.seq (.region [.m 13 8, .o 14 (.c .neq 13 0)]) (.cond (.tmp 14) (.seq (.region [.m 15 8, .k 6 0, .m 7 15]) .ret) .skip))) (.seq (.seq (.region [.m 16 0, .m 17 2, .o 18 (.b .mul 16 17), .m 19 1, .m 20 0, .o 21 (.c .sub 20 1), .o 22 (.b .mul 19 21), .o 23 (.b .leq 18 22)]) (.cond (.tmp 23) (.seq (.region [.k 6 0, .k 7 0]) .ret) .skip)) (.seq (.region [.m 24 0, .m 25 2, .o 26 (.b .mul 24 25), .m 27 0, .m 28 2, .o 29 (.b .mul 27 28), .m 30 1, .m 31 0, .o 32 (.c .sub 31 1), .o 33 (.b .mul 30 32), .o 34 (.b .sub 29 33), .o 35 (.b .quo 26 34), .m 6 35, .k 7 0]) .ret))))
def F19:AFun:=⟨c19,3,36,[(.tmp 6),(.tmp 7)]⟩
def K19:Nat→List Nat×List Nat
 |_=>([],[])
theorem F19_ok:kj8 Try.prog K19 noRg Try.f19=some F19:=by kernel_rfl
/- 20: syndrome/weights.Varshamov -/
def c20:ACode:=(.seq (.region [.k 6 0, .k 7 0]) (.seq (.seq (.region [.m 10 0, .m 11 1, .m 12 2, .o 13 (.q 56 [10,11,12]), .m 8 13]) (.seq (.region [.m 14 8, .o 15 (.c .neq 14 0)]) (.cond (.tmp 15) (.seq (.region [.m 16 8, .k 6 0, .m 7 16]) .ret) .skip))) (.seq (.region [.m 17 0, .m 18 1, .m 19 2, .o 20 (.c .sub 19 1), .o 21 (.q 57 [17,18,20]), .m 9 21]) (.seq (.region [.m 22 0, .m 23 1, .o 24 (.q 52 [22,23]), .m 25 9, .o 26 (.b .add 24 25), .o 27 (.c .sub 26 1), .m 28 9, .o 29 (.b .quo 27 28), .m 6 29, .k 7 0]) .ret))))
def F20:AFun:=⟨c20,3,30,[(.tmp 6),(.tmp 7)]⟩
def K20:Nat→List Nat×List Nat
 |_=>([],[])
theorem F20_ok:kj8 Try.prog K20 noRg Try.f20=some F20:=by kernel_rfl
/- 21: syndrome/weights.Griesmer -/
def c21L0:ACode:=(.seq (.region [.o 35 (.b .lss 34 33)]) (.seq (.cond (.tmp 35) .skip (.exit 0)) (.seq (.block 1 [0,2,10,33,34] (.seq (.region [.m 36 10, .m 37 2, .o 38 (.b .add 36 37), .m 10 38]) (.region [.m 39 2, .m 40 0, .o 41 (.b .add 39 40), .o 42 (.c .sub 41 1), .m 43 0, .o 44 (.b .quo 42 43), .m 2 44]))) (.region [.o 45 (.c .add 34 1), .m 34 45]))))
def c21:ACode:=(.seq (.region [.k 6 0, .k 7 0]) (.seq (.seq (.region [.m 12 0, .o 13 (.q 58 [12]), .m 11 13, .o 14 (.e 0 11), .o 15 (.e 1 11), .m 8 14, .m 9 15]) (.seq (.region [.m 16 9, .o 17 (.c .neq 16 0)]) (.cond (.tmp 17) (.seq (.region [.m 18 9, .k 6 0, .m 7 18]) .ret) .skip))) (.seq (.seq (.region [.m 19 1, .o 20 (.c .lss 19 1), .m 21 20, .g 22 (.m 1) 21 false, .g 23 (.c .gtr 22 64) 21 false, .o 24 (.pick (.tmp 21) (.const (.bool true)) (.tmp 23)), .m 25 24, .g 26 (.m 2) 25 false, .g 27 (.c .lss 26 1) 25 false, .o 28 (.pick (.tmp 25) (.const (.bool true)) (.tmp 27)), .m 29 28, .g 30 (.m 2) 29 false, .g 31 (.c .gtr 30 64) 29 false, .o 32 (.pick (.tmp 29) (.const (.bool true)) (.tmp 31))]) (.cond (.tmp 32) (.seq (.region [.k 6 0, .k 7 4]) .ret) .skip)) (.seq (.region [.k 10 0]) (.seq (.seq (.region [.m 33 1, .k 34 0]) (.block 0 [10] (.loop [0,2,10,33,34] c21L0))) (.seq (.region [.m 46 10, .m 6 46, .k 7 0]) .ret))))))
def F21:AFun:=⟨c21,3,47,[(.tmp 6),(.tmp 7)]⟩
def K21:Nat→List Nat×List Nat
 |0=>([0,2,10,33,34],[10])
 |1=>([],[0,2,10,33,34])
 |_=>([],[])
theorem F21_ok:kj8 Try.prog K21 noRg Try.f21=some F21:=by kernel_rfl
/- 22: syndrome/syndromeref.Pick -/
def c22:ACode:=(.seq (.region [.k 4 0]) (.seq (.seq (.region [.m 5 0, .o 6 (.c .lss 5 0)]) (.cond (.tmp 6) (.region [.m 7 0, .o 8 (.c .add 7 1), .o 9 (.un .neg (.tmp 8)), .m 0 9]) .skip)) (.seq (.region [.m 10 0, .m 11 1, .o 12 (.b .rem 10 11), .m 4 12]) .ret)))
def F22:AFun:=⟨c22,2,13,[(.tmp 4)]⟩
def K22:Nat→List Nat×List Nat
 |_=>([],[])
theorem F22_ok:kj8 Try.prog K22 noRg Try.f22=some F22:=by kernel_rfl
/- 23: syndrome/syndromeref.Raw -/
def c23:ACode:=(.seq (.region [.k 4 0]) (.seq (.seq (.region [.m 5 0, .o 6 (.n 5), .o 7 (.c .eql 6 0)]) (.cond (.tmp 7) (.seq (.region [.m 8 1, .m 4 8]) .ret) .skip)) (.seq (.region [.m 9 0, .m 10 1, .m 11 0, .o 12 (.n 11), .o 13 (.b .rem 10 12), .o 14 (.i 1 9 13), .o 15 (.l 14), .m 16 1, .m 17 0, .o 18 (.n 17), .o 19 (.b .quo 16 18), .o 20 (.c .mul 19 7919), .o 21 (.b .add 15 20), .m 4 21]) .ret)))
def F23:AFun:=⟨c23,2,22,[(.tmp 4)]⟩
def K23:Nat→List Nat×List Nat
 |_=>([],[])
theorem F23_ok:kj8 Try.prog K23 noRg Try.f23=some F23:=by kernel_rfl
/- 24: syndrome/weights.Shows -/
def c24L0:ACode:=(.seq (.region [.o 31 (.b .lss 30 29)]) (.seq (.cond (.tmp 31) .skip (.exit 0)) (.seq (.block 1 [0,1,2,3,28,29,30] (.seq (.region [.o 32 (.i 1 28 30), .o 33 (.l 32), .m 14 33]) (.seq (.region [.m 34 14, .o 35 (.c .lss 34 0), .m 36 35, .g 37 (.m 14) 36 false, .g 38 (.c .gtr 37 1048576) 36 false, .o 39 (.pick (.tmp 36) (.const (.bool true)) (.tmp 38))]) (.cond (.tmp 39) (.seq (.region [.k 8 0, .k 9 0, .o 10 (.mv (.const (.bool false))), .k 11 2]) .ret) .skip)))) (.region [.o 40 (.c .add 30 1), .m 30 40]))))
def c24L1:ACode:=(.seq (.seq (.region [.m 46 15, .m 47 1, .o 48 (.b .leq 46 47)]) (.cond (.tmp 48) .skip (.exit 2))) (.seq (.block 3 [0,1,3,15] (.seq (.region [.m 51 0, .m 52 3, .m 53 15, .o 54 (.q 59 [51,52,53]), .o 55 (.c .gtr 54 0)]) (.cond (.tmp 55) (.seq (.region [.k 8 0, .k 9 0, .o 10 (.mv (.const (.bool false))), .k 11 0]) .ret) .skip))) (.region [.m 49 15, .o 50 (.c .add 49 1), .m 15 50])))
def c24:ACode:=(.seq (.region [.k 8 0, .k 9 0, .o 10 (.mv (.const (.bool false))), .k 11 0]) (.seq (.seq (.region [.m 16 0, .m 17 1, .m 18 2, .o 19 (.q 56 [16,17,18]), .m 12 19]) (.seq (.region [.m 20 12, .o 21 (.c .neq 20 0)]) (.cond (.tmp 21) (.seq (.region [.m 22 12, .k 8 0, .k 9 0, .o 10 (.mv (.const (.bool false))), .m 11 22]) .ret) .skip))) (.seq (.seq (.region [.m 23 3, .o 24 (.n 23), .m 25 1, .o 26 (.c .add 25 1), .o 27 (.b .neq 24 26)]) (.cond (.tmp 27) (.seq (.region [.k 8 0, .k 9 0, .o 10 (.mv (.const (.bool false))), .k 11 6]) .ret) .skip)) (.seq (.seq (.region [.m 28 3, .o 29 (.n 28), .k 30 0]) (.block 0 [0,1,2,3] (.loop [0,1,2,3,28,29,30] c24L0))) (.seq (.seq (.region [.m 41 3, .o 42 (.iaddr 1 (.tmp 41) (.const (.int .i64 0))), .o 43 (.l 42), .o 44 (.c .eql 43 0)]) (.cond (.tmp 44) (.seq (.region [.k 8 0, .k 9 0, .o 10 (.mv (.const (.bool false))), .k 11 0]) .ret) .skip)) (.seq (.seq (.region [.m 45 2, .m 15 45]) (.block 2 [0,3] (.loop [0,1,3,15] c24L1))) (.seq (.region [.m 56 0, .m 57 3,⟨(some 58),(.call 59 [(.tmp 56),(.tmp 57),(.const (.int .i64 0))]),none,true⟩, .m 59 3, .o 60 (.iaddr 1 (.tmp 59) (.const (.int .i64 0))),⟨(some 61),(.ld false 1 (.tmp 60)),none,true⟩, .m 8 58, .m 9 61, .o 10 (.mv (.const (.bool true))), .k 11 0]) .ret)))))))
def F24:AFun:=⟨c24,4,62,[(.tmp 8),(.tmp 9),(.tmp 10),(.tmp 11)]⟩
def K24:Nat→List Nat×List Nat
 |0=>([0,1,2,3,28,29,30],[0,1,2,3])
 |1=>([],[0,1,2,3,28,29,30])
 |2=>([0,1,3,15],[0,3])
 |3=>([],[0,1,3,15])
 |_=>([],[])
theorem F24_ok:kj8 Try.prog K24 noRg Try.f24=some F24:=by kernel_rfl
/- 25: syndrome/syndromeref.Numbers -/
def c25L0:ACode:=(.seq (.seq (.region [.m 11 10, .m 12 3, .o 13 (.b .lss 11 12)]) (.cond (.tmp 13) .skip (.exit 0))) (.seq (.block 1 [0,1,2,3,9,10] (.region [.m 16 9, .m 17 0, .m 18 1, .m 19 10, .o 20 (.b .add 18 19), .o 21 (.q 23 [17,20]), .m 22 2, .o 23 (.q 22 [21,22]), .o 24 (.mkSl 3 1 1 [(.tmp 23)]), .o 25 (.app 3 1 8 (.tmp 16) (.tmp 24)), .m 9 25])) (.region [.m 14 10, .o 15 (.c .add 14 1), .m 10 15])))
def c25:ACode:=(.seq (.region [.o 8 (.mv (.const (.slice none 0 0)))]) (.seq (.region [.o 9 (.mv (.const (.slice none 0 0)))]) (.seq (.seq (.region [.k 10 0]) (.block 0 [9] (.loop [0,1,2,3,9,10] c25L0))) (.seq (.region [.m 26 9, .m 8 26]) .ret))))
def F25:AFun:=⟨c25,4,27,[(.tmp 8)]⟩
def K25:Nat→List Nat×List Nat
 |0=>([0,1,2,3,9,10],[9])
 |1=>([],[0,1,2,3,9,10])
 |_=>([],[])
theorem F25_ok:kj8 Try.prog K25 noRg Try.f25=some F25:=by kernel_rfl
/- 45: syndrome/syndromeref.Few -/
def c45L0:ACode:=(.seq (.seq (.region [.m 7 6, .m 8 1, .o 9 (.b .lss 7 8)]) (.cond (.tmp 9) .skip (.exit 0))) (.seq (.block 1 [0,1,5,6] (.seq (.region [.m 12 5, .m 13 0, .o 14 (.b .mul 12 13), .m 5 14]) (.seq (.region [.m 15 5, .o 16 (.c .gtr 15 4096)]) (.cond (.tmp 16) (.seq (.region [.o 4 (.mv (.const (.bool false)))]) .ret) .skip)))) (.region [.m 10 6, .o 11 (.c .add 10 1), .m 6 11])))
def c45:ACode:=(.seq (.region [.o 4 (.mv (.const (.bool false)))]) (.seq (.region [.k 5 1]) (.seq (.seq (.region [.k 6 0]) (.block 0 [] (.loop [0,1,5,6] c45L0))) (.seq (.region [.o 4 (.mv (.const (.bool true)))]) .ret))))
def F45:AFun:=⟨c45,2,17,[(.tmp 4)]⟩
def K45:Nat→List Nat×List Nat
 |0=>([0,1,5,6],[])
 |1=>([],[0,1,5,6])
 |_=>([],[])
theorem F45_ok:kj8 Try.prog K45 noRg Try.f45=some F45:=by kernel_rfl
/- 46: syndrome/syndromeref.MatrixOf -/
def c46L0:ACode:=(.seq (.seq (.region [.m 13 12, .m 14 3, .o 15 (.b .lss 13 14)]) (.cond (.tmp 15) .skip (.exit 0))) (.seq (.block 1 [0,1,2,3,4,11,12] (.region [.m 18 11, .m 19 0, .m 20 1, .m 21 12, .m 22 4, .o 23 (.b .mul 21 22), .o 24 (.b .add 20 23), .m 25 2, .m 26 4, .o 27 (.q 25 [19,24,25,26]), .o 28 (.mkSl 22 1 1 [(.tmp 27)]), .o 29 (.app 22 1 24 (.tmp 18) (.tmp 28)), .m 11 29])) (.region [.m 16 12, .o 17 (.c .add 16 1), .m 12 17])))
def c46:ACode:=(.seq (.region [.o 10 (.mv (.const (.slice none 0 0)))]) (.seq (.region [.o 11 (.mv (.const (.slice none 0 0)))]) (.seq (.seq (.region [.k 12 0]) (.block 0 [11] (.loop [0,1,2,3,4,11,12] c46L0))) (.seq (.region [.m 30 11, .m 10 30]) .ret))))
def F46:AFun:=⟨c46,5,31,[(.tmp 10)]⟩
def K46:Nat→List Nat×List Nat
 |0=>([0,1,2,3,4,11,12],[11])
 |1=>([],[0,1,2,3,4,11,12])
 |_=>([],[])
theorem F46_ok:kj8 Try.prog K46 noRg Try.f46=some F46:=by kernel_rfl
/- 48: syndrome/code.all -/
def c48L0:ACode:=(.seq (.region [.o 19 (.b .lss 18 17)]) (.seq (.cond (.tmp 19) .skip (.exit 0)) (.seq (.block 1 [1,2,5,17,18] (.seq (.region [.m 20 5, .o 21 (.f 0 1), .o 22 (.l 21), .o 23 (.b .mul 20 22), .m 5 23]) (.seq (.region [.m 24 5, .o 25 (.c .gtr 24 4096)]) (.cond (.tmp 25) (.seq (.region [.o 26 (.build [(.int .i64 0),(.int .i64 0),(.slice none 0 0)] [(0,1),(1,1),(2,1)] []), .n (.st 3 (.tmp 2) (.tmp 26)), .k 3 4]) .ret) .skip)))) (.region [.o 27 (.c .add 18 1), .m 18 27]))))
def c48:ACode:=(.seq (.region [.o 1 (.box 25 3 (.tmp 0)), .o 2 (.alloc 25 [(.int .i64 0),(.int .i64 0),(.slice none 0 0)]), .k 3 0]) (.seq (.region [.o 7 (.ld true 3 (.tmp 1)), .o 8 (.q 15 [7]), .m 6 8, .o 9 (.e 0 6), .o 10 (.e 1 6), .n (.st 3 (.tmp 1) (.tmp 9)), .m 4 10]) (.seq (.seq (.region [.m 11 4, .o 12 (.c .neq 11 0)]) (.cond (.tmp 12) (.seq (.region [.o 13 (.build [(.int .i64 0),(.int .i64 0),(.slice none 0 0)] [(0,1),(1,1),(2,1)] []), .m 14 4, .n (.st 3 (.tmp 2) (.tmp 13)), .m 3 14]) .ret) .skip)) (.seq (.region [.k 5 1]) (.seq (.seq (.region [.o 15 (.f 2 1), .o 16 (.l 15), .o 17 (.n 16), .k 18 0]) (.block 0 [1,2] (.loop [1,2,5,17,18] c48L0))) (.seq (.region [.o 28 (.ld true 3 (.tmp 1)), .n (.st 3 (.tmp 2) (.tmp 28)), .k 3 0]) .ret))))))
def F48:AFun:=⟨c48,1,29,[(.cell 2 true 3),(.tmp 3)]⟩
def K48:Nat→List Nat×List Nat
 |0=>([1,2,5,17,18],[1,2])
 |1=>([],[1,2,5,17,18])
 |_=>([],[])
theorem F48_ok:kj8 Try.prog K48 noRg Try.f48=some F48:=by kernel_rfl
/- 49: syndrome/code.words -/
def c49:ACode:=(.seq (.region [.o 1 (.box 25 3 (.tmp 0)), .o 2 (.mv (.const .nilFunc))]) (.seq (.region [.o 3 (.mkf 89 [(.tmp 1)]), .m 2 3]) .ret))
def F49:AFun:=⟨c49,1,4,[(.tmp 2)]⟩
def K49:Nat→List Nat×List Nat
 |_=>([],[])
theorem F49_ok:kj8 Try.prog K49 noRg Try.f49=some F49:=by kernel_rfl
/- 50: syndrome/code.Weight -/
def c50L0:ACode:=(.seq (.region [.o 9 (.b .lss 8 7)]) (.seq (.cond (.tmp 9) .skip (.exit 0)) (.seq (.block 1 [3,6,7,8] (.seq (.region [.o 10 (.i 1 6 8), .o 11 (.l 10), .m 5 11]) (.seq (.region [.m 12 5, .o 13 (.c .neq 12 0)]) (.cond (.tmp 13) (.region [.m 14 3, .o 15 (.c .add 14 1), .m 3 15]) .skip)))) (.region [.o 16 (.c .add 8 1), .m 8 16]))))
def c50:ACode:=(.seq (.region [.k 2 0]) (.seq (.region [.k 3 0]) (.seq (.seq (.region [.m 6 0, .o 7 (.n 6), .k 8 0]) (.block 0 [3] (.loop [3,6,7,8] c50L0))) (.seq (.region [.m 17 3, .m 2 17]) .ret))))
def F50:AFun:=⟨c50,1,18,[(.tmp 2)]⟩
def K50:Nat→List Nat×List Nat
 |0=>([3,6,7,8],[3])
 |1=>([],[3,6,7,8])
 |_=>([],[])
theorem F50_ok:kj8 Try.prog K50 noRg Try.f50=some F50:=by kernel_rfl
/- 51: syndrome/weights.Check -/
def c51:ACode:=(.seq (.region [.k 4 0]) (.seq (.seq (.region [.m 8 0, .o 9 (.q 58 [8]), .m 7 9, .o 10 (.e 0 7), .o 11 (.e 1 7), .m 5 10, .m 6 11]) (.seq (.region [.m 12 6, .o 13 (.c .neq 12 0)]) (.cond (.tmp 13) (.seq (.region [.m 14 6, .m 4 14]) .ret) .skip))) (.seq (.seq (.region [.m 15 1, .o 16 (.c .lss 15 1), .m 17 16, .g 18 (.m 0) 17 false, .g 19 (.m 1) 17 false, .g 20 (.q 52 [18,19]) 17 false, .g 21 (.c .lss 20 0) 17 false, .o 22 (.pick (.tmp 17) (.const (.bool true)) (.tmp 21))]) (.cond (.tmp 22) (.seq (.region [.k 4 4]) .ret) .skip)) (.seq (.region [.k 4 0]) .ret))))
def F51:AFun:=⟨c51,2,23,[(.tmp 4)]⟩
def K51:Nat→List Nat×List Nat
 |_=>([],[])
theorem F51_ok:kj8 Try.prog K51 noRg Try.f51=some F51:=by kernel_rfl
/- 52: syndrome/weights.power -/
def c52L0:ACode:=(.seq (.region [.o 8 (.b .lss 7 6)]) (.seq (.cond (.tmp 8) .skip (.exit 0)) (.seq (.block 1 [0,5,6,7] (.seq (.region [.m 9 5, .m 10 0, .o 11 (.b .mul 9 10), .m 5 11]) (.seq (.region [.m 12 5, .o 13 (.c .gtr 12 1073741824)]) (.cond (.tmp 13) (.seq (.region [.k 4 (-1)]) .ret) .skip)))) (.region [.o 14 (.c .add 7 1), .m 7 14]))))
def c52:ACode:=(.seq (.region [.k 4 0]) (.seq (.region [.k 5 1]) (.seq (.seq (.region [.m 6 1, .k 7 0]) (.block 0 [5] (.loop [0,5,6,7] c52L0))) (.seq (.region [.m 15 5, .m 4 15]) .ret))))
def F52:AFun:=⟨c52,2,16,[(.tmp 4)]⟩
def K52:Nat→List Nat×List Nat
 |0=>([0,5,6,7],[5])
 |1=>([],[0,5,6,7])
 |_=>([],[])
theorem F52_ok:kj8 Try.prog K52 noRg Try.f52=some F52:=by kernel_rfl
/- 54: syndrome/code.Check -/
def c54:ACode:=(.seq (.region [.o 1 (.box 25 3 (.tmp 0)), .k 2 0]) (.seq (.seq (.region [.o 7 (.f 0 1), .o 8 (.l 7), .o 9 (.q 58 [8]), .m 6 9, .o 10 (.e 0 6), .o 11 (.e 1 6), .m 3 10, .m 4 11]) (.seq (.region [.m 12 4, .o 13 (.c .neq 12 0)]) (.cond (.tmp 13) (.seq (.region [.m 14 4, .m 2 14]) .ret) .skip))) (.seq (.seq (.region [.o 15 (.f 1 1), .o 16 (.l 15), .o 17 (.c .lss 16 1), .m 18 17, .g 19 (.f 1 1) 18 false, .g 20 (.l 19) 18 false, .g 21 (.c .gtr 20 64) 18 false, .o 22 (.pick (.tmp 18) (.const (.bool true)) (.tmp 21))]) (.cond (.tmp 22) (.seq (.region [.k 2 4]) .ret) .skip)) (.seq (.seq (.region [.o 23 (.f 0 1), .o 24 (.l 23), .o 25 (.f 2 1), .o 26 (.l 25), .o 27 (.q 92 [24,26]), .m 5 27]) (.seq (.region [.m 28 5, .o 29 (.c .neq 28 0)]) (.cond (.tmp 29) (.seq (.region [.m 30 5, .m 2 30]) .ret) .skip))) (.seq (.seq (.region [.o 31 (.f 2 1), .o 32 (.l 31), .o 33 (.n 32), .o 34 (.c .gtr 33 0), .m 35 34, .g 36 (.f 2 1) 35 true, .g 37 (.l 36) 35 true, .g 38 (.iaddr 1 (.tmp 37) (.const (.int .i64 0))) 35 true, .g 39 (.l 38) 35 true, .g 40 (.n 39) 35 true, .g 41 (.f 1 1) 35 true, .g 42 (.l 41) 35 true, .g 43 (.b .neq 40 42) 35 true, .o 44 (.pick (.tmp 35) (.tmp 43) (.const (.bool false)))]) (.cond (.tmp 44) (.seq (.region [.k 2 3]) .ret) .skip)) (.seq (.region [.k 2 0]) .ret))))))
def F54:AFun:=⟨c54,1,45,[(.tmp 2)]⟩
def K54:Nat→List Nat×List Nat
 |_=>([],[])
theorem F54_ok:kj8 Try.prog K54 noRg Try.f54=some F54:=by kernel_rfl
/- 55: syndrome/matrix.Reduce -/
def c55L0:ACode:=(.seq (.region [.o 92 (.b .lss 91 90)]) (.seq (.cond (.tmp 92) .skip (.exit 2)) (.seq (.block 3 [1,5,8,10,11,90,91] (.seq (.region [.m 93 91, .m 13 93]) (.seq (.region [.m 94 13, .m 95 11, .o 96 (.b .neq 94 95), .m 97 96, .g 98 (.m 1) 97 true, .g 99 (.m 13) 97 true, .g 100 (.i 1 98 99) 97 true, .g 101 (.l 100) 97 true, .g 102 (.l 10) 97 true, .g 103 (.i 1 101 102) 97 true, .g 104 (.l 103) 97 true, .g 105 (.c .neq 104 0) 97 true, .o 106 (.pick (.tmp 97) (.tmp 105) (.const (.bool false)))]) (.cond (.tmp 106) (.region [.m 107 8, .m 108 1, .m 109 13, .o 110 (.i 1 108 109), .o 111 (.l 110), .m 112 1, .m 113 11, .o 114 (.i 1 112 113), .o 115 (.l 114), .m 116 1, .m 117 13, .o 118 (.i 1 116 117), .o 119 (.l 118), .o 120 (.l 10), .o 121 (.i 1 119 120), .o 122 (.l 121), .o 123 (.q 98 [107,111,115,122])]) .skip)))) (.region [.o 124 (.c .add 91 1), .m 91 124]))))
def c55L1:ACode:=(.seq (.seq (.region [.o 32 (.l 10), .m 33 1, .o 34 (.iaddr 1 (.tmp 33) (.const (.int .i64 0))), .o 35 (.l 34), .o 36 (.n 35), .o 37 (.b .lss 32 36), .m 38 37, .g 39 (.m 5) 38 true, .g 40 (.n 39) 38 true, .g 41 (.m 1) 38 true, .g 42 (.n 41) 38 true, .g 43 (.b .lss 40 42) 38 true, .o 44 (.pick (.tmp 38) (.tmp 43) (.const (.bool false)))]) (.cond (.tmp 44) .skip (.exit 0))) (.seq (.block 1 [1,5,8,10] (.seq (.region [.m 47 5, .o 48 (.n 47), .m 11 48]) (.seq (.region [.m 49 1, .m 50 11, .o 51 (.sl 1 (.tmp 49) (some (.tmp 50)) none), .o 52 (.mkf 95 [(.tmp 10)]), .o 53 (.q 94 [51,52]), .m 12 53]) (.seq (.seq (.region [.m 54 12, .o 55 (.c .lss 54 0)]) (.cond (.tmp 55) (.exit 1) .skip)) (.seq (.region [.m 56 1, .m 57 11, .m 58 1, .m 59 11, .m 60 12, .o 61 (.b .add 59 60), .m 62 1, .m 63 11, .m 64 12, .o 65 (.b .add 63 64), .o 66 (.i 1 62 65), .o 67 (.l 66), .m 68 1, .m 69 11, .o 70 (.i 1 68 69), .o 71 (.l 70), .o 72 (.i 1 56 57), .n (.st 1 (.tmp 72) (.tmp 67)), .o 73 (.i 1 58 61), .n (.st 1 (.tmp 73) (.tmp 71))]) (.seq (.region [.m 74 8, .m 75 1, .m 76 11, .o 77 (.i 1 75 76), .o 78 (.l 77), .m 79 8, .m 80 1, .m 81 11, .o 82 (.i 1 80 81), .o 83 (.l 82), .o 84 (.l 10), .o 85 (.i 1 83 84), .o 86 (.l 85),⟨(some 87),(.call 97 [(.tmp 79),(.tmp 86)]),none,true⟩, .o 88 (.q 96 [74,78,87])]) (.seq (.seq (.region [.m 89 1, .o 90 (.n 89), .k 91 0]) (.block 2 [1,5,8,10] (.loop [1,5,8,10,11,90,91] c55L0))) (.region [.m 125 5, .o 126 (.l 10), .o 127 (.mkSl 3 1 1 [(.tmp 126)]), .o 128 (.app 3 1 8 (.tmp 125) (.tmp 127)), .m 5 128])))))))) (.seq (.seq (.region [.o 129 (.l 10)]) (.region [.o 10 (.alloc 3 [(.int .i64 0)]), .n (.st 1 (.tmp 10) (.tmp 129))])) (.region [.o 45 (.l 10), .o 46 (.c .add 45 1), .n (.st 1 (.tmp 10) (.tmp 46))]))))
def c55:ACode:=(.seq (.region [.o 4 (.mv (.const (.slice none 0 0))), .o 5 (.mv (.const (.slice none 0 0))), .k 6 0]) (.seq (.seq (.region [.m 14 0, .m 15 1, .o 16 (.q 92 [14,15]), .m 7 16]) (.seq (.region [.m 17 7, .o 18 (.c .neq 17 0), .m 19 18, .g 20 (.m 1) 19 false, .g 21 (.n 20) 19 false, .g 22 (.c .eql 21 0) 19 false, .o 23 (.pick (.tmp 19) (.const (.bool true)) (.tmp 22))]) (.cond (.tmp 23) (.seq (.region [.m 24 7, .o 4 (.mv (.const (.slice none 0 0))), .o 5 (.mv (.const (.slice none 0 0))), .m 6 24]) .ret) .skip))) (.seq (.region [.m 26 0, .o 27 (.q 58 [26]), .m 25 27, .o 28 (.e 0 25), .o 29 (.e 1 25), .m 8 28, .m 9 29]) (.seq (.region [.m 30 1, .o 31 (.q 93 [30]), .m 1 31]) (.seq (.seq (.region [.o 10 (.alloc 3 [(.int .i64 0)]), .n (.st 1 (.tmp 10) (.const (.int .i64 0)))]) (.block 0 [1,5] (.loop [1,5,8,10] c55L1))) (.seq (.region [.m 130 1, .m 131 5, .o 132 (.n 131), .m 133 5, .o 134 (.n 133), .o 135 (.sl3 (.tmp 130) (.tmp 132) (.tmp 134)), .m 136 5, .m 4 135, .m 5 136, .k 6 0]) .ret))))))
def F55:AFun:=⟨c55,2,137,[(.tmp 4),(.tmp 5),(.tmp 6)]⟩
def K55:Nat→List Nat×List Nat
 |0=>([1,5,8,10],[1,5])
 |1=>([],[1,5,8,10])
 |2=>([1,5,8,10,11,90,91],[1,5,8,10])
 |3=>([],[1,5,8,10,11,90,91])
 |_=>([],[])
theorem F55_ok:kj8 Try.prog K55 noRg Try.f55=some F55:=by kernel_rfl
/- 56: syndrome/weights.args -/
def c56:ACode:=(.seq (.region [.k 6 0]) (.seq (.region [.m 8 0, .m 9 1, .o 10 (.q 51 [8,9]), .m 7 10]) (.seq (.seq (.region [.m 11 7, .o 12 (.c .eql 11 0), .m 13 12, .g 14 (.m 2) 13 true, .g 15 (.c .lss 14 1) 13 true, .g 16 (.m 15) 13 true, .g 17 (.m 2) 16 false, .g 18 (.m 1) 16 false, .g 19 (.b .gtr 17 18) 16 false, .g 20 (.pick (.tmp 16) (.const (.bool true)) (.tmp 19)) 13 true, .o 21 (.pick (.tmp 13) (.tmp 20) (.const (.bool false)))]) (.cond (.tmp 21) (.region [.k 7 10]) .skip)) (.seq (.region [.m 22 7, .m 6 22]) .ret))))
def F56:AFun:=⟨c56,3,23,[(.tmp 6)]⟩
def K56:Nat→List Nat×List Nat
 |_=>([],[])
theorem F56_ok:kj8 Try.prog K56 noRg Try.f56=some F56:=by kernel_rfl
/- 57: syndrome/weights.ball -/
def c57L0:ACode:=(.seq (.region [.o 20 (.b .lss 19 18)]) (.seq (.cond (.tmp 20) .skip (.exit 2)) (.seq (.block 3 [0,1,2,7,8,9,18,19] (.region [.m 21 9, .m 22 0, .o 23 (.c .sub 22 1), .o 24 (.b .mul 21 23), .m 9 24])) (.region [.o 25 (.c .add 19 1), .m 19 25]))))
def c57L1:ACode:=(.seq (.seq (.region [.m 10 8, .m 11 2, .o 12 (.b .leq 10 11)]) (.cond (.tmp 12) .skip (.exit 0))) (.seq (.block 1 [0,1,2,7,8] (.seq (.region [.m 15 1, .m 16 8, .o 17 (.q 99 [15,16]), .m 9 17]) (.seq (.seq (.region [.m 18 8, .k 19 0]) (.block 2 [0,1,2,7,8,9] (.loop [0,1,2,7,8,9,18,19] c57L0))) (.region [.m 26 7, .m 27 9, .o 28 (.b .add 26 27), .m 7 28])))) (.region [.m 13 8, .o 14 (.c .add 13 1), .m 8 14])))
def c57:ACode:=(.seq (.region [.k 6 0]) (.seq (.region [.k 7 0]) (.seq (.seq (.region [.k 8 0]) (.block 0 [7] (.loop [0,1,2,7,8] c57L1))) (.seq (.region [.m 29 7, .m 6 29]) .ret))))
def F57:AFun:=⟨c57,3,30,[(.tmp 6)]⟩
def K57:Nat→List Nat×List Nat
 |0=>([0,1,2,7,8],[7])
 |1=>([],[0,1,2,7,8])
 |2=>([0,1,2,7,8,9,18,19],[0,1,2,7,8,9])
 |3=>([],[0,1,2,7,8,9,18,19])
 |_=>([],[])
theorem F57_ok:kj8 Try.prog K57 noRg Try.f57=some F57:=by kernel_rfl
/- 58: syndrome/field.New -/
def ti1:List Value:=[(.int .u32 0),(.int .i32 0),(.int .u32 0),(.int .u32 0),(.int .i32 0),(.int .u32 0),(.int .u32 0),(.int .i32 0),(.int .u32 0),(.int .u32 0),(.int .i32 0),(.int .u32 0),(.int .u32 0),(.int .i32 0),(.int .u32 0),(.int .u32 0),(.int .i32 0),(.int .u32 0),(.int .u32 0),(.int .i32 0),(.int .u32 0),(.int .u32 0),(.int .i32 0),(.int .u32 0),(.int .u32 0),(.int .i32 0),(.int .u32 0),(.int .u32 0),(.int .i32 0),(.int .u32 0),(.int .u32 0),(.int .i32 0),(.int .u32 0),(.int .u32 0),(.int .i32 0),(.int .u32 0),(.int .u32 0),(.int .i32 0),(.int .u32 0),(.int .u32 0),(.int .i32 0),(.int .u32 0),(.int .u32 0),(.int .i32 0),(.int .u32 0),(.int .u32 0),(.int .i32 0),(.int .u32 0),(.int .u32 0),(.int .i32 0),(.int .u32 0),(.int .u32 0),(.int .i32 0),(.int .u32 0),(.int .u32 0),(.int .i32 0),(.int .u32 0),(.int .u32 0),(.int .i32 0),(.int .u32 0),(.int .u32 0),(.int .i32 0),(.int .u32 0),(.int .u32 0),(.int .i32 0),(.int .u32 0),(.int .u32 0),(.int .i32 0),(.int .u32 0),(.int .u32 0),(.int .i32 0),(.int .u32 0),(.int .u32 0),(.int .i32 0),(.int .u32 0),(.int .u32 0),(.int .i32 0),(.int .u32 0),(.int .u32 0),(.int .i32 0),(.int .u32 0),(.int .u32 0),(.int .i32 0),(.int .u32 0),(.int .u32 0),(.int .i32 0),(.int .u32 0),(.int .u32 0),(.int .i32 0),(.int .u32 0),(.int .u32 0),(.int .i32 0),(.int .u32 0),(.int .u32 0),(.int .i32 0),(.int .u32 0),(.int .u32 0),(.int .i32 0),(.int .u32 0),(.int .u32 0),(.int .i32 0),(.int .u32 0),(.int .u32 0),(.int .i32 0),(.int .u32 0),(.int .u32 0),(.int .i32 0),(.int .u32 0),(.int .u32 0),(.int .i32 0),(.int .u32 0),(.int .u32 0),(.int .i32 0),(.int .u32 0),(.int .u32 0),(.int .i32 0),(.int .u32 0),(.int .u32 0),(.int .i32 0),(.int .u32 0),(.int .u32 0),(.int .i32 0),(.int .u32 0),(.int .u32 0),(.int .i32 0),(.int .u32 0),(.int .u32 0),(.int .i32 0),(.int .u32 0),(.int .u32 0),(.int .i32 0),(.int .u32 0),(.int .u32 0),(.int .i32 0),(.int .u32 0),(.int .u32 0),(.int .i32 0),(.int .u32 0),(.int .u32 0),(.int .i32 0),(.int .u32 0),(.int .u32 0),(.int .i32 0),(.int .u32 0),(.int .u32 0),(.int .i32 0),(.int .u32 0),(.int .u32 0),(.int .i32 0),(.int .u32 0),(.int .u32 0),(.int .i32 0),(.int .u32 0),(.int .u32 0),(.int .i32 0),(.int .u32 0),(.int .u32 0),(.int .i32 0),(.int .u32 0),(.int .u32 0),(.int .i32 0),(.int .u32 0),(.int .u32 0),(.int .i32 0),(.int .u32 0),(.int .u32 0),(.int .i32 0),(.int .u32 0),(.int .u32 0),(.int .i32 0),(.int .u32 0),(.int .u32 0),(.int .i32 0),(.int .u32 0),(.int .u32 0),(.int .i32 0),(.int .u32 0),(.int .u32 0),(.int .i32 0),(.int .u32 0),(.int .u32 0),(.int .i32 0),(.int .u32 0),(.int .u32 0),(.int .i32 0),(.int .u32 0),(.int .u32 0),(.int .i32 0),(.int .u32 0),(.int .u32 0),(.int .i32 0),(.int .u32 0),(.int .u32 0),(.int .i32 0),(.int .u32 0),(.pointer none),(.pointer none),(.pointer none),(.pointer none),(.pointer none),(.pointer none),(.pointer none),(.pointer none),(.pointer none),(.pointer none),(.pointer none),(.pointer none),(.pointer none),(.pointer none),(.pointer none),(.pointer none),(.pointer none),(.pointer none),(.pointer none),(.pointer none),(.pointer none),(.pointer none),(.pointer none),(.pointer none),(.pointer none),(.pointer none),(.pointer none),(.pointer none),(.pointer none),(.pointer none),(.pointer none),(.pointer none),(.pointer none),(.pointer none),(.pointer none),(.pointer none),(.pointer none),(.pointer none),(.pointer none),(.pointer none),(.pointer none),(.pointer none),(.pointer none),(.pointer none),(.pointer none),(.pointer none),(.pointer none),(.pointer none),(.pointer none),(.pointer none),(.pointer none),(.pointer none),(.pointer none),(.pointer none),(.pointer none),(.pointer none),(.pointer none),(.pointer none),(.pointer none),(.pointer none),(.pointer none),(.pointer none),(.pointer none),(.pointer none),(.pointer none)]
def c58:ACode:=(.seq (.region [.o 1 (.box 3 1 (.tmp 0)), .o 2 (.mv (.const (.pointer none))), .k 3 0]) (.seq (.seq (.region [.o 5 (.l 1), .o 6 (.c .lss 5 2), .m 7 6, .g 8 (.l 1) 7 false, .g 9 (.c .gtr 8 64) 7 false, .o 10 (.pick (.tmp 7) (.const (.bool true)) (.tmp 9))]) (.cond (.tmp 10) (.seq (.region [.o 2 (.mv (.const (.pointer none))), .k 3 1]) .ret) .skip)) (.seq (.region [.o 4 (.alloc 128 ti1)]) (.seq (.region [.o 11 (.l 1), .o 12 (.f 0 4), .o 13 (.iaddrA 65 3 (.tmp 12) (.tmp 11)), .o 14 (.mkf 101 [(.tmp 1),(.tmp 4)]), .o 15 (.q 100 [13,14])]) (.seq (.seq (.region [.o 16 (.l 1), .o 17 (.f 195 4), .o 18 (.iaddrA 65 1 (.tmp 17) (.tmp 16)), .o 19 (.l 18), .o 20 (.eqn false 1 (.tmp 19))]) (.cond (.tmp 20) (.seq (.region [.o 2 (.mv (.const (.pointer none))), .k 3 1]) .ret) .skip)) (.seq (.region [.o 21 (.l 1), .o 22 (.f 195 4), .o 23 (.iaddrA 65 1 (.tmp 22) (.tmp 21)), .o 24 (.l 23), .m 2 24, .k 3 0]) .ret))))))
def F58:AFun:=⟨c58,1,25,[(.tmp 2),(.tmp 3)]⟩
def K58:Nat→List Nat×List Nat
 |_=>([],[])
theorem F58_ok:kj8 Try.prog K58 noRg Try.f58=some F58:=by kernel_rfl
/- 59: syndrome/weights.at -/
def c59L0:ACode:=(.seq (.region [.o 13 (.b .lss 12 11)]) (.seq (.cond (.tmp 13) .skip (.exit 0)) (.seq (.block 1 [0,1,2,7,10,11,12] (.seq (.region [.m 14 12, .o 15 (.i 1 10 12), .o 16 (.l 15), .m 8 14, .m 9 16]) (.region [.m 17 7, .m 18 9, .m 19 0, .m 20 1, .o 21 (.n 20), .o 22 (.c .sub 21 1), .m 23 8, .m 24 2, .o 25 (.q 91 [19,22,23,24]), .o 26 (.b .mul 18 25), .o 27 (.b .add 17 26), .m 7 27]))) (.region [.o 28 (.c .add 12 1), .m 12 28]))))
def c59:ACode:=(.seq (.region [.k 6 0]) (.seq (.region [.k 7 0]) (.seq (.seq (.region [.m 10 1, .o 11 (.n 10), .k 12 0]) (.block 0 [7] (.loop [0,1,2,7,10,11,12] c59L0))) (.seq (.region [.m 29 7, .m 6 29]) .ret))))
def F59:AFun:=⟨c59,3,30,[(.tmp 6)]⟩
def K59:Nat→List Nat×List Nat
 |0=>([0,1,2,7,10,11,12],[7])
 |1=>([],[0,1,2,7,10,11,12])
 |_=>([],[])
theorem F59_ok:kj8 Try.prog K59 noRg Try.f59=some F59:=by kernel_rfl
/- 66: slices.Clone[[]int,int] -/
def c66:ACode:=(.seq (.region [.o 2 (.mv (.const (.slice none 0 0)))]) (.seq (.seq (.region [.m 3 0, .o 4 (.eqn false 0 (.tmp 3))]) (.cond (.tmp 4) (.seq (.region [.o 2 (.mv (.const (.slice none 0 0)))]) .ret) .skip)) (.seq (.region [.o 5 (.mkSl 3 1 0 []), .m 6 0, .o 7 (.app 3 1 8 (.tmp 5) (.tmp 6)), .m 2 7]) .ret)))
def F66:AFun:=⟨c66,1,8,[(.tmp 2)]⟩
def K66:Nat→List Nat×List Nat
 |_=>([],[])
theorem F66_ok:kj8 Try.prog K66 noRg Try.f66=some F66:=by kernel_rfl
/- 80: slices.ContainsFunc[[]int,int] -/
def c80:ACode:=(.seq (.region [.o 4 (.mv (.const (.bool false)))]) (.seq (.region [.m 5 0, .m 6 1, .o 7 (.q 112 [5,6]), .o 8 (.c .geq 7 0), .m 4 8]) .ret))
def F80:AFun:=⟨c80,2,9,[(.tmp 4)]⟩
def K80:Nat→List Nat×List Nat
 |_=>([],[])
theorem F80_ok:kj8 Try.prog K80 noRg Try.f80=some F80:=by kernel_rfl
/- 88: (*syndrome/field.Field).Neg -/
def c88L0:ACode:=(.seq (.region [.o 16 (.b .lss 15 14)]) (.seq (.cond (.tmp 16) .skip (.exit 0)) (.seq (.block 1 [0,1,5,6,14,15] (.seq (.region [.m 17 5, .m 18 0, .o 19 (.nilck (.tmp 18)), .o 20 (.f 1 19), .o 21 (.l 20), .m 22 1, .m 23 0, .o 24 (.nilck (.tmp 23)), .o 25 (.f 1 24), .o 26 (.l 25), .o 27 (.b .rem 22 26), .o 28 (.b .sub 21 27), .m 29 0, .o 30 (.nilck (.tmp 29)), .o 31 (.f 1 30), .o 32 (.l 31), .o 33 (.b .rem 28 32), .m 34 6, .o 35 (.b .mul 33 34), .o 36 (.b .add 17 35), .m 5 36]) (.region [.m 37 1, .m 38 0, .o 39 (.nilck (.tmp 38)), .o 40 (.f 1 39), .o 41 (.l 40), .o 42 (.b .quo 37 41), .m 43 6, .m 44 0, .o 45 (.nilck (.tmp 44)), .o 46 (.f 1 45), .o 47 (.l 46), .o 48 (.b .mul 43 47), .m 1 42, .m 6 48]))) (.region [.o 49 (.c .add 15 1), .m 15 49]))))
def c88:ACode:=(.seq (.region [.k 4 0]) (.seq (.seq (.region [.m 7 0, .m 8 1, .o 9 (.q 116 [7,8]), .o 10 (.un .not (.tmp 9))]) (.cond (.tmp 10) (.seq (.region [.k 4 (-1)]) .ret) .skip)) (.seq (.region [.k 5 0, .k 6 1]) (.seq (.seq (.region [.m 11 0, .o 12 (.nilck (.tmp 11)), .o 13 (.f 2 12), .o 14 (.l 13), .k 15 0]) (.block 0 [5] (.loop [0,1,5,6,14,15] c88L0))) (.seq (.region [.m 50 5, .m 4 50]) .ret)))))
def F88:AFun:=⟨c88,2,51,[(.tmp 4)]⟩
def K88:Nat→List Nat×List Nat
 |0=>([0,1,5,6,14,15],[5])
 |1=>([],[0,1,5,6,14,15])
 |_=>([],[])
theorem F88_ok:kj8 Try.prog K88 noRg Try.f88=some F88:=by kernel_rfl
/- 90: syndrome/code.encode -/
def c90L0:ACode:=(.seq (.region [.o 29 (.b .lss 28 27)]) (.seq (.cond (.tmp 29) .skip (.exit 2)) (.seq (.block 3 [0,4,7,9,15,16,17,26,27,28] (.seq (.region [.m 30 28, .o 31 (.i 1 26 28), .o 32 (.l 31), .m 10 30, .m 11 32]) (.region [.m 33 7, .m 34 10, .m 35 0, .m 36 7, .m 37 10, .o 38 (.i 1 36 37), .o 39 (.l 38), .m 40 0, .m 41 9, .m 42 11,⟨(some 43),(.call 106 [(.tmp 40),(.tmp 41),(.tmp 42)]),none,true⟩, .o 44 (.q 105 [35,39,43]), .o 45 (.i 1 33 34), .n (.st 1 (.tmp 45) (.tmp 44))]))) (.region [.o 46 (.c .add 28 1), .m 28 46]))))
def c90L1:ACode:=(.seq (.region [.o 18 (.b .lss 17 16)]) (.seq (.cond (.tmp 18) .skip (.exit 0)) (.seq (.block 1 [0,4,7,15,16,17] (.seq (.region [.m 19 17, .o 20 (.i 1 15 17), .o 21 (.l 20), .m 8 19, .m 9 21]) (.seq (.region [.o 22 (.f 2 4), .o 23 (.l 22), .m 24 8, .o 25 (.i 1 23 24), .o 26 (.l 25), .o 27 (.n 26), .k 28 0]) (.block 2 [0,4,7,15,16,17] (.loop [0,4,7,9,15,16,17,26,27,28] c90L0))))) (.region [.o 47 (.c .add 17 1), .m 17 47]))))
def c90:ACode:=(.seq (.region [.o 4 (.box 25 3 (.tmp 1)), .o 6 (.mv (.const (.slice none 0 0)))]) (.seq (.region [.o 12 (.f 1 4), .o 13 (.l 12), .o 14 (.mks 3 1 8 [(.int .i64 0)] (.tmp 13) (.tmp 13)), .m 7 14]) (.seq (.seq (.region [.m 15 2, .o 16 (.n 15), .k 17 0]) (.block 0 [7] (.loop [0,4,7,15,16,17] c90L1))) (.seq (.region [.m 48 7, .m 6 48]) .ret))))
def F90:AFun:=⟨c90,3,49,[(.tmp 6)]⟩
def K90:Nat→List Nat×List Nat
 |0=>([0,4,7,15,16,17],[7])
 |1=>([],[0,4,7,15,16,17])
 |2=>([0,4,7,9,15,16,17,26,27,28],[0,4,7,15,16,17])
 |3=>([],[0,4,7,9,15,16,17,26,27,28])
 |_=>([],[])
theorem F90_ok:kj8 Try.prog K90 noRg Try.f90=some F90:=by kernel_rfl
/- 91: syndrome/weights.kraw -/
def c91L0:ACode:=(.seq (.region [.o 32 (.b .lss 31 30)]) (.seq (.cond (.tmp 32) .skip (.exit 2)) (.seq (.block 3 [0,1,2,3,9,10,11,30,31] (.region [.m 33 11, .m 34 0, .o 35 (.c .sub 34 1), .o 36 (.b .mul 33 35), .m 11 36])) (.region [.o 37 (.c .add 31 1), .m 31 37]))))
def c91L1:ACode:=(.seq (.seq (.region [.m 12 10, .m 13 2, .o 14 (.b .leq 12 13)]) (.cond (.tmp 14) .skip (.exit 0))) (.seq (.block 1 [0,1,2,3,9,10] (.seq (.region [.m 17 3, .m 18 10, .o 19 (.q 99 [17,18]), .m 20 1, .m 21 3, .o 22 (.b .sub 20 21), .m 23 2, .m 24 10, .o 25 (.b .sub 23 24), .o 26 (.q 99 [22,25]), .o 27 (.b .mul 19 26), .m 11 27]) (.seq (.seq (.region [.m 28 2, .m 29 10, .o 30 (.b .sub 28 29), .k 31 0]) (.block 2 [0,1,2,3,9,10,11] (.loop [0,1,2,3,9,10,11,30,31] c91L0))) (.seq (.seq (.region [.m 38 10, .o 39 (.c .rem 38 2), .o 40 (.c .eql 39 1)]) (.cond (.tmp 40) (.region [.m 41 11, .o 42 (.un .neg (.tmp 41)), .m 11 42]) .skip)) (.region [.m 43 9, .m 44 11, .o 45 (.b .add 43 44), .m 9 45]))))) (.region [.m 15 10, .o 16 (.c .add 15 1), .m 10 16])))
def c91:ACode:=(.seq (.region [.k 8 0]) (.seq (.region [.k 9 0]) (.seq (.seq (.region [.k 10 0]) (.block 0 [9] (.loop [0,1,2,3,9,10] c91L1))) (.seq (.region [.m 46 9, .m 8 46]) .ret))))
def F91:AFun:=⟨c91,4,47,[(.tmp 8)]⟩
def K91:Nat→List Nat×List Nat
 |0=>([0,1,2,3,9,10],[9])
 |1=>([],[0,1,2,3,9,10])
 |2=>([0,1,2,3,9,10,11,30,31],[0,1,2,3,9,10,11])
 |3=>([],[0,1,2,3,9,10,11,30,31])
 |_=>([],[])
theorem F91_ok:kj8 Try.prog K91 noRg Try.f91=some F91:=by kernel_rfl
/- 92: syndrome/matrix.Check -/
def c92L0:ACode:=(.seq (.region [.o 23 (.b .lss 22 21)]) (.seq (.cond (.tmp 23) .skip (.exit 0)) (.seq (.block 1 [1,5,20,21,22] (.seq (.region [.o 24 (.i 1 20 22), .o 25 (.l 24), .m 8 25]) (.seq (.seq (.region [.m 26 8, .o 27 (.n 26), .m 28 1, .o 29 (.iaddr 1 (.tmp 28) (.const (.int .i64 0))), .o 30 (.l 29), .o 31 (.n 30), .o 32 (.b .neq 27 31), .m 33 32, .g 34 (.m 8) 33 false, .g 35 (.n 34) 33 false, .g 36 (.c .eql 35 0) 33 false, .o 37 (.pick (.tmp 33) (.const (.bool true)) (.tmp 36))]) (.cond (.tmp 37) (.seq (.region [.k 4 3]) .ret) .skip)) (.seq (.seq (.region [.m 38 8, .o 39 (.n 38), .o 40 (.c .gtr 39 64)]) (.cond (.tmp 40) (.seq (.region [.k 4 4]) .ret) .skip)) (.seq (.region [.m 41 8, .o 42 (.mkf 117 [(.tmp 5)]), .o 43 (.q 80 [41,42])]) (.cond (.tmp 43) (.seq (.region [.k 4 2]) .ret) .skip)))))) (.region [.o 44 (.c .add 22 1), .m 22 44]))))
def c92:ACode:=(.seq (.region [.k 4 0]) (.seq (.region [.m 10 0, .o 11 (.q 58 [10]), .m 9 11, .o 12 (.e 0 9), .o 13 (.e 1 9), .o 5 (.alloc 82 [(.pointer none)]), .n (.st 1 (.tmp 5) (.tmp 12)), .m 6 13]) (.seq (.seq (.region [.m 14 6, .o 15 (.c .neq 14 0)]) (.cond (.tmp 15) (.seq (.region [.m 16 6, .m 4 16]) .ret) .skip)) (.seq (.seq (.region [.m 17 1, .o 18 (.n 17), .o 19 (.c .gtr 18 64)]) (.cond (.tmp 19) (.seq (.region [.k 4 4]) .ret) .skip)) (.seq (.seq (.region [.m 20 1, .o 21 (.n 20), .k 22 0]) (.block 0 [] (.loop [1,5,20,21,22] c92L0))) (.seq (.region [.k 4 0]) .ret))))))
def F92:AFun:=⟨c92,2,45,[(.tmp 4)]⟩
def K92:Nat→List Nat×List Nat
 |0=>([1,5,20,21,22],[])
 |1=>([],[1,5,20,21,22])
 |_=>([],[])
theorem F92_ok:kj8 Try.prog K92 noRg Try.f92=some F92:=by kernel_rfl
/- 93: syndrome/matrix.clone -/
def c93L0:ACode:=(.seq (.region [.o 12 (.b .lss 11 10)]) (.seq (.cond (.tmp 12) .skip (.exit 0)) (.seq (.block 1 [3,9,10,11] (.seq (.region [.m 13 11, .o 14 (.i 1 9 11), .o 15 (.l 14), .m 4 13, .m 5 15]) (.region [.m 16 3, .m 17 4, .m 18 5, .o 19 (.q 66 [18]), .o 20 (.i 1 16 17), .n (.st 1 (.tmp 20) (.tmp 19))]))) (.region [.o 21 (.c .add 11 1), .m 11 21]))))
def c93:ACode:=(.seq (.region [.o 2 (.mv (.const (.slice none 0 0)))]) (.seq (.region [.m 6 0, .o 7 (.n 6), .o 8 (.mks 22 1 24 [(.slice none 0 0)] (.tmp 7) (.tmp 7)), .m 3 8]) (.seq (.seq (.region [.m 9 0, .o 10 (.n 9), .k 11 0]) (.block 0 [3] (.loop [3,9,10,11] c93L0))) (.seq (.region [.m 22 3, .m 2 22]) .ret))))
def F93:AFun:=⟨c93,1,23,[(.tmp 2)]⟩
def K93:Nat→List Nat×List Nat
 |0=>([3,9,10,11],[3])
 |1=>([],[3,9,10,11])
 |_=>([],[])
theorem F93_ok:kj8 Try.prog K93 noRg Try.f93=some F93:=by kernel_rfl
/- 94: slices.IndexFunc[[][]int,[]int] -/
def c94L0:ACode:=(.seq (.region [.o 9 (.b .lss 8 7)]) (.seq (.cond (.tmp 9) .skip (.exit 0)) (.seq (.block 1 [0,1,7,8] (.seq (.region [.m 10 8, .m 5 10]) (.seq (.region [.m 11 1, .m 12 0, .m 13 5, .o 14 (.i 1 12 13), .o 15 (.l 14), .o 16 (.calld (.tmp 11) [(.tmp 15)])]) (.cond (.tmp 16) (.seq (.region [.m 17 5, .m 4 17]) .ret) .skip)))) (.region [.o 18 (.c .add 8 1), .m 8 18]))))
def c94:ACode:=(.seq (.region [.k 4 0]) (.seq (.seq (.region [.m 6 0, .o 7 (.n 6), .k 8 0]) (.block 0 [] (.loop [0,1,7,8] c94L0))) (.seq (.region [.k 4 (-1)]) .ret)))
def F94:AFun:=⟨c94,2,19,[(.tmp 4)]⟩
def K94:Nat→List Nat×List Nat
 |0=>([0,1,7,8],[])
 |1=>([],[0,1,7,8])
 |_=>([],[])
theorem F94_ok:kj8 Try.prog K94 noRg Try.f94=some F94:=by kernel_rfl
/- 95: syndrome/matrix.Reduce$1 -/
def c95:ACode:=(.seq (.region [.o 3 (.mv (.const (.bool false)))]) (.seq (.region [.m 4 0, .o 5 (.l 1), .o 6 (.i 1 4 5), .o 7 (.l 6), .o 8 (.c .neq 7 0), .m 3 8]) .ret))
def F95:AFun:=⟨c95,2,9,[(.tmp 3)]⟩
def K95:Nat→List Nat×List Nat
 |_=>([],[])
theorem F95_ok:kj8 Try.prog K95 noRg Try.f95=some F95:=by kernel_rfl
/- 96: syndrome/matrix.scale -/
def c96L0:ACode:=(.seq (.region [.o 10 (.b .lss 9 8)]) (.seq (.cond (.tmp 10) .skip (.exit 0)) (.seq (.block 1 [0,1,2,8,9] (.seq (.region [.m 11 9, .m 6 11]) (.region [.m 12 1, .m 13 6, .m 14 0, .m 15 1, .m 16 6, .o 17 (.i 1 15 16), .o 18 (.l 17), .m 19 2, .o 20 (.q 106 [14,18,19]), .o 21 (.i 1 12 13), .n (.st 1 (.tmp 21) (.tmp 20))]))) (.region [.o 22 (.c .add 9 1), .m 9 22]))))
def c96:ACode:=(.seq (.region [.m 7 1, .o 8 (.n 7), .k 9 0]) (.block 0 [] (.loop [0,1,2,8,9] c96L0)))
def F96:AFun:=⟨c96,3,23,[]⟩
def K96:Nat→List Nat×List Nat
 |0=>([0,1,2,8,9],[])
 |1=>([],[0,1,2,8,9])
 |_=>([],[])
theorem F96_ok:kj8 Try.prog K96 noRg Try.f96=some F96:=by kernel_rfl
/- 97: (*syndrome/field.Field).Inv -/
def c97:ACode:=(.seq (.region [.k 4 0]) (.seq (.seq (.region [.m 5 0, .m 6 1, .o 7 (.q 116 [5,6]), .o 8 (.un .not (.tmp 7)), .m 9 8, .g 10 (.m 1) 9 false, .g 11 (.c .eql 10 0) 9 false, .o 12 (.pick (.tmp 9) (.const (.bool true)) (.tmp 11))]) (.cond (.tmp 12) (.seq (.region [.k 4 (-1)]) .ret) .skip)) (.seq (.region [.m 13 0, .o 14 (.nilck (.tmp 13)), .o 15 (.f 5 14), .o 16 (.l 15), .m 17 0, .o 18 (.nilck (.tmp 17)), .o 19 (.f 0 18), .o 20 (.l 19), .o 21 (.c .sub 20 1), .m 22 0, .o 23 (.nilck (.tmp 22)), .o 24 (.f 6 23), .o 25 (.l 24), .m 26 1, .o 27 (.i 1 25 26), .o 28 (.l 27), .o 29 (.b .sub 21 28), .m 30 0, .o 31 (.nilck (.tmp 30)), .o 32 (.f 0 31), .o 33 (.l 32), .o 34 (.c .sub 33 1), .o 35 (.b .rem 29 34), .o 36 (.i 1 16 35), .o 37 (.l 36), .m 4 37]) .ret)))
def F97:AFun:=⟨c97,2,38,[(.tmp 4)]⟩
def K97:Nat→List Nat×List Nat
 |_=>([],[])
theorem F97_ok:kj8 Try.prog K97 noRg Try.f97=some F97:=by kernel_rfl
/- 98: syndrome/matrix.less -/
def c98L0:ACode:=(.seq (.region [.o 12 (.b .lss 11 10)]) (.seq (.cond (.tmp 12) .skip (.exit 0)) (.seq (.block 1 [0,1,2,3,10,11] (.seq (.region [.m 13 11, .m 8 13]) (.region [.m 14 1, .m 15 8, .m 16 0, .m 17 1, .m 18 8, .o 19 (.i 1 17 18), .o 20 (.l 19), .m 21 0, .m 22 3, .m 23 2, .m 24 8, .o 25 (.i 1 23 24), .o 26 (.l 25),⟨(some 27),(.call 106 [(.tmp 21),(.tmp 22),(.tmp 26)]),none,true⟩, .o 28 (.q 108 [16,20,27]), .o 29 (.i 1 14 15), .n (.st 1 (.tmp 29) (.tmp 28))]))) (.region [.o 30 (.c .add 11 1), .m 11 30]))))
def c98:ACode:=(.seq (.region [.m 9 1, .o 10 (.n 9), .k 11 0]) (.block 0 [] (.loop [0,1,2,3,10,11] c98L0)))
def F98:AFun:=⟨c98,4,31,[]⟩
def K98:Nat→List Nat×List Nat
 |0=>([0,1,2,3,10,11],[])
 |1=>([],[0,1,2,3,10,11])
 |_=>([],[])
theorem F98_ok:kj8 Try.prog K98 noRg Try.f98=some F98:=by kernel_rfl
/- 99: syndrome/weights.choose -/
def c99L0:ACode:=(.seq (.region [.o 16 (.b .lss 15 14)]) (.seq (.cond (.tmp 16) .skip (.exit 0)) (.seq (.block 1 [0,5,14,15] (.seq (.region [.m 17 15, .m 6 17]) (.region [.m 18 5, .m 19 0, .m 20 6, .o 21 (.b .sub 19 20), .o 22 (.b .mul 18 21), .m 23 6, .o 24 (.c .add 23 1), .o 25 (.b .quo 22 24), .m 5 25]))) (.region [.o 26 (.c .add 15 1), .m 15 26]))))
def c99:ACode:=(.seq (.region [.k 4 0]) (.seq (.seq (.region [.m 7 1, .o 8 (.c .lss 7 0), .m 9 8, .g 10 (.m 1) 9 false, .g 11 (.m 0) 9 false, .g 12 (.b .gtr 10 11) 9 false, .o 13 (.pick (.tmp 9) (.const (.bool true)) (.tmp 12))]) (.cond (.tmp 13) (.seq (.region [.k 4 0]) .ret) .skip)) (.seq (.region [.k 5 1]) (.seq (.seq (.region [.m 14 1, .k 15 0]) (.block 0 [5] (.loop [0,5,14,15] c99L0))) (.seq (.region [.m 27 5, .m 4 27]) .ret)))))
def F99:AFun:=⟨c99,2,28,[(.tmp 4)]⟩
def K99:Nat→List Nat×List Nat
 |0=>([0,5,14,15],[5])
 |1=>([],[0,5,14,15])
 |_=>([],[])
theorem F99_ok:kj8 Try.prog K99 noRg Try.f99=some F99:=by kernel_rfl
/- 101: syndrome/field.New$1 -/
def c101:ACode:=(.region [.o 2 (.l 0), .o 3 (.l 0),⟨(some 4),(.call 102 [(.tmp 3)]),none,true⟩, .o 5 (.f 195 1), .o 6 (.iaddrA 65 1 (.tmp 5) (.tmp 2)), .n (.st 1 (.tmp 6) (.tmp 4))])
def F101:AFun:=⟨c101,2,7,[]⟩
def K101:Nat→List Nat×List Nat
 |_=>([],[])
theorem F101_ok:kj8 Try.prog K101 noRg Try.f101=some F101:=by kernel_rfl
/- 102: syndrome/field.build -/
def c102L0:ACode:=(.seq (.seq (.region [.m 28 5, .o 29 (.q 121 [28]), .o 30 (.un .not (.tmp 29))]) (.cond (.tmp 30) .skip (.exit 0))) (.seq (.block 1 [5] .skip) (.region [.m 31 5, .o 32 (.nilck (.tmp 31)), .o 33 (.f 4 32), .o 34 (.l 33), .o 35 (.c .add 34 1), .o 36 (.nilck (.tmp 31)), .o 37 (.f 4 36), .n (.st 1 (.tmp 37) (.tmp 35))])))
def c102L1:ACode:=(.seq (.region [.o 45 (.b .lss 44 43)]) (.seq (.cond (.tmp 45) .skip (.exit 2)) (.seq (.block 3 [3,4,5,43,44] (.seq (.region [.m 46 44, .m 6 46]) (.seq (.region [.m 47 5, .m 48 6, .m 49 3, .m 50 4, .o 51 (.q 122 [48,49,50]), .o 52 (.mkSl 3 1 1 [(.const (.int .i64 1))]), .o 53 (.app 3 1 8 (.tmp 51) (.tmp 52)), .o 54 (.nilck (.tmp 47)), .o 55 (.f 3 54), .n (.st 1 (.tmp 55) (.tmp 53))]) (.seq (.region [.m 56 5, .o 57 (.q 121 [56])]) (.cond (.tmp 57) (.seq (.region [.m 58 5, .m 2 58]) .ret) .skip))))) (.region [.o 59 (.c .add 44 1), .m 44 59]))))
def c102:ACode:=(.seq (.region [.o 2 (.mv (.const (.pointer none)))]) (.seq (.region [.m 8 0, .o 9 (.q 120 [8]), .m 7 9, .o 10 (.e 0 7), .o 11 (.e 1 7), .m 3 10, .m 4 11]) (.seq (.seq (.region [.m 12 3, .o 13 (.c .eql 12 0)]) (.cond (.tmp 13) (.seq (.region [.o 2 (.mv (.const (.pointer none)))]) .ret) .skip)) (.seq (.region [.m 14 0, .m 15 3, .m 16 4, .o 17 (.build [(.int .i64 0),(.int .i64 0),(.int .i64 0),(.slice none 0 0),(.int .i64 0),(.slice none 0 0),(.slice none 0 0)] [(0,1),(1,1),(2,1),(3,1),(4,1),(5,1),(6,1)] [(0,(.tmp 14)),(1,(.tmp 15)),(2,(.tmp 16))]), .o 18 (.box 141 7 (.tmp 17)), .m 5 18]) (.seq (.seq (.region [.m 19 4, .o 20 (.c .eql 19 1)]) (.cond (.tmp 20) (.seq (.region [.m 21 5, .o 22 (.mkSl 3 1 2 [(.const (.int .i64 0)),(.const (.int .i64 1))]), .o 23 (.nilck (.tmp 21)), .o 24 (.f 3 23), .n (.st 1 (.tmp 24) (.tmp 22))]) (.seq (.seq (.region [.m 25 5, .o 26 (.nilck (.tmp 25)), .o 27 (.f 4 26), .n (.st 1 (.tmp 27) (.const (.int .i64 1)))]) (.block 0 [5] (.loop [5] c102L0))) (.seq (.region [.m 38 5, .m 2 38]) .ret))) .skip)) (.seq (.region [.m 39 5, .m 40 3, .o 41 (.nilck (.tmp 39)), .o 42 (.f 4 41), .n (.st 1 (.tmp 42) (.tmp 40))]) (.seq (.seq (.region [.m 43 0, .k 44 0]) (.block 2 [] (.loop [3,4,5,43,44] c102L1))) (.seq (.region [.o 2 (.mv (.const (.pointer none)))]) .ret))))))))
def F102:AFun:=⟨c102,1,60,[(.tmp 2)]⟩
def K102:Nat→List Nat×List Nat
 |0=>([5],[5])
 |1=>([],[5])
 |2=>([3,4,5,43,44],[])
 |3=>([],[3,4,5,43,44])
 |_=>([],[])
theorem F102_ok:kj8 Try.prog K102 noRg Try.f102=some F102:=by kernel_rfl
/- 105: (*syndrome/field.Field).Add -/
def c105L0:ACode:=(.seq (.region [.o 24 (.b .lss 23 22)]) (.seq (.cond (.tmp 24) .skip (.exit 0)) (.seq (.block 1 [0,1,2,7,8,22,23] (.seq (.region [.m 25 7, .m 26 1, .m 27 0, .o 28 (.nilck (.tmp 27)), .o 29 (.f 1 28), .o 30 (.l 29), .o 31 (.b .rem 26 30), .m 32 2, .m 33 0, .o 34 (.nilck (.tmp 33)), .o 35 (.f 1 34), .o 36 (.l 35), .o 37 (.b .rem 32 36), .o 38 (.b .add 31 37), .m 39 0, .o 40 (.nilck (.tmp 39)), .o 41 (.f 1 40), .o 42 (.l 41), .o 43 (.b .rem 38 42), .m 44 8, .o 45 (.b .mul 43 44), .o 46 (.b .add 25 45), .m 7 46]) (.region [.m 47 1, .m 48 0, .o 49 (.nilck (.tmp 48)), .o 50 (.f 1 49), .o 51 (.l 50), .o 52 (.b .quo 47 51), .m 53 2, .m 54 0, .o 55 (.nilck (.tmp 54)), .o 56 (.f 1 55), .o 57 (.l 56), .o 58 (.b .quo 53 57), .m 59 8, .m 60 0, .o 61 (.nilck (.tmp 60)), .o 62 (.f 1 61), .o 63 (.l 62), .o 64 (.b .mul 59 63), .m 1 52, .m 2 58, .m 8 64]))) (.region [.o 65 (.c .add 23 1), .m 23 65]))))
def c105:ACode:=(.seq (.region [.k 6 0]) (.seq (.seq (.region [.m 9 0, .m 10 1, .o 11 (.q 116 [9,10]), .o 12 (.un .not (.tmp 11)), .m 13 12, .g 14 (.m 0) 13 false, .g 15 (.m 2) 13 false, .g 16 (.q 116 [14,15]) 13 false, .g 17 (.un .not (.tmp 16)) 13 false, .o 18 (.pick (.tmp 13) (.const (.bool true)) (.tmp 17))]) (.cond (.tmp 18) (.seq (.region [.k 6 (-1)]) .ret) .skip)) (.seq (.region [.k 7 0, .k 8 1]) (.seq (.seq (.region [.m 19 0, .o 20 (.nilck (.tmp 19)), .o 21 (.f 2 20), .o 22 (.l 21), .k 23 0]) (.block 0 [7] (.loop [0,1,2,7,8,22,23] c105L0))) (.seq (.region [.m 66 7, .m 6 66]) .ret)))))
def F105:AFun:=⟨c105,3,67,[(.tmp 6)]⟩
def K105:Nat→List Nat×List Nat
 |0=>([0,1,2,7,8,22,23],[7])
 |1=>([],[0,1,2,7,8,22,23])
 |_=>([],[])
theorem F105_ok:kj8 Try.prog K105 noRg Try.f105=some F105:=by kernel_rfl
/- 106: (*syndrome/field.Field).Mul -/
def c106:ACode:=(.seq (.region [.k 6 0]) (.seq (.seq (.region [.m 7 0, .m 8 1, .o 9 (.q 116 [7,8]), .o 10 (.un .not (.tmp 9)), .m 11 10, .g 12 (.m 0) 11 false, .g 13 (.m 2) 11 false, .g 14 (.q 116 [12,13]) 11 false, .g 15 (.un .not (.tmp 14)) 11 false, .o 16 (.pick (.tmp 11) (.const (.bool true)) (.tmp 15))]) (.cond (.tmp 16) (.seq (.region [.k 6 (-1)]) .ret) .skip)) (.seq (.seq (.region [.m 17 1, .o 18 (.c .eql 17 0), .m 19 18, .g 20 (.m 2) 19 false, .g 21 (.c .eql 20 0) 19 false, .o 22 (.pick (.tmp 19) (.const (.bool true)) (.tmp 21))]) (.cond (.tmp 22) (.seq (.region [.k 6 0]) .ret) .skip)) (.seq (.region [.m 23 0, .o 24 (.nilck (.tmp 23)), .o 25 (.f 5 24), .o 26 (.l 25), .m 27 0, .o 28 (.nilck (.tmp 27)), .o 29 (.f 6 28), .o 30 (.l 29), .m 31 1, .o 32 (.i 1 30 31), .o 33 (.l 32), .m 34 0, .o 35 (.nilck (.tmp 34)), .o 36 (.f 6 35), .o 37 (.l 36), .m 38 2, .o 39 (.i 1 37 38), .o 40 (.l 39), .o 41 (.b .add 33 40), .m 42 0, .o 43 (.nilck (.tmp 42)), .o 44 (.f 0 43), .o 45 (.l 44), .o 46 (.c .sub 45 1), .o 47 (.b .rem 41 46), .o 48 (.i 1 26 47), .o 49 (.l 48), .m 6 49]) .ret))))
def F106:AFun:=⟨c106,3,50,[(.tmp 6)]⟩
def K106:Nat→List Nat×List Nat
 |_=>([],[])
theorem F106_ok:kj8 Try.prog K106 noRg Try.f106=some F106:=by kernel_rfl
end Go.Proofs.Ytoglhlonhmmieaa
