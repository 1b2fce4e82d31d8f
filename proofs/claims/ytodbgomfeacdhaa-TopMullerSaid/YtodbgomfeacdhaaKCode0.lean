/-
  Functions of this seat as the small machine's code, written by a program of my own (gen.py); each is checked to be what the model's function is turned into. No condition.
-/
import Derived.Test.YtodbgomfeacdhaaK2
import Derived.Test.YtodbgomfeacdhaaProg
set_option linter.unusedVariables false
set_option linter.unusedSimpArgs false
set_option linter.unusedSectionVars false
set_option maxRecDepth 100000
namespace Go.Proofs.Ytodbgomfeacdhaa
open Go.Am
/- 12: syndrome/syndrometop.TopMuller -/
def c12L0:ACode:=(.seq (.seq (.region [.m 167 23, .m 168 3, .m 169 2, .m 170 1, .o 171 (.b .sub 169 170), .o 172 (.c .sub 171 1), .o 173 (.bin .shl (.const (.int .i64 1)) (.tmp 172)), .o 174 (.q 45 [168,173]), .o 175 (.b .lss 167 174)]) (.cond (.tmp 175) .skip (.exit 0))) (.seq (.block 1 [0,1,2,3,20,21,22,23] (.seq (.region [.m 178 0, .m 179 23, .o 180 (.bin .add (.const (.int .i64 50)) (.tmp 179)), .o 181 (.q 59 [178,180]), .m 182 21, .o 183 (.n 182), .o 184 (.q 45 [181,183]), .m 24 184]) (.region [.m 185 22, .m 186 24, .m 187 22, .m 188 24, .o 189 (.i 1 187 188), .o 190 (.l 189), .o 191 (.bin .sub (.const (.int .i64 1)) (.tmp 190)), .o 192 (.i 1 185 186), .n (.st 1 (.tmp 192) (.tmp 191))]))) (.region [.m 176 23, .o 177 (.c .add 176 1), .m 23 177])))
def c12:ACode:=(.seq (.region [.o 8 (.mv (.const (.bool false)))]) (.seq (.seq (.region [.m 28 0, .o 29 (.n 28), .o 30 (.c .gtr 29 256)]) (.cond (.tmp 30) (.seq (.region [.o 8 (.mv (.const (.bool true)))]) .ret) .skip)) (.seq (.region [.m 31 2, .o 32 (.call 45 [(.tmp 31),(.const (.int .i64 5))]), .o 33 (.bin .add (.const (.int .i64 1)) (.tmp 32)), .m 2 33]) (.seq (.region [.m 34 1, .m 35 2, .o 36 (.q 45 [34,35]), .m 1 36]) (.seq (.region [.m 38 1, .m 39 2, .o 40 (.q 61 [38,39]), .m 37 40, .o 41 (.e 0 37), .o 42 (.e 1 37), .o 9 (.alloc 25 [(.int .i64 0),(.int .i64 0),(.slice none 0 0)]), .n (.st 3 (.tmp 9) (.tmp 41)), .m 10 42]) (.seq (.region [.o 44 (.ld true 3 (.tmp 9)), .o 45 (.q 62 [44]), .m 43 45, .o 46 (.e 0 43), .o 47 (.e 1 43), .o 11 (.alloc 25 [(.int .i64 0),(.int .i64 0),(.slice none 0 0)]), .n (.st 3 (.tmp 11) (.tmp 46)), .m 12 47]) (.seq (.region [.m 49 2, .o 50 (.c .sub 49 1), .m 51 1, .o 52 (.b .sub 50 51), .m 53 2, .o 54 (.q 61 [52,53]), .m 48 54, .o 55 (.e 0 48), .o 56 (.e 1 48), .o 13 (.alloc 25 [(.int .i64 0),(.int .i64 0),(.slice none 0 0)]), .n (.st 3 (.tmp 13) (.tmp 55)), .m 14 56]) (.seq (.seq (.region [.m 57 10, .o 58 (.c .neq 57 0), .m 59 58, .g 60 (.m 12) 59 false, .g 61 (.c .neq 60 0) 59 false, .o 62 (.pick (.tmp 59) (.const (.bool true)) (.tmp 61)), .m 63 62, .g 64 (.m 14) 63 false, .g 65 (.c .neq 64 0) 63 false, .o 66 (.pick (.tmp 63) (.const (.bool true)) (.tmp 65)), .m 67 66, .g 68 (.ld true 3 (.tmp 11)) 67 false, .g 69 (.ld true 3 (.tmp 13)) 67 false, .g 70 (.q 13 [68,69]) 67 false, .g 71 (.un .not (.tmp 70)) 67 false, .o 72 (.pick (.tmp 67) (.const (.bool true)) (.tmp 71))]) (.cond (.tmp 72) (.seq (.region [.o 8 (.mv (.const (.bool false)))]) .ret) .skip)) (.seq (.region [.o 74 (.ld true 3 (.tmp 9)), .m 75 2, .o 76 (.bin .shl (.const (.int .i64 1)) (.tmp 75)), .m 77 0, .m 78 2, .o 79 (.bin .shl (.const (.int .i64 1)) (.tmp 78)),⟨(some 80),(.call 46 [(.tmp 77),(.const (.int .i64 7)),(.tmp 79),(.const (.bool false))]),none,true⟩, .o 81 (.mkSl 28 1 1 [(.tmp 80)]), .o 82 (.build [(.int .i64 0),(.int .i64 0),(.slice none 0 0)] [(0,1),(1,1),(2,1)] [(0,(.const (.int .i64 2))),(1,(.tmp 76)),(2,(.tmp 81))]),⟨(some 83),(.call 63 [(.tmp 74),(.tmp 82)]),none,true⟩, .m 73 83, .o 84 (.e 0 73), .o 85 (.e 1 73), .o 15 (.alloc 25 [(.int .i64 0),(.int .i64 0),(.slice none 0 0)]), .n (.st 3 (.tmp 15) (.tmp 84)), .m 10 85]) (.seq (.region [.m 87 1, .o 88 (.c .add 87 1), .m 89 2, .o 90 (.q 61 [88,89]), .m 86 90, .o 91 (.e 0 86), .o 92 (.e 1 86), .o 16 (.alloc 25 [(.int .i64 0),(.int .i64 0),(.slice none 0 0)]), .n (.st 3 (.tmp 16) (.tmp 91)), .m 12 92]) (.seq (.region [.o 94 (.ld true 3 (.tmp 9)), .o 95 (.ld true 3 (.tmp 16)), .o 96 (.q 63 [94,95]), .m 93 96, .o 97 (.e 0 93), .o 98 (.e 1 93), .o 17 (.alloc 25 [(.int .i64 0),(.int .i64 0),(.slice none 0 0)]), .n (.st 3 (.tmp 17) (.tmp 97)), .m 14 98]) (.seq (.seq (.region [.m 99 10, .o 100 (.c .neq 99 0), .m 101 100, .g 102 (.m 12) 101 false, .g 103 (.c .neq 102 0) 101 false, .o 104 (.pick (.tmp 101) (.const (.bool true)) (.tmp 103)), .m 105 104, .g 106 (.m 14) 105 false, .g 107 (.c .neq 106 0) 105 false, .o 108 (.pick (.tmp 105) (.const (.bool true)) (.tmp 107)), .m 109 108, .g 110 (.ld true 3 (.tmp 17)) 109 false, .g 111 (.ld true 3 (.tmp 16)) 109 false, .g 112 (.q 13 [110,111]) 109 false, .g 113 (.un .not (.tmp 112)) 109 false, .o 114 (.pick (.tmp 109) (.const (.bool true)) (.tmp 113)), .m 115 114, .g 116 (.f 2 15) 115 false, .g 117 (.l 116) 115 false, .g 118 (.n 117) 115 false, .g 119 (.f 2 9) 115 false, .g 120 (.l 119) 115 false, .g 121 (.n 120) 115 false, .g 122 (.b .sub 118 121) 115 false, .g 123 (.c .gtr 122 1) 115 false, .o 124 (.pick (.tmp 115) (.const (.bool true)) (.tmp 123))]) (.cond (.tmp 124) (.seq (.region [.o 8 (.mv (.const (.bool false)))]) .ret) .skip)) (.seq (.seq (.region [.o 125 (.f 2 9), .o 126 (.l 125), .o 127 (.n 126), .o 128 (.call 64 [(.const (.int .i64 2)),(.tmp 127)])]) (.cond (.tmp 128) (.seq (.region [.o 130 (.ld true 3 (.tmp 9)), .o 131 (.q 21 [130]), .m 129 131, .o 132 (.e 0 129), .o 133 (.e 1 129), .m 18 132, .m 19 133]) (.seq (.region [.m 134 19, .o 135 (.c .neq 134 0), .m 136 135, .g 137 (.m 18) 136 false, .g 138 (.m 2) 136 false, .g 139 (.m 1) 136 false, .g 140 (.b .sub 138 139) 136 false, .g 141 (.bin .shl (.const (.int .i64 1)) (.tmp 140)) 136 false, .g 142 (.b .neq 137 141) 136 false, .o 143 (.pick (.tmp 136) (.const (.bool true)) (.tmp 142))]) (.cond (.tmp 143) (.seq (.region [.o 8 (.mv (.const (.bool false)))]) .ret) .skip))) .skip)) (.seq (.region [.m 144 0, .o 145 (.f 2 9), .o 146 (.l 145), .o 147 (.n 146), .o 148 (.call 46 [(.tmp 144),(.const (.int .i64 0)),(.tmp 147),(.const (.bool false))]), .m 20 148]) (.seq (.region [.m 150 1, .m 151 2, .m 152 20, .o 153 (.q 65 [150,151,152]), .m 149 153, .o 154 (.e 0 149), .o 155 (.e 1 149), .m 21 154, .m 10 155]) (.seq (.seq (.region [.m 156 10, .o 157 (.c .neq 156 0), .m 158 157, .g 159 (.m 21) 158 false, .g 160 (.n 159) 158 false, .g 161 (.m 2) 158 false, .g 162 (.bin .shl (.const (.int .i64 1)) (.tmp 161)) 158 false, .g 163 (.b .neq 160 162) 158 false, .o 164 (.pick (.tmp 158) (.const (.bool true)) (.tmp 163))]) (.cond (.tmp 164) (.seq (.region [.o 8 (.mv (.const (.bool false)))]) .ret) .skip)) (.seq (.region [.m 165 21, .o 166 (.q 47 [165]), .m 22 166]) (.seq (.seq (.region [.k 23 0]) (.block 0 [1,2,20,21,22] (.loop [0,1,2,3,20,21,22,23] c12L0))) (.seq (.region [.m 194 1, .m 195 2, .m 196 22, .o 197 (.q 66 [194,195,196]), .m 193 197, .o 198 (.e 0 193), .o 199 (.e 1 193), .o 200 (.e 2 193), .o 201 (.e 3 193), .m 25 198, .m 26 199, .m 27 200, .m 10 201]) (.seq (.region [.m 202 10, .o 203 (.c .eql 202 0), .m 204 203, .g 205 (.m 27) 204 true, .o 206 (.pick (.tmp 204) (.tmp 205) (.const (.bool false))), .m 207 206, .g 208 (.m 20) 207 true, .g 209 (.m 25) 207 true, .g 210 (.q 28 [208,209]) 207 true, .o 211 (.pick (.tmp 207) (.tmp 210) (.const (.bool false))), .m 212 211, .g 213 (.m 26) 212 true, .g 214 (.m 21) 212 true, .g 215 (.m 22) 212 true, .g 216 (.q 67 [214,215]) 212 true, .g 217 (.b .eql 213 216) 212 true, .o 218 (.pick (.tmp 212) (.tmp 217) (.const (.bool false))), .m 8 218]) .ret))))))))))))))))))))
def F12:AFun:=⟨c12,4,219,[(.tmp 8)]⟩
def K12:Nat→List Nat×List Nat
 |0=>([0,1,2,3,20,21,22,23],[1,2,20,21,22])
 |1=>([],[0,1,2,3,20,21,22,23])
 |_=>([],[])
theorem F12_ok:kj8 Try.prog K12 noRg Try.f12=some F12:=by kernel_rfl
/- 13: syndrome/syndromeref.SameCode -/
def c13:ACode:=(.seq (.region [.o 2 (.box 25 3 (.tmp 0)), .o 3 (.box 25 3 (.tmp 1)), .o 4 (.mv (.const (.bool false)))]) (.seq (.region [.o 5 (.f 0 2), .o 6 (.l 5), .o 7 (.f 0 3), .o 8 (.l 7), .o 9 (.b .eql 6 8), .m 10 9, .g 11 (.f 1 2) 10 true, .g 12 (.l 11) 10 true, .g 13 (.f 1 3) 10 true, .g 14 (.l 13) 10 true, .g 15 (.b .eql 12 14) 10 true, .o 16 (.pick (.tmp 10) (.tmp 15) (.const (.bool false))), .m 17 16, .g 18 (.f 2 2) 17 true, .g 19 (.l 18) 17 true, .g 20 (.f 2 3) 17 true, .g 21 (.l 20) 17 true, .g 22 (.q 68 [19,21]) 17 true, .o 23 (.pick (.tmp 17) (.tmp 22) (.const (.bool false))), .m 4 23]) .ret))
def F13:AFun:=⟨c13,2,24,[(.tmp 4)]⟩
def K13:Nat→List Nat×List Nat
 |_=>([],[])
theorem F13_ok:kj8 Try.prog K13 noRg Try.f13=some F13:=by kernel_rfl
/- 20: syndrome/code.Weights -/
def c20L0:ACode:=(.seq (.seq (.region [.m 59 38, .o 60 (.c .geq 59 0)]) (.cond (.tmp 60) .skip (.exit 2))) (.seq (.block 3 [5,33,35,37,38,113] (.seq (.region [.m 63 37, .m 64 38, .o 65 (.i 1 63 64), .o 66 (.l 65), .o 67 (.c .add 66 1), .o 68 (.i 1 63 64), .n (.st 1 (.tmp 68) (.tmp 67))]) (.seq (.seq (.region [.m 69 37, .m 70 38, .o 71 (.i 1 69 70), .o 72 (.l 71), .o 73 (.f 0 33), .o 74 (.l 73), .o 75 (.b .lss 72 74)]) (.cond (.tmp 75) (.exit 2) .skip)) (.region [.m 76 37, .m 77 38, .o 78 (.i 1 76 77), .n (.st 1 (.tmp 78) (.const (.int .i64 0)))])))) (.region [.m 61 38, .o 62 (.c .sub 61 1), .m 38 62])))
def c20L1:ACode:=(.seq (.seq (.seq (.region [.m 50 37, .m 51 35, .o 52 (.ld true 3 (.tmp 33)), .m 53 37, .o 54 (.q 133 [51,52,53]), .o 113 (.pick (.tmp 113) (.tmp 114) (.const (.bool false))), .m 86 5, .m 103 50, .m 104 54]) (.seq (.block 1001 [5,33,35,37,113] (.seq (.region [.m 88 104]) (.block 1 [5,33,35,37,113] (.region [.o 105 (.l 86), .m 106 88,⟨(some 107),(.call 77 [(.tmp 106)]),none,true⟩, .o 108 (.i 1 105 107), .o 109 (.l 108), .o 110 (.c .add 109 1), .o 111 (.i 1 105 107), .n (.st 1 (.tmp 111) (.tmp 110))])))) (.region [.o 55 (.un .not (.tmp 113))]))) (.cond (.tmp 55) .skip (.exit 0))) (.block 1 [5,33,35,37,113] (.seq (.region [.m 56 37, .o 57 (.n 56), .o 58 (.c .sub 57 1), .m 38 58]) (.seq (.block 2 [5,33,35,37,38,113] (.loop [5,33,35,37,38,113] c20L0)) (.seq (.region [.m 79 38, .o 80 (.c .lss 79 0)]) (.cond (.tmp 80) (.exit 1000) .skip))))))
def c20:ACode:=(.seq (.region [.o 1 (.box 25 3 (.tmp 0)), .o 2 (.mv (.const (.slice none 0 0))), .k 3 0]) (.seq (.region [.o 9 (.ld true 3 (.tmp 1)), .o 10 (.q 75 [9]), .m 8 10, .o 11 (.e 0 8), .o 12 (.e 1 8), .n (.st 3 (.tmp 1) (.tmp 11)), .m 4 12]) (.seq (.seq (.region [.m 13 4, .o 14 (.c .neq 13 0)]) (.cond (.tmp 14) (.seq (.region [.m 15 4, .o 2 (.mv (.const (.slice none 0 0))), .m 3 15]) .ret) .skip)) (.seq (.region [.o 16 (.f 1 1), .o 17 (.l 16), .o 18 (.c .add 17 1), .o 19 (.mks 3 1 8 [(.int .i64 0)] (.tmp 18) (.tmp 18)), .o 5 (.alloc 28 [(.slice none 0 0)]), .n (.st 1 (.tmp 5) (.tmp 19))]) (.seq (.seq (.region [.o 20 (.ld true 3 (.tmp 1)), .o 21 (.q 76 [20])]) (.block 0 [5] (.seq (.block 0 [5,21] .skip) (.seq (.region [.o 113 (.mv (.const (.bool false))), .o 33 (.capt 131 1 0 (.tmp 21))]) (.seq (.block 1000 [113,5] (.seq (.region [.o 40 (.f 0 33), .o 41 (.l 40), .o 42 (.q 132 [41]), .m 39 42, .o 43 (.e 0 39), .o 44 (.e 1 39), .m 35 43, .m 36 44]) (.seq (.region [.o 45 (.f 2 33), .o 46 (.l 45), .o 47 (.n 46), .o 48 (.mks 3 1 8 [(.int .i64 0)] (.tmp 47) (.tmp 47)), .m 37 48]) (.block 0 [5,113] (.loop [5,33,35,37,113] c20L1))))) (.cond (.tmp 113) (.seq (.block 0 [5] .skip) .ret) (.block 0 [5] .skip))))))) (.seq (.region [.o 31 (.l 5), .m 2 31, .k 3 0]) .ret))))))
def F20:AFun:=⟨c20,1,32,[(.tmp 2),(.tmp 3)]⟩
def K20:Nat→List Nat×List Nat
 |0=>([],[5])
 |_=>([],[])
def K20I0:Nat→List Nat×List Nat
 |0=>([5,33,35,37,113],[5,113])
 |1=>([5,113],[5,33,35,37,113])
 |2=>([5,33,35,37,38,113],[5,33,35,37,38,113])
 |3=>([5,113],[5,33,35,37,38,113])
 |_=>([],[])
def K20B0:Nat→List Nat×List Nat
 |1=>([5,33,35,37,113],[5,33,35,37,113])
 |_=>([],[])
def R20:Nat→Option RgIn
 |0=>some ⟨131,1,1000,1001,[5,21],[5],[5,33,35,37,113],[5],[0,17],K20I0,K20B0⟩
 |_=>none
theorem F20_ok:kj8 Try.prog K20 R20 Try.f20=some F20:=by kernel_rfl
/- 21: syndrome/code.Distance -/
def c21L0:ACode:=(.seq (.seq (.region [.m 15 6, .m 16 4, .o 17 (.n 16), .o 18 (.b .lss 15 17)]) (.cond (.tmp 18) .skip (.exit 0))) (.seq (.block 1 [4,6] (.seq (.region [.m 21 4, .m 22 6, .o 23 (.i 1 21 22), .o 24 (.l 23), .o 25 (.c .gtr 24 0)]) (.cond (.tmp 25) (.seq (.region [.m 26 6, .m 2 26, .k 3 0]) .ret) .skip))) (.region [.m 19 6, .o 20 (.c .add 19 1), .m 6 20])))
def c21:ACode:=(.seq (.region [.o 1 (.box 25 3 (.tmp 0)), .k 2 0, .k 3 0]) (.seq (.region [.o 8 (.ld true 3 (.tmp 1)), .o 9 (.q 20 [8]), .m 7 9, .o 10 (.e 0 7), .o 11 (.e 1 7), .m 4 10, .m 5 11]) (.seq (.seq (.region [.m 12 5, .o 13 (.c .neq 12 0)]) (.cond (.tmp 13) (.seq (.region [.m 14 5, .k 2 0, .m 3 14]) .ret) .skip)) (.seq (.seq (.region [.k 6 1]) (.block 0 [] (.loop [4,6] c21L0))) (.seq (.region [.k 2 0, .k 3 0]) .ret)))))
def F21:AFun:=⟨c21,1,27,[(.tmp 2),(.tmp 3)]⟩
def K21:Nat→List Nat×List Nat
 |0=>([4,6],[])
 |1=>([],[4,6])
 |_=>([],[])
theorem F21_ok:kj8 Try.prog K21 noRg Try.f21=some F21:=by kernel_rfl
/- 28: syndrome/syndromeref.Same -/
def c28L0:ACode:=(.seq (.seq (.region [.m 11 5, .m 12 0, .o 13 (.n 12), .o 14 (.b .lss 11 13)]) (.cond (.tmp 14) .skip (.exit 0))) (.seq (.block 1 [0,1,5] (.seq (.region [.m 17 0, .m 18 5, .o 19 (.i 1 17 18), .o 20 (.l 19), .m 21 1, .m 22 5, .o 23 (.i 1 21 22), .o 24 (.l 23), .o 25 (.b .neq 20 24)]) (.cond (.tmp 25) (.seq (.region [.o 4 (.mv (.const (.bool false)))]) .ret) .skip))) (.region [.m 15 5, .o 16 (.c .add 15 1), .m 5 16])))
def c28:ACode:=(.seq (.region [.o 4 (.mv (.const (.bool false)))]) (.seq (.seq (.region [.m 6 0, .o 7 (.n 6), .m 8 1, .o 9 (.n 8), .o 10 (.b .neq 7 9)]) (.cond (.tmp 10) (.seq (.region [.o 4 (.mv (.const (.bool false)))]) .ret) .skip)) (.seq (.seq (.region [.k 5 0]) (.block 0 [] (.loop [0,1,5] c28L0))) (.seq (.region [.o 4 (.mv (.const (.bool true)))]) .ret))))
def F28:AFun:=⟨c28,2,26,[(.tmp 4)]⟩
def K28:Nat→List Nat×List Nat
 |0=>([0,1,5],[])
 |1=>([],[0,1,5])
 |_=>([],[])
theorem F28_ok:kj8 Try.prog K28 noRg Try.f28=some F28:=by kernel_rfl
/- 45: syndrome/syndromeref.Pick -/
def c45:ACode:=(.seq (.region [.k 4 0]) (.seq (.seq (.region [.m 5 0, .o 6 (.c .lss 5 0)]) (.cond (.tmp 6) (.region [.m 7 0, .o 8 (.c .add 7 1), .o 9 (.un .neg (.tmp 8)), .m 0 9]) .skip)) (.seq (.region [.m 10 0, .m 11 1, .o 12 (.b .rem 10 11), .m 4 12]) .ret)))
def F45:AFun:=⟨c45,2,13,[(.tmp 4)]⟩
def K45:Nat→List Nat×List Nat
 |_=>([],[])
theorem F45_ok:kj8 Try.prog K45 noRg Try.f45=some F45:=by kernel_rfl
/- 46: syndrome/syndromeref.WordOf -/
def c46L0:ACode:=(.seq (.seq (.region [.m 12 10, .m 13 2, .o 14 (.b .lss 12 13)]) (.cond (.tmp 14) .skip (.exit 0))) (.seq (.block 1 [0,1,2,3,9,10] (.seq (.region [.m 17 0, .m 18 1, .m 19 10, .o 20 (.b .add 18 19), .o 21 (.q 59 [17,20]), .o 22 (.call 45 [(.tmp 21),(.const (.int .i64 4))]), .m 11 22]) (.seq (.seq (.region [.m 23 11, .o 24 (.c .gtr 23 1)]) (.cond (.tmp 24) (.seq (.region [.m 25 11, .o 26 (.c .sub 25 2), .m 11 26]) (.seq (.region [.m 27 3, .m 28 27, .g 29 (.m 0) 28 true, .g 30 (.m 1) 28 true, .g 31 (.m 10) 28 true, .g 32 (.b .add 30 31) 28 true, .g 33 (.q 59 [29,32]) 28 true, .g 34 (.c .quo 33 4) 28 true, .g 35 (.call 45 [(.tmp 34),(.const (.int .i64 2))]) 28 true, .g 36 (.c .eql 35 0) 28 true, .o 37 (.pick (.tmp 28) (.tmp 36) (.const (.bool false)))]) (.cond (.tmp 37) (.region [.k 11 (-1)]) .skip))) .skip)) (.region [.m 38 9, .m 39 11, .o 40 (.mkSl 3 1 1 [(.tmp 39)]), .o 41 (.app 3 1 8 (.tmp 38) (.tmp 40)), .m 9 41])))) (.region [.m 15 10, .o 16 (.c .add 15 1), .m 10 16])))
def c46:ACode:=(.seq (.region [.o 8 (.mv (.const (.slice none 0 0)))]) (.seq (.region [.o 9 (.mv (.const (.slice none 0 0)))]) (.seq (.seq (.region [.k 10 0]) (.block 0 [9] (.loop [0,1,2,3,9,10] c46L0))) (.seq (.region [.m 42 9, .m 8 42]) .ret))))
def F46:AFun:=⟨c46,4,43,[(.tmp 8)]⟩
def K46:Nat→List Nat×List Nat
 |0=>([0,1,2,3,9,10],[9])
 |1=>([],[0,1,2,3,9,10])
 |_=>([],[])
theorem F46_ok:kj8 Try.prog K46 noRg Try.f46=some F46:=by kernel_rfl
/- 47: syndrome/syndromeref.Copy -/
def c47:ACode:=(.seq (.region [.o 2 (.mv (.const (.slice none 0 0)))]) (.seq (.region [.o 3 (.mkSl 3 1 0 []), .m 4 0, .o 5 (.app 3 1 8 (.tmp 3) (.tmp 4)), .m 2 5]) .ret))
def F47:AFun:=⟨c47,1,6,[(.tmp 2)]⟩
def K47:Nat→List Nat×List Nat
 |_=>([],[])
theorem F47_ok:kj8 Try.prog K47 noRg Try.f47=some F47:=by kernel_rfl
/- 59: syndrome/syndromeref.Raw -/
def c59:ACode:=(.seq (.region [.k 4 0]) (.seq (.seq (.region [.m 5 0, .o 6 (.n 5), .o 7 (.c .eql 6 0)]) (.cond (.tmp 7) (.seq (.region [.m 8 1, .m 4 8]) .ret) .skip)) (.seq (.region [.m 9 0, .m 10 1, .m 11 0, .o 12 (.n 11), .o 13 (.b .rem 10 12), .o 14 (.i 1 9 13), .o 15 (.l 14), .m 16 1, .m 17 0, .o 18 (.n 17), .o 19 (.b .quo 16 18), .o 20 (.c .mul 19 7919), .o 21 (.b .add 15 20), .m 4 21]) .ret)))
def F59:AFun:=⟨c59,2,22,[(.tmp 4)]⟩
def K59:Nat→List Nat×List Nat
 |_=>([],[])
theorem F59_ok:kj8 Try.prog K59 noRg Try.f59=some F59:=by kernel_rfl
/- 61: syndrome/muller.Code -/
def c61L0:ACode:=(.seq (.region [.o 25 (.b .lss 24 23)]) (.seq (.cond (.tmp 25) .skip (.exit 0)) (.seq (.block 1 [1,4,7,22,23,24] (.seq (.region [.o 26 (.i 1 22 24), .o 27 (.l 26), .m 9 27]) (.region [.o 28 (.f 2 7), .o 29 (.l 28), .m 30 9, .m 31 1,⟨(some 32),(.call 114 [(.tmp 30),(.tmp 31)]),none,true⟩, .o 33 (.mkSl 28 1 1 [(.tmp 32)]), .o 34 (.app 28 1 24 (.tmp 29) (.tmp 33)), .o 35 (.f 2 7), .n (.st 1 (.tmp 35) (.tmp 34))]))) (.region [.o 36 (.c .add 24 1), .m 24 36]))))
def c61:ACode:=(.seq (.region [.o 4 (.alloc 25 [(.int .i64 0),(.int .i64 0),(.slice none 0 0)]), .k 5 0]) (.seq (.seq (.region [.m 10 0, .m 11 1, .o 12 (.q 112 [10,11]), .m 6 12]) (.seq (.region [.m 13 6, .o 14 (.c .neq 13 0)]) (.cond (.tmp 14) (.seq (.region [.o 15 (.build [(.int .i64 0),(.int .i64 0),(.slice none 0 0)] [(0,1),(1,1),(2,1)] []), .m 16 6, .n (.st 3 (.tmp 4) (.tmp 15)), .m 5 16]) .ret) .skip))) (.seq (.region [.m 17 1, .o 18 (.bin .shl (.const (.int .i64 1)) (.tmp 17)), .o 19 (.build [(.int .i64 0),(.int .i64 0),(.slice none 0 0)] [(0,1),(1,1),(2,1)] [(0,(.const (.int .i64 2))),(1,(.tmp 18))]), .o 7 (.alloc 25 [(.int .i64 0),(.int .i64 0),(.slice none 0 0)]), .n (.st 3 (.tmp 7) (.tmp 19))]) (.seq (.seq (.region [.m 20 0, .m 21 1, .o 22 (.q 113 [20,21]), .o 23 (.n 22), .k 24 0]) (.block 0 [4,7] (.loop [1,4,7,22,23,24] c61L0))) (.seq (.region [.o 37 (.ld true 3 (.tmp 7)), .o 38 (.q 115 [37]), .o 39 (.e 0 38), .o 40 (.e 1 38), .n (.st 3 (.tmp 4) (.tmp 39)), .m 5 40]) .ret)))))
def F61:AFun:=⟨c61,2,41,[(.cell 4 true 3),(.tmp 5)]⟩
def K61:Nat→List Nat×List Nat
 |0=>([1,4,7,22,23,24],[4,7])
 |1=>([],[1,4,7,22,23,24])
 |_=>([],[])
theorem F61_ok:kj8 Try.prog K61 noRg Try.f61=some F61:=by kernel_rfl
/- 62: syndrome/code.Dual -/
def c62L0:ACode:=(.seq (.region [.o 25 (.b .lss 24 23)]) (.seq (.cond (.tmp 25) .skip (.exit 0)) (.seq (.block 1 [1,2,23,24] (.seq (.region [.m 26 24, .m 5 26]) (.seq (.region [.o 27 (.f 1 1), .o 28 (.l 27), .o 29 (.mks 3 1 8 [(.int .i64 0)] (.tmp 28) (.tmp 28)), .m 6 29]) (.seq (.region [.m 30 6, .m 31 5, .o 32 (.i 1 30 31), .n (.st 1 (.tmp 32) (.const (.int .i64 1)))]) (.region [.o 33 (.f 2 1), .o 34 (.l 33), .m 35 6, .o 36 (.mkSl 28 1 1 [(.tmp 35)]), .o 37 (.app 28 1 24 (.tmp 34) (.tmp 36)), .o 38 (.f 2 1), .n (.st 1 (.tmp 38) (.tmp 37))]))))) (.region [.o 39 (.c .add 24 1), .m 24 39]))))
def c62:ACode:=(.seq (.region [.o 1 (.box 25 3 (.tmp 0)), .o 2 (.alloc 25 [(.int .i64 0),(.int .i64 0),(.slice none 0 0)]), .k 3 0]) (.seq (.region [.o 10 (.ld true 3 (.tmp 1)), .o 11 (.q 115 [10]), .m 9 11, .o 12 (.e 0 9), .o 13 (.e 1 9), .n (.st 3 (.tmp 1) (.tmp 12)), .m 4 13]) (.seq (.seq (.region [.m 14 4, .o 15 (.c .neq 14 0)]) (.cond (.tmp 15) (.seq (.region [.o 16 (.build [(.int .i64 0),(.int .i64 0),(.slice none 0 0)] [(0,1),(1,1),(2,1)] []), .m 17 4, .n (.st 3 (.tmp 2) (.tmp 16)), .m 3 17]) .ret) .skip)) (.seq (.seq (.region [.o 18 (.f 2 1), .o 19 (.l 18), .o 20 (.n 19), .o 21 (.c .eql 20 0)]) (.cond (.tmp 21) (.seq (.seq (.region [.o 22 (.f 1 1), .o 23 (.l 22), .k 24 0]) (.block 0 [1,2] (.loop [1,2,23,24] c62L0))) (.seq (.region [.o 40 (.ld true 3 (.tmp 1)), .n (.st 3 (.tmp 2) (.tmp 40)), .k 3 0]) .ret)) .skip)) (.seq (.region [.o 42 (.f 0 1), .o 43 (.l 42), .o 44 (.f 2 1), .o 45 (.l 44), .o 46 (.q 116 [43,45]), .m 41 46, .o 47 (.e 0 41), .o 48 (.e 1 41), .m 7 47, .m 8 48]) (.seq (.region [.o 49 (.f 0 1), .o 50 (.l 49), .o 51 (.f 1 1), .o 52 (.l 51), .m 53 7, .o 54 (.build [(.int .i64 0),(.int .i64 0),(.slice none 0 0)] [(0,1),(1,1),(2,1)] [(0,(.tmp 50)),(1,(.tmp 52)),(2,(.tmp 53))]), .n (.st 3 (.tmp 2) (.tmp 54)), .k 3 0]) .ret))))))
def F62:AFun:=⟨c62,1,55,[(.cell 2 true 3),(.tmp 3)]⟩
def K62:Nat→List Nat×List Nat
 |0=>([1,2,23,24],[1,2])
 |1=>([],[1,2,23,24])
 |_=>([],[])
theorem F62_ok:kj8 Try.prog K62 noRg Try.f62=some F62:=by kernel_rfl
/- 63: syndrome/code.Sum -/
def c63L0:ACode:=(.seq (.region [.o 35 (.b .lss 34 33)]) (.seq (.cond (.tmp 35) .skip (.exit 0)) (.seq (.block 1 [2,4,7,32,33,34] (.seq (.region [.o 36 (.i 1 32 34), .o 37 (.l 36), .m 9 37]) (.region [.o 39 (.f 0 2), .m 41 7, .m 42 9, .m 45 7, .o 46 (.n 45), .o 47 (.c .add 46 1), .o 48 (.minmax false [(.tmp 47),(.const (.int .i64 64))]), .o 40 (.ldb false 1 (.tmp 39)), .o 43 (.mkSl 28 1 1 [(.tmp 42)]), .o 44 (.app 28 1 24 (.tmp 41) (.tmp 43)), .o 49 (.sl 1 (.tmp 44) none (some (.tmp 48))), .o 50 (.q 118 [40,49]), .m 38 50, .o 51 (.e 0 38), .o 52 (.e 1 38), .o 53 (.e 2 38), .m 7 51]))) (.region [.o 54 (.c .add 34 1), .m 34 54]))))
def c63:ACode:=(.seq (.region [.o 2 (.box 25 3 (.tmp 0)), .o 3 (.box 25 3 (.tmp 1)), .o 4 (.alloc 25 [(.int .i64 0),(.int .i64 0),(.slice none 0 0)]), .k 5 0]) (.seq (.seq (.region [.o 10 (.ld true 3 (.tmp 2)), .o 11 (.ld true 3 (.tmp 3)), .o 12 (.q 117 [10,11]), .m 6 12]) (.seq (.region [.m 13 6, .o 14 (.c .neq 13 0)]) (.cond (.tmp 14) (.seq (.region [.o 15 (.build [(.int .i64 0),(.int .i64 0),(.slice none 0 0)] [(0,1),(1,1),(2,1)] []), .m 16 6, .n (.st 3 (.tmp 4) (.tmp 15)), .m 5 16]) .ret) .skip))) (.seq (.region [.o 18 (.ld true 3 (.tmp 2)), .o 19 (.q 115 [18]), .m 17 19, .o 20 (.e 0 17), .o 21 (.e 1 17), .n (.st 3 (.tmp 2) (.tmp 20))]) (.seq (.region [.o 23 (.ld true 3 (.tmp 3)), .o 24 (.q 115 [23]), .m 22 24, .o 25 (.e 0 22), .o 26 (.e 1 22), .n (.st 3 (.tmp 3) (.tmp 25))]) (.seq (.region [.o 7 (.mv (.const (.slice none 0 0)))]) (.seq (.region [.m 27 7, .o 28 (.f 2 2), .o 29 (.l 28), .o 30 (.app 28 1 24 (.tmp 27) (.tmp 29)), .m 7 30]) (.seq (.seq (.region [.o 31 (.f 2 3), .o 32 (.l 31), .o 33 (.n 32), .k 34 0]) (.block 0 [2,4,7] (.loop [2,4,7,32,33,34] c63L0))) (.seq (.region [.o 55 (.f 0 2), .o 56 (.l 55), .o 57 (.f 1 2), .o 58 (.l 57), .m 59 7, .o 60 (.build [(.int .i64 0),(.int .i64 0),(.slice none 0 0)] [(0,1),(1,1),(2,1)] [(0,(.tmp 56)),(1,(.tmp 58)),(2,(.tmp 59))]), .n (.st 3 (.tmp 4) (.tmp 60)), .k 5 0]) .ret))))))))
def F63:AFun:=⟨c63,2,61,[(.cell 4 true 3),(.tmp 5)]⟩
def K63:Nat→List Nat×List Nat
 |0=>([2,4,7,32,33,34],[2,4,7])
 |1=>([],[2,4,7,32,33,34])
 |_=>([],[])
theorem F63_ok:kj8 Try.prog K63 noRg Try.f63=some F63:=by kernel_rfl
/- 64: syndrome/syndromeref.Few -/
def c64L0:ACode:=(.seq (.seq (.region [.m 7 6, .m 8 1, .o 9 (.b .lss 7 8)]) (.cond (.tmp 9) .skip (.exit 0))) (.seq (.block 1 [0,1,5,6] (.seq (.region [.m 12 5, .m 13 0, .o 14 (.b .mul 12 13), .m 5 14]) (.seq (.region [.m 15 5, .o 16 (.c .gtr 15 4096)]) (.cond (.tmp 16) (.seq (.region [.o 4 (.mv (.const (.bool false)))]) .ret) .skip)))) (.region [.m 10 6, .o 11 (.c .add 10 1), .m 6 11])))
def c64:ACode:=(.seq (.region [.o 4 (.mv (.const (.bool false)))]) (.seq (.region [.k 5 1]) (.seq (.seq (.region [.k 6 0]) (.block 0 [] (.loop [0,1,5,6] c64L0))) (.seq (.region [.o 4 (.mv (.const (.bool true)))]) .ret))))
def F64:AFun:=⟨c64,2,17,[(.tmp 4)]⟩
def K64:Nat→List Nat×List Nat
 |0=>([0,1,5,6],[])
 |1=>([],[0,1,5,6])
 |_=>([],[])
theorem F64_ok:kj8 Try.prog K64 noRg Try.f64=some F64:=by kernel_rfl
/- 65: syndrome/muller.Encode -/
def c65L0:ACode:=(.seq (.region [.o 35 (.b .lss 34 33)]) (.seq (.cond (.tmp 35) .skip (.exit 0)) (.seq (.block 1 [1,2,10,32,33,34] (.seq (.region [.m 36 34, .o 37 (.i 1 32 34), .o 38 (.l 37), .m 11 36, .m 12 38]) (.seq (.region [.m 39 2, .m 40 11, .o 41 (.i 1 39 40), .o 42 (.l 41), .o 43 (.c .eql 42 1)]) (.cond (.tmp 43) (.region [.m 44 10, .m 45 12, .m 46 1, .o 47 (.q 114 [45,46]), .o 48 (.q 121 [44,47])]) .skip)))) (.region [.o 49 (.c .add 34 1), .m 34 49]))))
def c65:ACode:=(.seq (.region [.o 6 (.mv (.const (.slice none 0 0))), .k 7 0]) (.seq (.seq (.region [.m 13 0, .m 14 1, .o 15 (.q 112 [13,14]), .m 8 15]) (.seq (.region [.m 16 8, .o 17 (.c .neq 16 0)]) (.cond (.tmp 17) (.seq (.region [.m 18 8, .o 6 (.mv (.const (.slice none 0 0))), .m 7 18]) .ret) .skip))) (.seq (.region [.m 19 0, .m 20 1, .o 21 (.q 113 [19,20]), .m 9 21]) (.seq (.seq (.region [.m 22 2, .o 23 (.n 22), .m 24 9, .o 25 (.n 24), .o 26 (.b .neq 23 25)]) (.cond (.tmp 26) (.seq (.region [.o 6 (.mv (.const (.slice none 0 0))), .k 7 6]) .ret) .skip)) (.seq (.seq (.region [.m 27 2, .o 28 (.call 95 [(.tmp 27),(.func 119)])]) (.cond (.tmp 28) (.seq (.region [.o 6 (.mv (.const (.slice none 0 0))), .k 7 2]) .ret) .skip)) (.seq (.region [.m 29 1, .o 30 (.bin .shl (.const (.int .i64 1)) (.tmp 29)), .o 31 (.mks 3 1 8 [(.int .i64 0)] (.tmp 30) (.tmp 30)), .m 10 31]) (.seq (.seq (.region [.m 32 9, .o 33 (.n 32), .k 34 0]) (.block 0 [10] (.loop [1,2,10,32,33,34] c65L0))) (.seq (.region [.m 50 10, .m 6 50, .k 7 0]) .ret))))))))
def F65:AFun:=⟨c65,3,51,[(.tmp 6),(.tmp 7)]⟩
def K65:Nat→List Nat×List Nat
 |0=>([1,2,10,32,33,34],[10])
 |1=>([],[1,2,10,32,33,34])
 |_=>([],[])
theorem F65_ok:kj8 Try.prog K65 noRg Try.f65=some F65:=by kernel_rfl
/- 66: syndrome/muller.Decode -/
def c66L0:ACode:=(.seq (.region [.o 49 (.b .lss 48 47)]) (.seq (.cond (.tmp 49) .skip (.exit 2)) (.seq (.block 3 [0,1,6,11,12,13,14,46,47,48] (.seq (.region [.m 50 48, .o 51 (.i 1 46 48), .o 52 (.l 51), .m 15 50, .m 16 52]) (.seq (.region [.m 53 16, .o 54 (.conv .u64 (.tmp 53)), .o 55 (.q 123 [54]), .m 56 13, .o 57 (.b .eql 55 56), .m 58 57, .g 59 (.m 12) 58 true, .g 60 (.m 16) 58 true, .g 61 (.m 1) 58 true, .g 62 (.q 124 [59,60,61]) 58 true, .o 63 (.pick (.tmp 58) (.tmp 62) (.const (.bool false)))]) (.cond (.tmp 63) (.seq (.region [.m 64 6, .m 65 15, .o 66 (.i 1 64 65), .n (.st 1 (.tmp 66) (.const (.int .i64 1)))]) (.region [.m 67 14, .m 68 16, .m 69 1, .o 70 (.q 114 [68,69]), .o 71 (.q 121 [67,70])])) .skip)))) (.region [.o 72 (.c .add 48 1), .m 48 72]))))
def c66L1:ACode:=(.seq (.seq (.region [.m 39 13, .o 40 (.c .geq 39 0)]) (.cond (.tmp 40) .skip (.exit 0))) (.seq (.block 1 [0,1,6,11,12,13] (.seq (.region [.m 43 1, .o 44 (.bin .shl (.const (.int .i64 1)) (.tmp 43)), .o 45 (.mks 3 1 8 [(.int .i64 0)] (.tmp 44) (.tmp 44)), .m 14 45]) (.seq (.seq (.region [.m 46 11, .o 47 (.n 46), .k 48 0]) (.block 2 [0,1,6,11,12,13,14] (.loop [0,1,6,11,12,13,14,46,47,48] c66L0))) (.region [.m 73 12, .m 74 14, .o 75 (.q 121 [73,74])])))) (.region [.m 41 13, .o 42 (.c .sub 41 1), .m 13 42])))
def c66:ACode:=(.seq (.region [.o 6 (.mv (.const (.slice none 0 0))), .k 7 0, .o 8 (.mv (.const (.bool false))), .k 9 0]) (.seq (.seq (.region [.m 17 0, .m 18 1, .o 19 (.q 112 [17,18]), .m 10 19]) (.seq (.region [.m 20 10, .o 21 (.c .neq 20 0)]) (.cond (.tmp 21) (.seq (.region [.m 22 10, .o 6 (.mv (.const (.slice none 0 0))), .k 7 0, .o 8 (.mv (.const (.bool false))), .m 9 22]) .ret) .skip))) (.seq (.seq (.region [.m 23 2, .o 24 (.n 23), .m 25 1, .o 26 (.bin .shl (.const (.int .i64 1)) (.tmp 25)), .o 27 (.b .neq 24 26)]) (.cond (.tmp 27) (.seq (.region [.o 6 (.mv (.const (.slice none 0 0))), .k 7 0, .o 8 (.mv (.const (.bool false))), .k 9 6]) .ret) .skip)) (.seq (.seq (.region [.m 28 2, .o 29 (.call 95 [(.tmp 28),(.func 122)])]) (.cond (.tmp 29) (.seq (.region [.o 6 (.mv (.const (.slice none 0 0))), .k 7 0, .o 8 (.mv (.const (.bool false))), .k 9 2]) .ret) .skip)) (.seq (.region [.m 30 0, .m 31 1, .o 32 (.q 113 [30,31]), .m 11 32]) (.seq (.region [.m 33 11, .o 34 (.n 33), .o 35 (.mks 3 1 8 [(.int .i64 0)] (.tmp 34) (.tmp 34)), .m 6 35]) (.seq (.region [.m 36 2, .o 37 (.q 92 [36]), .m 12 37]) (.seq (.seq (.region [.m 38 0, .m 13 38]) (.block 0 [0,1,6,12] (.loop [0,1,6,11,12,13] c66L1))) (.seq (.region [.m 76 12, .o 77 (.q 77 [76]), .m 7 77]) (.seq (.seq (.region [.m 78 7, .o 79 (.bin .mul (.const (.int .i64 2)) (.tmp 78)), .m 80 1, .m 81 0, .o 82 (.b .sub 80 81), .o 83 (.bin .shl (.const (.int .i64 1)) (.tmp 82)), .o 84 (.b .geq 79 83)]) (.cond (.tmp 84) (.seq (.region [.o 6 (.mv (.const (.slice none 0 0))), .k 7 0, .o 8 (.mv (.const (.bool false))), .k 9 0]) .ret) .skip)) (.seq (.region [.m 85 6, .m 86 7, .m 6 85, .m 7 86, .o 8 (.mv (.const (.bool true))), .k 9 0]) .ret)))))))))))
def F66:AFun:=⟨c66,3,87,[(.tmp 6),(.tmp 7),(.tmp 8),(.tmp 9)]⟩
def K66:Nat→List Nat×List Nat
 |0=>([0,1,6,11,12,13],[0,1,6,12])
 |1=>([],[0,1,6,11,12,13])
 |2=>([0,1,6,11,12,13,14,46,47,48],[0,1,6,11,12,13,14])
 |3=>([],[0,1,6,11,12,13,14,46,47,48])
 |_=>([],[])
theorem F66_ok:kj8 Try.prog K66 noRg Try.f66=some F66:=by kernel_rfl
/- 67: syndrome/code.Apart -/
def c67L0:ACode:=(.seq (.region [.o 15 (.b .lss 14 13)]) (.seq (.cond (.tmp 15) .skip (.exit 0)) (.seq (.block 1 [0,1,5,13,14] (.seq (.region [.m 16 14, .m 6 16]) (.seq (.region [.m 17 0, .m 18 6, .o 19 (.i 1 17 18), .o 20 (.l 19), .m 21 1, .m 22 6, .o 23 (.i 1 21 22), .o 24 (.l 23), .o 25 (.b .neq 20 24)]) (.cond (.tmp 25) (.region [.m 26 5, .o 27 (.c .add 26 1), .m 5 27]) .skip)))) (.region [.o 28 (.c .add 14 1), .m 14 28]))))
def c67:ACode:=(.seq (.region [.k 4 0]) (.seq (.seq (.region [.m 7 0, .o 8 (.n 7), .m 9 1, .o 10 (.n 9), .o 11 (.b .neq 8 10)]) (.cond (.tmp 11) (.seq (.region [.k 4 (-1)]) .ret) .skip)) (.seq (.region [.k 5 0]) (.seq (.seq (.region [.m 12 0, .o 13 (.n 12), .k 14 0]) (.block 0 [5] (.loop [0,1,5,13,14] c67L0))) (.seq (.region [.m 29 5, .m 4 29]) .ret)))))
def F67:AFun:=⟨c67,2,30,[(.tmp 4)]⟩
def K67:Nat→List Nat×List Nat
 |0=>([0,1,5,13,14],[5])
 |1=>([],[0,1,5,13,14])
 |_=>([],[])
theorem F67_ok:kj8 Try.prog K67 noRg Try.f67=some F67:=by kernel_rfl
/- 68: syndrome/syndromeref.SameAll -/
def c68L0:ACode:=(.seq (.seq (.region [.m 11 5, .m 12 0, .o 13 (.n 12), .o 14 (.b .lss 11 13)]) (.cond (.tmp 14) .skip (.exit 0))) (.seq (.block 1 [0,1,5] (.seq (.region [.m 17 0, .m 18 5, .o 19 (.i 1 17 18), .o 20 (.l 19), .m 21 1, .m 22 5, .o 23 (.i 1 21 22), .o 24 (.l 23), .o 25 (.q 28 [20,24]), .o 26 (.un .not (.tmp 25))]) (.cond (.tmp 26) (.seq (.region [.o 4 (.mv (.const (.bool false)))]) .ret) .skip))) (.region [.m 15 5, .o 16 (.c .add 15 1), .m 5 16])))
def c68:ACode:=(.seq (.region [.o 4 (.mv (.const (.bool false)))]) (.seq (.seq (.region [.m 6 0, .o 7 (.n 6), .m 8 1, .o 9 (.n 8), .o 10 (.b .neq 7 9)]) (.cond (.tmp 10) (.seq (.region [.o 4 (.mv (.const (.bool false)))]) .ret) .skip)) (.seq (.seq (.region [.k 5 0]) (.block 0 [] (.loop [0,1,5] c68L0))) (.seq (.region [.o 4 (.mv (.const (.bool true)))]) .ret))))
def F68:AFun:=⟨c68,2,27,[(.tmp 4)]⟩
def K68:Nat→List Nat×List Nat
 |0=>([0,1,5],[])
 |1=>([],[0,1,5])
 |_=>([],[])
theorem F68_ok:kj8 Try.prog K68 noRg Try.f68=some F68:=by kernel_rfl
/- 75: syndrome/code.all -/
def c75L0:ACode:=(.seq (.region [.o 19 (.b .lss 18 17)]) (.seq (.cond (.tmp 19) .skip (.exit 0)) (.seq (.block 1 [1,2,5,17,18] (.seq (.region [.m 20 5, .o 21 (.f 0 1), .o 22 (.l 21), .o 23 (.b .mul 20 22), .m 5 23]) (.seq (.region [.m 24 5, .o 25 (.c .gtr 24 4096)]) (.cond (.tmp 25) (.seq (.region [.o 26 (.build [(.int .i64 0),(.int .i64 0),(.slice none 0 0)] [(0,1),(1,1),(2,1)] []), .n (.st 3 (.tmp 2) (.tmp 26)), .k 3 4]) .ret) .skip)))) (.region [.o 27 (.c .add 18 1), .m 18 27]))))
def c75:ACode:=(.seq (.region [.o 1 (.box 25 3 (.tmp 0)), .o 2 (.alloc 25 [(.int .i64 0),(.int .i64 0),(.slice none 0 0)]), .k 3 0]) (.seq (.region [.o 7 (.ld true 3 (.tmp 1)), .o 8 (.q 115 [7]), .m 6 8, .o 9 (.e 0 6), .o 10 (.e 1 6), .n (.st 3 (.tmp 1) (.tmp 9)), .m 4 10]) (.seq (.seq (.region [.m 11 4, .o 12 (.c .neq 11 0)]) (.cond (.tmp 12) (.seq (.region [.o 13 (.build [(.int .i64 0),(.int .i64 0),(.slice none 0 0)] [(0,1),(1,1),(2,1)] []), .m 14 4, .n (.st 3 (.tmp 2) (.tmp 13)), .m 3 14]) .ret) .skip)) (.seq (.region [.k 5 1]) (.seq (.seq (.region [.o 15 (.f 2 1), .o 16 (.l 15), .o 17 (.n 16), .k 18 0]) (.block 0 [1,2] (.loop [1,2,5,17,18] c75L0))) (.seq (.region [.o 28 (.ld true 3 (.tmp 1)), .n (.st 3 (.tmp 2) (.tmp 28)), .k 3 0]) .ret))))))
def F75:AFun:=⟨c75,1,29,[(.cell 2 true 3),(.tmp 3)]⟩
def K75:Nat→List Nat×List Nat
 |0=>([1,2,5,17,18],[1,2])
 |1=>([],[1,2,5,17,18])
 |_=>([],[])
theorem F75_ok:kj8 Try.prog K75 noRg Try.f75=some F75:=by kernel_rfl
/- 76: syndrome/code.words -/
def c76:ACode:=(.seq (.region [.o 1 (.box 25 3 (.tmp 0)), .o 2 (.mv (.const .nilFunc))]) (.seq (.region [.o 3 (.mkf 131 [(.tmp 1)]), .m 2 3]) .ret))
def F76:AFun:=⟨c76,1,4,[(.tmp 2)]⟩
def K76:Nat→List Nat×List Nat
 |_=>([],[])
theorem F76_ok:kj8 Try.prog K76 noRg Try.f76=some F76:=by kernel_rfl
/- 77: syndrome/code.Weight -/
def c77L0:ACode:=(.seq (.region [.o 9 (.b .lss 8 7)]) (.seq (.cond (.tmp 9) .skip (.exit 0)) (.seq (.block 1 [3,6,7,8] (.seq (.region [.o 10 (.i 1 6 8), .o 11 (.l 10), .m 5 11]) (.seq (.region [.m 12 5, .o 13 (.c .neq 12 0)]) (.cond (.tmp 13) (.region [.m 14 3, .o 15 (.c .add 14 1), .m 3 15]) .skip)))) (.region [.o 16 (.c .add 8 1), .m 8 16]))))
def c77:ACode:=(.seq (.region [.k 2 0]) (.seq (.region [.k 3 0]) (.seq (.seq (.region [.m 6 0, .o 7 (.n 6), .k 8 0]) (.block 0 [3] (.loop [3,6,7,8] c77L0))) (.seq (.region [.m 17 3, .m 2 17]) .ret))))
def F77:AFun:=⟨c77,1,18,[(.tmp 2)]⟩
def K77:Nat→List Nat×List Nat
 |0=>([3,6,7,8],[3])
 |1=>([],[3,6,7,8])
 |_=>([],[])
theorem F77_ok:kj8 Try.prog K77 noRg Try.f77=some F77:=by kernel_rfl
/- 92: slices.Clone[[]int,int] -/
def c92:ACode:=(.seq (.region [.o 2 (.mv (.const (.slice none 0 0)))]) (.seq (.seq (.region [.m 3 0, .o 4 (.eqn false 0 (.tmp 3))]) (.cond (.tmp 4) (.seq (.region [.o 2 (.mv (.const (.slice none 0 0)))]) .ret) .skip)) (.seq (.region [.o 5 (.mkSl 3 1 0 []), .m 6 0, .o 7 (.app 3 1 8 (.tmp 5) (.tmp 6)), .m 2 7]) .ret)))
def F92:AFun:=⟨c92,1,8,[(.tmp 2)]⟩
def K92:Nat→List Nat×List Nat
 |_=>([],[])
theorem F92_ok:kj8 Try.prog K92 noRg Try.f92=some F92:=by kernel_rfl
/- 95: slices.ContainsFunc[[]int,int] -/
def c95:ACode:=(.seq (.region [.o 4 (.mv (.const (.bool false)))]) (.seq (.region [.m 5 0, .m 6 1, .o 7 (.q 141 [5,6]), .o 8 (.c .geq 7 0), .m 4 8]) .ret))
def F95:AFun:=⟨c95,2,9,[(.tmp 4)]⟩
def K95:Nat→List Nat×List Nat
 |_=>([],[])
theorem F95_ok:kj8 Try.prog K95 noRg Try.f95=some F95:=by kernel_rfl
/- 112: syndrome/muller.Check -/
def c112:ACode:=(.seq (.region [.k 4 0]) (.seq (.seq (.region [.m 5 1, .o 6 (.c .lss 5 1), .m 7 6, .g 8 (.m 1) 7 false, .g 9 (.c .gtr 8 5) 7 false, .o 10 (.pick (.tmp 7) (.const (.bool true)) (.tmp 9))]) (.cond (.tmp 10) (.seq (.region [.k 4 4]) .ret) .skip)) (.seq (.seq (.region [.m 11 0, .o 12 (.c .lss 11 0), .m 13 12, .g 14 (.m 0) 13 false, .g 15 (.m 1) 13 false, .g 16 (.b .gtr 14 15) 13 false, .o 17 (.pick (.tmp 13) (.const (.bool true)) (.tmp 16))]) (.cond (.tmp 17) (.seq (.region [.k 4 6]) .ret) .skip)) (.seq (.region [.k 4 0]) .ret))))
def F112:AFun:=⟨c112,2,18,[(.tmp 4)]⟩
def K112:Nat→List Nat×List Nat
 |_=>([],[])
theorem F112_ok:kj8 Try.prog K112 noRg Try.f112=some F112:=by kernel_rfl
/- 113: syndrome/muller.monomials -/
def c113L0:ACode:=(.seq (.region [.o 16 (.b .lss 15 14)]) (.seq (.cond (.tmp 16) .skip (.exit 2)) (.seq (.block 3 [0,1,5,6,14,15] (.seq (.region [.m 17 15, .m 7 17]) (.seq (.region [.m 18 7, .o 19 (.conv .u64 (.tmp 18)), .o 20 (.q 123 [19]), .m 21 6, .o 22 (.b .eql 20 21)]) (.cond (.tmp 22) (.region [.m 23 5, .m 24 7, .o 25 (.mkSl 3 1 1 [(.tmp 24)]), .o 26 (.app 3 1 8 (.tmp 23) (.tmp 25)), .m 5 26]) .skip)))) (.region [.o 27 (.c .add 15 1), .m 15 27]))))
def c113L1:ACode:=(.seq (.seq (.region [.m 8 6, .m 9 0, .o 10 (.b .leq 8 9)]) (.cond (.tmp 10) .skip (.exit 0))) (.seq (.block 1 [0,1,5,6] (.seq (.region [.m 13 1, .o 14 (.bin .shl (.const (.int .i64 1)) (.tmp 13)), .k 15 0]) (.block 2 [0,1,5,6] (.loop [0,1,5,6,14,15] c113L0)))) (.region [.m 11 6, .o 12 (.c .add 11 1), .m 6 12])))
def c113:ACode:=(.seq (.region [.o 4 (.mv (.const (.slice none 0 0)))]) (.seq (.region [.o 5 (.mv (.const (.slice none 0 0)))]) (.seq (.seq (.region [.k 6 0]) (.block 0 [5] (.loop [0,1,5,6] c113L1))) (.seq (.region [.m 28 5, .m 4 28]) .ret))))
def F113:AFun:=⟨c113,2,29,[(.tmp 4)]⟩
def K113:Nat→List Nat×List Nat
 |0=>([0,1,5,6],[5])
 |1=>([],[0,1,5,6])
 |2=>([0,1,5,6,14,15],[0,1,5,6])
 |3=>([],[0,1,5,6,14,15])
 |_=>([],[])
theorem F113_ok:kj8 Try.prog K113 noRg Try.f113=some F113:=by kernel_rfl
/- 114: syndrome/muller.row -/
def c114L0:ACode:=(.seq (.region [.o 13 (.b .lss 12 11)]) (.seq (.cond (.tmp 13) .skip (.exit 0)) (.seq (.block 1 [0,5,11,12] (.seq (.region [.m 14 12, .m 6 14]) (.seq (.region [.m 15 6, .m 16 0, .o 17 (.b .and 15 16), .m 18 0, .o 19 (.b .eql 17 18)]) (.cond (.tmp 19) (.region [.m 20 5, .m 21 6, .o 22 (.i 1 20 21), .n (.st 1 (.tmp 22) (.const (.int .i64 1)))]) .skip)))) (.region [.o 23 (.c .add 12 1), .m 12 23]))))
def c114:ACode:=(.seq (.region [.o 4 (.mv (.const (.slice none 0 0)))]) (.seq (.region [.m 7 1, .o 8 (.bin .shl (.const (.int .i64 1)) (.tmp 7)), .o 9 (.mks 3 1 8 [(.int .i64 0)] (.tmp 8) (.tmp 8)), .m 5 9]) (.seq (.seq (.region [.m 10 5, .o 11 (.n 10), .k 12 0]) (.block 0 [5] (.loop [0,5,11,12] c114L0))) (.seq (.region [.m 24 5, .m 4 24]) .ret))))
def F114:AFun:=⟨c114,2,25,[(.tmp 4)]⟩
def K114:Nat→List Nat×List Nat
 |0=>([0,5,11,12],[5])
 |1=>([],[0,5,11,12])
 |_=>([],[])
theorem F114_ok:kj8 Try.prog K114 noRg Try.f114=some F114:=by kernel_rfl
/- 115: syndrome/code.Make -/
def c115:ACode:=(.seq (.region [.o 1 (.box 25 3 (.tmp 0)), .o 2 (.alloc 25 [(.int .i64 0),(.int .i64 0),(.slice none 0 0)]), .k 3 0]) (.seq (.seq (.region [.o 8 (.ld true 3 (.tmp 1)), .o 9 (.q 148 [8]), .m 4 9]) (.seq (.region [.m 10 4, .o 11 (.c .neq 10 0)]) (.cond (.tmp 11) (.seq (.region [.o 12 (.build [(.int .i64 0),(.int .i64 0),(.slice none 0 0)] [(0,1),(1,1),(2,1)] []), .m 13 4, .n (.st 3 (.tmp 2) (.tmp 12)), .m 3 13]) .ret) .skip))) (.seq (.region [.o 15 (.f 0 1), .o 16 (.l 15), .o 17 (.f 2 1), .o 18 (.l 17), .o 19 (.q 118 [16,18]), .m 14 19, .o 20 (.e 0 14), .o 21 (.e 1 14), .o 22 (.e 2 14), .m 5 20, .m 6 21, .m 7 22]) (.seq (.region [.o 23 (.f 0 1), .o 24 (.l 23), .o 25 (.f 1 1), .o 26 (.l 25), .m 27 5, .o 28 (.build [(.int .i64 0),(.int .i64 0),(.slice none 0 0)] [(0,1),(1,1),(2,1)] [(0,(.tmp 24)),(1,(.tmp 26)),(2,(.tmp 27))]), .n (.st 3 (.tmp 2) (.tmp 28)), .k 3 0]) .ret))))
def F115:AFun:=⟨c115,1,29,[(.cell 2 true 3),(.tmp 3)]⟩
def K115:Nat→List Nat×List Nat
 |_=>([],[])
theorem F115_ok:kj8 Try.prog K115 noRg Try.f115=some F115:=by kernel_rfl
/- 116: syndrome/matrix.Null -/
def c116L0:ACode:=(.seq (.region [.o 57 (.b .lss 56 55)]) (.seq (.cond (.tmp 57) .skip (.exit 2)) (.seq (.block 3 [0,1,6,7,9,11,12,13,39,40,54,55,56] (.seq (.region [.m 58 56, .o 59 (.i 1 54 56), .o 60 (.l 59), .m 14 58, .m 15 60]) (.region [.m 61 13, .m 62 15, .m 63 9, .m 64 6, .m 65 14, .o 66 (.i 1 64 65), .o 67 (.l 66), .m 68 12, .o 69 (.i 1 67 68), .o 70 (.l 69), .o 71 (.q 150 [63,70]), .o 72 (.i 1 61 62), .n (.st 1 (.tmp 72) (.tmp 71))]))) (.region [.o 73 (.c .add 56 1), .m 56 73]))))
def c116L1:ACode:=(.seq (.region [.o 41 (.b .lss 40 39)]) (.seq (.cond (.tmp 41) .skip (.exit 0)) (.seq (.block 1 [0,1,6,7,9,11,39,40] (.seq (.region [.m 42 40, .m 12 42]) (.seq (.seq (.region [.m 43 7, .m 44 12, .o 45 (.q 149 [43,44])]) (.cond (.tmp 45) (.exit 1) .skip)) (.seq (.region [.m 46 1, .o 47 (.iaddr 1 (.tmp 46) (.const (.int .i64 0))), .o 48 (.l 47), .o 49 (.n 48), .o 50 (.mks 3 1 8 [(.int .i64 0)] (.tmp 49) (.tmp 49)), .m 13 50]) (.seq (.region [.m 51 13, .m 52 12, .o 53 (.i 1 51 52), .n (.st 1 (.tmp 53) (.const (.int .i64 1)))]) (.seq (.seq (.region [.m 54 7, .o 55 (.n 54), .k 56 0]) (.block 2 [0,1,6,7,9,11,13,39,40] (.loop [0,1,6,7,9,11,12,13,39,40,54,55,56] c116L0))) (.region [.m 74 11, .m 75 13, .o 76 (.mkSl 28 1 1 [(.tmp 75)]), .o 77 (.app 28 1 24 (.tmp 74) (.tmp 76)), .m 11 77]))))))) (.region [.o 78 (.c .add 40 1), .m 40 78]))))
def c116:ACode:=(.seq (.region [.o 4 (.mv (.const (.slice none 0 0))), .k 5 0]) (.seq (.region [.m 17 0, .m 18 1, .o 19 (.q 118 [17,18]), .m 16 19, .o 20 (.e 0 16), .o 21 (.e 1 16), .o 22 (.e 2 16), .m 6 20, .m 7 21, .m 8 22]) (.seq (.seq (.region [.m 23 8, .o 24 (.c .neq 23 0), .m 25 24, .g 26 (.m 1) 25 false, .g 27 (.n 26) 25 false, .g 28 (.c .eql 27 0) 25 false, .o 29 (.pick (.tmp 25) (.const (.bool true)) (.tmp 28))]) (.cond (.tmp 29) (.seq (.region [.m 30 8, .o 4 (.mv (.const (.slice none 0 0))), .m 5 30]) .ret) .skip)) (.seq (.region [.m 32 0, .o 33 (.q 132 [32]), .m 31 33, .o 34 (.e 0 31), .o 35 (.e 1 31), .m 9 34, .m 10 35]) (.seq (.region [.o 11 (.mv (.const (.slice none 0 0)))]) (.seq (.seq (.region [.m 36 1, .o 37 (.iaddr 1 (.tmp 36) (.const (.int .i64 0))), .o 38 (.l 37), .o 39 (.n 38), .k 40 0]) (.block 0 [0,11] (.loop [0,1,6,7,9,11,39,40] c116L1))) (.seq (.region [.m 80 0, .m 81 11, .o 82 (.q 118 [80,81]), .m 79 82, .o 83 (.e 0 79), .o 84 (.e 1 79), .o 85 (.e 2 79), .m 11 83]) (.seq (.region [.m 86 11, .m 4 86, .k 5 0]) .ret))))))))
def F116:AFun:=⟨c116,2,87,[(.tmp 4),(.tmp 5)]⟩
def K116:Nat→List Nat×List Nat
 |0=>([0,1,6,7,9,11,39,40],[0,11])
 |1=>([],[0,1,6,7,9,11,39,40])
 |2=>([0,1,6,7,9,11,12,13,39,40,54,55,56],[0,1,6,7,9,11,13,39,40])
 |3=>([],[0,1,6,7,9,11,12,13,39,40,54,55,56])
 |_=>([],[])
theorem F116_ok:kj8 Try.prog K116 noRg Try.f116=some F116:=by kernel_rfl
/- 117: syndrome/code.pair -/
def c117:ACode:=(.seq (.region [.o 2 (.box 25 3 (.tmp 0)), .o 3 (.box 25 3 (.tmp 1)), .k 4 0]) (.seq (.region [.o 6 (.ld true 3 (.tmp 2)), .o 7 (.q 148 [6]), .m 5 7]) (.seq (.seq (.region [.m 8 5, .o 9 (.c .eql 8 0)]) (.cond (.tmp 9) (.region [.o 10 (.ld true 3 (.tmp 3)), .o 11 (.q 148 [10]), .m 5 11]) .skip)) (.seq (.seq (.region [.m 12 5, .o 13 (.c .eql 12 0), .m 14 13, .g 15 (.f 0 2) 14 true, .g 16 (.l 15) 14 true, .g 17 (.f 0 3) 14 true, .g 18 (.l 17) 14 true, .g 19 (.b .neq 16 18) 14 true, .g 20 (.m 19) 14 true, .g 21 (.f 1 2) 20 false, .g 22 (.l 21) 20 false, .g 23 (.f 1 3) 20 false, .g 24 (.l 23) 20 false, .g 25 (.b .neq 22 24) 20 false, .g 26 (.pick (.tmp 20) (.const (.bool true)) (.tmp 25)) 14 true, .o 27 (.pick (.tmp 14) (.tmp 26) (.const (.bool false)))]) (.cond (.tmp 27) (.region [.k 5 3]) .skip)) (.seq (.region [.m 28 5, .m 4 28]) .ret)))))
def F117:AFun:=⟨c117,2,29,[(.tmp 4)]⟩
def K117:Nat→List Nat×List Nat
 |_=>([],[])
theorem F117_ok:kj8 Try.prog K117 noRg Try.f117=some F117:=by kernel_rfl
/- 118: syndrome/matrix.Reduce -/
def c118L0:ACode:=(.seq (.region [.o 92 (.b .lss 91 90)]) (.seq (.cond (.tmp 92) .skip (.exit 2)) (.seq (.block 3 [1,5,8,10,11,90,91] (.seq (.region [.m 93 91, .m 13 93]) (.seq (.region [.m 94 13, .m 95 11, .o 96 (.b .neq 94 95), .m 97 96, .g 98 (.m 1) 97 true, .g 99 (.m 13) 97 true, .g 100 (.i 1 98 99) 97 true, .g 101 (.l 100) 97 true, .g 102 (.l 10) 97 true, .g 103 (.i 1 101 102) 97 true, .g 104 (.l 103) 97 true, .g 105 (.c .neq 104 0) 97 true, .o 106 (.pick (.tmp 97) (.tmp 105) (.const (.bool false)))]) (.cond (.tmp 106) (.region [.m 107 8, .m 108 1, .m 109 13, .o 110 (.i 1 108 109), .o 111 (.l 110), .m 112 1, .m 113 11, .o 114 (.i 1 112 113), .o 115 (.l 114), .m 116 1, .m 117 13, .o 118 (.i 1 116 117), .o 119 (.l 118), .o 120 (.l 10), .o 121 (.i 1 119 120), .o 122 (.l 121), .o 123 (.q 157 [107,111,115,122])]) .skip)))) (.region [.o 124 (.c .add 91 1), .m 91 124]))))
def c118L1:ACode:=(.seq (.seq (.region [.o 32 (.l 10), .m 33 1, .o 34 (.iaddr 1 (.tmp 33) (.const (.int .i64 0))), .o 35 (.l 34), .o 36 (.n 35), .o 37 (.b .lss 32 36), .m 38 37, .g 39 (.m 5) 38 true, .g 40 (.n 39) 38 true, .g 41 (.m 1) 38 true, .g 42 (.n 41) 38 true, .g 43 (.b .lss 40 42) 38 true, .o 44 (.pick (.tmp 38) (.tmp 43) (.const (.bool false)))]) (.cond (.tmp 44) .skip (.exit 0))) (.seq (.block 1 [1,5,8,10] (.seq (.region [.m 47 5, .o 48 (.n 47), .m 11 48]) (.seq (.region [.m 49 1, .m 50 11, .o 51 (.sl 1 (.tmp 49) (some (.tmp 50)) none), .o 52 (.mkf 154 [(.tmp 10)]), .o 53 (.q 153 [51,52]), .m 12 53]) (.seq (.seq (.region [.m 54 12, .o 55 (.c .lss 54 0)]) (.cond (.tmp 55) (.exit 1) .skip)) (.seq (.region [.m 56 1, .m 57 11, .m 58 1, .m 59 11, .m 60 12, .o 61 (.b .add 59 60), .m 62 1, .m 63 11, .m 64 12, .o 65 (.b .add 63 64), .o 66 (.i 1 62 65), .o 67 (.l 66), .m 68 1, .m 69 11, .o 70 (.i 1 68 69), .o 71 (.l 70), .o 72 (.i 1 56 57), .n (.st 1 (.tmp 72) (.tmp 67)), .o 73 (.i 1 58 61), .n (.st 1 (.tmp 73) (.tmp 71))]) (.seq (.region [.m 74 8, .m 75 1, .m 76 11, .o 77 (.i 1 75 76), .o 78 (.l 77), .m 79 8, .m 80 1, .m 81 11, .o 82 (.i 1 80 81), .o 83 (.l 82), .o 84 (.l 10), .o 85 (.i 1 83 84), .o 86 (.l 85),⟨(some 87),(.call 156 [(.tmp 79),(.tmp 86)]),none,true⟩, .o 88 (.q 155 [74,78,87])]) (.seq (.seq (.region [.m 89 1, .o 90 (.n 89), .k 91 0]) (.block 2 [1,5,8,10] (.loop [1,5,8,10,11,90,91] c118L0))) (.region [.m 125 5, .o 126 (.l 10), .o 127 (.mkSl 3 1 1 [(.tmp 126)]), .o 128 (.app 3 1 8 (.tmp 125) (.tmp 127)), .m 5 128])))))))) (.seq (.seq (.region [.o 129 (.l 10)]) (.region [.o 10 (.alloc 3 [(.int .i64 0)]), .n (.st 1 (.tmp 10) (.tmp 129))])) (.region [.o 45 (.l 10), .o 46 (.c .add 45 1), .n (.st 1 (.tmp 10) (.tmp 46))]))))
def c118:ACode:=(.seq (.region [.o 4 (.mv (.const (.slice none 0 0))), .o 5 (.mv (.const (.slice none 0 0))), .k 6 0]) (.seq (.seq (.region [.m 14 0, .m 15 1, .o 16 (.q 151 [14,15]), .m 7 16]) (.seq (.region [.m 17 7, .o 18 (.c .neq 17 0), .m 19 18, .g 20 (.m 1) 19 false, .g 21 (.n 20) 19 false, .g 22 (.c .eql 21 0) 19 false, .o 23 (.pick (.tmp 19) (.const (.bool true)) (.tmp 22))]) (.cond (.tmp 23) (.seq (.region [.m 24 7, .o 4 (.mv (.const (.slice none 0 0))), .o 5 (.mv (.const (.slice none 0 0))), .m 6 24]) .ret) .skip))) (.seq (.region [.m 26 0, .o 27 (.q 132 [26]), .m 25 27, .o 28 (.e 0 25), .o 29 (.e 1 25), .m 8 28, .m 9 29]) (.seq (.region [.m 30 1, .o 31 (.q 152 [30]), .m 1 31]) (.seq (.seq (.region [.o 10 (.alloc 3 [(.int .i64 0)]), .n (.st 1 (.tmp 10) (.const (.int .i64 0)))]) (.block 0 [1,5] (.loop [1,5,8,10] c118L1))) (.seq (.region [.m 130 1, .m 131 5, .o 132 (.n 131), .m 133 5, .o 134 (.n 133), .o 135 (.sl3 (.tmp 130) (.tmp 132) (.tmp 134)), .m 136 5, .m 4 135, .m 5 136, .k 6 0]) .ret))))))
def F118:AFun:=⟨c118,2,137,[(.tmp 4),(.tmp 5),(.tmp 6)]⟩
def K118:Nat→List Nat×List Nat
 |0=>([1,5,8,10],[1,5])
 |1=>([],[1,5,8,10])
 |2=>([1,5,8,10,11,90,91],[1,5,8,10])
 |3=>([],[1,5,8,10,11,90,91])
 |_=>([],[])
theorem F118_ok:kj8 Try.prog K118 noRg Try.f118=some F118:=by kernel_rfl
/- 119: syndrome/muller.Encode$1 -/
def c119:ACode:=(.seq (.region [.o 2 (.mv (.const (.bool false)))]) (.seq (.region [.m 3 0, .o 4 (.q 120 [3]), .o 5 (.un .not (.tmp 4)), .m 2 5]) .ret))
def F119:AFun:=⟨c119,1,6,[(.tmp 2)]⟩
def K119:Nat→List Nat×List Nat
 |_=>([],[])
theorem F119_ok:kj8 Try.prog K119 noRg Try.f119=some F119:=by kernel_rfl
/- 120: syndrome/muller.bit -/
def c120:ACode:=(.seq (.region [.o 2 (.mv (.const (.bool false)))]) (.seq (.region [.m 3 0, .o 4 (.c .eql 3 0), .m 5 4, .g 6 (.m 0) 5 false, .g 7 (.c .eql 6 1) 5 false, .o 8 (.pick (.tmp 5) (.const (.bool true)) (.tmp 7)), .m 2 8]) .ret))
def F120:AFun:=⟨c120,1,9,[(.tmp 2)]⟩
def K120:Nat→List Nat×List Nat
 |_=>([],[])
theorem F120_ok:kj8 Try.prog K120 noRg Try.f120=some F120:=by kernel_rfl
/- 121: syndrome/muller.add -/
def c121L0:ACode:=(.seq (.region [.o 8 (.b .lss 7 6)]) (.seq (.cond (.tmp 8) .skip (.exit 0)) (.seq (.block 1 [0,1,6,7] (.seq (.region [.m 9 7, .m 4 9]) (.region [.m 10 0, .m 11 4, .o 12 (.i 1 10 11), .o 13 (.l 12), .m 14 1, .m 15 4, .o 16 (.i 1 14 15), .o 17 (.l 16), .o 18 (.b .xor 13 17), .o 19 (.i 1 10 11), .n (.st 1 (.tmp 19) (.tmp 18))]))) (.region [.o 20 (.c .add 7 1), .m 7 20]))))
def c121:ACode:=(.seq (.region [.m 5 0, .o 6 (.n 5), .k 7 0]) (.block 0 [] (.loop [0,1,6,7] c121L0)))
def F121:AFun:=⟨c121,2,21,[]⟩
def K121:Nat→List Nat×List Nat
 |0=>([0,1,6,7],[])
 |1=>([],[0,1,6,7])
 |_=>([],[])
theorem F121_ok:kj8 Try.prog K121 noRg Try.f121=some F121:=by kernel_rfl
/- 122: syndrome/muller.Decode$1 -/
def c122:ACode:=(.seq (.region [.o 2 (.mv (.const (.bool false)))]) (.seq (.region [.m 3 0, .o 4 (.q 120 [3]), .o 5 (.un .not (.tmp 4)), .m 2 5]) .ret))
def F122:AFun:=⟨c122,1,6,[(.tmp 2)]⟩
def K122:Nat→List Nat×List Nat
 |_=>([],[])
theorem F122_ok:kj8 Try.prog K122 noRg Try.f122=some F122:=by kernel_rfl
/- 123: math/bits.OnesCount -/
def c123:ACode:=(.seq (.region [.k 2 0]) (.seq (.cond (.const (.bool false)) (.seq (.region [.m 3 0, .o 4 (.conv .u32 (.tmp 3)), .o 5 (.q 158 [4]), .m 2 5]) .ret) .skip) (.seq (.region [.m 6 0, .o 7 (.q 159 [6]), .m 2 7]) .ret)))
def F123:AFun:=⟨c123,1,8,[(.tmp 2)]⟩
def K123:Nat→List Nat×List Nat
 |_=>([],[])
theorem F123_ok:kj8 Try.prog K123 noRg Try.f123=some F123:=by kernel_rfl
/- 124: syndrome/muller.votes -/
def c124L0:ACode:=(.seq (.region [.o 24 (.b .lss 23 22)]) (.seq (.cond (.tmp 24) .skip (.exit 2)) (.seq (.block 3 [0,1,7,8,9,10,13,14,22,23] (.seq (.region [.m 25 23, .m 11 25]) (.seq (.region [.m 26 11, .m 27 1, .o 28 (.b .andNot 26 27), .m 29 9, .o 30 (.b .eql 28 29)]) (.cond (.tmp 30) (.region [.m 31 10, .m 32 0, .m 33 11, .o 34 (.i 1 32 33), .o 35 (.l 34), .o 36 (.b .xor 31 35), .m 10 36]) .skip)))) (.region [.o 37 (.c .add 23 1), .m 23 37]))))
def c124L1:ACode:=(.seq (.region [.o 15 (.b .lss 14 13)]) (.seq (.cond (.tmp 15) .skip (.exit 0)) (.seq (.block 1 [0,1,7,8,13,14] (.seq (.region [.m 16 14, .m 9 16]) (.seq (.seq (.region [.m 17 9, .m 18 1, .o 19 (.b .and 17 18), .o 20 (.c .neq 19 0)]) (.cond (.tmp 20) (.exit 1) .skip)) (.seq (.region [.k 10 0]) (.seq (.seq (.region [.m 21 0, .o 22 (.n 21), .k 23 0]) (.block 2 [0,1,7,8,10,13,14] (.loop [0,1,7,8,9,10,13,14,22,23] c124L0))) (.seq (.region [.m 38 8, .o 39 (.c .add 38 1), .m 8 39]) (.region [.m 40 7, .m 41 10, .o 42 (.b .add 40 41), .m 7 42]))))))) (.region [.o 43 (.c .add 14 1), .m 14 43]))))
def c124:ACode:=(.seq (.region [.o 6 (.mv (.const (.bool false)))]) (.seq (.region [.k 7 0, .k 8 0]) (.seq (.seq (.region [.m 12 2, .o 13 (.bin .shl (.const (.int .i64 1)) (.tmp 12)), .k 14 0]) (.block 0 [7,8] (.loop [0,1,7,8,13,14] c124L1))) (.seq (.region [.m 44 7, .o 45 (.bin .mul (.const (.int .i64 2)) (.tmp 44)), .m 46 8, .o 47 (.b .gtr 45 46), .m 6 47]) .ret))))
def F124:AFun:=⟨c124,3,48,[(.tmp 6)]⟩
def K124:Nat→List Nat×List Nat
 |0=>([0,1,7,8,13,14],[7,8])
 |1=>([],[0,1,7,8,13,14])
 |2=>([0,1,7,8,9,10,13,14,22,23],[0,1,7,8,10,13,14])
 |3=>([],[0,1,7,8,9,10,13,14,22,23])
 |_=>([],[])
theorem F124_ok:kj8 Try.prog K124 noRg Try.f124=some F124:=by kernel_rfl
/- 132: syndrome/field.New -/
def j14:List Value:=[(.int .u32 0),(.int .i32 0),(.int .u32 0),(.int .u32 0),(.int .i32 0),(.int .u32 0),(.int .u32 0),(.int .i32 0),(.int .u32 0),(.int .u32 0),(.int .i32 0),(.int .u32 0),(.int .u32 0),(.int .i32 0),(.int .u32 0),(.int .u32 0),(.int .i32 0),(.int .u32 0),(.int .u32 0),(.int .i32 0),(.int .u32 0),(.int .u32 0),(.int .i32 0),(.int .u32 0),(.int .u32 0),(.int .i32 0),(.int .u32 0),(.int .u32 0),(.int .i32 0),(.int .u32 0),(.int .u32 0),(.int .i32 0),(.int .u32 0),(.int .u32 0),(.int .i32 0),(.int .u32 0),(.int .u32 0),(.int .i32 0),(.int .u32 0),(.int .u32 0),(.int .i32 0),(.int .u32 0),(.int .u32 0),(.int .i32 0),(.int .u32 0),(.int .u32 0),(.int .i32 0),(.int .u32 0),(.int .u32 0),(.int .i32 0),(.int .u32 0),(.int .u32 0),(.int .i32 0),(.int .u32 0),(.int .u32 0),(.int .i32 0),(.int .u32 0),(.int .u32 0),(.int .i32 0),(.int .u32 0),(.int .u32 0),(.int .i32 0),(.int .u32 0),(.int .u32 0),(.int .i32 0),(.int .u32 0),(.int .u32 0),(.int .i32 0),(.int .u32 0),(.int .u32 0),(.int .i32 0),(.int .u32 0),(.int .u32 0),(.int .i32 0),(.int .u32 0),(.int .u32 0),(.int .i32 0),(.int .u32 0),(.int .u32 0),(.int .i32 0),(.int .u32 0),(.int .u32 0),(.int .i32 0),(.int .u32 0),(.int .u32 0),(.int .i32 0),(.int .u32 0),(.int .u32 0),(.int .i32 0),(.int .u32 0),(.int .u32 0),(.int .i32 0),(.int .u32 0),(.int .u32 0),(.int .i32 0),(.int .u32 0),(.int .u32 0),(.int .i32 0),(.int .u32 0),(.int .u32 0),(.int .i32 0),(.int .u32 0),(.int .u32 0),(.int .i32 0),(.int .u32 0),(.int .u32 0),(.int .i32 0),(.int .u32 0),(.int .u32 0),(.int .i32 0),(.int .u32 0),(.int .u32 0),(.int .i32 0),(.int .u32 0),(.int .u32 0),(.int .i32 0),(.int .u32 0),(.int .u32 0),(.int .i32 0),(.int .u32 0),(.int .u32 0),(.int .i32 0),(.int .u32 0),(.int .u32 0),(.int .i32 0),(.int .u32 0),(.int .u32 0),(.int .i32 0),(.int .u32 0),(.int .u32 0),(.int .i32 0),(.int .u32 0),(.int .u32 0),(.int .i32 0),(.int .u32 0),(.int .u32 0),(.int .i32 0),(.int .u32 0),(.int .u32 0),(.int .i32 0),(.int .u32 0),(.int .u32 0),(.int .i32 0),(.int .u32 0),(.int .u32 0),(.int .i32 0),(.int .u32 0),(.int .u32 0),(.int .i32 0),(.int .u32 0),(.int .u32 0),(.int .i32 0),(.int .u32 0),(.int .u32 0),(.int .i32 0),(.int .u32 0),(.int .u32 0),(.int .i32 0),(.int .u32 0),(.int .u32 0),(.int .i32 0),(.int .u32 0),(.int .u32 0),(.int .i32 0),(.int .u32 0),(.int .u32 0),(.int .i32 0),(.int .u32 0),(.int .u32 0),(.int .i32 0),(.int .u32 0),(.int .u32 0),(.int .i32 0),(.int .u32 0),(.int .u32 0),(.int .i32 0),(.int .u32 0),(.int .u32 0),(.int .i32 0),(.int .u32 0),(.int .u32 0),(.int .i32 0),(.int .u32 0),(.int .u32 0),(.int .i32 0),(.int .u32 0),(.int .u32 0),(.int .i32 0),(.int .u32 0),(.int .u32 0),(.int .i32 0),(.int .u32 0),(.int .u32 0),(.int .i32 0),(.int .u32 0),(.pointer none),(.pointer none),(.pointer none),(.pointer none),(.pointer none),(.pointer none),(.pointer none),(.pointer none),(.pointer none),(.pointer none),(.pointer none),(.pointer none),(.pointer none),(.pointer none),(.pointer none),(.pointer none),(.pointer none),(.pointer none),(.pointer none),(.pointer none),(.pointer none),(.pointer none),(.pointer none),(.pointer none),(.pointer none),(.pointer none),(.pointer none),(.pointer none),(.pointer none),(.pointer none),(.pointer none),(.pointer none),(.pointer none),(.pointer none),(.pointer none),(.pointer none),(.pointer none),(.pointer none),(.pointer none),(.pointer none),(.pointer none),(.pointer none),(.pointer none),(.pointer none),(.pointer none),(.pointer none),(.pointer none),(.pointer none),(.pointer none),(.pointer none),(.pointer none),(.pointer none),(.pointer none),(.pointer none),(.pointer none),(.pointer none),(.pointer none),(.pointer none),(.pointer none),(.pointer none),(.pointer none),(.pointer none),(.pointer none),(.pointer none),(.pointer none)]
def c132:ACode:=(.seq (.region [.o 1 (.box 3 1 (.tmp 0)), .o 2 (.mv (.const (.pointer none))), .k 3 0]) (.seq (.seq (.region [.o 5 (.l 1), .o 6 (.c .lss 5 2), .m 7 6, .g 8 (.l 1) 7 false, .g 9 (.c .gtr 8 64) 7 false, .o 10 (.pick (.tmp 7) (.const (.bool true)) (.tmp 9))]) (.cond (.tmp 10) (.seq (.region [.o 2 (.mv (.const (.pointer none))), .k 3 1]) .ret) .skip)) (.seq (.region [.o 4 (.alloc 183 j14)]) (.seq (.region [.o 11 (.l 1), .o 12 (.f 0 4), .o 13 (.iaddrA 65 3 (.tmp 12) (.tmp 11)), .o 14 (.mkf 172 [(.tmp 1),(.tmp 4)]), .o 15 (.q 171 [13,14])]) (.seq (.seq (.region [.o 16 (.l 1), .o 17 (.f 195 4), .o 18 (.iaddrA 65 1 (.tmp 17) (.tmp 16)), .o 19 (.l 18), .o 20 (.eqn false 1 (.tmp 19))]) (.cond (.tmp 20) (.seq (.region [.o 2 (.mv (.const (.pointer none))), .k 3 1]) .ret) .skip)) (.seq (.region [.o 21 (.l 1), .o 22 (.f 195 4), .o 23 (.iaddrA 65 1 (.tmp 22) (.tmp 21)), .o 24 (.l 23), .m 2 24, .k 3 0]) .ret))))))
def F132:AFun:=⟨c132,1,25,[(.tmp 2),(.tmp 3)]⟩
def K132:Nat→List Nat×List Nat
 |_=>([],[])
theorem F132_ok:kj8 Try.prog K132 noRg Try.f132=some F132:=by kernel_rfl
/- 133: syndrome/code.encode -/
def c133L0:ACode:=(.seq (.region [.o 29 (.b .lss 28 27)]) (.seq (.cond (.tmp 29) .skip (.exit 2)) (.seq (.block 3 [0,4,7,9,15,16,17,26,27,28] (.seq (.region [.m 30 28, .o 31 (.i 1 26 28), .o 32 (.l 31), .m 10 30, .m 11 32]) (.region [.m 33 7, .m 34 10, .m 35 0, .m 36 7, .m 37 10, .o 38 (.i 1 36 37), .o 39 (.l 38), .m 40 0, .m 41 9, .m 42 11,⟨(some 43),(.call 175 [(.tmp 40),(.tmp 41),(.tmp 42)]),none,true⟩, .o 44 (.q 174 [35,39,43]), .o 45 (.i 1 33 34), .n (.st 1 (.tmp 45) (.tmp 44))]))) (.region [.o 46 (.c .add 28 1), .m 28 46]))))
def c133L1:ACode:=(.seq (.region [.o 18 (.b .lss 17 16)]) (.seq (.cond (.tmp 18) .skip (.exit 0)) (.seq (.block 1 [0,4,7,15,16,17] (.seq (.region [.m 19 17, .o 20 (.i 1 15 17), .o 21 (.l 20), .m 8 19, .m 9 21]) (.seq (.region [.o 22 (.f 2 4), .o 23 (.l 22), .m 24 8, .o 25 (.i 1 23 24), .o 26 (.l 25), .o 27 (.n 26), .k 28 0]) (.block 2 [0,4,7,15,16,17] (.loop [0,4,7,9,15,16,17,26,27,28] c133L0))))) (.region [.o 47 (.c .add 17 1), .m 17 47]))))
def c133:ACode:=(.seq (.region [.o 4 (.box 25 3 (.tmp 1)), .o 6 (.mv (.const (.slice none 0 0)))]) (.seq (.region [.o 12 (.f 1 4), .o 13 (.l 12), .o 14 (.mks 3 1 8 [(.int .i64 0)] (.tmp 13) (.tmp 13)), .m 7 14]) (.seq (.seq (.region [.m 15 2, .o 16 (.n 15), .k 17 0]) (.block 0 [7] (.loop [0,4,7,15,16,17] c133L1))) (.seq (.region [.m 48 7, .m 6 48]) .ret))))
def F133:AFun:=⟨c133,3,49,[(.tmp 6)]⟩
def K133:Nat→List Nat×List Nat
 |0=>([0,4,7,15,16,17],[7])
 |1=>([],[0,4,7,15,16,17])
 |2=>([0,4,7,9,15,16,17,26,27,28],[0,4,7,15,16,17])
 |3=>([],[0,4,7,9,15,16,17,26,27,28])
 |_=>([],[])
theorem F133_ok:kj8 Try.prog K133 noRg Try.f133=some F133:=by kernel_rfl
/- 138: (*syndrome/field.Field).Has -/
def c138:ACode:=(.seq (.region [.o 4 (.mv (.const (.bool false)))]) (.seq (.region [.m 5 1, .o 6 (.c .geq 5 0), .m 7 6, .g 8 (.m 1) 7 true, .g 9 (.m 0) 7 true, .g 10 (.nilck (.tmp 9)) 7 true, .g 11 (.f 0 10) 7 true, .g 12 (.l 11) 7 true, .g 13 (.b .lss 8 12) 7 true, .o 14 (.pick (.tmp 7) (.tmp 13) (.const (.bool false))), .m 4 14]) .ret))
def F138:AFun:=⟨c138,2,15,[(.tmp 4)]⟩
def K138:Nat→List Nat×List Nat
 |_=>([],[])
theorem F138_ok:kj8 Try.prog K138 noRg Try.f138=some F138:=by kernel_rfl
/- 141: slices.IndexFunc[[]int,int] -/
def c141L0:ACode:=(.seq (.region [.o 9 (.b .lss 8 7)]) (.seq (.cond (.tmp 9) .skip (.exit 0)) (.seq (.block 1 [0,1,7,8] (.seq (.region [.m 10 8, .m 5 10]) (.seq (.region [.m 11 1, .m 12 0, .m 13 5, .o 14 (.i 1 12 13), .o 15 (.l 14), .o 16 (.calld (.tmp 11) [(.tmp 15)])]) (.cond (.tmp 16) (.seq (.region [.m 17 5, .m 4 17]) .ret) .skip)))) (.region [.o 18 (.c .add 8 1), .m 8 18]))))
def c141:ACode:=(.seq (.region [.k 4 0]) (.seq (.seq (.region [.m 6 0, .o 7 (.n 6), .k 8 0]) (.block 0 [] (.loop [0,1,7,8] c141L0))) (.seq (.region [.k 4 (-1)]) .ret)))
def F141:AFun:=⟨c141,2,19,[(.tmp 4)]⟩
def K141:Nat→List Nat×List Nat
 |0=>([0,1,7,8],[])
 |1=>([],[0,1,7,8])
 |_=>([],[])
theorem F141_ok:kj8 Try.prog K141 noRg Try.f141=some F141:=by kernel_rfl
/- 148: syndrome/code.Check -/
def c148:ACode:=(.seq (.region [.o 1 (.box 25 3 (.tmp 0)), .k 2 0]) (.seq (.seq (.region [.o 7 (.f 0 1), .o 8 (.l 7), .o 9 (.q 132 [8]), .m 6 9, .o 10 (.e 0 6), .o 11 (.e 1 6), .m 3 10, .m 4 11]) (.seq (.region [.m 12 4, .o 13 (.c .neq 12 0)]) (.cond (.tmp 13) (.seq (.region [.m 14 4, .m 2 14]) .ret) .skip))) (.seq (.seq (.region [.o 15 (.f 1 1), .o 16 (.l 15), .o 17 (.c .lss 16 1), .m 18 17, .g 19 (.f 1 1) 18 false, .g 20 (.l 19) 18 false, .g 21 (.c .gtr 20 64) 18 false, .o 22 (.pick (.tmp 18) (.const (.bool true)) (.tmp 21))]) (.cond (.tmp 22) (.seq (.region [.k 2 4]) .ret) .skip)) (.seq (.seq (.region [.o 23 (.f 0 1), .o 24 (.l 23), .o 25 (.f 2 1), .o 26 (.l 25), .o 27 (.q 151 [24,26]), .m 5 27]) (.seq (.region [.m 28 5, .o 29 (.c .neq 28 0)]) (.cond (.tmp 29) (.seq (.region [.m 30 5, .m 2 30]) .ret) .skip))) (.seq (.seq (.region [.o 31 (.f 2 1), .o 32 (.l 31), .o 33 (.n 32), .o 34 (.c .gtr 33 0), .m 35 34, .g 36 (.f 2 1) 35 true, .g 37 (.l 36) 35 true, .g 38 (.iaddr 1 (.tmp 37) (.const (.int .i64 0))) 35 true, .g 39 (.l 38) 35 true, .g 40 (.n 39) 35 true, .g 41 (.f 1 1) 35 true, .g 42 (.l 41) 35 true, .g 43 (.b .neq 40 42) 35 true, .o 44 (.pick (.tmp 35) (.tmp 43) (.const (.bool false)))]) (.cond (.tmp 44) (.seq (.region [.k 2 3]) .ret) .skip)) (.seq (.region [.k 2 0]) .ret))))))
def F148:AFun:=⟨c148,1,45,[(.tmp 2)]⟩
def K148:Nat→List Nat×List Nat
 |_=>([],[])
theorem F148_ok:kj8 Try.prog K148 noRg Try.f148=some F148:=by kernel_rfl
/- 149: slices.Contains[[]int,int] -/
def c149:ACode:=(.seq (.region [.o 4 (.mv (.const (.bool false)))]) (.seq (.region [.m 5 0, .m 6 1, .o 7 (.q 200 [5,6]), .o 8 (.c .geq 7 0), .m 4 8]) .ret))
def F149:AFun:=⟨c149,2,9,[(.tmp 4)]⟩
def K149:Nat→List Nat×List Nat
 |_=>([],[])
theorem F149_ok:kj8 Try.prog K149 noRg Try.f149=some F149:=by kernel_rfl
/- 150: (*syndrome/field.Field).Neg -/
def c150L0:ACode:=(.seq (.region [.o 16 (.b .lss 15 14)]) (.seq (.cond (.tmp 16) .skip (.exit 0)) (.seq (.block 1 [0,1,5,6,14,15] (.seq (.region [.m 17 5, .m 18 0, .o 19 (.nilck (.tmp 18)), .o 20 (.f 1 19), .o 21 (.l 20), .m 22 1, .m 23 0, .o 24 (.nilck (.tmp 23)), .o 25 (.f 1 24), .o 26 (.l 25), .o 27 (.b .rem 22 26), .o 28 (.b .sub 21 27), .m 29 0, .o 30 (.nilck (.tmp 29)), .o 31 (.f 1 30), .o 32 (.l 31), .o 33 (.b .rem 28 32), .m 34 6, .o 35 (.b .mul 33 34), .o 36 (.b .add 17 35), .m 5 36]) (.region [.m 37 1, .m 38 0, .o 39 (.nilck (.tmp 38)), .o 40 (.f 1 39), .o 41 (.l 40), .o 42 (.b .quo 37 41), .m 43 6, .m 44 0, .o 45 (.nilck (.tmp 44)), .o 46 (.f 1 45), .o 47 (.l 46), .o 48 (.b .mul 43 47), .m 1 42, .m 6 48]))) (.region [.o 49 (.c .add 15 1), .m 15 49]))))
def c150:ACode:=(.seq (.region [.k 4 0]) (.seq (.seq (.region [.m 7 0, .m 8 1, .o 9 (.q 138 [7,8]), .o 10 (.un .not (.tmp 9))]) (.cond (.tmp 10) (.seq (.region [.k 4 (-1)]) .ret) .skip)) (.seq (.region [.k 5 0, .k 6 1]) (.seq (.seq (.region [.m 11 0, .o 12 (.nilck (.tmp 11)), .o 13 (.f 2 12), .o 14 (.l 13), .k 15 0]) (.block 0 [5] (.loop [0,1,5,6,14,15] c150L0))) (.seq (.region [.m 50 5, .m 4 50]) .ret)))))
def F150:AFun:=⟨c150,2,51,[(.tmp 4)]⟩
def K150:Nat→List Nat×List Nat
 |0=>([0,1,5,6,14,15],[5])
 |1=>([],[0,1,5,6,14,15])
 |_=>([],[])
theorem F150_ok:kj8 Try.prog K150 noRg Try.f150=some F150:=by kernel_rfl
/- 151: syndrome/matrix.Check -/
def c151L0:ACode:=(.seq (.region [.o 23 (.b .lss 22 21)]) (.seq (.cond (.tmp 23) .skip (.exit 0)) (.seq (.block 1 [1,5,20,21,22] (.seq (.region [.o 24 (.i 1 20 22), .o 25 (.l 24), .m 8 25]) (.seq (.seq (.region [.m 26 8, .o 27 (.n 26), .m 28 1, .o 29 (.iaddr 1 (.tmp 28) (.const (.int .i64 0))), .o 30 (.l 29), .o 31 (.n 30), .o 32 (.b .neq 27 31), .m 33 32, .g 34 (.m 8) 33 false, .g 35 (.n 34) 33 false, .g 36 (.c .eql 35 0) 33 false, .o 37 (.pick (.tmp 33) (.const (.bool true)) (.tmp 36))]) (.cond (.tmp 37) (.seq (.region [.k 4 3]) .ret) .skip)) (.seq (.seq (.region [.m 38 8, .o 39 (.n 38), .o 40 (.c .gtr 39 64)]) (.cond (.tmp 40) (.seq (.region [.k 4 4]) .ret) .skip)) (.seq (.region [.m 41 8, .o 42 (.mkf 201 [(.tmp 5)]), .o 43 (.q 95 [41,42])]) (.cond (.tmp 43) (.seq (.region [.k 4 2]) .ret) .skip)))))) (.region [.o 44 (.c .add 22 1), .m 22 44]))))
def c151:ACode:=(.seq (.region [.k 4 0]) (.seq (.region [.m 10 0, .o 11 (.q 132 [10]), .m 9 11, .o 12 (.e 0 9), .o 13 (.e 1 9), .o 5 (.alloc 141 [(.pointer none)]), .n (.st 1 (.tmp 5) (.tmp 12)), .m 6 13]) (.seq (.seq (.region [.m 14 6, .o 15 (.c .neq 14 0)]) (.cond (.tmp 15) (.seq (.region [.m 16 6, .m 4 16]) .ret) .skip)) (.seq (.seq (.region [.m 17 1, .o 18 (.n 17), .o 19 (.c .gtr 18 64)]) (.cond (.tmp 19) (.seq (.region [.k 4 4]) .ret) .skip)) (.seq (.seq (.region [.m 20 1, .o 21 (.n 20), .k 22 0]) (.block 0 [] (.loop [1,5,20,21,22] c151L0))) (.seq (.region [.k 4 0]) .ret))))))
def F151:AFun:=⟨c151,2,45,[(.tmp 4)]⟩
def K151:Nat→List Nat×List Nat
 |0=>([1,5,20,21,22],[])
 |1=>([],[1,5,20,21,22])
 |_=>([],[])
theorem F151_ok:kj8 Try.prog K151 noRg Try.f151=some F151:=by kernel_rfl
end Go.Proofs.Ytodbgomfeacdhaa
