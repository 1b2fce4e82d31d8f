/-
  Functions of this seat as the small machine's code, written by a program of my own (gen.py); each is checked to be what the model's function is turned into. No condition.
-/
import Derived.Test.YtmhbpecdpiapgaaK1
import Derived.Test.YtmhbpecdpiapgaaProg
set_option linter.unusedVariables false
set_option linter.unusedSimpArgs false
set_option linter.unusedSectionVars false
set_option maxRecDepth 100000
namespace Go.Proofs.Ytmhbpecdpiapgaa
open Go.Am
/- 6: syndrome/syndrometop.TopPeel -/
def c6L0:ACode:=(.seq (.seq (.region [.m 64 17, .m 65 13, .m 66 15, .o 67 (.i 1 65 66), .o 68 (.l 67), .o 69 (.n 68), .o 70 (.b .lss 64 69)]) (.cond (.tmp 70) .skip (.exit 2))) (.seq (.block 3 [1,3,4,5,13,14,15,16,17] (.region [.m 73 16, .m 74 13, .m 75 15, .o 76 (.i 1 74 75), .o 77 (.l 76), .m 78 17, .o 79 (.i 1 77 78), .o 80 (.l 79), .o 81 (.i 1 73 80), .n (.st 1 (.tmp 81) (.const (.int .i64 1)))])) (.region [.m 71 17, .o 72 (.c .add 71 1), .m 17 72])))
def c6L1:ACode:=(.seq (.seq (.region [.m 56 15, .m 57 13, .o 58 (.n 57), .o 59 (.b .lss 56 58)]) (.cond (.tmp 59) .skip (.exit 0))) (.seq (.block 1 [1,3,4,5,13,14,15] (.seq (.region [.m 62 1, .o 63 (.mks 3 1 8 [(.int .i64 0)] (.tmp 62) (.tmp 62)), .m 16 63]) (.seq (.seq (.region [.k 17 0]) (.block 2 [1,3,4,5,13,14,15,16] (.loop [1,3,4,5,13,14,15,16,17] c6L0))) (.region [.o 82 (.f 2 14), .o 83 (.l 82), .m 84 16, .o 85 (.mkSl 22 1 1 [(.tmp 84)]), .o 86 (.app 22 1 24 (.tmp 83) (.tmp 85)), .o 87 (.f 2 14), .n (.st 1 (.tmp 87) (.tmp 86))])))) (.region [.m 60 15, .o 61 (.c .add 60 1), .m 15 61])))
def c6L2:ACode:=(.seq (.seq (.region [.m 115 22, .m 116 4, .o 117 (.n 116), .o 118 (.b .lss 115 117)]) (.cond (.tmp 118) .skip (.exit 4))) (.seq (.block 5 [1,4,5,13,20,21,22] (.region [.m 121 21, .m 122 4, .m 123 22, .o 124 (.i 1 122 123), .o 125 (.l 124), .m 126 1, .o 127 (.q 12 [125,126]), .o 128 (.i 1 121 127), .n (.st 1 (.tmp 128) (.const (.int .i64 (-1))))])) (.region [.m 119 22, .o 120 (.c .add 119 1), .m 22 120])))
def c6L3:ACode:=(.seq (.seq (.region [.m 145 26, .m 146 1, .o 147 (.b .lss 145 146)]) (.cond (.tmp 147) .skip (.exit 6))) (.seq (.block 7 [1,5,13,20,21,23,24,25,26] (.seq (.seq (.region [.m 150 23, .m 151 26, .o 152 (.i 1 150 151), .o 153 (.l 152), .o 154 (.c .geq 153 0), .m 155 154, .g 156 (.m 23) 155 true, .g 157 (.m 26) 155 true, .g 158 (.i 1 156 157) 155 true, .g 159 (.l 158) 155 true, .g 160 (.m 20) 155 true, .g 161 (.m 26) 155 true, .g 162 (.i 1 160 161) 155 true, .g 163 (.l 162) 155 true, .g 164 (.b .neq 159 163) 155 true, .o 165 (.pick (.tmp 155) (.tmp 164) (.const (.bool false))), .m 166 165, .g 167 (.m 23) 166 false, .g 168 (.m 26) 166 false, .g 169 (.i 1 167 168) 166 false, .g 170 (.l 169) 166 false, .g 171 (.c .lss 170 0) 166 false, .g 172 (.m 26) 166 false, .g 173 (.m 24) 166 false,⟨(some 174),(.call 46 [(.tmp 172),(.tmp 173)]),(some (166,false)),true⟩, .g 175 (.eqb true (.tmp 171) (.tmp 174)) 166 false, .o 176 (.pick (.tmp 166) (.const (.bool true)) (.tmp 175)), .m 177 176, .g 178 (.m 23) 177 false, .g 179 (.m 26) 177 false, .g 180 (.i 1 178 179) 177 false, .g 181 (.l 180) 177 false, .g 182 (.c .lss 181 0) 177 false, .g 183 (.m 182) 177 false, .g 184 (.m 21) 183 true, .g 185 (.m 26) 183 true, .g 186 (.i 1 184 185) 183 true, .g 187 (.l 186) 183 true, .g 188 (.c .geq 187 0) 183 true, .g 189 (.pick (.tmp 183) (.tmp 188) (.const (.bool false))) 177 false, .o 190 (.pick (.tmp 177) (.const (.bool true)) (.tmp 189))]) (.cond (.tmp 190) (.seq (.region [.o 12 (.mv (.const (.bool false)))]) .ret) .skip)) (.seq (.region [.m 191 21, .m 192 26, .o 193 (.i 1 191 192), .o 194 (.l 193), .o 195 (.c .lss 194 0), .m 196 195, .g 197 (.m 5) 196 true, .g 198 (.m 26) 196 true, .g 199 (.q 47 [197,198]) 196 true, .g 200 (.call 12 [(.tmp 199),(.const (.int .i64 3))]) 196 true, .g 201 (.c .gtr 200 0) 196 true, .o 202 (.pick (.tmp 196) (.tmp 201) (.const (.bool false)))]) (.cond (.tmp 202) (.region [.m 203 25, .m 204 26, .o 205 (.mkSl 3 1 1 [(.tmp 204)]), .o 206 (.app 3 1 8 (.tmp 203) (.tmp 205)), .m 25 206]) .skip)))) (.region [.m 148 26, .o 149 (.c .add 148 1), .m 26 149])))
def c6L4:ACode:=(.seq (.seq (.region [.m 231 30, .m 232 25, .o 233 (.n 232), .o 234 (.b .lss 231 233), .m 235 234, .g 236 (.m 28) 235 true, .o 237 (.pick (.tmp 235) (.tmp 236) (.const (.bool false)))]) (.cond (.tmp 237) .skip (.exit 8))) (.seq (.block 9 [1,13,20,24,25,28,30] (.seq (.region [.m 240 25, .m 241 30, .o 242 (.i 1 240 241), .o 243 (.l 242), .m 244 24, .o 245 (.q 46 [243,244]), .o 246 (.un .not (.tmp 245))]) (.cond (.tmp 246) (.seq (.region [.o 12 (.mv (.const (.bool false)))]) .ret) .skip))) (.region [.m 238 30, .o 239 (.c .add 238 1), .m 30 239])))
def c6:ACode:=(.seq (.region [.o 12 (.mv (.const (.bool false)))]) (.seq (.seq (.region [.m 34 0, .o 35 (.n 34), .m 36 3, .o 37 (.n 36), .o 38 (.b .add 35 37), .m 39 4, .o 40 (.n 39), .o 41 (.b .add 38 40), .m 42 5, .o 43 (.n 42), .o 44 (.b .add 41 43), .o 45 (.c .gtr 44 256)]) (.cond (.tmp 45) (.seq (.region [.o 12 (.mv (.const (.bool true)))]) .ret) .skip)) (.seq (.region [.m 46 1, .o 47 (.call 12 [(.tmp 46),(.const (.int .i64 20))]), .o 48 (.bin .add (.const (.int .i64 1)) (.tmp 47)), .m 1 48]) (.seq (.region [.m 49 0, .m 50 1, .m 51 2, .o 52 (.call 12 [(.tmp 51),(.const (.int .i64 14))]), .o 53 (.q 40 [49,50,52]), .m 13 53]) (.seq (.region [.m 54 1, .o 55 (.build [(.int .i64 0),(.int .i64 0),(.slice none 0 0)] [(0,1),(1,1),(2,1)] [(0,(.const (.int .i64 2))),(1,(.tmp 54))]), .o 14 (.alloc 42 [(.int .i64 0),(.int .i64 0),(.slice none 0 0)]), .n (.st 3 (.tmp 14) (.tmp 55))]) (.seq (.seq (.region [.k 15 0]) (.block 0 [1,3,4,5,13,14] (.loop [1,3,4,5,13,14,15] c6L1))) (.seq (.region [.o 89 (.ld true 3 (.tmp 14)), .o 90 (.q 41 [89]), .m 88 90, .o 91 (.e 0 88), .o 92 (.e 1 88), .o 18 (.alloc 42 [(.int .i64 0),(.int .i64 0),(.slice none 0 0)]), .n (.st 3 (.tmp 18) (.tmp 91)), .m 19 92]) (.seq (.seq (.region [.m 93 19, .o 94 (.c .neq 93 0)]) (.cond (.tmp 94) (.seq (.region [.o 12 (.mv (.const (.bool false)))]) .ret) .skip)) (.seq (.region [.o 96 (.ld true 3 (.tmp 18)), .m 97 3, .o 98 (.f 2 18), .o 99 (.l 98), .o 100 (.n 99),⟨(some 101),(.call 43 [(.tmp 97),(.const (.int .i64 0)),(.tmp 100),(.const (.bool false))]),none,true⟩, .o 102 (.q 42 [96,101]), .m 95 102, .o 103 (.e 0 95), .o 104 (.e 1 95), .m 20 103, .m 19 104]) (.seq (.seq (.region [.m 105 19, .o 106 (.c .neq 105 0), .m 107 106, .g 108 (.m 20) 107 false, .g 109 (.n 108) 107 false, .g 110 (.m 1) 107 false, .g 111 (.b .neq 109 110) 107 false, .o 112 (.pick (.tmp 107) (.const (.bool true)) (.tmp 111))]) (.cond (.tmp 112) (.seq (.region [.o 12 (.mv (.const (.bool false)))]) .ret) .skip)) (.seq (.region [.m 113 20, .o 114 (.q 44 [113]), .m 21 114]) (.seq (.seq (.region [.k 22 0]) (.block 4 [1,5,13,20,21] (.loop [1,4,5,13,20,21,22] c6L2))) (.seq (.region [.m 130 1, .m 131 13, .m 132 21, .o 133 (.q 45 [130,131,132]), .m 129 133, .o 134 (.e 0 129), .o 135 (.e 1 129), .o 136 (.e 2 129), .m 23 134, .m 24 135, .m 19 136]) (.seq (.seq (.region [.m 137 19, .o 138 (.c .neq 137 0), .m 139 138, .g 140 (.m 23) 139 false, .g 141 (.n 140) 139 false, .g 142 (.m 1) 139 false, .g 143 (.b .neq 141 142) 139 false, .o 144 (.pick (.tmp 139) (.const (.bool true)) (.tmp 143))]) (.cond (.tmp 144) (.seq (.region [.o 12 (.mv (.const (.bool false)))]) .ret) .skip)) (.seq (.region [.o 25 (.mv (.const (.slice none 0 0)))]) (.seq (.seq (.region [.k 26 0]) (.block 6 [1,13,20,24,25] (.loop [1,5,13,20,21,23,24,25,26] c6L3))) (.seq (.region [.m 208 1, .m 209 13, .m 210 24, .o 211 (.q 48 [208,209,210]), .m 207 211, .o 212 (.e 0 207), .o 213 (.e 1 207), .m 27 212, .m 19 213]) (.seq (.region [.m 215 1, .m 216 13, .m 217 25, .o 218 (.q 48 [215,216,217]), .m 214 218, .o 219 (.e 0 214), .o 220 (.e 1 214), .m 28 219, .m 29 220]) (.seq (.seq (.region [.m 221 19, .o 222 (.c .neq 221 0), .m 223 222, .g 224 (.m 29) 223 false, .g 225 (.c .neq 224 0) 223 false, .o 226 (.pick (.tmp 223) (.const (.bool true)) (.tmp 225)), .m 227 226, .g 228 (.m 27) 227 false, .g 229 (.un .not (.tmp 228)) 227 false, .o 230 (.pick (.tmp 227) (.const (.bool true)) (.tmp 229))]) (.cond (.tmp 230) (.seq (.region [.o 12 (.mv (.const (.bool false)))]) .ret) .skip)) (.seq (.seq (.region [.k 30 0]) (.block 8 [1,13,20] (.loop [1,13,20,24,25,28,30] c6L4))) (.seq (.region [.m 248 1, .m 249 13, .m 250 20, .o 251 (.call 49 [(.tmp 248),(.tmp 249),(.tmp 250),(.const (.int .i64 9))]), .m 247 251, .o 252 (.e 0 247), .o 253 (.e 1 247), .o 254 (.e 2 247), .o 255 (.e 3 247), .m 31 252, .m 32 253, .m 33 254, .m 19 255]) (.seq (.region [.m 256 19, .o 257 (.c .eql 256 0), .m 258 257, .g 259 (.m 32) 258 true, .o 260 (.pick (.tmp 258) (.tmp 259) (.const (.bool false))), .m 261 260, .g 262 (.m 31) 261 true, .g 263 (.m 20) 261 true, .g 264 (.q 19 [262,263]) 261 true, .o 265 (.pick (.tmp 261) (.tmp 264) (.const (.bool false))), .m 12 265]) .ret))))))))))))))))))))))
def F6:AFun:=⟨c6,6,266,[(.tmp 12)]⟩
def K6:Nat→List Nat×List Nat
 |0=>([1,3,4,5,13,14,15],[1,3,4,5,13,14])
 |1=>([],[1,3,4,5,13,14,15])
 |2=>([1,3,4,5,13,14,15,16,17],[1,3,4,5,13,14,15,16])
 |3=>([],[1,3,4,5,13,14,15,16,17])
 |4=>([1,4,5,13,20,21,22],[1,5,13,20,21])
 |5=>([],[1,4,5,13,20,21,22])
 |6=>([1,5,13,20,21,23,24,25,26],[1,13,20,24,25])
 |7=>([],[1,5,13,20,21,23,24,25,26])
 |8=>([1,13,20,24,25,28,30],[1,13,20])
 |9=>([],[1,13,20,24,25,28,30])
 |_=>([],[])
theorem F6_ok:kj8 Try.prog K6 Try.f6=some F6:=by kernel_rfl
/- 12: syndrome/syndromeref.Pick -/
def c12:ACode:=(.seq (.region [.k 4 0]) (.seq (.seq (.region [.m 5 0, .o 6 (.c .lss 5 0)]) (.cond (.tmp 6) (.region [.m 7 0, .o 8 (.c .add 7 1), .o 9 (.un .neg (.tmp 8)), .m 0 9]) .skip)) (.seq (.region [.m 10 0, .m 11 1, .o 12 (.b .rem 10 11), .m 4 12]) .ret)))
def F12:AFun:=⟨c12,2,13,[(.tmp 4)]⟩
def K12:Nat→List Nat×List Nat
 |_=>([],[])
theorem F12_ok:kj8 Try.prog K12 Try.f12=some F12:=by kernel_rfl
/- 19: syndrome/syndromeref.Same -/
def c19L0:ACode:=(.seq (.seq (.region [.m 11 5, .m 12 0, .o 13 (.n 12), .o 14 (.b .lss 11 13)]) (.cond (.tmp 14) .skip (.exit 0))) (.seq (.block 1 [0,1,5] (.seq (.region [.m 17 0, .m 18 5, .o 19 (.i 1 17 18), .o 20 (.l 19), .m 21 1, .m 22 5, .o 23 (.i 1 21 22), .o 24 (.l 23), .o 25 (.b .neq 20 24)]) (.cond (.tmp 25) (.seq (.region [.o 4 (.mv (.const (.bool false)))]) .ret) .skip))) (.region [.m 15 5, .o 16 (.c .add 15 1), .m 5 16])))
def c19:ACode:=(.seq (.region [.o 4 (.mv (.const (.bool false)))]) (.seq (.seq (.region [.m 6 0, .o 7 (.n 6), .m 8 1, .o 9 (.n 8), .o 10 (.b .neq 7 9)]) (.cond (.tmp 10) (.seq (.region [.o 4 (.mv (.const (.bool false)))]) .ret) .skip)) (.seq (.seq (.region [.k 5 0]) (.block 0 [] (.loop [0,1,5] c19L0))) (.seq (.region [.o 4 (.mv (.const (.bool true)))]) .ret))))
def F19:AFun:=⟨c19,2,26,[(.tmp 4)]⟩
def K19:Nat→List Nat×List Nat
 |0=>([0,1,5],[])
 |1=>([],[0,1,5])
 |_=>([],[])
theorem F19_ok:kj8 Try.prog K19 Try.f19=some F19:=by kernel_rfl
/- 40: syndrome/syndromeref.ChecksOf -/
def c40L0:ACode:=(.seq (.seq (.region [.m 16 10, .m 17 1, .o 18 (.b .lss 16 17)]) (.cond (.tmp 18) .skip (.exit 2))) (.seq (.block 3 [0,1,2,7,8,9,10] (.seq (.region [.m 21 0, .m 22 8, .m 23 1, .o 24 (.b .mul 22 23), .m 25 10, .o 26 (.b .add 24 25), .o 27 (.q 47 [21,26]), .o 28 (.call 12 [(.tmp 27),(.const (.int .i64 3))]), .o 29 (.c .eql 28 0)]) (.cond (.tmp 29) (.region [.m 30 9, .m 31 10, .o 32 (.mkSl 3 1 1 [(.tmp 31)]), .o 33 (.app 3 1 8 (.tmp 30) (.tmp 32)), .m 9 33]) .skip))) (.region [.m 19 10, .o 20 (.c .add 19 1), .m 10 20])))
def c40L1:ACode:=(.seq (.seq (.region [.m 11 8, .m 12 2, .o 13 (.b .lss 11 12)]) (.cond (.tmp 13) .skip (.exit 0))) (.seq (.block 1 [0,1,2,7,8] (.seq (.region [.o 9 (.mv (.const (.slice none 0 0)))]) (.seq (.seq (.region [.k 10 0]) (.block 2 [0,1,2,7,8,9] (.loop [0,1,2,7,8,9,10] c40L0))) (.region [.m 34 7, .m 35 9, .o 36 (.mkSl 22 1 1 [(.tmp 35)]), .o 37 (.app 22 1 24 (.tmp 34) (.tmp 36)), .m 7 37])))) (.region [.m 14 8, .o 15 (.c .add 14 1), .m 8 15])))
def c40:ACode:=(.seq (.region [.o 6 (.mv (.const (.slice none 0 0)))]) (.seq (.region [.o 7 (.mv (.const (.slice none 0 0)))]) (.seq (.seq (.region [.k 8 0]) (.block 0 [7] (.loop [0,1,2,7,8] c40L1))) (.seq (.region [.m 38 7, .m 6 38]) .ret))))
def F40:AFun:=⟨c40,3,39,[(.tmp 6)]⟩
def K40:Nat→List Nat×List Nat
 |0=>([0,1,2,7,8],[7])
 |1=>([],[0,1,2,7,8])
 |2=>([0,1,2,7,8,9,10],[0,1,2,7,8,9])
 |3=>([],[0,1,2,7,8,9,10])
 |_=>([],[])
theorem F40_ok:kj8 Try.prog K40 Try.f40=some F40:=by kernel_rfl
/- 41: syndrome/code.Dual -/
def c41L0:ACode:=(.seq (.region [.o 25 (.b .lss 24 23)]) (.seq (.cond (.tmp 25) .skip (.exit 0)) (.seq (.block 1 [1,2,23,24] (.seq (.region [.m 26 24, .m 5 26]) (.seq (.region [.o 27 (.f 1 1), .o 28 (.l 27), .o 29 (.mks 3 1 8 [(.int .i64 0)] (.tmp 28) (.tmp 28)), .m 6 29]) (.seq (.region [.m 30 6, .m 31 5, .o 32 (.i 1 30 31), .n (.st 1 (.tmp 32) (.const (.int .i64 1)))]) (.region [.o 33 (.f 2 1), .o 34 (.l 33), .m 35 6, .o 36 (.mkSl 22 1 1 [(.tmp 35)]), .o 37 (.app 22 1 24 (.tmp 34) (.tmp 36)), .o 38 (.f 2 1), .n (.st 1 (.tmp 38) (.tmp 37))]))))) (.region [.o 39 (.c .add 24 1), .m 24 39]))))
def c41:ACode:=(.seq (.region [.o 1 (.box 42 3 (.tmp 0)), .o 2 (.alloc 42 [(.int .i64 0),(.int .i64 0),(.slice none 0 0)]), .k 3 0]) (.seq (.region [.o 10 (.ld true 3 (.tmp 1)), .o 11 (.q 111 [10]), .m 9 11, .o 12 (.e 0 9), .o 13 (.e 1 9), .n (.st 3 (.tmp 1) (.tmp 12)), .m 4 13]) (.seq (.seq (.region [.m 14 4, .o 15 (.c .neq 14 0)]) (.cond (.tmp 15) (.seq (.region [.o 16 (.build [(.int .i64 0),(.int .i64 0),(.slice none 0 0)] [(0,1),(1,1),(2,1)] []), .m 17 4, .n (.st 3 (.tmp 2) (.tmp 16)), .m 3 17]) .ret) .skip)) (.seq (.seq (.region [.o 18 (.f 2 1), .o 19 (.l 18), .o 20 (.n 19), .o 21 (.c .eql 20 0)]) (.cond (.tmp 21) (.seq (.seq (.region [.o 22 (.f 1 1), .o 23 (.l 22), .k 24 0]) (.block 0 [1,2] (.loop [1,2,23,24] c41L0))) (.seq (.region [.o 40 (.ld true 3 (.tmp 1)), .n (.st 3 (.tmp 2) (.tmp 40)), .k 3 0]) .ret)) .skip)) (.seq (.region [.o 42 (.f 0 1), .o 43 (.l 42), .o 44 (.f 2 1), .o 45 (.l 44), .o 46 (.q 112 [43,45]), .m 41 46, .o 47 (.e 0 41), .o 48 (.e 1 41), .m 7 47, .m 8 48]) (.seq (.region [.o 49 (.f 0 1), .o 50 (.l 49), .o 51 (.f 1 1), .o 52 (.l 51), .m 53 7, .o 54 (.build [(.int .i64 0),(.int .i64 0),(.slice none 0 0)] [(0,1),(1,1),(2,1)] [(0,(.tmp 50)),(1,(.tmp 52)),(2,(.tmp 53))]), .n (.st 3 (.tmp 2) (.tmp 54)), .k 3 0]) .ret))))))
def F41:AFun:=⟨c41,1,55,[(.cell 2 true 3),(.tmp 3)]⟩
def K41:Nat→List Nat×List Nat
 |0=>([1,2,23,24],[1,2])
 |1=>([],[1,2,23,24])
 |_=>([],[])
theorem F41_ok:kj8 Try.prog K41 Try.f41=some F41:=by kernel_rfl
/- 42: syndrome/code.Encode -/
def c42:ACode:=(.seq (.region [.o 2 (.box 42 3 (.tmp 0)), .o 4 (.mv (.const (.slice none 0 0))), .k 5 0]) (.seq (.region [.o 10 (.ld true 3 (.tmp 2)), .o 11 (.q 111 [10]), .m 9 11, .o 12 (.e 0 9), .o 13 (.e 1 9), .n (.st 3 (.tmp 2) (.tmp 12)), .m 6 13]) (.seq (.seq (.region [.m 14 6, .o 15 (.c .neq 14 0)]) (.cond (.tmp 15) (.seq (.region [.m 16 6, .o 4 (.mv (.const (.slice none 0 0))), .m 5 16]) .ret) .skip)) (.seq (.seq (.region [.m 17 1, .o 18 (.n 17), .o 19 (.f 2 2), .o 20 (.l 19), .o 21 (.n 20), .o 22 (.b .neq 18 21)]) (.cond (.tmp 22) (.seq (.region [.o 4 (.mv (.const (.slice none 0 0))), .k 5 6]) .ret) .skip)) (.seq (.region [.o 24 (.f 0 2), .o 25 (.l 24), .o 26 (.q 76 [25]), .m 23 26, .o 27 (.e 0 23), .o 28 (.e 1 23), .o 7 (.alloc 104 [(.pointer none)]), .n (.st 1 (.tmp 7) (.tmp 27)), .m 8 28]) (.seq (.seq (.region [.m 29 1, .o 30 (.mkf 114 [(.tmp 7)]), .o 31 (.q 113 [29,30])]) (.cond (.tmp 31) (.seq (.region [.o 4 (.mv (.const (.slice none 0 0))), .k 5 2]) .ret) .skip)) (.seq (.region [.o 32 (.l 7), .o 33 (.ld true 3 (.tmp 2)), .m 34 1, .o 35 (.q 116 [32,33,34]), .m 4 35, .k 5 0]) .ret)))))))
def F42:AFun:=⟨c42,2,36,[(.tmp 4),(.tmp 5)]⟩
def K42:Nat→List Nat×List Nat
 |_=>([],[])
theorem F42_ok:kj8 Try.prog K42 Try.f42=some F42:=by kernel_rfl
/- 43: syndrome/syndromeref.WordOf -/
def c43L0:ACode:=(.seq (.seq (.region [.m 12 10, .m 13 2, .o 14 (.b .lss 12 13)]) (.cond (.tmp 14) .skip (.exit 0))) (.seq (.block 1 [0,1,2,3,9,10] (.seq (.region [.m 17 0, .m 18 1, .m 19 10, .o 20 (.b .add 18 19), .o 21 (.q 47 [17,20]), .o 22 (.call 12 [(.tmp 21),(.const (.int .i64 4))]), .m 11 22]) (.seq (.seq (.region [.m 23 11, .o 24 (.c .gtr 23 1)]) (.cond (.tmp 24) (.seq (.region [.m 25 11, .o 26 (.c .sub 25 2), .m 11 26]) (.seq (.region [.m 27 3, .m 28 27, .g 29 (.m 0) 28 true, .g 30 (.m 1) 28 true, .g 31 (.m 10) 28 true, .g 32 (.b .add 30 31) 28 true, .g 33 (.q 47 [29,32]) 28 true, .g 34 (.c .quo 33 4) 28 true, .g 35 (.call 12 [(.tmp 34),(.const (.int .i64 2))]) 28 true, .g 36 (.c .eql 35 0) 28 true, .o 37 (.pick (.tmp 28) (.tmp 36) (.const (.bool false)))]) (.cond (.tmp 37) (.region [.k 11 (-1)]) .skip))) .skip)) (.region [.m 38 9, .m 39 11, .o 40 (.mkSl 3 1 1 [(.tmp 39)]), .o 41 (.app 3 1 8 (.tmp 38) (.tmp 40)), .m 9 41])))) (.region [.m 15 10, .o 16 (.c .add 15 1), .m 10 16])))
def c43:ACode:=(.seq (.region [.o 8 (.mv (.const (.slice none 0 0)))]) (.seq (.region [.o 9 (.mv (.const (.slice none 0 0)))]) (.seq (.seq (.region [.k 10 0]) (.block 0 [9] (.loop [0,1,2,3,9,10] c43L0))) (.seq (.region [.m 42 9, .m 8 42]) .ret))))
def F43:AFun:=⟨c43,4,43,[(.tmp 8)]⟩
def K43:Nat→List Nat×List Nat
 |0=>([0,1,2,3,9,10],[9])
 |1=>([],[0,1,2,3,9,10])
 |_=>([],[])
theorem F43_ok:kj8 Try.prog K43 Try.f43=some F43:=by kernel_rfl
/- 44: syndrome/syndromeref.Copy -/
def c44:ACode:=(.seq (.region [.o 2 (.mv (.const (.slice none 0 0)))]) (.seq (.region [.o 3 (.mkSl 3 1 0 []), .m 4 0, .o 5 (.app 3 1 8 (.tmp 3) (.tmp 4)), .m 2 5]) .ret))
def F44:AFun:=⟨c44,1,6,[(.tmp 2)]⟩
def K44:Nat→List Nat×List Nat
 |_=>([],[])
theorem F44_ok:kj8 Try.prog K44 Try.f44=some F44:=by kernel_rfl
/- 45: syndrome/sparse.Peel -/
def c45L0:ACode:=(.seq (.region [.o 46 (.b .lss 45 44)]) (.seq (.cond (.tmp 46) .skip (.exit 4)) (.seq (.block 5 [1,7,9,10,11,14,15,16,37,38,39,43,44,45] (.seq (.region [.o 47 (.i 1 43 45), .o 48 (.l 47), .m 18 48]) (.seq (.region [.m 49 9, .m 50 18, .o 51 (.i 1 49 50), .o 52 (.l 51), .o 53 (.c .lss 52 0)]) (.cond (.tmp 53) (.region [.m 54 14, .o 55 (.c .add 54 1), .m 56 18, .m 14 55, .m 15 56]) (.region [.m 57 16, .m 58 9, .m 59 18, .o 60 (.i 1 58 59), .o 61 (.l 60), .o 62 (.b .xor 57 61), .m 16 62]))))) (.region [.o 63 (.c .add 45 1), .m 45 63]))))
def c45L1:ACode:=(.seq (.region [.o 40 (.b .lss 39 38)]) (.seq (.cond (.tmp 40) .skip (.exit 2)) (.seq (.block 3 [1,7,9,10,11,37,38,39] (.seq (.region [.o 41 (.i 1 37 39), .o 42 (.l 41), .m 13 42]) (.seq (.region [.k 14 0, .k 15 0, .k 16 0]) (.seq (.seq (.region [.m 43 13, .o 44 (.n 43), .k 45 0]) (.block 4 [1,7,9,10,11,14,15,16,37,38,39] (.loop [1,7,9,10,11,14,15,16,37,38,39,43,44,45] c45L0))) (.seq (.region [.m 64 14, .o 65 (.c .eql 64 1), .m 66 65, .g 67 (.m 11) 66 true, .g 68 (.m 15) 66 true, .g 69 (.i 1 67 68) 66 true, .g 70 (.l 69) 66 true, .g 71 (.c .lss 70 0) 66 true, .o 72 (.pick (.tmp 66) (.tmp 71) (.const (.bool false)))]) (.cond (.tmp 72) (.seq (.region [.m 73 11, .m 74 15, .m 75 16, .o 76 (.i 1 73 74), .n (.st 1 (.tmp 76) (.tmp 75))]) (.region [.o 10 (.mv (.const (.bool true)))])) .skip)))))) (.region [.o 77 (.c .add 39 1), .m 39 77]))))
def c45L2:ACode:=(.seq (.seq (.region [.m 34 10]) (.cond (.tmp 34) .skip (.exit 0))) (.block 1 [1,7,9,10] (.seq (.region [.o 10 (.mv (.const (.bool false)))]) (.seq (.region [.m 35 9, .o 36 (.q 119 [35]), .m 11 36]) (.seq (.seq (.region [.m 37 1, .o 38 (.n 37), .k 39 0]) (.block 2 [1,7,10,11] (.loop [1,7,9,10,11,37,38,39] c45L1))) (.region [.m 78 11, .m 9 78]))))))
def c45L3:ACode:=(.seq (.region [.o 82 (.b .lss 81 80)]) (.seq (.cond (.tmp 82) .skip (.exit 6)) (.seq (.block 7 [7,9,79,80,81] (.seq (.region [.m 83 81, .o 84 (.i 1 79 81), .o 85 (.l 84), .m 19 83, .m 20 85]) (.seq (.region [.m 86 20, .o 87 (.c .lss 86 0)]) (.cond (.tmp 87) (.region [.m 88 7, .m 89 19, .o 90 (.mkSl 3 1 1 [(.tmp 89)]), .o 91 (.app 3 1 8 (.tmp 88) (.tmp 90)), .m 7 91]) .skip)))) (.region [.o 92 (.c .add 81 1), .m 81 92]))))
def c45:ACode:=(.seq (.region [.o 6 (.mv (.const (.slice none 0 0))), .o 7 (.mv (.const (.slice none 0 0))), .k 8 0]) (.seq (.region [.m 21 0, .m 22 1, .o 23 (.q 117 [21,22]), .m 8 23]) (.seq (.seq (.region [.m 24 8, .o 25 (.c .eql 24 0)]) (.cond (.tmp 25) (.region [.m 26 0, .m 27 2, .o 28 (.call 118 [(.tmp 26),(.tmp 27),(.const (.int .i64 (-1)))]), .m 8 28]) .skip)) (.seq (.seq (.region [.m 29 8, .o 30 (.c .neq 29 0)]) (.cond (.tmp 30) (.seq (.region [.m 31 8, .o 6 (.mv (.const (.slice none 0 0))), .o 7 (.mv (.const (.slice none 0 0))), .m 8 31]) .ret) .skip)) (.seq (.region [.m 32 2, .o 33 (.q 119 [32]), .m 9 33]) (.seq (.seq (.region [.o 10 (.mv (.const (.bool true)))]) (.block 0 [7,9] (.loop [1,7,9,10] c45L2))) (.seq (.seq (.region [.m 79 9, .o 80 (.n 79), .k 81 0]) (.block 6 [7,9] (.loop [7,9,79,80,81] c45L3))) (.seq (.region [.m 93 9, .m 94 7, .m 6 93, .m 7 94, .k 8 0]) .ret))))))))
def F45:AFun:=⟨c45,3,95,[(.tmp 6),(.tmp 7),(.tmp 8)]⟩
def K45:Nat→List Nat×List Nat
 |0=>([1,7,9,10],[7,9])
 |1=>([],[1,7,9,10])
 |2=>([1,7,9,10,11,37,38,39],[1,7,10,11])
 |3=>([],[1,7,9,10,11,37,38,39])
 |4=>([1,7,9,10,11,14,15,16,37,38,39,43,44,45],[1,7,9,10,11,14,15,16,37,38,39])
 |5=>([],[1,7,9,10,11,14,15,16,37,38,39,43,44,45])
 |6=>([7,9,79,80,81],[7,9])
 |7=>([],[7,9,79,80,81])
 |_=>([],[])
theorem F45_ok:kj8 Try.prog K45 Try.f45=some F45:=by kernel_rfl
/- 46: syndrome/syndromeref.In -/
def c46L0:ACode:=(.seq (.seq (.region [.m 6 5, .m 7 1, .o 8 (.n 7), .o 9 (.b .lss 6 8)]) (.cond (.tmp 9) .skip (.exit 0))) (.seq (.block 1 [0,1,5] (.seq (.region [.m 12 1, .m 13 5, .o 14 (.i 1 12 13), .o 15 (.l 14), .m 16 0, .o 17 (.b .eql 15 16)]) (.cond (.tmp 17) (.seq (.region [.o 4 (.mv (.const (.bool true)))]) .ret) .skip))) (.region [.m 10 5, .o 11 (.c .add 10 1), .m 5 11])))
def c46:ACode:=(.seq (.region [.o 4 (.mv (.const (.bool false)))]) (.seq (.seq (.region [.k 5 0]) (.block 0 [] (.loop [0,1,5] c46L0))) (.seq (.region [.o 4 (.mv (.const (.bool false)))]) .ret)))
def F46:AFun:=⟨c46,2,18,[(.tmp 4)]⟩
def K46:Nat→List Nat×List Nat
 |0=>([0,1,5],[])
 |1=>([],[0,1,5])
 |_=>([],[])
theorem F46_ok:kj8 Try.prog K46 Try.f46=some F46:=by kernel_rfl
/- 47: syndrome/syndromeref.Raw -/
def c47:ACode:=(.seq (.region [.k 4 0]) (.seq (.seq (.region [.m 5 0, .o 6 (.n 5), .o 7 (.c .eql 6 0)]) (.cond (.tmp 7) (.seq (.region [.m 8 1, .m 4 8]) .ret) .skip)) (.seq (.region [.m 9 0, .m 10 1, .m 11 0, .o 12 (.n 11), .o 13 (.b .rem 10 12), .o 14 (.i 1 9 13), .o 15 (.l 14), .m 16 1, .m 17 0, .o 18 (.n 17), .o 19 (.b .quo 16 18), .o 20 (.c .mul 19 7919), .o 21 (.b .add 15 20), .m 4 21]) .ret)))
def F47:AFun:=⟨c47,2,22,[(.tmp 4)]⟩
def K47:Nat→List Nat×List Nat
 |_=>([],[])
theorem F47_ok:kj8 Try.prog K47 Try.f47=some F47:=by kernel_rfl
/- 48: syndrome/sparse.Stops -/
def c48L0:ACode:=(.seq (.region [.o 32 (.b .lss 31 30)]) (.seq (.cond (.tmp 32) .skip (.exit 2)) (.seq (.block 3 [2,11,23,24,25,29,30,31] (.seq (.region [.o 33 (.i 1 29 31), .o 34 (.l 33), .m 13 34]) (.seq (.region [.m 35 2, .m 36 13, .o 37 (.q 86 [35,36])]) (.cond (.tmp 37) (.region [.m 38 11, .o 39 (.c .add 38 1), .m 11 39]) .skip)))) (.region [.o 40 (.c .add 31 1), .m 31 40]))))
def c48L1:ACode:=(.seq (.region [.o 26 (.b .lss 25 24)]) (.seq (.cond (.tmp 26) .skip (.exit 0)) (.seq (.block 1 [2,23,24,25] (.seq (.region [.o 27 (.i 1 23 25), .o 28 (.l 27), .m 10 28]) (.seq (.region [.k 11 0]) (.seq (.seq (.region [.m 29 10, .o 30 (.n 29), .k 31 0]) (.block 2 [2,11,23,24,25] (.loop [2,11,23,24,25,29,30,31] c48L0))) (.seq (.region [.m 41 11, .o 42 (.c .eql 41 1)]) (.cond (.tmp 42) (.seq (.region [.o 6 (.mv (.const (.bool false))), .k 7 0]) .ret) .skip)))))) (.region [.o 43 (.c .add 25 1), .m 25 43]))))
def c48:ACode:=(.seq (.region [.o 3 (.box 3 1 (.tmp 0)), .o 6 (.mv (.const (.bool false))), .k 7 0]) (.seq (.seq (.region [.o 14 (.l 3), .m 15 1, .o 16 (.q 117 [14,15]), .m 8 16]) (.seq (.region [.m 17 8, .o 18 (.c .neq 17 0)]) (.cond (.tmp 18) (.seq (.region [.m 19 8, .o 6 (.mv (.const (.bool false))), .m 7 19]) .ret) .skip))) (.seq (.seq (.region [.m 20 2, .o 21 (.mkf 120 [(.tmp 3)]), .o 22 (.q 113 [20,21])]) (.cond (.tmp 22) (.seq (.region [.o 6 (.mv (.const (.bool false))), .k 7 10]) .ret) .skip)) (.seq (.seq (.region [.m 23 1, .o 24 (.n 23), .k 25 0]) (.block 0 [] (.loop [2,23,24,25] c48L1))) (.seq (.region [.o 6 (.mv (.const (.bool true))), .k 7 0]) .ret)))))
def F48:AFun:=⟨c48,3,44,[(.tmp 6),(.tmp 7)]⟩
def K48:Nat→List Nat×List Nat
 |0=>([2,23,24,25],[])
 |1=>([],[2,23,24,25])
 |2=>([2,11,23,24,25,29,30,31],[2,11,23,24,25])
 |3=>([],[2,11,23,24,25,29,30,31])
 |_=>([],[])
theorem F48_ok:kj8 Try.prog K48 Try.f48=some F48:=by kernel_rfl
/- 49: syndrome/sparse.Flip -/
def c49L0:ACode:=(.seq (.region [.o 63 (.b .lss 62 61)]) (.seq (.cond (.tmp 63) .skip (.exit 2)) (.seq (.block 3 [0,1,3,8,10,14,60,61,62] (.seq (.region [.m 64 62, .o 65 (.i 1 60 62), .o 66 (.l 65), .m 15 64, .m 16 66]) (.seq (.region [.m 67 16, .m 68 14, .o 69 (.b .eql 67 68), .m 70 69, .g 71 (.m 14) 70 true, .g 72 (.c .gtr 71 0) 70 true, .o 73 (.pick (.tmp 70) (.tmp 72) (.const (.bool false)))]) (.cond (.tmp 73) (.region [.m 74 8, .m 75 15, .o 76 (.i 1 74 75), .o 77 (.l 76), .o 78 (.c .xor 77 1), .o 79 (.i 1 74 75), .n (.st 1 (.tmp 79) (.tmp 78))]) .skip)))) (.region [.o 80 (.c .add 62 1), .m 62 80]))))
def c49L1:ACode:=(.block 1 [0,1,3,8,10] (.seq (.region [.m 41 0, .m 42 1, .m 43 8, .o 44 (.q 121 [41,42,43]), .m 40 44, .o 45 (.e 0 40), .o 46 (.e 1 40), .m 12 45, .m 13 46]) (.seq (.seq (.region [.m 47 13, .o 48 (.c .eql 47 0), .m 49 48, .g 50 (.m 10) 49 false, .g 51 (.m 3) 49 false, .g 52 (.b .eql 50 51) 49 false, .o 53 (.pick (.tmp 49) (.const (.bool true)) (.tmp 52))]) (.cond (.tmp 53) (.seq (.region [.m 54 8, .m 55 13, .o 56 (.c .eql 55 0), .m 57 10, .m 8 54, .m 9 56, .m 10 57, .k 11 0]) .ret) .skip)) (.seq (.region [.m 58 12, .o 59 (.q 122 [58]), .m 14 59]) (.seq (.seq (.region [.m 60 12, .o 61 (.n 60), .k 62 0]) (.block 2 [0,1,3,8,10] (.loop [0,1,3,8,10,14,60,61,62] c49L0))) (.region [.m 81 10, .o 82 (.c .add 81 1), .m 10 82]))))))
def c49:ACode:=(.seq (.region [.o 8 (.mv (.const (.slice none 0 0))), .o 9 (.mv (.const (.bool false))), .k 10 0, .k 11 0]) (.seq (.region [.m 17 0, .m 18 1, .o 19 (.q 117 [17,18]), .m 11 19]) (.seq (.seq (.region [.m 20 11, .o 21 (.c .eql 20 0)]) (.cond (.tmp 21) (.region [.m 22 0, .m 23 2, .o 24 (.call 118 [(.tmp 22),(.tmp 23),(.const (.int .i64 0))]), .m 11 24]) .skip)) (.seq (.seq (.region [.m 25 11, .o 26 (.c .eql 25 0), .m 27 26, .g 28 (.m 3) 27 true, .g 29 (.c .lss 28 0) 27 true, .g 30 (.m 29) 27 true, .g 31 (.m 3) 30 false, .g 32 (.c .gtr 31 100) 30 false, .g 33 (.pick (.tmp 30) (.const (.bool true)) (.tmp 32)) 27 true, .o 34 (.pick (.tmp 27) (.tmp 33) (.const (.bool false)))]) (.cond (.tmp 34) (.region [.k 11 6]) .skip)) (.seq (.seq (.region [.m 35 11, .o 36 (.c .neq 35 0)]) (.cond (.tmp 36) (.seq (.region [.m 37 11, .o 8 (.mv (.const (.slice none 0 0))), .o 9 (.mv (.const (.bool false))), .k 10 0, .m 11 37]) .ret) .skip)) (.seq (.region [.m 38 2, .o 39 (.q 119 [38]), .m 8 39]) (.block 0 [] (.loop [0,1,3,8,10] c49L1))))))))
def F49:AFun:=⟨c49,4,83,[(.tmp 8),(.tmp 9),(.tmp 10),(.tmp 11)]⟩
def K49:Nat→List Nat×List Nat
 |0=>([0,1,3,8,10],[])
 |1=>([],[0,1,3,8,10])
 |2=>([0,1,3,8,10,14,60,61,62],[0,1,3,8,10])
 |3=>([],[0,1,3,8,10,14,60,61,62])
 |_=>([],[])
theorem F49_ok:kj8 Try.prog K49 Try.f49=some F49:=by kernel_rfl
/- 76: syndrome/field.New -/
def zk5:List Value:=[(.int .u32 0),(.int .i32 0),(.int .u32 0),(.int .u32 0),(.int .i32 0),(.int .u32 0),(.int .u32 0),(.int .i32 0),(.int .u32 0),(.int .u32 0),(.int .i32 0),(.int .u32 0),(.int .u32 0),(.int .i32 0),(.int .u32 0),(.int .u32 0),(.int .i32 0),(.int .u32 0),(.int .u32 0),(.int .i32 0),(.int .u32 0),(.int .u32 0),(.int .i32 0),(.int .u32 0),(.int .u32 0),(.int .i32 0),(.int .u32 0),(.int .u32 0),(.int .i32 0),(.int .u32 0),(.int .u32 0),(.int .i32 0),(.int .u32 0),(.int .u32 0),(.int .i32 0),(.int .u32 0),(.int .u32 0),(.int .i32 0),(.int .u32 0),(.int .u32 0),(.int .i32 0),(.int .u32 0),(.int .u32 0),(.int .i32 0),(.int .u32 0),(.int .u32 0),(.int .i32 0),(.int .u32 0),(.int .u32 0),(.int .i32 0),(.int .u32 0),(.int .u32 0),(.int .i32 0),(.int .u32 0),(.int .u32 0),(.int .i32 0),(.int .u32 0),(.int .u32 0),(.int .i32 0),(.int .u32 0),(.int .u32 0),(.int .i32 0),(.int .u32 0),(.int .u32 0),(.int .i32 0),(.int .u32 0),(.int .u32 0),(.int .i32 0),(.int .u32 0),(.int .u32 0),(.int .i32 0),(.int .u32 0),(.int .u32 0),(.int .i32 0),(.int .u32 0),(.int .u32 0),(.int .i32 0),(.int .u32 0),(.int .u32 0),(.int .i32 0),(.int .u32 0),(.int .u32 0),(.int .i32 0),(.int .u32 0),(.int .u32 0),(.int .i32 0),(.int .u32 0),(.int .u32 0),(.int .i32 0),(.int .u32 0),(.int .u32 0),(.int .i32 0),(.int .u32 0),(.int .u32 0),(.int .i32 0),(.int .u32 0),(.int .u32 0),(.int .i32 0),(.int .u32 0),(.int .u32 0),(.int .i32 0),(.int .u32 0),(.int .u32 0),(.int .i32 0),(.int .u32 0),(.int .u32 0),(.int .i32 0),(.int .u32 0),(.int .u32 0),(.int .i32 0),(.int .u32 0),(.int .u32 0),(.int .i32 0),(.int .u32 0),(.int .u32 0),(.int .i32 0),(.int .u32 0),(.int .u32 0),(.int .i32 0),(.int .u32 0),(.int .u32 0),(.int .i32 0),(.int .u32 0),(.int .u32 0),(.int .i32 0),(.int .u32 0),(.int .u32 0),(.int .i32 0),(.int .u32 0),(.int .u32 0),(.int .i32 0),(.int .u32 0),(.int .u32 0),(.int .i32 0),(.int .u32 0),(.int .u32 0),(.int .i32 0),(.int .u32 0),(.int .u32 0),(.int .i32 0),(.int .u32 0),(.int .u32 0),(.int .i32 0),(.int .u32 0),(.int .u32 0),(.int .i32 0),(.int .u32 0),(.int .u32 0),(.int .i32 0),(.int .u32 0),(.int .u32 0),(.int .i32 0),(.int .u32 0),(.int .u32 0),(.int .i32 0),(.int .u32 0),(.int .u32 0),(.int .i32 0),(.int .u32 0),(.int .u32 0),(.int .i32 0),(.int .u32 0),(.int .u32 0),(.int .i32 0),(.int .u32 0),(.int .u32 0),(.int .i32 0),(.int .u32 0),(.int .u32 0),(.int .i32 0),(.int .u32 0),(.int .u32 0),(.int .i32 0),(.int .u32 0),(.int .u32 0),(.int .i32 0),(.int .u32 0),(.int .u32 0),(.int .i32 0),(.int .u32 0),(.int .u32 0),(.int .i32 0),(.int .u32 0),(.int .u32 0),(.int .i32 0),(.int .u32 0),(.int .u32 0),(.int .i32 0),(.int .u32 0),(.int .u32 0),(.int .i32 0),(.int .u32 0),(.int .u32 0),(.int .i32 0),(.int .u32 0),(.pointer none),(.pointer none),(.pointer none),(.pointer none),(.pointer none),(.pointer none),(.pointer none),(.pointer none),(.pointer none),(.pointer none),(.pointer none),(.pointer none),(.pointer none),(.pointer none),(.pointer none),(.pointer none),(.pointer none),(.pointer none),(.pointer none),(.pointer none),(.pointer none),(.pointer none),(.pointer none),(.pointer none),(.pointer none),(.pointer none),(.pointer none),(.pointer none),(.pointer none),(.pointer none),(.pointer none),(.pointer none),(.pointer none),(.pointer none),(.pointer none),(.pointer none),(.pointer none),(.pointer none),(.pointer none),(.pointer none),(.pointer none),(.pointer none),(.pointer none),(.pointer none),(.pointer none),(.pointer none),(.pointer none),(.pointer none),(.pointer none),(.pointer none),(.pointer none),(.pointer none),(.pointer none),(.pointer none),(.pointer none),(.pointer none),(.pointer none),(.pointer none),(.pointer none),(.pointer none),(.pointer none),(.pointer none),(.pointer none),(.pointer none),(.pointer none)]
def c76:ACode:=(.seq (.region [.o 1 (.box 3 1 (.tmp 0)), .o 2 (.mv (.const (.pointer none))), .k 3 0]) (.seq (.seq (.region [.o 5 (.l 1), .o 6 (.c .lss 5 2), .m 7 6, .g 8 (.l 1) 7 false, .g 9 (.c .gtr 8 64) 7 false, .o 10 (.pick (.tmp 7) (.const (.bool true)) (.tmp 9))]) (.cond (.tmp 10) (.seq (.region [.o 2 (.mv (.const (.pointer none))), .k 3 1]) .ret) .skip)) (.seq (.region [.o 4 (.alloc 169 zk5)]) (.seq (.region [.o 11 (.l 1), .o 12 (.f 0 4), .o 13 (.iaddrA 65 3 (.tmp 12) (.tmp 11)), .o 14 (.mkf 159 [(.tmp 1),(.tmp 4)]), .o 15 (.q 158 [13,14])]) (.seq (.seq (.region [.o 16 (.l 1), .o 17 (.f 195 4), .o 18 (.iaddrA 65 1 (.tmp 17) (.tmp 16)), .o 19 (.l 18), .o 20 (.eqn false 1 (.tmp 19))]) (.cond (.tmp 20) (.seq (.region [.o 2 (.mv (.const (.pointer none))), .k 3 1]) .ret) .skip)) (.seq (.region [.o 21 (.l 1), .o 22 (.f 195 4), .o 23 (.iaddrA 65 1 (.tmp 22) (.tmp 21)), .o 24 (.l 23), .m 2 24, .k 3 0]) .ret))))))
def F76:AFun:=⟨c76,1,25,[(.tmp 2),(.tmp 3)]⟩
def K76:Nat→List Nat×List Nat
 |_=>([],[])
theorem F76_ok:kj8 Try.prog K76 Try.f76=some F76:=by kernel_rfl
/- 83: (*syndrome/field.Field).Add -/
def c83L0:ACode:=(.seq (.region [.o 24 (.b .lss 23 22)]) (.seq (.cond (.tmp 24) .skip (.exit 0)) (.seq (.block 1 [0,1,2,7,8,22,23] (.seq (.region [.m 25 7, .m 26 1, .m 27 0, .o 28 (.nilck (.tmp 27)), .o 29 (.f 1 28), .o 30 (.l 29), .o 31 (.b .rem 26 30), .m 32 2, .m 33 0, .o 34 (.nilck (.tmp 33)), .o 35 (.f 1 34), .o 36 (.l 35), .o 37 (.b .rem 32 36), .o 38 (.b .add 31 37), .m 39 0, .o 40 (.nilck (.tmp 39)), .o 41 (.f 1 40), .o 42 (.l 41), .o 43 (.b .rem 38 42), .m 44 8, .o 45 (.b .mul 43 44), .o 46 (.b .add 25 45), .m 7 46]) (.region [.m 47 1, .m 48 0, .o 49 (.nilck (.tmp 48)), .o 50 (.f 1 49), .o 51 (.l 50), .o 52 (.b .quo 47 51), .m 53 2, .m 54 0, .o 55 (.nilck (.tmp 54)), .o 56 (.f 1 55), .o 57 (.l 56), .o 58 (.b .quo 53 57), .m 59 8, .m 60 0, .o 61 (.nilck (.tmp 60)), .o 62 (.f 1 61), .o 63 (.l 62), .o 64 (.b .mul 59 63), .m 1 52, .m 2 58, .m 8 64]))) (.region [.o 65 (.c .add 23 1), .m 23 65]))))
def c83:ACode:=(.seq (.region [.k 6 0]) (.seq (.seq (.region [.m 9 0, .m 10 1, .o 11 (.q 115 [9,10]), .o 12 (.un .not (.tmp 11)), .m 13 12, .g 14 (.m 0) 13 false, .g 15 (.m 2) 13 false, .g 16 (.q 115 [14,15]) 13 false, .g 17 (.un .not (.tmp 16)) 13 false, .o 18 (.pick (.tmp 13) (.const (.bool true)) (.tmp 17))]) (.cond (.tmp 18) (.seq (.region [.k 6 (-1)]) .ret) .skip)) (.seq (.region [.k 7 0, .k 8 1]) (.seq (.seq (.region [.m 19 0, .o 20 (.nilck (.tmp 19)), .o 21 (.f 2 20), .o 22 (.l 21), .k 23 0]) (.block 0 [7] (.loop [0,1,2,7,8,22,23] c83L0))) (.seq (.region [.m 66 7, .m 6 66]) .ret)))))
def F83:AFun:=⟨c83,3,67,[(.tmp 6)]⟩
def K83:Nat→List Nat×List Nat
 |0=>([0,1,2,7,8,22,23],[7])
 |1=>([],[0,1,2,7,8,22,23])
 |_=>([],[])
theorem F83_ok:kj8 Try.prog K83 Try.f83=some F83:=by kernel_rfl
/- 85: (*syndrome/field.Field).Mul -/
def c85:ACode:=(.seq (.region [.k 6 0]) (.seq (.seq (.region [.m 7 0, .m 8 1, .o 9 (.q 115 [7,8]), .o 10 (.un .not (.tmp 9)), .m 11 10, .g 12 (.m 0) 11 false, .g 13 (.m 2) 11 false, .g 14 (.q 115 [12,13]) 11 false, .g 15 (.un .not (.tmp 14)) 11 false, .o 16 (.pick (.tmp 11) (.const (.bool true)) (.tmp 15))]) (.cond (.tmp 16) (.seq (.region [.k 6 (-1)]) .ret) .skip)) (.seq (.seq (.region [.m 17 1, .o 18 (.c .eql 17 0), .m 19 18, .g 20 (.m 2) 19 false, .g 21 (.c .eql 20 0) 19 false, .o 22 (.pick (.tmp 19) (.const (.bool true)) (.tmp 21))]) (.cond (.tmp 22) (.seq (.region [.k 6 0]) .ret) .skip)) (.seq (.region [.m 23 0, .o 24 (.nilck (.tmp 23)), .o 25 (.f 5 24), .o 26 (.l 25), .m 27 0, .o 28 (.nilck (.tmp 27)), .o 29 (.f 6 28), .o 30 (.l 29), .m 31 1, .o 32 (.i 1 30 31), .o 33 (.l 32), .m 34 0, .o 35 (.nilck (.tmp 34)), .o 36 (.f 6 35), .o 37 (.l 36), .m 38 2, .o 39 (.i 1 37 38), .o 40 (.l 39), .o 41 (.b .add 33 40), .m 42 0, .o 43 (.nilck (.tmp 42)), .o 44 (.f 0 43), .o 45 (.l 44), .o 46 (.c .sub 45 1), .o 47 (.b .rem 41 46), .o 48 (.i 1 26 47), .o 49 (.l 48), .m 6 49]) .ret))))
def F85:AFun:=⟨c85,3,50,[(.tmp 6)]⟩
def K85:Nat→List Nat×List Nat
 |_=>([],[])
theorem F85_ok:kj8 Try.prog K85 Try.f85=some F85:=by kernel_rfl
/- 86: slices.Contains[[]int,int] -/
def c86:ACode:=(.seq (.region [.o 4 (.mv (.const (.bool false)))]) (.seq (.region [.m 5 0, .m 6 1, .o 7 (.q 168 [5,6]), .o 8 (.c .geq 7 0), .m 4 8]) .ret))
def F86:AFun:=⟨c86,2,9,[(.tmp 4)]⟩
def K86:Nat→List Nat×List Nat
 |_=>([],[])
theorem F86_ok:kj8 Try.prog K86 Try.f86=some F86:=by kernel_rfl
/- 111: syndrome/code.Make -/
def c111:ACode:=(.seq (.region [.o 1 (.box 42 3 (.tmp 0)), .o 2 (.alloc 42 [(.int .i64 0),(.int .i64 0),(.slice none 0 0)]), .k 3 0]) (.seq (.seq (.region [.o 8 (.ld true 3 (.tmp 1)), .o 9 (.q 184 [8]), .m 4 9]) (.seq (.region [.m 10 4, .o 11 (.c .neq 10 0)]) (.cond (.tmp 11) (.seq (.region [.o 12 (.build [(.int .i64 0),(.int .i64 0),(.slice none 0 0)] [(0,1),(1,1),(2,1)] []), .m 13 4, .n (.st 3 (.tmp 2) (.tmp 12)), .m 3 13]) .ret) .skip))) (.seq (.region [.o 15 (.f 0 1), .o 16 (.l 15), .o 17 (.f 2 1), .o 18 (.l 17), .o 19 (.q 151 [16,18]), .m 14 19, .o 20 (.e 0 14), .o 21 (.e 1 14), .o 22 (.e 2 14), .m 5 20, .m 6 21, .m 7 22]) (.seq (.region [.o 23 (.f 0 1), .o 24 (.l 23), .o 25 (.f 1 1), .o 26 (.l 25), .m 27 5, .o 28 (.build [(.int .i64 0),(.int .i64 0),(.slice none 0 0)] [(0,1),(1,1),(2,1)] [(0,(.tmp 24)),(1,(.tmp 26)),(2,(.tmp 27))]), .n (.st 3 (.tmp 2) (.tmp 28)), .k 3 0]) .ret))))
def F111:AFun:=⟨c111,1,29,[(.cell 2 true 3),(.tmp 3)]⟩
def K111:Nat→List Nat×List Nat
 |_=>([],[])
theorem F111_ok:kj8 Try.prog K111 Try.f111=some F111:=by kernel_rfl
/- 112: syndrome/matrix.Null -/
def c112L0:ACode:=(.seq (.region [.o 57 (.b .lss 56 55)]) (.seq (.cond (.tmp 57) .skip (.exit 2)) (.seq (.block 3 [0,1,6,7,9,11,12,13,39,40,54,55,56] (.seq (.region [.m 58 56, .o 59 (.i 1 54 56), .o 60 (.l 59), .m 14 58, .m 15 60]) (.region [.m 61 13, .m 62 15, .m 63 9, .m 64 6, .m 65 14, .o 66 (.i 1 64 65), .o 67 (.l 66), .m 68 12, .o 69 (.i 1 67 68), .o 70 (.l 69), .o 71 (.q 185 [63,70]), .o 72 (.i 1 61 62), .n (.st 1 (.tmp 72) (.tmp 71))]))) (.region [.o 73 (.c .add 56 1), .m 56 73]))))
def c112L1:ACode:=(.seq (.region [.o 41 (.b .lss 40 39)]) (.seq (.cond (.tmp 41) .skip (.exit 0)) (.seq (.block 1 [0,1,6,7,9,11,39,40] (.seq (.region [.m 42 40, .m 12 42]) (.seq (.seq (.region [.m 43 7, .m 44 12, .o 45 (.q 86 [43,44])]) (.cond (.tmp 45) (.exit 1) .skip)) (.seq (.region [.m 46 1, .o 47 (.iaddr 1 (.tmp 46) (.const (.int .i64 0))), .o 48 (.l 47), .o 49 (.n 48), .o 50 (.mks 3 1 8 [(.int .i64 0)] (.tmp 49) (.tmp 49)), .m 13 50]) (.seq (.region [.m 51 13, .m 52 12, .o 53 (.i 1 51 52), .n (.st 1 (.tmp 53) (.const (.int .i64 1)))]) (.seq (.seq (.region [.m 54 7, .o 55 (.n 54), .k 56 0]) (.block 2 [0,1,6,7,9,11,13,39,40] (.loop [0,1,6,7,9,11,12,13,39,40,54,55,56] c112L0))) (.region [.m 74 11, .m 75 13, .o 76 (.mkSl 22 1 1 [(.tmp 75)]), .o 77 (.app 22 1 24 (.tmp 74) (.tmp 76)), .m 11 77]))))))) (.region [.o 78 (.c .add 40 1), .m 40 78]))))
def c112:ACode:=(.seq (.region [.o 4 (.mv (.const (.slice none 0 0))), .k 5 0]) (.seq (.region [.m 17 0, .m 18 1, .o 19 (.q 151 [17,18]), .m 16 19, .o 20 (.e 0 16), .o 21 (.e 1 16), .o 22 (.e 2 16), .m 6 20, .m 7 21, .m 8 22]) (.seq (.seq (.region [.m 23 8, .o 24 (.c .neq 23 0), .m 25 24, .g 26 (.m 1) 25 false, .g 27 (.n 26) 25 false, .g 28 (.c .eql 27 0) 25 false, .o 29 (.pick (.tmp 25) (.const (.bool true)) (.tmp 28))]) (.cond (.tmp 29) (.seq (.region [.m 30 8, .o 4 (.mv (.const (.slice none 0 0))), .m 5 30]) .ret) .skip)) (.seq (.region [.m 32 0, .o 33 (.q 76 [32]), .m 31 33, .o 34 (.e 0 31), .o 35 (.e 1 31), .m 9 34, .m 10 35]) (.seq (.region [.o 11 (.mv (.const (.slice none 0 0)))]) (.seq (.seq (.region [.m 36 1, .o 37 (.iaddr 1 (.tmp 36) (.const (.int .i64 0))), .o 38 (.l 37), .o 39 (.n 38), .k 40 0]) (.block 0 [0,11] (.loop [0,1,6,7,9,11,39,40] c112L1))) (.seq (.region [.m 80 0, .m 81 11, .o 82 (.q 151 [80,81]), .m 79 82, .o 83 (.e 0 79), .o 84 (.e 1 79), .o 85 (.e 2 79), .m 11 83]) (.seq (.region [.m 86 11, .m 4 86, .k 5 0]) .ret))))))))
def F112:AFun:=⟨c112,2,87,[(.tmp 4),(.tmp 5)]⟩
def K112:Nat→List Nat×List Nat
 |0=>([0,1,6,7,9,11,39,40],[0,11])
 |1=>([],[0,1,6,7,9,11,39,40])
 |2=>([0,1,6,7,9,11,12,13,39,40,54,55,56],[0,1,6,7,9,11,13,39,40])
 |3=>([],[0,1,6,7,9,11,12,13,39,40,54,55,56])
 |_=>([],[])
theorem F112_ok:kj8 Try.prog K112 Try.f112=some F112:=by kernel_rfl
/- 113: slices.ContainsFunc[[]int,int] -/
def c113:ACode:=(.seq (.region [.o 4 (.mv (.const (.bool false)))]) (.seq (.region [.m 5 0, .m 6 1, .o 7 (.q 186 [5,6]), .o 8 (.c .geq 7 0), .m 4 8]) .ret))
def F113:AFun:=⟨c113,2,9,[(.tmp 4)]⟩
def K113:Nat→List Nat×List Nat
 |_=>([],[])
theorem F113_ok:kj8 Try.prog K113 Try.f113=some F113:=by kernel_rfl
/- 114: syndrome/code.Encode$1 -/
def c114:ACode:=(.seq (.region [.o 3 (.mv (.const (.bool false)))]) (.seq (.region [.o 4 (.l 1), .m 5 0, .o 6 (.q 115 [4,5]), .o 7 (.un .not (.tmp 6)), .m 3 7]) .ret))
def F114:AFun:=⟨c114,2,8,[(.tmp 3)]⟩
def K114:Nat→List Nat×List Nat
 |_=>([],[])
theorem F114_ok:kj8 Try.prog K114 Try.f114=some F114:=by kernel_rfl
/- 115: (*syndrome/field.Field).Has -/
def c115:ACode:=(.seq (.region [.o 4 (.mv (.const (.bool false)))]) (.seq (.region [.m 5 1, .o 6 (.c .geq 5 0), .m 7 6, .g 8 (.m 1) 7 true, .g 9 (.m 0) 7 true, .g 10 (.nilck (.tmp 9)) 7 true, .g 11 (.f 0 10) 7 true, .g 12 (.l 11) 7 true, .g 13 (.b .lss 8 12) 7 true, .o 14 (.pick (.tmp 7) (.tmp 13) (.const (.bool false))), .m 4 14]) .ret))
def F115:AFun:=⟨c115,2,15,[(.tmp 4)]⟩
def K115:Nat→List Nat×List Nat
 |_=>([],[])
theorem F115_ok:kj8 Try.prog K115 Try.f115=some F115:=by kernel_rfl
/- 116: syndrome/code.encode -/
def c116L0:ACode:=(.seq (.region [.o 29 (.b .lss 28 27)]) (.seq (.cond (.tmp 29) .skip (.exit 2)) (.seq (.block 3 [0,4,7,9,15,16,17,26,27,28] (.seq (.region [.m 30 28, .o 31 (.i 1 26 28), .o 32 (.l 31), .m 10 30, .m 11 32]) (.region [.m 33 7, .m 34 10, .m 35 0, .m 36 7, .m 37 10, .o 38 (.i 1 36 37), .o 39 (.l 38), .m 40 0, .m 41 9, .m 42 11,⟨(some 43),(.call 85 [(.tmp 40),(.tmp 41),(.tmp 42)]),none,true⟩, .o 44 (.q 83 [35,39,43]), .o 45 (.i 1 33 34), .n (.st 1 (.tmp 45) (.tmp 44))]))) (.region [.o 46 (.c .add 28 1), .m 28 46]))))
def c116L1:ACode:=(.seq (.region [.o 18 (.b .lss 17 16)]) (.seq (.cond (.tmp 18) .skip (.exit 0)) (.seq (.block 1 [0,4,7,15,16,17] (.seq (.region [.m 19 17, .o 20 (.i 1 15 17), .o 21 (.l 20), .m 8 19, .m 9 21]) (.seq (.region [.o 22 (.f 2 4), .o 23 (.l 22), .m 24 8, .o 25 (.i 1 23 24), .o 26 (.l 25), .o 27 (.n 26), .k 28 0]) (.block 2 [0,4,7,15,16,17] (.loop [0,4,7,9,15,16,17,26,27,28] c116L0))))) (.region [.o 47 (.c .add 17 1), .m 17 47]))))
def c116:ACode:=(.seq (.region [.o 4 (.box 42 3 (.tmp 1)), .o 6 (.mv (.const (.slice none 0 0)))]) (.seq (.region [.o 12 (.f 1 4), .o 13 (.l 12), .o 14 (.mks 3 1 8 [(.int .i64 0)] (.tmp 13) (.tmp 13)), .m 7 14]) (.seq (.seq (.region [.m 15 2, .o 16 (.n 15), .k 17 0]) (.block 0 [7] (.loop [0,4,7,15,16,17] c116L1))) (.seq (.region [.m 48 7, .m 6 48]) .ret))))
def F116:AFun:=⟨c116,3,49,[(.tmp 6)]⟩
def K116:Nat→List Nat×List Nat
 |0=>([0,4,7,15,16,17],[7])
 |1=>([],[0,4,7,15,16,17])
 |2=>([0,4,7,9,15,16,17,26,27,28],[0,4,7,15,16,17])
 |3=>([],[0,4,7,9,15,16,17,26,27,28])
 |_=>([],[])
theorem F116_ok:kj8 Try.prog K116 Try.f116=some F116:=by kernel_rfl
/- 117: syndrome/sparse.Check -/
def c117L0:ACode:=(.seq (.region [.o 29 (.b .lss 28 27)]) (.seq (.cond (.tmp 29) .skip (.exit 2)) (.seq (.block 3 [0,6,20,21,22,26,27,28] (.seq (.region [.m 30 28, .o 31 (.i 1 26 28), .o 32 (.l 31), .m 7 30, .m 8 32]) (.seq (.seq (.region [.m 33 8, .o 34 (.c .lss 33 0), .m 35 34, .g 36 (.m 8) 35 false, .g 37 (.m 0) 35 false, .g 38 (.b .geq 36 37) 35 false, .o 39 (.pick (.tmp 35) (.const (.bool true)) (.tmp 38))]) (.cond (.tmp 39) (.seq (.region [.k 4 10]) .ret) .skip)) (.seq (.region [.m 40 7, .o 41 (.c .gtr 40 0), .m 42 41, .g 43 (.m 8) 42 true, .g 44 (.m 6) 42 true, .g 45 (.m 7) 42 true, .g 46 (.c .sub 45 1) 42 true, .g 47 (.i 1 44 46) 42 true, .g 48 (.l 47) 42 true, .g 49 (.b .leq 43 48) 42 true, .o 50 (.pick (.tmp 42) (.tmp 49) (.const (.bool false)))]) (.cond (.tmp 50) (.seq (.region [.k 4 3]) .ret) .skip))))) (.region [.o 51 (.c .add 28 1), .m 28 51]))))
def c117L1:ACode:=(.seq (.region [.o 23 (.b .lss 22 21)]) (.seq (.cond (.tmp 23) .skip (.exit 0)) (.seq (.block 1 [0,20,21,22] (.seq (.region [.o 24 (.i 1 20 22), .o 25 (.l 24), .m 6 25]) (.seq (.region [.m 26 6, .o 27 (.n 26), .k 28 0]) (.block 2 [0,20,21,22] (.loop [0,6,20,21,22,26,27,28] c117L0))))) (.region [.o 52 (.c .add 22 1), .m 22 52]))))
def c117:ACode:=(.seq (.region [.k 4 0]) (.seq (.seq (.region [.m 9 0, .o 10 (.c .lss 9 1), .m 11 10, .g 12 (.m 0) 11 false, .g 13 (.c .gtr 12 64) 11 false, .o 14 (.pick (.tmp 11) (.const (.bool true)) (.tmp 13)), .m 15 14, .g 16 (.m 1) 15 false, .g 17 (.n 16) 15 false, .g 18 (.c .gtr 17 64) 15 false, .o 19 (.pick (.tmp 15) (.const (.bool true)) (.tmp 18))]) (.cond (.tmp 19) (.seq (.region [.k 4 4]) .ret) .skip)) (.seq (.seq (.region [.m 20 1, .o 21 (.n 20), .k 22 0]) (.block 0 [] (.loop [0,20,21,22] c117L1))) (.seq (.region [.k 4 0]) .ret))))
def F117:AFun:=⟨c117,2,53,[(.tmp 4)]⟩
def K117:Nat→List Nat×List Nat
 |0=>([0,20,21,22],[])
 |1=>([],[0,20,21,22])
 |2=>([0,6,20,21,22,26,27,28],[0,20,21,22])
 |3=>([],[0,6,20,21,22,26,27,28])
 |_=>([],[])
theorem F117_ok:kj8 Try.prog K117 Try.f117=some F117:=by kernel_rfl
/- 118: syndrome/sparse.word -/
def c118:ACode:=(.seq (.region [.o 5 (.box 3 1 (.tmp 2)), .k 6 0]) (.seq (.seq (.region [.m 7 1, .o 8 (.n 7), .m 9 0, .o 10 (.b .neq 8 9)]) (.cond (.tmp 10) (.seq (.region [.k 6 6]) .ret) .skip)) (.seq (.seq (.region [.m 11 1, .o 12 (.mkf 187 [(.tmp 5)]), .o 13 (.q 113 [11,12])]) (.cond (.tmp 13) (.seq (.region [.k 6 2]) .ret) .skip)) (.seq (.region [.k 6 0]) .ret))))
def F118:AFun:=⟨c118,3,14,[(.tmp 6)]⟩
def K118:Nat→List Nat×List Nat
 |_=>([],[])
theorem F118_ok:kj8 Try.prog K118 Try.f118=some F118:=by kernel_rfl
/- 119: slices.Clone[[]int,int] -/
def c119:ACode:=(.seq (.region [.o 2 (.mv (.const (.slice none 0 0)))]) (.seq (.seq (.region [.m 3 0, .o 4 (.eqn false 0 (.tmp 3))]) (.cond (.tmp 4) (.seq (.region [.o 2 (.mv (.const (.slice none 0 0)))]) .ret) .skip)) (.seq (.region [.o 5 (.mkSl 3 1 0 []), .m 6 0, .o 7 (.app 3 1 8 (.tmp 5) (.tmp 6)), .m 2 7]) .ret)))
def F119:AFun:=⟨c119,1,8,[(.tmp 2)]⟩
def K119:Nat→List Nat×List Nat
 |_=>([],[])
theorem F119_ok:kj8 Try.prog K119 Try.f119=some F119:=by kernel_rfl
/- 120: syndrome/sparse.Stops$1 -/
def c120:ACode:=(.seq (.region [.o 3 (.mv (.const (.bool false)))]) (.seq (.region [.m 4 0, .o 5 (.c .lss 4 0), .m 6 5, .g 7 (.m 0) 6 false, .g 8 (.l 1) 6 false, .g 9 (.b .geq 7 8) 6 false, .o 10 (.pick (.tmp 6) (.const (.bool true)) (.tmp 9)), .m 3 10]) .ret))
def F120:AFun:=⟨c120,2,11,[(.tmp 3)]⟩
def K120:Nat→List Nat×List Nat
 |_=>([],[])
theorem F120_ok:kj8 Try.prog K120 Try.f120=some F120:=by kernel_rfl
/- 121: syndrome/sparse.wrong -/
def c121L0:ACode:=(.seq (.region [.o 28 (.b .lss 27 26)]) (.seq (.cond (.tmp 28) .skip (.exit 2)) (.seq (.block 3 [2,8,9,11,12,19,20,21,25,26,27] (.seq (.region [.o 29 (.i 1 25 27), .o 30 (.l 29), .m 14 30]) (.region [.m 31 12, .m 32 2, .m 33 14, .o 34 (.i 1 32 33), .o 35 (.l 34), .o 36 (.b .xor 31 35), .m 12 36]))) (.region [.o 37 (.c .add 27 1), .m 27 37]))))
def c121L1:ACode:=(.seq (.region [.o 45 (.b .lss 44 43)]) (.seq (.cond (.tmp 45) .skip (.exit 4)) (.seq (.block 5 [2,8,9,19,20,21,42,43,44] (.seq (.region [.o 46 (.i 1 42 44), .o 47 (.l 46), .m 16 47]) (.region [.m 48 8, .m 49 16, .o 50 (.i 1 48 49), .o 51 (.l 50), .o 52 (.c .add 51 1), .o 53 (.i 1 48 49), .n (.st 1 (.tmp 53) (.tmp 52))]))) (.region [.o 54 (.c .add 44 1), .m 44 54]))))
def c121L2:ACode:=(.seq (.region [.o 22 (.b .lss 21 20)]) (.seq (.cond (.tmp 22) .skip (.exit 0)) (.seq (.block 1 [2,8,9,19,20,21] (.seq (.region [.o 23 (.i 1 19 21), .o 24 (.l 23), .m 11 24]) (.seq (.region [.k 12 0]) (.seq (.seq (.region [.m 25 11, .o 26 (.n 25), .k 27 0]) (.block 2 [2,8,9,11,12,19,20,21] (.loop [2,8,9,11,12,19,20,21,25,26,27] c121L0))) (.seq (.region [.m 38 12, .o 39 (.c .eql 38 1)]) (.cond (.tmp 39) (.seq (.region [.m 40 9, .o 41 (.c .add 40 1), .m 9 41]) (.seq (.region [.m 42 11, .o 43 (.n 42), .k 44 0]) (.block 4 [2,8,9,19,20,21] (.loop [2,8,9,19,20,21,42,43,44] c121L1)))) .skip)))))) (.region [.o 55 (.c .add 21 1), .m 21 55]))))
def c121:ACode:=(.seq (.region [.o 6 (.mv (.const (.slice none 0 0))), .k 7 0]) (.seq (.region [.m 17 0, .o 18 (.mks 3 1 8 [(.int .i64 0)] (.tmp 17) (.tmp 17)), .m 8 18, .k 9 0]) (.seq (.seq (.region [.m 19 1, .o 20 (.n 19), .k 21 0]) (.block 0 [8,9] (.loop [2,8,9,19,20,21] c121L2))) (.seq (.region [.m 56 8, .m 57 9, .m 6 56, .m 7 57]) .ret))))
def F121:AFun:=⟨c121,3,58,[(.tmp 6),(.tmp 7)]⟩
def K121:Nat→List Nat×List Nat
 |0=>([2,8,9,19,20,21],[8,9])
 |1=>([],[2,8,9,19,20,21])
 |2=>([2,8,9,11,12,19,20,21,25,26,27],[2,8,9,11,12,19,20,21])
 |3=>([],[2,8,9,11,12,19,20,21,25,26,27])
 |4=>([2,8,9,19,20,21,42,43,44],[2,8,9,19,20,21])
 |5=>([],[2,8,9,19,20,21,42,43,44])
 |_=>([],[])
theorem F121_ok:kj8 Try.prog K121 Try.f121=some F121:=by kernel_rfl
/- 151: syndrome/matrix.Reduce -/
def c151L0:ACode:=(.seq (.region [.o 92 (.b .lss 91 90)]) (.seq (.cond (.tmp 92) .skip (.exit 2)) (.seq (.block 3 [1,5,8,10,11,90,91] (.seq (.region [.m 93 91, .m 13 93]) (.seq (.region [.m 94 13, .m 95 11, .o 96 (.b .neq 94 95), .m 97 96, .g 98 (.m 1) 97 true, .g 99 (.m 13) 97 true, .g 100 (.i 1 98 99) 97 true, .g 101 (.l 100) 97 true, .g 102 (.l 10) 97 true, .g 103 (.i 1 101 102) 97 true, .g 104 (.l 103) 97 true, .g 105 (.c .neq 104 0) 97 true, .o 106 (.pick (.tmp 97) (.tmp 105) (.const (.bool false)))]) (.cond (.tmp 106) (.region [.m 107 8, .m 108 1, .m 109 13, .o 110 (.i 1 108 109), .o 111 (.l 110), .m 112 1, .m 113 11, .o 114 (.i 1 112 113), .o 115 (.l 114), .m 116 1, .m 117 13, .o 118 (.i 1 116 117), .o 119 (.l 118), .o 120 (.l 10), .o 121 (.i 1 119 120), .o 122 (.l 121), .o 123 (.q 199 [107,111,115,122])]) .skip)))) (.region [.o 124 (.c .add 91 1), .m 91 124]))))
def c151L1:ACode:=(.seq (.seq (.region [.o 32 (.l 10), .m 33 1, .o 34 (.iaddr 1 (.tmp 33) (.const (.int .i64 0))), .o 35 (.l 34), .o 36 (.n 35), .o 37 (.b .lss 32 36), .m 38 37, .g 39 (.m 5) 38 true, .g 40 (.n 39) 38 true, .g 41 (.m 1) 38 true, .g 42 (.n 41) 38 true, .g 43 (.b .lss 40 42) 38 true, .o 44 (.pick (.tmp 38) (.tmp 43) (.const (.bool false)))]) (.cond (.tmp 44) .skip (.exit 0))) (.seq (.block 1 [1,5,8,10] (.seq (.region [.m 47 5, .o 48 (.n 47), .m 11 48]) (.seq (.region [.m 49 1, .m 50 11, .o 51 (.sl 1 (.tmp 49) (some (.tmp 50)) none), .o 52 (.mkf 197 [(.tmp 10)]), .o 53 (.q 163 [51,52]), .m 12 53]) (.seq (.seq (.region [.m 54 12, .o 55 (.c .lss 54 0)]) (.cond (.tmp 55) (.exit 1) .skip)) (.seq (.region [.m 56 1, .m 57 11, .m 58 1, .m 59 11, .m 60 12, .o 61 (.b .add 59 60), .m 62 1, .m 63 11, .m 64 12, .o 65 (.b .add 63 64), .o 66 (.i 1 62 65), .o 67 (.l 66), .m 68 1, .m 69 11, .o 70 (.i 1 68 69), .o 71 (.l 70), .o 72 (.i 1 56 57), .n (.st 1 (.tmp 72) (.tmp 67)), .o 73 (.i 1 58 61), .n (.st 1 (.tmp 73) (.tmp 71))]) (.seq (.region [.m 74 8, .m 75 1, .m 76 11, .o 77 (.i 1 75 76), .o 78 (.l 77), .m 79 8, .m 80 1, .m 81 11, .o 82 (.i 1 80 81), .o 83 (.l 82), .o 84 (.l 10), .o 85 (.i 1 83 84), .o 86 (.l 85),⟨(some 87),(.call 165 [(.tmp 79),(.tmp 86)]),none,true⟩, .o 88 (.q 198 [74,78,87])]) (.seq (.seq (.region [.m 89 1, .o 90 (.n 89), .k 91 0]) (.block 2 [1,5,8,10] (.loop [1,5,8,10,11,90,91] c151L0))) (.region [.m 125 5, .o 126 (.l 10), .o 127 (.mkSl 3 1 1 [(.tmp 126)]), .o 128 (.app 3 1 8 (.tmp 125) (.tmp 127)), .m 5 128])))))))) (.seq (.seq (.region [.o 129 (.l 10)]) (.region [.o 10 (.alloc 3 [(.int .i64 0)]), .n (.st 1 (.tmp 10) (.tmp 129))])) (.region [.o 45 (.l 10), .o 46 (.c .add 45 1), .n (.st 1 (.tmp 10) (.tmp 46))]))))
def c151:ACode:=(.seq (.region [.o 4 (.mv (.const (.slice none 0 0))), .o 5 (.mv (.const (.slice none 0 0))), .k 6 0]) (.seq (.seq (.region [.m 14 0, .m 15 1, .o 16 (.q 162 [14,15]), .m 7 16]) (.seq (.region [.m 17 7, .o 18 (.c .neq 17 0), .m 19 18, .g 20 (.m 1) 19 false, .g 21 (.n 20) 19 false, .g 22 (.c .eql 21 0) 19 false, .o 23 (.pick (.tmp 19) (.const (.bool true)) (.tmp 22))]) (.cond (.tmp 23) (.seq (.region [.m 24 7, .o 4 (.mv (.const (.slice none 0 0))), .o 5 (.mv (.const (.slice none 0 0))), .m 6 24]) .ret) .skip))) (.seq (.region [.m 26 0, .o 27 (.q 76 [26]), .m 25 27, .o 28 (.e 0 25), .o 29 (.e 1 25), .m 8 28, .m 9 29]) (.seq (.region [.m 30 1, .o 31 (.q 196 [30]), .m 1 31]) (.seq (.seq (.region [.o 10 (.alloc 3 [(.int .i64 0)]), .n (.st 1 (.tmp 10) (.const (.int .i64 0)))]) (.block 0 [1,5] (.loop [1,5,8,10] c151L1))) (.seq (.region [.m 130 1, .m 131 5, .o 132 (.n 131), .m 133 5, .o 134 (.n 133), .o 135 (.sl3 (.tmp 130) (.tmp 132) (.tmp 134)), .m 136 5, .m 4 135, .m 5 136, .k 6 0]) .ret))))))
def F151:AFun:=⟨c151,2,137,[(.tmp 4),(.tmp 5),(.tmp 6)]⟩
def K151:Nat→List Nat×List Nat
 |0=>([1,5,8,10],[1,5])
 |1=>([],[1,5,8,10])
 |2=>([1,5,8,10,11,90,91],[1,5,8,10])
 |3=>([],[1,5,8,10,11,90,91])
 |_=>([],[])
theorem F151_ok:kj8 Try.prog K151 Try.f151=some F151:=by kernel_rfl
/- 159: syndrome/field.New$1 -/
def c159:ACode:=(.region [.o 2 (.l 0), .o 3 (.l 0),⟨(some 4),(.call 160 [(.tmp 3)]),none,true⟩, .o 5 (.f 195 1), .o 6 (.iaddrA 65 1 (.tmp 5) (.tmp 2)), .n (.st 1 (.tmp 6) (.tmp 4))])
def F159:AFun:=⟨c159,2,7,[]⟩
def K159:Nat→List Nat×List Nat
 |_=>([],[])
theorem F159_ok:kj8 Try.prog K159 Try.f159=some F159:=by kernel_rfl
/- 160: syndrome/field.build -/
def c160L0:ACode:=(.seq (.seq (.region [.m 28 5, .o 29 (.q 205 [28]), .o 30 (.un .not (.tmp 29))]) (.cond (.tmp 30) .skip (.exit 0))) (.seq (.block 1 [5] .skip) (.region [.m 31 5, .o 32 (.nilck (.tmp 31)), .o 33 (.f 4 32), .o 34 (.l 33), .o 35 (.c .add 34 1), .o 36 (.nilck (.tmp 31)), .o 37 (.f 4 36), .n (.st 1 (.tmp 37) (.tmp 35))])))
def c160L1:ACode:=(.seq (.region [.o 45 (.b .lss 44 43)]) (.seq (.cond (.tmp 45) .skip (.exit 2)) (.seq (.block 3 [3,4,5,43,44] (.seq (.region [.m 46 44, .m 6 46]) (.seq (.region [.m 47 5, .m 48 6, .m 49 3, .m 50 4, .o 51 (.q 206 [48,49,50]), .o 52 (.mkSl 3 1 1 [(.const (.int .i64 1))]), .o 53 (.app 3 1 8 (.tmp 51) (.tmp 52)), .o 54 (.nilck (.tmp 47)), .o 55 (.f 3 54), .n (.st 1 (.tmp 55) (.tmp 53))]) (.seq (.region [.m 56 5, .o 57 (.q 205 [56])]) (.cond (.tmp 57) (.seq (.region [.m 58 5, .m 2 58]) .ret) .skip))))) (.region [.o 59 (.c .add 44 1), .m 44 59]))))
def c160:ACode:=(.seq (.region [.o 2 (.mv (.const (.pointer none)))]) (.seq (.region [.m 8 0, .o 9 (.q 204 [8]), .m 7 9, .o 10 (.e 0 7), .o 11 (.e 1 7), .m 3 10, .m 4 11]) (.seq (.seq (.region [.m 12 3, .o 13 (.c .eql 12 0)]) (.cond (.tmp 13) (.seq (.region [.o 2 (.mv (.const (.pointer none)))]) .ret) .skip)) (.seq (.region [.m 14 0, .m 15 3, .m 16 4, .o 17 (.build [(.int .i64 0),(.int .i64 0),(.int .i64 0),(.slice none 0 0),(.int .i64 0),(.slice none 0 0),(.slice none 0 0)] [(0,1),(1,1),(2,1),(3,1),(4,1),(5,1),(6,1)] [(0,(.tmp 14)),(1,(.tmp 15)),(2,(.tmp 16))]), .o 18 (.box 173 7 (.tmp 17)), .m 5 18]) (.seq (.seq (.region [.m 19 4, .o 20 (.c .eql 19 1)]) (.cond (.tmp 20) (.seq (.region [.m 21 5, .o 22 (.mkSl 3 1 2 [(.const (.int .i64 0)),(.const (.int .i64 1))]), .o 23 (.nilck (.tmp 21)), .o 24 (.f 3 23), .n (.st 1 (.tmp 24) (.tmp 22))]) (.seq (.seq (.region [.m 25 5, .o 26 (.nilck (.tmp 25)), .o 27 (.f 4 26), .n (.st 1 (.tmp 27) (.const (.int .i64 1)))]) (.block 0 [5] (.loop [5] c160L0))) (.seq (.region [.m 38 5, .m 2 38]) .ret))) .skip)) (.seq (.region [.m 39 5, .m 40 3, .o 41 (.nilck (.tmp 39)), .o 42 (.f 4 41), .n (.st 1 (.tmp 42) (.tmp 40))]) (.seq (.seq (.region [.m 43 0, .k 44 0]) (.block 2 [] (.loop [3,4,5,43,44] c160L1))) (.seq (.region [.o 2 (.mv (.const (.pointer none)))]) .ret))))))))
def F160:AFun:=⟨c160,1,60,[(.tmp 2)]⟩
def K160:Nat→List Nat×List Nat
 |0=>([5],[5])
 |1=>([],[5])
 |2=>([3,4,5,43,44],[])
 |3=>([],[3,4,5,43,44])
 |_=>([],[])
theorem F160_ok:kj8 Try.prog K160 Try.f160=some F160:=by kernel_rfl
/- 162: syndrome/matrix.Check -/
def c162L0:ACode:=(.seq (.region [.o 23 (.b .lss 22 21)]) (.seq (.cond (.tmp 23) .skip (.exit 0)) (.seq (.block 1 [1,5,20,21,22] (.seq (.region [.o 24 (.i 1 20 22), .o 25 (.l 24), .m 8 25]) (.seq (.seq (.region [.m 26 8, .o 27 (.n 26), .m 28 1, .o 29 (.iaddr 1 (.tmp 28) (.const (.int .i64 0))), .o 30 (.l 29), .o 31 (.n 30), .o 32 (.b .neq 27 31), .m 33 32, .g 34 (.m 8) 33 false, .g 35 (.n 34) 33 false, .g 36 (.c .eql 35 0) 33 false, .o 37 (.pick (.tmp 33) (.const (.bool true)) (.tmp 36))]) (.cond (.tmp 37) (.seq (.region [.k 4 3]) .ret) .skip)) (.seq (.seq (.region [.m 38 8, .o 39 (.n 38), .o 40 (.c .gtr 39 64)]) (.cond (.tmp 40) (.seq (.region [.k 4 4]) .ret) .skip)) (.seq (.region [.m 41 8, .o 42 (.mkf 207 [(.tmp 5)]), .o 43 (.q 113 [41,42])]) (.cond (.tmp 43) (.seq (.region [.k 4 2]) .ret) .skip)))))) (.region [.o 44 (.c .add 22 1), .m 22 44]))))
def c162:ACode:=(.seq (.region [.k 4 0]) (.seq (.region [.m 10 0, .o 11 (.q 76 [10]), .m 9 11, .o 12 (.e 0 9), .o 13 (.e 1 9), .o 5 (.alloc 104 [(.pointer none)]), .n (.st 1 (.tmp 5) (.tmp 12)), .m 6 13]) (.seq (.seq (.region [.m 14 6, .o 15 (.c .neq 14 0)]) (.cond (.tmp 15) (.seq (.region [.m 16 6, .m 4 16]) .ret) .skip)) (.seq (.seq (.region [.m 17 1, .o 18 (.n 17), .o 19 (.c .gtr 18 64)]) (.cond (.tmp 19) (.seq (.region [.k 4 4]) .ret) .skip)) (.seq (.seq (.region [.m 20 1, .o 21 (.n 20), .k 22 0]) (.block 0 [] (.loop [1,5,20,21,22] c162L0))) (.seq (.region [.k 4 0]) .ret))))))
def F162:AFun:=⟨c162,2,45,[(.tmp 4)]⟩
def K162:Nat→List Nat×List Nat
 |0=>([1,5,20,21,22],[])
 |1=>([],[1,5,20,21,22])
 |_=>([],[])
theorem F162_ok:kj8 Try.prog K162 Try.f162=some F162:=by kernel_rfl
/- 163: slices.IndexFunc[[][]int,[]int] -/
def c163L0:ACode:=(.seq (.region [.o 9 (.b .lss 8 7)]) (.seq (.cond (.tmp 9) .skip (.exit 0)) (.seq (.block 1 [0,1,7,8] (.seq (.region [.m 10 8, .m 5 10]) (.seq (.region [.m 11 1, .m 12 0, .m 13 5, .o 14 (.i 1 12 13), .o 15 (.l 14), .o 16 (.calld (.tmp 11) [(.tmp 15)])]) (.cond (.tmp 16) (.seq (.region [.m 17 5, .m 4 17]) .ret) .skip)))) (.region [.o 18 (.c .add 8 1), .m 8 18]))))
def c163:ACode:=(.seq (.region [.k 4 0]) (.seq (.seq (.region [.m 6 0, .o 7 (.n 6), .k 8 0]) (.block 0 [] (.loop [0,1,7,8] c163L0))) (.seq (.region [.k 4 (-1)]) .ret)))
def F163:AFun:=⟨c163,2,19,[(.tmp 4)]⟩
def K163:Nat→List Nat×List Nat
 |0=>([0,1,7,8],[])
 |1=>([],[0,1,7,8])
 |_=>([],[])
theorem F163_ok:kj8 Try.prog K163 Try.f163=some F163:=by kernel_rfl
/- 165: (*syndrome/field.Field).Inv -/
def c165:ACode:=(.seq (.region [.k 4 0]) (.seq (.seq (.region [.m 5 0, .m 6 1, .o 7 (.q 115 [5,6]), .o 8 (.un .not (.tmp 7)), .m 9 8, .g 10 (.m 1) 9 false, .g 11 (.c .eql 10 0) 9 false, .o 12 (.pick (.tmp 9) (.const (.bool true)) (.tmp 11))]) (.cond (.tmp 12) (.seq (.region [.k 4 (-1)]) .ret) .skip)) (.seq (.region [.m 13 0, .o 14 (.nilck (.tmp 13)), .o 15 (.f 5 14), .o 16 (.l 15), .m 17 0, .o 18 (.nilck (.tmp 17)), .o 19 (.f 0 18), .o 20 (.l 19), .o 21 (.c .sub 20 1), .m 22 0, .o 23 (.nilck (.tmp 22)), .o 24 (.f 6 23), .o 25 (.l 24), .m 26 1, .o 27 (.i 1 25 26), .o 28 (.l 27), .o 29 (.b .sub 21 28), .m 30 0, .o 31 (.nilck (.tmp 30)), .o 32 (.f 0 31), .o 33 (.l 32), .o 34 (.c .sub 33 1), .o 35 (.b .rem 29 34), .o 36 (.i 1 16 35), .o 37 (.l 36), .m 4 37]) .ret)))
def F165:AFun:=⟨c165,2,38,[(.tmp 4)]⟩
def K165:Nat→List Nat×List Nat
 |_=>([],[])
theorem F165_ok:kj8 Try.prog K165 Try.f165=some F165:=by kernel_rfl
/- 166: (*syndrome/field.Field).Sub -/
def c166:ACode:=(.seq (.region [.k 6 0]) (.seq (.region [.m 7 0, .m 8 1, .m 9 0, .m 10 2, .o 11 (.q 185 [9,10]), .o 12 (.q 83 [7,8,11]), .m 6 12]) .ret))
def F166:AFun:=⟨c166,3,13,[(.tmp 6)]⟩
def K166:Nat→List Nat×List Nat
 |_=>([],[])
theorem F166_ok:kj8 Try.prog K166 Try.f166=some F166:=by kernel_rfl
/- 168: slices.Index[[]int,int] -/
def c168L0:ACode:=(.seq (.region [.o 9 (.b .lss 8 7)]) (.seq (.cond (.tmp 9) .skip (.exit 0)) (.seq (.block 1 [0,1,7,8] (.seq (.region [.m 10 8, .m 5 10]) (.seq (.region [.m 11 1, .m 12 0, .m 13 5, .o 14 (.i 1 12 13), .o 15 (.l 14), .o 16 (.b .eql 11 15)]) (.cond (.tmp 16) (.seq (.region [.m 17 5, .m 4 17]) .ret) .skip)))) (.region [.o 18 (.c .add 8 1), .m 8 18]))))
def c168:ACode:=(.seq (.region [.k 4 0]) (.seq (.seq (.region [.m 6 0, .o 7 (.n 6), .k 8 0]) (.block 0 [] (.loop [0,1,7,8] c168L0))) (.seq (.region [.k 4 (-1)]) .ret)))
def F168:AFun:=⟨c168,2,19,[(.tmp 4)]⟩
def K168:Nat→List Nat×List Nat
 |0=>([0,1,7,8],[])
 |1=>([],[0,1,7,8])
 |_=>([],[])
theorem F168_ok:kj8 Try.prog K168 Try.f168=some F168:=by kernel_rfl
/- 184: syndrome/code.Check -/
def c184:ACode:=(.seq (.region [.o 1 (.box 42 3 (.tmp 0)), .k 2 0]) (.seq (.seq (.region [.o 7 (.f 0 1), .o 8 (.l 7), .o 9 (.q 76 [8]), .m 6 9, .o 10 (.e 0 6), .o 11 (.e 1 6), .m 3 10, .m 4 11]) (.seq (.region [.m 12 4, .o 13 (.c .neq 12 0)]) (.cond (.tmp 13) (.seq (.region [.m 14 4, .m 2 14]) .ret) .skip))) (.seq (.seq (.region [.o 15 (.f 1 1), .o 16 (.l 15), .o 17 (.c .lss 16 1), .m 18 17, .g 19 (.f 1 1) 18 false, .g 20 (.l 19) 18 false, .g 21 (.c .gtr 20 64) 18 false, .o 22 (.pick (.tmp 18) (.const (.bool true)) (.tmp 21))]) (.cond (.tmp 22) (.seq (.region [.k 2 4]) .ret) .skip)) (.seq (.seq (.region [.o 23 (.f 0 1), .o 24 (.l 23), .o 25 (.f 2 1), .o 26 (.l 25), .o 27 (.q 162 [24,26]), .m 5 27]) (.seq (.region [.m 28 5, .o 29 (.c .neq 28 0)]) (.cond (.tmp 29) (.seq (.region [.m 30 5, .m 2 30]) .ret) .skip))) (.seq (.seq (.region [.o 31 (.f 2 1), .o 32 (.l 31), .o 33 (.n 32), .o 34 (.c .gtr 33 0), .m 35 34, .g 36 (.f 2 1) 35 true, .g 37 (.l 36) 35 true, .g 38 (.iaddr 1 (.tmp 37) (.const (.int .i64 0))) 35 true, .g 39 (.l 38) 35 true, .g 40 (.n 39) 35 true, .g 41 (.f 1 1) 35 true, .g 42 (.l 41) 35 true, .g 43 (.b .neq 40 42) 35 true, .o 44 (.pick (.tmp 35) (.tmp 43) (.const (.bool false)))]) (.cond (.tmp 44) (.seq (.region [.k 2 3]) .ret) .skip)) (.seq (.region [.k 2 0]) .ret))))))
def F184:AFun:=⟨c184,1,45,[(.tmp 2)]⟩
def K184:Nat→List Nat×List Nat
 |_=>([],[])
theorem F184_ok:kj8 Try.prog K184 Try.f184=some F184:=by kernel_rfl
/- 185: (*syndrome/field.Field).Neg -/
def c185L0:ACode:=(.seq (.region [.o 16 (.b .lss 15 14)]) (.seq (.cond (.tmp 16) .skip (.exit 0)) (.seq (.block 1 [0,1,5,6,14,15] (.seq (.region [.m 17 5, .m 18 0, .o 19 (.nilck (.tmp 18)), .o 20 (.f 1 19), .o 21 (.l 20), .m 22 1, .m 23 0, .o 24 (.nilck (.tmp 23)), .o 25 (.f 1 24), .o 26 (.l 25), .o 27 (.b .rem 22 26), .o 28 (.b .sub 21 27), .m 29 0, .o 30 (.nilck (.tmp 29)), .o 31 (.f 1 30), .o 32 (.l 31), .o 33 (.b .rem 28 32), .m 34 6, .o 35 (.b .mul 33 34), .o 36 (.b .add 17 35), .m 5 36]) (.region [.m 37 1, .m 38 0, .o 39 (.nilck (.tmp 38)), .o 40 (.f 1 39), .o 41 (.l 40), .o 42 (.b .quo 37 41), .m 43 6, .m 44 0, .o 45 (.nilck (.tmp 44)), .o 46 (.f 1 45), .o 47 (.l 46), .o 48 (.b .mul 43 47), .m 1 42, .m 6 48]))) (.region [.o 49 (.c .add 15 1), .m 15 49]))))
def c185:ACode:=(.seq (.region [.k 4 0]) (.seq (.seq (.region [.m 7 0, .m 8 1, .o 9 (.q 115 [7,8]), .o 10 (.un .not (.tmp 9))]) (.cond (.tmp 10) (.seq (.region [.k 4 (-1)]) .ret) .skip)) (.seq (.region [.k 5 0, .k 6 1]) (.seq (.seq (.region [.m 11 0, .o 12 (.nilck (.tmp 11)), .o 13 (.f 2 12), .o 14 (.l 13), .k 15 0]) (.block 0 [5] (.loop [0,1,5,6,14,15] c185L0))) (.seq (.region [.m 50 5, .m 4 50]) .ret)))))
def F185:AFun:=⟨c185,2,51,[(.tmp 4)]⟩
def K185:Nat→List Nat×List Nat
 |0=>([0,1,5,6,14,15],[5])
 |1=>([],[0,1,5,6,14,15])
 |_=>([],[])
theorem F185_ok:kj8 Try.prog K185 Try.f185=some F185:=by kernel_rfl
end Go.Proofs.Ytmhbpecdpiapgaa
