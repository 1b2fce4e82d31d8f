/-
  Functions of this seat as the small machine's code, written by a program of my own (gen.py); each is checked to be what the model's function is turned into. No condition.
-/
import Derived.Test.YtodbgomfeacdhaaK2
import Derived.Test.YtodbgomfeacdhaaProg
set_option linter.unusedVariables false
set_option linter.unusedSimpArgs false
set_option linter.unusedSectionVars false
set_option maxRecDepth 100000
namespace Go.Proofs.Ytodbgomfeacdhaa
open Go.Am
/- 9: syndrome/syndromelaw.PolarSays -/
def c9:ACode:=(.seq (.region [.o 6 (.mv (.const (.bool false)))]) (.seq (.seq (.region [.m 20 2, .o 21 (.n 20), .o 22 (.c .gtr 21 100)]) (.cond (.tmp 22) (.seq (.region [.o 6 (.mv (.const (.bool true)))]) .ret) .skip)) (.seq (.region [.k 7 0]) (.seq (.seq (.region [.m 23 0, .o 24 (.c .lss 23 0), .m 25 24, .g 26 (.m 0) 25 false, .g 27 (.c .gtr 26 5) 25 false, .o 28 (.pick (.tmp 25) (.const (.bool true)) (.tmp 27))]) (.cond (.tmp 28) (.region [.k 7 4]) .skip)) (.seq (.region [.o 8 (.mv (.const (.slice none 0 0)))]) (.seq (.seq (.region [.m 29 7, .o 30 (.c .eql 29 0)]) (.cond (.tmp 30) (.region [.m 31 0, .o 32 (.q 48 [31]), .m 8 32]) .skip)) (.seq (.region [.m 34 0, .o 35 (.q 49 [34]), .m 33 35, .o 36 (.e 0 33), .o 37 (.e 1 33), .m 9 36, .m 10 37]) (.seq (.region [.m 38 7, .m 11 38]) (.seq (.seq (.region [.m 39 11, .o 40 (.c .eql 39 0), .m 41 40, .g 42 (.m 1) 41 true, .g 43 (.c .lss 42 0) 41 true, .g 44 (.m 43) 41 true, .g 45 (.m 1) 44 false, .g 46 (.m 0) 44 false, .g 47 (.bin .shl (.const (.int .i64 1)) (.tmp 46)) 44 false, .g 48 (.b .gtr 45 47) 44 false, .g 49 (.pick (.tmp 44) (.const (.bool true)) (.tmp 48)) 41 true, .o 50 (.pick (.tmp 41) (.tmp 49) (.const (.bool false)))]) (.cond (.tmp 50) (.region [.k 11 6]) .skip)) (.seq (.region [.o 12 (.mv (.const (.slice none 0 0)))]) (.seq (.seq (.region [.m 51 11, .o 52 (.c .eql 51 0)]) (.cond (.tmp 52) (.region [.m 53 0, .m 54 1, .o 55 (.q 50 [53,54]), .m 12 55]) .skip)) (.seq (.region [.m 57 0, .m 58 1, .o 59 (.q 51 [57,58]), .m 56 59, .o 60 (.e 0 56), .o 61 (.e 1 56), .m 13 60, .m 14 61]) (.seq (.seq (.region [.m 62 9, .m 63 10, .m 64 8, .m 65 7, .o 66 (.q 22 [62,63,64,65]), .o 67 (.un .not (.tmp 66)), .m 68 67, .g 69 (.m 13) 68 false, .g 70 (.m 14) 68 false, .g 71 (.m 12) 68 false, .g 72 (.m 11) 68 false, .g 73 (.q 22 [69,70,71,72]) 68 false, .g 74 (.un .not (.tmp 73)) 68 false, .o 75 (.pick (.tmp 68) (.const (.bool true)) (.tmp 74))]) (.cond (.tmp 75) (.seq (.region [.o 6 (.mv (.const (.bool false)))]) .ret) .skip)) (.seq (.seq (.region [.m 76 7, .o 77 (.c .eql 76 0), .m 78 77, .g 79 (.m 2) 78 true, .g 80 (.n 79) 78 true, .g 81 (.m 0) 78 true, .g 82 (.bin .shl (.const (.int .i64 1)) (.tmp 81)) 78 true, .g 83 (.b .neq 80 82) 78 true, .o 84 (.pick (.tmp 78) (.tmp 83) (.const (.bool false)))]) (.cond (.tmp 84) (.region [.k 7 6]) .skip)) (.seq (.seq (.region [.m 85 7, .o 86 (.c .eql 85 0), .m 87 86, .g 88 (.m 2) 87 true, .g 89 (.call 52 [(.tmp 88),(.const (.bool false))]) 87 true, .g 90 (.un .not (.tmp 89)) 87 true, .o 91 (.pick (.tmp 87) (.tmp 90) (.const (.bool false)))]) (.cond (.tmp 91) (.region [.k 7 2]) .skip)) (.seq (.region [.o 15 (.mv (.const (.slice none 0 0)))]) (.seq (.seq (.region [.m 92 7, .o 93 (.c .eql 92 0)]) (.cond (.tmp 93) (.region [.m 94 2, .o 95 (.q 53 [94]), .m 15 95]) .skip)) (.seq (.region [.m 97 0, .m 98 2, .o 99 (.q 54 [97,98]), .m 96 99, .o 100 (.e 0 96), .o 101 (.e 1 96), .m 16 100, .m 10 101]) (.seq (.region [.m 102 0, .m 103 2, .o 104 (.q 55 [102,103]), .m 17 104]) (.seq (.region [.o 18 (.mv (.const (.slice none 0 0)))]) (.seq (.seq (.region [.m 105 17, .o 106 (.c .eql 105 0)]) (.cond (.tmp 106) (.region [.m 107 0, .m 108 2, .o 109 (.q 56 [107,108]), .m 18 109]) .skip)) (.seq (.region [.m 111 0, .m 112 2, .o 113 (.q 57 [111,112]), .m 110 113, .o 114 (.e 0 110), .o 115 (.e 1 110), .m 19 114, .m 14 115]) (.seq (.region [.m 116 16, .m 117 10, .m 118 15, .m 119 7, .o 120 (.q 22 [116,117,118,119]), .m 121 120, .g 122 (.m 19) 121 true, .g 123 (.m 14) 121 true, .g 124 (.m 18) 121 true, .g 125 (.m 17) 121 true, .g 126 (.q 22 [122,123,124,125]) 121 true, .o 127 (.pick (.tmp 121) (.tmp 126) (.const (.bool false))), .m 128 127, .g 129 (.m 0) 128 true, .g 130 (.m 1) 128 true, .g 131 (.m 2) 128 true, .g 132 (.m 12) 128 true, .g 133 (.m 11) 128 true, .g 134 (.q 58 [129,130,131,132,133]) 128 true, .o 135 (.pick (.tmp 128) (.tmp 134) (.const (.bool false))), .m 6 135]) .ret)))))))))))))))))))))))
def F9:AFun:=⟨c9,3,136,[(.tmp 6)]⟩
def K9:Nat→List Nat×List Nat
 |_=>([],[])
theorem F9_ok:kj8 Try.prog K9 noRg Try.f9=some F9:=by kernel_rfl
/- 10: syndrome/syndromelaw.PolarMade -/
def c10L0:ACode:=(.seq (.seq (.region [.m 28 12, .m 29 3, .m 30 1, .o 31 (.bin .shl (.const (.int .i64 1)) (.tmp 30)), .o 32 (.q 45 [29,31]), .o 33 (.b .lss 28 32)]) (.cond (.tmp 33) .skip (.exit 0))) (.seq (.block 1 [0,1,2,3,4,11,12] (.region [.m 36 11, .m 37 0, .m 38 12, .o 39 (.bin .add (.const (.int .i64 40)) (.tmp 38)), .o 40 (.q 59 [37,39]), .m 41 11, .o 42 (.n 41), .o 43 (.q 45 [40,42]), .o 44 (.i 1 36 43), .n (.st 1 (.tmp 44) (.const (.int .i64 (-1))))])) (.region [.m 34 12, .o 35 (.c .add 34 1), .m 12 35])))
def c10:ACode:=(.seq (.region [.o 10 (.mv (.const (.bool false)))]) (.seq (.seq (.region [.m 13 0, .o 14 (.n 13), .o 15 (.c .gtr 14 256)]) (.cond (.tmp 15) (.seq (.region [.o 10 (.mv (.const (.bool true)))]) .ret) .skip)) (.seq (.region [.m 16 1, .o 17 (.call 45 [(.tmp 16),(.const (.int .i64 6))]), .m 1 17]) (.seq (.region [.m 18 2, .m 19 1, .o 20 (.bin .shl (.const (.int .i64 1)) (.tmp 19)), .o 21 (.c .add 20 1), .o 22 (.q 45 [18,21]), .m 2 22]) (.seq (.region [.m 23 1, .m 24 0, .m 25 2, .o 26 (.call 46 [(.tmp 24),(.const (.int .i64 0)),(.tmp 25),(.const (.bool false))]), .o 27 (.q 56 [23,26]), .m 11 27]) (.seq (.seq (.region [.k 12 0]) (.block 0 [1,2,4,11] (.loop [0,1,2,3,4,11,12] c10L0))) (.seq (.seq (.region [.m 45 4, .o 46 (.call 45 [(.tmp 45),(.const (.int .i64 4))]), .o 47 (.c .eql 46 0)]) (.cond (.tmp 47) (.region [.m 48 11, .o 49 (.iaddr 1 (.tmp 48) (.const (.int .i64 0))), .n (.st 1 (.tmp 49) (.const (.int .i64 1)))]) .skip)) (.seq (.region [.m 50 1, .m 51 2, .m 52 11, .o 53 (.q 9 [50,51,52]), .m 10 53]) .ret))))))))
def F10:AFun:=⟨c10,5,54,[(.tmp 10)]⟩
def K10:Nat→List Nat×List Nat
 |0=>([0,1,2,3,4,11,12],[1,2,4,11])
 |1=>([],[0,1,2,3,4,11,12])
 |_=>([],[])
theorem F10_ok:kj8 Try.prog K10 noRg Try.f10=some F10:=by kernel_rfl
/- 11: syndrome/syndrometop.TopPolar -/
def c11L0:ACode:=(.seq (.seq (.region [.m 59 14, .m 60 11, .o 61 (.n 60), .o 62 (.b .lss 59 61)]) (.cond (.tmp 62) .skip (.exit 0))) (.seq (.block 1 [0,1,2,3,4,11,13,14] (.region [.m 65 13, .m 66 11, .m 67 14, .o 68 (.i 1 66 67), .o 69 (.l 68), .o 70 (.b .add 65 69), .m 13 70])) (.region [.m 63 14, .o 64 (.c .add 63 1), .m 14 64])))
def c11L1:ACode:=(.seq (.seq (.region [.m 101 19, .m 102 3, .o 103 (.n 102), .o 104 (.b .lss 101 103)]) (.cond (.tmp 104) .skip (.exit 2))) (.seq (.block 3 [1,2,3,4,15,16,17,18,19] (.seq (.region [.m 107 17, .m 108 3, .m 109 19, .o 110 (.i 1 108 109), .o 111 (.l 110), .m 112 16, .o 113 (.n 112), .o 114 (.q 45 [111,113]), .o 115 (.i 1 107 114), .n (.st 1 (.tmp 115) (.const (.int .i64 (-1))))]) (.seq (.region [.m 116 4, .m 117 19, .o 118 (.b .add 116 117), .o 119 (.call 45 [(.tmp 118),(.const (.int .i64 3))]), .o 120 (.c .gtr 119 0)]) (.cond (.tmp 120) (.region [.m 121 18, .m 122 3, .m 123 19, .o 124 (.i 1 122 123), .o 125 (.l 124), .m 126 16, .o 127 (.n 126), .o 128 (.q 45 [125,127]), .o 129 (.i 1 121 128), .n (.st 1 (.tmp 129) (.const (.int .i64 (-1))))]) .skip)))) (.region [.m 105 19, .o 106 (.c .add 105 1), .m 19 106])))
def c11:ACode:=(.seq (.region [.o 10 (.mv (.const (.bool false)))]) (.seq (.seq (.region [.m 32 0, .o 33 (.n 32), .m 34 3, .o 35 (.n 34), .o 36 (.b .add 33 35), .o 37 (.c .gtr 36 256)]) (.cond (.tmp 37) (.seq (.region [.o 10 (.mv (.const (.bool true)))]) .ret) .skip)) (.seq (.region [.m 38 1, .o 39 (.call 45 [(.tmp 38),(.const (.int .i64 6))]), .m 1 39]) (.seq (.region [.m 40 2, .m 41 1, .o 42 (.bin .shl (.const (.int .i64 1)) (.tmp 41)), .o 43 (.c .add 42 1), .o 44 (.q 45 [40,43]), .m 2 44]) (.seq (.region [.m 46 1, .o 47 (.q 49 [46]), .m 45 47, .o 48 (.e 0 45), .o 49 (.e 1 45), .m 11 48, .m 12 49]) (.seq (.seq (.region [.m 50 12, .o 51 (.c .neq 50 0), .m 52 51, .g 53 (.m 11) 52 false, .g 54 (.n 53) 52 false, .g 55 (.m 1) 52 false, .g 56 (.bin .shl (.const (.int .i64 1)) (.tmp 55)) 52 false, .g 57 (.b .neq 54 56) 52 false, .o 58 (.pick (.tmp 52) (.const (.bool true)) (.tmp 57))]) (.cond (.tmp 58) (.seq (.region [.o 10 (.mv (.const (.bool false)))]) .ret) .skip)) (.seq (.region [.k 13 0]) (.seq (.seq (.region [.k 14 0]) (.block 0 [0,1,2,3,4,13] (.loop [0,1,2,3,4,11,13,14] c11L0))) (.seq (.seq (.region [.m 71 13, .m 72 1, .o 73 (.bin .shl (.const (.int .i64 1)) (.tmp 72)), .m 74 1, .o 75 (.bin .shl (.const (.int .u64 1)) (.tmp 74)), .o 76 (.b .shl 73 75), .o 77 (.c .quo 76 2), .o 78 (.b .neq 71 77)]) (.cond (.tmp 78) (.seq (.region [.o 10 (.mv (.const (.bool false)))]) .ret) .skip)) (.seq (.region [.m 79 0, .m 80 2, .o 81 (.call 46 [(.tmp 79),(.const (.int .i64 0)),(.tmp 80),(.const (.bool false))]), .m 15 81]) (.seq (.region [.m 83 1, .m 84 15, .o 85 (.q 57 [83,84]), .m 82 85, .o 86 (.e 0 82), .o 87 (.e 1 82), .m 16 86, .m 12 87]) (.seq (.seq (.region [.m 88 12, .o 89 (.c .neq 88 0), .m 90 89, .g 91 (.m 16) 90 false, .g 92 (.n 91) 90 false, .g 93 (.m 1) 90 false, .g 94 (.bin .shl (.const (.int .i64 1)) (.tmp 93)) 90 false, .g 95 (.b .neq 92 94) 90 false, .o 96 (.pick (.tmp 90) (.const (.bool true)) (.tmp 95))]) (.cond (.tmp 96) (.seq (.region [.o 10 (.mv (.const (.bool false)))]) .ret) .skip)) (.seq (.region [.m 97 16, .o 98 (.q 47 [97]), .m 17 98]) (.seq (.region [.m 99 16, .o 100 (.q 47 [99]), .m 18 100]) (.seq (.seq (.region [.k 19 0]) (.block 2 [1,2,15,16,17,18] (.loop [1,2,3,4,15,16,17,18,19] c11L1))) (.seq (.region [.m 131 1, .m 132 2, .m 133 17, .o 134 (.q 60 [131,132,133]), .m 130 134, .o 135 (.e 0 130), .o 136 (.e 1 130), .o 137 (.e 2 130), .m 20 135, .m 21 136, .m 12 137]) (.seq (.region [.m 139 1, .m 140 2, .m 141 18, .o 142 (.q 60 [139,140,141]), .m 138 142, .o 143 (.e 0 138), .o 144 (.e 1 138), .o 145 (.e 2 138), .m 22 143, .m 23 144, .m 24 145]) (.seq (.region [.m 147 1, .m 148 2, .m 149 16, .o 150 (.q 60 [147,148,149]), .m 146 150, .o 151 (.e 0 146), .o 152 (.e 1 146), .o 153 (.e 2 146), .m 25 151, .m 26 152, .m 27 153]) (.seq (.region [.m 155 1, .m 156 16, .o 157 (.q 54 [155,156]), .m 154 157, .o 158 (.e 0 154), .o 159 (.e 1 154), .m 28 158, .m 29 159]) (.seq (.region [.m 161 1, .m 162 28, .o 163 (.q 54 [161,162]), .m 160 163, .o 164 (.e 0 160), .o 165 (.e 1 160), .m 30 164, .m 31 165]) (.seq (.region [.m 166 12, .o 167 (.c .eql 166 0), .m 168 167, .g 169 (.m 24) 168 true, .g 170 (.c .eql 169 0) 168 true, .o 171 (.pick (.tmp 168) (.tmp 170) (.const (.bool false))), .m 172 171, .g 173 (.m 27) 172 true, .g 174 (.c .eql 173 0) 172 true, .o 175 (.pick (.tmp 172) (.tmp 174) (.const (.bool false))), .m 176 175, .g 177 (.m 29) 176 true, .g 178 (.c .eql 177 0) 176 true, .o 179 (.pick (.tmp 176) (.tmp 178) (.const (.bool false))), .m 180 179, .g 181 (.m 31) 180 true, .g 182 (.c .eql 181 0) 180 true, .o 183 (.pick (.tmp 180) (.tmp 182) (.const (.bool false))), .m 184 183, .g 185 (.m 26) 184 true, .o 186 (.pick (.tmp 184) (.tmp 185) (.const (.bool false))), .m 187 186, .g 188 (.m 25) 187 true, .g 189 (.m 15) 187 true, .g 190 (.q 28 [188,189]) 187 true, .o 191 (.pick (.tmp 187) (.tmp 190) (.const (.bool false))), .m 192 191, .g 193 (.m 21) 192 true, .g 194 (.un .not (.tmp 193)) 192 true, .g 195 (.m 194) 192 true, .g 196 (.m 20) 195 false, .g 197 (.m 15) 195 false, .g 198 (.q 28 [196,197]) 195 false, .g 199 (.m 198) 195 false, .g 200 (.m 23) 199 true, .g 201 (.pick (.tmp 199) (.tmp 200) (.const (.bool false))) 195 false, .g 202 (.pick (.tmp 195) (.const (.bool true)) (.tmp 201)) 192 true, .o 203 (.pick (.tmp 192) (.tmp 202) (.const (.bool false))), .m 204 203, .g 205 (.m 23) 204 true, .g 206 (.un .not (.tmp 205)) 204 true, .g 207 (.m 206) 204 true, .g 208 (.m 22) 207 false, .g 209 (.m 15) 207 false, .g 210 (.q 28 [208,209]) 207 false, .g 211 (.pick (.tmp 207) (.const (.bool true)) (.tmp 210)) 204 true, .o 212 (.pick (.tmp 204) (.tmp 211) (.const (.bool false))), .m 213 212, .g 214 (.m 30) 213 true, .g 215 (.m 16) 213 true, .g 216 (.q 28 [214,215]) 213 true, .o 217 (.pick (.tmp 213) (.tmp 216) (.const (.bool false))), .m 10 217]) .ret)))))))))))))))))))))
def F11:AFun:=⟨c11,5,218,[(.tmp 10)]⟩
def K11:Nat→List Nat×List Nat
 |0=>([0,1,2,3,4,11,13,14],[0,1,2,3,4,13])
 |1=>([],[0,1,2,3,4,11,13,14])
 |2=>([1,2,3,4,15,16,17,18,19],[1,2,15,16,17,18])
 |3=>([],[1,2,3,4,15,16,17,18,19])
 |_=>([],[])
theorem F11_ok:kj8 Try.prog K11 noRg Try.f11=some F11:=by kernel_rfl
/- 22: syndrome/syndromelaw.list -/
def c22:ACode:=(.seq (.region [.o 8 (.mv (.const (.bool false)))]) (.seq (.seq (.region [.m 9 3, .o 10 (.c .neq 9 0)]) (.cond (.tmp 10) (.seq (.region [.m 11 1, .m 12 3, .o 13 (.b .eql 11 12), .m 14 13, .g 15 (.m 0) 14 true, .g 16 (.n 15) 14 true, .g 17 (.c .eql 16 0) 14 true, .o 18 (.pick (.tmp 14) (.tmp 17) (.const (.bool false))), .m 8 18]) .ret) .skip)) (.seq (.region [.m 19 1, .o 20 (.c .eql 19 0), .m 21 20, .g 22 (.m 0) 21 true, .g 23 (.m 2) 21 true, .g 24 (.q 28 [22,23]) 21 true, .o 25 (.pick (.tmp 21) (.tmp 24) (.const (.bool false))), .m 8 25]) .ret)))
def F22:AFun:=⟨c22,4,26,[(.tmp 8)]⟩
def K22:Nat→List Nat×List Nat
 |_=>([],[])
theorem F22_ok:kj8 Try.prog K22 noRg Try.f22=some F22:=by kernel_rfl
/- 28: syndrome/syndromeref.Same -/
def c28L0:ACode:=(.seq (.seq (.region [.m 11 5, .m 12 0, .o 13 (.n 12), .o 14 (.b .lss 11 13)]) (.cond (.tmp 14) .skip (.exit 0))) (.seq (.block 1 [0,1,5] (.seq (.region [.m 17 0, .m 18 5, .o 19 (.i 1 17 18), .o 20 (.l 19), .m 21 1, .m 22 5, .o 23 (.i 1 21 22), .o 24 (.l 23), .o 25 (.b .neq 20 24)]) (.cond (.tmp 25) (.seq (.region [.o 4 (.mv (.const (.bool false)))]) .ret) .skip))) (.region [.m 15 5, .o 16 (.c .add 15 1), .m 5 16])))
def c28:ACode:=(.seq (.region [.o 4 (.mv (.const (.bool false)))]) (.seq (.seq (.region [.m 6 0, .o 7 (.n 6), .m 8 1, .o 9 (.n 8), .o 10 (.b .neq 7 9)]) (.cond (.tmp 10) (.seq (.region [.o 4 (.mv (.const (.bool false)))]) .ret) .skip)) (.seq (.seq (.region [.k 5 0]) (.block 0 [] (.loop [0,1,5] c28L0))) (.seq (.region [.o 4 (.mv (.const (.bool true)))]) .ret))))
def F28:AFun:=⟨c28,2,26,[(.tmp 4)]⟩
def K28:Nat→List Nat×List Nat
 |0=>([0,1,5],[])
 |1=>([],[0,1,5])
 |_=>([],[])
theorem F28_ok:kj8 Try.prog K28 noRg Try.f28=some F28:=by kernel_rfl
/- 45: syndrome/syndromeref.Pick -/
def c45:ACode:=(.seq (.region [.k 4 0]) (.seq (.seq (.region [.m 5 0, .o 6 (.c .lss 5 0)]) (.cond (.tmp 6) (.region [.m 7 0, .o 8 (.c .add 7 1), .o 9 (.un .neg (.tmp 8)), .m 0 9]) .skip)) (.seq (.region [.m 10 0, .m 11 1, .o 12 (.b .rem 10 11), .m 4 12]) .ret)))
def F45:AFun:=⟨c45,2,13,[(.tmp 4)]⟩
def K45:Nat→List Nat×List Nat
 |_=>([],[])
theorem F45_ok:kj8 Try.prog K45 noRg Try.f45=some F45:=by kernel_rfl
/- 46: syndrome/syndromeref.WordOf -/
def c46L0:ACode:=(.seq (.seq (.region [.m 12 10, .m 13 2, .o 14 (.b .lss 12 13)]) (.cond (.tmp 14) .skip (.exit 0))) (.seq (.block 1 [0,1,2,3,9,10] (.seq (.region [.m 17 0, .m 18 1, .m 19 10, .o 20 (.b .add 18 19), .o 21 (.q 59 [17,20]), .o 22 (.call 45 [(.tmp 21),(.const (.int .i64 4))]), .m 11 22]) (.seq (.seq (.region [.m 23 11, .o 24 (.c .gtr 23 1)]) (.cond (.tmp 24) (.seq (.region [.m 25 11, .o 26 (.c .sub 25 2), .m 11 26]) (.seq (.region [.m 27 3, .m 28 27, .g 29 (.m 0) 28 true, .g 30 (.m 1) 28 true, .g 31 (.m 10) 28 true, .g 32 (.b .add 30 31) 28 true, .g 33 (.q 59 [29,32]) 28 true, .g 34 (.c .quo 33 4) 28 true, .g 35 (.call 45 [(.tmp 34),(.const (.int .i64 2))]) 28 true, .g 36 (.c .eql 35 0) 28 true, .o 37 (.pick (.tmp 28) (.tmp 36) (.const (.bool false)))]) (.cond (.tmp 37) (.region [.k 11 (-1)]) .skip))) .skip)) (.region [.m 38 9, .m 39 11, .o 40 (.mkSl 3 1 1 [(.tmp 39)]), .o 41 (.app 3 1 8 (.tmp 38) (.tmp 40)), .m 9 41])))) (.region [.m 15 10, .o 16 (.c .add 15 1), .m 10 16])))
def c46:ACode:=(.seq (.region [.o 8 (.mv (.const (.slice none 0 0)))]) (.seq (.region [.o 9 (.mv (.const (.slice none 0 0)))]) (.seq (.seq (.region [.k 10 0]) (.block 0 [9] (.loop [0,1,2,3,9,10] c46L0))) (.seq (.region [.m 42 9, .m 8 42]) .ret))))
def F46:AFun:=⟨c46,4,43,[(.tmp 8)]⟩
def K46:Nat→List Nat×List Nat
 |0=>([0,1,2,3,9,10],[9])
 |1=>([],[0,1,2,3,9,10])
 |_=>([],[])
theorem F46_ok:kj8 Try.prog K46 noRg Try.f46=some F46:=by kernel_rfl
/- 47: syndrome/syndromeref.Copy -/
def c47:ACode:=(.seq (.region [.o 2 (.mv (.const (.slice none 0 0)))]) (.seq (.region [.o 3 (.mkSl 3 1 0 []), .m 4 0, .o 5 (.app 3 1 8 (.tmp 3) (.tmp 4)), .m 2 5]) .ret))
def F47:AFun:=⟨c47,1,6,[(.tmp 2)]⟩
def K47:Nat→List Nat×List Nat
 |_=>([],[])
theorem F47_ok:kj8 Try.prog K47 noRg Try.f47=some F47:=by kernel_rfl
/- 48: syndrome/syndromeref.Losses -/
def c48L0:ACode:=(.seq (.seq (.region [.m 17 6, .m 18 3, .o 19 (.n 18), .o 20 (.b .lss 17 19)]) (.cond (.tmp 20) .skip (.exit 0))) (.seq (.block 1 [3,4,5,6] (.region [.m 23 5, .m 24 3, .m 25 6, .o 26 (.i 1 24 25), .o 27 (.l 26), .o 28 (.bin .mul (.const (.int .i64 2)) (.tmp 27)), .m 29 4, .o 30 (.b .mul 28 29), .m 31 3, .m 32 6, .o 33 (.i 1 31 32), .o 34 (.l 33), .m 35 3, .m 36 6, .o 37 (.i 1 35 36), .o 38 (.l 37), .o 39 (.b .mul 34 38), .o 40 (.b .sub 30 39), .m 41 3, .m 42 6, .o 43 (.i 1 41 42), .o 44 (.l 43), .m 45 3, .m 46 6, .o 47 (.i 1 45 46), .o 48 (.l 47), .o 49 (.b .mul 44 48), .o 50 (.mkSl 3 1 2 [(.tmp 40),(.tmp 49)]), .o 51 (.app 3 1 8 (.tmp 23) (.tmp 50)), .m 5 51])) (.region [.m 21 6, .o 22 (.c .add 21 1), .m 6 22])))
def c48:ACode:=(.seq (.region [.o 2 (.mv (.const (.slice none 0 0)))]) (.seq (.seq (.region [.m 7 0, .o 8 (.c .eql 7 0)]) (.cond (.tmp 8) (.seq (.region [.o 9 (.mkSl 3 1 1 [(.const (.int .i64 1))]), .m 2 9]) .ret) .skip)) (.seq (.region [.m 10 0, .o 11 (.c .sub 10 1), .o 12 (.q 48 [11]), .m 3 12]) (.seq (.region [.m 13 0, .o 14 (.c .sub 13 1), .o 15 (.bin .shl (.const (.int .u64 1)) (.tmp 14)), .o 16 (.bin .shl (.const (.int .i64 1)) (.tmp 15)), .m 4 16]) (.seq (.region [.o 5 (.mv (.const (.slice none 0 0)))]) (.seq (.seq (.region [.k 6 0]) (.block 0 [5] (.loop [3,4,5,6] c48L0))) (.seq (.region [.m 52 5, .m 2 52]) .ret)))))))
def F48:AFun:=⟨c48,1,53,[(.tmp 2)]⟩
def K48:Nat→List Nat×List Nat
 |0=>([3,4,5,6],[5])
 |1=>([],[3,4,5,6])
 |_=>([],[])
theorem F48_ok:kj8 Try.prog K48 noRg Try.f48=some F48:=by kernel_rfl
/- 49: syndrome/polar.Chances -/
def c49L0:ACode:=(.seq (.region [.o 27 (.b .lss 26 25)]) (.seq (.cond (.tmp 27) .skip (.exit 2)) (.seq (.block 3 [7,8,17,18,24,25,26] (.seq (.region [.o 28 (.i 1 24 26), .o 29 (.l 28), .m 10 29]) (.region [.m 30 8, .m 31 10, .o 32 (.bin .mul (.const (.int .i64 2)) (.tmp 31)), .m 33 7, .o 34 (.b .mul 32 33), .m 35 10, .m 36 10, .o 37 (.b .mul 35 36), .o 38 (.b .sub 34 37), .m 39 10, .m 40 10, .o 41 (.b .mul 39 40), .o 42 (.mkSl 3 1 2 [(.tmp 38),(.tmp 41)]), .o 43 (.app 3 1 8 (.tmp 30) (.tmp 42)), .m 8 43]))) (.region [.o 44 (.c .add 26 1), .m 26 44]))))
def c49L1:ACode:=(.seq (.region [.o 19 (.b .lss 18 17)]) (.seq (.cond (.tmp 19) .skip (.exit 0)) (.seq (.block 1 [5,17,18] (.seq (.region [.m 20 18, .m 6 20]) (.seq (.region [.m 21 6, .o 22 (.bin .shl (.const (.int .u64 1)) (.tmp 21)), .o 23 (.bin .shl (.const (.int .i64 1)) (.tmp 22)), .m 7 23]) (.seq (.region [.o 8 (.mv (.const (.slice none 0 0)))]) (.seq (.seq (.region [.m 24 5, .o 25 (.n 24), .k 26 0]) (.block 2 [8,17,18] (.loop [7,8,17,18,24,25,26] c49L0))) (.region [.m 45 8, .m 5 45])))))) (.region [.o 46 (.c .add 18 1), .m 18 46]))))
def c49:ACode:=(.seq (.region [.o 2 (.mv (.const (.slice none 0 0))), .k 3 0]) (.seq (.seq (.region [.m 11 0, .o 12 (.q 103 [11]), .m 4 12]) (.seq (.region [.m 13 4, .o 14 (.c .neq 13 0)]) (.cond (.tmp 14) (.seq (.region [.m 15 4, .o 2 (.mv (.const (.slice none 0 0))), .m 3 15]) .ret) .skip))) (.seq (.region [.o 16 (.mkSl 3 1 1 [(.const (.int .i64 1))]), .m 5 16]) (.seq (.seq (.region [.m 17 0, .k 18 0]) (.block 0 [5] (.loop [5,17,18] c49L1))) (.seq (.region [.m 47 5, .m 2 47, .k 3 0]) .ret)))))
def F49:AFun:=⟨c49,1,48,[(.tmp 2),(.tmp 3)]⟩
def K49:Nat→List Nat×List Nat
 |0=>([5,17,18],[5])
 |1=>([],[5,17,18])
 |2=>([7,8,17,18,24,25,26],[8,17,18])
 |3=>([],[7,8,17,18,24,25,26])
 |_=>([],[])
theorem F49_ok:kj8 Try.prog K49 noRg Try.f49=some F49:=by kernel_rfl
/- 50: syndrome/syndromeref.BestOf -/
def c50L0:ACode:=(.seq (.seq (.region [.m 25 9, .o 26 (.c .geq 25 0)]) (.cond (.tmp 26) .skip (.exit 2))) (.seq (.block 3 [1,5,6,7,8,9] (.seq (.region [.m 29 6, .m 30 9, .o 31 (.i 1 29 30), .o 32 (.l 31), .o 33 (.un .not (.tmp 32)), .m 34 33, .g 35 (.m 8) 34 true, .g 36 (.c .lss 35 0) 34 true, .g 37 (.m 36) 34 true, .g 38 (.m 5) 37 false, .g 39 (.m 9) 37 false, .g 40 (.i 1 38 39) 37 false, .g 41 (.l 40) 37 false, .g 42 (.m 5) 37 false, .g 43 (.m 8) 37 false, .g 44 (.i 1 42 43) 37 false, .g 45 (.l 44) 37 false, .g 46 (.b .lss 41 45) 37 false, .g 47 (.pick (.tmp 37) (.const (.bool true)) (.tmp 46)) 34 true, .o 48 (.pick (.tmp 34) (.tmp 47) (.const (.bool false)))]) (.cond (.tmp 48) (.region [.m 49 9, .m 8 49]) .skip))) (.region [.m 27 9, .o 28 (.c .sub 27 1), .m 9 28])))
def c50L1:ACode:=(.seq (.seq (.region [.m 17 7, .m 18 1, .o 19 (.b .lss 17 18)]) (.cond (.tmp 19) .skip (.exit 0))) (.seq (.block 1 [1,5,6,7] (.seq (.region [.k 8 (-1)]) (.seq (.seq (.region [.m 22 5, .o 23 (.n 22), .o 24 (.c .sub 23 1), .m 9 24]) (.block 2 [1,5,6,7,8] (.loop [1,5,6,7,8,9] c50L0))) (.region [.m 50 6, .m 51 8, .o 52 (.i 1 50 51), .n (.st 1 (.tmp 52) (.const (.bool true)))])))) (.region [.m 20 7, .o 21 (.c .add 20 1), .m 7 21])))
def c50L2:ACode:=(.seq (.seq (.region [.m 53 11, .m 54 5, .o 55 (.n 54), .o 56 (.b .lss 53 55)]) (.cond (.tmp 56) .skip (.exit 4))) (.seq (.block 5 [5,6,10,11] (.seq (.region [.m 59 6, .m 60 11, .o 61 (.i 1 59 60), .o 62 (.l 61)]) (.cond (.tmp 62) (.region [.m 63 10, .m 64 11, .o 65 (.mkSl 3 1 1 [(.tmp 64)]), .o 66 (.app 3 1 8 (.tmp 63) (.tmp 65)), .m 10 66]) .skip))) (.region [.m 57 11, .o 58 (.c .add 57 1), .m 11 58])))
def c50:ACode:=(.seq (.region [.o 4 (.mv (.const (.slice none 0 0)))]) (.seq (.region [.m 12 0, .o 13 (.q 48 [12]), .m 5 13]) (.seq (.region [.m 14 5, .o 15 (.n 14), .o 16 (.mks 4 1 1 [(.bool false)] (.tmp 15) (.tmp 15)), .m 6 16]) (.seq (.seq (.region [.k 7 0]) (.block 0 [5,6] (.loop [1,5,6,7] c50L1))) (.seq (.region [.o 10 (.mv (.const (.slice none 0 0)))]) (.seq (.seq (.region [.k 11 0]) (.block 4 [10] (.loop [5,6,10,11] c50L2))) (.seq (.region [.m 67 10, .m 4 67]) .ret)))))))
def F50:AFun:=⟨c50,2,68,[(.tmp 4)]⟩
def K50:Nat→List Nat×List Nat
 |0=>([1,5,6,7],[5,6])
 |1=>([],[1,5,6,7])
 |2=>([1,5,6,7,8,9],[1,5,6,7,8])
 |3=>([],[1,5,6,7,8,9])
 |4=>([5,6,10,11],[10])
 |5=>([],[5,6,10,11])
 |_=>([],[])
theorem F50_ok:kj8 Try.prog K50 noRg Try.f50=some F50:=by kernel_rfl
/- 51: syndrome/polar.Best -/
def c51L0:ACode:=(.seq (.region [.o 32 (.b .lss 31 30)]) (.seq (.cond (.tmp 32) .skip (.exit 0)) (.seq (.block 1 [1,6,8,30,31] (.seq (.region [.m 33 31, .m 9 33]) (.region [.m 34 8, .m 35 9, .m 36 9, .o 37 (.i 1 34 35), .n (.st 1 (.tmp 37) (.tmp 36))]))) (.region [.o 38 (.c .add 31 1), .m 31 38]))))
def c51:ACode:=(.seq (.region [.o 4 (.mv (.const (.slice none 0 0))), .k 5 0]) (.seq (.region [.m 11 0, .o 12 (.q 49 [11]), .m 10 12, .o 13 (.e 0 10), .o 14 (.e 1 10), .o 6 (.alloc 28 [(.slice none 0 0)]), .n (.st 1 (.tmp 6) (.tmp 13)), .m 7 14]) (.seq (.seq (.region [.m 15 7, .o 16 (.c .neq 15 0)]) (.cond (.tmp 16) (.seq (.region [.m 17 7, .o 4 (.mv (.const (.slice none 0 0))), .m 5 17]) .ret) .skip)) (.seq (.seq (.region [.m 18 1, .o 19 (.c .lss 18 0), .m 20 19, .g 21 (.m 1) 20 false, .g 22 (.l 6) 20 false, .g 23 (.n 22) 20 false, .g 24 (.b .gtr 21 23) 20 false, .o 25 (.pick (.tmp 20) (.const (.bool true)) (.tmp 24))]) (.cond (.tmp 25) (.seq (.region [.o 4 (.mv (.const (.slice none 0 0))), .k 5 6]) .ret) .skip)) (.seq (.region [.o 26 (.l 6), .o 27 (.n 26), .o 28 (.mks 3 1 8 [(.int .i64 0)] (.tmp 27) (.tmp 27)), .m 8 28]) (.seq (.seq (.region [.m 29 8, .o 30 (.n 29), .k 31 0]) (.block 0 [1,6,8] (.loop [1,6,8,30,31] c51L0))) (.seq (.region [.m 39 8, .o 40 (.mkf 105 [(.tmp 6)]), .o 41 (.q 104 [39,40])]) (.seq (.region [.m 42 8, .m 43 1, .m 44 1, .o 45 (.sl3 (.tmp 42) (.tmp 43) (.tmp 44)), .m 8 45]) (.seq (.region [.m 46 8, .o 47 (.q 106 [46])]) (.seq (.region [.m 48 8, .m 4 48, .k 5 0]) .ret))))))))))
def F51:AFun:=⟨c51,2,49,[(.tmp 4),(.tmp 5)]⟩
def K51:Nat→List Nat×List Nat
 |0=>([1,6,8,30,31],[1,6,8])
 |1=>([],[1,6,8,30,31])
 |_=>([],[])
theorem F51_ok:kj8 Try.prog K51 noRg Try.f51=some F51:=by kernel_rfl
/- 52: syndrome/syndromeref.Bits -/
def c52L0:ACode:=(.seq (.seq (.region [.m 6 5, .m 7 0, .o 8 (.n 7), .o 9 (.b .lss 6 8)]) (.cond (.tmp 9) .skip (.exit 0))) (.seq (.block 1 [0,1,5] (.seq (.region [.m 12 0, .m 13 5, .o 14 (.i 1 12 13), .o 15 (.l 14), .o 16 (.c .gtr 15 1), .m 17 16, .g 18 (.m 0) 17 false, .g 19 (.m 5) 17 false, .g 20 (.i 1 18 19) 17 false, .g 21 (.l 20) 17 false, .g 22 (.c .lss 21 (-1)) 17 false, .o 23 (.pick (.tmp 17) (.const (.bool true)) (.tmp 22)), .m 24 23, .g 25 (.m 0) 24 false, .g 26 (.m 5) 24 false, .g 27 (.i 1 25 26) 24 false, .g 28 (.l 27) 24 false, .g 29 (.c .eql 28 (-1)) 24 false, .g 30 (.m 29) 24 false, .g 31 (.m 1) 30 true, .g 32 (.un .not (.tmp 31)) 30 true, .g 33 (.pick (.tmp 30) (.tmp 32) (.const (.bool false))) 24 false, .o 34 (.pick (.tmp 24) (.const (.bool true)) (.tmp 33))]) (.cond (.tmp 34) (.seq (.region [.o 4 (.mv (.const (.bool false)))]) .ret) .skip))) (.region [.m 10 5, .o 11 (.c .add 10 1), .m 5 11])))
def c52:ACode:=(.seq (.region [.o 4 (.mv (.const (.bool false)))]) (.seq (.seq (.region [.k 5 0]) (.block 0 [] (.loop [0,1,5] c52L0))) (.seq (.region [.o 4 (.mv (.const (.bool true)))]) .ret)))
def F52:AFun:=⟨c52,2,35,[(.tmp 4)]⟩
def K52:Nat→List Nat×List Nat
 |0=>([0,1,5],[])
 |1=>([],[0,1,5])
 |_=>([],[])
theorem F52_ok:kj8 Try.prog K52 noRg Try.f52=some F52:=by kernel_rfl
/- 53: syndrome/syndromeref.Polar -/
def c53L0:ACode:=(.seq (.seq (.region [.m 15 5, .m 16 0, .o 17 (.n 16), .o 18 (.b .lss 15 17)]) (.cond (.tmp 18) .skip (.exit 2))) (.seq (.block 3 [0,3,4,5] (.seq (.region [.m 21 4, .m 22 5, .o 23 (.b .and 21 22), .m 24 4, .o 25 (.b .eql 23 24)]) (.cond (.tmp 25) (.region [.m 26 3, .m 27 4, .m 28 3, .m 29 4, .o 30 (.i 1 28 29), .o 31 (.l 30), .m 32 0, .m 33 5, .o 34 (.i 1 32 33), .o 35 (.l 34), .o 36 (.b .add 31 35), .o 37 (.c .rem 36 2), .o 38 (.i 1 26 27), .n (.st 1 (.tmp 38) (.tmp 37))]) .skip))) (.region [.m 19 5, .o 20 (.c .add 19 1), .m 5 20])))
def c53L1:ACode:=(.seq (.seq (.region [.m 9 4, .m 10 0, .o 11 (.n 10), .o 12 (.b .lss 9 11)]) (.cond (.tmp 12) .skip (.exit 0))) (.seq (.block 1 [0,3,4] (.seq (.region [.k 5 0]) (.block 2 [0,3,4] (.loop [0,3,4,5] c53L0)))) (.region [.m 13 4, .o 14 (.c .add 13 1), .m 4 14])))
def c53:ACode:=(.seq (.region [.o 2 (.mv (.const (.slice none 0 0)))]) (.seq (.region [.m 6 0, .o 7 (.n 6), .o 8 (.mks 3 1 8 [(.int .i64 0)] (.tmp 7) (.tmp 7)), .m 3 8]) (.seq (.seq (.region [.k 4 0]) (.block 0 [3] (.loop [0,3,4] c53L1))) (.seq (.region [.m 39 3, .m 2 39]) .ret))))
def F53:AFun:=⟨c53,1,40,[(.tmp 2)]⟩
def K53:Nat→List Nat×List Nat
 |0=>([0,3,4],[3])
 |1=>([],[0,3,4])
 |2=>([0,3,4,5],[0,3,4])
 |3=>([],[0,3,4,5])
 |_=>([],[])
theorem F53_ok:kj8 Try.prog K53 noRg Try.f53=some F53:=by kernel_rfl
/- 54: syndrome/polar.Transform -/
def c54:ACode:=(.seq (.region [.o 4 (.mv (.const (.slice none 0 0))), .k 5 0]) (.seq (.seq (.region [.m 7 0, .o 8 (.q 103 [7]), .m 6 8]) (.seq (.region [.m 9 6, .o 10 (.c .neq 9 0)]) (.cond (.tmp 10) (.seq (.region [.m 11 6, .o 4 (.mv (.const (.slice none 0 0))), .m 5 11]) .ret) .skip))) (.seq (.seq (.region [.m 12 1, .o 13 (.n 12), .m 14 0, .o 15 (.bin .shl (.const (.int .i64 1)) (.tmp 14)), .o 16 (.b .neq 13 15)]) (.cond (.tmp 16) (.seq (.region [.o 4 (.mv (.const (.slice none 0 0))), .k 5 6]) .ret) .skip)) (.seq (.seq (.region [.m 17 1, .o 18 (.call 95 [(.tmp 17),(.func 107)])]) (.cond (.tmp 18) (.seq (.region [.o 4 (.mv (.const (.slice none 0 0))), .k 5 2]) .ret) .skip)) (.seq (.region [.m 19 1, .o 20 (.q 108 [19]), .m 4 20, .k 5 0]) .ret)))))
def F54:AFun:=⟨c54,2,21,[(.tmp 4),(.tmp 5)]⟩
def K54:Nat→List Nat×List Nat
 |_=>([],[])
theorem F54_ok:kj8 Try.prog K54 noRg Try.f54=some F54:=by kernel_rfl
/- 55: syndrome/syndromeref.PolarMay -/
def c55:ACode:=(.seq (.region [.k 4 0]) (.seq (.seq (.region [.m 5 0, .o 6 (.c .lss 5 0), .m 7 6, .g 8 (.m 0) 7 false, .g 9 (.c .gtr 8 5) 7 false, .o 10 (.pick (.tmp 7) (.const (.bool true)) (.tmp 9))]) (.cond (.tmp 10) (.seq (.region [.k 4 4]) .ret) .skip)) (.seq (.seq (.region [.m 11 1, .o 12 (.n 11), .m 13 0, .o 14 (.bin .shl (.const (.int .i64 1)) (.tmp 13)), .o 15 (.b .gtr 12 14)]) (.cond (.tmp 15) (.seq (.region [.k 4 6]) .ret) .skip)) (.seq (.seq (.region [.m 16 1, .o 17 (.call 52 [(.tmp 16),(.const (.bool false))]), .o 18 (.un .not (.tmp 17))]) (.cond (.tmp 18) (.seq (.region [.k 4 2]) .ret) .skip)) (.seq (.region [.k 4 0]) .ret)))))
def F55:AFun:=⟨c55,2,19,[(.tmp 4)]⟩
def K55:Nat→List Nat×List Nat
 |_=>([],[])
theorem F55_ok:kj8 Try.prog K55 noRg Try.f55=some F55:=by kernel_rfl
/- 56: syndrome/syndromeref.PolarWord -/
def c56L0:ACode:=(.seq (.seq (.region [.m 15 7, .m 16 6, .o 17 (.n 16), .o 18 (.b .lss 15 17)]) (.cond (.tmp 18) .skip (.exit 0))) (.seq (.block 1 [1,5,6,7] (.region [.m 21 5, .m 22 6, .m 23 7, .o 24 (.i 1 22 23), .o 25 (.l 24), .m 26 1, .m 27 7, .o 28 (.i 1 26 27), .o 29 (.l 28), .o 30 (.i 1 21 25), .n (.st 1 (.tmp 30) (.tmp 29))])) (.region [.m 19 7, .o 20 (.c .add 19 1), .m 7 20])))
def c56:ACode:=(.seq (.region [.o 4 (.mv (.const (.slice none 0 0)))]) (.seq (.region [.m 8 0, .o 9 (.bin .shl (.const (.int .i64 1)) (.tmp 8)), .o 10 (.mks 3 1 8 [(.int .i64 0)] (.tmp 9) (.tmp 9)), .m 5 10]) (.seq (.region [.m 11 0, .m 12 1, .o 13 (.n 12), .o 14 (.q 50 [11,13]), .m 6 14]) (.seq (.seq (.region [.k 7 0]) (.block 0 [5] (.loop [1,5,6,7] c56L0))) (.seq (.region [.m 31 5, .o 32 (.q 53 [31]), .m 4 32]) .ret)))))
def F56:AFun:=⟨c56,2,33,[(.tmp 4)]⟩
def K56:Nat→List Nat×List Nat
 |0=>([1,5,6,7],[5])
 |1=>([],[1,5,6,7])
 |_=>([],[])
theorem F56_ok:kj8 Try.prog K56 noRg Try.f56=some F56:=by kernel_rfl
/- 57: syndrome/polar.Encode -/
def c57L0:ACode:=(.seq (.region [.o 27 (.b .lss 26 25)]) (.seq (.cond (.tmp 27) .skip (.exit 0)) (.seq (.block 1 [0,1,8,24,25,26] (.seq (.region [.m 28 26, .o 29 (.i 1 24 26), .o 30 (.l 29), .m 9 28, .m 10 30]) (.region [.m 31 8, .m 32 10, .m 33 1, .m 34 9, .o 35 (.i 1 33 34), .o 36 (.l 35), .o 37 (.i 1 31 32), .n (.st 1 (.tmp 37) (.tmp 36))]))) (.region [.o 38 (.c .add 26 1), .m 26 38]))))
def c57:ACode:=(.seq (.region [.o 4 (.mv (.const (.slice none 0 0))), .k 5 0]) (.seq (.region [.m 12 0, .m 13 1, .o 14 (.n 13), .o 15 (.q 51 [12,14]), .m 11 15, .o 16 (.e 0 11), .o 17 (.e 1 11), .m 6 16, .m 7 17]) (.seq (.seq (.region [.m 18 7, .o 19 (.c .neq 18 0)]) (.cond (.tmp 19) (.seq (.region [.m 20 7, .o 4 (.mv (.const (.slice none 0 0))), .m 5 20]) .ret) .skip)) (.seq (.region [.m 21 0, .o 22 (.bin .shl (.const (.int .i64 1)) (.tmp 21)), .o 23 (.mks 3 1 8 [(.int .i64 0)] (.tmp 22) (.tmp 22)), .m 8 23]) (.seq (.seq (.region [.m 24 6, .o 25 (.n 24), .k 26 0]) (.block 0 [0,8] (.loop [0,1,8,24,25,26] c57L0))) (.seq (.region [.m 39 0, .m 40 8, .o 41 (.q 54 [39,40]), .o 42 (.e 0 41), .o 43 (.e 1 41), .m 4 42, .m 5 43]) .ret))))))
def F57:AFun:=⟨c57,2,44,[(.tmp 4),(.tmp 5)]⟩
def K57:Nat→List Nat×List Nat
 |0=>([0,1,8,24,25,26],[0,8])
 |1=>([],[0,1,8,24,25,26])
 |_=>([],[])
theorem F57_ok:kj8 Try.prog K57 noRg Try.f57=some F57:=by kernel_rfl
/- 58: syndrome/syndromelaw.polarReads -/
def c58L0:ACode:=(.seq (.seq (.region [.m 54 19, .m 55 3, .o 56 (.n 55), .o 57 (.b .lss 54 56), .m 58 57, .g 59 (.m 18) 58 true, .o 60 (.pick (.tmp 58) (.tmp 59) (.const (.bool false)))]) (.cond (.tmp 60) .skip (.exit 0))) (.seq (.block 1 [3,4,11,12,13,14,15,16,18,19] (.region [.m 63 14, .m 64 16, .m 65 3, .m 66 19, .o 67 (.i 1 65 66), .o 68 (.l 67), .o 69 (.i 1 64 68), .o 70 (.l 69), .o 71 (.mkSl 3 1 1 [(.tmp 70)]), .o 72 (.app 3 1 8 (.tmp 63) (.tmp 71)), .m 14 72])) (.region [.m 61 19, .o 62 (.c .add 61 1), .m 19 62])))
def c58:ACode:=(.seq (.region [.o 10 (.mv (.const (.bool false)))]) (.seq (.seq (.region [.m 20 4, .o 21 (.c .eql 20 0), .m 22 21, .g 23 (.m 2) 22 true, .g 24 (.n 23) 22 true, .g 25 (.m 0) 22 true, .g 26 (.bin .shl (.const (.int .i64 1)) (.tmp 25)) 22 true, .g 27 (.b .neq 24 26) 22 true, .o 28 (.pick (.tmp 22) (.tmp 27) (.const (.bool false)))]) (.cond (.tmp 28) (.region [.k 4 6]) .skip)) (.seq (.seq (.region [.m 29 4, .o 30 (.c .eql 29 0), .m 31 30, .g 32 (.m 2) 31 true, .g 33 (.call 52 [(.tmp 32),(.const (.bool true))]) 31 true, .g 34 (.un .not (.tmp 33)) 31 true, .o 35 (.pick (.tmp 31) (.tmp 34) (.const (.bool false)))]) (.cond (.tmp 35) (.region [.k 4 2]) .skip)) (.seq (.region [.m 37 0, .m 38 1, .m 39 2, .o 40 (.q 60 [37,38,39]), .m 36 40, .o 41 (.e 0 36), .o 42 (.e 1 36), .o 43 (.e 2 36), .m 11 41, .m 12 42, .m 13 43]) (.seq (.region [.o 14 (.mv (.const (.slice none 0 0)))]) (.seq (.region [.o 15 (.mv (.const (.bool false)))]) (.seq (.seq (.region [.m 44 4, .o 45 (.c .eql 44 0)]) (.cond (.tmp 45) (.seq (.region [.m 47 2, .m 48 3, .o 49 (.call 109 [(.tmp 47),(.tmp 48),(.const (.int .i64 0))]), .m 46 49, .o 50 (.e 0 46), .o 51 (.e 1 46), .o 52 (.e 2 46), .m 16 50, .m 17 51, .m 18 52]) (.seq (.region [.m 53 18, .m 15 53]) (.seq (.region [.k 19 0]) (.block 0 [4,11,12,13,14,15] (.loop [3,4,11,12,13,14,15,16,18,19] c58L0))))) .skip)) (.seq (.region [.m 73 13, .m 74 4, .o 75 (.b .eql 73 74), .m 76 75, .g 77 (.m 12) 76 true, .g 78 (.m 15) 76 true, .g 79 (.eqb false (.tmp 77) (.tmp 78)) 76 true, .o 80 (.pick (.tmp 76) (.tmp 79) (.const (.bool false))), .m 81 80, .g 82 (.m 11) 81 true, .g 83 (.m 14) 81 true, .g 84 (.q 28 [82,83]) 81 true, .o 85 (.pick (.tmp 81) (.tmp 84) (.const (.bool false))), .m 10 85]) .ret))))))))
def F58:AFun:=⟨c58,5,86,[(.tmp 10)]⟩
def K58:Nat→List Nat×List Nat
 |0=>([3,4,11,12,13,14,15,16,18,19],[4,11,12,13,14,15])
 |1=>([],[3,4,11,12,13,14,15,16,18,19])
 |_=>([],[])
theorem F58_ok:kj8 Try.prog K58 noRg Try.f58=some F58:=by kernel_rfl
/- 59: syndrome/syndromeref.Raw -/
def c59:ACode:=(.seq (.region [.k 4 0]) (.seq (.seq (.region [.m 5 0, .o 6 (.n 5), .o 7 (.c .eql 6 0)]) (.cond (.tmp 7) (.seq (.region [.m 8 1, .m 4 8]) .ret) .skip)) (.seq (.region [.m 9 0, .m 10 1, .m 11 0, .o 12 (.n 11), .o 13 (.b .rem 10 12), .o 14 (.i 1 9 13), .o 15 (.l 14), .m 16 1, .m 17 0, .o 18 (.n 17), .o 19 (.b .quo 16 18), .o 20 (.c .mul 19 7919), .o 21 (.b .add 15 20), .m 4 21]) .ret)))
def F59:AFun:=⟨c59,2,22,[(.tmp 4)]⟩
def K59:Nat→List Nat×List Nat
 |_=>([],[])
theorem F59_ok:kj8 Try.prog K59 noRg Try.f59=some F59:=by kernel_rfl
/- 60: syndrome/polar.Decode -/
def c60L0:ACode:=(.seq (.region [.o 39 (.b .lss 38 37)]) (.seq (.cond (.tmp 39) .skip (.exit 0)) (.seq (.block 1 [1,2,9,10,36,37,38] (.seq (.region [.o 40 (.i 1 36 38), .o 41 (.l 40), .m 12 41]) (.region [.m 42 10, .o 43 (.nilck (.tmp 42)), .o 44 (.f 0 43), .o 45 (.l 44), .m 46 12, .o 47 (.i 1 45 46), .n (.st 1 (.tmp 47) (.const (.bool true)))]))) (.region [.o 48 (.c .add 38 1), .m 38 48]))))
def c60L1:ACode:=(.seq (.region [.o 61 (.b .lss 60 59)]) (.seq (.cond (.tmp 61) .skip (.exit 2)) (.seq (.block 3 [6,10,58,59,60] (.seq (.region [.o 62 (.i 1 58 60), .o 63 (.l 62), .m 14 63]) (.region [.m 64 6, .m 65 10, .o 66 (.nilck (.tmp 65)), .o 67 (.f 1 66), .o 68 (.l 67), .m 69 14, .o 70 (.i 1 68 69), .o 71 (.l 70), .o 72 (.mkSl 3 1 1 [(.tmp 71)]), .o 73 (.app 3 1 8 (.tmp 64) (.tmp 72)), .m 6 73]))) (.region [.o 74 (.c .add 60 1), .m 60 74]))))
def c60:ACode:=(.seq (.region [.o 6 (.mv (.const (.slice none 0 0))), .o 7 (.mv (.const (.bool false))), .k 8 0]) (.seq (.region [.m 16 0, .m 17 1, .o 18 (.q 51 [16,17]), .m 15 18, .o 19 (.e 0 15), .o 20 (.e 1 15), .m 9 19, .m 8 20]) (.seq (.seq (.region [.m 21 8, .o 22 (.c .neq 21 0)]) (.cond (.tmp 22) (.seq (.region [.m 23 8, .o 6 (.mv (.const (.slice none 0 0))), .o 7 (.mv (.const (.bool false))), .m 8 23]) .ret) .skip)) (.seq (.seq (.region [.m 24 2, .o 25 (.n 24), .m 26 0, .o 27 (.bin .shl (.const (.int .i64 1)) (.tmp 26)), .o 28 (.b .neq 25 27)]) (.cond (.tmp 28) (.seq (.region [.o 6 (.mv (.const (.slice none 0 0))), .o 7 (.mv (.const (.bool false))), .k 8 6]) .ret) .skip)) (.seq (.seq (.region [.m 29 2, .o 30 (.call 95 [(.tmp 29),(.func 110)])]) (.cond (.tmp 30) (.seq (.region [.o 6 (.mv (.const (.slice none 0 0))), .o 7 (.mv (.const (.bool false))), .k 8 2]) .ret) .skip)) (.seq (.region [.m 31 0, .o 32 (.bin .shl (.const (.int .i64 1)) (.tmp 31)), .o 33 (.mks 4 1 1 [(.bool false)] (.tmp 32) (.tmp 32)), .o 34 (.build [(.slice none 0 0),(.slice none 0 0),(.bool false)] [(0,1),(1,1),(2,1)] [(0,(.tmp 33))]), .o 35 (.box 128 3 (.tmp 34)), .m 10 35]) (.seq (.seq (.region [.m 36 9, .o 37 (.n 36), .k 38 0]) (.block 0 [1,2,9,10] (.loop [1,2,9,10,36,37,38] c60L0))) (.seq (.region [.m 49 10, .m 50 2, .o 51 (.q 111 [49,50])]) (.seq (.seq (.region [.m 52 10, .o 53 (.nilck (.tmp 52)), .o 54 (.f 2 53), .o 55 (.l 54)]) (.cond (.tmp 55) (.seq (.region [.o 6 (.mv (.const (.slice none 0 0))), .o 7 (.mv (.const (.bool false))), .k 8 0]) .ret) .skip)) (.seq (.region [.m 56 1, .o 57 (.mks 3 1 8 [(.int .i64 0)] (.const (.int .i64 0)) (.tmp 56)), .m 6 57]) (.seq (.seq (.region [.m 58 9, .o 59 (.n 58), .k 60 0]) (.block 2 [6] (.loop [6,10,58,59,60] c60L1))) (.seq (.region [.m 75 6, .m 6 75, .o 7 (.mv (.const (.bool true))), .k 8 0]) .ret))))))))))))
def F60:AFun:=⟨c60,3,76,[(.tmp 6),(.tmp 7),(.tmp 8)]⟩
def K60:Nat→List Nat×List Nat
 |0=>([1,2,9,10,36,37,38],[1,2,9,10])
 |1=>([],[1,2,9,10,36,37,38])
 |2=>([6,10,58,59,60],[6])
 |3=>([],[6,10,58,59,60])
 |_=>([],[])
theorem F60_ok:kj8 Try.prog K60 noRg Try.f60=some F60:=by kernel_rfl
/- 92: slices.Clone[[]int,int] -/
def c92:ACode:=(.seq (.region [.o 2 (.mv (.const (.slice none 0 0)))]) (.seq (.seq (.region [.m 3 0, .o 4 (.eqn false 0 (.tmp 3))]) (.cond (.tmp 4) (.seq (.region [.o 2 (.mv (.const (.slice none 0 0)))]) .ret) .skip)) (.seq (.region [.o 5 (.mkSl 3 1 0 []), .m 6 0, .o 7 (.app 3 1 8 (.tmp 5) (.tmp 6)), .m 2 7]) .ret)))
def F92:AFun:=⟨c92,1,8,[(.tmp 2)]⟩
def K92:Nat→List Nat×List Nat
 |_=>([],[])
theorem F92_ok:kj8 Try.prog K92 noRg Try.f92=some F92:=by kernel_rfl
/- 95: slices.ContainsFunc[[]int,int] -/
def c95:ACode:=(.seq (.region [.o 4 (.mv (.const (.bool false)))]) (.seq (.region [.m 5 0, .m 6 1, .o 7 (.q 141 [5,6]), .o 8 (.c .geq 7 0), .m 4 8]) .ret))
def F95:AFun:=⟨c95,2,9,[(.tmp 4)]⟩
def K95:Nat→List Nat×List Nat
 |_=>([],[])
theorem F95_ok:kj8 Try.prog K95 noRg Try.f95=some F95:=by kernel_rfl
/- 103: syndrome/polar.level -/
def c103:ACode:=(.seq (.region [.k 2 0]) (.seq (.seq (.region [.m 3 0, .o 4 (.c .lss 3 0), .m 5 4, .g 6 (.m 0) 5 false, .g 7 (.c .gtr 6 5) 5 false, .o 8 (.pick (.tmp 5) (.const (.bool true)) (.tmp 7))]) (.cond (.tmp 8) (.seq (.region [.k 2 4]) .ret) .skip)) (.seq (.region [.k 2 0]) .ret)))
def F103:AFun:=⟨c103,1,9,[(.tmp 2)]⟩
def K103:Nat→List Nat×List Nat
 |_=>([],[])
theorem F103_ok:kj8 Try.prog K103 noRg Try.f103=some F103:=by kernel_rfl
/- 104: slices.SortStableFunc[[]int,int] -/
def c104:ACode:=(.region [.m 4 0, .m 5 0, .o 6 (.n 5), .m 7 1, .o 8 (.q 145 [4,6,7])])
def F104:AFun:=⟨c104,2,9,[]⟩
def K104:Nat→List Nat×List Nat
 |_=>([],[])
theorem F104_ok:kj8 Try.prog K104 noRg Try.f104=some F104:=by kernel_rfl
/- 105: syndrome/polar.Best$1 -/
def c105:ACode:=(.seq (.region [.k 5 0]) (.seq (.seq (.region [.o 6 (.l 2), .m 7 0, .o 8 (.i 1 6 7), .o 9 (.l 8), .o 10 (.l 2), .m 11 1, .o 12 (.i 1 10 11), .o 13 (.l 12), .o 14 (.b .neq 9 13)]) (.cond (.tmp 14) (.seq (.region [.o 15 (.l 2), .m 16 0, .o 17 (.i 1 15 16), .o 18 (.l 17), .o 19 (.l 2), .m 20 1, .o 21 (.i 1 19 20), .o 22 (.l 21), .o 23 (.b .sub 18 22), .m 5 23]) .ret) .skip)) (.seq (.region [.m 24 1, .m 25 0, .o 26 (.b .sub 24 25), .m 5 26]) .ret)))
def F105:AFun:=⟨c105,3,27,[(.tmp 5)]⟩
def K105:Nat→List Nat×List Nat
 |_=>([],[])
theorem F105_ok:kj8 Try.prog K105 noRg Try.f105=some F105:=by kernel_rfl
/- 106: slices.Sort[[]int,int] -/
def c106:ACode:=(.seq (.region [.m 3 0, .o 4 (.n 3), .m 2 4]) (.region [.m 5 0, .m 6 2, .m 7 2, .o 8 (.conv .u64 (.tmp 7)), .o 9 (.q 143 [8]), .o 10 (.call 146 [(.tmp 5),(.const (.int .i64 0)),(.tmp 6),(.tmp 9)])]))
def F106:AFun:=⟨c106,1,11,[]⟩
def K106:Nat→List Nat×List Nat
 |_=>([],[])
theorem F106_ok:kj8 Try.prog K106 noRg Try.f106=some F106:=by kernel_rfl
/- 107: syndrome/polar.Transform$1 -/
def c107:ACode:=(.seq (.region [.o 2 (.mv (.const (.bool false)))]) (.seq (.region [.m 3 0, .o 4 (.c .neq 3 0), .m 5 4, .g 6 (.m 0) 5 true, .g 7 (.c .neq 6 1) 5 true, .o 8 (.pick (.tmp 5) (.tmp 7) (.const (.bool false))), .m 2 8]) .ret))
def F107:AFun:=⟨c107,1,9,[(.tmp 2)]⟩
def K107:Nat→List Nat×List Nat
 |_=>([],[])
theorem F107_ok:kj8 Try.prog K107 noRg Try.f107=some F107:=by kernel_rfl
/- 108: syndrome/polar.transform -/
def c108L0:ACode:=(.seq (.region [.o 26 (.b .lss 25 24)]) (.seq (.cond (.tmp 26) .skip (.exit 0)) (.seq (.block 1 [3,4,24,25] (.seq (.region [.m 27 25, .m 5 27]) (.region [.m 28 3, .m 29 5, .o 30 (.i 1 28 29), .o 31 (.l 30), .m 32 4, .m 33 5, .o 34 (.i 1 32 33), .o 35 (.l 34), .o 36 (.b .xor 31 35), .o 37 (.i 1 28 29), .n (.st 1 (.tmp 37) (.tmp 36))]))) (.region [.o 38 (.c .add 25 1), .m 25 38]))))
def c108:ACode:=(.seq (.region [.o 2 (.mv (.const (.slice none 0 0)))]) (.seq (.seq (.region [.m 6 0, .o 7 (.n 6), .o 8 (.c .eql 7 1)]) (.cond (.tmp 8) (.seq (.region [.m 9 0, .o 10 (.q 92 [9]), .m 2 10]) .ret) .skip)) (.seq (.region [.m 11 0, .m 12 0, .o 13 (.n 12), .o 14 (.c .quo 13 2), .o 15 (.sl 1 (.tmp 11) none (some (.tmp 14))),⟨(some 16),(.call 108 [(.tmp 15)]),none,true⟩, .m 17 0, .m 18 0, .o 19 (.n 18), .o 20 (.c .quo 19 2), .o 21 (.sl 1 (.tmp 17) (some (.tmp 20)) none), .o 22 (.q 108 [21]), .m 3 16, .m 4 22]) (.seq (.seq (.region [.m 23 3, .o 24 (.n 23), .k 25 0]) (.block 0 [3,4] (.loop [3,4,24,25] c108L0))) (.seq (.region [.m 39 3, .m 40 4, .o 41 (.app 3 1 8 (.tmp 39) (.tmp 40)), .m 2 41]) .ret)))))
def F108:AFun:=⟨c108,1,42,[(.tmp 2)]⟩
def K108:Nat→List Nat×List Nat
 |0=>([3,4,24,25],[3,4])
 |1=>([],[3,4,24,25])
 |_=>([],[])
theorem F108_ok:kj8 Try.prog K108 noRg Try.f108=some F108:=by kernel_rfl
/- 109: syndrome/syndromeref.PolarRead -/
def c109L0:ACode:=(.seq (.seq (.region [.m 45 12, .m 46 10, .o 47 (.b .lss 45 46)]) (.cond (.tmp 47) .skip (.exit 0))) (.seq (.block 1 [0,1,2,10,11,12] (.seq (.region [.k 13 (-1)]) (.seq (.seq (.region [.m 50 0, .m 51 12, .o 52 (.i 1 50 51), .o 53 (.l 52), .o 54 (.c .geq 53 0), .m 55 54, .g 56 (.m 0) 55 true, .g 57 (.m 10) 55 true, .g 58 (.m 12) 55 true, .g 59 (.b .add 57 58) 55 true, .g 60 (.i 1 56 59) 55 true, .g 61 (.l 60) 55 true, .g 62 (.c .geq 61 0) 55 true, .o 63 (.pick (.tmp 55) (.tmp 62) (.const (.bool false)))]) (.cond (.tmp 63) (.region [.m 64 0, .m 65 12, .o 66 (.i 1 64 65), .o 67 (.l 66), .m 68 0, .m 69 10, .m 70 12, .o 71 (.b .add 69 70), .o 72 (.i 1 68 71), .o 73 (.l 72), .o 74 (.b .add 67 73), .o 75 (.c .rem 74 2), .m 13 75]) .skip)) (.region [.m 76 11, .m 77 13, .o 78 (.mkSl 3 1 1 [(.tmp 77)]), .o 79 (.app 3 1 8 (.tmp 76) (.tmp 78)), .m 11 79])))) (.region [.m 48 12, .o 49 (.c .add 48 1), .m 12 49])))
def c109L1:ACode:=(.seq (.seq (.region [.m 90 18, .m 91 10, .o 92 (.b .lss 90 91)]) (.cond (.tmp 92) .skip (.exit 2))) (.seq (.block 3 [0,1,2,10,14,15,17,18] (.seq (.region [.m 95 0, .m 96 10, .m 97 18, .o 98 (.b .add 96 97), .o 99 (.i 1 95 98), .o 100 (.l 99), .m 19 100]) (.seq (.seq (.region [.m 101 0, .m 102 18, .o 103 (.i 1 101 102), .o 104 (.l 103), .o 105 (.c .geq 104 0)]) (.cond (.tmp 105) (.seq (.region [.m 106 0, .m 107 18, .o 108 (.i 1 106 107), .o 109 (.l 108), .m 110 15, .m 111 18, .o 112 (.i 1 110 111), .o 113 (.l 112), .o 114 (.b .add 109 113), .o 115 (.c .rem 114 2), .m 19 115]) (.seq (.region [.m 116 0, .m 117 10, .m 118 18, .o 119 (.b .add 117 118), .o 120 (.i 1 116 119), .o 121 (.l 120), .o 122 (.c .geq 121 0), .m 123 122, .g 124 (.m 0) 123 true, .g 125 (.m 10) 123 true, .g 126 (.m 18) 123 true, .g 127 (.b .add 125 126) 123 true, .g 128 (.i 1 124 127) 123 true, .g 129 (.l 128) 123 true, .g 130 (.m 19) 123 true, .g 131 (.b .neq 129 130) 123 true, .o 132 (.pick (.tmp 123) (.tmp 131) (.const (.bool false)))]) (.cond (.tmp 132) (.seq (.region [.o 6 (.mv (.const (.slice none 0 0))), .o 7 (.mv (.const (.slice none 0 0))), .o 8 (.mv (.const (.bool false)))]) .ret) .skip))) .skip)) (.region [.m 133 17, .m 134 19, .o 135 (.mkSl 3 1 1 [(.tmp 134)]), .o 136 (.app 3 1 8 (.tmp 133) (.tmp 135)), .m 17 136])))) (.region [.m 93 18, .o 94 (.c .add 93 1), .m 18 94])))
def c109L2:ACode:=(.seq (.seq (.region [.m 149 23, .m 150 10, .o 151 (.b .lss 149 150)]) (.cond (.tmp 151) .skip (.exit 4))) (.seq (.block 5 [10,14,15,20,21,22,23] (.region [.m 154 22, .m 155 15, .m 156 23, .o 157 (.i 1 155 156), .o 158 (.l 157), .m 159 21, .m 160 23, .o 161 (.i 1 159 160), .o 162 (.l 161), .o 163 (.b .add 158 162), .o 164 (.c .rem 163 2), .o 165 (.mkSl 3 1 1 [(.tmp 164)]), .o 166 (.app 3 1 8 (.tmp 154) (.tmp 165)), .m 22 166])) (.region [.m 152 23, .o 153 (.c .add 152 1), .m 23 153])))
def c109:ACode:=(.seq (.region [.o 6 (.mv (.const (.slice none 0 0))), .o 7 (.mv (.const (.slice none 0 0))), .o 8 (.mv (.const (.bool false)))]) (.seq (.seq (.region [.m 24 0, .o 25 (.n 24), .o 26 (.c .eql 25 1)]) (.cond (.tmp 26) (.seq (.region [.m 27 0, .o 28 (.iaddr 1 (.tmp 27) (.const (.int .i64 0))), .o 29 (.l 28), .m 9 29]) (.seq (.seq (.region [.m 30 2, .m 31 1, .o 32 (.q 147 [30,31]), .o 33 (.un .not (.tmp 32))]) (.cond (.tmp 33) (.seq (.seq (.region [.m 34 9, .o 35 (.c .eql 34 1)]) (.cond (.tmp 35) (.seq (.region [.o 6 (.mv (.const (.slice none 0 0))), .o 7 (.mv (.const (.slice none 0 0))), .o 8 (.mv (.const (.bool false)))]) .ret) .skip)) (.region [.k 9 0])) .skip)) (.seq (.region [.m 36 9, .o 37 (.mkSl 3 1 1 [(.tmp 36)]), .m 38 9, .o 39 (.mkSl 3 1 1 [(.tmp 38)]), .m 40 9, .o 41 (.c .geq 40 0), .m 6 37, .m 7 39, .m 8 41]) .ret))) .skip)) (.seq (.region [.m 42 0, .o 43 (.n 42), .o 44 (.c .quo 43 2), .m 10 44]) (.seq (.region [.o 11 (.mv (.const (.slice none 0 0)))]) (.seq (.seq (.region [.k 12 0]) (.block 0 [0,1,2,10,11] (.loop [0,1,2,10,11,12] c109L0))) (.seq (.region [.m 81 11, .m 82 1, .m 83 2, .o 84 (.q 109 [81,82,83]), .m 80 84, .o 85 (.e 0 80), .o 86 (.e 1 80), .o 87 (.e 2 80), .m 14 85, .m 15 86, .m 16 87]) (.seq (.seq (.region [.m 88 16, .o 89 (.un .not (.tmp 88))]) (.cond (.tmp 89) (.seq (.region [.o 6 (.mv (.const (.slice none 0 0))), .o 7 (.mv (.const (.slice none 0 0))), .o 8 (.mv (.const (.bool false)))]) .ret) .skip)) (.seq (.region [.o 17 (.mv (.const (.slice none 0 0)))]) (.seq (.seq (.region [.k 18 0]) (.block 2 [1,2,10,14,15,17] (.loop [0,1,2,10,14,15,17,18] c109L1))) (.seq (.region [.m 138 17, .m 139 1, .m 140 2, .m 141 10, .o 142 (.b .add 140 141), .o 143 (.q 109 [138,139,142]), .m 137 143, .o 144 (.e 0 137), .o 145 (.e 1 137), .o 146 (.e 2 137), .m 20 144, .m 21 145, .m 16 146]) (.seq (.seq (.region [.m 147 16, .o 148 (.un .not (.tmp 147))]) (.cond (.tmp 148) (.seq (.region [.o 6 (.mv (.const (.slice none 0 0))), .o 7 (.mv (.const (.slice none 0 0))), .o 8 (.mv (.const (.bool false)))]) .ret) .skip)) (.seq (.region [.o 22 (.mv (.const (.slice none 0 0)))]) (.seq (.seq (.region [.k 23 0]) (.block 4 [14,20,21,22] (.loop [10,14,15,20,21,22,23] c109L2))) (.seq (.region [.m 167 14, .m 168 20, .o 169 (.app 3 1 8 (.tmp 167) (.tmp 168)), .m 170 22, .m 171 21, .o 172 (.app 3 1 8 (.tmp 170) (.tmp 171)), .m 6 169, .m 7 172, .o 8 (.mv (.const (.bool true)))]) .ret))))))))))))))
def F109:AFun:=⟨c109,3,173,[(.tmp 6),(.tmp 7),(.tmp 8)]⟩
def K109:Nat→List Nat×List Nat
 |0=>([0,1,2,10,11,12],[0,1,2,10,11])
 |1=>([],[0,1,2,10,11,12])
 |2=>([0,1,2,10,14,15,17,18],[1,2,10,14,15,17])
 |3=>([],[0,1,2,10,14,15,17,18])
 |4=>([10,14,15,20,21,22,23],[14,20,21,22])
 |5=>([],[10,14,15,20,21,22,23])
 |_=>([],[])
theorem F109_ok:kj8 Try.prog K109 noRg Try.f109=some F109:=by kernel_rfl
/- 110: syndrome/polar.Decode$1 -/
def c110:ACode:=(.seq (.region [.o 2 (.mv (.const (.bool false)))]) (.seq (.region [.m 3 0, .o 4 (.c .lss 3 (-1)), .m 5 4, .g 6 (.m 0) 5 false, .g 7 (.c .gtr 6 1) 5 false, .o 8 (.pick (.tmp 5) (.const (.bool true)) (.tmp 7)), .m 2 8]) .ret))
def F110:AFun:=⟨c110,1,9,[(.tmp 2)]⟩
def K110:Nat→List Nat×List Nat
 |_=>([],[])
theorem F110_ok:kj8 Try.prog K110 noRg Try.f110=some F110:=by kernel_rfl
/- 111: (*syndrome/polar.decoder).read -/
def c111L0:ACode:=(.seq (.region [.o 75 (.b .lss 74 73)]) (.seq (.cond (.tmp 75) .skip (.exit 0)) (.seq (.block 1 [0,1,6,7,73,74] (.seq (.region [.m 76 74, .m 8 76]) (.seq (.region [.m 77 7, .m 78 8, .o 79 (.i 1 77 78), .n (.st 1 (.tmp 79) (.const (.int .i64 (-1))))]) (.seq (.region [.m 80 1, .m 81 8, .o 82 (.i 1 80 81), .o 83 (.l 82), .o 84 (.c .geq 83 0), .m 85 84, .g 86 (.m 1) 85 true, .g 87 (.m 6) 85 true, .g 88 (.m 8) 85 true, .g 89 (.b .add 87 88) 85 true, .g 90 (.i 1 86 89) 85 true, .g 91 (.l 90) 85 true, .g 92 (.c .geq 91 0) 85 true, .o 93 (.pick (.tmp 85) (.tmp 92) (.const (.bool false)))]) (.cond (.tmp 93) (.region [.m 94 7, .m 95 8, .m 96 1, .m 97 8, .o 98 (.i 1 96 97), .o 99 (.l 98), .m 100 1, .m 101 6, .m 102 8, .o 103 (.b .add 101 102), .o 104 (.i 1 100 103), .o 105 (.l 104), .o 106 (.b .xor 99 105), .o 107 (.i 1 94 95), .n (.st 1 (.tmp 107) (.tmp 106))]) .skip))))) (.region [.o 108 (.c .add 74 1), .m 74 108]))))
def c111L1:ACode:=(.seq (.region [.o 122 (.b .lss 121 120)]) (.seq (.cond (.tmp 122) .skip (.exit 2)) (.seq (.block 3 [0,1,6,9,10,120,121] (.seq (.region [.m 123 121, .m 11 123]) (.seq (.region [.m 124 10, .m 125 11, .m 126 1, .m 127 6, .m 128 11, .o 129 (.b .add 127 128), .o 130 (.i 1 126 129), .o 131 (.l 130), .o 132 (.i 1 124 125), .n (.st 1 (.tmp 132) (.tmp 131))]) (.seq (.region [.m 133 1, .m 134 11, .o 135 (.i 1 133 134), .o 136 (.l 135), .o 137 (.c .geq 136 0)]) (.cond (.tmp 137) (.seq (.region [.m 138 1, .m 139 11, .o 140 (.i 1 138 139), .o 141 (.l 140), .m 142 9, .m 143 11, .o 144 (.i 1 142 143), .o 145 (.l 144), .o 146 (.b .xor 141 145), .m 12 146]) (.seq (.region [.m 147 0, .m 148 0, .o 149 (.nilck (.tmp 148)), .o 150 (.f 2 149), .o 151 (.l 150), .m 152 151, .g 153 (.m 10) 152 false, .g 154 (.m 11) 152 false, .g 155 (.i 1 153 154) 152 false, .g 156 (.l 155) 152 false, .g 157 (.c .geq 156 0) 152 false, .g 158 (.m 157) 152 false, .g 159 (.m 10) 158 true, .g 160 (.m 11) 158 true, .g 161 (.i 1 159 160) 158 true, .g 162 (.l 161) 158 true, .g 163 (.m 12) 158 true, .g 164 (.b .neq 162 163) 158 true, .g 165 (.pick (.tmp 158) (.tmp 164) (.const (.bool false))) 152 false, .o 166 (.pick (.tmp 152) (.const (.bool true)) (.tmp 165)), .o 167 (.nilck (.tmp 147)), .o 168 (.f 2 167), .n (.st 1 (.tmp 168) (.tmp 166))]) (.region [.m 169 10, .m 170 11, .m 171 12, .o 172 (.i 1 169 170), .n (.st 1 (.tmp 172) (.tmp 171))]))) .skip))))) (.region [.o 173 (.c .add 121 1), .m 121 173]))))
def c111L2:ACode:=(.seq (.region [.o 188 (.b .lss 187 186)]) (.seq (.cond (.tmp 188) .skip (.exit 4)) (.seq (.block 5 [9,13,14,186,187] (.seq (.region [.m 189 187, .m 15 189]) (.region [.m 190 14, .m 191 9, .m 192 15, .o 193 (.i 1 191 192), .o 194 (.l 193), .m 195 13, .m 196 15, .o 197 (.i 1 195 196), .o 198 (.l 197), .o 199 (.b .xor 194 198), .o 200 (.mkSl 3 1 1 [(.tmp 199)]), .o 201 (.app 3 1 8 (.tmp 190) (.tmp 200)), .m 14 201]))) (.region [.o 202 (.c .add 187 1), .m 187 202]))))
def c111:ACode:=(.seq (.region [.o 4 (.mv (.const (.slice none 0 0)))]) (.seq (.seq (.region [.m 16 0, .o 17 (.nilck (.tmp 16)), .o 18 (.f 2 17), .o 19 (.l 18)]) (.cond (.tmp 19) (.seq (.region [.m 20 1, .m 4 20]) .ret) .skip)) (.seq (.seq (.region [.m 21 1, .o 22 (.n 21), .o 23 (.c .eql 22 1)]) (.cond (.tmp 23) (.seq (.region [.m 24 1, .o 25 (.iaddr 1 (.tmp 24) (.const (.int .i64 0))), .o 26 (.l 25), .m 5 26]) (.seq (.seq (.region [.m 27 0, .o 28 (.nilck (.tmp 27)), .o 29 (.f 0 28), .o 30 (.l 29), .m 31 0, .o 32 (.nilck (.tmp 31)), .o 33 (.f 1 32), .o 34 (.l 33), .o 35 (.n 34), .o 36 (.i 1 30 35), .o 37 (.l 36), .o 38 (.un .not (.tmp 37))]) (.cond (.tmp 38) (.seq (.region [.m 39 0, .m 40 5, .o 41 (.c .eql 40 1), .o 42 (.nilck (.tmp 39)), .o 43 (.f 2 42), .n (.st 1 (.tmp 43) (.tmp 41))]) (.region [.k 5 0])) .skip)) (.seq (.region [.m 44 0, .m 45 0, .o 46 (.nilck (.tmp 45)), .o 47 (.f 2 46), .o 48 (.l 47), .m 49 48, .g 50 (.m 5) 49 false, .g 51 (.c .lss 50 0) 49 false, .o 52 (.pick (.tmp 49) (.const (.bool true)) (.tmp 51)), .o 53 (.nilck (.tmp 44)), .o 54 (.f 2 53), .n (.st 1 (.tmp 54) (.tmp 52))]) (.seq (.region [.m 55 0, .m 56 0, .o 57 (.nilck (.tmp 56)), .o 58 (.f 1 57), .o 59 (.l 58), .m 60 5, .o 61 (.mkSl 3 1 1 [(.tmp 60)]), .o 62 (.app 3 1 8 (.tmp 59) (.tmp 61)), .o 63 (.nilck (.tmp 55)), .o 64 (.f 1 63), .n (.st 1 (.tmp 64) (.tmp 62))]) (.seq (.region [.m 65 5, .o 66 (.mkSl 3 1 1 [(.tmp 65)]), .m 4 66]) .ret))))) .skip)) (.seq (.region [.m 67 1, .o 68 (.n 67), .o 69 (.c .quo 68 2), .m 6 69]) (.seq (.region [.m 70 6, .o 71 (.mks 3 1 8 [(.int .i64 0)] (.tmp 70) (.tmp 70)), .m 7 71]) (.seq (.seq (.region [.m 72 7, .o 73 (.n 72), .k 74 0]) (.block 0 [0,1,6,7] (.loop [0,1,6,7,73,74] c111L0))) (.seq (.region [.m 109 0, .m 110 7, .o 111 (.q 111 [109,110]), .m 9 111]) (.seq (.seq (.region [.m 112 0, .o 113 (.nilck (.tmp 112)), .o 114 (.f 2 113), .o 115 (.l 114)]) (.cond (.tmp 115) (.seq (.region [.m 116 1, .m 4 116]) .ret) .skip)) (.seq (.region [.m 117 6, .o 118 (.mks 3 1 8 [(.int .i64 0)] (.tmp 117) (.tmp 117)), .m 10 118]) (.seq (.seq (.region [.m 119 10, .o 120 (.n 119), .k 121 0]) (.block 2 [0,1,9,10] (.loop [0,1,6,9,10,120,121] c111L1))) (.seq (.region [.m 174 0, .m 175 10, .o 176 (.q 111 [174,175]), .m 13 176]) (.seq (.seq (.region [.m 177 0, .o 178 (.nilck (.tmp 177)), .o 179 (.f 2 178), .o 180 (.l 179)]) (.cond (.tmp 180) (.seq (.region [.m 181 1, .m 4 181]) .ret) .skip)) (.seq (.region [.m 182 1, .o 183 (.n 182), .o 184 (.mks 3 1 8 [(.int .i64 0)] (.const (.int .i64 0)) (.tmp 183)), .m 14 184]) (.seq (.seq (.region [.m 185 9, .o 186 (.n 185), .k 187 0]) (.block 4 [13,14] (.loop [9,13,14,186,187] c111L2))) (.seq (.region [.m 203 14, .m 204 13, .o 205 (.app 3 1 8 (.tmp 203) (.tmp 204)), .m 4 205]) .ret)))))))))))))))
def F111:AFun:=⟨c111,2,206,[(.tmp 4)]⟩
def K111:Nat→List Nat×List Nat
 |0=>([0,1,6,7,73,74],[0,1,6,7])
 |1=>([],[0,1,6,7,73,74])
 |2=>([0,1,6,9,10,120,121],[0,1,9,10])
 |3=>([],[0,1,6,9,10,120,121])
 |4=>([9,13,14,186,187],[13,14])
 |5=>([],[9,13,14,186,187])
 |_=>([],[])
theorem F111_ok:kj8 Try.prog K111 noRg Try.f111=some F111:=by kernel_rfl
/- 141: slices.IndexFunc[[]int,int] -/
def c141L0:ACode:=(.seq (.region [.o 9 (.b .lss 8 7)]) (.seq (.cond (.tmp 9) .skip (.exit 0)) (.seq (.block 1 [0,1,7,8] (.seq (.region [.m 10 8, .m 5 10]) (.seq (.region [.m 11 1, .m 12 0, .m 13 5, .o 14 (.i 1 12 13), .o 15 (.l 14), .o 16 (.calld (.tmp 11) [(.tmp 15)])]) (.cond (.tmp 16) (.seq (.region [.m 17 5, .m 4 17]) .ret) .skip)))) (.region [.o 18 (.c .add 8 1), .m 8 18]))))
def c141:ACode:=(.seq (.region [.k 4 0]) (.seq (.seq (.region [.m 6 0, .o 7 (.n 6), .k 8 0]) (.block 0 [] (.loop [0,1,7,8] c141L0))) (.seq (.region [.k 4 (-1)]) .ret)))
def F141:AFun:=⟨c141,2,19,[(.tmp 4)]⟩
def K141:Nat→List Nat×List Nat
 |0=>([0,1,7,8],[])
 |1=>([],[0,1,7,8])
 |_=>([],[])
theorem F141_ok:kj8 Try.prog K141 noRg Try.f141=some F141:=by kernel_rfl
/- 143: math/bits.Len -/
def c143:ACode:=(.seq (.region [.k 2 0]) (.seq (.cond (.const (.bool false)) (.seq (.region [.m 3 0, .o 4 (.conv .u32 (.tmp 3)), .o 5 (.q 186 [4]), .m 2 5]) .ret) .skip) (.seq (.region [.m 6 0, .o 7 (.q 187 [6]), .m 2 7]) .ret)))
def F143:AFun:=⟨c143,1,8,[(.tmp 2)]⟩
def K143:Nat→List Nat×List Nat
 |_=>([],[])
theorem F143_ok:kj8 Try.prog K143 noRg Try.f143=some F143:=by kernel_rfl
/- 145: slices.stableCmpFunc[int] -/
def c145L0:ACode:=(.seq (.seq (.region [.m 11 8, .m 12 1, .o 13 (.b .leq 11 12)]) (.cond (.tmp 13) .skip (.exit 0))) (.block 1 [0,1,2,6,7,8] (.seq (.region [.m 14 0, .m 15 7, .m 16 8, .m 17 2, .o 18 (.q 189 [14,15,16,17])]) (.seq (.region [.m 19 8, .m 7 19]) (.region [.m 20 8, .m 21 6, .o 22 (.b .add 20 21), .m 8 22])))))
def c145L1:ACode:=(.seq (.seq (.region [.m 33 8, .m 34 1, .o 35 (.b .leq 33 34)]) (.cond (.tmp 35) .skip (.exit 4))) (.block 5 [0,1,2,6,7,8] (.seq (.region [.m 36 0, .m 37 7, .m 38 7, .m 39 6, .o 40 (.b .add 38 39), .m 41 8, .m 42 2, .o 43 (.q 190 [36,37,40,41,42])]) (.seq (.region [.m 44 8, .m 7 44]) (.region [.m 45 8, .m 46 6, .o 47 (.bin .mul (.const (.int .i64 2)) (.tmp 46)), .o 48 (.b .add 45 47), .m 8 48])))))
def c145L2:ACode:=(.seq (.seq (.region [.m 28 6, .m 29 1, .o 30 (.b .lss 28 29)]) (.cond (.tmp 30) .skip (.exit 2))) (.block 3 [0,1,2,6] (.seq (.region [.m 31 6, .o 32 (.bin .mul (.const (.int .i64 2)) (.tmp 31)), .k 7 0, .m 8 32]) (.seq (.block 4 [0,1,2,6,7] (.loop [0,1,2,6,7,8] c145L1)) (.seq (.seq (.region [.m 49 7, .m 50 6, .o 51 (.b .add 49 50), .m 9 51]) (.seq (.region [.m 52 9, .m 53 1, .o 54 (.b .lss 52 53)]) (.cond (.tmp 54) (.region [.m 55 0, .m 56 7, .m 57 9, .m 58 1, .m 59 2, .o 60 (.q 190 [55,56,57,58,59])]) .skip))) (.region [.m 61 6, .o 62 (.c .mul 61 2), .m 6 62]))))))
def c145:ACode:=(.seq (.region [.k 6 20]) (.seq (.region [.m 10 6, .k 7 0, .m 8 10]) (.seq (.block 0 [0,1,2,6,7] (.loop [0,1,2,6,7,8] c145L0)) (.seq (.region [.m 23 0, .m 24 7, .m 25 1, .m 26 2, .o 27 (.q 189 [23,24,25,26])]) (.block 2 [] (.loop [0,1,2,6] c145L2))))))
def F145:AFun:=⟨c145,3,63,[]⟩
def K145:Nat→List Nat×List Nat
 |0=>([0,1,2,6,7,8],[0,1,2,6,7])
 |1=>([],[0,1,2,6,7,8])
 |2=>([0,1,2,6],[])
 |3=>([],[0,1,2,6])
 |4=>([0,1,2,6,7,8],[0,1,2,6,7])
 |5=>([],[0,1,2,6,7,8])
 |_=>([],[])
theorem F145_ok:kj8 Try.prog K145 noRg Try.f145=some F145:=by kernel_rfl
/- 146: slices.pdqsortOrdered[int] -/
def c146L0:ACode:=(.block 1 [0,1,2,3,8,9] (.seq (.region [.m 19 2, .m 20 1, .o 21 (.b .sub 19 20), .m 10 21]) (.seq (.seq (.region [.m 22 10, .o 23 (.c .leq 22 12)]) (.cond (.tmp 23) (.seq (.region [.m 24 0, .m 25 1, .m 26 2, .o 27 (.q 191 [24,25,26])]) .ret) .skip)) (.seq (.seq (.region [.m 28 3, .o 29 (.c .eql 28 0)]) (.cond (.tmp 29) (.seq (.region [.m 30 0, .m 31 1, .m 32 2, .o 33 (.q 192 [30,31,32])]) .ret) .skip)) (.seq (.seq (.region [.m 34 8, .o 35 (.un .not (.tmp 34))]) (.cond (.tmp 35) (.seq (.region [.m 36 0, .m 37 1, .m 38 2, .o 39 (.q 193 [36,37,38])]) (.region [.m 40 3, .o 41 (.c .sub 40 1), .m 3 41])) .skip)) (.seq (.region [.m 43 0, .m 44 1, .m 45 2, .o 46 (.q 194 [43,44,45]), .m 42 46, .o 47 (.e 0 42), .o 48 (.e 1 42), .m 11 47, .m 12 48]) (.seq (.seq (.region [.m 49 12, .o 50 (.c .eql 49 2)]) (.cond (.tmp 50) (.seq (.region [.m 51 0, .m 52 1, .m 53 2, .o 54 (.q 195 [51,52,53])]) (.seq (.region [.m 55 2, .o 56 (.c .sub 55 1), .m 57 11, .m 58 1, .o 59 (.b .sub 57 58), .o 60 (.b .sub 56 59), .m 11 60]) (.region [.k 12 1]))) .skip)) (.seq (.seq (.region [.m 61 8, .m 62 61, .g 63 (.m 9) 62 true, .o 64 (.pick (.tmp 62) (.tmp 63) (.const (.bool false))), .m 65 64, .g 66 (.m 12) 65 true, .g 67 (.c .eql 66 1) 65 true, .o 68 (.pick (.tmp 65) (.tmp 67) (.const (.bool false)))]) (.cond (.tmp 68) (.seq (.region [.m 69 0, .m 70 1, .m 71 2, .o 72 (.q 196 [69,70,71])]) (.cond (.tmp 72) .ret .skip)) .skip)) (.seq (.seq (.region [.m 73 1, .o 74 (.c .gtr 73 0), .m 75 74, .g 76 (.m 0) 75 true, .g 77 (.m 1) 75 true, .g 78 (.c .sub 77 1) 75 true, .g 79 (.i 1 76 78) 75 true, .g 80 (.l 79) 75 true, .g 81 (.m 0) 75 true, .g 82 (.m 11) 75 true, .g 83 (.i 1 81 82) 75 true, .g 84 (.l 83) 75 true, .g 85 (.q 197 [80,84]) 75 true, .g 86 (.un .not (.tmp 85)) 75 true, .o 87 (.pick (.tmp 75) (.tmp 86) (.const (.bool false)))]) (.cond (.tmp 87) (.seq (.region [.m 88 0, .m 89 1, .m 90 2, .m 91 11, .o 92 (.q 198 [88,89,90,91]), .m 13 92]) (.seq (.region [.m 93 13, .m 1 93]) (.exit 1))) .skip)) (.seq (.region [.m 95 0, .m 96 1, .m 97 2, .m 98 11, .o 99 (.q 199 [95,96,97,98]), .m 94 99, .o 100 (.e 0 94), .o 101 (.e 1 94), .m 14 100, .m 15 101]) (.seq (.region [.m 102 15, .m 9 102]) (.seq (.region [.m 103 14, .m 104 1, .o 105 (.b .sub 103 104), .m 106 2, .m 107 14, .o 108 (.b .sub 106 107), .m 16 105, .m 17 108]) (.seq (.region [.m 109 10, .o 110 (.c .quo 109 8), .m 18 110]) (.seq (.region [.m 111 16, .m 112 17, .o 113 (.b .lss 111 112)]) (.cond (.tmp 113) (.seq (.region [.m 114 16, .m 115 18, .o 116 (.b .geq 114 115), .m 8 116]) (.seq (.region [.m 117 0, .m 118 1, .m 119 14, .m 120 3, .o 121 (.q 146 [117,118,119,120])]) (.region [.m 122 14, .o 123 (.c .add 122 1), .m 1 123]))) (.seq (.region [.m 124 17, .m 125 18, .o 126 (.b .geq 124 125), .m 8 126]) (.seq (.region [.m 127 0, .m 128 14, .o 129 (.c .add 128 1), .m 130 2, .m 131 3, .o 132 (.q 146 [127,129,130,131])]) (.region [.m 133 14, .m 2 133]))))))))))))))))))
def c146:ACode:=(.seq (.region [.o 8 (.mv (.const (.bool true)))]) (.seq (.region [.o 9 (.mv (.const (.bool true)))]) (.block 0 [] (.loop [0,1,2,3,8,9] c146L0))))
def F146:AFun:=⟨c146,4,134,[]⟩
def K146:Nat→List Nat×List Nat
 |0=>([0,1,2,3,8,9],[])
 |1=>([],[0,1,2,3,8,9])
 |_=>([],[])
theorem F146_ok:kj8 Try.prog K146 noRg Try.f146=some F146:=by kernel_rfl
end Go.Proofs.Ytodbgomfeacdhaa
