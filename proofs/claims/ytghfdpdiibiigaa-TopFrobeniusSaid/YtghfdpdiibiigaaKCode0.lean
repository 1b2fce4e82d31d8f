/-
  Functions of this seat as the small machine's code, written by a program of my own (gen.py); each is checked to be what the model's function is turned into. No condition.
-/
import Derived.Test.YtghfdpdiibiigaaK1
import Derived.Test.YtghfdpdiibiigaaProg
set_option linter.unusedVariables false
set_option linter.unusedSimpArgs false
set_option linter.unusedSectionVars false
set_option maxRecDepth 100000
namespace Go.Proofs.Ytghfdpdiibiigaa
open Go.Am
/- 5: syndrome/syndrometop.TopFrobenius -/
def c5 : ACode := (.seq (.region [.o 8 (.mv (.const (.bool false)))]) (.seq (.region [.m 21 0, .o 22 (.q 19 [21]), .m 9 22]) (.seq (.seq (.region [.m 23 9, .o 24 (.eqn false 1 (.tmp 23))]) (.cond (.tmp 24) (.seq (.region [.o 8 (.mv (.const (.bool false)))]) .ret) .skip)) (.seq (.region [.m 25 9, .o 26 (.q 20 [25]), .m 10 26]) (.seq (.region [.m 27 9, .o 28 (.q 29 [27]), .m 11 28]) (.seq (.region [.m 29 1, .m 30 10, .o 31 (.q 9 [29, 30]), .m 1 31]) (.seq (.region [.m 32 2, .m 33 10, .o 34 (.q 9 [32, 33]), .m 2 34]) (.seq (.seq (.region [.m 35 9, .m 36 1, .m 37 10, .o 38 (.q 26 [35, 36, 37]), .m 39 1, .o 40 (.b .neq 38 39), .m 41 40, .g 42 (.m 9) 41 false, .g 43 (.m 9) 41 false, .g 44 (.m 1) 41 false, .g 45 (.m 2) 41 false, .g 46 (.q 21 [43, 44, 45]) 41 false, .g 47 (.call 30 [(.tmp 42), (.tmp 46), (.const (.int .i64 1))]) 41 false, .g 48 (.m 9) 41 false, .g 49 (.m 9) 41 false, .g 50 (.m 1) 41 false, .g 51 (.call 30 [(.tmp 49), (.tmp 50), (.const (.int .i64 1))]) 41 false, .g 52 (.m 9) 41 false, .g 53 (.m 2) 41 false, .g 54 (.call 30 [(.tmp 52), (.tmp 53), (.const (.int .i64 1))]) 41 false, .g 55 (.q 21 [48, 51, 54]) 41 false, .g 56 (.b .neq 47 55) 41 false, .o 57 (.pick (.tmp 41) (.const (.bool true)) (.tmp 56)), .m 58 57, .g 59 (.m 9) 58 false, .g 60 (.m 9) 58 false, .g 61 (.m 1) 58 false, .g 62 (.m 2) 58 false, .g 63 (.q 22 [60, 61, 62]) 58 false, .g 64 (.call 30 [(.tmp 59), (.tmp 63), (.const (.int .i64 1))]) 58 false, .g 65 (.m 9) 58 false, .g 66 (.m 9) 58 false, .g 67 (.m 1) 58 false, .g 68 (.call 30 [(.tmp 66), (.tmp 67), (.const (.int .i64 1))]) 58 false, .g 69 (.m 9) 58 false, .g 70 (.m 2) 58 false, .g 71 (.call 30 [(.tmp 69), (.tmp 70), (.const (.int .i64 1))]) 58 false, .g 72 (.q 22 [65, 68, 71]) 58 false, .g 73 (.b .neq 64 72) 58 false, .o 74 (.pick (.tmp 58) (.const (.bool true)) (.tmp 73)), .m 75 74, .g 76 (.m 9) 75 false, .g 77 (.m 1) 75 false, .g 78 (.call 30 [(.tmp 76), (.tmp 77), (.const (.int .i64 1))]) 75 false, .g 79 (.m 9) 75 false, .g 80 (.m 1) 75 false, .g 81 (.m 11) 75 false, .g 82 (.q 26 [79, 80, 81]) 75 false, .g 83 (.b .neq 78 82) 75 false, .o 84 (.pick (.tmp 75) (.const (.bool true)) (.tmp 83)), .m 85 84, .g 86 (.m 9) 85 false, .g 87 (.m 9) 85 false, .g 88 (.m 1) 85 false, .g 89 (.call 30 [(.tmp 87), (.tmp 88), (.const (.int .i64 1))]) 85 false, .g 90 (.call 30 [(.tmp 86), (.tmp 89), (.const (.int .i64 (-1)))]) 85 false, .g 91 (.m 1) 85 false, .g 92 (.b .neq 90 91) 85 false, .o 93 (.pick (.tmp 85) (.const (.bool true)) (.tmp 92))]) (.cond (.tmp 93) (.seq (.region [.o 8 (.mv (.const (.bool false)))]) .ret) .skip)) (.seq (.seq (.region [.m 94 9, .m 95 1, .o 96 (.q 31 [94, 95]), .o 97 (.c .lss 96 0), .m 98 97, .g 99 (.m 9) 98 false, .g 100 (.m 1) 98 false, .g 101 (.q 31 [99, 100]) 98 false, .g 102 (.m 11) 98 false, .g 103 (.b .geq 101 102) 98 false, .o 104 (.pick (.tmp 98) (.const (.bool true)) (.tmp 103)), .m 105 104, .g 106 (.m 9) 105 false, .g 107 (.m 1) 105 false, .g 108 (.q 32 [106, 107]) 105 false, .g 109 (.c .lss 108 0) 105 false, .o 110 (.pick (.tmp 105) (.const (.bool true)) (.tmp 109)), .m 111 110, .g 112 (.m 9) 111 false, .g 113 (.m 1) 111 false, .g 114 (.q 32 [112, 113]) 111 false, .g 115 (.m 11) 111 false, .g 116 (.b .geq 114 115) 111 false, .o 117 (.pick (.tmp 111) (.const (.bool true)) (.tmp 116)), .m 118 117, .g 119 (.m 9) 118 false, .g 120 (.m 9) 118 false, .g 121 (.m 1) 118 false, .g 122 (.m 2) 118 false, .g 123 (.q 21 [120, 121, 122]) 118 false, .g 124 (.q 31 [119, 123]) 118 false, .g 125 (.m 9) 118 false, .g 126 (.m 9) 118 false, .g 127 (.m 1) 118 false, .g 128 (.q 31 [126, 127]) 118 false, .g 129 (.m 9) 118 false, .g 130 (.m 2) 118 false, .g 131 (.q 31 [129, 130]) 118 false, .g 132 (.q 21 [125, 128, 131]) 118 false, .g 133 (.b .neq 124 132) 118 false, .o 134 (.pick (.tmp 118) (.const (.bool true)) (.tmp 133)), .m 135 134, .g 136 (.m 9) 135 false, .g 137 (.m 9) 135 false, .g 138 (.m 1) 135 false, .g 139 (.m 2) 135 false, .g 140 (.q 22 [137, 138, 139]) 135 false, .g 141 (.q 32 [136, 140]) 135 false, .g 142 (.m 9) 135 false, .g 143 (.m 9) 135 false, .g 144 (.m 1) 135 false, .g 145 (.q 32 [143, 144]) 135 false, .g 146 (.m 9) 135 false, .g 147 (.m 2) 135 false, .g 148 (.q 32 [146, 147]) 135 false, .g 149 (.q 22 [142, 145, 148]) 135 false, .g 150 (.b .neq 141 149) 135 false, .o 151 (.pick (.tmp 135) (.const (.bool true)) (.tmp 150))]) (.cond (.tmp 151) (.seq (.region [.o 8 (.mv (.const (.bool false)))]) .ret) .skip)) (.seq (.region [.m 152 3, .o 153 (.q 33 [152]), .m 12 153]) (.seq (.region [.m 154 9, .m 155 12, .o 156 (.q 34 [154, 155]), .m 13 156]) (.seq (.seq (.region [.m 157 13, .o 158 (.n 157), .o 159 (.c .eql 158 0)]) (.cond (.tmp 159) (.seq (.region [.m 161 12, .m 162 10, .o 163 (.q 35 [161, 162]), .m 160 163, .o 164 (.e 0 160), .o 165 (.e 1 160), .m 14 164, .m 15 165]) (.seq (.region [.m 166 15, .o 167 (.c .eql 166 3), .m 8 167]) .ret)) .skip)) (.seq (.region [.m 169 12, .m 170 10, .o 171 (.q 35 [169, 170]), .m 168 171, .o 172 (.e 0 168), .o 173 (.e 1 168), .m 16 172, .m 17 173]) (.seq (.seq (.region [.m 174 17, .o 175 (.c .neq 174 0), .m 176 175, .g 177 (.m 13) 176 false, .g 178 (.n 177) 176 false, .g 179 (.m 12) 176 false, .g 180 (.b .neq 178 179) 176 false, .o 181 (.pick (.tmp 176) (.const (.bool true)) (.tmp 180)), .m 182 181, .g 183 (.m 16) 182 false, .g 184 (.n 183) 182 false, .g 185 (.m 12) 182 false, .g 186 (.b .neq 184 185) 182 false, .o 187 (.pick (.tmp 182) (.const (.bool true)) (.tmp 186))]) (.cond (.tmp 187) (.seq (.region [.o 8 (.mv (.const (.bool false)))]) .ret) .skip)) (.seq (.region [.m 189 12, .o 190 (.q 36 [189]), .m 188 190, .o 191 (.e 0 188), .o 192 (.e 1 188), .m 18 191, .m 17 192]) (.seq (.seq (.region [.m 193 17, .o 194 (.c .neq 193 0), .m 195 194, .g 196 (.m 18) 195 false, .g 197 (.eqn false 1 (.tmp 196)) 195 false, .o 198 (.pick (.tmp 195) (.const (.bool true)) (.tmp 197))]) (.cond (.tmp 198) (.seq (.region [.o 8 (.mv (.const (.bool false)))]) .ret) .skip)) (.seq (.region [.m 199 1, .m 200 12, .o 201 (.q 9 [199, 200]), .m 19 201]) (.seq (.region [.m 202 2, .m 203 12, .o 204 (.q 9 [202, 203]), .m 20 204]) (.seq (.region [.m 205 16, .m 206 19, .o 207 (.i 1 205 206), .o 208 (.l 207), .m 209 13, .o 210 (.q 37 [208, 209]), .m 211 210, .g 212 (.m 16) 211 true, .g 213 (.m 18) 211 true, .g 214 (.m 19) 211 true, .g 215 (.m 20) 211 true, ⟨(some 216), (.call 21 [(.tmp 213), (.tmp 214), (.tmp 215)]), (some (211, true)), true⟩, .g 217 (.i 1 212 216) 211 true, .g 218 (.l 217) 211 true, .g 219 (.m 9) 211 true, .g 220 (.m 16) 211 true, .g 221 (.m 19) 211 true, .g 222 (.i 1 220 221) 211 true, ⟨(some 223), (.ld false 1 (.tmp 222)), (some (211, true)), true⟩, .g 224 (.m 16) 211 true, .g 225 (.m 20) 211 true, .g 226 (.i 1 224 225) 211 true, ⟨(some 227), (.ld false 1 (.tmp 226)), (some (211, true)), true⟩, ⟨(some 228), (.call 21 [(.tmp 219), (.tmp 223), (.tmp 227)]), (some (211, true)), true⟩, .g 229 (.b .eql 218 228) 211 true, .o 230 (.pick (.tmp 211) (.tmp 229) (.const (.bool false))), .m 231 230, .g 232 (.m 16) 231 true, .g 233 (.m 18) 231 true, .g 234 (.m 19) 231 true, .g 235 (.m 20) 231 true, ⟨(some 236), (.call 22 [(.tmp 233), (.tmp 234), (.tmp 235)]), (some (231, true)), true⟩, .g 237 (.i 1 232 236) 231 true, .g 238 (.l 237) 231 true, .g 239 (.m 9) 231 true, .g 240 (.m 16) 231 true, .g 241 (.m 19) 231 true, .g 242 (.i 1 240 241) 231 true, ⟨(some 243), (.ld false 1 (.tmp 242)), (some (231, true)), true⟩, .g 244 (.m 16) 231 true, .g 245 (.m 20) 231 true, .g 246 (.i 1 244 245) 231 true, ⟨(some 247), (.ld false 1 (.tmp 246)), (some (231, true)), true⟩, ⟨(some 248), (.call 22 [(.tmp 239), (.tmp 243), (.tmp 247)]), (some (231, true)), true⟩, .g 249 (.b .eql 238 248) 231 true, .o 250 (.pick (.tmp 231) (.tmp 249) (.const (.bool false))), .m 251 250, .g 252 (.m 19) 251 true, .g 253 (.m 20) 251 true, .g 254 (.b .eql 252 253) 251 true, .g 255 (.m 254) 251 true, .g 256 (.m 16) 255 false, .g 257 (.m 19) 255 false, .g 258 (.i 1 256 257) 255 false, .g 259 (.l 258) 255 false, .g 260 (.m 16) 255 false, .g 261 (.m 20) 255 false, .g 262 (.i 1 260 261) 255 false, .g 263 (.l 262) 255 false, .g 264 (.b .neq 259 263) 255 false, .g 265 (.pick (.tmp 255) (.const (.bool true)) (.tmp 264)) 251 true, .o 266 (.pick (.tmp 251) (.tmp 265) (.const (.bool false))), .m 8 266]) .ret)))))))))))))))))))
def F5 : AFun := ⟨c5, 4, 267, [(.tmp 8)]⟩
def K5 : Nat → List Nat × List Nat
 | _ => ([], [])
theorem F5_ok : kj8 Try.prog K5 Try.f5 = some F5 := by kernel_rfl
/- 9: syndrome/syndromeref.Pick -/
def c9 : ACode := (.seq (.region [.k 4 0]) (.seq (.seq (.region [.m 5 0, .o 6 (.c .lss 5 0)]) (.cond (.tmp 6) (.region [.m 7 0, .o 8 (.c .add 7 1), .o 9 (.un .neg (.tmp 8)), .m 0 9]) .skip)) (.seq (.region [.m 10 0, .m 11 1, .o 12 (.b .rem 10 11), .m 4 12]) .ret)))
def F9 : AFun := ⟨c9, 2, 13, [(.tmp 4)]⟩
def K9 : Nat → List Nat × List Nat
 | _ => ([], [])
theorem F9_ok : kj8 Try.prog K9 Try.f9 = some F9 := by kernel_rfl
/- 19: syndrome/syndrometop.fieldOf -/
def c19 : ACode := (.seq (.region [.o 2 (.mv (.const (.pointer none)))]) (.seq (.region [.m 6 0, .o 7 (.q 33 [6]), .o 8 (.q 36 [7]), .m 5 8, .o 9 (.e 0 5), .o 10 (.e 1 5), .m 3 9, .m 4 10]) (.seq (.seq (.region [.m 11 4, .o 12 (.c .neq 11 0), .m 13 12, .g 14 (.m 3) 13 false, .g 15 (.eqn false 1 (.tmp 14)) 13 false, .o 16 (.pick (.tmp 13) (.const (.bool true)) (.tmp 15)), .m 17 16, .g 18 (.m 3) 17 false, .g 19 (.q 20 [18]) 17 false, .g 20 (.m 0) 17 false, .g 21 (.q 33 [20]) 17 false, .g 22 (.b .neq 19 21) 17 false, .o 23 (.pick (.tmp 17) (.const (.bool true)) (.tmp 22)), .m 24 23, .g 25 (.m 3) 24 false, .g 26 (.q 29 [25]) 24 false, .g 27 (.c .lss 26 2) 24 false, .o 28 (.pick (.tmp 24) (.const (.bool true)) (.tmp 27))]) (.cond (.tmp 28) (.seq (.region [.o 2 (.mv (.const (.pointer none)))]) .ret) .skip)) (.seq (.region [.m 29 3, .m 2 29]) .ret))))
def F19 : AFun := ⟨c19, 1, 30, [(.tmp 2)]⟩
def K19 : Nat → List Nat × List Nat
 | _ => ([], [])
theorem F19_ok : kj8 Try.prog K19 Try.f19 = some F19 := by kernel_rfl
/- 20: (*syndrome/field.Field).Size -/
def c20 : ACode := (.seq (.region [.k 2 0]) (.seq (.region [.m 3 0, .o 4 (.nilck (.tmp 3)), .o 5 (.f 0 4), .o 6 (.l 5), .m 2 6]) .ret))
def F20 : AFun := ⟨c20, 1, 7, [(.tmp 2)]⟩
def K20 : Nat → List Nat × List Nat
 | _ => ([], [])
theorem F20_ok : kj8 Try.prog K20 Try.f20 = some F20 := by kernel_rfl
/- 21: (*syndrome/field.Field).Add -/
def c21L0 : ACode := (.seq (.region [.o 24 (.b .lss 23 22)]) (.seq (.cond (.tmp 24) .skip (.exit 0)) (.seq (.block 1 [0, 1, 2, 7, 8, 22, 23] (.seq (.region [.m 25 7, .m 26 1, .m 27 0, .o 28 (.nilck (.tmp 27)), .o 29 (.f 1 28), .o 30 (.l 29), .o 31 (.b .rem 26 30), .m 32 2, .m 33 0, .o 34 (.nilck (.tmp 33)), .o 35 (.f 1 34), .o 36 (.l 35), .o 37 (.b .rem 32 36), .o 38 (.b .add 31 37), .m 39 0, .o 40 (.nilck (.tmp 39)), .o 41 (.f 1 40), .o 42 (.l 41), .o 43 (.b .rem 38 42), .m 44 8, .o 45 (.b .mul 43 44), .o 46 (.b .add 25 45), .m 7 46]) (.region [.m 47 1, .m 48 0, .o 49 (.nilck (.tmp 48)), .o 50 (.f 1 49), .o 51 (.l 50), .o 52 (.b .quo 47 51), .m 53 2, .m 54 0, .o 55 (.nilck (.tmp 54)), .o 56 (.f 1 55), .o 57 (.l 56), .o 58 (.b .quo 53 57), .m 59 8, .m 60 0, .o 61 (.nilck (.tmp 60)), .o 62 (.f 1 61), .o 63 (.l 62), .o 64 (.b .mul 59 63), .m 1 52, .m 2 58, .m 8 64]))) (.region [.o 65 (.c .add 23 1), .m 23 65]))))
def c21 : ACode := (.seq (.region [.k 6 0]) (.seq (.seq (.region [.m 9 0, .m 10 1, .o 11 (.q 53 [9, 10]), .o 12 (.un .not (.tmp 11)), .m 13 12, .g 14 (.m 0) 13 false, .g 15 (.m 2) 13 false, .g 16 (.q 53 [14, 15]) 13 false, .g 17 (.un .not (.tmp 16)) 13 false, .o 18 (.pick (.tmp 13) (.const (.bool true)) (.tmp 17))]) (.cond (.tmp 18) (.seq (.region [.k 6 (-1)]) .ret) .skip)) (.seq (.region [.k 7 0, .k 8 1]) (.seq (.seq (.region [.m 19 0, .o 20 (.nilck (.tmp 19)), .o 21 (.f 2 20), .o 22 (.l 21), .k 23 0]) (.block 0 [7] (.loop [0, 1, 2, 7, 8, 22, 23] c21L0))) (.seq (.region [.m 66 7, .m 6 66]) .ret)))))
def F21 : AFun := ⟨c21, 3, 67, [(.tmp 6)]⟩
def K21 : Nat → List Nat × List Nat
 | 0 => ([0, 1, 2, 7, 8, 22, 23], [7])
 | 1 => ([], [0, 1, 2, 7, 8, 22, 23])
 | _ => ([], [])
theorem F21_ok : kj8 Try.prog K21 Try.f21 = some F21 := by kernel_rfl
/- 22: (*syndrome/field.Field).Mul -/
def c22 : ACode := (.seq (.region [.k 6 0]) (.seq (.seq (.region [.m 7 0, .m 8 1, .o 9 (.q 53 [7, 8]), .o 10 (.un .not (.tmp 9)), .m 11 10, .g 12 (.m 0) 11 false, .g 13 (.m 2) 11 false, .g 14 (.q 53 [12, 13]) 11 false, .g 15 (.un .not (.tmp 14)) 11 false, .o 16 (.pick (.tmp 11) (.const (.bool true)) (.tmp 15))]) (.cond (.tmp 16) (.seq (.region [.k 6 (-1)]) .ret) .skip)) (.seq (.seq (.region [.m 17 1, .o 18 (.c .eql 17 0), .m 19 18, .g 20 (.m 2) 19 false, .g 21 (.c .eql 20 0) 19 false, .o 22 (.pick (.tmp 19) (.const (.bool true)) (.tmp 21))]) (.cond (.tmp 22) (.seq (.region [.k 6 0]) .ret) .skip)) (.seq (.region [.m 23 0, .o 24 (.nilck (.tmp 23)), .o 25 (.f 5 24), .o 26 (.l 25), .m 27 0, .o 28 (.nilck (.tmp 27)), .o 29 (.f 6 28), .o 30 (.l 29), .m 31 1, .o 32 (.i 1 30 31), .o 33 (.l 32), .m 34 0, .o 35 (.nilck (.tmp 34)), .o 36 (.f 6 35), .o 37 (.l 36), .m 38 2, .o 39 (.i 1 37 38), .o 40 (.l 39), .o 41 (.b .add 33 40), .m 42 0, .o 43 (.nilck (.tmp 42)), .o 44 (.f 0 43), .o 45 (.l 44), .o 46 (.c .sub 45 1), .o 47 (.b .rem 41 46), .o 48 (.i 1 26 47), .o 49 (.l 48), .m 6 49]) .ret))))
def F22 : AFun := ⟨c22, 3, 50, [(.tmp 6)]⟩
def K22 : Nat → List Nat × List Nat
 | _ => ([], [])
theorem F22_ok : kj8 Try.prog K22 Try.f22 = some F22 := by kernel_rfl
/- 26: (*syndrome/field.Field).Pow -/
def c26 : ACode := (.seq (.region [.k 6 0]) (.seq (.seq (.region [.m 7 0, .m 8 1, .o 9 (.q 53 [7, 8]), .o 10 (.un .not (.tmp 9)), .m 11 10, .g 12 (.m 1) 11 false, .g 13 (.c .eql 12 0) 11 false, .g 14 (.m 13) 11 false, .g 15 (.m 2) 14 true, .g 16 (.c .lss 15 0) 14 true, .g 17 (.pick (.tmp 14) (.tmp 16) (.const (.bool false))) 11 false, .o 18 (.pick (.tmp 11) (.const (.bool true)) (.tmp 17))]) (.cond (.tmp 18) (.seq (.region [.k 6 (-1)]) .ret) .skip)) (.seq (.seq (.region [.m 19 2, .o 20 (.c .eql 19 0)]) (.cond (.tmp 20) (.seq (.region [.k 6 1]) .ret) .skip)) (.seq (.seq (.region [.m 21 1, .o 22 (.c .eql 21 0)]) (.cond (.tmp 22) (.seq (.region [.k 6 0]) .ret) .skip)) (.seq (.region [.m 23 2, .m 24 0, .o 25 (.nilck (.tmp 24)), .o 26 (.f 0 25), .o 27 (.l 26), .o 28 (.c .sub 27 1), .o 29 (.b .rem 23 28), .m 2 29]) (.seq (.seq (.region [.m 30 2, .o 31 (.c .lss 30 0)]) (.cond (.tmp 31) (.region [.m 32 2, .m 33 0, .o 34 (.nilck (.tmp 33)), .o 35 (.f 0 34), .o 36 (.l 35), .o 37 (.c .sub 36 1), .o 38 (.b .add 32 37), .m 2 38]) .skip)) (.seq (.region [.m 39 0, .o 40 (.nilck (.tmp 39)), .o 41 (.f 5 40), .o 42 (.l 41), .m 43 0, .o 44 (.nilck (.tmp 43)), .o 45 (.f 6 44), .o 46 (.l 45), .m 47 1, .o 48 (.i 1 46 47), .o 49 (.l 48), .m 50 2, .o 51 (.b .mul 49 50), .m 52 0, .o 53 (.nilck (.tmp 52)), .o 54 (.f 0 53), .o 55 (.l 54), .o 56 (.c .sub 55 1), .o 57 (.b .rem 51 56), .o 58 (.i 1 42 57), .o 59 (.l 58), .m 6 59]) .ret)))))))
def F26 : AFun := ⟨c26, 3, 60, [(.tmp 6)]⟩
def K26 : Nat → List Nat × List Nat
 | _ => ([], [])
theorem F26_ok : kj8 Try.prog K26 Try.f26 = some F26 := by kernel_rfl
/- 29: (*syndrome/field.Field).Char -/
def c29 : ACode := (.seq (.region [.k 2 0]) (.seq (.region [.m 3 0, .o 4 (.nilck (.tmp 3)), .o 5 (.f 1 4), .o 6 (.l 5), .m 2 6]) .ret))
def F29 : AFun := ⟨c29, 1, 7, [(.tmp 2)]⟩
def K29 : Nat → List Nat × List Nat
 | _ => ([], [])
theorem F29_ok : kj8 Try.prog K29 Try.f29 = some F29 := by kernel_rfl
/- 30: (*syndrome/field.Field).Frob -/
def c30L0 : ACode := (.seq (.region [.o 27 (.b .lss 26 25)]) (.seq (.cond (.tmp 27) .skip (.exit 0)) (.seq (.block 1 [0, 1, 25, 26] (.region [.m 28 0, .m 29 1, .m 30 0, .o 31 (.nilck (.tmp 30)), .o 32 (.f 1 31), .o 33 (.l 32), .o 34 (.q 26 [28, 29, 33]), .m 1 34])) (.region [.o 35 (.c .add 26 1), .m 26 35]))))
def c30 : ACode := (.seq (.region [.k 6 0]) (.seq (.seq (.region [.m 7 0, .m 8 1, .o 9 (.q 53 [7, 8]), .o 10 (.un .not (.tmp 9))]) (.cond (.tmp 10) (.seq (.region [.k 6 (-1)]) .ret) .skip)) (.seq (.region [.m 11 2, .m 12 0, .o 13 (.nilck (.tmp 12)), .o 14 (.f 2 13), .o 15 (.l 14), .o 16 (.b .rem 11 15), .m 2 16]) (.seq (.seq (.region [.m 17 2, .o 18 (.c .lss 17 0)]) (.cond (.tmp 18) (.region [.m 19 2, .m 20 0, .o 21 (.nilck (.tmp 20)), .o 22 (.f 2 21), .o 23 (.l 22), .o 24 (.b .add 19 23), .m 2 24]) .skip)) (.seq (.seq (.region [.m 25 2, .k 26 0]) (.block 0 [1] (.loop [0, 1, 25, 26] c30L0))) (.seq (.region [.m 36 1, .m 6 36]) .ret))))))
def F30 : AFun := ⟨c30, 3, 37, [(.tmp 6)]⟩
def K30 : Nat → List Nat × List Nat
 | 0 => ([0, 1, 25, 26], [1])
 | 1 => ([], [0, 1, 25, 26])
 | _ => ([], [])
theorem F30_ok : kj8 Try.prog K30 Try.f30 = some F30 := by kernel_rfl
/- 31: (*syndrome/field.Field).Trace -/
def c31L0 : ACode := (.seq (.region [.o 16 (.b .lss 15 14)]) (.seq (.cond (.tmp 16) .skip (.exit 0)) (.seq (.block 1 [0, 1, 5, 14, 15] (.seq (.region [.m 17 15, .m 6 17]) (.region [.m 18 0, .m 19 5, .m 20 0, .m 21 1, .m 22 6, .o 23 (.q 30 [20, 21, 22]), .o 24 (.q 21 [18, 19, 23]), .m 5 24]))) (.region [.o 25 (.c .add 15 1), .m 15 25]))))
def c31 : ACode := (.seq (.region [.k 4 0]) (.seq (.seq (.region [.m 7 0, .m 8 1, .o 9 (.q 53 [7, 8]), .o 10 (.un .not (.tmp 9))]) (.cond (.tmp 10) (.seq (.region [.k 4 (-1)]) .ret) .skip)) (.seq (.region [.k 5 0]) (.seq (.seq (.region [.m 11 0, .o 12 (.nilck (.tmp 11)), .o 13 (.f 2 12), .o 14 (.l 13), .k 15 0]) (.block 0 [5] (.loop [0, 1, 5, 14, 15] c31L0))) (.seq (.region [.m 26 5, .m 4 26]) .ret)))))
def F31 : AFun := ⟨c31, 2, 27, [(.tmp 4)]⟩
def K31 : Nat → List Nat × List Nat
 | 0 => ([0, 1, 5, 14, 15], [5])
 | 1 => ([], [0, 1, 5, 14, 15])
 | _ => ([], [])
theorem F31_ok : kj8 Try.prog K31 Try.f31 = some F31 := by kernel_rfl
/- 32: (*syndrome/field.Field).Norm -/
def c32L0 : ACode := (.seq (.region [.o 16 (.b .lss 15 14)]) (.seq (.cond (.tmp 16) .skip (.exit 0)) (.seq (.block 1 [0, 1, 5, 14, 15] (.seq (.region [.m 17 15, .m 6 17]) (.region [.m 18 0, .m 19 5, .m 20 0, .m 21 1, .m 22 6, .o 23 (.q 30 [20, 21, 22]), .o 24 (.q 22 [18, 19, 23]), .m 5 24]))) (.region [.o 25 (.c .add 15 1), .m 15 25]))))
def c32 : ACode := (.seq (.region [.k 4 0]) (.seq (.seq (.region [.m 7 0, .m 8 1, .o 9 (.q 53 [7, 8]), .o 10 (.un .not (.tmp 9))]) (.cond (.tmp 10) (.seq (.region [.k 4 (-1)]) .ret) .skip)) (.seq (.region [.k 5 1]) (.seq (.seq (.region [.m 11 0, .o 12 (.nilck (.tmp 11)), .o 13 (.f 2 12), .o 14 (.l 13), .k 15 0]) (.block 0 [5] (.loop [0, 1, 5, 14, 15] c32L0))) (.seq (.region [.m 26 5, .m 4 26]) .ret)))))
def F32 : AFun := ⟨c32, 2, 27, [(.tmp 4)]⟩
def K32 : Nat → List Nat × List Nat
 | 0 => ([0, 1, 5, 14, 15], [5])
 | 1 => ([], [0, 1, 5, 14, 15])
 | _ => ([], [])
theorem F32_ok : kj8 Try.prog K32 Try.f32 = some F32 := by kernel_rfl
/- 33: syndrome/syndromeref.SizeOf -/
def c33 : ACode := (.seq (.region [.k 2 0]) (.seq (.region [.o 5 (.call 54 []), .m 3 5]) (.seq (.region [.m 6 0, .o 7 (.call 9 [(.tmp 6), (.const (.int .i64 100))]), .m 4 7]) (.seq (.seq (.region [.m 8 4, .o 9 (.c .lss 8 60)]) (.cond (.tmp 9) (.seq (.region [.m 10 3, .m 11 4, .o 12 (.c .rem 11 7), .o 13 (.i 1 10 12), .o 14 (.l 13), .m 2 14]) .ret) .skip)) (.seq (.region [.m 15 3, .m 16 0, .o 17 (.c .quo 16 100), .m 18 3, .o 19 (.n 18), .o 20 (.q 9 [17, 19]), .o 21 (.i 1 15 20), .o 22 (.l 21), .m 2 22]) .ret)))))
def F33 : AFun := ⟨c33, 1, 23, [(.tmp 2)]⟩
def K33 : Nat → List Nat × List Nat
 | _ => ([], [])
theorem F33_ok : kj8 Try.prog K33 Try.f33 = some F33 := by kernel_rfl
/- 34: (*syndrome/field.Field).Within -/
def c34L0 : ACode := (.seq (.region [.o 40 (.b .lss 39 38)]) (.seq (.cond (.tmp 40) .skip (.exit 0)) (.seq (.block 1 [0, 1, 7, 38, 39] (.seq (.region [.m 41 39, .m 8 41]) (.seq (.region [.m 42 0, .m 43 8, .m 44 1, .o 45 (.q 26 [42, 43, 44]), .m 46 8, .o 47 (.b .eql 45 46)]) (.cond (.tmp 47) (.region [.m 48 7, .m 49 8, .o 50 (.mkSl 3 1 1 [(.tmp 49)]), .o 51 (.app 3 1 8 (.tmp 48) (.tmp 50)), .m 7 51]) .skip)))) (.region [.o 52 (.c .add 39 1), .m 39 52]))))
def c34 : ACode := (.seq (.region [.o 4 (.mv (.const (.slice none 0 0)))]) (.seq (.region [.k 5 0, .k 6 0]) (.seq (.seq (.region [.m 9 1, .o 10 (.c .geq 9 2), .m 11 10, .g 12 (.m 1) 11 true, .g 13 (.c .leq 12 64) 11 true, .o 14 (.pick (.tmp 11) (.tmp 13) (.const (.bool false)))]) (.cond (.tmp 14) (.region [.m 16 1, .o 17 (.q 55 [16]), .m 15 17, .o 18 (.e 0 15), .o 19 (.e 1 15), .m 5 18, .m 6 19]) .skip)) (.seq (.seq (.region [.m 20 5, .m 21 0, .o 22 (.nilck (.tmp 21)), .o 23 (.f 1 22), .o 24 (.l 23), .o 25 (.b .neq 20 24), .m 26 25, .g 27 (.m 0) 26 false, .g 28 (.nilck (.tmp 27)) 26 false, .g 29 (.f 2 28) 26 false, .g 30 (.l 29) 26 false, .g 31 (.m 6) 26 false, .g 32 (.b .rem 30 31) 26 false, .g 33 (.c .neq 32 0) 26 false, .o 34 (.pick (.tmp 26) (.const (.bool true)) (.tmp 33))]) (.cond (.tmp 34) (.seq (.region [.o 4 (.mv (.const (.slice none 0 0)))]) .ret) .skip)) (.seq (.region [.o 7 (.mv (.const (.slice none 0 0)))]) (.seq (.seq (.region [.m 35 0, .o 36 (.nilck (.tmp 35)), .o 37 (.f 0 36), .o 38 (.l 37), .k 39 0]) (.block 0 [7] (.loop [0, 1, 7, 38, 39] c34L0))) (.seq (.region [.m 53 7, .m 4 53]) .ret)))))))
def F34 : AFun := ⟨c34, 2, 54, [(.tmp 4)]⟩
def K34 : Nat → List Nat × List Nat
 | 0 => ([0, 1, 7, 38, 39], [7])
 | 1 => ([], [0, 1, 7, 38, 39])
 | _ => ([], [])
theorem F34_ok : kj8 Try.prog K34 Try.f34 = some F34 := by kernel_rfl
/- 35: syndrome/field.Embed -/
def c35L0 : ACode := (.seq (.seq (.region [.m 68 9, .o 69 (.c .eql 68 0), .m 70 69, .g 71 (.m 8) 70 false, .g 72 (.m 6) 70 false, .g 73 (.nilck (.tmp 72)) 70 false, .g 74 (.f 3 73) 70 false, .g 75 (.l 74) 70 false, .g 76 (.m 9) 70 false, .g 77 (.q 56 [71, 75, 76]) 70 false, .g 78 (.c .neq 77 0) 70 false, .o 79 (.pick (.tmp 70) (.const (.bool true)) (.tmp 78))]) (.cond (.tmp 79) .skip (.exit 0))) (.seq (.block 1 [0, 6, 8, 9, 10, 11] (.region [.m 83 8, .o 84 (.nilck (.tmp 83)), .o 85 (.f 5 84), .o 86 (.l 85), .m 87 11, .m 88 8, .o 89 (.nilck (.tmp 88)), .o 90 (.f 0 89), .o 91 (.l 90), .o 92 (.c .sub 91 1), .o 93 (.b .rem 87 92), .o 94 (.i 1 86 93), .o 95 (.l 94), .m 9 95])) (.region [.m 80 11, .m 81 10, .o 82 (.b .add 80 81), .m 11 82])))
def c35L1 : ACode := (.seq (.region [.o 101 (.b .lss 100 99)]) (.seq (.cond (.tmp 101) .skip (.exit 2)) (.seq (.block 3 [6, 8, 9, 12, 99, 100] (.seq (.region [.m 102 100, .m 13 102]) (.region [.m 103 12, .m 104 13, .m 105 8, .m 106 13, .m 107 6, .o 108 (.nilck (.tmp 107)), .o 109 (.f 1 108), .o 110 (.l 109), .m 111 6, .o 112 (.nilck (.tmp 111)), .o 113 (.f 2 112), .o 114 (.l 113), .o 115 (.q 57 [106, 110, 114]), .m 116 9, .o 117 (.q 56 [105, 115, 116]), .o 118 (.i 1 103 104), .n (.st 1 (.tmp 118) (.tmp 117))]))) (.region [.o 119 (.c .add 100 1), .m 100 119]))))
def c35 : ACode := (.seq (.region [.o 4 (.mv (.const (.slice none 0 0))), .k 5 0]) (.seq (.region [.m 15 0, .o 16 (.q 36 [15]), .m 14 16, .o 17 (.e 0 14), .o 18 (.e 1 14), .m 6 17, .m 7 18]) (.seq (.seq (.region [.m 19 7, .o 20 (.c .neq 19 0)]) (.cond (.tmp 20) (.seq (.region [.m 21 7, .o 4 (.mv (.const (.slice none 0 0))), .m 5 21]) .ret) .skip)) (.seq (.region [.m 23 1, .o 24 (.q 36 [23]), .m 22 24, .o 25 (.e 0 22), .o 26 (.e 1 22), .m 8 25, .m 7 26]) (.seq (.seq (.region [.m 27 7, .o 28 (.c .neq 27 0)]) (.cond (.tmp 28) (.seq (.region [.m 29 7, .o 4 (.mv (.const (.slice none 0 0))), .m 5 29]) .ret) .skip)) (.seq (.seq (.region [.m 30 6, .o 31 (.nilck (.tmp 30)), .o 32 (.f 1 31), .o 33 (.l 32), .m 34 8, .o 35 (.nilck (.tmp 34)), .o 36 (.f 1 35), .o 37 (.l 36), .o 38 (.b .neq 33 37), .m 39 38, .g 40 (.m 8) 39 false, .g 41 (.nilck (.tmp 40)) 39 false, .g 42 (.f 2 41) 39 false, .g 43 (.l 42) 39 false, .g 44 (.m 6) 39 false, .g 45 (.nilck (.tmp 44)) 39 false, .g 46 (.f 2 45) 39 false, .g 47 (.l 46) 39 false, .g 48 (.b .rem 43 47) 39 false, .g 49 (.c .neq 48 0) 39 false, .o 50 (.pick (.tmp 39) (.const (.bool true)) (.tmp 49))]) (.cond (.tmp 50) (.seq (.region [.o 4 (.mv (.const (.slice none 0 0))), .k 5 3]) .ret) .skip)) (.seq (.region [.k 9 0]) (.seq (.seq (.region [.m 51 6, .o 52 (.nilck (.tmp 51)), .o 53 (.f 2 52), .o 54 (.l 53), .o 55 (.c .gtr 54 1)]) (.cond (.tmp 55) (.seq (.region [.m 56 8, .o 57 (.nilck (.tmp 56)), .o 58 (.f 0 57), .o 59 (.l 58), .o 60 (.c .sub 59 1), .m 61 6, .o 62 (.nilck (.tmp 61)), .o 63 (.f 0 62), .o 64 (.l 63), .o 65 (.c .sub 64 1), .o 66 (.b .quo 60 65), .m 10 66]) (.seq (.region [.m 67 10, .m 11 67]) (.block 0 [0, 6, 8, 9] (.loop [0, 6, 8, 9, 10, 11] c35L0)))) .skip)) (.seq (.region [.m 96 0, .o 97 (.mks 3 1 8 [(.int .i64 0)] (.tmp 96) (.tmp 96)), .m 12 97]) (.seq (.seq (.region [.m 98 12, .o 99 (.n 98), .k 100 0]) (.block 2 [12] (.loop [6, 8, 9, 12, 99, 100] c35L1))) (.seq (.region [.m 120 12, .m 4 120, .k 5 0]) .ret)))))))))))
def F35 : AFun := ⟨c35, 2, 121, [(.tmp 4), (.tmp 5)]⟩
def K35 : Nat → List Nat × List Nat
 | 0 => ([0, 6, 8, 9, 10, 11], [0, 6, 8, 9])
 | 1 => ([], [0, 6, 8, 9, 10, 11])
 | 2 => ([6, 8, 9, 12, 99, 100], [12])
 | 3 => ([], [6, 8, 9, 12, 99, 100])
 | _ => ([], [])
theorem F35_ok : kj8 Try.prog K35 Try.f35 = some F35 := by kernel_rfl
/- 36: syndrome/field.New -/
def tb2 : List Value := [(.int .u32 0), (.int .i32 0), (.int .u32 0), (.int .u32 0), (.int .i32 0), (.int .u32 0), (.int .u32 0), (.int .i32 0), (.int .u32 0), (.int .u32 0), (.int .i32 0), (.int .u32 0), (.int .u32 0), (.int .i32 0), (.int .u32 0), (.int .u32 0), (.int .i32 0), (.int .u32 0), (.int .u32 0), (.int .i32 0), (.int .u32 0), (.int .u32 0), (.int .i32 0), (.int .u32 0), (.int .u32 0), (.int .i32 0), (.int .u32 0), (.int .u32 0), (.int .i32 0), (.int .u32 0), (.int .u32 0), (.int .i32 0), (.int .u32 0), (.int .u32 0), (.int .i32 0), (.int .u32 0), (.int .u32 0), (.int .i32 0), (.int .u32 0), (.int .u32 0), (.int .i32 0), (.int .u32 0), (.int .u32 0), (.int .i32 0), (.int .u32 0), (.int .u32 0), (.int .i32 0), (.int .u32 0), (.int .u32 0), (.int .i32 0), (.int .u32 0), (.int .u32 0), (.int .i32 0), (.int .u32 0), (.int .u32 0), (.int .i32 0), (.int .u32 0), (.int .u32 0), (.int .i32 0), (.int .u32 0), (.int .u32 0), (.int .i32 0), (.int .u32 0), (.int .u32 0), (.int .i32 0), (.int .u32 0), (.int .u32 0), (.int .i32 0), (.int .u32 0), (.int .u32 0), (.int .i32 0), (.int .u32 0), (.int .u32 0), (.int .i32 0), (.int .u32 0), (.int .u32 0), (.int .i32 0), (.int .u32 0), (.int .u32 0), (.int .i32 0), (.int .u32 0), (.int .u32 0), (.int .i32 0), (.int .u32 0), (.int .u32 0), (.int .i32 0), (.int .u32 0), (.int .u32 0), (.int .i32 0), (.int .u32 0), (.int .u32 0), (.int .i32 0), (.int .u32 0), (.int .u32 0), (.int .i32 0), (.int .u32 0), (.int .u32 0), (.int .i32 0), (.int .u32 0), (.int .u32 0), (.int .i32 0), (.int .u32 0), (.int .u32 0), (.int .i32 0), (.int .u32 0), (.int .u32 0), (.int .i32 0), (.int .u32 0), (.int .u32 0), (.int .i32 0), (.int .u32 0), (.int .u32 0), (.int .i32 0), (.int .u32 0), (.int .u32 0), (.int .i32 0), (.int .u32 0), (.int .u32 0), (.int .i32 0), (.int .u32 0), (.int .u32 0), (.int .i32 0), (.int .u32 0), (.int .u32 0), (.int .i32 0), (.int .u32 0), (.int .u32 0), (.int .i32 0), (.int .u32 0), (.int .u32 0), (.int .i32 0), (.int .u32 0), (.int .u32 0), (.int .i32 0), (.int .u32 0), (.int .u32 0), (.int .i32 0), (.int .u32 0), (.int .u32 0), (.int .i32 0), (.int .u32 0), (.int .u32 0), (.int .i32 0), (.int .u32 0), (.int .u32 0), (.int .i32 0), (.int .u32 0), (.int .u32 0), (.int .i32 0), (.int .u32 0), (.int .u32 0), (.int .i32 0), (.int .u32 0), (.int .u32 0), (.int .i32 0), (.int .u32 0), (.int .u32 0), (.int .i32 0), (.int .u32 0), (.int .u32 0), (.int .i32 0), (.int .u32 0), (.int .u32 0), (.int .i32 0), (.int .u32 0), (.int .u32 0), (.int .i32 0), (.int .u32 0), (.int .u32 0), (.int .i32 0), (.int .u32 0), (.int .u32 0), (.int .i32 0), (.int .u32 0), (.int .u32 0), (.int .i32 0), (.int .u32 0), (.int .u32 0), (.int .i32 0), (.int .u32 0), (.int .u32 0), (.int .i32 0), (.int .u32 0), (.int .u32 0), (.int .i32 0), (.int .u32 0), (.int .u32 0), (.int .i32 0), (.int .u32 0), (.int .u32 0), (.int .i32 0), (.int .u32 0), (.int .u32 0), (.int .i32 0), (.int .u32 0), (.pointer none), (.pointer none), (.pointer none), (.pointer none), (.pointer none), (.pointer none), (.pointer none), (.pointer none), (.pointer none), (.pointer none), (.pointer none), (.pointer none), (.pointer none), (.pointer none), (.pointer none), (.pointer none), (.pointer none), (.pointer none), (.pointer none), (.pointer none), (.pointer none), (.pointer none), (.pointer none), (.pointer none), (.pointer none), (.pointer none), (.pointer none), (.pointer none), (.pointer none), (.pointer none), (.pointer none), (.pointer none), (.pointer none), (.pointer none), (.pointer none), (.pointer none), (.pointer none), (.pointer none), (.pointer none), (.pointer none), (.pointer none), (.pointer none), (.pointer none), (.pointer none), (.pointer none), (.pointer none), (.pointer none), (.pointer none), (.pointer none), (.pointer none), (.pointer none), (.pointer none), (.pointer none), (.pointer none), (.pointer none), (.pointer none), (.pointer none), (.pointer none), (.pointer none), (.pointer none), (.pointer none), (.pointer none), (.pointer none), (.pointer none), (.pointer none)]
def c36 : ACode := (.seq (.region [.o 1 (.box 3 1 (.tmp 0)), .o 2 (.mv (.const (.pointer none))), .k 3 0]) (.seq (.seq (.region [.o 5 (.l 1), .o 6 (.c .lss 5 2), .m 7 6, .g 8 (.l 1) 7 false, .g 9 (.c .gtr 8 64) 7 false, .o 10 (.pick (.tmp 7) (.const (.bool true)) (.tmp 9))]) (.cond (.tmp 10) (.seq (.region [.o 2 (.mv (.const (.pointer none))), .k 3 1]) .ret) .skip)) (.seq (.region [.o 4 (.alloc 93 tb2)]) (.seq (.region [.o 11 (.l 1), .o 12 (.f 0 4), .o 13 (.iaddrA 65 3 (.tmp 12) (.tmp 11)), .o 14 (.mkf 59 [(.tmp 1), (.tmp 4)]), .o 15 (.q 58 [13, 14])]) (.seq (.seq (.region [.o 16 (.l 1), .o 17 (.f 195 4), .o 18 (.iaddrA 65 1 (.tmp 17) (.tmp 16)), .o 19 (.l 18), .o 20 (.eqn false 1 (.tmp 19))]) (.cond (.tmp 20) (.seq (.region [.o 2 (.mv (.const (.pointer none))), .k 3 1]) .ret) .skip)) (.seq (.region [.o 21 (.l 1), .o 22 (.f 195 4), .o 23 (.iaddrA 65 1 (.tmp 22) (.tmp 21)), .o 24 (.l 23), .m 2 24, .k 3 0]) .ret))))))
def F36 : AFun := ⟨c36, 1, 25, [(.tmp 2), (.tmp 3)]⟩
def K36 : Nat → List Nat × List Nat
 | _ => ([], [])
theorem F36_ok : kj8 Try.prog K36 Try.f36 = some F36 := by kernel_rfl
/- 37: syndrome/syndromeref.In -/
def c37L0 : ACode := (.seq (.seq (.region [.m 6 5, .m 7 1, .o 8 (.n 7), .o 9 (.b .lss 6 8)]) (.cond (.tmp 9) .skip (.exit 0))) (.seq (.block 1 [0, 1, 5] (.seq (.region [.m 12 1, .m 13 5, .o 14 (.i 1 12 13), .o 15 (.l 14), .m 16 0, .o 17 (.b .eql 15 16)]) (.cond (.tmp 17) (.seq (.region [.o 4 (.mv (.const (.bool true)))]) .ret) .skip))) (.region [.m 10 5, .o 11 (.c .add 10 1), .m 5 11])))
def c37 : ACode := (.seq (.region [.o 4 (.mv (.const (.bool false)))]) (.seq (.seq (.region [.k 5 0]) (.block 0 [] (.loop [0, 1, 5] c37L0))) (.seq (.region [.o 4 (.mv (.const (.bool false)))]) .ret)))
def F37 : AFun := ⟨c37, 2, 18, [(.tmp 4)]⟩
def K37 : Nat → List Nat × List Nat
 | 0 => ([0, 1, 5], [])
 | 1 => ([], [0, 1, 5])
 | _ => ([], [])
theorem F37_ok : kj8 Try.prog K37 Try.f37 = some F37 := by kernel_rfl
/- 53: (*syndrome/field.Field).Has -/
def c53 : ACode := (.seq (.region [.o 4 (.mv (.const (.bool false)))]) (.seq (.region [.m 5 1, .o 6 (.c .geq 5 0), .m 7 6, .g 8 (.m 1) 7 true, .g 9 (.m 0) 7 true, .g 10 (.nilck (.tmp 9)) 7 true, .g 11 (.f 0 10) 7 true, .g 12 (.l 11) 7 true, .g 13 (.b .lss 8 12) 7 true, .o 14 (.pick (.tmp 7) (.tmp 13) (.const (.bool false))), .m 4 14]) .ret))
def F53 : AFun := ⟨c53, 2, 15, [(.tmp 4)]⟩
def K53 : Nat → List Nat × List Nat
 | _ => ([], [])
theorem F53_ok : kj8 Try.prog K53 Try.f53 = some F53 := by kernel_rfl
/- 54: syndrome/syndromeref.Sizes -/
def c54L0 : ACode := (.seq (.seq (.region [.m 5 2, .o 6 (.c .leq 5 64)]) (.cond (.tmp 6) .skip (.exit 0))) (.seq (.block 1 [1, 2] (.seq (.region [.m 10 2, .o 11 (.q 81 [10]), .m 9 11, .o 12 (.e 0 9), .o 13 (.e 1 9), .m 3 12, .m 4 13]) (.seq (.region [.m 14 3, .o 15 (.c .gtr 14 0)]) (.cond (.tmp 15) (.region [.m 16 1, .m 17 2, .o 18 (.mkSl 3 1 1 [(.tmp 17)]), .o 19 (.app 3 1 8 (.tmp 16) (.tmp 18)), .m 1 19]) .skip)))) (.region [.m 7 2, .o 8 (.c .add 7 1), .m 2 8])))
def c54 : ACode := (.seq (.region [.o 0 (.mv (.const (.slice none 0 0)))]) (.seq (.region [.o 1 (.mv (.const (.slice none 0 0)))]) (.seq (.seq (.region [.k 2 2]) (.block 0 [1] (.loop [1, 2] c54L0))) (.seq (.region [.m 20 1, .m 0 20]) .ret))))
def F54 : AFun := ⟨c54, 0, 21, [(.tmp 0)]⟩
def K54 : Nat → List Nat × List Nat
 | 0 => ([1, 2], [1])
 | 1 => ([], [1, 2])
 | _ => ([], [])
theorem F54_ok : kj8 Try.prog K54 Try.f54 = some F54 := by kernel_rfl
/- 55: syndrome/field.prime -/
def c55L0 : ACode := (.seq (.seq (.region [.m 4 0, .m 5 2, .o 6 (.b .rem 4 5), .o 7 (.c .neq 6 0)]) (.cond (.tmp 7) .skip (.exit 0))) (.block 1 [0, 2, 3] (.region [.m 8 2, .o 9 (.c .add 8 1), .m 2 9])))
def c55L1 : ACode := (.seq (.seq (.region [.m 10 0, .m 11 2, .o 12 (.b .rem 10 11), .o 13 (.c .eql 12 0)]) (.cond (.tmp 13) .skip (.exit 2))) (.seq (.block 3 [0, 2, 3] (.region [.m 17 3, .o 18 (.c .add 17 1), .m 3 18])) (.region [.m 14 0, .m 15 2, .o 16 (.b .quo 14 15), .m 0 16])))
def c55 : ACode := (.seq (.region [.k 2 0, .k 3 0]) (.seq (.region [.k 2 2]) (.seq (.block 0 [0, 2, 3] (.loop [0, 2, 3] c55L0)) (.seq (.block 2 [0, 2, 3] (.loop [0, 2, 3] c55L1)) (.seq (.seq (.region [.m 19 0, .o 20 (.c .neq 19 1)]) (.cond (.tmp 20) (.seq (.region [.k 2 0, .k 3 0]) .ret) .skip)) (.seq (.region [.m 21 2, .m 22 3, .m 2 21, .m 3 22]) .ret))))))
def F55 : AFun := ⟨c55, 1, 23, [(.tmp 2), (.tmp 3)]⟩
def K55 : Nat → List Nat × List Nat
 | 0 => ([0, 2, 3], [0, 2, 3])
 | 1 => ([], [0, 2, 3])
 | 2 => ([0, 2, 3], [0, 2, 3])
 | 3 => ([], [0, 2, 3])
 | _ => ([], [])
theorem F55_ok : kj8 Try.prog K55 Try.f55 = some F55 := by kernel_rfl
/- 56: (*syndrome/field.Field).value -/
def c56L0 : ACode := (.seq (.seq (.region [.m 12 8, .o 13 (.c .geq 12 0)]) (.cond (.tmp 13) .skip (.exit 0))) (.seq (.block 1 [0, 1, 2, 7, 8] (.region [.m 16 0, .m 17 0, .m 18 7, .m 19 2, ⟨(some 20), (.call 22 [(.tmp 17), (.tmp 18), (.tmp 19)]), none, true⟩, .m 21 1, .m 22 8, .o 23 (.i 1 21 22), ⟨(some 24), (.ld false 1 (.tmp 23)), none, true⟩, .o 25 (.q 21 [16, 20, 24]), .m 7 25])) (.region [.m 14 8, .o 15 (.c .sub 14 1), .m 8 15])))
def c56 : ACode := (.seq (.region [.k 6 0]) (.seq (.region [.k 7 0]) (.seq (.seq (.region [.m 9 1, .o 10 (.n 9), .o 11 (.c .sub 10 1), .m 8 11]) (.block 0 [7] (.loop [0, 1, 2, 7, 8] c56L0))) (.seq (.region [.m 26 7, .m 6 26]) .ret))))
def F56 : AFun := ⟨c56, 3, 27, [(.tmp 6)]⟩
def K56 : Nat → List Nat × List Nat
 | 0 => ([0, 1, 2, 7, 8], [7])
 | 1 => ([], [0, 1, 2, 7, 8])
 | _ => ([], [])
theorem F56_ok : kj8 Try.prog K56 Try.f56 = some F56 := by kernel_rfl
/- 57: syndrome/field.digits -/
def c57L0 : ACode := (.seq (.region [.o 14 (.b .lss 13 12)]) (.seq (.cond (.tmp 14) .skip (.exit 0)) (.seq (.block 1 [0, 1, 7, 12, 13] (.seq (.region [.m 15 13, .m 8 15]) (.seq (.region [.m 16 7, .m 17 8, .m 18 0, .m 19 1, .o 20 (.b .rem 18 19), .o 21 (.i 1 16 17), .n (.st 1 (.tmp 21) (.tmp 20))]) (.region [.m 22 0, .m 23 1, .o 24 (.b .quo 22 23), .m 0 24])))) (.region [.o 25 (.c .add 13 1), .m 13 25]))))
def c57 : ACode := (.seq (.region [.o 6 (.mv (.const (.slice none 0 0)))]) (.seq (.region [.m 9 2, .o 10 (.mks 3 1 8 [(.int .i64 0)] (.tmp 9) (.tmp 9)), .m 7 10]) (.seq (.seq (.region [.m 11 7, .o 12 (.n 11), .k 13 0]) (.block 0 [7] (.loop [0, 1, 7, 12, 13] c57L0))) (.seq (.region [.m 26 7, .m 6 26]) .ret))))
def F57 : AFun := ⟨c57, 3, 27, [(.tmp 6)]⟩
def K57 : Nat → List Nat × List Nat
 | 0 => ([0, 1, 7, 12, 13], [7])
 | 1 => ([], [0, 1, 7, 12, 13])
 | _ => ([], [])
theorem F57_ok : kj8 Try.prog K57 Try.f57 = some F57 := by kernel_rfl
/- 59: syndrome/field.New$1 -/
def c59 : ACode := (.region [.o 2 (.l 0), .o 3 (.l 0), ⟨(some 4), (.call 60 [(.tmp 3)]), none, true⟩, .o 5 (.f 195 1), .o 6 (.iaddrA 65 1 (.tmp 5) (.tmp 2)), .n (.st 1 (.tmp 6) (.tmp 4))])
def F59 : AFun := ⟨c59, 2, 7, []⟩
def K59 : Nat → List Nat × List Nat
 | _ => ([], [])
theorem F59_ok : kj8 Try.prog K59 Try.f59 = some F59 := by kernel_rfl
/- 60: syndrome/field.build -/
def c60L0 : ACode := (.seq (.seq (.region [.m 28 5, .o 29 (.q 84 [28]), .o 30 (.un .not (.tmp 29))]) (.cond (.tmp 30) .skip (.exit 0))) (.seq (.block 1 [5] .skip) (.region [.m 31 5, .o 32 (.nilck (.tmp 31)), .o 33 (.f 4 32), .o 34 (.l 33), .o 35 (.c .add 34 1), .o 36 (.nilck (.tmp 31)), .o 37 (.f 4 36), .n (.st 1 (.tmp 37) (.tmp 35))])))
def c60L1 : ACode := (.seq (.region [.o 45 (.b .lss 44 43)]) (.seq (.cond (.tmp 45) .skip (.exit 2)) (.seq (.block 3 [3, 4, 5, 43, 44] (.seq (.region [.m 46 44, .m 6 46]) (.seq (.region [.m 47 5, .m 48 6, .m 49 3, .m 50 4, .o 51 (.q 57 [48, 49, 50]), .o 52 (.mkSl 3 1 1 [(.const (.int .i64 1))]), .o 53 (.app 3 1 8 (.tmp 51) (.tmp 52)), .o 54 (.nilck (.tmp 47)), .o 55 (.f 3 54), .n (.st 1 (.tmp 55) (.tmp 53))]) (.seq (.region [.m 56 5, .o 57 (.q 84 [56])]) (.cond (.tmp 57) (.seq (.region [.m 58 5, .m 2 58]) .ret) .skip))))) (.region [.o 59 (.c .add 44 1), .m 44 59]))))
def c60 : ACode := (.seq (.region [.o 2 (.mv (.const (.pointer none)))]) (.seq (.region [.m 8 0, .o 9 (.q 55 [8]), .m 7 9, .o 10 (.e 0 7), .o 11 (.e 1 7), .m 3 10, .m 4 11]) (.seq (.seq (.region [.m 12 3, .o 13 (.c .eql 12 0)]) (.cond (.tmp 13) (.seq (.region [.o 2 (.mv (.const (.pointer none)))]) .ret) .skip)) (.seq (.region [.m 14 0, .m 15 3, .m 16 4, .o 17 (.build [(.int .i64 0), (.int .i64 0), (.int .i64 0), (.slice none 0 0), (.int .i64 0), (.slice none 0 0), (.slice none 0 0)] [(0, 1), (1, 1), (2, 1), (3, 1), (4, 1), (5, 1), (6, 1)] [(0, (.tmp 14)), (1, (.tmp 15)), (2, (.tmp 16))]), .o 18 (.box 72 7 (.tmp 17)), .m 5 18]) (.seq (.seq (.region [.m 19 4, .o 20 (.c .eql 19 1)]) (.cond (.tmp 20) (.seq (.region [.m 21 5, .o 22 (.mkSl 3 1 2 [(.const (.int .i64 0)), (.const (.int .i64 1))]), .o 23 (.nilck (.tmp 21)), .o 24 (.f 3 23), .n (.st 1 (.tmp 24) (.tmp 22))]) (.seq (.seq (.region [.m 25 5, .o 26 (.nilck (.tmp 25)), .o 27 (.f 4 26), .n (.st 1 (.tmp 27) (.const (.int .i64 1)))]) (.block 0 [5] (.loop [5] c60L0))) (.seq (.region [.m 38 5, .m 2 38]) .ret))) .skip)) (.seq (.region [.m 39 5, .m 40 3, .o 41 (.nilck (.tmp 39)), .o 42 (.f 4 41), .n (.st 1 (.tmp 42) (.tmp 40))]) (.seq (.seq (.region [.m 43 0, .k 44 0]) (.block 2 [] (.loop [3, 4, 5, 43, 44] c60L1))) (.seq (.region [.o 2 (.mv (.const (.pointer none)))]) .ret))))))))
def F60 : AFun := ⟨c60, 1, 60, [(.tmp 2)]⟩
def K60 : Nat → List Nat × List Nat
 | 0 => ([5], [5])
 | 1 => ([], [5])
 | 2 => ([3, 4, 5, 43, 44], [])
 | 3 => ([], [3, 4, 5, 43, 44])
 | _ => ([], [])
theorem F60_ok : kj8 Try.prog K60 Try.f60 = some F60 := by kernel_rfl
/- 81: syndrome/syndromeref.Prime -/
def c81L0 : ACode := (.seq (.seq (.region [.m 15 0, .m 16 4, .o 17 (.b .rem 15 16), .o 18 (.c .eql 17 0)]) (.cond (.tmp 18) .skip (.exit 2))) (.block 3 [0, 4, 5] (.seq (.region [.m 19 0, .m 20 4, .o 21 (.b .quo 19 20), .m 0 21]) (.region [.m 22 5, .o 23 (.c .add 22 1), .m 5 23]))))
def c81L1 : ACode := (.seq (.seq (.region [.m 6 4, .m 7 0, .o 8 (.b .leq 6 7)]) (.cond (.tmp 8) .skip (.exit 0))) (.seq (.block 1 [0, 4] (.seq (.seq (.region [.m 11 0, .m 12 4, .o 13 (.b .rem 11 12), .o 14 (.c .neq 13 0)]) (.cond (.tmp 14) (.exit 1) .skip)) (.seq (.region [.k 5 0]) (.seq (.block 2 [0, 4, 5] (.loop [0, 4, 5] c81L0)) (.seq (.seq (.region [.m 24 0, .o 25 (.c .eql 24 1)]) (.cond (.tmp 25) (.seq (.region [.m 26 4, .m 27 5, .m 2 26, .m 3 27]) .ret) .skip)) (.seq (.region [.k 2 0, .k 3 0]) .ret)))))) (.region [.m 9 4, .o 10 (.c .add 9 1), .m 4 10])))
def c81 : ACode := (.seq (.region [.k 2 0, .k 3 0]) (.seq (.seq (.region [.k 4 2]) (.block 0 [] (.loop [0, 4] c81L1))) (.seq (.region [.k 2 0, .k 3 0]) .ret)))
def F81 : AFun := ⟨c81, 1, 28, [(.tmp 2), (.tmp 3)]⟩
def K81 : Nat → List Nat × List Nat
 | 0 => ([0, 4], [])
 | 1 => ([], [0, 4])
 | 2 => ([0, 4, 5], [0, 4, 5])
 | 3 => ([], [0, 4, 5])
 | _ => ([], [])
theorem F81_ok : kj8 Try.prog K81 Try.f81 = some F81 := by kernel_rfl
/- 84: (*syndrome/field.Field).fill -/
def c84L0 : ACode := (.seq (.region [.o 29 (.b .lss 28 27)]) (.seq (.cond (.tmp 29) .skip (.exit 0)) (.seq (.block 1 [0, 27, 28] (.seq (.region [.m 30 28, .m 3 30]) (.region [.m 31 0, .o 32 (.nilck (.tmp 31)), .o 33 (.f 6 32), .o 34 (.l 33), .m 35 3, .o 36 (.i 1 34 35), .n (.st 1 (.tmp 36) (.const (.int .i64 (-1))))]))) (.region [.o 37 (.c .add 28 1), .m 28 37]))))
def c84L1 : ACode := (.seq (.region [.o 44 (.b .lss 43 42)]) (.seq (.cond (.tmp 44) .skip (.exit 2)) (.seq (.block 3 [0, 4, 42, 43] (.seq (.region [.m 45 43, .m 5 45]) (.seq (.seq (.region [.m 46 4, .o 47 (.c .eql 46 0), .m 48 47, .g 49 (.m 0) 48 false, .g 50 (.nilck (.tmp 49)) 48 false, .g 51 (.f 6 50) 48 false, .g 52 (.l 51) 48 false, .g 53 (.m 4) 48 false, .g 54 (.i 1 52 53) 48 false, .g 55 (.l 54) 48 false, .g 56 (.c .geq 55 0) 48 false, .o 57 (.pick (.tmp 48) (.const (.bool true)) (.tmp 56))]) (.cond (.tmp 57) (.seq (.region [.o 2 (.mv (.const (.bool false)))]) .ret) .skip)) (.seq (.region [.m 58 0, .o 59 (.nilck (.tmp 58)), .o 60 (.f 5 59), .o 61 (.l 60), .m 62 5, .m 63 0, .o 64 (.nilck (.tmp 63)), .o 65 (.f 6 64), .o 66 (.l 65), .m 67 4, .m 68 4, .m 69 5, .o 70 (.i 1 61 62), .n (.st 1 (.tmp 70) (.tmp 68)), .o 71 (.i 1 66 67), .n (.st 1 (.tmp 71) (.tmp 69))]) (.region [.m 72 0, .m 73 4, .o 74 (.q 101 [72, 73]), .m 4 74]))))) (.region [.o 75 (.c .add 43 1), .m 43 75]))))
def c84 : ACode := (.seq (.region [.o 2 (.mv (.const (.bool false)))]) (.seq (.region [.m 6 0, .m 7 0, .o 8 (.nilck (.tmp 7)), .o 9 (.f 0 8), .o 10 (.l 9), .o 11 (.c .sub 10 1), .o 12 (.mks 3 1 8 [(.int .i64 0)] (.tmp 11) (.tmp 11)), .o 13 (.nilck (.tmp 6)), .o 14 (.f 5 13), .n (.st 1 (.tmp 14) (.tmp 12))]) (.seq (.region [.m 15 0, .m 16 0, .o 17 (.nilck (.tmp 16)), .o 18 (.f 0 17), .o 19 (.l 18), .o 20 (.mks 3 1 8 [(.int .i64 0)] (.tmp 19) (.tmp 19)), .o 21 (.nilck (.tmp 15)), .o 22 (.f 6 21), .n (.st 1 (.tmp 22) (.tmp 20))]) (.seq (.seq (.region [.m 23 0, .o 24 (.nilck (.tmp 23)), .o 25 (.f 6 24), .o 26 (.l 25), .o 27 (.n 26), .k 28 0]) (.block 0 [0] (.loop [0, 27, 28] c84L0))) (.seq (.region [.k 4 1]) (.seq (.seq (.region [.m 38 0, .o 39 (.nilck (.tmp 38)), .o 40 (.f 0 39), .o 41 (.l 40), .o 42 (.c .sub 41 1), .k 43 0]) (.block 2 [4] (.loop [0, 4, 42, 43] c84L1))) (.seq (.region [.m 76 4, .o 77 (.c .eql 76 1), .m 2 77]) .ret)))))))
def F84 : AFun := ⟨c84, 1, 78, [(.tmp 2)]⟩
def K84 : Nat → List Nat × List Nat
 | 0 => ([0, 27, 28], [0])
 | 1 => ([], [0, 27, 28])
 | 2 => ([0, 4, 42, 43], [4])
 | 3 => ([], [0, 4, 42, 43])
 | _ => ([], [])
theorem F84_ok : kj8 Try.prog K84 Try.f84 = some F84 := by kernel_rfl
/- 101: (*syndrome/field.Field).turn -/
def c101L0 : ACode := (.seq (.region [.o 57 (.b .lss 56 55)]) (.seq (.cond (.tmp 57) .skip (.exit 0)) (.seq (.block 1 [0, 5, 6, 55, 56] (.seq (.region [.m 58 56, .m 7 58]) (.region [.m 59 5, .m 60 7, .m 61 5, .m 62 7, .o 63 (.i 1 61 62), .o 64 (.l 63), .m 65 6, .m 66 0, .o 67 (.nilck (.tmp 66)), .o 68 (.f 1 67), .o 69 (.l 68), .m 70 0, .o 71 (.nilck (.tmp 70)), .o 72 (.f 3 71), .o 73 (.l 72), .m 74 7, .o 75 (.i 1 73 74), .o 76 (.l 75), .o 77 (.b .sub 69 76), .o 78 (.b .mul 65 77), .o 79 (.b .add 64 78), .m 80 0, .o 81 (.nilck (.tmp 80)), .o 82 (.f 1 81), .o 83 (.l 82), .o 84 (.b .rem 79 83), .o 85 (.i 1 59 60), .n (.st 1 (.tmp 85) (.tmp 84))]))) (.region [.o 86 (.c .add 56 1), .m 56 86]))))
def c101 : ACode := (.seq (.region [.k 4 0]) (.seq (.seq (.region [.m 8 0, .o 9 (.nilck (.tmp 8)), .o 10 (.f 2 9), .o 11 (.l 10), .o 12 (.c .eql 11 1)]) (.cond (.tmp 12) (.seq (.region [.m 13 1, .m 14 0, .o 15 (.nilck (.tmp 14)), .o 16 (.f 4 15), .o 17 (.l 16), .o 18 (.b .mul 13 17), .m 19 0, .o 20 (.nilck (.tmp 19)), .o 21 (.f 1 20), .o 22 (.l 21), .o 23 (.b .rem 18 22), .m 4 23]) .ret) .skip)) (.seq (.region [.m 24 1, .m 25 0, .o 26 (.nilck (.tmp 25)), .o 27 (.f 1 26), .o 28 (.l 27), .m 29 0, .o 30 (.nilck (.tmp 29)), .o 31 (.f 2 30), .o 32 (.l 31), .o 33 (.q 57 [24, 28, 32]), .m 5 33]) (.seq (.region [.m 34 5, .m 35 0, .o 36 (.nilck (.tmp 35)), .o 37 (.f 2 36), .o 38 (.l 37), .o 39 (.c .sub 38 1), .o 40 (.i 1 34 39), .o 41 (.l 40), .m 6 41]) (.seq (.region [.m 42 5, .o 43 (.sl 1 (.tmp 42) (some (.const (.int .i64 1))) none), .m 44 5, .m 45 0, .o 46 (.nilck (.tmp 45)), .o 47 (.f 2 46), .o 48 (.l 47), .o 49 (.c .sub 48 1), .o 50 (.sl 1 (.tmp 44) none (some (.tmp 49))), .o 51 (.cpy 1 (.tmp 43) (.tmp 50))]) (.seq (.region [.m 52 5, .o 53 (.iaddr 1 (.tmp 52) (.const (.int .i64 0))), .n (.st 1 (.tmp 53) (.const (.int .i64 0)))]) (.seq (.seq (.region [.m 54 5, .o 55 (.n 54), .k 56 0]) (.block 0 [0, 5] (.loop [0, 5, 6, 55, 56] c101L0))) (.seq (.region [.m 87 5, .m 88 0, .o 89 (.nilck (.tmp 88)), .o 90 (.f 1 89), .o 91 (.l 90), .o 92 (.q 106 [87, 91]), .m 4 92]) .ret))))))))
def F101 : AFun := ⟨c101, 2, 93, [(.tmp 4)]⟩
def K101 : Nat → List Nat × List Nat
 | 0 => ([0, 5, 6, 55, 56], [0, 5])
 | 1 => ([], [0, 5, 6, 55, 56])
 | _ => ([], [])
theorem F101_ok : kj8 Try.prog K101 Try.f101 = some F101 := by kernel_rfl
/- 106: syndrome/field.number -/
def c106L0 : ACode := (.seq (.seq (.region [.m 10 6, .o 11 (.c .geq 10 0)]) (.cond (.tmp 11) .skip (.exit 0))) (.seq (.block 1 [0, 1, 5, 6] (.region [.m 14 5, .m 15 1, .o 16 (.b .mul 14 15), .m 17 0, .m 18 6, .o 19 (.i 1 17 18), .o 20 (.l 19), .o 21 (.b .add 16 20), .m 5 21])) (.region [.m 12 6, .o 13 (.c .sub 12 1), .m 6 13])))
def c106 : ACode := (.seq (.region [.k 4 0]) (.seq (.region [.k 5 0]) (.seq (.seq (.region [.m 7 0, .o 8 (.n 7), .o 9 (.c .sub 8 1), .m 6 9]) (.block 0 [5] (.loop [0, 1, 5, 6] c106L0))) (.seq (.region [.m 22 5, .m 4 22]) .ret))))
def F106 : AFun := ⟨c106, 2, 23, [(.tmp 4)]⟩
def K106 : Nat → List Nat × List Nat
 | 0 => ([0, 1, 5, 6], [5])
 | 1 => ([], [0, 1, 5, 6])
 | _ => ([], [])
theorem F106_ok : kj8 Try.prog K106 Try.f106 = some F106 := by kernel_rfl
end Go.Proofs.Ytghfdpdiibiigaa
