/-
  Functions of this seat as the small machine's code, written by a program of my own (gen.py); each is checked to be what the model's function is turned into. No condition.
-/
import Derived.Test.YtoglhlonhmmieaaGreatK2
import Derived.Test.YtoglhlonhmmieaaGreatProg
set_option linter.unusedVariables false
set_option linter.unusedSimpArgs false
set_option linter.unusedSectionVars false
set_option maxRecDepth 100000
namespace Go.Proofs.YtoglhlonhmmieaaGreat
open Go.Am
/- 94: slices.insertionSortCmpFunc[[]int] -/
def c94L0:ACode:=(.seq (.seq (.region [.m 18 9, .m 19 1, .o 20 (.b .gtr 18 19), .m 21 20, .g 22 (.m 3) 21 true, .g 23 (.m 0) 21 true, .g 24 (.m 9) 21 true, .g 25 (.i 1 23 24) 21 true, .g 26 (.l 25) 21 true, .g 27 (.m 0) 21 true, .g 28 (.m 9) 21 true, .g 29 (.c .sub 28 1) 21 true, .g 30 (.i 1 27 29) 21 true, .g 31 (.l 30) 21 true, .g 32 (.calld (.tmp 22) [(.tmp 26),(.tmp 31)]) 21 true, .g 33 (.c .lss 32 0) 21 true, .o 34 (.pick (.tmp 21) (.tmp 33) (.const (.bool false)))]) (.cond (.tmp 34) .skip (.exit 2))) (.seq (.block 3 [0,1,2,3,8,9] (.region [.m 37 0, .m 38 9, .m 39 0, .m 40 9, .o 41 (.c .sub 40 1), .m 42 0, .m 43 9, .o 44 (.c .sub 43 1), .o 45 (.i 1 42 44), .o 46 (.l 45), .m 47 0, .m 48 9, .o 49 (.i 1 47 48), .o 50 (.l 49), .o 51 (.i 1 37 38), .n (.st 1 (.tmp 51) (.tmp 46)), .o 52 (.i 1 39 41), .n (.st 1 (.tmp 52) (.tmp 50))])) (.region [.m 35 9, .o 36 (.c .sub 35 1), .m 9 36])))
def c94L1:ACode:=(.seq (.seq (.region [.m 12 8, .m 13 2, .o 14 (.b .lss 12 13)]) (.cond (.tmp 14) .skip (.exit 0))) (.seq (.block 1 [0,1,2,3,8] (.seq (.region [.m 17 8, .m 9 17]) (.block 2 [0,1,2,3,8] (.loop [0,1,2,3,8,9] c94L0)))) (.region [.m 15 8, .o 16 (.c .add 15 1), .m 8 16])))
def c94:ACode:=(.seq (.region [.m 10 1, .o 11 (.c .add 10 1), .m 8 11]) (.block 0 [] (.loop [0,1,2,3,8] c94L1)))
def F94:AFun:=⟨c94,4,53,[]⟩
def K94:Nat→List Nat×List Nat
 |0=>([0,1,2,3,8],[])
 |1=>([],[0,1,2,3,8])
 |2=>([0,1,2,3,8,9],[0,1,2,3,8])
 |3=>([],[0,1,2,3,8,9])
 |_=>([],[])
theorem F94_ok:kj8 Tryz.prog K94 noRg Tryz.f94=some F94:=by kernel_rfl
/- 95: slices.symMergeCmpFunc[[]int] -/
def c95L0:ACode:=(.seq (.seq (.region [.m 31 10, .m 32 11, .o 33 (.b .lss 31 32)]) (.cond (.tmp 33) .skip (.exit 0))) (.block 1 [0,1,4,10,11] (.seq (.region [.m 34 10, .m 35 11, .o 36 (.b .add 34 35), .o 37 (.conv .u64 (.tmp 36)), .o 38 (.bin .shr (.tmp 37) (.const (.int .u64 1))), .o 39 (.conv .i64 (.tmp 38)), .m 12 39]) (.seq (.region [.m 40 4, .m 41 0, .m 42 12, .o 43 (.i 1 41 42), .o 44 (.l 43), .m 45 0, .m 46 1, .o 47 (.i 1 45 46), .o 48 (.l 47), .o 49 (.calld (.tmp 40) [(.tmp 44),(.tmp 48)]), .o 50 (.c .lss 49 0)]) (.cond (.tmp 50) (.region [.m 51 12, .o 52 (.c .add 51 1), .m 10 52]) (.region [.m 53 12, .m 11 53]))))))
def c95L1:ACode:=(.seq (.seq (.region [.m 55 13, .m 56 10, .o 57 (.c .sub 56 1), .o 58 (.b .lss 55 57)]) (.cond (.tmp 58) .skip (.exit 2))) (.seq (.block 3 [0,10,13] (.region [.m 61 0, .m 62 13, .m 63 0, .m 64 13, .o 65 (.c .add 64 1), .m 66 0, .m 67 13, .o 68 (.c .add 67 1), .o 69 (.i 1 66 68), .o 70 (.l 69), .m 71 0, .m 72 13, .o 73 (.i 1 71 72), .o 74 (.l 73), .o 75 (.i 1 61 62), .n (.st 1 (.tmp 75) (.tmp 70)), .o 76 (.i 1 63 65), .n (.st 1 (.tmp 76) (.tmp 74))])) (.region [.m 59 13, .o 60 (.c .add 59 1), .m 13 60])))
def c95L2:ACode:=(.seq (.seq (.region [.m 83 14, .m 84 15, .o 85 (.b .lss 83 84)]) (.cond (.tmp 85) .skip (.exit 4))) (.block 5 [0,2,4,14,15] (.seq (.region [.m 86 14, .m 87 15, .o 88 (.b .add 86 87), .o 89 (.conv .u64 (.tmp 88)), .o 90 (.bin .shr (.tmp 89) (.const (.int .u64 1))), .o 91 (.conv .i64 (.tmp 90)), .m 16 91]) (.seq (.region [.m 92 4, .m 93 0, .m 94 2, .o 95 (.i 1 93 94), .o 96 (.l 95), .m 97 0, .m 98 16, .o 99 (.i 1 97 98), .o 100 (.l 99), .o 101 (.calld (.tmp 92) [(.tmp 96),(.tmp 100)]), .o 102 (.c .lss 101 0), .o 103 (.un .not (.tmp 102))]) (.cond (.tmp 103) (.region [.m 104 16, .o 105 (.c .add 104 1), .m 14 105]) (.region [.m 106 16, .m 15 106]))))))
def c95L3:ACode:=(.seq (.seq (.region [.m 108 17, .m 109 14, .o 110 (.b .gtr 108 109)]) (.cond (.tmp 110) .skip (.exit 6))) (.seq (.block 7 [0,14,17] (.region [.m 113 0, .m 114 17, .m 115 0, .m 116 17, .o 117 (.c .sub 116 1), .m 118 0, .m 119 17, .o 120 (.c .sub 119 1), .o 121 (.i 1 118 120), .o 122 (.l 121), .m 123 0, .m 124 17, .o 125 (.i 1 123 124), .o 126 (.l 125), .o 127 (.i 1 113 114), .n (.st 1 (.tmp 127) (.tmp 122)), .o 128 (.i 1 115 117), .n (.st 1 (.tmp 128) (.tmp 126))])) (.region [.m 111 17, .o 112 (.c .sub 111 1), .m 17 112])))
def c95L4:ACode:=(.seq (.seq (.region [.m 149 20, .m 150 21, .o 151 (.b .lss 149 150)]) (.cond (.tmp 151) .skip (.exit 8))) (.block 9 [0,1,2,3,4,18,19,20,21,22] (.seq (.region [.m 152 20, .m 153 21, .o 154 (.b .add 152 153), .o 155 (.conv .u64 (.tmp 154)), .o 156 (.bin .shr (.tmp 155) (.const (.int .u64 1))), .o 157 (.conv .i64 (.tmp 156)), .m 23 157]) (.seq (.region [.m 158 4, .m 159 0, .m 160 22, .m 161 23, .o 162 (.b .sub 160 161), .o 163 (.i 1 159 162), .o 164 (.l 163), .m 165 0, .m 166 23, .o 167 (.i 1 165 166), .o 168 (.l 167), .o 169 (.calld (.tmp 158) [(.tmp 164),(.tmp 168)]), .o 170 (.c .lss 169 0), .o 171 (.un .not (.tmp 170))]) (.cond (.tmp 171) (.region [.m 172 23, .o 173 (.c .add 172 1), .m 20 173]) (.region [.m 174 23, .m 21 174]))))))
def c95:ACode:=(.seq (.seq (.region [.m 25 2, .m 26 1, .o 27 (.b .sub 25 26), .o 28 (.c .eql 27 1)]) (.cond (.tmp 28) (.seq (.region [.m 29 2, .m 10 29]) (.seq (.region [.m 30 3, .m 11 30]) (.seq (.block 0 [0,1,10] (.loop [0,1,4,10,11] c95L0)) (.seq (.seq (.region [.m 54 1, .m 13 54]) (.block 2 [] (.loop [0,10,13] c95L1))) .ret)))) .skip)) (.seq (.seq (.region [.m 77 3, .m 78 2, .o 79 (.b .sub 77 78), .o 80 (.c .eql 79 1)]) (.cond (.tmp 80) (.seq (.region [.m 81 1, .m 14 81]) (.seq (.region [.m 82 2, .m 15 82]) (.seq (.block 4 [0,2,14] (.loop [0,2,4,14,15] c95L2)) (.seq (.seq (.region [.m 107 2, .m 17 107]) (.block 6 [] (.loop [0,14,17] c95L3))) .ret)))) .skip)) (.seq (.region [.m 129 1, .m 130 3, .o 131 (.b .add 129 130), .o 132 (.conv .u64 (.tmp 131)), .o 133 (.bin .shr (.tmp 132) (.const (.int .u64 1))), .o 134 (.conv .i64 (.tmp 133)), .m 18 134]) (.seq (.region [.m 135 18, .m 136 2, .o 137 (.b .add 135 136), .m 19 137]) (.seq (.region [.k 20 0, .k 21 0]) (.seq (.seq (.region [.m 138 2, .m 139 18, .o 140 (.b .gtr 138 139)]) (.cond (.tmp 140) (.seq (.region [.m 141 19, .m 142 3, .o 143 (.b .sub 141 142), .m 20 143]) (.region [.m 144 18, .m 21 144])) (.seq (.region [.m 145 1, .m 20 145]) (.region [.m 146 2, .m 21 146])))) (.seq (.region [.m 147 19, .o 148 (.c .sub 147 1), .m 22 148]) (.seq (.block 8 [0,1,2,3,4,18,19,20] (.loop [0,1,2,3,4,18,19,20,21,22] c95L4)) (.seq (.region [.m 175 19, .m 176 20, .o 177 (.b .sub 175 176), .m 24 177]) (.seq (.seq (.region [.m 178 20, .m 179 2, .o 180 (.b .lss 178 179), .m 181 180, .g 182 (.m 2) 181 true, .g 183 (.m 24) 181 true, .g 184 (.b .lss 182 183) 181 true, .o 185 (.pick (.tmp 181) (.tmp 184) (.const (.bool false)))]) (.cond (.tmp 185) (.region [.m 186 0, .m 187 20, .m 188 2, .m 189 24, .m 190 4, .o 191 (.q 102 [186,187,188,189,190])]) .skip)) (.seq (.seq (.region [.m 192 1, .m 193 20, .o 194 (.b .lss 192 193), .m 195 194, .g 196 (.m 20) 195 true, .g 197 (.m 18) 195 true, .g 198 (.b .lss 196 197) 195 true, .o 199 (.pick (.tmp 195) (.tmp 198) (.const (.bool false)))]) (.cond (.tmp 199) (.region [.m 200 0, .m 201 1, .m 202 20, .m 203 18, .m 204 4, .o 205 (.q 95 [200,201,202,203,204])]) .skip)) (.seq (.region [.m 206 18, .m 207 24, .o 208 (.b .lss 206 207), .m 209 208, .g 210 (.m 24) 209 true, .g 211 (.m 3) 209 true, .g 212 (.b .lss 210 211) 209 true, .o 213 (.pick (.tmp 209) (.tmp 212) (.const (.bool false)))]) (.cond (.tmp 213) (.region [.m 214 0, .m 215 18, .m 216 24, .m 217 3, .m 218 4, .o 219 (.q 95 [214,215,216,217,218])]) .skip)))))))))))))
def F95:AFun:=⟨c95,5,220,[]⟩
def K95:Nat→List Nat×List Nat
 |0=>([0,1,4,10,11],[0,1,10])
 |1=>([],[0,1,4,10,11])
 |2=>([0,10,13],[])
 |3=>([],[0,10,13])
 |4=>([0,2,4,14,15],[0,2,14])
 |5=>([],[0,2,4,14,15])
 |6=>([0,14,17],[])
 |7=>([],[0,14,17])
 |8=>([0,1,2,3,4,18,19,20,21,22],[0,1,2,3,4,18,19,20])
 |9=>([],[0,1,2,3,4,18,19,20,21,22])
 |_=>([],[])
theorem F95_ok:kj8 Tryz.prog K95 noRg Tryz.f95=some F95:=by kernel_rfl
/- 96: cmp.isNaN[int] -/
def c96:ACode:=(.seq (.region [.o 2 (.mv (.const (.bool false)))]) (.seq (.region [.m 3 0, .m 4 0, .o 5 (.b .neq 3 4), .m 2 5]) .ret))
def F96:AFun:=⟨c96,1,6,[(.tmp 2)]⟩
def K96:Nat→List Nat×List Nat
 |_=>([],[])
theorem F96_ok:kj8 Tryz.prog K96 noRg Tryz.f96=some F96:=by kernel_rfl
/- 101: syndrome/field.number -/
def c101L0:ACode:=(.seq (.seq (.region [.m 10 6, .o 11 (.c .geq 10 0)]) (.cond (.tmp 11) .skip (.exit 0))) (.seq (.block 1 [0,1,5,6] (.region [.m 14 5, .m 15 1, .o 16 (.b .mul 14 15), .m 17 0, .m 18 6, .o 19 (.i 1 17 18), .o 20 (.l 19), .o 21 (.b .add 16 20), .m 5 21])) (.region [.m 12 6, .o 13 (.c .sub 12 1), .m 6 13])))
def c101:ACode:=(.seq (.region [.k 4 0]) (.seq (.region [.k 5 0]) (.seq (.seq (.region [.m 7 0, .o 8 (.n 7), .o 9 (.c .sub 8 1), .m 6 9]) (.block 0 [5] (.loop [0,1,5,6] c101L0))) (.seq (.region [.m 22 5, .m 4 22]) .ret))))
def F101:AFun:=⟨c101,2,23,[(.tmp 4)]⟩
def K101:Nat→List Nat×List Nat
 |0=>([0,1,5,6],[5])
 |1=>([],[0,1,5,6])
 |_=>([],[])
theorem F101_ok:kj8 Tryz.prog K101 noRg Tryz.f101=some F101:=by kernel_rfl
end Go.Proofs.YtoglhlonhmmieaaGreat
