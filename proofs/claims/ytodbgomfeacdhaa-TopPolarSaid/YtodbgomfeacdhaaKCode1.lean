/-
  Functions of this seat as the small machine's code, written by a program of my own (gen.py); each is checked to be what the model's function is turned into. No condition.
-/
import Derived.Test.YtodbgomfeacdhaaK2
import Derived.Test.YtodbgomfeacdhaaProg
set_option linter.unusedVariables false
set_option linter.unusedSimpArgs false
set_option linter.unusedSectionVars false
set_option maxRecDepth 100000
namespace Go.Proofs.Ytodbgomfeacdhaa
open Go.Am
/- 147: syndrome/syndromeref.In -/
def c147L0:ACode:=(.seq (.seq (.region [.m 6 5, .m 7 1, .o 8 (.n 7), .o 9 (.b .lss 6 8)]) (.cond (.tmp 9) .skip (.exit 0))) (.seq (.block 1 [0,1,5] (.seq (.region [.m 12 1, .m 13 5, .o 14 (.i 1 12 13), .o 15 (.l 14), .m 16 0, .o 17 (.b .eql 15 16)]) (.cond (.tmp 17) (.seq (.region [.o 4 (.mv (.const (.bool true)))]) .ret) .skip))) (.region [.m 10 5, .o 11 (.c .add 10 1), .m 5 11])))
def c147:ACode:=(.seq (.region [.o 4 (.mv (.const (.bool false)))]) (.seq (.seq (.region [.k 5 0]) (.block 0 [] (.loop [0,1,5] c147L0))) (.seq (.region [.o 4 (.mv (.const (.bool false)))]) .ret)))
def F147:AFun:=⟨c147,2,18,[(.tmp 4)]⟩
def K147:Nat→List Nat×List Nat
 |0=>([0,1,5],[])
 |1=>([],[0,1,5])
 |_=>([],[])
theorem F147_ok:kj8 Try.prog K147 noRg Try.f147=some F147:=by kernel_rfl
/- 187: math/bits.Len64 -/
def c187:ACode:=(.seq (.region [.k 2 0]) (.seq (.seq (.region [.m 3 0, .o 4 (.bin .geq (.tmp 3) (.const (.int .u64 4294967296)))]) (.cond (.tmp 4) (.seq (.region [.m 5 0, .o 6 (.bin .shr (.tmp 5) (.const (.int .u64 32))), .m 0 6]) (.region [.k 2 32])) .skip)) (.seq (.seq (.region [.m 7 0, .o 8 (.bin .geq (.tmp 7) (.const (.int .u64 65536)))]) (.cond (.tmp 8) (.seq (.region [.m 9 0, .o 10 (.bin .shr (.tmp 9) (.const (.int .u64 16))), .m 0 10]) (.region [.m 11 2, .o 12 (.c .add 11 16), .m 2 12])) .skip)) (.seq (.seq (.region [.m 13 0, .o 14 (.bin .geq (.tmp 13) (.const (.int .u64 256)))]) (.cond (.tmp 14) (.seq (.region [.m 15 0, .o 16 (.bin .shr (.tmp 15) (.const (.int .u64 8))), .m 0 16]) (.region [.m 17 2, .o 18 (.c .add 17 8), .m 2 18])) .skip)) (.seq (.region [.m 19 2, .m 20 0, .o 21 (.conv .u8 (.tmp 20)), .o 22 (.idxS (.const (.string {data:= #[0,1,2,2,3,3,3,3,4,4,4,4,4,4,4,4,5,5,5,5,5,5,5,5,5,5,5,5,5,5,5,5,6,6,6,6,6,6,6,6,6,6,6,6,6,6,6,6,6,6,6,6,6,6,6,6,6,6,6,6,6,6,6,6,7,7,7,7,7,7,7,7,7,7,7,7,7,7,7,7,7,7,7,7,7,7,7,7,7,7,7,7,7,7,7,7,7,7,7,7,7,7,7,7,7,7,7,7,7,7,7,7,7,7,7,7,7,7,7,7,7,7,7,7,7,7,7,7,8,8,8,8,8,8,8,8,8,8,8,8,8,8,8,8,8,8,8,8,8,8,8,8,8,8,8,8,8,8,8,8,8,8,8,8,8,8,8,8,8,8,8,8,8,8,8,8,8,8,8,8,8,8,8,8,8,8,8,8,8,8,8,8,8,8,8,8,8,8,8,8,8,8,8,8,8,8,8,8,8,8,8,8,8,8,8,8,8,8,8,8,8,8,8,8,8,8,8,8,8,8,8,8,8,8,8,8,8,8,8,8,8,8,8,8,8,8,8,8,8,8,8,8,8,8,8,8]})) (.tmp 21)), .o 23 (.conv .i64 (.tmp 22)), .o 24 (.b .add 19 23), .m 2 24]) .ret)))))
def F187:AFun:=⟨c187,1,25,[(.tmp 2)]⟩
def K187:Nat→List Nat×List Nat
 |_=>([],[])
theorem F187_ok:kj8 Try.prog K187 noRg Try.f187=some F187:=by kernel_rfl
/- 188: cmp.isNaN[int] -/
def c188:ACode:=(.seq (.region [.o 2 (.mv (.const (.bool false)))]) (.seq (.region [.m 3 0, .m 4 0, .o 5 (.b .neq 3 4), .m 2 5]) .ret))
def F188:AFun:=⟨c188,1,6,[(.tmp 2)]⟩
def K188:Nat→List Nat×List Nat
 |_=>([],[])
theorem F188_ok:kj8 Try.prog K188 noRg Try.f188=some F188:=by kernel_rfl
/- 189: slices.insertionSortCmpFunc[int] -/
def c189L0:ACode:=(.seq (.seq (.region [.m 18 9, .m 19 1, .o 20 (.b .gtr 18 19), .m 21 20, .g 22 (.m 3) 21 true, .g 23 (.m 0) 21 true, .g 24 (.m 9) 21 true, .g 25 (.i 1 23 24) 21 true, .g 26 (.l 25) 21 true, .g 27 (.m 0) 21 true, .g 28 (.m 9) 21 true, .g 29 (.c .sub 28 1) 21 true, .g 30 (.i 1 27 29) 21 true, .g 31 (.l 30) 21 true, .g 32 (.calld (.tmp 22) [(.tmp 26),(.tmp 31)]) 21 true, .g 33 (.c .lss 32 0) 21 true, .o 34 (.pick (.tmp 21) (.tmp 33) (.const (.bool false)))]) (.cond (.tmp 34) .skip (.exit 2))) (.seq (.block 3 [0,1,2,3,8,9] (.region [.m 37 0, .m 38 9, .m 39 0, .m 40 9, .o 41 (.c .sub 40 1), .m 42 0, .m 43 9, .o 44 (.c .sub 43 1), .o 45 (.i 1 42 44), .o 46 (.l 45), .m 47 0, .m 48 9, .o 49 (.i 1 47 48), .o 50 (.l 49), .o 51 (.i 1 37 38), .n (.st 1 (.tmp 51) (.tmp 46)), .o 52 (.i 1 39 41), .n (.st 1 (.tmp 52) (.tmp 50))])) (.region [.m 35 9, .o 36 (.c .sub 35 1), .m 9 36])))
def c189L1:ACode:=(.seq (.seq (.region [.m 12 8, .m 13 2, .o 14 (.b .lss 12 13)]) (.cond (.tmp 14) .skip (.exit 0))) (.seq (.block 1 [0,1,2,3,8] (.seq (.region [.m 17 8, .m 9 17]) (.block 2 [0,1,2,3,8] (.loop [0,1,2,3,8,9] c189L0)))) (.region [.m 15 8, .o 16 (.c .add 15 1), .m 8 16])))
def c189:ACode:=(.seq (.region [.m 10 1, .o 11 (.c .add 10 1), .m 8 11]) (.block 0 [] (.loop [0,1,2,3,8] c189L1)))
def F189:AFun:=⟨c189,4,53,[]⟩
def K189:Nat→List Nat×List Nat
 |0=>([0,1,2,3,8],[])
 |1=>([],[0,1,2,3,8])
 |2=>([0,1,2,3,8,9],[0,1,2,3,8])
 |3=>([],[0,1,2,3,8,9])
 |_=>([],[])
theorem F189_ok:kj8 Try.prog K189 noRg Try.f189=some F189:=by kernel_rfl
/- 190: slices.symMergeCmpFunc[int] -/
def c190L0:ACode:=(.seq (.seq (.region [.m 31 10, .m 32 11, .o 33 (.b .lss 31 32)]) (.cond (.tmp 33) .skip (.exit 0))) (.block 1 [0,1,4,10,11] (.seq (.region [.m 34 10, .m 35 11, .o 36 (.b .add 34 35), .o 37 (.conv .u64 (.tmp 36)), .o 38 (.bin .shr (.tmp 37) (.const (.int .u64 1))), .o 39 (.conv .i64 (.tmp 38)), .m 12 39]) (.seq (.region [.m 40 4, .m 41 0, .m 42 12, .o 43 (.i 1 41 42), .o 44 (.l 43), .m 45 0, .m 46 1, .o 47 (.i 1 45 46), .o 48 (.l 47), .o 49 (.calld (.tmp 40) [(.tmp 44),(.tmp 48)]), .o 50 (.c .lss 49 0)]) (.cond (.tmp 50) (.region [.m 51 12, .o 52 (.c .add 51 1), .m 10 52]) (.region [.m 53 12, .m 11 53]))))))
def c190L1:ACode:=(.seq (.seq (.region [.m 55 13, .m 56 10, .o 57 (.c .sub 56 1), .o 58 (.b .lss 55 57)]) (.cond (.tmp 58) .skip (.exit 2))) (.seq (.block 3 [0,10,13] (.region [.m 61 0, .m 62 13, .m 63 0, .m 64 13, .o 65 (.c .add 64 1), .m 66 0, .m 67 13, .o 68 (.c .add 67 1), .o 69 (.i 1 66 68), .o 70 (.l 69), .m 71 0, .m 72 13, .o 73 (.i 1 71 72), .o 74 (.l 73), .o 75 (.i 1 61 62), .n (.st 1 (.tmp 75) (.tmp 70)), .o 76 (.i 1 63 65), .n (.st 1 (.tmp 76) (.tmp 74))])) (.region [.m 59 13, .o 60 (.c .add 59 1), .m 13 60])))
def c190L2:ACode:=(.seq (.seq (.region [.m 83 14, .m 84 15, .o 85 (.b .lss 83 84)]) (.cond (.tmp 85) .skip (.exit 4))) (.block 5 [0,2,4,14,15] (.seq (.region [.m 86 14, .m 87 15, .o 88 (.b .add 86 87), .o 89 (.conv .u64 (.tmp 88)), .o 90 (.bin .shr (.tmp 89) (.const (.int .u64 1))), .o 91 (.conv .i64 (.tmp 90)), .m 16 91]) (.seq (.region [.m 92 4, .m 93 0, .m 94 2, .o 95 (.i 1 93 94), .o 96 (.l 95), .m 97 0, .m 98 16, .o 99 (.i 1 97 98), .o 100 (.l 99), .o 101 (.calld (.tmp 92) [(.tmp 96),(.tmp 100)]), .o 102 (.c .lss 101 0), .o 103 (.un .not (.tmp 102))]) (.cond (.tmp 103) (.region [.m 104 16, .o 105 (.c .add 104 1), .m 14 105]) (.region [.m 106 16, .m 15 106]))))))
def c190L3:ACode:=(.seq (.seq (.region [.m 108 17, .m 109 14, .o 110 (.b .gtr 108 109)]) (.cond (.tmp 110) .skip (.exit 6))) (.seq (.block 7 [0,14,17] (.region [.m 113 0, .m 114 17, .m 115 0, .m 116 17, .o 117 (.c .sub 116 1), .m 118 0, .m 119 17, .o 120 (.c .sub 119 1), .o 121 (.i 1 118 120), .o 122 (.l 121), .m 123 0, .m 124 17, .o 125 (.i 1 123 124), .o 126 (.l 125), .o 127 (.i 1 113 114), .n (.st 1 (.tmp 127) (.tmp 122)), .o 128 (.i 1 115 117), .n (.st 1 (.tmp 128) (.tmp 126))])) (.region [.m 111 17, .o 112 (.c .sub 111 1), .m 17 112])))
def c190L4:ACode:=(.seq (.seq (.region [.m 149 20, .m 150 21, .o 151 (.b .lss 149 150)]) (.cond (.tmp 151) .skip (.exit 8))) (.block 9 [0,1,2,3,4,18,19,20,21,22] (.seq (.region [.m 152 20, .m 153 21, .o 154 (.b .add 152 153), .o 155 (.conv .u64 (.tmp 154)), .o 156 (.bin .shr (.tmp 155) (.const (.int .u64 1))), .o 157 (.conv .i64 (.tmp 156)), .m 23 157]) (.seq (.region [.m 158 4, .m 159 0, .m 160 22, .m 161 23, .o 162 (.b .sub 160 161), .o 163 (.i 1 159 162), .o 164 (.l 163), .m 165 0, .m 166 23, .o 167 (.i 1 165 166), .o 168 (.l 167), .o 169 (.calld (.tmp 158) [(.tmp 164),(.tmp 168)]), .o 170 (.c .lss 169 0), .o 171 (.un .not (.tmp 170))]) (.cond (.tmp 171) (.region [.m 172 23, .o 173 (.c .add 172 1), .m 20 173]) (.region [.m 174 23, .m 21 174]))))))
def c190:ACode:=(.seq (.seq (.region [.m 25 2, .m 26 1, .o 27 (.b .sub 25 26), .o 28 (.c .eql 27 1)]) (.cond (.tmp 28) (.seq (.region [.m 29 2, .m 10 29]) (.seq (.region [.m 30 3, .m 11 30]) (.seq (.block 0 [0,1,10] (.loop [0,1,4,10,11] c190L0)) (.seq (.seq (.region [.m 54 1, .m 13 54]) (.block 2 [] (.loop [0,10,13] c190L1))) .ret)))) .skip)) (.seq (.seq (.region [.m 77 3, .m 78 2, .o 79 (.b .sub 77 78), .o 80 (.c .eql 79 1)]) (.cond (.tmp 80) (.seq (.region [.m 81 1, .m 14 81]) (.seq (.region [.m 82 2, .m 15 82]) (.seq (.block 4 [0,2,14] (.loop [0,2,4,14,15] c190L2)) (.seq (.seq (.region [.m 107 2, .m 17 107]) (.block 6 [] (.loop [0,14,17] c190L3))) .ret)))) .skip)) (.seq (.region [.m 129 1, .m 130 3, .o 131 (.b .add 129 130), .o 132 (.conv .u64 (.tmp 131)), .o 133 (.bin .shr (.tmp 132) (.const (.int .u64 1))), .o 134 (.conv .i64 (.tmp 133)), .m 18 134]) (.seq (.region [.m 135 18, .m 136 2, .o 137 (.b .add 135 136), .m 19 137]) (.seq (.region [.k 20 0, .k 21 0]) (.seq (.seq (.region [.m 138 2, .m 139 18, .o 140 (.b .gtr 138 139)]) (.cond (.tmp 140) (.seq (.region [.m 141 19, .m 142 3, .o 143 (.b .sub 141 142), .m 20 143]) (.region [.m 144 18, .m 21 144])) (.seq (.region [.m 145 1, .m 20 145]) (.region [.m 146 2, .m 21 146])))) (.seq (.region [.m 147 19, .o 148 (.c .sub 147 1), .m 22 148]) (.seq (.block 8 [0,1,2,3,4,18,19,20] (.loop [0,1,2,3,4,18,19,20,21,22] c190L4)) (.seq (.region [.m 175 19, .m 176 20, .o 177 (.b .sub 175 176), .m 24 177]) (.seq (.seq (.region [.m 178 20, .m 179 2, .o 180 (.b .lss 178 179), .m 181 180, .g 182 (.m 2) 181 true, .g 183 (.m 24) 181 true, .g 184 (.b .lss 182 183) 181 true, .o 185 (.pick (.tmp 181) (.tmp 184) (.const (.bool false)))]) (.cond (.tmp 185) (.region [.m 186 0, .m 187 20, .m 188 2, .m 189 24, .m 190 4, .o 191 (.q 217 [186,187,188,189,190])]) .skip)) (.seq (.seq (.region [.m 192 1, .m 193 20, .o 194 (.b .lss 192 193), .m 195 194, .g 196 (.m 20) 195 true, .g 197 (.m 18) 195 true, .g 198 (.b .lss 196 197) 195 true, .o 199 (.pick (.tmp 195) (.tmp 198) (.const (.bool false)))]) (.cond (.tmp 199) (.region [.m 200 0, .m 201 1, .m 202 20, .m 203 18, .m 204 4, .o 205 (.q 190 [200,201,202,203,204])]) .skip)) (.seq (.region [.m 206 18, .m 207 24, .o 208 (.b .lss 206 207), .m 209 208, .g 210 (.m 24) 209 true, .g 211 (.m 3) 209 true, .g 212 (.b .lss 210 211) 209 true, .o 213 (.pick (.tmp 209) (.tmp 212) (.const (.bool false)))]) (.cond (.tmp 213) (.region [.m 214 0, .m 215 18, .m 216 24, .m 217 3, .m 218 4, .o 219 (.q 190 [214,215,216,217,218])]) .skip)))))))))))))
def F190:AFun:=⟨c190,5,220,[]⟩
def K190:Nat→List Nat×List Nat
 |0=>([0,1,4,10,11],[0,1,10])
 |1=>([],[0,1,4,10,11])
 |2=>([0,10,13],[])
 |3=>([],[0,10,13])
 |4=>([0,2,4,14,15],[0,2,14])
 |5=>([],[0,2,4,14,15])
 |6=>([0,14,17],[])
 |7=>([],[0,14,17])
 |8=>([0,1,2,3,4,18,19,20,21,22],[0,1,2,3,4,18,19,20])
 |9=>([],[0,1,2,3,4,18,19,20,21,22])
 |_=>([],[])
theorem F190_ok:kj8 Try.prog K190 noRg Try.f190=some F190:=by kernel_rfl
/- 191: slices.insertionSortOrdered[int] -/
def c191L0:ACode:=(.seq (.seq (.region [.m 16 7, .m 17 1, .o 18 (.b .gtr 16 17), .m 19 18, .g 20 (.m 0) 19 true, .g 21 (.m 7) 19 true, .g 22 (.i 1 20 21) 19 true, .g 23 (.l 22) 19 true, .g 24 (.m 0) 19 true, .g 25 (.m 7) 19 true, .g 26 (.c .sub 25 1) 19 true, .g 27 (.i 1 24 26) 19 true, .g 28 (.l 27) 19 true, .g 29 (.q 197 [23,28]) 19 true, .o 30 (.pick (.tmp 19) (.tmp 29) (.const (.bool false)))]) (.cond (.tmp 30) .skip (.exit 2))) (.seq (.block 3 [0,1,2,6,7] (.region [.m 33 0, .m 34 7, .m 35 0, .m 36 7, .o 37 (.c .sub 36 1), .m 38 0, .m 39 7, .o 40 (.c .sub 39 1), .o 41 (.i 1 38 40), .o 42 (.l 41), .m 43 0, .m 44 7, .o 45 (.i 1 43 44), .o 46 (.l 45), .o 47 (.i 1 33 34), .n (.st 1 (.tmp 47) (.tmp 42)), .o 48 (.i 1 35 37), .n (.st 1 (.tmp 48) (.tmp 46))])) (.region [.m 31 7, .o 32 (.c .sub 31 1), .m 7 32])))
def c191L1:ACode:=(.seq (.seq (.region [.m 10 6, .m 11 2, .o 12 (.b .lss 10 11)]) (.cond (.tmp 12) .skip (.exit 0))) (.seq (.block 1 [0,1,2,6] (.seq (.region [.m 15 6, .m 7 15]) (.block 2 [0,1,2,6] (.loop [0,1,2,6,7] c191L0)))) (.region [.m 13 6, .o 14 (.c .add 13 1), .m 6 14])))
def c191:ACode:=(.seq (.region [.m 8 1, .o 9 (.c .add 8 1), .m 6 9]) (.block 0 [] (.loop [0,1,2,6] c191L1)))
def F191:AFun:=⟨c191,3,49,[]⟩
def K191:Nat→List Nat×List Nat
 |0=>([0,1,2,6],[])
 |1=>([],[0,1,2,6])
 |2=>([0,1,2,6,7],[0,1,2,6])
 |3=>([],[0,1,2,6,7])
 |_=>([],[])
theorem F191_ok:kj8 Try.prog K191 noRg Try.f191=some F191:=by kernel_rfl
/- 192: slices.heapSortOrdered[int] -/
def c192L0:ACode:=(.seq (.seq (.region [.m 18 9, .o 19 (.c .geq 18 0)]) (.cond (.tmp 19) .skip (.exit 0))) (.seq (.block 1 [0,6,7,8,9] (.region [.m 22 0, .m 23 9, .m 24 8, .m 25 6, .o 26 (.q 218 [22,23,24,25])])) (.region [.m 20 9, .o 21 (.c .sub 20 1), .m 9 21])))
def c192L1:ACode:=(.seq (.seq (.region [.m 29 10, .o 30 (.c .geq 29 0)]) (.cond (.tmp 30) .skip (.exit 2))) (.seq (.block 3 [0,6,7,10] (.seq (.region [.m 33 0, .m 34 6, .m 35 0, .m 36 6, .m 37 10, .o 38 (.b .add 36 37), .m 39 0, .m 40 6, .m 41 10, .o 42 (.b .add 40 41), .o 43 (.i 1 39 42), .o 44 (.l 43), .m 45 0, .m 46 6, .o 47 (.i 1 45 46), .o 48 (.l 47), .o 49 (.i 1 33 34), .n (.st 1 (.tmp 49) (.tmp 44)), .o 50 (.i 1 35 38), .n (.st 1 (.tmp 50) (.tmp 48))]) (.region [.m 51 0, .m 52 7, .m 53 10, .m 54 6, .o 55 (.q 218 [51,52,53,54])]))) (.region [.m 31 10, .o 32 (.c .sub 31 1), .m 10 32])))
def c192:ACode:=(.seq (.region [.m 11 1, .m 6 11]) (.seq (.region [.k 7 0]) (.seq (.region [.m 12 2, .m 13 1, .o 14 (.b .sub 12 13), .m 8 14]) (.seq (.seq (.region [.m 15 8, .o 16 (.c .sub 15 1), .o 17 (.c .quo 16 2), .m 9 17]) (.block 0 [0,6,7,8] (.loop [0,6,7,8,9] c192L0))) (.seq (.region [.m 27 8, .o 28 (.c .sub 27 1), .m 10 28]) (.block 2 [] (.loop [0,6,7,10] c192L1)))))))
def F192:AFun:=⟨c192,3,56,[]⟩
def K192:Nat→List Nat×List Nat
 |0=>([0,6,7,8,9],[0,6,7,8])
 |1=>([],[0,6,7,8,9])
 |2=>([0,6,7,10],[])
 |3=>([],[0,6,7,10])
 |_=>([],[])
theorem F192_ok:kj8 Try.prog K192 noRg Try.f192=some F192:=by kernel_rfl
/- 193: slices.breakPatternsOrdered[int] -/
def c193L0:ACode:=(.seq (.seq (.region [.m 26 9, .m 27 1, .m 28 6, .o 29 (.c .quo 28 4), .o 30 (.c .mul 29 2), .o 31 (.b .add 27 30), .o 32 (.c .add 31 1), .o 33 (.b .leq 26 32)]) (.cond (.tmp 33) .skip (.exit 0))) (.seq (.block 1 [0,1,6,7,8,9] (.seq (.region [.o 36 (.q 214 [7]), .m 37 8, .o 38 (.bin .sub (.tmp 37) (.const (.int .u64 1))), .o 39 (.b .and 36 38), .o 40 (.conv .i64 (.tmp 39)), .m 10 40]) (.seq (.seq (.region [.m 41 10, .m 42 6, .o 43 (.b .geq 41 42)]) (.cond (.tmp 43) (.region [.m 44 10, .m 45 6, .o 46 (.b .sub 44 45), .m 10 46]) .skip)) (.region [.m 47 0, .m 48 9, .m 49 0, .m 50 1, .m 51 10, .o 52 (.b .add 50 51), .m 53 0, .m 54 1, .m 55 10, .o 56 (.b .add 54 55), .o 57 (.i 1 53 56), .o 58 (.l 57), .m 59 0, .m 60 9, .o 61 (.i 1 59 60), .o 62 (.l 61), .o 63 (.i 1 47 48), .n (.st 1 (.tmp 63) (.tmp 58)), .o 64 (.i 1 49 52), .n (.st 1 (.tmp 64) (.tmp 62))])))) (.region [.m 34 9, .o 35 (.c .add 34 1), .m 9 35])))
def c193:ACode:=(.seq (.region [.m 11 2, .m 12 1, .o 13 (.b .sub 11 12), .m 6 13]) (.seq (.region [.m 14 6, .o 15 (.c .geq 14 8)]) (.cond (.tmp 15) (.seq (.region [.m 16 6, .o 17 (.conv .u64 (.tmp 16)), .o 7 (.alloc 207 [(.int .u64 0)]), .n (.st 1 (.tmp 7) (.tmp 17))]) (.seq (.region [.m 18 6, .o 19 (.q 213 [18]), .m 8 19]) (.seq (.region [.m 20 1, .m 21 6, .o 22 (.c .quo 21 4), .o 23 (.c .mul 22 2), .o 24 (.b .add 20 23), .o 25 (.c .sub 24 1), .m 9 25]) (.block 0 [] (.loop [0,1,6,7,8,9] c193L0))))) .skip)))
def F193:AFun:=⟨c193,3,65,[]⟩
def K193:Nat→List Nat×List Nat
 |0=>([0,1,6,7,8,9],[])
 |1=>([],[0,1,6,7,8,9])
 |_=>([],[])
theorem F193_ok:kj8 Try.prog K193 noRg Try.f193=some F193:=by kernel_rfl
/- 194: slices.choosePivotOrdered[int] -/
def c194:ACode:=(.seq (.region [.k 6 0, .k 7 0]) (.seq (.region [.m 13 2, .m 14 1, .o 15 (.b .sub 13 14), .m 8 15]) (.seq (.region [.o 9 (.alloc 3 [(.int .i64 0)])]) (.seq (.region [.m 16 1, .m 17 8, .o 18 (.c .quo 17 4), .o 19 (.c .mul 18 1), .o 20 (.b .add 16 19), .m 10 20]) (.seq (.region [.m 21 1, .m 22 8, .o 23 (.c .quo 22 4), .o 24 (.c .mul 23 2), .o 25 (.b .add 21 24), .m 11 25]) (.seq (.region [.m 26 1, .m 27 8, .o 28 (.c .quo 27 4), .o 29 (.c .mul 28 3), .o 30 (.b .add 26 29), .m 12 30]) (.seq (.seq (.region [.m 31 8, .o 32 (.c .geq 31 8)]) (.cond (.tmp 32) (.seq (.seq (.region [.m 33 8, .o 34 (.c .geq 33 50)]) (.cond (.tmp 34) (.seq (.region [.m 35 0, .m 36 10, .o 37 (.q 219 [35,36,9]), .m 10 37]) (.seq (.region [.m 38 0, .m 39 11, .o 40 (.q 219 [38,39,9]), .m 11 40]) (.region [.m 41 0, .m 42 12, .o 43 (.q 219 [41,42,9]), .m 12 43]))) .skip)) (.region [.m 44 0, .m 45 10, .m 46 11, .m 47 12, .o 48 (.q 220 [44,45,46,47,9]), .m 11 48])) .skip)) (.seq (.region [.o 49 (.l 9)]) (.block 0 [] (.seq (.region [.o 52 (.c .eql 49 0), .m 51 52]) (.cond (.tmp 51) (.seq (.region [.m 53 11, .m 6 53, .k 7 1]) .ret) (.seq (.region [.o 55 (.c .eql 49 12), .m 54 55]) (.cond (.tmp 54) (.seq (.region [.m 56 11, .m 6 56, .k 7 2]) .ret) (.seq (.region [.m 50 11, .m 6 50, .k 7 0]) .ret))))))))))))))
def F194:AFun:=⟨c194,3,57,[(.tmp 6),(.tmp 7)]⟩
def K194:Nat→List Nat×List Nat
 |0=>([],[])
 |_=>([],[])
theorem F194_ok:kj8 Try.prog K194 noRg Try.f194=some F194:=by kernel_rfl
/- 195: slices.reverseRangeOrdered[int] -/
def c195L0:ACode:=(.seq (.seq (.region [.m 11 6, .m 12 7, .o 13 (.b .lss 11 12)]) (.cond (.tmp 13) .skip (.exit 0))) (.block 1 [0,6,7] (.seq (.region [.m 14 0, .m 15 6, .m 16 0, .m 17 7, .m 18 0, .m 19 7, .o 20 (.i 1 18 19), .o 21 (.l 20), .m 22 0, .m 23 6, .o 24 (.i 1 22 23), .o 25 (.l 24), .o 26 (.i 1 14 15), .n (.st 1 (.tmp 26) (.tmp 21)), .o 27 (.i 1 16 17), .n (.st 1 (.tmp 27) (.tmp 25))]) (.seq (.region [.m 28 6, .o 29 (.c .add 28 1), .m 6 29]) (.region [.m 30 7, .o 31 (.c .sub 30 1), .m 7 31])))))
def c195:ACode:=(.seq (.region [.m 8 1, .m 6 8]) (.seq (.region [.m 9 2, .o 10 (.c .sub 9 1), .m 7 10]) (.block 0 [] (.loop [0,6,7] c195L0))))
def F195:AFun:=⟨c195,3,32,[]⟩
def K195:Nat→List Nat×List Nat
 |0=>([0,6,7],[])
 |1=>([],[0,6,7])
 |_=>([],[])
theorem F195_ok:kj8 Try.prog K195 noRg Try.f195=some F195:=by kernel_rfl
/- 196: slices.partialInsertionSortOrdered[int] -/
def c196L0:ACode:=(.seq (.seq (.region [.m 17 7, .m 18 2, .o 19 (.b .lss 17 18), .m 20 19, .g 21 (.m 0) 20 true, .g 22 (.m 7) 20 true, .g 23 (.i 1 21 22) 20 true, .g 24 (.l 23) 20 true, .g 25 (.m 0) 20 true, .g 26 (.m 7) 20 true, .g 27 (.c .sub 26 1) 20 true, .g 28 (.i 1 25 27) 20 true, .g 29 (.l 28) 20 true, .g 30 (.q 197 [24,29]) 20 true, .g 31 (.un .not (.tmp 30)) 20 true, .o 32 (.pick (.tmp 20) (.tmp 31) (.const (.bool false)))]) (.cond (.tmp 32) .skip (.exit 2))) (.block 3 [0,1,2,7,8] (.region [.m 33 7, .o 34 (.c .add 33 1), .m 7 34])))
def c196L1:ACode:=(.seq (.seq (.region [.m 64 9, .o 65 (.c .geq 64 1)]) (.cond (.tmp 65) .skip (.exit 4))) (.seq (.block 5 [0,1,2,7,8,9] (.seq (.seq (.region [.m 68 0, .m 69 9, .o 70 (.i 1 68 69), .o 71 (.l 70), .m 72 0, .m 73 9, .o 74 (.c .sub 73 1), .o 75 (.i 1 72 74), .o 76 (.l 75), .o 77 (.q 197 [71,76]), .o 78 (.un .not (.tmp 77))]) (.cond (.tmp 78) (.exit 4) .skip)) (.region [.m 79 0, .m 80 9, .m 81 0, .m 82 9, .o 83 (.c .sub 82 1), .m 84 0, .m 85 9, .o 86 (.c .sub 85 1), .o 87 (.i 1 84 86), .o 88 (.l 87), .m 89 0, .m 90 9, .o 91 (.i 1 89 90), .o 92 (.l 91), .o 93 (.i 1 79 80), .n (.st 1 (.tmp 93) (.tmp 88)), .o 94 (.i 1 81 83), .n (.st 1 (.tmp 94) (.tmp 92))]))) (.region [.m 66 9, .o 67 (.c .sub 66 1), .m 9 67])))
def c196L2:ACode:=(.seq (.seq (.region [.m 101 10, .m 102 2, .o 103 (.b .lss 101 102)]) (.cond (.tmp 103) .skip (.exit 6))) (.seq (.block 7 [0,1,2,7,8,10] (.seq (.seq (.region [.m 106 0, .m 107 10, .o 108 (.i 1 106 107), .o 109 (.l 108), .m 110 0, .m 111 10, .o 112 (.c .sub 111 1), .o 113 (.i 1 110 112), .o 114 (.l 113), .o 115 (.q 197 [109,114]), .o 116 (.un .not (.tmp 115))]) (.cond (.tmp 116) (.exit 6) .skip)) (.region [.m 117 0, .m 118 10, .m 119 0, .m 120 10, .o 121 (.c .sub 120 1), .m 122 0, .m 123 10, .o 124 (.c .sub 123 1), .o 125 (.i 1 122 124), .o 126 (.l 125), .m 127 0, .m 128 10, .o 129 (.i 1 127 128), .o 130 (.l 129), .o 131 (.i 1 117 118), .n (.st 1 (.tmp 131) (.tmp 126)), .o 132 (.i 1 119 121), .n (.st 1 (.tmp 132) (.tmp 130))]))) (.region [.m 104 10, .o 105 (.c .add 104 1), .m 10 105])))
def c196L3:ACode:=(.seq (.seq (.region [.m 13 8, .o 14 (.c .lss 13 5)]) (.cond (.tmp 14) .skip (.exit 0))) (.seq (.block 1 [0,1,2,7,8] (.seq (.block 2 [0,1,2,7,8] (.loop [0,1,2,7,8] c196L0)) (.seq (.seq (.region [.m 35 7, .m 36 2, .o 37 (.b .eql 35 36)]) (.cond (.tmp 37) (.seq (.region [.o 6 (.mv (.const (.bool true)))]) .ret) .skip)) (.seq (.seq (.region [.m 38 2, .m 39 1, .o 40 (.b .sub 38 39), .o 41 (.c .lss 40 50)]) (.cond (.tmp 41) (.seq (.region [.o 6 (.mv (.const (.bool false)))]) .ret) .skip)) (.seq (.region [.m 42 0, .m 43 7, .m 44 0, .m 45 7, .o 46 (.c .sub 45 1), .m 47 0, .m 48 7, .o 49 (.c .sub 48 1), .o 50 (.i 1 47 49), .o 51 (.l 50), .m 52 0, .m 53 7, .o 54 (.i 1 52 53), .o 55 (.l 54), .o 56 (.i 1 42 43), .n (.st 1 (.tmp 56) (.tmp 51)), .o 57 (.i 1 44 46), .n (.st 1 (.tmp 57) (.tmp 55))]) (.seq (.seq (.region [.m 58 7, .m 59 1, .o 60 (.b .sub 58 59), .o 61 (.c .geq 60 2)]) (.cond (.tmp 61) (.seq (.region [.m 62 7, .o 63 (.c .sub 62 1), .m 9 63]) (.block 4 [0,1,2,7,8] (.loop [0,1,2,7,8,9] c196L1))) .skip)) (.seq (.region [.m 95 2, .m 96 7, .o 97 (.b .sub 95 96), .o 98 (.c .geq 97 2)]) (.cond (.tmp 98) (.seq (.region [.m 99 7, .o 100 (.c .add 99 1), .m 10 100]) (.block 6 [0,1,2,7,8] (.loop [0,1,2,7,8,10] c196L2))) .skip)))))))) (.region [.m 15 8, .o 16 (.c .add 15 1), .m 8 16])))
def c196:ACode:=(.seq (.region [.o 6 (.mv (.const (.bool false)))]) (.seq (.region [.m 11 1, .o 12 (.c .add 11 1), .m 7 12]) (.seq (.seq (.region [.k 8 0]) (.block 0 [] (.loop [0,1,2,7,8] c196L3))) (.seq (.region [.o 6 (.mv (.const (.bool false)))]) .ret))))
def F196:AFun:=⟨c196,3,133,[(.tmp 6)]⟩
def K196:Nat→List Nat×List Nat
 |0=>([0,1,2,7,8],[])
 |1=>([],[0,1,2,7,8])
 |2=>([0,1,2,7,8],[0,1,2,7,8])
 |3=>([],[0,1,2,7,8])
 |4=>([0,1,2,7,8,9],[0,1,2,7,8])
 |5=>([],[0,1,2,7,8,9])
 |6=>([0,1,2,7,8,10],[0,1,2,7,8])
 |7=>([],[0,1,2,7,8,10])
 |_=>([],[])
theorem F196_ok:kj8 Try.prog K196 noRg Try.f196=some F196:=by kernel_rfl
/- 197: cmp.Less[int] -/
def c197:ACode:=(.seq (.region [.o 4 (.mv (.const (.bool false)))]) (.seq (.region [.m 5 0, .o 6 (.q 188 [5]), .m 7 6, .g 8 (.m 1) 7 true, .g 9 (.q 188 [8]) 7 true, .g 10 (.un .not (.tmp 9)) 7 true, .o 11 (.pick (.tmp 7) (.tmp 10) (.const (.bool false))), .m 12 11, .g 13 (.m 0) 12 false, .g 14 (.m 1) 12 false, .g 15 (.b .lss 13 14) 12 false, .o 16 (.pick (.tmp 12) (.const (.bool true)) (.tmp 15)), .m 4 16]) .ret))
def F197:AFun:=⟨c197,2,17,[(.tmp 4)]⟩
def K197:Nat→List Nat×List Nat
 |_=>([],[])
theorem F197_ok:kj8 Try.prog K197 noRg Try.f197=some F197:=by kernel_rfl
/- 198: slices.partitionEqualOrdered[int] -/
def c198L0:ACode:=(.seq (.seq (.region [.m 29 9, .m 30 10, .o 31 (.b .leq 29 30), .m 32 31, .g 33 (.m 0) 32 true, .g 34 (.m 1) 32 true, .g 35 (.i 1 33 34) 32 true, .g 36 (.l 35) 32 true, .g 37 (.m 0) 32 true, .g 38 (.m 9) 32 true, .g 39 (.i 1 37 38) 32 true, .g 40 (.l 39) 32 true, .g 41 (.q 197 [36,40]) 32 true, .g 42 (.un .not (.tmp 41)) 32 true, .o 43 (.pick (.tmp 32) (.tmp 42) (.const (.bool false)))]) (.cond (.tmp 43) .skip (.exit 2))) (.block 3 [0,1,9,10] (.region [.m 44 9, .o 45 (.c .add 44 1), .m 9 45])))
def c198L1:ACode:=(.seq (.seq (.region [.m 46 9, .m 47 10, .o 48 (.b .leq 46 47), .m 49 48, .g 50 (.m 0) 49 true, .g 51 (.m 1) 49 true, .g 52 (.i 1 50 51) 49 true, .g 53 (.l 52) 49 true, .g 54 (.m 0) 49 true, .g 55 (.m 10) 49 true, .g 56 (.i 1 54 55) 49 true, .g 57 (.l 56) 49 true, .g 58 (.q 197 [53,57]) 49 true, .o 59 (.pick (.tmp 49) (.tmp 58) (.const (.bool false)))]) (.cond (.tmp 59) .skip (.exit 4))) (.block 5 [0,1,9,10] (.region [.m 60 10, .o 61 (.c .sub 60 1), .m 10 61])))
def c198L2:ACode:=(.block 1 [0,1,9,10] (.seq (.block 2 [0,1,9,10] (.loop [0,1,9,10] c198L0)) (.seq (.block 4 [0,1,9,10] (.loop [0,1,9,10] c198L1)) (.seq (.seq (.region [.m 62 9, .m 63 10, .o 64 (.b .gtr 62 63)]) (.cond (.tmp 64) (.exit 0) .skip)) (.seq (.region [.m 65 0, .m 66 9, .m 67 0, .m 68 10, .m 69 0, .m 70 10, .o 71 (.i 1 69 70), .o 72 (.l 71), .m 73 0, .m 74 9, .o 75 (.i 1 73 74), .o 76 (.l 75), .o 77 (.i 1 65 66), .n (.st 1 (.tmp 77) (.tmp 72)), .o 78 (.i 1 67 68), .n (.st 1 (.tmp 78) (.tmp 76))]) (.seq (.region [.m 79 9, .o 80 (.c .add 79 1), .m 9 80]) (.region [.m 81 10, .o 82 (.c .sub 81 1), .m 10 82])))))))
def c198:ACode:=(.seq (.region [.k 8 0]) (.seq (.region [.m 11 0, .m 12 1, .m 13 0, .m 14 3, .m 15 0, .m 16 3, .o 17 (.i 1 15 16), .o 18 (.l 17), .m 19 0, .m 20 1, .o 21 (.i 1 19 20), .o 22 (.l 21), .o 23 (.i 1 11 12), .n (.st 1 (.tmp 23) (.tmp 18)), .o 24 (.i 1 13 14), .n (.st 1 (.tmp 24) (.tmp 22))]) (.seq (.region [.m 25 1, .o 26 (.c .add 25 1), .m 27 2, .o 28 (.c .sub 27 1), .m 9 26, .m 10 28]) (.seq (.block 0 [9] (.loop [0,1,9,10] c198L2)) (.seq (.region [.m 83 9, .m 8 83]) .ret)))))
def F198:AFun:=⟨c198,4,84,[(.tmp 8)]⟩
def K198:Nat→List Nat×List Nat
 |0=>([0,1,9,10],[9])
 |1=>([],[0,1,9,10])
 |2=>([0,1,9,10],[0,1,9,10])
 |3=>([],[0,1,9,10])
 |4=>([0,1,9,10],[0,1,9,10])
 |5=>([],[0,1,9,10])
 |_=>([],[])
theorem F198_ok:kj8 Try.prog K198 noRg Try.f198=some F198:=by kernel_rfl
/- 199: slices.partitionOrdered[int] -/
def c199L0:ACode:=(.seq (.seq (.region [.m 30 10, .m 31 11, .o 32 (.b .leq 30 31), .m 33 32, .g 34 (.m 0) 33 true, .g 35 (.m 10) 33 true, .g 36 (.i 1 34 35) 33 true, .g 37 (.l 36) 33 true, .g 38 (.m 0) 33 true, .g 39 (.m 1) 33 true, .g 40 (.i 1 38 39) 33 true, .g 41 (.l 40) 33 true, .g 42 (.q 197 [37,41]) 33 true, .o 43 (.pick (.tmp 33) (.tmp 42) (.const (.bool false)))]) (.cond (.tmp 43) .skip (.exit 0))) (.block 1 [0,1,10,11] (.region [.m 44 10, .o 45 (.c .add 44 1), .m 10 45])))
def c199L1:ACode:=(.seq (.seq (.region [.m 46 10, .m 47 11, .o 48 (.b .leq 46 47), .m 49 48, .g 50 (.m 0) 49 true, .g 51 (.m 11) 49 true, .g 52 (.i 1 50 51) 49 true, .g 53 (.l 52) 49 true, .g 54 (.m 0) 49 true, .g 55 (.m 1) 49 true, .g 56 (.i 1 54 55) 49 true, .g 57 (.l 56) 49 true, .g 58 (.q 197 [53,57]) 49 true, .g 59 (.un .not (.tmp 58)) 49 true, .o 60 (.pick (.tmp 49) (.tmp 59) (.const (.bool false)))]) (.cond (.tmp 60) .skip (.exit 2))) (.block 3 [0,1,10,11] (.region [.m 61 11, .o 62 (.c .sub 61 1), .m 11 62])))
def c199L2:ACode:=(.seq (.seq (.region [.m 99 10, .m 100 11, .o 101 (.b .leq 99 100), .m 102 101, .g 103 (.m 0) 102 true, .g 104 (.m 10) 102 true, .g 105 (.i 1 103 104) 102 true, .g 106 (.l 105) 102 true, .g 107 (.m 0) 102 true, .g 108 (.m 1) 102 true, .g 109 (.i 1 107 108) 102 true, .g 110 (.l 109) 102 true, .g 111 (.q 197 [106,110]) 102 true, .o 112 (.pick (.tmp 102) (.tmp 111) (.const (.bool false)))]) (.cond (.tmp 112) .skip (.exit 6))) (.block 7 [0,1,10,11] (.region [.m 113 10, .o 114 (.c .add 113 1), .m 10 114])))
def c199L3:ACode:=(.seq (.seq (.region [.m 115 10, .m 116 11, .o 117 (.b .leq 115 116), .m 118 117, .g 119 (.m 0) 118 true, .g 120 (.m 11) 118 true, .g 121 (.i 1 119 120) 118 true, .g 122 (.l 121) 118 true, .g 123 (.m 0) 118 true, .g 124 (.m 1) 118 true, .g 125 (.i 1 123 124) 118 true, .g 126 (.l 125) 118 true, .g 127 (.q 197 [122,126]) 118 true, .g 128 (.un .not (.tmp 127)) 118 true, .o 129 (.pick (.tmp 118) (.tmp 128) (.const (.bool false)))]) (.cond (.tmp 129) .skip (.exit 8))) (.block 9 [0,1,10,11] (.region [.m 130 11, .o 131 (.c .sub 130 1), .m 11 131])))
def c199L4:ACode:=(.block 5 [0,1,10,11] (.seq (.block 6 [0,1,10,11] (.loop [0,1,10,11] c199L2)) (.seq (.block 8 [0,1,10,11] (.loop [0,1,10,11] c199L3)) (.seq (.seq (.region [.m 132 10, .m 133 11, .o 134 (.b .gtr 132 133)]) (.cond (.tmp 134) (.exit 4) .skip)) (.seq (.region [.m 135 0, .m 136 10, .m 137 0, .m 138 11, .m 139 0, .m 140 11, .o 141 (.i 1 139 140), .o 142 (.l 141), .m 143 0, .m 144 10, .o 145 (.i 1 143 144), .o 146 (.l 145), .o 147 (.i 1 135 136), .n (.st 1 (.tmp 147) (.tmp 142)), .o 148 (.i 1 137 138), .n (.st 1 (.tmp 148) (.tmp 146))]) (.seq (.region [.m 149 10, .o 150 (.c .add 149 1), .m 10 150]) (.region [.m 151 11, .o 152 (.c .sub 151 1), .m 11 152])))))))
def c199:ACode:=(.seq (.region [.k 8 0, .o 9 (.mv (.const (.bool false)))]) (.seq (.region [.m 12 0, .m 13 1, .m 14 0, .m 15 3, .m 16 0, .m 17 3, .o 18 (.i 1 16 17), .o 19 (.l 18), .m 20 0, .m 21 1, .o 22 (.i 1 20 21), .o 23 (.l 22), .o 24 (.i 1 12 13), .n (.st 1 (.tmp 24) (.tmp 19)), .o 25 (.i 1 14 15), .n (.st 1 (.tmp 25) (.tmp 23))]) (.seq (.region [.m 26 1, .o 27 (.c .add 26 1), .m 28 2, .o 29 (.c .sub 28 1), .m 10 27, .m 11 29]) (.seq (.block 0 [0,1,10,11] (.loop [0,1,10,11] c199L0)) (.seq (.block 2 [0,1,10,11] (.loop [0,1,10,11] c199L1)) (.seq (.seq (.region [.m 63 10, .m 64 11, .o 65 (.b .gtr 63 64)]) (.cond (.tmp 65) (.seq (.region [.m 66 0, .m 67 11, .m 68 0, .m 69 1, .m 70 0, .m 71 1, .o 72 (.i 1 70 71), .o 73 (.l 72), .m 74 0, .m 75 11, .o 76 (.i 1 74 75), .o 77 (.l 76), .o 78 (.i 1 66 67), .n (.st 1 (.tmp 78) (.tmp 73)), .o 79 (.i 1 68 69), .n (.st 1 (.tmp 79) (.tmp 77))]) (.seq (.region [.m 80 11, .m 8 80, .o 9 (.mv (.const (.bool true)))]) .ret)) .skip)) (.seq (.region [.m 81 0, .m 82 10, .m 83 0, .m 84 11, .m 85 0, .m 86 11, .o 87 (.i 1 85 86), .o 88 (.l 87), .m 89 0, .m 90 10, .o 91 (.i 1 89 90), .o 92 (.l 91), .o 93 (.i 1 81 82), .n (.st 1 (.tmp 93) (.tmp 88)), .o 94 (.i 1 83 84), .n (.st 1 (.tmp 94) (.tmp 92))]) (.seq (.region [.m 95 10, .o 96 (.c .add 95 1), .m 10 96]) (.seq (.region [.m 97 11, .o 98 (.c .sub 97 1), .m 11 98]) (.seq (.block 4 [0,1,11] (.loop [0,1,10,11] c199L4)) (.seq (.region [.m 153 0, .m 154 11, .m 155 0, .m 156 1, .m 157 0, .m 158 1, .o 159 (.i 1 157 158), .o 160 (.l 159), .m 161 0, .m 162 11, .o 163 (.i 1 161 162), .o 164 (.l 163), .o 165 (.i 1 153 154), .n (.st 1 (.tmp 165) (.tmp 160)), .o 166 (.i 1 155 156), .n (.st 1 (.tmp 166) (.tmp 164))]) (.seq (.region [.m 167 11, .m 8 167, .o 9 (.mv (.const (.bool false)))]) .ret))))))))))))
def F199:AFun:=⟨c199,4,168,[(.tmp 8),(.tmp 9)]⟩
def K199:Nat→List Nat×List Nat
 |0=>([0,1,10,11],[0,1,10,11])
 |1=>([],[0,1,10,11])
 |2=>([0,1,10,11],[0,1,10,11])
 |3=>([],[0,1,10,11])
 |4=>([0,1,10,11],[0,1,11])
 |5=>([],[0,1,10,11])
 |6=>([0,1,10,11],[0,1,10,11])
 |7=>([],[0,1,10,11])
 |8=>([0,1,10,11],[0,1,10,11])
 |9=>([],[0,1,10,11])
 |_=>([],[])
theorem F199_ok:kj8 Try.prog K199 noRg Try.f199=some F199:=by kernel_rfl
/- 213: slices.nextPowerOfTwo -/
def c213:ACode:=(.seq (.region [.o 2 (.mv (.const (.int .u64 0)))]) (.seq (.region [.m 3 0, .o 4 (.conv .u64 (.tmp 3)), .o 5 (.q 143 [4]), .o 6 (.bin .shl (.const (.int .u64 1)) (.tmp 5)), .m 2 6]) .ret))
def F213:AFun:=⟨c213,1,7,[(.tmp 2)]⟩
def K213:Nat→List Nat×List Nat
 |_=>([],[])
theorem F213_ok:kj8 Try.prog K213 noRg Try.f213=some F213:=by kernel_rfl
/- 214: (*slices.xorshift).Next -/
def c214:ACode:=(.seq (.region [.o 2 (.mv (.const (.int .u64 0)))]) (.seq (.region [.m 3 0, .o 4 (.nilck (.tmp 3)), .o 5 (.l 4), .m 6 0, .o 7 (.nilck (.tmp 6)), .o 8 (.l 7), .o 9 (.bin .shl (.tmp 8) (.const (.int .u64 13))), .o 10 (.b .xor 5 9), .o 11 (.nilck (.tmp 3)), .n (.st 1 (.tmp 11) (.tmp 10))]) (.seq (.region [.m 12 0, .o 13 (.nilck (.tmp 12)), .o 14 (.l 13), .m 15 0, .o 16 (.nilck (.tmp 15)), .o 17 (.l 16), .o 18 (.bin .shr (.tmp 17) (.const (.int .u64 7))), .o 19 (.b .xor 14 18), .o 20 (.nilck (.tmp 12)), .n (.st 1 (.tmp 20) (.tmp 19))]) (.seq (.region [.m 21 0, .o 22 (.nilck (.tmp 21)), .o 23 (.l 22), .m 24 0, .o 25 (.nilck (.tmp 24)), .o 26 (.l 25), .o 27 (.bin .shl (.tmp 26) (.const (.int .u64 17))), .o 28 (.b .xor 23 27), .o 29 (.nilck (.tmp 21)), .n (.st 1 (.tmp 29) (.tmp 28))]) (.seq (.region [.m 30 0, .o 31 (.nilck (.tmp 30)), .o 32 (.l 31), .m 2 32]) .ret)))))
def F214:AFun:=⟨c214,1,33,[(.tmp 2)]⟩
def K214:Nat→List Nat×List Nat
 |_=>([],[])
theorem F214_ok:kj8 Try.prog K214 noRg Try.f214=some F214:=by kernel_rfl
/- 217: slices.rotateCmpFunc[int] -/
def c217L0:ACode:=(.seq (.seq (.region [.m 18 10, .m 19 11, .o 20 (.b .neq 18 19)]) (.cond (.tmp 20) .skip (.exit 0))) (.block 1 [0,2,4,10,11] (.seq (.region [.m 21 10, .m 22 11, .o 23 (.b .gtr 21 22)]) (.cond (.tmp 23) (.seq (.region [.m 24 0, .m 25 2, .m 26 10, .o 27 (.b .sub 25 26), .m 28 2, .m 29 11, .m 30 4, .o 31 (.q 228 [24,27,28,29,30])]) (.region [.m 32 10, .m 33 11, .o 34 (.b .sub 32 33), .m 10 34])) (.seq (.region [.m 35 0, .m 36 2, .m 37 10, .o 38 (.b .sub 36 37), .m 39 2, .m 40 11, .o 41 (.b .add 39 40), .m 42 10, .o 43 (.b .sub 41 42), .m 44 10, .m 45 4, .o 46 (.q 228 [35,38,43,44,45])]) (.region [.m 47 11, .m 48 10, .o 49 (.b .sub 47 48), .m 11 49]))))))
def c217:ACode:=(.seq (.region [.m 12 2, .m 13 1, .o 14 (.b .sub 12 13), .m 10 14]) (.seq (.region [.m 15 3, .m 16 2, .o 17 (.b .sub 15 16), .m 11 17]) (.seq (.block 0 [0,2,4,10] (.loop [0,2,4,10,11] c217L0)) (.region [.m 50 0, .m 51 2, .m 52 10, .o 53 (.b .sub 51 52), .m 54 2, .m 55 10, .m 56 4, .o 57 (.q 228 [50,53,54,55,56])]))))
def F217:AFun:=⟨c217,5,58,[]⟩
def K217:Nat→List Nat×List Nat
 |0=>([0,2,4,10,11],[0,2,4,10])
 |1=>([],[0,2,4,10,11])
 |_=>([],[])
theorem F217_ok:kj8 Try.prog K217 noRg Try.f217=some F217:=by kernel_rfl
/- 218: slices.siftDownOrdered[int] -/
def c218L0:ACode:=(.block 1 [0,2,3,8] (.seq (.region [.m 11 8, .o 12 (.bin .mul (.const (.int .i64 2)) (.tmp 11)), .o 13 (.c .add 12 1), .m 9 13]) (.seq (.seq (.region [.m 14 9, .m 15 2, .o 16 (.b .geq 14 15)]) (.cond (.tmp 16) (.exit 0) .skip)) (.seq (.seq (.region [.m 17 9, .o 18 (.c .add 17 1), .m 19 2, .o 20 (.b .lss 18 19), .m 21 20, .g 22 (.m 0) 21 true, .g 23 (.m 3) 21 true, .g 24 (.m 9) 21 true, .g 25 (.b .add 23 24) 21 true, .g 26 (.i 1 22 25) 21 true, .g 27 (.l 26) 21 true, .g 28 (.m 0) 21 true, .g 29 (.m 3) 21 true, .g 30 (.m 9) 21 true, .g 31 (.b .add 29 30) 21 true, .g 32 (.c .add 31 1) 21 true, .g 33 (.i 1 28 32) 21 true, .g 34 (.l 33) 21 true, .g 35 (.q 197 [27,34]) 21 true, .o 36 (.pick (.tmp 21) (.tmp 35) (.const (.bool false)))]) (.cond (.tmp 36) (.region [.m 37 9, .o 38 (.c .add 37 1), .m 9 38]) .skip)) (.seq (.seq (.region [.m 39 0, .m 40 3, .m 41 8, .o 42 (.b .add 40 41), .o 43 (.i 1 39 42), .o 44 (.l 43), .m 45 0, .m 46 3, .m 47 9, .o 48 (.b .add 46 47), .o 49 (.i 1 45 48), .o 50 (.l 49), .o 51 (.q 197 [44,50]), .o 52 (.un .not (.tmp 51))]) (.cond (.tmp 52) .ret .skip)) (.seq (.region [.m 53 0, .m 54 3, .m 55 8, .o 56 (.b .add 54 55), .m 57 0, .m 58 3, .m 59 9, .o 60 (.b .add 58 59), .m 61 0, .m 62 3, .m 63 9, .o 64 (.b .add 62 63), .o 65 (.i 1 61 64), .o 66 (.l 65), .m 67 0, .m 68 3, .m 69 8, .o 70 (.b .add 68 69), .o 71 (.i 1 67 70), .o 72 (.l 71), .o 73 (.i 1 53 56), .n (.st 1 (.tmp 73) (.tmp 66)), .o 74 (.i 1 57 60), .n (.st 1 (.tmp 74) (.tmp 72))]) (.region [.m 75 9, .m 8 75])))))))
def c218:ACode:=(.seq (.region [.m 10 1, .m 8 10]) (.block 0 [] (.loop [0,2,3,8] c218L0)))
def F218:AFun:=⟨c218,4,76,[]⟩
def K218:Nat→List Nat×List Nat
 |0=>([0,2,3,8],[])
 |1=>([],[0,2,3,8])
 |_=>([],[])
theorem F218_ok:kj8 Try.prog K218 noRg Try.f218=some F218:=by kernel_rfl
/- 219: slices.medianAdjacentOrdered[int] -/
def c219:ACode:=(.seq (.region [.k 6 0]) (.seq (.region [.m 7 0, .m 8 1, .o 9 (.c .sub 8 1), .m 10 1, .m 11 1, .o 12 (.c .add 11 1), .m 13 2, .o 14 (.q 220 [7,9,10,12,13]), .m 6 14]) .ret))
def F219:AFun:=⟨c219,3,15,[(.tmp 6)]⟩
def K219:Nat→List Nat×List Nat
 |_=>([],[])
theorem F219_ok:kj8 Try.prog K219 noRg Try.f219=some F219:=by kernel_rfl
/- 220: slices.medianOrdered[int] -/
def c220:ACode:=(.seq (.region [.k 10 0]) (.seq (.region [.m 12 0, .m 13 1, .m 14 2, .m 15 4, .o 16 (.q 229 [12,13,14,15]), .m 11 16, .o 17 (.e 0 11), .o 18 (.e 1 11), .m 1 17, .m 2 18]) (.seq (.region [.m 20 0, .m 21 2, .m 22 3, .m 23 4, .o 24 (.q 229 [20,21,22,23]), .m 19 24, .o 25 (.e 0 19), .o 26 (.e 1 19), .m 2 25, .m 3 26]) (.seq (.region [.m 28 0, .m 29 1, .m 30 2, .m 31 4, .o 32 (.q 229 [28,29,30,31]), .m 27 32, .o 33 (.e 0 27), .o 34 (.e 1 27), .m 1 33, .m 2 34]) (.seq (.region [.m 35 2, .m 10 35]) .ret)))))
def F220:AFun:=⟨c220,5,36,[(.tmp 10)]⟩
def K220:Nat→List Nat×List Nat
 |_=>([],[])
theorem F220_ok:kj8 Try.prog K220 noRg Try.f220=some F220:=by kernel_rfl
/- 228: slices.swapRangeCmpFunc[int] -/
def c228L0:ACode:=(.seq (.seq (.region [.m 11 10, .m 12 3, .o 13 (.b .lss 11 12)]) (.cond (.tmp 13) .skip (.exit 0))) (.seq (.block 1 [0,1,2,3,10] (.region [.m 16 0, .m 17 1, .m 18 10, .o 19 (.b .add 17 18), .m 20 0, .m 21 2, .m 22 10, .o 23 (.b .add 21 22), .m 24 0, .m 25 2, .m 26 10, .o 27 (.b .add 25 26), .o 28 (.i 1 24 27), .o 29 (.l 28), .m 30 0, .m 31 1, .m 32 10, .o 33 (.b .add 31 32), .o 34 (.i 1 30 33), .o 35 (.l 34), .o 36 (.i 1 16 19), .n (.st 1 (.tmp 36) (.tmp 29)), .o 37 (.i 1 20 23), .n (.st 1 (.tmp 37) (.tmp 35))])) (.region [.m 14 10, .o 15 (.c .add 14 1), .m 10 15])))
def c228:ACode:=(.seq (.region [.k 10 0]) (.block 0 [] (.loop [0,1,2,3,10] c228L0)))
def F228:AFun:=⟨c228,5,38,[]⟩
def K228:Nat→List Nat×List Nat
 |0=>([0,1,2,3,10],[])
 |1=>([],[0,1,2,3,10])
 |_=>([],[])
theorem F228_ok:kj8 Try.prog K228 noRg Try.f228=some F228:=by kernel_rfl
/- 229: slices.order2Ordered[int] -/
def c229:ACode:=(.seq (.region [.k 8 0, .k 9 0]) (.seq (.seq (.region [.m 10 0, .m 11 2, .o 12 (.i 1 10 11), .o 13 (.l 12), .m 14 0, .m 15 1, .o 16 (.i 1 14 15), .o 17 (.l 16), .o 18 (.q 197 [13,17])]) (.cond (.tmp 18) (.seq (.region [.m 19 3, .o 20 (.nilck (.tmp 19)), .o 21 (.l 20), .o 22 (.c .add 21 1), .o 23 (.nilck (.tmp 19)), .n (.st 1 (.tmp 23) (.tmp 22))]) (.seq (.region [.m 24 2, .m 25 1, .m 8 24, .m 9 25]) .ret)) .skip)) (.seq (.region [.m 26 1, .m 27 2, .m 8 26, .m 9 27]) .ret)))
def F229:AFun:=⟨c229,4,28,[(.tmp 8),(.tmp 9)]⟩
def K229:Nat→List Nat×List Nat
 |_=>([],[])
theorem F229_ok:kj8 Try.prog K229 noRg Try.f229=some F229:=by kernel_rfl
end Go.Proofs.Ytodbgomfeacdhaa
