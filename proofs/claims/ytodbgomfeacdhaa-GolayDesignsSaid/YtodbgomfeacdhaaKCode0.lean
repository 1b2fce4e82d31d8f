/-
  Functions of this seat as the small machine's code, written by a program of my own (gen.py); each is checked to be what the model's function is turned into. No condition.
-/
import Derived.Test.YtodbgomfeacdhaaK2
import Derived.Test.YtodbgomfeacdhaaProg
set_option linter.unusedVariables false
set_option linter.unusedSimpArgs false
set_option linter.unusedSectionVars false
set_option maxRecDepth 100000
namespace Go.Proofs.Ytodbgomfeacdhaa
open Go.Am
/- 5: syndrome/syndromelaw.GolayDesigns -/
def c5L0:ACode:=(.seq (.seq (.region [.m 38 9, .m 39 1, .m 40 8, .o 41 (.i 1 39 40), .o 42 (.l 41), .o 43 (.n 42), .o 44 (.b .lss 38 43), .m 45 44, .g 46 (.m 7) 45 true, .g 47 (.c .eql 46 0) 45 true, .o 48 (.pick (.tmp 45) (.tmp 47) (.const (.bool false)))]) (.cond (.tmp 48) .skip (.exit 2))) (.seq (.block 3 [0,1,2,7,8,9] (.seq (.region [.m 51 1, .m 52 8, .o 53 (.i 1 51 52), .o 54 (.l 53), .m 55 9, .o 56 (.i 1 54 55), .o 57 (.l 56), .o 58 (.c .lss 57 0), .m 59 58, .g 60 (.m 1) 59 false, .g 61 (.m 8) 59 false, .g 62 (.i 1 60 61) 59 false, .g 63 (.l 62) 59 false, .g 64 (.m 9) 59 false, .g 65 (.i 1 63 64) 59 false, .g 66 (.l 65) 59 false, .g 67 (.m 0) 59 false, .g 68 (.b .geq 66 67) 59 false, .o 69 (.pick (.tmp 59) (.const (.bool true)) (.tmp 68))]) (.cond (.tmp 69) (.region [.k 7 10]) .skip))) (.region [.m 49 9, .o 50 (.c .add 49 1), .m 9 50])))
def c5L1:ACode:=(.seq (.seq (.region [.m 28 8, .m 29 1, .o 30 (.n 29), .o 31 (.b .lss 28 30), .m 32 31, .g 33 (.m 7) 32 true, .g 34 (.c .eql 33 0) 32 true, .o 35 (.pick (.tmp 32) (.tmp 34) (.const (.bool false)))]) (.cond (.tmp 35) .skip (.exit 0))) (.seq (.block 1 [0,1,2,7,8] (.seq (.region [.k 9 0]) (.block 2 [0,1,2,7,8] (.loop [0,1,2,7,8,9] c5L0)))) (.region [.m 36 8, .o 37 (.c .add 36 1), .m 8 37])))
def c5:ACode:=(.seq (.region [.o 6 (.mv (.const (.bool false)))]) (.seq (.seq (.region [.m 15 1, .o 16 (.q 17 [15])]) (.cond (.tmp 16) (.seq (.region [.o 6 (.mv (.const (.bool true)))]) .ret) .skip)) (.seq (.region [.k 7 0]) (.seq (.seq (.region [.m 17 0, .o 18 (.c .lss 17 1), .m 19 18, .g 20 (.m 0) 19 false, .g 21 (.c .gtr 20 64) 19 false, .o 22 (.pick (.tmp 19) (.const (.bool true)) (.tmp 21)), .m 23 22, .g 24 (.m 1) 23 false, .g 25 (.n 24) 23 false, .g 26 (.c .gtr 25 4096) 23 false, .o 27 (.pick (.tmp 23) (.const (.bool true)) (.tmp 26))]) (.cond (.tmp 27) (.region [.k 7 4]) .skip)) (.seq (.seq (.region [.k 8 0]) (.block 0 [0,1,2,7] (.loop [0,1,2,7,8] c5L1))) (.seq (.seq (.region [.m 70 7, .o 71 (.c .eql 70 0), .m 72 71, .g 73 (.m 2) 72 true, .g 74 (.c .lss 73 0) 72 true, .g 75 (.m 74) 72 true, .g 76 (.m 2) 75 false, .g 77 (.m 0) 75 false, .g 78 (.b .gtr 76 77) 75 false, .g 79 (.pick (.tmp 75) (.const (.bool true)) (.tmp 78)) 72 true, .o 80 (.pick (.tmp 72) (.tmp 79) (.const (.bool false)))]) (.cond (.tmp 80) (.region [.k 7 6]) .skip)) (.seq (.seq (.region [.m 81 7, .o 82 (.c .eql 81 0), .m 83 82, .g 84 (.m 0) 83 true, .g 85 (.m 2) 83 true, .g 86 (.q 29 [84,85]) 83 true, .g 87 (.un .not (.tmp 86)) 83 true, .o 88 (.pick (.tmp 83) (.tmp 87) (.const (.bool false)))]) (.cond (.tmp 88) (.region [.k 7 4]) .skip)) (.seq (.region [.m 90 0, .m 91 1, .m 92 2, .o 93 (.q 30 [90,91,92]), .m 89 93, .o 94 (.e 0 89), .o 95 (.e 1 89), .o 96 (.e 2 89), .m 10 94, .m 11 95, .m 12 96]) (.seq (.seq (.region [.m 97 7, .o 98 (.c .neq 97 0)]) (.cond (.tmp 98) (.seq (.region [.m 99 12, .m 100 7, .o 101 (.b .eql 99 100), .m 102 101, .g 103 (.m 11) 102 true, .g 104 (.un .not (.tmp 103)) 102 true, .o 105 (.pick (.tmp 102) (.tmp 104) (.const (.bool false))), .m 106 105, .g 107 (.m 10) 106 true, .g 108 (.c .eql 107 0) 106 true, .o 109 (.pick (.tmp 106) (.tmp 108) (.const (.bool false))), .m 6 109]) .ret) .skip)) (.seq (.region [.m 111 0, .m 112 1, .m 113 2, .o 114 (.q 31 [111,112,113]), .m 110 114, .o 115 (.e 0 110), .o 116 (.e 1 110), .m 13 115, .m 14 116]) (.seq (.region [.m 117 12, .o 118 (.c .eql 117 0), .m 119 118, .g 120 (.m 11) 119 true, .g 121 (.m 14) 119 true, .g 122 (.eqb false (.tmp 120) (.tmp 121)) 119 true, .o 123 (.pick (.tmp 119) (.tmp 122) (.const (.bool false))), .m 124 123, .g 125 (.m 10) 124 true, .g 126 (.m 13) 124 true, .g 127 (.b .eql 125 126) 124 true, .o 128 (.pick (.tmp 124) (.tmp 127) (.const (.bool false))), .m 6 128]) .ret)))))))))))
def F5:AFun:=⟨c5,3,129,[(.tmp 6)]⟩
def K5:Nat→List Nat×List Nat
 |0=>([0,1,2,7,8],[0,1,2,7])
 |1=>([],[0,1,2,7,8])
 |2=>([0,1,2,7,8,9],[0,1,2,7,8])
 |3=>([],[0,1,2,7,8,9])
 |_=>([],[])
theorem F5_ok:kj8 Try.prog K5 noRg Try.f5=some F5:=by kernel_rfl
/- 17: syndrome/syndromelaw.heavy -/
def c17L0:ACode:=(.seq (.seq (.region [.m 7 4, .m 8 0, .o 9 (.n 8), .o 10 (.b .lss 7 9), .m 11 10, .g 12 (.m 3) 11 true, .g 13 (.c .leq 12 6000) 11 true, .o 14 (.pick (.tmp 11) (.tmp 13) (.const (.bool false)))]) (.cond (.tmp 14) .skip (.exit 0))) (.seq (.block 1 [0,3,4] (.region [.m 17 3, .m 18 0, .m 19 4, .o 20 (.i 1 18 19), .o 21 (.l 20), .o 22 (.n 21), .o 23 (.b .add 17 22), .m 3 23])) (.region [.m 15 4, .o 16 (.c .add 15 1), .m 4 16])))
def c17:ACode:=(.seq (.region [.o 2 (.mv (.const (.bool false)))]) (.seq (.region [.m 5 0, .o 6 (.n 5), .m 3 6]) (.seq (.seq (.region [.k 4 0]) (.block 0 [3] (.loop [0,3,4] c17L0))) (.seq (.region [.m 24 3, .o 25 (.c .gtr 24 6000), .m 2 25]) .ret))))
def F17:AFun:=⟨c17,1,26,[(.tmp 2)]⟩
def K17:Nat→List Nat×List Nat
 |0=>([0,3,4],[3])
 |1=>([],[0,3,4])
 |_=>([],[])
theorem F17_ok:kj8 Try.prog K17 noRg Try.f17=some F17:=by kernel_rfl
/- 29: syndrome/syndromeref.SetsMay -/
def c29L0:ACode:=(.seq (.seq (.region [.m 6 5, .m 7 1, .o 8 (.b .leq 6 7)]) (.cond (.tmp 8) .skip (.exit 0))) (.seq (.block 1 [0,1,5] (.seq (.region [.m 11 0, .m 12 5, .o 13 (.q 82 [11,12]), .o 14 (.c .gtr 13 50000)]) (.cond (.tmp 14) (.seq (.region [.o 4 (.mv (.const (.bool false)))]) .ret) .skip))) (.region [.m 9 5, .o 10 (.c .add 9 1), .m 5 10])))
def c29:ACode:=(.seq (.region [.o 4 (.mv (.const (.bool false)))]) (.seq (.seq (.region [.k 5 0]) (.block 0 [] (.loop [0,1,5] c29L0))) (.seq (.region [.o 4 (.mv (.const (.bool true)))]) .ret)))
def F29:AFun:=⟨c29,2,15,[(.tmp 4)]⟩
def K29:Nat→List Nat×List Nat
 |0=>([0,1,5],[])
 |1=>([],[0,1,5])
 |_=>([],[])
theorem F29_ok:kj8 Try.prog K29 noRg Try.f29=some F29:=by kernel_rfl
/- 30: syndrome/golay.Design -/
def c30L0:ACode:=(.seq (.region [.o 42 (.b .lss 41 40)]) (.seq (.cond (.tmp 42) .skip (.exit 2)) (.seq (.block 3 [0,2,6,7,8,9,12,33,34,35,39,40,41] (.seq (.region [.o 43 (.i 1 39 41), .o 44 (.l 43), .m 14 44]) (.seq (.seq (.region [.m 45 14, .o 46 (.c .lss 45 0), .m 47 46, .g 48 (.m 14) 47 false, .g 49 (.m 0) 47 false, .g 50 (.b .geq 48 49) 47 false, .o 51 (.pick (.tmp 47) (.const (.bool true)) (.tmp 50))]) (.cond (.tmp 51) (.seq (.region [.n (.st 1 (.tmp 6) (.const (.int .i64 0))), .n (.st 1 (.tmp 7) (.const (.bool false))), .n (.st 1 (.tmp 8) (.const (.int .i64 10)))]) .ret) .skip)) (.region [.m 52 12, .m 53 14, .o 54 (.bin .shl (.const (.int .u64 1)) (.tmp 53)), .o 55 (.b .or 52 54), .m 12 55])))) (.region [.o 56 (.c .add 41 1), .m 41 56]))))
def c30L1:ACode:=(.seq (.region [.o 36 (.b .lss 35 34)]) (.seq (.cond (.tmp 36) .skip (.exit 0)) (.seq (.block 1 [0,2,6,7,8,9,33,34,35] (.seq (.region [.o 37 (.i 1 33 35), .o 38 (.l 37), .m 11 38]) (.seq (.region [.o 12 (.mv (.const (.int .u64 0)))]) (.seq (.seq (.region [.m 39 11, .o 40 (.n 39), .k 41 0]) (.block 2 [0,2,6,7,8,9,12,33,34,35] (.loop [0,2,6,7,8,9,12,33,34,35,39,40,41] c30L0))) (.region [.o 57 (.l 9), .m 58 12, .o 59 (.mkSl 107 1 1 [(.tmp 58)]), .o 60 (.app 107 1 8 (.tmp 57) (.tmp 59)), .n (.st 1 (.tmp 9) (.tmp 60))]))))) (.region [.o 61 (.c .add 35 1), .m 35 61]))))
def c30L2:ACode:=(.seq (.region [.o 124 (.b .lss 123 122)]) (.seq (.cond (.tmp 124) .skip (.exit 0)) (.seq (.block 1 [6,7,8,9,112,113,115,122,123,291] (.seq (.region [.m 125 123, .m 116 125]) (.region [.m 126 115, .m 127 116, .m 128 116, .o 129 (.i 1 126 127), .n (.st 1 (.tmp 129) (.tmp 128))]))) (.region [.o 130 (.c .add 123 1), .m 123 130]))))
def c30L3:ACode:=(.seq (.region [.o 260 (.b .lss 259 258)]) (.seq (.cond (.tmp 260) .skip (.exit 6)) (.seq (.block 7 [6,7,8,9,112,113,115,186,187,188,189,196,257,258,259,291] (.seq (.region [.o 261 (.i 1 257 259), .o 262 (.l 261), .m 198 262]) (.region [.m 263 196, .m 264 198, .o 265 (.bin .shl (.const (.int .u64 1)) (.tmp 264)), .o 266 (.b .or 263 265), .m 196 266]))) (.region [.o 267 (.c .add 259 1), .m 259 267]))))
def c30L4:ACode:=(.seq (.region [.o 271 (.b .lss 270 269)]) (.seq (.cond (.tmp 271) .skip (.exit 8)) (.seq (.block 9 [6,7,8,9,112,113,115,186,187,188,196,199,268,269,270,291] (.seq (.region [.o 272 (.i 1 268 270), .o 273 (.l 272), .m 201 273]) (.seq (.region [.m 274 201, .m 275 196, .o 276 (.b .and 274 275), .m 277 196, .o 278 (.b .eql 276 277)]) (.cond (.tmp 278) (.region [.m 279 199, .o 280 (.c .add 279 1), .m 199 280]) .skip)))) (.region [.o 281 (.c .add 270 1), .m 270 281]))))
def c30L5:ACode:=(.seq (.seq (.region [.m 140 117, .o 141 (.c .geq 140 0), .m 142 141, .g 143 (.m 115) 142 true, .g 144 (.m 117) 142 true, .g 145 (.i 1 143 144) 142 true, .g 146 (.l 145) 142 true, .g 147 (.l 113) 142 true, .g 148 (.l 112) 142 true, .g 149 (.b .sub 147 148) 142 true, .g 150 (.m 117) 142 true, .g 151 (.b .add 149 150) 142 true, .g 152 (.b .eql 146 151) 142 true, .o 153 (.pick (.tmp 142) (.tmp 152) (.const (.bool false)))]) (.cond (.tmp 153) .skip (.exit 4))) (.block 5 [6,7,8,9,112,113,115,117,291] (.region [.m 154 117, .o 155 (.c .sub 154 1), .m 117 155])))
def c30L6:ACode:=(.seq (.seq (.region [.m 166 118, .o 167 (.l 112), .o 168 (.b .lss 166 167)]) (.cond (.tmp 168) .skip (.exit 6))) (.seq (.block 7 [6,7,8,9,112,113,115,118,291] (.region [.m 171 115, .m 172 118, .m 173 115, .m 174 118, .o 175 (.c .sub 174 1), .o 176 (.i 1 173 175), .o 177 (.l 176), .o 178 (.c .add 177 1), .o 179 (.i 1 171 172), .n (.st 1 (.tmp 179) (.tmp 178))])) (.region [.m 169 118, .o 170 (.c .add 169 1), .m 118 170])))
def c30L7:ACode:=(.seq (.seq (.region [.o 131 (.l 112), .o 132 (.l 113), .o 133 (.b .leq 131 132)]) (.cond (.tmp 133) .skip (.exit 2))) (.block 3 [6,7,8,9,112,113,115,291] (.seq (.seq (.seq (.region [.m 135 115, .o 291 (.pick (.tmp 291) (.tmp 292) (.const (.bool false))), .m 186 6, .m 187 7, .m 188 8, .m 189 9, .m 256 135]) (.seq (.block 1001 [6,7,8,9,112,113,115,291] (.seq (.region [.m 195 256]) (.block 5 [6,7,8,9,112,113,115,291] (.seq (.region [.o 196 (.mv (.const (.int .u64 0)))]) (.seq (.seq (.region [.m 257 195, .o 258 (.n 257), .k 259 0]) (.block 6 [6,7,8,9,112,113,115,186,187,188,189,196,291] (.loop [6,7,8,9,112,113,115,186,187,188,189,196,257,258,259,291] c30L3))) (.seq (.region [.k 199 0]) (.seq (.seq (.region [.o 268 (.l 189), .o 269 (.n 268), .k 270 0]) (.block 8 [6,7,8,9,112,113,115,186,187,188,199,291] (.loop [6,7,8,9,112,113,115,186,187,188,196,199,268,269,270,291] c30L4))) (.seq (.seq (.region [.o 282 (.l 186), .o 283 (.c .geq 282 0), .m 284 283, .g 285 (.m 199) 284 true, .g 286 (.l 186) 284 true, .g 287 (.b .neq 285 286) 284 true, .o 288 (.pick (.tmp 284) (.tmp 287) (.const (.bool false)))]) (.cond (.tmp 288) (.seq (.region [.n (.st 1 (.tmp 186) (.const (.int .i64 0))), .n (.st 1 (.tmp 187) (.const (.bool false))), .n (.st 1 (.tmp 188) (.const (.int .i64 0)))]) (.seq (.region [.o 291 (.mv (.const (.bool true)))]) (.exit 1001))) .skip)) (.region [.m 289 199, .n (.st 1 (.tmp 186) (.tmp 289))]))))))))) (.region [.o 136 (.un .not (.tmp 291)), .o 137 (.un .not (.tmp 136))]))) (.cond (.tmp 137) (.exit 1000) .skip)) (.seq (.region [.o 138 (.l 112), .o 139 (.c .sub 138 1), .m 117 139]) (.seq (.block 4 [6,7,8,9,112,113,115,117,291] (.loop [6,7,8,9,112,113,115,117,291] c30L5)) (.seq (.seq (.region [.m 156 117, .o 157 (.c .lss 156 0)]) (.cond (.tmp 157) (.exit 1000) .skip)) (.seq (.region [.m 158 115, .m 159 117, .o 160 (.i 1 158 159), .o 161 (.l 160), .o 162 (.c .add 161 1), .o 163 (.i 1 158 159), .n (.st 1 (.tmp 163) (.tmp 162))]) (.seq (.region [.m 164 117, .o 165 (.c .add 164 1), .m 118 165]) (.block 6 [6,7,8,9,112,113,115,291] (.loop [6,7,8,9,112,113,115,118,291] c30L6))))))))))
def c30:ACode:=(.seq (.region [.o 6 (.alloc 3 [(.int .i64 0)]), .o 7 (.alloc 4 [(.bool false)]), .o 8 (.alloc 31 [(.int .i64 0)])]) (.seq (.seq (.region [.m 22 0, .o 23 (.c .lss 22 1), .m 24 23, .g 25 (.m 0) 24 false, .g 26 (.c .gtr 25 64) 24 false, .o 27 (.pick (.tmp 24) (.const (.bool true)) (.tmp 26)), .m 28 27, .g 29 (.m 1) 28 false, .g 30 (.n 29) 28 false, .g 31 (.c .gtr 30 4096) 28 false, .o 32 (.pick (.tmp 28) (.const (.bool true)) (.tmp 31))]) (.cond (.tmp 32) (.seq (.region [.n (.st 1 (.tmp 6) (.const (.int .i64 0))), .n (.st 1 (.tmp 7) (.const (.bool false))), .n (.st 1 (.tmp 8) (.const (.int .i64 4)))]) .ret) .skip)) (.seq (.region [.o 9 (.alloc 106 [(.slice none 0 0)])]) (.seq (.seq (.region [.m 33 1, .o 34 (.n 33), .k 35 0]) (.block 0 [0,2,6,7,8,9] (.loop [0,2,6,7,8,9,33,34,35] c30L1))) (.seq (.seq (.region [.m 62 2, .o 63 (.c .lss 62 0), .m 64 63, .g 65 (.m 2) 64 false, .g 66 (.m 0) 64 false, .g 67 (.b .gtr 65 66) 64 false, .o 68 (.pick (.tmp 64) (.const (.bool true)) (.tmp 67))]) (.cond (.tmp 68) (.seq (.region [.n (.st 1 (.tmp 6) (.const (.int .i64 0))), .n (.st 1 (.tmp 7) (.const (.bool false))), .n (.st 1 (.tmp 8) (.const (.int .i64 6)))]) .ret) .skip)) (.seq (.seq (.region [.m 69 0, .m 70 2, .o 71 (.q 83 [69,70]), .o 72 (.c .lss 71 0)]) (.cond (.tmp 72) (.seq (.region [.n (.st 1 (.tmp 6) (.const (.int .i64 0))), .n (.st 1 (.tmp 7) (.const (.bool false))), .n (.st 1 (.tmp 8) (.const (.int .i64 4)))]) .ret) .skip)) (.seq (.region [.n (.st 1 (.tmp 6) (.const (.int .i64 (-1))))]) (.seq (.seq (.region [.m 73 0, .m 74 2, .o 75 (.q 84 [73,74])]) (.block 4 [6,7,8] (.seq (.block 0 [6,7,8,9,75] .skip) (.seq (.region [.o 291 (.mv (.const (.bool false))), .o 112 (.capt 139 2 0 (.tmp 75)), .o 113 (.capt 139 2 1 (.tmp 75))]) (.seq (.block 1000 [291,6,7,8] (.seq (.region [.o 119 (.l 112), .o 120 (.mks 3 1 8 [(.int .i64 0)] (.tmp 119) (.tmp 119)), .m 115 120]) (.seq (.seq (.region [.m 121 115, .o 122 (.n 121), .k 123 0]) (.block 0 [6,7,8,9,112,113,115,291] (.loop [6,7,8,9,112,113,115,122,123,291] c30L2))) (.block 2 [6,7,8,9,291] (.loop [6,7,8,9,112,113,115,291] c30L7))))) (.cond (.tmp 291) (.seq (.block 0 [6,7,8] .skip) .ret) (.block 0 [6,7,8] .skip))))))) (.seq (.region [.o 110 (.l 6), .n (.st 1 (.tmp 6) (.tmp 110)), .n (.st 1 (.tmp 7) (.const (.bool true))), .n (.st 1 (.tmp 8) (.const (.int .i64 0)))]) .ret)))))))))
def F30:AFun:=⟨c30,3,111,[(.cell 6 false 1),(.cell 7 false 1),(.cell 8 false 1)]⟩
def K30:Nat→List Nat×List Nat
 |0=>([0,2,6,7,8,9,33,34,35],[0,2,6,7,8,9])
 |1=>([],[0,2,6,7,8,9,33,34,35])
 |2=>([0,2,6,7,8,9,12,33,34,35,39,40,41],[0,2,6,7,8,9,12,33,34,35])
 |3=>([],[0,2,6,7,8,9,12,33,34,35,39,40,41])
 |4=>([],[6,7,8])
 |_=>([],[])
def K30I4:Nat→List Nat×List Nat
 |0=>([6,7,8,9,112,113,115,122,123,291],[6,7,8,9,112,113,115,291])
 |1=>([6,7,8,9,291],[6,7,8,9,112,113,115,122,123,291])
 |2=>([6,7,8,9,112,113,115,291],[6,7,8,9,291])
 |3=>([6,7,8,9,291],[6,7,8,9,112,113,115,291])
 |4=>([6,7,8,9,112,113,115,117,291],[6,7,8,9,112,113,115,117,291])
 |5=>([6,7,8,9,291],[6,7,8,9,112,113,115,117,291])
 |6=>([6,7,8,9,112,113,115,118,291],[6,7,8,9,112,113,115,291])
 |7=>([6,7,8,9,291],[6,7,8,9,112,113,115,118,291])
 |_=>([],[])
def K30B4:Nat→List Nat×List Nat
 |5=>([6,7,8,9,112,113,115,291],[6,7,8,9,112,113,115,291])
 |6=>([6,7,8,9,112,113,115,186,187,188,189,196,257,258,259,291],[6,7,8,9,112,113,115,186,187,188,189,196,291])
 |7=>([6,7,8,9,112,113,115,291],[6,7,8,9,112,113,115,186,187,188,189,196,257,258,259,291])
 |8=>([6,7,8,9,112,113,115,186,187,188,196,199,268,269,270,291],[6,7,8,9,112,113,115,186,187,188,199,291])
 |9=>([6,7,8,9,112,113,115,291],[6,7,8,9,112,113,115,186,187,188,196,199,268,269,270,291])
 |_=>([],[])
def R30:Nat→Option RgIn
 |4=>some ⟨139,2,1000,1001,[6,7,8,9,75],[6,7,8],[6,7,8,9,112,113,115,291],[6,7,8,9],[0,23],K30I4,K30B4⟩
 |_=>none
theorem F30_ok:kj8 Try.prog K30 R30 Try.f30=some F30:=by kernel_rfl
/- 31: syndrome/syndromeref.DesignOf -/
def c31L0:ACode:=(.seq (.seq (.region [.m 12 9, .m 13 1, .o 14 (.n 13), .o 15 (.b .lss 12 14)]) (.cond (.tmp 15) .skip (.exit 0))) (.seq (.block 1 [0,1,2,8,9] (.region [.m 18 8, .m 19 1, .m 20 9, .o 21 (.i 1 19 20), .o 22 (.l 21), .o 23 (.q 85 [22]), .o 24 (.mkSl 107 1 1 [(.tmp 23)]), .o 25 (.app 107 1 8 (.tmp 18) (.tmp 24)), .m 8 25])) (.region [.m 16 9, .o 17 (.c .add 16 1), .m 9 17])))
def c31:ACode:=(.seq (.region [.k 6 0, .o 7 (.mv (.const (.bool false)))]) (.seq (.region [.o 8 (.mv (.const (.slice none 0 0)))]) (.seq (.seq (.region [.k 9 0]) (.block 0 [0,2,8] (.loop [0,1,2,8,9] c31L0))) (.seq (.region [.m 27 0, .m 28 8, .m 29 2, .o 30 (.call 86 [(.tmp 27),(.tmp 28),(.tmp 29),(.const (.int .i64 0)),(.const (.int .u64 0)),(.const (.int .i64 (-1)))]), .m 26 30, .o 31 (.e 0 26), .o 32 (.e 1 26), .m 10 31, .m 11 32]) (.seq (.seq (.region [.m 33 11, .o 34 (.un .not (.tmp 33))]) (.cond (.tmp 34) (.seq (.region [.k 6 0, .o 7 (.mv (.const (.bool false)))]) .ret) .skip)) (.seq (.region [.m 35 10, .m 6 35, .o 7 (.mv (.const (.bool true)))]) .ret))))))
def F31:AFun:=⟨c31,3,36,[(.tmp 6),(.tmp 7)]⟩
def K31:Nat→List Nat×List Nat
 |0=>([0,1,2,8,9],[0,2,8])
 |1=>([],[0,1,2,8,9])
 |_=>([],[])
theorem F31_ok:kj8 Try.prog K31 noRg Try.f31=some F31:=by kernel_rfl
/- 82: syndrome/syndromeref.Choose -/
def c82L0:ACode:=(.seq (.seq (.region [.m 26 7, .o 27 (.c .gtr 26 0)]) (.cond (.tmp 27) .skip (.exit 2))) (.seq (.block 3 [0,1,5,6,7] (.region [.m 30 5, .m 31 7, .m 32 5, .m 33 7, .o 34 (.i 1 32 33), .o 35 (.l 34), .m 36 5, .m 37 7, .o 38 (.c .sub 37 1), .o 39 (.i 1 36 38), .o 40 (.l 39), .o 41 (.b .add 35 40), .o 42 (.i 1 30 31), .n (.st 1 (.tmp 42) (.tmp 41))])) (.region [.m 28 7, .o 29 (.c .sub 28 1), .m 7 29])))
def c82L1:ACode:=(.seq (.seq (.region [.m 20 6, .m 21 0, .o 22 (.b .lss 20 21)]) (.cond (.tmp 22) .skip (.exit 0))) (.seq (.block 1 [0,1,5,6] (.seq (.region [.m 25 0, .m 7 25]) (.block 2 [0,1,5,6] (.loop [0,1,5,6,7] c82L0)))) (.region [.m 23 6, .o 24 (.c .add 23 1), .m 6 24])))
def c82:ACode:=(.seq (.region [.k 4 0]) (.seq (.seq (.region [.m 8 1, .o 9 (.c .lss 8 0), .m 10 9, .g 11 (.m 1) 10 false, .g 12 (.m 0) 10 false, .g 13 (.b .gtr 11 12) 10 false, .o 14 (.pick (.tmp 10) (.const (.bool true)) (.tmp 13))]) (.cond (.tmp 14) (.seq (.region [.k 4 0]) .ret) .skip)) (.seq (.region [.m 15 0, .o 16 (.c .add 15 1), .o 17 (.mks 3 1 8 [(.int .i64 0)] (.tmp 16) (.tmp 16)), .m 5 17]) (.seq (.region [.m 18 5, .o 19 (.iaddr 1 (.tmp 18) (.const (.int .i64 0))), .n (.st 1 (.tmp 19) (.const (.int .i64 1)))]) (.seq (.seq (.region [.k 6 0]) (.block 0 [1,5] (.loop [0,1,5,6] c82L1))) (.seq (.region [.m 43 5, .m 44 1, .o 45 (.i 1 43 44), .o 46 (.l 45), .m 4 46]) .ret))))))
def F82:AFun:=⟨c82,2,47,[(.tmp 4)]⟩
def K82:Nat→List Nat×List Nat
 |0=>([0,1,5,6],[1,5])
 |1=>([],[0,1,5,6])
 |2=>([0,1,5,6,7],[0,1,5,6])
 |3=>([],[0,1,5,6,7])
 |_=>([],[])
theorem F82_ok:kj8 Try.prog K82 noRg Try.f82=some F82:=by kernel_rfl
/- 83: syndrome/golay.choose -/
def c83L0:ACode:=(.seq (.region [.o 9 (.b .lss 8 7)]) (.seq (.cond (.tmp 9) .skip (.exit 0)) (.seq (.block 1 [0,5,7,8] (.seq (.region [.m 10 8, .m 6 10]) (.seq (.region [.m 11 5, .m 12 0, .m 13 6, .o 14 (.b .sub 12 13), .o 15 (.b .mul 11 14), .m 16 6, .o 17 (.c .add 16 1), .o 18 (.b .quo 15 17), .m 5 18]) (.seq (.region [.m 19 5, .o 20 (.c .gtr 19 50000)]) (.cond (.tmp 20) (.seq (.region [.k 4 (-1)]) .ret) .skip))))) (.region [.o 21 (.c .add 8 1), .m 8 21]))))
def c83:ACode:=(.seq (.region [.k 4 0]) (.seq (.region [.k 5 1]) (.seq (.seq (.region [.m 7 1, .k 8 0]) (.block 0 [5] (.loop [0,5,7,8] c83L0))) (.seq (.region [.m 22 5, .m 4 22]) .ret))))
def F83:AFun:=⟨c83,2,23,[(.tmp 4)]⟩
def K83:Nat→List Nat×List Nat
 |0=>([0,5,7,8],[5])
 |1=>([],[0,5,7,8])
 |_=>([],[])
theorem F83_ok:kj8 Try.prog K83 noRg Try.f83=some F83:=by kernel_rfl
/- 84: syndrome/golay.subsets -/
def c84:ACode:=(.seq (.region [.o 2 (.box 3 1 (.tmp 0)), .o 3 (.box 3 1 (.tmp 1)), .o 4 (.mv (.const .nilFunc))]) (.seq (.region [.o 5 (.mkf 139 [(.tmp 3),(.tmp 2)]), .m 4 5]) .ret))
def F84:AFun:=⟨c84,2,6,[(.tmp 4)]⟩
def K84:Nat→List Nat×List Nat
 |_=>([],[])
theorem F84_ok:kj8 Try.prog K84 noRg Try.f84=some F84:=by kernel_rfl
/- 85: syndrome/syndromeref.bits -/
def c85L0:ACode:=(.seq (.seq (.region [.m 5 4, .m 6 0, .o 7 (.n 6), .o 8 (.b .lss 5 7)]) (.cond (.tmp 8) .skip (.exit 0))) (.seq (.block 1 [0,3,4] (.region [.m 11 3, .m 12 0, .m 13 4, .o 14 (.i 1 12 13), .o 15 (.l 14), .o 16 (.bin .shl (.const (.int .u64 1)) (.tmp 15)), .o 17 (.b .or 11 16), .m 3 17])) (.region [.m 9 4, .o 10 (.c .add 9 1), .m 4 10])))
def c85:ACode:=(.seq (.region [.o 2 (.mv (.const (.int .u64 0)))]) (.seq (.region [.o 3 (.mv (.const (.int .u64 0)))]) (.seq (.seq (.region [.k 4 0]) (.block 0 [3] (.loop [0,3,4] c85L0))) (.seq (.region [.m 18 3, .m 2 18]) .ret))))
def F85:AFun:=⟨c85,1,19,[(.tmp 2)]⟩
def K85:Nat→List Nat×List Nat
 |0=>([0,3,4],[3])
 |1=>([],[0,3,4])
 |_=>([],[])
theorem F85_ok:kj8 Try.prog K85 noRg Try.f85=some F85:=by kernel_rfl
/- 86: syndrome/syndromeref.Designed -/
def c86L0:ACode:=(.seq (.seq (.region [.m 21 15, .m 22 1, .o 23 (.n 22), .o 24 (.b .lss 21 23)]) (.cond (.tmp 24) .skip (.exit 0))) (.seq (.block 1 [1,4,5,14,15] (.seq (.region [.m 27 1, .m 28 15, .o 29 (.i 1 27 28), .o 30 (.l 29), .m 31 4, .o 32 (.b .and 30 31), .m 33 4, .o 34 (.b .eql 32 33)]) (.cond (.tmp 34) (.region [.m 35 14, .o 36 (.c .add 35 1), .m 14 36]) .skip))) (.region [.m 25 15, .o 26 (.c .add 25 1), .m 15 26])))
def c86L1:ACode:=(.seq (.seq (.region [.m 46 16, .m 47 0, .m 48 2, .o 49 (.b .sub 47 48), .o 50 (.b .leq 46 49)]) (.cond (.tmp 50) .skip (.exit 2))) (.seq (.block 3 [0,1,2,4,5,16] (.seq (.region [.m 54 0, .m 55 1, .m 56 2, .o 57 (.c .sub 56 1), .m 58 16, .o 59 (.c .add 58 1), .m 60 4, .m 61 16, .o 62 (.bin .shl (.const (.int .u64 1)) (.tmp 61)), .o 63 (.b .or 60 62), .m 64 5, .o 65 (.q 86 [54,55,57,59,63,64]), .m 53 65, .o 66 (.e 0 53), .o 67 (.e 1 53), .m 17 66, .m 18 67]) (.seq (.seq (.region [.m 68 18, .o 69 (.un .not (.tmp 68))]) (.cond (.tmp 69) (.seq (.region [.k 12 0, .o 13 (.mv (.const (.bool false)))]) .ret) .skip)) (.region [.m 70 17, .m 5 70])))) (.region [.m 51 16, .o 52 (.c .add 51 1), .m 16 52])))
def c86:ACode:=(.seq (.region [.k 12 0, .o 13 (.mv (.const (.bool false)))]) (.seq (.seq (.region [.m 19 2, .o 20 (.c .eql 19 0)]) (.cond (.tmp 20) (.seq (.region [.k 14 0]) (.seq (.seq (.region [.k 15 0]) (.block 0 [5,14] (.loop [1,4,5,14,15] c86L0))) (.seq (.region [.m 37 14, .m 38 5, .o 39 (.c .lss 38 0), .m 40 39, .g 41 (.m 14) 40 false, .g 42 (.m 5) 40 false, .g 43 (.b .eql 41 42) 40 false, .o 44 (.pick (.tmp 40) (.const (.bool true)) (.tmp 43)), .m 12 37, .m 13 44]) .ret))) .skip)) (.seq (.seq (.region [.m 45 3, .m 16 45]) (.block 2 [5] (.loop [0,1,2,4,5,16] c86L1))) (.seq (.region [.m 71 5, .m 12 71, .o 13 (.mv (.const (.bool true)))]) .ret))))
def F86:AFun:=⟨c86,6,72,[(.tmp 12),(.tmp 13)]⟩
def K86:Nat→List Nat×List Nat
 |0=>([1,4,5,14,15],[5,14])
 |1=>([],[1,4,5,14,15])
 |2=>([0,1,2,4,5,16],[5])
 |3=>([],[0,1,2,4,5,16])
 |_=>([],[])
theorem F86_ok:kj8 Try.prog K86 noRg Try.f86=some F86:=by kernel_rfl
end Go.Proofs.Ytodbgomfeacdhaa
