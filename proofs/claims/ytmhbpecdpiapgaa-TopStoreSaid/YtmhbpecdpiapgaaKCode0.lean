/-
  Functions of this seat as the small machine's code, written by a program of my own (gen.py); each is checked to be what the model's function is turned into. No condition.
-/
import Derived.Test.YtmhbpecdpiapgaaK1
import Derived.Test.YtmhbpecdpiapgaaProg
set_option linter.unusedVariables false
set_option linter.unusedSimpArgs false
set_option linter.unusedSectionVars false
set_option maxRecDepth 100000
namespace Go.Proofs.Ytmhbpecdpiapgaa
open Go.Am
/- 3: syndrome/syndrometop.TopStore -/
def c3L0:ACode:=(.seq (.seq (.region [.m 91 19, .m 92 3, .o 93 (.b .lss 91 92)]) (.cond (.tmp 93) .skip (.exit 0))) (.seq (.block 1 [2,3,4,13,15,16,17,18,19] (.region [.m 96 18, .m 97 16, .m 98 17, .m 99 19, .o 100 (.i 1 98 99), .o 101 (.l 100), .o 102 (.i 1 97 101), .o 103 (.l 102), .o 104 (.mkSl 22 1 1 [(.tmp 103)]), .o 105 (.app 22 1 24 (.tmp 96) (.tmp 104)), .m 18 105])) (.region [.m 94 19, .o 95 (.c .add 94 1), .m 19 95])))
def c3L1:ACode:=(.seq (.seq (.region [.m 128 23, .m 129 4, .o 130 (.b .lss 128 129)]) (.cond (.tmp 130) .skip (.exit 2))) (.seq (.block 3 [4,13,16,17,21,22,23] (.seq (.region [.m 134 13, .m 135 16, .m 136 17, .m 137 23, .o 138 (.i 1 136 137), .o 139 (.l 138), .o 140 (.i 1 135 139), .o 141 (.l 140), .m 142 21, .o 143 (.q 20 [134,141,142]), .m 133 143, .o 144 (.e 0 133), .o 145 (.e 1 133), .m 24 144, .m 25 145]) (.seq (.seq (.region [.m 146 25, .o 147 (.c .neq 146 0)]) (.cond (.tmp 147) (.seq (.region [.o 12 (.mv (.const (.bool false)))]) .ret) .skip)) (.region [.m 148 22, .m 149 24, .o 150 (.mkSl 3 1 1 [(.tmp 149)]), .o 151 (.app 3 1 8 (.tmp 148) (.tmp 150)), .m 22 151])))) (.region [.m 131 23, .o 132 (.c .add 131 1), .m 23 132])))
def c3:ACode:=(.seq (.region [.o 12 (.mv (.const (.bool false)))]) (.seq (.seq (.region [.m 27 0, .o 28 (.n 27), .m 29 5, .o 30 (.n 29), .o 31 (.b .add 28 30), .o 32 (.c .gtr 31 256)]) (.cond (.tmp 32) (.seq (.region [.o 12 (.mv (.const (.bool true)))]) .ret) .skip)) (.seq (.region [.o 33 (.mkSl 3 1 11 [(.const (.int .i64 3)),(.const (.int .i64 4)),(.const (.int .i64 5)),(.const (.int .i64 7)),(.const (.int .i64 8)),(.const (.int .i64 9)),(.const (.int .i64 11)),(.const (.int .i64 13)),(.const (.int .i64 16)),(.const (.int .i64 25)),(.const (.int .i64 64))]), .m 34 1, .o 35 (.call 12 [(.tmp 34),(.const (.int .i64 11))]), .o 36 (.i 1 33 35), .o 37 (.l 36), .m 1 37]) (.seq (.region [.m 38 2, .m 39 1, .o 40 (.c .sub 39 1), .o 41 (.q 12 [38,40]), .o 42 (.bin .add (.const (.int .i64 2)) (.tmp 41)), .m 2 42]) (.seq (.seq (.region [.m 43 2, .o 44 (.c .gtr 43 12)]) (.cond (.tmp 44) (.region [.k 2 12]) .skip)) (.seq (.region [.m 45 4, .m 46 2, .o 47 (.c .sub 46 1), .o 48 (.q 12 [45,47]), .o 49 (.bin .add (.const (.int .i64 1)) (.tmp 48)), .m 4 49]) (.seq (.region [.m 50 3, .m 51 4, .o 52 (.q 12 [50,51]), .o 53 (.bin .add (.const (.int .i64 1)) (.tmp 52)), .m 3 53]) (.seq (.region [.m 55 1, .m 56 2, .m 57 3, .m 58 4, .o 59 (.q 13 [55,56,57,58]), .m 54 59, .o 60 (.e 0 54), .o 61 (.e 1 54), .m 13 60, .m 14 61]) (.seq (.seq (.region [.m 62 14, .o 63 (.c .neq 62 0), .m 64 63, .g 65 (.m 13) 64 false, .g 66 (.eqn false 1 (.tmp 65)) 64 false, .o 67 (.pick (.tmp 64) (.const (.bool true)) (.tmp 66))]) (.cond (.tmp 67) (.seq (.region [.o 12 (.mv (.const (.bool false)))]) .ret) .skip)) (.seq (.region [.m 68 0, .m 69 1, .m 70 13, .o 71 (.q 15 [70]), .o 72 (.call 14 [(.tmp 68),(.const (.int .i64 0)),(.tmp 69),(.tmp 71)]), .m 15 72]) (.seq (.region [.m 74 13, .m 75 15, .o 76 (.q 16 [74,75]), .m 73 76, .o 77 (.e 0 73), .o 78 (.e 1 73), .m 16 77, .m 14 78]) (.seq (.seq (.region [.m 79 14, .o 80 (.c .neq 79 0), .m 81 80, .g 82 (.m 16) 81 false, .g 83 (.n 82) 81 false, .g 84 (.m 2) 81 false, .g 85 (.b .neq 83 84) 81 false, .o 86 (.pick (.tmp 81) (.const (.bool true)) (.tmp 85))]) (.cond (.tmp 86) (.seq (.region [.o 12 (.mv (.const (.bool false)))]) .ret) .skip)) (.seq (.region [.m 87 5, .m 88 2, .m 89 2, .o 90 (.q 17 [87,88,89]), .m 17 90]) (.seq (.region [.o 18 (.mv (.const (.slice none 0 0)))]) (.seq (.seq (.region [.k 19 0]) (.block 0 [2,3,4,13,15,16,17,18] (.loop [2,3,4,13,15,16,17,18,19] c3L0))) (.seq (.region [.m 107 13, .m 108 17, .m 109 3, .o 110 (.sl 1 (.tmp 108) none (some (.tmp 109))), .m 111 18, .o 112 (.q 18 [107,110,111]), .m 106 112, .o 113 (.e 0 106), .o 114 (.e 1 106), .m 20 113, .m 14 114]) (.seq (.seq (.region [.m 115 14, .o 116 (.c .neq 115 0), .m 117 116, .g 118 (.m 20) 117 false, .g 119 (.m 15) 117 false, .g 120 (.q 19 [118,119]) 117 false, .g 121 (.un .not (.tmp 120)) 117 false, .o 122 (.pick (.tmp 117) (.const (.bool true)) (.tmp 121))]) (.cond (.tmp 122) (.seq (.region [.o 12 (.mv (.const (.bool false)))]) .ret) .skip)) (.seq (.region [.m 123 17, .m 124 2, .o 125 (.c .sub 124 1), .o 126 (.i 1 123 125), .o 127 (.l 126), .m 21 127]) (.seq (.region [.o 22 (.mv (.const (.slice none 0 0)))]) (.seq (.seq (.region [.k 23 0]) (.block 2 [4,13,16,17,21,22] (.loop [4,13,16,17,21,22,23] c3L1))) (.seq (.region [.m 153 13, .m 154 21, .m 155 17, .m 156 4, .o 157 (.sl 1 (.tmp 155) none (some (.tmp 156))), .m 158 22, .o 159 (.q 21 [153,154,157,158]), .m 152 159, .o 160 (.e 0 152), .o 161 (.e 1 152), .m 26 160, .m 14 161]) (.seq (.region [.m 162 14, .o 163 (.c .eql 162 0), .m 164 163, .g 165 (.m 26) 164 true, .g 166 (.m 16) 164 true, .g 167 (.m 21) 164 true, .g 168 (.i 1 166 167) 164 true, .g 169 (.l 168) 164 true, .g 170 (.q 19 [165,169]) 164 true, .o 171 (.pick (.tmp 164) (.tmp 170) (.const (.bool false))), .m 12 171]) .ret))))))))))))))))))))))
def F3:AFun:=⟨c3,6,172,[(.tmp 12)]⟩
def K3:Nat→List Nat×List Nat
 |0=>([2,3,4,13,15,16,17,18,19],[2,3,4,13,15,16,17,18])
 |1=>([],[2,3,4,13,15,16,17,18,19])
 |2=>([4,13,16,17,21,22,23],[4,13,16,17,21,22])
 |3=>([],[4,13,16,17,21,22,23])
 |_=>([],[])
theorem F3_ok:kj8 Try.prog K3 Try.f3=some F3:=by kernel_rfl
/- 12: syndrome/syndromeref.Pick -/
def c12:ACode:=(.seq (.region [.k 4 0]) (.seq (.seq (.region [.m 5 0, .o 6 (.c .lss 5 0)]) (.cond (.tmp 6) (.region [.m 7 0, .o 8 (.c .add 7 1), .o 9 (.un .neg (.tmp 8)), .m 0 9]) .skip)) (.seq (.region [.m 10 0, .m 11 1, .o 12 (.b .rem 10 11), .m 4 12]) .ret)))
def F12:AFun:=⟨c12,2,13,[(.tmp 4)]⟩
def K12:Nat→List Nat×List Nat
 |_=>([],[])
theorem F12_ok:kj8 Try.prog K12 Try.f12=some F12:=by kernel_rfl
/- 13: syndrome/store.New -/
def c13:ACode:=(.seq (.region [.o 8 (.mv (.const (.pointer none))), .k 9 0]) (.seq (.seq (.region [.m 13 0, .o 14 (.q 76 [13]), .m 12 14, .o 15 (.e 0 12), .o 16 (.e 1 12), .m 10 15, .m 11 16]) (.seq (.region [.m 17 11, .o 18 (.c .neq 17 0)]) (.cond (.tmp 18) (.seq (.region [.m 19 11, .o 8 (.mv (.const (.pointer none))), .m 9 19]) .ret) .skip))) (.seq (.seq (.region [.m 20 1, .o 21 (.c .lss 20 2), .m 22 21, .g 23 (.m 1) 22 false, .g 24 (.m 0) 22 false, .g 25 (.b .gtr 23 24) 22 false, .o 26 (.pick (.tmp 22) (.const (.bool true)) (.tmp 25)), .m 27 26, .g 28 (.m 1) 27 false, .g 29 (.c .gtr 28 16) 27 false, .o 30 (.pick (.tmp 27) (.const (.bool true)) (.tmp 29))]) (.cond (.tmp 30) (.seq (.region [.o 8 (.mv (.const (.pointer none))), .k 9 4]) .ret) .skip)) (.seq (.seq (.region [.m 31 2, .o 32 (.c .lss 31 1), .m 33 32, .g 34 (.m 2) 33 false, .g 35 (.m 3) 33 false, .g 36 (.b .gtr 34 35) 33 false, .o 37 (.pick (.tmp 33) (.const (.bool true)) (.tmp 36)), .m 38 37, .g 39 (.m 3) 38 false, .g 40 (.m 1) 38 false, .g 41 (.b .geq 39 40) 38 false, .o 42 (.pick (.tmp 38) (.const (.bool true)) (.tmp 41))]) (.cond (.tmp 42) (.seq (.region [.o 8 (.mv (.const (.pointer none))), .k 9 6]) .ret) .skip)) (.seq (.region [.m 43 0, .m 44 1, .m 45 2, .m 46 3, .o 47 (.build [(.int .i64 0),(.int .i64 0),(.int .i64 0),(.int .i64 0)] [(0,1),(1,1),(2,1),(3,1)] [(0,(.tmp 43)),(1,(.tmp 44)),(2,(.tmp 45)),(3,(.tmp 46))]), .o 48 (.box 108 4 (.tmp 47)), .m 8 48, .k 9 0]) .ret)))))
def F13:AFun:=⟨c13,4,49,[(.tmp 8),(.tmp 9)]⟩
def K13:Nat→List Nat×List Nat
 |_=>([],[])
theorem F13_ok:kj8 Try.prog K13 Try.f13=some F13:=by kernel_rfl
/- 14: syndrome/syndromeref.Numbers -/
def c14L0:ACode:=(.seq (.seq (.region [.m 11 10, .m 12 3, .o 13 (.b .lss 11 12)]) (.cond (.tmp 13) .skip (.exit 0))) (.seq (.block 1 [0,1,2,3,9,10] (.region [.m 16 9, .m 17 0, .m 18 1, .m 19 10, .o 20 (.b .add 18 19), .o 21 (.q 47 [17,20]), .m 22 2, .o 23 (.q 12 [21,22]), .o 24 (.mkSl 3 1 1 [(.tmp 23)]), .o 25 (.app 3 1 8 (.tmp 16) (.tmp 24)), .m 9 25])) (.region [.m 14 10, .o 15 (.c .add 14 1), .m 10 15])))
def c14:ACode:=(.seq (.region [.o 8 (.mv (.const (.slice none 0 0)))]) (.seq (.region [.o 9 (.mv (.const (.slice none 0 0)))]) (.seq (.seq (.region [.k 10 0]) (.block 0 [9] (.loop [0,1,2,3,9,10] c14L0))) (.seq (.region [.m 26 9, .m 8 26]) .ret))))
def F14:AFun:=⟨c14,4,27,[(.tmp 8)]⟩
def K14:Nat→List Nat×List Nat
 |0=>([0,1,2,3,9,10],[9])
 |1=>([],[0,1,2,3,9,10])
 |_=>([],[])
theorem F14_ok:kj8 Try.prog K14 Try.f14=some F14:=by kernel_rfl
/- 15: (*syndrome/store.Plan).Size -/
def c15:ACode:=(.seq (.region [.k 2 0]) (.seq (.region [.m 3 0, .o 4 (.nilck (.tmp 3)), .o 5 (.f 2 4), .o 6 (.l 5), .m 7 0, .o 8 (.nilck (.tmp 7)), .o 9 (.f 2 8), .o 10 (.l 9), .o 11 (.c .add 10 1), .o 12 (.b .mul 6 11), .o 13 (.c .quo 12 2), .m 14 0, .o 15 (.nilck (.tmp 14)), .o 16 (.f 2 15), .o 17 (.l 16), .m 18 0, .o 19 (.nilck (.tmp 18)), .o 20 (.f 3 19), .o 21 (.l 20), .m 22 0, .o 23 (.nilck (.tmp 22)), .o 24 (.f 2 23), .o 25 (.l 24), .o 26 (.b .sub 21 25), .o 27 (.b .mul 17 26), .o 28 (.b .add 13 27), .m 2 28]) .ret))
def F15:AFun:=⟨c15,1,29,[(.tmp 2)]⟩
def K15:Nat→List Nat×List Nat
 |_=>([],[])
theorem F15_ok:kj8 Try.prog K15 Try.f15=some F15:=by kernel_rfl
/- 16: (*syndrome/store.Plan).Write -/
def c16L0:ACode:=(.seq (.region [.o 24 (.b .lss 23 22)]) (.seq (.cond (.tmp 24) .skip (.exit 0)) (.seq (.block 1 [0,1,6,22,23] (.seq (.region [.m 25 23, .m 7 25]) (.region [.m 26 6, .m 27 0, .m 28 7, .m 29 0, .o 30 (.nilck (.tmp 29)), .o 31 (.f 3 30), .o 32 (.l 31), .o 33 (.q 78 [27,28,32]), .o 34 (.mkSl 22 1 1 [(.tmp 33)]), .o 35 (.app 22 1 24 (.tmp 26) (.tmp 34)), .m 6 35]))) (.region [.o 36 (.c .add 23 1), .m 23 36]))))
def c16:ACode:=(.seq (.region [.o 4 (.mv (.const (.slice none 0 0))), .k 5 0]) (.seq (.seq (.region [.m 10 1, .o 11 (.n 10), .m 12 0, .o 13 (.q 15 [12]), .o 14 (.b .neq 11 13)]) (.cond (.tmp 14) (.seq (.region [.o 4 (.mv (.const (.slice none 0 0))), .k 5 6]) .ret) .skip)) (.seq (.seq (.region [.m 15 0, .m 16 1, .o 17 (.q 77 [15,16]), .o 18 (.un .not (.tmp 17))]) (.cond (.tmp 18) (.seq (.region [.o 4 (.mv (.const (.slice none 0 0))), .k 5 2]) .ret) .skip)) (.seq (.region [.o 6 (.mv (.const (.slice none 0 0)))]) (.seq (.seq (.region [.m 19 0, .o 20 (.nilck (.tmp 19)), .o 21 (.f 1 20), .o 22 (.l 21), .k 23 0]) (.block 0 [0,1,6] (.loop [0,1,6,22,23] c16L0))) (.seq (.region [.m 38 0, .o 39 (.nilck (.tmp 38)), .o 40 (.f 0 39), .o 41 (.l 40), .m 42 6, .m 43 0, .m 44 1,⟨(some 45),(.call 80 [(.tmp 43),(.tmp 44)]),none,true⟩, .o 46 (.q 79 [41,42,45]), .m 37 46, .o 47 (.e 0 37), .o 48 (.e 1 37), .m 8 47, .m 9 48]) (.seq (.region [.m 49 8, .m 4 49, .k 5 0]) .ret)))))))
def F16:AFun:=⟨c16,2,50,[(.tmp 4),(.tmp 5)]⟩
def K16:Nat→List Nat×List Nat
 |0=>([0,1,6,22,23],[0,1,6])
 |1=>([],[0,1,6,22,23])
 |_=>([],[])
theorem F16_ok:kj8 Try.prog K16 Try.f16=some F16:=by kernel_rfl
/- 17: syndrome/syndromeref.PlacesOf -/
def c17L0:ACode:=(.seq (.seq (.region [.m 14 8, .m 15 1, .o 16 (.b .lss 14 15)]) (.cond (.tmp 16) .skip (.exit 0))) (.seq (.block 1 [0,1,2,7,8] (.region [.m 19 7, .m 20 8, .m 21 8, .o 22 (.i 1 19 20), .n (.st 1 (.tmp 22) (.tmp 21))])) (.region [.m 17 8, .o 18 (.c .add 17 1), .m 8 18])))
def c17L1:ACode:=(.seq (.seq (.region [.m 23 9, .m 24 2, .o 25 (.b .lss 23 24)]) (.cond (.tmp 25) .skip (.exit 2))) (.seq (.block 3 [0,1,2,7,9] (.seq (.region [.m 28 9, .m 29 0, .m 30 9, .o 31 (.q 47 [29,30]), .m 32 1, .m 33 9, .o 34 (.b .sub 32 33), .o 35 (.q 12 [31,34]), .o 36 (.b .add 28 35), .m 10 36]) (.seq (.region [.m 37 7, .m 38 9, .o 39 (.i 1 37 38), .o 40 (.l 39), .m 11 40]) (.seq (.region [.m 41 7, .m 42 9, .m 43 7, .m 44 10, .o 45 (.i 1 43 44), .o 46 (.l 45), .o 47 (.i 1 41 42), .n (.st 1 (.tmp 47) (.tmp 46))]) (.region [.m 48 7, .m 49 10, .m 50 11, .o 51 (.i 1 48 49), .n (.st 1 (.tmp 51) (.tmp 50))]))))) (.region [.m 26 9, .o 27 (.c .add 26 1), .m 9 27])))
def c17:ACode:=(.seq (.region [.o 6 (.mv (.const (.slice none 0 0)))]) (.seq (.region [.m 12 1, .o 13 (.mks 3 1 8 [(.int .i64 0)] (.tmp 12) (.tmp 12)), .m 7 13]) (.seq (.seq (.region [.k 8 0]) (.block 0 [0,1,2,7] (.loop [0,1,2,7,8] c17L0))) (.seq (.seq (.region [.k 9 0]) (.block 2 [2,7] (.loop [0,1,2,7,9] c17L1))) (.seq (.region [.m 52 7, .m 53 2, .o 54 (.sl 1 (.tmp 52) none (some (.tmp 53))), .m 6 54]) .ret)))))
def F17:AFun:=⟨c17,3,55,[(.tmp 6)]⟩
def K17:Nat→List Nat×List Nat
 |0=>([0,1,2,7,8],[0,1,2,7])
 |1=>([],[0,1,2,7,8])
 |2=>([0,1,2,7,9],[2,7])
 |3=>([],[0,1,2,7,9])
 |_=>([],[])
theorem F17_ok:kj8 Try.prog K17 Try.f17=some F17:=by kernel_rfl
/- 18: (*syndrome/store.Plan).Read -/
def c18L0:ACode:=(.seq (.region [.o 44 (.b .lss 43 42)]) (.seq (.cond (.tmp 44) .skip (.exit 0)) (.seq (.block 1 [0,1,2,41,42,43] (.seq (.region [.o 45 (.i 1 41 43), .o 46 (.l 45), .m 10 46]) (.seq (.seq (.region [.m 47 10, .o 48 (.n 47), .m 49 0, .o 50 (.nilck (.tmp 49)), .o 51 (.f 3 50), .o 52 (.l 51), .o 53 (.b .neq 48 52)]) (.cond (.tmp 53) (.seq (.region [.o 6 (.mv (.const (.slice none 0 0))), .k 7 6]) .ret) .skip)) (.seq (.region [.m 54 0, .m 55 10, .o 56 (.q 77 [54,55]), .o 57 (.un .not (.tmp 56))]) (.cond (.tmp 57) (.seq (.region [.o 6 (.mv (.const (.slice none 0 0))), .k 7 2]) .ret) .skip))))) (.region [.o 58 (.c .add 43 1), .m 43 58]))))
def c18L1:ACode:=(.seq (.region [.o 97 (.b .lss 96 95)]) (.seq (.cond (.tmp 97) .skip (.exit 6)) (.seq (.block 7 [0,2,11,13,14,17,18,19,20,67,68,69,84,85,86,94,95,96] (.seq (.region [.m 98 96, .o 99 (.i 1 94 96), .o 100 (.l 99), .m 21 98, .m 22 100]) (.seq (.region [.m 101 0, .m 102 21, .m 103 18, .o 104 (.q 82 [101,102,103]), .m 23 104]) (.seq (.region [.m 105 23, .o 106 (.c .geq 105 0)]) (.cond (.tmp 106) (.region [.m 107 20, .m 108 23, .m 109 11, .m 110 20, .m 111 23, .o 112 (.i 1 110 111), .o 113 (.l 112), .m 114 22, .o 115 (.q 83 [109,113,114]), .o 116 (.i 1 107 108), .n (.st 1 (.tmp 116) (.tmp 115))]) .skip))))) (.region [.o 117 (.c .add 96 1), .m 96 117]))))
def c18L2:ACode:=(.seq (.region [.o 87 (.b .lss 86 85)]) (.seq (.cond (.tmp 87) .skip (.exit 4)) (.seq (.block 5 [0,2,11,13,14,17,67,68,69,84,85,86] (.seq (.region [.m 88 86, .o 89 (.i 1 84 86), .o 90 (.l 89), .m 18 88, .m 19 90]) (.seq (.region [.m 91 0, .o 92 (.q 15 [91]), .o 93 (.mks 3 1 8 [(.int .i64 0)] (.tmp 92) (.tmp 92)), .m 20 93]) (.seq (.seq (.region [.m 94 17, .o 95 (.n 94), .k 96 0]) (.block 6 [0,2,11,13,14,17,19,20,67,68,69,84,85,86] (.loop [0,2,11,13,14,17,18,19,20,67,68,69,84,85,86,94,95,96] c18L1))) (.region [.m 118 13, .m 119 20, .o 120 (.mkSl 22 1 1 [(.tmp 119)]), .o 121 (.app 22 1 24 (.tmp 118) (.tmp 120)), .m 122 14, .m 123 19, .o 124 (.mkSl 3 1 1 [(.tmp 123)]), .o 125 (.app 3 1 8 (.tmp 122) (.tmp 124)), .m 13 121, .m 14 125]))))) (.region [.o 126 (.c .add 86 1), .m 86 126]))))
def c18L3:ACode:=(.seq (.region [.o 70 (.b .lss 69 68)]) (.seq (.cond (.tmp 70) .skip (.exit 2)) (.seq (.block 3 [0,2,11,13,14,67,68,69] (.seq (.region [.m 71 69, .o 72 (.i 1 67 69), .o 73 (.l 72), .m 15 71, .m 16 73]) (.seq (.region [.m 74 0, .m 75 16, .m 76 0, .o 77 (.nilck (.tmp 76)), .o 78 (.f 3 77), .o 79 (.l 78), .o 80 (.q 78 [74,75,79]), .m 17 80]) (.seq (.region [.m 81 2, .m 82 15, .o 83 (.i 1 81 82), .o 84 (.l 83), .o 85 (.n 84), .k 86 0]) (.block 4 [0,2,11,13,14,67,68,69] (.loop [0,2,11,13,14,17,67,68,69,84,85,86] c18L2)))))) (.region [.o 127 (.c .add 69 1), .m 69 127]))))
def c18:ACode:=(.seq (.region [.o 6 (.mv (.const (.slice none 0 0))), .k 7 0]) (.seq (.seq (.region [.m 26 0, .m 27 1, .m 28 0, .o 29 (.nilck (.tmp 28)), .o 30 (.f 2 29), .o 31 (.l 30), .o 32 (.q 81 [26,27,31]), .m 8 32]) (.seq (.region [.m 33 8, .o 34 (.c .neq 33 0)]) (.cond (.tmp 34) (.seq (.region [.m 35 8, .o 6 (.mv (.const (.slice none 0 0))), .m 7 35]) .ret) .skip))) (.seq (.seq (.region [.m 36 2, .o 37 (.n 36), .m 38 1, .o 39 (.n 38), .o 40 (.b .neq 37 39)]) (.cond (.tmp 40) (.seq (.region [.o 6 (.mv (.const (.slice none 0 0))), .k 7 6]) .ret) .skip)) (.seq (.seq (.region [.m 41 2, .o 42 (.n 41), .k 43 0]) (.block 0 [0,1,2] (.loop [0,1,2,41,42,43] c18L0))) (.seq (.region [.m 60 0, .o 61 (.nilck (.tmp 60)), .o 62 (.f 0 61), .o 63 (.l 62), .o 64 (.q 76 [63]), .m 59 64, .o 65 (.e 0 59), .o 66 (.e 1 59), .m 11 65, .m 12 66]) (.seq (.region [.o 13 (.mv (.const (.slice none 0 0)))]) (.seq (.region [.o 14 (.mv (.const (.slice none 0 0)))]) (.seq (.seq (.region [.m 67 1, .o 68 (.n 67), .k 69 0]) (.block 2 [0,11,13,14] (.loop [0,2,11,13,14,67,68,69] c18L3))) (.seq (.region [.m 129 11, .m 130 13, .m 131 14, .m 132 0, .o 133 (.q 15 [132]), .o 134 (.q 84 [129,130,131,133]), .m 128 134, .o 135 (.e 0 128), .o 136 (.e 1 128), .m 24 135, .m 25 136]) (.seq (.seq (.region [.m 137 25, .o 138 (.un .not (.tmp 137))]) (.cond (.tmp 138) (.seq (.region [.o 6 (.mv (.const (.slice none 0 0))), .k 7 9]) .ret) .skip)) (.seq (.region [.m 139 24, .m 6 139, .k 7 0]) .ret)))))))))))
def F18:AFun:=⟨c18,3,140,[(.tmp 6),(.tmp 7)]⟩
def K18:Nat→List Nat×List Nat
 |0=>([0,1,2,41,42,43],[0,1,2])
 |1=>([],[0,1,2,41,42,43])
 |2=>([0,2,11,13,14,67,68,69],[0,11,13,14])
 |3=>([],[0,2,11,13,14,67,68,69])
 |4=>([0,2,11,13,14,17,67,68,69,84,85,86],[0,2,11,13,14,67,68,69])
 |5=>([],[0,2,11,13,14,17,67,68,69,84,85,86])
 |6=>([0,2,11,13,14,17,18,19,20,67,68,69,84,85,86,94,95,96],[0,2,11,13,14,17,19,20,67,68,69,84,85,86])
 |7=>([],[0,2,11,13,14,17,18,19,20,67,68,69,84,85,86,94,95,96])
 |_=>([],[])
theorem F18_ok:kj8 Try.prog K18 Try.f18=some F18:=by kernel_rfl
/- 19: syndrome/syndromeref.Same -/
def c19L0:ACode:=(.seq (.seq (.region [.m 11 5, .m 12 0, .o 13 (.n 12), .o 14 (.b .lss 11 13)]) (.cond (.tmp 14) .skip (.exit 0))) (.seq (.block 1 [0,1,5] (.seq (.region [.m 17 0, .m 18 5, .o 19 (.i 1 17 18), .o 20 (.l 19), .m 21 1, .m 22 5, .o 23 (.i 1 21 22), .o 24 (.l 23), .o 25 (.b .neq 20 24)]) (.cond (.tmp 25) (.seq (.region [.o 4 (.mv (.const (.bool false)))]) .ret) .skip))) (.region [.m 15 5, .o 16 (.c .add 15 1), .m 5 16])))
def c19:ACode:=(.seq (.region [.o 4 (.mv (.const (.bool false)))]) (.seq (.seq (.region [.m 6 0, .o 7 (.n 6), .m 8 1, .o 9 (.n 8), .o 10 (.b .neq 7 9)]) (.cond (.tmp 10) (.seq (.region [.o 4 (.mv (.const (.bool false)))]) .ret) .skip)) (.seq (.seq (.region [.k 5 0]) (.block 0 [] (.loop [0,1,5] c19L0))) (.seq (.region [.o 4 (.mv (.const (.bool true)))]) .ret))))
def F19:AFun:=⟨c19,2,26,[(.tmp 4)]⟩
def K19:Nat→List Nat×List Nat
 |0=>([0,1,5],[])
 |1=>([],[0,1,5])
 |_=>([],[])
theorem F19_ok:kj8 Try.prog K19 Try.f19=some F19:=by kernel_rfl
/- 20: (*syndrome/store.Plan).Help -/
def c20L0:ACode:=(.seq (.region [.o 51 (.b .lss 50 49)]) (.seq (.cond (.tmp 51) .skip (.exit 0)) (.seq (.block 1 [1,8,10,48,49,50] (.seq (.region [.m 52 50, .o 53 (.i 1 48 50), .o 54 (.l 53), .m 11 52, .m 12 54]) (.region [.m 55 8, .m 56 10, .m 57 8, .m 58 1, .m 59 11, .o 60 (.i 1 58 59), .o 61 (.l 60), .m 62 12, .o 63 (.q 85 [57,61,62]), .o 64 (.q 83 [55,56,63]), .m 10 64]))) (.region [.o 65 (.c .add 50 1), .m 50 65]))))
def c20:ACode:=(.seq (.region [.k 6 0, .k 7 0]) (.seq (.seq (.region [.m 13 1, .o 14 (.n 13), .m 15 0, .o 16 (.nilck (.tmp 15)), .o 17 (.f 3 16), .o 18 (.l 17), .o 19 (.b .neq 14 18)]) (.cond (.tmp 19) (.seq (.region [.k 6 0, .k 7 6]) .ret) .skip)) (.seq (.seq (.region [.m 20 0, .m 21 1, .o 22 (.q 77 [20,21]), .o 23 (.un .not (.tmp 22))]) (.cond (.tmp 23) (.seq (.region [.k 6 0, .k 7 2]) .ret) .skip)) (.seq (.seq (.region [.m 24 2, .o 25 (.c .lss 24 0), .m 26 25, .g 27 (.m 2) 26 false, .g 28 (.m 0) 26 false, .g 29 (.nilck (.tmp 28)) 26 false, .g 30 (.f 1 29) 26 false, .g 31 (.l 30) 26 false, .g 32 (.b .geq 27 31) 26 false, .o 33 (.pick (.tmp 26) (.const (.bool true)) (.tmp 32))]) (.cond (.tmp 33) (.seq (.region [.k 6 0, .k 7 10]) .ret) .skip)) (.seq (.region [.m 35 0, .o 36 (.nilck (.tmp 35)), .o 37 (.f 0 36), .o 38 (.l 37), .o 39 (.q 76 [38]), .m 34 39, .o 40 (.e 0 34), .o 41 (.e 1 34), .m 8 40, .m 9 41]) (.seq (.region [.k 10 0]) (.seq (.seq (.region [.m 42 0, .m 43 2, .m 44 0, .o 45 (.nilck (.tmp 44)), .o 46 (.f 3 45), .o 47 (.l 46), .o 48 (.q 78 [42,43,47]), .o 49 (.n 48), .k 50 0]) (.block 0 [10] (.loop [1,8,10,48,49,50] c20L0))) (.seq (.region [.m 66 10, .m 6 66, .k 7 0]) .ret))))))))
def F20:AFun:=⟨c20,3,67,[(.tmp 6),(.tmp 7)]⟩
def K20:Nat→List Nat×List Nat
 |0=>([1,8,10,48,49,50],[10])
 |1=>([],[1,8,10,48,49,50])
 |_=>([],[])
theorem F20_ok:kj8 Try.prog K20 Try.f20=some F20:=by kernel_rfl
/- 21: (*syndrome/store.Plan).Mend -/
def c21L0:ACode:=(.seq (.region [.o 52 (.b .lss 51 50)]) (.seq (.cond (.tmp 52) .skip (.exit 0)) (.seq (.block 1 [0,3,11,49,50,51] (.seq (.region [.o 53 (.i 1 49 51), .o 54 (.l 53), .m 13 54]) (.region [.m 55 11, .m 56 0, .m 57 13, .m 58 0, .o 59 (.nilck (.tmp 58)), .o 60 (.f 3 59), .o 61 (.l 60), .o 62 (.q 78 [56,57,61]), .o 63 (.mkSl 22 1 1 [(.tmp 62)]), .o 64 (.app 22 1 24 (.tmp 55) (.tmp 63)), .m 11 64]))) (.region [.o 65 (.c .add 51 1), .m 51 65]))))
def c21:ACode:=(.seq (.region [.o 8 (.mv (.const (.slice none 0 0))), .k 9 0]) (.seq (.seq (.region [.m 17 1, .o 18 (.c .lss 17 0), .m 19 18, .g 20 (.m 1) 19 false, .g 21 (.m 0) 19 false, .g 22 (.nilck (.tmp 21)) 19 false, .g 23 (.f 1 22) 19 false, .g 24 (.l 23) 19 false, .g 25 (.b .geq 20 24) 19 false, .o 26 (.pick (.tmp 19) (.const (.bool true)) (.tmp 25))]) (.cond (.tmp 26) (.seq (.region [.o 8 (.mv (.const (.slice none 0 0))), .k 9 10]) .ret) .skip)) (.seq (.seq (.region [.m 27 0, .m 28 2, .m 29 0, .o 30 (.nilck (.tmp 29)), .o 31 (.f 3 30), .o 32 (.l 31), .o 33 (.q 81 [27,28,32]), .m 10 33]) (.seq (.region [.m 34 10, .o 35 (.c .neq 34 0)]) (.cond (.tmp 35) (.seq (.region [.m 36 10, .o 8 (.mv (.const (.slice none 0 0))), .m 9 36]) .ret) .skip))) (.seq (.seq (.region [.m 37 2, .m 38 1, .o 39 (.q 86 [37,38])]) (.cond (.tmp 39) (.seq (.region [.o 8 (.mv (.const (.slice none 0 0))), .k 9 7]) .ret) .skip)) (.seq (.seq (.region [.m 40 3, .o 41 (.n 40), .m 42 2, .o 43 (.n 42), .o 44 (.b .neq 41 43)]) (.cond (.tmp 44) (.seq (.region [.o 8 (.mv (.const (.slice none 0 0))), .k 9 6]) .ret) .skip)) (.seq (.seq (.region [.m 45 0, .m 46 3, .o 47 (.q 77 [45,46]), .o 48 (.un .not (.tmp 47))]) (.cond (.tmp 48) (.seq (.region [.o 8 (.mv (.const (.slice none 0 0))), .k 9 2]) .ret) .skip)) (.seq (.region [.o 11 (.mv (.const (.slice none 0 0)))]) (.seq (.seq (.region [.m 49 2, .o 50 (.n 49), .k 51 0]) (.block 0 [0,3,11] (.loop [0,3,11,49,50,51] c21L0))) (.seq (.region [.m 67 0, .o 68 (.nilck (.tmp 67)), .o 69 (.f 0 68), .o 70 (.l 69), .m 71 11, .m 72 3, .o 73 (.q 87 [70,71,72]), .m 66 73, .o 74 (.e 0 66), .o 75 (.e 1 66), .o 76 (.e 2 66), .m 14 74, .m 15 75, .m 16 76]) (.seq (.region [.m 77 14, .m 8 77, .k 9 0]) .ret))))))))))
def F21:AFun:=⟨c21,4,78,[(.tmp 8),(.tmp 9)]⟩
def K21:Nat→List Nat×List Nat
 |0=>([0,3,11,49,50,51],[0,3,11])
 |1=>([],[0,3,11,49,50,51])
 |_=>([],[])
theorem F21_ok:kj8 Try.prog K21 Try.f21=some F21:=by kernel_rfl
/- 47: syndrome/syndromeref.Raw -/
def c47:ACode:=(.seq (.region [.k 4 0]) (.seq (.seq (.region [.m 5 0, .o 6 (.n 5), .o 7 (.c .eql 6 0)]) (.cond (.tmp 7) (.seq (.region [.m 8 1, .m 4 8]) .ret) .skip)) (.seq (.region [.m 9 0, .m 10 1, .m 11 0, .o 12 (.n 11), .o 13 (.b .rem 10 12), .o 14 (.i 1 9 13), .o 15 (.l 14), .m 16 1, .m 17 0, .o 18 (.n 17), .o 19 (.b .quo 16 18), .o 20 (.c .mul 19 7919), .o 21 (.b .add 15 20), .m 4 21]) .ret)))
def F47:AFun:=⟨c47,2,22,[(.tmp 4)]⟩
def K47:Nat→List Nat×List Nat
 |_=>([],[])
theorem F47_ok:kj8 Try.prog K47 Try.f47=some F47:=by kernel_rfl
/- 76: syndrome/field.New -/
def zk5:List Value:=[(.int .u32 0),(.int .i32 0),(.int .u32 0),(.int .u32 0),(.int .i32 0),(.int .u32 0),(.int .u32 0),(.int .i32 0),(.int .u32 0),(.int .u32 0),(.int .i32 0),(.int .u32 0),(.int .u32 0),(.int .i32 0),(.int .u32 0),(.int .u32 0),(.int .i32 0),(.int .u32 0),(.int .u32 0),(.int .i32 0),(.int .u32 0),(.int .u32 0),(.int .i32 0),(.int .u32 0),(.int .u32 0),(.int .i32 0),(.int .u32 0),(.int .u32 0),(.int .i32 0),(.int .u32 0),(.int .u32 0),(.int .i32 0),(.int .u32 0),(.int .u32 0),(.int .i32 0),(.int .u32 0),(.int .u32 0),(.int .i32 0),(.int .u32 0),(.int .u32 0),(.int .i32 0),(.int .u32 0),(.int .u32 0),(.int .i32 0),(.int .u32 0),(.int .u32 0),(.int .i32 0),(.int .u32 0),(.int .u32 0),(.int .i32 0),(.int .u32 0),(.int .u32 0),(.int .i32 0),(.int .u32 0),(.int .u32 0),(.int .i32 0),(.int .u32 0),(.int .u32 0),(.int .i32 0),(.int .u32 0),(.int .u32 0),(.int .i32 0),(.int .u32 0),(.int .u32 0),(.int .i32 0),(.int .u32 0),(.int .u32 0),(.int .i32 0),(.int .u32 0),(.int .u32 0),(.int .i32 0),(.int .u32 0),(.int .u32 0),(.int .i32 0),(.int .u32 0),(.int .u32 0),(.int .i32 0),(.int .u32 0),(.int .u32 0),(.int .i32 0),(.int .u32 0),(.int .u32 0),(.int .i32 0),(.int .u32 0),(.int .u32 0),(.int .i32 0),(.int .u32 0),(.int .u32 0),(.int .i32 0),(.int .u32 0),(.int .u32 0),(.int .i32 0),(.int .u32 0),(.int .u32 0),(.int .i32 0),(.int .u32 0),(.int .u32 0),(.int .i32 0),(.int .u32 0),(.int .u32 0),(.int .i32 0),(.int .u32 0),(.int .u32 0),(.int .i32 0),(.int .u32 0),(.int .u32 0),(.int .i32 0),(.int .u32 0),(.int .u32 0),(.int .i32 0),(.int .u32 0),(.int .u32 0),(.int .i32 0),(.int .u32 0),(.int .u32 0),(.int .i32 0),(.int .u32 0),(.int .u32 0),(.int .i32 0),(.int .u32 0),(.int .u32 0),(.int .i32 0),(.int .u32 0),(.int .u32 0),(.int .i32 0),(.int .u32 0),(.int .u32 0),(.int .i32 0),(.int .u32 0),(.int .u32 0),(.int .i32 0),(.int .u32 0),(.int .u32 0),(.int .i32 0),(.int .u32 0),(.int .u32 0),(.int .i32 0),(.int .u32 0),(.int .u32 0),(.int .i32 0),(.int .u32 0),(.int .u32 0),(.int .i32 0),(.int .u32 0),(.int .u32 0),(.int .i32 0),(.int .u32 0),(.int .u32 0),(.int .i32 0),(.int .u32 0),(.int .u32 0),(.int .i32 0),(.int .u32 0),(.int .u32 0),(.int .i32 0),(.int .u32 0),(.int .u32 0),(.int .i32 0),(.int .u32 0),(.int .u32 0),(.int .i32 0),(.int .u32 0),(.int .u32 0),(.int .i32 0),(.int .u32 0),(.int .u32 0),(.int .i32 0),(.int .u32 0),(.int .u32 0),(.int .i32 0),(.int .u32 0),(.int .u32 0),(.int .i32 0),(.int .u32 0),(.int .u32 0),(.int .i32 0),(.int .u32 0),(.int .u32 0),(.int .i32 0),(.int .u32 0),(.int .u32 0),(.int .i32 0),(.int .u32 0),(.int .u32 0),(.int .i32 0),(.int .u32 0),(.int .u32 0),(.int .i32 0),(.int .u32 0),(.int .u32 0),(.int .i32 0),(.int .u32 0),(.int .u32 0),(.int .i32 0),(.int .u32 0),(.pointer none),(.pointer none),(.pointer none),(.pointer none),(.pointer none),(.pointer none),(.pointer none),(.pointer none),(.pointer none),(.pointer none),(.pointer none),(.pointer none),(.pointer none),(.pointer none),(.pointer none),(.pointer none),(.pointer none),(.pointer none),(.pointer none),(.pointer none),(.pointer none),(.pointer none),(.pointer none),(.pointer none),(.pointer none),(.pointer none),(.pointer none),(.pointer none),(.pointer none),(.pointer none),(.pointer none),(.pointer none),(.pointer none),(.pointer none),(.pointer none),(.pointer none),(.pointer none),(.pointer none),(.pointer none),(.pointer none),(.pointer none),(.pointer none),(.pointer none),(.pointer none),(.pointer none),(.pointer none),(.pointer none),(.pointer none),(.pointer none),(.pointer none),(.pointer none),(.pointer none),(.pointer none),(.pointer none),(.pointer none),(.pointer none),(.pointer none),(.pointer none),(.pointer none),(.pointer none),(.pointer none),(.pointer none),(.pointer none),(.pointer none),(.pointer none)]
def c76:ACode:=(.seq (.region [.o 1 (.box 3 1 (.tmp 0)), .o 2 (.mv (.const (.pointer none))), .k 3 0]) (.seq (.seq (.region [.o 5 (.l 1), .o 6 (.c .lss 5 2), .m 7 6, .g 8 (.l 1) 7 false, .g 9 (.c .gtr 8 64) 7 false, .o 10 (.pick (.tmp 7) (.const (.bool true)) (.tmp 9))]) (.cond (.tmp 10) (.seq (.region [.o 2 (.mv (.const (.pointer none))), .k 3 1]) .ret) .skip)) (.seq (.region [.o 4 (.alloc 169 zk5)]) (.seq (.region [.o 11 (.l 1), .o 12 (.f 0 4), .o 13 (.iaddrA 65 3 (.tmp 12) (.tmp 11)), .o 14 (.mkf 159 [(.tmp 1),(.tmp 4)]), .o 15 (.q 158 [13,14])]) (.seq (.seq (.region [.o 16 (.l 1), .o 17 (.f 195 4), .o 18 (.iaddrA 65 1 (.tmp 17) (.tmp 16)), .o 19 (.l 18), .o 20 (.eqn false 1 (.tmp 19))]) (.cond (.tmp 20) (.seq (.region [.o 2 (.mv (.const (.pointer none))), .k 3 1]) .ret) .skip)) (.seq (.region [.o 21 (.l 1), .o 22 (.f 195 4), .o 23 (.iaddrA 65 1 (.tmp 22) (.tmp 21)), .o 24 (.l 23), .m 2 24, .k 3 0]) .ret))))))
def F76:AFun:=⟨c76,1,25,[(.tmp 2),(.tmp 3)]⟩
def K76:Nat→List Nat×List Nat
 |_=>([],[])
theorem F76_ok:kj8 Try.prog K76 Try.f76=some F76:=by kernel_rfl
/- 77: (*syndrome/store.Plan).numbers -/
def c77:ACode:=(.seq (.region [.o 4 (.mv (.const (.bool false)))]) (.seq (.region [.m 8 0, .o 9 (.nilck (.tmp 8)), .o 10 (.f 0 9), .o 11 (.l 10), .o 12 (.q 76 [11]), .m 7 12, .o 13 (.e 0 7), .o 14 (.e 1 7), .o 5 (.alloc 104 [(.pointer none)]), .n (.st 1 (.tmp 5) (.tmp 13)), .m 6 14]) (.seq (.region [.m 15 1, .o 16 (.mkf 161 [(.tmp 5)]), .o 17 (.q 113 [15,16]), .o 18 (.un .not (.tmp 17)), .m 4 18]) .ret)))
def F77:AFun:=⟨c77,2,19,[(.tmp 4)]⟩
def K77:Nat→List Nat×List Nat
 |_=>([],[])
theorem F77_ok:kj8 Try.prog K77 Try.f77=some F77:=by kernel_rfl
/- 78: (*syndrome/store.Plan).powers -/
def c78L0:ACode:=(.seq (.region [.o 21 (.b .lss 20 19)]) (.seq (.cond (.tmp 21) .skip (.exit 0)) (.seq (.block 1 [1,7,9,19,20] (.seq (.region [.m 22 20, .m 10 22]) (.region [.m 23 9, .m 24 7, .m 25 1, .m 26 10, .o 27 (.q 129 [24,25,26]), .o 28 (.mkSl 3 1 1 [(.tmp 27)]), .o 29 (.app 3 1 8 (.tmp 23) (.tmp 28)), .m 9 29]))) (.region [.o 30 (.c .add 20 1), .m 20 30]))))
def c78:ACode:=(.seq (.region [.o 6 (.mv (.const (.slice none 0 0)))]) (.seq (.region [.m 12 0, .o 13 (.nilck (.tmp 12)), .o 14 (.f 0 13), .o 15 (.l 14), .o 16 (.q 76 [15]), .m 11 16, .o 17 (.e 0 11), .o 18 (.e 1 11), .m 7 17, .m 8 18]) (.seq (.region [.o 9 (.mv (.const (.slice none 0 0)))]) (.seq (.seq (.region [.m 19 2, .k 20 0]) (.block 0 [9] (.loop [1,7,9,19,20] c78L0))) (.seq (.region [.m 31 9, .m 6 31]) .ret)))))
def F78:AFun:=⟨c78,3,32,[(.tmp 6)]⟩
def K78:Nat→List Nat×List Nat
 |0=>([1,7,9,19,20],[9])
 |1=>([],[1,7,9,19,20])
 |_=>([],[])
theorem F78_ok:kj8 Try.prog K78 Try.f78=some F78:=by kernel_rfl
/- 79: syndrome/matrix.Times -/
def c79L0:ACode:=(.seq (.region [.o 71 (.b .lss 70 69)]) (.seq (.cond (.tmp 71) .skip (.exit 4)) (.seq (.block 5 [2,9,11,14,16,47,48,49,58,59,60,68,69,70] (.seq (.region [.m 72 70, .o 73 (.i 1 68 70), .o 74 (.l 73), .m 17 72, .m 18 74]) (.region [.m 75 14, .m 76 17, .m 77 9, .m 78 14, .m 79 17, .o 80 (.i 1 78 79), .o 81 (.l 80), .m 82 9, .m 83 16, .m 84 18,⟨(some 85),(.call 85 [(.tmp 82),(.tmp 83),(.tmp 84)]),none,true⟩, .o 86 (.q 83 [77,81,85]), .o 87 (.i 1 75 76), .n (.st 1 (.tmp 87) (.tmp 86))]))) (.region [.o 88 (.c .add 70 1), .m 70 88]))))
def c79L1:ACode:=(.seq (.region [.o 61 (.b .lss 60 59)]) (.seq (.cond (.tmp 61) .skip (.exit 2)) (.seq (.block 3 [2,9,11,14,47,48,49,58,59,60] (.seq (.region [.m 62 60, .o 63 (.i 1 58 60), .o 64 (.l 63), .m 15 62, .m 16 64]) (.seq (.region [.m 65 2, .m 66 15, .o 67 (.i 1 65 66), .o 68 (.l 67), .o 69 (.n 68), .k 70 0]) (.block 4 [2,9,11,14,47,48,49,58,59,60] (.loop [2,9,11,14,16,47,48,49,58,59,60,68,69,70] c79L0))))) (.region [.o 89 (.c .add 60 1), .m 60 89]))))
def c79L2:ACode:=(.seq (.region [.o 50 (.b .lss 49 48)]) (.seq (.cond (.tmp 50) .skip (.exit 0)) (.seq (.block 1 [2,9,11,47,48,49] (.seq (.region [.o 51 (.i 1 47 49), .o 52 (.l 51), .m 13 52]) (.seq (.region [.m 53 2, .o 54 (.iaddr 1 (.tmp 53) (.const (.int .i64 0))), .o 55 (.l 54), .o 56 (.n 55), .o 57 (.mks 3 1 8 [(.int .i64 0)] (.tmp 56) (.tmp 56)), .m 14 57]) (.seq (.seq (.region [.m 58 13, .o 59 (.n 58), .k 60 0]) (.block 2 [2,9,11,14,47,48,49] (.loop [2,9,11,14,47,48,49,58,59,60] c79L1))) (.region [.m 90 11, .m 91 14, .o 92 (.mkSl 22 1 1 [(.tmp 91)]), .o 93 (.app 22 1 24 (.tmp 90) (.tmp 92)), .m 11 93]))))) (.region [.o 94 (.c .add 49 1), .m 49 94]))))
def c79:ACode:=(.seq (.region [.o 6 (.mv (.const (.slice none 0 0))), .k 7 0]) (.seq (.region [.m 19 0, .m 20 1, .o 21 (.q 162 [19,20]), .m 8 21]) (.seq (.seq (.region [.m 22 8, .o 23 (.c .eql 22 0)]) (.cond (.tmp 23) (.region [.m 24 0, .m 25 2, .o 26 (.q 162 [24,25]), .m 8 26]) .skip)) (.seq (.seq (.region [.m 27 8, .o 28 (.c .neq 27 0)]) (.cond (.tmp 28) (.seq (.region [.m 29 8, .o 6 (.mv (.const (.slice none 0 0))), .m 7 29]) .ret) .skip)) (.seq (.seq (.region [.m 30 1, .o 31 (.n 30), .o 32 (.c .gtr 31 0), .m 33 32, .g 34 (.m 1) 33 true, .g 35 (.iaddr 1 (.tmp 34) (.const (.int .i64 0))) 33 true, .g 36 (.l 35) 33 true, .g 37 (.n 36) 33 true, .g 38 (.m 2) 33 true, .g 39 (.n 38) 33 true, .g 40 (.b .neq 37 39) 33 true, .o 41 (.pick (.tmp 33) (.tmp 40) (.const (.bool false)))]) (.cond (.tmp 41) (.seq (.region [.o 6 (.mv (.const (.slice none 0 0))), .k 7 3]) .ret) .skip)) (.seq (.region [.m 43 0, .o 44 (.q 76 [43]), .m 42 44, .o 45 (.e 0 42), .o 46 (.e 1 42), .m 9 45, .m 10 46]) (.seq (.region [.o 11 (.mv (.const (.slice none 0 0)))]) (.seq (.seq (.region [.m 47 1, .o 48 (.n 47), .k 49 0]) (.block 0 [11] (.loop [2,9,11,47,48,49] c79L2))) (.seq (.region [.m 95 11, .m 6 95, .k 7 0]) .ret)))))))))
def F79:AFun:=⟨c79,3,96,[(.tmp 6),(.tmp 7)]⟩
def K79:Nat→List Nat×List Nat
 |0=>([2,9,11,47,48,49],[11])
 |1=>([],[2,9,11,47,48,49])
 |2=>([2,9,11,14,47,48,49,58,59,60],[2,9,11,14,47,48,49])
 |3=>([],[2,9,11,14,47,48,49,58,59,60])
 |4=>([2,9,11,14,16,47,48,49,58,59,60,68,69,70],[2,9,11,14,47,48,49,58,59,60])
 |5=>([],[2,9,11,14,16,47,48,49,58,59,60,68,69,70])
 |_=>([],[])
theorem F79_ok:kj8 Try.prog K79 Try.f79=some F79:=by kernel_rfl
/- 80: (*syndrome/store.Plan).square -/
def c80L0:ACode:=(.seq (.region [.o 33 (.b .lss 32 31)]) (.seq (.cond (.tmp 33) .skip (.exit 2)) (.seq (.block 3 [0,1,5,6,15,16,31,32] (.seq (.region [.m 34 32, .m 7 34]) (.seq (.region [.m 35 0, .m 36 6, .m 37 7, .o 38 (.q 82 [35,36,37]), .m 8 38]) (.seq (.region [.m 39 8, .o 40 (.c .geq 39 0)]) (.cond (.tmp 40) (.region [.m 41 5, .m 42 6, .o 43 (.i 1 41 42), .o 44 (.l 43), .m 45 7, .m 46 1, .m 47 8, .o 48 (.i 1 46 47), .o 49 (.l 48), .o 50 (.i 1 44 45), .n (.st 1 (.tmp 50) (.tmp 49))]) .skip))))) (.region [.o 51 (.c .add 32 1), .m 32 51]))))
def c80L1:ACode:=(.seq (.region [.o 17 (.b .lss 16 15)]) (.seq (.cond (.tmp 17) .skip (.exit 0)) (.seq (.block 1 [0,1,5,15,16] (.seq (.region [.m 18 16, .m 6 18]) (.seq (.region [.m 19 5, .m 20 6, .m 21 0, .o 22 (.nilck (.tmp 21)), .o 23 (.f 3 22), .o 24 (.l 23), .o 25 (.mks 3 1 8 [(.int .i64 0)] (.tmp 24) (.tmp 24)), .o 26 (.i 1 19 20), .n (.st 1 (.tmp 26) (.tmp 25))]) (.seq (.region [.m 27 5, .m 28 6, .o 29 (.i 1 27 28), .o 30 (.l 29), .o 31 (.n 30), .k 32 0]) (.block 2 [0,1,5,15,16] (.loop [0,1,5,6,15,16,31,32] c80L0)))))) (.region [.o 52 (.c .add 16 1), .m 16 52]))))
def c80:ACode:=(.seq (.region [.o 4 (.mv (.const (.slice none 0 0)))]) (.seq (.region [.m 9 0, .o 10 (.nilck (.tmp 9)), .o 11 (.f 3 10), .o 12 (.l 11), .o 13 (.mks 22 1 24 [(.slice none 0 0)] (.tmp 12) (.tmp 12)), .m 5 13]) (.seq (.seq (.region [.m 14 5, .o 15 (.n 14), .k 16 0]) (.block 0 [5] (.loop [0,1,5,15,16] c80L1))) (.seq (.region [.m 53 5, .m 4 53]) .ret))))
def F80:AFun:=⟨c80,2,54,[(.tmp 4)]⟩
def K80:Nat→List Nat×List Nat
 |0=>([0,1,5,15,16],[5])
 |1=>([],[0,1,5,15,16])
 |2=>([0,1,5,6,15,16,31,32],[0,1,5,15,16])
 |3=>([],[0,1,5,6,15,16,31,32])
 |_=>([],[])
theorem F80_ok:kj8 Try.prog K80 Try.f80=some F80:=by kernel_rfl
/- 81: (*syndrome/store.Plan).some -/
def c81L0:ACode:=(.seq (.region [.o 16 (.b .lss 15 14)]) (.seq (.cond (.tmp 16) .skip (.exit 0)) (.seq (.block 1 [0,1,13,14,15] (.seq (.region [.m 17 15, .o 18 (.i 1 13 15), .o 19 (.l 18), .m 7 17, .m 8 19]) (.seq (.seq (.region [.m 20 8, .o 21 (.c .lss 20 0), .m 22 21, .g 23 (.m 8) 22 false, .g 24 (.m 0) 22 false, .g 25 (.nilck (.tmp 24)) 22 false, .g 26 (.f 1 25) 22 false, .g 27 (.l 26) 22 false, .g 28 (.b .geq 23 27) 22 false, .o 29 (.pick (.tmp 22) (.const (.bool true)) (.tmp 28))]) (.cond (.tmp 29) (.seq (.region [.k 6 10]) .ret) .skip)) (.seq (.region [.m 30 1, .m 31 7, .o 32 (.sl 1 (.tmp 30) none (some (.tmp 31))), .m 33 8, .o 34 (.q 86 [32,33])]) (.cond (.tmp 34) (.seq (.region [.k 6 7]) .ret) .skip))))) (.region [.o 35 (.c .add 15 1), .m 15 35]))))
def c81:ACode:=(.seq (.region [.k 6 0]) (.seq (.seq (.region [.m 9 1, .o 10 (.n 9), .m 11 2, .o 12 (.b .neq 10 11)]) (.cond (.tmp 12) (.seq (.region [.k 6 6]) .ret) .skip)) (.seq (.seq (.region [.m 13 1, .o 14 (.n 13), .k 15 0]) (.block 0 [] (.loop [0,1,13,14,15] c81L0))) (.seq (.region [.k 6 0]) .ret))))
def F81:AFun:=⟨c81,3,36,[(.tmp 6)]⟩
def K81:Nat→List Nat×List Nat
 |0=>([0,1,13,14,15],[])
 |1=>([],[0,1,13,14,15])
 |_=>([],[])
theorem F81_ok:kj8 Try.prog K81 Try.f81=some F81:=by kernel_rfl
/- 82: (*syndrome/store.Plan).place -/
def c82:ACode:=(.seq (.region [.k 6 0]) (.seq (.region [.m 7 1, .m 8 2, .o 9 (.minmax false [(.tmp 7),(.tmp 8)]), .m 10 1, .m 11 2, .o 12 (.minmax true [(.tmp 10),(.tmp 11)]), .m 1 9, .m 2 12]) (.seq (.block 0 [0,1,2] (.seq (.region [.m 14 1, .m 15 0, .o 16 (.nilck (.tmp 15)), .o 17 (.f 2 16), .o 18 (.l 17), .o 19 (.b .geq 14 18), .m 13 19]) (.cond (.tmp 13) (.seq (.region [.k 6 (-1)]) .ret) (.seq (.region [.m 21 2, .m 22 0, .o 23 (.nilck (.tmp 22)), .o 24 (.f 2 23), .o 25 (.l 24), .o 26 (.b .lss 21 25), .m 20 26]) (.cond (.tmp 20) (.seq (.region [.m 27 1, .m 28 0, .o 29 (.nilck (.tmp 28)), .o 30 (.f 2 29), .o 31 (.l 30), .o 32 (.b .mul 27 31), .m 33 1, .m 34 1, .o 35 (.c .sub 34 1), .o 36 (.b .mul 33 35), .o 37 (.c .quo 36 2), .o 38 (.b .sub 32 37), .m 39 2, .o 40 (.b .add 38 39), .m 41 1, .o 42 (.b .sub 40 41), .m 6 42]) .ret) .skip))))) (.seq (.region [.m 43 0, .o 44 (.nilck (.tmp 43)), .o 45 (.f 2 44), .o 46 (.l 45), .m 47 0, .o 48 (.nilck (.tmp 47)), .o 49 (.f 2 48), .o 50 (.l 49), .o 51 (.c .add 50 1), .o 52 (.b .mul 46 51), .o 53 (.c .quo 52 2), .m 54 1, .m 55 0, .o 56 (.nilck (.tmp 55)), .o 57 (.f 3 56), .o 58 (.l 57), .m 59 0, .o 60 (.nilck (.tmp 59)), .o 61 (.f 2 60), .o 62 (.l 61), .o 63 (.b .sub 58 62), .o 64 (.b .mul 54 63), .o 65 (.b .add 53 64), .m 66 2, .o 67 (.b .add 65 66), .m 68 0, .o 69 (.nilck (.tmp 68)), .o 70 (.f 2 69), .o 71 (.l 70), .o 72 (.b .sub 67 71), .m 6 72]) .ret))))
def F82:AFun:=⟨c82,3,73,[(.tmp 6)]⟩
def K82:Nat→List Nat×List Nat
 |0=>([],[0,1,2])
 |_=>([],[])
theorem F82_ok:kj8 Try.prog K82 Try.f82=some F82:=by kernel_rfl
/- 83: (*syndrome/field.Field).Add -/
def c83L0:ACode:=(.seq (.region [.o 24 (.b .lss 23 22)]) (.seq (.cond (.tmp 24) .skip (.exit 0)) (.seq (.block 1 [0,1,2,7,8,22,23] (.seq (.region [.m 25 7, .m 26 1, .m 27 0, .o 28 (.nilck (.tmp 27)), .o 29 (.f 1 28), .o 30 (.l 29), .o 31 (.b .rem 26 30), .m 32 2, .m 33 0, .o 34 (.nilck (.tmp 33)), .o 35 (.f 1 34), .o 36 (.l 35), .o 37 (.b .rem 32 36), .o 38 (.b .add 31 37), .m 39 0, .o 40 (.nilck (.tmp 39)), .o 41 (.f 1 40), .o 42 (.l 41), .o 43 (.b .rem 38 42), .m 44 8, .o 45 (.b .mul 43 44), .o 46 (.b .add 25 45), .m 7 46]) (.region [.m 47 1, .m 48 0, .o 49 (.nilck (.tmp 48)), .o 50 (.f 1 49), .o 51 (.l 50), .o 52 (.b .quo 47 51), .m 53 2, .m 54 0, .o 55 (.nilck (.tmp 54)), .o 56 (.f 1 55), .o 57 (.l 56), .o 58 (.b .quo 53 57), .m 59 8, .m 60 0, .o 61 (.nilck (.tmp 60)), .o 62 (.f 1 61), .o 63 (.l 62), .o 64 (.b .mul 59 63), .m 1 52, .m 2 58, .m 8 64]))) (.region [.o 65 (.c .add 23 1), .m 23 65]))))
def c83:ACode:=(.seq (.region [.k 6 0]) (.seq (.seq (.region [.m 9 0, .m 10 1, .o 11 (.q 115 [9,10]), .o 12 (.un .not (.tmp 11)), .m 13 12, .g 14 (.m 0) 13 false, .g 15 (.m 2) 13 false, .g 16 (.q 115 [14,15]) 13 false, .g 17 (.un .not (.tmp 16)) 13 false, .o 18 (.pick (.tmp 13) (.const (.bool true)) (.tmp 17))]) (.cond (.tmp 18) (.seq (.region [.k 6 (-1)]) .ret) .skip)) (.seq (.region [.k 7 0, .k 8 1]) (.seq (.seq (.region [.m 19 0, .o 20 (.nilck (.tmp 19)), .o 21 (.f 2 20), .o 22 (.l 21), .k 23 0]) (.block 0 [7] (.loop [0,1,2,7,8,22,23] c83L0))) (.seq (.region [.m 66 7, .m 6 66]) .ret)))))
def F83:AFun:=⟨c83,3,67,[(.tmp 6)]⟩
def K83:Nat→List Nat×List Nat
 |0=>([0,1,2,7,8,22,23],[7])
 |1=>([],[0,1,2,7,8,22,23])
 |_=>([],[])
theorem F83_ok:kj8 Try.prog K83 Try.f83=some F83:=by kernel_rfl
/- 84: syndrome/store.wide -/
def c84L0:ACode:=(.seq (.region [.o 74 (.b .lss 73 72)]) (.seq (.cond (.tmp 74) .skip (.exit 2)) (.seq (.block 3 [0,1,2,3,10,11,13,18,19,72,73] (.seq (.region [.m 75 73, .m 14 75]) (.region [.m 76 1, .m 77 10, .o 78 (.i 1 76 77), .o 79 (.l 78), .m 80 14, .m 81 0, .m 82 1, .m 83 10, .o 84 (.i 1 82 83), .o 85 (.l 84), .m 86 14, .o 87 (.i 1 85 86), .o 88 (.l 87), .m 89 13,⟨(some 90),(.call 85 [(.tmp 81),(.tmp 88),(.tmp 89)]),none,true⟩, .o 91 (.i 1 79 80), .n (.st 1 (.tmp 91) (.tmp 90))]))) (.region [.o 92 (.c .add 73 1), .m 73 92]))))
def c84L1:ACode:=(.seq (.region [.o 124 (.b .lss 123 122)]) (.seq (.cond (.tmp 124) .skip (.exit 6)) (.seq (.block 7 [0,1,2,3,10,11,15,16,18,19,104,105,122,123] (.seq (.region [.m 125 123, .m 17 125]) (.region [.m 126 1, .m 127 15, .o 128 (.i 1 126 127), .o 129 (.l 128), .m 130 17, .m 131 0, .m 132 1, .m 133 15, .o 134 (.i 1 132 133), .o 135 (.l 134), .m 136 17, .o 137 (.i 1 135 136), .o 138 (.l 137), .m 139 0, .m 140 16, .m 141 1, .m 142 10, .o 143 (.i 1 141 142), .o 144 (.l 143), .m 145 17, .o 146 (.i 1 144 145), .o 147 (.l 146),⟨(some 148),(.call 85 [(.tmp 139),(.tmp 140),(.tmp 147)]),none,true⟩,⟨(some 149),(.call 166 [(.tmp 131),(.tmp 138),(.tmp 148)]),none,true⟩, .o 150 (.i 1 129 130), .n (.st 1 (.tmp 150) (.tmp 149))]))) (.region [.o 151 (.c .add 123 1), .m 123 151]))))
def c84L2:ACode:=(.seq (.region [.o 106 (.b .lss 105 104)]) (.seq (.cond (.tmp 106) .skip (.exit 4)) (.seq (.block 5 [0,1,2,3,10,11,18,19,104,105] (.seq (.region [.m 107 105, .m 15 107]) (.seq (.region [.m 108 1, .m 109 15, .o 110 (.i 1 108 109), .o 111 (.l 110), .o 112 (.l 11), .o 113 (.i 1 111 112), .o 114 (.l 113), .m 16 114]) (.seq (.region [.m 115 15, .m 116 10, .o 117 (.b .neq 115 116), .m 118 117, .g 119 (.m 16) 118 true, .g 120 (.c .neq 119 0) 118 true, .o 121 (.pick (.tmp 118) (.tmp 120) (.const (.bool false)))]) (.cond (.tmp 121) (.seq (.seq (.region [.m 122 3, .k 123 0]) (.block 6 [0,1,2,3,10,11,15,16,18,19,104,105] (.loop [0,1,2,3,10,11,15,16,18,19,104,105,122,123] c84L1))) (.region [.m 152 2, .m 153 15, .m 154 0, .m 155 2, .m 156 15, .o 157 (.i 1 155 156), .o 158 (.l 157), .m 159 0, .m 160 16, .m 161 2, .m 162 10, .o 163 (.i 1 161 162), .o 164 (.l 163),⟨(some 165),(.call 85 [(.tmp 159),(.tmp 160),(.tmp 164)]),none,true⟩, .o 166 (.q 166 [154,158,165]), .o 167 (.i 1 152 153), .n (.st 1 (.tmp 167) (.tmp 166))])) .skip))))) (.region [.o 168 (.c .add 105 1), .m 105 168]))))
def c84L3:ACode:=(.seq (.region [.o 20 (.b .lss 19 18)]) (.seq (.cond (.tmp 20) .skip (.exit 0)) (.seq (.block 1 [0,1,2,3,10,18,19] (.seq (.region [.m 21 19, .o 11 (.alloc 3 [(.int .i64 0)]), .n (.st 1 (.tmp 11) (.tmp 21))]) (.seq (.region [.m 22 1, .m 23 10, .o 24 (.sl 1 (.tmp 22) (some (.tmp 23)) none), .o 25 (.mkf 164 [(.tmp 11)]), .o 26 (.q 163 [24,25]), .m 12 26]) (.seq (.region [.m 27 1, .m 28 10, .m 29 1, .m 30 10, .m 31 12, .o 32 (.b .add 30 31), .m 33 2, .m 34 10, .m 35 2, .m 36 10, .m 37 12, .o 38 (.b .add 36 37), .m 39 1, .m 40 10, .m 41 12, .o 42 (.b .add 40 41), .o 43 (.i 1 39 42), .o 44 (.l 43), .m 45 1, .m 46 10, .o 47 (.i 1 45 46), .o 48 (.l 47), .m 49 2, .m 50 10, .m 51 12, .o 52 (.b .add 50 51), .o 53 (.i 1 49 52), .o 54 (.l 53), .m 55 2, .m 56 10, .o 57 (.i 1 55 56), .o 58 (.l 57), .o 59 (.i 1 27 28), .n (.st 1 (.tmp 59) (.tmp 44)), .o 60 (.i 1 29 32), .n (.st 1 (.tmp 60) (.tmp 48)), .o 61 (.i 1 33 34), .n (.st 1 (.tmp 61) (.tmp 54)), .o 62 (.i 1 35 38), .n (.st 1 (.tmp 62) (.tmp 58))]) (.seq (.region [.m 63 0, .m 64 1, .m 65 10, .o 66 (.i 1 64 65), .o 67 (.l 66), .o 68 (.l 11), .o 69 (.i 1 67 68), .o 70 (.l 69), .o 71 (.q 165 [63,70]), .m 13 71]) (.seq (.seq (.region [.m 72 3, .k 73 0]) (.block 2 [0,1,2,3,10,11,13,18,19] (.loop [0,1,2,3,10,11,13,18,19,72,73] c84L0))) (.seq (.region [.m 93 2, .m 94 10, .m 95 0, .m 96 2, .m 97 10, .o 98 (.i 1 96 97), .o 99 (.l 98), .m 100 13, .o 101 (.q 85 [95,99,100]), .o 102 (.i 1 93 94), .n (.st 1 (.tmp 102) (.tmp 101))]) (.seq (.seq (.region [.m 103 1, .o 104 (.n 103), .k 105 0]) (.block 4 [0,1,2,3,10,18,19] (.loop [0,1,2,3,10,11,18,19,104,105] c84L2))) (.region [.m 169 10, .o 170 (.c .add 169 1), .m 10 170]))))))))) (.region [.o 171 (.c .add 19 1), .m 19 171]))))
def c84:ACode:=(.seq (.region [.o 8 (.mv (.const (.slice none 0 0))), .o 9 (.mv (.const (.bool false)))]) (.seq (.region [.k 10 0]) (.seq (.seq (.region [.m 18 3, .k 19 0]) (.block 0 [2,3] (.loop [0,1,2,3,10,18,19] c84L3))) (.seq (.region [.m 172 2, .m 173 3, .o 174 (.sl 1 (.tmp 172) none (some (.tmp 173))),⟨(some 175),(.call 119 [(.tmp 174)]),none,true⟩, .m 176 2, .m 177 3, .o 178 (.sl 1 (.tmp 176) (some (.tmp 177)) none), .o 179 (.call 113 [(.tmp 178),(.func 167)]), .o 180 (.un .not (.tmp 179)), .m 8 175, .m 9 180]) .ret))))
def F84:AFun:=⟨c84,4,181,[(.tmp 8),(.tmp 9)]⟩
def K84:Nat→List Nat×List Nat
 |0=>([0,1,2,3,10,18,19],[2,3])
 |1=>([],[0,1,2,3,10,18,19])
 |2=>([0,1,2,3,10,11,13,18,19,72,73],[0,1,2,3,10,11,13,18,19])
 |3=>([],[0,1,2,3,10,11,13,18,19,72,73])
 |4=>([0,1,2,3,10,11,18,19,104,105],[0,1,2,3,10,18,19])
 |5=>([],[0,1,2,3,10,11,18,19,104,105])
 |6=>([0,1,2,3,10,11,15,16,18,19,104,105,122,123],[0,1,2,3,10,11,15,16,18,19,104,105])
 |7=>([],[0,1,2,3,10,11,15,16,18,19,104,105,122,123])
 |_=>([],[])
theorem F84_ok:kj8 Try.prog K84 Try.f84=some F84:=by kernel_rfl
/- 85: (*syndrome/field.Field).Mul -/
def c85:ACode:=(.seq (.region [.k 6 0]) (.seq (.seq (.region [.m 7 0, .m 8 1, .o 9 (.q 115 [7,8]), .o 10 (.un .not (.tmp 9)), .m 11 10, .g 12 (.m 0) 11 false, .g 13 (.m 2) 11 false, .g 14 (.q 115 [12,13]) 11 false, .g 15 (.un .not (.tmp 14)) 11 false, .o 16 (.pick (.tmp 11) (.const (.bool true)) (.tmp 15))]) (.cond (.tmp 16) (.seq (.region [.k 6 (-1)]) .ret) .skip)) (.seq (.seq (.region [.m 17 1, .o 18 (.c .eql 17 0), .m 19 18, .g 20 (.m 2) 19 false, .g 21 (.c .eql 20 0) 19 false, .o 22 (.pick (.tmp 19) (.const (.bool true)) (.tmp 21))]) (.cond (.tmp 22) (.seq (.region [.k 6 0]) .ret) .skip)) (.seq (.region [.m 23 0, .o 24 (.nilck (.tmp 23)), .o 25 (.f 5 24), .o 26 (.l 25), .m 27 0, .o 28 (.nilck (.tmp 27)), .o 29 (.f 6 28), .o 30 (.l 29), .m 31 1, .o 32 (.i 1 30 31), .o 33 (.l 32), .m 34 0, .o 35 (.nilck (.tmp 34)), .o 36 (.f 6 35), .o 37 (.l 36), .m 38 2, .o 39 (.i 1 37 38), .o 40 (.l 39), .o 41 (.b .add 33 40), .m 42 0, .o 43 (.nilck (.tmp 42)), .o 44 (.f 0 43), .o 45 (.l 44), .o 46 (.c .sub 45 1), .o 47 (.b .rem 41 46), .o 48 (.i 1 26 47), .o 49 (.l 48), .m 6 49]) .ret))))
def F85:AFun:=⟨c85,3,50,[(.tmp 6)]⟩
def K85:Nat→List Nat×List Nat
 |_=>([],[])
theorem F85_ok:kj8 Try.prog K85 Try.f85=some F85:=by kernel_rfl
/- 86: slices.Contains[[]int,int] -/
def c86:ACode:=(.seq (.region [.o 4 (.mv (.const (.bool false)))]) (.seq (.region [.m 5 0, .m 6 1, .o 7 (.q 168 [5,6]), .o 8 (.c .geq 7 0), .m 4 8]) .ret))
def F86:AFun:=⟨c86,2,9,[(.tmp 4)]⟩
def K86:Nat→List Nat×List Nat
 |_=>([],[])
theorem F86_ok:kj8 Try.prog K86 Try.f86=some F86:=by kernel_rfl
/- 87: syndrome/matrix.Solve -/
def c87:ACode:=(.seq (.region [.o 6 (.mv (.const (.slice none 0 0))), .o 7 (.mv (.const (.bool false))), .k 8 0]) (.seq (.region [.m 14 0, .m 15 1, .o 16 (.q 162 [14,15]), .m 9 16]) (.seq (.seq (.region [.m 17 9, .o 18 (.c .neq 17 0)]) (.cond (.tmp 18) (.seq (.region [.m 19 9, .o 6 (.mv (.const (.slice none 0 0))), .o 7 (.mv (.const (.bool false))), .m 8 19]) .ret) .skip)) (.seq (.seq (.region [.m 20 2, .o 21 (.n 20), .m 22 1, .o 23 (.n 22), .o 24 (.b .neq 21 23)]) (.cond (.tmp 24) (.seq (.region [.o 6 (.mv (.const (.slice none 0 0))), .o 7 (.mv (.const (.bool false))), .k 8 6]) .ret) .skip)) (.seq (.region [.m 26 0, .o 27 (.q 76 [26]), .m 25 27, .o 28 (.e 0 25), .o 29 (.e 1 25), .o 10 (.alloc 104 [(.pointer none)]), .n (.st 1 (.tmp 10) (.tmp 28)), .m 11 29]) (.seq (.seq (.region [.m 30 2, .o 31 (.mkf 169 [(.tmp 10)]), .o 32 (.q 113 [30,31])]) (.cond (.tmp 32) (.seq (.region [.o 6 (.mv (.const (.slice none 0 0))), .o 7 (.mv (.const (.bool false))), .k 8 2]) .ret) .skip)) (.seq (.seq (.region [.m 33 1, .o 34 (.n 33), .o 35 (.c .eql 34 0)]) (.cond (.tmp 35) (.seq (.region [.o 6 (.mv (.const (.slice none 0 0))), .o 7 (.mv (.const (.bool true))), .k 8 0]) .ret) .skip)) (.seq (.region [.m 37 0, .m 38 1, .m 39 2, .o 40 (.q 170 [37,38,39]), .m 36 40, .o 41 (.e 0 36), .o 42 (.e 1 36), .m 12 41, .m 13 42]) (.seq (.region [.m 43 12, .m 44 13, .m 6 43, .m 7 44, .k 8 0]) .ret)))))))))
def F87:AFun:=⟨c87,3,45,[(.tmp 6),(.tmp 7),(.tmp 8)]⟩
def K87:Nat→List Nat×List Nat
 |_=>([],[])
theorem F87_ok:kj8 Try.prog K87 Try.f87=some F87:=by kernel_rfl
/- 113: slices.ContainsFunc[[]int,int] -/
def c113:ACode:=(.seq (.region [.o 4 (.mv (.const (.bool false)))]) (.seq (.region [.m 5 0, .m 6 1, .o 7 (.q 186 [5,6]), .o 8 (.c .geq 7 0), .m 4 8]) .ret))
def F113:AFun:=⟨c113,2,9,[(.tmp 4)]⟩
def K113:Nat→List Nat×List Nat
 |_=>([],[])
theorem F113_ok:kj8 Try.prog K113 Try.f113=some F113:=by kernel_rfl
/- 115: (*syndrome/field.Field).Has -/
def c115:ACode:=(.seq (.region [.o 4 (.mv (.const (.bool false)))]) (.seq (.region [.m 5 1, .o 6 (.c .geq 5 0), .m 7 6, .g 8 (.m 1) 7 true, .g 9 (.m 0) 7 true, .g 10 (.nilck (.tmp 9)) 7 true, .g 11 (.f 0 10) 7 true, .g 12 (.l 11) 7 true, .g 13 (.b .lss 8 12) 7 true, .o 14 (.pick (.tmp 7) (.tmp 13) (.const (.bool false))), .m 4 14]) .ret))
def F115:AFun:=⟨c115,2,15,[(.tmp 4)]⟩
def K115:Nat→List Nat×List Nat
 |_=>([],[])
theorem F115_ok:kj8 Try.prog K115 Try.f115=some F115:=by kernel_rfl
/- 119: slices.Clone[[]int,int] -/
def c119:ACode:=(.seq (.region [.o 2 (.mv (.const (.slice none 0 0)))]) (.seq (.seq (.region [.m 3 0, .o 4 (.eqn false 0 (.tmp 3))]) (.cond (.tmp 4) (.seq (.region [.o 2 (.mv (.const (.slice none 0 0)))]) .ret) .skip)) (.seq (.region [.o 5 (.mkSl 3 1 0 []), .m 6 0, .o 7 (.app 3 1 8 (.tmp 5) (.tmp 6)), .m 2 7]) .ret)))
def F119:AFun:=⟨c119,1,8,[(.tmp 2)]⟩
def K119:Nat→List Nat×List Nat
 |_=>([],[])
theorem F119_ok:kj8 Try.prog K119 Try.f119=some F119:=by kernel_rfl
/- 129: (*syndrome/field.Field).Pow -/
def c129:ACode:=(.seq (.region [.k 6 0]) (.seq (.seq (.region [.m 7 0, .m 8 1, .o 9 (.q 115 [7,8]), .o 10 (.un .not (.tmp 9)), .m 11 10, .g 12 (.m 1) 11 false, .g 13 (.c .eql 12 0) 11 false, .g 14 (.m 13) 11 false, .g 15 (.m 2) 14 true, .g 16 (.c .lss 15 0) 14 true, .g 17 (.pick (.tmp 14) (.tmp 16) (.const (.bool false))) 11 false, .o 18 (.pick (.tmp 11) (.const (.bool true)) (.tmp 17))]) (.cond (.tmp 18) (.seq (.region [.k 6 (-1)]) .ret) .skip)) (.seq (.seq (.region [.m 19 2, .o 20 (.c .eql 19 0)]) (.cond (.tmp 20) (.seq (.region [.k 6 1]) .ret) .skip)) (.seq (.seq (.region [.m 21 1, .o 22 (.c .eql 21 0)]) (.cond (.tmp 22) (.seq (.region [.k 6 0]) .ret) .skip)) (.seq (.region [.m 23 2, .m 24 0, .o 25 (.nilck (.tmp 24)), .o 26 (.f 0 25), .o 27 (.l 26), .o 28 (.c .sub 27 1), .o 29 (.b .rem 23 28), .m 2 29]) (.seq (.seq (.region [.m 30 2, .o 31 (.c .lss 30 0)]) (.cond (.tmp 31) (.region [.m 32 2, .m 33 0, .o 34 (.nilck (.tmp 33)), .o 35 (.f 0 34), .o 36 (.l 35), .o 37 (.c .sub 36 1), .o 38 (.b .add 32 37), .m 2 38]) .skip)) (.seq (.region [.m 39 0, .o 40 (.nilck (.tmp 39)), .o 41 (.f 5 40), .o 42 (.l 41), .m 43 0, .o 44 (.nilck (.tmp 43)), .o 45 (.f 6 44), .o 46 (.l 45), .m 47 1, .o 48 (.i 1 46 47), .o 49 (.l 48), .m 50 2, .o 51 (.b .mul 49 50), .m 52 0, .o 53 (.nilck (.tmp 52)), .o 54 (.f 0 53), .o 55 (.l 54), .o 56 (.c .sub 55 1), .o 57 (.b .rem 51 56), .o 58 (.i 1 42 57), .o 59 (.l 58), .m 6 59]) .ret)))))))
def F129:AFun:=⟨c129,3,60,[(.tmp 6)]⟩
def K129:Nat→List Nat×List Nat
 |_=>([],[])
theorem F129_ok:kj8 Try.prog K129 Try.f129=some F129:=by kernel_rfl
/- 159: syndrome/field.New$1 -/
def c159:ACode:=(.region [.o 2 (.l 0), .o 3 (.l 0),⟨(some 4),(.call 160 [(.tmp 3)]),none,true⟩, .o 5 (.f 195 1), .o 6 (.iaddrA 65 1 (.tmp 5) (.tmp 2)), .n (.st 1 (.tmp 6) (.tmp 4))])
def F159:AFun:=⟨c159,2,7,[]⟩
def K159:Nat→List Nat×List Nat
 |_=>([],[])
theorem F159_ok:kj8 Try.prog K159 Try.f159=some F159:=by kernel_rfl
/- 160: syndrome/field.build -/
def c160L0:ACode:=(.seq (.seq (.region [.m 28 5, .o 29 (.q 205 [28]), .o 30 (.un .not (.tmp 29))]) (.cond (.tmp 30) .skip (.exit 0))) (.seq (.block 1 [5] .skip) (.region [.m 31 5, .o 32 (.nilck (.tmp 31)), .o 33 (.f 4 32), .o 34 (.l 33), .o 35 (.c .add 34 1), .o 36 (.nilck (.tmp 31)), .o 37 (.f 4 36), .n (.st 1 (.tmp 37) (.tmp 35))])))
def c160L1:ACode:=(.seq (.region [.o 45 (.b .lss 44 43)]) (.seq (.cond (.tmp 45) .skip (.exit 2)) (.seq (.block 3 [3,4,5,43,44] (.seq (.region [.m 46 44, .m 6 46]) (.seq (.region [.m 47 5, .m 48 6, .m 49 3, .m 50 4, .o 51 (.q 206 [48,49,50]), .o 52 (.mkSl 3 1 1 [(.const (.int .i64 1))]), .o 53 (.app 3 1 8 (.tmp 51) (.tmp 52)), .o 54 (.nilck (.tmp 47)), .o 55 (.f 3 54), .n (.st 1 (.tmp 55) (.tmp 53))]) (.seq (.region [.m 56 5, .o 57 (.q 205 [56])]) (.cond (.tmp 57) (.seq (.region [.m 58 5, .m 2 58]) .ret) .skip))))) (.region [.o 59 (.c .add 44 1), .m 44 59]))))
def c160:ACode:=(.seq (.region [.o 2 (.mv (.const (.pointer none)))]) (.seq (.region [.m 8 0, .o 9 (.q 204 [8]), .m 7 9, .o 10 (.e 0 7), .o 11 (.e 1 7), .m 3 10, .m 4 11]) (.seq (.seq (.region [.m 12 3, .o 13 (.c .eql 12 0)]) (.cond (.tmp 13) (.seq (.region [.o 2 (.mv (.const (.pointer none)))]) .ret) .skip)) (.seq (.region [.m 14 0, .m 15 3, .m 16 4, .o 17 (.build [(.int .i64 0),(.int .i64 0),(.int .i64 0),(.slice none 0 0),(.int .i64 0),(.slice none 0 0),(.slice none 0 0)] [(0,1),(1,1),(2,1),(3,1),(4,1),(5,1),(6,1)] [(0,(.tmp 14)),(1,(.tmp 15)),(2,(.tmp 16))]), .o 18 (.box 173 7 (.tmp 17)), .m 5 18]) (.seq (.seq (.region [.m 19 4, .o 20 (.c .eql 19 1)]) (.cond (.tmp 20) (.seq (.region [.m 21 5, .o 22 (.mkSl 3 1 2 [(.const (.int .i64 0)),(.const (.int .i64 1))]), .o 23 (.nilck (.tmp 21)), .o 24 (.f 3 23), .n (.st 1 (.tmp 24) (.tmp 22))]) (.seq (.seq (.region [.m 25 5, .o 26 (.nilck (.tmp 25)), .o 27 (.f 4 26), .n (.st 1 (.tmp 27) (.const (.int .i64 1)))]) (.block 0 [5] (.loop [5] c160L0))) (.seq (.region [.m 38 5, .m 2 38]) .ret))) .skip)) (.seq (.region [.m 39 5, .m 40 3, .o 41 (.nilck (.tmp 39)), .o 42 (.f 4 41), .n (.st 1 (.tmp 42) (.tmp 40))]) (.seq (.seq (.region [.m 43 0, .k 44 0]) (.block 2 [] (.loop [3,4,5,43,44] c160L1))) (.seq (.region [.o 2 (.mv (.const (.pointer none)))]) .ret))))))))
def F160:AFun:=⟨c160,1,60,[(.tmp 2)]⟩
def K160:Nat→List Nat×List Nat
 |0=>([5],[5])
 |1=>([],[5])
 |2=>([3,4,5,43,44],[])
 |3=>([],[3,4,5,43,44])
 |_=>([],[])
theorem F160_ok:kj8 Try.prog K160 Try.f160=some F160:=by kernel_rfl
/- 161: (*syndrome/store.Plan).numbers$1 -/
def c161:ACode:=(.seq (.region [.o 3 (.mv (.const (.bool false)))]) (.seq (.region [.o 4 (.l 1), .m 5 0, .o 6 (.q 115 [4,5]), .o 7 (.un .not (.tmp 6)), .m 3 7]) .ret))
def F161:AFun:=⟨c161,2,8,[(.tmp 3)]⟩
def K161:Nat→List Nat×List Nat
 |_=>([],[])
theorem F161_ok:kj8 Try.prog K161 Try.f161=some F161:=by kernel_rfl
/- 162: syndrome/matrix.Check -/
def c162L0:ACode:=(.seq (.region [.o 23 (.b .lss 22 21)]) (.seq (.cond (.tmp 23) .skip (.exit 0)) (.seq (.block 1 [1,5,20,21,22] (.seq (.region [.o 24 (.i 1 20 22), .o 25 (.l 24), .m 8 25]) (.seq (.seq (.region [.m 26 8, .o 27 (.n 26), .m 28 1, .o 29 (.iaddr 1 (.tmp 28) (.const (.int .i64 0))), .o 30 (.l 29), .o 31 (.n 30), .o 32 (.b .neq 27 31), .m 33 32, .g 34 (.m 8) 33 false, .g 35 (.n 34) 33 false, .g 36 (.c .eql 35 0) 33 false, .o 37 (.pick (.tmp 33) (.const (.bool true)) (.tmp 36))]) (.cond (.tmp 37) (.seq (.region [.k 4 3]) .ret) .skip)) (.seq (.seq (.region [.m 38 8, .o 39 (.n 38), .o 40 (.c .gtr 39 64)]) (.cond (.tmp 40) (.seq (.region [.k 4 4]) .ret) .skip)) (.seq (.region [.m 41 8, .o 42 (.mkf 207 [(.tmp 5)]), .o 43 (.q 113 [41,42])]) (.cond (.tmp 43) (.seq (.region [.k 4 2]) .ret) .skip)))))) (.region [.o 44 (.c .add 22 1), .m 22 44]))))
def c162:ACode:=(.seq (.region [.k 4 0]) (.seq (.region [.m 10 0, .o 11 (.q 76 [10]), .m 9 11, .o 12 (.e 0 9), .o 13 (.e 1 9), .o 5 (.alloc 104 [(.pointer none)]), .n (.st 1 (.tmp 5) (.tmp 12)), .m 6 13]) (.seq (.seq (.region [.m 14 6, .o 15 (.c .neq 14 0)]) (.cond (.tmp 15) (.seq (.region [.m 16 6, .m 4 16]) .ret) .skip)) (.seq (.seq (.region [.m 17 1, .o 18 (.n 17), .o 19 (.c .gtr 18 64)]) (.cond (.tmp 19) (.seq (.region [.k 4 4]) .ret) .skip)) (.seq (.seq (.region [.m 20 1, .o 21 (.n 20), .k 22 0]) (.block 0 [] (.loop [1,5,20,21,22] c162L0))) (.seq (.region [.k 4 0]) .ret))))))
def F162:AFun:=⟨c162,2,45,[(.tmp 4)]⟩
def K162:Nat→List Nat×List Nat
 |0=>([1,5,20,21,22],[])
 |1=>([],[1,5,20,21,22])
 |_=>([],[])
theorem F162_ok:kj8 Try.prog K162 Try.f162=some F162:=by kernel_rfl
/- 163: slices.IndexFunc[[][]int,[]int] -/
def c163L0:ACode:=(.seq (.region [.o 9 (.b .lss 8 7)]) (.seq (.cond (.tmp 9) .skip (.exit 0)) (.seq (.block 1 [0,1,7,8] (.seq (.region [.m 10 8, .m 5 10]) (.seq (.region [.m 11 1, .m 12 0, .m 13 5, .o 14 (.i 1 12 13), .o 15 (.l 14), .o 16 (.calld (.tmp 11) [(.tmp 15)])]) (.cond (.tmp 16) (.seq (.region [.m 17 5, .m 4 17]) .ret) .skip)))) (.region [.o 18 (.c .add 8 1), .m 8 18]))))
def c163:ACode:=(.seq (.region [.k 4 0]) (.seq (.seq (.region [.m 6 0, .o 7 (.n 6), .k 8 0]) (.block 0 [] (.loop [0,1,7,8] c163L0))) (.seq (.region [.k 4 (-1)]) .ret)))
def F163:AFun:=⟨c163,2,19,[(.tmp 4)]⟩
def K163:Nat→List Nat×List Nat
 |0=>([0,1,7,8],[])
 |1=>([],[0,1,7,8])
 |_=>([],[])
theorem F163_ok:kj8 Try.prog K163 Try.f163=some F163:=by kernel_rfl
/- 164: syndrome/store.wide$1 -/
def c164:ACode:=(.seq (.region [.o 3 (.mv (.const (.bool false)))]) (.seq (.region [.m 4 0, .o 5 (.l 1), .o 6 (.i 1 4 5), .o 7 (.l 6), .o 8 (.c .neq 7 0), .m 3 8]) .ret))
def F164:AFun:=⟨c164,2,9,[(.tmp 3)]⟩
def K164:Nat→List Nat×List Nat
 |_=>([],[])
theorem F164_ok:kj8 Try.prog K164 Try.f164=some F164:=by kernel_rfl
/- 165: (*syndrome/field.Field).Inv -/
def c165:ACode:=(.seq (.region [.k 4 0]) (.seq (.seq (.region [.m 5 0, .m 6 1, .o 7 (.q 115 [5,6]), .o 8 (.un .not (.tmp 7)), .m 9 8, .g 10 (.m 1) 9 false, .g 11 (.c .eql 10 0) 9 false, .o 12 (.pick (.tmp 9) (.const (.bool true)) (.tmp 11))]) (.cond (.tmp 12) (.seq (.region [.k 4 (-1)]) .ret) .skip)) (.seq (.region [.m 13 0, .o 14 (.nilck (.tmp 13)), .o 15 (.f 5 14), .o 16 (.l 15), .m 17 0, .o 18 (.nilck (.tmp 17)), .o 19 (.f 0 18), .o 20 (.l 19), .o 21 (.c .sub 20 1), .m 22 0, .o 23 (.nilck (.tmp 22)), .o 24 (.f 6 23), .o 25 (.l 24), .m 26 1, .o 27 (.i 1 25 26), .o 28 (.l 27), .o 29 (.b .sub 21 28), .m 30 0, .o 31 (.nilck (.tmp 30)), .o 32 (.f 0 31), .o 33 (.l 32), .o 34 (.c .sub 33 1), .o 35 (.b .rem 29 34), .o 36 (.i 1 16 35), .o 37 (.l 36), .m 4 37]) .ret)))
def F165:AFun:=⟨c165,2,38,[(.tmp 4)]⟩
def K165:Nat→List Nat×List Nat
 |_=>([],[])
theorem F165_ok:kj8 Try.prog K165 Try.f165=some F165:=by kernel_rfl
/- 166: (*syndrome/field.Field).Sub -/
def c166:ACode:=(.seq (.region [.k 6 0]) (.seq (.region [.m 7 0, .m 8 1, .m 9 0, .m 10 2, .o 11 (.q 185 [9,10]), .o 12 (.q 83 [7,8,11]), .m 6 12]) .ret))
def F166:AFun:=⟨c166,3,13,[(.tmp 6)]⟩
def K166:Nat→List Nat×List Nat
 |_=>([],[])
theorem F166_ok:kj8 Try.prog K166 Try.f166=some F166:=by kernel_rfl
/- 167: syndrome/store.wide$2 -/
def c167:ACode:=(.seq (.region [.o 2 (.mv (.const (.bool false)))]) (.seq (.region [.m 3 0, .o 4 (.c .neq 3 0), .m 2 4]) .ret))
def F167:AFun:=⟨c167,1,5,[(.tmp 2)]⟩
def K167:Nat→List Nat×List Nat
 |_=>([],[])
theorem F167_ok:kj8 Try.prog K167 Try.f167=some F167:=by kernel_rfl
/- 168: slices.Index[[]int,int] -/
def c168L0:ACode:=(.seq (.region [.o 9 (.b .lss 8 7)]) (.seq (.cond (.tmp 9) .skip (.exit 0)) (.seq (.block 1 [0,1,7,8] (.seq (.region [.m 10 8, .m 5 10]) (.seq (.region [.m 11 1, .m 12 0, .m 13 5, .o 14 (.i 1 12 13), .o 15 (.l 14), .o 16 (.b .eql 11 15)]) (.cond (.tmp 16) (.seq (.region [.m 17 5, .m 4 17]) .ret) .skip)))) (.region [.o 18 (.c .add 8 1), .m 8 18]))))
def c168:ACode:=(.seq (.region [.k 4 0]) (.seq (.seq (.region [.m 6 0, .o 7 (.n 6), .k 8 0]) (.block 0 [] (.loop [0,1,7,8] c168L0))) (.seq (.region [.k 4 (-1)]) .ret)))
def F168:AFun:=⟨c168,2,19,[(.tmp 4)]⟩
def K168:Nat→List Nat×List Nat
 |0=>([0,1,7,8],[])
 |1=>([],[0,1,7,8])
 |_=>([],[])
theorem F168_ok:kj8 Try.prog K168 Try.f168=some F168:=by kernel_rfl
end Go.Proofs.Ytmhbpecdpiapgaa
