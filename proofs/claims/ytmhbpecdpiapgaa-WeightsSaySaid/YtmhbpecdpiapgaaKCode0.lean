/-
  Functions of this seat as the small machine's code, written by a program of my own (gen.py); each is checked to be what the model's function is turned into. No condition.
-/
import Derived.Test.YtmhbpecdpiapgaaK1
import Derived.Test.YtmhbpecdpiapgaaProg
set_option linter.unusedVariables false
set_option linter.unusedSimpArgs false
set_option linter.unusedSectionVars false
set_option maxRecDepth 100000
namespace Go.Proofs.Ytmhbpecdpiapgaa
open Go.Am
/- 5: syndrome/syndromelaw.WeightsSay -/
def c5:ACode:=(.seq (.region [.o 10 (.mv (.const (.bool false)))]) (.seq (.seq (.region [.m 16 4, .o 17 (.n 16), .o 18 (.c .gtr 17 100)]) (.cond (.tmp 18) (.seq (.region [.o 10 (.mv (.const (.bool true)))]) .ret) .skip)) (.seq (.region [.m 19 0, .m 20 1, .o 21 (.q 33 [19,20]), .m 11 21]) (.seq (.region [.m 22 11, .m 12 22]) (.seq (.seq (.region [.m 23 12, .o 24 (.c .eql 23 0), .m 25 24, .g 26 (.m 2) 25 true, .g 27 (.c .lss 26 0) 25 true, .g 28 (.m 27) 25 true, .g 29 (.m 2) 28 false, .g 30 (.m 1) 28 false, .g 31 (.b .gtr 29 30) 28 false, .g 32 (.pick (.tmp 28) (.const (.bool true)) (.tmp 31)) 25 true, .g 33 (.m 32) 25 true, .g 34 (.m 3) 33 false, .g 35 (.c .lss 34 0) 33 false, .g 36 (.pick (.tmp 33) (.const (.bool true)) (.tmp 35)) 25 true, .g 37 (.m 36) 25 true, .g 38 (.m 3) 37 false, .g 39 (.m 1) 37 false, .g 40 (.b .gtr 38 39) 37 false, .g 41 (.pick (.tmp 37) (.const (.bool true)) (.tmp 40)) 25 true, .o 42 (.pick (.tmp 25) (.tmp 41) (.const (.bool false)))]) (.cond (.tmp 42) (.region [.k 12 10]) .skip)) (.seq (.region [.k 13 0]) (.seq (.seq (.region [.m 43 12, .o 44 (.c .eql 43 0)]) (.cond (.tmp 44) (.region [.m 45 0, .m 46 1, .m 47 2, .m 48 3, .o 49 (.q 34 [45,46,47,48]), .m 13 49]) .skip)) (.seq (.region [.m 51 0, .m 52 1, .m 53 2, .m 54 3, .o 55 (.q 35 [51,52,53,54]), .m 50 55, .o 56 (.e 0 50), .o 57 (.e 1 50), .m 14 56, .m 15 57]) (.seq (.region [.m 58 0, .m 59 1, .o 60 (.q 36 [58,59]), .m 61 11, .o 62 (.b .eql 60 61), .m 63 62, .g 64 (.m 14) 63 true, .g 65 (.m 15) 63 true, .g 66 (.m 13) 63 true, .g 67 (.m 12) 63 true, .g 68 (.q 28 [64,65,66,67]) 63 true, .o 69 (.pick (.tmp 63) (.tmp 68) (.const (.bool false))), .m 70 69, .g 71 (.m 0) 70 true, .g 72 (.m 1) 70 true, .g 73 (.m 2) 70 true, .g 74 (.m 11) 70 true, .g 75 (.q 37 [71,72,73,74]) 70 true, .o 76 (.pick (.tmp 70) (.tmp 75) (.const (.bool false))), .m 77 76, .g 78 (.m 0) 77 true, .g 79 (.m 4) 77 true, .g 80 (.q 38 [78,79]) 77 true, .o 81 (.pick (.tmp 77) (.tmp 80) (.const (.bool false))), .m 82 81, .g 83 (.m 0) 82 true, .g 84 (.m 1) 82 true, .g 85 (.m 2) 82 true, .g 86 (.q 39 [83,84,85]) 82 true, .o 87 (.pick (.tmp 82) (.tmp 86) (.const (.bool false))), .m 10 87]) .ret)))))))))
def F5:AFun:=⟨c5,5,88,[(.tmp 10)]⟩
def K5:Nat→List Nat×List Nat
 |_=>([],[])
theorem F5_ok:kj8 Try.prog K5 Try.f5=some F5:=by kernel_rfl
/- 19: syndrome/syndromeref.Same -/
def c19L0:ACode:=(.seq (.seq (.region [.m 11 5, .m 12 0, .o 13 (.n 12), .o 14 (.b .lss 11 13)]) (.cond (.tmp 14) .skip (.exit 0))) (.seq (.block 1 [0,1,5] (.seq (.region [.m 17 0, .m 18 5, .o 19 (.i 1 17 18), .o 20 (.l 19), .m 21 1, .m 22 5, .o 23 (.i 1 21 22), .o 24 (.l 23), .o 25 (.b .neq 20 24)]) (.cond (.tmp 25) (.seq (.region [.o 4 (.mv (.const (.bool false)))]) .ret) .skip))) (.region [.m 15 5, .o 16 (.c .add 15 1), .m 5 16])))
def c19:ACode:=(.seq (.region [.o 4 (.mv (.const (.bool false)))]) (.seq (.seq (.region [.m 6 0, .o 7 (.n 6), .m 8 1, .o 9 (.n 8), .o 10 (.b .neq 7 9)]) (.cond (.tmp 10) (.seq (.region [.o 4 (.mv (.const (.bool false)))]) .ret) .skip)) (.seq (.seq (.region [.k 5 0]) (.block 0 [] (.loop [0,1,5] c19L0))) (.seq (.region [.o 4 (.mv (.const (.bool true)))]) .ret))))
def F19:AFun:=⟨c19,2,26,[(.tmp 4)]⟩
def K19:Nat→List Nat×List Nat
 |0=>([0,1,5],[])
 |1=>([],[0,1,5])
 |_=>([],[])
theorem F19_ok:kj8 Try.prog K19 Try.f19=some F19:=by kernel_rfl
/- 27: syndrome/syndromelaw.list -/
def c27:ACode:=(.seq (.region [.o 8 (.mv (.const (.bool false)))]) (.seq (.seq (.region [.m 9 3, .o 10 (.c .neq 9 0)]) (.cond (.tmp 10) (.seq (.region [.m 11 1, .m 12 3, .o 13 (.b .eql 11 12), .m 14 13, .g 15 (.m 0) 14 true, .g 16 (.n 15) 14 true, .g 17 (.c .eql 16 0) 14 true, .o 18 (.pick (.tmp 14) (.tmp 17) (.const (.bool false))), .m 8 18]) .ret) .skip)) (.seq (.region [.m 19 1, .o 20 (.c .eql 19 0), .m 21 20, .g 22 (.m 0) 21 true, .g 23 (.m 2) 21 true, .g 24 (.q 19 [22,23]) 21 true, .o 25 (.pick (.tmp 21) (.tmp 24) (.const (.bool false))), .m 8 25]) .ret)))
def F27:AFun:=⟨c27,4,26,[(.tmp 8)]⟩
def K27:Nat→List Nat×List Nat
 |_=>([],[])
theorem F27_ok:kj8 Try.prog K27 Try.f27=some F27:=by kernel_rfl
/- 28: syndrome/syndromelaw.num -/
def c28:ACode:=(.seq (.region [.o 8 (.mv (.const (.bool false)))]) (.seq (.seq (.region [.m 9 3, .o 10 (.c .neq 9 0)]) (.cond (.tmp 10) (.seq (.region [.m 11 1, .m 12 3, .o 13 (.b .eql 11 12), .m 14 13, .g 15 (.m 0) 14 true, .g 16 (.c .eql 15 0) 14 true, .o 17 (.pick (.tmp 14) (.tmp 16) (.const (.bool false))), .m 8 17]) .ret) .skip)) (.seq (.region [.m 18 1, .o 19 (.c .eql 18 0), .m 20 19, .g 21 (.m 0) 20 true, .g 22 (.m 2) 20 true, .g 23 (.b .eql 21 22) 20 true, .o 24 (.pick (.tmp 20) (.tmp 23) (.const (.bool false))), .m 8 24]) .ret)))
def F28:AFun:=⟨c28,4,25,[(.tmp 8)]⟩
def K28:Nat→List Nat×List Nat
 |_=>([],[])
theorem F28_ok:kj8 Try.prog K28 Try.f28=some F28:=by kernel_rfl
/- 33: syndrome/syndromeref.CountMay -/
def c33:ACode:=(.seq (.region [.k 4 0]) (.seq (.region [.m 8 0, .o 9 (.q 95 [8]), .m 7 9, .o 10 (.e 0 7), .o 11 (.e 1 7), .o 5 (.alloc 121 [(.int .i64 0),(.int .i64 0),(.int .i64 0),(.int .i64 0),(.slice none 0 0)]), .n (.st 5 (.tmp 5) (.tmp 10)), .m 6 11]) (.seq (.seq (.region [.m 12 6, .o 13 (.c .eql 12 0), .m 14 13, .g 15 (.m 1) 14 true, .g 16 (.c .lss 15 1) 14 true, .g 17 (.m 16) 14 true, .g 18 (.m 0) 17 false, .g 19 (.m 1) 17 false, .g 20 (.q 99 [18,19]) 17 false, .g 21 (.c .lss 20 0) 17 false, .g 22 (.pick (.tmp 17) (.const (.bool true)) (.tmp 21)) 14 true, .o 23 (.pick (.tmp 14) (.tmp 22) (.const (.bool false)))]) (.cond (.tmp 23) (.region [.k 6 4]) .skip)) (.seq (.region [.m 24 6, .m 4 24]) .ret))))
def F33:AFun:=⟨c33,2,25,[(.tmp 4)]⟩
def K33:Nat→List Nat×List Nat
 |_=>([],[])
theorem F33_ok:kj8 Try.prog K33 Try.f33=some F33:=by kernel_rfl
/- 34: syndrome/syndromeref.Kraw -/
def c34L0:ACode:=(.seq (.seq (.region [.m 29 12, .o 30 (.c .gtr 29 0)]) (.cond (.tmp 30) .skip (.exit 2))) (.seq (.block 3 [0,1,2,3,9,10,11,12] (.region [.m 33 9, .m 34 12, .m 35 9, .m 36 12, .o 37 (.i 1 35 36), .o 38 (.l 37), .m 39 11, .m 40 9, .m 41 12, .o 42 (.c .sub 41 1), .o 43 (.i 1 40 42), .o 44 (.l 43), .o 45 (.b .mul 39 44), .o 46 (.b .add 38 45), .o 47 (.i 1 33 34), .n (.st 1 (.tmp 47) (.tmp 46))])) (.region [.m 31 12, .o 32 (.c .sub 31 1), .m 12 32])))
def c34L1:ACode:=(.seq (.seq (.region [.m 18 10, .m 19 1, .o 20 (.b .lss 18 19)]) (.cond (.tmp 20) .skip (.exit 0))) (.seq (.block 1 [0,1,2,3,9,10] (.seq (.region [.m 23 0, .o 24 (.c .sub 23 1), .m 11 24]) (.seq (.seq (.region [.m 25 10, .m 26 3, .o 27 (.b .lss 25 26)]) (.cond (.tmp 27) (.region [.k 11 (-1)]) .skip)) (.seq (.region [.m 28 1, .m 12 28]) (.block 2 [0,1,2,3,9,10] (.loop [0,1,2,3,9,10,11,12] c34L0)))))) (.region [.m 21 10, .o 22 (.c .add 21 1), .m 10 22])))
def c34:ACode:=(.seq (.region [.k 8 0]) (.seq (.region [.m 13 1, .o 14 (.c .add 13 1), .o 15 (.mks 3 1 8 [(.int .i64 0)] (.tmp 14) (.tmp 14)), .m 9 15]) (.seq (.region [.m 16 9, .o 17 (.iaddr 1 (.tmp 16) (.const (.int .i64 0))), .n (.st 1 (.tmp 17) (.const (.int .i64 1)))]) (.seq (.seq (.region [.k 10 0]) (.block 0 [2,9] (.loop [0,1,2,3,9,10] c34L1))) (.seq (.region [.m 48 9, .m 49 2, .o 50 (.i 1 48 49), .o 51 (.l 50), .m 8 51]) .ret)))))
def F34:AFun:=⟨c34,4,52,[(.tmp 8)]⟩
def K34:Nat→List Nat×List Nat
 |0=>([0,1,2,3,9,10],[2,9])
 |1=>([],[0,1,2,3,9,10])
 |2=>([0,1,2,3,9,10,11,12],[0,1,2,3,9,10])
 |3=>([],[0,1,2,3,9,10,11,12])
 |_=>([],[])
theorem F34_ok:kj8 Try.prog K34 Try.f34=some F34:=by kernel_rfl
/- 35: syndrome/weights.Krawtchouk -/
def c35:ACode:=(.seq (.region [.k 8 0, .k 9 0]) (.seq (.seq (.region [.m 11 0, .m 12 1, .o 13 (.q 36 [11,12]), .m 10 13]) (.seq (.region [.m 14 10, .o 15 (.c .neq 14 0)]) (.cond (.tmp 15) (.seq (.region [.m 16 10, .k 8 0, .m 9 16]) .ret) .skip))) (.seq (.seq (.region [.m 17 2, .o 18 (.c .lss 17 0), .m 19 18, .g 20 (.m 2) 19 false, .g 21 (.m 1) 19 false, .g 22 (.b .gtr 20 21) 19 false, .o 23 (.pick (.tmp 19) (.const (.bool true)) (.tmp 22)), .m 24 23, .g 25 (.m 3) 24 false, .g 26 (.c .lss 25 0) 24 false, .o 27 (.pick (.tmp 24) (.const (.bool true)) (.tmp 26)), .m 28 27, .g 29 (.m 3) 28 false, .g 30 (.m 1) 28 false, .g 31 (.b .gtr 29 30) 28 false, .o 32 (.pick (.tmp 28) (.const (.bool true)) (.tmp 31))]) (.cond (.tmp 32) (.seq (.region [.k 8 0, .k 9 10]) .ret) .skip)) (.seq (.region [.m 33 0, .m 34 1, .m 35 2, .m 36 3, .o 37 (.q 100 [33,34,35,36]), .m 8 37, .k 9 0]) .ret))))
def F35:AFun:=⟨c35,4,38,[(.tmp 8),(.tmp 9)]⟩
def K35:Nat→List Nat×List Nat
 |_=>([],[])
theorem F35_ok:kj8 Try.prog K35 Try.f35=some F35:=by kernel_rfl
/- 36: syndrome/weights.Check -/
def c36:ACode:=(.seq (.region [.k 4 0]) (.seq (.seq (.region [.m 8 0, .o 9 (.q 76 [8]), .m 7 9, .o 10 (.e 0 7), .o 11 (.e 1 7), .m 5 10, .m 6 11]) (.seq (.region [.m 12 6, .o 13 (.c .neq 12 0)]) (.cond (.tmp 13) (.seq (.region [.m 14 6, .m 4 14]) .ret) .skip))) (.seq (.seq (.region [.m 15 1, .o 16 (.c .lss 15 1), .m 17 16, .g 18 (.m 0) 17 false, .g 19 (.m 1) 17 false, .g 20 (.q 101 [18,19]) 17 false, .g 21 (.c .lss 20 0) 17 false, .o 22 (.pick (.tmp 17) (.const (.bool true)) (.tmp 21))]) (.cond (.tmp 22) (.seq (.region [.k 4 4]) .ret) .skip)) (.seq (.region [.k 4 0]) .ret))))
def F36:AFun:=⟨c36,2,23,[(.tmp 4)]⟩
def K36:Nat→List Nat×List Nat
 |_=>([],[])
theorem F36_ok:kj8 Try.prog K36 Try.f36=some F36:=by kernel_rfl
/- 37: syndrome/syndromelaw.bounds -/
def c37:ACode:=(.seq (.region [.o 8 (.mv (.const (.bool false)))]) (.seq (.seq (.region [.m 19 3, .o 20 (.c .eql 19 0), .m 21 20, .g 22 (.m 2) 21 true, .g 23 (.c .lss 22 1) 21 true, .g 24 (.m 23) 21 true, .g 25 (.m 2) 24 false, .g 26 (.m 1) 24 false, .g 27 (.b .gtr 25 26) 24 false, .g 28 (.pick (.tmp 24) (.const (.bool true)) (.tmp 27)) 21 true, .o 29 (.pick (.tmp 21) (.tmp 28) (.const (.bool false)))]) (.cond (.tmp 29) (.region [.k 3 10]) .skip)) (.seq (.region [.o 30 (.mkSl 3 1 4 [(.const (.int .i64 0)),(.const (.int .i64 0)),(.const (.int .i64 0)),(.const (.int .i64 0))]), .m 9 30]) (.seq (.seq (.region [.m 31 3, .o 32 (.c .eql 31 0)]) (.cond (.tmp 32) (.seq (.region [.m 33 0, .m 34 1, .o 35 (.q 99 [33,34]), .m 10 35]) (.seq (.region [.m 36 10, .m 37 0, .m 38 1, .m 39 2, .o 40 (.c .sub 39 1), .o 41 (.c .quo 40 2), .o 42 (.q 102 [37,38,41]), .o 43 (.b .quo 36 42), .m 44 0, .m 45 1, .m 46 2, .o 47 (.b .sub 45 46), .o 48 (.c .add 47 1), .o 49 (.q 99 [44,48]), .m 50 10, .m 51 0, .m 52 1, .m 53 2, .o 54 (.c .sub 53 1), .o 55 (.q 102 [51,52,54]), .o 56 (.q 103 [50,55]), .o 57 (.mkSl 3 1 4 [(.tmp 43),(.tmp 49),(.const (.int .i64 0)),(.tmp 56)]), .m 9 57]) (.seq (.region [.m 58 0, .m 59 2, .o 60 (.b .mul 58 59), .m 61 1, .m 62 0, .o 63 (.c .sub 62 1), .o 64 (.b .mul 61 63), .o 65 (.b .gtr 60 64)]) (.cond (.tmp 65) (.region [.m 66 9, .m 67 0, .m 68 2, .o 69 (.b .mul 67 68), .m 70 0, .m 71 2, .o 72 (.b .mul 70 71), .m 73 1, .m 74 0, .o 75 (.c .sub 74 1), .o 76 (.b .mul 73 75), .o 77 (.b .sub 72 76), .o 78 (.b .quo 69 77), .o 79 (.iaddr 1 (.tmp 66) (.const (.int .i64 2))), .n (.st 1 (.tmp 79) (.tmp 78))]) .skip)))) .skip)) (.seq (.region [.m 81 0, .m 82 1, .m 83 2, .o 84 (.q 104 [81,82,83]), .m 80 84, .o 85 (.e 0 80), .o 86 (.e 1 80), .m 11 85, .m 12 86]) (.seq (.region [.m 88 0, .m 89 1, .m 90 2, .o 91 (.q 105 [88,89,90]), .m 87 91, .o 92 (.e 0 87), .o 93 (.e 1 87), .m 13 92, .m 14 93]) (.seq (.region [.m 95 0, .m 96 1, .m 97 2, .o 98 (.q 106 [95,96,97]), .m 94 98, .o 99 (.e 0 94), .o 100 (.e 1 94), .m 15 99, .m 16 100]) (.seq (.region [.m 102 0, .m 103 1, .m 104 2, .o 105 (.q 107 [102,103,104]), .m 101 105, .o 106 (.e 0 101), .o 107 (.e 1 101), .m 17 106, .m 18 107]) (.seq (.region [.m 108 11, .m 109 12, .m 110 9, .o 111 (.iaddr 1 (.tmp 110) (.const (.int .i64 0))), .o 112 (.l 111), .m 113 3, .o 114 (.q 28 [108,109,112,113]), .m 115 114, .g 116 (.m 13) 115 true, .g 117 (.m 14) 115 true, .g 118 (.m 9) 115 true, .g 119 (.iaddr 1 (.tmp 118) (.const (.int .i64 1))) 115 true, .g 120 (.l 119) 115 true, .g 121 (.m 3) 115 true, .g 122 (.q 28 [116,117,120,121]) 115 true, .o 123 (.pick (.tmp 115) (.tmp 122) (.const (.bool false))), .m 124 123, .g 125 (.m 15) 124 true, .g 126 (.m 16) 124 true, .g 127 (.m 9) 124 true, .g 128 (.iaddr 1 (.tmp 127) (.const (.int .i64 2))) 124 true, .g 129 (.l 128) 124 true, .g 130 (.m 3) 124 true, .g 131 (.q 28 [125,126,129,130]) 124 true, .o 132 (.pick (.tmp 124) (.tmp 131) (.const (.bool false))), .m 133 132, .g 134 (.m 17) 133 true, .g 135 (.m 18) 133 true, .g 136 (.m 9) 133 true, .g 137 (.iaddr 1 (.tmp 136) (.const (.int .i64 3))) 133 true, .g 138 (.l 137) 133 true, .g 139 (.m 3) 133 true, .g 140 (.q 28 [134,135,138,139]) 133 true, .o 141 (.pick (.tmp 133) (.tmp 140) (.const (.bool false))), .m 8 141]) .ret)))))))))
def F37:AFun:=⟨c37,4,142,[(.tmp 8)]⟩
def K37:Nat→List Nat×List Nat
 |_=>([],[])
theorem F37_ok:kj8 Try.prog K37 Try.f37=some F37:=by kernel_rfl
/- 38: syndrome/syndromelaw.turned -/
def c38L0:ACode:=(.seq (.seq (.region [.m 20 8, .m 21 5, .o 22 (.b .leq 20 21), .m 23 22, .g 24 (.m 6) 23 true, .g 25 (.c .eql 24 0) 23 true, .o 26 (.pick (.tmp 23) (.tmp 25) (.const (.bool false)))]) (.cond (.tmp 26) .skip (.exit 0))) (.seq (.block 1 [0,1,5,6,7,8] (.seq (.region [.m 29 1, .m 30 8, .o 31 (.i 1 29 30), .o 32 (.l 31), .o 33 (.c .lss 32 0), .m 34 33, .g 35 (.m 1) 34 false, .g 36 (.m 8) 34 false, .g 37 (.i 1 35 36) 34 false, .g 38 (.l 37) 34 false, .g 39 (.m 0) 34 false, .g 40 (.m 5) 34 false,⟨(some 41),(.call 99 [(.tmp 39),(.tmp 40)]),(some (34,false)),true⟩, .g 42 (.b .gtr 38 41) 34 false, .o 43 (.pick (.tmp 34) (.const (.bool true)) (.tmp 42))]) (.cond (.tmp 43) (.region [.k 6 2]) (.region [.m 44 7, .m 45 1, .m 46 8, .o 47 (.i 1 45 46), .o 48 (.l 47), .o 49 (.b .add 44 48), .m 7 49])))) (.region [.m 27 8, .o 28 (.c .add 27 1), .m 8 28])))
def c38:ACode:=(.seq (.region [.o 4 (.mv (.const (.bool false)))]) (.seq (.region [.m 14 1, .o 15 (.n 14), .o 16 (.c .sub 15 1), .m 5 16]) (.seq (.region [.m 17 0, .m 18 5, .o 19 (.q 33 [17,18]), .m 6 19]) (.seq (.region [.k 7 0]) (.seq (.seq (.region [.k 8 0]) (.block 0 [0,1,5,6,7] (.loop [0,1,5,6,7,8] c38L0))) (.seq (.seq (.region [.m 50 6, .o 51 (.c .eql 50 0), .m 52 51, .g 53 (.m 7) 52 true, .g 54 (.m 0) 52 true, .g 55 (.m 5) 52 true, .g 56 (.q 99 [54,55]) 52 true, .g 57 (.b .gtr 53 56) 52 true, .o 58 (.pick (.tmp 52) (.tmp 57) (.const (.bool false)))]) (.cond (.tmp 58) (.region [.k 6 2]) .skip)) (.seq (.seq (.region [.m 59 6, .o 60 (.c .eql 59 0), .m 61 60, .g 62 (.m 7) 61 true, .g 63 (.c .eql 62 0) 61 true, .o 64 (.pick (.tmp 61) (.tmp 63) (.const (.bool false)))]) (.cond (.tmp 64) (.region [.k 6 5]) .skip)) (.seq (.region [.o 9 (.mv (.const (.slice none 0 0)))]) (.seq (.seq (.region [.m 65 6, .o 66 (.c .eql 65 0)]) (.cond (.tmp 66) (.seq (.region [.m 68 0, .m 69 1, .m 70 7, .o 71 (.q 108 [68,69,70]), .m 67 71, .o 72 (.e 0 67), .o 73 (.e 1 67), .m 10 72, .m 11 73]) (.seq (.region [.m 74 10, .m 9 74]) (.seq (.region [.m 75 11, .o 76 (.un .not (.tmp 75))]) (.cond (.tmp 76) (.region [.k 6 3]) .skip)))) .skip)) (.seq (.region [.m 78 0, .m 79 1, .o 80 (.q 109 [78,79]), .m 77 80, .o 81 (.e 0 77), .o 82 (.e 1 77), .m 12 81, .m 13 82]) (.seq (.region [.m 83 12, .m 84 13, .m 85 9, .m 86 6, .o 87 (.q 27 [83,84,85,86]), .m 4 87]) .ret)))))))))))
def F38:AFun:=⟨c38,2,88,[(.tmp 4)]⟩
def K38:Nat→List Nat×List Nat
 |0=>([0,1,5,6,7,8],[0,1,5,6,7])
 |1=>([],[0,1,5,6,7,8])
 |_=>([],[])
theorem F38_ok:kj8 Try.prog K38 Try.f38=some F38:=by kernel_rfl
/- 39: syndrome/syndromelaw.griesmer -/
def c39L0:ACode:=(.seq (.seq (.region [.m 43 12, .m 44 1, .o 45 (.b .lss 43 44), .m 46 45, .g 47 (.m 8) 46 true, .g 48 (.c .eql 47 0) 46 true, .o 49 (.pick (.tmp 46) (.tmp 48) (.const (.bool false)))]) (.cond (.tmp 49) .skip (.exit 0))) (.seq (.block 1 [0,1,2,8,9,10,11,12] (.seq (.region [.m 52 11, .m 53 2, .o 54 (.b .add 52 53), .m 11 54]) (.region [.m 55 2, .m 56 0, .o 57 (.q 103 [55,56]), .m 2 57]))) (.region [.m 50 12, .o 51 (.c .add 50 1), .m 12 51])))
def c39:ACode:=(.seq (.region [.o 6 (.mv (.const (.bool false)))]) (.seq (.region [.m 14 0, .o 15 (.q 95 [14]), .m 13 15, .o 16 (.e 0 13), .o 17 (.e 1 13), .o 7 (.alloc 121 [(.int .i64 0),(.int .i64 0),(.int .i64 0),(.int .i64 0),(.slice none 0 0)]), .n (.st 5 (.tmp 7) (.tmp 16)), .m 8 17]) (.seq (.seq (.region [.m 18 8, .o 19 (.c .eql 18 0), .m 20 19, .g 21 (.m 1) 20 true, .g 22 (.c .lss 21 1) 20 true, .g 23 (.m 22) 20 true, .g 24 (.m 1) 23 false, .g 25 (.c .gtr 24 64) 23 false, .g 26 (.pick (.tmp 23) (.const (.bool true)) (.tmp 25)) 20 true, .g 27 (.m 26) 20 true, .g 28 (.m 2) 27 false, .g 29 (.c .lss 28 1) 27 false, .g 30 (.pick (.tmp 27) (.const (.bool true)) (.tmp 29)) 20 true, .g 31 (.m 30) 20 true, .g 32 (.m 2) 31 false, .g 33 (.c .gtr 32 64) 31 false, .g 34 (.pick (.tmp 31) (.const (.bool true)) (.tmp 33)) 20 true, .o 35 (.pick (.tmp 20) (.tmp 34) (.const (.bool false)))]) (.cond (.tmp 35) (.region [.k 8 4]) .skip)) (.seq (.region [.m 37 0, .m 38 1, .m 39 2, .o 40 (.q 110 [37,38,39]), .m 36 40, .o 41 (.e 0 36), .o 42 (.e 1 36), .m 9 41, .m 10 42]) (.seq (.region [.k 11 0]) (.seq (.seq (.region [.k 12 0]) (.block 0 [8,9,10,11] (.loop [0,1,2,8,9,10,11,12] c39L0))) (.seq (.region [.m 58 9, .m 59 10, .m 60 11, .m 61 8, .o 62 (.q 28 [58,59,60,61]), .m 6 62]) .ret)))))))
def F39:AFun:=⟨c39,3,63,[(.tmp 6)]⟩
def K39:Nat→List Nat×List Nat
 |0=>([0,1,2,8,9,10,11,12],[8,9,10,11])
 |1=>([],[0,1,2,8,9,10,11,12])
 |_=>([],[])
theorem F39_ok:kj8 Try.prog K39 Try.f39=some F39:=by kernel_rfl
/- 76: syndrome/field.New -/
def zk5:List Value:=[(.int .u32 0),(.int .i32 0),(.int .u32 0),(.int .u32 0),(.int .i32 0),(.int .u32 0),(.int .u32 0),(.int .i32 0),(.int .u32 0),(.int .u32 0),(.int .i32 0),(.int .u32 0),(.int .u32 0),(.int .i32 0),(.int .u32 0),(.int .u32 0),(.int .i32 0),(.int .u32 0),(.int .u32 0),(.int .i32 0),(.int .u32 0),(.int .u32 0),(.int .i32 0),(.int .u32 0),(.int .u32 0),(.int .i32 0),(.int .u32 0),(.int .u32 0),(.int .i32 0),(.int .u32 0),(.int .u32 0),(.int .i32 0),(.int .u32 0),(.int .u32 0),(.int .i32 0),(.int .u32 0),(.int .u32 0),(.int .i32 0),(.int .u32 0),(.int .u32 0),(.int .i32 0),(.int .u32 0),(.int .u32 0),(.int .i32 0),(.int .u32 0),(.int .u32 0),(.int .i32 0),(.int .u32 0),(.int .u32 0),(.int .i32 0),(.int .u32 0),(.int .u32 0),(.int .i32 0),(.int .u32 0),(.int .u32 0),(.int .i32 0),(.int .u32 0),(.int .u32 0),(.int .i32 0),(.int .u32 0),(.int .u32 0),(.int .i32 0),(.int .u32 0),(.int .u32 0),(.int .i32 0),(.int .u32 0),(.int .u32 0),(.int .i32 0),(.int .u32 0),(.int .u32 0),(.int .i32 0),(.int .u32 0),(.int .u32 0),(.int .i32 0),(.int .u32 0),(.int .u32 0),(.int .i32 0),(.int .u32 0),(.int .u32 0),(.int .i32 0),(.int .u32 0),(.int .u32 0),(.int .i32 0),(.int .u32 0),(.int .u32 0),(.int .i32 0),(.int .u32 0),(.int .u32 0),(.int .i32 0),(.int .u32 0),(.int .u32 0),(.int .i32 0),(.int .u32 0),(.int .u32 0),(.int .i32 0),(.int .u32 0),(.int .u32 0),(.int .i32 0),(.int .u32 0),(.int .u32 0),(.int .i32 0),(.int .u32 0),(.int .u32 0),(.int .i32 0),(.int .u32 0),(.int .u32 0),(.int .i32 0),(.int .u32 0),(.int .u32 0),(.int .i32 0),(.int .u32 0),(.int .u32 0),(.int .i32 0),(.int .u32 0),(.int .u32 0),(.int .i32 0),(.int .u32 0),(.int .u32 0),(.int .i32 0),(.int .u32 0),(.int .u32 0),(.int .i32 0),(.int .u32 0),(.int .u32 0),(.int .i32 0),(.int .u32 0),(.int .u32 0),(.int .i32 0),(.int .u32 0),(.int .u32 0),(.int .i32 0),(.int .u32 0),(.int .u32 0),(.int .i32 0),(.int .u32 0),(.int .u32 0),(.int .i32 0),(.int .u32 0),(.int .u32 0),(.int .i32 0),(.int .u32 0),(.int .u32 0),(.int .i32 0),(.int .u32 0),(.int .u32 0),(.int .i32 0),(.int .u32 0),(.int .u32 0),(.int .i32 0),(.int .u32 0),(.int .u32 0),(.int .i32 0),(.int .u32 0),(.int .u32 0),(.int .i32 0),(.int .u32 0),(.int .u32 0),(.int .i32 0),(.int .u32 0),(.int .u32 0),(.int .i32 0),(.int .u32 0),(.int .u32 0),(.int .i32 0),(.int .u32 0),(.int .u32 0),(.int .i32 0),(.int .u32 0),(.int .u32 0),(.int .i32 0),(.int .u32 0),(.int .u32 0),(.int .i32 0),(.int .u32 0),(.int .u32 0),(.int .i32 0),(.int .u32 0),(.int .u32 0),(.int .i32 0),(.int .u32 0),(.int .u32 0),(.int .i32 0),(.int .u32 0),(.int .u32 0),(.int .i32 0),(.int .u32 0),(.int .u32 0),(.int .i32 0),(.int .u32 0),(.int .u32 0),(.int .i32 0),(.int .u32 0),(.int .u32 0),(.int .i32 0),(.int .u32 0),(.pointer none),(.pointer none),(.pointer none),(.pointer none),(.pointer none),(.pointer none),(.pointer none),(.pointer none),(.pointer none),(.pointer none),(.pointer none),(.pointer none),(.pointer none),(.pointer none),(.pointer none),(.pointer none),(.pointer none),(.pointer none),(.pointer none),(.pointer none),(.pointer none),(.pointer none),(.pointer none),(.pointer none),(.pointer none),(.pointer none),(.pointer none),(.pointer none),(.pointer none),(.pointer none),(.pointer none),(.pointer none),(.pointer none),(.pointer none),(.pointer none),(.pointer none),(.pointer none),(.pointer none),(.pointer none),(.pointer none),(.pointer none),(.pointer none),(.pointer none),(.pointer none),(.pointer none),(.pointer none),(.pointer none),(.pointer none),(.pointer none),(.pointer none),(.pointer none),(.pointer none),(.pointer none),(.pointer none),(.pointer none),(.pointer none),(.pointer none),(.pointer none),(.pointer none),(.pointer none),(.pointer none),(.pointer none),(.pointer none),(.pointer none),(.pointer none)]
def c76:ACode:=(.seq (.region [.o 1 (.box 3 1 (.tmp 0)), .o 2 (.mv (.const (.pointer none))), .k 3 0]) (.seq (.seq (.region [.o 5 (.l 1), .o 6 (.c .lss 5 2), .m 7 6, .g 8 (.l 1) 7 false, .g 9 (.c .gtr 8 64) 7 false, .o 10 (.pick (.tmp 7) (.const (.bool true)) (.tmp 9))]) (.cond (.tmp 10) (.seq (.region [.o 2 (.mv (.const (.pointer none))), .k 3 1]) .ret) .skip)) (.seq (.region [.o 4 (.alloc 169 zk5)]) (.seq (.region [.o 11 (.l 1), .o 12 (.f 0 4), .o 13 (.iaddrA 65 3 (.tmp 12) (.tmp 11)), .o 14 (.mkf 159 [(.tmp 1),(.tmp 4)]), .o 15 (.q 158 [13,14])]) (.seq (.seq (.region [.o 16 (.l 1), .o 17 (.f 195 4), .o 18 (.iaddrA 65 1 (.tmp 17) (.tmp 16)), .o 19 (.l 18), .o 20 (.eqn false 1 (.tmp 19))]) (.cond (.tmp 20) (.seq (.region [.o 2 (.mv (.const (.pointer none))), .k 3 1]) .ret) .skip)) (.seq (.region [.o 21 (.l 1), .o 22 (.f 195 4), .o 23 (.iaddrA 65 1 (.tmp 22) (.tmp 21)), .o 24 (.l 23), .m 2 24, .k 3 0]) .ret))))))
def F76:AFun:=⟨c76,1,25,[(.tmp 2),(.tmp 3)]⟩
def K76:Nat→List Nat×List Nat
 |_=>([],[])
theorem F76_ok:kj8 Try.prog K76 Try.f76=some F76:=by kernel_rfl
/- 95: syndrome/syndromeref.Field -/
def c95L0:ACode:=(.seq (.seq (.region [.m 32 7, .m 33 0, .o 34 (.b .lss 32 33)]) (.cond (.tmp 34) .skip (.exit 0))) (.seq (.block 1 [0,2,4,5,6,7] (.seq (.region [.o 37 (.ld true 5 (.tmp 6)), .m 38 7, .o 39 (.q 176 [37,38])]) (.cond (.tmp 39) (.seq (.region [.m 40 7, .o 41 (.f 3 6), .n (.st 1 (.tmp 41) (.tmp 40))]) (.seq (.region [.o 42 (.ld true 5 (.tmp 6)), .n (.st 5 (.tmp 2) (.tmp 42)), .k 3 0]) .ret)) .skip))) (.region [.m 35 7, .o 36 (.c .add 35 1), .m 7 36])))
def c95L1:ACode:=(.seq (.seq (.region [.m 45 8, .m 46 0, .o 47 (.b .lss 45 46)]) (.cond (.tmp 47) .skip (.exit 2))) (.seq (.block 3 [0,2,4,5,6,8] (.seq (.region [.m 50 8, .m 51 4, .m 52 5, .o 53 (.q 177 [50,51,52]), .o 54 (.mkSl 3 1 1 [(.const (.int .i64 1))]), .o 55 (.app 3 1 8 (.tmp 53) (.tmp 54)), .o 56 (.f 4 6), .n (.st 1 (.tmp 56) (.tmp 55))]) (.seq (.region [.o 57 (.ld true 5 (.tmp 6)), .m 58 4, .o 59 (.q 176 [57,58])]) (.cond (.tmp 59) (.seq (.region [.o 60 (.ld true 5 (.tmp 6)), .n (.st 5 (.tmp 2) (.tmp 60)), .k 3 0]) .ret) .skip)))) (.region [.m 48 8, .o 49 (.c .add 48 1), .m 8 49])))
def c95:ACode:=(.seq (.region [.o 2 (.alloc 121 [(.int .i64 0),(.int .i64 0),(.int .i64 0),(.int .i64 0),(.slice none 0 0)]), .k 3 0]) (.seq (.seq (.region [.m 9 0, .o 10 (.c .lss 9 2), .m 11 10, .g 12 (.m 0) 11 false, .g 13 (.c .gtr 12 64) 11 false, .o 14 (.pick (.tmp 11) (.const (.bool true)) (.tmp 13))]) (.cond (.tmp 14) (.seq (.region [.o 15 (.build [(.int .i64 0),(.int .i64 0),(.int .i64 0),(.int .i64 0),(.slice none 0 0)] [(0,1),(1,1),(2,1),(3,1),(4,1)] []), .n (.st 5 (.tmp 2) (.tmp 15)), .k 3 1]) .ret) .skip)) (.seq (.region [.m 17 0, .o 18 (.q 175 [17]), .m 16 18, .o 19 (.e 0 16), .o 20 (.e 1 16), .m 4 19, .m 5 20]) (.seq (.seq (.region [.m 21 4, .o 22 (.c .eql 21 0)]) (.cond (.tmp 22) (.seq (.region [.o 23 (.build [(.int .i64 0),(.int .i64 0),(.int .i64 0),(.int .i64 0),(.slice none 0 0)] [(0,1),(1,1),(2,1),(3,1),(4,1)] []), .n (.st 5 (.tmp 2) (.tmp 23)), .k 3 1]) .ret) .skip)) (.seq (.region [.m 24 0, .m 25 4, .m 26 5, .o 27 (.build [(.int .i64 0),(.int .i64 0),(.int .i64 0),(.int .i64 0),(.slice none 0 0)] [(0,1),(1,1),(2,1),(3,1),(4,1)] [(0,(.tmp 24)),(1,(.tmp 25)),(2,(.tmp 26))]), .o 6 (.alloc 121 [(.int .i64 0),(.int .i64 0),(.int .i64 0),(.int .i64 0),(.slice none 0 0)]), .n (.st 5 (.tmp 6) (.tmp 27))]) (.seq (.seq (.region [.m 28 5, .o 29 (.c .eql 28 1)]) (.cond (.tmp 29) (.seq (.region [.o 30 (.mkSl 3 1 2 [(.const (.int .i64 0)),(.const (.int .i64 1))]), .o 31 (.f 4 6), .n (.st 1 (.tmp 31) (.tmp 30))]) (.seq (.region [.k 7 1]) (.block 0 [0,2,4,5,6] (.loop [0,2,4,5,6,7] c95L0)))) .skip)) (.seq (.region [.m 43 4, .o 44 (.f 3 6), .n (.st 1 (.tmp 44) (.tmp 43))]) (.seq (.seq (.region [.k 8 0]) (.block 2 [2] (.loop [0,2,4,5,6,8] c95L1))) (.seq (.region [.o 61 (.build [(.int .i64 0),(.int .i64 0),(.int .i64 0),(.int .i64 0),(.slice none 0 0)] [(0,1),(1,1),(2,1),(3,1),(4,1)] []), .n (.st 5 (.tmp 2) (.tmp 61)), .k 3 1]) .ret)))))))))
def F95:AFun:=⟨c95,1,62,[(.cell 2 true 5),(.tmp 3)]⟩
def K95:Nat→List Nat×List Nat
 |0=>([0,2,4,5,6,7],[0,2,4,5,6])
 |1=>([],[0,2,4,5,6,7])
 |2=>([0,2,4,5,6,8],[2])
 |3=>([],[0,2,4,5,6,8])
 |_=>([],[])
theorem F95_ok:kj8 Try.prog K95 Try.f95=some F95:=by kernel_rfl
/- 96: (syndrome/syndromeref.F).Has -/
def c96:ACode:=(.seq (.region [.o 2 (.box 121 5 (.tmp 0)), .o 4 (.mv (.const (.bool false)))]) (.seq (.region [.m 5 1, .o 6 (.c .geq 5 0), .m 7 6, .g 8 (.m 1) 7 true, .g 9 (.f 0 2) 7 true, .g 10 (.l 9) 7 true, .g 11 (.b .lss 8 10) 7 true, .o 12 (.pick (.tmp 7) (.tmp 11) (.const (.bool false))), .m 4 12]) .ret))
def F96:AFun:=⟨c96,2,13,[(.tmp 4)]⟩
def K96:Nat→List Nat×List Nat
 |_=>([],[])
theorem F96_ok:kj8 Try.prog K96 Try.f96=some F96:=by kernel_rfl
/- 99: syndrome/syndromeref.Power -/
def c99L0:ACode:=(.seq (.seq (.region [.m 7 6, .m 8 1, .o 9 (.b .lss 7 8)]) (.cond (.tmp 9) .skip (.exit 0))) (.seq (.block 1 [0,1,5,6] (.seq (.region [.m 12 5, .m 13 0, .o 14 (.b .mul 12 13), .m 5 14]) (.seq (.region [.m 15 5, .o 16 (.c .gtr 15 1073741824)]) (.cond (.tmp 16) (.seq (.region [.k 4 (-1)]) .ret) .skip)))) (.region [.m 10 6, .o 11 (.c .add 10 1), .m 6 11])))
def c99:ACode:=(.seq (.region [.k 4 0]) (.seq (.region [.k 5 1]) (.seq (.seq (.region [.k 6 0]) (.block 0 [5] (.loop [0,1,5,6] c99L0))) (.seq (.region [.m 17 5, .m 4 17]) .ret))))
def F99:AFun:=⟨c99,2,18,[(.tmp 4)]⟩
def K99:Nat→List Nat×List Nat
 |0=>([0,1,5,6],[5])
 |1=>([],[0,1,5,6])
 |_=>([],[])
theorem F99_ok:kj8 Try.prog K99 Try.f99=some F99:=by kernel_rfl
/- 100: syndrome/weights.kraw -/
def c100L0:ACode:=(.seq (.region [.o 32 (.b .lss 31 30)]) (.seq (.cond (.tmp 32) .skip (.exit 2)) (.seq (.block 3 [0,1,2,3,9,10,11,30,31] (.region [.m 33 11, .m 34 0, .o 35 (.c .sub 34 1), .o 36 (.b .mul 33 35), .m 11 36])) (.region [.o 37 (.c .add 31 1), .m 31 37]))))
def c100L1:ACode:=(.seq (.seq (.region [.m 12 10, .m 13 2, .o 14 (.b .leq 12 13)]) (.cond (.tmp 14) .skip (.exit 0))) (.seq (.block 1 [0,1,2,3,9,10] (.seq (.region [.m 17 3, .m 18 10, .o 19 (.q 179 [17,18]), .m 20 1, .m 21 3, .o 22 (.b .sub 20 21), .m 23 2, .m 24 10, .o 25 (.b .sub 23 24), .o 26 (.q 179 [22,25]), .o 27 (.b .mul 19 26), .m 11 27]) (.seq (.seq (.region [.m 28 2, .m 29 10, .o 30 (.b .sub 28 29), .k 31 0]) (.block 2 [0,1,2,3,9,10,11] (.loop [0,1,2,3,9,10,11,30,31] c100L0))) (.seq (.seq (.region [.m 38 10, .o 39 (.c .rem 38 2), .o 40 (.c .eql 39 1)]) (.cond (.tmp 40) (.region [.m 41 11, .o 42 (.un .neg (.tmp 41)), .m 11 42]) .skip)) (.region [.m 43 9, .m 44 11, .o 45 (.b .add 43 44), .m 9 45]))))) (.region [.m 15 10, .o 16 (.c .add 15 1), .m 10 16])))
def c100:ACode:=(.seq (.region [.k 8 0]) (.seq (.region [.k 9 0]) (.seq (.seq (.region [.k 10 0]) (.block 0 [9] (.loop [0,1,2,3,9,10] c100L1))) (.seq (.region [.m 46 9, .m 8 46]) .ret))))
def F100:AFun:=⟨c100,4,47,[(.tmp 8)]⟩
def K100:Nat→List Nat×List Nat
 |0=>([0,1,2,3,9,10],[9])
 |1=>([],[0,1,2,3,9,10])
 |2=>([0,1,2,3,9,10,11,30,31],[0,1,2,3,9,10,11])
 |3=>([],[0,1,2,3,9,10,11,30,31])
 |_=>([],[])
theorem F100_ok:kj8 Try.prog K100 Try.f100=some F100:=by kernel_rfl
/- 101: syndrome/weights.power -/
def c101L0:ACode:=(.seq (.region [.o 8 (.b .lss 7 6)]) (.seq (.cond (.tmp 8) .skip (.exit 0)) (.seq (.block 1 [0,5,6,7] (.seq (.region [.m 9 5, .m 10 0, .o 11 (.b .mul 9 10), .m 5 11]) (.seq (.region [.m 12 5, .o 13 (.c .gtr 12 1073741824)]) (.cond (.tmp 13) (.seq (.region [.k 4 (-1)]) .ret) .skip)))) (.region [.o 14 (.c .add 7 1), .m 7 14]))))
def c101:ACode:=(.seq (.region [.k 4 0]) (.seq (.region [.k 5 1]) (.seq (.seq (.region [.m 6 1, .k 7 0]) (.block 0 [5] (.loop [0,5,6,7] c101L0))) (.seq (.region [.m 15 5, .m 4 15]) .ret))))
def F101:AFun:=⟨c101,2,16,[(.tmp 4)]⟩
def K101:Nat→List Nat×List Nat
 |0=>([0,5,6,7],[5])
 |1=>([],[0,5,6,7])
 |_=>([],[])
theorem F101_ok:kj8 Try.prog K101 Try.f101=some F101:=by kernel_rfl
/- 102: syndrome/syndromeref.Ball -/
def c102L0:ACode:=(.seq (.seq (.region [.m 19 10, .m 20 8, .o 21 (.b .lss 19 20)]) (.cond (.tmp 21) .skip (.exit 2))) (.seq (.block 3 [0,1,2,7,8,9,10] (.region [.m 24 9, .m 25 0, .o 26 (.c .sub 25 1), .o 27 (.b .mul 24 26), .m 9 27])) (.region [.m 22 10, .o 23 (.c .add 22 1), .m 10 23])))
def c102L1:ACode:=(.seq (.seq (.region [.m 11 8, .m 12 2, .o 13 (.b .leq 11 12)]) (.cond (.tmp 13) .skip (.exit 0))) (.seq (.block 1 [0,1,2,7,8] (.seq (.region [.m 16 1, .m 17 8, .o 18 (.q 180 [16,17]), .m 9 18]) (.seq (.seq (.region [.k 10 0]) (.block 2 [0,1,2,7,8,9] (.loop [0,1,2,7,8,9,10] c102L0))) (.region [.m 28 7, .m 29 9, .o 30 (.b .add 28 29), .m 7 30])))) (.region [.m 14 8, .o 15 (.c .add 14 1), .m 8 15])))
def c102:ACode:=(.seq (.region [.k 6 0]) (.seq (.region [.k 7 0]) (.seq (.seq (.region [.k 8 0]) (.block 0 [7] (.loop [0,1,2,7,8] c102L1))) (.seq (.region [.m 31 7, .m 6 31]) .ret))))
def F102:AFun:=⟨c102,3,32,[(.tmp 6)]⟩
def K102:Nat→List Nat×List Nat
 |0=>([0,1,2,7,8],[7])
 |1=>([],[0,1,2,7,8])
 |2=>([0,1,2,7,8,9,10],[0,1,2,7,8,9])
 |3=>([],[0,1,2,7,8,9,10])
 |_=>([],[])
theorem F102_ok:kj8 Try.prog K102 Try.f102=some F102:=by kernel_rfl
/- 103: syndrome/syndromeref.Up -/
def c103:ACode:=(.seq (.region [.k 4 0]) (.seq (.region [.m 5 0, .m 6 1, .o 7 (.b .add 5 6), .o 8 (.c .sub 7 1), .m 9 1, .o 10 (.b .quo 8 9), .m 4 10]) .ret))
def F103:AFun:=⟨c103,2,11,[(.tmp 4)]⟩
def K103:Nat→List Nat×List Nat
 |_=>([],[])
theorem F103_ok:kj8 Try.prog K103 Try.f103=some F103:=by kernel_rfl
/- 104: syndrome/weights.Hamming -/
def c104:ACode:=(.seq (.region [.k 6 0, .k 7 0]) (.seq (.seq (.region [.m 9 0, .m 10 1, .m 11 2, .o 12 (.q 181 [9,10,11]), .m 8 12]) (.seq (.region [.m 13 8, .o 14 (.c .neq 13 0)]) (.cond (.tmp 14) (.seq (.region [.m 15 8, .k 6 0, .m 7 15]) .ret) .skip))) (.seq (.region [.m 16 0, .m 17 1, .o 18 (.q 101 [16,17]), .m 19 0, .m 20 1, .m 21 2, .o 22 (.c .sub 21 1), .o 23 (.c .quo 22 2), .o 24 (.q 182 [19,20,23]), .o 25 (.b .quo 18 24), .m 6 25, .k 7 0]) .ret)))
def F104:AFun:=⟨c104,3,26,[(.tmp 6),(.tmp 7)]⟩
def K104:Nat→List Nat×List Nat
 |_=>([],[])
theorem F104_ok:kj8 Try.prog K104 Try.f104=some F104:=by kernel_rfl
/- 105: syndrome/weights.Singleton -/
def c105:ACode:=(.seq (.region [.k 6 0, .k 7 0]) (.seq (.seq (.region [.m 9 0, .m 10 1, .m 11 2, .o 12 (.q 181 [9,10,11]), .m 8 12]) (.seq (.region [.m 13 8, .o 14 (.c .neq 13 0)]) (.cond (.tmp 14) (.seq (.region [.m 15 8, .k 6 0, .m 7 15]) .ret) .skip))) (.seq (.region [.m 16 0, .m 17 1, .m 18 2, .o 19 (.b .sub 17 18), .o 20 (.c .add 19 1), .o 21 (.q 101 [16,20]), .m 6 21, .k 7 0]) .ret)))
def F105:AFun:=⟨c105,3,22,[(.tmp 6),(.tmp 7)]⟩
def K105:Nat→List Nat×List Nat
 |_=>([],[])
theorem F105_ok:kj8 Try.prog K105 Try.f105=some F105:=by kernel_rfl
/- 106: syndrome/weights.Plotkin -/
def c106:ACode:=(.seq (.region [.k 6 0, .k 7 0]) (.seq (.seq (.region [.m 9 0, .m 10 1, .m 11 2, .o 12 (.q 181 [9,10,11]), .m 8 12]) (.seq (.region [.m 13 8, .o 14 (.c .neq 13 0)]) (.cond (.tmp 14) (.seq (.region [.m 15 8, .k 6 0, .m 7 15]) .ret) .skip))) (.seq (.seq (.region [.m 16 0, .m 17 2, .o 18 (.b .mul 16 17), .m 19 1, .m 20 0, .o 21 (.c .sub 20 1), .o 22 (.b .mul 19 21), .o 23 (.b .leq 18 22)]) (.cond (.tmp 23) (.seq (.region [.k 6 0, .k 7 0]) .ret) .skip)) (.seq (.region [.m 24 0, .m 25 2, .o 26 (.b .mul 24 25), .m 27 0, .m 28 2, .o 29 (.b .mul 27 28), .m 30 1, .m 31 0, .o 32 (.c .sub 31 1), .o 33 (.b .mul 30 32), .o 34 (.b .sub 29 33), .o 35 (.b .quo 26 34), .m 6 35, .k 7 0]) .ret))))
def F106:AFun:=⟨c106,3,36,[(.tmp 6),(.tmp 7)]⟩
def K106:Nat→List Nat×List Nat
 |_=>([],[])
theorem F106_ok:kj8 Try.prog K106 Try.f106=some F106:=by kernel_rfl
/- 107: syndrome/weights.Varshamov -/
def c107:ACode:=(.seq (.region [.k 6 0, .k 7 0]) (.seq (.seq (.region [.m 10 0, .m 11 1, .m 12 2, .o 13 (.q 181 [10,11,12]), .m 8 13]) (.seq (.region [.m 14 8, .o 15 (.c .neq 14 0)]) (.cond (.tmp 15) (.seq (.region [.m 16 8, .k 6 0, .m 7 16]) .ret) .skip))) (.seq (.region [.m 17 0, .m 18 1, .m 19 2, .o 20 (.c .sub 19 1), .o 21 (.q 182 [17,18,20]), .m 9 21]) (.seq (.region [.m 22 0, .m 23 1, .o 24 (.q 101 [22,23]), .m 25 9, .o 26 (.b .add 24 25), .o 27 (.c .sub 26 1), .m 28 9, .o 29 (.b .quo 27 28), .m 6 29, .k 7 0]) .ret))))
def F107:AFun:=⟨c107,3,30,[(.tmp 6),(.tmp 7)]⟩
def K107:Nat→List Nat×List Nat
 |_=>([],[])
theorem F107_ok:kj8 Try.prog K107 Try.f107=some F107:=by kernel_rfl
/- 108: syndrome/syndromeref.Turned -/
def c108L0:ACode:=(.seq (.seq (.region [.m 25 13, .m 26 8, .o 27 (.b .leq 25 26)]) (.cond (.tmp 27) .skip (.exit 2))) (.seq (.block 3 [0,1,2,8,9,10,11,12,13] (.seq (.region [.m 30 0, .m 31 8, .m 32 10, .m 33 13, .o 34 (.q 34 [30,31,32,33]), .m 14 34]) (.seq (.region [.m 35 11, .m 36 14, .m 37 1, .m 38 13, .o 39 (.i 1 37 38), .o 40 (.l 39), .o 41 (.c .quo 40 32768), .o 42 (.b .mul 36 41), .o 43 (.b .add 35 42), .m 11 43]) (.region [.m 44 12, .m 45 14, .m 46 1, .m 47 13, .o 48 (.i 1 46 47), .o 49 (.l 48), .o 50 (.c .rem 49 32768), .o 51 (.b .mul 45 50), .o 52 (.b .add 44 51), .m 12 52])))) (.region [.m 28 13, .o 29 (.c .add 28 1), .m 13 29])))
def c108L1:ACode:=(.seq (.seq (.region [.m 20 10, .m 21 8, .o 22 (.b .leq 20 21)]) (.cond (.tmp 22) .skip (.exit 0))) (.seq (.block 1 [0,1,2,8,9,10] (.seq (.region [.k 11 0]) (.seq (.region [.k 12 0]) (.seq (.seq (.region [.k 13 0]) (.block 2 [0,1,2,8,9,10,11,12] (.loop [0,1,2,8,9,10,11,12,13] c108L0))) (.seq (.region [.m 53 11, .m 54 2, .o 55 (.b .rem 53 54), .o 56 (.c .mul 55 32768), .m 57 12, .o 58 (.b .add 56 57), .m 15 58]) (.seq (.region [.m 59 11, .m 60 2, .o 61 (.b .quo 59 60), .o 62 (.c .mul 61 32768), .m 63 15, .m 64 2, .o 65 (.b .quo 63 64), .o 66 (.b .add 62 65), .m 16 66]) (.seq (.seq (.region [.m 67 15, .m 68 2, .o 69 (.b .rem 67 68), .o 70 (.c .neq 69 0), .m 71 70, .g 72 (.m 16) 71 false, .g 73 (.c .lss 72 0) 71 false, .o 74 (.pick (.tmp 71) (.const (.bool true)) (.tmp 73))]) (.cond (.tmp 74) (.seq (.region [.o 6 (.mv (.const (.slice none 0 0))), .o 7 (.mv (.const (.bool false)))]) .ret) .skip)) (.region [.m 75 9, .m 76 16, .o 77 (.mkSl 3 1 1 [(.tmp 76)]), .o 78 (.app 3 1 8 (.tmp 75) (.tmp 77)), .m 9 78])))))))) (.region [.m 23 10, .o 24 (.c .add 23 1), .m 10 24])))
def c108:ACode:=(.seq (.region [.o 6 (.mv (.const (.slice none 0 0))), .o 7 (.mv (.const (.bool false)))]) (.seq (.region [.m 17 1, .o 18 (.n 17), .o 19 (.c .sub 18 1), .m 8 19]) (.seq (.region [.o 9 (.mv (.const (.slice none 0 0)))]) (.seq (.seq (.region [.k 10 0]) (.block 0 [9] (.loop [0,1,2,8,9,10] c108L1))) (.seq (.region [.m 79 9, .m 6 79, .o 7 (.mv (.const (.bool true)))]) .ret)))))
def F108:AFun:=⟨c108,3,80,[(.tmp 6),(.tmp 7)]⟩
def K108:Nat→List Nat×List Nat
 |0=>([0,1,2,8,9,10],[9])
 |1=>([],[0,1,2,8,9,10])
 |2=>([0,1,2,8,9,10,11,12,13],[0,1,2,8,9,10,11,12])
 |3=>([],[0,1,2,8,9,10,11,12,13])
 |_=>([],[])
theorem F108_ok:kj8 Try.prog K108 Try.f108=some F108:=by kernel_rfl
/- 109: syndrome/weights.Dual -/
def c109L0:ACode:=(.seq (.region [.o 25 (.b .lss 24 23)]) (.seq (.cond (.tmp 25) .skip (.exit 0)) (.seq (.block 1 [0,1,6,8,22,23,24] (.seq (.region [.o 26 (.i 1 22 24), .o 27 (.l 26), .m 10 27]) (.seq (.seq (.region [.m 28 10, .o 29 (.c .lss 28 0), .m 30 29, .g 31 (.m 10) 30 false, .g 32 (.m 0) 30 false, .g 33 (.m 6) 30 false, .g 34 (.q 101 [32,33]) 30 false, .g 35 (.b .gtr 31 34) 30 false, .o 36 (.pick (.tmp 30) (.const (.bool true)) (.tmp 35))]) (.cond (.tmp 36) (.seq (.region [.o 4 (.mv (.const (.slice none 0 0))), .k 5 2]) .ret) .skip)) (.region [.m 37 8, .m 38 10, .o 39 (.b .add 37 38), .m 8 39])))) (.region [.o 40 (.c .add 24 1), .m 24 40]))))
def c109L1:ACode:=(.seq (.region [.o 54 (.b .lss 53 52)]) (.seq (.cond (.tmp 54) .skip (.exit 2)) (.seq (.block 3 [0,1,8,11,52,53] (.seq (.region [.m 55 53, .m 12 55]) (.seq (.region [.m 56 0, .m 57 1, .m 58 12, .m 59 8, .m 60 11, .m 61 12, .o 62 (.i 1 60 61), .o 63 (.q 183 [56,57,58,59,62]), .o 64 (.un .not (.tmp 63))]) (.cond (.tmp 64) (.seq (.region [.o 4 (.mv (.const (.slice none 0 0))), .k 5 3]) .ret) .skip)))) (.region [.o 65 (.c .add 53 1), .m 53 65]))))
def c109:ACode:=(.seq (.region [.o 4 (.mv (.const (.slice none 0 0))), .k 5 0]) (.seq (.region [.m 13 1, .o 14 (.n 13), .o 15 (.c .sub 14 1), .m 6 15]) (.seq (.seq (.region [.m 16 0, .m 17 6, .o 18 (.q 36 [16,17]), .m 7 18]) (.seq (.region [.m 19 7, .o 20 (.c .neq 19 0)]) (.cond (.tmp 20) (.seq (.region [.m 21 7, .o 4 (.mv (.const (.slice none 0 0))), .m 5 21]) .ret) .skip))) (.seq (.region [.k 8 0]) (.seq (.seq (.region [.m 22 1, .o 23 (.n 22), .k 24 0]) (.block 0 [0,1,6,8] (.loop [0,1,6,8,22,23,24] c109L0))) (.seq (.seq (.region [.m 41 8, .m 42 0, .m 43 6, .o 44 (.q 101 [42,43]), .o 45 (.b .gtr 41 44)]) (.cond (.tmp 45) (.seq (.region [.o 4 (.mv (.const (.slice none 0 0))), .k 5 2]) .ret) .skip)) (.seq (.seq (.region [.m 46 8, .o 47 (.c .eql 46 0)]) (.cond (.tmp 47) (.seq (.region [.o 4 (.mv (.const (.slice none 0 0))), .k 5 5]) .ret) .skip)) (.seq (.region [.m 48 6, .o 49 (.c .add 48 1), .o 50 (.mks 3 1 8 [(.int .i64 0)] (.tmp 49) (.tmp 49)), .m 11 50]) (.seq (.seq (.region [.m 51 11, .o 52 (.n 51), .k 53 0]) (.block 2 [11] (.loop [0,1,8,11,52,53] c109L1))) (.seq (.region [.m 66 11, .m 4 66, .k 5 0]) .ret))))))))))
def F109:AFun:=⟨c109,2,67,[(.tmp 4),(.tmp 5)]⟩
def K109:Nat→List Nat×List Nat
 |0=>([0,1,6,8,22,23,24],[0,1,6,8])
 |1=>([],[0,1,6,8,22,23,24])
 |2=>([0,1,8,11,52,53],[11])
 |3=>([],[0,1,8,11,52,53])
 |_=>([],[])
theorem F109_ok:kj8 Try.prog K109 Try.f109=some F109:=by kernel_rfl
/- 110: syndrome/weights.Griesmer -/
def c110L0:ACode:=(.seq (.region [.o 35 (.b .lss 34 33)]) (.seq (.cond (.tmp 35) .skip (.exit 0)) (.seq (.block 1 [0,2,10,33,34] (.seq (.region [.m 36 10, .m 37 2, .o 38 (.b .add 36 37), .m 10 38]) (.region [.m 39 2, .m 40 0, .o 41 (.b .add 39 40), .o 42 (.c .sub 41 1), .m 43 0, .o 44 (.b .quo 42 43), .m 2 44]))) (.region [.o 45 (.c .add 34 1), .m 34 45]))))
def c110:ACode:=(.seq (.region [.k 6 0, .k 7 0]) (.seq (.seq (.region [.m 12 0, .o 13 (.q 76 [12]), .m 11 13, .o 14 (.e 0 11), .o 15 (.e 1 11), .m 8 14, .m 9 15]) (.seq (.region [.m 16 9, .o 17 (.c .neq 16 0)]) (.cond (.tmp 17) (.seq (.region [.m 18 9, .k 6 0, .m 7 18]) .ret) .skip))) (.seq (.seq (.region [.m 19 1, .o 20 (.c .lss 19 1), .m 21 20, .g 22 (.m 1) 21 false, .g 23 (.c .gtr 22 64) 21 false, .o 24 (.pick (.tmp 21) (.const (.bool true)) (.tmp 23)), .m 25 24, .g 26 (.m 2) 25 false, .g 27 (.c .lss 26 1) 25 false, .o 28 (.pick (.tmp 25) (.const (.bool true)) (.tmp 27)), .m 29 28, .g 30 (.m 2) 29 false, .g 31 (.c .gtr 30 64) 29 false, .o 32 (.pick (.tmp 29) (.const (.bool true)) (.tmp 31))]) (.cond (.tmp 32) (.seq (.region [.k 6 0, .k 7 4]) .ret) .skip)) (.seq (.region [.k 10 0]) (.seq (.seq (.region [.m 33 1, .k 34 0]) (.block 0 [10] (.loop [0,2,10,33,34] c110L0))) (.seq (.region [.m 46 10, .m 6 46, .k 7 0]) .ret))))))
def F110:AFun:=⟨c110,3,47,[(.tmp 6),(.tmp 7)]⟩
def K110:Nat→List Nat×List Nat
 |0=>([0,2,10,33,34],[10])
 |1=>([],[0,2,10,33,34])
 |_=>([],[])
theorem F110_ok:kj8 Try.prog K110 Try.f110=some F110:=by kernel_rfl
/- 159: syndrome/field.New$1 -/
def c159:ACode:=(.region [.o 2 (.l 0), .o 3 (.l 0),⟨(some 4),(.call 160 [(.tmp 3)]),none,true⟩, .o 5 (.f 195 1), .o 6 (.iaddrA 65 1 (.tmp 5) (.tmp 2)), .n (.st 1 (.tmp 6) (.tmp 4))])
def F159:AFun:=⟨c159,2,7,[]⟩
def K159:Nat→List Nat×List Nat
 |_=>([],[])
theorem F159_ok:kj8 Try.prog K159 Try.f159=some F159:=by kernel_rfl
/- 160: syndrome/field.build -/
def c160L0:ACode:=(.seq (.seq (.region [.m 28 5, .o 29 (.q 205 [28]), .o 30 (.un .not (.tmp 29))]) (.cond (.tmp 30) .skip (.exit 0))) (.seq (.block 1 [5] .skip) (.region [.m 31 5, .o 32 (.nilck (.tmp 31)), .o 33 (.f 4 32), .o 34 (.l 33), .o 35 (.c .add 34 1), .o 36 (.nilck (.tmp 31)), .o 37 (.f 4 36), .n (.st 1 (.tmp 37) (.tmp 35))])))
def c160L1:ACode:=(.seq (.region [.o 45 (.b .lss 44 43)]) (.seq (.cond (.tmp 45) .skip (.exit 2)) (.seq (.block 3 [3,4,5,43,44] (.seq (.region [.m 46 44, .m 6 46]) (.seq (.region [.m 47 5, .m 48 6, .m 49 3, .m 50 4, .o 51 (.q 206 [48,49,50]), .o 52 (.mkSl 3 1 1 [(.const (.int .i64 1))]), .o 53 (.app 3 1 8 (.tmp 51) (.tmp 52)), .o 54 (.nilck (.tmp 47)), .o 55 (.f 3 54), .n (.st 1 (.tmp 55) (.tmp 53))]) (.seq (.region [.m 56 5, .o 57 (.q 205 [56])]) (.cond (.tmp 57) (.seq (.region [.m 58 5, .m 2 58]) .ret) .skip))))) (.region [.o 59 (.c .add 44 1), .m 44 59]))))
def c160:ACode:=(.seq (.region [.o 2 (.mv (.const (.pointer none)))]) (.seq (.region [.m 8 0, .o 9 (.q 204 [8]), .m 7 9, .o 10 (.e 0 7), .o 11 (.e 1 7), .m 3 10, .m 4 11]) (.seq (.seq (.region [.m 12 3, .o 13 (.c .eql 12 0)]) (.cond (.tmp 13) (.seq (.region [.o 2 (.mv (.const (.pointer none)))]) .ret) .skip)) (.seq (.region [.m 14 0, .m 15 3, .m 16 4, .o 17 (.build [(.int .i64 0),(.int .i64 0),(.int .i64 0),(.slice none 0 0),(.int .i64 0),(.slice none 0 0),(.slice none 0 0)] [(0,1),(1,1),(2,1),(3,1),(4,1),(5,1),(6,1)] [(0,(.tmp 14)),(1,(.tmp 15)),(2,(.tmp 16))]), .o 18 (.box 173 7 (.tmp 17)), .m 5 18]) (.seq (.seq (.region [.m 19 4, .o 20 (.c .eql 19 1)]) (.cond (.tmp 20) (.seq (.region [.m 21 5, .o 22 (.mkSl 3 1 2 [(.const (.int .i64 0)),(.const (.int .i64 1))]), .o 23 (.nilck (.tmp 21)), .o 24 (.f 3 23), .n (.st 1 (.tmp 24) (.tmp 22))]) (.seq (.seq (.region [.m 25 5, .o 26 (.nilck (.tmp 25)), .o 27 (.f 4 26), .n (.st 1 (.tmp 27) (.const (.int .i64 1)))]) (.block 0 [5] (.loop [5] c160L0))) (.seq (.region [.m 38 5, .m 2 38]) .ret))) .skip)) (.seq (.region [.m 39 5, .m 40 3, .o 41 (.nilck (.tmp 39)), .o 42 (.f 4 41), .n (.st 1 (.tmp 42) (.tmp 40))]) (.seq (.seq (.region [.m 43 0, .k 44 0]) (.block 2 [] (.loop [3,4,5,43,44] c160L1))) (.seq (.region [.o 2 (.mv (.const (.pointer none)))]) .ret))))))))
def F160:AFun:=⟨c160,1,60,[(.tmp 2)]⟩
def K160:Nat→List Nat×List Nat
 |0=>([5],[5])
 |1=>([],[5])
 |2=>([3,4,5,43,44],[])
 |3=>([],[3,4,5,43,44])
 |_=>([],[])
theorem F160_ok:kj8 Try.prog K160 Try.f160=some F160:=by kernel_rfl
/- 175: syndrome/syndromeref.Prime -/
def c175L0:ACode:=(.seq (.seq (.region [.m 15 0, .m 16 4, .o 17 (.b .rem 15 16), .o 18 (.c .eql 17 0)]) (.cond (.tmp 18) .skip (.exit 2))) (.block 3 [0,4,5] (.seq (.region [.m 19 0, .m 20 4, .o 21 (.b .quo 19 20), .m 0 21]) (.region [.m 22 5, .o 23 (.c .add 22 1), .m 5 23]))))
def c175L1:ACode:=(.seq (.seq (.region [.m 6 4, .m 7 0, .o 8 (.b .leq 6 7)]) (.cond (.tmp 8) .skip (.exit 0))) (.seq (.block 1 [0,4] (.seq (.seq (.region [.m 11 0, .m 12 4, .o 13 (.b .rem 11 12), .o 14 (.c .neq 13 0)]) (.cond (.tmp 14) (.exit 1) .skip)) (.seq (.region [.k 5 0]) (.seq (.block 2 [0,4,5] (.loop [0,4,5] c175L0)) (.seq (.seq (.region [.m 24 0, .o 25 (.c .eql 24 1)]) (.cond (.tmp 25) (.seq (.region [.m 26 4, .m 27 5, .m 2 26, .m 3 27]) .ret) .skip)) (.seq (.region [.k 2 0, .k 3 0]) .ret)))))) (.region [.m 9 4, .o 10 (.c .add 9 1), .m 4 10])))
def c175:ACode:=(.seq (.region [.k 2 0, .k 3 0]) (.seq (.seq (.region [.k 4 2]) (.block 0 [] (.loop [0,4] c175L1))) (.seq (.region [.k 2 0, .k 3 0]) .ret)))
def F175:AFun:=⟨c175,1,28,[(.tmp 2),(.tmp 3)]⟩
def K175:Nat→List Nat×List Nat
 |0=>([0,4],[])
 |1=>([],[0,4])
 |2=>([0,4,5],[0,4,5])
 |3=>([],[0,4,5])
 |_=>([],[])
theorem F175_ok:kj8 Try.prog K175 Try.f175=some F175:=by kernel_rfl
/- 176: syndrome/syndromeref.full -/
def c176L0:ACode:=(.seq (.seq (.region [.m 11 7, .o 12 (.f 0 2), .o 13 (.l 12), .o 14 (.c .sub 13 1), .o 15 (.b .lss 11 14)]) (.cond (.tmp 15) .skip (.exit 0))) (.seq (.block 1 [1,2,5,6,7] (.seq (.seq (.region [.m 18 6, .o 19 (.c .eql 18 0), .m 20 19, .g 21 (.m 5) 20 false, .g 22 (.m 6) 20 false, .g 23 (.i 1 21 22) 20 false, .g 24 (.l 23) 20 false, .o 25 (.pick (.tmp 20) (.const (.bool true)) (.tmp 24))]) (.cond (.tmp 25) (.seq (.region [.o 4 (.mv (.const (.bool false)))]) .ret) .skip)) (.seq (.region [.m 26 5, .m 27 6, .o 28 (.i 1 26 27), .n (.st 1 (.tmp 28) (.const (.bool true)))]) (.region [.o 29 (.ld true 5 (.tmp 2)), .m 30 6, .m 31 1, .o 32 (.q 211 [29,30,31]), .m 6 32])))) (.region [.m 16 7, .o 17 (.c .add 16 1), .m 7 17])))
def c176:ACode:=(.seq (.region [.o 2 (.box 121 5 (.tmp 0)), .o 4 (.mv (.const (.bool false)))]) (.seq (.region [.o 8 (.f 0 2), .o 9 (.l 8), .o 10 (.mks 4 1 1 [(.bool false)] (.tmp 9) (.tmp 9)), .m 5 10]) (.seq (.region [.k 6 1]) (.seq (.seq (.region [.k 7 0]) (.block 0 [] (.loop [1,2,5,6,7] c176L0))) (.seq (.region [.o 4 (.mv (.const (.bool true)))]) .ret)))))
def F176:AFun:=⟨c176,2,33,[(.tmp 4)]⟩
def K176:Nat→List Nat×List Nat
 |0=>([1,2,5,6,7],[])
 |1=>([],[1,2,5,6,7])
 |_=>([],[])
theorem F176_ok:kj8 Try.prog K176 Try.f176=some F176:=by kernel_rfl
/- 177: syndrome/syndromeref.Digits -/
def c177L0:ACode:=(.seq (.seq (.region [.m 9 8, .m 10 2, .o 11 (.b .lss 9 10)]) (.cond (.tmp 11) .skip (.exit 0))) (.seq (.block 1 [0,1,2,7,8] (.seq (.region [.m 14 7, .m 15 0, .m 16 1, .o 17 (.b .rem 15 16), .o 18 (.mkSl 3 1 1 [(.tmp 17)]), .o 19 (.app 3 1 8 (.tmp 14) (.tmp 18)), .m 7 19]) (.region [.m 20 0, .m 21 1, .o 22 (.b .quo 20 21), .m 0 22]))) (.region [.m 12 8, .o 13 (.c .add 12 1), .m 8 13])))
def c177:ACode:=(.seq (.region [.o 6 (.mv (.const (.slice none 0 0)))]) (.seq (.region [.o 7 (.mv (.const (.slice none 0 0)))]) (.seq (.seq (.region [.k 8 0]) (.block 0 [7] (.loop [0,1,2,7,8] c177L0))) (.seq (.region [.m 23 7, .m 6 23]) .ret))))
def F177:AFun:=⟨c177,3,24,[(.tmp 6)]⟩
def K177:Nat→List Nat×List Nat
 |0=>([0,1,2,7,8],[7])
 |1=>([],[0,1,2,7,8])
 |_=>([],[])
theorem F177_ok:kj8 Try.prog K177 Try.f177=some F177:=by kernel_rfl
/- 179: syndrome/weights.choose -/
def c179L0:ACode:=(.seq (.region [.o 16 (.b .lss 15 14)]) (.seq (.cond (.tmp 16) .skip (.exit 0)) (.seq (.block 1 [0,5,14,15] (.seq (.region [.m 17 15, .m 6 17]) (.region [.m 18 5, .m 19 0, .m 20 6, .o 21 (.b .sub 19 20), .o 22 (.b .mul 18 21), .m 23 6, .o 24 (.c .add 23 1), .o 25 (.b .quo 22 24), .m 5 25]))) (.region [.o 26 (.c .add 15 1), .m 15 26]))))
def c179:ACode:=(.seq (.region [.k 4 0]) (.seq (.seq (.region [.m 7 1, .o 8 (.c .lss 7 0), .m 9 8, .g 10 (.m 1) 9 false, .g 11 (.m 0) 9 false, .g 12 (.b .gtr 10 11) 9 false, .o 13 (.pick (.tmp 9) (.const (.bool true)) (.tmp 12))]) (.cond (.tmp 13) (.seq (.region [.k 4 0]) .ret) .skip)) (.seq (.region [.k 5 1]) (.seq (.seq (.region [.m 14 1, .k 15 0]) (.block 0 [5] (.loop [0,5,14,15] c179L0))) (.seq (.region [.m 27 5, .m 4 27]) .ret)))))
def F179:AFun:=⟨c179,2,28,[(.tmp 4)]⟩
def K179:Nat→List Nat×List Nat
 |0=>([0,5,14,15],[5])
 |1=>([],[0,5,14,15])
 |_=>([],[])
theorem F179_ok:kj8 Try.prog K179 Try.f179=some F179:=by kernel_rfl
/- 180: syndrome/syndromeref.Choose -/
def c180L0:ACode:=(.seq (.seq (.region [.m 26 7, .o 27 (.c .gtr 26 0)]) (.cond (.tmp 27) .skip (.exit 2))) (.seq (.block 3 [0,1,5,6,7] (.region [.m 30 5, .m 31 7, .m 32 5, .m 33 7, .o 34 (.i 1 32 33), .o 35 (.l 34), .m 36 5, .m 37 7, .o 38 (.c .sub 37 1), .o 39 (.i 1 36 38), .o 40 (.l 39), .o 41 (.b .add 35 40), .o 42 (.i 1 30 31), .n (.st 1 (.tmp 42) (.tmp 41))])) (.region [.m 28 7, .o 29 (.c .sub 28 1), .m 7 29])))
def c180L1:ACode:=(.seq (.seq (.region [.m 20 6, .m 21 0, .o 22 (.b .lss 20 21)]) (.cond (.tmp 22) .skip (.exit 0))) (.seq (.block 1 [0,1,5,6] (.seq (.region [.m 25 0, .m 7 25]) (.block 2 [0,1,5,6] (.loop [0,1,5,6,7] c180L0)))) (.region [.m 23 6, .o 24 (.c .add 23 1), .m 6 24])))
def c180:ACode:=(.seq (.region [.k 4 0]) (.seq (.seq (.region [.m 8 1, .o 9 (.c .lss 8 0), .m 10 9, .g 11 (.m 1) 10 false, .g 12 (.m 0) 10 false, .g 13 (.b .gtr 11 12) 10 false, .o 14 (.pick (.tmp 10) (.const (.bool true)) (.tmp 13))]) (.cond (.tmp 14) (.seq (.region [.k 4 0]) .ret) .skip)) (.seq (.region [.m 15 0, .o 16 (.c .add 15 1), .o 17 (.mks 3 1 8 [(.int .i64 0)] (.tmp 16) (.tmp 16)), .m 5 17]) (.seq (.region [.m 18 5, .o 19 (.iaddr 1 (.tmp 18) (.const (.int .i64 0))), .n (.st 1 (.tmp 19) (.const (.int .i64 1)))]) (.seq (.seq (.region [.k 6 0]) (.block 0 [1,5] (.loop [0,1,5,6] c180L1))) (.seq (.region [.m 43 5, .m 44 1, .o 45 (.i 1 43 44), .o 46 (.l 45), .m 4 46]) .ret))))))
def F180:AFun:=⟨c180,2,47,[(.tmp 4)]⟩
def K180:Nat→List Nat×List Nat
 |0=>([0,1,5,6],[1,5])
 |1=>([],[0,1,5,6])
 |2=>([0,1,5,6,7],[0,1,5,6])
 |3=>([],[0,1,5,6,7])
 |_=>([],[])
theorem F180_ok:kj8 Try.prog K180 Try.f180=some F180:=by kernel_rfl
/- 181: syndrome/weights.args -/
def c181:ACode:=(.seq (.region [.k 6 0]) (.seq (.region [.m 8 0, .m 9 1, .o 10 (.q 36 [8,9]), .m 7 10]) (.seq (.seq (.region [.m 11 7, .o 12 (.c .eql 11 0), .m 13 12, .g 14 (.m 2) 13 true, .g 15 (.c .lss 14 1) 13 true, .g 16 (.m 15) 13 true, .g 17 (.m 2) 16 false, .g 18 (.m 1) 16 false, .g 19 (.b .gtr 17 18) 16 false, .g 20 (.pick (.tmp 16) (.const (.bool true)) (.tmp 19)) 13 true, .o 21 (.pick (.tmp 13) (.tmp 20) (.const (.bool false)))]) (.cond (.tmp 21) (.region [.k 7 10]) .skip)) (.seq (.region [.m 22 7, .m 6 22]) .ret))))
def F181:AFun:=⟨c181,3,23,[(.tmp 6)]⟩
def K181:Nat→List Nat×List Nat
 |_=>([],[])
theorem F181_ok:kj8 Try.prog K181 Try.f181=some F181:=by kernel_rfl
/- 182: syndrome/weights.ball -/
def c182L0:ACode:=(.seq (.region [.o 20 (.b .lss 19 18)]) (.seq (.cond (.tmp 20) .skip (.exit 2)) (.seq (.block 3 [0,1,2,7,8,9,18,19] (.region [.m 21 9, .m 22 0, .o 23 (.c .sub 22 1), .o 24 (.b .mul 21 23), .m 9 24])) (.region [.o 25 (.c .add 19 1), .m 19 25]))))
def c182L1:ACode:=(.seq (.seq (.region [.m 10 8, .m 11 2, .o 12 (.b .leq 10 11)]) (.cond (.tmp 12) .skip (.exit 0))) (.seq (.block 1 [0,1,2,7,8] (.seq (.region [.m 15 1, .m 16 8, .o 17 (.q 179 [15,16]), .m 9 17]) (.seq (.seq (.region [.m 18 8, .k 19 0]) (.block 2 [0,1,2,7,8,9] (.loop [0,1,2,7,8,9,18,19] c182L0))) (.region [.m 26 7, .m 27 9, .o 28 (.b .add 26 27), .m 7 28])))) (.region [.m 13 8, .o 14 (.c .add 13 1), .m 8 14])))
def c182:ACode:=(.seq (.region [.k 6 0]) (.seq (.region [.k 7 0]) (.seq (.seq (.region [.k 8 0]) (.block 0 [7] (.loop [0,1,2,7,8] c182L1))) (.seq (.region [.m 29 7, .m 6 29]) .ret))))
def F182:AFun:=⟨c182,3,30,[(.tmp 6)]⟩
def K182:Nat→List Nat×List Nat
 |0=>([0,1,2,7,8],[7])
 |1=>([],[0,1,2,7,8])
 |2=>([0,1,2,7,8,9,18,19],[0,1,2,7,8,9])
 |3=>([],[0,1,2,7,8,9,18,19])
 |_=>([],[])
theorem F182_ok:kj8 Try.prog K182 Try.f182=some F182:=by kernel_rfl
/- 183: syndrome/weights.share -/
def c183L0:ACode:=(.seq (.region [.o 19 (.b .lss 18 17)]) (.seq (.cond (.tmp 19) .skip (.exit 0)) (.seq (.block 1 [0,1,2,3,4,11,12,16,17,18] (.seq (.region [.m 20 18, .o 21 (.i 1 16 18), .o 22 (.l 21), .m 13 20, .m 14 22]) (.seq (.region [.m 23 0, .m 24 1, .o 25 (.n 24), .o 26 (.c .sub 25 1), .m 27 2, .m 28 13, .o 29 (.q 100 [23,26,27,28]), .m 15 29]) (.seq (.region [.m 30 11, .m 31 15, .m 32 3, .o 33 (.b .quo 31 32), .m 34 14, .o 35 (.b .mul 33 34), .o 36 (.b .add 30 35), .m 11 36]) (.seq (.region [.m 37 12, .m 38 15, .m 39 3, .o 40 (.b .rem 38 39), .m 41 14, .o 42 (.b .mul 40 41), .o 43 (.b .add 37 42), .m 12 43]) (.seq (.region [.m 44 11, .m 45 12, .m 46 3, .o 47 (.b .quo 45 46), .o 48 (.b .add 44 47), .m 11 48]) (.region [.m 49 12, .m 50 3, .o 51 (.b .rem 49 50), .m 12 51]))))))) (.region [.o 52 (.c .add 18 1), .m 18 52]))))
def c183:ACode:=(.seq (.region [.o 10 (.mv (.const (.bool false)))]) (.seq (.region [.k 11 0, .k 12 0]) (.seq (.seq (.region [.m 16 1, .o 17 (.n 16), .k 18 0]) (.block 0 [4,11,12] (.loop [0,1,2,3,4,11,12,16,17,18] c183L0))) (.seq (.region [.m 53 4, .m 54 11, .o 55 (.nilck (.tmp 53)), .n (.st 1 (.tmp 55) (.tmp 54))]) (.seq (.region [.m 56 12, .o 57 (.c .eql 56 0), .m 58 57, .g 59 (.m 11) 58 true, .g 60 (.c .geq 59 0) 58 true, .o 61 (.pick (.tmp 58) (.tmp 60) (.const (.bool false))), .m 10 61]) .ret)))))
def F183:AFun:=⟨c183,5,62,[(.tmp 10)]⟩
def K183:Nat→List Nat×List Nat
 |0=>([0,1,2,3,4,11,12,16,17,18],[4,11,12])
 |1=>([],[0,1,2,3,4,11,12,16,17,18])
 |_=>([],[])
theorem F183_ok:kj8 Try.prog K183 Try.f183=some F183:=by kernel_rfl
/- 204: syndrome/field.prime -/
def c204L0:ACode:=(.seq (.seq (.region [.m 4 0, .m 5 2, .o 6 (.b .rem 4 5), .o 7 (.c .neq 6 0)]) (.cond (.tmp 7) .skip (.exit 0))) (.block 1 [0,2,3] (.region [.m 8 2, .o 9 (.c .add 8 1), .m 2 9])))
def c204L1:ACode:=(.seq (.seq (.region [.m 10 0, .m 11 2, .o 12 (.b .rem 10 11), .o 13 (.c .eql 12 0)]) (.cond (.tmp 13) .skip (.exit 2))) (.seq (.block 3 [0,2,3] (.region [.m 17 3, .o 18 (.c .add 17 1), .m 3 18])) (.region [.m 14 0, .m 15 2, .o 16 (.b .quo 14 15), .m 0 16])))
def c204:ACode:=(.seq (.region [.k 2 0, .k 3 0]) (.seq (.region [.k 2 2]) (.seq (.block 0 [0,2,3] (.loop [0,2,3] c204L0)) (.seq (.block 2 [0,2,3] (.loop [0,2,3] c204L1)) (.seq (.seq (.region [.m 19 0, .o 20 (.c .neq 19 1)]) (.cond (.tmp 20) (.seq (.region [.k 2 0, .k 3 0]) .ret) .skip)) (.seq (.region [.m 21 2, .m 22 3, .m 2 21, .m 3 22]) .ret))))))
def F204:AFun:=⟨c204,1,23,[(.tmp 2),(.tmp 3)]⟩
def K204:Nat→List Nat×List Nat
 |0=>([0,2,3],[0,2,3])
 |1=>([],[0,2,3])
 |2=>([0,2,3],[0,2,3])
 |3=>([],[0,2,3])
 |_=>([],[])
theorem F204_ok:kj8 Try.prog K204 Try.f204=some F204:=by kernel_rfl
/- 205: (*syndrome/field.Field).fill -/
def c205L0:ACode:=(.seq (.region [.o 29 (.b .lss 28 27)]) (.seq (.cond (.tmp 29) .skip (.exit 0)) (.seq (.block 1 [0,27,28] (.seq (.region [.m 30 28, .m 3 30]) (.region [.m 31 0, .o 32 (.nilck (.tmp 31)), .o 33 (.f 6 32), .o 34 (.l 33), .m 35 3, .o 36 (.i 1 34 35), .n (.st 1 (.tmp 36) (.const (.int .i64 (-1))))]))) (.region [.o 37 (.c .add 28 1), .m 28 37]))))
def c205L1:ACode:=(.seq (.region [.o 44 (.b .lss 43 42)]) (.seq (.cond (.tmp 44) .skip (.exit 2)) (.seq (.block 3 [0,4,42,43] (.seq (.region [.m 45 43, .m 5 45]) (.seq (.seq (.region [.m 46 4, .o 47 (.c .eql 46 0), .m 48 47, .g 49 (.m 0) 48 false, .g 50 (.nilck (.tmp 49)) 48 false, .g 51 (.f 6 50) 48 false, .g 52 (.l 51) 48 false, .g 53 (.m 4) 48 false, .g 54 (.i 1 52 53) 48 false, .g 55 (.l 54) 48 false, .g 56 (.c .geq 55 0) 48 false, .o 57 (.pick (.tmp 48) (.const (.bool true)) (.tmp 56))]) (.cond (.tmp 57) (.seq (.region [.o 2 (.mv (.const (.bool false)))]) .ret) .skip)) (.seq (.region [.m 58 0, .o 59 (.nilck (.tmp 58)), .o 60 (.f 5 59), .o 61 (.l 60), .m 62 5, .m 63 0, .o 64 (.nilck (.tmp 63)), .o 65 (.f 6 64), .o 66 (.l 65), .m 67 4, .m 68 4, .m 69 5, .o 70 (.i 1 61 62), .n (.st 1 (.tmp 70) (.tmp 68)), .o 71 (.i 1 66 67), .n (.st 1 (.tmp 71) (.tmp 69))]) (.region [.m 72 0, .m 73 4, .o 74 (.q 231 [72,73]), .m 4 74]))))) (.region [.o 75 (.c .add 43 1), .m 43 75]))))
def c205:ACode:=(.seq (.region [.o 2 (.mv (.const (.bool false)))]) (.seq (.region [.m 6 0, .m 7 0, .o 8 (.nilck (.tmp 7)), .o 9 (.f 0 8), .o 10 (.l 9), .o 11 (.c .sub 10 1), .o 12 (.mks 3 1 8 [(.int .i64 0)] (.tmp 11) (.tmp 11)), .o 13 (.nilck (.tmp 6)), .o 14 (.f 5 13), .n (.st 1 (.tmp 14) (.tmp 12))]) (.seq (.region [.m 15 0, .m 16 0, .o 17 (.nilck (.tmp 16)), .o 18 (.f 0 17), .o 19 (.l 18), .o 20 (.mks 3 1 8 [(.int .i64 0)] (.tmp 19) (.tmp 19)), .o 21 (.nilck (.tmp 15)), .o 22 (.f 6 21), .n (.st 1 (.tmp 22) (.tmp 20))]) (.seq (.seq (.region [.m 23 0, .o 24 (.nilck (.tmp 23)), .o 25 (.f 6 24), .o 26 (.l 25), .o 27 (.n 26), .k 28 0]) (.block 0 [0] (.loop [0,27,28] c205L0))) (.seq (.region [.k 4 1]) (.seq (.seq (.region [.m 38 0, .o 39 (.nilck (.tmp 38)), .o 40 (.f 0 39), .o 41 (.l 40), .o 42 (.c .sub 41 1), .k 43 0]) (.block 2 [4] (.loop [0,4,42,43] c205L1))) (.seq (.region [.m 76 4, .o 77 (.c .eql 76 1), .m 2 77]) .ret)))))))
def F205:AFun:=⟨c205,1,78,[(.tmp 2)]⟩
def K205:Nat→List Nat×List Nat
 |0=>([0,27,28],[0])
 |1=>([],[0,27,28])
 |2=>([0,4,42,43],[4])
 |3=>([],[0,4,42,43])
 |_=>([],[])
theorem F205_ok:kj8 Try.prog K205 Try.f205=some F205:=by kernel_rfl
/- 206: syndrome/field.digits -/
def c206L0:ACode:=(.seq (.region [.o 14 (.b .lss 13 12)]) (.seq (.cond (.tmp 14) .skip (.exit 0)) (.seq (.block 1 [0,1,7,12,13] (.seq (.region [.m 15 13, .m 8 15]) (.seq (.region [.m 16 7, .m 17 8, .m 18 0, .m 19 1, .o 20 (.b .rem 18 19), .o 21 (.i 1 16 17), .n (.st 1 (.tmp 21) (.tmp 20))]) (.region [.m 22 0, .m 23 1, .o 24 (.b .quo 22 23), .m 0 24])))) (.region [.o 25 (.c .add 13 1), .m 13 25]))))
def c206:ACode:=(.seq (.region [.o 6 (.mv (.const (.slice none 0 0)))]) (.seq (.region [.m 9 2, .o 10 (.mks 3 1 8 [(.int .i64 0)] (.tmp 9) (.tmp 9)), .m 7 10]) (.seq (.seq (.region [.m 11 7, .o 12 (.n 11), .k 13 0]) (.block 0 [7] (.loop [0,1,7,12,13] c206L0))) (.seq (.region [.m 26 7, .m 6 26]) .ret))))
def F206:AFun:=⟨c206,3,27,[(.tmp 6)]⟩
def K206:Nat→List Nat×List Nat
 |0=>([0,1,7,12,13],[7])
 |1=>([],[0,1,7,12,13])
 |_=>([],[])
theorem F206_ok:kj8 Try.prog K206 Try.f206=some F206:=by kernel_rfl
/- 211: (syndrome/syndromeref.F).Mul -/
def c211L0:ACode:=(.seq (.seq (.region [.m 55 11, .o 56 (.f 2 3), .o 57 (.l 56), .o 58 (.b .lss 55 57)]) (.cond (.tmp 58) .skip (.exit 2))) (.seq (.block 3 [3,7,8,9,10,11] (.region [.m 61 9, .m 62 10, .m 63 11, .o 64 (.b .add 62 63), .m 65 9, .m 66 10, .m 67 11, .o 68 (.b .add 66 67), .o 69 (.i 1 65 68), .o 70 (.l 69), .m 71 7, .m 72 10, .o 73 (.i 1 71 72), .o 74 (.l 73), .m 75 8, .m 76 11, .o 77 (.i 1 75 76), .o 78 (.l 77), .o 79 (.b .mul 74 78), .o 80 (.b .add 70 79), .o 81 (.f 1 3), .o 82 (.l 81), .o 83 (.b .rem 80 82), .o 84 (.i 1 61 64), .n (.st 1 (.tmp 84) (.tmp 83))])) (.region [.m 59 11, .o 60 (.c .add 59 1), .m 11 60])))
def c211L1:ACode:=(.seq (.seq (.region [.m 49 10, .o 50 (.f 2 3), .o 51 (.l 50), .o 52 (.b .lss 49 51)]) (.cond (.tmp 52) .skip (.exit 0))) (.seq (.block 1 [3,7,8,9,10] (.seq (.region [.k 11 0]) (.block 2 [3,7,8,9,10] (.loop [3,7,8,9,10,11] c211L0)))) (.region [.m 53 10, .o 54 (.c .add 53 1), .m 10 54])))
def c211L2:ACode:=(.seq (.seq (.region [.m 95 13, .o 96 (.f 2 3), .o 97 (.l 96), .o 98 (.b .lss 95 97)]) (.cond (.tmp 98) .skip (.exit 6))) (.seq (.block 7 [3,9,12,13] (.region [.m 101 9, .m 102 12, .o 103 (.f 2 3), .o 104 (.l 103), .o 105 (.b .sub 102 104), .m 106 13, .o 107 (.b .add 105 106), .m 108 9, .m 109 12, .o 110 (.f 2 3), .o 111 (.l 110), .o 112 (.b .sub 109 111), .m 113 13, .o 114 (.b .add 112 113), .o 115 (.i 1 108 114), .o 116 (.l 115), .m 117 9, .m 118 12, .o 119 (.i 1 117 118), .o 120 (.l 119), .o 121 (.f 1 3), .o 122 (.l 121), .o 123 (.f 4 3), .o 124 (.l 123), .m 125 13, .o 126 (.i 1 124 125), .o 127 (.l 126), .o 128 (.b .sub 122 127), .o 129 (.b .mul 120 128), .o 130 (.b .add 116 129), .o 131 (.f 1 3), .o 132 (.l 131), .o 133 (.b .rem 130 132), .o 134 (.i 1 101 107), .n (.st 1 (.tmp 134) (.tmp 133))])) (.region [.m 99 13, .o 100 (.c .add 99 1), .m 13 100])))
def c211L3:ACode:=(.seq (.seq (.region [.m 89 12, .o 90 (.f 2 3), .o 91 (.l 90), .o 92 (.b .geq 89 91)]) (.cond (.tmp 92) .skip (.exit 4))) (.seq (.block 5 [3,9,12] (.seq (.seq (.region [.k 13 0]) (.block 6 [3,9,12] (.loop [3,9,12,13] c211L2))) (.region [.m 135 9, .m 136 12, .o 137 (.i 1 135 136), .n (.st 1 (.tmp 137) (.const (.int .i64 0)))]))) (.region [.m 93 12, .o 94 (.c .sub 93 1), .m 12 94])))
def c211:ACode:=(.seq (.region [.o 3 (.box 121 5 (.tmp 0)), .k 6 0]) (.seq (.seq (.region [.o 14 (.ld true 5 (.tmp 3)), .m 15 1, .o 16 (.q 96 [14,15]), .o 17 (.un .not (.tmp 16)), .m 18 17, .g 19 (.ld true 5 (.tmp 3)) 18 false, .g 20 (.m 2) 18 false, .g 21 (.q 96 [19,20]) 18 false, .g 22 (.un .not (.tmp 21)) 18 false, .o 23 (.pick (.tmp 18) (.const (.bool true)) (.tmp 22))]) (.cond (.tmp 23) (.seq (.region [.k 6 (-1)]) .ret) .skip)) (.seq (.seq (.region [.o 24 (.f 2 3), .o 25 (.l 24), .o 26 (.c .eql 25 1)]) (.cond (.tmp 26) (.seq (.region [.m 27 1, .m 28 2, .o 29 (.b .mul 27 28), .o 30 (.f 1 3), .o 31 (.l 30), .o 32 (.b .rem 29 31), .m 6 32]) .ret) .skip)) (.seq (.region [.m 33 1, .o 34 (.f 1 3), .o 35 (.l 34), .o 36 (.f 2 3), .o 37 (.l 36), .o 38 (.q 177 [33,35,37]), .m 7 38]) (.seq (.region [.m 39 2, .o 40 (.f 1 3), .o 41 (.l 40), .o 42 (.f 2 3), .o 43 (.l 42), .o 44 (.q 177 [39,41,43]), .m 8 44]) (.seq (.region [.o 45 (.f 2 3), .o 46 (.l 45), .o 47 (.bin .mul (.const (.int .i64 2)) (.tmp 46)), .o 48 (.mks 3 1 8 [(.int .i64 0)] (.tmp 47) (.tmp 47)), .m 9 48]) (.seq (.seq (.region [.k 10 0]) (.block 0 [3,9] (.loop [3,7,8,9,10] c211L1))) (.seq (.seq (.region [.o 85 (.f 2 3), .o 86 (.l 85), .o 87 (.bin .mul (.const (.int .i64 2)) (.tmp 86)), .o 88 (.c .sub 87 1), .m 12 88]) (.block 4 [3,9] (.loop [3,9,12] c211L3))) (.seq (.region [.m 138 9, .o 139 (.f 2 3), .o 140 (.l 139), .o 141 (.sl 1 (.tmp 138) none (some (.tmp 140))), .o 142 (.f 1 3), .o 143 (.l 142), .o 144 (.q 233 [141,143]), .m 6 144]) .ret)))))))))
def F211:AFun:=⟨c211,3,145,[(.tmp 6)]⟩
def K211:Nat→List Nat×List Nat
 |0=>([3,7,8,9,10],[3,9])
 |1=>([],[3,7,8,9,10])
 |2=>([3,7,8,9,10,11],[3,7,8,9,10])
 |3=>([],[3,7,8,9,10,11])
 |4=>([3,9,12],[3,9])
 |5=>([],[3,9,12])
 |6=>([3,9,12,13],[3,9,12])
 |7=>([],[3,9,12,13])
 |_=>([],[])
theorem F211_ok:kj8 Try.prog K211 Try.f211=some F211:=by kernel_rfl
end Go.Proofs.Ytmhbpecdpiapgaa
