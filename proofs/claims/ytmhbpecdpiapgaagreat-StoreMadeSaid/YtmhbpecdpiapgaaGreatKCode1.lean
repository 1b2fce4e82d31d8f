/-
  Functions of this seat as the small machine's code, written by a program of my own (gen.py); each is checked to be what the model's function is turned into. No condition.
-/
import Derived.Test.YtmhbpecdpiapgaaGreatK1
import Derived.Test.YtmhbpecdpiapgaaGreatProg
set_option linter.unusedVariables false
set_option linter.unusedSimpArgs false
set_option linter.unusedSectionVars false
set_option maxRecDepth 100000
namespace Go.Proofs.YtmhbpecdpiapgaaGreat
open Go.Am
/- 51: (*syndrome/store.Plan).Read -/
def c51L0:ACode:=(.seq (.region [.o 44 (.b .lss 43 42)]) (.seq (.cond (.tmp 44) .skip (.exit 0)) (.seq (.block 1 [0,1,2,41,42,43] (.seq (.region [.o 45 (.i 1 41 43), .o 46 (.l 45), .m 10 46]) (.seq (.seq (.region [.m 47 10, .o 48 (.n 47), .m 49 0, .o 50 (.nilck (.tmp 49)), .o 51 (.f 3 50), .o 52 (.l 51), .o 53 (.b .neq 48 52)]) (.cond (.tmp 53) (.seq (.region [.o 6 (.mv (.const (.slice none 0 0))), .k 7 6]) .ret) .skip)) (.seq (.region [.m 54 0, .m 55 10, .o 56 (.q 43 [54,55]), .o 57 (.un .not (.tmp 56))]) (.cond (.tmp 57) (.seq (.region [.o 6 (.mv (.const (.slice none 0 0))), .k 7 2]) .ret) .skip))))) (.region [.o 58 (.c .add 43 1), .m 43 58]))))
def c51L1:ACode:=(.seq (.region [.o 97 (.b .lss 96 95)]) (.seq (.cond (.tmp 97) .skip (.exit 6)) (.seq (.block 7 [0,2,11,13,14,17,18,19,20,67,68,69,84,85,86,94,95,96] (.seq (.region [.m 98 96, .o 99 (.i 1 94 96), .o 100 (.l 99), .m 21 98, .m 22 100]) (.seq (.region [.m 101 0, .m 102 21, .m 103 18, .o 104 (.q 88 [101,102,103]), .m 23 104]) (.seq (.region [.m 105 23, .o 106 (.c .geq 105 0)]) (.cond (.tmp 106) (.region [.m 107 20, .m 108 23, .m 109 11, .m 110 20, .m 111 23, .o 112 (.i 1 110 111), .o 113 (.l 112), .m 114 22, .o 115 (.q 86 [109,113,114]), .o 116 (.i 1 107 108), .n (.st 1 (.tmp 116) (.tmp 115))]) .skip))))) (.region [.o 117 (.c .add 96 1), .m 96 117]))))
def c51L2:ACode:=(.seq (.region [.o 87 (.b .lss 86 85)]) (.seq (.cond (.tmp 87) .skip (.exit 4)) (.seq (.block 5 [0,2,11,13,14,17,67,68,69,84,85,86] (.seq (.region [.m 88 86, .o 89 (.i 1 84 86), .o 90 (.l 89), .m 18 88, .m 19 90]) (.seq (.region [.m 91 0, .o 92 (.q 10 [91]), .o 93 (.mks 3 1 8 [(.int .i64 0)] (.tmp 92) (.tmp 92)), .m 20 93]) (.seq (.seq (.region [.m 94 17, .o 95 (.n 94), .k 96 0]) (.block 6 [0,2,11,13,14,17,19,20,67,68,69,84,85,86] (.loop [0,2,11,13,14,17,18,19,20,67,68,69,84,85,86,94,95,96] c51L1))) (.region [.m 118 13, .m 119 20, .o 120 (.mkSl 22 1 1 [(.tmp 119)]), .o 121 (.app 22 1 24 (.tmp 118) (.tmp 120)), .m 122 14, .m 123 19, .o 124 (.mkSl 3 1 1 [(.tmp 123)]), .o 125 (.app 3 1 8 (.tmp 122) (.tmp 124)), .m 13 121, .m 14 125]))))) (.region [.o 126 (.c .add 86 1), .m 86 126]))))
def c51L3:ACode:=(.seq (.region [.o 70 (.b .lss 69 68)]) (.seq (.cond (.tmp 70) .skip (.exit 2)) (.seq (.block 3 [0,2,11,13,14,67,68,69] (.seq (.region [.m 71 69, .o 72 (.i 1 67 69), .o 73 (.l 72), .m 15 71, .m 16 73]) (.seq (.region [.m 74 0, .m 75 16, .m 76 0, .o 77 (.nilck (.tmp 76)), .o 78 (.f 3 77), .o 79 (.l 78), .o 80 (.q 44 [74,75,79]), .m 17 80]) (.seq (.region [.m 81 2, .m 82 15, .o 83 (.i 1 81 82), .o 84 (.l 83), .o 85 (.n 84), .k 86 0]) (.block 4 [0,2,11,13,14,67,68,69] (.loop [0,2,11,13,14,17,67,68,69,84,85,86] c51L2)))))) (.region [.o 127 (.c .add 69 1), .m 69 127]))))
def c51:ACode:=(.seq (.region [.o 6 (.mv (.const (.slice none 0 0))), .k 7 0]) (.seq (.seq (.region [.m 26 0, .m 27 1, .m 28 0, .o 29 (.nilck (.tmp 28)), .o 30 (.f 2 29), .o 31 (.l 30), .o 32 (.q 91 [26,27,31]), .m 8 32]) (.seq (.region [.m 33 8, .o 34 (.c .neq 33 0)]) (.cond (.tmp 34) (.seq (.region [.m 35 8, .o 6 (.mv (.const (.slice none 0 0))), .m 7 35]) .ret) .skip))) (.seq (.seq (.region [.m 36 2, .o 37 (.n 36), .m 38 1, .o 39 (.n 38), .o 40 (.b .neq 37 39)]) (.cond (.tmp 40) (.seq (.region [.o 6 (.mv (.const (.slice none 0 0))), .k 7 6]) .ret) .skip)) (.seq (.seq (.region [.m 41 2, .o 42 (.n 41), .k 43 0]) (.block 0 [0,1,2] (.loop [0,1,2,41,42,43] c51L0))) (.seq (.region [.m 60 0, .o 61 (.nilck (.tmp 60)), .o 62 (.f 0 61), .o 63 (.l 62), .o 64 (.q 36 [63]), .m 59 64, .o 65 (.e 0 59), .o 66 (.e 1 59), .m 11 65, .m 12 66]) (.seq (.region [.o 13 (.mv (.const (.slice none 0 0)))]) (.seq (.region [.o 14 (.mv (.const (.slice none 0 0)))]) (.seq (.seq (.region [.m 67 1, .o 68 (.n 67), .k 69 0]) (.block 2 [0,11,13,14] (.loop [0,2,11,13,14,67,68,69] c51L3))) (.seq (.region [.m 129 11, .m 130 13, .m 131 14, .m 132 0, .o 133 (.q 10 [132]), .o 134 (.q 92 [129,130,131,133]), .m 128 134, .o 135 (.e 0 128), .o 136 (.e 1 128), .m 24 135, .m 25 136]) (.seq (.seq (.region [.m 137 25, .o 138 (.un .not (.tmp 137))]) (.cond (.tmp 138) (.seq (.region [.o 6 (.mv (.const (.slice none 0 0))), .k 7 9]) .ret) .skip)) (.seq (.region [.m 139 24, .m 6 139, .k 7 0]) .ret)))))))))))
def F51:AFun:=⟨c51,3,140,[(.tmp 6),(.tmp 7)]⟩
def K51:Nat→List Nat×List Nat
 |0=>([0,1,2,41,42,43],[0,1,2])
 |1=>([],[0,1,2,41,42,43])
 |2=>([0,2,11,13,14,67,68,69],[0,11,13,14])
 |3=>([],[0,2,11,13,14,67,68,69])
 |4=>([0,2,11,13,14,17,67,68,69,84,85,86],[0,2,11,13,14,67,68,69])
 |5=>([],[0,2,11,13,14,17,67,68,69,84,85,86])
 |6=>([0,2,11,13,14,17,18,19,20,67,68,69,84,85,86,94,95,96],[0,2,11,13,14,17,19,20,67,68,69,84,85,86])
 |7=>([],[0,2,11,13,14,17,18,19,20,67,68,69,84,85,86,94,95,96])
 |_=>([],[])
theorem F51_ok:kj8 Tryz.prog K51 Tryz.f51=some F51:=by kernel_rfl
/- 52: syndrome/syndromelaw.list -/
def c52:ACode:=(.seq (.region [.o 8 (.mv (.const (.bool false)))]) (.seq (.seq (.region [.m 9 3, .o 10 (.c .neq 9 0)]) (.cond (.tmp 10) (.seq (.region [.m 11 1, .m 12 3, .o 13 (.b .eql 11 12), .m 14 13, .g 15 (.m 0) 14 true, .g 16 (.n 15) 14 true, .g 17 (.c .eql 16 0) 14 true, .o 18 (.pick (.tmp 14) (.tmp 17) (.const (.bool false))), .m 8 18]) .ret) .skip)) (.seq (.region [.m 19 1, .o 20 (.c .eql 19 0), .m 21 20, .g 22 (.m 0) 21 true, .g 23 (.m 2) 21 true, .g 24 (.q 89 [22,23]) 21 true, .o 25 (.pick (.tmp 21) (.tmp 24) (.const (.bool false))), .m 8 25]) .ret)))
def F52:AFun:=⟨c52,4,26,[(.tmp 8)]⟩
def K52:Nat→List Nat×List Nat
 |_=>([],[])
theorem F52_ok:kj8 Tryz.prog K52 Tryz.f52=some F52:=by kernel_rfl
/- 53: (*syndrome/store.Plan).Help -/
def c53L0:ACode:=(.seq (.region [.o 51 (.b .lss 50 49)]) (.seq (.cond (.tmp 51) .skip (.exit 0)) (.seq (.block 1 [1,8,10,48,49,50] (.seq (.region [.m 52 50, .o 53 (.i 1 48 50), .o 54 (.l 53), .m 11 52, .m 12 54]) (.region [.m 55 8, .m 56 10, .m 57 8, .m 58 1, .m 59 11, .o 60 (.i 1 58 59), .o 61 (.l 60), .m 62 12, .o 63 (.q 87 [57,61,62]), .o 64 (.q 86 [55,56,63]), .m 10 64]))) (.region [.o 65 (.c .add 50 1), .m 50 65]))))
def c53:ACode:=(.seq (.region [.k 6 0, .k 7 0]) (.seq (.seq (.region [.m 13 1, .o 14 (.n 13), .m 15 0, .o 16 (.nilck (.tmp 15)), .o 17 (.f 3 16), .o 18 (.l 17), .o 19 (.b .neq 14 18)]) (.cond (.tmp 19) (.seq (.region [.k 6 0, .k 7 6]) .ret) .skip)) (.seq (.seq (.region [.m 20 0, .m 21 1, .o 22 (.q 43 [20,21]), .o 23 (.un .not (.tmp 22))]) (.cond (.tmp 23) (.seq (.region [.k 6 0, .k 7 2]) .ret) .skip)) (.seq (.seq (.region [.m 24 2, .o 25 (.c .lss 24 0), .m 26 25, .g 27 (.m 2) 26 false, .g 28 (.m 0) 26 false, .g 29 (.nilck (.tmp 28)) 26 false, .g 30 (.f 1 29) 26 false, .g 31 (.l 30) 26 false, .g 32 (.b .geq 27 31) 26 false, .o 33 (.pick (.tmp 26) (.const (.bool true)) (.tmp 32))]) (.cond (.tmp 33) (.seq (.region [.k 6 0, .k 7 10]) .ret) .skip)) (.seq (.region [.m 35 0, .o 36 (.nilck (.tmp 35)), .o 37 (.f 0 36), .o 38 (.l 37), .o 39 (.q 36 [38]), .m 34 39, .o 40 (.e 0 34), .o 41 (.e 1 34), .m 8 40, .m 9 41]) (.seq (.region [.k 10 0]) (.seq (.seq (.region [.m 42 0, .m 43 2, .m 44 0, .o 45 (.nilck (.tmp 44)), .o 46 (.f 3 45), .o 47 (.l 46), .o 48 (.q 44 [42,43,47]), .o 49 (.n 48), .k 50 0]) (.block 0 [10] (.loop [1,8,10,48,49,50] c53L0))) (.seq (.region [.m 66 10, .m 6 66, .k 7 0]) .ret))))))))
def F53:AFun:=⟨c53,3,67,[(.tmp 6),(.tmp 7)]⟩
def K53:Nat→List Nat×List Nat
 |0=>([1,8,10,48,49,50],[10])
 |1=>([],[1,8,10,48,49,50])
 |_=>([],[])
theorem F53_ok:kj8 Tryz.prog K53 Tryz.f53=some F53:=by kernel_rfl
/- 54: syndrome/syndromelaw.num -/
def c54:ACode:=(.seq (.region [.o 8 (.mv (.const (.bool false)))]) (.seq (.seq (.region [.m 9 3, .o 10 (.c .neq 9 0)]) (.cond (.tmp 10) (.seq (.region [.m 11 1, .m 12 3, .o 13 (.b .eql 11 12), .m 14 13, .g 15 (.m 0) 14 true, .g 16 (.c .eql 15 0) 14 true, .o 17 (.pick (.tmp 14) (.tmp 16) (.const (.bool false))), .m 8 17]) .ret) .skip)) (.seq (.region [.m 18 1, .o 19 (.c .eql 18 0), .m 20 19, .g 21 (.m 0) 20 true, .g 22 (.m 2) 20 true, .g 23 (.b .eql 21 22) 20 true, .o 24 (.pick (.tmp 20) (.tmp 23) (.const (.bool false))), .m 8 24]) .ret)))
def F54:AFun:=⟨c54,4,25,[(.tmp 8)]⟩
def K54:Nat→List Nat×List Nat
 |_=>([],[])
theorem F54_ok:kj8 Tryz.prog K54 Tryz.f54=some F54:=by kernel_rfl
/- 55: syndrome/syndromeref.In -/
def c55L0:ACode:=(.seq (.seq (.region [.m 6 5, .m 7 1, .o 8 (.n 7), .o 9 (.b .lss 6 8)]) (.cond (.tmp 9) .skip (.exit 0))) (.seq (.block 1 [0,1,5] (.seq (.region [.m 12 1, .m 13 5, .o 14 (.i 1 12 13), .o 15 (.l 14), .m 16 0, .o 17 (.b .eql 15 16)]) (.cond (.tmp 17) (.seq (.region [.o 4 (.mv (.const (.bool true)))]) .ret) .skip))) (.region [.m 10 5, .o 11 (.c .add 10 1), .m 5 11])))
def c55:ACode:=(.seq (.region [.o 4 (.mv (.const (.bool false)))]) (.seq (.seq (.region [.k 5 0]) (.block 0 [] (.loop [0,1,5] c55L0))) (.seq (.region [.o 4 (.mv (.const (.bool false)))]) .ret)))
def F55:AFun:=⟨c55,2,18,[(.tmp 4)]⟩
def K55:Nat→List Nat×List Nat
 |0=>([0,1,5],[])
 |1=>([],[0,1,5])
 |_=>([],[])
theorem F55_ok:kj8 Tryz.prog K55 Tryz.f55=some F55:=by kernel_rfl
/- 56: (syndrome/syndromeref.F).Solve -/
def c56L0:ACode:=(.seq (.seq (.region [.m 19 10, .m 20 1, .o 21 (.n 20), .o 22 (.b .lss 19 21)]) (.cond (.tmp 22) .skip (.exit 0))) (.seq (.block 1 [1,2,3,8,9,10] (.region [.m 25 9, .m 26 1, .m 27 10, .o 28 (.i 1 26 27), .o 29 (.l 28),⟨(some 30),(.call 93 [(.tmp 29)]),none,true⟩, .m 31 2, .m 32 10, .o 33 (.i 1 31 32),⟨(some 34),(.ld false 1 (.tmp 33)),none,true⟩, .o 35 (.mkSl 3 1 1 [(.tmp 34)]), .o 36 (.app 3 1 8 (.tmp 30) (.tmp 35)), .o 37 (.mkSl 22 1 1 [(.tmp 36)]), .o 38 (.app 22 1 24 (.tmp 25) (.tmp 37)), .m 9 38])) (.region [.m 23 10, .o 24 (.c .add 23 1), .m 10 24])))
def c56L1:ACode:=(.seq (.seq (.region [.m 47 14, .m 48 11, .o 49 (.n 48), .o 50 (.b .lss 47 49)]) (.cond (.tmp 50) .skip (.exit 2))) (.seq (.block 3 [8,11,12,13,14] (.seq (.seq (.region [.m 53 12, .m 54 14, .o 55 (.i 1 53 54), .o 56 (.l 55), .m 57 8, .o 58 (.b .eql 56 57)]) (.cond (.tmp 58) (.seq (.region [.o 6 (.mv (.const (.slice none 0 0))), .o 7 (.mv (.const (.bool false)))]) .ret) .skip)) (.region [.m 59 13, .m 60 12, .m 61 14, .o 62 (.i 1 60 61), .o 63 (.l 62), .m 64 11, .m 65 14, .o 66 (.i 1 64 65), .o 67 (.l 66), .m 68 8, .o 69 (.i 1 67 68), .o 70 (.l 69), .o 71 (.i 1 59 63), .n (.st 1 (.tmp 71) (.tmp 70))]))) (.region [.m 51 14, .o 52 (.c .add 51 1), .m 14 52])))
def c56:ACode:=(.seq (.region [.o 3 (.box 31 5 (.tmp 0)), .o 6 (.mv (.const (.slice none 0 0))), .o 7 (.mv (.const (.bool false)))]) (.seq (.region [.m 15 1, .o 16 (.iaddr 1 (.tmp 15) (.const (.int .i64 0))), .o 17 (.l 16), .o 18 (.n 17), .m 8 18]) (.seq (.region [.o 9 (.mv (.const (.slice none 0 0)))]) (.seq (.seq (.region [.k 10 0]) (.block 0 [3,8,9] (.loop [1,2,3,8,9,10] c56L0))) (.seq (.region [.o 40 (.ld true 5 (.tmp 3)), .m 41 9, .o 42 (.q 62 [40,41]), .m 39 42, .o 43 (.e 0 39), .o 44 (.e 1 39), .m 11 43, .m 12 44]) (.seq (.region [.m 45 8, .o 46 (.mks 3 1 8 [(.int .i64 0)] (.tmp 45) (.tmp 45)), .m 13 46]) (.seq (.seq (.region [.k 14 0]) (.block 2 [13] (.loop [8,11,12,13,14] c56L1))) (.seq (.region [.m 72 13, .m 6 72, .o 7 (.mv (.const (.bool true)))]) .ret))))))))
def F56:AFun:=⟨c56,3,73,[(.tmp 6),(.tmp 7)]⟩
def K56:Nat→List Nat×List Nat
 |0=>([1,2,3,8,9,10],[3,8,9])
 |1=>([],[1,2,3,8,9,10])
 |2=>([8,11,12,13,14],[13])
 |3=>([],[8,11,12,13,14])
 |_=>([],[])
theorem F56_ok:kj8 Tryz.prog K56 Tryz.f56=some F56:=by kernel_rfl
/- 57: (*syndrome/store.Plan).Mend -/
def c57L0:ACode:=(.seq (.region [.o 52 (.b .lss 51 50)]) (.seq (.cond (.tmp 52) .skip (.exit 0)) (.seq (.block 1 [0,3,11,49,50,51] (.seq (.region [.o 53 (.i 1 49 51), .o 54 (.l 53), .m 13 54]) (.region [.m 55 11, .m 56 0, .m 57 13, .m 58 0, .o 59 (.nilck (.tmp 58)), .o 60 (.f 3 59), .o 61 (.l 60), .o 62 (.q 44 [56,57,61]), .o 63 (.mkSl 22 1 1 [(.tmp 62)]), .o 64 (.app 22 1 24 (.tmp 55) (.tmp 63)), .m 11 64]))) (.region [.o 65 (.c .add 51 1), .m 51 65]))))
def c57:ACode:=(.seq (.region [.o 8 (.mv (.const (.slice none 0 0))), .k 9 0]) (.seq (.seq (.region [.m 17 1, .o 18 (.c .lss 17 0), .m 19 18, .g 20 (.m 1) 19 false, .g 21 (.m 0) 19 false, .g 22 (.nilck (.tmp 21)) 19 false, .g 23 (.f 1 22) 19 false, .g 24 (.l 23) 19 false, .g 25 (.b .geq 20 24) 19 false, .o 26 (.pick (.tmp 19) (.const (.bool true)) (.tmp 25))]) (.cond (.tmp 26) (.seq (.region [.o 8 (.mv (.const (.slice none 0 0))), .k 9 10]) .ret) .skip)) (.seq (.seq (.region [.m 27 0, .m 28 2, .m 29 0, .o 30 (.nilck (.tmp 29)), .o 31 (.f 3 30), .o 32 (.l 31), .o 33 (.q 91 [27,28,32]), .m 10 33]) (.seq (.region [.m 34 10, .o 35 (.c .neq 34 0)]) (.cond (.tmp 35) (.seq (.region [.m 36 10, .o 8 (.mv (.const (.slice none 0 0))), .m 9 36]) .ret) .skip))) (.seq (.seq (.region [.m 37 2, .m 38 1, .o 39 (.q 94 [37,38])]) (.cond (.tmp 39) (.seq (.region [.o 8 (.mv (.const (.slice none 0 0))), .k 9 7]) .ret) .skip)) (.seq (.seq (.region [.m 40 3, .o 41 (.n 40), .m 42 2, .o 43 (.n 42), .o 44 (.b .neq 41 43)]) (.cond (.tmp 44) (.seq (.region [.o 8 (.mv (.const (.slice none 0 0))), .k 9 6]) .ret) .skip)) (.seq (.seq (.region [.m 45 0, .m 46 3, .o 47 (.q 43 [45,46]), .o 48 (.un .not (.tmp 47))]) (.cond (.tmp 48) (.seq (.region [.o 8 (.mv (.const (.slice none 0 0))), .k 9 2]) .ret) .skip)) (.seq (.region [.o 11 (.mv (.const (.slice none 0 0)))]) (.seq (.seq (.region [.m 49 2, .o 50 (.n 49), .k 51 0]) (.block 0 [0,3,11] (.loop [0,3,11,49,50,51] c57L0))) (.seq (.region [.m 67 0, .o 68 (.nilck (.tmp 67)), .o 69 (.f 0 68), .o 70 (.l 69), .m 71 11, .m 72 3, .o 73 (.q 95 [70,71,72]), .m 66 73, .o 74 (.e 0 66), .o 75 (.e 1 66), .o 76 (.e 2 66), .m 14 74, .m 15 75, .m 16 76]) (.seq (.region [.m 77 14, .m 8 77, .k 9 0]) .ret))))))))))
def F57:AFun:=⟨c57,4,78,[(.tmp 8),(.tmp 9)]⟩
def K57:Nat→List Nat×List Nat
 |0=>([0,3,11,49,50,51],[0,3,11])
 |1=>([],[0,3,11,49,50,51])
 |_=>([],[])
theorem F57_ok:kj8 Tryz.prog K57 Tryz.f57=some F57:=by kernel_rfl
/- 58: syndrome/syndromeref.Raw -/
def c58:ACode:=(.seq (.region [.k 4 0]) (.seq (.seq (.region [.m 5 0, .o 6 (.n 5), .o 7 (.c .eql 6 0)]) (.cond (.tmp 7) (.seq (.region [.m 8 1, .m 4 8]) .ret) .skip)) (.seq (.region [.m 9 0, .m 10 1, .m 11 0, .o 12 (.n 11), .o 13 (.b .rem 10 12), .o 14 (.i 1 9 13), .o 15 (.l 14), .m 16 1, .m 17 0, .o 18 (.n 17), .o 19 (.b .quo 16 18), .o 20 (.c .mul 19 7919), .o 21 (.b .add 15 20), .m 4 21]) .ret)))
def F58:AFun:=⟨c58,2,22,[(.tmp 4)]⟩
def K58:Nat→List Nat×List Nat
 |_=>([],[])
theorem F58_ok:kj8 Tryz.prog K58 Tryz.f58=some F58:=by kernel_rfl
/- 59: (syndrome/syndromeref.F).Add -/
def c59L0:ACode:=(.seq (.seq (.region [.m 47 9, .o 48 (.f 2 3), .o 49 (.l 48), .o 50 (.b .lss 47 49)]) (.cond (.tmp 50) .skip (.exit 0))) (.seq (.block 1 [3,7,8,9] (.region [.m 53 7, .m 54 9, .m 55 7, .m 56 9, .o 57 (.i 1 55 56), .o 58 (.l 57), .m 59 8, .m 60 9, .o 61 (.i 1 59 60), .o 62 (.l 61), .o 63 (.b .add 58 62), .o 64 (.f 1 3), .o 65 (.l 64), .o 66 (.b .rem 63 65), .o 67 (.i 1 53 54), .n (.st 1 (.tmp 67) (.tmp 66))])) (.region [.m 51 9, .o 52 (.c .add 51 1), .m 9 52])))
def c59:ACode:=(.seq (.region [.o 3 (.box 31 5 (.tmp 0)), .k 6 0]) (.seq (.seq (.region [.o 10 (.ld true 5 (.tmp 3)), .m 11 1, .o 12 (.q 40 [10,11]), .o 13 (.un .not (.tmp 12)), .m 14 13, .g 15 (.ld true 5 (.tmp 3)) 14 false, .g 16 (.m 2) 14 false, .g 17 (.q 40 [15,16]) 14 false, .g 18 (.un .not (.tmp 17)) 14 false, .o 19 (.pick (.tmp 14) (.const (.bool true)) (.tmp 18))]) (.cond (.tmp 19) (.seq (.region [.k 6 (-1)]) .ret) .skip)) (.seq (.seq (.region [.o 20 (.f 2 3), .o 21 (.l 20), .o 22 (.c .eql 21 1)]) (.cond (.tmp 22) (.seq (.region [.m 23 1, .m 24 2, .o 25 (.b .add 23 24), .o 26 (.f 1 3), .o 27 (.l 26), .o 28 (.b .rem 25 27), .m 6 28]) .ret) .skip)) (.seq (.seq (.region [.o 29 (.f 1 3), .o 30 (.l 29), .o 31 (.c .eql 30 2)]) (.cond (.tmp 31) (.seq (.region [.m 32 1, .m 33 2, .o 34 (.b .xor 32 33), .m 6 34]) .ret) .skip)) (.seq (.region [.m 35 1, .o 36 (.f 1 3), .o 37 (.l 36), .o 38 (.f 2 3), .o 39 (.l 38), .o 40 (.q 39 [35,37,39]), .m 7 40]) (.seq (.region [.m 41 2, .o 42 (.f 1 3), .o 43 (.l 42), .o 44 (.f 2 3), .o 45 (.l 44), .o 46 (.q 39 [41,43,45]), .m 8 46]) (.seq (.seq (.region [.k 9 0]) (.block 0 [3,7] (.loop [3,7,8,9] c59L0))) (.seq (.region [.m 68 7, .o 69 (.f 1 3), .o 70 (.l 69), .o 71 (.q 96 [68,70]), .m 6 71]) .ret))))))))
def F59:AFun:=⟨c59,3,72,[(.tmp 6)]⟩
def K59:Nat→List Nat×List Nat
 |0=>([3,7,8,9],[3,7])
 |1=>([],[3,7,8,9])
 |_=>([],[])
theorem F59_ok:kj8 Tryz.prog K59 Tryz.f59=some F59:=by kernel_rfl
/- 60: (syndrome/syndromeref.F).Mul -/
def c60L0:ACode:=(.seq (.seq (.region [.m 55 11, .o 56 (.f 2 3), .o 57 (.l 56), .o 58 (.b .lss 55 57)]) (.cond (.tmp 58) .skip (.exit 2))) (.seq (.block 3 [3,7,8,9,10,11] (.region [.m 61 9, .m 62 10, .m 63 11, .o 64 (.b .add 62 63), .m 65 9, .m 66 10, .m 67 11, .o 68 (.b .add 66 67), .o 69 (.i 1 65 68), .o 70 (.l 69), .m 71 7, .m 72 10, .o 73 (.i 1 71 72), .o 74 (.l 73), .m 75 8, .m 76 11, .o 77 (.i 1 75 76), .o 78 (.l 77), .o 79 (.b .mul 74 78), .o 80 (.b .add 70 79), .o 81 (.f 1 3), .o 82 (.l 81), .o 83 (.b .rem 80 82), .o 84 (.i 1 61 64), .n (.st 1 (.tmp 84) (.tmp 83))])) (.region [.m 59 11, .o 60 (.c .add 59 1), .m 11 60])))
def c60L1:ACode:=(.seq (.seq (.region [.m 49 10, .o 50 (.f 2 3), .o 51 (.l 50), .o 52 (.b .lss 49 51)]) (.cond (.tmp 52) .skip (.exit 0))) (.seq (.block 1 [3,7,8,9,10] (.seq (.region [.k 11 0]) (.block 2 [3,7,8,9,10] (.loop [3,7,8,9,10,11] c60L0)))) (.region [.m 53 10, .o 54 (.c .add 53 1), .m 10 54])))
def c60L2:ACode:=(.seq (.seq (.region [.m 95 13, .o 96 (.f 2 3), .o 97 (.l 96), .o 98 (.b .lss 95 97)]) (.cond (.tmp 98) .skip (.exit 6))) (.seq (.block 7 [3,9,12,13] (.region [.m 101 9, .m 102 12, .o 103 (.f 2 3), .o 104 (.l 103), .o 105 (.b .sub 102 104), .m 106 13, .o 107 (.b .add 105 106), .m 108 9, .m 109 12, .o 110 (.f 2 3), .o 111 (.l 110), .o 112 (.b .sub 109 111), .m 113 13, .o 114 (.b .add 112 113), .o 115 (.i 1 108 114), .o 116 (.l 115), .m 117 9, .m 118 12, .o 119 (.i 1 117 118), .o 120 (.l 119), .o 121 (.f 1 3), .o 122 (.l 121), .o 123 (.f 4 3), .o 124 (.l 123), .m 125 13, .o 126 (.i 1 124 125), .o 127 (.l 126), .o 128 (.b .sub 122 127), .o 129 (.b .mul 120 128), .o 130 (.b .add 116 129), .o 131 (.f 1 3), .o 132 (.l 131), .o 133 (.b .rem 130 132), .o 134 (.i 1 101 107), .n (.st 1 (.tmp 134) (.tmp 133))])) (.region [.m 99 13, .o 100 (.c .add 99 1), .m 13 100])))
def c60L3:ACode:=(.seq (.seq (.region [.m 89 12, .o 90 (.f 2 3), .o 91 (.l 90), .o 92 (.b .geq 89 91)]) (.cond (.tmp 92) .skip (.exit 4))) (.seq (.block 5 [3,9,12] (.seq (.seq (.region [.k 13 0]) (.block 6 [3,9,12] (.loop [3,9,12,13] c60L2))) (.region [.m 135 9, .m 136 12, .o 137 (.i 1 135 136), .n (.st 1 (.tmp 137) (.const (.int .i64 0)))]))) (.region [.m 93 12, .o 94 (.c .sub 93 1), .m 12 94])))
def c60:ACode:=(.seq (.region [.o 3 (.box 31 5 (.tmp 0)), .k 6 0]) (.seq (.seq (.region [.o 14 (.ld true 5 (.tmp 3)), .m 15 1, .o 16 (.q 40 [14,15]), .o 17 (.un .not (.tmp 16)), .m 18 17, .g 19 (.ld true 5 (.tmp 3)) 18 false, .g 20 (.m 2) 18 false, .g 21 (.q 40 [19,20]) 18 false, .g 22 (.un .not (.tmp 21)) 18 false, .o 23 (.pick (.tmp 18) (.const (.bool true)) (.tmp 22))]) (.cond (.tmp 23) (.seq (.region [.k 6 (-1)]) .ret) .skip)) (.seq (.seq (.region [.o 24 (.f 2 3), .o 25 (.l 24), .o 26 (.c .eql 25 1)]) (.cond (.tmp 26) (.seq (.region [.m 27 1, .m 28 2, .o 29 (.b .mul 27 28), .o 30 (.f 1 3), .o 31 (.l 30), .o 32 (.b .rem 29 31), .m 6 32]) .ret) .skip)) (.seq (.region [.m 33 1, .o 34 (.f 1 3), .o 35 (.l 34), .o 36 (.f 2 3), .o 37 (.l 36), .o 38 (.q 39 [33,35,37]), .m 7 38]) (.seq (.region [.m 39 2, .o 40 (.f 1 3), .o 41 (.l 40), .o 42 (.f 2 3), .o 43 (.l 42), .o 44 (.q 39 [39,41,43]), .m 8 44]) (.seq (.region [.o 45 (.f 2 3), .o 46 (.l 45), .o 47 (.bin .mul (.const (.int .i64 2)) (.tmp 46)), .o 48 (.mks 3 1 8 [(.int .i64 0)] (.tmp 47) (.tmp 47)), .m 9 48]) (.seq (.seq (.region [.k 10 0]) (.block 0 [3,9] (.loop [3,7,8,9,10] c60L1))) (.seq (.seq (.region [.o 85 (.f 2 3), .o 86 (.l 85), .o 87 (.bin .mul (.const (.int .i64 2)) (.tmp 86)), .o 88 (.c .sub 87 1), .m 12 88]) (.block 4 [3,9] (.loop [3,9,12] c60L3))) (.seq (.region [.m 138 9, .o 139 (.f 2 3), .o 140 (.l 139), .o 141 (.sl 1 (.tmp 138) none (some (.tmp 140))), .o 142 (.f 1 3), .o 143 (.l 142), .o 144 (.q 96 [141,143]), .m 6 144]) .ret)))))))))
def F60:AFun:=⟨c60,3,145,[(.tmp 6)]⟩
def K60:Nat→List Nat×List Nat
 |0=>([3,7,8,9,10],[3,9])
 |1=>([],[3,7,8,9,10])
 |2=>([3,7,8,9,10,11],[3,7,8,9,10])
 |3=>([],[3,7,8,9,10,11])
 |4=>([3,9,12],[3,9])
 |5=>([],[3,9,12])
 |6=>([3,9,12,13],[3,9,12])
 |7=>([],[3,9,12,13])
 |_=>([],[])
theorem F60_ok:kj8 Tryz.prog K60 Tryz.f60=some F60:=by kernel_rfl
/- 62: (syndrome/syndromeref.F).Reduce -/
def c62L0:ACode:=(.seq (.seq (.region [.m 27 10, .m 28 6, .o 29 (.n 28), .o 30 (.b .lss 27 29)]) (.cond (.tmp 30) .skip (.exit 2))) (.seq (.block 3 [1,2,6,7,8,9,10] (.region [.o 33 (.ld true 5 (.tmp 2)), .m 34 9, .m 35 6, .m 36 10, .o 37 (.i 1 35 36), .o 38 (.l 37), .m 39 9, .m 40 7, .m 41 10, .o 42 (.i 1 40 41), .o 43 (.l 42), .o 44 (.i 1 39 43), .o 45 (.l 44), .o 46 (.q 97 [33,34,38,45]), .m 9 46])) (.region [.m 31 10, .o 32 (.c .add 31 1), .m 10 32])))
def c62L1:ACode:=(.seq (.seq (.region [.m 47 11, .m 48 9, .o 49 (.n 48), .o 50 (.b .lss 47 49), .m 51 50, .g 52 (.m 9) 51 true, .g 53 (.m 11) 51 true, .g 54 (.i 1 52 53) 51 true, .g 55 (.l 54) 51 true, .g 56 (.c .eql 55 0) 51 true, .o 57 (.pick (.tmp 51) (.tmp 56) (.const (.bool false)))]) (.cond (.tmp 57) .skip (.exit 4))) (.block 5 [1,2,6,7,8,9,11] (.region [.m 58 11, .o 59 (.c .add 58 1), .m 11 59])))
def c62L2:ACode:=(.seq (.seq (.region [.m 70 13, .m 71 9, .o 72 (.n 71), .o 73 (.b .lss 70 72)]) (.cond (.tmp 73) .skip (.exit 6))) (.seq (.block 7 [1,2,6,7,8,9,11,12,13] (.region [.m 76 9, .m 77 13, .o 78 (.ld true 5 (.tmp 2)), .m 79 9, .m 80 13, .o 81 (.i 1 79 80), .o 82 (.l 81), .m 83 12, .o 84 (.q 60 [78,82,83]), .o 85 (.i 1 76 77), .n (.st 1 (.tmp 85) (.tmp 84))])) (.region [.m 74 13, .o 75 (.c .add 74 1), .m 13 75])))
def c62L3:ACode:=(.seq (.seq (.region [.m 86 14, .m 87 6, .o 88 (.n 87), .o 89 (.b .lss 86 88)]) (.cond (.tmp 89) .skip (.exit 8))) (.seq (.block 9 [1,2,6,7,8,9,11,14] (.region [.m 92 6, .m 93 14, .o 94 (.ld true 5 (.tmp 2)), .m 95 6, .m 96 14, .o 97 (.i 1 95 96), .o 98 (.l 97), .m 99 9, .m 100 6, .m 101 14, .o 102 (.i 1 100 101), .o 103 (.l 102), .m 104 11, .o 105 (.i 1 103 104), .o 106 (.l 105), .o 107 (.q 97 [94,98,99,106]), .o 108 (.i 1 92 93), .n (.st 1 (.tmp 108) (.tmp 107))])) (.region [.m 90 14, .o 91 (.c .add 90 1), .m 14 91])))
def c62L4:ACode:=(.seq (.seq (.region [.m 109 15, .m 110 6, .o 111 (.n 110), .o 112 (.b .lss 109 111), .m 113 112, .g 114 (.m 7) 113 true, .g 115 (.m 15) 113 true, .g 116 (.i 1 114 115) 113 true, .g 117 (.l 116) 113 true, .g 118 (.m 11) 113 true, .g 119 (.b .lss 117 118) 113 true, .o 120 (.pick (.tmp 113) (.tmp 119) (.const (.bool false)))]) (.cond (.tmp 120) .skip (.exit 10))) (.block 11 [1,2,6,7,8,9,11,15] (.region [.m 121 15, .o 122 (.c .add 121 1), .m 15 122])))
def c62L5:ACode:=(.seq (.seq (.region [.m 16 8, .m 17 1, .o 18 (.n 17), .o 19 (.b .lss 16 18)]) (.cond (.tmp 19) .skip (.exit 0))) (.seq (.block 1 [1,2,6,7,8] (.seq (.region [.m 22 1, .m 23 8, .o 24 (.i 1 22 23), .o 25 (.l 24), .o 26 (.q 93 [25]), .m 9 26]) (.seq (.seq (.region [.k 10 0]) (.block 2 [1,2,6,7,8,9] (.loop [1,2,6,7,8,9,10] c62L0))) (.seq (.region [.k 11 0]) (.seq (.block 4 [1,2,6,7,8,9,11] (.loop [1,2,6,7,8,9,11] c62L1)) (.seq (.seq (.region [.m 60 11, .m 61 9, .o 62 (.n 61), .o 63 (.b .eql 60 62)]) (.cond (.tmp 63) (.exit 1) .skip)) (.seq (.region [.o 64 (.ld true 5 (.tmp 2)), .m 65 9, .m 66 11, .o 67 (.i 1 65 66), .o 68 (.l 67), .o 69 (.q 98 [64,68]), .m 12 69]) (.seq (.seq (.region [.k 13 0]) (.block 6 [1,2,6,7,8,9,11] (.loop [1,2,6,7,8,9,11,12,13] c62L2))) (.seq (.seq (.region [.k 14 0]) (.block 8 [1,2,6,7,8,9,11] (.loop [1,2,6,7,8,9,11,14] c62L3))) (.seq (.region [.k 15 0]) (.seq (.block 10 [1,2,6,7,8,9,11,15] (.loop [1,2,6,7,8,9,11,15] c62L4)) (.seq (.region [.o 123 (.mkSl 22 1 0 []), .m 124 6, .m 125 15, .o 126 (.sl 1 (.tmp 124) none (some (.tmp 125))), .o 127 (.app 22 1 24 (.tmp 123) (.tmp 126)), .m 128 9, .o 129 (.mkSl 22 1 1 [(.tmp 128)]), .o 130 (.app 22 1 24 (.tmp 127) (.tmp 129)), .m 131 6, .m 132 15, .o 133 (.sl 1 (.tmp 131) (some (.tmp 132)) none), .o 134 (.app 22 1 24 (.tmp 130) (.tmp 133)), .m 6 134]) (.region [.o 135 (.mkSl 3 1 0 []), .m 136 7, .m 137 15, .o 138 (.sl 1 (.tmp 136) none (some (.tmp 137))), .o 139 (.app 3 1 8 (.tmp 135) (.tmp 138)), .m 140 11, .o 141 (.mkSl 3 1 1 [(.tmp 140)]), .o 142 (.app 3 1 8 (.tmp 139) (.tmp 141)), .m 143 7, .m 144 15, .o 145 (.sl 1 (.tmp 143) (some (.tmp 144)) none), .o 146 (.app 3 1 8 (.tmp 142) (.tmp 145)), .m 7 146]))))))))))))) (.region [.m 20 8, .o 21 (.c .add 20 1), .m 8 21])))
def c62:ACode:=(.seq (.region [.o 2 (.box 31 5 (.tmp 0)), .o 4 (.mv (.const (.slice none 0 0))), .o 5 (.mv (.const (.slice none 0 0)))]) (.seq (.region [.o 6 (.mv (.const (.slice none 0 0)))]) (.seq (.region [.o 7 (.mv (.const (.slice none 0 0)))]) (.seq (.seq (.region [.k 8 0]) (.block 0 [6,7] (.loop [1,2,6,7,8] c62L5))) (.seq (.region [.m 147 6, .m 148 7, .m 4 147, .m 5 148]) .ret)))))
def F62:AFun:=⟨c62,2,149,[(.tmp 4),(.tmp 5)]⟩
def K62:Nat→List Nat×List Nat
 |0=>([1,2,6,7,8],[6,7])
 |1=>([],[1,2,6,7,8])
 |2=>([1,2,6,7,8,9,10],[1,2,6,7,8,9])
 |3=>([],[1,2,6,7,8,9,10])
 |4=>([1,2,6,7,8,9,11],[1,2,6,7,8,9,11])
 |5=>([],[1,2,6,7,8,9,11])
 |6=>([1,2,6,7,8,9,11,12,13],[1,2,6,7,8,9,11])
 |7=>([],[1,2,6,7,8,9,11,12,13])
 |8=>([1,2,6,7,8,9,11,14],[1,2,6,7,8,9,11])
 |9=>([],[1,2,6,7,8,9,11,14])
 |10=>([1,2,6,7,8,9,11,15],[1,2,6,7,8,9,11,15])
 |11=>([],[1,2,6,7,8,9,11,15])
 |_=>([],[])
theorem F62_ok:kj8 Tryz.prog K62 Tryz.f62=some F62:=by kernel_rfl
/- 66: syndrome/matrix.Check -/
def c66L0:ACode:=(.seq (.region [.o 23 (.b .lss 22 21)]) (.seq (.cond (.tmp 23) .skip (.exit 0)) (.seq (.block 1 [1,5,20,21,22] (.seq (.region [.o 24 (.i 1 20 22), .o 25 (.l 24), .m 8 25]) (.seq (.seq (.region [.m 26 8, .o 27 (.n 26), .m 28 1, .o 29 (.iaddr 1 (.tmp 28) (.const (.int .i64 0))), .o 30 (.l 29), .o 31 (.n 30), .o 32 (.b .neq 27 31), .m 33 32, .g 34 (.m 8) 33 false, .g 35 (.n 34) 33 false, .g 36 (.c .eql 35 0) 33 false, .o 37 (.pick (.tmp 33) (.const (.bool true)) (.tmp 36))]) (.cond (.tmp 37) (.seq (.region [.k 4 3]) .ret) .skip)) (.seq (.seq (.region [.m 38 8, .o 39 (.n 38), .o 40 (.c .gtr 39 64)]) (.cond (.tmp 40) (.seq (.region [.k 4 4]) .ret) .skip)) (.seq (.region [.m 41 8, .o 42 (.mkf 107 [(.tmp 5)]), .o 43 (.q 82 [41,42])]) (.cond (.tmp 43) (.seq (.region [.k 4 2]) .ret) .skip)))))) (.region [.o 44 (.c .add 22 1), .m 22 44]))))
def c66:ACode:=(.seq (.region [.k 4 0]) (.seq (.region [.m 10 0, .o 11 (.q 36 [10]), .m 9 11, .o 12 (.e 0 9), .o 13 (.e 1 9), .o 5 (.alloc 60 [(.pointer none)]), .n (.st 1 (.tmp 5) (.tmp 12)), .m 6 13]) (.seq (.seq (.region [.m 14 6, .o 15 (.c .neq 14 0)]) (.cond (.tmp 15) (.seq (.region [.m 16 6, .m 4 16]) .ret) .skip)) (.seq (.seq (.region [.m 17 1, .o 18 (.n 17), .o 19 (.c .gtr 18 64)]) (.cond (.tmp 19) (.seq (.region [.k 4 4]) .ret) .skip)) (.seq (.seq (.region [.m 20 1, .o 21 (.n 20), .k 22 0]) (.block 0 [] (.loop [1,5,20,21,22] c66L0))) (.seq (.region [.k 4 0]) .ret))))))
def F66:AFun:=⟨c66,2,45,[(.tmp 4)]⟩
def K66:Nat→List Nat×List Nat
 |0=>([1,5,20,21,22],[])
 |1=>([],[1,5,20,21,22])
 |_=>([],[])
theorem F66_ok:kj8 Tryz.prog K66 Tryz.f66=some F66:=by kernel_rfl
/- 80: syndrome/field.New$1 -/
def c80:ACode:=(.region [.o 2 (.l 0), .o 3 (.l 0),⟨(some 4),(.call 81 [(.tmp 3)]),none,true⟩, .o 5 (.f 195 1), .o 6 (.iaddrA 65 1 (.tmp 5) (.tmp 2)), .n (.st 1 (.tmp 6) (.tmp 4))])
def F80:AFun:=⟨c80,2,7,[]⟩
def K80:Nat→List Nat×List Nat
 |_=>([],[])
theorem F80_ok:kj8 Tryz.prog K80 Tryz.f80=some F80:=by kernel_rfl
/- 81: syndrome/field.build -/
def c81L0:ACode:=(.seq (.seq (.region [.m 28 5, .o 29 (.q 123 [28]), .o 30 (.un .not (.tmp 29))]) (.cond (.tmp 30) .skip (.exit 0))) (.seq (.block 1 [5] .skip) (.region [.m 31 5, .o 32 (.nilck (.tmp 31)), .o 33 (.f 4 32), .o 34 (.l 33), .o 35 (.c .add 34 1), .o 36 (.nilck (.tmp 31)), .o 37 (.f 4 36), .n (.st 1 (.tmp 37) (.tmp 35))])))
def c81L1:ACode:=(.seq (.region [.o 45 (.b .lss 44 43)]) (.seq (.cond (.tmp 45) .skip (.exit 2)) (.seq (.block 3 [3,4,5,43,44] (.seq (.region [.m 46 44, .m 6 46]) (.seq (.region [.m 47 5, .m 48 6, .m 49 3, .m 50 4, .o 51 (.q 124 [48,49,50]), .o 52 (.mkSl 3 1 1 [(.const (.int .i64 1))]), .o 53 (.app 3 1 8 (.tmp 51) (.tmp 52)), .o 54 (.nilck (.tmp 47)), .o 55 (.f 3 54), .n (.st 1 (.tmp 55) (.tmp 53))]) (.seq (.region [.m 56 5, .o 57 (.q 123 [56])]) (.cond (.tmp 57) (.seq (.region [.m 58 5, .m 2 58]) .ret) .skip))))) (.region [.o 59 (.c .add 44 1), .m 44 59]))))
def c81:ACode:=(.seq (.region [.o 2 (.mv (.const (.pointer none)))]) (.seq (.region [.m 8 0, .o 9 (.q 122 [8]), .m 7 9, .o 10 (.e 0 7), .o 11 (.e 1 7), .m 3 10, .m 4 11]) (.seq (.seq (.region [.m 12 3, .o 13 (.c .eql 12 0)]) (.cond (.tmp 13) (.seq (.region [.o 2 (.mv (.const (.pointer none)))]) .ret) .skip)) (.seq (.region [.m 14 0, .m 15 3, .m 16 4, .o 17 (.build [(.int .i64 0),(.int .i64 0),(.int .i64 0),(.slice none 0 0),(.int .i64 0),(.slice none 0 0),(.slice none 0 0)] [(0,1),(1,1),(2,1),(3,1),(4,1),(5,1),(6,1)] [(0,(.tmp 14)),(1,(.tmp 15)),(2,(.tmp 16))]), .o 18 (.box 144 7 (.tmp 17)), .m 5 18]) (.seq (.seq (.region [.m 19 4, .o 20 (.c .eql 19 1)]) (.cond (.tmp 20) (.seq (.region [.m 21 5, .o 22 (.mkSl 3 1 2 [(.const (.int .i64 0)),(.const (.int .i64 1))]), .o 23 (.nilck (.tmp 21)), .o 24 (.f 3 23), .n (.st 1 (.tmp 24) (.tmp 22))]) (.seq (.seq (.region [.m 25 5, .o 26 (.nilck (.tmp 25)), .o 27 (.f 4 26), .n (.st 1 (.tmp 27) (.const (.int .i64 1)))]) (.block 0 [5] (.loop [5] c81L0))) (.seq (.region [.m 38 5, .m 2 38]) .ret))) .skip)) (.seq (.region [.m 39 5, .m 40 3, .o 41 (.nilck (.tmp 39)), .o 42 (.f 4 41), .n (.st 1 (.tmp 42) (.tmp 40))]) (.seq (.seq (.region [.m 43 0, .k 44 0]) (.block 2 [] (.loop [3,4,5,43,44] c81L1))) (.seq (.region [.o 2 (.mv (.const (.pointer none)))]) .ret))))))))
def F81:AFun:=⟨c81,1,60,[(.tmp 2)]⟩
def K81:Nat→List Nat×List Nat
 |0=>([5],[5])
 |1=>([],[5])
 |2=>([3,4,5,43,44],[])
 |3=>([],[3,4,5,43,44])
 |_=>([],[])
theorem F81_ok:kj8 Tryz.prog K81 Tryz.f81=some F81:=by kernel_rfl
/- 82: slices.ContainsFunc[[]int,int] -/
def c82:ACode:=(.seq (.region [.o 4 (.mv (.const (.bool false)))]) (.seq (.region [.m 5 0, .m 6 1, .o 7 (.q 125 [5,6]), .o 8 (.c .geq 7 0), .m 4 8]) .ret))
def F82:AFun:=⟨c82,2,9,[(.tmp 4)]⟩
def K82:Nat→List Nat×List Nat
 |_=>([],[])
theorem F82_ok:kj8 Tryz.prog K82 Tryz.f82=some F82:=by kernel_rfl
/- 83: (*syndrome/store.Plan).numbers$1 -/
def c83:ACode:=(.seq (.region [.o 3 (.mv (.const (.bool false)))]) (.seq (.region [.o 4 (.l 1), .m 5 0, .o 6 (.q 84 [4,5]), .o 7 (.un .not (.tmp 6)), .m 3 7]) .ret))
def F83:AFun:=⟨c83,2,8,[(.tmp 3)]⟩
def K83:Nat→List Nat×List Nat
 |_=>([],[])
theorem F83_ok:kj8 Tryz.prog K83 Tryz.f83=some F83:=by kernel_rfl
/- 84: (*syndrome/field.Field).Has -/
def c84:ACode:=(.seq (.region [.o 4 (.mv (.const (.bool false)))]) (.seq (.region [.m 5 1, .o 6 (.c .geq 5 0), .m 7 6, .g 8 (.m 1) 7 true, .g 9 (.m 0) 7 true, .g 10 (.nilck (.tmp 9)) 7 true, .g 11 (.f 0 10) 7 true, .g 12 (.l 11) 7 true, .g 13 (.b .lss 8 12) 7 true, .o 14 (.pick (.tmp 7) (.tmp 13) (.const (.bool false))), .m 4 14]) .ret))
def F84:AFun:=⟨c84,2,15,[(.tmp 4)]⟩
def K84:Nat→List Nat×List Nat
 |_=>([],[])
theorem F84_ok:kj8 Tryz.prog K84 Tryz.f84=some F84:=by kernel_rfl
/- 85: (*syndrome/field.Field).Pow -/
def c85:ACode:=(.seq (.region [.k 6 0]) (.seq (.seq (.region [.m 7 0, .m 8 1, .o 9 (.q 84 [7,8]), .o 10 (.un .not (.tmp 9)), .m 11 10, .g 12 (.m 1) 11 false, .g 13 (.c .eql 12 0) 11 false, .g 14 (.m 13) 11 false, .g 15 (.m 2) 14 true, .g 16 (.c .lss 15 0) 14 true, .g 17 (.pick (.tmp 14) (.tmp 16) (.const (.bool false))) 11 false, .o 18 (.pick (.tmp 11) (.const (.bool true)) (.tmp 17))]) (.cond (.tmp 18) (.seq (.region [.k 6 (-1)]) .ret) .skip)) (.seq (.seq (.region [.m 19 2, .o 20 (.c .eql 19 0)]) (.cond (.tmp 20) (.seq (.region [.k 6 1]) .ret) .skip)) (.seq (.seq (.region [.m 21 1, .o 22 (.c .eql 21 0)]) (.cond (.tmp 22) (.seq (.region [.k 6 0]) .ret) .skip)) (.seq (.region [.m 23 2, .m 24 0, .o 25 (.nilck (.tmp 24)), .o 26 (.f 0 25), .o 27 (.l 26), .o 28 (.c .sub 27 1), .o 29 (.b .rem 23 28), .m 2 29]) (.seq (.seq (.region [.m 30 2, .o 31 (.c .lss 30 0)]) (.cond (.tmp 31) (.region [.m 32 2, .m 33 0, .o 34 (.nilck (.tmp 33)), .o 35 (.f 0 34), .o 36 (.l 35), .o 37 (.c .sub 36 1), .o 38 (.b .add 32 37), .m 2 38]) .skip)) (.seq (.region [.m 39 0, .o 40 (.nilck (.tmp 39)), .o 41 (.f 5 40), .o 42 (.l 41), .m 43 0, .o 44 (.nilck (.tmp 43)), .o 45 (.f 6 44), .o 46 (.l 45), .m 47 1, .o 48 (.i 1 46 47), .o 49 (.l 48), .m 50 2, .o 51 (.b .mul 49 50), .m 52 0, .o 53 (.nilck (.tmp 52)), .o 54 (.f 0 53), .o 55 (.l 54), .o 56 (.c .sub 55 1), .o 57 (.b .rem 51 56), .o 58 (.i 1 42 57), .o 59 (.l 58), .m 6 59]) .ret)))))))
def F85:AFun:=⟨c85,3,60,[(.tmp 6)]⟩
def K85:Nat→List Nat×List Nat
 |_=>([],[])
theorem F85_ok:kj8 Tryz.prog K85 Tryz.f85=some F85:=by kernel_rfl
/- 86: (*syndrome/field.Field).Add -/
def c86L0:ACode:=(.seq (.region [.o 24 (.b .lss 23 22)]) (.seq (.cond (.tmp 24) .skip (.exit 0)) (.seq (.block 1 [0,1,2,7,8,22,23] (.seq (.region [.m 25 7, .m 26 1, .m 27 0, .o 28 (.nilck (.tmp 27)), .o 29 (.f 1 28), .o 30 (.l 29), .o 31 (.b .rem 26 30), .m 32 2, .m 33 0, .o 34 (.nilck (.tmp 33)), .o 35 (.f 1 34), .o 36 (.l 35), .o 37 (.b .rem 32 36), .o 38 (.b .add 31 37), .m 39 0, .o 40 (.nilck (.tmp 39)), .o 41 (.f 1 40), .o 42 (.l 41), .o 43 (.b .rem 38 42), .m 44 8, .o 45 (.b .mul 43 44), .o 46 (.b .add 25 45), .m 7 46]) (.region [.m 47 1, .m 48 0, .o 49 (.nilck (.tmp 48)), .o 50 (.f 1 49), .o 51 (.l 50), .o 52 (.b .quo 47 51), .m 53 2, .m 54 0, .o 55 (.nilck (.tmp 54)), .o 56 (.f 1 55), .o 57 (.l 56), .o 58 (.b .quo 53 57), .m 59 8, .m 60 0, .o 61 (.nilck (.tmp 60)), .o 62 (.f 1 61), .o 63 (.l 62), .o 64 (.b .mul 59 63), .m 1 52, .m 2 58, .m 8 64]))) (.region [.o 65 (.c .add 23 1), .m 23 65]))))
def c86:ACode:=(.seq (.region [.k 6 0]) (.seq (.seq (.region [.m 9 0, .m 10 1, .o 11 (.q 84 [9,10]), .o 12 (.un .not (.tmp 11)), .m 13 12, .g 14 (.m 0) 13 false, .g 15 (.m 2) 13 false, .g 16 (.q 84 [14,15]) 13 false, .g 17 (.un .not (.tmp 16)) 13 false, .o 18 (.pick (.tmp 13) (.const (.bool true)) (.tmp 17))]) (.cond (.tmp 18) (.seq (.region [.k 6 (-1)]) .ret) .skip)) (.seq (.region [.k 7 0, .k 8 1]) (.seq (.seq (.region [.m 19 0, .o 20 (.nilck (.tmp 19)), .o 21 (.f 2 20), .o 22 (.l 21), .k 23 0]) (.block 0 [7] (.loop [0,1,2,7,8,22,23] c86L0))) (.seq (.region [.m 66 7, .m 6 66]) .ret)))))
def F86:AFun:=⟨c86,3,67,[(.tmp 6)]⟩
def K86:Nat→List Nat×List Nat
 |0=>([0,1,2,7,8,22,23],[7])
 |1=>([],[0,1,2,7,8,22,23])
 |_=>([],[])
theorem F86_ok:kj8 Tryz.prog K86 Tryz.f86=some F86:=by kernel_rfl
/- 87: (*syndrome/field.Field).Mul -/
def c87:ACode:=(.seq (.region [.k 6 0]) (.seq (.seq (.region [.m 7 0, .m 8 1, .o 9 (.q 84 [7,8]), .o 10 (.un .not (.tmp 9)), .m 11 10, .g 12 (.m 0) 11 false, .g 13 (.m 2) 11 false, .g 14 (.q 84 [12,13]) 11 false, .g 15 (.un .not (.tmp 14)) 11 false, .o 16 (.pick (.tmp 11) (.const (.bool true)) (.tmp 15))]) (.cond (.tmp 16) (.seq (.region [.k 6 (-1)]) .ret) .skip)) (.seq (.seq (.region [.m 17 1, .o 18 (.c .eql 17 0), .m 19 18, .g 20 (.m 2) 19 false, .g 21 (.c .eql 20 0) 19 false, .o 22 (.pick (.tmp 19) (.const (.bool true)) (.tmp 21))]) (.cond (.tmp 22) (.seq (.region [.k 6 0]) .ret) .skip)) (.seq (.region [.m 23 0, .o 24 (.nilck (.tmp 23)), .o 25 (.f 5 24), .o 26 (.l 25), .m 27 0, .o 28 (.nilck (.tmp 27)), .o 29 (.f 6 28), .o 30 (.l 29), .m 31 1, .o 32 (.i 1 30 31), .o 33 (.l 32), .m 34 0, .o 35 (.nilck (.tmp 34)), .o 36 (.f 6 35), .o 37 (.l 36), .m 38 2, .o 39 (.i 1 37 38), .o 40 (.l 39), .o 41 (.b .add 33 40), .m 42 0, .o 43 (.nilck (.tmp 42)), .o 44 (.f 0 43), .o 45 (.l 44), .o 46 (.c .sub 45 1), .o 47 (.b .rem 41 46), .o 48 (.i 1 26 47), .o 49 (.l 48), .m 6 49]) .ret))))
def F87:AFun:=⟨c87,3,50,[(.tmp 6)]⟩
def K87:Nat→List Nat×List Nat
 |_=>([],[])
theorem F87_ok:kj8 Tryz.prog K87 Tryz.f87=some F87:=by kernel_rfl
/- 88: (*syndrome/store.Plan).place -/
def c88:ACode:=(.seq (.region [.k 6 0]) (.seq (.region [.m 7 1, .m 8 2, .o 9 (.minmax false [(.tmp 7),(.tmp 8)]), .m 10 1, .m 11 2, .o 12 (.minmax true [(.tmp 10),(.tmp 11)]), .m 1 9, .m 2 12]) (.seq (.block 0 [0,1,2] (.seq (.region [.m 14 1, .m 15 0, .o 16 (.nilck (.tmp 15)), .o 17 (.f 2 16), .o 18 (.l 17), .o 19 (.b .geq 14 18), .m 13 19]) (.cond (.tmp 13) (.seq (.region [.k 6 (-1)]) .ret) (.seq (.region [.m 21 2, .m 22 0, .o 23 (.nilck (.tmp 22)), .o 24 (.f 2 23), .o 25 (.l 24), .o 26 (.b .lss 21 25), .m 20 26]) (.cond (.tmp 20) (.seq (.region [.m 27 1, .m 28 0, .o 29 (.nilck (.tmp 28)), .o 30 (.f 2 29), .o 31 (.l 30), .o 32 (.b .mul 27 31), .m 33 1, .m 34 1, .o 35 (.c .sub 34 1), .o 36 (.b .mul 33 35), .o 37 (.c .quo 36 2), .o 38 (.b .sub 32 37), .m 39 2, .o 40 (.b .add 38 39), .m 41 1, .o 42 (.b .sub 40 41), .m 6 42]) .ret) .skip))))) (.seq (.region [.m 43 0, .o 44 (.nilck (.tmp 43)), .o 45 (.f 2 44), .o 46 (.l 45), .m 47 0, .o 48 (.nilck (.tmp 47)), .o 49 (.f 2 48), .o 50 (.l 49), .o 51 (.c .add 50 1), .o 52 (.b .mul 46 51), .o 53 (.c .quo 52 2), .m 54 1, .m 55 0, .o 56 (.nilck (.tmp 55)), .o 57 (.f 3 56), .o 58 (.l 57), .m 59 0, .o 60 (.nilck (.tmp 59)), .o 61 (.f 2 60), .o 62 (.l 61), .o 63 (.b .sub 58 62), .o 64 (.b .mul 54 63), .o 65 (.b .add 53 64), .m 66 2, .o 67 (.b .add 65 66), .m 68 0, .o 69 (.nilck (.tmp 68)), .o 70 (.f 2 69), .o 71 (.l 70), .o 72 (.b .sub 67 71), .m 6 72]) .ret))))
def F88:AFun:=⟨c88,3,73,[(.tmp 6)]⟩
def K88:Nat→List Nat×List Nat
 |0=>([],[0,1,2])
 |_=>([],[])
theorem F88_ok:kj8 Tryz.prog K88 Tryz.f88=some F88:=by kernel_rfl
/- 89: syndrome/syndromeref.Same -/
def c89L0:ACode:=(.seq (.seq (.region [.m 11 5, .m 12 0, .o 13 (.n 12), .o 14 (.b .lss 11 13)]) (.cond (.tmp 14) .skip (.exit 0))) (.seq (.block 1 [0,1,5] (.seq (.region [.m 17 0, .m 18 5, .o 19 (.i 1 17 18), .o 20 (.l 19), .m 21 1, .m 22 5, .o 23 (.i 1 21 22), .o 24 (.l 23), .o 25 (.b .neq 20 24)]) (.cond (.tmp 25) (.seq (.region [.o 4 (.mv (.const (.bool false)))]) .ret) .skip))) (.region [.m 15 5, .o 16 (.c .add 15 1), .m 5 16])))
def c89:ACode:=(.seq (.region [.o 4 (.mv (.const (.bool false)))]) (.seq (.seq (.region [.m 6 0, .o 7 (.n 6), .m 8 1, .o 9 (.n 8), .o 10 (.b .neq 7 9)]) (.cond (.tmp 10) (.seq (.region [.o 4 (.mv (.const (.bool false)))]) .ret) .skip)) (.seq (.seq (.region [.k 5 0]) (.block 0 [] (.loop [0,1,5] c89L0))) (.seq (.region [.o 4 (.mv (.const (.bool true)))]) .ret))))
def F89:AFun:=⟨c89,2,26,[(.tmp 4)]⟩
def K89:Nat→List Nat×List Nat
 |0=>([0,1,5],[])
 |1=>([],[0,1,5])
 |_=>([],[])
theorem F89_ok:kj8 Tryz.prog K89 Tryz.f89=some F89:=by kernel_rfl
/- 90: (syndrome/syndromeref.F).Sub -/
def c90:ACode:=(.seq (.region [.o 3 (.box 31 5 (.tmp 0)), .k 6 0]) (.seq (.region [.o 8 (.ld true 5 (.tmp 3)), .m 9 2, .o 10 (.q 99 [8,9]), .m 7 10]) (.seq (.region [.o 11 (.ld true 5 (.tmp 3)), .m 12 1, .m 13 7, .o 14 (.q 59 [11,12,13]), .m 6 14]) .ret)))
def F90:AFun:=⟨c90,3,15,[(.tmp 6)]⟩
def K90:Nat→List Nat×List Nat
 |_=>([],[])
theorem F90_ok:kj8 Tryz.prog K90 Tryz.f90=some F90:=by kernel_rfl
/- 91: (*syndrome/store.Plan).some -/
def c91L0:ACode:=(.seq (.region [.o 16 (.b .lss 15 14)]) (.seq (.cond (.tmp 16) .skip (.exit 0)) (.seq (.block 1 [0,1,13,14,15] (.seq (.region [.m 17 15, .o 18 (.i 1 13 15), .o 19 (.l 18), .m 7 17, .m 8 19]) (.seq (.seq (.region [.m 20 8, .o 21 (.c .lss 20 0), .m 22 21, .g 23 (.m 8) 22 false, .g 24 (.m 0) 22 false, .g 25 (.nilck (.tmp 24)) 22 false, .g 26 (.f 1 25) 22 false, .g 27 (.l 26) 22 false, .g 28 (.b .geq 23 27) 22 false, .o 29 (.pick (.tmp 22) (.const (.bool true)) (.tmp 28))]) (.cond (.tmp 29) (.seq (.region [.k 6 10]) .ret) .skip)) (.seq (.region [.m 30 1, .m 31 7, .o 32 (.sl 1 (.tmp 30) none (some (.tmp 31))), .m 33 8, .o 34 (.q 94 [32,33])]) (.cond (.tmp 34) (.seq (.region [.k 6 7]) .ret) .skip))))) (.region [.o 35 (.c .add 15 1), .m 15 35]))))
def c91:ACode:=(.seq (.region [.k 6 0]) (.seq (.seq (.region [.m 9 1, .o 10 (.n 9), .m 11 2, .o 12 (.b .neq 10 11)]) (.cond (.tmp 12) (.seq (.region [.k 6 6]) .ret) .skip)) (.seq (.seq (.region [.m 13 1, .o 14 (.n 13), .k 15 0]) (.block 0 [] (.loop [0,1,13,14,15] c91L0))) (.seq (.region [.k 6 0]) .ret))))
def F91:AFun:=⟨c91,3,36,[(.tmp 6)]⟩
def K91:Nat→List Nat×List Nat
 |0=>([0,1,13,14,15],[])
 |1=>([],[0,1,13,14,15])
 |_=>([],[])
theorem F91_ok:kj8 Tryz.prog K91 Tryz.f91=some F91:=by kernel_rfl
/- 92: syndrome/store.wide -/
def c92L0:ACode:=(.seq (.region [.o 74 (.b .lss 73 72)]) (.seq (.cond (.tmp 74) .skip (.exit 2)) (.seq (.block 3 [0,1,2,3,10,11,13,18,19,72,73] (.seq (.region [.m 75 73, .m 14 75]) (.region [.m 76 1, .m 77 10, .o 78 (.i 1 76 77), .o 79 (.l 78), .m 80 14, .m 81 0, .m 82 1, .m 83 10, .o 84 (.i 1 82 83), .o 85 (.l 84), .m 86 14, .o 87 (.i 1 85 86), .o 88 (.l 87), .m 89 13,⟨(some 90),(.call 87 [(.tmp 81),(.tmp 88),(.tmp 89)]),none,true⟩, .o 91 (.i 1 79 80), .n (.st 1 (.tmp 91) (.tmp 90))]))) (.region [.o 92 (.c .add 73 1), .m 73 92]))))
def c92L1:ACode:=(.seq (.region [.o 124 (.b .lss 123 122)]) (.seq (.cond (.tmp 124) .skip (.exit 6)) (.seq (.block 7 [0,1,2,3,10,11,15,16,18,19,104,105,122,123] (.seq (.region [.m 125 123, .m 17 125]) (.region [.m 126 1, .m 127 15, .o 128 (.i 1 126 127), .o 129 (.l 128), .m 130 17, .m 131 0, .m 132 1, .m 133 15, .o 134 (.i 1 132 133), .o 135 (.l 134), .m 136 17, .o 137 (.i 1 135 136), .o 138 (.l 137), .m 139 0, .m 140 16, .m 141 1, .m 142 10, .o 143 (.i 1 141 142), .o 144 (.l 143), .m 145 17, .o 146 (.i 1 144 145), .o 147 (.l 146),⟨(some 148),(.call 87 [(.tmp 139),(.tmp 140),(.tmp 147)]),none,true⟩,⟨(some 149),(.call 119 [(.tmp 131),(.tmp 138),(.tmp 148)]),none,true⟩, .o 150 (.i 1 129 130), .n (.st 1 (.tmp 150) (.tmp 149))]))) (.region [.o 151 (.c .add 123 1), .m 123 151]))))
def c92L2:ACode:=(.seq (.region [.o 106 (.b .lss 105 104)]) (.seq (.cond (.tmp 106) .skip (.exit 4)) (.seq (.block 5 [0,1,2,3,10,11,18,19,104,105] (.seq (.region [.m 107 105, .m 15 107]) (.seq (.region [.m 108 1, .m 109 15, .o 110 (.i 1 108 109), .o 111 (.l 110), .o 112 (.l 11), .o 113 (.i 1 111 112), .o 114 (.l 113), .m 16 114]) (.seq (.region [.m 115 15, .m 116 10, .o 117 (.b .neq 115 116), .m 118 117, .g 119 (.m 16) 118 true, .g 120 (.c .neq 119 0) 118 true, .o 121 (.pick (.tmp 118) (.tmp 120) (.const (.bool false)))]) (.cond (.tmp 121) (.seq (.seq (.region [.m 122 3, .k 123 0]) (.block 6 [0,1,2,3,10,11,15,16,18,19,104,105] (.loop [0,1,2,3,10,11,15,16,18,19,104,105,122,123] c92L1))) (.region [.m 152 2, .m 153 15, .m 154 0, .m 155 2, .m 156 15, .o 157 (.i 1 155 156), .o 158 (.l 157), .m 159 0, .m 160 16, .m 161 2, .m 162 10, .o 163 (.i 1 161 162), .o 164 (.l 163),⟨(some 165),(.call 87 [(.tmp 159),(.tmp 160),(.tmp 164)]),none,true⟩, .o 166 (.q 119 [154,158,165]), .o 167 (.i 1 152 153), .n (.st 1 (.tmp 167) (.tmp 166))])) .skip))))) (.region [.o 168 (.c .add 105 1), .m 105 168]))))
def c92L3:ACode:=(.seq (.region [.o 20 (.b .lss 19 18)]) (.seq (.cond (.tmp 20) .skip (.exit 0)) (.seq (.block 1 [0,1,2,3,10,18,19] (.seq (.region [.m 21 19, .o 11 (.alloc 3 [(.int .i64 0)]), .n (.st 1 (.tmp 11) (.tmp 21))]) (.seq (.region [.m 22 1, .m 23 10, .o 24 (.sl 1 (.tmp 22) (some (.tmp 23)) none), .o 25 (.mkf 126 [(.tmp 11)]), .o 26 (.q 101 [24,25]), .m 12 26]) (.seq (.region [.m 27 1, .m 28 10, .m 29 1, .m 30 10, .m 31 12, .o 32 (.b .add 30 31), .m 33 2, .m 34 10, .m 35 2, .m 36 10, .m 37 12, .o 38 (.b .add 36 37), .m 39 1, .m 40 10, .m 41 12, .o 42 (.b .add 40 41), .o 43 (.i 1 39 42), .o 44 (.l 43), .m 45 1, .m 46 10, .o 47 (.i 1 45 46), .o 48 (.l 47), .m 49 2, .m 50 10, .m 51 12, .o 52 (.b .add 50 51), .o 53 (.i 1 49 52), .o 54 (.l 53), .m 55 2, .m 56 10, .o 57 (.i 1 55 56), .o 58 (.l 57), .o 59 (.i 1 27 28), .n (.st 1 (.tmp 59) (.tmp 44)), .o 60 (.i 1 29 32), .n (.st 1 (.tmp 60) (.tmp 48)), .o 61 (.i 1 33 34), .n (.st 1 (.tmp 61) (.tmp 54)), .o 62 (.i 1 35 38), .n (.st 1 (.tmp 62) (.tmp 58))]) (.seq (.region [.m 63 0, .m 64 1, .m 65 10, .o 66 (.i 1 64 65), .o 67 (.l 66), .o 68 (.l 11), .o 69 (.i 1 67 68), .o 70 (.l 69), .o 71 (.q 104 [63,70]), .m 13 71]) (.seq (.seq (.region [.m 72 3, .k 73 0]) (.block 2 [0,1,2,3,10,11,13,18,19] (.loop [0,1,2,3,10,11,13,18,19,72,73] c92L0))) (.seq (.region [.m 93 2, .m 94 10, .m 95 0, .m 96 2, .m 97 10, .o 98 (.i 1 96 97), .o 99 (.l 98), .m 100 13, .o 101 (.q 87 [95,99,100]), .o 102 (.i 1 93 94), .n (.st 1 (.tmp 102) (.tmp 101))]) (.seq (.seq (.region [.m 103 1, .o 104 (.n 103), .k 105 0]) (.block 4 [0,1,2,3,10,18,19] (.loop [0,1,2,3,10,11,18,19,104,105] c92L2))) (.region [.m 169 10, .o 170 (.c .add 169 1), .m 10 170]))))))))) (.region [.o 171 (.c .add 19 1), .m 19 171]))))
def c92:ACode:=(.seq (.region [.o 8 (.mv (.const (.slice none 0 0))), .o 9 (.mv (.const (.bool false)))]) (.seq (.region [.k 10 0]) (.seq (.seq (.region [.m 18 3, .k 19 0]) (.block 0 [2,3] (.loop [0,1,2,3,10,18,19] c92L3))) (.seq (.region [.m 172 2, .m 173 3, .o 174 (.sl 1 (.tmp 172) none (some (.tmp 173))),⟨(some 175),(.call 117 [(.tmp 174)]),none,true⟩, .m 176 2, .m 177 3, .o 178 (.sl 1 (.tmp 176) (some (.tmp 177)) none), .o 179 (.call 82 [(.tmp 178),(.func 127)]), .o 180 (.un .not (.tmp 179)), .m 8 175, .m 9 180]) .ret))))
def F92:AFun:=⟨c92,4,181,[(.tmp 8),(.tmp 9)]⟩
def K92:Nat→List Nat×List Nat
 |0=>([0,1,2,3,10,18,19],[2,3])
 |1=>([],[0,1,2,3,10,18,19])
 |2=>([0,1,2,3,10,11,13,18,19,72,73],[0,1,2,3,10,11,13,18,19])
 |3=>([],[0,1,2,3,10,11,13,18,19,72,73])
 |4=>([0,1,2,3,10,11,18,19,104,105],[0,1,2,3,10,18,19])
 |5=>([],[0,1,2,3,10,11,18,19,104,105])
 |6=>([0,1,2,3,10,11,15,16,18,19,104,105,122,123],[0,1,2,3,10,11,15,16,18,19,104,105])
 |7=>([],[0,1,2,3,10,11,15,16,18,19,104,105,122,123])
 |_=>([],[])
theorem F92_ok:kj8 Tryz.prog K92 Tryz.f92=some F92:=by kernel_rfl
/- 93: syndrome/syndromeref.Copy -/
def c93:ACode:=(.seq (.region [.o 2 (.mv (.const (.slice none 0 0)))]) (.seq (.region [.o 3 (.mkSl 3 1 0 []), .m 4 0, .o 5 (.app 3 1 8 (.tmp 3) (.tmp 4)), .m 2 5]) .ret))
def F93:AFun:=⟨c93,1,6,[(.tmp 2)]⟩
def K93:Nat→List Nat×List Nat
 |_=>([],[])
theorem F93_ok:kj8 Tryz.prog K93 Tryz.f93=some F93:=by kernel_rfl
/- 94: slices.Contains[[]int,int] -/
def c94:ACode:=(.seq (.region [.o 4 (.mv (.const (.bool false)))]) (.seq (.region [.m 5 0, .m 6 1, .o 7 (.q 128 [5,6]), .o 8 (.c .geq 7 0), .m 4 8]) .ret))
def F94:AFun:=⟨c94,2,9,[(.tmp 4)]⟩
def K94:Nat→List Nat×List Nat
 |_=>([],[])
theorem F94_ok:kj8 Tryz.prog K94 Tryz.f94=some F94:=by kernel_rfl
/- 95: syndrome/matrix.Solve -/
def c95:ACode:=(.seq (.region [.o 6 (.mv (.const (.slice none 0 0))), .o 7 (.mv (.const (.bool false))), .k 8 0]) (.seq (.region [.m 14 0, .m 15 1, .o 16 (.q 66 [14,15]), .m 9 16]) (.seq (.seq (.region [.m 17 9, .o 18 (.c .neq 17 0)]) (.cond (.tmp 18) (.seq (.region [.m 19 9, .o 6 (.mv (.const (.slice none 0 0))), .o 7 (.mv (.const (.bool false))), .m 8 19]) .ret) .skip)) (.seq (.seq (.region [.m 20 2, .o 21 (.n 20), .m 22 1, .o 23 (.n 22), .o 24 (.b .neq 21 23)]) (.cond (.tmp 24) (.seq (.region [.o 6 (.mv (.const (.slice none 0 0))), .o 7 (.mv (.const (.bool false))), .k 8 6]) .ret) .skip)) (.seq (.region [.m 26 0, .o 27 (.q 36 [26]), .m 25 27, .o 28 (.e 0 25), .o 29 (.e 1 25), .o 10 (.alloc 60 [(.pointer none)]), .n (.st 1 (.tmp 10) (.tmp 28)), .m 11 29]) (.seq (.seq (.region [.m 30 2, .o 31 (.mkf 129 [(.tmp 10)]), .o 32 (.q 82 [30,31])]) (.cond (.tmp 32) (.seq (.region [.o 6 (.mv (.const (.slice none 0 0))), .o 7 (.mv (.const (.bool false))), .k 8 2]) .ret) .skip)) (.seq (.seq (.region [.m 33 1, .o 34 (.n 33), .o 35 (.c .eql 34 0)]) (.cond (.tmp 35) (.seq (.region [.o 6 (.mv (.const (.slice none 0 0))), .o 7 (.mv (.const (.bool true))), .k 8 0]) .ret) .skip)) (.seq (.region [.m 37 0, .m 38 1, .m 39 2, .o 40 (.q 130 [37,38,39]), .m 36 40, .o 41 (.e 0 36), .o 42 (.e 1 36), .m 12 41, .m 13 42]) (.seq (.region [.m 43 12, .m 44 13, .m 6 43, .m 7 44, .k 8 0]) .ret)))))))))
def F95:AFun:=⟨c95,3,45,[(.tmp 6),(.tmp 7),(.tmp 8)]⟩
def K95:Nat→List Nat×List Nat
 |_=>([],[])
theorem F95_ok:kj8 Tryz.prog K95 Tryz.f95=some F95:=by kernel_rfl
/- 96: syndrome/syndromeref.Number -/
def c96L0:ACode:=(.seq (.seq (.region [.m 10 6, .o 11 (.c .geq 10 0)]) (.cond (.tmp 11) .skip (.exit 0))) (.seq (.block 1 [0,1,5,6] (.region [.m 14 5, .m 15 1, .o 16 (.b .mul 14 15), .m 17 0, .m 18 6, .o 19 (.i 1 17 18), .o 20 (.l 19), .o 21 (.b .add 16 20), .m 5 21])) (.region [.m 12 6, .o 13 (.c .sub 12 1), .m 6 13])))
def c96:ACode:=(.seq (.region [.k 4 0]) (.seq (.region [.k 5 0]) (.seq (.seq (.region [.m 7 0, .o 8 (.n 7), .o 9 (.c .sub 8 1), .m 6 9]) (.block 0 [5] (.loop [0,1,5,6] c96L0))) (.seq (.region [.m 22 5, .m 4 22]) .ret))))
def F96:AFun:=⟨c96,2,23,[(.tmp 4)]⟩
def K96:Nat→List Nat×List Nat
 |0=>([0,1,5,6],[5])
 |1=>([],[0,1,5,6])
 |_=>([],[])
theorem F96_ok:kj8 Tryz.prog K96 Tryz.f96=some F96:=by kernel_rfl
/- 97: (syndrome/syndromeref.F).less -/
def c97L0:ACode:=(.seq (.seq (.region [.m 12 10, .m 13 1, .o 14 (.n 13), .o 15 (.b .lss 12 14)]) (.cond (.tmp 15) .skip (.exit 0))) (.seq (.block 1 [1,2,3,4,9,10] (.seq (.region [.m 18 1, .m 19 10, .o 20 (.i 1 18 19), .o 21 (.l 20), .m 11 21]) (.seq (.seq (.region [.m 22 3, .o 23 (.c .neq 22 0), .m 24 23, .g 25 (.m 2) 24 true, .g 26 (.m 10) 24 true, .g 27 (.i 1 25 26) 24 true, .g 28 (.l 27) 24 true, .g 29 (.c .neq 28 0) 24 true, .o 30 (.pick (.tmp 24) (.tmp 29) (.const (.bool false)))]) (.cond (.tmp 30) (.region [.o 31 (.ld true 5 (.tmp 4)), .m 32 11, .o 33 (.ld true 5 (.tmp 4)), .m 34 3, .m 35 2, .m 36 10, .o 37 (.i 1 35 36), .o 38 (.l 37),⟨(some 39),(.call 60 [(.tmp 33),(.tmp 34),(.tmp 38)]),none,true⟩, .o 40 (.q 90 [31,32,39]), .m 11 40]) .skip)) (.region [.m 41 9, .m 42 11, .o 43 (.mkSl 3 1 1 [(.tmp 42)]), .o 44 (.app 3 1 8 (.tmp 41) (.tmp 43)), .m 9 44])))) (.region [.m 16 10, .o 17 (.c .add 16 1), .m 10 17])))
def c97:ACode:=(.seq (.region [.o 4 (.box 31 5 (.tmp 0)), .o 8 (.mv (.const (.slice none 0 0)))]) (.seq (.region [.o 9 (.mv (.const (.slice none 0 0)))]) (.seq (.seq (.region [.k 10 0]) (.block 0 [9] (.loop [1,2,3,4,9,10] c97L0))) (.seq (.region [.m 45 9, .m 8 45]) .ret))))
def F97:AFun:=⟨c97,4,46,[(.tmp 8)]⟩
def K97:Nat→List Nat×List Nat
 |0=>([1,2,3,4,9,10],[9])
 |1=>([],[1,2,3,4,9,10])
 |_=>([],[])
theorem F97_ok:kj8 Tryz.prog K97 Tryz.f97=some F97:=by kernel_rfl
/- 98: (syndrome/syndromeref.F).Inv -/
def c98L0:ACode:=(.seq (.seq (.region [.m 14 5, .o 15 (.f 0 2), .o 16 (.l 15), .o 17 (.b .lss 14 16)]) (.cond (.tmp 17) .skip (.exit 0))) (.seq (.block 1 [1,2,5] (.seq (.region [.o 20 (.ld true 5 (.tmp 2)), .m 21 1, .m 22 5, .o 23 (.q 60 [20,21,22]), .o 24 (.c .eql 23 1)]) (.cond (.tmp 24) (.seq (.region [.m 25 5, .m 4 25]) .ret) .skip))) (.region [.m 18 5, .o 19 (.c .add 18 1), .m 5 19])))
def c98:ACode:=(.seq (.region [.o 2 (.box 31 5 (.tmp 0)), .k 4 0]) (.seq (.seq (.region [.o 6 (.ld true 5 (.tmp 2)), .m 7 1, .o 8 (.q 40 [6,7]), .o 9 (.un .not (.tmp 8)), .m 10 9, .g 11 (.m 1) 10 false, .g 12 (.c .eql 11 0) 10 false, .o 13 (.pick (.tmp 10) (.const (.bool true)) (.tmp 12))]) (.cond (.tmp 13) (.seq (.region [.k 4 (-1)]) .ret) .skip)) (.seq (.seq (.region [.k 5 1]) (.block 0 [] (.loop [1,2,5] c98L0))) (.seq (.region [.k 4 (-1)]) .ret))))
def F98:AFun:=⟨c98,2,26,[(.tmp 4)]⟩
def K98:Nat→List Nat×List Nat
 |0=>([1,2,5],[])
 |1=>([],[1,2,5])
 |_=>([],[])
theorem F98_ok:kj8 Tryz.prog K98 Tryz.f98=some F98:=by kernel_rfl
/- 99: (syndrome/syndromeref.F).Neg -/
def c99L0:ACode:=(.seq (.seq (.region [.m 17 6, .o 18 (.f 2 2), .o 19 (.l 18), .o 20 (.b .lss 17 19)]) (.cond (.tmp 20) .skip (.exit 0))) (.seq (.block 1 [2,5,6] (.region [.m 23 5, .m 24 6, .o 25 (.f 1 2), .o 26 (.l 25), .m 27 5, .m 28 6, .o 29 (.i 1 27 28), .o 30 (.l 29), .o 31 (.b .sub 26 30), .o 32 (.f 1 2), .o 33 (.l 32), .o 34 (.b .rem 31 33), .o 35 (.i 1 23 24), .n (.st 1 (.tmp 35) (.tmp 34))])) (.region [.m 21 6, .o 22 (.c .add 21 1), .m 6 22])))
def c99:ACode:=(.seq (.region [.o 2 (.box 31 5 (.tmp 0)), .k 4 0]) (.seq (.seq (.region [.o 7 (.ld true 5 (.tmp 2)), .m 8 1, .o 9 (.q 40 [7,8]), .o 10 (.un .not (.tmp 9))]) (.cond (.tmp 10) (.seq (.region [.k 4 (-1)]) .ret) .skip)) (.seq (.region [.m 11 1, .o 12 (.f 1 2), .o 13 (.l 12), .o 14 (.f 2 2), .o 15 (.l 14), .o 16 (.q 39 [11,13,15]), .m 5 16]) (.seq (.seq (.region [.k 6 0]) (.block 0 [2,5] (.loop [2,5,6] c99L0))) (.seq (.region [.m 36 5, .o 37 (.f 1 2), .o 38 (.l 37), .o 39 (.q 96 [36,38]), .m 4 39]) .ret)))))
def F99:AFun:=⟨c99,2,40,[(.tmp 4)]⟩
def K99:Nat→List Nat×List Nat
 |0=>([2,5,6],[2,5])
 |1=>([],[2,5,6])
 |_=>([],[])
theorem F99_ok:kj8 Tryz.prog K99 Tryz.f99=some F99:=by kernel_rfl
/- 101: slices.IndexFunc[[][]int,[]int] -/
def c101L0:ACode:=(.seq (.region [.o 9 (.b .lss 8 7)]) (.seq (.cond (.tmp 9) .skip (.exit 0)) (.seq (.block 1 [0,1,7,8] (.seq (.region [.m 10 8, .m 5 10]) (.seq (.region [.m 11 1, .m 12 0, .m 13 5, .o 14 (.i 1 12 13), .o 15 (.l 14), .o 16 (.calld (.tmp 11) [(.tmp 15)])]) (.cond (.tmp 16) (.seq (.region [.m 17 5, .m 4 17]) .ret) .skip)))) (.region [.o 18 (.c .add 8 1), .m 8 18]))))
def c101:ACode:=(.seq (.region [.k 4 0]) (.seq (.seq (.region [.m 6 0, .o 7 (.n 6), .k 8 0]) (.block 0 [] (.loop [0,1,7,8] c101L0))) (.seq (.region [.k 4 (-1)]) .ret)))
def F101:AFun:=⟨c101,2,19,[(.tmp 4)]⟩
def K101:Nat→List Nat×List Nat
 |0=>([0,1,7,8],[])
 |1=>([],[0,1,7,8])
 |_=>([],[])
theorem F101_ok:kj8 Tryz.prog K101 Tryz.f101=some F101:=by kernel_rfl
/- 103: syndrome/matrix.scale -/
def c103L0:ACode:=(.seq (.region [.o 10 (.b .lss 9 8)]) (.seq (.cond (.tmp 10) .skip (.exit 0)) (.seq (.block 1 [0,1,2,8,9] (.seq (.region [.m 11 9, .m 6 11]) (.region [.m 12 1, .m 13 6, .m 14 0, .m 15 1, .m 16 6, .o 17 (.i 1 15 16), .o 18 (.l 17), .m 19 2, .o 20 (.q 87 [14,18,19]), .o 21 (.i 1 12 13), .n (.st 1 (.tmp 21) (.tmp 20))]))) (.region [.o 22 (.c .add 9 1), .m 9 22]))))
def c103:ACode:=(.seq (.region [.m 7 1, .o 8 (.n 7), .k 9 0]) (.block 0 [] (.loop [0,1,2,8,9] c103L0)))
def F103:AFun:=⟨c103,3,23,[]⟩
def K103:Nat→List Nat×List Nat
 |0=>([0,1,2,8,9],[])
 |1=>([],[0,1,2,8,9])
 |_=>([],[])
theorem F103_ok:kj8 Tryz.prog K103 Tryz.f103=some F103:=by kernel_rfl
/- 104: (*syndrome/field.Field).Inv -/
def c104:ACode:=(.seq (.region [.k 4 0]) (.seq (.seq (.region [.m 5 0, .m 6 1, .o 7 (.q 84 [5,6]), .o 8 (.un .not (.tmp 7)), .m 9 8, .g 10 (.m 1) 9 false, .g 11 (.c .eql 10 0) 9 false, .o 12 (.pick (.tmp 9) (.const (.bool true)) (.tmp 11))]) (.cond (.tmp 12) (.seq (.region [.k 4 (-1)]) .ret) .skip)) (.seq (.region [.m 13 0, .o 14 (.nilck (.tmp 13)), .o 15 (.f 5 14), .o 16 (.l 15), .m 17 0, .o 18 (.nilck (.tmp 17)), .o 19 (.f 0 18), .o 20 (.l 19), .o 21 (.c .sub 20 1), .m 22 0, .o 23 (.nilck (.tmp 22)), .o 24 (.f 6 23), .o 25 (.l 24), .m 26 1, .o 27 (.i 1 25 26), .o 28 (.l 27), .o 29 (.b .sub 21 28), .m 30 0, .o 31 (.nilck (.tmp 30)), .o 32 (.f 0 31), .o 33 (.l 32), .o 34 (.c .sub 33 1), .o 35 (.b .rem 29 34), .o 36 (.i 1 16 35), .o 37 (.l 36), .m 4 37]) .ret)))
def F104:AFun:=⟨c104,2,38,[(.tmp 4)]⟩
def K104:Nat→List Nat×List Nat
 |_=>([],[])
theorem F104_ok:kj8 Tryz.prog K104 Tryz.f104=some F104:=by kernel_rfl
/- 105: syndrome/matrix.less -/
def c105L0:ACode:=(.seq (.region [.o 12 (.b .lss 11 10)]) (.seq (.cond (.tmp 12) .skip (.exit 0)) (.seq (.block 1 [0,1,2,3,10,11] (.seq (.region [.m 13 11, .m 8 13]) (.region [.m 14 1, .m 15 8, .m 16 0, .m 17 1, .m 18 8, .o 19 (.i 1 17 18), .o 20 (.l 19), .m 21 0, .m 22 3, .m 23 2, .m 24 8, .o 25 (.i 1 23 24), .o 26 (.l 25),⟨(some 27),(.call 87 [(.tmp 21),(.tmp 22),(.tmp 26)]),none,true⟩, .o 28 (.q 119 [16,20,27]), .o 29 (.i 1 14 15), .n (.st 1 (.tmp 29) (.tmp 28))]))) (.region [.o 30 (.c .add 11 1), .m 11 30]))))
def c105:ACode:=(.seq (.region [.m 9 1, .o 10 (.n 9), .k 11 0]) (.block 0 [] (.loop [0,1,2,3,10,11] c105L0)))
def F105:AFun:=⟨c105,4,31,[]⟩
def K105:Nat→List Nat×List Nat
 |0=>([0,1,2,3,10,11],[])
 |1=>([],[0,1,2,3,10,11])
 |_=>([],[])
theorem F105_ok:kj8 Tryz.prog K105 Tryz.f105=some F105:=by kernel_rfl
/- 106: (*syndrome/field.Field).Neg -/
def c106L0:ACode:=(.seq (.region [.o 16 (.b .lss 15 14)]) (.seq (.cond (.tmp 16) .skip (.exit 0)) (.seq (.block 1 [0,1,5,6,14,15] (.seq (.region [.m 17 5, .m 18 0, .o 19 (.nilck (.tmp 18)), .o 20 (.f 1 19), .o 21 (.l 20), .m 22 1, .m 23 0, .o 24 (.nilck (.tmp 23)), .o 25 (.f 1 24), .o 26 (.l 25), .o 27 (.b .rem 22 26), .o 28 (.b .sub 21 27), .m 29 0, .o 30 (.nilck (.tmp 29)), .o 31 (.f 1 30), .o 32 (.l 31), .o 33 (.b .rem 28 32), .m 34 6, .o 35 (.b .mul 33 34), .o 36 (.b .add 17 35), .m 5 36]) (.region [.m 37 1, .m 38 0, .o 39 (.nilck (.tmp 38)), .o 40 (.f 1 39), .o 41 (.l 40), .o 42 (.b .quo 37 41), .m 43 6, .m 44 0, .o 45 (.nilck (.tmp 44)), .o 46 (.f 1 45), .o 47 (.l 46), .o 48 (.b .mul 43 47), .m 1 42, .m 6 48]))) (.region [.o 49 (.c .add 15 1), .m 15 49]))))
def c106:ACode:=(.seq (.region [.k 4 0]) (.seq (.seq (.region [.m 7 0, .m 8 1, .o 9 (.q 84 [7,8]), .o 10 (.un .not (.tmp 9))]) (.cond (.tmp 10) (.seq (.region [.k 4 (-1)]) .ret) .skip)) (.seq (.region [.k 5 0, .k 6 1]) (.seq (.seq (.region [.m 11 0, .o 12 (.nilck (.tmp 11)), .o 13 (.f 2 12), .o 14 (.l 13), .k 15 0]) (.block 0 [5] (.loop [0,1,5,6,14,15] c106L0))) (.seq (.region [.m 50 5, .m 4 50]) .ret)))))
def F106:AFun:=⟨c106,2,51,[(.tmp 4)]⟩
def K106:Nat→List Nat×List Nat
 |0=>([0,1,5,6,14,15],[5])
 |1=>([],[0,1,5,6,14,15])
 |_=>([],[])
theorem F106_ok:kj8 Tryz.prog K106 Tryz.f106=some F106:=by kernel_rfl
end Go.Proofs.YtmhbpecdpiapgaaGreat
