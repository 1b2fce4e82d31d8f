/-
  Functions of this seat as the small machine's code, written by a program of my own (gen.py); each is checked to be what the model's function is turned into. No condition.
-/
import Derived.Test.YtmhbpecdpiapgaaK1
import Derived.Test.YtmhbpecdpiapgaaProg
set_option linter.unusedVariables false
set_option linter.unusedSimpArgs false
set_option linter.unusedSectionVars false
set_option maxRecDepth 100000
namespace Go.Proofs.Ytmhbpecdpiapgaa
open Go.Am
/- 7: syndrome/syndrometop.TopNear -/
def c7L0:ACode:=(.seq (.seq (.region [.m 136 22, .m 137 15, .o 138 (.n 137), .o 139 (.b .lss 136 138)]) (.cond (.tmp 139) .skip (.exit 0))) (.seq (.block 1 [1,3,15,20,21,22] (.seq (.region [.m 143 1, .m 144 21, .m 145 15, .m 146 22, .o 147 (.i 1 145 146), .o 148 (.l 147), .o 149 (.q 55 [143,144,148]), .m 142 149, .o 150 (.e 0 142), .o 151 (.e 1 142), .m 23 150, .m 24 151]) (.seq (.region [.m 152 24, .o 153 (.c .neq 152 0), .m 154 153, .g 155 (.m 23) 154 false, .g 156 (.n 155) 154 false, .g 157 (.c .gtr 156 0) 154 false, .g 158 (.m 157) 154 false, .g 159 (.m 20) 158 true, .g 160 (.m 3) 158 true, .g 161 (.q 56 [159,160]) 158 true, .g 162 (.c .leq 161 64) 158 true, .g 163 (.pick (.tmp 158) (.tmp 162) (.const (.bool false))) 154 false, .o 164 (.pick (.tmp 154) (.const (.bool true)) (.tmp 163))]) (.cond (.tmp 164) (.seq (.region [.o 12 (.mv (.const (.bool false)))]) .ret) .skip)))) (.region [.m 140 22, .o 141 (.c .add 140 1), .m 22 141])))
def c7:ACode:=(.seq (.region [.o 12 (.mv (.const (.bool false)))]) (.seq (.seq (.region [.m 25 0, .o 26 (.n 25), .m 27 5, .o 28 (.n 27), .o 29 (.b .add 26 28), .o 30 (.c .gtr 29 256)]) (.cond (.tmp 30) (.seq (.region [.o 12 (.mv (.const (.bool true)))]) .ret) .skip)) (.seq (.region [.o 31 (.mkSl 3 1 9 [(.const (.int .i64 3)),(.const (.int .i64 4)),(.const (.int .i64 5)),(.const (.int .i64 7)),(.const (.int .i64 8)),(.const (.int .i64 9)),(.const (.int .i64 11)),(.const (.int .i64 13)),(.const (.int .i64 16))]), .m 32 1, .o 33 (.call 12 [(.tmp 32),(.const (.int .i64 9))]), .o 34 (.i 1 31 33), .o 35 (.l 34), .m 1 35]) (.seq (.region [.m 36 2, .m 37 1, .o 38 (.c .sub 37 1), .o 39 (.q 12 [36,38]), .o 40 (.bin .add (.const (.int .i64 2)) (.tmp 39)), .m 2 40]) (.seq (.region [.m 41 3, .o 42 (.call 12 [(.tmp 41),(.const (.int .i64 2))]), .o 43 (.bin .add (.const (.int .i64 1)) (.tmp 42)), .m 3 43]) (.seq (.region [.m 44 4, .m 45 2, .o 46 (.q 12 [44,45]), .m 4 46]) (.seq (.region [.m 47 0, .m 48 1, .m 49 2, .o 50 (.q 17 [47,48,49]), .m 13 50]) (.seq (.region [.m 51 0, .m 52 1, .m 53 2, .o 54 (.call 14 [(.tmp 51),(.const (.int .i64 3)),(.tmp 52),(.tmp 53)]), .m 14 54]) (.seq (.region [.m 56 1, .m 57 13, .m 58 3, .m 59 14, .m 60 4, .o 61 (.q 50 [56,57,58,59,60]), .m 55 61, .o 62 (.e 0 55), .o 63 (.e 1 55), .m 15 62, .m 16 63]) (.seq (.seq (.region [.m 64 16, .o 65 (.c .neq 64 0)]) (.cond (.tmp 65) (.seq (.region [.o 12 (.mv (.const (.bool false)))]) .ret) .skip)) (.seq (.region [.m 66 5, .m 67 1, .m 68 3, .o 69 (.call 14 [(.tmp 66),(.const (.int .i64 0)),(.tmp 67),(.tmp 68)]), .m 17 69]) (.seq (.region [.m 71 1, .m 72 13, .m 73 17, .o 74 (.q 51 [71,72,73]), .m 70 74, .o 75 (.e 0 70), .o 76 (.e 1 70), .m 18 75, .m 19 76]) (.seq (.seq (.region [.m 77 19, .o 78 (.c .neq 77 0), .m 79 78, .g 80 (.m 15) 79 false, .g 81 (.m 17) 79 false, .g 82 (.q 52 [80,81]) 79 false, .g 83 (.m 18) 79 false, .g 84 (.m 14) 79 false, .g 85 (.q 53 [83,84]) 79 false, .g 86 (.m 4) 79 false, .g 87 (.b .leq 85 86) 79 false, .g 88 (.eqb true (.tmp 82) (.tmp 87)) 79 false, .o 89 (.pick (.tmp 79) (.const (.bool true)) (.tmp 88))]) (.cond (.tmp 89) (.seq (.region [.o 12 (.mv (.const (.bool false)))]) .ret) .skip)) (.seq (.region [.m 90 2, .m 91 4, .o 92 (.b .sub 90 91), .m 20 92]) (.seq (.seq (.region [.m 93 20, .m 94 20, .o 95 (.b .mul 93 94), .m 96 2, .m 97 3, .o 98 (.c .sub 97 1), .o 99 (.b .mul 96 98), .o 100 (.b .gtr 95 99), .m 101 100, .g 102 (.m 15) 101 true, .g 103 (.n 102) 101 true, .g 104 (.m 20) 101 true, .g 105 (.m 20) 101 true, .g 106 (.b .mul 104 105) 101 true, .g 107 (.m 2) 101 true, .g 108 (.m 3) 101 true, .g 109 (.c .sub 108 1) 101 true, .g 110 (.b .mul 107 109) 101 true, .g 111 (.b .sub 106 110) 101 true, .g 112 (.b .mul 103 111) 101 true, .g 113 (.m 2) 101 true, .g 114 (.m 20) 101 true, .g 115 (.m 3) 101 true, .g 116 (.c .sub 115 1) 101 true, .g 117 (.b .sub 114 116) 101 true, .g 118 (.b .mul 113 117) 101 true, .g 119 (.b .gtr 112 118) 101 true, .o 120 (.pick (.tmp 101) (.tmp 119) (.const (.bool false)))]) (.cond (.tmp 120) (.seq (.region [.o 12 (.mv (.const (.bool false)))]) .ret) .skip)) (.seq (.seq (.region [.m 121 3, .o 122 (.c .lss 121 2)]) (.cond (.tmp 122) (.seq (.region [.o 12 (.mv (.const (.bool true)))]) .ret) .skip)) (.seq (.region [.m 124 1, .m 125 13, .m 126 3, .m 127 14, .m 128 20, .o 129 (.q 54 [124,125,126,127,128]), .m 123 129, .o 130 (.e 0 123), .o 131 (.e 1 123), .m 21 130, .m 16 131]) (.seq (.seq (.region [.m 132 16, .o 133 (.c .neq 132 0)]) (.cond (.tmp 133) (.seq (.region [.m 134 16, .o 135 (.c .eql 134 9), .m 12 135]) .ret) .skip)) (.seq (.seq (.region [.k 22 0]) (.block 0 [] (.loop [1,3,15,20,21,22] c7L0))) (.seq (.region [.o 12 (.mv (.const (.bool true)))]) .ret))))))))))))))))))))
def F7:AFun:=⟨c7,6,165,[(.tmp 12)]⟩
def K7:Nat→List Nat×List Nat
 |0=>([1,3,15,20,21,22],[])
 |1=>([],[1,3,15,20,21,22])
 |_=>([],[])
theorem F7_ok:kj8 Try.prog K7 Try.f7=some F7:=by kernel_rfl
/- 12: syndrome/syndromeref.Pick -/
def c12:ACode:=(.seq (.region [.k 4 0]) (.seq (.seq (.region [.m 5 0, .o 6 (.c .lss 5 0)]) (.cond (.tmp 6) (.region [.m 7 0, .o 8 (.c .add 7 1), .o 9 (.un .neg (.tmp 8)), .m 0 9]) .skip)) (.seq (.region [.m 10 0, .m 11 1, .o 12 (.b .rem 10 11), .m 4 12]) .ret)))
def F12:AFun:=⟨c12,2,13,[(.tmp 4)]⟩
def K12:Nat→List Nat×List Nat
 |_=>([],[])
theorem F12_ok:kj8 Try.prog K12 Try.f12=some F12:=by kernel_rfl
/- 14: syndrome/syndromeref.Numbers -/
def c14L0:ACode:=(.seq (.seq (.region [.m 11 10, .m 12 3, .o 13 (.b .lss 11 12)]) (.cond (.tmp 13) .skip (.exit 0))) (.seq (.block 1 [0,1,2,3,9,10] (.region [.m 16 9, .m 17 0, .m 18 1, .m 19 10, .o 20 (.b .add 18 19), .o 21 (.q 47 [17,20]), .m 22 2, .o 23 (.q 12 [21,22]), .o 24 (.mkSl 3 1 1 [(.tmp 23)]), .o 25 (.app 3 1 8 (.tmp 16) (.tmp 24)), .m 9 25])) (.region [.m 14 10, .o 15 (.c .add 14 1), .m 10 15])))
def c14:ACode:=(.seq (.region [.o 8 (.mv (.const (.slice none 0 0)))]) (.seq (.region [.o 9 (.mv (.const (.slice none 0 0)))]) (.seq (.seq (.region [.k 10 0]) (.block 0 [9] (.loop [0,1,2,3,9,10] c14L0))) (.seq (.region [.m 26 9, .m 8 26]) .ret))))
def F14:AFun:=⟨c14,4,27,[(.tmp 8)]⟩
def K14:Nat→List Nat×List Nat
 |0=>([0,1,2,3,9,10],[9])
 |1=>([],[0,1,2,3,9,10])
 |_=>([],[])
theorem F14_ok:kj8 Try.prog K14 Try.f14=some F14:=by kernel_rfl
/- 17: syndrome/syndromeref.PlacesOf -/
def c17L0:ACode:=(.seq (.seq (.region [.m 14 8, .m 15 1, .o 16 (.b .lss 14 15)]) (.cond (.tmp 16) .skip (.exit 0))) (.seq (.block 1 [0,1,2,7,8] (.region [.m 19 7, .m 20 8, .m 21 8, .o 22 (.i 1 19 20), .n (.st 1 (.tmp 22) (.tmp 21))])) (.region [.m 17 8, .o 18 (.c .add 17 1), .m 8 18])))
def c17L1:ACode:=(.seq (.seq (.region [.m 23 9, .m 24 2, .o 25 (.b .lss 23 24)]) (.cond (.tmp 25) .skip (.exit 2))) (.seq (.block 3 [0,1,2,7,9] (.seq (.region [.m 28 9, .m 29 0, .m 30 9, .o 31 (.q 47 [29,30]), .m 32 1, .m 33 9, .o 34 (.b .sub 32 33), .o 35 (.q 12 [31,34]), .o 36 (.b .add 28 35), .m 10 36]) (.seq (.region [.m 37 7, .m 38 9, .o 39 (.i 1 37 38), .o 40 (.l 39), .m 11 40]) (.seq (.region [.m 41 7, .m 42 9, .m 43 7, .m 44 10, .o 45 (.i 1 43 44), .o 46 (.l 45), .o 47 (.i 1 41 42), .n (.st 1 (.tmp 47) (.tmp 46))]) (.region [.m 48 7, .m 49 10, .m 50 11, .o 51 (.i 1 48 49), .n (.st 1 (.tmp 51) (.tmp 50))]))))) (.region [.m 26 9, .o 27 (.c .add 26 1), .m 9 27])))
def c17:ACode:=(.seq (.region [.o 6 (.mv (.const (.slice none 0 0)))]) (.seq (.region [.m 12 1, .o 13 (.mks 3 1 8 [(.int .i64 0)] (.tmp 12) (.tmp 12)), .m 7 13]) (.seq (.seq (.region [.k 8 0]) (.block 0 [0,1,2,7] (.loop [0,1,2,7,8] c17L0))) (.seq (.seq (.region [.k 9 0]) (.block 2 [2,7] (.loop [0,1,2,7,9] c17L1))) (.seq (.region [.m 52 7, .m 53 2, .o 54 (.sl 1 (.tmp 52) none (some (.tmp 53))), .m 6 54]) .ret)))))
def F17:AFun:=⟨c17,3,55,[(.tmp 6)]⟩
def K17:Nat→List Nat×List Nat
 |0=>([0,1,2,7,8],[0,1,2,7])
 |1=>([],[0,1,2,7,8])
 |2=>([0,1,2,7,9],[2,7])
 |3=>([],[0,1,2,7,9])
 |_=>([],[])
theorem F17_ok:kj8 Try.prog K17 Try.f17=some F17:=by kernel_rfl
/- 19: syndrome/syndromeref.Same -/
def c19L0:ACode:=(.seq (.seq (.region [.m 11 5, .m 12 0, .o 13 (.n 12), .o 14 (.b .lss 11 13)]) (.cond (.tmp 14) .skip (.exit 0))) (.seq (.block 1 [0,1,5] (.seq (.region [.m 17 0, .m 18 5, .o 19 (.i 1 17 18), .o 20 (.l 19), .m 21 1, .m 22 5, .o 23 (.i 1 21 22), .o 24 (.l 23), .o 25 (.b .neq 20 24)]) (.cond (.tmp 25) (.seq (.region [.o 4 (.mv (.const (.bool false)))]) .ret) .skip))) (.region [.m 15 5, .o 16 (.c .add 15 1), .m 5 16])))
def c19:ACode:=(.seq (.region [.o 4 (.mv (.const (.bool false)))]) (.seq (.seq (.region [.m 6 0, .o 7 (.n 6), .m 8 1, .o 9 (.n 8), .o 10 (.b .neq 7 9)]) (.cond (.tmp 10) (.seq (.region [.o 4 (.mv (.const (.bool false)))]) .ret) .skip)) (.seq (.seq (.region [.k 5 0]) (.block 0 [] (.loop [0,1,5] c19L0))) (.seq (.region [.o 4 (.mv (.const (.bool true)))]) .ret))))
def F19:AFun:=⟨c19,2,26,[(.tmp 4)]⟩
def K19:Nat→List Nat×List Nat
 |0=>([0,1,5],[])
 |1=>([],[0,1,5])
 |_=>([],[])
theorem F19_ok:kj8 Try.prog K19 Try.f19=some F19:=by kernel_rfl
/- 47: syndrome/syndromeref.Raw -/
def c47:ACode:=(.seq (.region [.k 4 0]) (.seq (.seq (.region [.m 5 0, .o 6 (.n 5), .o 7 (.c .eql 6 0)]) (.cond (.tmp 7) (.seq (.region [.m 8 1, .m 4 8]) .ret) .skip)) (.seq (.region [.m 9 0, .m 10 1, .m 11 0, .o 12 (.n 11), .o 13 (.b .rem 10 12), .o 14 (.i 1 9 13), .o 15 (.l 14), .m 16 1, .m 17 0, .o 18 (.n 17), .o 19 (.b .quo 16 18), .o 20 (.c .mul 19 7919), .o 21 (.b .add 15 20), .m 4 21]) .ret)))
def F47:AFun:=⟨c47,2,22,[(.tmp 4)]⟩
def K47:Nat→List Nat×List Nat
 |_=>([],[])
theorem F47_ok:kj8 Try.prog K47 Try.f47=some F47:=by kernel_rfl
/- 50: syndrome/lists.Within -/
def c50L0:ACode:=(.seq (.region [.o 38 (.b .lss 37 36)]) (.seq (.cond (.tmp 38) .skip (.exit 2)) (.seq (.block 3 [0,1,2,3,4,13,14,15,35,36,37] (.seq (.region [.m 39 37, .o 40 (.i 1 35 37), .o 41 (.l 40), .m 16 39, .m 17 41]) (.seq (.region [.m 43 0, .m 44 14, .m 45 17, .o 46 (.q 125 [43,44,45]), .m 42 46, .o 47 (.e 0 42), .o 48 (.e 1 42), .m 18 47, .m 19 48]) (.seq (.region [.m 49 18, .m 50 3, .m 51 16, .o 52 (.i 1 50 51), .o 53 (.l 52), .o 54 (.b .neq 49 53)]) (.cond (.tmp 54) (.region [.m 55 15, .o 56 (.c .add 55 1), .m 15 56]) .skip))))) (.region [.o 57 (.c .add 37 1), .m 37 57]))))
def c50L1:ACode:=(.seq (.seq (.region [.m 68 20, .o 69 (.c .geq 68 0)]) (.cond (.tmp 69) .skip (.exit 4))) (.seq (.block 5 [0,1,2,3,4,13,14,20] (.seq (.seq (.region [.m 72 14, .m 73 20, .o 74 (.i 1 72 73), .o 75 (.l 74), .o 76 (.c .add 75 1), .o 77 (.i 1 72 73), .n (.st 1 (.tmp 77) (.tmp 76))]) (.seq (.region [.m 78 14, .m 79 20, .o 80 (.i 1 78 79), .o 81 (.l 80), .m 82 0, .o 83 (.b .lss 81 82)]) (.cond (.tmp 83) (.exit 4) .skip))) (.region [.m 84 14, .m 85 20, .o 86 (.i 1 84 85), .n (.st 1 (.tmp 86) (.const (.int .i64 0)))]))) (.region [.m 70 20, .o 71 (.c .sub 70 1), .m 20 71])))
def c50L2:ACode:=(.block 1 [0,1,2,3,4,13,14] (.seq (.region [.k 15 0]) (.seq (.seq (.region [.m 35 1, .o 36 (.n 35), .k 37 0]) (.block 2 [0,1,2,3,4,13,14,15] (.loop [0,1,2,3,4,13,14,15,35,36,37] c50L0))) (.seq (.seq (.region [.m 58 15, .m 59 4, .o 60 (.b .leq 58 59)]) (.cond (.tmp 60) (.region [.m 61 13, .m 62 14, .o 63 (.q 119 [62]), .o 64 (.mkSl 22 1 1 [(.tmp 63)]), .o 65 (.app 22 1 24 (.tmp 61) (.tmp 64)), .m 13 65]) .skip)) (.seq (.region [.m 66 2, .o 67 (.c .sub 66 1), .m 20 67]) (.seq (.block 4 [0,1,2,3,4,13,14,20] (.loop [0,1,2,3,4,13,14,20] c50L1)) (.seq (.region [.m 87 20, .o 88 (.c .lss 87 0)]) (.cond (.tmp 88) (.seq (.region [.m 89 13, .m 10 89, .k 11 0]) .ret) .skip))))))))
def c50:ACode:=(.seq (.region [.o 10 (.mv (.const (.slice none 0 0))), .k 11 0]) (.seq (.seq (.region [.m 21 0, .m 22 1, .m 23 2, .m 24 3, .o 25 (.q 123 [21,22,23,24]), .m 12 25]) (.seq (.region [.m 26 12, .o 27 (.c .neq 26 0)]) (.cond (.tmp 27) (.seq (.region [.m 28 12, .o 10 (.mv (.const (.slice none 0 0))), .m 11 28]) .ret) .skip))) (.seq (.seq (.region [.m 29 0, .m 30 2, .o 31 (.q 124 [29,30]), .o 32 (.un .not (.tmp 31))]) (.cond (.tmp 32) (.seq (.region [.o 10 (.mv (.const (.slice none 0 0))), .k 11 4]) .ret) .skip)) (.seq (.region [.o 13 (.mv (.const (.slice none 0 0)))]) (.seq (.region [.m 33 2, .o 34 (.mks 3 1 8 [(.int .i64 0)] (.tmp 33) (.tmp 33)), .m 14 34]) (.block 0 [] (.loop [0,1,2,3,4,13,14] c50L2)))))))
def F50:AFun:=⟨c50,5,90,[(.tmp 10),(.tmp 11)]⟩
def K50:Nat→List Nat×List Nat
 |0=>([0,1,2,3,4,13,14],[])
 |1=>([],[0,1,2,3,4,13,14])
 |2=>([0,1,2,3,4,13,14,15,35,36,37],[0,1,2,3,4,13,14,15])
 |3=>([],[0,1,2,3,4,13,14,15,35,36,37])
 |4=>([0,1,2,3,4,13,14,20],[0,1,2,3,4,13,14,20])
 |5=>([],[0,1,2,3,4,13,14,20])
 |_=>([],[])
theorem F50_ok:kj8 Try.prog K50 Try.f50=some F50:=by kernel_rfl
/- 51: syndrome/reed.Encode -/
def c51L0:ACode:=(.seq (.region [.o 33 (.b .lss 32 31)]) (.seq (.cond (.tmp 33) .skip (.exit 0)) (.seq (.block 1 [0,2,10,30,31,32] (.seq (.region [.m 34 32, .o 35 (.i 1 30 32), .o 36 (.l 35), .m 11 34, .m 12 36]) (.region [.m 38 10, .m 39 11, .m 40 0, .m 41 2, .m 42 12, .o 43 (.q 125 [40,41,42]), .m 37 43, .o 44 (.e 0 37), .o 45 (.e 1 37), .o 46 (.i 1 38 39), .n (.st 1 (.tmp 46) (.tmp 44))]))) (.region [.o 47 (.c .add 32 1), .m 32 47]))))
def c51:ACode:=(.seq (.region [.o 6 (.mv (.const (.slice none 0 0))), .k 7 0]) (.seq (.seq (.region [.m 13 0, .m 14 1, .m 15 2, .o 16 (.n 15), .o 17 (.q 126 [13,14,16]), .m 8 17]) (.seq (.region [.m 18 8, .o 19 (.c .neq 18 0)]) (.cond (.tmp 19) (.seq (.region [.m 20 8, .o 6 (.mv (.const (.slice none 0 0))), .m 7 20]) .ret) .skip))) (.seq (.seq (.region [.m 21 0, .m 22 2, .o 23 (.q 127 [21,22]), .m 9 23]) (.seq (.region [.m 24 9, .o 25 (.c .neq 24 0)]) (.cond (.tmp 25) (.seq (.region [.m 26 9, .o 6 (.mv (.const (.slice none 0 0))), .m 7 26]) .ret) .skip))) (.seq (.region [.m 27 1, .o 28 (.n 27), .o 29 (.mks 3 1 8 [(.int .i64 0)] (.tmp 28) (.tmp 28)), .m 10 29]) (.seq (.seq (.region [.m 30 1, .o 31 (.n 30), .k 32 0]) (.block 0 [10] (.loop [0,2,10,30,31,32] c51L0))) (.seq (.region [.m 48 10, .m 6 48, .k 7 0]) .ret))))))
def F51:AFun:=⟨c51,3,49,[(.tmp 6),(.tmp 7)]⟩
def K51:Nat→List Nat×List Nat
 |0=>([0,2,10,30,31,32],[10])
 |1=>([],[0,2,10,30,31,32])
 |_=>([],[])
theorem F51_ok:kj8 Try.prog K51 Try.f51=some F51:=by kernel_rfl
/- 52: syndrome/syndromeref.Holds -/
def c52L0:ACode:=(.seq (.seq (.region [.m 6 5, .m 7 0, .o 8 (.n 7), .o 9 (.b .lss 6 8)]) (.cond (.tmp 9) .skip (.exit 0))) (.seq (.block 1 [0,1,5] (.seq (.region [.m 12 0, .m 13 5, .o 14 (.i 1 12 13), .o 15 (.l 14), .m 16 1, .o 17 (.q 19 [15,16])]) (.cond (.tmp 17) (.seq (.region [.o 4 (.mv (.const (.bool true)))]) .ret) .skip))) (.region [.m 10 5, .o 11 (.c .add 10 1), .m 5 11])))
def c52:ACode:=(.seq (.region [.o 4 (.mv (.const (.bool false)))]) (.seq (.seq (.region [.k 5 0]) (.block 0 [] (.loop [0,1,5] c52L0))) (.seq (.region [.o 4 (.mv (.const (.bool false)))]) .ret)))
def F52:AFun:=⟨c52,2,18,[(.tmp 4)]⟩
def K52:Nat→List Nat×List Nat
 |0=>([0,1,5],[])
 |1=>([],[0,1,5])
 |_=>([],[])
theorem F52_ok:kj8 Try.prog K52 Try.f52=some F52:=by kernel_rfl
/- 53: syndrome/code.Apart -/
def c53L0:ACode:=(.seq (.region [.o 15 (.b .lss 14 13)]) (.seq (.cond (.tmp 15) .skip (.exit 0)) (.seq (.block 1 [0,1,5,13,14] (.seq (.region [.m 16 14, .m 6 16]) (.seq (.region [.m 17 0, .m 18 6, .o 19 (.i 1 17 18), .o 20 (.l 19), .m 21 1, .m 22 6, .o 23 (.i 1 21 22), .o 24 (.l 23), .o 25 (.b .neq 20 24)]) (.cond (.tmp 25) (.region [.m 26 5, .o 27 (.c .add 26 1), .m 5 27]) .skip)))) (.region [.o 28 (.c .add 14 1), .m 14 28]))))
def c53:ACode:=(.seq (.region [.k 4 0]) (.seq (.seq (.region [.m 7 0, .o 8 (.n 7), .m 9 1, .o 10 (.n 9), .o 11 (.b .neq 8 10)]) (.cond (.tmp 11) (.seq (.region [.k 4 (-1)]) .ret) .skip)) (.seq (.region [.k 5 0]) (.seq (.seq (.region [.m 12 0, .o 13 (.n 12), .k 14 0]) (.block 0 [5] (.loop [0,1,5,13,14] c53L0))) (.seq (.region [.m 29 5, .m 4 29]) .ret)))))
def F53:AFun:=⟨c53,2,30,[(.tmp 4)]⟩
def K53:Nat→List Nat×List Nat
 |0=>([0,1,5,13,14],[5])
 |1=>([],[0,1,5,13,14])
 |_=>([],[])
theorem F53_ok:kj8 Try.prog K53 Try.f53=some F53:=by kernel_rfl
/- 54: syndrome/lists.Sudan -/
def c54L0:ACode:=(.seq (.region [.o 70 (.b .lss 69 68)]) (.seq (.cond (.tmp 70) .skip (.exit 2)) (.seq (.block 3 [0,3,13,14,16,17,18,19,60,61,62,67,68,69] (.seq (.region [.o 71 (.i 2 67 69), .o 72 (.ld true 2 (.tmp 71)), .o 21 (.alloc 140 [(.int .i64 0),(.int .i64 0)]), .n (.st 2 (.tmp 21) (.tmp 72))]) (.region [.m 73 19, .m 74 14, .m 75 14, .m 76 18, .o 77 (.iaddrA 2 1 (.tmp 21) (.const (.int .i64 0))), .o 78 (.l 77),⟨(some 79),(.call 129 [(.tmp 75),(.tmp 76),(.tmp 78)]),none,true⟩, .m 80 14, .m 81 3, .m 82 17, .o 83 (.i 1 81 82),⟨(some 84),(.ld false 1 (.tmp 83)),none,true⟩, .o 85 (.iaddrA 2 1 (.tmp 21) (.const (.int .i64 1))),⟨(some 86),(.ld false 1 (.tmp 85)),none,true⟩, .o 87 (.q 129 [80,84,86]), .o 88 (.q 85 [74,79,87]), .o 89 (.mkSl 3 1 1 [(.tmp 88)]), .o 90 (.app 3 1 8 (.tmp 73) (.tmp 89)), .m 19 90]))) (.region [.o 91 (.c .add 69 1), .m 69 91]))))
def c54L1:ACode:=(.seq (.region [.o 63 (.b .lss 62 61)]) (.seq (.cond (.tmp 63) .skip (.exit 0)) (.seq (.block 1 [0,3,13,14,16,60,61,62] (.seq (.region [.m 64 62, .o 65 (.i 1 60 62), .o 66 (.l 65), .m 17 64, .m 18 66]) (.seq (.region [.o 19 (.mv (.const (.slice none 0 0)))]) (.seq (.seq (.region [.m 67 13, .o 68 (.n 67), .k 69 0]) (.block 2 [0,3,13,14,16,19,60,61,62] (.loop [0,3,13,14,16,17,18,19,60,61,62,67,68,69] c54L0))) (.region [.m 92 16, .m 93 19, .o 94 (.mkSl 22 1 1 [(.tmp 93)]), .o 95 (.app 22 1 24 (.tmp 92) (.tmp 94)), .m 16 95]))))) (.region [.o 96 (.c .add 62 1), .m 62 96]))))
def c54L2:ACode:=(.seq (.region [.o 109 (.b .lss 108 107)]) (.seq (.cond (.tmp 109) .skip (.exit 4)) (.seq (.block 5 [22,24,106,107,108] (.seq (.region [.m 110 108, .o 111 (.i 2 106 108), .o 112 (.ld true 2 (.tmp 111)), .o 26 (.alloc 140 [(.int .i64 0),(.int .i64 0)]), .m 25 110, .n (.st 2 (.tmp 26) (.tmp 112))]) (.seq (.seq (.region [.o 113 (.iaddrA 2 1 (.tmp 26) (.const (.int .i64 1))), .o 114 (.l 113), .m 115 24, .o 116 (.n 115), .o 117 (.b .eql 114 116)]) (.cond (.tmp 117) (.region [.m 118 24, .o 119 (.mkSl 22 1 1 [(.const (.slice none 0 0))]), .o 120 (.app 22 1 24 (.tmp 118) (.tmp 119)), .m 24 120]) .skip)) (.region [.m 121 24, .o 122 (.iaddrA 2 1 (.tmp 26) (.const (.int .i64 1))), .o 123 (.ldb false 1 (.tmp 122)), .m 124 24, .o 125 (.iaddrA 2 1 (.tmp 26) (.const (.int .i64 1))), .o 126 (.l 125), .o 127 (.i 1 124 126), .o 128 (.l 127), .m 129 22, .o 130 (.iaddr 1 (.tmp 129) (.const (.int .i64 0))), .o 131 (.l 130), .m 132 25, .o 133 (.i 1 131 132), .o 134 (.l 133), .o 135 (.mkSl 3 1 1 [(.tmp 134)]), .o 136 (.app 3 1 8 (.tmp 128) (.tmp 135)), .o 137 (.i 1 121 123), .n (.st 1 (.tmp 137) (.tmp 136))])))) (.region [.o 138 (.c .add 108 1), .m 108 138]))))
def c54:ACode:=(.seq (.region [.o 10 (.mv (.const (.slice none 0 0))), .k 11 0]) (.seq (.seq (.region [.m 27 0, .m 28 1, .m 29 2, .m 30 3, .o 31 (.q 123 [27,28,29,30]), .m 12 31]) (.seq (.region [.m 32 12, .o 33 (.c .neq 32 0)]) (.cond (.tmp 33) (.seq (.region [.m 34 12, .o 10 (.mv (.const (.slice none 0 0))), .m 11 34]) .ret) .skip))) (.seq (.seq (.region [.m 35 2, .o 36 (.c .lss 35 2), .m 37 36, .g 38 (.m 4) 37 false, .g 39 (.c .lss 38 1) 37 false, .o 40 (.pick (.tmp 37) (.const (.bool true)) (.tmp 39)), .m 41 40, .g 42 (.m 4) 41 false, .g 43 (.m 1) 41 false, .g 44 (.n 43) 41 false, .g 45 (.b .gtr 42 44) 41 false, .o 46 (.pick (.tmp 41) (.const (.bool true)) (.tmp 45))]) (.cond (.tmp 46) (.seq (.region [.o 10 (.mv (.const (.slice none 0 0))), .k 11 6]) .ret) .skip)) (.seq (.region [.m 47 2, .m 48 4, .o 49 (.q 128 [47,48]), .m 13 49]) (.seq (.seq (.region [.m 50 13, .o 51 (.n 50), .o 52 (.c .gtr 51 64)]) (.cond (.tmp 52) (.region [.m 53 13, .o 54 (.sl 2 (.tmp 53) none (some (.const (.int .i64 64)))), .m 13 54]) .skip)) (.seq (.region [.m 56 0, .o 57 (.q 76 [56]), .m 55 57, .o 58 (.e 0 55), .o 59 (.e 1 55), .m 14 58, .m 15 59]) (.seq (.region [.o 16 (.mv (.const (.slice none 0 0)))]) (.seq (.seq (.region [.m 60 1, .o 61 (.n 60), .k 62 0]) (.block 0 [0,13,16] (.loop [0,3,13,14,16,60,61,62] c54L1))) (.seq (.region [.m 98 0, .m 99 16, .o 100 (.q 112 [98,99]), .m 97 100, .o 101 (.e 0 97), .o 102 (.e 1 97), .m 22 101, .m 23 102]) (.seq (.seq (.region [.m 103 22, .o 104 (.n 103), .o 105 (.c .eql 104 0)]) (.cond (.tmp 105) (.seq (.region [.o 10 (.mv (.const (.slice none 0 0))), .k 11 9]) .ret) .skip)) (.seq (.region [.o 24 (.mv (.const (.slice none 0 0)))]) (.seq (.seq (.region [.m 106 13, .o 107 (.n 106), .k 108 0]) (.block 4 [24] (.loop [22,24,106,107,108] c54L2))) (.seq (.region [.m 139 24, .m 10 139, .k 11 0]) .ret)))))))))))))
def F54:AFun:=⟨c54,5,140,[(.tmp 10),(.tmp 11)]⟩
def K54:Nat→List Nat×List Nat
 |0=>([0,3,13,14,16,60,61,62],[0,13,16])
 |1=>([],[0,3,13,14,16,60,61,62])
 |2=>([0,3,13,14,16,17,18,19,60,61,62,67,68,69],[0,3,13,14,16,19,60,61,62])
 |3=>([],[0,3,13,14,16,17,18,19,60,61,62,67,68,69])
 |4=>([22,24,106,107,108],[24])
 |5=>([],[22,24,106,107,108])
 |_=>([],[])
theorem F54_ok:kj8 Try.prog K54 Try.f54=some F54:=by kernel_rfl
/- 55: syndrome/lists.Curve -/
def c55L0:ACode:=(.seq (.seq (.region [.m 27 10, .o 28 (.c .geq 27 0)]) (.cond (.tmp 28) .skip (.exit 0))) (.seq (.block 1 [0,1,2,9,10] (.seq (.region [.m 32 0, .m 33 9, .m 34 2, .o 35 (.q 130 [32,33,34]), .m 31 35, .o 36 (.e 0 31), .o 37 (.e 1 31), .m 9 36, .m 8 37]) (.seq (.seq (.region [.m 38 8, .o 39 (.c .eql 38 0)]) (.cond (.tmp 39) (.region [.m 41 0, .m 42 9, .m 43 1, .m 44 10, .o 45 (.i 1 43 44), .o 46 (.l 45), .o 47 (.q 131 [41,42,46]), .m 40 47, .o 48 (.e 0 40), .o 49 (.e 1 40), .m 9 48, .m 8 49]) .skip)) (.seq (.region [.m 50 8, .o 51 (.c .neq 50 0)]) (.cond (.tmp 51) (.seq (.region [.m 52 8, .o 6 (.mv (.const (.slice none 0 0))), .m 7 52]) .ret) .skip))))) (.region [.m 29 10, .o 30 (.c .sub 29 1), .m 10 30])))
def c55:ACode:=(.seq (.region [.o 6 (.mv (.const (.slice none 0 0))), .k 7 0]) (.seq (.region [.m 11 0, .m 12 2, .o 13 (.q 127 [11,12]), .m 8 13]) (.seq (.seq (.region [.m 14 8, .o 15 (.c .eql 14 0), .m 16 15, .g 17 (.m 1) 16 true, .g 18 (.n 17) 16 true, .g 19 (.c .gtr 18 64) 16 true, .o 20 (.pick (.tmp 16) (.tmp 19) (.const (.bool false)))]) (.cond (.tmp 20) (.region [.k 8 4]) .skip)) (.seq (.seq (.region [.m 21 8, .o 22 (.c .neq 21 0)]) (.cond (.tmp 22) (.seq (.region [.m 23 8, .o 6 (.mv (.const (.slice none 0 0))), .m 7 23]) .ret) .skip)) (.seq (.region [.o 9 (.mv (.const (.slice none 0 0)))]) (.seq (.seq (.region [.m 24 1, .o 25 (.n 24), .o 26 (.c .sub 25 1), .m 10 26]) (.block 0 [9] (.loop [0,1,2,9,10] c55L0))) (.seq (.region [.m 53 9, .m 6 53, .k 7 0]) .ret)))))))
def F55:AFun:=⟨c55,3,54,[(.tmp 6),(.tmp 7)]⟩
def K55:Nat→List Nat×List Nat
 |0=>([0,1,2,9,10],[9])
 |1=>([],[0,1,2,9,10])
 |_=>([],[])
theorem F55_ok:kj8 Try.prog K55 Try.f55=some F55:=by kernel_rfl
/- 76: syndrome/field.New -/
def zk5:List Value:=[(.int .u32 0),(.int .i32 0),(.int .u32 0),(.int .u32 0),(.int .i32 0),(.int .u32 0),(.int .u32 0),(.int .i32 0),(.int .u32 0),(.int .u32 0),(.int .i32 0),(.int .u32 0),(.int .u32 0),(.int .i32 0),(.int .u32 0),(.int .u32 0),(.int .i32 0),(.int .u32 0),(.int .u32 0),(.int .i32 0),(.int .u32 0),(.int .u32 0),(.int .i32 0),(.int .u32 0),(.int .u32 0),(.int .i32 0),(.int .u32 0),(.int .u32 0),(.int .i32 0),(.int .u32 0),(.int .u32 0),(.int .i32 0),(.int .u32 0),(.int .u32 0),(.int .i32 0),(.int .u32 0),(.int .u32 0),(.int .i32 0),(.int .u32 0),(.int .u32 0),(.int .i32 0),(.int .u32 0),(.int .u32 0),(.int .i32 0),(.int .u32 0),(.int .u32 0),(.int .i32 0),(.int .u32 0),(.int .u32 0),(.int .i32 0),(.int .u32 0),(.int .u32 0),(.int .i32 0),(.int .u32 0),(.int .u32 0),(.int .i32 0),(.int .u32 0),(.int .u32 0),(.int .i32 0),(.int .u32 0),(.int .u32 0),(.int .i32 0),(.int .u32 0),(.int .u32 0),(.int .i32 0),(.int .u32 0),(.int .u32 0),(.int .i32 0),(.int .u32 0),(.int .u32 0),(.int .i32 0),(.int .u32 0),(.int .u32 0),(.int .i32 0),(.int .u32 0),(.int .u32 0),(.int .i32 0),(.int .u32 0),(.int .u32 0),(.int .i32 0),(.int .u32 0),(.int .u32 0),(.int .i32 0),(.int .u32 0),(.int .u32 0),(.int .i32 0),(.int .u32 0),(.int .u32 0),(.int .i32 0),(.int .u32 0),(.int .u32 0),(.int .i32 0),(.int .u32 0),(.int .u32 0),(.int .i32 0),(.int .u32 0),(.int .u32 0),(.int .i32 0),(.int .u32 0),(.int .u32 0),(.int .i32 0),(.int .u32 0),(.int .u32 0),(.int .i32 0),(.int .u32 0),(.int .u32 0),(.int .i32 0),(.int .u32 0),(.int .u32 0),(.int .i32 0),(.int .u32 0),(.int .u32 0),(.int .i32 0),(.int .u32 0),(.int .u32 0),(.int .i32 0),(.int .u32 0),(.int .u32 0),(.int .i32 0),(.int .u32 0),(.int .u32 0),(.int .i32 0),(.int .u32 0),(.int .u32 0),(.int .i32 0),(.int .u32 0),(.int .u32 0),(.int .i32 0),(.int .u32 0),(.int .u32 0),(.int .i32 0),(.int .u32 0),(.int .u32 0),(.int .i32 0),(.int .u32 0),(.int .u32 0),(.int .i32 0),(.int .u32 0),(.int .u32 0),(.int .i32 0),(.int .u32 0),(.int .u32 0),(.int .i32 0),(.int .u32 0),(.int .u32 0),(.int .i32 0),(.int .u32 0),(.int .u32 0),(.int .i32 0),(.int .u32 0),(.int .u32 0),(.int .i32 0),(.int .u32 0),(.int .u32 0),(.int .i32 0),(.int .u32 0),(.int .u32 0),(.int .i32 0),(.int .u32 0),(.int .u32 0),(.int .i32 0),(.int .u32 0),(.int .u32 0),(.int .i32 0),(.int .u32 0),(.int .u32 0),(.int .i32 0),(.int .u32 0),(.int .u32 0),(.int .i32 0),(.int .u32 0),(.int .u32 0),(.int .i32 0),(.int .u32 0),(.int .u32 0),(.int .i32 0),(.int .u32 0),(.int .u32 0),(.int .i32 0),(.int .u32 0),(.int .u32 0),(.int .i32 0),(.int .u32 0),(.int .u32 0),(.int .i32 0),(.int .u32 0),(.int .u32 0),(.int .i32 0),(.int .u32 0),(.int .u32 0),(.int .i32 0),(.int .u32 0),(.int .u32 0),(.int .i32 0),(.int .u32 0),(.pointer none),(.pointer none),(.pointer none),(.pointer none),(.pointer none),(.pointer none),(.pointer none),(.pointer none),(.pointer none),(.pointer none),(.pointer none),(.pointer none),(.pointer none),(.pointer none),(.pointer none),(.pointer none),(.pointer none),(.pointer none),(.pointer none),(.pointer none),(.pointer none),(.pointer none),(.pointer none),(.pointer none),(.pointer none),(.pointer none),(.pointer none),(.pointer none),(.pointer none),(.pointer none),(.pointer none),(.pointer none),(.pointer none),(.pointer none),(.pointer none),(.pointer none),(.pointer none),(.pointer none),(.pointer none),(.pointer none),(.pointer none),(.pointer none),(.pointer none),(.pointer none),(.pointer none),(.pointer none),(.pointer none),(.pointer none),(.pointer none),(.pointer none),(.pointer none),(.pointer none),(.pointer none),(.pointer none),(.pointer none),(.pointer none),(.pointer none),(.pointer none),(.pointer none),(.pointer none),(.pointer none),(.pointer none),(.pointer none),(.pointer none),(.pointer none)]
def c76:ACode:=(.seq (.region [.o 1 (.box 3 1 (.tmp 0)), .o 2 (.mv (.const (.pointer none))), .k 3 0]) (.seq (.seq (.region [.o 5 (.l 1), .o 6 (.c .lss 5 2), .m 7 6, .g 8 (.l 1) 7 false, .g 9 (.c .gtr 8 64) 7 false, .o 10 (.pick (.tmp 7) (.const (.bool true)) (.tmp 9))]) (.cond (.tmp 10) (.seq (.region [.o 2 (.mv (.const (.pointer none))), .k 3 1]) .ret) .skip)) (.seq (.region [.o 4 (.alloc 169 zk5)]) (.seq (.region [.o 11 (.l 1), .o 12 (.f 0 4), .o 13 (.iaddrA 65 3 (.tmp 12) (.tmp 11)), .o 14 (.mkf 159 [(.tmp 1),(.tmp 4)]), .o 15 (.q 158 [13,14])]) (.seq (.seq (.region [.o 16 (.l 1), .o 17 (.f 195 4), .o 18 (.iaddrA 65 1 (.tmp 17) (.tmp 16)), .o 19 (.l 18), .o 20 (.eqn false 1 (.tmp 19))]) (.cond (.tmp 20) (.seq (.region [.o 2 (.mv (.const (.pointer none))), .k 3 1]) .ret) .skip)) (.seq (.region [.o 21 (.l 1), .o 22 (.f 195 4), .o 23 (.iaddrA 65 1 (.tmp 22) (.tmp 21)), .o 24 (.l 23), .m 2 24, .k 3 0]) .ret))))))
def F76:AFun:=⟨c76,1,25,[(.tmp 2),(.tmp 3)]⟩
def K76:Nat→List Nat×List Nat
 |_=>([],[])
theorem F76_ok:kj8 Try.prog K76 Try.f76=some F76:=by kernel_rfl
/- 83: (*syndrome/field.Field).Add -/
def c83L0:ACode:=(.seq (.region [.o 24 (.b .lss 23 22)]) (.seq (.cond (.tmp 24) .skip (.exit 0)) (.seq (.block 1 [0,1,2,7,8,22,23] (.seq (.region [.m 25 7, .m 26 1, .m 27 0, .o 28 (.nilck (.tmp 27)), .o 29 (.f 1 28), .o 30 (.l 29), .o 31 (.b .rem 26 30), .m 32 2, .m 33 0, .o 34 (.nilck (.tmp 33)), .o 35 (.f 1 34), .o 36 (.l 35), .o 37 (.b .rem 32 36), .o 38 (.b .add 31 37), .m 39 0, .o 40 (.nilck (.tmp 39)), .o 41 (.f 1 40), .o 42 (.l 41), .o 43 (.b .rem 38 42), .m 44 8, .o 45 (.b .mul 43 44), .o 46 (.b .add 25 45), .m 7 46]) (.region [.m 47 1, .m 48 0, .o 49 (.nilck (.tmp 48)), .o 50 (.f 1 49), .o 51 (.l 50), .o 52 (.b .quo 47 51), .m 53 2, .m 54 0, .o 55 (.nilck (.tmp 54)), .o 56 (.f 1 55), .o 57 (.l 56), .o 58 (.b .quo 53 57), .m 59 8, .m 60 0, .o 61 (.nilck (.tmp 60)), .o 62 (.f 1 61), .o 63 (.l 62), .o 64 (.b .mul 59 63), .m 1 52, .m 2 58, .m 8 64]))) (.region [.o 65 (.c .add 23 1), .m 23 65]))))
def c83:ACode:=(.seq (.region [.k 6 0]) (.seq (.seq (.region [.m 9 0, .m 10 1, .o 11 (.q 115 [9,10]), .o 12 (.un .not (.tmp 11)), .m 13 12, .g 14 (.m 0) 13 false, .g 15 (.m 2) 13 false, .g 16 (.q 115 [14,15]) 13 false, .g 17 (.un .not (.tmp 16)) 13 false, .o 18 (.pick (.tmp 13) (.const (.bool true)) (.tmp 17))]) (.cond (.tmp 18) (.seq (.region [.k 6 (-1)]) .ret) .skip)) (.seq (.region [.k 7 0, .k 8 1]) (.seq (.seq (.region [.m 19 0, .o 20 (.nilck (.tmp 19)), .o 21 (.f 2 20), .o 22 (.l 21), .k 23 0]) (.block 0 [7] (.loop [0,1,2,7,8,22,23] c83L0))) (.seq (.region [.m 66 7, .m 6 66]) .ret)))))
def F83:AFun:=⟨c83,3,67,[(.tmp 6)]⟩
def K83:Nat→List Nat×List Nat
 |0=>([0,1,2,7,8,22,23],[7])
 |1=>([],[0,1,2,7,8,22,23])
 |_=>([],[])
theorem F83_ok:kj8 Try.prog K83 Try.f83=some F83:=by kernel_rfl
/- 85: (*syndrome/field.Field).Mul -/
def c85:ACode:=(.seq (.region [.k 6 0]) (.seq (.seq (.region [.m 7 0, .m 8 1, .o 9 (.q 115 [7,8]), .o 10 (.un .not (.tmp 9)), .m 11 10, .g 12 (.m 0) 11 false, .g 13 (.m 2) 11 false, .g 14 (.q 115 [12,13]) 11 false, .g 15 (.un .not (.tmp 14)) 11 false, .o 16 (.pick (.tmp 11) (.const (.bool true)) (.tmp 15))]) (.cond (.tmp 16) (.seq (.region [.k 6 (-1)]) .ret) .skip)) (.seq (.seq (.region [.m 17 1, .o 18 (.c .eql 17 0), .m 19 18, .g 20 (.m 2) 19 false, .g 21 (.c .eql 20 0) 19 false, .o 22 (.pick (.tmp 19) (.const (.bool true)) (.tmp 21))]) (.cond (.tmp 22) (.seq (.region [.k 6 0]) .ret) .skip)) (.seq (.region [.m 23 0, .o 24 (.nilck (.tmp 23)), .o 25 (.f 5 24), .o 26 (.l 25), .m 27 0, .o 28 (.nilck (.tmp 27)), .o 29 (.f 6 28), .o 30 (.l 29), .m 31 1, .o 32 (.i 1 30 31), .o 33 (.l 32), .m 34 0, .o 35 (.nilck (.tmp 34)), .o 36 (.f 6 35), .o 37 (.l 36), .m 38 2, .o 39 (.i 1 37 38), .o 40 (.l 39), .o 41 (.b .add 33 40), .m 42 0, .o 43 (.nilck (.tmp 42)), .o 44 (.f 0 43), .o 45 (.l 44), .o 46 (.c .sub 45 1), .o 47 (.b .rem 41 46), .o 48 (.i 1 26 47), .o 49 (.l 48), .m 6 49]) .ret))))
def F85:AFun:=⟨c85,3,50,[(.tmp 6)]⟩
def K85:Nat→List Nat×List Nat
 |_=>([],[])
theorem F85_ok:kj8 Try.prog K85 Try.f85=some F85:=by kernel_rfl
/- 86: slices.Contains[[]int,int] -/
def c86:ACode:=(.seq (.region [.o 4 (.mv (.const (.bool false)))]) (.seq (.region [.m 5 0, .m 6 1, .o 7 (.q 168 [5,6]), .o 8 (.c .geq 7 0), .m 4 8]) .ret))
def F86:AFun:=⟨c86,2,9,[(.tmp 4)]⟩
def K86:Nat→List Nat×List Nat
 |_=>([],[])
theorem F86_ok:kj8 Try.prog K86 Try.f86=some F86:=by kernel_rfl
/- 112: syndrome/matrix.Null -/
def c112L0:ACode:=(.seq (.region [.o 57 (.b .lss 56 55)]) (.seq (.cond (.tmp 57) .skip (.exit 2)) (.seq (.block 3 [0,1,6,7,9,11,12,13,39,40,54,55,56] (.seq (.region [.m 58 56, .o 59 (.i 1 54 56), .o 60 (.l 59), .m 14 58, .m 15 60]) (.region [.m 61 13, .m 62 15, .m 63 9, .m 64 6, .m 65 14, .o 66 (.i 1 64 65), .o 67 (.l 66), .m 68 12, .o 69 (.i 1 67 68), .o 70 (.l 69), .o 71 (.q 185 [63,70]), .o 72 (.i 1 61 62), .n (.st 1 (.tmp 72) (.tmp 71))]))) (.region [.o 73 (.c .add 56 1), .m 56 73]))))
def c112L1:ACode:=(.seq (.region [.o 41 (.b .lss 40 39)]) (.seq (.cond (.tmp 41) .skip (.exit 0)) (.seq (.block 1 [0,1,6,7,9,11,39,40] (.seq (.region [.m 42 40, .m 12 42]) (.seq (.seq (.region [.m 43 7, .m 44 12, .o 45 (.q 86 [43,44])]) (.cond (.tmp 45) (.exit 1) .skip)) (.seq (.region [.m 46 1, .o 47 (.iaddr 1 (.tmp 46) (.const (.int .i64 0))), .o 48 (.l 47), .o 49 (.n 48), .o 50 (.mks 3 1 8 [(.int .i64 0)] (.tmp 49) (.tmp 49)), .m 13 50]) (.seq (.region [.m 51 13, .m 52 12, .o 53 (.i 1 51 52), .n (.st 1 (.tmp 53) (.const (.int .i64 1)))]) (.seq (.seq (.region [.m 54 7, .o 55 (.n 54), .k 56 0]) (.block 2 [0,1,6,7,9,11,13,39,40] (.loop [0,1,6,7,9,11,12,13,39,40,54,55,56] c112L0))) (.region [.m 74 11, .m 75 13, .o 76 (.mkSl 22 1 1 [(.tmp 75)]), .o 77 (.app 22 1 24 (.tmp 74) (.tmp 76)), .m 11 77]))))))) (.region [.o 78 (.c .add 40 1), .m 40 78]))))
def c112:ACode:=(.seq (.region [.o 4 (.mv (.const (.slice none 0 0))), .k 5 0]) (.seq (.region [.m 17 0, .m 18 1, .o 19 (.q 151 [17,18]), .m 16 19, .o 20 (.e 0 16), .o 21 (.e 1 16), .o 22 (.e 2 16), .m 6 20, .m 7 21, .m 8 22]) (.seq (.seq (.region [.m 23 8, .o 24 (.c .neq 23 0), .m 25 24, .g 26 (.m 1) 25 false, .g 27 (.n 26) 25 false, .g 28 (.c .eql 27 0) 25 false, .o 29 (.pick (.tmp 25) (.const (.bool true)) (.tmp 28))]) (.cond (.tmp 29) (.seq (.region [.m 30 8, .o 4 (.mv (.const (.slice none 0 0))), .m 5 30]) .ret) .skip)) (.seq (.region [.m 32 0, .o 33 (.q 76 [32]), .m 31 33, .o 34 (.e 0 31), .o 35 (.e 1 31), .m 9 34, .m 10 35]) (.seq (.region [.o 11 (.mv (.const (.slice none 0 0)))]) (.seq (.seq (.region [.m 36 1, .o 37 (.iaddr 1 (.tmp 36) (.const (.int .i64 0))), .o 38 (.l 37), .o 39 (.n 38), .k 40 0]) (.block 0 [0,11] (.loop [0,1,6,7,9,11,39,40] c112L1))) (.seq (.region [.m 80 0, .m 81 11, .o 82 (.q 151 [80,81]), .m 79 82, .o 83 (.e 0 79), .o 84 (.e 1 79), .o 85 (.e 2 79), .m 11 83]) (.seq (.region [.m 86 11, .m 4 86, .k 5 0]) .ret))))))))
def F112:AFun:=⟨c112,2,87,[(.tmp 4),(.tmp 5)]⟩
def K112:Nat→List Nat×List Nat
 |0=>([0,1,6,7,9,11,39,40],[0,11])
 |1=>([],[0,1,6,7,9,11,39,40])
 |2=>([0,1,6,7,9,11,12,13,39,40,54,55,56],[0,1,6,7,9,11,13,39,40])
 |3=>([],[0,1,6,7,9,11,12,13,39,40,54,55,56])
 |_=>([],[])
theorem F112_ok:kj8 Try.prog K112 Try.f112=some F112:=by kernel_rfl
/- 113: slices.ContainsFunc[[]int,int] -/
def c113:ACode:=(.seq (.region [.o 4 (.mv (.const (.bool false)))]) (.seq (.region [.m 5 0, .m 6 1, .o 7 (.q 186 [5,6]), .o 8 (.c .geq 7 0), .m 4 8]) .ret))
def F113:AFun:=⟨c113,2,9,[(.tmp 4)]⟩
def K113:Nat→List Nat×List Nat
 |_=>([],[])
theorem F113_ok:kj8 Try.prog K113 Try.f113=some F113:=by kernel_rfl
/- 115: (*syndrome/field.Field).Has -/
def c115:ACode:=(.seq (.region [.o 4 (.mv (.const (.bool false)))]) (.seq (.region [.m 5 1, .o 6 (.c .geq 5 0), .m 7 6, .g 8 (.m 1) 7 true, .g 9 (.m 0) 7 true, .g 10 (.nilck (.tmp 9)) 7 true, .g 11 (.f 0 10) 7 true, .g 12 (.l 11) 7 true, .g 13 (.b .lss 8 12) 7 true, .o 14 (.pick (.tmp 7) (.tmp 13) (.const (.bool false))), .m 4 14]) .ret))
def F115:AFun:=⟨c115,2,15,[(.tmp 4)]⟩
def K115:Nat→List Nat×List Nat
 |_=>([],[])
theorem F115_ok:kj8 Try.prog K115 Try.f115=some F115:=by kernel_rfl
/- 119: slices.Clone[[]int,int] -/
def c119:ACode:=(.seq (.region [.o 2 (.mv (.const (.slice none 0 0)))]) (.seq (.seq (.region [.m 3 0, .o 4 (.eqn false 0 (.tmp 3))]) (.cond (.tmp 4) (.seq (.region [.o 2 (.mv (.const (.slice none 0 0)))]) .ret) .skip)) (.seq (.region [.o 5 (.mkSl 3 1 0 []), .m 6 0, .o 7 (.app 3 1 8 (.tmp 5) (.tmp 6)), .m 2 7]) .ret)))
def F119:AFun:=⟨c119,1,8,[(.tmp 2)]⟩
def K119:Nat→List Nat×List Nat
 |_=>([],[])
theorem F119_ok:kj8 Try.prog K119 Try.f119=some F119:=by kernel_rfl
/- 123: syndrome/lists.whole -/
def c123:ACode:=(.seq (.region [.k 8 0]) (.seq (.region [.m 10 0, .m 11 1, .m 12 2, .m 13 3, .o 14 (.q 188 [10,11,12,13]), .m 9 14]) (.seq (.seq (.region [.m 15 9, .o 16 (.c .eql 15 0), .m 17 16, .g 18 (.m 3) 17 true, .g 19 (.call 86 [(.tmp 18),(.const (.int .i64 (-1)))]) 17 true, .o 20 (.pick (.tmp 17) (.tmp 19) (.const (.bool false)))]) (.cond (.tmp 20) (.region [.k 9 2]) .skip)) (.seq (.region [.m 21 9, .m 8 21]) .ret))))
def F123:AFun:=⟨c123,4,22,[(.tmp 8)]⟩
def K123:Nat→List Nat×List Nat
 |_=>([],[])
theorem F123_ok:kj8 Try.prog K123 Try.f123=some F123:=by kernel_rfl
/- 124: syndrome/lists.few -/
def c124L0:ACode:=(.seq (.region [.o 8 (.b .lss 7 6)]) (.seq (.cond (.tmp 8) .skip (.exit 0)) (.seq (.block 1 [0,5,6,7] (.seq (.region [.m 9 5, .m 10 0, .o 11 (.b .mul 9 10), .m 5 11]) (.seq (.region [.m 12 5, .o 13 (.c .gtr 12 4096)]) (.cond (.tmp 13) (.seq (.region [.o 4 (.mv (.const (.bool false)))]) .ret) .skip)))) (.region [.o 14 (.c .add 7 1), .m 7 14]))))
def c124:ACode:=(.seq (.region [.o 4 (.mv (.const (.bool false)))]) (.seq (.region [.k 5 1]) (.seq (.seq (.region [.m 6 1, .k 7 0]) (.block 0 [] (.loop [0,5,6,7] c124L0))) (.seq (.region [.o 4 (.mv (.const (.bool true)))]) .ret))))
def F124:AFun:=⟨c124,2,15,[(.tmp 4)]⟩
def K124:Nat→List Nat×List Nat
 |0=>([0,5,6,7],[])
 |1=>([],[0,5,6,7])
 |_=>([],[])
theorem F124_ok:kj8 Try.prog K124 Try.f124=some F124:=by kernel_rfl
/- 125: syndrome/poly.At -/
def c125L0:ACode:=(.seq (.seq (.region [.m 29 12, .o 30 (.c .geq 29 0)]) (.cond (.tmp 30) .skip (.exit 0))) (.seq (.block 1 [1,2,8,11,12] (.region [.m 33 8, .m 34 8, .m 35 11, .m 36 2,⟨(some 37),(.call 85 [(.tmp 34),(.tmp 35),(.tmp 36)]),none,true⟩, .m 38 1, .m 39 12, .o 40 (.i 1 38 39),⟨(some 41),(.ld false 1 (.tmp 40)),none,true⟩, .o 42 (.q 83 [33,37,41]), .m 11 42])) (.region [.m 31 12, .o 32 (.c .sub 31 1), .m 12 32])))
def c125:ACode:=(.seq (.region [.k 6 0, .k 7 0]) (.seq (.region [.m 14 0, .m 15 1, .m 16 2, .o 17 (.mkSl 3 1 1 [(.tmp 16)]), .o 18 (.q 189 [14,15,17]), .m 13 18, .o 19 (.e 0 13), .o 20 (.e 1 13), .o 21 (.e 2 13), .o 22 (.e 3 13), .m 8 19, .m 1 20, .m 9 21, .m 10 22]) (.seq (.seq (.region [.m 23 10, .o 24 (.c .neq 23 0)]) (.cond (.tmp 24) (.seq (.region [.m 25 10, .k 6 0, .m 7 25]) .ret) .skip)) (.seq (.region [.k 11 0]) (.seq (.seq (.region [.m 26 1, .o 27 (.n 26), .o 28 (.c .sub 27 1), .m 12 28]) (.block 0 [11] (.loop [1,2,8,11,12] c125L0))) (.seq (.region [.m 43 11, .m 6 43, .k 7 0]) .ret))))))
def F125:AFun:=⟨c125,3,44,[(.tmp 6),(.tmp 7)]⟩
def K125:Nat→List Nat×List Nat
 |0=>([1,2,8,11,12],[11])
 |1=>([],[1,2,8,11,12])
 |_=>([],[])
theorem F125_ok:kj8 Try.prog K125 Try.f125=some F125:=by kernel_rfl
/- 126: syndrome/reed.Check -/
def c126L0:ACode:=(.seq (.region [.o 30 (.b .lss 29 28)]) (.seq (.cond (.tmp 30) .skip (.exit 0)) (.seq (.block 1 [1,2,7,27,28,29] (.seq (.region [.m 31 29, .o 32 (.i 1 27 29), .o 33 (.l 32), .m 9 31, .m 10 33]) (.seq (.seq (.region [.m 34 7, .m 35 10, .o 36 (.q 115 [34,35]), .o 37 (.un .not (.tmp 36))]) (.cond (.tmp 37) (.seq (.region [.k 6 2]) .ret) .skip)) (.seq (.region [.m 38 1, .m 39 9, .o 40 (.sl 1 (.tmp 38) none (some (.tmp 39))), .m 41 10, .o 42 (.q 86 [40,41])]) (.cond (.tmp 42) (.seq (.region [.k 6 7]) .ret) .skip))))) (.region [.o 43 (.c .add 29 1), .m 29 43]))))
def c126:ACode:=(.seq (.region [.k 6 0]) (.seq (.region [.m 12 0, .o 13 (.q 76 [12]), .m 11 13, .o 14 (.e 0 11), .o 15 (.e 1 11), .m 7 14, .m 8 15]) (.seq (.seq (.region [.m 16 8, .o 17 (.c .neq 16 0)]) (.cond (.tmp 17) (.seq (.region [.m 18 8, .m 6 18]) .ret) .skip)) (.seq (.seq (.region [.m 19 1, .o 20 (.n 19), .o 21 (.c .lss 20 1), .m 22 21, .g 23 (.m 1) 22 false, .g 24 (.n 23) 22 false, .g 25 (.c .gtr 24 64) 22 false, .o 26 (.pick (.tmp 22) (.const (.bool true)) (.tmp 25))]) (.cond (.tmp 26) (.seq (.region [.k 6 4]) .ret) .skip)) (.seq (.seq (.region [.m 27 1, .o 28 (.n 27), .k 29 0]) (.block 0 [1,2] (.loop [1,2,7,27,28,29] c126L0))) (.seq (.seq (.region [.m 44 2, .o 45 (.c .lss 44 1), .m 46 45, .g 47 (.m 2) 46 false, .g 48 (.m 1) 46 false, .g 49 (.n 48) 46 false, .g 50 (.b .gtr 47 49) 46 false, .o 51 (.pick (.tmp 46) (.const (.bool true)) (.tmp 50))]) (.cond (.tmp 51) (.seq (.region [.k 6 6]) .ret) .skip)) (.seq (.region [.k 6 0]) .ret)))))))
def F126:AFun:=⟨c126,3,52,[(.tmp 6)]⟩
def K126:Nat→List Nat×List Nat
 |0=>([1,2,7,27,28,29],[1,2])
 |1=>([],[1,2,7,27,28,29])
 |_=>([],[])
theorem F126_ok:kj8 Try.prog K126 Try.f126=some F126:=by kernel_rfl
/- 127: syndrome/poly.Check -/
def c127L0:ACode:=(.seq (.region [.o 23 (.b .lss 22 21)]) (.seq (.cond (.tmp 23) .skip (.exit 0)) (.seq (.block 1 [5,20,21,22] (.seq (.region [.o 24 (.i 1 20 22), .o 25 (.l 24), .m 8 25]) (.seq (.region [.m 26 5, .m 27 8, .o 28 (.q 115 [26,27]), .o 29 (.un .not (.tmp 28))]) (.cond (.tmp 29) (.seq (.region [.k 4 2]) .ret) .skip)))) (.region [.o 30 (.c .add 22 1), .m 22 30]))))
def c127:ACode:=(.seq (.region [.k 4 0]) (.seq (.region [.m 10 0, .o 11 (.q 76 [10]), .m 9 11, .o 12 (.e 0 9), .o 13 (.e 1 9), .m 5 12, .m 6 13]) (.seq (.seq (.region [.m 14 6, .o 15 (.c .neq 14 0)]) (.cond (.tmp 15) (.seq (.region [.m 16 6, .m 4 16]) .ret) .skip)) (.seq (.seq (.region [.m 17 1, .o 18 (.n 17), .o 19 (.c .gtr 18 128)]) (.cond (.tmp 19) (.seq (.region [.k 4 4]) .ret) .skip)) (.seq (.seq (.region [.m 20 1, .o 21 (.n 20), .k 22 0]) (.block 0 [] (.loop [5,20,21,22] c127L0))) (.seq (.region [.k 4 0]) .ret))))))
def F127:AFun:=⟨c127,2,31,[(.tmp 4)]⟩
def K127:Nat→List Nat×List Nat
 |0=>([5,20,21,22],[])
 |1=>([],[5,20,21,22])
 |_=>([],[])
theorem F127_ok:kj8 Try.prog K127 Try.f127=some F127:=by kernel_rfl
/- 128: syndrome/lists.monomials -/
def c128L0:ACode:=(.seq (.seq (.region [.m 21 7, .m 22 6, .m 23 0, .o 24 (.c .sub 23 1), .o 25 (.b .mul 22 24), .o 26 (.b .add 21 25), .m 27 1, .o 28 (.b .lss 26 27)]) (.cond (.tmp 28) .skip (.exit 2))) (.seq (.block 3 [0,1,5,6,7] (.region [.m 31 5, .m 32 7, .m 33 6, .o 34 (.build [(.int .i64 0),(.int .i64 0)] [(0,1),(1,1)] [(0,(.tmp 32)),(1,(.tmp 33))]), .o 35 (.mkSl 140 2 1 [(.tmp 34)]), .o 36 (.app 140 2 16 (.tmp 31) (.tmp 35)), .m 5 36])) (.region [.m 29 7, .o 30 (.c .add 29 1), .m 7 30])))
def c128L1:ACode:=(.seq (.seq (.region [.m 8 6, .m 9 0, .o 10 (.c .sub 9 1), .o 11 (.b .mul 8 10), .m 12 1, .o 13 (.b .lss 11 12), .m 14 13, .g 15 (.m 5) 14 true, .g 16 (.n 15) 14 true, .g 17 (.c .leq 16 256) 14 true, .o 18 (.pick (.tmp 14) (.tmp 17) (.const (.bool false)))]) (.cond (.tmp 18) .skip (.exit 0))) (.seq (.block 1 [0,1,5,6] (.seq (.seq (.region [.k 7 0]) (.block 2 [0,1,5,6] (.loop [0,1,5,6,7] c128L0))) (.seq (.region [.m 37 0, .o 38 (.c .eql 37 1), .m 39 38, .g 40 (.m 6) 39 true, .g 41 (.c .eql 40 64) 39 true, .o 42 (.pick (.tmp 39) (.tmp 41) (.const (.bool false)))]) (.cond (.tmp 42) (.exit 0) .skip)))) (.region [.m 19 6, .o 20 (.c .add 19 1), .m 6 20])))
def c128:ACode:=(.seq (.region [.o 4 (.mv (.const (.slice none 0 0)))]) (.seq (.region [.o 5 (.mv (.const (.slice none 0 0)))]) (.seq (.seq (.region [.k 6 0]) (.block 0 [5] (.loop [0,1,5,6] c128L1))) (.seq (.region [.m 43 5, .m 4 43]) .ret))))
def F128:AFun:=⟨c128,2,44,[(.tmp 4)]⟩
def K128:Nat→List Nat×List Nat
 |0=>([0,1,5,6],[5])
 |1=>([],[0,1,5,6])
 |2=>([0,1,5,6,7],[0,1,5,6])
 |3=>([],[0,1,5,6,7])
 |_=>([],[])
theorem F128_ok:kj8 Try.prog K128 Try.f128=some F128:=by kernel_rfl
/- 129: (*syndrome/field.Field).Pow -/
def c129:ACode:=(.seq (.region [.k 6 0]) (.seq (.seq (.region [.m 7 0, .m 8 1, .o 9 (.q 115 [7,8]), .o 10 (.un .not (.tmp 9)), .m 11 10, .g 12 (.m 1) 11 false, .g 13 (.c .eql 12 0) 11 false, .g 14 (.m 13) 11 false, .g 15 (.m 2) 14 true, .g 16 (.c .lss 15 0) 14 true, .g 17 (.pick (.tmp 14) (.tmp 16) (.const (.bool false))) 11 false, .o 18 (.pick (.tmp 11) (.const (.bool true)) (.tmp 17))]) (.cond (.tmp 18) (.seq (.region [.k 6 (-1)]) .ret) .skip)) (.seq (.seq (.region [.m 19 2, .o 20 (.c .eql 19 0)]) (.cond (.tmp 20) (.seq (.region [.k 6 1]) .ret) .skip)) (.seq (.seq (.region [.m 21 1, .o 22 (.c .eql 21 0)]) (.cond (.tmp 22) (.seq (.region [.k 6 0]) .ret) .skip)) (.seq (.region [.m 23 2, .m 24 0, .o 25 (.nilck (.tmp 24)), .o 26 (.f 0 25), .o 27 (.l 26), .o 28 (.c .sub 27 1), .o 29 (.b .rem 23 28), .m 2 29]) (.seq (.seq (.region [.m 30 2, .o 31 (.c .lss 30 0)]) (.cond (.tmp 31) (.region [.m 32 2, .m 33 0, .o 34 (.nilck (.tmp 33)), .o 35 (.f 0 34), .o 36 (.l 35), .o 37 (.c .sub 36 1), .o 38 (.b .add 32 37), .m 2 38]) .skip)) (.seq (.region [.m 39 0, .o 40 (.nilck (.tmp 39)), .o 41 (.f 5 40), .o 42 (.l 41), .m 43 0, .o 44 (.nilck (.tmp 43)), .o 45 (.f 6 44), .o 46 (.l 45), .m 47 1, .o 48 (.i 1 46 47), .o 49 (.l 48), .m 50 2, .o 51 (.b .mul 49 50), .m 52 0, .o 53 (.nilck (.tmp 52)), .o 54 (.f 0 53), .o 55 (.l 54), .o 56 (.c .sub 55 1), .o 57 (.b .rem 51 56), .o 58 (.i 1 42 57), .o 59 (.l 58), .m 6 59]) .ret)))))))
def F129:AFun:=⟨c129,3,60,[(.tmp 6)]⟩
def K129:Nat→List Nat×List Nat
 |_=>([],[])
theorem F129_ok:kj8 Try.prog K129 Try.f129=some F129:=by kernel_rfl
/- 130: syndrome/poly.Mul -/
def c130:ACode:=(.seq (.region [.o 6 (.mv (.const (.slice none 0 0))), .k 7 0]) (.seq (.region [.m 11 0, .m 12 1, .m 13 2, .o 14 (.q 189 [11,12,13]), .m 10 14, .o 15 (.e 0 10), .o 16 (.e 1 10), .o 17 (.e 2 10), .o 18 (.e 3 10), .m 8 15, .m 1 16, .m 2 17, .m 9 18]) (.seq (.seq (.region [.m 19 9, .o 20 (.c .neq 19 0)]) (.cond (.tmp 20) (.seq (.region [.m 21 9, .o 6 (.mv (.const (.slice none 0 0))), .m 7 21]) .ret) .skip)) (.seq (.seq (.region [.m 22 1, .o 23 (.n 22), .o 24 (.c .eql 23 0), .m 25 24, .g 26 (.m 2) 25 false, .g 27 (.n 26) 25 false, .g 28 (.c .eql 27 0) 25 false, .o 29 (.pick (.tmp 25) (.const (.bool true)) (.tmp 28))]) (.cond (.tmp 29) (.seq (.region [.o 6 (.mv (.const (.slice none 0 0))), .k 7 0]) .ret) .skip)) (.seq (.seq (.region [.m 30 1, .o 31 (.n 30), .m 32 2, .o 33 (.n 32), .o 34 (.b .add 31 33), .o 35 (.c .sub 34 1), .o 36 (.c .gtr 35 128)]) (.cond (.tmp 36) (.seq (.region [.o 6 (.mv (.const (.slice none 0 0))), .k 7 4]) .ret) .skip)) (.seq (.region [.m 37 8, .m 38 1, .m 39 2, .o 40 (.q 190 [37,38,39]), .m 6 40, .k 7 0]) .ret))))))
def F130:AFun:=⟨c130,3,41,[(.tmp 6),(.tmp 7)]⟩
def K130:Nat→List Nat×List Nat
 |_=>([],[])
theorem F130_ok:kj8 Try.prog K130 Try.f130=some F130:=by kernel_rfl
/- 131: syndrome/poly.Add -/
def c131L0:ACode:=(.seq (.region [.o 34 (.b .lss 33 32)]) (.seq (.cond (.tmp 34) .skip (.exit 0)) (.seq (.block 1 [1,8,31,32,33] (.seq (.region [.m 35 33, .o 36 (.i 1 31 33), .o 37 (.l 36), .m 10 35, .m 11 37]) (.region [.m 38 1, .m 39 10, .m 40 8, .m 41 1, .m 42 10, .o 43 (.i 1 41 42), .o 44 (.l 43), .m 45 11, .o 46 (.q 83 [40,44,45]), .o 47 (.i 1 38 39), .n (.st 1 (.tmp 47) (.tmp 46))]))) (.region [.o 48 (.c .add 33 1), .m 33 48]))))
def c131:ACode:=(.seq (.region [.o 6 (.mv (.const (.slice none 0 0))), .k 7 0]) (.seq (.region [.m 13 0, .m 14 1, .m 15 2, .o 16 (.q 189 [13,14,15]), .m 12 16, .o 17 (.e 0 12), .o 18 (.e 1 12), .o 19 (.e 2 12), .o 20 (.e 3 12), .m 8 17, .m 1 18, .m 2 19, .m 9 20]) (.seq (.seq (.region [.m 21 9, .o 22 (.c .neq 21 0)]) (.cond (.tmp 22) (.seq (.region [.m 23 9, .o 6 (.mv (.const (.slice none 0 0))), .m 7 23]) .ret) .skip)) (.seq (.seq (.region [.m 24 1, .o 25 (.n 24), .m 26 2, .o 27 (.n 26), .o 28 (.b .lss 25 27)]) (.cond (.tmp 28) (.region [.m 29 2, .m 30 1, .m 1 29, .m 2 30]) .skip)) (.seq (.seq (.region [.m 31 2, .o 32 (.n 31), .k 33 0]) (.block 0 [1] (.loop [1,8,31,32,33] c131L0))) (.seq (.region [.m 49 1, .o 50 (.q 191 [49]), .m 6 50, .k 7 0]) .ret))))))
def F131:AFun:=⟨c131,3,51,[(.tmp 6),(.tmp 7)]⟩
def K131:Nat→List Nat×List Nat
 |0=>([1,8,31,32,33],[1])
 |1=>([],[1,8,31,32,33])
 |_=>([],[])
theorem F131_ok:kj8 Try.prog K131 Try.f131=some F131:=by kernel_rfl
/- 151: syndrome/matrix.Reduce -/
def c151L0:ACode:=(.seq (.region [.o 92 (.b .lss 91 90)]) (.seq (.cond (.tmp 92) .skip (.exit 2)) (.seq (.block 3 [1,5,8,10,11,90,91] (.seq (.region [.m 93 91, .m 13 93]) (.seq (.region [.m 94 13, .m 95 11, .o 96 (.b .neq 94 95), .m 97 96, .g 98 (.m 1) 97 true, .g 99 (.m 13) 97 true, .g 100 (.i 1 98 99) 97 true, .g 101 (.l 100) 97 true, .g 102 (.l 10) 97 true, .g 103 (.i 1 101 102) 97 true, .g 104 (.l 103) 97 true, .g 105 (.c .neq 104 0) 97 true, .o 106 (.pick (.tmp 97) (.tmp 105) (.const (.bool false)))]) (.cond (.tmp 106) (.region [.m 107 8, .m 108 1, .m 109 13, .o 110 (.i 1 108 109), .o 111 (.l 110), .m 112 1, .m 113 11, .o 114 (.i 1 112 113), .o 115 (.l 114), .m 116 1, .m 117 13, .o 118 (.i 1 116 117), .o 119 (.l 118), .o 120 (.l 10), .o 121 (.i 1 119 120), .o 122 (.l 121), .o 123 (.q 199 [107,111,115,122])]) .skip)))) (.region [.o 124 (.c .add 91 1), .m 91 124]))))
def c151L1:ACode:=(.seq (.seq (.region [.o 32 (.l 10), .m 33 1, .o 34 (.iaddr 1 (.tmp 33) (.const (.int .i64 0))), .o 35 (.l 34), .o 36 (.n 35), .o 37 (.b .lss 32 36), .m 38 37, .g 39 (.m 5) 38 true, .g 40 (.n 39) 38 true, .g 41 (.m 1) 38 true, .g 42 (.n 41) 38 true, .g 43 (.b .lss 40 42) 38 true, .o 44 (.pick (.tmp 38) (.tmp 43) (.const (.bool false)))]) (.cond (.tmp 44) .skip (.exit 0))) (.seq (.block 1 [1,5,8,10] (.seq (.region [.m 47 5, .o 48 (.n 47), .m 11 48]) (.seq (.region [.m 49 1, .m 50 11, .o 51 (.sl 1 (.tmp 49) (some (.tmp 50)) none), .o 52 (.mkf 197 [(.tmp 10)]), .o 53 (.q 163 [51,52]), .m 12 53]) (.seq (.seq (.region [.m 54 12, .o 55 (.c .lss 54 0)]) (.cond (.tmp 55) (.exit 1) .skip)) (.seq (.region [.m 56 1, .m 57 11, .m 58 1, .m 59 11, .m 60 12, .o 61 (.b .add 59 60), .m 62 1, .m 63 11, .m 64 12, .o 65 (.b .add 63 64), .o 66 (.i 1 62 65), .o 67 (.l 66), .m 68 1, .m 69 11, .o 70 (.i 1 68 69), .o 71 (.l 70), .o 72 (.i 1 56 57), .n (.st 1 (.tmp 72) (.tmp 67)), .o 73 (.i 1 58 61), .n (.st 1 (.tmp 73) (.tmp 71))]) (.seq (.region [.m 74 8, .m 75 1, .m 76 11, .o 77 (.i 1 75 76), .o 78 (.l 77), .m 79 8, .m 80 1, .m 81 11, .o 82 (.i 1 80 81), .o 83 (.l 82), .o 84 (.l 10), .o 85 (.i 1 83 84), .o 86 (.l 85),⟨(some 87),(.call 165 [(.tmp 79),(.tmp 86)]),none,true⟩, .o 88 (.q 198 [74,78,87])]) (.seq (.seq (.region [.m 89 1, .o 90 (.n 89), .k 91 0]) (.block 2 [1,5,8,10] (.loop [1,5,8,10,11,90,91] c151L0))) (.region [.m 125 5, .o 126 (.l 10), .o 127 (.mkSl 3 1 1 [(.tmp 126)]), .o 128 (.app 3 1 8 (.tmp 125) (.tmp 127)), .m 5 128])))))))) (.seq (.seq (.region [.o 129 (.l 10)]) (.region [.o 10 (.alloc 3 [(.int .i64 0)]), .n (.st 1 (.tmp 10) (.tmp 129))])) (.region [.o 45 (.l 10), .o 46 (.c .add 45 1), .n (.st 1 (.tmp 10) (.tmp 46))]))))
def c151:ACode:=(.seq (.region [.o 4 (.mv (.const (.slice none 0 0))), .o 5 (.mv (.const (.slice none 0 0))), .k 6 0]) (.seq (.seq (.region [.m 14 0, .m 15 1, .o 16 (.q 162 [14,15]), .m 7 16]) (.seq (.region [.m 17 7, .o 18 (.c .neq 17 0), .m 19 18, .g 20 (.m 1) 19 false, .g 21 (.n 20) 19 false, .g 22 (.c .eql 21 0) 19 false, .o 23 (.pick (.tmp 19) (.const (.bool true)) (.tmp 22))]) (.cond (.tmp 23) (.seq (.region [.m 24 7, .o 4 (.mv (.const (.slice none 0 0))), .o 5 (.mv (.const (.slice none 0 0))), .m 6 24]) .ret) .skip))) (.seq (.region [.m 26 0, .o 27 (.q 76 [26]), .m 25 27, .o 28 (.e 0 25), .o 29 (.e 1 25), .m 8 28, .m 9 29]) (.seq (.region [.m 30 1, .o 31 (.q 196 [30]), .m 1 31]) (.seq (.seq (.region [.o 10 (.alloc 3 [(.int .i64 0)]), .n (.st 1 (.tmp 10) (.const (.int .i64 0)))]) (.block 0 [1,5] (.loop [1,5,8,10] c151L1))) (.seq (.region [.m 130 1, .m 131 5, .o 132 (.n 131), .m 133 5, .o 134 (.n 133), .o 135 (.sl3 (.tmp 130) (.tmp 132) (.tmp 134)), .m 136 5, .m 4 135, .m 5 136, .k 6 0]) .ret))))))
def F151:AFun:=⟨c151,2,137,[(.tmp 4),(.tmp 5),(.tmp 6)]⟩
def K151:Nat→List Nat×List Nat
 |0=>([1,5,8,10],[1,5])
 |1=>([],[1,5,8,10])
 |2=>([1,5,8,10,11,90,91],[1,5,8,10])
 |3=>([],[1,5,8,10,11,90,91])
 |_=>([],[])
theorem F151_ok:kj8 Try.prog K151 Try.f151=some F151:=by kernel_rfl
/- 159: syndrome/field.New$1 -/
def c159:ACode:=(.region [.o 2 (.l 0), .o 3 (.l 0),⟨(some 4),(.call 160 [(.tmp 3)]),none,true⟩, .o 5 (.f 195 1), .o 6 (.iaddrA 65 1 (.tmp 5) (.tmp 2)), .n (.st 1 (.tmp 6) (.tmp 4))])
def F159:AFun:=⟨c159,2,7,[]⟩
def K159:Nat→List Nat×List Nat
 |_=>([],[])
theorem F159_ok:kj8 Try.prog K159 Try.f159=some F159:=by kernel_rfl
/- 160: syndrome/field.build -/
def c160L0:ACode:=(.seq (.seq (.region [.m 28 5, .o 29 (.q 205 [28]), .o 30 (.un .not (.tmp 29))]) (.cond (.tmp 30) .skip (.exit 0))) (.seq (.block 1 [5] .skip) (.region [.m 31 5, .o 32 (.nilck (.tmp 31)), .o 33 (.f 4 32), .o 34 (.l 33), .o 35 (.c .add 34 1), .o 36 (.nilck (.tmp 31)), .o 37 (.f 4 36), .n (.st 1 (.tmp 37) (.tmp 35))])))
def c160L1:ACode:=(.seq (.region [.o 45 (.b .lss 44 43)]) (.seq (.cond (.tmp 45) .skip (.exit 2)) (.seq (.block 3 [3,4,5,43,44] (.seq (.region [.m 46 44, .m 6 46]) (.seq (.region [.m 47 5, .m 48 6, .m 49 3, .m 50 4, .o 51 (.q 206 [48,49,50]), .o 52 (.mkSl 3 1 1 [(.const (.int .i64 1))]), .o 53 (.app 3 1 8 (.tmp 51) (.tmp 52)), .o 54 (.nilck (.tmp 47)), .o 55 (.f 3 54), .n (.st 1 (.tmp 55) (.tmp 53))]) (.seq (.region [.m 56 5, .o 57 (.q 205 [56])]) (.cond (.tmp 57) (.seq (.region [.m 58 5, .m 2 58]) .ret) .skip))))) (.region [.o 59 (.c .add 44 1), .m 44 59]))))
def c160:ACode:=(.seq (.region [.o 2 (.mv (.const (.pointer none)))]) (.seq (.region [.m 8 0, .o 9 (.q 204 [8]), .m 7 9, .o 10 (.e 0 7), .o 11 (.e 1 7), .m 3 10, .m 4 11]) (.seq (.seq (.region [.m 12 3, .o 13 (.c .eql 12 0)]) (.cond (.tmp 13) (.seq (.region [.o 2 (.mv (.const (.pointer none)))]) .ret) .skip)) (.seq (.region [.m 14 0, .m 15 3, .m 16 4, .o 17 (.build [(.int .i64 0),(.int .i64 0),(.int .i64 0),(.slice none 0 0),(.int .i64 0),(.slice none 0 0),(.slice none 0 0)] [(0,1),(1,1),(2,1),(3,1),(4,1),(5,1),(6,1)] [(0,(.tmp 14)),(1,(.tmp 15)),(2,(.tmp 16))]), .o 18 (.box 173 7 (.tmp 17)), .m 5 18]) (.seq (.seq (.region [.m 19 4, .o 20 (.c .eql 19 1)]) (.cond (.tmp 20) (.seq (.region [.m 21 5, .o 22 (.mkSl 3 1 2 [(.const (.int .i64 0)),(.const (.int .i64 1))]), .o 23 (.nilck (.tmp 21)), .o 24 (.f 3 23), .n (.st 1 (.tmp 24) (.tmp 22))]) (.seq (.seq (.region [.m 25 5, .o 26 (.nilck (.tmp 25)), .o 27 (.f 4 26), .n (.st 1 (.tmp 27) (.const (.int .i64 1)))]) (.block 0 [5] (.loop [5] c160L0))) (.seq (.region [.m 38 5, .m 2 38]) .ret))) .skip)) (.seq (.region [.m 39 5, .m 40 3, .o 41 (.nilck (.tmp 39)), .o 42 (.f 4 41), .n (.st 1 (.tmp 42) (.tmp 40))]) (.seq (.seq (.region [.m 43 0, .k 44 0]) (.block 2 [] (.loop [3,4,5,43,44] c160L1))) (.seq (.region [.o 2 (.mv (.const (.pointer none)))]) .ret))))))))
def F160:AFun:=⟨c160,1,60,[(.tmp 2)]⟩
def K160:Nat→List Nat×List Nat
 |0=>([5],[5])
 |1=>([],[5])
 |2=>([3,4,5,43,44],[])
 |3=>([],[3,4,5,43,44])
 |_=>([],[])
theorem F160_ok:kj8 Try.prog K160 Try.f160=some F160:=by kernel_rfl
/- 162: syndrome/matrix.Check -/
def c162L0:ACode:=(.seq (.region [.o 23 (.b .lss 22 21)]) (.seq (.cond (.tmp 23) .skip (.exit 0)) (.seq (.block 1 [1,5,20,21,22] (.seq (.region [.o 24 (.i 1 20 22), .o 25 (.l 24), .m 8 25]) (.seq (.seq (.region [.m 26 8, .o 27 (.n 26), .m 28 1, .o 29 (.iaddr 1 (.tmp 28) (.const (.int .i64 0))), .o 30 (.l 29), .o 31 (.n 30), .o 32 (.b .neq 27 31), .m 33 32, .g 34 (.m 8) 33 false, .g 35 (.n 34) 33 false, .g 36 (.c .eql 35 0) 33 false, .o 37 (.pick (.tmp 33) (.const (.bool true)) (.tmp 36))]) (.cond (.tmp 37) (.seq (.region [.k 4 3]) .ret) .skip)) (.seq (.seq (.region [.m 38 8, .o 39 (.n 38), .o 40 (.c .gtr 39 64)]) (.cond (.tmp 40) (.seq (.region [.k 4 4]) .ret) .skip)) (.seq (.region [.m 41 8, .o 42 (.mkf 207 [(.tmp 5)]), .o 43 (.q 113 [41,42])]) (.cond (.tmp 43) (.seq (.region [.k 4 2]) .ret) .skip)))))) (.region [.o 44 (.c .add 22 1), .m 22 44]))))
def c162:ACode:=(.seq (.region [.k 4 0]) (.seq (.region [.m 10 0, .o 11 (.q 76 [10]), .m 9 11, .o 12 (.e 0 9), .o 13 (.e 1 9), .o 5 (.alloc 104 [(.pointer none)]), .n (.st 1 (.tmp 5) (.tmp 12)), .m 6 13]) (.seq (.seq (.region [.m 14 6, .o 15 (.c .neq 14 0)]) (.cond (.tmp 15) (.seq (.region [.m 16 6, .m 4 16]) .ret) .skip)) (.seq (.seq (.region [.m 17 1, .o 18 (.n 17), .o 19 (.c .gtr 18 64)]) (.cond (.tmp 19) (.seq (.region [.k 4 4]) .ret) .skip)) (.seq (.seq (.region [.m 20 1, .o 21 (.n 20), .k 22 0]) (.block 0 [] (.loop [1,5,20,21,22] c162L0))) (.seq (.region [.k 4 0]) .ret))))))
def F162:AFun:=⟨c162,2,45,[(.tmp 4)]⟩
def K162:Nat→List Nat×List Nat
 |0=>([1,5,20,21,22],[])
 |1=>([],[1,5,20,21,22])
 |_=>([],[])
theorem F162_ok:kj8 Try.prog K162 Try.f162=some F162:=by kernel_rfl
/- 163: slices.IndexFunc[[][]int,[]int] -/
def c163L0:ACode:=(.seq (.region [.o 9 (.b .lss 8 7)]) (.seq (.cond (.tmp 9) .skip (.exit 0)) (.seq (.block 1 [0,1,7,8] (.seq (.region [.m 10 8, .m 5 10]) (.seq (.region [.m 11 1, .m 12 0, .m 13 5, .o 14 (.i 1 12 13), .o 15 (.l 14), .o 16 (.calld (.tmp 11) [(.tmp 15)])]) (.cond (.tmp 16) (.seq (.region [.m 17 5, .m 4 17]) .ret) .skip)))) (.region [.o 18 (.c .add 8 1), .m 8 18]))))
def c163:ACode:=(.seq (.region [.k 4 0]) (.seq (.seq (.region [.m 6 0, .o 7 (.n 6), .k 8 0]) (.block 0 [] (.loop [0,1,7,8] c163L0))) (.seq (.region [.k 4 (-1)]) .ret)))
def F163:AFun:=⟨c163,2,19,[(.tmp 4)]⟩
def K163:Nat→List Nat×List Nat
 |0=>([0,1,7,8],[])
 |1=>([],[0,1,7,8])
 |_=>([],[])
theorem F163_ok:kj8 Try.prog K163 Try.f163=some F163:=by kernel_rfl
/- 165: (*syndrome/field.Field).Inv -/
def c165:ACode:=(.seq (.region [.k 4 0]) (.seq (.seq (.region [.m 5 0, .m 6 1, .o 7 (.q 115 [5,6]), .o 8 (.un .not (.tmp 7)), .m 9 8, .g 10 (.m 1) 9 false, .g 11 (.c .eql 10 0) 9 false, .o 12 (.pick (.tmp 9) (.const (.bool true)) (.tmp 11))]) (.cond (.tmp 12) (.seq (.region [.k 4 (-1)]) .ret) .skip)) (.seq (.region [.m 13 0, .o 14 (.nilck (.tmp 13)), .o 15 (.f 5 14), .o 16 (.l 15), .m 17 0, .o 18 (.nilck (.tmp 17)), .o 19 (.f 0 18), .o 20 (.l 19), .o 21 (.c .sub 20 1), .m 22 0, .o 23 (.nilck (.tmp 22)), .o 24 (.f 6 23), .o 25 (.l 24), .m 26 1, .o 27 (.i 1 25 26), .o 28 (.l 27), .o 29 (.b .sub 21 28), .m 30 0, .o 31 (.nilck (.tmp 30)), .o 32 (.f 0 31), .o 33 (.l 32), .o 34 (.c .sub 33 1), .o 35 (.b .rem 29 34), .o 36 (.i 1 16 35), .o 37 (.l 36), .m 4 37]) .ret)))
def F165:AFun:=⟨c165,2,38,[(.tmp 4)]⟩
def K165:Nat→List Nat×List Nat
 |_=>([],[])
theorem F165_ok:kj8 Try.prog K165 Try.f165=some F165:=by kernel_rfl
/- 166: (*syndrome/field.Field).Sub -/
def c166:ACode:=(.seq (.region [.k 6 0]) (.seq (.region [.m 7 0, .m 8 1, .m 9 0, .m 10 2, .o 11 (.q 185 [9,10]), .o 12 (.q 83 [7,8,11]), .m 6 12]) .ret))
def F166:AFun:=⟨c166,3,13,[(.tmp 6)]⟩
def K166:Nat→List Nat×List Nat
 |_=>([],[])
theorem F166_ok:kj8 Try.prog K166 Try.f166=some F166:=by kernel_rfl
/- 168: slices.Index[[]int,int] -/
def c168L0:ACode:=(.seq (.region [.o 9 (.b .lss 8 7)]) (.seq (.cond (.tmp 9) .skip (.exit 0)) (.seq (.block 1 [0,1,7,8] (.seq (.region [.m 10 8, .m 5 10]) (.seq (.region [.m 11 1, .m 12 0, .m 13 5, .o 14 (.i 1 12 13), .o 15 (.l 14), .o 16 (.b .eql 11 15)]) (.cond (.tmp 16) (.seq (.region [.m 17 5, .m 4 17]) .ret) .skip)))) (.region [.o 18 (.c .add 8 1), .m 8 18]))))
def c168:ACode:=(.seq (.region [.k 4 0]) (.seq (.seq (.region [.m 6 0, .o 7 (.n 6), .k 8 0]) (.block 0 [] (.loop [0,1,7,8] c168L0))) (.seq (.region [.k 4 (-1)]) .ret)))
def F168:AFun:=⟨c168,2,19,[(.tmp 4)]⟩
def K168:Nat→List Nat×List Nat
 |0=>([0,1,7,8],[])
 |1=>([],[0,1,7,8])
 |_=>([],[])
theorem F168_ok:kj8 Try.prog K168 Try.f168=some F168:=by kernel_rfl
/- 185: (*syndrome/field.Field).Neg -/
def c185L0:ACode:=(.seq (.region [.o 16 (.b .lss 15 14)]) (.seq (.cond (.tmp 16) .skip (.exit 0)) (.seq (.block 1 [0,1,5,6,14,15] (.seq (.region [.m 17 5, .m 18 0, .o 19 (.nilck (.tmp 18)), .o 20 (.f 1 19), .o 21 (.l 20), .m 22 1, .m 23 0, .o 24 (.nilck (.tmp 23)), .o 25 (.f 1 24), .o 26 (.l 25), .o 27 (.b .rem 22 26), .o 28 (.b .sub 21 27), .m 29 0, .o 30 (.nilck (.tmp 29)), .o 31 (.f 1 30), .o 32 (.l 31), .o 33 (.b .rem 28 32), .m 34 6, .o 35 (.b .mul 33 34), .o 36 (.b .add 17 35), .m 5 36]) (.region [.m 37 1, .m 38 0, .o 39 (.nilck (.tmp 38)), .o 40 (.f 1 39), .o 41 (.l 40), .o 42 (.b .quo 37 41), .m 43 6, .m 44 0, .o 45 (.nilck (.tmp 44)), .o 46 (.f 1 45), .o 47 (.l 46), .o 48 (.b .mul 43 47), .m 1 42, .m 6 48]))) (.region [.o 49 (.c .add 15 1), .m 15 49]))))
def c185:ACode:=(.seq (.region [.k 4 0]) (.seq (.seq (.region [.m 7 0, .m 8 1, .o 9 (.q 115 [7,8]), .o 10 (.un .not (.tmp 9))]) (.cond (.tmp 10) (.seq (.region [.k 4 (-1)]) .ret) .skip)) (.seq (.region [.k 5 0, .k 6 1]) (.seq (.seq (.region [.m 11 0, .o 12 (.nilck (.tmp 11)), .o 13 (.f 2 12), .o 14 (.l 13), .k 15 0]) (.block 0 [5] (.loop [0,1,5,6,14,15] c185L0))) (.seq (.region [.m 50 5, .m 4 50]) .ret)))))
def F185:AFun:=⟨c185,2,51,[(.tmp 4)]⟩
def K185:Nat→List Nat×List Nat
 |0=>([0,1,5,6,14,15],[5])
 |1=>([],[0,1,5,6,14,15])
 |_=>([],[])
theorem F185_ok:kj8 Try.prog K185 Try.f185=some F185:=by kernel_rfl
end Go.Proofs.Ytmhbpecdpiapgaa
