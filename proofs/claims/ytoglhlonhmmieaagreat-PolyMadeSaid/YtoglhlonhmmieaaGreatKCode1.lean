/-
  Functions of this seat as the small machine's code, written by a program of my own (gen.py); each is checked to be what the model's function is turned into. No condition.
-/
import Derived.Test.YtoglhlonhmmieaaGreatK2
import Derived.Test.YtoglhlonhmmieaaGreatProg
set_option linter.unusedVariables false
set_option linter.unusedSimpArgs false
set_option linter.unusedSectionVars false
set_option maxRecDepth 100000
namespace Go.Proofs.YtoglhlonhmmieaaGreat
open Go.Am
/- 40: syndrome/poly.times -/
def c40L0:ACode:=(.seq (.region [.o 37 (.b .lss 36 35)]) (.seq (.cond (.tmp 37) .skip (.exit 2)) (.seq (.block 3 [0,2,7,8,9,27,28,29,34,35,36] (.seq (.region [.m 38 36, .o 39 (.i 1 34 36), .o 40 (.l 39), .m 10 38, .m 11 40]) (.region [.m 41 7, .m 42 8, .m 43 10, .o 44 (.b .add 42 43), .m 45 0, .m 46 7, .m 47 8, .m 48 10, .o 49 (.b .add 47 48), .o 50 (.i 1 46 49), .o 51 (.l 50), .m 52 0, .m 53 9, .m 54 11,⟨(some 55),(.call 64 [(.tmp 52),(.tmp 53),(.tmp 54)]),none,true⟩, .o 56 (.q 38 [45,51,55]), .o 57 (.i 1 41 44), .n (.st 1 (.tmp 57) (.tmp 56))]))) (.region [.o 58 (.c .add 36 1), .m 36 58]))))
def c40L1:ACode:=(.seq (.region [.o 30 (.b .lss 29 28)]) (.seq (.cond (.tmp 30) .skip (.exit 0)) (.seq (.block 1 [0,2,7,27,28,29] (.seq (.region [.m 31 29, .o 32 (.i 1 27 29), .o 33 (.l 32), .m 8 31, .m 9 33]) (.seq (.region [.m 34 2, .o 35 (.n 34), .k 36 0]) (.block 2 [0,2,7,27,28,29] (.loop [0,2,7,8,9,27,28,29,34,35,36] c40L0))))) (.region [.o 59 (.c .add 29 1), .m 29 59]))))
def c40:ACode:=(.seq (.region [.o 6 (.mv (.const (.slice none 0 0)))]) (.seq (.seq (.region [.m 12 1, .o 13 (.n 12), .o 14 (.c .eql 13 0), .m 15 14, .g 16 (.m 2) 15 false, .g 17 (.n 16) 15 false, .g 18 (.c .eql 17 0) 15 false, .o 19 (.pick (.tmp 15) (.const (.bool true)) (.tmp 18))]) (.cond (.tmp 19) (.seq (.region [.o 6 (.mv (.const (.slice none 0 0)))]) .ret) .skip)) (.seq (.region [.m 20 1, .o 21 (.n 20), .m 22 2, .o 23 (.n 22), .o 24 (.b .add 21 23), .o 25 (.c .sub 24 1), .o 26 (.mks 3 1 8 [(.int .i64 0)] (.tmp 25) (.tmp 25)), .m 7 26]) (.seq (.seq (.region [.m 27 1, .o 28 (.n 27), .k 29 0]) (.block 0 [7] (.loop [0,2,7,27,28,29] c40L1))) (.seq (.region [.m 60 7, .o 61 (.q 39 [60]), .m 6 61]) .ret)))))
def F40:AFun:=⟨c40,3,62,[(.tmp 6)]⟩
def K40:Nat→List Nat×List Nat
 |0=>([0,2,7,27,28,29],[7])
 |1=>([],[0,2,7,27,28,29])
 |2=>([0,2,7,8,9,27,28,29,34,35,36],[0,2,7,27,28,29])
 |3=>([],[0,2,7,8,9,27,28,29,34,35,36])
 |_=>([],[])
theorem F40_ok:kj8 Tryz.prog K40 noRg Tryz.f40=some F40:=by kernel_rfl
/- 41: syndrome/poly.divide -/
def c41L0:ACode:=(.seq (.region [.o 60 (.b .lss 59 58)]) (.seq (.cond (.tmp 60) .skip (.exit 2)) (.seq (.block 3 [0,2,6,7,8,9,10,57,58,59] (.seq (.region [.m 61 59, .o 62 (.i 1 57 59), .o 63 (.l 62), .m 11 61, .m 12 63]) (.region [.m 64 7, .m 65 9, .m 66 11, .o 67 (.b .add 65 66), .m 68 0, .m 69 7, .m 70 9, .m 71 11, .o 72 (.b .add 70 71), .o 73 (.i 1 69 72), .o 74 (.l 73), .m 75 0, .m 76 10, .m 77 12,⟨(some 78),(.call 64 [(.tmp 75),(.tmp 76),(.tmp 77)]),none,true⟩, .o 79 (.q 66 [68,74,78]), .o 80 (.i 1 64 67), .n (.st 1 (.tmp 80) (.tmp 79))]))) (.region [.o 81 (.c .add 59 1), .m 59 81]))))
def c41L1:ACode:=(.seq (.seq (.region [.m 38 9, .o 39 (.c .geq 38 0)]) (.cond (.tmp 39) .skip (.exit 0))) (.seq (.block 1 [0,2,6,7,8,9] (.seq (.region [.m 42 0, .m 43 7, .m 44 9, .m 45 2, .o 46 (.n 45), .o 47 (.b .add 44 46), .o 48 (.c .sub 47 1), .o 49 (.i 1 43 48), .o 50 (.l 49), .m 51 8, .o 52 (.q 64 [42,50,51]), .m 10 52]) (.seq (.region [.m 53 6, .m 54 9, .m 55 10, .o 56 (.i 1 53 54), .n (.st 1 (.tmp 56) (.tmp 55))]) (.seq (.region [.m 57 2, .o 58 (.n 57), .k 59 0]) (.block 2 [0,2,6,7,8,9] (.loop [0,2,6,7,8,9,10,57,58,59] c41L0)))))) (.region [.m 40 9, .o 41 (.c .sub 40 1), .m 9 41])))
def c41:ACode:=(.seq (.region [.o 6 (.mv (.const (.slice none 0 0))), .o 7 (.mv (.const (.slice none 0 0)))]) (.seq (.region [.m 13 1, .o 14 (.q 63 [13]), .m 7 14]) (.seq (.seq (.region [.m 15 1, .o 16 (.n 15), .m 17 2, .o 18 (.n 17), .o 19 (.b .geq 16 18)]) (.cond (.tmp 19) (.region [.m 20 1, .o 21 (.n 20), .m 22 2, .o 23 (.n 22), .o 24 (.b .sub 21 23), .o 25 (.c .add 24 1), .o 26 (.mks 3 1 8 [(.int .i64 0)] (.tmp 25) (.tmp 25)), .m 6 26]) .skip)) (.seq (.region [.m 27 0, .m 28 2, .m 29 2, .o 30 (.n 29), .o 31 (.c .sub 30 1), .o 32 (.i 1 28 31), .o 33 (.l 32), .o 34 (.q 65 [27,33]), .m 8 34]) (.seq (.seq (.region [.m 35 6, .o 36 (.n 35), .o 37 (.c .sub 36 1), .m 9 37]) (.block 0 [6,7] (.loop [0,2,6,7,8,9] c41L1))) (.seq (.region [.m 82 6, .m 83 7, .o 84 (.q 39 [83]), .m 6 82, .m 7 84]) .ret))))))
def F41:AFun:=⟨c41,3,85,[(.tmp 6),(.tmp 7)]⟩
def K41:Nat→List Nat×List Nat
 |0=>([0,2,6,7,8,9],[6,7])
 |1=>([],[0,2,6,7,8,9])
 |2=>([0,2,6,7,8,9,10,57,58,59],[0,2,6,7,8,9])
 |3=>([],[0,2,6,7,8,9,10,57,58,59])
 |_=>([],[])
theorem F41_ok:kj8 Tryz.prog K41 noRg Tryz.f41=some F41:=by kernel_rfl
/- 42: syndrome/poly.monic -/
def c42L0:ACode:=(.seq (.region [.o 21 (.b .lss 20 19)]) (.seq (.cond (.tmp 21) .skip (.exit 0)) (.seq (.block 1 [0,1,5,19,20] (.seq (.region [.m 22 20, .m 6 22]) (.region [.m 23 1, .m 24 6, .m 25 0, .m 26 1, .m 27 6, .o 28 (.i 1 26 27), .o 29 (.l 28), .m 30 5, .o 31 (.q 64 [25,29,30]), .o 32 (.i 1 23 24), .n (.st 1 (.tmp 32) (.tmp 31))]))) (.region [.o 33 (.c .add 20 1), .m 20 33]))))
def c42:ACode:=(.seq (.region [.o 4 (.mv (.const (.slice none 0 0)))]) (.seq (.seq (.region [.m 7 1, .o 8 (.n 7), .o 9 (.c .eql 8 0)]) (.cond (.tmp 9) (.seq (.region [.o 4 (.mv (.const (.slice none 0 0)))]) .ret) .skip)) (.seq (.region [.m 10 0, .m 11 1, .m 12 1, .o 13 (.n 12), .o 14 (.c .sub 13 1), .o 15 (.i 1 11 14), .o 16 (.l 15), .o 17 (.q 65 [10,16]), .m 5 17]) (.seq (.seq (.region [.m 18 1, .o 19 (.n 18), .k 20 0]) (.block 0 [1] (.loop [0,1,5,19,20] c42L0))) (.seq (.region [.m 34 1, .m 4 34]) .ret)))))
def F42:AFun:=⟨c42,2,35,[(.tmp 4)]⟩
def K42:Nat→List Nat×List Nat
 |0=>([0,1,5,19,20],[1])
 |1=>([],[0,1,5,19,20])
 |_=>([],[])
theorem F42_ok:kj8 Tryz.prog K42 noRg Tryz.f42=some F42:=by kernel_rfl
/- 43: syndrome/syndromeref.Same -/
def c43L0:ACode:=(.seq (.seq (.region [.m 11 5, .m 12 0, .o 13 (.n 12), .o 14 (.b .lss 11 13)]) (.cond (.tmp 14) .skip (.exit 0))) (.seq (.block 1 [0,1,5] (.seq (.region [.m 17 0, .m 18 5, .o 19 (.i 1 17 18), .o 20 (.l 19), .m 21 1, .m 22 5, .o 23 (.i 1 21 22), .o 24 (.l 23), .o 25 (.b .neq 20 24)]) (.cond (.tmp 25) (.seq (.region [.o 4 (.mv (.const (.bool false)))]) .ret) .skip))) (.region [.m 15 5, .o 16 (.c .add 15 1), .m 5 16])))
def c43:ACode:=(.seq (.region [.o 4 (.mv (.const (.bool false)))]) (.seq (.seq (.region [.m 6 0, .o 7 (.n 6), .m 8 1, .o 9 (.n 8), .o 10 (.b .neq 7 9)]) (.cond (.tmp 10) (.seq (.region [.o 4 (.mv (.const (.bool false)))]) .ret) .skip)) (.seq (.seq (.region [.k 5 0]) (.block 0 [] (.loop [0,1,5] c43L0))) (.seq (.region [.o 4 (.mv (.const (.bool true)))]) .ret))))
def F43:AFun:=⟨c43,2,26,[(.tmp 4)]⟩
def K43:Nat→List Nat×List Nat
 |0=>([0,1,5],[])
 |1=>([],[0,1,5])
 |_=>([],[])
theorem F43_ok:kj8 Tryz.prog K43 noRg Tryz.f43=some F43:=by kernel_rfl
/- 44: syndrome/syndromeref.PAt -/
def c44:ACode:=(.seq (.region [.o 3 (.box 26 5 (.tmp 0)), .k 6 0]) (.seq (.region [.o 7 (.ld true 5 (.tmp 3)), .m 8 1, .m 9 2, .o 10 (.q 67 [7,8,9]), .m 6 10]) .ret))
def F44:AFun:=⟨c44,3,11,[(.tmp 6)]⟩
def K44:Nat→List Nat×List Nat
 |_=>([],[])
theorem F44_ok:kj8 Tryz.prog K44 noRg Tryz.f44=some F44:=by kernel_rfl
/- 45: syndrome/poly.At -/
def c45L0:ACode:=(.seq (.seq (.region [.m 29 12, .o 30 (.c .geq 29 0)]) (.cond (.tmp 30) .skip (.exit 0))) (.seq (.block 1 [1,2,8,11,12] (.region [.m 33 8, .m 34 8, .m 35 11, .m 36 2,⟨(some 37),(.call 64 [(.tmp 34),(.tmp 35),(.tmp 36)]),none,true⟩, .m 38 1, .m 39 12, .o 40 (.i 1 38 39),⟨(some 41),(.ld false 1 (.tmp 40)),none,true⟩, .o 42 (.q 38 [33,37,41]), .m 11 42])) (.region [.m 31 12, .o 32 (.c .sub 31 1), .m 12 32])))
def c45:ACode:=(.seq (.region [.k 6 0, .k 7 0]) (.seq (.region [.m 14 0, .m 15 1, .m 16 2, .o 17 (.mkSl 3 1 1 [(.tmp 16)]), .o 18 (.q 37 [14,15,17]), .m 13 18, .o 19 (.e 0 13), .o 20 (.e 1 13), .o 21 (.e 2 13), .o 22 (.e 3 13), .m 8 19, .m 1 20, .m 9 21, .m 10 22]) (.seq (.seq (.region [.m 23 10, .o 24 (.c .neq 23 0)]) (.cond (.tmp 24) (.seq (.region [.m 25 10, .k 6 0, .m 7 25]) .ret) .skip)) (.seq (.region [.k 11 0]) (.seq (.seq (.region [.m 26 1, .o 27 (.n 26), .o 28 (.c .sub 27 1), .m 12 28]) (.block 0 [11] (.loop [1,2,8,11,12] c45L0))) (.seq (.region [.m 43 11, .m 6 43, .k 7 0]) .ret))))))
def F45:AFun:=⟨c45,3,44,[(.tmp 6),(.tmp 7)]⟩
def K45:Nat→List Nat×List Nat
 |0=>([1,2,8,11,12],[11])
 |1=>([],[1,2,8,11,12])
 |_=>([],[])
theorem F45_ok:kj8 Tryz.prog K45 noRg Tryz.f45=some F45:=by kernel_rfl
/- 46: syndrome/syndromelaw.num -/
def c46:ACode:=(.seq (.region [.o 8 (.mv (.const (.bool false)))]) (.seq (.seq (.region [.m 9 3, .o 10 (.c .neq 9 0)]) (.cond (.tmp 10) (.seq (.region [.m 11 1, .m 12 3, .o 13 (.b .eql 11 12), .m 14 13, .g 15 (.m 0) 14 true, .g 16 (.c .eql 15 0) 14 true, .o 17 (.pick (.tmp 14) (.tmp 16) (.const (.bool false))), .m 8 17]) .ret) .skip)) (.seq (.region [.m 18 1, .o 19 (.c .eql 18 0), .m 20 19, .g 21 (.m 0) 20 true, .g 22 (.m 2) 20 true, .g 23 (.b .eql 21 22) 20 true, .o 24 (.pick (.tmp 20) (.tmp 23) (.const (.bool false))), .m 8 24]) .ret)))
def F46:AFun:=⟨c46,4,25,[(.tmp 8)]⟩
def K46:Nat→List Nat×List Nat
 |_=>([],[])
theorem F46_ok:kj8 Tryz.prog K46 noRg Tryz.f46=some F46:=by kernel_rfl
/- 47: syndrome/syndromeref.Tries -/
def c47L0:ACode:=(.seq (.seq (.region [.m 7 6, .m 8 1, .o 9 (.c .quo 8 2), .o 10 (.b .lss 7 9)]) (.cond (.tmp 10) .skip (.exit 0))) (.seq (.block 1 [0,1,5,6] (.seq (.region [.m 13 5, .m 14 0, .o 15 (.b .mul 13 14), .m 5 15]) (.seq (.region [.m 16 5, .o 17 (.c .gtr 16 4096)]) (.cond (.tmp 17) (.seq (.region [.o 4 (.mv (.const (.bool false)))]) .ret) .skip)))) (.region [.m 11 6, .o 12 (.c .add 11 1), .m 6 12])))
def c47:ACode:=(.seq (.region [.o 4 (.mv (.const (.bool false)))]) (.seq (.region [.k 5 1]) (.seq (.seq (.region [.k 6 0]) (.block 0 [] (.loop [0,1,5,6] c47L0))) (.seq (.region [.o 4 (.mv (.const (.bool true)))]) .ret))))
def F47:AFun:=⟨c47,2,18,[(.tmp 4)]⟩
def K47:Nat→List Nat×List Nat
 |0=>([0,1,5,6],[])
 |1=>([],[0,1,5,6])
 |_=>([],[])
theorem F47_ok:kj8 Tryz.prog K47 noRg Tryz.f47=some F47:=by kernel_rfl
/- 48: syndrome/syndromeref.Factors -/
def c48L0:ACode:=(.seq (.seq (.region [.m 32 8]) (.cond (.tmp 32) .skip (.exit 2))) (.block 3 [1,2,5,6,7,8] (.seq (.region [.m 33 7, .o 34 (.q 34 [33]), .o 35 (.mkSl 3 1 1 [(.const (.int .i64 1))]), .o 36 (.app 3 1 8 (.tmp 34) (.tmp 35)), .m 9 36]) (.seq (.region [.o 38 (.ld true 5 (.tmp 2)), .m 39 1, .m 40 9, .o 41 (.q 12 [38,39,40]), .m 37 41, .o 42 (.e 0 37), .o 43 (.e 1 37), .m 10 42, .m 11 43]) (.seq (.seq (.region [.m 44 11, .o 45 (.n 44), .o 46 (.c .eql 45 0), .m 47 46, .g 48 (.m 1) 47 true, .g 49 (.n 48) 47 true, .g 50 (.m 6) 47 true, .g 51 (.b .gtr 49 50) 47 true, .o 52 (.pick (.tmp 47) (.tmp 51) (.const (.bool false)))]) (.cond (.tmp 52) (.seq (.region [.m 53 5, .m 54 9, .o 55 (.mkSl 22 1 1 [(.tmp 54)]), .o 56 (.app 22 1 24 (.tmp 53) (.tmp 55)), .m 5 56]) (.seq (.region [.m 57 10, .m 1 57]) (.exit 3))) .skip)) (.region [.m 58 7, .o 59 (.f 0 2), .o 60 (.l 59), .o 61 (.q 68 [58,60]), .m 8 61]))))))
def c48L1:ACode:=(.seq (.seq (.region [.m 18 6, .m 19 1, .o 20 (.n 19), .o 21 (.b .lss 18 20)]) (.cond (.tmp 21) .skip (.exit 0))) (.seq (.block 1 [1,2,5,6] (.seq (.seq (.region [.m 24 6, .o 25 (.bin .mul (.const (.int .i64 2)) (.tmp 24)), .m 26 1, .o 27 (.n 26), .o 28 (.c .sub 27 1), .o 29 (.b .gtr 25 28)]) (.cond (.tmp 29) (.exit 0) .skip)) (.seq (.region [.m 30 6, .o 31 (.mks 3 1 8 [(.int .i64 0)] (.tmp 30) (.tmp 30)), .m 7 31]) (.seq (.region [.o 8 (.mv (.const (.bool true)))]) (.block 2 [1,2,5,6] (.loop [1,2,5,6,7,8] c48L0)))))) (.region [.m 22 6, .o 23 (.c .add 22 1), .m 6 23])))
def c48L2:ACode:=(.seq (.seq (.region [.m 76 13, .o 77 (.c .gtr 76 0), .m 78 77, .g 79 (.m 5) 78 true, .g 80 (.m 13) 78 true, .g 81 (.i 1 79 80) 78 true, .g 82 (.l 81) 78 true, .g 83 (.n 82) 78 true, .g 84 (.m 5) 78 true, .g 85 (.m 13) 78 true, .g 86 (.c .sub 85 1) 78 true, .g 87 (.i 1 84 86) 78 true, .g 88 (.l 87) 78 true, .g 89 (.n 88) 78 true, .g 90 (.b .lss 83 89) 78 true, .g 91 (.m 90) 78 true, .g 92 (.m 5) 91 false, .g 93 (.m 13) 91 false, .g 94 (.i 1 92 93) 91 false, .g 95 (.l 94) 91 false, .g 96 (.n 95) 91 false, .g 97 (.m 5) 91 false, .g 98 (.m 13) 91 false, .g 99 (.c .sub 98 1) 91 false, .g 100 (.i 1 97 99) 91 false, .g 101 (.l 100) 91 false, .g 102 (.n 101) 91 false, .g 103 (.b .eql 96 102) 91 false, .g 104 (.m 103) 91 false, .g 105 (.m 5) 104 true, .g 106 (.m 13) 104 true, .g 107 (.i 1 105 106) 104 true, .g 108 (.l 107) 104 true, .g 109 (.m 5) 104 true, .g 110 (.m 13) 104 true, .g 111 (.c .sub 110 1) 104 true, .g 112 (.i 1 109 111) 104 true, .g 113 (.l 112) 104 true, .g 114 (.q 69 [108,113]) 104 true, .g 115 (.pick (.tmp 104) (.tmp 114) (.const (.bool false))) 91 false, .g 116 (.pick (.tmp 91) (.const (.bool true)) (.tmp 115)) 78 true, .o 117 (.pick (.tmp 78) (.tmp 116) (.const (.bool false)))]) (.cond (.tmp 117) .skip (.exit 6))) (.seq (.block 7 [5,12,13] (.seq (.region [.m 120 5, .m 121 13, .o 122 (.i 1 120 121), .o 123 (.l 122), .m 14 123]) (.seq (.region [.m 124 5, .m 125 13, .m 126 5, .m 127 13, .o 128 (.c .sub 127 1), .o 129 (.i 1 126 128), .o 130 (.l 129), .o 131 (.i 1 124 125), .n (.st 1 (.tmp 131) (.tmp 130))]) (.region [.m 132 5, .m 133 13, .o 134 (.c .sub 133 1), .m 135 14, .o 136 (.i 1 132 134), .n (.st 1 (.tmp 136) (.tmp 135))])))) (.region [.m 118 13, .o 119 (.c .sub 118 1), .m 13 119])))
def c48L3:ACode:=(.seq (.seq (.region [.m 69 12, .m 70 5, .o 71 (.n 70), .o 72 (.b .lss 69 71)]) (.cond (.tmp 72) .skip (.exit 4))) (.seq (.block 5 [5,12] (.seq (.region [.m 75 12, .m 13 75]) (.block 6 [5,12] (.loop [5,12,13] c48L2)))) (.region [.m 73 12, .o 74 (.c .add 73 1), .m 12 74])))
def c48:ACode:=(.seq (.region [.o 2 (.box 26 5 (.tmp 0)), .o 4 (.mv (.const (.slice none 0 0)))]) (.seq (.region [.o 15 (.ld true 5 (.tmp 2)), .m 16 1, .o 17 (.q 33 [15,16]), .m 1 17]) (.seq (.region [.o 5 (.mv (.const (.slice none 0 0)))]) (.seq (.seq (.region [.k 6 1]) (.block 0 [1,5] (.loop [1,2,5,6] c48L1))) (.seq (.seq (.region [.m 62 1, .o 63 (.n 62), .o 64 (.c .gtr 63 1)]) (.cond (.tmp 64) (.region [.m 65 5, .m 66 1, .o 67 (.mkSl 22 1 1 [(.tmp 66)]), .o 68 (.app 22 1 24 (.tmp 65) (.tmp 67)), .m 5 68]) .skip)) (.seq (.seq (.region [.k 12 0]) (.block 4 [5] (.loop [5,12] c48L3))) (.seq (.region [.m 137 5, .m 4 137]) .ret)))))))
def F48:AFun:=⟨c48,2,138,[(.tmp 4)]⟩
def K48:Nat→List Nat×List Nat
 |0=>([1,2,5,6],[1,5])
 |1=>([],[1,2,5,6])
 |2=>([1,2,5,6,7,8],[1,2,5,6])
 |3=>([],[1,2,5,6,7,8])
 |4=>([5,12],[5])
 |5=>([],[5,12])
 |6=>([5,12,13],[5,12])
 |7=>([],[5,12,13])
 |_=>([],[])
theorem F48_ok:kj8 Tryz.prog K48 noRg Tryz.f48=some F48:=by kernel_rfl
/- 49: syndrome/poly.Roots -/
def c49L0:ACode:=(.seq (.region [.o 30 (.b .lss 29 28)]) (.seq (.cond (.tmp 30) .skip (.exit 0)) (.seq (.block 1 [0,1,9,28,29] (.seq (.region [.m 31 29, .m 10 31]) (.seq (.region [.m 33 0, .m 34 1, .m 35 10, .o 36 (.q 45 [33,34,35]), .m 32 36, .o 37 (.e 0 32), .o 38 (.e 1 32), .m 11 37, .m 12 38]) (.seq (.region [.m 39 11, .o 40 (.c .eql 39 0)]) (.cond (.tmp 40) (.region [.m 41 9, .m 42 10, .o 43 (.mkSl 3 1 1 [(.tmp 42)]), .o 44 (.app 3 1 8 (.tmp 41) (.tmp 43)), .m 9 44]) .skip))))) (.region [.o 45 (.c .add 29 1), .m 29 45]))))
def c49:ACode:=(.seq (.region [.o 4 (.mv (.const (.slice none 0 0))), .k 5 0]) (.seq (.region [.m 14 0, .m 15 1, .o 16 (.call 37 [(.tmp 14),(.tmp 15),(.const (.slice none 0 0))]), .m 13 16, .o 17 (.e 0 13), .o 18 (.e 1 13), .o 19 (.e 2 13), .o 20 (.e 3 13), .m 6 17, .m 1 18, .m 7 19, .m 8 20]) (.seq (.seq (.region [.m 21 8, .o 22 (.c .neq 21 0)]) (.cond (.tmp 22) (.seq (.region [.m 23 8, .o 4 (.mv (.const (.slice none 0 0))), .m 5 23]) .ret) .skip)) (.seq (.seq (.region [.m 24 1, .o 25 (.n 24), .o 26 (.c .eql 25 0)]) (.cond (.tmp 26) (.seq (.region [.o 4 (.mv (.const (.slice none 0 0))), .k 5 5]) .ret) .skip)) (.seq (.region [.o 9 (.mv (.const (.slice none 0 0)))]) (.seq (.seq (.region [.m 27 6, .o 28 (.q 70 [27]), .k 29 0]) (.block 0 [9] (.loop [0,1,9,28,29] c49L0))) (.seq (.region [.m 46 9, .m 4 46, .k 5 0]) .ret)))))))
def F49:AFun:=⟨c49,2,47,[(.tmp 4),(.tmp 5)]⟩
def K49:Nat→List Nat×List Nat
 |0=>([0,1,9,28,29],[9])
 |1=>([],[0,1,9,28,29])
 |_=>([],[])
theorem F49_ok:kj8 Tryz.prog K49 noRg Tryz.f49=some F49:=by kernel_rfl
/- 50: syndrome/poly.Factors -/
def c50L0:ACode:=(.block 2000 [0,1,6,9,10,11,12] (.seq (.seq (.region [.m 59 10, .o 60 (.bin .mul (.const (.int .i64 2)) (.tmp 59)), .m 61 1, .o 62 (.n 61), .o 63 (.c .sub 62 1), .o 64 (.b .leq 60 63)]) (.cond (.tmp 64) (.seq (.region [.m 66 6, .m 67 1, .m 68 12, .o 69 (.q 41 [66,67,68]), .m 65 69, .o 70 (.e 0 65), .o 71 (.e 1 65), .m 13 70, .m 14 71]) (.seq (.region [.m 72 14, .o 73 (.n 72), .o 74 (.c .eql 73 0)]) (.cond (.tmp 74) (.seq (.region [.m 75 9, .m 76 12, .o 77 (.mkSl 22 1 1 [(.tmp 76)]), .o 78 (.app 22 1 24 (.tmp 75) (.tmp 77)), .m 9 78]) (.seq (.region [.m 79 13, .m 1 79]) (.exit 2000))) .skip))) .skip)) (.exit 2001)))
def c50L1:ACode:=(.seq (.seq (.region [.m 50 11, .o 51 (.eqn true 0 (.tmp 50))]) (.cond (.tmp 51) .skip (.exit 2))) (.seq (.block 3 [0,1,6,9,10,11] (.seq (.region [.m 55 11, .o 56 (.q 63 [55]), .o 57 (.mkSl 3 1 1 [(.const (.int .i64 1))]), .o 58 (.app 3 1 8 (.tmp 56) (.tmp 57)), .m 12 58]) (.block 2001 [0,1,6,9,10,11] (.loop [0,1,6,9,10,11,12] c50L0)))) (.region [.m 52 0, .m 53 11, .o 54 (.q 73 [52,53]), .m 11 54])))
def c50L2:ACode:=(.seq (.seq (.region [.m 39 10, .o 40 (.bin .mul (.const (.int .i64 2)) (.tmp 39)), .m 41 1, .o 42 (.n 41), .o 43 (.c .sub 42 1), .o 44 (.b .leq 40 43)]) (.cond (.tmp 44) .skip (.exit 0))) (.seq (.block 1 [0,1,6,9,10] (.seq (.region [.o 47 (.mkSl 3 1 1 [(.const (.int .i64 0))]), .m 48 10, .o 49 (.q 72 [47,48]), .m 11 49]) (.block 2 [0,1,6,9,10] (.loop [0,1,6,9,10,11] c50L1)))) (.region [.m 45 10, .o 46 (.c .add 45 1), .m 10 46])))
def c50L3:ACode:=(.seq (.region [.o 92 (.b .lss 91 90)]) (.seq (.cond (.tmp 92) .skip (.exit 4)) (.seq (.block 5 [9,90,91] (.seq (.region [.m 93 91, .m 15 93]) (.region [.m 94 9, .m 95 15, .m 96 9, .m 97 15, .o 98 (.i 1 96 97), .o 99 (.l 98), .o 100 (.q 63 [99]), .o 101 (.i 1 94 95), .n (.st 1 (.tmp 101) (.tmp 100))]))) (.region [.o 102 (.c .add 91 1), .m 91 102]))))
def c50:ACode:=(.seq (.region [.o 4 (.mv (.const (.slice none 0 0))), .k 5 0]) (.seq (.region [.m 17 0, .m 18 1, .o 19 (.call 37 [(.tmp 17),(.tmp 18),(.const (.slice none 0 0))]), .m 16 19, .o 20 (.e 0 16), .o 21 (.e 1 16), .o 22 (.e 2 16), .o 23 (.e 3 16), .m 6 20, .m 1 21, .m 7 22, .m 8 23]) (.seq (.seq (.region [.m 24 8, .o 25 (.c .neq 24 0)]) (.cond (.tmp 25) (.seq (.region [.m 26 8, .o 4 (.mv (.const (.slice none 0 0))), .m 5 26]) .ret) .skip)) (.seq (.seq (.region [.m 27 1, .o 28 (.n 27), .o 29 (.c .eql 28 0)]) (.cond (.tmp 29) (.seq (.region [.o 4 (.mv (.const (.slice none 0 0))), .k 5 5]) .ret) .skip)) (.seq (.seq (.region [.m 30 0, .m 31 1, .o 32 (.n 31), .o 33 (.c .sub 32 1), .o 34 (.q 71 [30,33]), .o 35 (.un .not (.tmp 34))]) (.cond (.tmp 35) (.seq (.region [.o 4 (.mv (.const (.slice none 0 0))), .k 5 4]) .ret) .skip)) (.seq (.region [.m 36 6, .m 37 1, .o 38 (.q 42 [36,37]), .m 1 38]) (.seq (.region [.o 9 (.mv (.const (.slice none 0 0)))]) (.seq (.seq (.region [.k 10 1]) (.block 0 [1,9] (.loop [0,1,6,9,10] c50L2))) (.seq (.seq (.region [.m 80 1, .o 81 (.n 80), .o 82 (.c .gtr 81 1)]) (.cond (.tmp 82) (.region [.m 83 9, .m 84 1, .o 85 (.mkSl 22 1 1 [(.tmp 84)]), .o 86 (.app 22 1 24 (.tmp 83) (.tmp 85)), .m 9 86]) .skip)) (.seq (.region [.m 87 9, .o 88 (.call 74 [(.tmp 87),(.func 75)])]) (.seq (.seq (.region [.m 89 9, .o 90 (.n 89), .k 91 0]) (.block 4 [9] (.loop [9,90,91] c50L3))) (.seq (.region [.m 103 9, .m 4 103, .k 5 0]) .ret))))))))))))
def F50:AFun:=⟨c50,2,104,[(.tmp 4),(.tmp 5)]⟩
def K50:Nat→List Nat×List Nat
 |0=>([0,1,6,9,10],[1,9])
 |1=>([],[0,1,6,9,10])
 |2=>([0,1,6,9,10,11],[0,1,6,9,10])
 |3=>([],[0,1,6,9,10,11])
 |4=>([9,90,91],[9])
 |5=>([],[9,90,91])
 |2000=>([],[0,1,6,9,10,11,12])
 |2001=>([0,1,6,9,10,11,12],[0,1,6,9,10,11])
 |_=>([],[])
theorem F50_ok:kj8 Tryz.prog K50 noRg Tryz.f50=some F50:=by kernel_rfl
/- 51: syndrome/poly.Irreducible -/
def c51:ACode:=(.seq (.region [.o 4 (.mv (.const (.bool false))), .k 5 0]) (.seq (.region [.m 9 0, .m 10 1, .o 11 (.q 50 [9,10]), .m 8 11, .o 12 (.e 0 8), .o 13 (.e 1 8), .m 6 12, .m 7 13]) (.seq (.region [.m 14 6, .o 15 (.n 14), .o 16 (.c .eql 15 1), .m 17 7, .m 4 16, .m 5 17]) .ret)))
def F51:AFun:=⟨c51,2,18,[(.tmp 4),(.tmp 5)]⟩
def K51:Nat→List Nat×List Nat
 |_=>([],[])
theorem F51_ok:kj8 Tryz.prog K51 noRg Tryz.f51=some F51:=by kernel_rfl
/- 52: syndrome/syndromelaw.lists -/
def c52:ACode:=(.seq (.region [.o 8 (.mv (.const (.bool false)))]) (.seq (.seq (.region [.m 9 3, .o 10 (.c .neq 9 0)]) (.cond (.tmp 10) (.seq (.region [.m 11 1, .m 12 3, .o 13 (.b .eql 11 12), .m 14 13, .g 15 (.m 0) 14 true, .g 16 (.n 15) 14 true, .g 17 (.c .eql 16 0) 14 true, .o 18 (.pick (.tmp 14) (.tmp 17) (.const (.bool false))), .m 8 18]) .ret) .skip)) (.seq (.region [.m 19 1, .o 20 (.c .eql 19 0), .m 21 20, .g 22 (.m 0) 21 true, .g 23 (.m 2) 21 true, .g 24 (.q 77 [22,23]) 21 true, .o 25 (.pick (.tmp 21) (.tmp 24) (.const (.bool false))), .m 8 25]) .ret)))
def F52:AFun:=⟨c52,4,26,[(.tmp 8)]⟩
def K52:Nat→List Nat×List Nat
 |_=>([],[])
theorem F52_ok:kj8 Tryz.prog K52 noRg Tryz.f52=some F52:=by kernel_rfl
/- 53: syndrome/poly.Through -/
def c53L0:ACode:=(.seq (.region [.o 81 (.b .lss 80 79)]) (.seq (.cond (.tmp 81) .skip (.exit 2)) (.seq (.block 3 [0,1,2,8,12,13,14,15,20,21,41,42,43,79,80] (.seq (.region [.m 82 80, .m 22 82]) (.region [.m 83 21, .m 84 22, .m 85 8, .m 86 21, .m 87 22, .o 88 (.i 1 86 87), .o 89 (.l 88), .m 90 20, .o 91 (.q 64 [85,89,90]), .o 92 (.i 1 83 84), .n (.st 1 (.tmp 92) (.tmp 91))]))) (.region [.o 93 (.c .add 80 1), .m 80 93]))))
def c53L1:ACode:=(.seq (.region [.o 44 (.b .lss 43 42)]) (.seq (.cond (.tmp 44) .skip (.exit 0)) (.seq (.block 1 [0,1,2,8,12,13,41,42,43] (.seq (.region [.m 45 43, .o 46 (.i 1 41 43), .o 47 (.l 46), .m 14 45, .m 15 47]) (.seq (.region [.m 49 0, .m 50 13, .m 51 15, .o 52 (.q 45 [49,50,51]), .m 48 52, .o 53 (.e 0 48), .o 54 (.e 1 48), .m 16 53, .m 17 54]) (.seq (.seq (.region [.m 55 16, .o 56 (.c .eql 55 0)]) (.cond (.tmp 56) (.seq (.region [.o 6 (.mv (.const (.slice none 0 0))), .k 7 7]) .ret) .skip)) (.seq (.region [.m 58 0, .m 59 12, .m 60 15, .o 61 (.q 45 [58,59,60]), .m 57 61, .o 62 (.e 0 57), .o 63 (.e 1 57), .m 18 62, .m 19 63]) (.seq (.region [.m 64 8, .m 65 8, .m 66 2, .m 67 14, .o 68 (.i 1 66 67), .o 69 (.l 68), .m 70 18, .o 71 (.q 66 [65,69,70]), .m 72 8, .m 73 16, .o 74 (.q 65 [72,73]), .o 75 (.q 64 [64,71,74]), .m 20 75]) (.seq (.region [.m 76 13, .o 77 (.q 63 [76]), .m 21 77]) (.seq (.seq (.region [.m 78 21, .o 79 (.n 78), .k 80 0]) (.block 2 [0,1,2,8,12,13,14,15,21,41,42,43] (.loop [0,1,2,8,12,13,14,15,20,21,41,42,43,79,80] c53L0))) (.seq (.region [.m 95 0, .m 96 12, .m 97 21, .o 98 (.q 13 [95,96,97]), .m 94 98, .o 99 (.e 0 94), .o 100 (.e 1 94), .m 12 99]) (.seq (.region [.m 101 14, .o 102 (.c .add 101 1), .m 103 1, .o 104 (.n 103), .o 105 (.b .lss 102 104)]) (.cond (.tmp 105) (.region [.m 106 8, .m 107 13, .m 108 8, .m 109 15, .o 110 (.q 78 [108,109]), .o 111 (.mkSl 3 1 2 [(.tmp 110),(.const (.int .i64 1))]), .o 112 (.q 40 [106,107,111]), .m 13 112]) .skip))))))))))) (.region [.o 113 (.c .add 43 1), .m 43 113]))))
def c53:ACode:=(.seq (.region [.o 6 (.mv (.const (.slice none 0 0))), .k 7 0]) (.seq (.region [.m 24 0, .m 25 1, .m 26 2, .o 27 (.q 37 [24,25,26]), .m 23 27, .o 28 (.e 0 23), .o 29 (.e 1 23), .o 30 (.e 2 23), .o 31 (.e 3 23), .m 8 28, .m 9 29, .m 10 30, .m 11 31]) (.seq (.seq (.region [.m 32 11, .o 33 (.c .neq 32 0)]) (.cond (.tmp 33) (.seq (.region [.m 34 11, .o 6 (.mv (.const (.slice none 0 0))), .m 7 34]) .ret) .skip)) (.seq (.seq (.region [.m 35 1, .o 36 (.n 35), .m 37 2, .o 38 (.n 37), .o 39 (.b .neq 36 38)]) (.cond (.tmp 39) (.seq (.region [.o 6 (.mv (.const (.slice none 0 0))), .k 7 6]) .ret) .skip)) (.seq (.region [.o 12 (.mv (.const (.slice none 0 0)))]) (.seq (.region [.o 40 (.mkSl 3 1 1 [(.const (.int .i64 1))]), .m 13 40]) (.seq (.seq (.region [.m 41 1, .o 42 (.n 41), .k 43 0]) (.block 0 [12] (.loop [0,1,2,8,12,13,41,42,43] c53L1))) (.seq (.region [.m 114 12, .m 6 114, .k 7 0]) .ret))))))))
def F53:AFun:=⟨c53,3,115,[(.tmp 6),(.tmp 7)]⟩
def K53:Nat→List Nat×List Nat
 |0=>([0,1,2,8,12,13,41,42,43],[12])
 |1=>([],[0,1,2,8,12,13,41,42,43])
 |2=>([0,1,2,8,12,13,14,15,20,21,41,42,43,79,80],[0,1,2,8,12,13,14,15,21,41,42,43])
 |3=>([],[0,1,2,8,12,13,14,15,20,21,41,42,43,79,80])
 |_=>([],[])
theorem F53_ok:kj8 Tryz.prog K53 noRg Tryz.f53=some F53:=by kernel_rfl
/- 54: syndrome/syndromeref.In -/
def c54L0:ACode:=(.seq (.seq (.region [.m 6 5, .m 7 1, .o 8 (.n 7), .o 9 (.b .lss 6 8)]) (.cond (.tmp 9) .skip (.exit 0))) (.seq (.block 1 [0,1,5] (.seq (.region [.m 12 1, .m 13 5, .o 14 (.i 1 12 13), .o 15 (.l 14), .m 16 0, .o 17 (.b .eql 15 16)]) (.cond (.tmp 17) (.seq (.region [.o 4 (.mv (.const (.bool true)))]) .ret) .skip))) (.region [.m 10 5, .o 11 (.c .add 10 1), .m 5 11])))
def c54:ACode:=(.seq (.region [.o 4 (.mv (.const (.bool false)))]) (.seq (.seq (.region [.k 5 0]) (.block 0 [] (.loop [0,1,5] c54L0))) (.seq (.region [.o 4 (.mv (.const (.bool false)))]) .ret)))
def F54:AFun:=⟨c54,2,18,[(.tmp 4)]⟩
def K54:Nat→List Nat×List Nat
 |0=>([0,1,5],[])
 |1=>([],[0,1,5])
 |_=>([],[])
theorem F54_ok:kj8 Tryz.prog K54 noRg Tryz.f54=some F54:=by kernel_rfl
/- 55: (syndrome/syndromeref.F).Elements -/
def c55L0:ACode:=(.seq (.seq (.region [.m 6 5, .m 7 1, .o 8 (.n 7), .o 9 (.b .lss 6 8)]) (.cond (.tmp 9) .skip (.exit 0))) (.seq (.block 1 [1,2,5] (.seq (.region [.o 12 (.ld true 5 (.tmp 2)), .m 13 1, .m 14 5, .o 15 (.i 1 13 14), .o 16 (.l 15), .o 17 (.q 25 [12,16]), .o 18 (.un .not (.tmp 17))]) (.cond (.tmp 18) (.seq (.region [.o 4 (.mv (.const (.bool false)))]) .ret) .skip))) (.region [.m 10 5, .o 11 (.c .add 10 1), .m 5 11])))
def c55:ACode:=(.seq (.region [.o 2 (.box 26 5 (.tmp 0)), .o 4 (.mv (.const (.bool false)))]) (.seq (.seq (.region [.k 5 0]) (.block 0 [] (.loop [1,2,5] c55L0))) (.seq (.region [.o 4 (.mv (.const (.bool true)))]) .ret)))
def F55:AFun:=⟨c55,2,19,[(.tmp 4)]⟩
def K55:Nat→List Nat×List Nat
 |0=>([1,2,5],[])
 |1=>([],[1,2,5])
 |_=>([],[])
theorem F55_ok:kj8 Tryz.prog K55 noRg Tryz.f55=some F55:=by kernel_rfl
/- 56: syndrome/syndromeref.Sizes -/
def c56L0:ACode:=(.seq (.seq (.region [.m 5 2, .o 6 (.c .leq 5 64)]) (.cond (.tmp 6) .skip (.exit 0))) (.seq (.block 1 [1,2] (.seq (.region [.m 10 2, .o 11 (.q 28 [10]), .m 9 11, .o 12 (.e 0 9), .o 13 (.e 1 9), .m 3 12, .m 4 13]) (.seq (.region [.m 14 3, .o 15 (.c .gtr 14 0)]) (.cond (.tmp 15) (.region [.m 16 1, .m 17 2, .o 18 (.mkSl 3 1 1 [(.tmp 17)]), .o 19 (.app 3 1 8 (.tmp 16) (.tmp 18)), .m 1 19]) .skip)))) (.region [.m 7 2, .o 8 (.c .add 7 1), .m 2 8])))
def c56:ACode:=(.seq (.region [.o 0 (.mv (.const (.slice none 0 0)))]) (.seq (.region [.o 1 (.mv (.const (.slice none 0 0)))]) (.seq (.seq (.region [.k 2 2]) (.block 0 [1] (.loop [1,2] c56L0))) (.seq (.region [.m 20 1, .m 0 20]) .ret))))
def F56:AFun:=⟨c56,0,21,[(.tmp 0)]⟩
def K56:Nat→List Nat×List Nat
 |0=>([1,2],[1])
 |1=>([],[1,2])
 |_=>([],[])
theorem F56_ok:kj8 Tryz.prog K56 noRg Tryz.f56=some F56:=by kernel_rfl
/- 57: syndrome/syndromeref.Raw -/
def c57:ACode:=(.seq (.region [.k 4 0]) (.seq (.seq (.region [.m 5 0, .o 6 (.n 5), .o 7 (.c .eql 6 0)]) (.cond (.tmp 7) (.seq (.region [.m 8 1, .m 4 8]) .ret) .skip)) (.seq (.region [.m 9 0, .m 10 1, .m 11 0, .o 12 (.n 11), .o 13 (.b .rem 10 12), .o 14 (.i 1 9 13), .o 15 (.l 14), .m 16 1, .m 17 0, .o 18 (.n 17), .o 19 (.b .quo 16 18), .o 20 (.c .mul 19 7919), .o 21 (.b .add 15 20), .m 4 21]) .ret)))
def F57:AFun:=⟨c57,2,22,[(.tmp 4)]⟩
def K57:Nat→List Nat×List Nat
 |_=>([],[])
theorem F57_ok:kj8 Tryz.prog K57 noRg Tryz.f57=some F57:=by kernel_rfl
/- 59: syndrome/field.New$1 -/
def c59:ACode:=(.region [.o 2 (.l 0), .o 3 (.l 0),⟨(some 4),(.call 60 [(.tmp 3)]),none,true⟩, .o 5 (.f 195 1), .o 6 (.iaddrA 65 1 (.tmp 5) (.tmp 2)), .n (.st 1 (.tmp 6) (.tmp 4))])
def F59:AFun:=⟨c59,2,7,[]⟩
def K59:Nat→List Nat×List Nat
 |_=>([],[])
theorem F59_ok:kj8 Tryz.prog K59 noRg Tryz.f59=some F59:=by kernel_rfl
/- 60: syndrome/field.build -/
def c60L0:ACode:=(.seq (.seq (.region [.m 28 5, .o 29 (.q 82 [28]), .o 30 (.un .not (.tmp 29))]) (.cond (.tmp 30) .skip (.exit 0))) (.seq (.block 1 [5] .skip) (.region [.m 31 5, .o 32 (.nilck (.tmp 31)), .o 33 (.f 4 32), .o 34 (.l 33), .o 35 (.c .add 34 1), .o 36 (.nilck (.tmp 31)), .o 37 (.f 4 36), .n (.st 1 (.tmp 37) (.tmp 35))])))
def c60L1:ACode:=(.seq (.region [.o 45 (.b .lss 44 43)]) (.seq (.cond (.tmp 45) .skip (.exit 2)) (.seq (.block 3 [3,4,5,43,44] (.seq (.region [.m 46 44, .m 6 46]) (.seq (.region [.m 47 5, .m 48 6, .m 49 3, .m 50 4, .o 51 (.q 83 [48,49,50]), .o 52 (.mkSl 3 1 1 [(.const (.int .i64 1))]), .o 53 (.app 3 1 8 (.tmp 51) (.tmp 52)), .o 54 (.nilck (.tmp 47)), .o 55 (.f 3 54), .n (.st 1 (.tmp 55) (.tmp 53))]) (.seq (.region [.m 56 5, .o 57 (.q 82 [56])]) (.cond (.tmp 57) (.seq (.region [.m 58 5, .m 2 58]) .ret) .skip))))) (.region [.o 59 (.c .add 44 1), .m 44 59]))))
def c60:ACode:=(.seq (.region [.o 2 (.mv (.const (.pointer none)))]) (.seq (.region [.m 8 0, .o 9 (.q 81 [8]), .m 7 9, .o 10 (.e 0 7), .o 11 (.e 1 7), .m 3 10, .m 4 11]) (.seq (.seq (.region [.m 12 3, .o 13 (.c .eql 12 0)]) (.cond (.tmp 13) (.seq (.region [.o 2 (.mv (.const (.pointer none)))]) .ret) .skip)) (.seq (.region [.m 14 0, .m 15 3, .m 16 4, .o 17 (.build [(.int .i64 0),(.int .i64 0),(.int .i64 0),(.slice none 0 0),(.int .i64 0),(.slice none 0 0),(.slice none 0 0)] [(0,1),(1,1),(2,1),(3,1),(4,1),(5,1),(6,1)] [(0,(.tmp 14)),(1,(.tmp 15)),(2,(.tmp 16))]), .o 18 (.box 98 7 (.tmp 17)), .m 5 18]) (.seq (.seq (.region [.m 19 4, .o 20 (.c .eql 19 1)]) (.cond (.tmp 20) (.seq (.region [.m 21 5, .o 22 (.mkSl 3 1 2 [(.const (.int .i64 0)),(.const (.int .i64 1))]), .o 23 (.nilck (.tmp 21)), .o 24 (.f 3 23), .n (.st 1 (.tmp 24) (.tmp 22))]) (.seq (.seq (.region [.m 25 5, .o 26 (.nilck (.tmp 25)), .o 27 (.f 4 26), .n (.st 1 (.tmp 27) (.const (.int .i64 1)))]) (.block 0 [5] (.loop [5] c60L0))) (.seq (.region [.m 38 5, .m 2 38]) .ret))) .skip)) (.seq (.region [.m 39 5, .m 40 3, .o 41 (.nilck (.tmp 39)), .o 42 (.f 4 41), .n (.st 1 (.tmp 42) (.tmp 40))]) (.seq (.seq (.region [.m 43 0, .k 44 0]) (.block 2 [] (.loop [3,4,5,43,44] c60L1))) (.seq (.region [.o 2 (.mv (.const (.pointer none)))]) .ret))))))))
def F60:AFun:=⟨c60,1,60,[(.tmp 2)]⟩
def K60:Nat→List Nat×List Nat
 |0=>([5],[5])
 |1=>([],[5])
 |2=>([3,4,5,43,44],[])
 |3=>([],[3,4,5,43,44])
 |_=>([],[])
theorem F60_ok:kj8 Tryz.prog K60 noRg Tryz.f60=some F60:=by kernel_rfl
/- 61: syndrome/syndromeref.Number -/
def c61L0:ACode:=(.seq (.seq (.region [.m 10 6, .o 11 (.c .geq 10 0)]) (.cond (.tmp 11) .skip (.exit 0))) (.seq (.block 1 [0,1,5,6] (.region [.m 14 5, .m 15 1, .o 16 (.b .mul 14 15), .m 17 0, .m 18 6, .o 19 (.i 1 17 18), .o 20 (.l 19), .o 21 (.b .add 16 20), .m 5 21])) (.region [.m 12 6, .o 13 (.c .sub 12 1), .m 6 13])))
def c61:ACode:=(.seq (.region [.k 4 0]) (.seq (.region [.k 5 0]) (.seq (.seq (.region [.m 7 0, .o 8 (.n 7), .o 9 (.c .sub 8 1), .m 6 9]) (.block 0 [5] (.loop [0,1,5,6] c61L0))) (.seq (.region [.m 22 5, .m 4 22]) .ret))))
def F61:AFun:=⟨c61,2,23,[(.tmp 4)]⟩
def K61:Nat→List Nat×List Nat
 |0=>([0,1,5,6],[5])
 |1=>([],[0,1,5,6])
 |_=>([],[])
theorem F61_ok:kj8 Tryz.prog K61 noRg Tryz.f61=some F61:=by kernel_rfl
/- 62: (syndrome/syndromeref.F).Neg -/
def c62L0:ACode:=(.seq (.seq (.region [.m 17 6, .o 18 (.f 2 2), .o 19 (.l 18), .o 20 (.b .lss 17 19)]) (.cond (.tmp 20) .skip (.exit 0))) (.seq (.block 1 [2,5,6] (.region [.m 23 5, .m 24 6, .o 25 (.f 1 2), .o 26 (.l 25), .m 27 5, .m 28 6, .o 29 (.i 1 27 28), .o 30 (.l 29), .o 31 (.b .sub 26 30), .o 32 (.f 1 2), .o 33 (.l 32), .o 34 (.b .rem 31 33), .o 35 (.i 1 23 24), .n (.st 1 (.tmp 35) (.tmp 34))])) (.region [.m 21 6, .o 22 (.c .add 21 1), .m 6 22])))
def c62:ACode:=(.seq (.region [.o 2 (.box 26 5 (.tmp 0)), .k 4 0]) (.seq (.seq (.region [.o 7 (.ld true 5 (.tmp 2)), .m 8 1, .o 9 (.q 25 [7,8]), .o 10 (.un .not (.tmp 9))]) (.cond (.tmp 10) (.seq (.region [.k 4 (-1)]) .ret) .skip)) (.seq (.region [.m 11 1, .o 12 (.f 1 2), .o 13 (.l 12), .o 14 (.f 2 2), .o 15 (.l 14), .o 16 (.q 30 [11,13,15]), .m 5 16]) (.seq (.seq (.region [.k 6 0]) (.block 0 [2,5] (.loop [2,5,6] c62L0))) (.seq (.region [.m 36 5, .o 37 (.f 1 2), .o 38 (.l 37), .o 39 (.q 61 [36,38]), .m 4 39]) .ret)))))
def F62:AFun:=⟨c62,2,40,[(.tmp 4)]⟩
def K62:Nat→List Nat×List Nat
 |0=>([2,5,6],[2,5])
 |1=>([],[2,5,6])
 |_=>([],[])
theorem F62_ok:kj8 Tryz.prog K62 noRg Tryz.f62=some F62:=by kernel_rfl
/- 63: slices.Clone[[]int,int] -/
def c63:ACode:=(.seq (.region [.o 2 (.mv (.const (.slice none 0 0)))]) (.seq (.seq (.region [.m 3 0, .o 4 (.eqn false 0 (.tmp 3))]) (.cond (.tmp 4) (.seq (.region [.o 2 (.mv (.const (.slice none 0 0)))]) .ret) .skip)) (.seq (.region [.o 5 (.mkSl 3 1 0 []), .m 6 0, .o 7 (.app 3 1 8 (.tmp 5) (.tmp 6)), .m 2 7]) .ret)))
def F63:AFun:=⟨c63,1,8,[(.tmp 2)]⟩
def K63:Nat→List Nat×List Nat
 |_=>([],[])
theorem F63_ok:kj8 Tryz.prog K63 noRg Tryz.f63=some F63:=by kernel_rfl
/- 64: (*syndrome/field.Field).Mul -/
def c64:ACode:=(.seq (.region [.k 6 0]) (.seq (.seq (.region [.m 7 0, .m 8 1, .o 9 (.q 27 [7,8]), .o 10 (.un .not (.tmp 9)), .m 11 10, .g 12 (.m 0) 11 false, .g 13 (.m 2) 11 false, .g 14 (.q 27 [12,13]) 11 false, .g 15 (.un .not (.tmp 14)) 11 false, .o 16 (.pick (.tmp 11) (.const (.bool true)) (.tmp 15))]) (.cond (.tmp 16) (.seq (.region [.k 6 (-1)]) .ret) .skip)) (.seq (.seq (.region [.m 17 1, .o 18 (.c .eql 17 0), .m 19 18, .g 20 (.m 2) 19 false, .g 21 (.c .eql 20 0) 19 false, .o 22 (.pick (.tmp 19) (.const (.bool true)) (.tmp 21))]) (.cond (.tmp 22) (.seq (.region [.k 6 0]) .ret) .skip)) (.seq (.region [.m 23 0, .o 24 (.nilck (.tmp 23)), .o 25 (.f 5 24), .o 26 (.l 25), .m 27 0, .o 28 (.nilck (.tmp 27)), .o 29 (.f 6 28), .o 30 (.l 29), .m 31 1, .o 32 (.i 1 30 31), .o 33 (.l 32), .m 34 0, .o 35 (.nilck (.tmp 34)), .o 36 (.f 6 35), .o 37 (.l 36), .m 38 2, .o 39 (.i 1 37 38), .o 40 (.l 39), .o 41 (.b .add 33 40), .m 42 0, .o 43 (.nilck (.tmp 42)), .o 44 (.f 0 43), .o 45 (.l 44), .o 46 (.c .sub 45 1), .o 47 (.b .rem 41 46), .o 48 (.i 1 26 47), .o 49 (.l 48), .m 6 49]) .ret))))
def F64:AFun:=⟨c64,3,50,[(.tmp 6)]⟩
def K64:Nat→List Nat×List Nat
 |_=>([],[])
theorem F64_ok:kj8 Tryz.prog K64 noRg Tryz.f64=some F64:=by kernel_rfl
/- 65: (*syndrome/field.Field).Inv -/
def c65:ACode:=(.seq (.region [.k 4 0]) (.seq (.seq (.region [.m 5 0, .m 6 1, .o 7 (.q 27 [5,6]), .o 8 (.un .not (.tmp 7)), .m 9 8, .g 10 (.m 1) 9 false, .g 11 (.c .eql 10 0) 9 false, .o 12 (.pick (.tmp 9) (.const (.bool true)) (.tmp 11))]) (.cond (.tmp 12) (.seq (.region [.k 4 (-1)]) .ret) .skip)) (.seq (.region [.m 13 0, .o 14 (.nilck (.tmp 13)), .o 15 (.f 5 14), .o 16 (.l 15), .m 17 0, .o 18 (.nilck (.tmp 17)), .o 19 (.f 0 18), .o 20 (.l 19), .o 21 (.c .sub 20 1), .m 22 0, .o 23 (.nilck (.tmp 22)), .o 24 (.f 6 23), .o 25 (.l 24), .m 26 1, .o 27 (.i 1 25 26), .o 28 (.l 27), .o 29 (.b .sub 21 28), .m 30 0, .o 31 (.nilck (.tmp 30)), .o 32 (.f 0 31), .o 33 (.l 32), .o 34 (.c .sub 33 1), .o 35 (.b .rem 29 34), .o 36 (.i 1 16 35), .o 37 (.l 36), .m 4 37]) .ret)))
def F65:AFun:=⟨c65,2,38,[(.tmp 4)]⟩
def K65:Nat→List Nat×List Nat
 |_=>([],[])
theorem F65_ok:kj8 Tryz.prog K65 noRg Tryz.f65=some F65:=by kernel_rfl
/- 66: (*syndrome/field.Field).Sub -/
def c66:ACode:=(.seq (.region [.k 6 0]) (.seq (.region [.m 7 0, .m 8 1, .m 9 0, .m 10 2, .o 11 (.q 78 [9,10]), .o 12 (.q 38 [7,8,11]), .m 6 12]) .ret))
def F66:AFun:=⟨c66,3,13,[(.tmp 6)]⟩
def K66:Nat→List Nat×List Nat
 |_=>([],[])
theorem F66_ok:kj8 Tryz.prog K66 noRg Tryz.f66=some F66:=by kernel_rfl
/- 67: (syndrome/syndromeref.F).value -/
def c67L0:ACode:=(.seq (.seq (.region [.m 12 8, .o 13 (.c .geq 12 0)]) (.cond (.tmp 13) .skip (.exit 0))) (.seq (.block 1 [1,2,3,7,8] (.seq (.region [.o 16 (.ld true 5 (.tmp 3)), .m 17 7, .m 18 2, .o 19 (.q 32 [16,17,18]), .m 7 19]) (.region [.o 20 (.ld true 5 (.tmp 3)), .m 21 7, .m 22 1, .m 23 8, .o 24 (.i 1 22 23), .o 25 (.l 24), .o 26 (.q 31 [20,21,25]), .m 7 26]))) (.region [.m 14 8, .o 15 (.c .sub 14 1), .m 8 15])))
def c67:ACode:=(.seq (.region [.o 3 (.box 26 5 (.tmp 0)), .k 6 0]) (.seq (.region [.k 7 0]) (.seq (.seq (.region [.m 9 1, .o 10 (.n 9), .o 11 (.c .sub 10 1), .m 8 11]) (.block 0 [7] (.loop [1,2,3,7,8] c67L0))) (.seq (.region [.m 27 7, .m 6 27]) .ret))))
def F67:AFun:=⟨c67,3,28,[(.tmp 6)]⟩
def K67:Nat→List Nat×List Nat
 |0=>([1,2,3,7,8],[7])
 |1=>([],[1,2,3,7,8])
 |_=>([],[])
theorem F67_ok:kj8 Tryz.prog K67 noRg Tryz.f67=some F67:=by kernel_rfl
/- 68: syndrome/syndromeref.Next -/
def c68L0:ACode:=(.seq (.seq (.region [.m 9 5, .o 10 (.c .geq 9 0)]) (.cond (.tmp 10) .skip (.exit 0))) (.seq (.block 1 [0,1,5] (.seq (.region [.m 13 0, .m 14 5, .m 15 0, .m 16 5, .o 17 (.i 1 15 16), .o 18 (.l 17), .o 19 (.c .add 18 1), .o 20 (.i 1 13 14), .n (.st 1 (.tmp 20) (.tmp 19))]) (.seq (.seq (.region [.m 21 0, .m 22 5, .o 23 (.i 1 21 22), .o 24 (.l 23), .m 25 1, .o 26 (.b .lss 24 25)]) (.cond (.tmp 26) (.seq (.region [.o 4 (.mv (.const (.bool true)))]) .ret) .skip)) (.region [.m 27 0, .m 28 5, .o 29 (.i 1 27 28), .n (.st 1 (.tmp 29) (.const (.int .i64 0)))])))) (.region [.m 11 5, .o 12 (.c .sub 11 1), .m 5 12])))
def c68:ACode:=(.seq (.region [.o 4 (.mv (.const (.bool false)))]) (.seq (.seq (.region [.m 6 0, .o 7 (.n 6), .o 8 (.c .sub 7 1), .m 5 8]) (.block 0 [] (.loop [0,1,5] c68L0))) (.seq (.region [.o 4 (.mv (.const (.bool false)))]) .ret)))
def F68:AFun:=⟨c68,2,30,[(.tmp 4)]⟩
def K68:Nat→List Nat×List Nat
 |0=>([0,1,5],[])
 |1=>([],[0,1,5])
 |_=>([],[])
theorem F68_ok:kj8 Tryz.prog K68 noRg Tryz.f68=some F68:=by kernel_rfl
/- 69: syndrome/syndromeref.Below -/
def c69L0:ACode:=(.seq (.seq (.region [.m 6 5, .m 7 0, .o 8 (.n 7), .o 9 (.b .lss 6 8), .m 10 9, .g 11 (.m 5) 10 true, .g 12 (.m 1) 10 true, .g 13 (.n 12) 10 true, .g 14 (.b .lss 11 13) 10 true, .o 15 (.pick (.tmp 10) (.tmp 14) (.const (.bool false)))]) (.cond (.tmp 15) .skip (.exit 0))) (.seq (.block 1 [0,1,5] (.seq (.region [.m 18 0, .m 19 5, .o 20 (.i 1 18 19), .o 21 (.l 20), .m 22 1, .m 23 5, .o 24 (.i 1 22 23), .o 25 (.l 24), .o 26 (.b .neq 21 25)]) (.cond (.tmp 26) (.seq (.region [.m 27 0, .m 28 5, .o 29 (.i 1 27 28), .o 30 (.l 29), .m 31 1, .m 32 5, .o 33 (.i 1 31 32), .o 34 (.l 33), .o 35 (.b .lss 30 34), .m 4 35]) .ret) .skip))) (.region [.m 16 5, .o 17 (.c .add 16 1), .m 5 17])))
def c69:ACode:=(.seq (.region [.o 4 (.mv (.const (.bool false)))]) (.seq (.seq (.region [.k 5 0]) (.block 0 [0,1] (.loop [0,1,5] c69L0))) (.seq (.region [.m 36 0, .o 37 (.n 36), .m 38 1, .o 39 (.n 38), .o 40 (.b .lss 37 39), .m 4 40]) .ret)))
def F69:AFun:=⟨c69,2,41,[(.tmp 4)]⟩
def K69:Nat→List Nat×List Nat
 |0=>([0,1,5],[0,1])
 |1=>([],[0,1,5])
 |_=>([],[])
theorem F69_ok:kj8 Tryz.prog K69 noRg Tryz.f69=some F69:=by kernel_rfl
/- 70: (*syndrome/field.Field).Size -/
def c70:ACode:=(.seq (.region [.k 2 0]) (.seq (.region [.m 3 0, .o 4 (.nilck (.tmp 3)), .o 5 (.f 0 4), .o 6 (.l 5), .m 2 6]) .ret))
def F70:AFun:=⟨c70,1,7,[(.tmp 2)]⟩
def K70:Nat→List Nat×List Nat
 |_=>([],[])
theorem F70_ok:kj8 Tryz.prog K70 noRg Tryz.f70=some F70:=by kernel_rfl
/- 71: syndrome/poly.tries -/
def c71L0:ACode:=(.seq (.region [.o 9 (.b .lss 8 7)]) (.seq (.cond (.tmp 9) .skip (.exit 0)) (.seq (.block 1 [0,5,7,8] (.seq (.region [.m 10 5, .m 11 0, .o 12 (.b .mul 10 11), .m 5 12]) (.seq (.region [.m 13 5, .o 14 (.c .gtr 13 4096)]) (.cond (.tmp 14) (.seq (.region [.o 4 (.mv (.const (.bool false)))]) .ret) .skip)))) (.region [.o 15 (.c .add 8 1), .m 8 15]))))
def c71:ACode:=(.seq (.region [.o 4 (.mv (.const (.bool false)))]) (.seq (.region [.k 5 1]) (.seq (.seq (.region [.m 6 1, .o 7 (.c .quo 6 2), .k 8 0]) (.block 0 [] (.loop [0,5,7,8] c71L0))) (.seq (.region [.o 4 (.mv (.const (.bool true)))]) .ret))))
def F71:AFun:=⟨c71,2,16,[(.tmp 4)]⟩
def K71:Nat→List Nat×List Nat
 |0=>([0,5,7,8],[])
 |1=>([],[0,5,7,8])
 |_=>([],[])
theorem F71_ok:kj8 Tryz.prog K71 noRg Tryz.f71=some F71:=by kernel_rfl
/- 72: slices.Repeat[[]int,int] -/
def c72L0:ACode:=(.seq (.seq (.region [.m 34 8, .m 35 7, .o 36 (.n 35), .o 37 (.b .lss 34 36)]) (.cond (.tmp 37) .skip (.exit 0))) (.block 1 [7,8] (.region [.m 38 8, .m 39 7, .m 40 8, .o 41 (.sl 1 (.tmp 39) (some (.tmp 40)) none), .m 42 7, .m 43 8, .o 44 (.sl 1 (.tmp 42) none (some (.tmp 43))), .o 45 (.cpy 1 (.tmp 41) (.tmp 44)), .o 46 (.b .add 38 45), .m 8 46])))
def c72:ACode:=(.seq (.region [.o 4 (.mv (.const (.slice none 0 0)))]) (.seq (.seq (.region [.m 9 1, .o 10 (.c .lss 9 0)]) (.cond (.tmp 10) .stuck .skip)) (.seq (.region [.m 13 0, .o 14 (.n 13), .o 15 (.conv .u64 (.tmp 14)), .m 16 1, .o 17 (.conv .u64 (.tmp 16)), .o 18 (.q 84 [15,17]), .m 12 18, .o 19 (.e 0 12), .o 20 (.e 1 12), .m 5 19, .m 6 20]) (.seq (.seq (.region [.m 21 5, .o 22 (.bin .gtr (.tmp 21) (.const (.int .u64 0))), .m 23 22, .g 24 (.m 6) 23 false, .g 25 (.bin .gtr (.tmp 24) (.const (.int .u64 9223372036854775807))) 23 false, .o 26 (.pick (.tmp 23) (.const (.bool true)) (.tmp 25))]) (.cond (.tmp 26) .stuck .skip)) (.seq (.region [.m 28 6, .o 29 (.conv .i64 (.tmp 28)), .o 30 (.mks 3 1 8 [(.int .i64 0)] (.tmp 29) (.tmp 29)), .m 7 30]) (.seq (.region [.m 31 7, .m 32 0, .o 33 (.cpy 1 (.tmp 31) (.tmp 32)), .m 8 33]) (.seq (.block 0 [7] (.loop [7,8] c72L0)) (.seq (.region [.m 47 7, .m 4 47]) .ret))))))))
def F72:AFun:=⟨c72,2,48,[(.tmp 4)]⟩
def K72:Nat→List Nat×List Nat
 |0=>([7,8],[7])
 |1=>([],[7,8])
 |_=>([],[])
theorem F72_ok:kj8 Tryz.prog K72 noRg Tryz.f72=some F72:=by kernel_rfl
/- 73: syndrome/poly.next -/
def c73L0:ACode:=(.seq (.seq (.region [.m 9 5, .o 10 (.c .geq 9 0)]) (.cond (.tmp 10) .skip (.exit 0))) (.seq (.block 1 [0,1,5] (.seq (.region [.m 13 1, .m 14 5, .o 15 (.i 1 13 14), .o 16 (.l 15), .o 17 (.c .add 16 1), .o 18 (.i 1 13 14), .n (.st 1 (.tmp 18) (.tmp 17))]) (.seq (.seq (.region [.m 19 1, .m 20 5, .o 21 (.i 1 19 20), .o 22 (.l 21), .m 23 0, .o 24 (.b .lss 22 23)]) (.cond (.tmp 24) (.seq (.region [.m 25 1, .m 4 25]) .ret) .skip)) (.region [.m 26 1, .m 27 5, .o 28 (.i 1 26 27), .n (.st 1 (.tmp 28) (.const (.int .i64 0)))])))) (.region [.m 11 5, .o 12 (.c .sub 11 1), .m 5 12])))
def c73:ACode:=(.seq (.region [.o 4 (.mv (.const (.slice none 0 0)))]) (.seq (.seq (.region [.m 6 1, .o 7 (.n 6), .o 8 (.c .sub 7 1), .m 5 8]) (.block 0 [] (.loop [0,1,5] c73L0))) (.seq (.region [.o 4 (.mv (.const (.slice none 0 0)))]) .ret)))
def F73:AFun:=⟨c73,2,29,[(.tmp 4)]⟩
def K73:Nat→List Nat×List Nat
 |0=>([0,1,5],[])
 |1=>([],[0,1,5])
 |_=>([],[])
theorem F73_ok:kj8 Tryz.prog K73 noRg Tryz.f73=some F73:=by kernel_rfl
/- 74: slices.SortStableFunc[[][]int,[]int] -/
def c74:ACode:=(.region [.m 4 0, .m 5 0, .o 6 (.n 5), .m 7 1, .o 8 (.q 85 [4,6,7])])
def F74:AFun:=⟨c74,2,9,[]⟩
def K74:Nat→List Nat×List Nat
 |_=>([],[])
theorem F74_ok:kj8 Tryz.prog K74 noRg Tryz.f74=some F74:=by kernel_rfl
/- 75: syndrome/poly.Factors$1 -/
def c75:ACode:=(.seq (.region [.k 4 0]) (.seq (.seq (.region [.m 5 0, .o 6 (.n 5), .m 7 1, .o 8 (.n 7), .o 9 (.b .neq 6 8)]) (.cond (.tmp 9) (.seq (.region [.m 10 0, .o 11 (.n 10), .m 12 1, .o 13 (.n 12), .o 14 (.b .sub 11 13), .m 4 14]) .ret) .skip)) (.seq (.region [.m 15 0, .m 16 1, .o 17 (.q 76 [15,16]), .m 4 17]) .ret)))
def F75:AFun:=⟨c75,2,18,[(.tmp 4)]⟩
def K75:Nat→List Nat×List Nat
 |_=>([],[])
theorem F75_ok:kj8 Tryz.prog K75 noRg Tryz.f75=some F75:=by kernel_rfl
/- 76: slices.Compare[[]int,int] -/
def c76L0:ACode:=(.seq (.region [.o 12 (.b .lss 11 10)]) (.seq (.cond (.tmp 12) .skip (.exit 0)) (.seq (.block 1 [0,1,9,10,11] (.seq (.region [.m 13 11, .o 14 (.i 1 9 11), .o 15 (.l 14), .m 5 13, .m 6 15]) (.seq (.seq (.region [.m 16 5, .m 17 1, .o 18 (.n 17), .o 19 (.b .geq 16 18)]) (.cond (.tmp 19) (.seq (.region [.k 4 1]) .ret) .skip)) (.seq (.region [.m 20 1, .m 21 5, .o 22 (.i 1 20 21), .o 23 (.l 22), .m 7 23]) (.seq (.region [.m 24 6, .m 25 7, .o 26 (.q 86 [24,25]), .m 8 26]) (.seq (.region [.m 27 8, .o 28 (.c .neq 27 0)]) (.cond (.tmp 28) (.seq (.region [.m 29 8, .m 4 29]) .ret) .skip))))))) (.region [.o 30 (.c .add 11 1), .m 11 30]))))
def c76:ACode:=(.seq (.region [.k 4 0]) (.seq (.seq (.region [.m 9 0, .o 10 (.n 9), .k 11 0]) (.block 0 [0,1] (.loop [0,1,9,10,11] c76L0))) (.seq (.seq (.region [.m 31 0, .o 32 (.n 31), .m 33 1, .o 34 (.n 33), .o 35 (.b .lss 32 34)]) (.cond (.tmp 35) (.seq (.region [.k 4 (-1)]) .ret) .skip)) (.seq (.region [.k 4 0]) .ret))))
def F76:AFun:=⟨c76,2,36,[(.tmp 4)]⟩
def K76:Nat→List Nat×List Nat
 |0=>([0,1,9,10,11],[0,1])
 |1=>([],[0,1,9,10,11])
 |_=>([],[])
theorem F76_ok:kj8 Tryz.prog K76 noRg Tryz.f76=some F76:=by kernel_rfl
/- 77: syndrome/syndromeref.SameAll -/
def c77L0:ACode:=(.seq (.seq (.region [.m 11 5, .m 12 0, .o 13 (.n 12), .o 14 (.b .lss 11 13)]) (.cond (.tmp 14) .skip (.exit 0))) (.seq (.block 1 [0,1,5] (.seq (.region [.m 17 0, .m 18 5, .o 19 (.i 1 17 18), .o 20 (.l 19), .m 21 1, .m 22 5, .o 23 (.i 1 21 22), .o 24 (.l 23), .o 25 (.q 43 [20,24]), .o 26 (.un .not (.tmp 25))]) (.cond (.tmp 26) (.seq (.region [.o 4 (.mv (.const (.bool false)))]) .ret) .skip))) (.region [.m 15 5, .o 16 (.c .add 15 1), .m 5 16])))
def c77:ACode:=(.seq (.region [.o 4 (.mv (.const (.bool false)))]) (.seq (.seq (.region [.m 6 0, .o 7 (.n 6), .m 8 1, .o 9 (.n 8), .o 10 (.b .neq 7 9)]) (.cond (.tmp 10) (.seq (.region [.o 4 (.mv (.const (.bool false)))]) .ret) .skip)) (.seq (.seq (.region [.k 5 0]) (.block 0 [] (.loop [0,1,5] c77L0))) (.seq (.region [.o 4 (.mv (.const (.bool true)))]) .ret))))
def F77:AFun:=⟨c77,2,27,[(.tmp 4)]⟩
def K77:Nat→List Nat×List Nat
 |0=>([0,1,5],[])
 |1=>([],[0,1,5])
 |_=>([],[])
theorem F77_ok:kj8 Tryz.prog K77 noRg Tryz.f77=some F77:=by kernel_rfl
/- 78: (*syndrome/field.Field).Neg -/
def c78L0:ACode:=(.seq (.region [.o 16 (.b .lss 15 14)]) (.seq (.cond (.tmp 16) .skip (.exit 0)) (.seq (.block 1 [0,1,5,6,14,15] (.seq (.region [.m 17 5, .m 18 0, .o 19 (.nilck (.tmp 18)), .o 20 (.f 1 19), .o 21 (.l 20), .m 22 1, .m 23 0, .o 24 (.nilck (.tmp 23)), .o 25 (.f 1 24), .o 26 (.l 25), .o 27 (.b .rem 22 26), .o 28 (.b .sub 21 27), .m 29 0, .o 30 (.nilck (.tmp 29)), .o 31 (.f 1 30), .o 32 (.l 31), .o 33 (.b .rem 28 32), .m 34 6, .o 35 (.b .mul 33 34), .o 36 (.b .add 17 35), .m 5 36]) (.region [.m 37 1, .m 38 0, .o 39 (.nilck (.tmp 38)), .o 40 (.f 1 39), .o 41 (.l 40), .o 42 (.b .quo 37 41), .m 43 6, .m 44 0, .o 45 (.nilck (.tmp 44)), .o 46 (.f 1 45), .o 47 (.l 46), .o 48 (.b .mul 43 47), .m 1 42, .m 6 48]))) (.region [.o 49 (.c .add 15 1), .m 15 49]))))
def c78:ACode:=(.seq (.region [.k 4 0]) (.seq (.seq (.region [.m 7 0, .m 8 1, .o 9 (.q 27 [7,8]), .o 10 (.un .not (.tmp 9))]) (.cond (.tmp 10) (.seq (.region [.k 4 (-1)]) .ret) .skip)) (.seq (.region [.k 5 0, .k 6 1]) (.seq (.seq (.region [.m 11 0, .o 12 (.nilck (.tmp 11)), .o 13 (.f 2 12), .o 14 (.l 13), .k 15 0]) (.block 0 [5] (.loop [0,1,5,6,14,15] c78L0))) (.seq (.region [.m 50 5, .m 4 50]) .ret)))))
def F78:AFun:=⟨c78,2,51,[(.tmp 4)]⟩
def K78:Nat→List Nat×List Nat
 |0=>([0,1,5,6,14,15],[5])
 |1=>([],[0,1,5,6,14,15])
 |_=>([],[])
theorem F78_ok:kj8 Tryz.prog K78 noRg Tryz.f78=some F78:=by kernel_rfl
/- 81: syndrome/field.prime -/
def c81L0:ACode:=(.seq (.seq (.region [.m 4 0, .m 5 2, .o 6 (.b .rem 4 5), .o 7 (.c .neq 6 0)]) (.cond (.tmp 7) .skip (.exit 0))) (.block 1 [0,2,3] (.region [.m 8 2, .o 9 (.c .add 8 1), .m 2 9])))
def c81L1:ACode:=(.seq (.seq (.region [.m 10 0, .m 11 2, .o 12 (.b .rem 10 11), .o 13 (.c .eql 12 0)]) (.cond (.tmp 13) .skip (.exit 2))) (.seq (.block 3 [0,2,3] (.region [.m 17 3, .o 18 (.c .add 17 1), .m 3 18])) (.region [.m 14 0, .m 15 2, .o 16 (.b .quo 14 15), .m 0 16])))
def c81:ACode:=(.seq (.region [.k 2 0, .k 3 0]) (.seq (.region [.k 2 2]) (.seq (.block 0 [0,2,3] (.loop [0,2,3] c81L0)) (.seq (.block 2 [0,2,3] (.loop [0,2,3] c81L1)) (.seq (.seq (.region [.m 19 0, .o 20 (.c .neq 19 1)]) (.cond (.tmp 20) (.seq (.region [.k 2 0, .k 3 0]) .ret) .skip)) (.seq (.region [.m 21 2, .m 22 3, .m 2 21, .m 3 22]) .ret))))))
def F81:AFun:=⟨c81,1,23,[(.tmp 2),(.tmp 3)]⟩
def K81:Nat→List Nat×List Nat
 |0=>([0,2,3],[0,2,3])
 |1=>([],[0,2,3])
 |2=>([0,2,3],[0,2,3])
 |3=>([],[0,2,3])
 |_=>([],[])
theorem F81_ok:kj8 Tryz.prog K81 noRg Tryz.f81=some F81:=by kernel_rfl
/- 82: (*syndrome/field.Field).fill -/
def c82L0:ACode:=(.seq (.region [.o 29 (.b .lss 28 27)]) (.seq (.cond (.tmp 29) .skip (.exit 0)) (.seq (.block 1 [0,27,28] (.seq (.region [.m 30 28, .m 3 30]) (.region [.m 31 0, .o 32 (.nilck (.tmp 31)), .o 33 (.f 6 32), .o 34 (.l 33), .m 35 3, .o 36 (.i 1 34 35), .n (.st 1 (.tmp 36) (.const (.int .i64 (-1))))]))) (.region [.o 37 (.c .add 28 1), .m 28 37]))))
def c82L1:ACode:=(.seq (.region [.o 44 (.b .lss 43 42)]) (.seq (.cond (.tmp 44) .skip (.exit 2)) (.seq (.block 3 [0,4,42,43] (.seq (.region [.m 45 43, .m 5 45]) (.seq (.seq (.region [.m 46 4, .o 47 (.c .eql 46 0), .m 48 47, .g 49 (.m 0) 48 false, .g 50 (.nilck (.tmp 49)) 48 false, .g 51 (.f 6 50) 48 false, .g 52 (.l 51) 48 false, .g 53 (.m 4) 48 false, .g 54 (.i 1 52 53) 48 false, .g 55 (.l 54) 48 false, .g 56 (.c .geq 55 0) 48 false, .o 57 (.pick (.tmp 48) (.const (.bool true)) (.tmp 56))]) (.cond (.tmp 57) (.seq (.region [.o 2 (.mv (.const (.bool false)))]) .ret) .skip)) (.seq (.region [.m 58 0, .o 59 (.nilck (.tmp 58)), .o 60 (.f 5 59), .o 61 (.l 60), .m 62 5, .m 63 0, .o 64 (.nilck (.tmp 63)), .o 65 (.f 6 64), .o 66 (.l 65), .m 67 4, .m 68 4, .m 69 5, .o 70 (.i 1 61 62), .n (.st 1 (.tmp 70) (.tmp 68)), .o 71 (.i 1 66 67), .n (.st 1 (.tmp 71) (.tmp 69))]) (.region [.m 72 0, .m 73 4, .o 74 (.q 91 [72,73]), .m 4 74]))))) (.region [.o 75 (.c .add 43 1), .m 43 75]))))
def c82:ACode:=(.seq (.region [.o 2 (.mv (.const (.bool false)))]) (.seq (.region [.m 6 0, .m 7 0, .o 8 (.nilck (.tmp 7)), .o 9 (.f 0 8), .o 10 (.l 9), .o 11 (.c .sub 10 1), .o 12 (.mks 3 1 8 [(.int .i64 0)] (.tmp 11) (.tmp 11)), .o 13 (.nilck (.tmp 6)), .o 14 (.f 5 13), .n (.st 1 (.tmp 14) (.tmp 12))]) (.seq (.region [.m 15 0, .m 16 0, .o 17 (.nilck (.tmp 16)), .o 18 (.f 0 17), .o 19 (.l 18), .o 20 (.mks 3 1 8 [(.int .i64 0)] (.tmp 19) (.tmp 19)), .o 21 (.nilck (.tmp 15)), .o 22 (.f 6 21), .n (.st 1 (.tmp 22) (.tmp 20))]) (.seq (.seq (.region [.m 23 0, .o 24 (.nilck (.tmp 23)), .o 25 (.f 6 24), .o 26 (.l 25), .o 27 (.n 26), .k 28 0]) (.block 0 [0] (.loop [0,27,28] c82L0))) (.seq (.region [.k 4 1]) (.seq (.seq (.region [.m 38 0, .o 39 (.nilck (.tmp 38)), .o 40 (.f 0 39), .o 41 (.l 40), .o 42 (.c .sub 41 1), .k 43 0]) (.block 2 [4] (.loop [0,4,42,43] c82L1))) (.seq (.region [.m 76 4, .o 77 (.c .eql 76 1), .m 2 77]) .ret)))))))
def F82:AFun:=⟨c82,1,78,[(.tmp 2)]⟩
def K82:Nat→List Nat×List Nat
 |0=>([0,27,28],[0])
 |1=>([],[0,27,28])
 |2=>([0,4,42,43],[4])
 |3=>([],[0,4,42,43])
 |_=>([],[])
theorem F82_ok:kj8 Tryz.prog K82 noRg Tryz.f82=some F82:=by kernel_rfl
/- 83: syndrome/field.digits -/
def c83L0:ACode:=(.seq (.region [.o 14 (.b .lss 13 12)]) (.seq (.cond (.tmp 14) .skip (.exit 0)) (.seq (.block 1 [0,1,7,12,13] (.seq (.region [.m 15 13, .m 8 15]) (.seq (.region [.m 16 7, .m 17 8, .m 18 0, .m 19 1, .o 20 (.b .rem 18 19), .o 21 (.i 1 16 17), .n (.st 1 (.tmp 21) (.tmp 20))]) (.region [.m 22 0, .m 23 1, .o 24 (.b .quo 22 23), .m 0 24])))) (.region [.o 25 (.c .add 13 1), .m 13 25]))))
def c83:ACode:=(.seq (.region [.o 6 (.mv (.const (.slice none 0 0)))]) (.seq (.region [.m 9 2, .o 10 (.mks 3 1 8 [(.int .i64 0)] (.tmp 9) (.tmp 9)), .m 7 10]) (.seq (.seq (.region [.m 11 7, .o 12 (.n 11), .k 13 0]) (.block 0 [7] (.loop [0,1,7,12,13] c83L0))) (.seq (.region [.m 26 7, .m 6 26]) .ret))))
def F83:AFun:=⟨c83,3,27,[(.tmp 6)]⟩
def K83:Nat→List Nat×List Nat
 |0=>([0,1,7,12,13],[7])
 |1=>([],[0,1,7,12,13])
 |_=>([],[])
theorem F83_ok:kj8 Tryz.prog K83 noRg Tryz.f83=some F83:=by kernel_rfl
/- 84: math/bits.Mul -/
def c84:ACode:=(.seq (.region [.o 4 (.mv (.const (.int .u64 0))), .o 5 (.mv (.const (.int .u64 0)))]) (.seq (.cond (.const (.bool false)) (.seq (.region [.m 11 0, .o 12 (.conv .u32 (.tmp 11)), .m 13 1, .o 14 (.conv .u32 (.tmp 13)), .o 15 (.q 92 [12,14]), .m 10 15, .o 16 (.e 0 10), .o 17 (.e 1 10), .m 6 16, .m 7 17]) (.seq (.region [.m 18 6, .o 19 (.conv .u64 (.tmp 18)), .m 20 7, .o 21 (.conv .u64 (.tmp 20)), .m 4 19, .m 5 21]) .ret)) .skip) (.seq (.region [.m 23 0, .m 24 1, .o 25 (.q 93 [23,24]), .m 22 25, .o 26 (.e 0 22), .o 27 (.e 1 22), .m 8 26, .m 9 27]) (.seq (.region [.m 28 8, .m 29 9, .m 4 28, .m 5 29]) .ret))))
def F84:AFun:=⟨c84,2,30,[(.tmp 4),(.tmp 5)]⟩
def K84:Nat→List Nat×List Nat
 |_=>([],[])
theorem F84_ok:kj8 Tryz.prog K84 noRg Tryz.f84=some F84:=by kernel_rfl
/- 85: slices.stableCmpFunc[[]int] -/
def c85L0:ACode:=(.seq (.seq (.region [.m 11 8, .m 12 1, .o 13 (.b .leq 11 12)]) (.cond (.tmp 13) .skip (.exit 0))) (.block 1 [0,1,2,6,7,8] (.seq (.region [.m 14 0, .m 15 7, .m 16 8, .m 17 2, .o 18 (.q 94 [14,15,16,17])]) (.seq (.region [.m 19 8, .m 7 19]) (.region [.m 20 8, .m 21 6, .o 22 (.b .add 20 21), .m 8 22])))))
def c85L1:ACode:=(.seq (.seq (.region [.m 33 8, .m 34 1, .o 35 (.b .leq 33 34)]) (.cond (.tmp 35) .skip (.exit 4))) (.block 5 [0,1,2,6,7,8] (.seq (.region [.m 36 0, .m 37 7, .m 38 7, .m 39 6, .o 40 (.b .add 38 39), .m 41 8, .m 42 2, .o 43 (.q 95 [36,37,40,41,42])]) (.seq (.region [.m 44 8, .m 7 44]) (.region [.m 45 8, .m 46 6, .o 47 (.bin .mul (.const (.int .i64 2)) (.tmp 46)), .o 48 (.b .add 45 47), .m 8 48])))))
def c85L2:ACode:=(.seq (.seq (.region [.m 28 6, .m 29 1, .o 30 (.b .lss 28 29)]) (.cond (.tmp 30) .skip (.exit 2))) (.block 3 [0,1,2,6] (.seq (.region [.m 31 6, .o 32 (.bin .mul (.const (.int .i64 2)) (.tmp 31)), .k 7 0, .m 8 32]) (.seq (.block 4 [0,1,2,6,7] (.loop [0,1,2,6,7,8] c85L1)) (.seq (.seq (.region [.m 49 7, .m 50 6, .o 51 (.b .add 49 50), .m 9 51]) (.seq (.region [.m 52 9, .m 53 1, .o 54 (.b .lss 52 53)]) (.cond (.tmp 54) (.region [.m 55 0, .m 56 7, .m 57 9, .m 58 1, .m 59 2, .o 60 (.q 95 [55,56,57,58,59])]) .skip))) (.region [.m 61 6, .o 62 (.c .mul 61 2), .m 6 62]))))))
def c85:ACode:=(.seq (.region [.k 6 20]) (.seq (.region [.m 10 6, .k 7 0, .m 8 10]) (.seq (.block 0 [0,1,2,6,7] (.loop [0,1,2,6,7,8] c85L0)) (.seq (.region [.m 23 0, .m 24 7, .m 25 1, .m 26 2, .o 27 (.q 94 [23,24,25,26])]) (.block 2 [] (.loop [0,1,2,6] c85L2))))))
def F85:AFun:=⟨c85,3,63,[]⟩
def K85:Nat→List Nat×List Nat
 |0=>([0,1,2,6,7,8],[0,1,2,6,7])
 |1=>([],[0,1,2,6,7,8])
 |2=>([0,1,2,6],[])
 |3=>([],[0,1,2,6])
 |4=>([0,1,2,6,7,8],[0,1,2,6,7])
 |5=>([],[0,1,2,6,7,8])
 |_=>([],[])
theorem F85_ok:kj8 Tryz.prog K85 noRg Tryz.f85=some F85:=by kernel_rfl
/- 86: cmp.Compare[int] -/
def c86:ACode:=(.seq (.region [.k 4 0]) (.seq (.region [.m 7 0, .o 8 (.q 96 [7]), .m 5 8]) (.seq (.region [.m 9 1, .o 10 (.q 96 [9]), .m 6 10]) (.seq (.seq (.region [.m 11 5]) (.cond (.tmp 11) (.seq (.seq (.region [.m 12 6]) (.cond (.tmp 12) (.seq (.region [.k 4 0]) .ret) .skip)) (.seq (.region [.k 4 (-1)]) .ret)) .skip)) (.seq (.seq (.region [.m 13 6]) (.cond (.tmp 13) (.seq (.region [.k 4 1]) .ret) .skip)) (.seq (.seq (.region [.m 14 0, .m 15 1, .o 16 (.b .lss 14 15)]) (.cond (.tmp 16) (.seq (.region [.k 4 (-1)]) .ret) .skip)) (.seq (.seq (.region [.m 17 0, .m 18 1, .o 19 (.b .gtr 17 18)]) (.cond (.tmp 19) (.seq (.region [.k 4 1]) .ret) .skip)) (.seq (.region [.k 4 0]) .ret))))))))
def F86:AFun:=⟨c86,2,20,[(.tmp 4)]⟩
def K86:Nat→List Nat×List Nat
 |_=>([],[])
theorem F86_ok:kj8 Tryz.prog K86 noRg Tryz.f86=some F86:=by kernel_rfl
/- 91: (*syndrome/field.Field).turn -/
def c91L0:ACode:=(.seq (.region [.o 57 (.b .lss 56 55)]) (.seq (.cond (.tmp 57) .skip (.exit 0)) (.seq (.block 1 [0,5,6,55,56] (.seq (.region [.m 58 56, .m 7 58]) (.region [.m 59 5, .m 60 7, .m 61 5, .m 62 7, .o 63 (.i 1 61 62), .o 64 (.l 63), .m 65 6, .m 66 0, .o 67 (.nilck (.tmp 66)), .o 68 (.f 1 67), .o 69 (.l 68), .m 70 0, .o 71 (.nilck (.tmp 70)), .o 72 (.f 3 71), .o 73 (.l 72), .m 74 7, .o 75 (.i 1 73 74), .o 76 (.l 75), .o 77 (.b .sub 69 76), .o 78 (.b .mul 65 77), .o 79 (.b .add 64 78), .m 80 0, .o 81 (.nilck (.tmp 80)), .o 82 (.f 1 81), .o 83 (.l 82), .o 84 (.b .rem 79 83), .o 85 (.i 1 59 60), .n (.st 1 (.tmp 85) (.tmp 84))]))) (.region [.o 86 (.c .add 56 1), .m 56 86]))))
def c91:ACode:=(.seq (.region [.k 4 0]) (.seq (.seq (.region [.m 8 0, .o 9 (.nilck (.tmp 8)), .o 10 (.f 2 9), .o 11 (.l 10), .o 12 (.c .eql 11 1)]) (.cond (.tmp 12) (.seq (.region [.m 13 1, .m 14 0, .o 15 (.nilck (.tmp 14)), .o 16 (.f 4 15), .o 17 (.l 16), .o 18 (.b .mul 13 17), .m 19 0, .o 20 (.nilck (.tmp 19)), .o 21 (.f 1 20), .o 22 (.l 21), .o 23 (.b .rem 18 22), .m 4 23]) .ret) .skip)) (.seq (.region [.m 24 1, .m 25 0, .o 26 (.nilck (.tmp 25)), .o 27 (.f 1 26), .o 28 (.l 27), .m 29 0, .o 30 (.nilck (.tmp 29)), .o 31 (.f 2 30), .o 32 (.l 31), .o 33 (.q 83 [24,28,32]), .m 5 33]) (.seq (.region [.m 34 5, .m 35 0, .o 36 (.nilck (.tmp 35)), .o 37 (.f 2 36), .o 38 (.l 37), .o 39 (.c .sub 38 1), .o 40 (.i 1 34 39), .o 41 (.l 40), .m 6 41]) (.seq (.region [.m 42 5, .o 43 (.sl 1 (.tmp 42) (some (.const (.int .i64 1))) none), .m 44 5, .m 45 0, .o 46 (.nilck (.tmp 45)), .o 47 (.f 2 46), .o 48 (.l 47), .o 49 (.c .sub 48 1), .o 50 (.sl 1 (.tmp 44) none (some (.tmp 49))), .o 51 (.cpy 1 (.tmp 43) (.tmp 50))]) (.seq (.region [.m 52 5, .o 53 (.iaddr 1 (.tmp 52) (.const (.int .i64 0))), .n (.st 1 (.tmp 53) (.const (.int .i64 0)))]) (.seq (.seq (.region [.m 54 5, .o 55 (.n 54), .k 56 0]) (.block 0 [0,5] (.loop [0,5,6,55,56] c91L0))) (.seq (.region [.m 87 5, .m 88 0, .o 89 (.nilck (.tmp 88)), .o 90 (.f 1 89), .o 91 (.l 90), .o 92 (.q 101 [87,91]), .m 4 92]) .ret))))))))
def F91:AFun:=⟨c91,2,93,[(.tmp 4)]⟩
def K91:Nat→List Nat×List Nat
 |0=>([0,5,6,55,56],[0,5])
 |1=>([],[0,5,6,55,56])
 |_=>([],[])
theorem F91_ok:kj8 Tryz.prog K91 noRg Tryz.f91=some F91:=by kernel_rfl
/- 93: math/bits.Mul64 -/
def c93:ACode:=(.seq (.region [.o 4 (.mv (.const (.int .u64 0))), .o 5 (.mv (.const (.int .u64 0)))]) (.seq (.region [.m 14 0, .o 15 (.bin .and (.tmp 14) (.const (.int .u64 4294967295))), .m 6 15]) (.seq (.region [.m 16 0, .o 17 (.bin .shr (.tmp 16) (.const (.int .u64 32))), .m 7 17]) (.seq (.region [.m 18 1, .o 19 (.bin .and (.tmp 18) (.const (.int .u64 4294967295))), .m 8 19]) (.seq (.region [.m 20 1, .o 21 (.bin .shr (.tmp 20) (.const (.int .u64 32))), .m 9 21]) (.seq (.region [.m 22 6, .m 23 8, .o 24 (.b .mul 22 23), .m 10 24]) (.seq (.region [.m 25 7, .m 26 8, .o 27 (.b .mul 25 26), .m 28 10, .o 29 (.bin .shr (.tmp 28) (.const (.int .u64 32))), .o 30 (.b .add 27 29), .m 11 30]) (.seq (.region [.m 31 11, .o 32 (.bin .and (.tmp 31) (.const (.int .u64 4294967295))), .m 12 32]) (.seq (.region [.m 33 11, .o 34 (.bin .shr (.tmp 33) (.const (.int .u64 32))), .m 13 34]) (.seq (.region [.m 35 12, .m 36 6, .m 37 9, .o 38 (.b .mul 36 37), .o 39 (.b .add 35 38), .m 12 39]) (.seq (.region [.m 40 7, .m 41 9, .o 42 (.b .mul 40 41), .m 43 13, .o 44 (.b .add 42 43), .m 45 12, .o 46 (.bin .shr (.tmp 45) (.const (.int .u64 32))), .o 47 (.b .add 44 46), .m 4 47]) (.seq (.region [.m 48 0, .m 49 1, .o 50 (.b .mul 48 49), .m 5 50]) .ret))))))))))))
def F93:AFun:=⟨c93,2,51,[(.tmp 4),(.tmp 5)]⟩
def K93:Nat→List Nat×List Nat
 |_=>([],[])
theorem F93_ok:kj8 Tryz.prog K93 noRg Tryz.f93=some F93:=by kernel_rfl
end Go.Proofs.YtoglhlonhmmieaaGreat
