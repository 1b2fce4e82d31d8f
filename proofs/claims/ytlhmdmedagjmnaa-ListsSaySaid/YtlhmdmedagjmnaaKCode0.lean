/-
  Functions of this seat as the small machine's code, written by a program of my own (gen.py); each is checked to be what the model's function is turned into. No condition.
-/
import Derived.Test.YtlhmdmedagjmnaaK1
import Derived.Test.YtlhmdmedagjmnaaProg
set_option linter.unusedVariables false
set_option linter.unusedSimpArgs false
set_option linter.unusedSectionVars false
set_option maxRecDepth 100000
namespace Go.Proofs.Ytlhmdmedagjmnaa
open Go.Am
/- 6: syndrome/syndromelaw.ListsSay -/
def c6:ACode:=(.seq (.region [.o 12 (.mv (.const (.bool false)))]) (.seq (.seq (.region [.m 24 1, .o 25 (.n 24), .m 26 3, .o 27 (.n 26), .o 28 (.b .add 25 27), .o 29 (.c .gtr 28 200)]) (.cond (.tmp 29) (.seq (.region [.o 12 (.mv (.const (.bool true)))]) .ret) .skip)) (.seq (.region [.m 30 0, .m 31 1, .m 32 2, .m 33 3, .o 34 (.q 30 [30,31,32,33]), .m 13 34]) (.seq (.region [.m 35 13, .m 14 35]) (.seq (.seq (.region [.m 36 14, .o 37 (.c .eql 36 0), .m 38 37, .g 39 (.m 0) 38 true, .g 40 (.m 2) 38 true, .g 41 (.q 31 [39,40]) 38 true, .g 42 (.un .not (.tmp 41)) 38 true, .o 43 (.pick (.tmp 38) (.tmp 42) (.const (.bool false)))]) (.cond (.tmp 43) (.region [.k 14 4]) .skip)) (.seq (.region [.m 45 0, .o 46 (.q 32 [45]), .m 44 46, .o 47 (.e 0 44), .o 48 (.e 1 44), .o 15 (.alloc 58 [(.int .i64 0),(.int .i64 0),(.int .i64 0),(.int .i64 0),(.slice none 0 0)]), .n (.st 5 (.tmp 15) (.tmp 47)), .m 16 48]) (.seq (.region [.o 17 (.mv (.const (.slice none 0 0)))]) (.seq (.seq (.region [.m 49 14, .o 50 (.c .eql 49 0)]) (.cond (.tmp 50) (.region [.o 51 (.ld true 5 (.tmp 15)), .m 52 1, .m 53 2, .m 54 3, .m 55 4, .o 56 (.q 33 [51,52,53,54,55]), .m 17 56]) .skip)) (.seq (.region [.m 58 0, .m 59 1, .m 60 2, .m 61 3, .m 62 4, .o 63 (.q 34 [58,59,60,61,62]), .m 57 63, .o 64 (.e 0 57), .o 65 (.e 1 57), .m 18 64, .m 19 65]) (.seq (.seq (.region [.m 66 18, .m 67 19, .m 68 17, .m 69 14, .o 70 (.q 35 [66,67,68,69]), .o 71 (.un .not (.tmp 70))]) (.cond (.tmp 71) (.seq (.region [.o 12 (.mv (.const (.bool false)))]) .ret) .skip)) (.seq (.seq (.region [.m 72 13, .o 73 (.c .eql 72 0), .m 74 73, .g 75 (.m 2) 74 true, .g 76 (.c .lss 75 2) 74 true, .g 77 (.m 76) 74 true, .g 78 (.m 5) 77 false, .g 79 (.c .lss 78 1) 77 false, .g 80 (.pick (.tmp 77) (.const (.bool true)) (.tmp 79)) 74 true, .g 81 (.m 80) 74 true, .g 82 (.m 5) 81 false, .g 83 (.m 1) 81 false, .g 84 (.n 83) 81 false, .g 85 (.b .gtr 82 84) 81 false, .g 86 (.pick (.tmp 81) (.const (.bool true)) (.tmp 85)) 74 true, .o 87 (.pick (.tmp 74) (.tmp 86) (.const (.bool false)))]) (.cond (.tmp 87) (.region [.k 13 6]) .skip)) (.seq (.region [.o 20 (.mv (.const (.slice none 0 0)))]) (.seq (.seq (.region [.m 88 13, .o 89 (.c .eql 88 0)]) (.cond (.tmp 89) (.seq (.region [.o 91 (.ld true 5 (.tmp 15)), .m 92 1, .m 93 2, .m 94 3, .m 95 5, .o 96 (.q 36 [91,92,93,94,95]), .m 90 96, .o 97 (.e 0 90), .o 98 (.e 1 90), .m 21 97, .m 22 98]) (.seq (.region [.m 99 21, .m 20 99]) (.seq (.region [.m 100 22, .o 101 (.un .not (.tmp 100))]) (.cond (.tmp 101) (.region [.k 13 9]) .skip)))) .skip)) (.seq (.region [.m 103 0, .m 104 1, .m 105 2, .m 106 3, .m 107 5, .o 108 (.q 37 [103,104,105,106,107]), .m 102 108, .o 109 (.e 0 102), .o 110 (.e 1 102), .m 23 109, .m 19 110]) (.seq (.region [.m 111 23, .m 112 19, .m 113 20, .m 114 13, .o 115 (.q 35 [111,112,113,114]), .m 12 115]) .ret)))))))))))))))
def F6:AFun:=⟨c6,6,116,[(.tmp 12)]⟩
def K6:Nat→List Nat×List Nat
 |_=>([],[])
theorem F6_ok:kj8 Try.prog K6 Try.f6=some F6:=by kernel_rfl
/- 27: syndrome/syndromeref.Same -/
def c27L0:ACode:=(.seq (.seq (.region [.m 11 5, .m 12 0, .o 13 (.n 12), .o 14 (.b .lss 11 13)]) (.cond (.tmp 14) .skip (.exit 0))) (.seq (.block 1 [0,1,5] (.seq (.region [.m 17 0, .m 18 5, .o 19 (.i 1 17 18), .o 20 (.l 19), .m 21 1, .m 22 5, .o 23 (.i 1 21 22), .o 24 (.l 23), .o 25 (.b .neq 20 24)]) (.cond (.tmp 25) (.seq (.region [.o 4 (.mv (.const (.bool false)))]) .ret) .skip))) (.region [.m 15 5, .o 16 (.c .add 15 1), .m 5 16])))
def c27:ACode:=(.seq (.region [.o 4 (.mv (.const (.bool false)))]) (.seq (.seq (.region [.m 6 0, .o 7 (.n 6), .m 8 1, .o 9 (.n 8), .o 10 (.b .neq 7 9)]) (.cond (.tmp 10) (.seq (.region [.o 4 (.mv (.const (.bool false)))]) .ret) .skip)) (.seq (.seq (.region [.k 5 0]) (.block 0 [] (.loop [0,1,5] c27L0))) (.seq (.region [.o 4 (.mv (.const (.bool true)))]) .ret))))
def F27:AFun:=⟨c27,2,26,[(.tmp 4)]⟩
def K27:Nat→List Nat×List Nat
 |0=>([0,1,5],[])
 |1=>([],[0,1,5])
 |_=>([],[])
theorem F27_ok:kj8 Try.prog K27 Try.f27=some F27:=by kernel_rfl
/- 30: syndrome/syndromelaw.wholeWord -/
def c30:ACode:=(.seq (.region [.k 8 0]) (.seq (.region [.m 10 0, .m 11 1, .m 12 2, .m 13 3, .o 14 (.q 63 [10,11,12,13]), .m 9 14]) (.seq (.seq (.region [.m 15 9, .o 16 (.c .eql 15 0), .m 17 16, .g 18 (.m 3) 17 true, .g 19 (.call 64 [(.const (.int .i64 (-1))),(.tmp 18)]) 17 true, .o 20 (.pick (.tmp 17) (.tmp 19) (.const (.bool false)))]) (.cond (.tmp 20) (.region [.k 9 2]) .skip)) (.seq (.region [.m 21 9, .m 8 21]) .ret))))
def F30:AFun:=⟨c30,4,22,[(.tmp 8)]⟩
def K30:Nat→List Nat×List Nat
 |_=>([],[])
theorem F30_ok:kj8 Try.prog K30 Try.f30=some F30:=by kernel_rfl
/- 31: syndrome/syndromeref.Few -/
def c31L0:ACode:=(.seq (.seq (.region [.m 7 6, .m 8 1, .o 9 (.b .lss 7 8)]) (.cond (.tmp 9) .skip (.exit 0))) (.seq (.block 1 [0,1,5,6] (.seq (.region [.m 12 5, .m 13 0, .o 14 (.b .mul 12 13), .m 5 14]) (.seq (.region [.m 15 5, .o 16 (.c .gtr 15 4096)]) (.cond (.tmp 16) (.seq (.region [.o 4 (.mv (.const (.bool false)))]) .ret) .skip)))) (.region [.m 10 6, .o 11 (.c .add 10 1), .m 6 11])))
def c31:ACode:=(.seq (.region [.o 4 (.mv (.const (.bool false)))]) (.seq (.region [.k 5 1]) (.seq (.seq (.region [.k 6 0]) (.block 0 [] (.loop [0,1,5,6] c31L0))) (.seq (.region [.o 4 (.mv (.const (.bool true)))]) .ret))))
def F31:AFun:=⟨c31,2,17,[(.tmp 4)]⟩
def K31:Nat→List Nat×List Nat
 |0=>([0,1,5,6],[])
 |1=>([],[0,1,5,6])
 |_=>([],[])
theorem F31_ok:kj8 Try.prog K31 Try.f31=some F31:=by kernel_rfl
/- 32: syndrome/syndromeref.Field -/
def c32L0:ACode:=(.seq (.seq (.region [.m 32 7, .m 33 0, .o 34 (.b .lss 32 33)]) (.cond (.tmp 34) .skip (.exit 0))) (.seq (.block 1 [0,2,4,5,6,7] (.seq (.region [.o 37 (.ld true 5 (.tmp 6)), .m 38 7, .o 39 (.q 66 [37,38])]) (.cond (.tmp 39) (.seq (.region [.m 40 7, .o 41 (.f 3 6), .n (.st 1 (.tmp 41) (.tmp 40))]) (.seq (.region [.o 42 (.ld true 5 (.tmp 6)), .n (.st 5 (.tmp 2) (.tmp 42)), .k 3 0]) .ret)) .skip))) (.region [.m 35 7, .o 36 (.c .add 35 1), .m 7 36])))
def c32L1:ACode:=(.seq (.seq (.region [.m 45 8, .m 46 0, .o 47 (.b .lss 45 46)]) (.cond (.tmp 47) .skip (.exit 2))) (.seq (.block 3 [0,2,4,5,6,8] (.seq (.region [.m 50 8, .m 51 4, .m 52 5, .o 53 (.q 67 [50,51,52]), .o 54 (.mkSl 3 1 1 [(.const (.int .i64 1))]), .o 55 (.app 3 1 8 (.tmp 53) (.tmp 54)), .o 56 (.f 4 6), .n (.st 1 (.tmp 56) (.tmp 55))]) (.seq (.region [.o 57 (.ld true 5 (.tmp 6)), .m 58 4, .o 59 (.q 66 [57,58])]) (.cond (.tmp 59) (.seq (.region [.o 60 (.ld true 5 (.tmp 6)), .n (.st 5 (.tmp 2) (.tmp 60)), .k 3 0]) .ret) .skip)))) (.region [.m 48 8, .o 49 (.c .add 48 1), .m 8 49])))
def c32:ACode:=(.seq (.region [.o 2 (.alloc 58 [(.int .i64 0),(.int .i64 0),(.int .i64 0),(.int .i64 0),(.slice none 0 0)]), .k 3 0]) (.seq (.seq (.region [.m 9 0, .o 10 (.c .lss 9 2), .m 11 10, .g 12 (.m 0) 11 false, .g 13 (.c .gtr 12 64) 11 false, .o 14 (.pick (.tmp 11) (.const (.bool true)) (.tmp 13))]) (.cond (.tmp 14) (.seq (.region [.o 15 (.build [(.int .i64 0),(.int .i64 0),(.int .i64 0),(.int .i64 0),(.slice none 0 0)] [(0,1),(1,1),(2,1),(3,1),(4,1)] []), .n (.st 5 (.tmp 2) (.tmp 15)), .k 3 1]) .ret) .skip)) (.seq (.region [.m 17 0, .o 18 (.q 65 [17]), .m 16 18, .o 19 (.e 0 16), .o 20 (.e 1 16), .m 4 19, .m 5 20]) (.seq (.seq (.region [.m 21 4, .o 22 (.c .eql 21 0)]) (.cond (.tmp 22) (.seq (.region [.o 23 (.build [(.int .i64 0),(.int .i64 0),(.int .i64 0),(.int .i64 0),(.slice none 0 0)] [(0,1),(1,1),(2,1),(3,1),(4,1)] []), .n (.st 5 (.tmp 2) (.tmp 23)), .k 3 1]) .ret) .skip)) (.seq (.region [.m 24 0, .m 25 4, .m 26 5, .o 27 (.build [(.int .i64 0),(.int .i64 0),(.int .i64 0),(.int .i64 0),(.slice none 0 0)] [(0,1),(1,1),(2,1),(3,1),(4,1)] [(0,(.tmp 24)),(1,(.tmp 25)),(2,(.tmp 26))]), .o 6 (.alloc 58 [(.int .i64 0),(.int .i64 0),(.int .i64 0),(.int .i64 0),(.slice none 0 0)]), .n (.st 5 (.tmp 6) (.tmp 27))]) (.seq (.seq (.region [.m 28 5, .o 29 (.c .eql 28 1)]) (.cond (.tmp 29) (.seq (.region [.o 30 (.mkSl 3 1 2 [(.const (.int .i64 0)),(.const (.int .i64 1))]), .o 31 (.f 4 6), .n (.st 1 (.tmp 31) (.tmp 30))]) (.seq (.region [.k 7 1]) (.block 0 [0,2,4,5,6] (.loop [0,2,4,5,6,7] c32L0)))) .skip)) (.seq (.region [.m 43 4, .o 44 (.f 3 6), .n (.st 1 (.tmp 44) (.tmp 43))]) (.seq (.seq (.region [.k 8 0]) (.block 2 [2] (.loop [0,2,4,5,6,8] c32L1))) (.seq (.region [.o 61 (.build [(.int .i64 0),(.int .i64 0),(.int .i64 0),(.int .i64 0),(.slice none 0 0)] [(0,1),(1,1),(2,1),(3,1),(4,1)] []), .n (.st 5 (.tmp 2) (.tmp 61)), .k 3 1]) .ret)))))))))
def F32:AFun:=⟨c32,1,62,[(.cell 2 true 5),(.tmp 3)]⟩
def K32:Nat→List Nat×List Nat
 |0=>([0,2,4,5,6,7],[0,2,4,5,6])
 |1=>([],[0,2,4,5,6,7])
 |2=>([0,2,4,5,6,8],[2])
 |3=>([],[0,2,4,5,6,8])
 |_=>([],[])
theorem F32_ok:kj8 Try.prog K32 Try.f32=some F32:=by kernel_rfl
/- 33: syndrome/syndromeref.Near -/
def c33L0:ACode:=(.seq (.seq (.region [.m 18 13]) (.cond (.tmp 18) .skip (.exit 0))) (.block 1 [1,3,4,5,11,12,13] (.seq (.region [.o 20 (.ld true 5 (.tmp 5)), .m 21 1, .m 22 3, .m 23 11, .o 24 (.q 68 [20,21,22,23]), .m 19 24, .o 25 (.e 0 19), .o 26 (.e 1 19), .m 14 25, .m 15 26]) (.seq (.seq (.region [.m 27 14, .m 28 4, .o 29 (.b .leq 27 28)]) (.cond (.tmp 29) (.region [.m 30 12, .m 31 11, .o 32 (.q 69 [31]), .o 33 (.mkSl 34 1 1 [(.tmp 32)]), .o 34 (.app 34 1 24 (.tmp 30) (.tmp 33)), .m 12 34]) .skip)) (.region [.m 35 11, .o 36 (.f 0 5), .o 37 (.l 36), .o 38 (.q 70 [35,37]), .m 13 38])))))
def c33:ACode:=(.seq (.region [.o 5 (.box 58 5 (.tmp 0)), .o 10 (.mv (.const (.slice none 0 0)))]) (.seq (.region [.m 16 2, .o 17 (.mks 3 1 8 [(.int .i64 0)] (.tmp 16) (.tmp 16)), .m 11 17]) (.seq (.region [.o 12 (.mv (.const (.slice none 0 0)))]) (.seq (.region [.o 13 (.mv (.const (.bool true)))]) (.seq (.block 0 [12] (.loop [1,3,4,5,11,12,13] c33L0)) (.seq (.region [.m 39 12, .m 10 39]) .ret))))))
def F33:AFun:=⟨c33,5,40,[(.tmp 10)]⟩
def K33:Nat→List Nat×List Nat
 |0=>([1,3,4,5,11,12,13],[12])
 |1=>([],[1,3,4,5,11,12,13])
 |_=>([],[])
theorem F33_ok:kj8 Try.prog K33 Try.f33=some F33:=by kernel_rfl
/- 34: syndrome/lists.Within -/
def c34L0:ACode:=(.seq (.region [.o 38 (.b .lss 37 36)]) (.seq (.cond (.tmp 38) .skip (.exit 2)) (.seq (.block 3 [0,1,2,3,4,13,14,15,35,36,37] (.seq (.region [.m 39 37, .o 40 (.i 1 35 37), .o 41 (.l 40), .m 16 39, .m 17 41]) (.seq (.region [.m 43 0, .m 44 14, .m 45 17, .o 46 (.q 73 [43,44,45]), .m 42 46, .o 47 (.e 0 42), .o 48 (.e 1 42), .m 18 47, .m 19 48]) (.seq (.region [.m 49 18, .m 50 3, .m 51 16, .o 52 (.i 1 50 51), .o 53 (.l 52), .o 54 (.b .neq 49 53)]) (.cond (.tmp 54) (.region [.m 55 15, .o 56 (.c .add 55 1), .m 15 56]) .skip))))) (.region [.o 57 (.c .add 37 1), .m 37 57]))))
def c34L1:ACode:=(.seq (.seq (.region [.m 68 20, .o 69 (.c .geq 68 0)]) (.cond (.tmp 69) .skip (.exit 4))) (.seq (.block 5 [0,1,2,3,4,13,14,20] (.seq (.seq (.region [.m 72 14, .m 73 20, .o 74 (.i 1 72 73), .o 75 (.l 74), .o 76 (.c .add 75 1), .o 77 (.i 1 72 73), .n (.st 1 (.tmp 77) (.tmp 76))]) (.seq (.region [.m 78 14, .m 79 20, .o 80 (.i 1 78 79), .o 81 (.l 80), .m 82 0, .o 83 (.b .lss 81 82)]) (.cond (.tmp 83) (.exit 4) .skip))) (.region [.m 84 14, .m 85 20, .o 86 (.i 1 84 85), .n (.st 1 (.tmp 86) (.const (.int .i64 0)))]))) (.region [.m 70 20, .o 71 (.c .sub 70 1), .m 20 71])))
def c34L2:ACode:=(.block 1 [0,1,2,3,4,13,14] (.seq (.region [.k 15 0]) (.seq (.seq (.region [.m 35 1, .o 36 (.n 35), .k 37 0]) (.block 2 [0,1,2,3,4,13,14,15] (.loop [0,1,2,3,4,13,14,15,35,36,37] c34L0))) (.seq (.seq (.region [.m 58 15, .m 59 4, .o 60 (.b .leq 58 59)]) (.cond (.tmp 60) (.region [.m 61 13, .m 62 14, .o 63 (.q 74 [62]), .o 64 (.mkSl 34 1 1 [(.tmp 63)]), .o 65 (.app 34 1 24 (.tmp 61) (.tmp 64)), .m 13 65]) .skip)) (.seq (.region [.m 66 2, .o 67 (.c .sub 66 1), .m 20 67]) (.seq (.block 4 [0,1,2,3,4,13,14,20] (.loop [0,1,2,3,4,13,14,20] c34L1)) (.seq (.region [.m 87 20, .o 88 (.c .lss 87 0)]) (.cond (.tmp 88) (.seq (.region [.m 89 13, .m 10 89, .k 11 0]) .ret) .skip))))))))
def c34:ACode:=(.seq (.region [.o 10 (.mv (.const (.slice none 0 0))), .k 11 0]) (.seq (.seq (.region [.m 21 0, .m 22 1, .m 23 2, .m 24 3, .o 25 (.q 71 [21,22,23,24]), .m 12 25]) (.seq (.region [.m 26 12, .o 27 (.c .neq 26 0)]) (.cond (.tmp 27) (.seq (.region [.m 28 12, .o 10 (.mv (.const (.slice none 0 0))), .m 11 28]) .ret) .skip))) (.seq (.seq (.region [.m 29 0, .m 30 2, .o 31 (.q 72 [29,30]), .o 32 (.un .not (.tmp 31))]) (.cond (.tmp 32) (.seq (.region [.o 10 (.mv (.const (.slice none 0 0))), .k 11 4]) .ret) .skip)) (.seq (.region [.o 13 (.mv (.const (.slice none 0 0)))]) (.seq (.region [.m 33 2, .o 34 (.mks 3 1 8 [(.int .i64 0)] (.tmp 33) (.tmp 33)), .m 14 34]) (.block 0 [] (.loop [0,1,2,3,4,13,14] c34L2)))))))
def F34:AFun:=⟨c34,5,90,[(.tmp 10),(.tmp 11)]⟩
def K34:Nat→List Nat×List Nat
 |0=>([0,1,2,3,4,13,14],[])
 |1=>([],[0,1,2,3,4,13,14])
 |2=>([0,1,2,3,4,13,14,15,35,36,37],[0,1,2,3,4,13,14,15])
 |3=>([],[0,1,2,3,4,13,14,15,35,36,37])
 |4=>([0,1,2,3,4,13,14,20],[0,1,2,3,4,13,14,20])
 |5=>([],[0,1,2,3,4,13,14,20])
 |_=>([],[])
theorem F34_ok:kj8 Try.prog K34 Try.f34=some F34:=by kernel_rfl
/- 35: syndrome/syndromelaw.lists -/
def c35:ACode:=(.seq (.region [.o 8 (.mv (.const (.bool false)))]) (.seq (.seq (.region [.m 9 3, .o 10 (.c .neq 9 0)]) (.cond (.tmp 10) (.seq (.region [.m 11 1, .m 12 3, .o 13 (.b .eql 11 12), .m 14 13, .g 15 (.m 0) 14 true, .g 16 (.n 15) 14 true, .g 17 (.c .eql 16 0) 14 true, .o 18 (.pick (.tmp 14) (.tmp 17) (.const (.bool false))), .m 8 18]) .ret) .skip)) (.seq (.region [.m 19 1, .o 20 (.c .eql 19 0), .m 21 20, .g 22 (.m 0) 21 true, .g 23 (.m 2) 21 true, .g 24 (.q 50 [22,23]) 21 true, .o 25 (.pick (.tmp 21) (.tmp 24) (.const (.bool false))), .m 8 25]) .ret)))
def F35:AFun:=⟨c35,4,26,[(.tmp 8)]⟩
def K35:Nat→List Nat×List Nat
 |_=>([],[])
theorem F35_ok:kj8 Try.prog K35 Try.f35=some F35:=by kernel_rfl
/- 36: syndrome/syndromeref.Sudan -/
def c36L0:ACode:=(.seq (.seq (.region [.m 33 14, .m 34 13, .m 35 2, .o 36 (.c .sub 35 1), .o 37 (.b .mul 34 36), .o 38 (.b .add 33 37), .m 39 4, .o 40 (.b .lss 38 39), .m 41 40, .g 42 (.m 12) 41 true, .g 43 (.n 42) 41 true, .g 44 (.c .lss 43 64) 41 true, .o 45 (.pick (.tmp 41) (.tmp 44) (.const (.bool false)))]) (.cond (.tmp 45) .skip (.exit 2))) (.seq (.block 3 [1,2,3,4,5,12,13,14] (.region [.m 48 12, .m 49 14, .m 50 13, .o 51 (.mkSl 3 1 2 [(.tmp 49),(.tmp 50)]), .o 52 (.mkSl 34 1 1 [(.tmp 51)]), .o 53 (.app 34 1 24 (.tmp 48) (.tmp 52)), .m 12 53])) (.region [.m 46 14, .o 47 (.c .add 46 1), .m 14 47])))
def c36L1:ACode:=(.seq (.seq (.region [.m 25 13, .m 26 2, .o 27 (.c .sub 26 1), .o 28 (.b .mul 25 27), .m 29 4, .o 30 (.b .lss 28 29)]) (.cond (.tmp 30) .skip (.exit 0))) (.seq (.block 1 [1,2,3,4,5,12,13] (.seq (.region [.k 14 0]) (.block 2 [1,2,3,4,5,12,13] (.loop [1,2,3,4,5,12,13,14] c36L0)))) (.region [.m 31 13, .o 32 (.c .add 31 1), .m 13 32])))
def c36L2:ACode:=(.seq (.seq (.region [.m 60 18, .m 61 12, .o 62 (.n 61), .o 63 (.b .lss 60 62)]) (.cond (.tmp 63) .skip (.exit 6))) (.seq (.block 7 [1,3,5,12,15,16,17,18] (.seq (.region [.o 66 (.ld true 5 (.tmp 5)), .m 67 1, .m 68 16, .o 69 (.i 1 67 68), .o 70 (.l 69), .m 71 12, .m 72 18, .o 73 (.i 1 71 72), .o 74 (.l 73), .o 75 (.iaddr 1 (.tmp 74) (.const (.int .i64 0))), .o 76 (.l 75), .o 77 (.q 75 [66,70,76]), .m 19 77]) (.seq (.region [.o 78 (.ld true 5 (.tmp 5)), .m 79 3, .m 80 16, .o 81 (.i 1 79 80), .o 82 (.l 81), .m 83 12, .m 84 18, .o 85 (.i 1 83 84), .o 86 (.l 85), .o 87 (.iaddr 1 (.tmp 86) (.const (.int .i64 1))), .o 88 (.l 87), .o 89 (.q 75 [78,82,88]), .m 20 89]) (.region [.m 90 17, .o 91 (.ld true 5 (.tmp 5)), .m 92 19, .m 93 20, .o 94 (.q 76 [91,92,93]), .o 95 (.mkSl 3 1 1 [(.tmp 94)]), .o 96 (.app 3 1 8 (.tmp 90) (.tmp 95)), .m 17 96])))) (.region [.m 64 18, .o 65 (.c .add 64 1), .m 18 65])))
def c36L3:ACode:=(.seq (.seq (.region [.m 54 16, .m 55 1, .o 56 (.n 55), .o 57 (.b .lss 54 56)]) (.cond (.tmp 57) .skip (.exit 4))) (.seq (.block 5 [1,3,5,12,15,16] (.seq (.region [.o 17 (.mv (.const (.slice none 0 0)))]) (.seq (.seq (.region [.k 18 0]) (.block 6 [1,3,5,12,15,16,17] (.loop [1,3,5,12,15,16,17,18] c36L2))) (.region [.m 97 15, .m 98 17, .o 99 (.mkSl 34 1 1 [(.tmp 98)]), .o 100 (.app 34 1 24 (.tmp 97) (.tmp 99)), .m 15 100])))) (.region [.m 58 16, .o 59 (.c .add 58 1), .m 16 59])))
def c36L4:ACode:=(.seq (.seq (.region [.m 109 23, .m 110 12, .o 111 (.n 110), .o 112 (.b .lss 109 111)]) (.cond (.tmp 112) .skip (.exit 8))) (.seq (.block 9 [12,21,22,23] (.seq (.seq (.region [.m 115 12, .m 116 23, .o 117 (.i 1 115 116), .o 118 (.l 117), .o 119 (.iaddr 1 (.tmp 118) (.const (.int .i64 1))), .o 120 (.l 119), .m 121 22, .o 122 (.n 121), .o 123 (.b .eql 120 122)]) (.cond (.tmp 123) (.region [.m 124 22, .o 125 (.mkSl 34 1 1 [(.const (.slice none 0 0))]), .o 126 (.app 34 1 24 (.tmp 124) (.tmp 125)), .m 22 126]) .skip)) (.seq (.region [.m 127 12, .m 128 23, .o 129 (.i 1 127 128), .o 130 (.l 129), .o 131 (.iaddr 1 (.tmp 130) (.const (.int .i64 1))), .o 132 (.l 131), .m 24 132]) (.region [.m 133 22, .m 134 24, .m 135 22, .m 136 24, .o 137 (.i 1 135 136), .o 138 (.l 137), .m 139 21, .o 140 (.iaddr 1 (.tmp 139) (.const (.int .i64 0))), .o 141 (.l 140), .m 142 23, .o 143 (.i 1 141 142), .o 144 (.l 143), .o 145 (.mkSl 3 1 1 [(.tmp 144)]), .o 146 (.app 3 1 8 (.tmp 138) (.tmp 145)), .o 147 (.i 1 133 134), .n (.st 1 (.tmp 147) (.tmp 146))])))) (.region [.m 113 23, .o 114 (.c .add 113 1), .m 23 114])))
def c36:ACode:=(.seq (.region [.o 5 (.box 58 5 (.tmp 0)), .o 10 (.mv (.const (.slice none 0 0))), .o 11 (.mv (.const (.bool false)))]) (.seq (.region [.o 12 (.mv (.const (.slice none 0 0)))]) (.seq (.seq (.region [.k 13 0]) (.block 0 [1,3,5,12] (.loop [1,2,3,4,5,12,13] c36L1))) (.seq (.region [.o 15 (.mv (.const (.slice none 0 0)))]) (.seq (.seq (.region [.k 16 0]) (.block 4 [5,12,15] (.loop [1,3,5,12,15,16] c36L3))) (.seq (.region [.o 101 (.ld true 5 (.tmp 5)), .m 102 15, .m 103 12, .o 104 (.n 103), .o 105 (.q 77 [101,102,104]), .m 21 105]) (.seq (.seq (.region [.m 106 21, .o 107 (.n 106), .o 108 (.c .eql 107 0)]) (.cond (.tmp 108) (.seq (.region [.o 10 (.mv (.const (.slice none 0 0))), .o 11 (.mv (.const (.bool false)))]) .ret) .skip)) (.seq (.region [.o 22 (.mv (.const (.slice none 0 0)))]) (.seq (.seq (.region [.k 23 0]) (.block 8 [22] (.loop [12,21,22,23] c36L4))) (.seq (.region [.m 148 22, .m 10 148, .o 11 (.mv (.const (.bool true)))]) .ret))))))))))
def F36:AFun:=⟨c36,5,149,[(.tmp 10),(.tmp 11)]⟩
def K36:Nat→List Nat×List Nat
 |0=>([1,2,3,4,5,12,13],[1,3,5,12])
 |1=>([],[1,2,3,4,5,12,13])
 |2=>([1,2,3,4,5,12,13,14],[1,2,3,4,5,12,13])
 |3=>([],[1,2,3,4,5,12,13,14])
 |4=>([1,3,5,12,15,16],[5,12,15])
 |5=>([],[1,3,5,12,15,16])
 |6=>([1,3,5,12,15,16,17,18],[1,3,5,12,15,16,17])
 |7=>([],[1,3,5,12,15,16,17,18])
 |8=>([12,21,22,23],[22])
 |9=>([],[12,21,22,23])
 |_=>([],[])
theorem F36_ok:kj8 Try.prog K36 Try.f36=some F36:=by kernel_rfl
/- 37: syndrome/lists.Sudan -/
def c37L0:ACode:=(.seq (.region [.o 70 (.b .lss 69 68)]) (.seq (.cond (.tmp 70) .skip (.exit 2)) (.seq (.block 3 [0,3,13,14,16,17,18,19,60,61,62,67,68,69] (.seq (.region [.o 71 (.i 2 67 69), .o 72 (.ld true 2 (.tmp 71)), .o 21 (.alloc 107 [(.int .i64 0),(.int .i64 0)]), .n (.st 2 (.tmp 21) (.tmp 72))]) (.region [.m 73 19, .m 74 14, .m 75 14, .m 76 18, .o 77 (.iaddrA 2 1 (.tmp 21) (.const (.int .i64 0))), .o 78 (.l 77),⟨(some 79),(.call 79 [(.tmp 75),(.tmp 76),(.tmp 78)]),none,true⟩, .m 80 14, .m 81 3, .m 82 17, .o 83 (.i 1 81 82),⟨(some 84),(.ld false 1 (.tmp 83)),none,true⟩, .o 85 (.iaddrA 2 1 (.tmp 21) (.const (.int .i64 1))),⟨(some 86),(.ld false 1 (.tmp 85)),none,true⟩, .o 87 (.q 79 [80,84,86]), .o 88 (.q 60 [74,79,87]), .o 89 (.mkSl 3 1 1 [(.tmp 88)]), .o 90 (.app 3 1 8 (.tmp 73) (.tmp 89)), .m 19 90]))) (.region [.o 91 (.c .add 69 1), .m 69 91]))))
def c37L1:ACode:=(.seq (.region [.o 63 (.b .lss 62 61)]) (.seq (.cond (.tmp 63) .skip (.exit 0)) (.seq (.block 1 [0,3,13,14,16,60,61,62] (.seq (.region [.m 64 62, .o 65 (.i 1 60 62), .o 66 (.l 65), .m 17 64, .m 18 66]) (.seq (.region [.o 19 (.mv (.const (.slice none 0 0)))]) (.seq (.seq (.region [.m 67 13, .o 68 (.n 67), .k 69 0]) (.block 2 [0,3,13,14,16,19,60,61,62] (.loop [0,3,13,14,16,17,18,19,60,61,62,67,68,69] c37L0))) (.region [.m 92 16, .m 93 19, .o 94 (.mkSl 34 1 1 [(.tmp 93)]), .o 95 (.app 34 1 24 (.tmp 92) (.tmp 94)), .m 16 95]))))) (.region [.o 96 (.c .add 62 1), .m 62 96]))))
def c37L2:ACode:=(.seq (.region [.o 109 (.b .lss 108 107)]) (.seq (.cond (.tmp 109) .skip (.exit 4)) (.seq (.block 5 [22,24,106,107,108] (.seq (.region [.m 110 108, .o 111 (.i 2 106 108), .o 112 (.ld true 2 (.tmp 111)), .o 26 (.alloc 107 [(.int .i64 0),(.int .i64 0)]), .m 25 110, .n (.st 2 (.tmp 26) (.tmp 112))]) (.seq (.seq (.region [.o 113 (.iaddrA 2 1 (.tmp 26) (.const (.int .i64 1))), .o 114 (.l 113), .m 115 24, .o 116 (.n 115), .o 117 (.b .eql 114 116)]) (.cond (.tmp 117) (.region [.m 118 24, .o 119 (.mkSl 34 1 1 [(.const (.slice none 0 0))]), .o 120 (.app 34 1 24 (.tmp 118) (.tmp 119)), .m 24 120]) .skip)) (.region [.m 121 24, .o 122 (.iaddrA 2 1 (.tmp 26) (.const (.int .i64 1))), .o 123 (.ldb false 1 (.tmp 122)), .m 124 24, .o 125 (.iaddrA 2 1 (.tmp 26) (.const (.int .i64 1))), .o 126 (.l 125), .o 127 (.i 1 124 126), .o 128 (.l 127), .m 129 22, .o 130 (.iaddr 1 (.tmp 129) (.const (.int .i64 0))), .o 131 (.l 130), .m 132 25, .o 133 (.i 1 131 132), .o 134 (.l 133), .o 135 (.mkSl 3 1 1 [(.tmp 134)]), .o 136 (.app 3 1 8 (.tmp 128) (.tmp 135)), .o 137 (.i 1 121 123), .n (.st 1 (.tmp 137) (.tmp 136))])))) (.region [.o 138 (.c .add 108 1), .m 108 138]))))
def c37:ACode:=(.seq (.region [.o 10 (.mv (.const (.slice none 0 0))), .k 11 0]) (.seq (.seq (.region [.m 27 0, .m 28 1, .m 29 2, .m 30 3, .o 31 (.q 71 [27,28,29,30]), .m 12 31]) (.seq (.region [.m 32 12, .o 33 (.c .neq 32 0)]) (.cond (.tmp 33) (.seq (.region [.m 34 12, .o 10 (.mv (.const (.slice none 0 0))), .m 11 34]) .ret) .skip))) (.seq (.seq (.region [.m 35 2, .o 36 (.c .lss 35 2), .m 37 36, .g 38 (.m 4) 37 false, .g 39 (.c .lss 38 1) 37 false, .o 40 (.pick (.tmp 37) (.const (.bool true)) (.tmp 39)), .m 41 40, .g 42 (.m 4) 41 false, .g 43 (.m 1) 41 false, .g 44 (.n 43) 41 false, .g 45 (.b .gtr 42 44) 41 false, .o 46 (.pick (.tmp 41) (.const (.bool true)) (.tmp 45))]) (.cond (.tmp 46) (.seq (.region [.o 10 (.mv (.const (.slice none 0 0))), .k 11 6]) .ret) .skip)) (.seq (.region [.m 47 2, .m 48 4, .o 49 (.q 78 [47,48]), .m 13 49]) (.seq (.seq (.region [.m 50 13, .o 51 (.n 50), .o 52 (.c .gtr 51 64)]) (.cond (.tmp 52) (.region [.m 53 13, .o 54 (.sl 2 (.tmp 53) none (some (.const (.int .i64 64)))), .m 13 54]) .skip)) (.seq (.region [.m 56 0, .o 57 (.q 51 [56]), .m 55 57, .o 58 (.e 0 55), .o 59 (.e 1 55), .m 14 58, .m 15 59]) (.seq (.region [.o 16 (.mv (.const (.slice none 0 0)))]) (.seq (.seq (.region [.m 60 1, .o 61 (.n 60), .k 62 0]) (.block 0 [0,13,16] (.loop [0,3,13,14,16,60,61,62] c37L1))) (.seq (.region [.m 98 0, .m 99 16, .o 100 (.q 49 [98,99]), .m 97 100, .o 101 (.e 0 97), .o 102 (.e 1 97), .m 22 101, .m 23 102]) (.seq (.seq (.region [.m 103 22, .o 104 (.n 103), .o 105 (.c .eql 104 0)]) (.cond (.tmp 105) (.seq (.region [.o 10 (.mv (.const (.slice none 0 0))), .k 11 9]) .ret) .skip)) (.seq (.region [.o 24 (.mv (.const (.slice none 0 0)))]) (.seq (.seq (.region [.m 106 13, .o 107 (.n 106), .k 108 0]) (.block 4 [24] (.loop [22,24,106,107,108] c37L2))) (.seq (.region [.m 139 24, .m 10 139, .k 11 0]) .ret)))))))))))))
def F37:AFun:=⟨c37,5,140,[(.tmp 10),(.tmp 11)]⟩
def K37:Nat→List Nat×List Nat
 |0=>([0,3,13,14,16,60,61,62],[0,13,16])
 |1=>([],[0,3,13,14,16,60,61,62])
 |2=>([0,3,13,14,16,17,18,19,60,61,62,67,68,69],[0,3,13,14,16,19,60,61,62])
 |3=>([],[0,3,13,14,16,17,18,19,60,61,62,67,68,69])
 |4=>([22,24,106,107,108],[24])
 |5=>([],[22,24,106,107,108])
 |_=>([],[])
theorem F37_ok:kj8 Try.prog K37 Try.f37=some F37:=by kernel_rfl
/- 45: syndrome/matrix.Reduce -/
def c45L0:ACode:=(.seq (.region [.o 92 (.b .lss 91 90)]) (.seq (.cond (.tmp 92) .skip (.exit 2)) (.seq (.block 3 [1,5,8,10,11,90,91] (.seq (.region [.m 93 91, .m 13 93]) (.seq (.region [.m 94 13, .m 95 11, .o 96 (.b .neq 94 95), .m 97 96, .g 98 (.m 1) 97 true, .g 99 (.m 13) 97 true, .g 100 (.i 1 98 99) 97 true, .g 101 (.l 100) 97 true, .g 102 (.l 10) 97 true, .g 103 (.i 1 101 102) 97 true, .g 104 (.l 103) 97 true, .g 105 (.c .neq 104 0) 97 true, .o 106 (.pick (.tmp 97) (.tmp 105) (.const (.bool false)))]) (.cond (.tmp 106) (.region [.m 107 8, .m 108 1, .m 109 13, .o 110 (.i 1 108 109), .o 111 (.l 110), .m 112 1, .m 113 11, .o 114 (.i 1 112 113), .o 115 (.l 114), .m 116 1, .m 117 13, .o 118 (.i 1 116 117), .o 119 (.l 118), .o 120 (.l 10), .o 121 (.i 1 119 120), .o 122 (.l 121), .o 123 (.q 89 [107,111,115,122])]) .skip)))) (.region [.o 124 (.c .add 91 1), .m 91 124]))))
def c45L1:ACode:=(.seq (.seq (.region [.o 32 (.l 10), .m 33 1, .o 34 (.iaddr 1 (.tmp 33) (.const (.int .i64 0))), .o 35 (.l 34), .o 36 (.n 35), .o 37 (.b .lss 32 36), .m 38 37, .g 39 (.m 5) 38 true, .g 40 (.n 39) 38 true, .g 41 (.m 1) 38 true, .g 42 (.n 41) 38 true, .g 43 (.b .lss 40 42) 38 true, .o 44 (.pick (.tmp 38) (.tmp 43) (.const (.bool false)))]) (.cond (.tmp 44) .skip (.exit 0))) (.seq (.block 1 [1,5,8,10] (.seq (.region [.m 47 5, .o 48 (.n 47), .m 11 48]) (.seq (.region [.m 49 1, .m 50 11, .o 51 (.sl 1 (.tmp 49) (some (.tmp 50)) none), .o 52 (.mkf 86 [(.tmp 10)]), .o 53 (.q 85 [51,52]), .m 12 53]) (.seq (.seq (.region [.m 54 12, .o 55 (.c .lss 54 0)]) (.cond (.tmp 55) (.exit 1) .skip)) (.seq (.region [.m 56 1, .m 57 11, .m 58 1, .m 59 11, .m 60 12, .o 61 (.b .add 59 60), .m 62 1, .m 63 11, .m 64 12, .o 65 (.b .add 63 64), .o 66 (.i 1 62 65), .o 67 (.l 66), .m 68 1, .m 69 11, .o 70 (.i 1 68 69), .o 71 (.l 70), .o 72 (.i 1 56 57), .n (.st 1 (.tmp 72) (.tmp 67)), .o 73 (.i 1 58 61), .n (.st 1 (.tmp 73) (.tmp 71))]) (.seq (.region [.m 74 8, .m 75 1, .m 76 11, .o 77 (.i 1 75 76), .o 78 (.l 77), .m 79 8, .m 80 1, .m 81 11, .o 82 (.i 1 80 81), .o 83 (.l 82), .o 84 (.l 10), .o 85 (.i 1 83 84), .o 86 (.l 85),⟨(some 87),(.call 88 [(.tmp 79),(.tmp 86)]),none,true⟩, .o 88 (.q 87 [74,78,87])]) (.seq (.seq (.region [.m 89 1, .o 90 (.n 89), .k 91 0]) (.block 2 [1,5,8,10] (.loop [1,5,8,10,11,90,91] c45L0))) (.region [.m 125 5, .o 126 (.l 10), .o 127 (.mkSl 3 1 1 [(.tmp 126)]), .o 128 (.app 3 1 8 (.tmp 125) (.tmp 127)), .m 5 128])))))))) (.seq (.seq (.region [.o 129 (.l 10)]) (.region [.o 10 (.alloc 3 [(.int .i64 0)]), .n (.st 1 (.tmp 10) (.tmp 129))])) (.region [.o 45 (.l 10), .o 46 (.c .add 45 1), .n (.st 1 (.tmp 10) (.tmp 46))]))))
def c45:ACode:=(.seq (.region [.o 4 (.mv (.const (.slice none 0 0))), .o 5 (.mv (.const (.slice none 0 0))), .k 6 0]) (.seq (.seq (.region [.m 14 0, .m 15 1, .o 16 (.q 83 [14,15]), .m 7 16]) (.seq (.region [.m 17 7, .o 18 (.c .neq 17 0), .m 19 18, .g 20 (.m 1) 19 false, .g 21 (.n 20) 19 false, .g 22 (.c .eql 21 0) 19 false, .o 23 (.pick (.tmp 19) (.const (.bool true)) (.tmp 22))]) (.cond (.tmp 23) (.seq (.region [.m 24 7, .o 4 (.mv (.const (.slice none 0 0))), .o 5 (.mv (.const (.slice none 0 0))), .m 6 24]) .ret) .skip))) (.seq (.region [.m 26 0, .o 27 (.q 51 [26]), .m 25 27, .o 28 (.e 0 25), .o 29 (.e 1 25), .m 8 28, .m 9 29]) (.seq (.region [.m 30 1, .o 31 (.q 84 [30]), .m 1 31]) (.seq (.seq (.region [.o 10 (.alloc 3 [(.int .i64 0)]), .n (.st 1 (.tmp 10) (.const (.int .i64 0)))]) (.block 0 [1,5] (.loop [1,5,8,10] c45L1))) (.seq (.region [.m 130 1, .m 131 5, .o 132 (.n 131), .m 133 5, .o 134 (.n 133), .o 135 (.sl3 (.tmp 130) (.tmp 132) (.tmp 134)), .m 136 5, .m 4 135, .m 5 136, .k 6 0]) .ret))))))
def F45:AFun:=⟨c45,2,137,[(.tmp 4),(.tmp 5),(.tmp 6)]⟩
def K45:Nat→List Nat×List Nat
 |0=>([1,5,8,10],[1,5])
 |1=>([],[1,5,8,10])
 |2=>([1,5,8,10,11,90,91],[1,5,8,10])
 |3=>([],[1,5,8,10,11,90,91])
 |_=>([],[])
theorem F45_ok:kj8 Try.prog K45 Try.f45=some F45:=by kernel_rfl
/- 46: (syndrome/syndromeref.F).Reduce -/
def c46L0:ACode:=(.seq (.seq (.region [.m 27 10, .m 28 6, .o 29 (.n 28), .o 30 (.b .lss 27 29)]) (.cond (.tmp 30) .skip (.exit 2))) (.seq (.block 3 [1,2,6,7,8,9,10] (.region [.o 33 (.ld true 5 (.tmp 2)), .m 34 9, .m 35 6, .m 36 10, .o 37 (.i 1 35 36), .o 38 (.l 37), .m 39 9, .m 40 7, .m 41 10, .o 42 (.i 1 40 41), .o 43 (.l 42), .o 44 (.i 1 39 43), .o 45 (.l 44), .o 46 (.q 90 [33,34,38,45]), .m 9 46])) (.region [.m 31 10, .o 32 (.c .add 31 1), .m 10 32])))
def c46L1:ACode:=(.seq (.seq (.region [.m 47 11, .m 48 9, .o 49 (.n 48), .o 50 (.b .lss 47 49), .m 51 50, .g 52 (.m 9) 51 true, .g 53 (.m 11) 51 true, .g 54 (.i 1 52 53) 51 true, .g 55 (.l 54) 51 true, .g 56 (.c .eql 55 0) 51 true, .o 57 (.pick (.tmp 51) (.tmp 56) (.const (.bool false)))]) (.cond (.tmp 57) .skip (.exit 4))) (.block 5 [1,2,6,7,8,9,11] (.region [.m 58 11, .o 59 (.c .add 58 1), .m 11 59])))
def c46L2:ACode:=(.seq (.seq (.region [.m 70 13, .m 71 9, .o 72 (.n 71), .o 73 (.b .lss 70 72)]) (.cond (.tmp 73) .skip (.exit 6))) (.seq (.block 7 [1,2,6,7,8,9,11,12,13] (.region [.m 76 9, .m 77 13, .o 78 (.ld true 5 (.tmp 2)), .m 79 9, .m 80 13, .o 81 (.i 1 79 80), .o 82 (.l 81), .m 83 12, .o 84 (.q 76 [78,82,83]), .o 85 (.i 1 76 77), .n (.st 1 (.tmp 85) (.tmp 84))])) (.region [.m 74 13, .o 75 (.c .add 74 1), .m 13 75])))
def c46L3:ACode:=(.seq (.seq (.region [.m 86 14, .m 87 6, .o 88 (.n 87), .o 89 (.b .lss 86 88)]) (.cond (.tmp 89) .skip (.exit 8))) (.seq (.block 9 [1,2,6,7,8,9,11,14] (.region [.m 92 6, .m 93 14, .o 94 (.ld true 5 (.tmp 2)), .m 95 6, .m 96 14, .o 97 (.i 1 95 96), .o 98 (.l 97), .m 99 9, .m 100 6, .m 101 14, .o 102 (.i 1 100 101), .o 103 (.l 102), .m 104 11, .o 105 (.i 1 103 104), .o 106 (.l 105), .o 107 (.q 90 [94,98,99,106]), .o 108 (.i 1 92 93), .n (.st 1 (.tmp 108) (.tmp 107))])) (.region [.m 90 14, .o 91 (.c .add 90 1), .m 14 91])))
def c46L4:ACode:=(.seq (.seq (.region [.m 109 15, .m 110 6, .o 111 (.n 110), .o 112 (.b .lss 109 111), .m 113 112, .g 114 (.m 7) 113 true, .g 115 (.m 15) 113 true, .g 116 (.i 1 114 115) 113 true, .g 117 (.l 116) 113 true, .g 118 (.m 11) 113 true, .g 119 (.b .lss 117 118) 113 true, .o 120 (.pick (.tmp 113) (.tmp 119) (.const (.bool false)))]) (.cond (.tmp 120) .skip (.exit 10))) (.block 11 [1,2,6,7,8,9,11,15] (.region [.m 121 15, .o 122 (.c .add 121 1), .m 15 122])))
def c46L5:ACode:=(.seq (.seq (.region [.m 16 8, .m 17 1, .o 18 (.n 17), .o 19 (.b .lss 16 18)]) (.cond (.tmp 19) .skip (.exit 0))) (.seq (.block 1 [1,2,6,7,8] (.seq (.region [.m 22 1, .m 23 8, .o 24 (.i 1 22 23), .o 25 (.l 24), .o 26 (.q 69 [25]), .m 9 26]) (.seq (.seq (.region [.k 10 0]) (.block 2 [1,2,6,7,8,9] (.loop [1,2,6,7,8,9,10] c46L0))) (.seq (.region [.k 11 0]) (.seq (.block 4 [1,2,6,7,8,9,11] (.loop [1,2,6,7,8,9,11] c46L1)) (.seq (.seq (.region [.m 60 11, .m 61 9, .o 62 (.n 61), .o 63 (.b .eql 60 62)]) (.cond (.tmp 63) (.exit 1) .skip)) (.seq (.region [.o 64 (.ld true 5 (.tmp 2)), .m 65 9, .m 66 11, .o 67 (.i 1 65 66), .o 68 (.l 67), .o 69 (.q 91 [64,68]), .m 12 69]) (.seq (.seq (.region [.k 13 0]) (.block 6 [1,2,6,7,8,9,11] (.loop [1,2,6,7,8,9,11,12,13] c46L2))) (.seq (.seq (.region [.k 14 0]) (.block 8 [1,2,6,7,8,9,11] (.loop [1,2,6,7,8,9,11,14] c46L3))) (.seq (.region [.k 15 0]) (.seq (.block 10 [1,2,6,7,8,9,11,15] (.loop [1,2,6,7,8,9,11,15] c46L4)) (.seq (.region [.o 123 (.mkSl 34 1 0 []), .m 124 6, .m 125 15, .o 126 (.sl 1 (.tmp 124) none (some (.tmp 125))), .o 127 (.app 34 1 24 (.tmp 123) (.tmp 126)), .m 128 9, .o 129 (.mkSl 34 1 1 [(.tmp 128)]), .o 130 (.app 34 1 24 (.tmp 127) (.tmp 129)), .m 131 6, .m 132 15, .o 133 (.sl 1 (.tmp 131) (some (.tmp 132)) none), .o 134 (.app 34 1 24 (.tmp 130) (.tmp 133)), .m 6 134]) (.region [.o 135 (.mkSl 3 1 0 []), .m 136 7, .m 137 15, .o 138 (.sl 1 (.tmp 136) none (some (.tmp 137))), .o 139 (.app 3 1 8 (.tmp 135) (.tmp 138)), .m 140 11, .o 141 (.mkSl 3 1 1 [(.tmp 140)]), .o 142 (.app 3 1 8 (.tmp 139) (.tmp 141)), .m 143 7, .m 144 15, .o 145 (.sl 1 (.tmp 143) (some (.tmp 144)) none), .o 146 (.app 3 1 8 (.tmp 142) (.tmp 145)), .m 7 146]))))))))))))) (.region [.m 20 8, .o 21 (.c .add 20 1), .m 8 21])))
def c46:ACode:=(.seq (.region [.o 2 (.box 58 5 (.tmp 0)), .o 4 (.mv (.const (.slice none 0 0))), .o 5 (.mv (.const (.slice none 0 0)))]) (.seq (.region [.o 6 (.mv (.const (.slice none 0 0)))]) (.seq (.region [.o 7 (.mv (.const (.slice none 0 0)))]) (.seq (.seq (.region [.k 8 0]) (.block 0 [6,7] (.loop [1,2,6,7,8] c46L5))) (.seq (.region [.m 147 6, .m 148 7, .m 4 147, .m 5 148]) .ret)))))
def F46:AFun:=⟨c46,2,149,[(.tmp 4),(.tmp 5)]⟩
def K46:Nat→List Nat×List Nat
 |0=>([1,2,6,7,8],[6,7])
 |1=>([],[1,2,6,7,8])
 |2=>([1,2,6,7,8,9,10],[1,2,6,7,8,9])
 |3=>([],[1,2,6,7,8,9,10])
 |4=>([1,2,6,7,8,9,11],[1,2,6,7,8,9,11])
 |5=>([],[1,2,6,7,8,9,11])
 |6=>([1,2,6,7,8,9,11,12,13],[1,2,6,7,8,9,11])
 |7=>([],[1,2,6,7,8,9,11,12,13])
 |8=>([1,2,6,7,8,9,11,14],[1,2,6,7,8,9,11])
 |9=>([],[1,2,6,7,8,9,11,14])
 |10=>([1,2,6,7,8,9,11,15],[1,2,6,7,8,9,11,15])
 |11=>([],[1,2,6,7,8,9,11,15])
 |_=>([],[])
theorem F46_ok:kj8 Try.prog K46 Try.f46=some F46:=by kernel_rfl
/- 49: syndrome/matrix.Null -/
def c49L0:ACode:=(.seq (.region [.o 57 (.b .lss 56 55)]) (.seq (.cond (.tmp 57) .skip (.exit 2)) (.seq (.block 3 [0,1,6,7,9,11,12,13,39,40,54,55,56] (.seq (.region [.m 58 56, .o 59 (.i 1 54 56), .o 60 (.l 59), .m 14 58, .m 15 60]) (.region [.m 61 13, .m 62 15, .m 63 9, .m 64 6, .m 65 14, .o 66 (.i 1 64 65), .o 67 (.l 66), .m 68 12, .o 69 (.i 1 67 68), .o 70 (.l 69), .o 71 (.q 92 [63,70]), .o 72 (.i 1 61 62), .n (.st 1 (.tmp 72) (.tmp 71))]))) (.region [.o 73 (.c .add 56 1), .m 56 73]))))
def c49L1:ACode:=(.seq (.region [.o 41 (.b .lss 40 39)]) (.seq (.cond (.tmp 41) .skip (.exit 0)) (.seq (.block 1 [0,1,6,7,9,11,39,40] (.seq (.region [.m 42 40, .m 12 42]) (.seq (.seq (.region [.m 43 7, .m 44 12, .o 45 (.q 61 [43,44])]) (.cond (.tmp 45) (.exit 1) .skip)) (.seq (.region [.m 46 1, .o 47 (.iaddr 1 (.tmp 46) (.const (.int .i64 0))), .o 48 (.l 47), .o 49 (.n 48), .o 50 (.mks 3 1 8 [(.int .i64 0)] (.tmp 49) (.tmp 49)), .m 13 50]) (.seq (.region [.m 51 13, .m 52 12, .o 53 (.i 1 51 52), .n (.st 1 (.tmp 53) (.const (.int .i64 1)))]) (.seq (.seq (.region [.m 54 7, .o 55 (.n 54), .k 56 0]) (.block 2 [0,1,6,7,9,11,13,39,40] (.loop [0,1,6,7,9,11,12,13,39,40,54,55,56] c49L0))) (.region [.m 74 11, .m 75 13, .o 76 (.mkSl 34 1 1 [(.tmp 75)]), .o 77 (.app 34 1 24 (.tmp 74) (.tmp 76)), .m 11 77]))))))) (.region [.o 78 (.c .add 40 1), .m 40 78]))))
def c49:ACode:=(.seq (.region [.o 4 (.mv (.const (.slice none 0 0))), .k 5 0]) (.seq (.region [.m 17 0, .m 18 1, .o 19 (.q 45 [17,18]), .m 16 19, .o 20 (.e 0 16), .o 21 (.e 1 16), .o 22 (.e 2 16), .m 6 20, .m 7 21, .m 8 22]) (.seq (.seq (.region [.m 23 8, .o 24 (.c .neq 23 0), .m 25 24, .g 26 (.m 1) 25 false, .g 27 (.n 26) 25 false, .g 28 (.c .eql 27 0) 25 false, .o 29 (.pick (.tmp 25) (.const (.bool true)) (.tmp 28))]) (.cond (.tmp 29) (.seq (.region [.m 30 8, .o 4 (.mv (.const (.slice none 0 0))), .m 5 30]) .ret) .skip)) (.seq (.region [.m 32 0, .o 33 (.q 51 [32]), .m 31 33, .o 34 (.e 0 31), .o 35 (.e 1 31), .m 9 34, .m 10 35]) (.seq (.region [.o 11 (.mv (.const (.slice none 0 0)))]) (.seq (.seq (.region [.m 36 1, .o 37 (.iaddr 1 (.tmp 36) (.const (.int .i64 0))), .o 38 (.l 37), .o 39 (.n 38), .k 40 0]) (.block 0 [0,11] (.loop [0,1,6,7,9,11,39,40] c49L1))) (.seq (.region [.m 80 0, .m 81 11, .o 82 (.q 45 [80,81]), .m 79 82, .o 83 (.e 0 79), .o 84 (.e 1 79), .o 85 (.e 2 79), .m 11 83]) (.seq (.region [.m 86 11, .m 4 86, .k 5 0]) .ret))))))))
def F49:AFun:=⟨c49,2,87,[(.tmp 4),(.tmp 5)]⟩
def K49:Nat→List Nat×List Nat
 |0=>([0,1,6,7,9,11,39,40],[0,11])
 |1=>([],[0,1,6,7,9,11,39,40])
 |2=>([0,1,6,7,9,11,12,13,39,40,54,55,56],[0,1,6,7,9,11,13,39,40])
 |3=>([],[0,1,6,7,9,11,12,13,39,40,54,55,56])
 |_=>([],[])
theorem F49_ok:kj8 Try.prog K49 Try.f49=some F49:=by kernel_rfl
/- 50: syndrome/syndromeref.SameAll -/
def c50L0:ACode:=(.seq (.seq (.region [.m 11 5, .m 12 0, .o 13 (.n 12), .o 14 (.b .lss 11 13)]) (.cond (.tmp 14) .skip (.exit 0))) (.seq (.block 1 [0,1,5] (.seq (.region [.m 17 0, .m 18 5, .o 19 (.i 1 17 18), .o 20 (.l 19), .m 21 1, .m 22 5, .o 23 (.i 1 21 22), .o 24 (.l 23), .o 25 (.q 27 [20,24]), .o 26 (.un .not (.tmp 25))]) (.cond (.tmp 26) (.seq (.region [.o 4 (.mv (.const (.bool false)))]) .ret) .skip))) (.region [.m 15 5, .o 16 (.c .add 15 1), .m 5 16])))
def c50:ACode:=(.seq (.region [.o 4 (.mv (.const (.bool false)))]) (.seq (.seq (.region [.m 6 0, .o 7 (.n 6), .m 8 1, .o 9 (.n 8), .o 10 (.b .neq 7 9)]) (.cond (.tmp 10) (.seq (.region [.o 4 (.mv (.const (.bool false)))]) .ret) .skip)) (.seq (.seq (.region [.k 5 0]) (.block 0 [] (.loop [0,1,5] c50L0))) (.seq (.region [.o 4 (.mv (.const (.bool true)))]) .ret))))
def F50:AFun:=⟨c50,2,27,[(.tmp 4)]⟩
def K50:Nat→List Nat×List Nat
 |0=>([0,1,5],[])
 |1=>([],[0,1,5])
 |_=>([],[])
theorem F50_ok:kj8 Try.prog K50 Try.f50=some F50:=by kernel_rfl
/- 51: syndrome/field.New -/
def oi4:List Value:=[(.int .u32 0),(.int .i32 0),(.int .u32 0),(.int .u32 0),(.int .i32 0),(.int .u32 0),(.int .u32 0),(.int .i32 0),(.int .u32 0),(.int .u32 0),(.int .i32 0),(.int .u32 0),(.int .u32 0),(.int .i32 0),(.int .u32 0),(.int .u32 0),(.int .i32 0),(.int .u32 0),(.int .u32 0),(.int .i32 0),(.int .u32 0),(.int .u32 0),(.int .i32 0),(.int .u32 0),(.int .u32 0),(.int .i32 0),(.int .u32 0),(.int .u32 0),(.int .i32 0),(.int .u32 0),(.int .u32 0),(.int .i32 0),(.int .u32 0),(.int .u32 0),(.int .i32 0),(.int .u32 0),(.int .u32 0),(.int .i32 0),(.int .u32 0),(.int .u32 0),(.int .i32 0),(.int .u32 0),(.int .u32 0),(.int .i32 0),(.int .u32 0),(.int .u32 0),(.int .i32 0),(.int .u32 0),(.int .u32 0),(.int .i32 0),(.int .u32 0),(.int .u32 0),(.int .i32 0),(.int .u32 0),(.int .u32 0),(.int .i32 0),(.int .u32 0),(.int .u32 0),(.int .i32 0),(.int .u32 0),(.int .u32 0),(.int .i32 0),(.int .u32 0),(.int .u32 0),(.int .i32 0),(.int .u32 0),(.int .u32 0),(.int .i32 0),(.int .u32 0),(.int .u32 0),(.int .i32 0),(.int .u32 0),(.int .u32 0),(.int .i32 0),(.int .u32 0),(.int .u32 0),(.int .i32 0),(.int .u32 0),(.int .u32 0),(.int .i32 0),(.int .u32 0),(.int .u32 0),(.int .i32 0),(.int .u32 0),(.int .u32 0),(.int .i32 0),(.int .u32 0),(.int .u32 0),(.int .i32 0),(.int .u32 0),(.int .u32 0),(.int .i32 0),(.int .u32 0),(.int .u32 0),(.int .i32 0),(.int .u32 0),(.int .u32 0),(.int .i32 0),(.int .u32 0),(.int .u32 0),(.int .i32 0),(.int .u32 0),(.int .u32 0),(.int .i32 0),(.int .u32 0),(.int .u32 0),(.int .i32 0),(.int .u32 0),(.int .u32 0),(.int .i32 0),(.int .u32 0),(.int .u32 0),(.int .i32 0),(.int .u32 0),(.int .u32 0),(.int .i32 0),(.int .u32 0),(.int .u32 0),(.int .i32 0),(.int .u32 0),(.int .u32 0),(.int .i32 0),(.int .u32 0),(.int .u32 0),(.int .i32 0),(.int .u32 0),(.int .u32 0),(.int .i32 0),(.int .u32 0),(.int .u32 0),(.int .i32 0),(.int .u32 0),(.int .u32 0),(.int .i32 0),(.int .u32 0),(.int .u32 0),(.int .i32 0),(.int .u32 0),(.int .u32 0),(.int .i32 0),(.int .u32 0),(.int .u32 0),(.int .i32 0),(.int .u32 0),(.int .u32 0),(.int .i32 0),(.int .u32 0),(.int .u32 0),(.int .i32 0),(.int .u32 0),(.int .u32 0),(.int .i32 0),(.int .u32 0),(.int .u32 0),(.int .i32 0),(.int .u32 0),(.int .u32 0),(.int .i32 0),(.int .u32 0),(.int .u32 0),(.int .i32 0),(.int .u32 0),(.int .u32 0),(.int .i32 0),(.int .u32 0),(.int .u32 0),(.int .i32 0),(.int .u32 0),(.int .u32 0),(.int .i32 0),(.int .u32 0),(.int .u32 0),(.int .i32 0),(.int .u32 0),(.int .u32 0),(.int .i32 0),(.int .u32 0),(.int .u32 0),(.int .i32 0),(.int .u32 0),(.int .u32 0),(.int .i32 0),(.int .u32 0),(.int .u32 0),(.int .i32 0),(.int .u32 0),(.int .u32 0),(.int .i32 0),(.int .u32 0),(.int .u32 0),(.int .i32 0),(.int .u32 0),(.int .u32 0),(.int .i32 0),(.int .u32 0),(.pointer none),(.pointer none),(.pointer none),(.pointer none),(.pointer none),(.pointer none),(.pointer none),(.pointer none),(.pointer none),(.pointer none),(.pointer none),(.pointer none),(.pointer none),(.pointer none),(.pointer none),(.pointer none),(.pointer none),(.pointer none),(.pointer none),(.pointer none),(.pointer none),(.pointer none),(.pointer none),(.pointer none),(.pointer none),(.pointer none),(.pointer none),(.pointer none),(.pointer none),(.pointer none),(.pointer none),(.pointer none),(.pointer none),(.pointer none),(.pointer none),(.pointer none),(.pointer none),(.pointer none),(.pointer none),(.pointer none),(.pointer none),(.pointer none),(.pointer none),(.pointer none),(.pointer none),(.pointer none),(.pointer none),(.pointer none),(.pointer none),(.pointer none),(.pointer none),(.pointer none),(.pointer none),(.pointer none),(.pointer none),(.pointer none),(.pointer none),(.pointer none),(.pointer none),(.pointer none),(.pointer none),(.pointer none),(.pointer none),(.pointer none),(.pointer none)]
def c51:ACode:=(.seq (.region [.o 1 (.box 3 1 (.tmp 0)), .o 2 (.mv (.const (.pointer none))), .k 3 0]) (.seq (.seq (.region [.o 5 (.l 1), .o 6 (.c .lss 5 2), .m 7 6, .g 8 (.l 1) 7 false, .g 9 (.c .gtr 8 64) 7 false, .o 10 (.pick (.tmp 7) (.const (.bool true)) (.tmp 9))]) (.cond (.tmp 10) (.seq (.region [.o 2 (.mv (.const (.pointer none))), .k 3 1]) .ret) .skip)) (.seq (.region [.o 4 (.alloc 132 oi4)]) (.seq (.region [.o 11 (.l 1), .o 12 (.f 0 4), .o 13 (.iaddrA 65 3 (.tmp 12) (.tmp 11)), .o 14 (.mkf 94 [(.tmp 1),(.tmp 4)]), .o 15 (.q 93 [13,14])]) (.seq (.seq (.region [.o 16 (.l 1), .o 17 (.f 195 4), .o 18 (.iaddrA 65 1 (.tmp 17) (.tmp 16)), .o 19 (.l 18), .o 20 (.eqn false 1 (.tmp 19))]) (.cond (.tmp 20) (.seq (.region [.o 2 (.mv (.const (.pointer none))), .k 3 1]) .ret) .skip)) (.seq (.region [.o 21 (.l 1), .o 22 (.f 195 4), .o 23 (.iaddrA 65 1 (.tmp 22) (.tmp 21)), .o 24 (.l 23), .m 2 24, .k 3 0]) .ret))))))
def F51:AFun:=⟨c51,1,25,[(.tmp 2),(.tmp 3)]⟩
def K51:Nat→List Nat×List Nat
 |_=>([],[])
theorem F51_ok:kj8 Try.prog K51 Try.f51=some F51:=by kernel_rfl
/- 58: (*syndrome/field.Field).Add -/
def c58L0:ACode:=(.seq (.region [.o 24 (.b .lss 23 22)]) (.seq (.cond (.tmp 24) .skip (.exit 0)) (.seq (.block 1 [0,1,2,7,8,22,23] (.seq (.region [.m 25 7, .m 26 1, .m 27 0, .o 28 (.nilck (.tmp 27)), .o 29 (.f 1 28), .o 30 (.l 29), .o 31 (.b .rem 26 30), .m 32 2, .m 33 0, .o 34 (.nilck (.tmp 33)), .o 35 (.f 1 34), .o 36 (.l 35), .o 37 (.b .rem 32 36), .o 38 (.b .add 31 37), .m 39 0, .o 40 (.nilck (.tmp 39)), .o 41 (.f 1 40), .o 42 (.l 41), .o 43 (.b .rem 38 42), .m 44 8, .o 45 (.b .mul 43 44), .o 46 (.b .add 25 45), .m 7 46]) (.region [.m 47 1, .m 48 0, .o 49 (.nilck (.tmp 48)), .o 50 (.f 1 49), .o 51 (.l 50), .o 52 (.b .quo 47 51), .m 53 2, .m 54 0, .o 55 (.nilck (.tmp 54)), .o 56 (.f 1 55), .o 57 (.l 56), .o 58 (.b .quo 53 57), .m 59 8, .m 60 0, .o 61 (.nilck (.tmp 60)), .o 62 (.f 1 61), .o 63 (.l 62), .o 64 (.b .mul 59 63), .m 1 52, .m 2 58, .m 8 64]))) (.region [.o 65 (.c .add 23 1), .m 23 65]))))
def c58:ACode:=(.seq (.region [.k 6 0]) (.seq (.seq (.region [.m 9 0, .m 10 1, .o 11 (.q 98 [9,10]), .o 12 (.un .not (.tmp 11)), .m 13 12, .g 14 (.m 0) 13 false, .g 15 (.m 2) 13 false, .g 16 (.q 98 [14,15]) 13 false, .g 17 (.un .not (.tmp 16)) 13 false, .o 18 (.pick (.tmp 13) (.const (.bool true)) (.tmp 17))]) (.cond (.tmp 18) (.seq (.region [.k 6 (-1)]) .ret) .skip)) (.seq (.region [.k 7 0, .k 8 1]) (.seq (.seq (.region [.m 19 0, .o 20 (.nilck (.tmp 19)), .o 21 (.f 2 20), .o 22 (.l 21), .k 23 0]) (.block 0 [7] (.loop [0,1,2,7,8,22,23] c58L0))) (.seq (.region [.m 66 7, .m 6 66]) .ret)))))
def F58:AFun:=⟨c58,3,67,[(.tmp 6)]⟩
def K58:Nat→List Nat×List Nat
 |0=>([0,1,2,7,8,22,23],[7])
 |1=>([],[0,1,2,7,8,22,23])
 |_=>([],[])
theorem F58_ok:kj8 Try.prog K58 Try.f58=some F58:=by kernel_rfl
/- 60: (*syndrome/field.Field).Mul -/
def c60:ACode:=(.seq (.region [.k 6 0]) (.seq (.seq (.region [.m 7 0, .m 8 1, .o 9 (.q 98 [7,8]), .o 10 (.un .not (.tmp 9)), .m 11 10, .g 12 (.m 0) 11 false, .g 13 (.m 2) 11 false, .g 14 (.q 98 [12,13]) 11 false, .g 15 (.un .not (.tmp 14)) 11 false, .o 16 (.pick (.tmp 11) (.const (.bool true)) (.tmp 15))]) (.cond (.tmp 16) (.seq (.region [.k 6 (-1)]) .ret) .skip)) (.seq (.seq (.region [.m 17 1, .o 18 (.c .eql 17 0), .m 19 18, .g 20 (.m 2) 19 false, .g 21 (.c .eql 20 0) 19 false, .o 22 (.pick (.tmp 19) (.const (.bool true)) (.tmp 21))]) (.cond (.tmp 22) (.seq (.region [.k 6 0]) .ret) .skip)) (.seq (.region [.m 23 0, .o 24 (.nilck (.tmp 23)), .o 25 (.f 5 24), .o 26 (.l 25), .m 27 0, .o 28 (.nilck (.tmp 27)), .o 29 (.f 6 28), .o 30 (.l 29), .m 31 1, .o 32 (.i 1 30 31), .o 33 (.l 32), .m 34 0, .o 35 (.nilck (.tmp 34)), .o 36 (.f 6 35), .o 37 (.l 36), .m 38 2, .o 39 (.i 1 37 38), .o 40 (.l 39), .o 41 (.b .add 33 40), .m 42 0, .o 43 (.nilck (.tmp 42)), .o 44 (.f 0 43), .o 45 (.l 44), .o 46 (.c .sub 45 1), .o 47 (.b .rem 41 46), .o 48 (.i 1 26 47), .o 49 (.l 48), .m 6 49]) .ret))))
def F60:AFun:=⟨c60,3,50,[(.tmp 6)]⟩
def K60:Nat→List Nat×List Nat
 |_=>([],[])
theorem F60_ok:kj8 Try.prog K60 Try.f60=some F60:=by kernel_rfl
/- 61: slices.Contains[[]int,int] -/
def c61:ACode:=(.seq (.region [.o 4 (.mv (.const (.bool false)))]) (.seq (.region [.m 5 0, .m 6 1, .o 7 (.q 102 [5,6]), .o 8 (.c .geq 7 0), .m 4 8]) .ret))
def F61:AFun:=⟨c61,2,9,[(.tmp 4)]⟩
def K61:Nat→List Nat×List Nat
 |_=>([],[])
theorem F61_ok:kj8 Try.prog K61 Try.f61=some F61:=by kernel_rfl
/- 63: syndrome/syndromeref.ReedWord -/
def c63L0:ACode:=(.seq (.seq (.region [.m 30 12, .m 31 3, .o 32 (.n 31), .o 33 (.b .lss 30 32)]) (.cond (.tmp 33) .skip (.exit 0))) (.seq (.block 1 [3,10,12] (.seq (.region [.m 36 3, .m 37 12, .o 38 (.i 1 36 37), .o 39 (.l 38), .o 40 (.c .neq 39 (-1)), .m 41 40, .g 42 (.ld true 5 (.tmp 10)) 41 true, .g 43 (.m 3) 41 true, .g 44 (.m 12) 41 true, .g 45 (.i 1 43 44) 41 true, .g 46 (.l 45) 41 true, .g 47 (.q 82 [42,46]) 41 true, .g 48 (.un .not (.tmp 47)) 41 true, .o 49 (.pick (.tmp 41) (.tmp 48) (.const (.bool false)))]) (.cond (.tmp 49) (.seq (.region [.k 8 2]) .ret) .skip))) (.region [.m 34 12, .o 35 (.c .add 34 1), .m 12 35])))
def c63:ACode:=(.seq (.region [.k 8 0]) (.seq (.region [.m 13 0, .m 14 1, .m 15 2, .o 16 (.q 105 [13,14,15]), .m 9 16]) (.seq (.seq (.region [.m 17 9, .o 18 (.c .neq 17 0)]) (.cond (.tmp 18) (.seq (.region [.m 19 9, .m 8 19]) .ret) .skip)) (.seq (.region [.m 21 0, .o 22 (.q 32 [21]), .m 20 22, .o 23 (.e 0 20), .o 24 (.e 1 20), .o 10 (.alloc 58 [(.int .i64 0),(.int .i64 0),(.int .i64 0),(.int .i64 0),(.slice none 0 0)]), .n (.st 5 (.tmp 10) (.tmp 23)), .m 11 24]) (.seq (.seq (.region [.m 25 3, .o 26 (.n 25), .m 27 1, .o 28 (.n 27), .o 29 (.b .neq 26 28)]) (.cond (.tmp 29) (.seq (.region [.k 8 6]) .ret) .skip)) (.seq (.seq (.region [.k 12 0]) (.block 0 [] (.loop [3,10,12] c63L0))) (.seq (.region [.k 8 0]) .ret)))))))
def F63:AFun:=⟨c63,4,50,[(.tmp 8)]⟩
def K63:Nat→List Nat×List Nat
 |0=>([3,10,12],[])
 |1=>([],[3,10,12])
 |_=>([],[])
theorem F63_ok:kj8 Try.prog K63 Try.f63=some F63:=by kernel_rfl
/- 64: syndrome/syndromeref.In -/
def c64L0:ACode:=(.seq (.seq (.region [.m 6 5, .m 7 1, .o 8 (.n 7), .o 9 (.b .lss 6 8)]) (.cond (.tmp 9) .skip (.exit 0))) (.seq (.block 1 [0,1,5] (.seq (.region [.m 12 1, .m 13 5, .o 14 (.i 1 12 13), .o 15 (.l 14), .m 16 0, .o 17 (.b .eql 15 16)]) (.cond (.tmp 17) (.seq (.region [.o 4 (.mv (.const (.bool true)))]) .ret) .skip))) (.region [.m 10 5, .o 11 (.c .add 10 1), .m 5 11])))
def c64:ACode:=(.seq (.region [.o 4 (.mv (.const (.bool false)))]) (.seq (.seq (.region [.k 5 0]) (.block 0 [] (.loop [0,1,5] c64L0))) (.seq (.region [.o 4 (.mv (.const (.bool false)))]) .ret)))
def F64:AFun:=⟨c64,2,18,[(.tmp 4)]⟩
def K64:Nat→List Nat×List Nat
 |0=>([0,1,5],[])
 |1=>([],[0,1,5])
 |_=>([],[])
theorem F64_ok:kj8 Try.prog K64 Try.f64=some F64:=by kernel_rfl
/- 65: syndrome/syndromeref.Prime -/
def c65L0:ACode:=(.seq (.seq (.region [.m 15 0, .m 16 4, .o 17 (.b .rem 15 16), .o 18 (.c .eql 17 0)]) (.cond (.tmp 18) .skip (.exit 2))) (.block 3 [0,4,5] (.seq (.region [.m 19 0, .m 20 4, .o 21 (.b .quo 19 20), .m 0 21]) (.region [.m 22 5, .o 23 (.c .add 22 1), .m 5 23]))))
def c65L1:ACode:=(.seq (.seq (.region [.m 6 4, .m 7 0, .o 8 (.b .leq 6 7)]) (.cond (.tmp 8) .skip (.exit 0))) (.seq (.block 1 [0,4] (.seq (.seq (.region [.m 11 0, .m 12 4, .o 13 (.b .rem 11 12), .o 14 (.c .neq 13 0)]) (.cond (.tmp 14) (.exit 1) .skip)) (.seq (.region [.k 5 0]) (.seq (.block 2 [0,4,5] (.loop [0,4,5] c65L0)) (.seq (.seq (.region [.m 24 0, .o 25 (.c .eql 24 1)]) (.cond (.tmp 25) (.seq (.region [.m 26 4, .m 27 5, .m 2 26, .m 3 27]) .ret) .skip)) (.seq (.region [.k 2 0, .k 3 0]) .ret)))))) (.region [.m 9 4, .o 10 (.c .add 9 1), .m 4 10])))
def c65:ACode:=(.seq (.region [.k 2 0, .k 3 0]) (.seq (.seq (.region [.k 4 2]) (.block 0 [] (.loop [0,4] c65L1))) (.seq (.region [.k 2 0, .k 3 0]) .ret)))
def F65:AFun:=⟨c65,1,28,[(.tmp 2),(.tmp 3)]⟩
def K65:Nat→List Nat×List Nat
 |0=>([0,4],[])
 |1=>([],[0,4])
 |2=>([0,4,5],[0,4,5])
 |3=>([],[0,4,5])
 |_=>([],[])
theorem F65_ok:kj8 Try.prog K65 Try.f65=some F65:=by kernel_rfl
/- 66: syndrome/syndromeref.full -/
def c66L0:ACode:=(.seq (.seq (.region [.m 11 7, .o 12 (.f 0 2), .o 13 (.l 12), .o 14 (.c .sub 13 1), .o 15 (.b .lss 11 14)]) (.cond (.tmp 15) .skip (.exit 0))) (.seq (.block 1 [1,2,5,6,7] (.seq (.seq (.region [.m 18 6, .o 19 (.c .eql 18 0), .m 20 19, .g 21 (.m 5) 20 false, .g 22 (.m 6) 20 false, .g 23 (.i 1 21 22) 20 false, .g 24 (.l 23) 20 false, .o 25 (.pick (.tmp 20) (.const (.bool true)) (.tmp 24))]) (.cond (.tmp 25) (.seq (.region [.o 4 (.mv (.const (.bool false)))]) .ret) .skip)) (.seq (.region [.m 26 5, .m 27 6, .o 28 (.i 1 26 27), .n (.st 1 (.tmp 28) (.const (.bool true)))]) (.region [.o 29 (.ld true 5 (.tmp 2)), .m 30 6, .m 31 1, .o 32 (.q 76 [29,30,31]), .m 6 32])))) (.region [.m 16 7, .o 17 (.c .add 16 1), .m 7 17])))
def c66:ACode:=(.seq (.region [.o 2 (.box 58 5 (.tmp 0)), .o 4 (.mv (.const (.bool false)))]) (.seq (.region [.o 8 (.f 0 2), .o 9 (.l 8), .o 10 (.mks 4 1 1 [(.bool false)] (.tmp 9) (.tmp 9)), .m 5 10]) (.seq (.region [.k 6 1]) (.seq (.seq (.region [.k 7 0]) (.block 0 [] (.loop [1,2,5,6,7] c66L0))) (.seq (.region [.o 4 (.mv (.const (.bool true)))]) .ret)))))
def F66:AFun:=⟨c66,2,33,[(.tmp 4)]⟩
def K66:Nat→List Nat×List Nat
 |0=>([1,2,5,6,7],[])
 |1=>([],[1,2,5,6,7])
 |_=>([],[])
theorem F66_ok:kj8 Try.prog K66 Try.f66=some F66:=by kernel_rfl
/- 67: syndrome/syndromeref.Digits -/
def c67L0:ACode:=(.seq (.seq (.region [.m 9 8, .m 10 2, .o 11 (.b .lss 9 10)]) (.cond (.tmp 11) .skip (.exit 0))) (.seq (.block 1 [0,1,2,7,8] (.seq (.region [.m 14 7, .m 15 0, .m 16 1, .o 17 (.b .rem 15 16), .o 18 (.mkSl 3 1 1 [(.tmp 17)]), .o 19 (.app 3 1 8 (.tmp 14) (.tmp 18)), .m 7 19]) (.region [.m 20 0, .m 21 1, .o 22 (.b .quo 20 21), .m 0 22]))) (.region [.m 12 8, .o 13 (.c .add 12 1), .m 8 13])))
def c67:ACode:=(.seq (.region [.o 6 (.mv (.const (.slice none 0 0)))]) (.seq (.region [.o 7 (.mv (.const (.slice none 0 0)))]) (.seq (.seq (.region [.k 8 0]) (.block 0 [7] (.loop [0,1,2,7,8] c67L0))) (.seq (.region [.m 23 7, .m 6 23]) .ret))))
def F67:AFun:=⟨c67,3,24,[(.tmp 6)]⟩
def K67:Nat→List Nat×List Nat
 |0=>([0,1,2,7,8],[7])
 |1=>([],[0,1,2,7,8])
 |_=>([],[])
theorem F67_ok:kj8 Try.prog K67 Try.f67=some F67:=by kernel_rfl
/- 68: syndrome/syndromeref.Off -/
def c68L0:ACode:=(.seq (.seq (.region [.m 13 12, .m 14 2, .o 15 (.n 14), .o 16 (.b .lss 13 15)]) (.cond (.tmp 16) .skip (.exit 0))) (.seq (.block 1 [1,2,3,4,10,11,12] (.seq (.seq (.region [.m 19 2, .m 20 12, .o 21 (.i 1 19 20), .o 22 (.l 21), .o 23 (.c .eql 22 (-1))]) (.cond (.tmp 23) (.exit 1) .skip)) (.seq (.region [.m 24 11, .o 25 (.c .add 24 1), .m 11 25]) (.seq (.region [.o 26 (.ld true 5 (.tmp 4)), .m 27 3, .m 28 1, .m 29 12, .o 30 (.i 1 28 29), .o 31 (.l 30),⟨(some 32),(.call 106 [(.tmp 26),(.tmp 27),(.tmp 31)]),none,true⟩, .m 33 2, .m 34 12, .o 35 (.i 1 33 34),⟨(some 36),(.ld false 1 (.tmp 35)),none,true⟩, .o 37 (.b .neq 32 36)]) (.cond (.tmp 37) (.region [.m 38 10, .o 39 (.c .add 38 1), .m 10 39]) .skip))))) (.region [.m 17 12, .o 18 (.c .add 17 1), .m 12 18])))
def c68:ACode:=(.seq (.region [.o 4 (.box 58 5 (.tmp 0)), .k 8 0, .k 9 0]) (.seq (.region [.k 10 0]) (.seq (.region [.k 11 0]) (.seq (.seq (.region [.k 12 0]) (.block 0 [10,11] (.loop [1,2,3,4,10,11,12] c68L0))) (.seq (.region [.m 40 10, .m 41 11, .m 8 40, .m 9 41]) .ret)))))
def F68:AFun:=⟨c68,4,42,[(.tmp 8),(.tmp 9)]⟩
def K68:Nat→List Nat×List Nat
 |0=>([1,2,3,4,10,11,12],[10,11])
 |1=>([],[1,2,3,4,10,11,12])
 |_=>([],[])
theorem F68_ok:kj8 Try.prog K68 Try.f68=some F68:=by kernel_rfl
/- 69: syndrome/syndromeref.Copy -/
def c69:ACode:=(.seq (.region [.o 2 (.mv (.const (.slice none 0 0)))]) (.seq (.region [.o 3 (.mkSl 3 1 0 []), .m 4 0, .o 5 (.app 3 1 8 (.tmp 3) (.tmp 4)), .m 2 5]) .ret))
def F69:AFun:=⟨c69,1,6,[(.tmp 2)]⟩
def K69:Nat→List Nat×List Nat
 |_=>([],[])
theorem F69_ok:kj8 Try.prog K69 Try.f69=some F69:=by kernel_rfl
/- 70: syndrome/syndromeref.Next -/
def c70L0:ACode:=(.seq (.seq (.region [.m 9 5, .o 10 (.c .geq 9 0)]) (.cond (.tmp 10) .skip (.exit 0))) (.seq (.block 1 [0,1,5] (.seq (.region [.m 13 0, .m 14 5, .m 15 0, .m 16 5, .o 17 (.i 1 15 16), .o 18 (.l 17), .o 19 (.c .add 18 1), .o 20 (.i 1 13 14), .n (.st 1 (.tmp 20) (.tmp 19))]) (.seq (.seq (.region [.m 21 0, .m 22 5, .o 23 (.i 1 21 22), .o 24 (.l 23), .m 25 1, .o 26 (.b .lss 24 25)]) (.cond (.tmp 26) (.seq (.region [.o 4 (.mv (.const (.bool true)))]) .ret) .skip)) (.region [.m 27 0, .m 28 5, .o 29 (.i 1 27 28), .n (.st 1 (.tmp 29) (.const (.int .i64 0)))])))) (.region [.m 11 5, .o 12 (.c .sub 11 1), .m 5 12])))
def c70:ACode:=(.seq (.region [.o 4 (.mv (.const (.bool false)))]) (.seq (.seq (.region [.m 6 0, .o 7 (.n 6), .o 8 (.c .sub 7 1), .m 5 8]) (.block 0 [] (.loop [0,1,5] c70L0))) (.seq (.region [.o 4 (.mv (.const (.bool false)))]) .ret)))
def F70:AFun:=⟨c70,2,30,[(.tmp 4)]⟩
def K70:Nat→List Nat×List Nat
 |0=>([0,1,5],[])
 |1=>([],[0,1,5])
 |_=>([],[])
theorem F70_ok:kj8 Try.prog K70 Try.f70=some F70:=by kernel_rfl
/- 71: syndrome/lists.whole -/
def c71:ACode:=(.seq (.region [.k 8 0]) (.seq (.region [.m 10 0, .m 11 1, .m 12 2, .m 13 3, .o 14 (.q 107 [10,11,12,13]), .m 9 14]) (.seq (.seq (.region [.m 15 9, .o 16 (.c .eql 15 0), .m 17 16, .g 18 (.m 3) 17 true, .g 19 (.call 61 [(.tmp 18),(.const (.int .i64 (-1)))]) 17 true, .o 20 (.pick (.tmp 17) (.tmp 19) (.const (.bool false)))]) (.cond (.tmp 20) (.region [.k 9 2]) .skip)) (.seq (.region [.m 21 9, .m 8 21]) .ret))))
def F71:AFun:=⟨c71,4,22,[(.tmp 8)]⟩
def K71:Nat→List Nat×List Nat
 |_=>([],[])
theorem F71_ok:kj8 Try.prog K71 Try.f71=some F71:=by kernel_rfl
/- 72: syndrome/lists.few -/
def c72L0:ACode:=(.seq (.region [.o 8 (.b .lss 7 6)]) (.seq (.cond (.tmp 8) .skip (.exit 0)) (.seq (.block 1 [0,5,6,7] (.seq (.region [.m 9 5, .m 10 0, .o 11 (.b .mul 9 10), .m 5 11]) (.seq (.region [.m 12 5, .o 13 (.c .gtr 12 4096)]) (.cond (.tmp 13) (.seq (.region [.o 4 (.mv (.const (.bool false)))]) .ret) .skip)))) (.region [.o 14 (.c .add 7 1), .m 7 14]))))
def c72:ACode:=(.seq (.region [.o 4 (.mv (.const (.bool false)))]) (.seq (.region [.k 5 1]) (.seq (.seq (.region [.m 6 1, .k 7 0]) (.block 0 [] (.loop [0,5,6,7] c72L0))) (.seq (.region [.o 4 (.mv (.const (.bool true)))]) .ret))))
def F72:AFun:=⟨c72,2,15,[(.tmp 4)]⟩
def K72:Nat→List Nat×List Nat
 |0=>([0,5,6,7],[])
 |1=>([],[0,5,6,7])
 |_=>([],[])
theorem F72_ok:kj8 Try.prog K72 Try.f72=some F72:=by kernel_rfl
/- 73: syndrome/poly.At -/
def c73L0:ACode:=(.seq (.seq (.region [.m 29 12, .o 30 (.c .geq 29 0)]) (.cond (.tmp 30) .skip (.exit 0))) (.seq (.block 1 [1,2,8,11,12] (.region [.m 33 8, .m 34 8, .m 35 11, .m 36 2,⟨(some 37),(.call 60 [(.tmp 34),(.tmp 35),(.tmp 36)]),none,true⟩, .m 38 1, .m 39 12, .o 40 (.i 1 38 39),⟨(some 41),(.ld false 1 (.tmp 40)),none,true⟩, .o 42 (.q 58 [33,37,41]), .m 11 42])) (.region [.m 31 12, .o 32 (.c .sub 31 1), .m 12 32])))
def c73:ACode:=(.seq (.region [.k 6 0, .k 7 0]) (.seq (.region [.m 14 0, .m 15 1, .m 16 2, .o 17 (.mkSl 3 1 1 [(.tmp 16)]), .o 18 (.q 108 [14,15,17]), .m 13 18, .o 19 (.e 0 13), .o 20 (.e 1 13), .o 21 (.e 2 13), .o 22 (.e 3 13), .m 8 19, .m 1 20, .m 9 21, .m 10 22]) (.seq (.seq (.region [.m 23 10, .o 24 (.c .neq 23 0)]) (.cond (.tmp 24) (.seq (.region [.m 25 10, .k 6 0, .m 7 25]) .ret) .skip)) (.seq (.region [.k 11 0]) (.seq (.seq (.region [.m 26 1, .o 27 (.n 26), .o 28 (.c .sub 27 1), .m 12 28]) (.block 0 [11] (.loop [1,2,8,11,12] c73L0))) (.seq (.region [.m 43 11, .m 6 43, .k 7 0]) .ret))))))
def F73:AFun:=⟨c73,3,44,[(.tmp 6),(.tmp 7)]⟩
def K73:Nat→List Nat×List Nat
 |0=>([1,2,8,11,12],[11])
 |1=>([],[1,2,8,11,12])
 |_=>([],[])
theorem F73_ok:kj8 Try.prog K73 Try.f73=some F73:=by kernel_rfl
/- 74: slices.Clone[[]int,int] -/
def c74:ACode:=(.seq (.region [.o 2 (.mv (.const (.slice none 0 0)))]) (.seq (.seq (.region [.m 3 0, .o 4 (.eqn false 0 (.tmp 3))]) (.cond (.tmp 4) (.seq (.region [.o 2 (.mv (.const (.slice none 0 0)))]) .ret) .skip)) (.seq (.region [.o 5 (.mkSl 3 1 0 []), .m 6 0, .o 7 (.app 3 1 8 (.tmp 5) (.tmp 6)), .m 2 7]) .ret)))
def F74:AFun:=⟨c74,1,8,[(.tmp 2)]⟩
def K74:Nat→List Nat×List Nat
 |_=>([],[])
theorem F74_ok:kj8 Try.prog K74 Try.f74=some F74:=by kernel_rfl
/- 75: (syndrome/syndromeref.F).Pow -/
def c75L0:ACode:=(.seq (.seq (.region [.m 37 8, .m 38 2, .o 39 (.b .lss 37 38)]) (.cond (.tmp 39) .skip (.exit 0))) (.seq (.block 1 [1,2,3,7,8] (.region [.o 42 (.ld true 5 (.tmp 3)), .m 43 7, .m 44 1, .o 45 (.q 76 [42,43,44]), .m 7 45])) (.region [.m 40 8, .o 41 (.c .add 40 1), .m 8 41])))
def c75:ACode:=(.seq (.region [.o 3 (.box 58 5 (.tmp 0)), .k 6 0]) (.seq (.seq (.region [.o 9 (.ld true 5 (.tmp 3)), .m 10 1, .o 11 (.q 82 [9,10]), .o 12 (.un .not (.tmp 11)), .m 13 12, .g 14 (.m 1) 13 false, .g 15 (.c .eql 14 0) 13 false, .g 16 (.m 15) 13 false, .g 17 (.m 2) 16 true, .g 18 (.c .lss 17 0) 16 true, .g 19 (.pick (.tmp 16) (.tmp 18) (.const (.bool false))) 13 false, .o 20 (.pick (.tmp 13) (.const (.bool true)) (.tmp 19))]) (.cond (.tmp 20) (.seq (.region [.k 6 (-1)]) .ret) .skip)) (.seq (.seq (.region [.m 21 2, .o 22 (.c .eql 21 0)]) (.cond (.tmp 22) (.seq (.region [.k 6 1]) .ret) .skip)) (.seq (.seq (.region [.m 23 1, .o 24 (.c .eql 23 0)]) (.cond (.tmp 24) (.seq (.region [.k 6 0]) .ret) .skip)) (.seq (.region [.m 25 2, .o 26 (.f 0 3), .o 27 (.l 26), .o 28 (.c .sub 27 1), .o 29 (.b .rem 25 28), .m 2 29]) (.seq (.seq (.region [.m 30 2, .o 31 (.c .lss 30 0)]) (.cond (.tmp 31) (.region [.m 32 2, .o 33 (.f 0 3), .o 34 (.l 33), .o 35 (.b .add 32 34), .o 36 (.c .sub 35 1), .m 2 36]) .skip)) (.seq (.region [.k 7 1]) (.seq (.seq (.region [.k 8 0]) (.block 0 [7] (.loop [1,2,3,7,8] c75L0))) (.seq (.region [.m 46 7, .m 6 46]) .ret)))))))))
def F75:AFun:=⟨c75,3,47,[(.tmp 6)]⟩
def K75:Nat→List Nat×List Nat
 |0=>([1,2,3,7,8],[7])
 |1=>([],[1,2,3,7,8])
 |_=>([],[])
theorem F75_ok:kj8 Try.prog K75 Try.f75=some F75:=by kernel_rfl
/- 76: (syndrome/syndromeref.F).Mul -/
def c76L0:ACode:=(.seq (.seq (.region [.m 55 11, .o 56 (.f 2 3), .o 57 (.l 56), .o 58 (.b .lss 55 57)]) (.cond (.tmp 58) .skip (.exit 2))) (.seq (.block 3 [3,7,8,9,10,11] (.region [.m 61 9, .m 62 10, .m 63 11, .o 64 (.b .add 62 63), .m 65 9, .m 66 10, .m 67 11, .o 68 (.b .add 66 67), .o 69 (.i 1 65 68), .o 70 (.l 69), .m 71 7, .m 72 10, .o 73 (.i 1 71 72), .o 74 (.l 73), .m 75 8, .m 76 11, .o 77 (.i 1 75 76), .o 78 (.l 77), .o 79 (.b .mul 74 78), .o 80 (.b .add 70 79), .o 81 (.f 1 3), .o 82 (.l 81), .o 83 (.b .rem 80 82), .o 84 (.i 1 61 64), .n (.st 1 (.tmp 84) (.tmp 83))])) (.region [.m 59 11, .o 60 (.c .add 59 1), .m 11 60])))
def c76L1:ACode:=(.seq (.seq (.region [.m 49 10, .o 50 (.f 2 3), .o 51 (.l 50), .o 52 (.b .lss 49 51)]) (.cond (.tmp 52) .skip (.exit 0))) (.seq (.block 1 [3,7,8,9,10] (.seq (.region [.k 11 0]) (.block 2 [3,7,8,9,10] (.loop [3,7,8,9,10,11] c76L0)))) (.region [.m 53 10, .o 54 (.c .add 53 1), .m 10 54])))
def c76L2:ACode:=(.seq (.seq (.region [.m 95 13, .o 96 (.f 2 3), .o 97 (.l 96), .o 98 (.b .lss 95 97)]) (.cond (.tmp 98) .skip (.exit 6))) (.seq (.block 7 [3,9,12,13] (.region [.m 101 9, .m 102 12, .o 103 (.f 2 3), .o 104 (.l 103), .o 105 (.b .sub 102 104), .m 106 13, .o 107 (.b .add 105 106), .m 108 9, .m 109 12, .o 110 (.f 2 3), .o 111 (.l 110), .o 112 (.b .sub 109 111), .m 113 13, .o 114 (.b .add 112 113), .o 115 (.i 1 108 114), .o 116 (.l 115), .m 117 9, .m 118 12, .o 119 (.i 1 117 118), .o 120 (.l 119), .o 121 (.f 1 3), .o 122 (.l 121), .o 123 (.f 4 3), .o 124 (.l 123), .m 125 13, .o 126 (.i 1 124 125), .o 127 (.l 126), .o 128 (.b .sub 122 127), .o 129 (.b .mul 120 128), .o 130 (.b .add 116 129), .o 131 (.f 1 3), .o 132 (.l 131), .o 133 (.b .rem 130 132), .o 134 (.i 1 101 107), .n (.st 1 (.tmp 134) (.tmp 133))])) (.region [.m 99 13, .o 100 (.c .add 99 1), .m 13 100])))
def c76L3:ACode:=(.seq (.seq (.region [.m 89 12, .o 90 (.f 2 3), .o 91 (.l 90), .o 92 (.b .geq 89 91)]) (.cond (.tmp 92) .skip (.exit 4))) (.seq (.block 5 [3,9,12] (.seq (.seq (.region [.k 13 0]) (.block 6 [3,9,12] (.loop [3,9,12,13] c76L2))) (.region [.m 135 9, .m 136 12, .o 137 (.i 1 135 136), .n (.st 1 (.tmp 137) (.const (.int .i64 0)))]))) (.region [.m 93 12, .o 94 (.c .sub 93 1), .m 12 94])))
def c76:ACode:=(.seq (.region [.o 3 (.box 58 5 (.tmp 0)), .k 6 0]) (.seq (.seq (.region [.o 14 (.ld true 5 (.tmp 3)), .m 15 1, .o 16 (.q 82 [14,15]), .o 17 (.un .not (.tmp 16)), .m 18 17, .g 19 (.ld true 5 (.tmp 3)) 18 false, .g 20 (.m 2) 18 false, .g 21 (.q 82 [19,20]) 18 false, .g 22 (.un .not (.tmp 21)) 18 false, .o 23 (.pick (.tmp 18) (.const (.bool true)) (.tmp 22))]) (.cond (.tmp 23) (.seq (.region [.k 6 (-1)]) .ret) .skip)) (.seq (.seq (.region [.o 24 (.f 2 3), .o 25 (.l 24), .o 26 (.c .eql 25 1)]) (.cond (.tmp 26) (.seq (.region [.m 27 1, .m 28 2, .o 29 (.b .mul 27 28), .o 30 (.f 1 3), .o 31 (.l 30), .o 32 (.b .rem 29 31), .m 6 32]) .ret) .skip)) (.seq (.region [.m 33 1, .o 34 (.f 1 3), .o 35 (.l 34), .o 36 (.f 2 3), .o 37 (.l 36), .o 38 (.q 67 [33,35,37]), .m 7 38]) (.seq (.region [.m 39 2, .o 40 (.f 1 3), .o 41 (.l 40), .o 42 (.f 2 3), .o 43 (.l 42), .o 44 (.q 67 [39,41,43]), .m 8 44]) (.seq (.region [.o 45 (.f 2 3), .o 46 (.l 45), .o 47 (.bin .mul (.const (.int .i64 2)) (.tmp 46)), .o 48 (.mks 3 1 8 [(.int .i64 0)] (.tmp 47) (.tmp 47)), .m 9 48]) (.seq (.seq (.region [.k 10 0]) (.block 0 [3,9] (.loop [3,7,8,9,10] c76L1))) (.seq (.seq (.region [.o 85 (.f 2 3), .o 86 (.l 85), .o 87 (.bin .mul (.const (.int .i64 2)) (.tmp 86)), .o 88 (.c .sub 87 1), .m 12 88]) (.block 4 [3,9] (.loop [3,9,12] c76L3))) (.seq (.region [.m 138 9, .o 139 (.f 2 3), .o 140 (.l 139), .o 141 (.sl 1 (.tmp 138) none (some (.tmp 140))), .o 142 (.f 1 3), .o 143 (.l 142), .o 144 (.q 109 [141,143]), .m 6 144]) .ret)))))))))
def F76:AFun:=⟨c76,3,145,[(.tmp 6)]⟩
def K76:Nat→List Nat×List Nat
 |0=>([3,7,8,9,10],[3,9])
 |1=>([],[3,7,8,9,10])
 |2=>([3,7,8,9,10,11],[3,7,8,9,10])
 |3=>([],[3,7,8,9,10,11])
 |4=>([3,9,12],[3,9])
 |5=>([],[3,9,12])
 |6=>([3,9,12,13],[3,9,12])
 |7=>([],[3,9,12,13])
 |_=>([],[])
theorem F76_ok:kj8 Try.prog K76 Try.f76=some F76:=by kernel_rfl
end Go.Proofs.Ytlhmdmedagjmnaa
