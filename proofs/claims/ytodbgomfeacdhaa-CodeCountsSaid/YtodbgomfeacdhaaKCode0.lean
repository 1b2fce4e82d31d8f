/-
  Functions of this seat as the small machine's code, written by a program of my own (gen.py); each is checked to be what the model's function is turned into. No condition.
-/
import Derived.Test.YtodbgomfeacdhaaK2
import Derived.Test.YtodbgomfeacdhaaProg
set_option linter.unusedVariables false
set_option linter.unusedSimpArgs false
set_option linter.unusedSectionVars false
set_option maxRecDepth 100000
namespace Go.Proofs.Ytodbgomfeacdhaa
open Go.Am
/- 4: syndrome/syndromelaw.CodeCounts -/
def c4:ACode:=(.seq (.region [.o 2 (.box 25 3 (.tmp 0)), .o 4 (.mv (.const (.bool false)))]) (.seq (.seq (.region [.o 15 (.f 2 2), .o 16 (.l 15), .o 17 (.q 17 [16]), .m 18 17, .g 19 (.m 1) 18 false, .g 20 (.n 19) 18 false, .g 21 (.c .gtr 20 100) 18 false, .o 22 (.pick (.tmp 18) (.const (.bool true)) (.tmp 21))]) (.cond (.tmp 22) (.seq (.region [.o 4 (.mv (.const (.bool true)))]) .ret) .skip)) (.seq (.region [.o 23 (.ld true 3 (.tmp 2)), .o 24 (.q 18 [23]), .m 5 24]) (.seq (.region [.o 6 (.mv (.const (.slice none 0 0)))]) (.seq (.seq (.region [.m 25 5, .o 26 (.c .eql 25 0)]) (.cond (.tmp 26) (.region [.o 27 (.ld true 3 (.tmp 2)), .o 28 (.q 19 [27]), .m 6 28]) .skip)) (.seq (.region [.o 30 (.ld true 3 (.tmp 2)), .o 31 (.q 20 [30]), .m 29 31, .o 32 (.e 0 29), .o 33 (.e 1 29), .m 7 32, .m 8 33]) (.seq (.region [.o 35 (.ld true 3 (.tmp 2)), .o 36 (.q 21 [35]), .m 34 36, .o 37 (.e 0 34), .o 38 (.e 1 34), .m 9 37, .m 10 38]) (.seq (.seq (.region [.m 39 7, .m 40 8, .m 41 6, .m 42 5, .o 43 (.q 22 [39,40,41,42]), .o 44 (.un .not (.tmp 43)), .m 45 44, .g 46 (.m 9) 45 false, .g 47 (.m 10) 45 false, .g 48 (.m 6) 45 false, .g 49 (.q 24 [48]) 45 false, .g 50 (.m 5) 45 false, .g 51 (.q 23 [46,47,49,50]) 45 false, .g 52 (.un .not (.tmp 51)) 45 false, .o 53 (.pick (.tmp 45) (.const (.bool true)) (.tmp 52))]) (.cond (.tmp 53) (.seq (.region [.o 4 (.mv (.const (.bool false)))]) .ret) .skip)) (.seq (.seq (.region [.m 54 5, .o 55 (.c .eql 54 0)]) (.cond (.tmp 55) (.region [.o 56 (.ld true 3 (.tmp 2)), .m 57 1, .o 58 (.q 25 [56,57]), .m 5 58]) .skip)) (.seq (.region [.o 60 (.ld true 3 (.tmp 2)), .m 61 1, .o 62 (.q 26 [60,61]), .m 59 62, .o 63 (.e 0 59), .o 64 (.e 1 59), .o 65 (.e 2 59), .m 11 63, .m 12 64, .m 8 65]) (.seq (.seq (.region [.m 66 5, .o 67 (.c .neq 66 0)]) (.cond (.tmp 67) (.seq (.region [.m 68 8, .m 69 5, .o 70 (.b .eql 68 69), .m 71 70, .g 72 (.m 11) 71 true, .g 73 (.n 72) 71 true, .g 74 (.c .eql 73 0) 71 true, .o 75 (.pick (.tmp 71) (.tmp 74) (.const (.bool false))), .m 76 75, .g 77 (.m 12) 76 true, .g 78 (.c .eql 77 0) 76 true, .o 79 (.pick (.tmp 76) (.tmp 78) (.const (.bool false))), .m 4 79]) .ret) .skip)) (.seq (.region [.o 81 (.ld true 3 (.tmp 2)), .m 82 1, .o 83 (.q 27 [81,82]), .m 80 83, .o 84 (.e 0 80), .o 85 (.e 1 80), .m 13 84, .m 14 85]) (.seq (.region [.m 86 8, .o 87 (.c .eql 86 0), .m 88 87, .g 89 (.m 11) 88 true, .g 90 (.m 13) 88 true, .g 91 (.q 28 [89,90]) 88 true, .o 92 (.pick (.tmp 88) (.tmp 91) (.const (.bool false))), .m 93 92, .g 94 (.m 12) 93 true, .g 95 (.m 14) 93 true, .g 96 (.b .eql 94 95) 93 true, .o 97 (.pick (.tmp 93) (.tmp 96) (.const (.bool false))), .m 4 97]) .ret)))))))))))))
def F4:AFun:=⟨c4,2,98,[(.tmp 4)]⟩
def K4:Nat→List Nat×List Nat
 |_=>([],[])
theorem F4_ok:kj8 Try.prog K4 noRg Try.f4=some F4:=by kernel_rfl
/- 17: syndrome/syndromelaw.heavy -/
def c17L0:ACode:=(.seq (.seq (.region [.m 7 4, .m 8 0, .o 9 (.n 8), .o 10 (.b .lss 7 9), .m 11 10, .g 12 (.m 3) 11 true, .g 13 (.c .leq 12 6000) 11 true, .o 14 (.pick (.tmp 11) (.tmp 13) (.const (.bool false)))]) (.cond (.tmp 14) .skip (.exit 0))) (.seq (.block 1 [0,3,4] (.region [.m 17 3, .m 18 0, .m 19 4, .o 20 (.i 1 18 19), .o 21 (.l 20), .o 22 (.n 21), .o 23 (.b .add 17 22), .m 3 23])) (.region [.m 15 4, .o 16 (.c .add 15 1), .m 4 16])))
def c17:ACode:=(.seq (.region [.o 2 (.mv (.const (.bool false)))]) (.seq (.region [.m 5 0, .o 6 (.n 5), .m 3 6]) (.seq (.seq (.region [.k 4 0]) (.block 0 [3] (.loop [0,3,4] c17L0))) (.seq (.region [.m 24 3, .o 25 (.c .gtr 24 6000), .m 2 25]) .ret))))
def F17:AFun:=⟨c17,1,26,[(.tmp 2)]⟩
def K17:Nat→List Nat×List Nat
 |0=>([0,3,4],[3])
 |1=>([],[0,3,4])
 |_=>([],[])
theorem F17_ok:kj8 Try.prog K17 noRg Try.f17=some F17:=by kernel_rfl
/- 18: syndrome/syndromeref.WeightsMay -/
def c18:ACode:=(.seq (.region [.o 1 (.box 25 3 (.tmp 0)), .k 2 0]) (.seq (.region [.o 4 (.ld true 3 (.tmp 1)), .o 5 (.q 71 [4]), .m 3 5]) (.seq (.seq (.region [.m 6 3, .o 7 (.c .eql 6 0), .m 8 7, .g 9 (.f 0 1) 8 true, .g 10 (.l 9) 8 true, .g 11 (.ld true 3 (.tmp 1)) 8 true,⟨(some 12),(.call 72 [(.tmp 11)]),(some (8,true)),true⟩, .g 13 (.fld false 2 1 (.tmp 12)) 8 true, .g 14 (.n 13) 8 true, .g 15 (.q 64 [10,14]) 8 true, .g 16 (.un .not (.tmp 15)) 8 true, .o 17 (.pick (.tmp 8) (.tmp 16) (.const (.bool false)))]) (.cond (.tmp 17) (.region [.k 3 4]) .skip)) (.seq (.region [.m 18 3, .m 2 18]) .ret))))
def F18:AFun:=⟨c18,1,19,[(.tmp 2)]⟩
def K18:Nat→List Nat×List Nat
 |_=>([],[])
theorem F18_ok:kj8 Try.prog K18 noRg Try.f18=some F18:=by kernel_rfl
/- 19: syndrome/syndromeref.Weighed -/
def c19L0:ACode:=(.seq (.seq (.region [.m 14 5, .m 15 4, .o 16 (.n 15), .o 17 (.b .lss 14 16)]) (.cond (.tmp 17) .skip (.exit 0))) (.seq (.block 1 [3,4,5] (.seq (.region [.m 20 4, .m 21 5, .o 22 (.i 1 20 21), .o 23 (.l 22), .o 24 (.q 74 [23]), .m 6 24]) (.region [.m 25 3, .m 26 6, .m 27 3, .m 28 6, .o 29 (.i 1 27 28), .o 30 (.l 29), .o 31 (.c .add 30 1), .o 32 (.i 1 25 26), .n (.st 1 (.tmp 32) (.tmp 31))]))) (.region [.m 18 5, .o 19 (.c .add 18 1), .m 5 19])))
def c19:ACode:=(.seq (.region [.o 1 (.box 25 3 (.tmp 0)), .o 2 (.mv (.const (.slice none 0 0)))]) (.seq (.region [.o 7 (.f 1 1), .o 8 (.l 7), .o 9 (.c .add 8 1), .o 10 (.mks 3 1 8 [(.int .i64 0)] (.tmp 9) (.tmp 9)), .m 3 10]) (.seq (.region [.o 11 (.ld true 3 (.tmp 1)), .o 12 (.q 72 [11]), .o 13 (.q 73 [12]), .m 4 13]) (.seq (.seq (.region [.k 5 0]) (.block 0 [3] (.loop [3,4,5] c19L0))) (.seq (.region [.m 33 3, .m 2 33]) .ret)))))
def F19:AFun:=⟨c19,1,34,[(.tmp 2)]⟩
def K19:Nat→List Nat×List Nat
 |0=>([3,4,5],[3])
 |1=>([],[3,4,5])
 |_=>([],[])
theorem F19_ok:kj8 Try.prog K19 noRg Try.f19=some F19:=by kernel_rfl
/- 20: syndrome/code.Weights -/
def c20L0:ACode:=(.seq (.seq (.region [.m 59 38, .o 60 (.c .geq 59 0)]) (.cond (.tmp 60) .skip (.exit 2))) (.seq (.block 3 [5,33,35,37,38,113] (.seq (.region [.m 63 37, .m 64 38, .o 65 (.i 1 63 64), .o 66 (.l 65), .o 67 (.c .add 66 1), .o 68 (.i 1 63 64), .n (.st 1 (.tmp 68) (.tmp 67))]) (.seq (.seq (.region [.m 69 37, .m 70 38, .o 71 (.i 1 69 70), .o 72 (.l 71), .o 73 (.f 0 33), .o 74 (.l 73), .o 75 (.b .lss 72 74)]) (.cond (.tmp 75) (.exit 2) .skip)) (.region [.m 76 37, .m 77 38, .o 78 (.i 1 76 77), .n (.st 1 (.tmp 78) (.const (.int .i64 0)))])))) (.region [.m 61 38, .o 62 (.c .sub 61 1), .m 38 62])))
def c20L1:ACode:=(.seq (.seq (.seq (.region [.m 50 37, .m 51 35, .o 52 (.ld true 3 (.tmp 33)), .m 53 37, .o 54 (.q 133 [51,52,53]), .o 113 (.pick (.tmp 113) (.tmp 114) (.const (.bool false))), .m 86 5, .m 103 50, .m 104 54]) (.seq (.block 1001 [5,33,35,37,113] (.seq (.region [.m 88 104]) (.block 1 [5,33,35,37,113] (.region [.o 105 (.l 86), .m 106 88,⟨(some 107),(.call 77 [(.tmp 106)]),none,true⟩, .o 108 (.i 1 105 107), .o 109 (.l 108), .o 110 (.c .add 109 1), .o 111 (.i 1 105 107), .n (.st 1 (.tmp 111) (.tmp 110))])))) (.region [.o 55 (.un .not (.tmp 113))]))) (.cond (.tmp 55) .skip (.exit 0))) (.block 1 [5,33,35,37,113] (.seq (.region [.m 56 37, .o 57 (.n 56), .o 58 (.c .sub 57 1), .m 38 58]) (.seq (.block 2 [5,33,35,37,38,113] (.loop [5,33,35,37,38,113] c20L0)) (.seq (.region [.m 79 38, .o 80 (.c .lss 79 0)]) (.cond (.tmp 80) (.exit 1000) .skip))))))
def c20:ACode:=(.seq (.region [.o 1 (.box 25 3 (.tmp 0)), .o 2 (.mv (.const (.slice none 0 0))), .k 3 0]) (.seq (.region [.o 9 (.ld true 3 (.tmp 1)), .o 10 (.q 75 [9]), .m 8 10, .o 11 (.e 0 8), .o 12 (.e 1 8), .n (.st 3 (.tmp 1) (.tmp 11)), .m 4 12]) (.seq (.seq (.region [.m 13 4, .o 14 (.c .neq 13 0)]) (.cond (.tmp 14) (.seq (.region [.m 15 4, .o 2 (.mv (.const (.slice none 0 0))), .m 3 15]) .ret) .skip)) (.seq (.region [.o 16 (.f 1 1), .o 17 (.l 16), .o 18 (.c .add 17 1), .o 19 (.mks 3 1 8 [(.int .i64 0)] (.tmp 18) (.tmp 18)), .o 5 (.alloc 28 [(.slice none 0 0)]), .n (.st 1 (.tmp 5) (.tmp 19))]) (.seq (.seq (.region [.o 20 (.ld true 3 (.tmp 1)), .o 21 (.q 76 [20])]) (.block 0 [5] (.seq (.block 0 [5,21] .skip) (.seq (.region [.o 113 (.mv (.const (.bool false))), .o 33 (.capt 131 1 0 (.tmp 21))]) (.seq (.block 1000 [113,5] (.seq (.region [.o 40 (.f 0 33), .o 41 (.l 40), .o 42 (.q 132 [41]), .m 39 42, .o 43 (.e 0 39), .o 44 (.e 1 39), .m 35 43, .m 36 44]) (.seq (.region [.o 45 (.f 2 33), .o 46 (.l 45), .o 47 (.n 46), .o 48 (.mks 3 1 8 [(.int .i64 0)] (.tmp 47) (.tmp 47)), .m 37 48]) (.block 0 [5,113] (.loop [5,33,35,37,113] c20L1))))) (.cond (.tmp 113) (.seq (.block 0 [5] .skip) .ret) (.block 0 [5] .skip))))))) (.seq (.region [.o 31 (.l 5), .m 2 31, .k 3 0]) .ret))))))
def F20:AFun:=⟨c20,1,32,[(.tmp 2),(.tmp 3)]⟩
def K20:Nat→List Nat×List Nat
 |0=>([],[5])
 |_=>([],[])
def K20I0:Nat→List Nat×List Nat
 |0=>([5,33,35,37,113],[5,113])
 |1=>([5,113],[5,33,35,37,113])
 |2=>([5,33,35,37,38,113],[5,33,35,37,38,113])
 |3=>([5,113],[5,33,35,37,38,113])
 |_=>([],[])
def K20B0:Nat→List Nat×List Nat
 |1=>([5,33,35,37,113],[5,33,35,37,113])
 |_=>([],[])
def R20:Nat→Option RgIn
 |0=>some ⟨131,1,1000,1001,[5,21],[5],[5,33,35,37,113],[5],[0,17],K20I0,K20B0⟩
 |_=>none
theorem F20_ok:kj8 Try.prog K20 R20 Try.f20=some F20:=by kernel_rfl
/- 21: syndrome/code.Distance -/
def c21L0:ACode:=(.seq (.seq (.region [.m 15 6, .m 16 4, .o 17 (.n 16), .o 18 (.b .lss 15 17)]) (.cond (.tmp 18) .skip (.exit 0))) (.seq (.block 1 [4,6] (.seq (.region [.m 21 4, .m 22 6, .o 23 (.i 1 21 22), .o 24 (.l 23), .o 25 (.c .gtr 24 0)]) (.cond (.tmp 25) (.seq (.region [.m 26 6, .m 2 26, .k 3 0]) .ret) .skip))) (.region [.m 19 6, .o 20 (.c .add 19 1), .m 6 20])))
def c21:ACode:=(.seq (.region [.o 1 (.box 25 3 (.tmp 0)), .k 2 0, .k 3 0]) (.seq (.region [.o 8 (.ld true 3 (.tmp 1)), .o 9 (.q 20 [8]), .m 7 9, .o 10 (.e 0 7), .o 11 (.e 1 7), .m 4 10, .m 5 11]) (.seq (.seq (.region [.m 12 5, .o 13 (.c .neq 12 0)]) (.cond (.tmp 13) (.seq (.region [.m 14 5, .k 2 0, .m 3 14]) .ret) .skip)) (.seq (.seq (.region [.k 6 1]) (.block 0 [] (.loop [4,6] c21L0))) (.seq (.region [.k 2 0, .k 3 0]) .ret)))))
def F21:AFun:=⟨c21,1,27,[(.tmp 2),(.tmp 3)]⟩
def K21:Nat→List Nat×List Nat
 |0=>([4,6],[])
 |1=>([],[4,6])
 |_=>([],[])
theorem F21_ok:kj8 Try.prog K21 noRg Try.f21=some F21:=by kernel_rfl
/- 22: syndrome/syndromelaw.list -/
def c22:ACode:=(.seq (.region [.o 8 (.mv (.const (.bool false)))]) (.seq (.seq (.region [.m 9 3, .o 10 (.c .neq 9 0)]) (.cond (.tmp 10) (.seq (.region [.m 11 1, .m 12 3, .o 13 (.b .eql 11 12), .m 14 13, .g 15 (.m 0) 14 true, .g 16 (.n 15) 14 true, .g 17 (.c .eql 16 0) 14 true, .o 18 (.pick (.tmp 14) (.tmp 17) (.const (.bool false))), .m 8 18]) .ret) .skip)) (.seq (.region [.m 19 1, .o 20 (.c .eql 19 0), .m 21 20, .g 22 (.m 0) 21 true, .g 23 (.m 2) 21 true, .g 24 (.q 28 [22,23]) 21 true, .o 25 (.pick (.tmp 21) (.tmp 24) (.const (.bool false))), .m 8 25]) .ret)))
def F22:AFun:=⟨c22,4,26,[(.tmp 8)]⟩
def K22:Nat→List Nat×List Nat
 |_=>([],[])
theorem F22_ok:kj8 Try.prog K22 noRg Try.f22=some F22:=by kernel_rfl
/- 23: syndrome/syndromelaw.num -/
def c23:ACode:=(.seq (.region [.o 8 (.mv (.const (.bool false)))]) (.seq (.seq (.region [.m 9 3, .o 10 (.c .neq 9 0)]) (.cond (.tmp 10) (.seq (.region [.m 11 1, .m 12 3, .o 13 (.b .eql 11 12), .m 14 13, .g 15 (.m 0) 14 true, .g 16 (.c .eql 15 0) 14 true, .o 17 (.pick (.tmp 14) (.tmp 16) (.const (.bool false))), .m 8 17]) .ret) .skip)) (.seq (.region [.m 18 1, .o 19 (.c .eql 18 0), .m 20 19, .g 21 (.m 0) 20 true, .g 22 (.m 2) 20 true, .g 23 (.b .eql 21 22) 20 true, .o 24 (.pick (.tmp 20) (.tmp 23) (.const (.bool false))), .m 8 24]) .ret)))
def F23:AFun:=⟨c23,4,25,[(.tmp 8)]⟩
def K23:Nat→List Nat×List Nat
 |_=>([],[])
theorem F23_ok:kj8 Try.prog K23 noRg Try.f23=some F23:=by kernel_rfl
/- 24: syndrome/syndromeref.Least -/
def c24L0:ACode:=(.seq (.seq (.region [.m 4 3, .m 5 0, .o 6 (.n 5), .o 7 (.b .lss 4 6)]) (.cond (.tmp 7) .skip (.exit 0))) (.seq (.block 1 [0,3] (.seq (.region [.m 10 0, .m 11 3, .o 12 (.i 1 10 11), .o 13 (.l 12), .o 14 (.c .gtr 13 0)]) (.cond (.tmp 14) (.seq (.region [.m 15 3, .m 2 15]) .ret) .skip))) (.region [.m 8 3, .o 9 (.c .add 8 1), .m 3 9])))
def c24:ACode:=(.seq (.region [.k 2 0]) (.seq (.seq (.region [.k 3 1]) (.block 0 [] (.loop [0,3] c24L0))) (.seq (.region [.k 2 0]) .ret)))
def F24:AFun:=⟨c24,1,16,[(.tmp 2)]⟩
def K24:Nat→List Nat×List Nat
 |0=>([0,3],[])
 |1=>([],[0,3])
 |_=>([],[])
theorem F24_ok:kj8 Try.prog K24 noRg Try.f24=some F24:=by kernel_rfl
/- 25: syndrome/syndromeref.WordMay -/
def c25L0:ACode:=(.seq (.seq (.region [.m 19 7, .m 20 1, .o 21 (.n 20), .o 22 (.b .lss 19 21)]) (.cond (.tmp 22) .skip (.exit 0))) (.seq (.block 1 [1,5,7] (.seq (.region [.o 25 (.ld true 5 (.tmp 5)), .m 26 1, .m 27 7, .o 28 (.i 1 26 27), .o 29 (.l 28), .o 30 (.q 79 [25,29]), .o 31 (.un .not (.tmp 30))]) (.cond (.tmp 31) (.seq (.region [.k 4 2]) .ret) .skip))) (.region [.m 23 7, .o 24 (.c .add 23 1), .m 7 24])))
def c25:ACode:=(.seq (.region [.o 2 (.box 25 3 (.tmp 0)), .k 4 0]) (.seq (.region [.o 9 (.f 0 2), .o 10 (.l 9), .o 11 (.q 78 [10]), .m 8 11, .o 12 (.e 0 8), .o 13 (.e 1 8), .o 5 (.alloc 102 [(.int .i64 0),(.int .i64 0),(.int .i64 0),(.int .i64 0),(.slice none 0 0)]), .n (.st 5 (.tmp 5) (.tmp 12)), .m 6 13]) (.seq (.seq (.region [.m 14 1, .o 15 (.n 14), .o 16 (.f 1 2), .o 17 (.l 16), .o 18 (.b .neq 15 17)]) (.cond (.tmp 18) (.seq (.region [.k 4 6]) .ret) .skip)) (.seq (.seq (.region [.k 7 0]) (.block 0 [] (.loop [1,5,7] c25L0))) (.seq (.region [.k 4 0]) .ret)))))
def F25:AFun:=⟨c25,2,32,[(.tmp 4)]⟩
def K25:Nat→List Nat×List Nat
 |0=>([1,5,7],[])
 |1=>([],[1,5,7])
 |_=>([],[])
theorem F25_ok:kj8 Try.prog K25 noRg Try.f25=some F25:=by kernel_rfl
/- 26: syndrome/code.Nearest -/
def c26L0:ACode:=(.seq (.seq (.region [.m 71 50, .o 72 (.c .geq 71 0)]) (.cond (.tmp 72) .skip (.exit 2))) (.seq (.block 3 [3,8,45,47,49,50,137] (.seq (.region [.m 75 49, .m 76 50, .o 77 (.i 1 75 76), .o 78 (.l 77), .o 79 (.c .add 78 1), .o 80 (.i 1 75 76), .n (.st 1 (.tmp 80) (.tmp 79))]) (.seq (.seq (.region [.m 81 49, .m 82 50, .o 83 (.i 1 81 82), .o 84 (.l 83), .o 85 (.f 0 45), .o 86 (.l 85), .o 87 (.b .lss 84 86)]) (.cond (.tmp 87) (.exit 2) .skip)) (.region [.m 88 49, .m 89 50, .o 90 (.i 1 88 89), .n (.st 1 (.tmp 90) (.const (.int .i64 0)))])))) (.region [.m 73 50, .o 74 (.c .sub 73 1), .m 50 74])))
def c26L1:ACode:=(.seq (.seq (.seq (.region [.m 62 49, .m 63 47, .o 64 (.ld true 3 (.tmp 45)), .m 65 49, .o 66 (.q 133 [63,64,65]), .o 137 (.pick (.tmp 137) (.tmp 138) (.const (.bool false))), .m 96 3, .m 101 8, .m 119 62, .m 120 66]) (.seq (.block 1001 [3,8,45,47,49,137] (.seq (.region [.m 103 120]) (.block 1 [3,8,45,47,49,137] (.seq (.region [.o 121 (.l 101), .o 122 (.eqn false 0 (.tmp 121)), .m 123 122, .g 124 (.m 103) 123 false, .g 125 (.l 96) 123 false,⟨(some 126),(.call 67 [(.tmp 124),(.tmp 125)]),(some (123,false)),true⟩,⟨(some 127),(.ld false 1 (.tmp 101)),(some (123,false)),true⟩,⟨(some 128),(.ld false 1 (.tmp 96)),(some (123,false)),true⟩, .g 129 (.q 67 [127,128]) 123 false, .g 130 (.b .lss 126 129) 123 false, .o 131 (.pick (.tmp 123) (.const (.bool true)) (.tmp 130))]) (.cond (.tmp 131) (.region [.m 132 103, .n (.st 1 (.tmp 101) (.tmp 132))]) .skip))))) (.region [.o 67 (.un .not (.tmp 137))]))) (.cond (.tmp 67) .skip (.exit 0))) (.block 1 [3,8,45,47,49,137] (.seq (.region [.m 68 49, .o 69 (.n 68), .o 70 (.c .sub 69 1), .m 50 70]) (.seq (.block 2 [3,8,45,47,49,50,137] (.loop [3,8,45,47,49,50,137] c26L0)) (.seq (.region [.m 91 50, .o 92 (.c .lss 91 0)]) (.cond (.tmp 92) (.exit 1000) .skip))))))
def c26:ACode:=(.seq (.region [.o 2 (.box 25 3 (.tmp 0)), .o 3 (.box 28 1 (.tmp 1)), .o 4 (.mv (.const (.slice none 0 0))), .k 5 0, .k 6 0]) (.seq (.region [.o 12 (.ld true 3 (.tmp 2)), .o 13 (.q 75 [12]), .m 11 13, .o 14 (.e 0 11), .o 15 (.e 1 11), .n (.st 3 (.tmp 2) (.tmp 14)), .m 7 15]) (.seq (.seq (.region [.m 16 7, .o 17 (.c .eql 16 0)]) (.cond (.tmp 17) (.region [.o 18 (.ld true 3 (.tmp 2)), .o 19 (.l 3), .o 20 (.q 80 [18,19]), .m 7 20]) .skip)) (.seq (.seq (.region [.m 21 7, .o 22 (.c .neq 21 0)]) (.cond (.tmp 22) (.seq (.region [.m 23 7, .o 4 (.mv (.const (.slice none 0 0))), .k 5 0, .m 6 23]) .ret) .skip)) (.seq (.region [.o 8 (.alloc 28 [(.slice none 0 0)])]) (.seq (.seq (.region [.o 24 (.ld true 3 (.tmp 2)), .o 25 (.q 76 [24])]) (.block 0 [3,8] (.seq (.block 0 [3,8,25] .skip) (.seq (.region [.o 137 (.mv (.const (.bool false))), .o 45 (.capt 131 1 0 (.tmp 25))]) (.seq (.block 1000 [137,3,8] (.seq (.region [.o 52 (.f 0 45), .o 53 (.l 52), .o 54 (.q 132 [53]), .m 51 54, .o 55 (.e 0 51), .o 56 (.e 1 51), .m 47 55, .m 48 56]) (.seq (.region [.o 57 (.f 2 45), .o 58 (.l 57), .o 59 (.n 58), .o 60 (.mks 3 1 8 [(.int .i64 0)] (.tmp 59) (.tmp 59)), .m 49 60]) (.block 0 [3,8,137] (.loop [3,8,45,47,49,137] c26L1))))) (.cond (.tmp 137) (.seq (.block 0 [3,8] .skip) .ret) (.block 0 [3,8] .skip))))))) (.seq (.region [.o 40 (.l 8), .o 41 (.l 8), .o 42 (.l 3),⟨(some 43),(.call 67 [(.tmp 41),(.tmp 42)]),none,true⟩, .m 4 40, .m 5 43, .k 6 0]) .ret)))))))
def F26:AFun:=⟨c26,2,44,[(.tmp 4),(.tmp 5),(.tmp 6)]⟩
def K26:Nat→List Nat×List Nat
 |0=>([],[3,8])
 |_=>([],[])
def K26I0:Nat→List Nat×List Nat
 |0=>([3,8,45,47,49,137],[3,8,137])
 |1=>([3,8,137],[3,8,45,47,49,137])
 |2=>([3,8,45,47,49,50,137],[3,8,45,47,49,50,137])
 |3=>([3,8,137],[3,8,45,47,49,50,137])
 |_=>([],[])
def K26B0:Nat→List Nat×List Nat
 |1=>([3,8,45,47,49,137],[3,8,45,47,49,137])
 |_=>([],[])
def R26:Nat→Option RgIn
 |0=>some ⟨131,1,1000,1001,[3,8,25],[3,8],[3,8,45,47,49,137],[3,8],[0,17],K26I0,K26B0⟩
 |_=>none
theorem F26_ok:kj8 Try.prog K26 R26 Try.f26=some F26:=by kernel_rfl
/- 27: syndrome/syndromeref.Nearest -/
def c27L0:ACode:=(.seq (.seq (.region [.m 12 8, .m 13 6, .o 14 (.n 13), .o 15 (.b .lss 12 14)]) (.cond (.tmp 15) .skip (.exit 0))) (.seq (.block 1 [1,6,7,8] (.seq (.region [.m 18 6, .m 19 8, .o 20 (.i 1 18 19), .o 21 (.l 20), .m 22 1,⟨(some 23),(.call 81 [(.tmp 21),(.tmp 22)]),none,true⟩, .m 24 6, .m 25 7, .o 26 (.i 1 24 25),⟨(some 27),(.ld false 1 (.tmp 26)),none,true⟩, .m 28 1, .o 29 (.q 81 [27,28]), .o 30 (.b .lss 23 29)]) (.cond (.tmp 30) (.region [.m 31 8, .m 7 31]) .skip))) (.region [.m 16 8, .o 17 (.c .add 16 1), .m 8 17])))
def c27:ACode:=(.seq (.region [.o 2 (.box 25 3 (.tmp 0)), .o 4 (.mv (.const (.slice none 0 0))), .k 5 0]) (.seq (.region [.o 9 (.ld true 3 (.tmp 2)), .o 10 (.q 72 [9]), .o 11 (.q 73 [10]), .m 6 11]) (.seq (.region [.k 7 0]) (.seq (.seq (.region [.k 8 1]) (.block 0 [1,6,7] (.loop [1,6,7,8] c27L0))) (.seq (.region [.m 32 6, .m 33 7, .o 34 (.i 1 32 33), .o 35 (.l 34), .m 36 6, .m 37 7, .o 38 (.i 1 36 37), .o 39 (.l 38), .m 40 1,⟨(some 41),(.call 81 [(.tmp 39),(.tmp 40)]),none,true⟩, .m 4 35, .m 5 41]) .ret)))))
def F27:AFun:=⟨c27,2,42,[(.tmp 4),(.tmp 5)]⟩
def K27:Nat→List Nat×List Nat
 |0=>([1,6,7,8],[1,6,7])
 |1=>([],[1,6,7,8])
 |_=>([],[])
theorem F27_ok:kj8 Try.prog K27 noRg Try.f27=some F27:=by kernel_rfl
/- 28: syndrome/syndromeref.Same -/
def c28L0:ACode:=(.seq (.seq (.region [.m 11 5, .m 12 0, .o 13 (.n 12), .o 14 (.b .lss 11 13)]) (.cond (.tmp 14) .skip (.exit 0))) (.seq (.block 1 [0,1,5] (.seq (.region [.m 17 0, .m 18 5, .o 19 (.i 1 17 18), .o 20 (.l 19), .m 21 1, .m 22 5, .o 23 (.i 1 21 22), .o 24 (.l 23), .o 25 (.b .neq 20 24)]) (.cond (.tmp 25) (.seq (.region [.o 4 (.mv (.const (.bool false)))]) .ret) .skip))) (.region [.m 15 5, .o 16 (.c .add 15 1), .m 5 16])))
def c28:ACode:=(.seq (.region [.o 4 (.mv (.const (.bool false)))]) (.seq (.seq (.region [.m 6 0, .o 7 (.n 6), .m 8 1, .o 9 (.n 8), .o 10 (.b .neq 7 9)]) (.cond (.tmp 10) (.seq (.region [.o 4 (.mv (.const (.bool false)))]) .ret) .skip)) (.seq (.seq (.region [.k 5 0]) (.block 0 [] (.loop [0,1,5] c28L0))) (.seq (.region [.o 4 (.mv (.const (.bool true)))]) .ret))))
def F28:AFun:=⟨c28,2,26,[(.tmp 4)]⟩
def K28:Nat→List Nat×List Nat
 |0=>([0,1,5],[])
 |1=>([],[0,1,5])
 |_=>([],[])
theorem F28_ok:kj8 Try.prog K28 noRg Try.f28=some F28:=by kernel_rfl
/- 47: syndrome/syndromeref.Copy -/
def c47:ACode:=(.seq (.region [.o 2 (.mv (.const (.slice none 0 0)))]) (.seq (.region [.o 3 (.mkSl 3 1 0 []), .m 4 0, .o 5 (.app 3 1 8 (.tmp 3) (.tmp 4)), .m 2 5]) .ret))
def F47:AFun:=⟨c47,1,6,[(.tmp 2)]⟩
def K47:Nat→List Nat×List Nat
 |_=>([],[])
theorem F47_ok:kj8 Try.prog K47 noRg Try.f47=some F47:=by kernel_rfl
/- 64: syndrome/syndromeref.Few -/
def c64L0:ACode:=(.seq (.seq (.region [.m 7 6, .m 8 1, .o 9 (.b .lss 7 8)]) (.cond (.tmp 9) .skip (.exit 0))) (.seq (.block 1 [0,1,5,6] (.seq (.region [.m 12 5, .m 13 0, .o 14 (.b .mul 12 13), .m 5 14]) (.seq (.region [.m 15 5, .o 16 (.c .gtr 15 4096)]) (.cond (.tmp 16) (.seq (.region [.o 4 (.mv (.const (.bool false)))]) .ret) .skip)))) (.region [.m 10 6, .o 11 (.c .add 10 1), .m 6 11])))
def c64:ACode:=(.seq (.region [.o 4 (.mv (.const (.bool false)))]) (.seq (.region [.k 5 1]) (.seq (.seq (.region [.k 6 0]) (.block 0 [] (.loop [0,1,5,6] c64L0))) (.seq (.region [.o 4 (.mv (.const (.bool true)))]) .ret))))
def F64:AFun:=⟨c64,2,17,[(.tmp 4)]⟩
def K64:Nat→List Nat×List Nat
 |0=>([0,1,5,6],[])
 |1=>([],[0,1,5,6])
 |_=>([],[])
theorem F64_ok:kj8 Try.prog K64 noRg Try.f64=some F64:=by kernel_rfl
/- 67: syndrome/code.Apart -/
def c67L0:ACode:=(.seq (.region [.o 15 (.b .lss 14 13)]) (.seq (.cond (.tmp 15) .skip (.exit 0)) (.seq (.block 1 [0,1,5,13,14] (.seq (.region [.m 16 14, .m 6 16]) (.seq (.region [.m 17 0, .m 18 6, .o 19 (.i 1 17 18), .o 20 (.l 19), .m 21 1, .m 22 6, .o 23 (.i 1 21 22), .o 24 (.l 23), .o 25 (.b .neq 20 24)]) (.cond (.tmp 25) (.region [.m 26 5, .o 27 (.c .add 26 1), .m 5 27]) .skip)))) (.region [.o 28 (.c .add 14 1), .m 14 28]))))
def c67:ACode:=(.seq (.region [.k 4 0]) (.seq (.seq (.region [.m 7 0, .o 8 (.n 7), .m 9 1, .o 10 (.n 9), .o 11 (.b .neq 8 10)]) (.cond (.tmp 11) (.seq (.region [.k 4 (-1)]) .ret) .skip)) (.seq (.region [.k 5 0]) (.seq (.seq (.region [.m 12 0, .o 13 (.n 12), .k 14 0]) (.block 0 [5] (.loop [0,1,5,13,14] c67L0))) (.seq (.region [.m 29 5, .m 4 29]) .ret)))))
def F67:AFun:=⟨c67,2,30,[(.tmp 4)]⟩
def K67:Nat→List Nat×List Nat
 |0=>([0,1,5,13,14],[5])
 |1=>([],[0,1,5,13,14])
 |_=>([],[])
theorem F67_ok:kj8 Try.prog K67 noRg Try.f67=some F67:=by kernel_rfl
/- 71: syndrome/syndromeref.CodeMay -/
def c71:ACode:=(.seq (.region [.o 1 (.box 25 3 (.tmp 0)), .k 2 0]) (.seq (.region [.o 6 (.f 0 1), .o 7 (.l 6), .o 8 (.q 78 [7]), .m 5 8, .o 9 (.e 0 5), .o 10 (.e 1 5), .o 3 (.alloc 102 [(.int .i64 0),(.int .i64 0),(.int .i64 0),(.int .i64 0),(.slice none 0 0)]), .n (.st 5 (.tmp 3) (.tmp 9)), .m 4 10]) (.seq (.seq (.region [.m 11 4, .o 12 (.c .neq 11 0)]) (.cond (.tmp 12) (.seq (.region [.m 13 4, .m 2 13]) .ret) .skip)) (.seq (.seq (.region [.o 14 (.f 1 1), .o 15 (.l 14), .o 16 (.c .lss 15 1), .m 17 16, .g 18 (.f 1 1) 17 false, .g 19 (.l 18) 17 false, .g 20 (.c .gtr 19 64) 17 false, .o 21 (.pick (.tmp 17) (.const (.bool true)) (.tmp 20))]) (.cond (.tmp 21) (.seq (.region [.k 2 4]) .ret) .skip)) (.seq (.region [.o 22 (.f 0 1), .o 23 (.l 22), .o 24 (.f 2 1), .o 25 (.l 24), .o 26 (.q 128 [23,25]), .m 4 26]) (.seq (.seq (.region [.m 27 4, .o 28 (.c .eql 27 0), .m 29 28, .g 30 (.f 2 1) 29 true, .g 31 (.l 30) 29 true, .g 32 (.n 31) 29 true, .g 33 (.c .gtr 32 0) 29 true, .o 34 (.pick (.tmp 29) (.tmp 33) (.const (.bool false))), .m 35 34, .g 36 (.f 2 1) 35 true, .g 37 (.l 36) 35 true, .g 38 (.iaddr 1 (.tmp 37) (.const (.int .i64 0))) 35 true, .g 39 (.l 38) 35 true, .g 40 (.n 39) 35 true, .g 41 (.f 1 1) 35 true, .g 42 (.l 41) 35 true, .g 43 (.b .neq 40 42) 35 true, .o 44 (.pick (.tmp 35) (.tmp 43) (.const (.bool false)))]) (.cond (.tmp 44) (.region [.k 4 3]) .skip)) (.seq (.region [.m 45 4, .m 2 45]) .ret)))))))
def F71:AFun:=⟨c71,1,46,[(.tmp 2)]⟩
def K71:Nat→List Nat×List Nat
 |_=>([],[])
theorem F71_ok:kj8 Try.prog K71 noRg Try.f71=some F71:=by kernel_rfl
/- 72: syndrome/syndromeref.Made -/
def c72:ACode:=(.seq (.region [.o 1 (.box 25 3 (.tmp 0)), .o 2 (.alloc 25 [(.int .i64 0),(.int .i64 0),(.slice none 0 0)])]) (.seq (.region [.o 8 (.f 0 1), .o 9 (.l 8), .o 10 (.q 78 [9]), .m 7 10, .o 11 (.e 0 7), .o 12 (.e 1 7), .o 3 (.alloc 102 [(.int .i64 0),(.int .i64 0),(.int .i64 0),(.int .i64 0),(.slice none 0 0)]), .n (.st 5 (.tmp 3) (.tmp 11)), .m 4 12]) (.seq (.region [.o 14 (.ld true 5 (.tmp 3)), .o 15 (.f 2 1), .o 16 (.l 15), .o 17 (.q 129 [14,16]), .m 13 17, .o 18 (.e 0 13), .o 19 (.e 1 13), .m 5 18, .m 6 19]) (.seq (.region [.o 20 (.f 0 1), .o 21 (.l 20), .o 22 (.f 1 1), .o 23 (.l 22), .m 24 5, .o 25 (.build [(.int .i64 0),(.int .i64 0),(.slice none 0 0)] [(0,1),(1,1),(2,1)] [(0,(.tmp 21)),(1,(.tmp 23)),(2,(.tmp 24))]), .n (.st 3 (.tmp 2) (.tmp 25))]) .ret))))
def F72:AFun:=⟨c72,1,26,[(.cell 2 true 3)]⟩
def K72:Nat→List Nat×List Nat
 |_=>([],[])
theorem F72_ok:kj8 Try.prog K72 noRg Try.f72=some F72:=by kernel_rfl
/- 73: syndrome/syndromeref.Words -/
def c73L0:ACode:=(.seq (.seq (.region [.m 18 7]) (.cond (.tmp 18) .skip (.exit 0))) (.block 1 [1,3,5,6,7] (.seq (.region [.m 19 6, .o 20 (.ld true 5 (.tmp 3)), .o 21 (.ld true 3 (.tmp 1)), .m 22 5, .o 23 (.q 130 [20,21,22]), .o 24 (.mkSl 28 1 1 [(.tmp 23)]), .o 25 (.app 28 1 24 (.tmp 19) (.tmp 24)), .m 6 25]) (.region [.m 26 5, .o 27 (.f 0 1), .o 28 (.l 27), .o 29 (.q 88 [26,28]), .m 7 29]))))
def c73:ACode:=(.seq (.region [.o 1 (.box 25 3 (.tmp 0)), .o 2 (.mv (.const (.slice none 0 0)))]) (.seq (.region [.o 9 (.f 0 1), .o 10 (.l 9), .o 11 (.q 78 [10]), .m 8 11, .o 12 (.e 0 8), .o 13 (.e 1 8), .o 3 (.alloc 102 [(.int .i64 0),(.int .i64 0),(.int .i64 0),(.int .i64 0),(.slice none 0 0)]), .n (.st 5 (.tmp 3) (.tmp 12)), .m 4 13]) (.seq (.region [.o 14 (.f 2 1), .o 15 (.l 14), .o 16 (.n 15), .o 17 (.mks 3 1 8 [(.int .i64 0)] (.tmp 16) (.tmp 16)), .m 5 17]) (.seq (.region [.o 6 (.mv (.const (.slice none 0 0)))]) (.seq (.region [.o 7 (.mv (.const (.bool true)))]) (.seq (.block 0 [6] (.loop [1,3,5,6,7] c73L0)) (.seq (.region [.m 30 6, .m 2 30]) .ret)))))))
def F73:AFun:=⟨c73,1,31,[(.tmp 2)]⟩
def K73:Nat→List Nat×List Nat
 |0=>([1,3,5,6,7],[6])
 |1=>([],[1,3,5,6,7])
 |_=>([],[])
theorem F73_ok:kj8 Try.prog K73 noRg Try.f73=some F73:=by kernel_rfl
/- 74: syndrome/syndromeref.WeightOf -/
def c74L0:ACode:=(.seq (.seq (.region [.m 5 4, .m 6 0, .o 7 (.n 6), .o 8 (.b .lss 5 7)]) (.cond (.tmp 8) .skip (.exit 0))) (.seq (.block 1 [0,3,4] (.seq (.region [.m 11 0, .m 12 4, .o 13 (.i 1 11 12), .o 14 (.l 13), .o 15 (.c .neq 14 0)]) (.cond (.tmp 15) (.region [.m 16 3, .o 17 (.c .add 16 1), .m 3 17]) .skip))) (.region [.m 9 4, .o 10 (.c .add 9 1), .m 4 10])))
def c74:ACode:=(.seq (.region [.k 2 0]) (.seq (.region [.k 3 0]) (.seq (.seq (.region [.k 4 0]) (.block 0 [3] (.loop [0,3,4] c74L0))) (.seq (.region [.m 18 3, .m 2 18]) .ret))))
def F74:AFun:=⟨c74,1,19,[(.tmp 2)]⟩
def K74:Nat→List Nat×List Nat
 |0=>([0,3,4],[3])
 |1=>([],[0,3,4])
 |_=>([],[])
theorem F74_ok:kj8 Try.prog K74 noRg Try.f74=some F74:=by kernel_rfl
/- 75: syndrome/code.all -/
def c75L0:ACode:=(.seq (.region [.o 19 (.b .lss 18 17)]) (.seq (.cond (.tmp 19) .skip (.exit 0)) (.seq (.block 1 [1,2,5,17,18] (.seq (.region [.m 20 5, .o 21 (.f 0 1), .o 22 (.l 21), .o 23 (.b .mul 20 22), .m 5 23]) (.seq (.region [.m 24 5, .o 25 (.c .gtr 24 4096)]) (.cond (.tmp 25) (.seq (.region [.o 26 (.build [(.int .i64 0),(.int .i64 0),(.slice none 0 0)] [(0,1),(1,1),(2,1)] []), .n (.st 3 (.tmp 2) (.tmp 26)), .k 3 4]) .ret) .skip)))) (.region [.o 27 (.c .add 18 1), .m 18 27]))))
def c75:ACode:=(.seq (.region [.o 1 (.box 25 3 (.tmp 0)), .o 2 (.alloc 25 [(.int .i64 0),(.int .i64 0),(.slice none 0 0)]), .k 3 0]) (.seq (.region [.o 7 (.ld true 3 (.tmp 1)), .o 8 (.q 115 [7]), .m 6 8, .o 9 (.e 0 6), .o 10 (.e 1 6), .n (.st 3 (.tmp 1) (.tmp 9)), .m 4 10]) (.seq (.seq (.region [.m 11 4, .o 12 (.c .neq 11 0)]) (.cond (.tmp 12) (.seq (.region [.o 13 (.build [(.int .i64 0),(.int .i64 0),(.slice none 0 0)] [(0,1),(1,1),(2,1)] []), .m 14 4, .n (.st 3 (.tmp 2) (.tmp 13)), .m 3 14]) .ret) .skip)) (.seq (.region [.k 5 1]) (.seq (.seq (.region [.o 15 (.f 2 1), .o 16 (.l 15), .o 17 (.n 16), .k 18 0]) (.block 0 [1,2] (.loop [1,2,5,17,18] c75L0))) (.seq (.region [.o 28 (.ld true 3 (.tmp 1)), .n (.st 3 (.tmp 2) (.tmp 28)), .k 3 0]) .ret))))))
def F75:AFun:=⟨c75,1,29,[(.cell 2 true 3),(.tmp 3)]⟩
def K75:Nat→List Nat×List Nat
 |0=>([1,2,5,17,18],[1,2])
 |1=>([],[1,2,5,17,18])
 |_=>([],[])
theorem F75_ok:kj8 Try.prog K75 noRg Try.f75=some F75:=by kernel_rfl
/- 76: syndrome/code.words -/
def c76:ACode:=(.seq (.region [.o 1 (.box 25 3 (.tmp 0)), .o 2 (.mv (.const .nilFunc))]) (.seq (.region [.o 3 (.mkf 131 [(.tmp 1)]), .m 2 3]) .ret))
def F76:AFun:=⟨c76,1,4,[(.tmp 2)]⟩
def K76:Nat→List Nat×List Nat
 |_=>([],[])
theorem F76_ok:kj8 Try.prog K76 noRg Try.f76=some F76:=by kernel_rfl
/- 77: syndrome/code.Weight -/
def c77L0:ACode:=(.seq (.region [.o 9 (.b .lss 8 7)]) (.seq (.cond (.tmp 9) .skip (.exit 0)) (.seq (.block 1 [3,6,7,8] (.seq (.region [.o 10 (.i 1 6 8), .o 11 (.l 10), .m 5 11]) (.seq (.region [.m 12 5, .o 13 (.c .neq 12 0)]) (.cond (.tmp 13) (.region [.m 14 3, .o 15 (.c .add 14 1), .m 3 15]) .skip)))) (.region [.o 16 (.c .add 8 1), .m 8 16]))))
def c77:ACode:=(.seq (.region [.k 2 0]) (.seq (.region [.k 3 0]) (.seq (.seq (.region [.m 6 0, .o 7 (.n 6), .k 8 0]) (.block 0 [3] (.loop [3,6,7,8] c77L0))) (.seq (.region [.m 17 3, .m 2 17]) .ret))))
def F77:AFun:=⟨c77,1,18,[(.tmp 2)]⟩
def K77:Nat→List Nat×List Nat
 |0=>([3,6,7,8],[3])
 |1=>([],[3,6,7,8])
 |_=>([],[])
theorem F77_ok:kj8 Try.prog K77 noRg Try.f77=some F77:=by kernel_rfl
/- 78: syndrome/syndromeref.Field -/
def c78L0:ACode:=(.seq (.seq (.region [.m 32 7, .m 33 0, .o 34 (.b .lss 32 33)]) (.cond (.tmp 34) .skip (.exit 0))) (.seq (.block 1 [0,2,4,5,6,7] (.seq (.region [.o 37 (.ld true 5 (.tmp 6)), .m 38 7, .o 39 (.q 135 [37,38])]) (.cond (.tmp 39) (.seq (.region [.m 40 7, .o 41 (.f 3 6), .n (.st 1 (.tmp 41) (.tmp 40))]) (.seq (.region [.o 42 (.ld true 5 (.tmp 6)), .n (.st 5 (.tmp 2) (.tmp 42)), .k 3 0]) .ret)) .skip))) (.region [.m 35 7, .o 36 (.c .add 35 1), .m 7 36])))
def c78L1:ACode:=(.seq (.seq (.region [.m 45 8, .m 46 0, .o 47 (.b .lss 45 46)]) (.cond (.tmp 47) .skip (.exit 2))) (.seq (.block 3 [0,2,4,5,6,8] (.seq (.region [.m 50 8, .m 51 4, .m 52 5, .o 53 (.q 136 [50,51,52]), .o 54 (.mkSl 3 1 1 [(.const (.int .i64 1))]), .o 55 (.app 3 1 8 (.tmp 53) (.tmp 54)), .o 56 (.f 4 6), .n (.st 1 (.tmp 56) (.tmp 55))]) (.seq (.region [.o 57 (.ld true 5 (.tmp 6)), .m 58 4, .o 59 (.q 135 [57,58])]) (.cond (.tmp 59) (.seq (.region [.o 60 (.ld true 5 (.tmp 6)), .n (.st 5 (.tmp 2) (.tmp 60)), .k 3 0]) .ret) .skip)))) (.region [.m 48 8, .o 49 (.c .add 48 1), .m 8 49])))
def c78:ACode:=(.seq (.region [.o 2 (.alloc 102 [(.int .i64 0),(.int .i64 0),(.int .i64 0),(.int .i64 0),(.slice none 0 0)]), .k 3 0]) (.seq (.seq (.region [.m 9 0, .o 10 (.c .lss 9 2), .m 11 10, .g 12 (.m 0) 11 false, .g 13 (.c .gtr 12 64) 11 false, .o 14 (.pick (.tmp 11) (.const (.bool true)) (.tmp 13))]) (.cond (.tmp 14) (.seq (.region [.o 15 (.build [(.int .i64 0),(.int .i64 0),(.int .i64 0),(.int .i64 0),(.slice none 0 0)] [(0,1),(1,1),(2,1),(3,1),(4,1)] []), .n (.st 5 (.tmp 2) (.tmp 15)), .k 3 1]) .ret) .skip)) (.seq (.region [.m 17 0, .o 18 (.q 134 [17]), .m 16 18, .o 19 (.e 0 16), .o 20 (.e 1 16), .m 4 19, .m 5 20]) (.seq (.seq (.region [.m 21 4, .o 22 (.c .eql 21 0)]) (.cond (.tmp 22) (.seq (.region [.o 23 (.build [(.int .i64 0),(.int .i64 0),(.int .i64 0),(.int .i64 0),(.slice none 0 0)] [(0,1),(1,1),(2,1),(3,1),(4,1)] []), .n (.st 5 (.tmp 2) (.tmp 23)), .k 3 1]) .ret) .skip)) (.seq (.region [.m 24 0, .m 25 4, .m 26 5, .o 27 (.build [(.int .i64 0),(.int .i64 0),(.int .i64 0),(.int .i64 0),(.slice none 0 0)] [(0,1),(1,1),(2,1),(3,1),(4,1)] [(0,(.tmp 24)),(1,(.tmp 25)),(2,(.tmp 26))]), .o 6 (.alloc 102 [(.int .i64 0),(.int .i64 0),(.int .i64 0),(.int .i64 0),(.slice none 0 0)]), .n (.st 5 (.tmp 6) (.tmp 27))]) (.seq (.seq (.region [.m 28 5, .o 29 (.c .eql 28 1)]) (.cond (.tmp 29) (.seq (.region [.o 30 (.mkSl 3 1 2 [(.const (.int .i64 0)),(.const (.int .i64 1))]), .o 31 (.f 4 6), .n (.st 1 (.tmp 31) (.tmp 30))]) (.seq (.region [.k 7 1]) (.block 0 [0,2,4,5,6] (.loop [0,2,4,5,6,7] c78L0)))) .skip)) (.seq (.region [.m 43 4, .o 44 (.f 3 6), .n (.st 1 (.tmp 44) (.tmp 43))]) (.seq (.seq (.region [.k 8 0]) (.block 2 [2] (.loop [0,2,4,5,6,8] c78L1))) (.seq (.region [.o 61 (.build [(.int .i64 0),(.int .i64 0),(.int .i64 0),(.int .i64 0),(.slice none 0 0)] [(0,1),(1,1),(2,1),(3,1),(4,1)] []), .n (.st 5 (.tmp 2) (.tmp 61)), .k 3 1]) .ret)))))))))
def F78:AFun:=⟨c78,1,62,[(.cell 2 true 5),(.tmp 3)]⟩
def K78:Nat→List Nat×List Nat
 |0=>([0,2,4,5,6,7],[0,2,4,5,6])
 |1=>([],[0,2,4,5,6,7])
 |2=>([0,2,4,5,6,8],[2])
 |3=>([],[0,2,4,5,6,8])
 |_=>([],[])
theorem F78_ok:kj8 Try.prog K78 noRg Try.f78=some F78:=by kernel_rfl
/- 79: (syndrome/syndromeref.F).Has -/
def c79:ACode:=(.seq (.region [.o 2 (.box 102 5 (.tmp 0)), .o 4 (.mv (.const (.bool false)))]) (.seq (.region [.m 5 1, .o 6 (.c .geq 5 0), .m 7 6, .g 8 (.m 1) 7 true, .g 9 (.f 0 2) 7 true, .g 10 (.l 9) 7 true, .g 11 (.b .lss 8 10) 7 true, .o 12 (.pick (.tmp 7) (.tmp 11) (.const (.bool false))), .m 4 12]) .ret))
def F79:AFun:=⟨c79,2,13,[(.tmp 4)]⟩
def K79:Nat→List Nat×List Nat
 |_=>([],[])
theorem F79_ok:kj8 Try.prog K79 noRg Try.f79=some F79:=by kernel_rfl
/- 80: syndrome/code.word -/
def c80:ACode:=(.seq (.region [.o 2 (.box 25 3 (.tmp 0)), .k 4 0]) (.seq (.seq (.region [.m 7 1, .o 8 (.n 7), .o 9 (.f 1 2), .o 10 (.l 9), .o 11 (.b .neq 8 10)]) (.cond (.tmp 11) (.seq (.region [.k 4 6]) .ret) .skip)) (.seq (.region [.o 13 (.f 0 2), .o 14 (.l 13), .o 15 (.q 132 [14]), .m 12 15, .o 16 (.e 0 12), .o 17 (.e 1 12), .o 5 (.alloc 141 [(.pointer none)]), .n (.st 1 (.tmp 5) (.tmp 16)), .m 6 17]) (.seq (.seq (.region [.m 18 1, .o 19 (.mkf 137 [(.tmp 5)]), .o 20 (.q 95 [18,19])]) (.cond (.tmp 20) (.seq (.region [.k 4 2]) .ret) .skip)) (.seq (.region [.k 4 0]) .ret)))))
def F80:AFun:=⟨c80,2,21,[(.tmp 4)]⟩
def K80:Nat→List Nat×List Nat
 |_=>([],[])
theorem F80_ok:kj8 Try.prog K80 noRg Try.f80=some F80:=by kernel_rfl
/- 81: syndrome/syndromeref.Apart -/
def c81L0:ACode:=(.seq (.seq (.region [.m 12 6, .m 13 0, .o 14 (.n 13), .o 15 (.b .lss 12 14)]) (.cond (.tmp 15) .skip (.exit 0))) (.seq (.block 1 [0,1,5,6] (.seq (.region [.m 18 0, .m 19 6, .o 20 (.i 1 18 19), .o 21 (.l 20), .m 22 1, .m 23 6, .o 24 (.i 1 22 23), .o 25 (.l 24), .o 26 (.b .neq 21 25)]) (.cond (.tmp 26) (.region [.m 27 5, .o 28 (.c .add 27 1), .m 5 28]) .skip))) (.region [.m 16 6, .o 17 (.c .add 16 1), .m 6 17])))
def c81:ACode:=(.seq (.region [.k 4 0]) (.seq (.seq (.region [.m 7 0, .o 8 (.n 7), .m 9 1, .o 10 (.n 9), .o 11 (.b .neq 8 10)]) (.cond (.tmp 11) (.seq (.region [.k 4 (-1)]) .ret) .skip)) (.seq (.region [.k 5 0]) (.seq (.seq (.region [.k 6 0]) (.block 0 [5] (.loop [0,1,5,6] c81L0))) (.seq (.region [.m 29 5, .m 4 29]) .ret)))))
def F81:AFun:=⟨c81,2,30,[(.tmp 4)]⟩
def K81:Nat→List Nat×List Nat
 |0=>([0,1,5,6],[5])
 |1=>([],[0,1,5,6])
 |_=>([],[])
theorem F81_ok:kj8 Try.prog K81 noRg Try.f81=some F81:=by kernel_rfl
/- 88: syndrome/syndromeref.Next -/
def c88L0:ACode:=(.seq (.seq (.region [.m 9 5, .o 10 (.c .geq 9 0)]) (.cond (.tmp 10) .skip (.exit 0))) (.seq (.block 1 [0,1,5] (.seq (.region [.m 13 0, .m 14 5, .m 15 0, .m 16 5, .o 17 (.i 1 15 16), .o 18 (.l 17), .o 19 (.c .add 18 1), .o 20 (.i 1 13 14), .n (.st 1 (.tmp 20) (.tmp 19))]) (.seq (.seq (.region [.m 21 0, .m 22 5, .o 23 (.i 1 21 22), .o 24 (.l 23), .m 25 1, .o 26 (.b .lss 24 25)]) (.cond (.tmp 26) (.seq (.region [.o 4 (.mv (.const (.bool true)))]) .ret) .skip)) (.region [.m 27 0, .m 28 5, .o 29 (.i 1 27 28), .n (.st 1 (.tmp 29) (.const (.int .i64 0)))])))) (.region [.m 11 5, .o 12 (.c .sub 11 1), .m 5 12])))
def c88:ACode:=(.seq (.region [.o 4 (.mv (.const (.bool false)))]) (.seq (.seq (.region [.m 6 0, .o 7 (.n 6), .o 8 (.c .sub 7 1), .m 5 8]) (.block 0 [] (.loop [0,1,5] c88L0))) (.seq (.region [.o 4 (.mv (.const (.bool false)))]) .ret)))
def F88:AFun:=⟨c88,2,30,[(.tmp 4)]⟩
def K88:Nat→List Nat×List Nat
 |0=>([0,1,5],[])
 |1=>([],[0,1,5])
 |_=>([],[])
theorem F88_ok:kj8 Try.prog K88 noRg Try.f88=some F88:=by kernel_rfl
/- 92: slices.Clone[[]int,int] -/
def c92:ACode:=(.seq (.region [.o 2 (.mv (.const (.slice none 0 0)))]) (.seq (.seq (.region [.m 3 0, .o 4 (.eqn false 0 (.tmp 3))]) (.cond (.tmp 4) (.seq (.region [.o 2 (.mv (.const (.slice none 0 0)))]) .ret) .skip)) (.seq (.region [.o 5 (.mkSl 3 1 0 []), .m 6 0, .o 7 (.app 3 1 8 (.tmp 5) (.tmp 6)), .m 2 7]) .ret)))
def F92:AFun:=⟨c92,1,8,[(.tmp 2)]⟩
def K92:Nat→List Nat×List Nat
 |_=>([],[])
theorem F92_ok:kj8 Try.prog K92 noRg Try.f92=some F92:=by kernel_rfl
/- 95: slices.ContainsFunc[[]int,int] -/
def c95:ACode:=(.seq (.region [.o 4 (.mv (.const (.bool false)))]) (.seq (.region [.m 5 0, .m 6 1, .o 7 (.q 141 [5,6]), .o 8 (.c .geq 7 0), .m 4 8]) .ret))
def F95:AFun:=⟨c95,2,9,[(.tmp 4)]⟩
def K95:Nat→List Nat×List Nat
 |_=>([],[])
theorem F95_ok:kj8 Try.prog K95 noRg Try.f95=some F95:=by kernel_rfl
/- 115: syndrome/code.Make -/
def c115:ACode:=(.seq (.region [.o 1 (.box 25 3 (.tmp 0)), .o 2 (.alloc 25 [(.int .i64 0),(.int .i64 0),(.slice none 0 0)]), .k 3 0]) (.seq (.seq (.region [.o 8 (.ld true 3 (.tmp 1)), .o 9 (.q 148 [8]), .m 4 9]) (.seq (.region [.m 10 4, .o 11 (.c .neq 10 0)]) (.cond (.tmp 11) (.seq (.region [.o 12 (.build [(.int .i64 0),(.int .i64 0),(.slice none 0 0)] [(0,1),(1,1),(2,1)] []), .m 13 4, .n (.st 3 (.tmp 2) (.tmp 12)), .m 3 13]) .ret) .skip))) (.seq (.region [.o 15 (.f 0 1), .o 16 (.l 15), .o 17 (.f 2 1), .o 18 (.l 17), .o 19 (.q 118 [16,18]), .m 14 19, .o 20 (.e 0 14), .o 21 (.e 1 14), .o 22 (.e 2 14), .m 5 20, .m 6 21, .m 7 22]) (.seq (.region [.o 23 (.f 0 1), .o 24 (.l 23), .o 25 (.f 1 1), .o 26 (.l 25), .m 27 5, .o 28 (.build [(.int .i64 0),(.int .i64 0),(.slice none 0 0)] [(0,1),(1,1),(2,1)] [(0,(.tmp 24)),(1,(.tmp 26)),(2,(.tmp 27))]), .n (.st 3 (.tmp 2) (.tmp 28)), .k 3 0]) .ret))))
def F115:AFun:=⟨c115,1,29,[(.cell 2 true 3),(.tmp 3)]⟩
def K115:Nat→List Nat×List Nat
 |_=>([],[])
theorem F115_ok:kj8 Try.prog K115 noRg Try.f115=some F115:=by kernel_rfl
/- 118: syndrome/matrix.Reduce -/
def c118L0:ACode:=(.seq (.region [.o 92 (.b .lss 91 90)]) (.seq (.cond (.tmp 92) .skip (.exit 2)) (.seq (.block 3 [1,5,8,10,11,90,91] (.seq (.region [.m 93 91, .m 13 93]) (.seq (.region [.m 94 13, .m 95 11, .o 96 (.b .neq 94 95), .m 97 96, .g 98 (.m 1) 97 true, .g 99 (.m 13) 97 true, .g 100 (.i 1 98 99) 97 true, .g 101 (.l 100) 97 true, .g 102 (.l 10) 97 true, .g 103 (.i 1 101 102) 97 true, .g 104 (.l 103) 97 true, .g 105 (.c .neq 104 0) 97 true, .o 106 (.pick (.tmp 97) (.tmp 105) (.const (.bool false)))]) (.cond (.tmp 106) (.region [.m 107 8, .m 108 1, .m 109 13, .o 110 (.i 1 108 109), .o 111 (.l 110), .m 112 1, .m 113 11, .o 114 (.i 1 112 113), .o 115 (.l 114), .m 116 1, .m 117 13, .o 118 (.i 1 116 117), .o 119 (.l 118), .o 120 (.l 10), .o 121 (.i 1 119 120), .o 122 (.l 121), .o 123 (.q 157 [107,111,115,122])]) .skip)))) (.region [.o 124 (.c .add 91 1), .m 91 124]))))
def c118L1:ACode:=(.seq (.seq (.region [.o 32 (.l 10), .m 33 1, .o 34 (.iaddr 1 (.tmp 33) (.const (.int .i64 0))), .o 35 (.l 34), .o 36 (.n 35), .o 37 (.b .lss 32 36), .m 38 37, .g 39 (.m 5) 38 true, .g 40 (.n 39) 38 true, .g 41 (.m 1) 38 true, .g 42 (.n 41) 38 true, .g 43 (.b .lss 40 42) 38 true, .o 44 (.pick (.tmp 38) (.tmp 43) (.const (.bool false)))]) (.cond (.tmp 44) .skip (.exit 0))) (.seq (.block 1 [1,5,8,10] (.seq (.region [.m 47 5, .o 48 (.n 47), .m 11 48]) (.seq (.region [.m 49 1, .m 50 11, .o 51 (.sl 1 (.tmp 49) (some (.tmp 50)) none), .o 52 (.mkf 154 [(.tmp 10)]), .o 53 (.q 153 [51,52]), .m 12 53]) (.seq (.seq (.region [.m 54 12, .o 55 (.c .lss 54 0)]) (.cond (.tmp 55) (.exit 1) .skip)) (.seq (.region [.m 56 1, .m 57 11, .m 58 1, .m 59 11, .m 60 12, .o 61 (.b .add 59 60), .m 62 1, .m 63 11, .m 64 12, .o 65 (.b .add 63 64), .o 66 (.i 1 62 65), .o 67 (.l 66), .m 68 1, .m 69 11, .o 70 (.i 1 68 69), .o 71 (.l 70), .o 72 (.i 1 56 57), .n (.st 1 (.tmp 72) (.tmp 67)), .o 73 (.i 1 58 61), .n (.st 1 (.tmp 73) (.tmp 71))]) (.seq (.region [.m 74 8, .m 75 1, .m 76 11, .o 77 (.i 1 75 76), .o 78 (.l 77), .m 79 8, .m 80 1, .m 81 11, .o 82 (.i 1 80 81), .o 83 (.l 82), .o 84 (.l 10), .o 85 (.i 1 83 84), .o 86 (.l 85),⟨(some 87),(.call 156 [(.tmp 79),(.tmp 86)]),none,true⟩, .o 88 (.q 155 [74,78,87])]) (.seq (.seq (.region [.m 89 1, .o 90 (.n 89), .k 91 0]) (.block 2 [1,5,8,10] (.loop [1,5,8,10,11,90,91] c118L0))) (.region [.m 125 5, .o 126 (.l 10), .o 127 (.mkSl 3 1 1 [(.tmp 126)]), .o 128 (.app 3 1 8 (.tmp 125) (.tmp 127)), .m 5 128])))))))) (.seq (.seq (.region [.o 129 (.l 10)]) (.region [.o 10 (.alloc 3 [(.int .i64 0)]), .n (.st 1 (.tmp 10) (.tmp 129))])) (.region [.o 45 (.l 10), .o 46 (.c .add 45 1), .n (.st 1 (.tmp 10) (.tmp 46))]))))
def c118:ACode:=(.seq (.region [.o 4 (.mv (.const (.slice none 0 0))), .o 5 (.mv (.const (.slice none 0 0))), .k 6 0]) (.seq (.seq (.region [.m 14 0, .m 15 1, .o 16 (.q 151 [14,15]), .m 7 16]) (.seq (.region [.m 17 7, .o 18 (.c .neq 17 0), .m 19 18, .g 20 (.m 1) 19 false, .g 21 (.n 20) 19 false, .g 22 (.c .eql 21 0) 19 false, .o 23 (.pick (.tmp 19) (.const (.bool true)) (.tmp 22))]) (.cond (.tmp 23) (.seq (.region [.m 24 7, .o 4 (.mv (.const (.slice none 0 0))), .o 5 (.mv (.const (.slice none 0 0))), .m 6 24]) .ret) .skip))) (.seq (.region [.m 26 0, .o 27 (.q 132 [26]), .m 25 27, .o 28 (.e 0 25), .o 29 (.e 1 25), .m 8 28, .m 9 29]) (.seq (.region [.m 30 1, .o 31 (.q 152 [30]), .m 1 31]) (.seq (.seq (.region [.o 10 (.alloc 3 [(.int .i64 0)]), .n (.st 1 (.tmp 10) (.const (.int .i64 0)))]) (.block 0 [1,5] (.loop [1,5,8,10] c118L1))) (.seq (.region [.m 130 1, .m 131 5, .o 132 (.n 131), .m 133 5, .o 134 (.n 133), .o 135 (.sl3 (.tmp 130) (.tmp 132) (.tmp 134)), .m 136 5, .m 4 135, .m 5 136, .k 6 0]) .ret))))))
def F118:AFun:=⟨c118,2,137,[(.tmp 4),(.tmp 5),(.tmp 6)]⟩
def K118:Nat→List Nat×List Nat
 |0=>([1,5,8,10],[1,5])
 |1=>([],[1,5,8,10])
 |2=>([1,5,8,10,11,90,91],[1,5,8,10])
 |3=>([],[1,5,8,10,11,90,91])
 |_=>([],[])
theorem F118_ok:kj8 Try.prog K118 noRg Try.f118=some F118:=by kernel_rfl
/- 127: (syndrome/syndromeref.F).Sub -/
def c127:ACode:=(.seq (.region [.o 3 (.box 102 5 (.tmp 0)), .k 6 0]) (.seq (.region [.o 8 (.ld true 5 (.tmp 3)), .m 9 2, .o 10 (.q 166 [8,9]), .m 7 10]) (.seq (.region [.o 11 (.ld true 5 (.tmp 3)), .m 12 1, .m 13 7, .o 14 (.q 167 [11,12,13]), .m 6 14]) .ret)))
def F127:AFun:=⟨c127,3,15,[(.tmp 6)]⟩
def K127:Nat→List Nat×List Nat
 |_=>([],[])
theorem F127_ok:kj8 Try.prog K127 noRg Try.f127=some F127:=by kernel_rfl
/- 128: syndrome/syndromeref.MatrixMay -/
def c128L0:ACode:=(.seq (.seq (.region [.m 50 8, .m 51 1, .m 52 7, .o 53 (.i 1 51 52), .o 54 (.l 53), .o 55 (.n 54), .o 56 (.b .lss 50 55)]) (.cond (.tmp 56) .skip (.exit 2))) (.seq (.block 3 [1,5,7,8] (.seq (.region [.o 59 (.ld true 5 (.tmp 5)), .m 60 1, .m 61 7, .o 62 (.i 1 60 61), .o 63 (.l 62), .m 64 8, .o 65 (.i 1 63 64), .o 66 (.l 65), .o 67 (.q 79 [59,66]), .o 68 (.un .not (.tmp 67))]) (.cond (.tmp 68) (.seq (.region [.k 4 2]) .ret) .skip))) (.region [.m 57 8, .o 58 (.c .add 57 1), .m 8 58])))
def c128L1:ACode:=(.seq (.seq (.region [.m 20 7, .m 21 1, .o 22 (.n 21), .o 23 (.b .lss 20 22)]) (.cond (.tmp 23) .skip (.exit 0))) (.seq (.block 1 [1,5,7] (.seq (.seq (.region [.m 26 1, .m 27 7, .o 28 (.i 1 26 27), .o 29 (.l 28), .o 30 (.n 29), .m 31 1, .o 32 (.iaddr 1 (.tmp 31) (.const (.int .i64 0))), .o 33 (.l 32), .o 34 (.n 33), .o 35 (.b .neq 30 34), .m 36 35, .g 37 (.m 1) 36 false, .g 38 (.m 7) 36 false, .g 39 (.i 1 37 38) 36 false, .g 40 (.l 39) 36 false, .g 41 (.n 40) 36 false, .g 42 (.c .eql 41 0) 36 false, .o 43 (.pick (.tmp 36) (.const (.bool true)) (.tmp 42))]) (.cond (.tmp 43) (.seq (.region [.k 4 3]) .ret) .skip)) (.seq (.seq (.region [.m 44 1, .m 45 7, .o 46 (.i 1 44 45), .o 47 (.l 46), .o 48 (.n 47), .o 49 (.c .gtr 48 64)]) (.cond (.tmp 49) (.seq (.region [.k 4 4]) .ret) .skip)) (.seq (.region [.k 8 0]) (.block 2 [1,5,7] (.loop [1,5,7,8] c128L0)))))) (.region [.m 24 7, .o 25 (.c .add 24 1), .m 7 25])))
def c128:ACode:=(.seq (.region [.k 4 0]) (.seq (.region [.m 10 0, .o 11 (.q 78 [10]), .m 9 11, .o 12 (.e 0 9), .o 13 (.e 1 9), .o 5 (.alloc 102 [(.int .i64 0),(.int .i64 0),(.int .i64 0),(.int .i64 0),(.slice none 0 0)]), .n (.st 5 (.tmp 5) (.tmp 12)), .m 6 13]) (.seq (.seq (.region [.m 14 6, .o 15 (.c .neq 14 0)]) (.cond (.tmp 15) (.seq (.region [.m 16 6, .m 4 16]) .ret) .skip)) (.seq (.seq (.region [.m 17 1, .o 18 (.n 17), .o 19 (.c .gtr 18 64)]) (.cond (.tmp 19) (.seq (.region [.k 4 4]) .ret) .skip)) (.seq (.seq (.region [.k 7 0]) (.block 0 [] (.loop [1,5,7] c128L1))) (.seq (.region [.k 4 0]) .ret))))))
def F128:AFun:=⟨c128,2,69,[(.tmp 4)]⟩
def K128:Nat→List Nat×List Nat
 |0=>([1,5,7],[])
 |1=>([],[1,5,7])
 |2=>([1,5,7,8],[1,5,7])
 |3=>([],[1,5,7,8])
 |_=>([],[])
theorem F128_ok:kj8 Try.prog K128 noRg Try.f128=some F128:=by kernel_rfl
/- 129: (syndrome/syndromeref.F).Reduce -/
def c129L0:ACode:=(.seq (.seq (.region [.m 27 10, .m 28 6, .o 29 (.n 28), .o 30 (.b .lss 27 29)]) (.cond (.tmp 30) .skip (.exit 2))) (.seq (.block 3 [1,2,6,7,8,9,10] (.region [.o 33 (.ld true 5 (.tmp 2)), .m 34 9, .m 35 6, .m 36 10, .o 37 (.i 1 35 36), .o 38 (.l 37), .m 39 9, .m 40 7, .m 41 10, .o 42 (.i 1 40 41), .o 43 (.l 42), .o 44 (.i 1 39 43), .o 45 (.l 44), .o 46 (.q 168 [33,34,38,45]), .m 9 46])) (.region [.m 31 10, .o 32 (.c .add 31 1), .m 10 32])))
def c129L1:ACode:=(.seq (.seq (.region [.m 47 11, .m 48 9, .o 49 (.n 48), .o 50 (.b .lss 47 49), .m 51 50, .g 52 (.m 9) 51 true, .g 53 (.m 11) 51 true, .g 54 (.i 1 52 53) 51 true, .g 55 (.l 54) 51 true, .g 56 (.c .eql 55 0) 51 true, .o 57 (.pick (.tmp 51) (.tmp 56) (.const (.bool false)))]) (.cond (.tmp 57) .skip (.exit 4))) (.block 5 [1,2,6,7,8,9,11] (.region [.m 58 11, .o 59 (.c .add 58 1), .m 11 59])))
def c129L2:ACode:=(.seq (.seq (.region [.m 70 13, .m 71 9, .o 72 (.n 71), .o 73 (.b .lss 70 72)]) (.cond (.tmp 73) .skip (.exit 6))) (.seq (.block 7 [1,2,6,7,8,9,11,12,13] (.region [.m 76 9, .m 77 13, .o 78 (.ld true 5 (.tmp 2)), .m 79 9, .m 80 13, .o 81 (.i 1 79 80), .o 82 (.l 81), .m 83 12, .o 84 (.q 170 [78,82,83]), .o 85 (.i 1 76 77), .n (.st 1 (.tmp 85) (.tmp 84))])) (.region [.m 74 13, .o 75 (.c .add 74 1), .m 13 75])))
def c129L3:ACode:=(.seq (.seq (.region [.m 86 14, .m 87 6, .o 88 (.n 87), .o 89 (.b .lss 86 88)]) (.cond (.tmp 89) .skip (.exit 8))) (.seq (.block 9 [1,2,6,7,8,9,11,14] (.region [.m 92 6, .m 93 14, .o 94 (.ld true 5 (.tmp 2)), .m 95 6, .m 96 14, .o 97 (.i 1 95 96), .o 98 (.l 97), .m 99 9, .m 100 6, .m 101 14, .o 102 (.i 1 100 101), .o 103 (.l 102), .m 104 11, .o 105 (.i 1 103 104), .o 106 (.l 105), .o 107 (.q 168 [94,98,99,106]), .o 108 (.i 1 92 93), .n (.st 1 (.tmp 108) (.tmp 107))])) (.region [.m 90 14, .o 91 (.c .add 90 1), .m 14 91])))
def c129L4:ACode:=(.seq (.seq (.region [.m 109 15, .m 110 6, .o 111 (.n 110), .o 112 (.b .lss 109 111), .m 113 112, .g 114 (.m 7) 113 true, .g 115 (.m 15) 113 true, .g 116 (.i 1 114 115) 113 true, .g 117 (.l 116) 113 true, .g 118 (.m 11) 113 true, .g 119 (.b .lss 117 118) 113 true, .o 120 (.pick (.tmp 113) (.tmp 119) (.const (.bool false)))]) (.cond (.tmp 120) .skip (.exit 10))) (.block 11 [1,2,6,7,8,9,11,15] (.region [.m 121 15, .o 122 (.c .add 121 1), .m 15 122])))
def c129L5:ACode:=(.seq (.seq (.region [.m 16 8, .m 17 1, .o 18 (.n 17), .o 19 (.b .lss 16 18)]) (.cond (.tmp 19) .skip (.exit 0))) (.seq (.block 1 [1,2,6,7,8] (.seq (.region [.m 22 1, .m 23 8, .o 24 (.i 1 22 23), .o 25 (.l 24), .o 26 (.q 47 [25]), .m 9 26]) (.seq (.seq (.region [.k 10 0]) (.block 2 [1,2,6,7,8,9] (.loop [1,2,6,7,8,9,10] c129L0))) (.seq (.region [.k 11 0]) (.seq (.block 4 [1,2,6,7,8,9,11] (.loop [1,2,6,7,8,9,11] c129L1)) (.seq (.seq (.region [.m 60 11, .m 61 9, .o 62 (.n 61), .o 63 (.b .eql 60 62)]) (.cond (.tmp 63) (.exit 1) .skip)) (.seq (.region [.o 64 (.ld true 5 (.tmp 2)), .m 65 9, .m 66 11, .o 67 (.i 1 65 66), .o 68 (.l 67), .o 69 (.q 169 [64,68]), .m 12 69]) (.seq (.seq (.region [.k 13 0]) (.block 6 [1,2,6,7,8,9,11] (.loop [1,2,6,7,8,9,11,12,13] c129L2))) (.seq (.seq (.region [.k 14 0]) (.block 8 [1,2,6,7,8,9,11] (.loop [1,2,6,7,8,9,11,14] c129L3))) (.seq (.region [.k 15 0]) (.seq (.block 10 [1,2,6,7,8,9,11,15] (.loop [1,2,6,7,8,9,11,15] c129L4)) (.seq (.region [.o 123 (.mkSl 28 1 0 []), .m 124 6, .m 125 15, .o 126 (.sl 1 (.tmp 124) none (some (.tmp 125))), .o 127 (.app 28 1 24 (.tmp 123) (.tmp 126)), .m 128 9, .o 129 (.mkSl 28 1 1 [(.tmp 128)]), .o 130 (.app 28 1 24 (.tmp 127) (.tmp 129)), .m 131 6, .m 132 15, .o 133 (.sl 1 (.tmp 131) (some (.tmp 132)) none), .o 134 (.app 28 1 24 (.tmp 130) (.tmp 133)), .m 6 134]) (.region [.o 135 (.mkSl 3 1 0 []), .m 136 7, .m 137 15, .o 138 (.sl 1 (.tmp 136) none (some (.tmp 137))), .o 139 (.app 3 1 8 (.tmp 135) (.tmp 138)), .m 140 11, .o 141 (.mkSl 3 1 1 [(.tmp 140)]), .o 142 (.app 3 1 8 (.tmp 139) (.tmp 141)), .m 143 7, .m 144 15, .o 145 (.sl 1 (.tmp 143) (some (.tmp 144)) none), .o 146 (.app 3 1 8 (.tmp 142) (.tmp 145)), .m 7 146]))))))))))))) (.region [.m 20 8, .o 21 (.c .add 20 1), .m 8 21])))
def c129:ACode:=(.seq (.region [.o 2 (.box 102 5 (.tmp 0)), .o 4 (.mv (.const (.slice none 0 0))), .o 5 (.mv (.const (.slice none 0 0)))]) (.seq (.region [.o 6 (.mv (.const (.slice none 0 0)))]) (.seq (.region [.o 7 (.mv (.const (.slice none 0 0)))]) (.seq (.seq (.region [.k 8 0]) (.block 0 [6,7] (.loop [1,2,6,7,8] c129L5))) (.seq (.region [.m 147 6, .m 148 7, .m 4 147, .m 5 148]) .ret)))))
def F129:AFun:=⟨c129,2,149,[(.tmp 4),(.tmp 5)]⟩
def K129:Nat→List Nat×List Nat
 |0=>([1,2,6,7,8],[6,7])
 |1=>([],[1,2,6,7,8])
 |2=>([1,2,6,7,8,9,10],[1,2,6,7,8,9])
 |3=>([],[1,2,6,7,8,9,10])
 |4=>([1,2,6,7,8,9,11],[1,2,6,7,8,9,11])
 |5=>([],[1,2,6,7,8,9,11])
 |6=>([1,2,6,7,8,9,11,12,13],[1,2,6,7,8,9,11])
 |7=>([],[1,2,6,7,8,9,11,12,13])
 |8=>([1,2,6,7,8,9,11,14],[1,2,6,7,8,9,11])
 |9=>([],[1,2,6,7,8,9,11,14])
 |10=>([1,2,6,7,8,9,11,15],[1,2,6,7,8,9,11,15])
 |11=>([],[1,2,6,7,8,9,11,15])
 |_=>([],[])
theorem F129_ok:kj8 Try.prog K129 noRg Try.f129=some F129:=by kernel_rfl
/- 130: (syndrome/syndromeref.F).Encoded -/
def c130L0:ACode:=(.seq (.seq (.region [.m 19 9, .o 20 (.f 1 4), .o 21 (.l 20), .o 22 (.b .lss 19 21), .m 23 22, .g 24 (.m 2) 23 true, .g 25 (.m 8) 23 true, .g 26 (.i 1 24 25) 23 true, .g 27 (.l 26) 23 true, .g 28 (.c .neq 27 0) 23 true, .o 29 (.pick (.tmp 23) (.tmp 28) (.const (.bool false)))]) (.cond (.tmp 29) .skip (.exit 2))) (.seq (.block 3 [2,3,4,7,8,9] (.region [.m 32 7, .m 33 9, .o 34 (.ld true 5 (.tmp 3)), .m 35 7, .m 36 9, .o 37 (.i 1 35 36), .o 38 (.l 37), .o 39 (.ld true 5 (.tmp 3)), .m 40 2, .m 41 8, .o 42 (.i 1 40 41), .o 43 (.l 42), .o 44 (.f 2 4), .o 45 (.l 44), .m 46 8, .o 47 (.i 1 45 46), .o 48 (.l 47), .m 49 9, .o 50 (.i 1 48 49), .o 51 (.l 50),⟨(some 52),(.call 170 [(.tmp 39),(.tmp 43),(.tmp 51)]),none,true⟩, .o 53 (.q 167 [34,38,52]), .o 54 (.i 1 32 33), .n (.st 1 (.tmp 54) (.tmp 53))])) (.region [.m 30 9, .o 31 (.c .add 30 1), .m 9 31])))
def c130L1:ACode:=(.seq (.seq (.region [.m 13 8, .m 14 2, .o 15 (.n 14), .o 16 (.b .lss 13 15)]) (.cond (.tmp 16) .skip (.exit 0))) (.seq (.block 1 [2,3,4,7,8] (.seq (.region [.k 9 0]) (.block 2 [2,3,4,7,8] (.loop [2,3,4,7,8,9] c130L0)))) (.region [.m 17 8, .o 18 (.c .add 17 1), .m 8 18])))
def c130:ACode:=(.seq (.region [.o 3 (.box 102 5 (.tmp 0)), .o 4 (.box 25 3 (.tmp 1)), .o 6 (.mv (.const (.slice none 0 0)))]) (.seq (.region [.o 10 (.f 1 4), .o 11 (.l 10), .o 12 (.mks 3 1 8 [(.int .i64 0)] (.tmp 11) (.tmp 11)), .m 7 12]) (.seq (.seq (.region [.k 8 0]) (.block 0 [7] (.loop [2,3,4,7,8] c130L1))) (.seq (.region [.m 55 7, .m 6 55]) .ret))))
def F130:AFun:=⟨c130,3,56,[(.tmp 6)]⟩
def K130:Nat→List Nat×List Nat
 |0=>([2,3,4,7,8],[7])
 |1=>([],[2,3,4,7,8])
 |2=>([2,3,4,7,8,9],[2,3,4,7,8])
 |3=>([],[2,3,4,7,8,9])
 |_=>([],[])
theorem F130_ok:kj8 Try.prog K130 noRg Try.f130=some F130:=by kernel_rfl
/- 132: syndrome/field.New -/
def j14:List Value:=[(.int .u32 0),(.int .i32 0),(.int .u32 0),(.int .u32 0),(.int .i32 0),(.int .u32 0),(.int .u32 0),(.int .i32 0),(.int .u32 0),(.int .u32 0),(.int .i32 0),(.int .u32 0),(.int .u32 0),(.int .i32 0),(.int .u32 0),(.int .u32 0),(.int .i32 0),(.int .u32 0),(.int .u32 0),(.int .i32 0),(.int .u32 0),(.int .u32 0),(.int .i32 0),(.int .u32 0),(.int .u32 0),(.int .i32 0),(.int .u32 0),(.int .u32 0),(.int .i32 0),(.int .u32 0),(.int .u32 0),(.int .i32 0),(.int .u32 0),(.int .u32 0),(.int .i32 0),(.int .u32 0),(.int .u32 0),(.int .i32 0),(.int .u32 0),(.int .u32 0),(.int .i32 0),(.int .u32 0),(.int .u32 0),(.int .i32 0),(.int .u32 0),(.int .u32 0),(.int .i32 0),(.int .u32 0),(.int .u32 0),(.int .i32 0),(.int .u32 0),(.int .u32 0),(.int .i32 0),(.int .u32 0),(.int .u32 0),(.int .i32 0),(.int .u32 0),(.int .u32 0),(.int .i32 0),(.int .u32 0),(.int .u32 0),(.int .i32 0),(.int .u32 0),(.int .u32 0),(.int .i32 0),(.int .u32 0),(.int .u32 0),(.int .i32 0),(.int .u32 0),(.int .u32 0),(.int .i32 0),(.int .u32 0),(.int .u32 0),(.int .i32 0),(.int .u32 0),(.int .u32 0),(.int .i32 0),(.int .u32 0),(.int .u32 0),(.int .i32 0),(.int .u32 0),(.int .u32 0),(.int .i32 0),(.int .u32 0),(.int .u32 0),(.int .i32 0),(.int .u32 0),(.int .u32 0),(.int .i32 0),(.int .u32 0),(.int .u32 0),(.int .i32 0),(.int .u32 0),(.int .u32 0),(.int .i32 0),(.int .u32 0),(.int .u32 0),(.int .i32 0),(.int .u32 0),(.int .u32 0),(.int .i32 0),(.int .u32 0),(.int .u32 0),(.int .i32 0),(.int .u32 0),(.int .u32 0),(.int .i32 0),(.int .u32 0),(.int .u32 0),(.int .i32 0),(.int .u32 0),(.int .u32 0),(.int .i32 0),(.int .u32 0),(.int .u32 0),(.int .i32 0),(.int .u32 0),(.int .u32 0),(.int .i32 0),(.int .u32 0),(.int .u32 0),(.int .i32 0),(.int .u32 0),(.int .u32 0),(.int .i32 0),(.int .u32 0),(.int .u32 0),(.int .i32 0),(.int .u32 0),(.int .u32 0),(.int .i32 0),(.int .u32 0),(.int .u32 0),(.int .i32 0),(.int .u32 0),(.int .u32 0),(.int .i32 0),(.int .u32 0),(.int .u32 0),(.int .i32 0),(.int .u32 0),(.int .u32 0),(.int .i32 0),(.int .u32 0),(.int .u32 0),(.int .i32 0),(.int .u32 0),(.int .u32 0),(.int .i32 0),(.int .u32 0),(.int .u32 0),(.int .i32 0),(.int .u32 0),(.int .u32 0),(.int .i32 0),(.int .u32 0),(.int .u32 0),(.int .i32 0),(.int .u32 0),(.int .u32 0),(.int .i32 0),(.int .u32 0),(.int .u32 0),(.int .i32 0),(.int .u32 0),(.int .u32 0),(.int .i32 0),(.int .u32 0),(.int .u32 0),(.int .i32 0),(.int .u32 0),(.int .u32 0),(.int .i32 0),(.int .u32 0),(.int .u32 0),(.int .i32 0),(.int .u32 0),(.int .u32 0),(.int .i32 0),(.int .u32 0),(.int .u32 0),(.int .i32 0),(.int .u32 0),(.int .u32 0),(.int .i32 0),(.int .u32 0),(.int .u32 0),(.int .i32 0),(.int .u32 0),(.int .u32 0),(.int .i32 0),(.int .u32 0),(.int .u32 0),(.int .i32 0),(.int .u32 0),(.pointer none),(.pointer none),(.pointer none),(.pointer none),(.pointer none),(.pointer none),(.pointer none),(.pointer none),(.pointer none),(.pointer none),(.pointer none),(.pointer none),(.pointer none),(.pointer none),(.pointer none),(.pointer none),(.pointer none),(.pointer none),(.pointer none),(.pointer none),(.pointer none),(.pointer none),(.pointer none),(.pointer none),(.pointer none),(.pointer none),(.pointer none),(.pointer none),(.pointer none),(.pointer none),(.pointer none),(.pointer none),(.pointer none),(.pointer none),(.pointer none),(.pointer none),(.pointer none),(.pointer none),(.pointer none),(.pointer none),(.pointer none),(.pointer none),(.pointer none),(.pointer none),(.pointer none),(.pointer none),(.pointer none),(.pointer none),(.pointer none),(.pointer none),(.pointer none),(.pointer none),(.pointer none),(.pointer none),(.pointer none),(.pointer none),(.pointer none),(.pointer none),(.pointer none),(.pointer none),(.pointer none),(.pointer none),(.pointer none),(.pointer none),(.pointer none)]
def c132:ACode:=(.seq (.region [.o 1 (.box 3 1 (.tmp 0)), .o 2 (.mv (.const (.pointer none))), .k 3 0]) (.seq (.seq (.region [.o 5 (.l 1), .o 6 (.c .lss 5 2), .m 7 6, .g 8 (.l 1) 7 false, .g 9 (.c .gtr 8 64) 7 false, .o 10 (.pick (.tmp 7) (.const (.bool true)) (.tmp 9))]) (.cond (.tmp 10) (.seq (.region [.o 2 (.mv (.const (.pointer none))), .k 3 1]) .ret) .skip)) (.seq (.region [.o 4 (.alloc 183 j14)]) (.seq (.region [.o 11 (.l 1), .o 12 (.f 0 4), .o 13 (.iaddrA 65 3 (.tmp 12) (.tmp 11)), .o 14 (.mkf 172 [(.tmp 1),(.tmp 4)]), .o 15 (.q 171 [13,14])]) (.seq (.seq (.region [.o 16 (.l 1), .o 17 (.f 195 4), .o 18 (.iaddrA 65 1 (.tmp 17) (.tmp 16)), .o 19 (.l 18), .o 20 (.eqn false 1 (.tmp 19))]) (.cond (.tmp 20) (.seq (.region [.o 2 (.mv (.const (.pointer none))), .k 3 1]) .ret) .skip)) (.seq (.region [.o 21 (.l 1), .o 22 (.f 195 4), .o 23 (.iaddrA 65 1 (.tmp 22) (.tmp 21)), .o 24 (.l 23), .m 2 24, .k 3 0]) .ret))))))
def F132:AFun:=⟨c132,1,25,[(.tmp 2),(.tmp 3)]⟩
def K132:Nat→List Nat×List Nat
 |_=>([],[])
theorem F132_ok:kj8 Try.prog K132 noRg Try.f132=some F132:=by kernel_rfl
/- 133: syndrome/code.encode -/
def c133L0:ACode:=(.seq (.region [.o 29 (.b .lss 28 27)]) (.seq (.cond (.tmp 29) .skip (.exit 2)) (.seq (.block 3 [0,4,7,9,15,16,17,26,27,28] (.seq (.region [.m 30 28, .o 31 (.i 1 26 28), .o 32 (.l 31), .m 10 30, .m 11 32]) (.region [.m 33 7, .m 34 10, .m 35 0, .m 36 7, .m 37 10, .o 38 (.i 1 36 37), .o 39 (.l 38), .m 40 0, .m 41 9, .m 42 11,⟨(some 43),(.call 175 [(.tmp 40),(.tmp 41),(.tmp 42)]),none,true⟩, .o 44 (.q 174 [35,39,43]), .o 45 (.i 1 33 34), .n (.st 1 (.tmp 45) (.tmp 44))]))) (.region [.o 46 (.c .add 28 1), .m 28 46]))))
def c133L1:ACode:=(.seq (.region [.o 18 (.b .lss 17 16)]) (.seq (.cond (.tmp 18) .skip (.exit 0)) (.seq (.block 1 [0,4,7,15,16,17] (.seq (.region [.m 19 17, .o 20 (.i 1 15 17), .o 21 (.l 20), .m 8 19, .m 9 21]) (.seq (.region [.o 22 (.f 2 4), .o 23 (.l 22), .m 24 8, .o 25 (.i 1 23 24), .o 26 (.l 25), .o 27 (.n 26), .k 28 0]) (.block 2 [0,4,7,15,16,17] (.loop [0,4,7,9,15,16,17,26,27,28] c133L0))))) (.region [.o 47 (.c .add 17 1), .m 17 47]))))
def c133:ACode:=(.seq (.region [.o 4 (.box 25 3 (.tmp 1)), .o 6 (.mv (.const (.slice none 0 0)))]) (.seq (.region [.o 12 (.f 1 4), .o 13 (.l 12), .o 14 (.mks 3 1 8 [(.int .i64 0)] (.tmp 13) (.tmp 13)), .m 7 14]) (.seq (.seq (.region [.m 15 2, .o 16 (.n 15), .k 17 0]) (.block 0 [7] (.loop [0,4,7,15,16,17] c133L1))) (.seq (.region [.m 48 7, .m 6 48]) .ret))))
def F133:AFun:=⟨c133,3,49,[(.tmp 6)]⟩
def K133:Nat→List Nat×List Nat
 |0=>([0,4,7,15,16,17],[7])
 |1=>([],[0,4,7,15,16,17])
 |2=>([0,4,7,9,15,16,17,26,27,28],[0,4,7,15,16,17])
 |3=>([],[0,4,7,9,15,16,17,26,27,28])
 |_=>([],[])
theorem F133_ok:kj8 Try.prog K133 noRg Try.f133=some F133:=by kernel_rfl
/- 134: syndrome/syndromeref.Prime -/
def c134L0:ACode:=(.seq (.seq (.region [.m 15 0, .m 16 4, .o 17 (.b .rem 15 16), .o 18 (.c .eql 17 0)]) (.cond (.tmp 18) .skip (.exit 2))) (.block 3 [0,4,5] (.seq (.region [.m 19 0, .m 20 4, .o 21 (.b .quo 19 20), .m 0 21]) (.region [.m 22 5, .o 23 (.c .add 22 1), .m 5 23]))))
def c134L1:ACode:=(.seq (.seq (.region [.m 6 4, .m 7 0, .o 8 (.b .leq 6 7)]) (.cond (.tmp 8) .skip (.exit 0))) (.seq (.block 1 [0,4] (.seq (.seq (.region [.m 11 0, .m 12 4, .o 13 (.b .rem 11 12), .o 14 (.c .neq 13 0)]) (.cond (.tmp 14) (.exit 1) .skip)) (.seq (.region [.k 5 0]) (.seq (.block 2 [0,4,5] (.loop [0,4,5] c134L0)) (.seq (.seq (.region [.m 24 0, .o 25 (.c .eql 24 1)]) (.cond (.tmp 25) (.seq (.region [.m 26 4, .m 27 5, .m 2 26, .m 3 27]) .ret) .skip)) (.seq (.region [.k 2 0, .k 3 0]) .ret)))))) (.region [.m 9 4, .o 10 (.c .add 9 1), .m 4 10])))
def c134:ACode:=(.seq (.region [.k 2 0, .k 3 0]) (.seq (.seq (.region [.k 4 2]) (.block 0 [] (.loop [0,4] c134L1))) (.seq (.region [.k 2 0, .k 3 0]) .ret)))
def F134:AFun:=⟨c134,1,28,[(.tmp 2),(.tmp 3)]⟩
def K134:Nat→List Nat×List Nat
 |0=>([0,4],[])
 |1=>([],[0,4])
 |2=>([0,4,5],[0,4,5])
 |3=>([],[0,4,5])
 |_=>([],[])
theorem F134_ok:kj8 Try.prog K134 noRg Try.f134=some F134:=by kernel_rfl
/- 135: syndrome/syndromeref.full -/
def c135L0:ACode:=(.seq (.seq (.region [.m 11 7, .o 12 (.f 0 2), .o 13 (.l 12), .o 14 (.c .sub 13 1), .o 15 (.b .lss 11 14)]) (.cond (.tmp 15) .skip (.exit 0))) (.seq (.block 1 [1,2,5,6,7] (.seq (.seq (.region [.m 18 6, .o 19 (.c .eql 18 0), .m 20 19, .g 21 (.m 5) 20 false, .g 22 (.m 6) 20 false, .g 23 (.i 1 21 22) 20 false, .g 24 (.l 23) 20 false, .o 25 (.pick (.tmp 20) (.const (.bool true)) (.tmp 24))]) (.cond (.tmp 25) (.seq (.region [.o 4 (.mv (.const (.bool false)))]) .ret) .skip)) (.seq (.region [.m 26 5, .m 27 6, .o 28 (.i 1 26 27), .n (.st 1 (.tmp 28) (.const (.bool true)))]) (.region [.o 29 (.ld true 5 (.tmp 2)), .m 30 6, .m 31 1, .o 32 (.q 170 [29,30,31]), .m 6 32])))) (.region [.m 16 7, .o 17 (.c .add 16 1), .m 7 17])))
def c135:ACode:=(.seq (.region [.o 2 (.box 102 5 (.tmp 0)), .o 4 (.mv (.const (.bool false)))]) (.seq (.region [.o 8 (.f 0 2), .o 9 (.l 8), .o 10 (.mks 4 1 1 [(.bool false)] (.tmp 9) (.tmp 9)), .m 5 10]) (.seq (.region [.k 6 1]) (.seq (.seq (.region [.k 7 0]) (.block 0 [] (.loop [1,2,5,6,7] c135L0))) (.seq (.region [.o 4 (.mv (.const (.bool true)))]) .ret)))))
def F135:AFun:=⟨c135,2,33,[(.tmp 4)]⟩
def K135:Nat→List Nat×List Nat
 |0=>([1,2,5,6,7],[])
 |1=>([],[1,2,5,6,7])
 |_=>([],[])
theorem F135_ok:kj8 Try.prog K135 noRg Try.f135=some F135:=by kernel_rfl
/- 136: syndrome/syndromeref.Digits -/
def c136L0:ACode:=(.seq (.seq (.region [.m 9 8, .m 10 2, .o 11 (.b .lss 9 10)]) (.cond (.tmp 11) .skip (.exit 0))) (.seq (.block 1 [0,1,2,7,8] (.seq (.region [.m 14 7, .m 15 0, .m 16 1, .o 17 (.b .rem 15 16), .o 18 (.mkSl 3 1 1 [(.tmp 17)]), .o 19 (.app 3 1 8 (.tmp 14) (.tmp 18)), .m 7 19]) (.region [.m 20 0, .m 21 1, .o 22 (.b .quo 20 21), .m 0 22]))) (.region [.m 12 8, .o 13 (.c .add 12 1), .m 8 13])))
def c136:ACode:=(.seq (.region [.o 6 (.mv (.const (.slice none 0 0)))]) (.seq (.region [.o 7 (.mv (.const (.slice none 0 0)))]) (.seq (.seq (.region [.k 8 0]) (.block 0 [7] (.loop [0,1,2,7,8] c136L0))) (.seq (.region [.m 23 7, .m 6 23]) .ret))))
def F136:AFun:=⟨c136,3,24,[(.tmp 6)]⟩
def K136:Nat→List Nat×List Nat
 |0=>([0,1,2,7,8],[7])
 |1=>([],[0,1,2,7,8])
 |_=>([],[])
theorem F136_ok:kj8 Try.prog K136 noRg Try.f136=some F136:=by kernel_rfl
/- 137: syndrome/code.word$1 -/
def c137:ACode:=(.seq (.region [.o 3 (.mv (.const (.bool false)))]) (.seq (.region [.o 4 (.l 1), .m 5 0, .o 6 (.q 138 [4,5]), .o 7 (.un .not (.tmp 6)), .m 3 7]) .ret))
def F137:AFun:=⟨c137,2,8,[(.tmp 3)]⟩
def K137:Nat→List Nat×List Nat
 |_=>([],[])
theorem F137_ok:kj8 Try.prog K137 noRg Try.f137=some F137:=by kernel_rfl
/- 138: (*syndrome/field.Field).Has -/
def c138:ACode:=(.seq (.region [.o 4 (.mv (.const (.bool false)))]) (.seq (.region [.m 5 1, .o 6 (.c .geq 5 0), .m 7 6, .g 8 (.m 1) 7 true, .g 9 (.m 0) 7 true, .g 10 (.nilck (.tmp 9)) 7 true, .g 11 (.f 0 10) 7 true, .g 12 (.l 11) 7 true, .g 13 (.b .lss 8 12) 7 true, .o 14 (.pick (.tmp 7) (.tmp 13) (.const (.bool false))), .m 4 14]) .ret))
def F138:AFun:=⟨c138,2,15,[(.tmp 4)]⟩
def K138:Nat→List Nat×List Nat
 |_=>([],[])
theorem F138_ok:kj8 Try.prog K138 noRg Try.f138=some F138:=by kernel_rfl
end Go.Proofs.Ytodbgomfeacdhaa
