/-
  Functions of this seat as the small machine's code, written by a program of my own (gen.py); each is checked to be what the model's function is turned into. No condition.
-/
import Derived.Test.YtlhmdmedagjmnaaGreatK1
import Derived.Test.YtlhmdmedagjmnaaGreatProg
set_option linter.unusedVariables false
set_option linter.unusedSimpArgs false
set_option linter.unusedSectionVars false
set_option maxRecDepth 100000
namespace Go.Proofs.YtlhmdmedagjmnaaGreat
open Go.Am
/- 3: syndrome/syndromelaw.MullerMade -/
def c3L0:ACode:=(.seq (.seq (.region [.m 37 11, .m 38 3, .m 39 2, .m 40 1, .o 41 (.b .sub 39 40), .o 42 (.bin .shl (.const (.int .i64 1)) (.tmp 41)), .o 43 (.c .add 42 1), .o 44 (.c .quo 43 2), .o 45 (.q 10 [38,44]), .o 46 (.b .lss 37 45)]) (.cond (.tmp 46) .skip (.exit 0))) (.seq (.block 1 [0,1,2,3,9,10,11] (.seq (.region [.m 49 0, .m 50 11, .o 51 (.bin .add (.const (.int .i64 50)) (.tmp 50)), .o 52 (.q 14 [49,51]), .m 53 10, .o 54 (.n 53), .o 55 (.q 10 [52,54]), .m 12 55]) (.region [.m 56 10, .m 57 12, .m 58 10, .m 59 12, .o 60 (.i 1 58 59), .o 61 (.l 60), .o 62 (.bin .sub (.const (.int .i64 1)) (.tmp 61)), .o 63 (.i 1 56 57), .n (.st 1 (.tmp 63) (.tmp 62))]))) (.region [.m 47 11, .o 48 (.c .add 47 1), .m 11 48])))
def c3:ACode:=(.seq (.region [.o 8 (.mv (.const (.bool false)))]) (.seq (.seq (.region [.m 17 0, .o 18 (.n 17), .o 19 (.c .gtr 18 256)]) (.cond (.tmp 19) (.seq (.region [.o 8 (.mv (.const (.bool true)))]) .ret) .skip)) (.seq (.region [.m 20 2, .o 21 (.call 10 [(.tmp 20),(.const (.int .i64 5))]), .o 22 (.bin .add (.const (.int .i64 1)) (.tmp 21)), .m 2 22]) (.seq (.region [.m 23 1, .m 24 2, .o 25 (.c .add 24 1), .o 26 (.q 10 [23,25]), .m 1 26]) (.seq (.region [.m 27 0, .m 28 1, .m 29 2, .o 30 (.q 12 [28,29]), .o 31 (.n 30), .o 32 (.call 11 [(.tmp 27),(.const (.int .i64 0)),(.tmp 31),(.const (.bool false))]), .m 9 32]) (.seq (.region [.m 33 1, .m 34 2, .m 35 9, .o 36 (.q 13 [33,34,35]), .m 10 36]) (.seq (.seq (.region [.k 11 0]) (.block 0 [1,2,9,10] (.loop [0,1,2,3,9,10,11] c3L0))) (.seq (.region [.m 65 1, .m 66 2, .m 67 10, .o 68 (.q 15 [65,66,67]), .m 64 68, .o 69 (.e 0 64), .o 70 (.e 1 64), .o 71 (.e 2 64), .o 72 (.e 3 64), .m 13 69, .m 14 70, .m 15 71, .m 16 72]) (.seq (.region [.m 73 16, .o 74 (.c .eql 73 0), .m 75 74, .g 76 (.m 15) 75 true, .o 77 (.pick (.tmp 75) (.tmp 76) (.const (.bool false))), .m 78 77, .g 79 (.m 9) 78 true, .g 80 (.m 13) 78 true, .g 81 (.q 16 [79,80]) 78 true, .o 82 (.pick (.tmp 78) (.tmp 81) (.const (.bool false))), .m 83 82, .g 84 (.m 1) 83 true, .g 85 (.m 2) 83 true, .g 86 (.m 9) 83 true, .g 87 (.q 17 [84,85,86]) 83 true, .o 88 (.pick (.tmp 83) (.tmp 87) (.const (.bool false))), .m 89 88, .g 90 (.m 1) 89 true, .g 91 (.m 2) 89 true, .g 92 (.m 10) 89 true, .g 93 (.q 18 [90,91,92]) 89 true, .o 94 (.pick (.tmp 89) (.tmp 93) (.const (.bool false))), .m 8 94]) .ret)))))))))
def F3:AFun:=⟨c3,4,95,[(.tmp 8)]⟩
def K3:Nat→List Nat×List Nat
 |0=>([0,1,2,3,9,10,11],[1,2,9,10])
 |1=>([],[0,1,2,3,9,10,11])
 |_=>([],[])
theorem F3_ok:kj8 Tryz.prog K3 Tryz.f3=some F3:=by kernel_rfl
/- 10: syndrome/syndromeref.Pick -/
def c10:ACode:=(.seq (.region [.k 4 0]) (.seq (.seq (.region [.m 5 0, .o 6 (.c .lss 5 0)]) (.cond (.tmp 6) (.region [.m 7 0, .o 8 (.c .add 7 1), .o 9 (.un .neg (.tmp 8)), .m 0 9]) .skip)) (.seq (.region [.m 10 0, .m 11 1, .o 12 (.b .rem 10 11), .m 4 12]) .ret)))
def F10:AFun:=⟨c10,2,13,[(.tmp 4)]⟩
def K10:Nat→List Nat×List Nat
 |_=>([],[])
theorem F10_ok:kj8 Tryz.prog K10 Tryz.f10=some F10:=by kernel_rfl
/- 11: syndrome/syndromeref.WordOf -/
def c11L0:ACode:=(.seq (.seq (.region [.m 12 10, .m 13 2, .o 14 (.b .lss 12 13)]) (.cond (.tmp 14) .skip (.exit 0))) (.seq (.block 1 [0,1,2,3,9,10] (.seq (.region [.m 17 0, .m 18 1, .m 19 10, .o 20 (.b .add 18 19), .o 21 (.q 14 [17,20]), .o 22 (.call 10 [(.tmp 21),(.const (.int .i64 4))]), .m 11 22]) (.seq (.seq (.region [.m 23 11, .o 24 (.c .gtr 23 1)]) (.cond (.tmp 24) (.seq (.region [.m 25 11, .o 26 (.c .sub 25 2), .m 11 26]) (.seq (.region [.m 27 3, .m 28 27, .g 29 (.m 0) 28 true, .g 30 (.m 1) 28 true, .g 31 (.m 10) 28 true, .g 32 (.b .add 30 31) 28 true, .g 33 (.q 14 [29,32]) 28 true, .g 34 (.c .quo 33 4) 28 true, .g 35 (.call 10 [(.tmp 34),(.const (.int .i64 2))]) 28 true, .g 36 (.c .eql 35 0) 28 true, .o 37 (.pick (.tmp 28) (.tmp 36) (.const (.bool false)))]) (.cond (.tmp 37) (.region [.k 11 (-1)]) .skip))) .skip)) (.region [.m 38 9, .m 39 11, .o 40 (.mkSl 3 1 1 [(.tmp 39)]), .o 41 (.app 3 1 8 (.tmp 38) (.tmp 40)), .m 9 41])))) (.region [.m 15 10, .o 16 (.c .add 15 1), .m 10 16])))
def c11:ACode:=(.seq (.region [.o 8 (.mv (.const (.slice none 0 0)))]) (.seq (.region [.o 9 (.mv (.const (.slice none 0 0)))]) (.seq (.seq (.region [.k 10 0]) (.block 0 [9] (.loop [0,1,2,3,9,10] c11L0))) (.seq (.region [.m 42 9, .m 8 42]) .ret))))
def F11:AFun:=⟨c11,4,43,[(.tmp 8)]⟩
def K11:Nat→List Nat×List Nat
 |0=>([0,1,2,3,9,10],[9])
 |1=>([],[0,1,2,3,9,10])
 |_=>([],[])
theorem F11_ok:kj8 Tryz.prog K11 Tryz.f11=some F11:=by kernel_rfl
/- 12: syndrome/syndromeref.Monomials -/
def c12L0:ACode:=(.seq (.seq (.region [.m 13 7, .m 14 1, .o 15 (.bin .shl (.const (.int .i64 1)) (.tmp 14)), .o 16 (.b .lss 13 15)]) (.cond (.tmp 16) .skip (.exit 2))) (.seq (.block 3 [0,1,5,6,7] (.seq (.region [.m 19 7, .o 20 (.q 59 [19]), .m 21 6, .o 22 (.b .eql 20 21)]) (.cond (.tmp 22) (.region [.m 23 5, .m 24 7, .o 25 (.mkSl 3 1 1 [(.tmp 24)]), .o 26 (.app 3 1 8 (.tmp 23) (.tmp 25)), .m 5 26]) .skip))) (.region [.m 17 7, .o 18 (.c .add 17 1), .m 7 18])))
def c12L1:ACode:=(.seq (.seq (.region [.m 8 6, .m 9 0, .o 10 (.b .leq 8 9)]) (.cond (.tmp 10) .skip (.exit 0))) (.seq (.block 1 [0,1,5,6] (.seq (.region [.k 7 0]) (.block 2 [0,1,5,6] (.loop [0,1,5,6,7] c12L0)))) (.region [.m 11 6, .o 12 (.c .add 11 1), .m 6 12])))
def c12:ACode:=(.seq (.region [.o 4 (.mv (.const (.slice none 0 0)))]) (.seq (.region [.o 5 (.mv (.const (.slice none 0 0)))]) (.seq (.seq (.region [.k 6 0]) (.block 0 [5] (.loop [0,1,5,6] c12L1))) (.seq (.region [.m 27 5, .m 4 27]) .ret))))
def F12:AFun:=⟨c12,2,28,[(.tmp 4)]⟩
def K12:Nat→List Nat×List Nat
 |0=>([0,1,5,6],[5])
 |1=>([],[0,1,5,6])
 |2=>([0,1,5,6,7],[0,1,5,6])
 |3=>([],[0,1,5,6,7])
 |_=>([],[])
theorem F12_ok:kj8 Tryz.prog K12 Tryz.f12=some F12:=by kernel_rfl
/- 13: syndrome/syndromeref.MullerWord -/
def c13L0:ACode:=(.seq (.seq (.region [.m 23 10, .m 24 7, .o 25 (.n 24), .o 26 (.b .lss 23 25)]) (.cond (.tmp 26) .skip (.exit 2))) (.seq (.block 3 [2,7,8,9,10] (.seq (.region [.m 29 2, .m 30 10, .o 31 (.i 1 29 30), .o 32 (.l 31), .o 33 (.c .eql 32 1), .m 34 33, .g 35 (.m 9) 34 true, .g 36 (.m 7) 34 true, .g 37 (.m 10) 34 true, .g 38 (.i 1 36 37) 34 true, .g 39 (.l 38) 34 true, .g 40 (.b .and 35 39) 34 true, .g 41 (.m 7) 34 true, .g 42 (.m 10) 34 true, .g 43 (.i 1 41 42) 34 true, .g 44 (.l 43) 34 true, .g 45 (.b .eql 40 44) 34 true, .o 46 (.pick (.tmp 34) (.tmp 45) (.const (.bool false)))]) (.cond (.tmp 46) (.region [.m 47 8, .m 48 9, .m 49 8, .m 50 9, .o 51 (.i 1 49 50), .o 52 (.l 51), .o 53 (.bin .sub (.const (.int .i64 1)) (.tmp 52)), .o 54 (.i 1 47 48), .n (.st 1 (.tmp 54) (.tmp 53))]) .skip))) (.region [.m 27 10, .o 28 (.c .add 27 1), .m 10 28])))
def c13L1:ACode:=(.seq (.seq (.region [.m 17 9, .m 18 8, .o 19 (.n 18), .o 20 (.b .lss 17 19)]) (.cond (.tmp 20) .skip (.exit 0))) (.seq (.block 1 [2,7,8,9] (.seq (.region [.k 10 0]) (.block 2 [2,7,8,9] (.loop [2,7,8,9,10] c13L0)))) (.region [.m 21 9, .o 22 (.c .add 21 1), .m 9 22])))
def c13:ACode:=(.seq (.region [.o 6 (.mv (.const (.slice none 0 0)))]) (.seq (.region [.m 11 0, .m 12 1, .o 13 (.q 12 [11,12]), .m 7 13]) (.seq (.region [.m 14 1, .o 15 (.bin .shl (.const (.int .i64 1)) (.tmp 14)), .o 16 (.mks 3 1 8 [(.int .i64 0)] (.tmp 15) (.tmp 15)), .m 8 16]) (.seq (.seq (.region [.k 9 0]) (.block 0 [8] (.loop [2,7,8,9] c13L1))) (.seq (.region [.m 55 8, .m 6 55]) .ret)))))
def F13:AFun:=⟨c13,3,56,[(.tmp 6)]⟩
def K13:Nat→List Nat×List Nat
 |0=>([2,7,8,9],[8])
 |1=>([],[2,7,8,9])
 |2=>([2,7,8,9,10],[2,7,8,9])
 |3=>([],[2,7,8,9,10])
 |_=>([],[])
theorem F13_ok:kj8 Tryz.prog K13 Tryz.f13=some F13:=by kernel_rfl
/- 14: syndrome/syndromeref.Raw -/
def c14:ACode:=(.seq (.region [.k 4 0]) (.seq (.seq (.region [.m 5 0, .o 6 (.n 5), .o 7 (.c .eql 6 0)]) (.cond (.tmp 7) (.seq (.region [.m 8 1, .m 4 8]) .ret) .skip)) (.seq (.region [.m 9 0, .m 10 1, .m 11 0, .o 12 (.n 11), .o 13 (.b .rem 10 12), .o 14 (.i 1 9 13), .o 15 (.l 14), .m 16 1, .m 17 0, .o 18 (.n 17), .o 19 (.b .quo 16 18), .o 20 (.c .mul 19 7919), .o 21 (.b .add 15 20), .m 4 21]) .ret)))
def F14:AFun:=⟨c14,2,22,[(.tmp 4)]⟩
def K14:Nat→List Nat×List Nat
 |_=>([],[])
theorem F14_ok:kj8 Tryz.prog K14 Tryz.f14=some F14:=by kernel_rfl
/- 15: syndrome/muller.Decode -/
def c15L0:ACode:=(.seq (.region [.o 49 (.b .lss 48 47)]) (.seq (.cond (.tmp 49) .skip (.exit 2)) (.seq (.block 3 [0,1,6,11,12,13,14,46,47,48] (.seq (.region [.m 50 48, .o 51 (.i 1 46 48), .o 52 (.l 51), .m 15 50, .m 16 52]) (.seq (.region [.m 53 16, .o 54 (.conv .u64 (.tmp 53)), .o 55 (.q 66 [54]), .m 56 13, .o 57 (.b .eql 55 56), .m 58 57, .g 59 (.m 12) 58 true, .g 60 (.m 16) 58 true, .g 61 (.m 1) 58 true, .g 62 (.q 67 [59,60,61]) 58 true, .o 63 (.pick (.tmp 58) (.tmp 62) (.const (.bool false)))]) (.cond (.tmp 63) (.seq (.region [.m 64 6, .m 65 15, .o 66 (.i 1 64 65), .n (.st 1 (.tmp 66) (.const (.int .i64 1)))]) (.region [.m 67 14, .m 68 16, .m 69 1, .o 70 (.q 69 [68,69]), .o 71 (.q 68 [67,70])])) .skip)))) (.region [.o 72 (.c .add 48 1), .m 48 72]))))
def c15L1:ACode:=(.seq (.seq (.region [.m 39 13, .o 40 (.c .geq 39 0)]) (.cond (.tmp 40) .skip (.exit 0))) (.seq (.block 1 [0,1,6,11,12,13] (.seq (.region [.m 43 1, .o 44 (.bin .shl (.const (.int .i64 1)) (.tmp 43)), .o 45 (.mks 3 1 8 [(.int .i64 0)] (.tmp 44) (.tmp 44)), .m 14 45]) (.seq (.seq (.region [.m 46 11, .o 47 (.n 46), .k 48 0]) (.block 2 [0,1,6,11,12,13,14] (.loop [0,1,6,11,12,13,14,46,47,48] c15L0))) (.region [.m 73 12, .m 74 14, .o 75 (.q 68 [73,74])])))) (.region [.m 41 13, .o 42 (.c .sub 41 1), .m 13 42])))
def c15:ACode:=(.seq (.region [.o 6 (.mv (.const (.slice none 0 0))), .k 7 0, .o 8 (.mv (.const (.bool false))), .k 9 0]) (.seq (.seq (.region [.m 17 0, .m 18 1, .o 19 (.q 60 [17,18]), .m 10 19]) (.seq (.region [.m 20 10, .o 21 (.c .neq 20 0)]) (.cond (.tmp 21) (.seq (.region [.m 22 10, .o 6 (.mv (.const (.slice none 0 0))), .k 7 0, .o 8 (.mv (.const (.bool false))), .m 9 22]) .ret) .skip))) (.seq (.seq (.region [.m 23 2, .o 24 (.n 23), .m 25 1, .o 26 (.bin .shl (.const (.int .i64 1)) (.tmp 25)), .o 27 (.b .neq 24 26)]) (.cond (.tmp 27) (.seq (.region [.o 6 (.mv (.const (.slice none 0 0))), .k 7 0, .o 8 (.mv (.const (.bool false))), .k 9 6]) .ret) .skip)) (.seq (.seq (.region [.m 28 2, .o 29 (.call 61 [(.tmp 28),(.func 62)])]) (.cond (.tmp 29) (.seq (.region [.o 6 (.mv (.const (.slice none 0 0))), .k 7 0, .o 8 (.mv (.const (.bool false))), .k 9 2]) .ret) .skip)) (.seq (.region [.m 30 0, .m 31 1, .o 32 (.q 64 [30,31]), .m 11 32]) (.seq (.region [.m 33 11, .o 34 (.n 33), .o 35 (.mks 3 1 8 [(.int .i64 0)] (.tmp 34) (.tmp 34)), .m 6 35]) (.seq (.region [.m 36 2, .o 37 (.q 65 [36]), .m 12 37]) (.seq (.seq (.region [.m 38 0, .m 13 38]) (.block 0 [0,1,6,12] (.loop [0,1,6,11,12,13] c15L1))) (.seq (.region [.m 76 12, .o 77 (.q 27 [76]), .m 7 77]) (.seq (.seq (.region [.m 78 7, .o 79 (.bin .mul (.const (.int .i64 2)) (.tmp 78)), .m 80 1, .m 81 0, .o 82 (.b .sub 80 81), .o 83 (.bin .shl (.const (.int .i64 1)) (.tmp 82)), .o 84 (.b .geq 79 83)]) (.cond (.tmp 84) (.seq (.region [.o 6 (.mv (.const (.slice none 0 0))), .k 7 0, .o 8 (.mv (.const (.bool false))), .k 9 0]) .ret) .skip)) (.seq (.region [.m 85 6, .m 86 7, .m 6 85, .m 7 86, .o 8 (.mv (.const (.bool true))), .k 9 0]) .ret)))))))))))
def F15:AFun:=⟨c15,3,87,[(.tmp 6),(.tmp 7),(.tmp 8),(.tmp 9)]⟩
def K15:Nat→List Nat×List Nat
 |0=>([0,1,6,11,12,13],[0,1,6,12])
 |1=>([],[0,1,6,11,12,13])
 |2=>([0,1,6,11,12,13,14,46,47,48],[0,1,6,11,12,13,14])
 |3=>([],[0,1,6,11,12,13,14,46,47,48])
 |_=>([],[])
theorem F15_ok:kj8 Tryz.prog K15 Tryz.f15=some F15:=by kernel_rfl
/- 16: syndrome/syndromeref.Same -/
def c16L0:ACode:=(.seq (.seq (.region [.m 11 5, .m 12 0, .o 13 (.n 12), .o 14 (.b .lss 11 13)]) (.cond (.tmp 14) .skip (.exit 0))) (.seq (.block 1 [0,1,5] (.seq (.region [.m 17 0, .m 18 5, .o 19 (.i 1 17 18), .o 20 (.l 19), .m 21 1, .m 22 5, .o 23 (.i 1 21 22), .o 24 (.l 23), .o 25 (.b .neq 20 24)]) (.cond (.tmp 25) (.seq (.region [.o 4 (.mv (.const (.bool false)))]) .ret) .skip))) (.region [.m 15 5, .o 16 (.c .add 15 1), .m 5 16])))
def c16:ACode:=(.seq (.region [.o 4 (.mv (.const (.bool false)))]) (.seq (.seq (.region [.m 6 0, .o 7 (.n 6), .m 8 1, .o 9 (.n 8), .o 10 (.b .neq 7 9)]) (.cond (.tmp 10) (.seq (.region [.o 4 (.mv (.const (.bool false)))]) .ret) .skip)) (.seq (.seq (.region [.k 5 0]) (.block 0 [] (.loop [0,1,5] c16L0))) (.seq (.region [.o 4 (.mv (.const (.bool true)))]) .ret))))
def F16:AFun:=⟨c16,2,26,[(.tmp 4)]⟩
def K16:Nat→List Nat×List Nat
 |0=>([0,1,5],[])
 |1=>([],[0,1,5])
 |_=>([],[])
theorem F16_ok:kj8 Tryz.prog K16 Tryz.f16=some F16:=by kernel_rfl
/- 17: syndrome/syndromelaw.MullerSays -/
def c17:ACode:=(.seq (.region [.o 6 (.mv (.const (.bool false)))]) (.seq (.seq (.region [.m 13 2, .o 14 (.n 13), .o 15 (.c .gtr 14 100)]) (.cond (.tmp 15) (.seq (.region [.o 6 (.mv (.const (.bool true)))]) .ret) .skip)) (.seq (.region [.m 16 0, .m 17 1, .o 18 (.q 70 [16,17]), .m 7 18]) (.seq (.region [.o 19 (.build [(.int .i64 0),(.int .i64 0),(.slice none 0 0)] [(0,1),(1,1),(2,1)] []), .o 8 (.alloc 36 [(.int .i64 0),(.int .i64 0),(.slice none 0 0)]), .n (.st 3 (.tmp 8) (.tmp 19))]) (.seq (.seq (.region [.m 20 7, .o 21 (.c .eql 20 0)]) (.cond (.tmp 21) (.region [.m 22 0, .m 23 1, .o 24 (.q 71 [22,23]), .n (.st 3 (.tmp 8) (.tmp 24))]) .skip)) (.seq (.region [.m 26 0, .m 27 1, .o 28 (.q 72 [26,27]), .m 25 28, .o 29 (.e 0 25), .o 30 (.e 1 25), .o 9 (.alloc 36 [(.int .i64 0),(.int .i64 0),(.slice none 0 0)]), .n (.st 3 (.tmp 9) (.tmp 29)), .m 10 30]) (.seq (.seq (.region [.m 31 0, .m 32 1, .o 33 (.q 60 [31,32]), .m 34 7, .o 35 (.b .neq 33 34), .m 36 35, .g 37 (.ld true 3 (.tmp 9)) 36 false, .g 38 (.m 10) 36 false, .g 39 (.ld true 3 (.tmp 8)) 36 false, .g 40 (.m 7) 36 false, .g 41 (.q 26 [37,38,39,40]) 36 false, .g 42 (.un .not (.tmp 41)) 36 false, .o 43 (.pick (.tmp 36) (.const (.bool true)) (.tmp 42))]) (.cond (.tmp 43) (.seq (.region [.o 6 (.mv (.const (.bool false)))]) .ret) .skip)) (.seq (.seq (.region [.m 44 7, .o 45 (.c .eql 44 0), .m 46 45, .g 47 (.m 2) 46 true, .g 48 (.n 47) 46 true, .g 49 (.m 0) 46 true, .g 50 (.m 1) 46 true, .g 51 (.q 12 [49,50]) 46 true, .g 52 (.n 51) 46 true, .g 53 (.b .neq 48 52) 46 true, .o 54 (.pick (.tmp 46) (.tmp 53) (.const (.bool false)))]) (.cond (.tmp 54) (.region [.k 7 6]) .skip)) (.seq (.seq (.region [.m 55 7, .o 56 (.c .eql 55 0), .m 57 56, .g 58 (.m 2) 57 true, .g 59 (.call 73 [(.tmp 58),(.const (.bool false))]) 57 true, .g 60 (.un .not (.tmp 59)) 57 true, .o 61 (.pick (.tmp 57) (.tmp 60) (.const (.bool false)))]) (.cond (.tmp 61) (.region [.k 7 2]) .skip)) (.seq (.region [.o 11 (.mv (.const (.slice none 0 0)))]) (.seq (.seq (.region [.m 62 7, .o 63 (.c .eql 62 0)]) (.cond (.tmp 63) (.region [.m 64 0, .m 65 1, .m 66 2, .o 67 (.q 13 [64,65,66]), .m 11 67]) .skip)) (.seq (.region [.m 69 0, .m 70 1, .m 71 2, .o 72 (.q 74 [69,70,71]), .m 68 72, .o 73 (.e 0 68), .o 74 (.e 1 68), .m 12 73, .m 10 74]) (.seq (.region [.m 75 12, .m 76 10, .m 77 11, .m 78 7, .o 79 (.q 41 [75,76,77,78]), .m 6 79]) .ret)))))))))))))
def F17:AFun:=⟨c17,3,80,[(.tmp 6)]⟩
def K17:Nat→List Nat×List Nat
 |_=>([],[])
theorem F17_ok:kj8 Tryz.prog K17 Tryz.f17=some F17:=by kernel_rfl
/- 18: syndrome/syndromelaw.MullerMends -/
def c18:ACode:=(.seq (.region [.o 6 (.mv (.const (.bool false)))]) (.seq (.seq (.region [.m 15 2, .o 16 (.n 15), .o 17 (.c .gtr 16 100)]) (.cond (.tmp 17) (.seq (.region [.o 6 (.mv (.const (.bool true)))]) .ret) .skip)) (.seq (.region [.m 18 0, .m 19 1, .o 20 (.q 70 [18,19]), .m 7 20]) (.seq (.seq (.region [.m 21 7, .o 22 (.c .eql 21 0), .m 23 22, .g 24 (.m 2) 23 true, .g 25 (.n 24) 23 true, .g 26 (.m 1) 23 true, .g 27 (.bin .shl (.const (.int .i64 1)) (.tmp 26)) 23 true, .g 28 (.b .neq 25 27) 23 true, .o 29 (.pick (.tmp 23) (.tmp 28) (.const (.bool false)))]) (.cond (.tmp 29) (.region [.k 7 6]) .skip)) (.seq (.seq (.region [.m 30 7, .o 31 (.c .eql 30 0), .m 32 31, .g 33 (.m 2) 32 true, .g 34 (.call 73 [(.tmp 33),(.const (.bool false))]) 32 true, .g 35 (.un .not (.tmp 34)) 32 true, .o 36 (.pick (.tmp 32) (.tmp 35) (.const (.bool false)))]) (.cond (.tmp 36) (.region [.k 7 2]) .skip)) (.seq (.region [.m 38 0, .m 39 1, .m 40 2, .o 41 (.q 15 [38,39,40]), .m 37 41, .o 42 (.e 0 37), .o 43 (.e 1 37), .o 44 (.e 2 37), .o 45 (.e 3 37), .m 8 42, .m 9 43, .m 10 44, .m 11 45]) (.seq (.seq (.region [.m 46 7, .o 47 (.c .neq 46 0), .m 48 47, .g 49 (.m 10) 48 false, .g 50 (.un .not (.tmp 49)) 48 false, .o 51 (.pick (.tmp 48) (.const (.bool true)) (.tmp 50))]) (.cond (.tmp 51) (.seq (.seq (.region [.m 52 11, .m 53 7, .o 54 (.b .neq 52 53), .m 55 54, .g 56 (.m 10) 55 false, .o 57 (.pick (.tmp 55) (.const (.bool true)) (.tmp 56)), .m 58 57, .g 59 (.m 9) 58 false, .g 60 (.c .neq 59 0) 58 false, .o 61 (.pick (.tmp 58) (.const (.bool true)) (.tmp 60)), .m 62 61, .g 63 (.m 8) 62 false, .g 64 (.n 63) 62 false, .g 65 (.c .gtr 64 0) 62 false, .o 66 (.pick (.tmp 62) (.const (.bool true)) (.tmp 65))]) (.cond (.tmp 66) (.seq (.region [.o 6 (.mv (.const (.bool false)))]) .ret) .skip)) (.seq (.seq (.region [.m 67 7, .o 68 (.c .neq 67 0), .m 69 68, .g 70 (.m 0) 69 false, .g 71 (.m 1) 69 false, .g 72 (.q 12 [70,71]) 69 false, .g 73 (.n 72) 69 false, .g 74 (.c .gtr 73 11) 69 false, .o 75 (.pick (.tmp 69) (.const (.bool true)) (.tmp 74))]) (.cond (.tmp 75) (.seq (.region [.o 6 (.mv (.const (.bool true)))]) .ret) .skip)) (.seq (.region [.m 77 0, .m 78 1, .m 79 2, .o 80 (.q 75 [77,78,79]), .m 76 80, .o 81 (.e 0 76), .o 82 (.e 1 76), .o 83 (.e 2 76), .m 12 81, .m 13 82, .m 14 83]) (.seq (.region [.m 84 14, .o 85 (.un .not (.tmp 84)), .m 6 85]) .ret)))) .skip)) (.seq (.seq (.region [.m 86 11, .o 87 (.c .neq 86 0), .m 88 87, .g 89 (.m 8) 88 false, .g 90 (.n 89) 88 false, .g 91 (.m 0) 88 false, .g 92 (.m 1) 88 false, .g 93 (.q 12 [91,92]) 88 false, .g 94 (.n 93) 88 false, .g 95 (.b .neq 90 94) 88 false, .o 96 (.pick (.tmp 88) (.const (.bool true)) (.tmp 95)), .m 97 96, .g 98 (.m 8) 97 false, .g 99 (.call 73 [(.tmp 98),(.const (.bool false))]) 97 false, .g 100 (.un .not (.tmp 99)) 97 false, .o 101 (.pick (.tmp 97) (.const (.bool true)) (.tmp 100))]) (.cond (.tmp 101) (.seq (.region [.o 6 (.mv (.const (.bool false)))]) .ret) .skip)) (.seq (.region [.m 102 9, .m 103 0, .m 104 1, .m 105 8, .o 106 (.q 13 [103,104,105]), .m 107 2, .o 108 (.q 30 [106,107]), .o 109 (.b .eql 102 108), .m 110 109, .g 111 (.m 9) 110 true, .g 112 (.bin .mul (.const (.int .i64 2)) (.tmp 111)) 110 true, .g 113 (.m 1) 110 true, .g 114 (.m 0) 110 true, .g 115 (.b .sub 113 114) 110 true, .g 116 (.bin .shl (.const (.int .i64 1)) (.tmp 115)) 110 true, .g 117 (.b .lss 112 116) 110 true, .o 118 (.pick (.tmp 110) (.tmp 117) (.const (.bool false))), .m 6 118]) .ret)))))))))
def F18:AFun:=⟨c18,3,119,[(.tmp 6)]⟩
def K18:Nat→List Nat×List Nat
 |_=>([],[])
theorem F18_ok:kj8 Tryz.prog K18 Tryz.f18=some F18:=by kernel_rfl
/- 21: syndrome/syndromeref.Made -/
def c21:ACode:=(.seq (.region [.o 1 (.box 36 3 (.tmp 0)), .o 2 (.alloc 36 [(.int .i64 0),(.int .i64 0),(.slice none 0 0)])]) (.seq (.region [.o 8 (.f 0 1), .o 9 (.l 8), .o 10 (.q 38 [9]), .m 7 10, .o 11 (.e 0 7), .o 12 (.e 1 7), .o 3 (.alloc 52 [(.int .i64 0),(.int .i64 0),(.int .i64 0),(.int .i64 0),(.slice none 0 0)]), .n (.st 5 (.tmp 3) (.tmp 11)), .m 4 12]) (.seq (.region [.o 14 (.ld true 5 (.tmp 3)), .o 15 (.f 2 1), .o 16 (.l 15), .o 17 (.q 77 [14,16]), .m 13 17, .o 18 (.e 0 13), .o 19 (.e 1 13), .m 5 18, .m 6 19]) (.seq (.region [.o 20 (.f 0 1), .o 21 (.l 20), .o 22 (.f 1 1), .o 23 (.l 22), .m 24 5, .o 25 (.build [(.int .i64 0),(.int .i64 0),(.slice none 0 0)] [(0,1),(1,1),(2,1)] [(0,(.tmp 21)),(1,(.tmp 23)),(2,(.tmp 24))]), .n (.st 3 (.tmp 2) (.tmp 25))]) .ret))))
def F21:AFun:=⟨c21,1,26,[(.cell 2 true 3)]⟩
def K21:Nat→List Nat×List Nat
 |_=>([],[])
theorem F21_ok:kj8 Tryz.prog K21 Tryz.f21=some F21:=by kernel_rfl
/- 23: syndrome/code.Make -/
def c23:ACode:=(.seq (.region [.o 1 (.box 36 3 (.tmp 0)), .o 2 (.alloc 36 [(.int .i64 0),(.int .i64 0),(.slice none 0 0)]), .k 3 0]) (.seq (.seq (.region [.o 8 (.ld true 3 (.tmp 1)), .o 9 (.q 25 [8]), .m 4 9]) (.seq (.region [.m 10 4, .o 11 (.c .neq 10 0)]) (.cond (.tmp 11) (.seq (.region [.o 12 (.build [(.int .i64 0),(.int .i64 0),(.slice none 0 0)] [(0,1),(1,1),(2,1)] []), .m 13 4, .n (.st 3 (.tmp 2) (.tmp 12)), .m 3 13]) .ret) .skip))) (.seq (.region [.o 15 (.f 0 1), .o 16 (.l 15), .o 17 (.f 2 1), .o 18 (.l 17), .o 19 (.q 79 [16,18]), .m 14 19, .o 20 (.e 0 14), .o 21 (.e 1 14), .o 22 (.e 2 14), .m 5 20, .m 6 21, .m 7 22]) (.seq (.region [.o 23 (.f 0 1), .o 24 (.l 23), .o 25 (.f 1 1), .o 26 (.l 25), .m 27 5, .o 28 (.build [(.int .i64 0),(.int .i64 0),(.slice none 0 0)] [(0,1),(1,1),(2,1)] [(0,(.tmp 24)),(1,(.tmp 26)),(2,(.tmp 27))]), .n (.st 3 (.tmp 2) (.tmp 28)), .k 3 0]) .ret))))
def F23:AFun:=⟨c23,1,29,[(.cell 2 true 3),(.tmp 3)]⟩
def K23:Nat→List Nat×List Nat
 |_=>([],[])
theorem F23_ok:kj8 Tryz.prog K23 Tryz.f23=some F23:=by kernel_rfl
/- 25: syndrome/code.Check -/
def c25:ACode:=(.seq (.region [.o 1 (.box 36 3 (.tmp 0)), .k 2 0]) (.seq (.seq (.region [.o 7 (.f 0 1), .o 8 (.l 7), .o 9 (.q 81 [8]), .m 6 9, .o 10 (.e 0 6), .o 11 (.e 1 6), .m 3 10, .m 4 11]) (.seq (.region [.m 12 4, .o 13 (.c .neq 12 0)]) (.cond (.tmp 13) (.seq (.region [.m 14 4, .m 2 14]) .ret) .skip))) (.seq (.seq (.region [.o 15 (.f 1 1), .o 16 (.l 15), .o 17 (.c .lss 16 1), .m 18 17, .g 19 (.f 1 1) 18 false, .g 20 (.l 19) 18 false, .g 21 (.c .gtr 20 64) 18 false, .o 22 (.pick (.tmp 18) (.const (.bool true)) (.tmp 21))]) (.cond (.tmp 22) (.seq (.region [.k 2 4]) .ret) .skip)) (.seq (.seq (.region [.o 23 (.f 0 1), .o 24 (.l 23), .o 25 (.f 2 1), .o 26 (.l 25), .o 27 (.q 82 [24,26]), .m 5 27]) (.seq (.region [.m 28 5, .o 29 (.c .neq 28 0)]) (.cond (.tmp 29) (.seq (.region [.m 30 5, .m 2 30]) .ret) .skip))) (.seq (.seq (.region [.o 31 (.f 2 1), .o 32 (.l 31), .o 33 (.n 32), .o 34 (.c .gtr 33 0), .m 35 34, .g 36 (.f 2 1) 35 true, .g 37 (.l 36) 35 true, .g 38 (.iaddr 1 (.tmp 37) (.const (.int .i64 0))) 35 true, .g 39 (.l 38) 35 true, .g 40 (.n 39) 35 true, .g 41 (.f 1 1) 35 true, .g 42 (.l 41) 35 true, .g 43 (.b .neq 40 42) 35 true, .o 44 (.pick (.tmp 35) (.tmp 43) (.const (.bool false)))]) (.cond (.tmp 44) (.seq (.region [.k 2 3]) .ret) .skip)) (.seq (.region [.k 2 0]) .ret))))))
def F25:AFun:=⟨c25,1,45,[(.tmp 2)]⟩
def K25:Nat→List Nat×List Nat
 |_=>([],[])
theorem F25_ok:kj8 Tryz.prog K25 Tryz.f25=some F25:=by kernel_rfl
/- 26: syndrome/syndromelaw.sameCode -/
def c26:ACode:=(.seq (.region [.o 4 (.box 36 3 (.tmp 0)), .o 6 (.box 36 3 (.tmp 2)), .o 8 (.mv (.const (.bool false)))]) (.seq (.seq (.region [.m 9 3, .o 10 (.c .neq 9 0)]) (.cond (.tmp 10) (.seq (.region [.m 11 1, .m 12 3, .o 13 (.b .eql 11 12), .m 14 13, .g 15 (.ld true 3 (.tmp 4)) 14 true, .g 16 (.build [(.int .i64 0),(.int .i64 0),(.slice none 0 0)] [(0,1),(1,1),(2,1)] []) 14 true, .g 17 (.q 83 [15,16]) 14 true, .o 18 (.pick (.tmp 14) (.tmp 17) (.const (.bool false))), .m 8 18]) .ret) .skip)) (.seq (.region [.m 19 1, .o 20 (.c .eql 19 0), .m 21 20, .g 22 (.ld true 3 (.tmp 4)) 21 true, .g 23 (.ld true 3 (.tmp 6)) 21 true, .g 24 (.q 83 [22,23]) 21 true, .o 25 (.pick (.tmp 21) (.tmp 24) (.const (.bool false))), .m 8 25]) .ret)))
def F26:AFun:=⟨c26,4,26,[(.tmp 8)]⟩
def K26:Nat→List Nat×List Nat
 |_=>([],[])
theorem F26_ok:kj8 Tryz.prog K26 Tryz.f26=some F26:=by kernel_rfl
/- 27: syndrome/code.Weight -/
def c27L0:ACode:=(.seq (.region [.o 9 (.b .lss 8 7)]) (.seq (.cond (.tmp 9) .skip (.exit 0)) (.seq (.block 1 [3,6,7,8] (.seq (.region [.o 10 (.i 1 6 8), .o 11 (.l 10), .m 5 11]) (.seq (.region [.m 12 5, .o 13 (.c .neq 12 0)]) (.cond (.tmp 13) (.region [.m 14 3, .o 15 (.c .add 14 1), .m 3 15]) .skip)))) (.region [.o 16 (.c .add 8 1), .m 8 16]))))
def c27:ACode:=(.seq (.region [.k 2 0]) (.seq (.region [.k 3 0]) (.seq (.seq (.region [.m 6 0, .o 7 (.n 6), .k 8 0]) (.block 0 [3] (.loop [3,6,7,8] c27L0))) (.seq (.region [.m 17 3, .m 2 17]) .ret))))
def F27:AFun:=⟨c27,1,18,[(.tmp 2)]⟩
def K27:Nat→List Nat×List Nat
 |0=>([3,6,7,8],[3])
 |1=>([],[3,6,7,8])
 |_=>([],[])
theorem F27_ok:kj8 Tryz.prog K27 Tryz.f27=some F27:=by kernel_rfl
/- 30: syndrome/syndromeref.Apart -/
def c30L0:ACode:=(.seq (.seq (.region [.m 12 6, .m 13 0, .o 14 (.n 13), .o 15 (.b .lss 12 14)]) (.cond (.tmp 15) .skip (.exit 0))) (.seq (.block 1 [0,1,5,6] (.seq (.region [.m 18 0, .m 19 6, .o 20 (.i 1 18 19), .o 21 (.l 20), .m 22 1, .m 23 6, .o 24 (.i 1 22 23), .o 25 (.l 24), .o 26 (.b .neq 21 25)]) (.cond (.tmp 26) (.region [.m 27 5, .o 28 (.c .add 27 1), .m 5 28]) .skip))) (.region [.m 16 6, .o 17 (.c .add 16 1), .m 6 17])))
def c30:ACode:=(.seq (.region [.k 4 0]) (.seq (.seq (.region [.m 7 0, .o 8 (.n 7), .m 9 1, .o 10 (.n 9), .o 11 (.b .neq 8 10)]) (.cond (.tmp 11) (.seq (.region [.k 4 (-1)]) .ret) .skip)) (.seq (.region [.k 5 0]) (.seq (.seq (.region [.k 6 0]) (.block 0 [5] (.loop [0,1,5,6] c30L0))) (.seq (.region [.m 29 5, .m 4 29]) .ret)))))
def F30:AFun:=⟨c30,2,30,[(.tmp 4)]⟩
def K30:Nat→List Nat×List Nat
 |0=>([0,1,5,6],[5])
 |1=>([],[0,1,5,6])
 |_=>([],[])
theorem F30_ok:kj8 Tryz.prog K30 Tryz.f30=some F30:=by kernel_rfl
/- 38: syndrome/syndromeref.Field -/
def c38L0:ACode:=(.seq (.seq (.region [.m 32 7, .m 33 0, .o 34 (.b .lss 32 33)]) (.cond (.tmp 34) .skip (.exit 0))) (.seq (.block 1 [0,2,4,5,6,7] (.seq (.region [.o 37 (.ld true 5 (.tmp 6)), .m 38 7, .o 39 (.q 101 [37,38])]) (.cond (.tmp 39) (.seq (.region [.m 40 7, .o 41 (.f 3 6), .n (.st 1 (.tmp 41) (.tmp 40))]) (.seq (.region [.o 42 (.ld true 5 (.tmp 6)), .n (.st 5 (.tmp 2) (.tmp 42)), .k 3 0]) .ret)) .skip))) (.region [.m 35 7, .o 36 (.c .add 35 1), .m 7 36])))
def c38L1:ACode:=(.seq (.seq (.region [.m 45 8, .m 46 0, .o 47 (.b .lss 45 46)]) (.cond (.tmp 47) .skip (.exit 2))) (.seq (.block 3 [0,2,4,5,6,8] (.seq (.region [.m 50 8, .m 51 4, .m 52 5, .o 53 (.q 102 [50,51,52]), .o 54 (.mkSl 3 1 1 [(.const (.int .i64 1))]), .o 55 (.app 3 1 8 (.tmp 53) (.tmp 54)), .o 56 (.f 4 6), .n (.st 1 (.tmp 56) (.tmp 55))]) (.seq (.region [.o 57 (.ld true 5 (.tmp 6)), .m 58 4, .o 59 (.q 101 [57,58])]) (.cond (.tmp 59) (.seq (.region [.o 60 (.ld true 5 (.tmp 6)), .n (.st 5 (.tmp 2) (.tmp 60)), .k 3 0]) .ret) .skip)))) (.region [.m 48 8, .o 49 (.c .add 48 1), .m 8 49])))
def c38:ACode:=(.seq (.region [.o 2 (.alloc 52 [(.int .i64 0),(.int .i64 0),(.int .i64 0),(.int .i64 0),(.slice none 0 0)]), .k 3 0]) (.seq (.seq (.region [.m 9 0, .o 10 (.c .lss 9 2), .m 11 10, .g 12 (.m 0) 11 false, .g 13 (.c .gtr 12 64) 11 false, .o 14 (.pick (.tmp 11) (.const (.bool true)) (.tmp 13))]) (.cond (.tmp 14) (.seq (.region [.o 15 (.build [(.int .i64 0),(.int .i64 0),(.int .i64 0),(.int .i64 0),(.slice none 0 0)] [(0,1),(1,1),(2,1),(3,1),(4,1)] []), .n (.st 5 (.tmp 2) (.tmp 15)), .k 3 1]) .ret) .skip)) (.seq (.region [.m 17 0, .o 18 (.q 100 [17]), .m 16 18, .o 19 (.e 0 16), .o 20 (.e 1 16), .m 4 19, .m 5 20]) (.seq (.seq (.region [.m 21 4, .o 22 (.c .eql 21 0)]) (.cond (.tmp 22) (.seq (.region [.o 23 (.build [(.int .i64 0),(.int .i64 0),(.int .i64 0),(.int .i64 0),(.slice none 0 0)] [(0,1),(1,1),(2,1),(3,1),(4,1)] []), .n (.st 5 (.tmp 2) (.tmp 23)), .k 3 1]) .ret) .skip)) (.seq (.region [.m 24 0, .m 25 4, .m 26 5, .o 27 (.build [(.int .i64 0),(.int .i64 0),(.int .i64 0),(.int .i64 0),(.slice none 0 0)] [(0,1),(1,1),(2,1),(3,1),(4,1)] [(0,(.tmp 24)),(1,(.tmp 25)),(2,(.tmp 26))]), .o 6 (.alloc 52 [(.int .i64 0),(.int .i64 0),(.int .i64 0),(.int .i64 0),(.slice none 0 0)]), .n (.st 5 (.tmp 6) (.tmp 27))]) (.seq (.seq (.region [.m 28 5, .o 29 (.c .eql 28 1)]) (.cond (.tmp 29) (.seq (.region [.o 30 (.mkSl 3 1 2 [(.const (.int .i64 0)),(.const (.int .i64 1))]), .o 31 (.f 4 6), .n (.st 1 (.tmp 31) (.tmp 30))]) (.seq (.region [.k 7 1]) (.block 0 [0,2,4,5,6] (.loop [0,2,4,5,6,7] c38L0)))) .skip)) (.seq (.region [.m 43 4, .o 44 (.f 3 6), .n (.st 1 (.tmp 44) (.tmp 43))]) (.seq (.seq (.region [.k 8 0]) (.block 2 [2] (.loop [0,2,4,5,6,8] c38L1))) (.seq (.region [.o 61 (.build [(.int .i64 0),(.int .i64 0),(.int .i64 0),(.int .i64 0),(.slice none 0 0)] [(0,1),(1,1),(2,1),(3,1),(4,1)] []), .n (.st 5 (.tmp 2) (.tmp 61)), .k 3 1]) .ret)))))))))
def F38:AFun:=⟨c38,1,62,[(.cell 2 true 5),(.tmp 3)]⟩
def K38:Nat→List Nat×List Nat
 |0=>([0,2,4,5,6,7],[0,2,4,5,6])
 |1=>([],[0,2,4,5,6,7])
 |2=>([0,2,4,5,6,8],[2])
 |3=>([],[0,2,4,5,6,8])
 |_=>([],[])
theorem F38_ok:kj8 Tryz.prog K38 Tryz.f38=some F38:=by kernel_rfl
/- 41: syndrome/syndromelaw.list -/
def c41:ACode:=(.seq (.region [.o 8 (.mv (.const (.bool false)))]) (.seq (.seq (.region [.m 9 3, .o 10 (.c .neq 9 0)]) (.cond (.tmp 10) (.seq (.region [.m 11 1, .m 12 3, .o 13 (.b .eql 11 12), .m 14 13, .g 15 (.m 0) 14 true, .g 16 (.n 15) 14 true, .g 17 (.c .eql 16 0) 14 true, .o 18 (.pick (.tmp 14) (.tmp 17) (.const (.bool false))), .m 8 18]) .ret) .skip)) (.seq (.region [.m 19 1, .o 20 (.c .eql 19 0), .m 21 20, .g 22 (.m 0) 21 true, .g 23 (.m 2) 21 true, .g 24 (.q 16 [22,23]) 21 true, .o 25 (.pick (.tmp 21) (.tmp 24) (.const (.bool false))), .m 8 25]) .ret)))
def F41:AFun:=⟨c41,4,26,[(.tmp 8)]⟩
def K41:Nat→List Nat×List Nat
 |_=>([],[])
theorem F41_ok:kj8 Tryz.prog K41 Tryz.f41=some F41:=by kernel_rfl
/- 59: syndrome/syndromeref.Ones -/
def c59L0:ACode:=(.seq (.seq (.region [.m 4 0, .o 5 (.c .gtr 4 0)]) (.cond (.tmp 5) .skip (.exit 0))) (.block 1 [0,3] (.seq (.region [.m 6 3, .m 7 0, .o 8 (.c .rem 7 2), .o 9 (.b .add 6 8), .m 3 9]) (.region [.m 10 0, .o 11 (.c .quo 10 2), .m 0 11]))))
def c59:ACode:=(.seq (.region [.k 2 0]) (.seq (.region [.k 3 0]) (.seq (.block 0 [3] (.loop [0,3] c59L0)) (.seq (.region [.m 12 3, .m 2 12]) .ret))))
def F59:AFun:=⟨c59,1,13,[(.tmp 2)]⟩
def K59:Nat→List Nat×List Nat
 |0=>([0,3],[3])
 |1=>([],[0,3])
 |_=>([],[])
theorem F59_ok:kj8 Tryz.prog K59 Tryz.f59=some F59:=by kernel_rfl
/- 60: syndrome/muller.Check -/
def c60:ACode:=(.seq (.region [.k 4 0]) (.seq (.seq (.region [.m 5 1, .o 6 (.c .lss 5 1), .m 7 6, .g 8 (.m 1) 7 false, .g 9 (.c .gtr 8 5) 7 false, .o 10 (.pick (.tmp 7) (.const (.bool true)) (.tmp 9))]) (.cond (.tmp 10) (.seq (.region [.k 4 4]) .ret) .skip)) (.seq (.seq (.region [.m 11 0, .o 12 (.c .lss 11 0), .m 13 12, .g 14 (.m 0) 13 false, .g 15 (.m 1) 13 false, .g 16 (.b .gtr 14 15) 13 false, .o 17 (.pick (.tmp 13) (.const (.bool true)) (.tmp 16))]) (.cond (.tmp 17) (.seq (.region [.k 4 6]) .ret) .skip)) (.seq (.region [.k 4 0]) .ret))))
def F60:AFun:=⟨c60,2,18,[(.tmp 4)]⟩
def K60:Nat→List Nat×List Nat
 |_=>([],[])
theorem F60_ok:kj8 Tryz.prog K60 Tryz.f60=some F60:=by kernel_rfl
/- 61: slices.ContainsFunc[[]int,int] -/
def c61:ACode:=(.seq (.region [.o 4 (.mv (.const (.bool false)))]) (.seq (.region [.m 5 0, .m 6 1, .o 7 (.q 133 [5,6]), .o 8 (.c .geq 7 0), .m 4 8]) .ret))
def F61:AFun:=⟨c61,2,9,[(.tmp 4)]⟩
def K61:Nat→List Nat×List Nat
 |_=>([],[])
theorem F61_ok:kj8 Tryz.prog K61 Tryz.f61=some F61:=by kernel_rfl
/- 62: syndrome/muller.Decode$1 -/
def c62:ACode:=(.seq (.region [.o 2 (.mv (.const (.bool false)))]) (.seq (.region [.m 3 0, .o 4 (.q 63 [3]), .o 5 (.un .not (.tmp 4)), .m 2 5]) .ret))
def F62:AFun:=⟨c62,1,6,[(.tmp 2)]⟩
def K62:Nat→List Nat×List Nat
 |_=>([],[])
theorem F62_ok:kj8 Tryz.prog K62 Tryz.f62=some F62:=by kernel_rfl
/- 63: syndrome/muller.bit -/
def c63:ACode:=(.seq (.region [.o 2 (.mv (.const (.bool false)))]) (.seq (.region [.m 3 0, .o 4 (.c .eql 3 0), .m 5 4, .g 6 (.m 0) 5 false, .g 7 (.c .eql 6 1) 5 false, .o 8 (.pick (.tmp 5) (.const (.bool true)) (.tmp 7)), .m 2 8]) .ret))
def F63:AFun:=⟨c63,1,9,[(.tmp 2)]⟩
def K63:Nat→List Nat×List Nat
 |_=>([],[])
theorem F63_ok:kj8 Tryz.prog K63 Tryz.f63=some F63:=by kernel_rfl
/- 64: syndrome/muller.monomials -/
def c64L0:ACode:=(.seq (.region [.o 16 (.b .lss 15 14)]) (.seq (.cond (.tmp 16) .skip (.exit 2)) (.seq (.block 3 [0,1,5,6,14,15] (.seq (.region [.m 17 15, .m 7 17]) (.seq (.region [.m 18 7, .o 19 (.conv .u64 (.tmp 18)), .o 20 (.q 66 [19]), .m 21 6, .o 22 (.b .eql 20 21)]) (.cond (.tmp 22) (.region [.m 23 5, .m 24 7, .o 25 (.mkSl 3 1 1 [(.tmp 24)]), .o 26 (.app 3 1 8 (.tmp 23) (.tmp 25)), .m 5 26]) .skip)))) (.region [.o 27 (.c .add 15 1), .m 15 27]))))
def c64L1:ACode:=(.seq (.seq (.region [.m 8 6, .m 9 0, .o 10 (.b .leq 8 9)]) (.cond (.tmp 10) .skip (.exit 0))) (.seq (.block 1 [0,1,5,6] (.seq (.region [.m 13 1, .o 14 (.bin .shl (.const (.int .i64 1)) (.tmp 13)), .k 15 0]) (.block 2 [0,1,5,6] (.loop [0,1,5,6,14,15] c64L0)))) (.region [.m 11 6, .o 12 (.c .add 11 1), .m 6 12])))
def c64:ACode:=(.seq (.region [.o 4 (.mv (.const (.slice none 0 0)))]) (.seq (.region [.o 5 (.mv (.const (.slice none 0 0)))]) (.seq (.seq (.region [.k 6 0]) (.block 0 [5] (.loop [0,1,5,6] c64L1))) (.seq (.region [.m 28 5, .m 4 28]) .ret))))
def F64:AFun:=⟨c64,2,29,[(.tmp 4)]⟩
def K64:Nat→List Nat×List Nat
 |0=>([0,1,5,6],[5])
 |1=>([],[0,1,5,6])
 |2=>([0,1,5,6,14,15],[0,1,5,6])
 |3=>([],[0,1,5,6,14,15])
 |_=>([],[])
theorem F64_ok:kj8 Tryz.prog K64 Tryz.f64=some F64:=by kernel_rfl
/- 65: slices.Clone[[]int,int] -/
def c65:ACode:=(.seq (.region [.o 2 (.mv (.const (.slice none 0 0)))]) (.seq (.seq (.region [.m 3 0, .o 4 (.eqn false 0 (.tmp 3))]) (.cond (.tmp 4) (.seq (.region [.o 2 (.mv (.const (.slice none 0 0)))]) .ret) .skip)) (.seq (.region [.o 5 (.mkSl 3 1 0 []), .m 6 0, .o 7 (.app 3 1 8 (.tmp 5) (.tmp 6)), .m 2 7]) .ret)))
def F65:AFun:=⟨c65,1,8,[(.tmp 2)]⟩
def K65:Nat→List Nat×List Nat
 |_=>([],[])
theorem F65_ok:kj8 Tryz.prog K65 Tryz.f65=some F65:=by kernel_rfl
/- 66: math/bits.OnesCount -/
def c66:ACode:=(.seq (.region [.k 2 0]) (.seq (.cond (.const (.bool false)) (.seq (.region [.m 3 0, .o 4 (.conv .u32 (.tmp 3)), .o 5 (.q 134 [4]), .m 2 5]) .ret) .skip) (.seq (.region [.m 6 0, .o 7 (.q 135 [6]), .m 2 7]) .ret)))
def F66:AFun:=⟨c66,1,8,[(.tmp 2)]⟩
def K66:Nat→List Nat×List Nat
 |_=>([],[])
theorem F66_ok:kj8 Tryz.prog K66 Tryz.f66=some F66:=by kernel_rfl
/- 67: syndrome/muller.votes -/
def c67L0:ACode:=(.seq (.region [.o 24 (.b .lss 23 22)]) (.seq (.cond (.tmp 24) .skip (.exit 2)) (.seq (.block 3 [0,1,7,8,9,10,13,14,22,23] (.seq (.region [.m 25 23, .m 11 25]) (.seq (.region [.m 26 11, .m 27 1, .o 28 (.b .andNot 26 27), .m 29 9, .o 30 (.b .eql 28 29)]) (.cond (.tmp 30) (.region [.m 31 10, .m 32 0, .m 33 11, .o 34 (.i 1 32 33), .o 35 (.l 34), .o 36 (.b .xor 31 35), .m 10 36]) .skip)))) (.region [.o 37 (.c .add 23 1), .m 23 37]))))
def c67L1:ACode:=(.seq (.region [.o 15 (.b .lss 14 13)]) (.seq (.cond (.tmp 15) .skip (.exit 0)) (.seq (.block 1 [0,1,7,8,13,14] (.seq (.region [.m 16 14, .m 9 16]) (.seq (.seq (.region [.m 17 9, .m 18 1, .o 19 (.b .and 17 18), .o 20 (.c .neq 19 0)]) (.cond (.tmp 20) (.exit 1) .skip)) (.seq (.region [.k 10 0]) (.seq (.seq (.region [.m 21 0, .o 22 (.n 21), .k 23 0]) (.block 2 [0,1,7,8,10,13,14] (.loop [0,1,7,8,9,10,13,14,22,23] c67L0))) (.seq (.region [.m 38 8, .o 39 (.c .add 38 1), .m 8 39]) (.region [.m 40 7, .m 41 10, .o 42 (.b .add 40 41), .m 7 42]))))))) (.region [.o 43 (.c .add 14 1), .m 14 43]))))
def c67:ACode:=(.seq (.region [.o 6 (.mv (.const (.bool false)))]) (.seq (.region [.k 7 0, .k 8 0]) (.seq (.seq (.region [.m 12 2, .o 13 (.bin .shl (.const (.int .i64 1)) (.tmp 12)), .k 14 0]) (.block 0 [7,8] (.loop [0,1,7,8,13,14] c67L1))) (.seq (.region [.m 44 7, .o 45 (.bin .mul (.const (.int .i64 2)) (.tmp 44)), .m 46 8, .o 47 (.b .gtr 45 46), .m 6 47]) .ret))))
def F67:AFun:=⟨c67,3,48,[(.tmp 6)]⟩
def K67:Nat→List Nat×List Nat
 |0=>([0,1,7,8,13,14],[7,8])
 |1=>([],[0,1,7,8,13,14])
 |2=>([0,1,7,8,9,10,13,14,22,23],[0,1,7,8,10,13,14])
 |3=>([],[0,1,7,8,9,10,13,14,22,23])
 |_=>([],[])
theorem F67_ok:kj8 Tryz.prog K67 Tryz.f67=some F67:=by kernel_rfl
/- 68: syndrome/muller.add -/
def c68L0:ACode:=(.seq (.region [.o 8 (.b .lss 7 6)]) (.seq (.cond (.tmp 8) .skip (.exit 0)) (.seq (.block 1 [0,1,6,7] (.seq (.region [.m 9 7, .m 4 9]) (.region [.m 10 0, .m 11 4, .o 12 (.i 1 10 11), .o 13 (.l 12), .m 14 1, .m 15 4, .o 16 (.i 1 14 15), .o 17 (.l 16), .o 18 (.b .xor 13 17), .o 19 (.i 1 10 11), .n (.st 1 (.tmp 19) (.tmp 18))]))) (.region [.o 20 (.c .add 7 1), .m 7 20]))))
def c68:ACode:=(.seq (.region [.m 5 0, .o 6 (.n 5), .k 7 0]) (.block 0 [] (.loop [0,1,6,7] c68L0)))
def F68:AFun:=⟨c68,2,21,[]⟩
def K68:Nat→List Nat×List Nat
 |0=>([0,1,6,7],[])
 |1=>([],[0,1,6,7])
 |_=>([],[])
theorem F68_ok:kj8 Tryz.prog K68 Tryz.f68=some F68:=by kernel_rfl
/- 69: syndrome/muller.row -/
def c69L0:ACode:=(.seq (.region [.o 13 (.b .lss 12 11)]) (.seq (.cond (.tmp 13) .skip (.exit 0)) (.seq (.block 1 [0,5,11,12] (.seq (.region [.m 14 12, .m 6 14]) (.seq (.region [.m 15 6, .m 16 0, .o 17 (.b .and 15 16), .m 18 0, .o 19 (.b .eql 17 18)]) (.cond (.tmp 19) (.region [.m 20 5, .m 21 6, .o 22 (.i 1 20 21), .n (.st 1 (.tmp 22) (.const (.int .i64 1)))]) .skip)))) (.region [.o 23 (.c .add 12 1), .m 12 23]))))
def c69:ACode:=(.seq (.region [.o 4 (.mv (.const (.slice none 0 0)))]) (.seq (.region [.m 7 1, .o 8 (.bin .shl (.const (.int .i64 1)) (.tmp 7)), .o 9 (.mks 3 1 8 [(.int .i64 0)] (.tmp 8) (.tmp 8)), .m 5 9]) (.seq (.seq (.region [.m 10 5, .o 11 (.n 10), .k 12 0]) (.block 0 [5] (.loop [0,5,11,12] c69L0))) (.seq (.region [.m 24 5, .m 4 24]) .ret))))
def F69:AFun:=⟨c69,2,25,[(.tmp 4)]⟩
def K69:Nat→List Nat×List Nat
 |0=>([0,5,11,12],[5])
 |1=>([],[0,5,11,12])
 |_=>([],[])
theorem F69_ok:kj8 Tryz.prog K69 Tryz.f69=some F69:=by kernel_rfl
/- 70: syndrome/syndromeref.MullerMay -/
def c70:ACode:=(.seq (.region [.k 4 0]) (.seq (.seq (.region [.m 5 1, .o 6 (.c .lss 5 1), .m 7 6, .g 8 (.m 1) 7 false, .g 9 (.c .gtr 8 5) 7 false, .o 10 (.pick (.tmp 7) (.const (.bool true)) (.tmp 9))]) (.cond (.tmp 10) (.seq (.region [.k 4 4]) .ret) .skip)) (.seq (.seq (.region [.m 11 0, .o 12 (.c .lss 11 0), .m 13 12, .g 14 (.m 0) 13 false, .g 15 (.m 1) 13 false, .g 16 (.b .gtr 14 15) 13 false, .o 17 (.pick (.tmp 13) (.const (.bool true)) (.tmp 16))]) (.cond (.tmp 17) (.seq (.region [.k 4 6]) .ret) .skip)) (.seq (.region [.k 4 0]) .ret))))
def F70:AFun:=⟨c70,2,18,[(.tmp 4)]⟩
def K70:Nat→List Nat×List Nat
 |_=>([],[])
theorem F70_ok:kj8 Tryz.prog K70 Tryz.f70=some F70:=by kernel_rfl
/- 71: syndrome/syndromeref.MullerCode -/
def c71L0:ACode:=(.seq (.seq (.region [.m 15 7, .m 16 5, .o 17 (.n 16), .o 18 (.b .lss 15 17)]) (.cond (.tmp 18) .skip (.exit 0))) (.seq (.block 1 [0,1,4,5,6,7] (.seq (.region [.m 21 5, .o 22 (.n 21), .o 23 (.mks 3 1 8 [(.int .i64 0)] (.tmp 22) (.tmp 22)), .m 8 23]) (.seq (.region [.m 24 8, .m 25 7, .o 26 (.i 1 24 25), .n (.st 1 (.tmp 26) (.const (.int .i64 1)))]) (.region [.o 27 (.f 2 6), .o 28 (.l 27), .m 29 0, .m 30 1, .m 31 8,⟨(some 32),(.call 13 [(.tmp 29),(.tmp 30),(.tmp 31)]),none,true⟩, .o 33 (.mkSl 22 1 1 [(.tmp 32)]), .o 34 (.app 22 1 24 (.tmp 28) (.tmp 33)), .o 35 (.f 2 6), .n (.st 1 (.tmp 35) (.tmp 34))])))) (.region [.m 19 7, .o 20 (.c .add 19 1), .m 7 20])))
def c71:ACode:=(.seq (.region [.o 4 (.alloc 36 [(.int .i64 0),(.int .i64 0),(.slice none 0 0)])]) (.seq (.region [.m 9 0, .m 10 1, .o 11 (.q 12 [9,10]), .m 5 11]) (.seq (.region [.m 12 1, .o 13 (.bin .shl (.const (.int .i64 1)) (.tmp 12)), .o 14 (.build [(.int .i64 0),(.int .i64 0),(.slice none 0 0)] [(0,1),(1,1),(2,1)] [(0,(.const (.int .i64 2))),(1,(.tmp 13))]), .o 6 (.alloc 36 [(.int .i64 0),(.int .i64 0),(.slice none 0 0)]), .n (.st 3 (.tmp 6) (.tmp 14))]) (.seq (.seq (.region [.k 7 0]) (.block 0 [4,6] (.loop [0,1,4,5,6,7] c71L0))) (.seq (.region [.o 36 (.ld true 3 (.tmp 6)), .o 37 (.q 21 [36]), .n (.st 3 (.tmp 4) (.tmp 37))]) .ret)))))
def F71:AFun:=⟨c71,2,38,[(.cell 4 true 3)]⟩
def K71:Nat→List Nat×List Nat
 |0=>([0,1,4,5,6,7],[4,6])
 |1=>([],[0,1,4,5,6,7])
 |_=>([],[])
theorem F71_ok:kj8 Tryz.prog K71 Tryz.f71=some F71:=by kernel_rfl
/- 72: syndrome/muller.Code -/
def c72L0:ACode:=(.seq (.region [.o 25 (.b .lss 24 23)]) (.seq (.cond (.tmp 25) .skip (.exit 0)) (.seq (.block 1 [1,4,7,22,23,24] (.seq (.region [.o 26 (.i 1 22 24), .o 27 (.l 26), .m 9 27]) (.region [.o 28 (.f 2 7), .o 29 (.l 28), .m 30 9, .m 31 1,⟨(some 32),(.call 69 [(.tmp 30),(.tmp 31)]),none,true⟩, .o 33 (.mkSl 22 1 1 [(.tmp 32)]), .o 34 (.app 22 1 24 (.tmp 29) (.tmp 33)), .o 35 (.f 2 7), .n (.st 1 (.tmp 35) (.tmp 34))]))) (.region [.o 36 (.c .add 24 1), .m 24 36]))))
def c72:ACode:=(.seq (.region [.o 4 (.alloc 36 [(.int .i64 0),(.int .i64 0),(.slice none 0 0)]), .k 5 0]) (.seq (.seq (.region [.m 10 0, .m 11 1, .o 12 (.q 60 [10,11]), .m 6 12]) (.seq (.region [.m 13 6, .o 14 (.c .neq 13 0)]) (.cond (.tmp 14) (.seq (.region [.o 15 (.build [(.int .i64 0),(.int .i64 0),(.slice none 0 0)] [(0,1),(1,1),(2,1)] []), .m 16 6, .n (.st 3 (.tmp 4) (.tmp 15)), .m 5 16]) .ret) .skip))) (.seq (.region [.m 17 1, .o 18 (.bin .shl (.const (.int .i64 1)) (.tmp 17)), .o 19 (.build [(.int .i64 0),(.int .i64 0),(.slice none 0 0)] [(0,1),(1,1),(2,1)] [(0,(.const (.int .i64 2))),(1,(.tmp 18))]), .o 7 (.alloc 36 [(.int .i64 0),(.int .i64 0),(.slice none 0 0)]), .n (.st 3 (.tmp 7) (.tmp 19))]) (.seq (.seq (.region [.m 20 0, .m 21 1, .o 22 (.q 64 [20,21]), .o 23 (.n 22), .k 24 0]) (.block 0 [4,7] (.loop [1,4,7,22,23,24] c72L0))) (.seq (.region [.o 37 (.ld true 3 (.tmp 7)), .o 38 (.q 23 [37]), .o 39 (.e 0 38), .o 40 (.e 1 38), .n (.st 3 (.tmp 4) (.tmp 39)), .m 5 40]) .ret)))))
def F72:AFun:=⟨c72,2,41,[(.cell 4 true 3),(.tmp 5)]⟩
def K72:Nat→List Nat×List Nat
 |0=>([1,4,7,22,23,24],[4,7])
 |1=>([],[1,4,7,22,23,24])
 |_=>([],[])
theorem F72_ok:kj8 Tryz.prog K72 Tryz.f72=some F72:=by kernel_rfl
/- 73: syndrome/syndromeref.Bits -/
def c73L0:ACode:=(.seq (.seq (.region [.m 6 5, .m 7 0, .o 8 (.n 7), .o 9 (.b .lss 6 8)]) (.cond (.tmp 9) .skip (.exit 0))) (.seq (.block 1 [0,1,5] (.seq (.region [.m 12 0, .m 13 5, .o 14 (.i 1 12 13), .o 15 (.l 14), .o 16 (.c .gtr 15 1), .m 17 16, .g 18 (.m 0) 17 false, .g 19 (.m 5) 17 false, .g 20 (.i 1 18 19) 17 false, .g 21 (.l 20) 17 false, .g 22 (.c .lss 21 (-1)) 17 false, .o 23 (.pick (.tmp 17) (.const (.bool true)) (.tmp 22)), .m 24 23, .g 25 (.m 0) 24 false, .g 26 (.m 5) 24 false, .g 27 (.i 1 25 26) 24 false, .g 28 (.l 27) 24 false, .g 29 (.c .eql 28 (-1)) 24 false, .g 30 (.m 29) 24 false, .g 31 (.m 1) 30 true, .g 32 (.un .not (.tmp 31)) 30 true, .g 33 (.pick (.tmp 30) (.tmp 32) (.const (.bool false))) 24 false, .o 34 (.pick (.tmp 24) (.const (.bool true)) (.tmp 33))]) (.cond (.tmp 34) (.seq (.region [.o 4 (.mv (.const (.bool false)))]) .ret) .skip))) (.region [.m 10 5, .o 11 (.c .add 10 1), .m 5 11])))
def c73:ACode:=(.seq (.region [.o 4 (.mv (.const (.bool false)))]) (.seq (.seq (.region [.k 5 0]) (.block 0 [] (.loop [0,1,5] c73L0))) (.seq (.region [.o 4 (.mv (.const (.bool true)))]) .ret)))
def F73:AFun:=⟨c73,2,35,[(.tmp 4)]⟩
def K73:Nat→List Nat×List Nat
 |0=>([0,1,5],[])
 |1=>([],[0,1,5])
 |_=>([],[])
theorem F73_ok:kj8 Tryz.prog K73 Tryz.f73=some F73:=by kernel_rfl
/- 74: syndrome/muller.Encode -/
def c74L0:ACode:=(.seq (.region [.o 35 (.b .lss 34 33)]) (.seq (.cond (.tmp 35) .skip (.exit 0)) (.seq (.block 1 [1,2,10,32,33,34] (.seq (.region [.m 36 34, .o 37 (.i 1 32 34), .o 38 (.l 37), .m 11 36, .m 12 38]) (.seq (.region [.m 39 2, .m 40 11, .o 41 (.i 1 39 40), .o 42 (.l 41), .o 43 (.c .eql 42 1)]) (.cond (.tmp 43) (.region [.m 44 10, .m 45 12, .m 46 1, .o 47 (.q 69 [45,46]), .o 48 (.q 68 [44,47])]) .skip)))) (.region [.o 49 (.c .add 34 1), .m 34 49]))))
def c74:ACode:=(.seq (.region [.o 6 (.mv (.const (.slice none 0 0))), .k 7 0]) (.seq (.seq (.region [.m 13 0, .m 14 1, .o 15 (.q 60 [13,14]), .m 8 15]) (.seq (.region [.m 16 8, .o 17 (.c .neq 16 0)]) (.cond (.tmp 17) (.seq (.region [.m 18 8, .o 6 (.mv (.const (.slice none 0 0))), .m 7 18]) .ret) .skip))) (.seq (.region [.m 19 0, .m 20 1, .o 21 (.q 64 [19,20]), .m 9 21]) (.seq (.seq (.region [.m 22 2, .o 23 (.n 22), .m 24 9, .o 25 (.n 24), .o 26 (.b .neq 23 25)]) (.cond (.tmp 26) (.seq (.region [.o 6 (.mv (.const (.slice none 0 0))), .k 7 6]) .ret) .skip)) (.seq (.seq (.region [.m 27 2, .o 28 (.call 61 [(.tmp 27),(.func 136)])]) (.cond (.tmp 28) (.seq (.region [.o 6 (.mv (.const (.slice none 0 0))), .k 7 2]) .ret) .skip)) (.seq (.region [.m 29 1, .o 30 (.bin .shl (.const (.int .i64 1)) (.tmp 29)), .o 31 (.mks 3 1 8 [(.int .i64 0)] (.tmp 30) (.tmp 30)), .m 10 31]) (.seq (.seq (.region [.m 32 9, .o 33 (.n 32), .k 34 0]) (.block 0 [10] (.loop [1,2,10,32,33,34] c74L0))) (.seq (.region [.m 50 10, .m 6 50, .k 7 0]) .ret))))))))
def F74:AFun:=⟨c74,3,51,[(.tmp 6),(.tmp 7)]⟩
def K74:Nat→List Nat×List Nat
 |0=>([1,2,10,32,33,34],[10])
 |1=>([],[1,2,10,32,33,34])
 |_=>([],[])
theorem F74_ok:kj8 Tryz.prog K74 Tryz.f74=some F74:=by kernel_rfl
/- 77: (syndrome/syndromeref.F).Reduce -/
def c77L0:ACode:=(.seq (.seq (.region [.m 27 10, .m 28 6, .o 29 (.n 28), .o 30 (.b .lss 27 29)]) (.cond (.tmp 30) .skip (.exit 2))) (.seq (.block 3 [1,2,6,7,8,9,10] (.region [.o 33 (.ld true 5 (.tmp 2)), .m 34 9, .m 35 6, .m 36 10, .o 37 (.i 1 35 36), .o 38 (.l 37), .m 39 9, .m 40 7, .m 41 10, .o 42 (.i 1 40 41), .o 43 (.l 42), .o 44 (.i 1 39 43), .o 45 (.l 44), .o 46 (.q 139 [33,34,38,45]), .m 9 46])) (.region [.m 31 10, .o 32 (.c .add 31 1), .m 10 32])))
def c77L1:ACode:=(.seq (.seq (.region [.m 47 11, .m 48 9, .o 49 (.n 48), .o 50 (.b .lss 47 49), .m 51 50, .g 52 (.m 9) 51 true, .g 53 (.m 11) 51 true, .g 54 (.i 1 52 53) 51 true, .g 55 (.l 54) 51 true, .g 56 (.c .eql 55 0) 51 true, .o 57 (.pick (.tmp 51) (.tmp 56) (.const (.bool false)))]) (.cond (.tmp 57) .skip (.exit 4))) (.block 5 [1,2,6,7,8,9,11] (.region [.m 58 11, .o 59 (.c .add 58 1), .m 11 59])))
def c77L2:ACode:=(.seq (.seq (.region [.m 70 13, .m 71 9, .o 72 (.n 71), .o 73 (.b .lss 70 72)]) (.cond (.tmp 73) .skip (.exit 6))) (.seq (.block 7 [1,2,6,7,8,9,11,12,13] (.region [.m 76 9, .m 77 13, .o 78 (.ld true 5 (.tmp 2)), .m 79 9, .m 80 13, .o 81 (.i 1 79 80), .o 82 (.l 81), .m 83 12, .o 84 (.q 126 [78,82,83]), .o 85 (.i 1 76 77), .n (.st 1 (.tmp 85) (.tmp 84))])) (.region [.m 74 13, .o 75 (.c .add 74 1), .m 13 75])))
def c77L3:ACode:=(.seq (.seq (.region [.m 86 14, .m 87 6, .o 88 (.n 87), .o 89 (.b .lss 86 88)]) (.cond (.tmp 89) .skip (.exit 8))) (.seq (.block 9 [1,2,6,7,8,9,11,14] (.region [.m 92 6, .m 93 14, .o 94 (.ld true 5 (.tmp 2)), .m 95 6, .m 96 14, .o 97 (.i 1 95 96), .o 98 (.l 97), .m 99 9, .m 100 6, .m 101 14, .o 102 (.i 1 100 101), .o 103 (.l 102), .m 104 11, .o 105 (.i 1 103 104), .o 106 (.l 105), .o 107 (.q 139 [94,98,99,106]), .o 108 (.i 1 92 93), .n (.st 1 (.tmp 108) (.tmp 107))])) (.region [.m 90 14, .o 91 (.c .add 90 1), .m 14 91])))
def c77L4:ACode:=(.seq (.seq (.region [.m 109 15, .m 110 6, .o 111 (.n 110), .o 112 (.b .lss 109 111), .m 113 112, .g 114 (.m 7) 113 true, .g 115 (.m 15) 113 true, .g 116 (.i 1 114 115) 113 true, .g 117 (.l 116) 113 true, .g 118 (.m 11) 113 true, .g 119 (.b .lss 117 118) 113 true, .o 120 (.pick (.tmp 113) (.tmp 119) (.const (.bool false)))]) (.cond (.tmp 120) .skip (.exit 10))) (.block 11 [1,2,6,7,8,9,11,15] (.region [.m 121 15, .o 122 (.c .add 121 1), .m 15 122])))
def c77L5:ACode:=(.seq (.seq (.region [.m 16 8, .m 17 1, .o 18 (.n 17), .o 19 (.b .lss 16 18)]) (.cond (.tmp 19) .skip (.exit 0))) (.seq (.block 1 [1,2,6,7,8] (.seq (.region [.m 22 1, .m 23 8, .o 24 (.i 1 22 23), .o 25 (.l 24), .o 26 (.q 138 [25]), .m 9 26]) (.seq (.seq (.region [.k 10 0]) (.block 2 [1,2,6,7,8,9] (.loop [1,2,6,7,8,9,10] c77L0))) (.seq (.region [.k 11 0]) (.seq (.block 4 [1,2,6,7,8,9,11] (.loop [1,2,6,7,8,9,11] c77L1)) (.seq (.seq (.region [.m 60 11, .m 61 9, .o 62 (.n 61), .o 63 (.b .eql 60 62)]) (.cond (.tmp 63) (.exit 1) .skip)) (.seq (.region [.o 64 (.ld true 5 (.tmp 2)), .m 65 9, .m 66 11, .o 67 (.i 1 65 66), .o 68 (.l 67), .o 69 (.q 140 [64,68]), .m 12 69]) (.seq (.seq (.region [.k 13 0]) (.block 6 [1,2,6,7,8,9,11] (.loop [1,2,6,7,8,9,11,12,13] c77L2))) (.seq (.seq (.region [.k 14 0]) (.block 8 [1,2,6,7,8,9,11] (.loop [1,2,6,7,8,9,11,14] c77L3))) (.seq (.region [.k 15 0]) (.seq (.block 10 [1,2,6,7,8,9,11,15] (.loop [1,2,6,7,8,9,11,15] c77L4)) (.seq (.region [.o 123 (.mkSl 22 1 0 []), .m 124 6, .m 125 15, .o 126 (.sl 1 (.tmp 124) none (some (.tmp 125))), .o 127 (.app 22 1 24 (.tmp 123) (.tmp 126)), .m 128 9, .o 129 (.mkSl 22 1 1 [(.tmp 128)]), .o 130 (.app 22 1 24 (.tmp 127) (.tmp 129)), .m 131 6, .m 132 15, .o 133 (.sl 1 (.tmp 131) (some (.tmp 132)) none), .o 134 (.app 22 1 24 (.tmp 130) (.tmp 133)), .m 6 134]) (.region [.o 135 (.mkSl 3 1 0 []), .m 136 7, .m 137 15, .o 138 (.sl 1 (.tmp 136) none (some (.tmp 137))), .o 139 (.app 3 1 8 (.tmp 135) (.tmp 138)), .m 140 11, .o 141 (.mkSl 3 1 1 [(.tmp 140)]), .o 142 (.app 3 1 8 (.tmp 139) (.tmp 141)), .m 143 7, .m 144 15, .o 145 (.sl 1 (.tmp 143) (some (.tmp 144)) none), .o 146 (.app 3 1 8 (.tmp 142) (.tmp 145)), .m 7 146]))))))))))))) (.region [.m 20 8, .o 21 (.c .add 20 1), .m 8 21])))
def c77:ACode:=(.seq (.region [.o 2 (.box 52 5 (.tmp 0)), .o 4 (.mv (.const (.slice none 0 0))), .o 5 (.mv (.const (.slice none 0 0)))]) (.seq (.region [.o 6 (.mv (.const (.slice none 0 0)))]) (.seq (.region [.o 7 (.mv (.const (.slice none 0 0)))]) (.seq (.seq (.region [.k 8 0]) (.block 0 [6,7] (.loop [1,2,6,7,8] c77L5))) (.seq (.region [.m 147 6, .m 148 7, .m 4 147, .m 5 148]) .ret)))))
def F77:AFun:=⟨c77,2,149,[(.tmp 4),(.tmp 5)]⟩
def K77:Nat→List Nat×List Nat
 |0=>([1,2,6,7,8],[6,7])
 |1=>([],[1,2,6,7,8])
 |2=>([1,2,6,7,8,9,10],[1,2,6,7,8,9])
 |3=>([],[1,2,6,7,8,9,10])
 |4=>([1,2,6,7,8,9,11],[1,2,6,7,8,9,11])
 |5=>([],[1,2,6,7,8,9,11])
 |6=>([1,2,6,7,8,9,11,12,13],[1,2,6,7,8,9,11])
 |7=>([],[1,2,6,7,8,9,11,12,13])
 |8=>([1,2,6,7,8,9,11,14],[1,2,6,7,8,9,11])
 |9=>([],[1,2,6,7,8,9,11,14])
 |10=>([1,2,6,7,8,9,11,15],[1,2,6,7,8,9,11,15])
 |11=>([],[1,2,6,7,8,9,11,15])
 |_=>([],[])
theorem F77_ok:kj8 Tryz.prog K77 Tryz.f77=some F77:=by kernel_rfl
/- 79: syndrome/matrix.Reduce -/
def c79L0:ACode:=(.seq (.region [.o 92 (.b .lss 91 90)]) (.seq (.cond (.tmp 92) .skip (.exit 2)) (.seq (.block 3 [1,5,8,10,11,90,91] (.seq (.region [.m 93 91, .m 13 93]) (.seq (.region [.m 94 13, .m 95 11, .o 96 (.b .neq 94 95), .m 97 96, .g 98 (.m 1) 97 true, .g 99 (.m 13) 97 true, .g 100 (.i 1 98 99) 97 true, .g 101 (.l 100) 97 true, .g 102 (.l 10) 97 true, .g 103 (.i 1 101 102) 97 true, .g 104 (.l 103) 97 true, .g 105 (.c .neq 104 0) 97 true, .o 106 (.pick (.tmp 97) (.tmp 105) (.const (.bool false)))]) (.cond (.tmp 106) (.region [.m 107 8, .m 108 1, .m 109 13, .o 110 (.i 1 108 109), .o 111 (.l 110), .m 112 1, .m 113 11, .o 114 (.i 1 112 113), .o 115 (.l 114), .m 116 1, .m 117 13, .o 118 (.i 1 116 117), .o 119 (.l 118), .o 120 (.l 10), .o 121 (.i 1 119 120), .o 122 (.l 121), .o 123 (.q 147 [107,111,115,122])]) .skip)))) (.region [.o 124 (.c .add 91 1), .m 91 124]))))
def c79L1:ACode:=(.seq (.seq (.region [.o 32 (.l 10), .m 33 1, .o 34 (.iaddr 1 (.tmp 33) (.const (.int .i64 0))), .o 35 (.l 34), .o 36 (.n 35), .o 37 (.b .lss 32 36), .m 38 37, .g 39 (.m 5) 38 true, .g 40 (.n 39) 38 true, .g 41 (.m 1) 38 true, .g 42 (.n 41) 38 true, .g 43 (.b .lss 40 42) 38 true, .o 44 (.pick (.tmp 38) (.tmp 43) (.const (.bool false)))]) (.cond (.tmp 44) .skip (.exit 0))) (.seq (.block 1 [1,5,8,10] (.seq (.region [.m 47 5, .o 48 (.n 47), .m 11 48]) (.seq (.region [.m 49 1, .m 50 11, .o 51 (.sl 1 (.tmp 49) (some (.tmp 50)) none), .o 52 (.mkf 144 [(.tmp 10)]), .o 53 (.q 143 [51,52]), .m 12 53]) (.seq (.seq (.region [.m 54 12, .o 55 (.c .lss 54 0)]) (.cond (.tmp 55) (.exit 1) .skip)) (.seq (.region [.m 56 1, .m 57 11, .m 58 1, .m 59 11, .m 60 12, .o 61 (.b .add 59 60), .m 62 1, .m 63 11, .m 64 12, .o 65 (.b .add 63 64), .o 66 (.i 1 62 65), .o 67 (.l 66), .m 68 1, .m 69 11, .o 70 (.i 1 68 69), .o 71 (.l 70), .o 72 (.i 1 56 57), .n (.st 1 (.tmp 72) (.tmp 67)), .o 73 (.i 1 58 61), .n (.st 1 (.tmp 73) (.tmp 71))]) (.seq (.region [.m 74 8, .m 75 1, .m 76 11, .o 77 (.i 1 75 76), .o 78 (.l 77), .m 79 8, .m 80 1, .m 81 11, .o 82 (.i 1 80 81), .o 83 (.l 82), .o 84 (.l 10), .o 85 (.i 1 83 84), .o 86 (.l 85),⟨(some 87),(.call 146 [(.tmp 79),(.tmp 86)]),none,true⟩, .o 88 (.q 145 [74,78,87])]) (.seq (.seq (.region [.m 89 1, .o 90 (.n 89), .k 91 0]) (.block 2 [1,5,8,10] (.loop [1,5,8,10,11,90,91] c79L0))) (.region [.m 125 5, .o 126 (.l 10), .o 127 (.mkSl 3 1 1 [(.tmp 126)]), .o 128 (.app 3 1 8 (.tmp 125) (.tmp 127)), .m 5 128])))))))) (.seq (.seq (.region [.o 129 (.l 10)]) (.region [.o 10 (.alloc 3 [(.int .i64 0)]), .n (.st 1 (.tmp 10) (.tmp 129))])) (.region [.o 45 (.l 10), .o 46 (.c .add 45 1), .n (.st 1 (.tmp 10) (.tmp 46))]))))
def c79:ACode:=(.seq (.region [.o 4 (.mv (.const (.slice none 0 0))), .o 5 (.mv (.const (.slice none 0 0))), .k 6 0]) (.seq (.seq (.region [.m 14 0, .m 15 1, .o 16 (.q 82 [14,15]), .m 7 16]) (.seq (.region [.m 17 7, .o 18 (.c .neq 17 0), .m 19 18, .g 20 (.m 1) 19 false, .g 21 (.n 20) 19 false, .g 22 (.c .eql 21 0) 19 false, .o 23 (.pick (.tmp 19) (.const (.bool true)) (.tmp 22))]) (.cond (.tmp 23) (.seq (.region [.m 24 7, .o 4 (.mv (.const (.slice none 0 0))), .o 5 (.mv (.const (.slice none 0 0))), .m 6 24]) .ret) .skip))) (.seq (.region [.m 26 0, .o 27 (.q 81 [26]), .m 25 27, .o 28 (.e 0 25), .o 29 (.e 1 25), .m 8 28, .m 9 29]) (.seq (.region [.m 30 1, .o 31 (.q 142 [30]), .m 1 31]) (.seq (.seq (.region [.o 10 (.alloc 3 [(.int .i64 0)]), .n (.st 1 (.tmp 10) (.const (.int .i64 0)))]) (.block 0 [1,5] (.loop [1,5,8,10] c79L1))) (.seq (.region [.m 130 1, .m 131 5, .o 132 (.n 131), .m 133 5, .o 134 (.n 133), .o 135 (.sl3 (.tmp 130) (.tmp 132) (.tmp 134)), .m 136 5, .m 4 135, .m 5 136, .k 6 0]) .ret))))))
def F79:AFun:=⟨c79,2,137,[(.tmp 4),(.tmp 5),(.tmp 6)]⟩
def K79:Nat→List Nat×List Nat
 |0=>([1,5,8,10],[1,5])
 |1=>([],[1,5,8,10])
 |2=>([1,5,8,10,11,90,91],[1,5,8,10])
 |3=>([],[1,5,8,10,11,90,91])
 |_=>([],[])
theorem F79_ok:kj8 Tryz.prog K79 Tryz.f79=some F79:=by kernel_rfl
/- 81: syndrome/field.New -/
def zz9:List Value:=[(.int .u32 0),(.int .i32 0),(.int .u32 0),(.int .u32 0),(.int .i32 0),(.int .u32 0),(.int .u32 0),(.int .i32 0),(.int .u32 0),(.int .u32 0),(.int .i32 0),(.int .u32 0),(.int .u32 0),(.int .i32 0),(.int .u32 0),(.int .u32 0),(.int .i32 0),(.int .u32 0),(.int .u32 0),(.int .i32 0),(.int .u32 0),(.int .u32 0),(.int .i32 0),(.int .u32 0),(.int .u32 0),(.int .i32 0),(.int .u32 0),(.int .u32 0),(.int .i32 0),(.int .u32 0),(.int .u32 0),(.int .i32 0),(.int .u32 0),(.int .u32 0),(.int .i32 0),(.int .u32 0),(.int .u32 0),(.int .i32 0),(.int .u32 0),(.int .u32 0),(.int .i32 0),(.int .u32 0),(.int .u32 0),(.int .i32 0),(.int .u32 0),(.int .u32 0),(.int .i32 0),(.int .u32 0),(.int .u32 0),(.int .i32 0),(.int .u32 0),(.int .u32 0),(.int .i32 0),(.int .u32 0),(.int .u32 0),(.int .i32 0),(.int .u32 0),(.int .u32 0),(.int .i32 0),(.int .u32 0),(.int .u32 0),(.int .i32 0),(.int .u32 0),(.int .u32 0),(.int .i32 0),(.int .u32 0),(.int .u32 0),(.int .i32 0),(.int .u32 0),(.int .u32 0),(.int .i32 0),(.int .u32 0),(.int .u32 0),(.int .i32 0),(.int .u32 0),(.int .u32 0),(.int .i32 0),(.int .u32 0),(.int .u32 0),(.int .i32 0),(.int .u32 0),(.int .u32 0),(.int .i32 0),(.int .u32 0),(.int .u32 0),(.int .i32 0),(.int .u32 0),(.int .u32 0),(.int .i32 0),(.int .u32 0),(.int .u32 0),(.int .i32 0),(.int .u32 0),(.int .u32 0),(.int .i32 0),(.int .u32 0),(.int .u32 0),(.int .i32 0),(.int .u32 0),(.int .u32 0),(.int .i32 0),(.int .u32 0),(.int .u32 0),(.int .i32 0),(.int .u32 0),(.int .u32 0),(.int .i32 0),(.int .u32 0),(.int .u32 0),(.int .i32 0),(.int .u32 0),(.int .u32 0),(.int .i32 0),(.int .u32 0),(.int .u32 0),(.int .i32 0),(.int .u32 0),(.int .u32 0),(.int .i32 0),(.int .u32 0),(.int .u32 0),(.int .i32 0),(.int .u32 0),(.int .u32 0),(.int .i32 0),(.int .u32 0),(.int .u32 0),(.int .i32 0),(.int .u32 0),(.int .u32 0),(.int .i32 0),(.int .u32 0),(.int .u32 0),(.int .i32 0),(.int .u32 0),(.int .u32 0),(.int .i32 0),(.int .u32 0),(.int .u32 0),(.int .i32 0),(.int .u32 0),(.int .u32 0),(.int .i32 0),(.int .u32 0),(.int .u32 0),(.int .i32 0),(.int .u32 0),(.int .u32 0),(.int .i32 0),(.int .u32 0),(.int .u32 0),(.int .i32 0),(.int .u32 0),(.int .u32 0),(.int .i32 0),(.int .u32 0),(.int .u32 0),(.int .i32 0),(.int .u32 0),(.int .u32 0),(.int .i32 0),(.int .u32 0),(.int .u32 0),(.int .i32 0),(.int .u32 0),(.int .u32 0),(.int .i32 0),(.int .u32 0),(.int .u32 0),(.int .i32 0),(.int .u32 0),(.int .u32 0),(.int .i32 0),(.int .u32 0),(.int .u32 0),(.int .i32 0),(.int .u32 0),(.int .u32 0),(.int .i32 0),(.int .u32 0),(.int .u32 0),(.int .i32 0),(.int .u32 0),(.int .u32 0),(.int .i32 0),(.int .u32 0),(.int .u32 0),(.int .i32 0),(.int .u32 0),(.int .u32 0),(.int .i32 0),(.int .u32 0),(.int .u32 0),(.int .i32 0),(.int .u32 0),(.pointer none),(.pointer none),(.pointer none),(.pointer none),(.pointer none),(.pointer none),(.pointer none),(.pointer none),(.pointer none),(.pointer none),(.pointer none),(.pointer none),(.pointer none),(.pointer none),(.pointer none),(.pointer none),(.pointer none),(.pointer none),(.pointer none),(.pointer none),(.pointer none),(.pointer none),(.pointer none),(.pointer none),(.pointer none),(.pointer none),(.pointer none),(.pointer none),(.pointer none),(.pointer none),(.pointer none),(.pointer none),(.pointer none),(.pointer none),(.pointer none),(.pointer none),(.pointer none),(.pointer none),(.pointer none),(.pointer none),(.pointer none),(.pointer none),(.pointer none),(.pointer none),(.pointer none),(.pointer none),(.pointer none),(.pointer none),(.pointer none),(.pointer none),(.pointer none),(.pointer none),(.pointer none),(.pointer none),(.pointer none),(.pointer none),(.pointer none),(.pointer none),(.pointer none),(.pointer none),(.pointer none),(.pointer none),(.pointer none),(.pointer none),(.pointer none)]
def c81:ACode:=(.seq (.region [.o 1 (.box 3 1 (.tmp 0)), .o 2 (.mv (.const (.pointer none))), .k 3 0]) (.seq (.seq (.region [.o 5 (.l 1), .o 6 (.c .lss 5 2), .m 7 6, .g 8 (.l 1) 7 false, .g 9 (.c .gtr 8 64) 7 false, .o 10 (.pick (.tmp 7) (.const (.bool true)) (.tmp 9))]) (.cond (.tmp 10) (.seq (.region [.o 2 (.mv (.const (.pointer none))), .k 3 1]) .ret) .skip)) (.seq (.region [.o 4 (.alloc 168 zz9)]) (.seq (.region [.o 11 (.l 1), .o 12 (.f 0 4), .o 13 (.iaddrA 65 3 (.tmp 12) (.tmp 11)), .o 14 (.mkf 150 [(.tmp 1),(.tmp 4)]), .o 15 (.q 149 [13,14])]) (.seq (.seq (.region [.o 16 (.l 1), .o 17 (.f 195 4), .o 18 (.iaddrA 65 1 (.tmp 17) (.tmp 16)), .o 19 (.l 18), .o 20 (.eqn false 1 (.tmp 19))]) (.cond (.tmp 20) (.seq (.region [.o 2 (.mv (.const (.pointer none))), .k 3 1]) .ret) .skip)) (.seq (.region [.o 21 (.l 1), .o 22 (.f 195 4), .o 23 (.iaddrA 65 1 (.tmp 22) (.tmp 21)), .o 24 (.l 23), .m 2 24, .k 3 0]) .ret))))))
def F81:AFun:=⟨c81,1,25,[(.tmp 2),(.tmp 3)]⟩
def K81:Nat→List Nat×List Nat
 |_=>([],[])
theorem F81_ok:kj8 Tryz.prog K81 Tryz.f81=some F81:=by kernel_rfl
/- 82: syndrome/matrix.Check -/
def c82L0:ACode:=(.seq (.region [.o 23 (.b .lss 22 21)]) (.seq (.cond (.tmp 23) .skip (.exit 0)) (.seq (.block 1 [1,5,20,21,22] (.seq (.region [.o 24 (.i 1 20 22), .o 25 (.l 24), .m 8 25]) (.seq (.seq (.region [.m 26 8, .o 27 (.n 26), .m 28 1, .o 29 (.iaddr 1 (.tmp 28) (.const (.int .i64 0))), .o 30 (.l 29), .o 31 (.n 30), .o 32 (.b .neq 27 31), .m 33 32, .g 34 (.m 8) 33 false, .g 35 (.n 34) 33 false, .g 36 (.c .eql 35 0) 33 false, .o 37 (.pick (.tmp 33) (.const (.bool true)) (.tmp 36))]) (.cond (.tmp 37) (.seq (.region [.k 4 3]) .ret) .skip)) (.seq (.seq (.region [.m 38 8, .o 39 (.n 38), .o 40 (.c .gtr 39 64)]) (.cond (.tmp 40) (.seq (.region [.k 4 4]) .ret) .skip)) (.seq (.region [.m 41 8, .o 42 (.mkf 152 [(.tmp 5)]), .o 43 (.q 61 [41,42])]) (.cond (.tmp 43) (.seq (.region [.k 4 2]) .ret) .skip)))))) (.region [.o 44 (.c .add 22 1), .m 22 44]))))
def c82:ACode:=(.seq (.region [.k 4 0]) (.seq (.region [.m 10 0, .o 11 (.q 81 [10]), .m 9 11, .o 12 (.e 0 9), .o 13 (.e 1 9), .o 5 (.alloc 101 [(.pointer none)]), .n (.st 1 (.tmp 5) (.tmp 12)), .m 6 13]) (.seq (.seq (.region [.m 14 6, .o 15 (.c .neq 14 0)]) (.cond (.tmp 15) (.seq (.region [.m 16 6, .m 4 16]) .ret) .skip)) (.seq (.seq (.region [.m 17 1, .o 18 (.n 17), .o 19 (.c .gtr 18 64)]) (.cond (.tmp 19) (.seq (.region [.k 4 4]) .ret) .skip)) (.seq (.seq (.region [.m 20 1, .o 21 (.n 20), .k 22 0]) (.block 0 [] (.loop [1,5,20,21,22] c82L0))) (.seq (.region [.k 4 0]) .ret))))))
def F82:AFun:=⟨c82,2,45,[(.tmp 4)]⟩
def K82:Nat→List Nat×List Nat
 |0=>([1,5,20,21,22],[])
 |1=>([],[1,5,20,21,22])
 |_=>([],[])
theorem F82_ok:kj8 Tryz.prog K82 Tryz.f82=some F82:=by kernel_rfl
/- 83: syndrome/syndromeref.SameCode -/
def c83:ACode:=(.seq (.region [.o 2 (.box 36 3 (.tmp 0)), .o 3 (.box 36 3 (.tmp 1)), .o 4 (.mv (.const (.bool false)))]) (.seq (.region [.o 5 (.f 0 2), .o 6 (.l 5), .o 7 (.f 0 3), .o 8 (.l 7), .o 9 (.b .eql 6 8), .m 10 9, .g 11 (.f 1 2) 10 true, .g 12 (.l 11) 10 true, .g 13 (.f 1 3) 10 true, .g 14 (.l 13) 10 true, .g 15 (.b .eql 12 14) 10 true, .o 16 (.pick (.tmp 10) (.tmp 15) (.const (.bool false))), .m 17 16, .g 18 (.f 2 2) 17 true, .g 19 (.l 18) 17 true, .g 20 (.f 2 3) 17 true, .g 21 (.l 20) 17 true, .g 22 (.q 116 [19,21]) 17 true, .o 23 (.pick (.tmp 17) (.tmp 22) (.const (.bool false))), .m 4 23]) .ret))
def F83:AFun:=⟨c83,2,24,[(.tmp 4)]⟩
def K83:Nat→List Nat×List Nat
 |_=>([],[])
theorem F83_ok:kj8 Tryz.prog K83 Tryz.f83=some F83:=by kernel_rfl
/- 95: (*syndrome/field.Field).Has -/
def c95:ACode:=(.seq (.region [.o 4 (.mv (.const (.bool false)))]) (.seq (.region [.m 5 1, .o 6 (.c .geq 5 0), .m 7 6, .g 8 (.m 1) 7 true, .g 9 (.m 0) 7 true, .g 10 (.nilck (.tmp 9)) 7 true, .g 11 (.f 0 10) 7 true, .g 12 (.l 11) 7 true, .g 13 (.b .lss 8 12) 7 true, .o 14 (.pick (.tmp 7) (.tmp 13) (.const (.bool false))), .m 4 14]) .ret))
def F95:AFun:=⟨c95,2,15,[(.tmp 4)]⟩
def K95:Nat→List Nat×List Nat
 |_=>([],[])
theorem F95_ok:kj8 Tryz.prog K95 Tryz.f95=some F95:=by kernel_rfl
/- 97: (syndrome/syndromeref.F).Has -/
def c97:ACode:=(.seq (.region [.o 2 (.box 52 5 (.tmp 0)), .o 4 (.mv (.const (.bool false)))]) (.seq (.region [.m 5 1, .o 6 (.c .geq 5 0), .m 7 6, .g 8 (.m 1) 7 true, .g 9 (.f 0 2) 7 true, .g 10 (.l 9) 7 true, .g 11 (.b .lss 8 10) 7 true, .o 12 (.pick (.tmp 7) (.tmp 11) (.const (.bool false))), .m 4 12]) .ret))
def F97:AFun:=⟨c97,2,13,[(.tmp 4)]⟩
def K97:Nat→List Nat×List Nat
 |_=>([],[])
theorem F97_ok:kj8 Tryz.prog K97 Tryz.f97=some F97:=by kernel_rfl
/- 100: syndrome/syndromeref.Prime -/
def c100L0:ACode:=(.seq (.seq (.region [.m 15 0, .m 16 4, .o 17 (.b .rem 15 16), .o 18 (.c .eql 17 0)]) (.cond (.tmp 18) .skip (.exit 2))) (.block 3 [0,4,5] (.seq (.region [.m 19 0, .m 20 4, .o 21 (.b .quo 19 20), .m 0 21]) (.region [.m 22 5, .o 23 (.c .add 22 1), .m 5 23]))))
def c100L1:ACode:=(.seq (.seq (.region [.m 6 4, .m 7 0, .o 8 (.b .leq 6 7)]) (.cond (.tmp 8) .skip (.exit 0))) (.seq (.block 1 [0,4] (.seq (.seq (.region [.m 11 0, .m 12 4, .o 13 (.b .rem 11 12), .o 14 (.c .neq 13 0)]) (.cond (.tmp 14) (.exit 1) .skip)) (.seq (.region [.k 5 0]) (.seq (.block 2 [0,4,5] (.loop [0,4,5] c100L0)) (.seq (.seq (.region [.m 24 0, .o 25 (.c .eql 24 1)]) (.cond (.tmp 25) (.seq (.region [.m 26 4, .m 27 5, .m 2 26, .m 3 27]) .ret) .skip)) (.seq (.region [.k 2 0, .k 3 0]) .ret)))))) (.region [.m 9 4, .o 10 (.c .add 9 1), .m 4 10])))
def c100:ACode:=(.seq (.region [.k 2 0, .k 3 0]) (.seq (.seq (.region [.k 4 2]) (.block 0 [] (.loop [0,4] c100L1))) (.seq (.region [.k 2 0, .k 3 0]) .ret)))
def F100:AFun:=⟨c100,1,28,[(.tmp 2),(.tmp 3)]⟩
def K100:Nat→List Nat×List Nat
 |0=>([0,4],[])
 |1=>([],[0,4])
 |2=>([0,4,5],[0,4,5])
 |3=>([],[0,4,5])
 |_=>([],[])
theorem F100_ok:kj8 Tryz.prog K100 Tryz.f100=some F100:=by kernel_rfl
end Go.Proofs.YtlhmdmedagjmnaaGreat
