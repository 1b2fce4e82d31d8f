/-
  Functions of this seat as the small machine's code, written by a program of my own (gen.py); each is checked to be what the model's function is turned into. No condition.
-/
import Derived.Test.YtlhmdmedagjmnaaGreatK1
import Derived.Test.YtlhmdmedagjmnaaGreatProg
set_option linter.unusedVariables false
set_option linter.unusedSimpArgs false
set_option linter.unusedSectionVars false
set_option maxRecDepth 100000
namespace Go.Proofs.YtlhmdmedagjmnaaGreat
open Go.Am
/- 5: syndrome/syndromelaw.ReedSays -/
def c5:ACode:=(.seq (.region [.o 10 (.mv (.const (.bool false)))]) (.seq (.seq (.region [.m 17 1, .o 18 (.n 17), .m 19 3, .o 20 (.n 19), .o 21 (.b .add 18 20), .m 22 4, .o 23 (.n 22), .o 24 (.b .add 21 23), .o 25 (.c .gtr 24 300)]) (.cond (.tmp 25) (.seq (.region [.o 10 (.mv (.const (.bool true)))]) .ret) .skip)) (.seq (.seq (.region [.m 26 0, .m 27 1, .m 28 2, .o 29 (.q 33 [26,27,28]), .m 30 0, .m 31 1, .m 32 2, .o 33 (.q 34 [30,31,32]), .o 34 (.b .neq 29 33), .m 35 34, .g 36 (.m 0) 35 false, .g 37 (.m 1) 35 false, .g 38 (.m 2) 35 false, .g 39 (.m 4) 35 false, .g 40 (.q 35 [36,37,38,39]) 35 false, .g 41 (.m 0) 35 false, .g 42 (.m 1) 35 false, .g 43 (.m 2) 35 false, .g 44 (.m 4) 35 false, .g 45 (.q 36 [41,42,43,44]) 35 false, .g 46 (.b .neq 40 45) 35 false, .o 47 (.pick (.tmp 35) (.const (.bool true)) (.tmp 46))]) (.cond (.tmp 47) (.seq (.region [.o 10 (.mv (.const (.bool false)))]) .ret) .skip)) (.seq (.region [.m 48 0, .m 49 1, .m 50 3, .o 51 (.n 50), .o 52 (.q 34 [48,49,51]), .m 11 52]) (.seq (.seq (.region [.m 53 11, .o 54 (.c .eql 53 0)]) (.cond (.tmp 54) (.region [.m 55 0, .m 56 3, .o 57 (.q 37 [55,56]), .m 11 57]) .skip)) (.seq (.region [.m 59 0, .o 60 (.q 38 [59]), .m 58 60, .o 61 (.e 0 58), .o 62 (.e 1 58), .o 12 (.alloc 52 [(.int .i64 0),(.int .i64 0),(.int .i64 0),(.int .i64 0),(.slice none 0 0)]), .n (.st 5 (.tmp 12) (.tmp 61)), .m 13 62]) (.seq (.region [.o 14 (.mv (.const (.slice none 0 0)))]) (.seq (.seq (.region [.m 63 11, .o 64 (.c .eql 63 0)]) (.cond (.tmp 64) (.region [.o 65 (.ld true 5 (.tmp 12)), .m 66 1, .m 67 3, .o 68 (.q 39 [65,66,67]), .m 14 68]) .skip)) (.seq (.region [.m 70 0, .m 71 1, .m 72 3, .o 73 (.q 40 [70,71,72]), .m 69 73, .o 74 (.e 0 69), .o 75 (.e 1 69), .m 15 74, .m 16 75]) (.seq (.region [.m 76 15, .m 77 16, .m 78 14, .m 79 11, .o 80 (.q 41 [76,77,78,79]), .m 81 80, .g 82 (.m 0) 81 true, .g 83 (.m 1) 81 true, .g 84 (.m 2) 81 true, .g 85 (.m 4) 81 true, .g 86 (.q 42 [82,83,84,85]) 81 true, .o 87 (.pick (.tmp 81) (.tmp 86) (.const (.bool false))), .m 10 87]) .ret))))))))))
def F5:AFun:=⟨c5,5,88,[(.tmp 10)]⟩
def K5:Nat→List Nat×List Nat
 |_=>([],[])
theorem F5_ok:kj8 Tryz.prog K5 Tryz.f5=some F5:=by kernel_rfl
/- 16: syndrome/syndromeref.Same -/
def c16L0:ACode:=(.seq (.seq (.region [.m 11 5, .m 12 0, .o 13 (.n 12), .o 14 (.b .lss 11 13)]) (.cond (.tmp 14) .skip (.exit 0))) (.seq (.block 1 [0,1,5] (.seq (.region [.m 17 0, .m 18 5, .o 19 (.i 1 17 18), .o 20 (.l 19), .m 21 1, .m 22 5, .o 23 (.i 1 21 22), .o 24 (.l 23), .o 25 (.b .neq 20 24)]) (.cond (.tmp 25) (.seq (.region [.o 4 (.mv (.const (.bool false)))]) .ret) .skip))) (.region [.m 15 5, .o 16 (.c .add 15 1), .m 5 16])))
def c16:ACode:=(.seq (.region [.o 4 (.mv (.const (.bool false)))]) (.seq (.seq (.region [.m 6 0, .o 7 (.n 6), .m 8 1, .o 9 (.n 8), .o 10 (.b .neq 7 9)]) (.cond (.tmp 10) (.seq (.region [.o 4 (.mv (.const (.bool false)))]) .ret) .skip)) (.seq (.seq (.region [.k 5 0]) (.block 0 [] (.loop [0,1,5] c16L0))) (.seq (.region [.o 4 (.mv (.const (.bool true)))]) .ret))))
def F16:AFun:=⟨c16,2,26,[(.tmp 4)]⟩
def K16:Nat→List Nat×List Nat
 |0=>([0,1,5],[])
 |1=>([],[0,1,5])
 |_=>([],[])
theorem F16_ok:kj8 Tryz.prog K16 Tryz.f16=some F16:=by kernel_rfl
/- 33: syndrome/reed.Check -/
def c33L0:ACode:=(.seq (.region [.o 30 (.b .lss 29 28)]) (.seq (.cond (.tmp 30) .skip (.exit 0)) (.seq (.block 1 [1,2,7,27,28,29] (.seq (.region [.m 31 29, .o 32 (.i 1 27 29), .o 33 (.l 32), .m 9 31, .m 10 33]) (.seq (.seq (.region [.m 34 7, .m 35 10, .o 36 (.q 95 [34,35]), .o 37 (.un .not (.tmp 36))]) (.cond (.tmp 37) (.seq (.region [.k 6 2]) .ret) .skip)) (.seq (.region [.m 38 1, .m 39 9, .o 40 (.sl 1 (.tmp 38) none (some (.tmp 39))), .m 41 10, .o 42 (.q 96 [40,41])]) (.cond (.tmp 42) (.seq (.region [.k 6 7]) .ret) .skip))))) (.region [.o 43 (.c .add 29 1), .m 29 43]))))
def c33:ACode:=(.seq (.region [.k 6 0]) (.seq (.region [.m 12 0, .o 13 (.q 81 [12]), .m 11 13, .o 14 (.e 0 11), .o 15 (.e 1 11), .m 7 14, .m 8 15]) (.seq (.seq (.region [.m 16 8, .o 17 (.c .neq 16 0)]) (.cond (.tmp 17) (.seq (.region [.m 18 8, .m 6 18]) .ret) .skip)) (.seq (.seq (.region [.m 19 1, .o 20 (.n 19), .o 21 (.c .lss 20 1), .m 22 21, .g 23 (.m 1) 22 false, .g 24 (.n 23) 22 false, .g 25 (.c .gtr 24 64) 22 false, .o 26 (.pick (.tmp 22) (.const (.bool true)) (.tmp 25))]) (.cond (.tmp 26) (.seq (.region [.k 6 4]) .ret) .skip)) (.seq (.seq (.region [.m 27 1, .o 28 (.n 27), .k 29 0]) (.block 0 [1,2] (.loop [1,2,7,27,28,29] c33L0))) (.seq (.seq (.region [.m 44 2, .o 45 (.c .lss 44 1), .m 46 45, .g 47 (.m 2) 46 false, .g 48 (.m 1) 46 false, .g 49 (.n 48) 46 false, .g 50 (.b .gtr 47 49) 46 false, .o 51 (.pick (.tmp 46) (.const (.bool true)) (.tmp 50))]) (.cond (.tmp 51) (.seq (.region [.k 6 6]) .ret) .skip)) (.seq (.region [.k 6 0]) .ret)))))))
def F33:AFun:=⟨c33,3,52,[(.tmp 6)]⟩
def K33:Nat→List Nat×List Nat
 |0=>([1,2,7,27,28,29],[1,2])
 |1=>([],[1,2,7,27,28,29])
 |_=>([],[])
theorem F33_ok:kj8 Tryz.prog K33 Tryz.f33=some F33:=by kernel_rfl
/- 34: syndrome/syndromeref.ReedMay -/
def c34L0:ACode:=(.seq (.seq (.region [.m 26 9, .m 27 1, .o 28 (.n 27), .o 29 (.b .lss 26 28)]) (.cond (.tmp 29) .skip (.exit 0))) (.seq (.block 1 [1,2,7,9] (.seq (.seq (.region [.o 32 (.ld true 5 (.tmp 7)), .m 33 1, .m 34 9, .o 35 (.i 1 33 34), .o 36 (.l 35), .o 37 (.q 97 [32,36]), .o 38 (.un .not (.tmp 37))]) (.cond (.tmp 38) (.seq (.region [.k 6 2]) .ret) .skip)) (.seq (.region [.m 39 1, .m 40 9, .o 41 (.i 1 39 40), .o 42 (.l 41), .m 43 1, .m 44 9, .o 45 (.sl 1 (.tmp 43) none (some (.tmp 44))), .o 46 (.q 98 [42,45])]) (.cond (.tmp 46) (.seq (.region [.k 6 7]) .ret) .skip)))) (.region [.m 30 9, .o 31 (.c .add 30 1), .m 9 31])))
def c34:ACode:=(.seq (.region [.k 6 0]) (.seq (.region [.m 11 0, .o 12 (.q 38 [11]), .m 10 12, .o 13 (.e 0 10), .o 14 (.e 1 10), .o 7 (.alloc 52 [(.int .i64 0),(.int .i64 0),(.int .i64 0),(.int .i64 0),(.slice none 0 0)]), .n (.st 5 (.tmp 7) (.tmp 13)), .m 8 14]) (.seq (.seq (.region [.m 15 8, .o 16 (.c .neq 15 0)]) (.cond (.tmp 16) (.seq (.region [.m 17 8, .m 6 17]) .ret) .skip)) (.seq (.seq (.region [.m 18 1, .o 19 (.n 18), .o 20 (.c .lss 19 1), .m 21 20, .g 22 (.m 1) 21 false, .g 23 (.n 22) 21 false, .g 24 (.c .gtr 23 64) 21 false, .o 25 (.pick (.tmp 21) (.const (.bool true)) (.tmp 24))]) (.cond (.tmp 25) (.seq (.region [.k 6 4]) .ret) .skip)) (.seq (.seq (.region [.k 9 0]) (.block 0 [1,2] (.loop [1,2,7,9] c34L0))) (.seq (.seq (.region [.m 47 2, .o 48 (.c .lss 47 1), .m 49 48, .g 50 (.m 2) 49 false, .g 51 (.m 1) 49 false, .g 52 (.n 51) 49 false, .g 53 (.b .gtr 50 52) 49 false, .o 54 (.pick (.tmp 49) (.const (.bool true)) (.tmp 53))]) (.cond (.tmp 54) (.seq (.region [.k 6 6]) .ret) .skip)) (.seq (.region [.k 6 0]) .ret)))))))
def F34:AFun:=⟨c34,3,55,[(.tmp 6)]⟩
def K34:Nat→List Nat×List Nat
 |0=>([1,2,7,9],[1,2])
 |1=>([],[1,2,7,9])
 |_=>([],[])
theorem F34_ok:kj8 Tryz.prog K34 Tryz.f34=some F34:=by kernel_rfl
/- 35: syndrome/reed.Word -/
def c35:ACode:=(.seq (.region [.k 8 0]) (.seq (.seq (.region [.m 12 0, .m 13 1, .m 14 2, .o 15 (.q 33 [12,13,14]), .m 9 15]) (.seq (.region [.m 16 9, .o 17 (.c .neq 16 0)]) (.cond (.tmp 17) (.seq (.region [.m 18 9, .m 8 18]) .ret) .skip))) (.seq (.seq (.region [.m 19 3, .o 20 (.n 19), .m 21 1, .o 22 (.n 21), .o 23 (.b .neq 20 22)]) (.cond (.tmp 23) (.seq (.region [.k 8 6]) .ret) .skip)) (.seq (.region [.m 25 0, .o 26 (.q 81 [25]), .m 24 26, .o 27 (.e 0 24), .o 28 (.e 1 24), .o 10 (.alloc 101 [(.pointer none)]), .n (.st 1 (.tmp 10) (.tmp 27)), .m 11 28]) (.seq (.seq (.region [.m 29 3, .o 30 (.mkf 99 [(.tmp 10)]), .o 31 (.q 61 [29,30])]) (.cond (.tmp 31) (.seq (.region [.k 8 2]) .ret) .skip)) (.seq (.region [.k 8 0]) .ret))))))
def F35:AFun:=⟨c35,4,32,[(.tmp 8)]⟩
def K35:Nat→List Nat×List Nat
 |_=>([],[])
theorem F35_ok:kj8 Tryz.prog K35 Tryz.f35=some F35:=by kernel_rfl
/- 36: syndrome/syndromeref.ReedWord -/
def c36L0:ACode:=(.seq (.seq (.region [.m 30 12, .m 31 3, .o 32 (.n 31), .o 33 (.b .lss 30 32)]) (.cond (.tmp 33) .skip (.exit 0))) (.seq (.block 1 [3,10,12] (.seq (.region [.m 36 3, .m 37 12, .o 38 (.i 1 36 37), .o 39 (.l 38), .o 40 (.c .neq 39 (-1)), .m 41 40, .g 42 (.ld true 5 (.tmp 10)) 41 true, .g 43 (.m 3) 41 true, .g 44 (.m 12) 41 true, .g 45 (.i 1 43 44) 41 true, .g 46 (.l 45) 41 true, .g 47 (.q 97 [42,46]) 41 true, .g 48 (.un .not (.tmp 47)) 41 true, .o 49 (.pick (.tmp 41) (.tmp 48) (.const (.bool false)))]) (.cond (.tmp 49) (.seq (.region [.k 8 2]) .ret) .skip))) (.region [.m 34 12, .o 35 (.c .add 34 1), .m 12 35])))
def c36:ACode:=(.seq (.region [.k 8 0]) (.seq (.region [.m 13 0, .m 14 1, .m 15 2, .o 16 (.q 34 [13,14,15]), .m 9 16]) (.seq (.seq (.region [.m 17 9, .o 18 (.c .neq 17 0)]) (.cond (.tmp 18) (.seq (.region [.m 19 9, .m 8 19]) .ret) .skip)) (.seq (.region [.m 21 0, .o 22 (.q 38 [21]), .m 20 22, .o 23 (.e 0 20), .o 24 (.e 1 20), .o 10 (.alloc 52 [(.int .i64 0),(.int .i64 0),(.int .i64 0),(.int .i64 0),(.slice none 0 0)]), .n (.st 5 (.tmp 10) (.tmp 23)), .m 11 24]) (.seq (.seq (.region [.m 25 3, .o 26 (.n 25), .m 27 1, .o 28 (.n 27), .o 29 (.b .neq 26 28)]) (.cond (.tmp 29) (.seq (.region [.k 8 6]) .ret) .skip)) (.seq (.seq (.region [.k 12 0]) (.block 0 [] (.loop [3,10,12] c36L0))) (.seq (.region [.k 8 0]) .ret)))))))
def F36:AFun:=⟨c36,4,50,[(.tmp 8)]⟩
def K36:Nat→List Nat×List Nat
 |0=>([3,10,12],[])
 |1=>([],[3,10,12])
 |_=>([],[])
theorem F36_ok:kj8 Tryz.prog K36 Tryz.f36=some F36:=by kernel_rfl
/- 37: syndrome/syndromeref.PolyMay -/
def c37L0:ACode:=(.seq (.seq (.region [.m 19 7, .m 20 1, .o 21 (.n 20), .o 22 (.b .lss 19 21)]) (.cond (.tmp 22) .skip (.exit 0))) (.seq (.block 1 [1,5,7] (.seq (.region [.o 25 (.ld true 5 (.tmp 5)), .m 26 1, .m 27 7, .o 28 (.i 1 26 27), .o 29 (.l 28), .o 30 (.q 97 [25,29]), .o 31 (.un .not (.tmp 30))]) (.cond (.tmp 31) (.seq (.region [.k 4 2]) .ret) .skip))) (.region [.m 23 7, .o 24 (.c .add 23 1), .m 7 24])))
def c37:ACode:=(.seq (.region [.k 4 0]) (.seq (.region [.m 9 0, .o 10 (.q 38 [9]), .m 8 10, .o 11 (.e 0 8), .o 12 (.e 1 8), .o 5 (.alloc 52 [(.int .i64 0),(.int .i64 0),(.int .i64 0),(.int .i64 0),(.slice none 0 0)]), .n (.st 5 (.tmp 5) (.tmp 11)), .m 6 12]) (.seq (.seq (.region [.m 13 6, .o 14 (.c .neq 13 0)]) (.cond (.tmp 14) (.seq (.region [.m 15 6, .m 4 15]) .ret) .skip)) (.seq (.seq (.region [.m 16 1, .o 17 (.n 16), .o 18 (.c .gtr 17 128)]) (.cond (.tmp 18) (.seq (.region [.k 4 4]) .ret) .skip)) (.seq (.seq (.region [.k 7 0]) (.block 0 [] (.loop [1,5,7] c37L0))) (.seq (.region [.k 4 0]) .ret))))))
def F37:AFun:=⟨c37,2,32,[(.tmp 4)]⟩
def K37:Nat→List Nat×List Nat
 |0=>([1,5,7],[])
 |1=>([],[1,5,7])
 |_=>([],[])
theorem F37_ok:kj8 Tryz.prog K37 Tryz.f37=some F37:=by kernel_rfl
/- 38: syndrome/syndromeref.Field -/
def c38L0:ACode:=(.seq (.seq (.region [.m 32 7, .m 33 0, .o 34 (.b .lss 32 33)]) (.cond (.tmp 34) .skip (.exit 0))) (.seq (.block 1 [0,2,4,5,6,7] (.seq (.region [.o 37 (.ld true 5 (.tmp 6)), .m 38 7, .o 39 (.q 101 [37,38])]) (.cond (.tmp 39) (.seq (.region [.m 40 7, .o 41 (.f 3 6), .n (.st 1 (.tmp 41) (.tmp 40))]) (.seq (.region [.o 42 (.ld true 5 (.tmp 6)), .n (.st 5 (.tmp 2) (.tmp 42)), .k 3 0]) .ret)) .skip))) (.region [.m 35 7, .o 36 (.c .add 35 1), .m 7 36])))
def c38L1:ACode:=(.seq (.seq (.region [.m 45 8, .m 46 0, .o 47 (.b .lss 45 46)]) (.cond (.tmp 47) .skip (.exit 2))) (.seq (.block 3 [0,2,4,5,6,8] (.seq (.region [.m 50 8, .m 51 4, .m 52 5, .o 53 (.q 102 [50,51,52]), .o 54 (.mkSl 3 1 1 [(.const (.int .i64 1))]), .o 55 (.app 3 1 8 (.tmp 53) (.tmp 54)), .o 56 (.f 4 6), .n (.st 1 (.tmp 56) (.tmp 55))]) (.seq (.region [.o 57 (.ld true 5 (.tmp 6)), .m 58 4, .o 59 (.q 101 [57,58])]) (.cond (.tmp 59) (.seq (.region [.o 60 (.ld true 5 (.tmp 6)), .n (.st 5 (.tmp 2) (.tmp 60)), .k 3 0]) .ret) .skip)))) (.region [.m 48 8, .o 49 (.c .add 48 1), .m 8 49])))
def c38:ACode:=(.seq (.region [.o 2 (.alloc 52 [(.int .i64 0),(.int .i64 0),(.int .i64 0),(.int .i64 0),(.slice none 0 0)]), .k 3 0]) (.seq (.seq (.region [.m 9 0, .o 10 (.c .lss 9 2), .m 11 10, .g 12 (.m 0) 11 false, .g 13 (.c .gtr 12 64) 11 false, .o 14 (.pick (.tmp 11) (.const (.bool true)) (.tmp 13))]) (.cond (.tmp 14) (.seq (.region [.o 15 (.build [(.int .i64 0),(.int .i64 0),(.int .i64 0),(.int .i64 0),(.slice none 0 0)] [(0,1),(1,1),(2,1),(3,1),(4,1)] []), .n (.st 5 (.tmp 2) (.tmp 15)), .k 3 1]) .ret) .skip)) (.seq (.region [.m 17 0, .o 18 (.q 100 [17]), .m 16 18, .o 19 (.e 0 16), .o 20 (.e 1 16), .m 4 19, .m 5 20]) (.seq (.seq (.region [.m 21 4, .o 22 (.c .eql 21 0)]) (.cond (.tmp 22) (.seq (.region [.o 23 (.build [(.int .i64 0),(.int .i64 0),(.int .i64 0),(.int .i64 0),(.slice none 0 0)] [(0,1),(1,1),(2,1),(3,1),(4,1)] []), .n (.st 5 (.tmp 2) (.tmp 23)), .k 3 1]) .ret) .skip)) (.seq (.region [.m 24 0, .m 25 4, .m 26 5, .o 27 (.build [(.int .i64 0),(.int .i64 0),(.int .i64 0),(.int .i64 0),(.slice none 0 0)] [(0,1),(1,1),(2,1),(3,1),(4,1)] [(0,(.tmp 24)),(1,(.tmp 25)),(2,(.tmp 26))]), .o 6 (.alloc 52 [(.int .i64 0),(.int .i64 0),(.int .i64 0),(.int .i64 0),(.slice none 0 0)]), .n (.st 5 (.tmp 6) (.tmp 27))]) (.seq (.seq (.region [.m 28 5, .o 29 (.c .eql 28 1)]) (.cond (.tmp 29) (.seq (.region [.o 30 (.mkSl 3 1 2 [(.const (.int .i64 0)),(.const (.int .i64 1))]), .o 31 (.f 4 6), .n (.st 1 (.tmp 31) (.tmp 30))]) (.seq (.region [.k 7 1]) (.block 0 [0,2,4,5,6] (.loop [0,2,4,5,6,7] c38L0)))) .skip)) (.seq (.region [.m 43 4, .o 44 (.f 3 6), .n (.st 1 (.tmp 44) (.tmp 43))]) (.seq (.seq (.region [.k 8 0]) (.block 2 [2] (.loop [0,2,4,5,6,8] c38L1))) (.seq (.region [.o 61 (.build [(.int .i64 0),(.int .i64 0),(.int .i64 0),(.int .i64 0),(.slice none 0 0)] [(0,1),(1,1),(2,1),(3,1),(4,1)] []), .n (.st 5 (.tmp 2) (.tmp 61)), .k 3 1]) .ret)))))))))
def F38:AFun:=⟨c38,1,62,[(.cell 2 true 5),(.tmp 3)]⟩
def K38:Nat→List Nat×List Nat
 |0=>([0,2,4,5,6,7],[0,2,4,5,6])
 |1=>([],[0,2,4,5,6,7])
 |2=>([0,2,4,5,6,8],[2])
 |3=>([],[0,2,4,5,6,8])
 |_=>([],[])
theorem F38_ok:kj8 Tryz.prog K38 Tryz.f38=some F38:=by kernel_rfl
/- 39: syndrome/syndromeref.Values -/
def c39L0:ACode:=(.seq (.seq (.region [.m 9 8, .m 10 1, .o 11 (.n 10), .o 12 (.b .lss 9 11)]) (.cond (.tmp 12) .skip (.exit 0))) (.seq (.block 1 [1,2,3,7,8] (.region [.m 15 7, .o 16 (.ld true 5 (.tmp 3)), .m 17 2, .m 18 1, .m 19 8, .o 20 (.i 1 18 19), .o 21 (.l 20), .o 22 (.q 103 [16,17,21]), .o 23 (.mkSl 3 1 1 [(.tmp 22)]), .o 24 (.app 3 1 8 (.tmp 15) (.tmp 23)), .m 7 24])) (.region [.m 13 8, .o 14 (.c .add 13 1), .m 8 14])))
def c39:ACode:=(.seq (.region [.o 3 (.box 52 5 (.tmp 0)), .o 6 (.mv (.const (.slice none 0 0)))]) (.seq (.region [.o 7 (.mv (.const (.slice none 0 0)))]) (.seq (.seq (.region [.k 8 0]) (.block 0 [7] (.loop [1,2,3,7,8] c39L0))) (.seq (.region [.m 25 7, .m 6 25]) .ret))))
def F39:AFun:=⟨c39,3,26,[(.tmp 6)]⟩
def K39:Nat→List Nat×List Nat
 |0=>([1,2,3,7,8],[7])
 |1=>([],[1,2,3,7,8])
 |_=>([],[])
theorem F39_ok:kj8 Tryz.prog K39 Tryz.f39=some F39:=by kernel_rfl
/- 40: syndrome/reed.Encode -/
def c40L0:ACode:=(.seq (.region [.o 33 (.b .lss 32 31)]) (.seq (.cond (.tmp 33) .skip (.exit 0)) (.seq (.block 1 [0,2,10,30,31,32] (.seq (.region [.m 34 32, .o 35 (.i 1 30 32), .o 36 (.l 35), .m 11 34, .m 12 36]) (.region [.m 38 10, .m 39 11, .m 40 0, .m 41 2, .m 42 12, .o 43 (.q 105 [40,41,42]), .m 37 43, .o 44 (.e 0 37), .o 45 (.e 1 37), .o 46 (.i 1 38 39), .n (.st 1 (.tmp 46) (.tmp 44))]))) (.region [.o 47 (.c .add 32 1), .m 32 47]))))
def c40:ACode:=(.seq (.region [.o 6 (.mv (.const (.slice none 0 0))), .k 7 0]) (.seq (.seq (.region [.m 13 0, .m 14 1, .m 15 2, .o 16 (.n 15), .o 17 (.q 33 [13,14,16]), .m 8 17]) (.seq (.region [.m 18 8, .o 19 (.c .neq 18 0)]) (.cond (.tmp 19) (.seq (.region [.m 20 8, .o 6 (.mv (.const (.slice none 0 0))), .m 7 20]) .ret) .skip))) (.seq (.seq (.region [.m 21 0, .m 22 2, .o 23 (.q 104 [21,22]), .m 9 23]) (.seq (.region [.m 24 9, .o 25 (.c .neq 24 0)]) (.cond (.tmp 25) (.seq (.region [.m 26 9, .o 6 (.mv (.const (.slice none 0 0))), .m 7 26]) .ret) .skip))) (.seq (.region [.m 27 1, .o 28 (.n 27), .o 29 (.mks 3 1 8 [(.int .i64 0)] (.tmp 28) (.tmp 28)), .m 10 29]) (.seq (.seq (.region [.m 30 1, .o 31 (.n 30), .k 32 0]) (.block 0 [10] (.loop [0,2,10,30,31,32] c40L0))) (.seq (.region [.m 48 10, .m 6 48, .k 7 0]) .ret))))))
def F40:AFun:=⟨c40,3,49,[(.tmp 6),(.tmp 7)]⟩
def K40:Nat→List Nat×List Nat
 |0=>([0,2,10,30,31,32],[10])
 |1=>([],[0,2,10,30,31,32])
 |_=>([],[])
theorem F40_ok:kj8 Tryz.prog K40 Tryz.f40=some F40:=by kernel_rfl
/- 41: syndrome/syndromelaw.list -/
def c41:ACode:=(.seq (.region [.o 8 (.mv (.const (.bool false)))]) (.seq (.seq (.region [.m 9 3, .o 10 (.c .neq 9 0)]) (.cond (.tmp 10) (.seq (.region [.m 11 1, .m 12 3, .o 13 (.b .eql 11 12), .m 14 13, .g 15 (.m 0) 14 true, .g 16 (.n 15) 14 true, .g 17 (.c .eql 16 0) 14 true, .o 18 (.pick (.tmp 14) (.tmp 17) (.const (.bool false))), .m 8 18]) .ret) .skip)) (.seq (.region [.m 19 1, .o 20 (.c .eql 19 0), .m 21 20, .g 22 (.m 0) 21 true, .g 23 (.m 2) 21 true, .g 24 (.q 16 [22,23]) 21 true, .o 25 (.pick (.tmp 21) (.tmp 24) (.const (.bool false))), .m 8 25]) .ret)))
def F41:AFun:=⟨c41,4,26,[(.tmp 8)]⟩
def K41:Nat→List Nat×List Nat
 |_=>([],[])
theorem F41_ok:kj8 Tryz.prog K41 Tryz.f41=some F41:=by kernel_rfl
/- 42: syndrome/syndromelaw.recovers -/
def c42:ACode:=(.seq (.region [.o 8 (.mv (.const (.bool false)))]) (.seq (.region [.m 23 0, .m 24 1, .m 25 2, .m 26 3, .o 27 (.q 36 [23,24,25,26]), .m 9 27]) (.seq (.region [.m 29 0, .m 30 1, .m 31 2, .m 32 3, .o 33 (.q 106 [29,30,31,32]), .m 28 33, .o 34 (.e 0 28), .o 35 (.e 1 28), .o 36 (.e 2 28), .o 37 (.e 3 28), .m 10 34, .m 11 35, .m 12 36, .m 13 37]) (.seq (.region [.m 39 0, .m 40 1, .m 41 2, .m 42 3, .o 43 (.q 107 [39,40,41,42]), .m 38 43, .o 44 (.e 0 38), .o 45 (.e 1 38), .o 46 (.e 2 38), .o 47 (.e 3 38), .m 14 44, .m 15 45, .m 16 46, .m 17 47]) (.seq (.seq (.region [.m 48 13, .m 49 9, .o 50 (.b .neq 48 49), .m 51 50, .g 52 (.m 17) 51 false, .g 53 (.m 9) 51 false, .g 54 (.b .neq 52 53) 51 false, .o 55 (.pick (.tmp 51) (.const (.bool true)) (.tmp 54))]) (.cond (.tmp 55) (.seq (.region [.o 8 (.mv (.const (.bool false)))]) .ret) .skip)) (.seq (.region [.o 18 (.mv (.const (.slice none 0 0)))]) (.seq (.region [.k 19 0]) (.seq (.region [.o 20 (.mv (.const (.bool false)))]) (.seq (.seq (.region [.m 56 9, .o 57 (.c .eql 56 0)]) (.cond (.tmp 57) (.seq (.region [.m 59 0, .o 60 (.q 38 [59]), .m 58 60, .o 61 (.e 0 58), .o 62 (.e 1 58), .o 21 (.alloc 52 [(.int .i64 0),(.int .i64 0),(.int .i64 0),(.int .i64 0),(.slice none 0 0)]), .n (.st 5 (.tmp 21) (.tmp 61)), .m 22 62]) (.region [.o 64 (.ld true 5 (.tmp 21)), .m 65 1, .m 66 2, .m 67 3, .o 68 (.q 108 [64,65,66,67]), .m 63 68, .o 69 (.e 0 63), .o 70 (.e 1 63), .o 71 (.e 2 63), .m 18 69, .m 19 70, .m 20 71])) .skip)) (.seq (.region [.m 72 12, .m 73 20, .o 74 (.eqb false (.tmp 72) (.tmp 73)), .m 75 74, .g 76 (.m 16) 75 true, .g 77 (.m 20) 75 true, .g 78 (.eqb false (.tmp 76) (.tmp 77)) 75 true, .o 79 (.pick (.tmp 75) (.tmp 78) (.const (.bool false))), .m 80 79, .g 81 (.m 10) 80 true, .g 82 (.m 18) 80 true, .g 83 (.q 16 [81,82]) 80 true, .o 84 (.pick (.tmp 80) (.tmp 83) (.const (.bool false))), .m 85 84, .g 86 (.m 14) 85 true, .g 87 (.m 18) 85 true, .g 88 (.q 16 [86,87]) 85 true, .o 89 (.pick (.tmp 85) (.tmp 88) (.const (.bool false))), .m 90 89, .g 91 (.m 11) 90 true, .g 92 (.m 19) 90 true, .g 93 (.b .eql 91 92) 90 true, .o 94 (.pick (.tmp 90) (.tmp 93) (.const (.bool false))), .m 95 94, .g 96 (.m 15) 95 true, .g 97 (.m 19) 95 true, .g 98 (.b .eql 96 97) 95 true, .o 99 (.pick (.tmp 95) (.tmp 98) (.const (.bool false))), .m 8 99]) .ret))))))))))
def F42:AFun:=⟨c42,4,100,[(.tmp 8)]⟩
def K42:Nat→List Nat×List Nat
 |_=>([],[])
theorem F42_ok:kj8 Tryz.prog K42 Tryz.f42=some F42:=by kernel_rfl
/- 61: slices.ContainsFunc[[]int,int] -/
def c61:ACode:=(.seq (.region [.o 4 (.mv (.const (.bool false)))]) (.seq (.region [.m 5 0, .m 6 1, .o 7 (.q 133 [5,6]), .o 8 (.c .geq 7 0), .m 4 8]) .ret))
def F61:AFun:=⟨c61,2,9,[(.tmp 4)]⟩
def K61:Nat→List Nat×List Nat
 |_=>([],[])
theorem F61_ok:kj8 Tryz.prog K61 Tryz.f61=some F61:=by kernel_rfl
/- 65: slices.Clone[[]int,int] -/
def c65:ACode:=(.seq (.region [.o 2 (.mv (.const (.slice none 0 0)))]) (.seq (.seq (.region [.m 3 0, .o 4 (.eqn false 0 (.tmp 3))]) (.cond (.tmp 4) (.seq (.region [.o 2 (.mv (.const (.slice none 0 0)))]) .ret) .skip)) (.seq (.region [.o 5 (.mkSl 3 1 0 []), .m 6 0, .o 7 (.app 3 1 8 (.tmp 5) (.tmp 6)), .m 2 7]) .ret)))
def F65:AFun:=⟨c65,1,8,[(.tmp 2)]⟩
def K65:Nat→List Nat×List Nat
 |_=>([],[])
theorem F65_ok:kj8 Tryz.prog K65 Tryz.f65=some F65:=by kernel_rfl
/- 77: (syndrome/syndromeref.F).Reduce -/
def c77L0:ACode:=(.seq (.seq (.region [.m 27 10, .m 28 6, .o 29 (.n 28), .o 30 (.b .lss 27 29)]) (.cond (.tmp 30) .skip (.exit 2))) (.seq (.block 3 [1,2,6,7,8,9,10] (.region [.o 33 (.ld true 5 (.tmp 2)), .m 34 9, .m 35 6, .m 36 10, .o 37 (.i 1 35 36), .o 38 (.l 37), .m 39 9, .m 40 7, .m 41 10, .o 42 (.i 1 40 41), .o 43 (.l 42), .o 44 (.i 1 39 43), .o 45 (.l 44), .o 46 (.q 139 [33,34,38,45]), .m 9 46])) (.region [.m 31 10, .o 32 (.c .add 31 1), .m 10 32])))
def c77L1:ACode:=(.seq (.seq (.region [.m 47 11, .m 48 9, .o 49 (.n 48), .o 50 (.b .lss 47 49), .m 51 50, .g 52 (.m 9) 51 true, .g 53 (.m 11) 51 true, .g 54 (.i 1 52 53) 51 true, .g 55 (.l 54) 51 true, .g 56 (.c .eql 55 0) 51 true, .o 57 (.pick (.tmp 51) (.tmp 56) (.const (.bool false)))]) (.cond (.tmp 57) .skip (.exit 4))) (.block 5 [1,2,6,7,8,9,11] (.region [.m 58 11, .o 59 (.c .add 58 1), .m 11 59])))
def c77L2:ACode:=(.seq (.seq (.region [.m 70 13, .m 71 9, .o 72 (.n 71), .o 73 (.b .lss 70 72)]) (.cond (.tmp 73) .skip (.exit 6))) (.seq (.block 7 [1,2,6,7,8,9,11,12,13] (.region [.m 76 9, .m 77 13, .o 78 (.ld true 5 (.tmp 2)), .m 79 9, .m 80 13, .o 81 (.i 1 79 80), .o 82 (.l 81), .m 83 12, .o 84 (.q 126 [78,82,83]), .o 85 (.i 1 76 77), .n (.st 1 (.tmp 85) (.tmp 84))])) (.region [.m 74 13, .o 75 (.c .add 74 1), .m 13 75])))
def c77L3:ACode:=(.seq (.seq (.region [.m 86 14, .m 87 6, .o 88 (.n 87), .o 89 (.b .lss 86 88)]) (.cond (.tmp 89) .skip (.exit 8))) (.seq (.block 9 [1,2,6,7,8,9,11,14] (.region [.m 92 6, .m 93 14, .o 94 (.ld true 5 (.tmp 2)), .m 95 6, .m 96 14, .o 97 (.i 1 95 96), .o 98 (.l 97), .m 99 9, .m 100 6, .m 101 14, .o 102 (.i 1 100 101), .o 103 (.l 102), .m 104 11, .o 105 (.i 1 103 104), .o 106 (.l 105), .o 107 (.q 139 [94,98,99,106]), .o 108 (.i 1 92 93), .n (.st 1 (.tmp 108) (.tmp 107))])) (.region [.m 90 14, .o 91 (.c .add 90 1), .m 14 91])))
def c77L4:ACode:=(.seq (.seq (.region [.m 109 15, .m 110 6, .o 111 (.n 110), .o 112 (.b .lss 109 111), .m 113 112, .g 114 (.m 7) 113 true, .g 115 (.m 15) 113 true, .g 116 (.i 1 114 115) 113 true, .g 117 (.l 116) 113 true, .g 118 (.m 11) 113 true, .g 119 (.b .lss 117 118) 113 true, .o 120 (.pick (.tmp 113) (.tmp 119) (.const (.bool false)))]) (.cond (.tmp 120) .skip (.exit 10))) (.block 11 [1,2,6,7,8,9,11,15] (.region [.m 121 15, .o 122 (.c .add 121 1), .m 15 122])))
def c77L5:ACode:=(.seq (.seq (.region [.m 16 8, .m 17 1, .o 18 (.n 17), .o 19 (.b .lss 16 18)]) (.cond (.tmp 19) .skip (.exit 0))) (.seq (.block 1 [1,2,6,7,8] (.seq (.region [.m 22 1, .m 23 8, .o 24 (.i 1 22 23), .o 25 (.l 24), .o 26 (.q 138 [25]), .m 9 26]) (.seq (.seq (.region [.k 10 0]) (.block 2 [1,2,6,7,8,9] (.loop [1,2,6,7,8,9,10] c77L0))) (.seq (.region [.k 11 0]) (.seq (.block 4 [1,2,6,7,8,9,11] (.loop [1,2,6,7,8,9,11] c77L1)) (.seq (.seq (.region [.m 60 11, .m 61 9, .o 62 (.n 61), .o 63 (.b .eql 60 62)]) (.cond (.tmp 63) (.exit 1) .skip)) (.seq (.region [.o 64 (.ld true 5 (.tmp 2)), .m 65 9, .m 66 11, .o 67 (.i 1 65 66), .o 68 (.l 67), .o 69 (.q 140 [64,68]), .m 12 69]) (.seq (.seq (.region [.k 13 0]) (.block 6 [1,2,6,7,8,9,11] (.loop [1,2,6,7,8,9,11,12,13] c77L2))) (.seq (.seq (.region [.k 14 0]) (.block 8 [1,2,6,7,8,9,11] (.loop [1,2,6,7,8,9,11,14] c77L3))) (.seq (.region [.k 15 0]) (.seq (.block 10 [1,2,6,7,8,9,11,15] (.loop [1,2,6,7,8,9,11,15] c77L4)) (.seq (.region [.o 123 (.mkSl 22 1 0 []), .m 124 6, .m 125 15, .o 126 (.sl 1 (.tmp 124) none (some (.tmp 125))), .o 127 (.app 22 1 24 (.tmp 123) (.tmp 126)), .m 128 9, .o 129 (.mkSl 22 1 1 [(.tmp 128)]), .o 130 (.app 22 1 24 (.tmp 127) (.tmp 129)), .m 131 6, .m 132 15, .o 133 (.sl 1 (.tmp 131) (some (.tmp 132)) none), .o 134 (.app 22 1 24 (.tmp 130) (.tmp 133)), .m 6 134]) (.region [.o 135 (.mkSl 3 1 0 []), .m 136 7, .m 137 15, .o 138 (.sl 1 (.tmp 136) none (some (.tmp 137))), .o 139 (.app 3 1 8 (.tmp 135) (.tmp 138)), .m 140 11, .o 141 (.mkSl 3 1 1 [(.tmp 140)]), .o 142 (.app 3 1 8 (.tmp 139) (.tmp 141)), .m 143 7, .m 144 15, .o 145 (.sl 1 (.tmp 143) (some (.tmp 144)) none), .o 146 (.app 3 1 8 (.tmp 142) (.tmp 145)), .m 7 146]))))))))))))) (.region [.m 20 8, .o 21 (.c .add 20 1), .m 8 21])))
def c77:ACode:=(.seq (.region [.o 2 (.box 52 5 (.tmp 0)), .o 4 (.mv (.const (.slice none 0 0))), .o 5 (.mv (.const (.slice none 0 0)))]) (.seq (.region [.o 6 (.mv (.const (.slice none 0 0)))]) (.seq (.region [.o 7 (.mv (.const (.slice none 0 0)))]) (.seq (.seq (.region [.k 8 0]) (.block 0 [6,7] (.loop [1,2,6,7,8] c77L5))) (.seq (.region [.m 147 6, .m 148 7, .m 4 147, .m 5 148]) .ret)))))
def F77:AFun:=⟨c77,2,149,[(.tmp 4),(.tmp 5)]⟩
def K77:Nat→List Nat×List Nat
 |0=>([1,2,6,7,8],[6,7])
 |1=>([],[1,2,6,7,8])
 |2=>([1,2,6,7,8,9,10],[1,2,6,7,8,9])
 |3=>([],[1,2,6,7,8,9,10])
 |4=>([1,2,6,7,8,9,11],[1,2,6,7,8,9,11])
 |5=>([],[1,2,6,7,8,9,11])
 |6=>([1,2,6,7,8,9,11,12,13],[1,2,6,7,8,9,11])
 |7=>([],[1,2,6,7,8,9,11,12,13])
 |8=>([1,2,6,7,8,9,11,14],[1,2,6,7,8,9,11])
 |9=>([],[1,2,6,7,8,9,11,14])
 |10=>([1,2,6,7,8,9,11,15],[1,2,6,7,8,9,11,15])
 |11=>([],[1,2,6,7,8,9,11,15])
 |_=>([],[])
theorem F77_ok:kj8 Tryz.prog K77 Tryz.f77=some F77:=by kernel_rfl
/- 78: (syndrome/syndromeref.F).Null -/
def c78L0:ACode:=(.seq (.seq (.region [.m 32 12, .m 33 7, .o 34 (.n 33), .o 35 (.b .lss 32 34)]) (.cond (.tmp 35) .skip (.exit 2))) (.seq (.block 3 [2,3,7,8,9,10,11,12] (.region [.m 38 11, .m 39 8, .m 40 12, .o 41 (.i 1 39 40), .o 42 (.l 41), .o 43 (.ld true 5 (.tmp 3)), .m 44 7, .m 45 12, .o 46 (.i 1 44 45), .o 47 (.l 46), .m 48 10, .o 49 (.i 1 47 48), .o 50 (.l 49),⟨(some 51),(.call 141 [(.tmp 43),(.tmp 50)]),none,true⟩, .o 52 (.i 1 38 42), .n (.st 1 (.tmp 52) (.tmp 51))])) (.region [.m 36 12, .o 37 (.c .add 36 1), .m 12 37])))
def c78L1:ACode:=(.seq (.seq (.region [.m 19 10, .m 20 2, .o 21 (.b .lss 19 20)]) (.cond (.tmp 21) .skip (.exit 0))) (.seq (.block 1 [2,3,7,8,9,10] (.seq (.seq (.region [.m 24 10, .m 25 8, .o 26 (.q 98 [24,25])]) (.cond (.tmp 26) (.exit 1) .skip)) (.seq (.region [.m 27 2, .o 28 (.mks 3 1 8 [(.int .i64 0)] (.tmp 27) (.tmp 27)), .m 11 28]) (.seq (.region [.m 29 11, .m 30 10, .o 31 (.i 1 29 30), .n (.st 1 (.tmp 31) (.const (.int .i64 1)))]) (.seq (.seq (.region [.k 12 0]) (.block 2 [2,3,7,8,9,10,11] (.loop [2,3,7,8,9,10,11,12] c78L0))) (.region [.m 53 9, .m 54 11, .o 55 (.mkSl 22 1 1 [(.tmp 54)]), .o 56 (.app 22 1 24 (.tmp 53) (.tmp 55)), .m 9 56])))))) (.region [.m 22 10, .o 23 (.c .add 22 1), .m 10 23])))
def c78:ACode:=(.seq (.region [.o 3 (.box 52 5 (.tmp 0)), .o 6 (.mv (.const (.slice none 0 0)))]) (.seq (.region [.o 14 (.ld true 5 (.tmp 3)), .m 15 1, .o 16 (.q 77 [14,15]), .m 13 16, .o 17 (.e 0 13), .o 18 (.e 1 13), .m 7 17, .m 8 18]) (.seq (.region [.o 9 (.mv (.const (.slice none 0 0)))]) (.seq (.seq (.region [.k 10 0]) (.block 0 [3,9] (.loop [2,3,7,8,9,10] c78L1))) (.seq (.region [.o 58 (.ld true 5 (.tmp 3)), .m 59 9, .o 60 (.q 77 [58,59]), .m 57 60, .o 61 (.e 0 57), .o 62 (.e 1 57), .m 9 61]) (.seq (.region [.m 63 9, .m 6 63]) .ret))))))
def F78:AFun:=⟨c78,3,64,[(.tmp 6)]⟩
def K78:Nat→List Nat×List Nat
 |0=>([2,3,7,8,9,10],[3,9])
 |1=>([],[2,3,7,8,9,10])
 |2=>([2,3,7,8,9,10,11,12],[2,3,7,8,9,10,11])
 |3=>([],[2,3,7,8,9,10,11,12])
 |_=>([],[])
theorem F78_ok:kj8 Tryz.prog K78 Tryz.f78=some F78:=by kernel_rfl
/- 81: syndrome/field.New -/
def zz9:List Value:=[(.int .u32 0),(.int .i32 0),(.int .u32 0),(.int .u32 0),(.int .i32 0),(.int .u32 0),(.int .u32 0),(.int .i32 0),(.int .u32 0),(.int .u32 0),(.int .i32 0),(.int .u32 0),(.int .u32 0),(.int .i32 0),(.int .u32 0),(.int .u32 0),(.int .i32 0),(.int .u32 0),(.int .u32 0),(.int .i32 0),(.int .u32 0),(.int .u32 0),(.int .i32 0),(.int .u32 0),(.int .u32 0),(.int .i32 0),(.int .u32 0),(.int .u32 0),(.int .i32 0),(.int .u32 0),(.int .u32 0),(.int .i32 0),(.int .u32 0),(.int .u32 0),(.int .i32 0),(.int .u32 0),(.int .u32 0),(.int .i32 0),(.int .u32 0),(.int .u32 0),(.int .i32 0),(.int .u32 0),(.int .u32 0),(.int .i32 0),(.int .u32 0),(.int .u32 0),(.int .i32 0),(.int .u32 0),(.int .u32 0),(.int .i32 0),(.int .u32 0),(.int .u32 0),(.int .i32 0),(.int .u32 0),(.int .u32 0),(.int .i32 0),(.int .u32 0),(.int .u32 0),(.int .i32 0),(.int .u32 0),(.int .u32 0),(.int .i32 0),(.int .u32 0),(.int .u32 0),(.int .i32 0),(.int .u32 0),(.int .u32 0),(.int .i32 0),(.int .u32 0),(.int .u32 0),(.int .i32 0),(.int .u32 0),(.int .u32 0),(.int .i32 0),(.int .u32 0),(.int .u32 0),(.int .i32 0),(.int .u32 0),(.int .u32 0),(.int .i32 0),(.int .u32 0),(.int .u32 0),(.int .i32 0),(.int .u32 0),(.int .u32 0),(.int .i32 0),(.int .u32 0),(.int .u32 0),(.int .i32 0),(.int .u32 0),(.int .u32 0),(.int .i32 0),(.int .u32 0),(.int .u32 0),(.int .i32 0),(.int .u32 0),(.int .u32 0),(.int .i32 0),(.int .u32 0),(.int .u32 0),(.int .i32 0),(.int .u32 0),(.int .u32 0),(.int .i32 0),(.int .u32 0),(.int .u32 0),(.int .i32 0),(.int .u32 0),(.int .u32 0),(.int .i32 0),(.int .u32 0),(.int .u32 0),(.int .i32 0),(.int .u32 0),(.int .u32 0),(.int .i32 0),(.int .u32 0),(.int .u32 0),(.int .i32 0),(.int .u32 0),(.int .u32 0),(.int .i32 0),(.int .u32 0),(.int .u32 0),(.int .i32 0),(.int .u32 0),(.int .u32 0),(.int .i32 0),(.int .u32 0),(.int .u32 0),(.int .i32 0),(.int .u32 0),(.int .u32 0),(.int .i32 0),(.int .u32 0),(.int .u32 0),(.int .i32 0),(.int .u32 0),(.int .u32 0),(.int .i32 0),(.int .u32 0),(.int .u32 0),(.int .i32 0),(.int .u32 0),(.int .u32 0),(.int .i32 0),(.int .u32 0),(.int .u32 0),(.int .i32 0),(.int .u32 0),(.int .u32 0),(.int .i32 0),(.int .u32 0),(.int .u32 0),(.int .i32 0),(.int .u32 0),(.int .u32 0),(.int .i32 0),(.int .u32 0),(.int .u32 0),(.int .i32 0),(.int .u32 0),(.int .u32 0),(.int .i32 0),(.int .u32 0),(.int .u32 0),(.int .i32 0),(.int .u32 0),(.int .u32 0),(.int .i32 0),(.int .u32 0),(.int .u32 0),(.int .i32 0),(.int .u32 0),(.int .u32 0),(.int .i32 0),(.int .u32 0),(.int .u32 0),(.int .i32 0),(.int .u32 0),(.int .u32 0),(.int .i32 0),(.int .u32 0),(.int .u32 0),(.int .i32 0),(.int .u32 0),(.int .u32 0),(.int .i32 0),(.int .u32 0),(.int .u32 0),(.int .i32 0),(.int .u32 0),(.int .u32 0),(.int .i32 0),(.int .u32 0),(.pointer none),(.pointer none),(.pointer none),(.pointer none),(.pointer none),(.pointer none),(.pointer none),(.pointer none),(.pointer none),(.pointer none),(.pointer none),(.pointer none),(.pointer none),(.pointer none),(.pointer none),(.pointer none),(.pointer none),(.pointer none),(.pointer none),(.pointer none),(.pointer none),(.pointer none),(.pointer none),(.pointer none),(.pointer none),(.pointer none),(.pointer none),(.pointer none),(.pointer none),(.pointer none),(.pointer none),(.pointer none),(.pointer none),(.pointer none),(.pointer none),(.pointer none),(.pointer none),(.pointer none),(.pointer none),(.pointer none),(.pointer none),(.pointer none),(.pointer none),(.pointer none),(.pointer none),(.pointer none),(.pointer none),(.pointer none),(.pointer none),(.pointer none),(.pointer none),(.pointer none),(.pointer none),(.pointer none),(.pointer none),(.pointer none),(.pointer none),(.pointer none),(.pointer none),(.pointer none),(.pointer none),(.pointer none),(.pointer none),(.pointer none),(.pointer none)]
def c81:ACode:=(.seq (.region [.o 1 (.box 3 1 (.tmp 0)), .o 2 (.mv (.const (.pointer none))), .k 3 0]) (.seq (.seq (.region [.o 5 (.l 1), .o 6 (.c .lss 5 2), .m 7 6, .g 8 (.l 1) 7 false, .g 9 (.c .gtr 8 64) 7 false, .o 10 (.pick (.tmp 7) (.const (.bool true)) (.tmp 9))]) (.cond (.tmp 10) (.seq (.region [.o 2 (.mv (.const (.pointer none))), .k 3 1]) .ret) .skip)) (.seq (.region [.o 4 (.alloc 168 zz9)]) (.seq (.region [.o 11 (.l 1), .o 12 (.f 0 4), .o 13 (.iaddrA 65 3 (.tmp 12) (.tmp 11)), .o 14 (.mkf 150 [(.tmp 1),(.tmp 4)]), .o 15 (.q 149 [13,14])]) (.seq (.seq (.region [.o 16 (.l 1), .o 17 (.f 195 4), .o 18 (.iaddrA 65 1 (.tmp 17) (.tmp 16)), .o 19 (.l 18), .o 20 (.eqn false 1 (.tmp 19))]) (.cond (.tmp 20) (.seq (.region [.o 2 (.mv (.const (.pointer none))), .k 3 1]) .ret) .skip)) (.seq (.region [.o 21 (.l 1), .o 22 (.f 195 4), .o 23 (.iaddrA 65 1 (.tmp 22) (.tmp 21)), .o 24 (.l 23), .m 2 24, .k 3 0]) .ret))))))
def F81:AFun:=⟨c81,1,25,[(.tmp 2),(.tmp 3)]⟩
def K81:Nat→List Nat×List Nat
 |_=>([],[])
theorem F81_ok:kj8 Tryz.prog K81 Tryz.f81=some F81:=by kernel_rfl
/- 82: syndrome/matrix.Check -/
def c82L0:ACode:=(.seq (.region [.o 23 (.b .lss 22 21)]) (.seq (.cond (.tmp 23) .skip (.exit 0)) (.seq (.block 1 [1,5,20,21,22] (.seq (.region [.o 24 (.i 1 20 22), .o 25 (.l 24), .m 8 25]) (.seq (.seq (.region [.m 26 8, .o 27 (.n 26), .m 28 1, .o 29 (.iaddr 1 (.tmp 28) (.const (.int .i64 0))), .o 30 (.l 29), .o 31 (.n 30), .o 32 (.b .neq 27 31), .m 33 32, .g 34 (.m 8) 33 false, .g 35 (.n 34) 33 false, .g 36 (.c .eql 35 0) 33 false, .o 37 (.pick (.tmp 33) (.const (.bool true)) (.tmp 36))]) (.cond (.tmp 37) (.seq (.region [.k 4 3]) .ret) .skip)) (.seq (.seq (.region [.m 38 8, .o 39 (.n 38), .o 40 (.c .gtr 39 64)]) (.cond (.tmp 40) (.seq (.region [.k 4 4]) .ret) .skip)) (.seq (.region [.m 41 8, .o 42 (.mkf 152 [(.tmp 5)]), .o 43 (.q 61 [41,42])]) (.cond (.tmp 43) (.seq (.region [.k 4 2]) .ret) .skip)))))) (.region [.o 44 (.c .add 22 1), .m 22 44]))))
def c82:ACode:=(.seq (.region [.k 4 0]) (.seq (.region [.m 10 0, .o 11 (.q 81 [10]), .m 9 11, .o 12 (.e 0 9), .o 13 (.e 1 9), .o 5 (.alloc 101 [(.pointer none)]), .n (.st 1 (.tmp 5) (.tmp 12)), .m 6 13]) (.seq (.seq (.region [.m 14 6, .o 15 (.c .neq 14 0)]) (.cond (.tmp 15) (.seq (.region [.m 16 6, .m 4 16]) .ret) .skip)) (.seq (.seq (.region [.m 17 1, .o 18 (.n 17), .o 19 (.c .gtr 18 64)]) (.cond (.tmp 19) (.seq (.region [.k 4 4]) .ret) .skip)) (.seq (.seq (.region [.m 20 1, .o 21 (.n 20), .k 22 0]) (.block 0 [] (.loop [1,5,20,21,22] c82L0))) (.seq (.region [.k 4 0]) .ret))))))
def F82:AFun:=⟨c82,2,45,[(.tmp 4)]⟩
def K82:Nat→List Nat×List Nat
 |0=>([1,5,20,21,22],[])
 |1=>([],[1,5,20,21,22])
 |_=>([],[])
theorem F82_ok:kj8 Tryz.prog K82 Tryz.f82=some F82:=by kernel_rfl
/- 95: (*syndrome/field.Field).Has -/
def c95:ACode:=(.seq (.region [.o 4 (.mv (.const (.bool false)))]) (.seq (.region [.m 5 1, .o 6 (.c .geq 5 0), .m 7 6, .g 8 (.m 1) 7 true, .g 9 (.m 0) 7 true, .g 10 (.nilck (.tmp 9)) 7 true, .g 11 (.f 0 10) 7 true, .g 12 (.l 11) 7 true, .g 13 (.b .lss 8 12) 7 true, .o 14 (.pick (.tmp 7) (.tmp 13) (.const (.bool false))), .m 4 14]) .ret))
def F95:AFun:=⟨c95,2,15,[(.tmp 4)]⟩
def K95:Nat→List Nat×List Nat
 |_=>([],[])
theorem F95_ok:kj8 Tryz.prog K95 Tryz.f95=some F95:=by kernel_rfl
/- 96: slices.Contains[[]int,int] -/
def c96:ACode:=(.seq (.region [.o 4 (.mv (.const (.bool false)))]) (.seq (.region [.m 5 0, .m 6 1, .o 7 (.q 167 [5,6]), .o 8 (.c .geq 7 0), .m 4 8]) .ret))
def F96:AFun:=⟨c96,2,9,[(.tmp 4)]⟩
def K96:Nat→List Nat×List Nat
 |_=>([],[])
theorem F96_ok:kj8 Tryz.prog K96 Tryz.f96=some F96:=by kernel_rfl
/- 97: (syndrome/syndromeref.F).Has -/
def c97:ACode:=(.seq (.region [.o 2 (.box 52 5 (.tmp 0)), .o 4 (.mv (.const (.bool false)))]) (.seq (.region [.m 5 1, .o 6 (.c .geq 5 0), .m 7 6, .g 8 (.m 1) 7 true, .g 9 (.f 0 2) 7 true, .g 10 (.l 9) 7 true, .g 11 (.b .lss 8 10) 7 true, .o 12 (.pick (.tmp 7) (.tmp 11) (.const (.bool false))), .m 4 12]) .ret))
def F97:AFun:=⟨c97,2,13,[(.tmp 4)]⟩
def K97:Nat→List Nat×List Nat
 |_=>([],[])
theorem F97_ok:kj8 Tryz.prog K97 Tryz.f97=some F97:=by kernel_rfl
/- 98: syndrome/syndromeref.In -/
def c98L0:ACode:=(.seq (.seq (.region [.m 6 5, .m 7 1, .o 8 (.n 7), .o 9 (.b .lss 6 8)]) (.cond (.tmp 9) .skip (.exit 0))) (.seq (.block 1 [0,1,5] (.seq (.region [.m 12 1, .m 13 5, .o 14 (.i 1 12 13), .o 15 (.l 14), .m 16 0, .o 17 (.b .eql 15 16)]) (.cond (.tmp 17) (.seq (.region [.o 4 (.mv (.const (.bool true)))]) .ret) .skip))) (.region [.m 10 5, .o 11 (.c .add 10 1), .m 5 11])))
def c98:ACode:=(.seq (.region [.o 4 (.mv (.const (.bool false)))]) (.seq (.seq (.region [.k 5 0]) (.block 0 [] (.loop [0,1,5] c98L0))) (.seq (.region [.o 4 (.mv (.const (.bool false)))]) .ret)))
def F98:AFun:=⟨c98,2,18,[(.tmp 4)]⟩
def K98:Nat→List Nat×List Nat
 |0=>([0,1,5],[])
 |1=>([],[0,1,5])
 |_=>([],[])
theorem F98_ok:kj8 Tryz.prog K98 Tryz.f98=some F98:=by kernel_rfl
/- 99: syndrome/reed.Word$1 -/
def c99:ACode:=(.seq (.region [.o 3 (.mv (.const (.bool false)))]) (.seq (.region [.m 4 0, .o 5 (.c .neq 4 (-1)), .m 6 5, .g 7 (.l 1) 6 true, .g 8 (.m 0) 6 true, .g 9 (.q 95 [7,8]) 6 true, .g 10 (.un .not (.tmp 9)) 6 true, .o 11 (.pick (.tmp 6) (.tmp 10) (.const (.bool false))), .m 3 11]) .ret))
def F99:AFun:=⟨c99,2,12,[(.tmp 3)]⟩
def K99:Nat→List Nat×List Nat
 |_=>([],[])
theorem F99_ok:kj8 Tryz.prog K99 Tryz.f99=some F99:=by kernel_rfl
/- 100: syndrome/syndromeref.Prime -/
def c100L0:ACode:=(.seq (.seq (.region [.m 15 0, .m 16 4, .o 17 (.b .rem 15 16), .o 18 (.c .eql 17 0)]) (.cond (.tmp 18) .skip (.exit 2))) (.block 3 [0,4,5] (.seq (.region [.m 19 0, .m 20 4, .o 21 (.b .quo 19 20), .m 0 21]) (.region [.m 22 5, .o 23 (.c .add 22 1), .m 5 23]))))
def c100L1:ACode:=(.seq (.seq (.region [.m 6 4, .m 7 0, .o 8 (.b .leq 6 7)]) (.cond (.tmp 8) .skip (.exit 0))) (.seq (.block 1 [0,4] (.seq (.seq (.region [.m 11 0, .m 12 4, .o 13 (.b .rem 11 12), .o 14 (.c .neq 13 0)]) (.cond (.tmp 14) (.exit 1) .skip)) (.seq (.region [.k 5 0]) (.seq (.block 2 [0,4,5] (.loop [0,4,5] c100L0)) (.seq (.seq (.region [.m 24 0, .o 25 (.c .eql 24 1)]) (.cond (.tmp 25) (.seq (.region [.m 26 4, .m 27 5, .m 2 26, .m 3 27]) .ret) .skip)) (.seq (.region [.k 2 0, .k 3 0]) .ret)))))) (.region [.m 9 4, .o 10 (.c .add 9 1), .m 4 10])))
def c100:ACode:=(.seq (.region [.k 2 0, .k 3 0]) (.seq (.seq (.region [.k 4 2]) (.block 0 [] (.loop [0,4] c100L1))) (.seq (.region [.k 2 0, .k 3 0]) .ret)))
def F100:AFun:=⟨c100,1,28,[(.tmp 2),(.tmp 3)]⟩
def K100:Nat→List Nat×List Nat
 |0=>([0,4],[])
 |1=>([],[0,4])
 |2=>([0,4,5],[0,4,5])
 |3=>([],[0,4,5])
 |_=>([],[])
theorem F100_ok:kj8 Tryz.prog K100 Tryz.f100=some F100:=by kernel_rfl
/- 101: syndrome/syndromeref.full -/
def c101L0:ACode:=(.seq (.seq (.region [.m 11 7, .o 12 (.f 0 2), .o 13 (.l 12), .o 14 (.c .sub 13 1), .o 15 (.b .lss 11 14)]) (.cond (.tmp 15) .skip (.exit 0))) (.seq (.block 1 [1,2,5,6,7] (.seq (.seq (.region [.m 18 6, .o 19 (.c .eql 18 0), .m 20 19, .g 21 (.m 5) 20 false, .g 22 (.m 6) 20 false, .g 23 (.i 1 21 22) 20 false, .g 24 (.l 23) 20 false, .o 25 (.pick (.tmp 20) (.const (.bool true)) (.tmp 24))]) (.cond (.tmp 25) (.seq (.region [.o 4 (.mv (.const (.bool false)))]) .ret) .skip)) (.seq (.region [.m 26 5, .m 27 6, .o 28 (.i 1 26 27), .n (.st 1 (.tmp 28) (.const (.bool true)))]) (.region [.o 29 (.ld true 5 (.tmp 2)), .m 30 6, .m 31 1, .o 32 (.q 126 [29,30,31]), .m 6 32])))) (.region [.m 16 7, .o 17 (.c .add 16 1), .m 7 17])))
def c101:ACode:=(.seq (.region [.o 2 (.box 52 5 (.tmp 0)), .o 4 (.mv (.const (.bool false)))]) (.seq (.region [.o 8 (.f 0 2), .o 9 (.l 8), .o 10 (.mks 4 1 1 [(.bool false)] (.tmp 9) (.tmp 9)), .m 5 10]) (.seq (.region [.k 6 1]) (.seq (.seq (.region [.k 7 0]) (.block 0 [] (.loop [1,2,5,6,7] c101L0))) (.seq (.region [.o 4 (.mv (.const (.bool true)))]) .ret)))))
def F101:AFun:=⟨c101,2,33,[(.tmp 4)]⟩
def K101:Nat→List Nat×List Nat
 |0=>([1,2,5,6,7],[])
 |1=>([],[1,2,5,6,7])
 |_=>([],[])
theorem F101_ok:kj8 Tryz.prog K101 Tryz.f101=some F101:=by kernel_rfl
/- 102: syndrome/syndromeref.Digits -/
def c102L0:ACode:=(.seq (.seq (.region [.m 9 8, .m 10 2, .o 11 (.b .lss 9 10)]) (.cond (.tmp 11) .skip (.exit 0))) (.seq (.block 1 [0,1,2,7,8] (.seq (.region [.m 14 7, .m 15 0, .m 16 1, .o 17 (.b .rem 15 16), .o 18 (.mkSl 3 1 1 [(.tmp 17)]), .o 19 (.app 3 1 8 (.tmp 14) (.tmp 18)), .m 7 19]) (.region [.m 20 0, .m 21 1, .o 22 (.b .quo 20 21), .m 0 22]))) (.region [.m 12 8, .o 13 (.c .add 12 1), .m 8 13])))
def c102:ACode:=(.seq (.region [.o 6 (.mv (.const (.slice none 0 0)))]) (.seq (.region [.o 7 (.mv (.const (.slice none 0 0)))]) (.seq (.seq (.region [.k 8 0]) (.block 0 [7] (.loop [0,1,2,7,8] c102L0))) (.seq (.region [.m 23 7, .m 6 23]) .ret))))
def F102:AFun:=⟨c102,3,24,[(.tmp 6)]⟩
def K102:Nat→List Nat×List Nat
 |0=>([0,1,2,7,8],[7])
 |1=>([],[0,1,2,7,8])
 |_=>([],[])
theorem F102_ok:kj8 Tryz.prog K102 Tryz.f102=some F102:=by kernel_rfl
/- 103: syndrome/syndromeref.PAt -/
def c103:ACode:=(.seq (.region [.o 3 (.box 52 5 (.tmp 0)), .k 6 0]) (.seq (.region [.o 7 (.ld true 5 (.tmp 3)), .m 8 1, .m 9 2, .o 10 (.q 168 [7,8,9]), .m 6 10]) .ret))
def F103:AFun:=⟨c103,3,11,[(.tmp 6)]⟩
def K103:Nat→List Nat×List Nat
 |_=>([],[])
theorem F103_ok:kj8 Tryz.prog K103 Tryz.f103=some F103:=by kernel_rfl
/- 104: syndrome/poly.Check -/
def c104L0:ACode:=(.seq (.region [.o 23 (.b .lss 22 21)]) (.seq (.cond (.tmp 23) .skip (.exit 0)) (.seq (.block 1 [5,20,21,22] (.seq (.region [.o 24 (.i 1 20 22), .o 25 (.l 24), .m 8 25]) (.seq (.region [.m 26 5, .m 27 8, .o 28 (.q 95 [26,27]), .o 29 (.un .not (.tmp 28))]) (.cond (.tmp 29) (.seq (.region [.k 4 2]) .ret) .skip)))) (.region [.o 30 (.c .add 22 1), .m 22 30]))))
def c104:ACode:=(.seq (.region [.k 4 0]) (.seq (.region [.m 10 0, .o 11 (.q 81 [10]), .m 9 11, .o 12 (.e 0 9), .o 13 (.e 1 9), .m 5 12, .m 6 13]) (.seq (.seq (.region [.m 14 6, .o 15 (.c .neq 14 0)]) (.cond (.tmp 15) (.seq (.region [.m 16 6, .m 4 16]) .ret) .skip)) (.seq (.seq (.region [.m 17 1, .o 18 (.n 17), .o 19 (.c .gtr 18 128)]) (.cond (.tmp 19) (.seq (.region [.k 4 4]) .ret) .skip)) (.seq (.seq (.region [.m 20 1, .o 21 (.n 20), .k 22 0]) (.block 0 [] (.loop [5,20,21,22] c104L0))) (.seq (.region [.k 4 0]) .ret))))))
def F104:AFun:=⟨c104,2,31,[(.tmp 4)]⟩
def K104:Nat→List Nat×List Nat
 |0=>([5,20,21,22],[])
 |1=>([],[5,20,21,22])
 |_=>([],[])
theorem F104_ok:kj8 Tryz.prog K104 Tryz.f104=some F104:=by kernel_rfl
/- 105: syndrome/poly.At -/
def c105L0:ACode:=(.seq (.seq (.region [.m 29 12, .o 30 (.c .geq 29 0)]) (.cond (.tmp 30) .skip (.exit 0))) (.seq (.block 1 [1,2,8,11,12] (.region [.m 33 8, .m 34 8, .m 35 11, .m 36 2,⟨(some 37),(.call 157 [(.tmp 34),(.tmp 35),(.tmp 36)]),none,true⟩, .m 38 1, .m 39 12, .o 40 (.i 1 38 39),⟨(some 41),(.ld false 1 (.tmp 40)),none,true⟩, .o 42 (.q 156 [33,37,41]), .m 11 42])) (.region [.m 31 12, .o 32 (.c .sub 31 1), .m 12 32])))
def c105:ACode:=(.seq (.region [.k 6 0, .k 7 0]) (.seq (.region [.m 14 0, .m 15 1, .m 16 2, .o 17 (.mkSl 3 1 1 [(.tmp 16)]), .o 18 (.q 169 [14,15,17]), .m 13 18, .o 19 (.e 0 13), .o 20 (.e 1 13), .o 21 (.e 2 13), .o 22 (.e 3 13), .m 8 19, .m 1 20, .m 9 21, .m 10 22]) (.seq (.seq (.region [.m 23 10, .o 24 (.c .neq 23 0)]) (.cond (.tmp 24) (.seq (.region [.m 25 10, .k 6 0, .m 7 25]) .ret) .skip)) (.seq (.region [.k 11 0]) (.seq (.seq (.region [.m 26 1, .o 27 (.n 26), .o 28 (.c .sub 27 1), .m 12 28]) (.block 0 [11] (.loop [1,2,8,11,12] c105L0))) (.seq (.region [.m 43 11, .m 6 43, .k 7 0]) .ret))))))
def F105:AFun:=⟨c105,3,44,[(.tmp 6),(.tmp 7)]⟩
def K105:Nat→List Nat×List Nat
 |0=>([1,2,8,11,12],[11])
 |1=>([],[1,2,8,11,12])
 |_=>([],[])
theorem F105_ok:kj8 Tryz.prog K105 Tryz.f105=some F105:=by kernel_rfl
/- 106: syndrome/reed.Solve -/
def c106L0:ACode:=(.seq (.region [.o 64 (.b .lss 63 62)]) (.seq (.cond (.tmp 64) .skip (.exit 2)) (.seq (.block 3 [0,2,13,14,15,17,18,19,20,21,58,59,62,63] (.seq (.region [.m 65 63, .m 22 65]) (.region [.m 66 21, .m 67 15, .m 68 14, .m 69 20, .o 70 (.i 1 68 69), .o 71 (.l 70), .m 72 15, .m 73 13, .m 74 20, .o 75 (.i 1 73 74), .o 76 (.l 75), .m 77 22,⟨(some 78),(.call 171 [(.tmp 72),(.tmp 76),(.tmp 77)]),none,true⟩, .o 79 (.q 157 [67,71,78]), .o 80 (.mkSl 3 1 1 [(.tmp 79)]), .o 81 (.app 3 1 8 (.tmp 66) (.tmp 80)), .m 21 81]))) (.region [.o 82 (.c .add 63 1), .m 63 82]))))
def c106L1:ACode:=(.seq (.region [.o 87 (.b .lss 86 85)]) (.seq (.cond (.tmp 87) .skip (.exit 4)) (.seq (.block 5 [0,2,13,14,15,17,18,19,20,21,58,59,85,86] (.seq (.region [.m 88 86, .m 23 88]) (.region [.m 89 21, .m 90 15, .m 91 15, .m 92 13, .m 93 20, .o 94 (.i 1 92 93), .o 95 (.l 94), .m 96 23, .o 97 (.q 171 [91,95,96]), .o 98 (.q 148 [90,97]), .o 99 (.mkSl 3 1 1 [(.tmp 98)]), .o 100 (.app 3 1 8 (.tmp 89) (.tmp 99)), .m 21 100]))) (.region [.o 101 (.c .add 86 1), .m 86 101]))))
def c106L2:ACode:=(.seq (.region [.o 60 (.b .lss 59 58)]) (.seq (.cond (.tmp 60) .skip (.exit 0)) (.seq (.block 1 [0,2,13,14,15,17,18,19,58,59] (.seq (.region [.m 61 59, .m 20 61]) (.seq (.region [.o 21 (.mv (.const (.slice none 0 0)))]) (.seq (.seq (.region [.m 62 17, .k 63 0]) (.block 2 [0,2,13,14,15,17,18,19,20,21,58,59] (.loop [0,2,13,14,15,17,18,19,20,21,58,59,62,63] c106L0))) (.seq (.seq (.region [.m 83 17, .m 84 2, .o 85 (.b .add 83 84), .k 86 0]) (.block 4 [0,2,13,14,15,17,18,19,20,21,58,59] (.loop [0,2,13,14,15,17,18,19,20,21,58,59,85,86] c106L1))) (.seq (.region [.m 102 18, .m 103 21, .o 104 (.mkSl 22 1 1 [(.tmp 103)]), .o 105 (.app 22 1 24 (.tmp 102) (.tmp 104)), .m 18 105]) (.region [.m 106 19, .m 107 15, .m 108 15, .m 109 14, .m 110 20, .o 111 (.i 1 109 110), .o 112 (.l 111), .m 113 15, .m 114 13, .m 115 20, .o 116 (.i 1 114 115), .o 117 (.l 116), .m 118 17,⟨(some 119),(.call 171 [(.tmp 113),(.tmp 117),(.tmp 118)]),none,true⟩, .o 120 (.q 157 [108,112,119]), .o 121 (.q 148 [107,120]), .o 122 (.mkSl 3 1 1 [(.tmp 121)]), .o 123 (.app 3 1 8 (.tmp 106) (.tmp 122)), .m 19 123]))))))) (.region [.o 124 (.c .add 59 1), .m 59 124]))))
def c106:ACode:=(.seq (.region [.o 8 (.mv (.const (.slice none 0 0))), .k 9 0, .o 10 (.mv (.const (.bool false))), .k 11 0]) (.seq (.seq (.region [.m 29 0, .m 30 1, .m 31 2, .m 32 3, .o 33 (.q 35 [29,30,31,32]), .m 12 33]) (.seq (.region [.m 34 12, .o 35 (.c .neq 34 0)]) (.cond (.tmp 35) (.seq (.region [.m 36 12, .o 8 (.mv (.const (.slice none 0 0))), .k 9 0, .o 10 (.mv (.const (.bool false))), .m 11 36]) .ret) .skip))) (.seq (.region [.m 38 1, .m 39 3, .o 40 (.q 170 [38,39]), .m 37 40, .o 41 (.e 0 37), .o 42 (.e 1 37), .m 13 41, .m 14 42]) (.seq (.seq (.region [.m 43 13, .o 44 (.n 43), .m 45 2, .o 46 (.b .lss 44 45)]) (.cond (.tmp 46) (.seq (.region [.o 8 (.mv (.const (.slice none 0 0))), .k 9 0, .o 10 (.mv (.const (.bool false))), .k 11 0]) .ret) .skip)) (.seq (.region [.m 48 0, .o 49 (.q 81 [48]), .m 47 49, .o 50 (.e 0 47), .o 51 (.e 1 47), .m 15 50, .m 16 51]) (.seq (.region [.m 52 13, .o 53 (.n 52), .m 54 2, .o 55 (.b .sub 53 54), .o 56 (.c .quo 55 2), .m 17 56]) (.seq (.region [.o 18 (.mv (.const (.slice none 0 0)))]) (.seq (.region [.o 19 (.mv (.const (.slice none 0 0)))]) (.seq (.seq (.region [.m 57 13, .o 58 (.n 57), .k 59 0]) (.block 0 [0,2,13,14,17,18,19] (.loop [0,2,13,14,15,17,18,19,58,59] c106L2))) (.seq (.region [.m 126 0, .m 127 18, .m 128 19, .o 129 (.q 172 [126,127,128]), .m 125 129, .o 130 (.e 0 125), .o 131 (.e 1 125), .o 132 (.e 2 125), .m 24 130, .m 25 131, .m 11 132]) (.seq (.seq (.region [.m 133 11, .o 134 (.c .neq 133 0), .m 135 134, .g 136 (.m 25) 135 false, .g 137 (.un .not (.tmp 136)) 135 false, .o 138 (.pick (.tmp 135) (.const (.bool true)) (.tmp 137))]) (.cond (.tmp 138) (.seq (.region [.o 8 (.mv (.const (.slice none 0 0))), .k 9 0, .o 10 (.mv (.const (.bool false))), .k 11 0]) .ret) .skip)) (.seq (.region [.m 140 0, .m 141 24, .m 142 17, .m 144 24, .m 145 17, .o 148 (.mkSl 3 1 1 [(.const (.int .i64 1))]), .o 146 (.sl 1 (.tmp 144) none (some (.tmp 145))),⟨(some 147),(.call 65 [(.tmp 146)]),none,true⟩, .o 149 (.app 3 1 8 (.tmp 147) (.tmp 148)), .o 143 (.sl 1 (.tmp 141) (some (.tmp 142)) none), .o 150 (.q 173 [140,143,149]), .m 139 150, .o 151 (.e 0 139), .o 152 (.e 1 139), .o 153 (.e 2 139), .m 26 151, .m 27 152, .m 28 153]) (.seq (.seq (.region [.m 154 27, .o 155 (.n 154), .o 156 (.c .gtr 155 0), .m 157 156, .g 158 (.m 26) 157 false, .g 159 (.n 158) 157 false, .g 160 (.m 2) 157 false, .g 161 (.b .gtr 159 160) 157 false, .o 162 (.pick (.tmp 157) (.const (.bool true)) (.tmp 161))]) (.cond (.tmp 162) (.seq (.region [.o 8 (.mv (.const (.slice none 0 0))), .k 9 0, .o 10 (.mv (.const (.bool false))), .k 11 0]) .ret) .skip)) (.seq (.region [.m 163 0, .m 164 13, .m 165 14, .m 166 26, .m 167 2, .o 168 (.q 174 [163,164,165,166,167]), .o 169 (.e 0 168), .o 170 (.e 1 168), .o 171 (.e 2 168), .o 172 (.e 3 168), .m 8 169, .m 9 170, .m 10 171, .m 11 172]) .ret))))))))))))))
def F106:AFun:=⟨c106,4,173,[(.tmp 8),(.tmp 9),(.tmp 10),(.tmp 11)]⟩
def K106:Nat→List Nat×List Nat
 |0=>([0,2,13,14,15,17,18,19,58,59],[0,2,13,14,17,18,19])
 |1=>([],[0,2,13,14,15,17,18,19,58,59])
 |2=>([0,2,13,14,15,17,18,19,20,21,58,59,62,63],[0,2,13,14,15,17,18,19,20,21,58,59])
 |3=>([],[0,2,13,14,15,17,18,19,20,21,58,59,62,63])
 |4=>([0,2,13,14,15,17,18,19,20,21,58,59,85,86],[0,2,13,14,15,17,18,19,20,21,58,59])
 |5=>([],[0,2,13,14,15,17,18,19,20,21,58,59,85,86])
 |_=>([],[])
theorem F106_ok:kj8 Tryz.prog K106 Tryz.f106=some F106:=by kernel_rfl
/- 107: syndrome/reed.Euclid -/
def c107L0:ACode:=(.seq (.region [.o 61 (.b .lss 60 59)]) (.seq (.cond (.tmp 61) .skip (.exit 0)) (.seq (.block 1 [0,2,13,14,15,17,58,59,60] (.seq (.region [.o 62 (.i 1 58 60), .o 63 (.l 62), .m 19 63]) (.region [.m 65 0, .m 66 17, .m 67 15, .m 68 19, .o 69 (.q 148 [67,68]), .o 70 (.mkSl 3 1 2 [(.tmp 69),(.const (.int .i64 1))]), .o 71 (.q 175 [65,66,70]), .m 64 71, .o 72 (.e 0 64), .o 73 (.e 1 64), .m 17 72]))) (.region [.o 74 (.c .add 60 1), .m 60 74]))))
def c107L1:ACode:=(.seq (.region [.o 110 (.b .lss 109 108)]) (.seq (.cond (.tmp 110) .skip (.exit 4)) (.seq (.block 5 [0,2,13,14,15,20,22,23,25,27,108,109] (.seq (.region [.m 111 109, .m 29 111]) (.region [.m 112 27, .m 113 29, .m 114 15, .m 115 27, .m 116 29, .o 117 (.i 1 115 116), .o 118 (.l 117), .o 119 (.q 148 [114,118]), .o 120 (.i 1 112 113), .n (.st 1 (.tmp 120) (.tmp 119))]))) (.region [.o 121 (.c .add 109 1), .m 109 121]))))
def c107L2:ACode:=(.seq (.seq (.region [.m 83 20, .o 84 (.n 83), .o 85 (.c .sub 84 1), .o 86 (.bin .mul (.const (.int .i64 2)) (.tmp 85)), .m 87 13, .o 88 (.n 87), .m 89 2, .o 90 (.b .add 88 89), .o 91 (.b .geq 86 90)]) (.cond (.tmp 91) .skip (.exit 2))) (.block 3 [0,2,13,14,15,17,20,22,23] (.seq (.region [.m 93 0, .m 94 17, .m 95 20, .o 96 (.q 173 [93,94,95]), .m 92 96, .o 97 (.e 0 92), .o 98 (.e 1 92), .o 99 (.e 2 92), .m 24 97, .m 25 98, .m 26 99]) (.seq (.region [.m 101 0, .m 102 24, .m 103 23, .o 104 (.q 175 [101,102,103]), .m 100 104, .o 105 (.e 0 100), .o 106 (.e 1 100), .m 27 105, .m 28 106]) (.seq (.seq (.region [.m 107 27, .o 108 (.n 107), .k 109 0]) (.block 4 [0,2,13,14,15,20,22,23,25,27] (.loop [0,2,13,14,15,20,22,23,25,27,108,109] c107L1))) (.seq (.region [.m 123 0, .m 124 22, .m 125 27, .o 126 (.q 177 [123,124,125]), .m 122 126, .o 127 (.e 0 122), .o 128 (.e 1 122), .m 30 127, .m 31 128]) (.region [.m 129 20, .m 130 25, .m 131 23, .m 132 30, .m 17 129, .m 20 130, .m 22 131, .m 23 132])))))))
def c107:ACode:=(.seq (.region [.o 8 (.mv (.const (.slice none 0 0))), .k 9 0, .o 10 (.mv (.const (.bool false))), .k 11 0]) (.seq (.seq (.region [.m 34 0, .m 35 1, .m 36 2, .m 37 3, .o 38 (.q 35 [34,35,36,37]), .m 12 38]) (.seq (.region [.m 39 12, .o 40 (.c .neq 39 0)]) (.cond (.tmp 40) (.seq (.region [.m 41 12, .o 8 (.mv (.const (.slice none 0 0))), .k 9 0, .o 10 (.mv (.const (.bool false))), .m 11 41]) .ret) .skip))) (.seq (.region [.m 43 1, .m 44 3, .o 45 (.q 170 [43,44]), .m 42 45, .o 46 (.e 0 42), .o 47 (.e 1 42), .m 13 46, .m 14 47]) (.seq (.seq (.region [.m 48 13, .o 49 (.n 48), .m 50 2, .o 51 (.b .lss 49 50)]) (.cond (.tmp 51) (.seq (.region [.o 8 (.mv (.const (.slice none 0 0))), .k 9 0, .o 10 (.mv (.const (.bool false))), .k 11 0]) .ret) .skip)) (.seq (.region [.m 53 0, .o 54 (.q 81 [53]), .m 52 54, .o 55 (.e 0 52), .o 56 (.e 1 52), .m 15 55, .m 16 56]) (.seq (.region [.o 57 (.mkSl 3 1 1 [(.const (.int .i64 1))]), .m 17 57]) (.seq (.seq (.region [.m 58 13, .o 59 (.n 58), .k 60 0]) (.block 0 [0,2,13,14,15,17] (.loop [0,2,13,14,15,17,58,59,60] c107L0))) (.seq (.region [.m 76 0, .m 77 13, .m 78 14, .o 79 (.q 176 [76,77,78]), .m 75 79, .o 80 (.e 0 75), .o 81 (.e 1 75), .m 20 80, .m 21 81]) (.seq (.region [.o 22 (.mv (.const (.slice none 0 0))), .o 23 (.mv (.const (.slice none 0 0)))]) (.seq (.region [.o 82 (.mkSl 3 1 1 [(.const (.int .i64 1))]), .m 23 82]) (.seq (.block 2 [0,2,13,14,20,23] (.loop [0,2,13,14,15,17,20,22,23] c107L2)) (.seq (.region [.m 134 0, .m 135 20, .m 136 23, .o 137 (.q 173 [134,135,136]), .m 133 137, .o 138 (.e 0 133), .o 139 (.e 1 133), .o 140 (.e 2 133), .m 32 138, .m 33 139, .m 11 140]) (.seq (.seq (.region [.m 141 11, .o 142 (.c .neq 141 0), .m 143 142, .g 144 (.m 33) 143 false, .g 145 (.n 144) 143 false, .g 146 (.c .gtr 145 0) 143 false, .o 147 (.pick (.tmp 143) (.const (.bool true)) (.tmp 146)), .m 148 147, .g 149 (.m 32) 148 false, .g 150 (.n 149) 148 false, .g 151 (.m 2) 148 false, .g 152 (.b .gtr 150 151) 148 false, .o 153 (.pick (.tmp 148) (.const (.bool true)) (.tmp 152))]) (.cond (.tmp 153) (.seq (.region [.o 8 (.mv (.const (.slice none 0 0))), .k 9 0, .o 10 (.mv (.const (.bool false))), .k 11 0]) .ret) .skip)) (.seq (.region [.m 154 0, .m 155 13, .m 156 14, .m 157 32, .m 158 2, .o 159 (.q 174 [154,155,156,157,158]), .o 160 (.e 0 159), .o 161 (.e 1 159), .o 162 (.e 2 159), .o 163 (.e 3 159), .m 8 160, .m 9 161, .m 10 162, .m 11 163]) .ret))))))))))))))
def F107:AFun:=⟨c107,4,164,[(.tmp 8),(.tmp 9),(.tmp 10),(.tmp 11)]⟩
def K107:Nat→List Nat×List Nat
 |0=>([0,2,13,14,15,17,58,59,60],[0,2,13,14,15,17])
 |1=>([],[0,2,13,14,15,17,58,59,60])
 |2=>([0,2,13,14,15,17,20,22,23],[0,2,13,14,20,23])
 |3=>([],[0,2,13,14,15,17,20,22,23])
 |4=>([0,2,13,14,15,20,22,23,25,27,108,109],[0,2,13,14,15,20,22,23,25,27])
 |5=>([],[0,2,13,14,15,20,22,23,25,27,108,109])
 |_=>([],[])
theorem F107_ok:kj8 Tryz.prog K107 Tryz.f107=some F107:=by kernel_rfl
/- 108: syndrome/syndromeref.Recovered -/
def c108L0:ACode:=(.seq (.seq (.region [.m 27 12, .m 28 3, .o 29 (.n 28), .o 30 (.b .lss 27 29)]) (.cond (.tmp 30) .skip (.exit 0))) (.seq (.block 1 [1,2,3,4,11,12] (.seq (.region [.m 33 3, .m 34 12, .o 35 (.i 1 33 34), .o 36 (.l 35), .o 37 (.c .neq 36 (-1))]) (.cond (.tmp 37) (.region [.m 38 11, .o 39 (.c .add 38 1), .m 11 39]) .skip))) (.region [.m 31 12, .o 32 (.c .add 31 1), .m 12 32])))
def c108L1:ACode:=(.seq (.seq (.region [.m 58 18, .m 59 13, .o 60 (.b .leq 58 59)]) (.cond (.tmp 60) .skip (.exit 4))) (.seq (.block 5 [1,2,3,4,11,13,14,15,16,17,18] (.seq (.region [.m 63 16, .o 64 (.ld true 5 (.tmp 4)), .m 65 3, .m 66 15, .o 67 (.i 1 65 66), .o 68 (.l 67), .m 69 17, .o 70 (.q 126 [64,68,69]), .o 71 (.mkSl 3 1 1 [(.tmp 70)]), .o 72 (.app 3 1 8 (.tmp 63) (.tmp 71)), .m 16 72]) (.region [.o 73 (.ld true 5 (.tmp 4)), .m 74 17, .m 75 1, .m 76 15, .o 77 (.i 1 75 76), .o 78 (.l 77), .o 79 (.q 126 [73,74,78]), .m 17 79]))) (.region [.m 61 18, .o 62 (.c .add 61 1), .m 18 62])))
def c108L2:ACode:=(.seq (.seq (.region [.m 82 19, .m 83 13, .m 84 2, .o 85 (.b .add 83 84), .o 86 (.b .lss 82 85)]) (.cond (.tmp 86) .skip (.exit 6))) (.seq (.block 7 [1,2,3,4,11,13,14,15,16,17,19] (.seq (.region [.m 89 16, .m 90 17, .o 91 (.mkSl 3 1 1 [(.tmp 90)]), .o 92 (.app 3 1 8 (.tmp 89) (.tmp 91)), .m 16 92]) (.region [.o 93 (.ld true 5 (.tmp 4)), .m 94 17, .m 95 1, .m 96 15, .o 97 (.i 1 95 96), .o 98 (.l 97), .o 99 (.q 126 [93,94,98]), .m 17 99]))) (.region [.m 87 19, .o 88 (.c .add 87 1), .m 19 88])))
def c108L3:ACode:=(.seq (.seq (.region [.m 47 15, .m 48 3, .o 49 (.n 48), .o 50 (.b .lss 47 49)]) (.cond (.tmp 50) .skip (.exit 2))) (.seq (.block 3 [1,2,3,4,11,13,14,15] (.seq (.seq (.region [.m 53 3, .m 54 15, .o 55 (.i 1 53 54), .o 56 (.l 55), .o 57 (.c .eql 56 (-1))]) (.cond (.tmp 57) (.exit 3) .skip)) (.seq (.region [.o 16 (.mv (.const (.slice none 0 0)))]) (.seq (.region [.k 17 1]) (.seq (.seq (.region [.k 18 0]) (.block 4 [1,2,3,4,11,13,14,15,16] (.loop [1,2,3,4,11,13,14,15,16,17,18] c108L1))) (.seq (.region [.o 80 (.ld true 5 (.tmp 4)), .o 81 (.call 141 [(.tmp 80),(.const (.int .i64 1))]), .m 17 81]) (.seq (.seq (.region [.k 19 0]) (.block 6 [1,2,3,4,11,13,14,15,16] (.loop [1,2,3,4,11,13,14,15,16,17,19] c108L2))) (.region [.m 100 14, .m 101 16, .o 102 (.mkSl 22 1 1 [(.tmp 101)]), .o 103 (.app 22 1 24 (.tmp 100) (.tmp 102)), .m 14 103])))))))) (.region [.m 51 15, .o 52 (.c .add 51 1), .m 15 52])))
def c108:ACode:=(.seq (.region [.o 4 (.box 52 5 (.tmp 0)), .o 8 (.mv (.const (.slice none 0 0))), .k 9 0, .o 10 (.mv (.const (.bool false)))]) (.seq (.region [.k 11 0]) (.seq (.seq (.region [.k 12 0]) (.block 0 [1,2,3,4,11] (.loop [1,2,3,4,11,12] c108L0))) (.seq (.seq (.region [.m 40 11, .m 41 2, .o 42 (.b .lss 40 41)]) (.cond (.tmp 42) (.seq (.region [.o 8 (.mv (.const (.slice none 0 0))), .k 9 0, .o 10 (.mv (.const (.bool false)))]) .ret) .skip)) (.seq (.region [.m 43 11, .m 44 2, .o 45 (.b .sub 43 44), .o 46 (.c .quo 45 2), .m 13 46]) (.seq (.region [.o 14 (.mv (.const (.slice none 0 0)))]) (.seq (.seq (.region [.k 15 0]) (.block 2 [1,2,3,4,11,13,14] (.loop [1,2,3,4,11,13,14,15] c108L3))) (.seq (.region [.o 104 (.ld true 5 (.tmp 4)), .m 105 14, .m 106 13, .o 107 (.bin .mul (.const (.int .i64 2)) (.tmp 106)), .o 108 (.c .add 107 1), .m 109 2, .o 110 (.b .add 108 109), .o 111 (.q 78 [104,105,110]), .m 20 111]) (.seq (.seq (.region [.m 112 20, .o 113 (.n 112), .o 114 (.c .eql 113 0)]) (.cond (.tmp 114) (.seq (.region [.o 8 (.mv (.const (.slice none 0 0))), .k 9 0, .o 10 (.mv (.const (.bool false)))]) .ret) .skip)) (.seq (.region [.m 115 20, .o 116 (.iaddr 1 (.tmp 115) (.const (.int .i64 0))), .o 117 (.l 116), .m 21 117]) (.seq (.region [.m 118 21, .m 119 13, .o 120 (.c .add 119 1), .o 121 (.sl 1 (.tmp 118) none (some (.tmp 120))), .o 122 (.q 178 [121]), .m 22 122]) (.seq (.seq (.region [.m 123 22, .o 124 (.n 123), .o 125 (.c .eql 124 0)]) (.cond (.tmp 125) (.seq (.region [.o 8 (.mv (.const (.slice none 0 0))), .k 9 0, .o 10 (.mv (.const (.bool false)))]) .ret) .skip)) (.seq (.region [.o 127 (.ld true 5 (.tmp 4)), .m 128 21, .m 129 13, .o 130 (.c .add 129 1), .o 131 (.sl 1 (.tmp 128) (some (.tmp 130)) none), .m 132 22, .o 133 (.q 179 [127,131,132]), .m 126 133, .o 134 (.e 0 126), .o 135 (.e 1 126), .m 23 134, .m 24 135]) (.seq (.seq (.region [.m 136 24, .o 137 (.n 136), .o 138 (.c .gtr 137 0), .m 139 138, .g 140 (.m 23) 139 false, .g 141 (.n 140) 139 false, .g 142 (.m 2) 139 false, .g 143 (.b .gtr 141 142) 139 false, .o 144 (.pick (.tmp 139) (.const (.bool true)) (.tmp 143))]) (.cond (.tmp 144) (.seq (.region [.o 8 (.mv (.const (.slice none 0 0))), .k 9 0, .o 10 (.mv (.const (.bool false)))]) .ret) .skip)) (.seq (.region [.m 145 23, .m 146 2, .m 147 23, .o 148 (.n 147), .o 149 (.b .sub 146 148), .o 150 (.appz 3 8 (.tmp 145) (.tmp 149)), .m 23 150]) (.seq (.region [.o 152 (.ld true 5 (.tmp 4)), .m 153 1, .m 154 3, .m 155 23, .o 156 (.q 180 [152,153,154,155]), .m 151 156, .o 157 (.e 0 151), .o 158 (.e 1 151), .m 25 157, .m 26 158]) (.seq (.seq (.region [.m 159 25, .o 160 (.bin .mul (.const (.int .i64 2)) (.tmp 159)), .m 161 11, .m 162 2, .o 163 (.b .sub 161 162), .o 164 (.b .gtr 160 163)]) (.cond (.tmp 164) (.seq (.region [.o 8 (.mv (.const (.slice none 0 0))), .k 9 0, .o 10 (.mv (.const (.bool false)))]) .ret) .skip)) (.seq (.region [.m 165 23, .m 166 25, .m 8 165, .m 9 166, .o 10 (.mv (.const (.bool true)))]) .ret))))))))))))))))))
def F108:AFun:=⟨c108,4,167,[(.tmp 8),(.tmp 9),(.tmp 10)]⟩
def K108:Nat→List Nat×List Nat
 |0=>([1,2,3,4,11,12],[1,2,3,4,11])
 |1=>([],[1,2,3,4,11,12])
 |2=>([1,2,3,4,11,13,14,15],[1,2,3,4,11,13,14])
 |3=>([],[1,2,3,4,11,13,14,15])
 |4=>([1,2,3,4,11,13,14,15,16,17,18],[1,2,3,4,11,13,14,15,16])
 |5=>([],[1,2,3,4,11,13,14,15,16,17,18])
 |6=>([1,2,3,4,11,13,14,15,16,17,19],[1,2,3,4,11,13,14,15,16])
 |7=>([],[1,2,3,4,11,13,14,15,16,17,19])
 |_=>([],[])
theorem F108_ok:kj8 Tryz.prog K108 Tryz.f108=some F108:=by kernel_rfl
/- 125: (syndrome/syndromeref.F).Add -/
def c125L0:ACode:=(.seq (.seq (.region [.m 47 9, .o 48 (.f 2 3), .o 49 (.l 48), .o 50 (.b .lss 47 49)]) (.cond (.tmp 50) .skip (.exit 0))) (.seq (.block 1 [3,7,8,9] (.region [.m 53 7, .m 54 9, .m 55 7, .m 56 9, .o 57 (.i 1 55 56), .o 58 (.l 57), .m 59 8, .m 60 9, .o 61 (.i 1 59 60), .o 62 (.l 61), .o 63 (.b .add 58 62), .o 64 (.f 1 3), .o 65 (.l 64), .o 66 (.b .rem 63 65), .o 67 (.i 1 53 54), .n (.st 1 (.tmp 67) (.tmp 66))])) (.region [.m 51 9, .o 52 (.c .add 51 1), .m 9 52])))
def c125:ACode:=(.seq (.region [.o 3 (.box 52 5 (.tmp 0)), .k 6 0]) (.seq (.seq (.region [.o 10 (.ld true 5 (.tmp 3)), .m 11 1, .o 12 (.q 97 [10,11]), .o 13 (.un .not (.tmp 12)), .m 14 13, .g 15 (.ld true 5 (.tmp 3)) 14 false, .g 16 (.m 2) 14 false, .g 17 (.q 97 [15,16]) 14 false, .g 18 (.un .not (.tmp 17)) 14 false, .o 19 (.pick (.tmp 14) (.const (.bool true)) (.tmp 18))]) (.cond (.tmp 19) (.seq (.region [.k 6 (-1)]) .ret) .skip)) (.seq (.seq (.region [.o 20 (.f 2 3), .o 21 (.l 20), .o 22 (.c .eql 21 1)]) (.cond (.tmp 22) (.seq (.region [.m 23 1, .m 24 2, .o 25 (.b .add 23 24), .o 26 (.f 1 3), .o 27 (.l 26), .o 28 (.b .rem 25 27), .m 6 28]) .ret) .skip)) (.seq (.seq (.region [.o 29 (.f 1 3), .o 30 (.l 29), .o 31 (.c .eql 30 2)]) (.cond (.tmp 31) (.seq (.region [.m 32 1, .m 33 2, .o 34 (.b .xor 32 33), .m 6 34]) .ret) .skip)) (.seq (.region [.m 35 1, .o 36 (.f 1 3), .o 37 (.l 36), .o 38 (.f 2 3), .o 39 (.l 38), .o 40 (.q 102 [35,37,39]), .m 7 40]) (.seq (.region [.m 41 2, .o 42 (.f 1 3), .o 43 (.l 42), .o 44 (.f 2 3), .o 45 (.l 44), .o 46 (.q 102 [41,43,45]), .m 8 46]) (.seq (.seq (.region [.k 9 0]) (.block 0 [3,7] (.loop [3,7,8,9] c125L0))) (.seq (.region [.m 68 7, .o 69 (.f 1 3), .o 70 (.l 69), .o 71 (.q 185 [68,70]), .m 6 71]) .ret))))))))
def F125:AFun:=⟨c125,3,72,[(.tmp 6)]⟩
def K125:Nat→List Nat×List Nat
 |0=>([3,7,8,9],[3,7])
 |1=>([],[3,7,8,9])
 |_=>([],[])
theorem F125_ok:kj8 Tryz.prog K125 Tryz.f125=some F125:=by kernel_rfl
end Go.Proofs.YtlhmdmedagjmnaaGreat
