/-
  Functions of this seat as the small machine's code, written by a program of my own (gen.py); each is checked to be what the model's function is turned into. No condition.
-/
import Derived.Test.YtlhmdmedagjmnaaGreatK1
import Derived.Test.YtlhmdmedagjmnaaGreatProg
set_option linter.unusedVariables false
set_option linter.unusedSimpArgs false
set_option linter.unusedSectionVars false
set_option maxRecDepth 100000
namespace Go.Proofs.YtlhmdmedagjmnaaGreat
open Go.Am
/- 9: syndrome/syndromelaw.ListsMade -/
def c9:ACode:=(.seq (.region [.o 12 (.mv (.const (.bool false)))]) (.seq (.seq (.region [.m 14 0, .o 15 (.n 14), .o 16 (.c .gtr 15 256)]) (.cond (.tmp 16) (.seq (.region [.o 12 (.mv (.const (.bool true)))]) .ret) .skip)) (.seq (.region [.o 17 (.mkSl 3 1 8 [(.const (.int .i64 3)),(.const (.int .i64 4)),(.const (.int .i64 5)),(.const (.int .i64 7)),(.const (.int .i64 8)),(.const (.int .i64 9)),(.const (.int .i64 11)),(.const (.int .i64 13))]), .m 18 1, .o 19 (.call 10 [(.tmp 18),(.const (.int .i64 8))]), .o 20 (.i 1 17 19), .o 21 (.l 20), .m 1 21]) (.seq (.region [.m 22 2, .m 23 1, .o 24 (.c .sub 23 1), .o 25 (.q 10 [22,24]), .o 26 (.bin .add (.const (.int .i64 2)) (.tmp 25)), .m 2 26]) (.seq (.region [.m 27 3, .o 28 (.call 10 [(.tmp 27),(.const (.int .i64 2))]), .o 29 (.bin .add (.const (.int .i64 1)) (.tmp 28)), .m 3 29]) (.seq (.region [.m 30 0, .m 31 1, .m 32 2, .o 33 (.q 44 [30,31,32]), .m 13 33]) (.seq (.region [.m 34 1, .m 35 13, .m 36 3, .m 37 0, .m 38 1, .m 39 2, .o 40 (.call 45 [(.tmp 37),(.const (.int .i64 3)),(.tmp 38),(.tmp 39)]), .m 41 4, .m 42 2, .o 43 (.q 10 [41,42]), .m 44 5, .m 45 2, .o 46 (.q 10 [44,45]), .o 47 (.bin .add (.const (.int .i64 1)) (.tmp 46)), .o 48 (.q 58 [34,35,36,40,43,47]), .m 12 48]) .ret)))))))
def F9:AFun:=⟨c9,6,49,[(.tmp 12)]⟩
def K9:Nat→List Nat×List Nat
 |_=>([],[])
theorem F9_ok:kj8 Tryz.prog K9 Tryz.f9=some F9:=by kernel_rfl
/- 10: syndrome/syndromeref.Pick -/
def c10:ACode:=(.seq (.region [.k 4 0]) (.seq (.seq (.region [.m 5 0, .o 6 (.c .lss 5 0)]) (.cond (.tmp 6) (.region [.m 7 0, .o 8 (.c .add 7 1), .o 9 (.un .neg (.tmp 8)), .m 0 9]) .skip)) (.seq (.region [.m 10 0, .m 11 1, .o 12 (.b .rem 10 11), .m 4 12]) .ret)))
def F10:AFun:=⟨c10,2,13,[(.tmp 4)]⟩
def K10:Nat→List Nat×List Nat
 |_=>([],[])
theorem F10_ok:kj8 Tryz.prog K10 Tryz.f10=some F10:=by kernel_rfl
/- 14: syndrome/syndromeref.Raw -/
def c14:ACode:=(.seq (.region [.k 4 0]) (.seq (.seq (.region [.m 5 0, .o 6 (.n 5), .o 7 (.c .eql 6 0)]) (.cond (.tmp 7) (.seq (.region [.m 8 1, .m 4 8]) .ret) .skip)) (.seq (.region [.m 9 0, .m 10 1, .m 11 0, .o 12 (.n 11), .o 13 (.b .rem 10 12), .o 14 (.i 1 9 13), .o 15 (.l 14), .m 16 1, .m 17 0, .o 18 (.n 17), .o 19 (.b .quo 16 18), .o 20 (.c .mul 19 7919), .o 21 (.b .add 15 20), .m 4 21]) .ret)))
def F14:AFun:=⟨c14,2,22,[(.tmp 4)]⟩
def K14:Nat→List Nat×List Nat
 |_=>([],[])
theorem F14_ok:kj8 Tryz.prog K14 Tryz.f14=some F14:=by kernel_rfl
/- 16: syndrome/syndromeref.Same -/
def c16L0:ACode:=(.seq (.seq (.region [.m 11 5, .m 12 0, .o 13 (.n 12), .o 14 (.b .lss 11 13)]) (.cond (.tmp 14) .skip (.exit 0))) (.seq (.block 1 [0,1,5] (.seq (.region [.m 17 0, .m 18 5, .o 19 (.i 1 17 18), .o 20 (.l 19), .m 21 1, .m 22 5, .o 23 (.i 1 21 22), .o 24 (.l 23), .o 25 (.b .neq 20 24)]) (.cond (.tmp 25) (.seq (.region [.o 4 (.mv (.const (.bool false)))]) .ret) .skip))) (.region [.m 15 5, .o 16 (.c .add 15 1), .m 5 16])))
def c16:ACode:=(.seq (.region [.o 4 (.mv (.const (.bool false)))]) (.seq (.seq (.region [.m 6 0, .o 7 (.n 6), .m 8 1, .o 9 (.n 8), .o 10 (.b .neq 7 9)]) (.cond (.tmp 10) (.seq (.region [.o 4 (.mv (.const (.bool false)))]) .ret) .skip)) (.seq (.seq (.region [.k 5 0]) (.block 0 [] (.loop [0,1,5] c16L0))) (.seq (.region [.o 4 (.mv (.const (.bool true)))]) .ret))))
def F16:AFun:=⟨c16,2,26,[(.tmp 4)]⟩
def K16:Nat→List Nat×List Nat
 |0=>([0,1,5],[])
 |1=>([],[0,1,5])
 |_=>([],[])
theorem F16_ok:kj8 Tryz.prog K16 Tryz.f16=some F16:=by kernel_rfl
/- 33: syndrome/reed.Check -/
def c33L0:ACode:=(.seq (.region [.o 30 (.b .lss 29 28)]) (.seq (.cond (.tmp 30) .skip (.exit 0)) (.seq (.block 1 [1,2,7,27,28,29] (.seq (.region [.m 31 29, .o 32 (.i 1 27 29), .o 33 (.l 32), .m 9 31, .m 10 33]) (.seq (.seq (.region [.m 34 7, .m 35 10, .o 36 (.q 95 [34,35]), .o 37 (.un .not (.tmp 36))]) (.cond (.tmp 37) (.seq (.region [.k 6 2]) .ret) .skip)) (.seq (.region [.m 38 1, .m 39 9, .o 40 (.sl 1 (.tmp 38) none (some (.tmp 39))), .m 41 10, .o 42 (.q 96 [40,41])]) (.cond (.tmp 42) (.seq (.region [.k 6 7]) .ret) .skip))))) (.region [.o 43 (.c .add 29 1), .m 29 43]))))
def c33:ACode:=(.seq (.region [.k 6 0]) (.seq (.region [.m 12 0, .o 13 (.q 81 [12]), .m 11 13, .o 14 (.e 0 11), .o 15 (.e 1 11), .m 7 14, .m 8 15]) (.seq (.seq (.region [.m 16 8, .o 17 (.c .neq 16 0)]) (.cond (.tmp 17) (.seq (.region [.m 18 8, .m 6 18]) .ret) .skip)) (.seq (.seq (.region [.m 19 1, .o 20 (.n 19), .o 21 (.c .lss 20 1), .m 22 21, .g 23 (.m 1) 22 false, .g 24 (.n 23) 22 false, .g 25 (.c .gtr 24 64) 22 false, .o 26 (.pick (.tmp 22) (.const (.bool true)) (.tmp 25))]) (.cond (.tmp 26) (.seq (.region [.k 6 4]) .ret) .skip)) (.seq (.seq (.region [.m 27 1, .o 28 (.n 27), .k 29 0]) (.block 0 [1,2] (.loop [1,2,7,27,28,29] c33L0))) (.seq (.seq (.region [.m 44 2, .o 45 (.c .lss 44 1), .m 46 45, .g 47 (.m 2) 46 false, .g 48 (.m 1) 46 false, .g 49 (.n 48) 46 false, .g 50 (.b .gtr 47 49) 46 false, .o 51 (.pick (.tmp 46) (.const (.bool true)) (.tmp 50))]) (.cond (.tmp 51) (.seq (.region [.k 6 6]) .ret) .skip)) (.seq (.region [.k 6 0]) .ret)))))))
def F33:AFun:=⟨c33,3,52,[(.tmp 6)]⟩
def K33:Nat→List Nat×List Nat
 |0=>([1,2,7,27,28,29],[1,2])
 |1=>([],[1,2,7,27,28,29])
 |_=>([],[])
theorem F33_ok:kj8 Tryz.prog K33 Tryz.f33=some F33:=by kernel_rfl
/- 34: syndrome/syndromeref.ReedMay -/
def c34L0:ACode:=(.seq (.seq (.region [.m 26 9, .m 27 1, .o 28 (.n 27), .o 29 (.b .lss 26 28)]) (.cond (.tmp 29) .skip (.exit 0))) (.seq (.block 1 [1,2,7,9] (.seq (.seq (.region [.o 32 (.ld true 5 (.tmp 7)), .m 33 1, .m 34 9, .o 35 (.i 1 33 34), .o 36 (.l 35), .o 37 (.q 97 [32,36]), .o 38 (.un .not (.tmp 37))]) (.cond (.tmp 38) (.seq (.region [.k 6 2]) .ret) .skip)) (.seq (.region [.m 39 1, .m 40 9, .o 41 (.i 1 39 40), .o 42 (.l 41), .m 43 1, .m 44 9, .o 45 (.sl 1 (.tmp 43) none (some (.tmp 44))), .o 46 (.q 98 [42,45])]) (.cond (.tmp 46) (.seq (.region [.k 6 7]) .ret) .skip)))) (.region [.m 30 9, .o 31 (.c .add 30 1), .m 9 31])))
def c34:ACode:=(.seq (.region [.k 6 0]) (.seq (.region [.m 11 0, .o 12 (.q 38 [11]), .m 10 12, .o 13 (.e 0 10), .o 14 (.e 1 10), .o 7 (.alloc 52 [(.int .i64 0),(.int .i64 0),(.int .i64 0),(.int .i64 0),(.slice none 0 0)]), .n (.st 5 (.tmp 7) (.tmp 13)), .m 8 14]) (.seq (.seq (.region [.m 15 8, .o 16 (.c .neq 15 0)]) (.cond (.tmp 16) (.seq (.region [.m 17 8, .m 6 17]) .ret) .skip)) (.seq (.seq (.region [.m 18 1, .o 19 (.n 18), .o 20 (.c .lss 19 1), .m 21 20, .g 22 (.m 1) 21 false, .g 23 (.n 22) 21 false, .g 24 (.c .gtr 23 64) 21 false, .o 25 (.pick (.tmp 21) (.const (.bool true)) (.tmp 24))]) (.cond (.tmp 25) (.seq (.region [.k 6 4]) .ret) .skip)) (.seq (.seq (.region [.k 9 0]) (.block 0 [1,2] (.loop [1,2,7,9] c34L0))) (.seq (.seq (.region [.m 47 2, .o 48 (.c .lss 47 1), .m 49 48, .g 50 (.m 2) 49 false, .g 51 (.m 1) 49 false, .g 52 (.n 51) 49 false, .g 53 (.b .gtr 50 52) 49 false, .o 54 (.pick (.tmp 49) (.const (.bool true)) (.tmp 53))]) (.cond (.tmp 54) (.seq (.region [.k 6 6]) .ret) .skip)) (.seq (.region [.k 6 0]) .ret)))))))
def F34:AFun:=⟨c34,3,55,[(.tmp 6)]⟩
def K34:Nat→List Nat×List Nat
 |0=>([1,2,7,9],[1,2])
 |1=>([],[1,2,7,9])
 |_=>([],[])
theorem F34_ok:kj8 Tryz.prog K34 Tryz.f34=some F34:=by kernel_rfl
/- 35: syndrome/reed.Word -/
def c35:ACode:=(.seq (.region [.k 8 0]) (.seq (.seq (.region [.m 12 0, .m 13 1, .m 14 2, .o 15 (.q 33 [12,13,14]), .m 9 15]) (.seq (.region [.m 16 9, .o 17 (.c .neq 16 0)]) (.cond (.tmp 17) (.seq (.region [.m 18 9, .m 8 18]) .ret) .skip))) (.seq (.seq (.region [.m 19 3, .o 20 (.n 19), .m 21 1, .o 22 (.n 21), .o 23 (.b .neq 20 22)]) (.cond (.tmp 23) (.seq (.region [.k 8 6]) .ret) .skip)) (.seq (.region [.m 25 0, .o 26 (.q 81 [25]), .m 24 26, .o 27 (.e 0 24), .o 28 (.e 1 24), .o 10 (.alloc 101 [(.pointer none)]), .n (.st 1 (.tmp 10) (.tmp 27)), .m 11 28]) (.seq (.seq (.region [.m 29 3, .o 30 (.mkf 99 [(.tmp 10)]), .o 31 (.q 61 [29,30])]) (.cond (.tmp 31) (.seq (.region [.k 8 2]) .ret) .skip)) (.seq (.region [.k 8 0]) .ret))))))
def F35:AFun:=⟨c35,4,32,[(.tmp 8)]⟩
def K35:Nat→List Nat×List Nat
 |_=>([],[])
theorem F35_ok:kj8 Tryz.prog K35 Tryz.f35=some F35:=by kernel_rfl
/- 36: syndrome/syndromeref.ReedWord -/
def c36L0:ACode:=(.seq (.seq (.region [.m 30 12, .m 31 3, .o 32 (.n 31), .o 33 (.b .lss 30 32)]) (.cond (.tmp 33) .skip (.exit 0))) (.seq (.block 1 [3,10,12] (.seq (.region [.m 36 3, .m 37 12, .o 38 (.i 1 36 37), .o 39 (.l 38), .o 40 (.c .neq 39 (-1)), .m 41 40, .g 42 (.ld true 5 (.tmp 10)) 41 true, .g 43 (.m 3) 41 true, .g 44 (.m 12) 41 true, .g 45 (.i 1 43 44) 41 true, .g 46 (.l 45) 41 true, .g 47 (.q 97 [42,46]) 41 true, .g 48 (.un .not (.tmp 47)) 41 true, .o 49 (.pick (.tmp 41) (.tmp 48) (.const (.bool false)))]) (.cond (.tmp 49) (.seq (.region [.k 8 2]) .ret) .skip))) (.region [.m 34 12, .o 35 (.c .add 34 1), .m 12 35])))
def c36:ACode:=(.seq (.region [.k 8 0]) (.seq (.region [.m 13 0, .m 14 1, .m 15 2, .o 16 (.q 34 [13,14,15]), .m 9 16]) (.seq (.seq (.region [.m 17 9, .o 18 (.c .neq 17 0)]) (.cond (.tmp 18) (.seq (.region [.m 19 9, .m 8 19]) .ret) .skip)) (.seq (.region [.m 21 0, .o 22 (.q 38 [21]), .m 20 22, .o 23 (.e 0 20), .o 24 (.e 1 20), .o 10 (.alloc 52 [(.int .i64 0),(.int .i64 0),(.int .i64 0),(.int .i64 0),(.slice none 0 0)]), .n (.st 5 (.tmp 10) (.tmp 23)), .m 11 24]) (.seq (.seq (.region [.m 25 3, .o 26 (.n 25), .m 27 1, .o 28 (.n 27), .o 29 (.b .neq 26 28)]) (.cond (.tmp 29) (.seq (.region [.k 8 6]) .ret) .skip)) (.seq (.seq (.region [.k 12 0]) (.block 0 [] (.loop [3,10,12] c36L0))) (.seq (.region [.k 8 0]) .ret)))))))
def F36:AFun:=⟨c36,4,50,[(.tmp 8)]⟩
def K36:Nat→List Nat×List Nat
 |0=>([3,10,12],[])
 |1=>([],[3,10,12])
 |_=>([],[])
theorem F36_ok:kj8 Tryz.prog K36 Tryz.f36=some F36:=by kernel_rfl
/- 38: syndrome/syndromeref.Field -/
def c38L0:ACode:=(.seq (.seq (.region [.m 32 7, .m 33 0, .o 34 (.b .lss 32 33)]) (.cond (.tmp 34) .skip (.exit 0))) (.seq (.block 1 [0,2,4,5,6,7] (.seq (.region [.o 37 (.ld true 5 (.tmp 6)), .m 38 7, .o 39 (.q 101 [37,38])]) (.cond (.tmp 39) (.seq (.region [.m 40 7, .o 41 (.f 3 6), .n (.st 1 (.tmp 41) (.tmp 40))]) (.seq (.region [.o 42 (.ld true 5 (.tmp 6)), .n (.st 5 (.tmp 2) (.tmp 42)), .k 3 0]) .ret)) .skip))) (.region [.m 35 7, .o 36 (.c .add 35 1), .m 7 36])))
def c38L1:ACode:=(.seq (.seq (.region [.m 45 8, .m 46 0, .o 47 (.b .lss 45 46)]) (.cond (.tmp 47) .skip (.exit 2))) (.seq (.block 3 [0,2,4,5,6,8] (.seq (.region [.m 50 8, .m 51 4, .m 52 5, .o 53 (.q 102 [50,51,52]), .o 54 (.mkSl 3 1 1 [(.const (.int .i64 1))]), .o 55 (.app 3 1 8 (.tmp 53) (.tmp 54)), .o 56 (.f 4 6), .n (.st 1 (.tmp 56) (.tmp 55))]) (.seq (.region [.o 57 (.ld true 5 (.tmp 6)), .m 58 4, .o 59 (.q 101 [57,58])]) (.cond (.tmp 59) (.seq (.region [.o 60 (.ld true 5 (.tmp 6)), .n (.st 5 (.tmp 2) (.tmp 60)), .k 3 0]) .ret) .skip)))) (.region [.m 48 8, .o 49 (.c .add 48 1), .m 8 49])))
def c38:ACode:=(.seq (.region [.o 2 (.alloc 52 [(.int .i64 0),(.int .i64 0),(.int .i64 0),(.int .i64 0),(.slice none 0 0)]), .k 3 0]) (.seq (.seq (.region [.m 9 0, .o 10 (.c .lss 9 2), .m 11 10, .g 12 (.m 0) 11 false, .g 13 (.c .gtr 12 64) 11 false, .o 14 (.pick (.tmp 11) (.const (.bool true)) (.tmp 13))]) (.cond (.tmp 14) (.seq (.region [.o 15 (.build [(.int .i64 0),(.int .i64 0),(.int .i64 0),(.int .i64 0),(.slice none 0 0)] [(0,1),(1,1),(2,1),(3,1),(4,1)] []), .n (.st 5 (.tmp 2) (.tmp 15)), .k 3 1]) .ret) .skip)) (.seq (.region [.m 17 0, .o 18 (.q 100 [17]), .m 16 18, .o 19 (.e 0 16), .o 20 (.e 1 16), .m 4 19, .m 5 20]) (.seq (.seq (.region [.m 21 4, .o 22 (.c .eql 21 0)]) (.cond (.tmp 22) (.seq (.region [.o 23 (.build [(.int .i64 0),(.int .i64 0),(.int .i64 0),(.int .i64 0),(.slice none 0 0)] [(0,1),(1,1),(2,1),(3,1),(4,1)] []), .n (.st 5 (.tmp 2) (.tmp 23)), .k 3 1]) .ret) .skip)) (.seq (.region [.m 24 0, .m 25 4, .m 26 5, .o 27 (.build [(.int .i64 0),(.int .i64 0),(.int .i64 0),(.int .i64 0),(.slice none 0 0)] [(0,1),(1,1),(2,1),(3,1),(4,1)] [(0,(.tmp 24)),(1,(.tmp 25)),(2,(.tmp 26))]), .o 6 (.alloc 52 [(.int .i64 0),(.int .i64 0),(.int .i64 0),(.int .i64 0),(.slice none 0 0)]), .n (.st 5 (.tmp 6) (.tmp 27))]) (.seq (.seq (.region [.m 28 5, .o 29 (.c .eql 28 1)]) (.cond (.tmp 29) (.seq (.region [.o 30 (.mkSl 3 1 2 [(.const (.int .i64 0)),(.const (.int .i64 1))]), .o 31 (.f 4 6), .n (.st 1 (.tmp 31) (.tmp 30))]) (.seq (.region [.k 7 1]) (.block 0 [0,2,4,5,6] (.loop [0,2,4,5,6,7] c38L0)))) .skip)) (.seq (.region [.m 43 4, .o 44 (.f 3 6), .n (.st 1 (.tmp 44) (.tmp 43))]) (.seq (.seq (.region [.k 8 0]) (.block 2 [2] (.loop [0,2,4,5,6,8] c38L1))) (.seq (.region [.o 61 (.build [(.int .i64 0),(.int .i64 0),(.int .i64 0),(.int .i64 0),(.slice none 0 0)] [(0,1),(1,1),(2,1),(3,1),(4,1)] []), .n (.st 5 (.tmp 2) (.tmp 61)), .k 3 1]) .ret)))))))))
def F38:AFun:=⟨c38,1,62,[(.cell 2 true 5),(.tmp 3)]⟩
def K38:Nat→List Nat×List Nat
 |0=>([0,2,4,5,6,7],[0,2,4,5,6])
 |1=>([],[0,2,4,5,6,7])
 |2=>([0,2,4,5,6,8],[2])
 |3=>([],[0,2,4,5,6,8])
 |_=>([],[])
theorem F38_ok:kj8 Tryz.prog K38 Tryz.f38=some F38:=by kernel_rfl
/- 44: syndrome/syndromeref.PlacesOf -/
def c44L0:ACode:=(.seq (.seq (.region [.m 14 8, .m 15 1, .o 16 (.b .lss 14 15)]) (.cond (.tmp 16) .skip (.exit 0))) (.seq (.block 1 [0,1,2,7,8] (.region [.m 19 7, .m 20 8, .m 21 8, .o 22 (.i 1 19 20), .n (.st 1 (.tmp 22) (.tmp 21))])) (.region [.m 17 8, .o 18 (.c .add 17 1), .m 8 18])))
def c44L1:ACode:=(.seq (.seq (.region [.m 23 9, .m 24 2, .o 25 (.b .lss 23 24)]) (.cond (.tmp 25) .skip (.exit 2))) (.seq (.block 3 [0,1,2,7,9] (.seq (.region [.m 28 9, .m 29 0, .m 30 9, .o 31 (.q 14 [29,30]), .m 32 1, .m 33 9, .o 34 (.b .sub 32 33), .o 35 (.q 10 [31,34]), .o 36 (.b .add 28 35), .m 10 36]) (.seq (.region [.m 37 7, .m 38 9, .o 39 (.i 1 37 38), .o 40 (.l 39), .m 11 40]) (.seq (.region [.m 41 7, .m 42 9, .m 43 7, .m 44 10, .o 45 (.i 1 43 44), .o 46 (.l 45), .o 47 (.i 1 41 42), .n (.st 1 (.tmp 47) (.tmp 46))]) (.region [.m 48 7, .m 49 10, .m 50 11, .o 51 (.i 1 48 49), .n (.st 1 (.tmp 51) (.tmp 50))]))))) (.region [.m 26 9, .o 27 (.c .add 26 1), .m 9 27])))
def c44:ACode:=(.seq (.region [.o 6 (.mv (.const (.slice none 0 0)))]) (.seq (.region [.m 12 1, .o 13 (.mks 3 1 8 [(.int .i64 0)] (.tmp 12) (.tmp 12)), .m 7 13]) (.seq (.seq (.region [.k 8 0]) (.block 0 [0,1,2,7] (.loop [0,1,2,7,8] c44L0))) (.seq (.seq (.region [.k 9 0]) (.block 2 [2,7] (.loop [0,1,2,7,9] c44L1))) (.seq (.region [.m 52 7, .m 53 2, .o 54 (.sl 1 (.tmp 52) none (some (.tmp 53))), .m 6 54]) .ret)))))
def F44:AFun:=⟨c44,3,55,[(.tmp 6)]⟩
def K44:Nat→List Nat×List Nat
 |0=>([0,1,2,7,8],[0,1,2,7])
 |1=>([],[0,1,2,7,8])
 |2=>([0,1,2,7,9],[2,7])
 |3=>([],[0,1,2,7,9])
 |_=>([],[])
theorem F44_ok:kj8 Tryz.prog K44 Tryz.f44=some F44:=by kernel_rfl
/- 45: syndrome/syndromeref.Numbers -/
def c45L0:ACode:=(.seq (.seq (.region [.m 11 10, .m 12 3, .o 13 (.b .lss 11 12)]) (.cond (.tmp 13) .skip (.exit 0))) (.seq (.block 1 [0,1,2,3,9,10] (.region [.m 16 9, .m 17 0, .m 18 1, .m 19 10, .o 20 (.b .add 18 19), .o 21 (.q 14 [17,20]), .m 22 2, .o 23 (.q 10 [21,22]), .o 24 (.mkSl 3 1 1 [(.tmp 23)]), .o 25 (.app 3 1 8 (.tmp 16) (.tmp 24)), .m 9 25])) (.region [.m 14 10, .o 15 (.c .add 14 1), .m 10 15])))
def c45:ACode:=(.seq (.region [.o 8 (.mv (.const (.slice none 0 0)))]) (.seq (.region [.o 9 (.mv (.const (.slice none 0 0)))]) (.seq (.seq (.region [.k 10 0]) (.block 0 [9] (.loop [0,1,2,3,9,10] c45L0))) (.seq (.region [.m 26 9, .m 8 26]) .ret))))
def F45:AFun:=⟨c45,4,27,[(.tmp 8)]⟩
def K45:Nat→List Nat×List Nat
 |0=>([0,1,2,3,9,10],[9])
 |1=>([],[0,1,2,3,9,10])
 |_=>([],[])
theorem F45_ok:kj8 Tryz.prog K45 Tryz.f45=some F45:=by kernel_rfl
/- 53: syndrome/syndromelaw.lists -/
def c53:ACode:=(.seq (.region [.o 8 (.mv (.const (.bool false)))]) (.seq (.seq (.region [.m 9 3, .o 10 (.c .neq 9 0)]) (.cond (.tmp 10) (.seq (.region [.m 11 1, .m 12 3, .o 13 (.b .eql 11 12), .m 14 13, .g 15 (.m 0) 14 true, .g 16 (.n 15) 14 true, .g 17 (.c .eql 16 0) 14 true, .o 18 (.pick (.tmp 14) (.tmp 17) (.const (.bool false))), .m 8 18]) .ret) .skip)) (.seq (.region [.m 19 1, .o 20 (.c .eql 19 0), .m 21 20, .g 22 (.m 0) 21 true, .g 23 (.m 2) 21 true, .g 24 (.q 116 [22,23]) 21 true, .o 25 (.pick (.tmp 21) (.tmp 24) (.const (.bool false))), .m 8 25]) .ret)))
def F53:AFun:=⟨c53,4,26,[(.tmp 8)]⟩
def K53:Nat→List Nat×List Nat
 |_=>([],[])
theorem F53_ok:kj8 Tryz.prog K53 Tryz.f53=some F53:=by kernel_rfl
/- 58: syndrome/syndromelaw.ListsSay -/
def c58:ACode:=(.seq (.region [.o 12 (.mv (.const (.bool false)))]) (.seq (.seq (.region [.m 24 1, .o 25 (.n 24), .m 26 3, .o 27 (.n 26), .o 28 (.b .add 25 27), .o 29 (.c .gtr 28 200)]) (.cond (.tmp 29) (.seq (.region [.o 12 (.mv (.const (.bool true)))]) .ret) .skip)) (.seq (.region [.m 30 0, .m 31 1, .m 32 2, .m 33 3, .o 34 (.q 127 [30,31,32,33]), .m 13 34]) (.seq (.region [.m 35 13, .m 14 35]) (.seq (.seq (.region [.m 36 14, .o 37 (.c .eql 36 0), .m 38 37, .g 39 (.m 0) 38 true, .g 40 (.m 2) 38 true, .g 41 (.q 128 [39,40]) 38 true, .g 42 (.un .not (.tmp 41)) 38 true, .o 43 (.pick (.tmp 38) (.tmp 42) (.const (.bool false)))]) (.cond (.tmp 43) (.region [.k 14 4]) .skip)) (.seq (.region [.m 45 0, .o 46 (.q 38 [45]), .m 44 46, .o 47 (.e 0 44), .o 48 (.e 1 44), .o 15 (.alloc 52 [(.int .i64 0),(.int .i64 0),(.int .i64 0),(.int .i64 0),(.slice none 0 0)]), .n (.st 5 (.tmp 15) (.tmp 47)), .m 16 48]) (.seq (.region [.o 17 (.mv (.const (.slice none 0 0)))]) (.seq (.seq (.region [.m 49 14, .o 50 (.c .eql 49 0)]) (.cond (.tmp 50) (.region [.o 51 (.ld true 5 (.tmp 15)), .m 52 1, .m 53 2, .m 54 3, .m 55 4, .o 56 (.q 129 [51,52,53,54,55]), .m 17 56]) .skip)) (.seq (.region [.m 58 0, .m 59 1, .m 60 2, .m 61 3, .m 62 4, .o 63 (.q 130 [58,59,60,61,62]), .m 57 63, .o 64 (.e 0 57), .o 65 (.e 1 57), .m 18 64, .m 19 65]) (.seq (.seq (.region [.m 66 18, .m 67 19, .m 68 17, .m 69 14, .o 70 (.q 53 [66,67,68,69]), .o 71 (.un .not (.tmp 70))]) (.cond (.tmp 71) (.seq (.region [.o 12 (.mv (.const (.bool false)))]) .ret) .skip)) (.seq (.seq (.region [.m 72 13, .o 73 (.c .eql 72 0), .m 74 73, .g 75 (.m 2) 74 true, .g 76 (.c .lss 75 2) 74 true, .g 77 (.m 76) 74 true, .g 78 (.m 5) 77 false, .g 79 (.c .lss 78 1) 77 false, .g 80 (.pick (.tmp 77) (.const (.bool true)) (.tmp 79)) 74 true, .g 81 (.m 80) 74 true, .g 82 (.m 5) 81 false, .g 83 (.m 1) 81 false, .g 84 (.n 83) 81 false, .g 85 (.b .gtr 82 84) 81 false, .g 86 (.pick (.tmp 81) (.const (.bool true)) (.tmp 85)) 74 true, .o 87 (.pick (.tmp 74) (.tmp 86) (.const (.bool false)))]) (.cond (.tmp 87) (.region [.k 13 6]) .skip)) (.seq (.region [.o 20 (.mv (.const (.slice none 0 0)))]) (.seq (.seq (.region [.m 88 13, .o 89 (.c .eql 88 0)]) (.cond (.tmp 89) (.seq (.region [.o 91 (.ld true 5 (.tmp 15)), .m 92 1, .m 93 2, .m 94 3, .m 95 5, .o 96 (.q 131 [91,92,93,94,95]), .m 90 96, .o 97 (.e 0 90), .o 98 (.e 1 90), .m 21 97, .m 22 98]) (.seq (.region [.m 99 21, .m 20 99]) (.seq (.region [.m 100 22, .o 101 (.un .not (.tmp 100))]) (.cond (.tmp 101) (.region [.k 13 9]) .skip)))) .skip)) (.seq (.region [.m 103 0, .m 104 1, .m 105 2, .m 106 3, .m 107 5, .o 108 (.q 132 [103,104,105,106,107]), .m 102 108, .o 109 (.e 0 102), .o 110 (.e 1 102), .m 23 109, .m 19 110]) (.seq (.region [.m 111 23, .m 112 19, .m 113 20, .m 114 13, .o 115 (.q 53 [111,112,113,114]), .m 12 115]) .ret)))))))))))))))
def F58:AFun:=⟨c58,6,116,[(.tmp 12)]⟩
def K58:Nat→List Nat×List Nat
 |_=>([],[])
theorem F58_ok:kj8 Tryz.prog K58 Tryz.f58=some F58:=by kernel_rfl
/- 61: slices.ContainsFunc[[]int,int] -/
def c61:ACode:=(.seq (.region [.o 4 (.mv (.const (.bool false)))]) (.seq (.region [.m 5 0, .m 6 1, .o 7 (.q 133 [5,6]), .o 8 (.c .geq 7 0), .m 4 8]) .ret))
def F61:AFun:=⟨c61,2,9,[(.tmp 4)]⟩
def K61:Nat→List Nat×List Nat
 |_=>([],[])
theorem F61_ok:kj8 Tryz.prog K61 Tryz.f61=some F61:=by kernel_rfl
/- 65: slices.Clone[[]int,int] -/
def c65:ACode:=(.seq (.region [.o 2 (.mv (.const (.slice none 0 0)))]) (.seq (.seq (.region [.m 3 0, .o 4 (.eqn false 0 (.tmp 3))]) (.cond (.tmp 4) (.seq (.region [.o 2 (.mv (.const (.slice none 0 0)))]) .ret) .skip)) (.seq (.region [.o 5 (.mkSl 3 1 0 []), .m 6 0, .o 7 (.app 3 1 8 (.tmp 5) (.tmp 6)), .m 2 7]) .ret)))
def F65:AFun:=⟨c65,1,8,[(.tmp 2)]⟩
def K65:Nat→List Nat×List Nat
 |_=>([],[])
theorem F65_ok:kj8 Tryz.prog K65 Tryz.f65=some F65:=by kernel_rfl
/- 77: (syndrome/syndromeref.F).Reduce -/
def c77L0:ACode:=(.seq (.seq (.region [.m 27 10, .m 28 6, .o 29 (.n 28), .o 30 (.b .lss 27 29)]) (.cond (.tmp 30) .skip (.exit 2))) (.seq (.block 3 [1,2,6,7,8,9,10] (.region [.o 33 (.ld true 5 (.tmp 2)), .m 34 9, .m 35 6, .m 36 10, .o 37 (.i 1 35 36), .o 38 (.l 37), .m 39 9, .m 40 7, .m 41 10, .o 42 (.i 1 40 41), .o 43 (.l 42), .o 44 (.i 1 39 43), .o 45 (.l 44), .o 46 (.q 139 [33,34,38,45]), .m 9 46])) (.region [.m 31 10, .o 32 (.c .add 31 1), .m 10 32])))
def c77L1:ACode:=(.seq (.seq (.region [.m 47 11, .m 48 9, .o 49 (.n 48), .o 50 (.b .lss 47 49), .m 51 50, .g 52 (.m 9) 51 true, .g 53 (.m 11) 51 true, .g 54 (.i 1 52 53) 51 true, .g 55 (.l 54) 51 true, .g 56 (.c .eql 55 0) 51 true, .o 57 (.pick (.tmp 51) (.tmp 56) (.const (.bool false)))]) (.cond (.tmp 57) .skip (.exit 4))) (.block 5 [1,2,6,7,8,9,11] (.region [.m 58 11, .o 59 (.c .add 58 1), .m 11 59])))
def c77L2:ACode:=(.seq (.seq (.region [.m 70 13, .m 71 9, .o 72 (.n 71), .o 73 (.b .lss 70 72)]) (.cond (.tmp 73) .skip (.exit 6))) (.seq (.block 7 [1,2,6,7,8,9,11,12,13] (.region [.m 76 9, .m 77 13, .o 78 (.ld true 5 (.tmp 2)), .m 79 9, .m 80 13, .o 81 (.i 1 79 80), .o 82 (.l 81), .m 83 12, .o 84 (.q 126 [78,82,83]), .o 85 (.i 1 76 77), .n (.st 1 (.tmp 85) (.tmp 84))])) (.region [.m 74 13, .o 75 (.c .add 74 1), .m 13 75])))
def c77L3:ACode:=(.seq (.seq (.region [.m 86 14, .m 87 6, .o 88 (.n 87), .o 89 (.b .lss 86 88)]) (.cond (.tmp 89) .skip (.exit 8))) (.seq (.block 9 [1,2,6,7,8,9,11,14] (.region [.m 92 6, .m 93 14, .o 94 (.ld true 5 (.tmp 2)), .m 95 6, .m 96 14, .o 97 (.i 1 95 96), .o 98 (.l 97), .m 99 9, .m 100 6, .m 101 14, .o 102 (.i 1 100 101), .o 103 (.l 102), .m 104 11, .o 105 (.i 1 103 104), .o 106 (.l 105), .o 107 (.q 139 [94,98,99,106]), .o 108 (.i 1 92 93), .n (.st 1 (.tmp 108) (.tmp 107))])) (.region [.m 90 14, .o 91 (.c .add 90 1), .m 14 91])))
def c77L4:ACode:=(.seq (.seq (.region [.m 109 15, .m 110 6, .o 111 (.n 110), .o 112 (.b .lss 109 111), .m 113 112, .g 114 (.m 7) 113 true, .g 115 (.m 15) 113 true, .g 116 (.i 1 114 115) 113 true, .g 117 (.l 116) 113 true, .g 118 (.m 11) 113 true, .g 119 (.b .lss 117 118) 113 true, .o 120 (.pick (.tmp 113) (.tmp 119) (.const (.bool false)))]) (.cond (.tmp 120) .skip (.exit 10))) (.block 11 [1,2,6,7,8,9,11,15] (.region [.m 121 15, .o 122 (.c .add 121 1), .m 15 122])))
def c77L5:ACode:=(.seq (.seq (.region [.m 16 8, .m 17 1, .o 18 (.n 17), .o 19 (.b .lss 16 18)]) (.cond (.tmp 19) .skip (.exit 0))) (.seq (.block 1 [1,2,6,7,8] (.seq (.region [.m 22 1, .m 23 8, .o 24 (.i 1 22 23), .o 25 (.l 24), .o 26 (.q 138 [25]), .m 9 26]) (.seq (.seq (.region [.k 10 0]) (.block 2 [1,2,6,7,8,9] (.loop [1,2,6,7,8,9,10] c77L0))) (.seq (.region [.k 11 0]) (.seq (.block 4 [1,2,6,7,8,9,11] (.loop [1,2,6,7,8,9,11] c77L1)) (.seq (.seq (.region [.m 60 11, .m 61 9, .o 62 (.n 61), .o 63 (.b .eql 60 62)]) (.cond (.tmp 63) (.exit 1) .skip)) (.seq (.region [.o 64 (.ld true 5 (.tmp 2)), .m 65 9, .m 66 11, .o 67 (.i 1 65 66), .o 68 (.l 67), .o 69 (.q 140 [64,68]), .m 12 69]) (.seq (.seq (.region [.k 13 0]) (.block 6 [1,2,6,7,8,9,11] (.loop [1,2,6,7,8,9,11,12,13] c77L2))) (.seq (.seq (.region [.k 14 0]) (.block 8 [1,2,6,7,8,9,11] (.loop [1,2,6,7,8,9,11,14] c77L3))) (.seq (.region [.k 15 0]) (.seq (.block 10 [1,2,6,7,8,9,11,15] (.loop [1,2,6,7,8,9,11,15] c77L4)) (.seq (.region [.o 123 (.mkSl 22 1 0 []), .m 124 6, .m 125 15, .o 126 (.sl 1 (.tmp 124) none (some (.tmp 125))), .o 127 (.app 22 1 24 (.tmp 123) (.tmp 126)), .m 128 9, .o 129 (.mkSl 22 1 1 [(.tmp 128)]), .o 130 (.app 22 1 24 (.tmp 127) (.tmp 129)), .m 131 6, .m 132 15, .o 133 (.sl 1 (.tmp 131) (some (.tmp 132)) none), .o 134 (.app 22 1 24 (.tmp 130) (.tmp 133)), .m 6 134]) (.region [.o 135 (.mkSl 3 1 0 []), .m 136 7, .m 137 15, .o 138 (.sl 1 (.tmp 136) none (some (.tmp 137))), .o 139 (.app 3 1 8 (.tmp 135) (.tmp 138)), .m 140 11, .o 141 (.mkSl 3 1 1 [(.tmp 140)]), .o 142 (.app 3 1 8 (.tmp 139) (.tmp 141)), .m 143 7, .m 144 15, .o 145 (.sl 1 (.tmp 143) (some (.tmp 144)) none), .o 146 (.app 3 1 8 (.tmp 142) (.tmp 145)), .m 7 146]))))))))))))) (.region [.m 20 8, .o 21 (.c .add 20 1), .m 8 21])))
def c77:ACode:=(.seq (.region [.o 2 (.box 52 5 (.tmp 0)), .o 4 (.mv (.const (.slice none 0 0))), .o 5 (.mv (.const (.slice none 0 0)))]) (.seq (.region [.o 6 (.mv (.const (.slice none 0 0)))]) (.seq (.region [.o 7 (.mv (.const (.slice none 0 0)))]) (.seq (.seq (.region [.k 8 0]) (.block 0 [6,7] (.loop [1,2,6,7,8] c77L5))) (.seq (.region [.m 147 6, .m 148 7, .m 4 147, .m 5 148]) .ret)))))
def F77:AFun:=⟨c77,2,149,[(.tmp 4),(.tmp 5)]⟩
def K77:Nat→List Nat×List Nat
 |0=>([1,2,6,7,8],[6,7])
 |1=>([],[1,2,6,7,8])
 |2=>([1,2,6,7,8,9,10],[1,2,6,7,8,9])
 |3=>([],[1,2,6,7,8,9,10])
 |4=>([1,2,6,7,8,9,11],[1,2,6,7,8,9,11])
 |5=>([],[1,2,6,7,8,9,11])
 |6=>([1,2,6,7,8,9,11,12,13],[1,2,6,7,8,9,11])
 |7=>([],[1,2,6,7,8,9,11,12,13])
 |8=>([1,2,6,7,8,9,11,14],[1,2,6,7,8,9,11])
 |9=>([],[1,2,6,7,8,9,11,14])
 |10=>([1,2,6,7,8,9,11,15],[1,2,6,7,8,9,11,15])
 |11=>([],[1,2,6,7,8,9,11,15])
 |_=>([],[])
theorem F77_ok:kj8 Tryz.prog K77 Tryz.f77=some F77:=by kernel_rfl
/- 78: (syndrome/syndromeref.F).Null -/
def c78L0:ACode:=(.seq (.seq (.region [.m 32 12, .m 33 7, .o 34 (.n 33), .o 35 (.b .lss 32 34)]) (.cond (.tmp 35) .skip (.exit 2))) (.seq (.block 3 [2,3,7,8,9,10,11,12] (.region [.m 38 11, .m 39 8, .m 40 12, .o 41 (.i 1 39 40), .o 42 (.l 41), .o 43 (.ld true 5 (.tmp 3)), .m 44 7, .m 45 12, .o 46 (.i 1 44 45), .o 47 (.l 46), .m 48 10, .o 49 (.i 1 47 48), .o 50 (.l 49),⟨(some 51),(.call 141 [(.tmp 43),(.tmp 50)]),none,true⟩, .o 52 (.i 1 38 42), .n (.st 1 (.tmp 52) (.tmp 51))])) (.region [.m 36 12, .o 37 (.c .add 36 1), .m 12 37])))
def c78L1:ACode:=(.seq (.seq (.region [.m 19 10, .m 20 2, .o 21 (.b .lss 19 20)]) (.cond (.tmp 21) .skip (.exit 0))) (.seq (.block 1 [2,3,7,8,9,10] (.seq (.seq (.region [.m 24 10, .m 25 8, .o 26 (.q 98 [24,25])]) (.cond (.tmp 26) (.exit 1) .skip)) (.seq (.region [.m 27 2, .o 28 (.mks 3 1 8 [(.int .i64 0)] (.tmp 27) (.tmp 27)), .m 11 28]) (.seq (.region [.m 29 11, .m 30 10, .o 31 (.i 1 29 30), .n (.st 1 (.tmp 31) (.const (.int .i64 1)))]) (.seq (.seq (.region [.k 12 0]) (.block 2 [2,3,7,8,9,10,11] (.loop [2,3,7,8,9,10,11,12] c78L0))) (.region [.m 53 9, .m 54 11, .o 55 (.mkSl 22 1 1 [(.tmp 54)]), .o 56 (.app 22 1 24 (.tmp 53) (.tmp 55)), .m 9 56])))))) (.region [.m 22 10, .o 23 (.c .add 22 1), .m 10 23])))
def c78:ACode:=(.seq (.region [.o 3 (.box 52 5 (.tmp 0)), .o 6 (.mv (.const (.slice none 0 0)))]) (.seq (.region [.o 14 (.ld true 5 (.tmp 3)), .m 15 1, .o 16 (.q 77 [14,15]), .m 13 16, .o 17 (.e 0 13), .o 18 (.e 1 13), .m 7 17, .m 8 18]) (.seq (.region [.o 9 (.mv (.const (.slice none 0 0)))]) (.seq (.seq (.region [.k 10 0]) (.block 0 [3,9] (.loop [2,3,7,8,9,10] c78L1))) (.seq (.region [.o 58 (.ld true 5 (.tmp 3)), .m 59 9, .o 60 (.q 77 [58,59]), .m 57 60, .o 61 (.e 0 57), .o 62 (.e 1 57), .m 9 61]) (.seq (.region [.m 63 9, .m 6 63]) .ret))))))
def F78:AFun:=⟨c78,3,64,[(.tmp 6)]⟩
def K78:Nat→List Nat×List Nat
 |0=>([2,3,7,8,9,10],[3,9])
 |1=>([],[2,3,7,8,9,10])
 |2=>([2,3,7,8,9,10,11,12],[2,3,7,8,9,10,11])
 |3=>([],[2,3,7,8,9,10,11,12])
 |_=>([],[])
theorem F78_ok:kj8 Tryz.prog K78 Tryz.f78=some F78:=by kernel_rfl
/- 79: syndrome/matrix.Reduce -/
def c79L0:ACode:=(.seq (.region [.o 92 (.b .lss 91 90)]) (.seq (.cond (.tmp 92) .skip (.exit 2)) (.seq (.block 3 [1,5,8,10,11,90,91] (.seq (.region [.m 93 91, .m 13 93]) (.seq (.region [.m 94 13, .m 95 11, .o 96 (.b .neq 94 95), .m 97 96, .g 98 (.m 1) 97 true, .g 99 (.m 13) 97 true, .g 100 (.i 1 98 99) 97 true, .g 101 (.l 100) 97 true, .g 102 (.l 10) 97 true, .g 103 (.i 1 101 102) 97 true, .g 104 (.l 103) 97 true, .g 105 (.c .neq 104 0) 97 true, .o 106 (.pick (.tmp 97) (.tmp 105) (.const (.bool false)))]) (.cond (.tmp 106) (.region [.m 107 8, .m 108 1, .m 109 13, .o 110 (.i 1 108 109), .o 111 (.l 110), .m 112 1, .m 113 11, .o 114 (.i 1 112 113), .o 115 (.l 114), .m 116 1, .m 117 13, .o 118 (.i 1 116 117), .o 119 (.l 118), .o 120 (.l 10), .o 121 (.i 1 119 120), .o 122 (.l 121), .o 123 (.q 147 [107,111,115,122])]) .skip)))) (.region [.o 124 (.c .add 91 1), .m 91 124]))))
def c79L1:ACode:=(.seq (.seq (.region [.o 32 (.l 10), .m 33 1, .o 34 (.iaddr 1 (.tmp 33) (.const (.int .i64 0))), .o 35 (.l 34), .o 36 (.n 35), .o 37 (.b .lss 32 36), .m 38 37, .g 39 (.m 5) 38 true, .g 40 (.n 39) 38 true, .g 41 (.m 1) 38 true, .g 42 (.n 41) 38 true, .g 43 (.b .lss 40 42) 38 true, .o 44 (.pick (.tmp 38) (.tmp 43) (.const (.bool false)))]) (.cond (.tmp 44) .skip (.exit 0))) (.seq (.block 1 [1,5,8,10] (.seq (.region [.m 47 5, .o 48 (.n 47), .m 11 48]) (.seq (.region [.m 49 1, .m 50 11, .o 51 (.sl 1 (.tmp 49) (some (.tmp 50)) none), .o 52 (.mkf 144 [(.tmp 10)]), .o 53 (.q 143 [51,52]), .m 12 53]) (.seq (.seq (.region [.m 54 12, .o 55 (.c .lss 54 0)]) (.cond (.tmp 55) (.exit 1) .skip)) (.seq (.region [.m 56 1, .m 57 11, .m 58 1, .m 59 11, .m 60 12, .o 61 (.b .add 59 60), .m 62 1, .m 63 11, .m 64 12, .o 65 (.b .add 63 64), .o 66 (.i 1 62 65), .o 67 (.l 66), .m 68 1, .m 69 11, .o 70 (.i 1 68 69), .o 71 (.l 70), .o 72 (.i 1 56 57), .n (.st 1 (.tmp 72) (.tmp 67)), .o 73 (.i 1 58 61), .n (.st 1 (.tmp 73) (.tmp 71))]) (.seq (.region [.m 74 8, .m 75 1, .m 76 11, .o 77 (.i 1 75 76), .o 78 (.l 77), .m 79 8, .m 80 1, .m 81 11, .o 82 (.i 1 80 81), .o 83 (.l 82), .o 84 (.l 10), .o 85 (.i 1 83 84), .o 86 (.l 85),⟨(some 87),(.call 146 [(.tmp 79),(.tmp 86)]),none,true⟩, .o 88 (.q 145 [74,78,87])]) (.seq (.seq (.region [.m 89 1, .o 90 (.n 89), .k 91 0]) (.block 2 [1,5,8,10] (.loop [1,5,8,10,11,90,91] c79L0))) (.region [.m 125 5, .o 126 (.l 10), .o 127 (.mkSl 3 1 1 [(.tmp 126)]), .o 128 (.app 3 1 8 (.tmp 125) (.tmp 127)), .m 5 128])))))))) (.seq (.seq (.region [.o 129 (.l 10)]) (.region [.o 10 (.alloc 3 [(.int .i64 0)]), .n (.st 1 (.tmp 10) (.tmp 129))])) (.region [.o 45 (.l 10), .o 46 (.c .add 45 1), .n (.st 1 (.tmp 10) (.tmp 46))]))))
def c79:ACode:=(.seq (.region [.o 4 (.mv (.const (.slice none 0 0))), .o 5 (.mv (.const (.slice none 0 0))), .k 6 0]) (.seq (.seq (.region [.m 14 0, .m 15 1, .o 16 (.q 82 [14,15]), .m 7 16]) (.seq (.region [.m 17 7, .o 18 (.c .neq 17 0), .m 19 18, .g 20 (.m 1) 19 false, .g 21 (.n 20) 19 false, .g 22 (.c .eql 21 0) 19 false, .o 23 (.pick (.tmp 19) (.const (.bool true)) (.tmp 22))]) (.cond (.tmp 23) (.seq (.region [.m 24 7, .o 4 (.mv (.const (.slice none 0 0))), .o 5 (.mv (.const (.slice none 0 0))), .m 6 24]) .ret) .skip))) (.seq (.region [.m 26 0, .o 27 (.q 81 [26]), .m 25 27, .o 28 (.e 0 25), .o 29 (.e 1 25), .m 8 28, .m 9 29]) (.seq (.region [.m 30 1, .o 31 (.q 142 [30]), .m 1 31]) (.seq (.seq (.region [.o 10 (.alloc 3 [(.int .i64 0)]), .n (.st 1 (.tmp 10) (.const (.int .i64 0)))]) (.block 0 [1,5] (.loop [1,5,8,10] c79L1))) (.seq (.region [.m 130 1, .m 131 5, .o 132 (.n 131), .m 133 5, .o 134 (.n 133), .o 135 (.sl3 (.tmp 130) (.tmp 132) (.tmp 134)), .m 136 5, .m 4 135, .m 5 136, .k 6 0]) .ret))))))
def F79:AFun:=⟨c79,2,137,[(.tmp 4),(.tmp 5),(.tmp 6)]⟩
def K79:Nat→List Nat×List Nat
 |0=>([1,5,8,10],[1,5])
 |1=>([],[1,5,8,10])
 |2=>([1,5,8,10,11,90,91],[1,5,8,10])
 |3=>([],[1,5,8,10,11,90,91])
 |_=>([],[])
theorem F79_ok:kj8 Tryz.prog K79 Tryz.f79=some F79:=by kernel_rfl
/- 80: syndrome/matrix.Null -/
def c80L0:ACode:=(.seq (.region [.o 57 (.b .lss 56 55)]) (.seq (.cond (.tmp 57) .skip (.exit 2)) (.seq (.block 3 [0,1,6,7,9,11,12,13,39,40,54,55,56] (.seq (.region [.m 58 56, .o 59 (.i 1 54 56), .o 60 (.l 59), .m 14 58, .m 15 60]) (.region [.m 61 13, .m 62 15, .m 63 9, .m 64 6, .m 65 14, .o 66 (.i 1 64 65), .o 67 (.l 66), .m 68 12, .o 69 (.i 1 67 68), .o 70 (.l 69), .o 71 (.q 148 [63,70]), .o 72 (.i 1 61 62), .n (.st 1 (.tmp 72) (.tmp 71))]))) (.region [.o 73 (.c .add 56 1), .m 56 73]))))
def c80L1:ACode:=(.seq (.region [.o 41 (.b .lss 40 39)]) (.seq (.cond (.tmp 41) .skip (.exit 0)) (.seq (.block 1 [0,1,6,7,9,11,39,40] (.seq (.region [.m 42 40, .m 12 42]) (.seq (.seq (.region [.m 43 7, .m 44 12, .o 45 (.q 96 [43,44])]) (.cond (.tmp 45) (.exit 1) .skip)) (.seq (.region [.m 46 1, .o 47 (.iaddr 1 (.tmp 46) (.const (.int .i64 0))), .o 48 (.l 47), .o 49 (.n 48), .o 50 (.mks 3 1 8 [(.int .i64 0)] (.tmp 49) (.tmp 49)), .m 13 50]) (.seq (.region [.m 51 13, .m 52 12, .o 53 (.i 1 51 52), .n (.st 1 (.tmp 53) (.const (.int .i64 1)))]) (.seq (.seq (.region [.m 54 7, .o 55 (.n 54), .k 56 0]) (.block 2 [0,1,6,7,9,11,13,39,40] (.loop [0,1,6,7,9,11,12,13,39,40,54,55,56] c80L0))) (.region [.m 74 11, .m 75 13, .o 76 (.mkSl 22 1 1 [(.tmp 75)]), .o 77 (.app 22 1 24 (.tmp 74) (.tmp 76)), .m 11 77]))))))) (.region [.o 78 (.c .add 40 1), .m 40 78]))))
def c80:ACode:=(.seq (.region [.o 4 (.mv (.const (.slice none 0 0))), .k 5 0]) (.seq (.region [.m 17 0, .m 18 1, .o 19 (.q 79 [17,18]), .m 16 19, .o 20 (.e 0 16), .o 21 (.e 1 16), .o 22 (.e 2 16), .m 6 20, .m 7 21, .m 8 22]) (.seq (.seq (.region [.m 23 8, .o 24 (.c .neq 23 0), .m 25 24, .g 26 (.m 1) 25 false, .g 27 (.n 26) 25 false, .g 28 (.c .eql 27 0) 25 false, .o 29 (.pick (.tmp 25) (.const (.bool true)) (.tmp 28))]) (.cond (.tmp 29) (.seq (.region [.m 30 8, .o 4 (.mv (.const (.slice none 0 0))), .m 5 30]) .ret) .skip)) (.seq (.region [.m 32 0, .o 33 (.q 81 [32]), .m 31 33, .o 34 (.e 0 31), .o 35 (.e 1 31), .m 9 34, .m 10 35]) (.seq (.region [.o 11 (.mv (.const (.slice none 0 0)))]) (.seq (.seq (.region [.m 36 1, .o 37 (.iaddr 1 (.tmp 36) (.const (.int .i64 0))), .o 38 (.l 37), .o 39 (.n 38), .k 40 0]) (.block 0 [0,11] (.loop [0,1,6,7,9,11,39,40] c80L1))) (.seq (.region [.m 80 0, .m 81 11, .o 82 (.q 79 [80,81]), .m 79 82, .o 83 (.e 0 79), .o 84 (.e 1 79), .o 85 (.e 2 79), .m 11 83]) (.seq (.region [.m 86 11, .m 4 86, .k 5 0]) .ret))))))))
def F80:AFun:=⟨c80,2,87,[(.tmp 4),(.tmp 5)]⟩
def K80:Nat→List Nat×List Nat
 |0=>([0,1,6,7,9,11,39,40],[0,11])
 |1=>([],[0,1,6,7,9,11,39,40])
 |2=>([0,1,6,7,9,11,12,13,39,40,54,55,56],[0,1,6,7,9,11,13,39,40])
 |3=>([],[0,1,6,7,9,11,12,13,39,40,54,55,56])
 |_=>([],[])
theorem F80_ok:kj8 Tryz.prog K80 Tryz.f80=some F80:=by kernel_rfl
/- 81: syndrome/field.New -/
def zz9:List Value:=[(.int .u32 0),(.int .i32 0),(.int .u32 0),(.int .u32 0),(.int .i32 0),(.int .u32 0),(.int .u32 0),(.int .i32 0),(.int .u32 0),(.int .u32 0),(.int .i32 0),(.int .u32 0),(.int .u32 0),(.int .i32 0),(.int .u32 0),(.int .u32 0),(.int .i32 0),(.int .u32 0),(.int .u32 0),(.int .i32 0),(.int .u32 0),(.int .u32 0),(.int .i32 0),(.int .u32 0),(.int .u32 0),(.int .i32 0),(.int .u32 0),(.int .u32 0),(.int .i32 0),(.int .u32 0),(.int .u32 0),(.int .i32 0),(.int .u32 0),(.int .u32 0),(.int .i32 0),(.int .u32 0),(.int .u32 0),(.int .i32 0),(.int .u32 0),(.int .u32 0),(.int .i32 0),(.int .u32 0),(.int .u32 0),(.int .i32 0),(.int .u32 0),(.int .u32 0),(.int .i32 0),(.int .u32 0),(.int .u32 0),(.int .i32 0),(.int .u32 0),(.int .u32 0),(.int .i32 0),(.int .u32 0),(.int .u32 0),(.int .i32 0),(.int .u32 0),(.int .u32 0),(.int .i32 0),(.int .u32 0),(.int .u32 0),(.int .i32 0),(.int .u32 0),(.int .u32 0),(.int .i32 0),(.int .u32 0),(.int .u32 0),(.int .i32 0),(.int .u32 0),(.int .u32 0),(.int .i32 0),(.int .u32 0),(.int .u32 0),(.int .i32 0),(.int .u32 0),(.int .u32 0),(.int .i32 0),(.int .u32 0),(.int .u32 0),(.int .i32 0),(.int .u32 0),(.int .u32 0),(.int .i32 0),(.int .u32 0),(.int .u32 0),(.int .i32 0),(.int .u32 0),(.int .u32 0),(.int .i32 0),(.int .u32 0),(.int .u32 0),(.int .i32 0),(.int .u32 0),(.int .u32 0),(.int .i32 0),(.int .u32 0),(.int .u32 0),(.int .i32 0),(.int .u32 0),(.int .u32 0),(.int .i32 0),(.int .u32 0),(.int .u32 0),(.int .i32 0),(.int .u32 0),(.int .u32 0),(.int .i32 0),(.int .u32 0),(.int .u32 0),(.int .i32 0),(.int .u32 0),(.int .u32 0),(.int .i32 0),(.int .u32 0),(.int .u32 0),(.int .i32 0),(.int .u32 0),(.int .u32 0),(.int .i32 0),(.int .u32 0),(.int .u32 0),(.int .i32 0),(.int .u32 0),(.int .u32 0),(.int .i32 0),(.int .u32 0),(.int .u32 0),(.int .i32 0),(.int .u32 0),(.int .u32 0),(.int .i32 0),(.int .u32 0),(.int .u32 0),(.int .i32 0),(.int .u32 0),(.int .u32 0),(.int .i32 0),(.int .u32 0),(.int .u32 0),(.int .i32 0),(.int .u32 0),(.int .u32 0),(.int .i32 0),(.int .u32 0),(.int .u32 0),(.int .i32 0),(.int .u32 0),(.int .u32 0),(.int .i32 0),(.int .u32 0),(.int .u32 0),(.int .i32 0),(.int .u32 0),(.int .u32 0),(.int .i32 0),(.int .u32 0),(.int .u32 0),(.int .i32 0),(.int .u32 0),(.int .u32 0),(.int .i32 0),(.int .u32 0),(.int .u32 0),(.int .i32 0),(.int .u32 0),(.int .u32 0),(.int .i32 0),(.int .u32 0),(.int .u32 0),(.int .i32 0),(.int .u32 0),(.int .u32 0),(.int .i32 0),(.int .u32 0),(.int .u32 0),(.int .i32 0),(.int .u32 0),(.int .u32 0),(.int .i32 0),(.int .u32 0),(.int .u32 0),(.int .i32 0),(.int .u32 0),(.int .u32 0),(.int .i32 0),(.int .u32 0),(.int .u32 0),(.int .i32 0),(.int .u32 0),(.int .u32 0),(.int .i32 0),(.int .u32 0),(.int .u32 0),(.int .i32 0),(.int .u32 0),(.pointer none),(.pointer none),(.pointer none),(.pointer none),(.pointer none),(.pointer none),(.pointer none),(.pointer none),(.pointer none),(.pointer none),(.pointer none),(.pointer none),(.pointer none),(.pointer none),(.pointer none),(.pointer none),(.pointer none),(.pointer none),(.pointer none),(.pointer none),(.pointer none),(.pointer none),(.pointer none),(.pointer none),(.pointer none),(.pointer none),(.pointer none),(.pointer none),(.pointer none),(.pointer none),(.pointer none),(.pointer none),(.pointer none),(.pointer none),(.pointer none),(.pointer none),(.pointer none),(.pointer none),(.pointer none),(.pointer none),(.pointer none),(.pointer none),(.pointer none),(.pointer none),(.pointer none),(.pointer none),(.pointer none),(.pointer none),(.pointer none),(.pointer none),(.pointer none),(.pointer none),(.pointer none),(.pointer none),(.pointer none),(.pointer none),(.pointer none),(.pointer none),(.pointer none),(.pointer none),(.pointer none),(.pointer none),(.pointer none),(.pointer none),(.pointer none)]
def c81:ACode:=(.seq (.region [.o 1 (.box 3 1 (.tmp 0)), .o 2 (.mv (.const (.pointer none))), .k 3 0]) (.seq (.seq (.region [.o 5 (.l 1), .o 6 (.c .lss 5 2), .m 7 6, .g 8 (.l 1) 7 false, .g 9 (.c .gtr 8 64) 7 false, .o 10 (.pick (.tmp 7) (.const (.bool true)) (.tmp 9))]) (.cond (.tmp 10) (.seq (.region [.o 2 (.mv (.const (.pointer none))), .k 3 1]) .ret) .skip)) (.seq (.region [.o 4 (.alloc 168 zz9)]) (.seq (.region [.o 11 (.l 1), .o 12 (.f 0 4), .o 13 (.iaddrA 65 3 (.tmp 12) (.tmp 11)), .o 14 (.mkf 150 [(.tmp 1),(.tmp 4)]), .o 15 (.q 149 [13,14])]) (.seq (.seq (.region [.o 16 (.l 1), .o 17 (.f 195 4), .o 18 (.iaddrA 65 1 (.tmp 17) (.tmp 16)), .o 19 (.l 18), .o 20 (.eqn false 1 (.tmp 19))]) (.cond (.tmp 20) (.seq (.region [.o 2 (.mv (.const (.pointer none))), .k 3 1]) .ret) .skip)) (.seq (.region [.o 21 (.l 1), .o 22 (.f 195 4), .o 23 (.iaddrA 65 1 (.tmp 22) (.tmp 21)), .o 24 (.l 23), .m 2 24, .k 3 0]) .ret))))))
def F81:AFun:=⟨c81,1,25,[(.tmp 2),(.tmp 3)]⟩
def K81:Nat→List Nat×List Nat
 |_=>([],[])
theorem F81_ok:kj8 Tryz.prog K81 Tryz.f81=some F81:=by kernel_rfl
/- 82: syndrome/matrix.Check -/
def c82L0:ACode:=(.seq (.region [.o 23 (.b .lss 22 21)]) (.seq (.cond (.tmp 23) .skip (.exit 0)) (.seq (.block 1 [1,5,20,21,22] (.seq (.region [.o 24 (.i 1 20 22), .o 25 (.l 24), .m 8 25]) (.seq (.seq (.region [.m 26 8, .o 27 (.n 26), .m 28 1, .o 29 (.iaddr 1 (.tmp 28) (.const (.int .i64 0))), .o 30 (.l 29), .o 31 (.n 30), .o 32 (.b .neq 27 31), .m 33 32, .g 34 (.m 8) 33 false, .g 35 (.n 34) 33 false, .g 36 (.c .eql 35 0) 33 false, .o 37 (.pick (.tmp 33) (.const (.bool true)) (.tmp 36))]) (.cond (.tmp 37) (.seq (.region [.k 4 3]) .ret) .skip)) (.seq (.seq (.region [.m 38 8, .o 39 (.n 38), .o 40 (.c .gtr 39 64)]) (.cond (.tmp 40) (.seq (.region [.k 4 4]) .ret) .skip)) (.seq (.region [.m 41 8, .o 42 (.mkf 152 [(.tmp 5)]), .o 43 (.q 61 [41,42])]) (.cond (.tmp 43) (.seq (.region [.k 4 2]) .ret) .skip)))))) (.region [.o 44 (.c .add 22 1), .m 22 44]))))
def c82:ACode:=(.seq (.region [.k 4 0]) (.seq (.region [.m 10 0, .o 11 (.q 81 [10]), .m 9 11, .o 12 (.e 0 9), .o 13 (.e 1 9), .o 5 (.alloc 101 [(.pointer none)]), .n (.st 1 (.tmp 5) (.tmp 12)), .m 6 13]) (.seq (.seq (.region [.m 14 6, .o 15 (.c .neq 14 0)]) (.cond (.tmp 15) (.seq (.region [.m 16 6, .m 4 16]) .ret) .skip)) (.seq (.seq (.region [.m 17 1, .o 18 (.n 17), .o 19 (.c .gtr 18 64)]) (.cond (.tmp 19) (.seq (.region [.k 4 4]) .ret) .skip)) (.seq (.seq (.region [.m 20 1, .o 21 (.n 20), .k 22 0]) (.block 0 [] (.loop [1,5,20,21,22] c82L0))) (.seq (.region [.k 4 0]) .ret))))))
def F82:AFun:=⟨c82,2,45,[(.tmp 4)]⟩
def K82:Nat→List Nat×List Nat
 |0=>([1,5,20,21,22],[])
 |1=>([],[1,5,20,21,22])
 |_=>([],[])
theorem F82_ok:kj8 Tryz.prog K82 Tryz.f82=some F82:=by kernel_rfl
/- 95: (*syndrome/field.Field).Has -/
def c95:ACode:=(.seq (.region [.o 4 (.mv (.const (.bool false)))]) (.seq (.region [.m 5 1, .o 6 (.c .geq 5 0), .m 7 6, .g 8 (.m 1) 7 true, .g 9 (.m 0) 7 true, .g 10 (.nilck (.tmp 9)) 7 true, .g 11 (.f 0 10) 7 true, .g 12 (.l 11) 7 true, .g 13 (.b .lss 8 12) 7 true, .o 14 (.pick (.tmp 7) (.tmp 13) (.const (.bool false))), .m 4 14]) .ret))
def F95:AFun:=⟨c95,2,15,[(.tmp 4)]⟩
def K95:Nat→List Nat×List Nat
 |_=>([],[])
theorem F95_ok:kj8 Tryz.prog K95 Tryz.f95=some F95:=by kernel_rfl
/- 96: slices.Contains[[]int,int] -/
def c96:ACode:=(.seq (.region [.o 4 (.mv (.const (.bool false)))]) (.seq (.region [.m 5 0, .m 6 1, .o 7 (.q 167 [5,6]), .o 8 (.c .geq 7 0), .m 4 8]) .ret))
def F96:AFun:=⟨c96,2,9,[(.tmp 4)]⟩
def K96:Nat→List Nat×List Nat
 |_=>([],[])
theorem F96_ok:kj8 Tryz.prog K96 Tryz.f96=some F96:=by kernel_rfl
/- 97: (syndrome/syndromeref.F).Has -/
def c97:ACode:=(.seq (.region [.o 2 (.box 52 5 (.tmp 0)), .o 4 (.mv (.const (.bool false)))]) (.seq (.region [.m 5 1, .o 6 (.c .geq 5 0), .m 7 6, .g 8 (.m 1) 7 true, .g 9 (.f 0 2) 7 true, .g 10 (.l 9) 7 true, .g 11 (.b .lss 8 10) 7 true, .o 12 (.pick (.tmp 7) (.tmp 11) (.const (.bool false))), .m 4 12]) .ret))
def F97:AFun:=⟨c97,2,13,[(.tmp 4)]⟩
def K97:Nat→List Nat×List Nat
 |_=>([],[])
theorem F97_ok:kj8 Tryz.prog K97 Tryz.f97=some F97:=by kernel_rfl
/- 98: syndrome/syndromeref.In -/
def c98L0:ACode:=(.seq (.seq (.region [.m 6 5, .m 7 1, .o 8 (.n 7), .o 9 (.b .lss 6 8)]) (.cond (.tmp 9) .skip (.exit 0))) (.seq (.block 1 [0,1,5] (.seq (.region [.m 12 1, .m 13 5, .o 14 (.i 1 12 13), .o 15 (.l 14), .m 16 0, .o 17 (.b .eql 15 16)]) (.cond (.tmp 17) (.seq (.region [.o 4 (.mv (.const (.bool true)))]) .ret) .skip))) (.region [.m 10 5, .o 11 (.c .add 10 1), .m 5 11])))
def c98:ACode:=(.seq (.region [.o 4 (.mv (.const (.bool false)))]) (.seq (.seq (.region [.k 5 0]) (.block 0 [] (.loop [0,1,5] c98L0))) (.seq (.region [.o 4 (.mv (.const (.bool false)))]) .ret)))
def F98:AFun:=⟨c98,2,18,[(.tmp 4)]⟩
def K98:Nat→List Nat×List Nat
 |0=>([0,1,5],[])
 |1=>([],[0,1,5])
 |_=>([],[])
theorem F98_ok:kj8 Tryz.prog K98 Tryz.f98=some F98:=by kernel_rfl
/- 99: syndrome/reed.Word$1 -/
def c99:ACode:=(.seq (.region [.o 3 (.mv (.const (.bool false)))]) (.seq (.region [.m 4 0, .o 5 (.c .neq 4 (-1)), .m 6 5, .g 7 (.l 1) 6 true, .g 8 (.m 0) 6 true, .g 9 (.q 95 [7,8]) 6 true, .g 10 (.un .not (.tmp 9)) 6 true, .o 11 (.pick (.tmp 6) (.tmp 10) (.const (.bool false))), .m 3 11]) .ret))
def F99:AFun:=⟨c99,2,12,[(.tmp 3)]⟩
def K99:Nat→List Nat×List Nat
 |_=>([],[])
theorem F99_ok:kj8 Tryz.prog K99 Tryz.f99=some F99:=by kernel_rfl
/- 100: syndrome/syndromeref.Prime -/
def c100L0:ACode:=(.seq (.seq (.region [.m 15 0, .m 16 4, .o 17 (.b .rem 15 16), .o 18 (.c .eql 17 0)]) (.cond (.tmp 18) .skip (.exit 2))) (.block 3 [0,4,5] (.seq (.region [.m 19 0, .m 20 4, .o 21 (.b .quo 19 20), .m 0 21]) (.region [.m 22 5, .o 23 (.c .add 22 1), .m 5 23]))))
def c100L1:ACode:=(.seq (.seq (.region [.m 6 4, .m 7 0, .o 8 (.b .leq 6 7)]) (.cond (.tmp 8) .skip (.exit 0))) (.seq (.block 1 [0,4] (.seq (.seq (.region [.m 11 0, .m 12 4, .o 13 (.b .rem 11 12), .o 14 (.c .neq 13 0)]) (.cond (.tmp 14) (.exit 1) .skip)) (.seq (.region [.k 5 0]) (.seq (.block 2 [0,4,5] (.loop [0,4,5] c100L0)) (.seq (.seq (.region [.m 24 0, .o 25 (.c .eql 24 1)]) (.cond (.tmp 25) (.seq (.region [.m 26 4, .m 27 5, .m 2 26, .m 3 27]) .ret) .skip)) (.seq (.region [.k 2 0, .k 3 0]) .ret)))))) (.region [.m 9 4, .o 10 (.c .add 9 1), .m 4 10])))
def c100:ACode:=(.seq (.region [.k 2 0, .k 3 0]) (.seq (.seq (.region [.k 4 2]) (.block 0 [] (.loop [0,4] c100L1))) (.seq (.region [.k 2 0, .k 3 0]) .ret)))
def F100:AFun:=⟨c100,1,28,[(.tmp 2),(.tmp 3)]⟩
def K100:Nat→List Nat×List Nat
 |0=>([0,4],[])
 |1=>([],[0,4])
 |2=>([0,4,5],[0,4,5])
 |3=>([],[0,4,5])
 |_=>([],[])
theorem F100_ok:kj8 Tryz.prog K100 Tryz.f100=some F100:=by kernel_rfl
/- 101: syndrome/syndromeref.full -/
def c101L0:ACode:=(.seq (.seq (.region [.m 11 7, .o 12 (.f 0 2), .o 13 (.l 12), .o 14 (.c .sub 13 1), .o 15 (.b .lss 11 14)]) (.cond (.tmp 15) .skip (.exit 0))) (.seq (.block 1 [1,2,5,6,7] (.seq (.seq (.region [.m 18 6, .o 19 (.c .eql 18 0), .m 20 19, .g 21 (.m 5) 20 false, .g 22 (.m 6) 20 false, .g 23 (.i 1 21 22) 20 false, .g 24 (.l 23) 20 false, .o 25 (.pick (.tmp 20) (.const (.bool true)) (.tmp 24))]) (.cond (.tmp 25) (.seq (.region [.o 4 (.mv (.const (.bool false)))]) .ret) .skip)) (.seq (.region [.m 26 5, .m 27 6, .o 28 (.i 1 26 27), .n (.st 1 (.tmp 28) (.const (.bool true)))]) (.region [.o 29 (.ld true 5 (.tmp 2)), .m 30 6, .m 31 1, .o 32 (.q 126 [29,30,31]), .m 6 32])))) (.region [.m 16 7, .o 17 (.c .add 16 1), .m 7 17])))
def c101:ACode:=(.seq (.region [.o 2 (.box 52 5 (.tmp 0)), .o 4 (.mv (.const (.bool false)))]) (.seq (.region [.o 8 (.f 0 2), .o 9 (.l 8), .o 10 (.mks 4 1 1 [(.bool false)] (.tmp 9) (.tmp 9)), .m 5 10]) (.seq (.region [.k 6 1]) (.seq (.seq (.region [.k 7 0]) (.block 0 [] (.loop [1,2,5,6,7] c101L0))) (.seq (.region [.o 4 (.mv (.const (.bool true)))]) .ret)))))
def F101:AFun:=⟨c101,2,33,[(.tmp 4)]⟩
def K101:Nat→List Nat×List Nat
 |0=>([1,2,5,6,7],[])
 |1=>([],[1,2,5,6,7])
 |_=>([],[])
theorem F101_ok:kj8 Tryz.prog K101 Tryz.f101=some F101:=by kernel_rfl
/- 102: syndrome/syndromeref.Digits -/
def c102L0:ACode:=(.seq (.seq (.region [.m 9 8, .m 10 2, .o 11 (.b .lss 9 10)]) (.cond (.tmp 11) .skip (.exit 0))) (.seq (.block 1 [0,1,2,7,8] (.seq (.region [.m 14 7, .m 15 0, .m 16 1, .o 17 (.b .rem 15 16), .o 18 (.mkSl 3 1 1 [(.tmp 17)]), .o 19 (.app 3 1 8 (.tmp 14) (.tmp 18)), .m 7 19]) (.region [.m 20 0, .m 21 1, .o 22 (.b .quo 20 21), .m 0 22]))) (.region [.m 12 8, .o 13 (.c .add 12 1), .m 8 13])))
def c102:ACode:=(.seq (.region [.o 6 (.mv (.const (.slice none 0 0)))]) (.seq (.region [.o 7 (.mv (.const (.slice none 0 0)))]) (.seq (.seq (.region [.k 8 0]) (.block 0 [7] (.loop [0,1,2,7,8] c102L0))) (.seq (.region [.m 23 7, .m 6 23]) .ret))))
def F102:AFun:=⟨c102,3,24,[(.tmp 6)]⟩
def K102:Nat→List Nat×List Nat
 |0=>([0,1,2,7,8],[7])
 |1=>([],[0,1,2,7,8])
 |_=>([],[])
theorem F102_ok:kj8 Tryz.prog K102 Tryz.f102=some F102:=by kernel_rfl
/- 103: syndrome/syndromeref.PAt -/
def c103:ACode:=(.seq (.region [.o 3 (.box 52 5 (.tmp 0)), .k 6 0]) (.seq (.region [.o 7 (.ld true 5 (.tmp 3)), .m 8 1, .m 9 2, .o 10 (.q 168 [7,8,9]), .m 6 10]) .ret))
def F103:AFun:=⟨c103,3,11,[(.tmp 6)]⟩
def K103:Nat→List Nat×List Nat
 |_=>([],[])
theorem F103_ok:kj8 Tryz.prog K103 Tryz.f103=some F103:=by kernel_rfl
/- 104: syndrome/poly.Check -/
def c104L0:ACode:=(.seq (.region [.o 23 (.b .lss 22 21)]) (.seq (.cond (.tmp 23) .skip (.exit 0)) (.seq (.block 1 [5,20,21,22] (.seq (.region [.o 24 (.i 1 20 22), .o 25 (.l 24), .m 8 25]) (.seq (.region [.m 26 5, .m 27 8, .o 28 (.q 95 [26,27]), .o 29 (.un .not (.tmp 28))]) (.cond (.tmp 29) (.seq (.region [.k 4 2]) .ret) .skip)))) (.region [.o 30 (.c .add 22 1), .m 22 30]))))
def c104:ACode:=(.seq (.region [.k 4 0]) (.seq (.region [.m 10 0, .o 11 (.q 81 [10]), .m 9 11, .o 12 (.e 0 9), .o 13 (.e 1 9), .m 5 12, .m 6 13]) (.seq (.seq (.region [.m 14 6, .o 15 (.c .neq 14 0)]) (.cond (.tmp 15) (.seq (.region [.m 16 6, .m 4 16]) .ret) .skip)) (.seq (.seq (.region [.m 17 1, .o 18 (.n 17), .o 19 (.c .gtr 18 128)]) (.cond (.tmp 19) (.seq (.region [.k 4 4]) .ret) .skip)) (.seq (.seq (.region [.m 20 1, .o 21 (.n 20), .k 22 0]) (.block 0 [] (.loop [5,20,21,22] c104L0))) (.seq (.region [.k 4 0]) .ret))))))
def F104:AFun:=⟨c104,2,31,[(.tmp 4)]⟩
def K104:Nat→List Nat×List Nat
 |0=>([5,20,21,22],[])
 |1=>([],[5,20,21,22])
 |_=>([],[])
theorem F104_ok:kj8 Tryz.prog K104 Tryz.f104=some F104:=by kernel_rfl
/- 105: syndrome/poly.At -/
def c105L0:ACode:=(.seq (.seq (.region [.m 29 12, .o 30 (.c .geq 29 0)]) (.cond (.tmp 30) .skip (.exit 0))) (.seq (.block 1 [1,2,8,11,12] (.region [.m 33 8, .m 34 8, .m 35 11, .m 36 2,⟨(some 37),(.call 157 [(.tmp 34),(.tmp 35),(.tmp 36)]),none,true⟩, .m 38 1, .m 39 12, .o 40 (.i 1 38 39),⟨(some 41),(.ld false 1 (.tmp 40)),none,true⟩, .o 42 (.q 156 [33,37,41]), .m 11 42])) (.region [.m 31 12, .o 32 (.c .sub 31 1), .m 12 32])))
def c105:ACode:=(.seq (.region [.k 6 0, .k 7 0]) (.seq (.region [.m 14 0, .m 15 1, .m 16 2, .o 17 (.mkSl 3 1 1 [(.tmp 16)]), .o 18 (.q 169 [14,15,17]), .m 13 18, .o 19 (.e 0 13), .o 20 (.e 1 13), .o 21 (.e 2 13), .o 22 (.e 3 13), .m 8 19, .m 1 20, .m 9 21, .m 10 22]) (.seq (.seq (.region [.m 23 10, .o 24 (.c .neq 23 0)]) (.cond (.tmp 24) (.seq (.region [.m 25 10, .k 6 0, .m 7 25]) .ret) .skip)) (.seq (.region [.k 11 0]) (.seq (.seq (.region [.m 26 1, .o 27 (.n 26), .o 28 (.c .sub 27 1), .m 12 28]) (.block 0 [11] (.loop [1,2,8,11,12] c105L0))) (.seq (.region [.m 43 11, .m 6 43, .k 7 0]) .ret))))))
def F105:AFun:=⟨c105,3,44,[(.tmp 6),(.tmp 7)]⟩
def K105:Nat→List Nat×List Nat
 |0=>([1,2,8,11,12],[11])
 |1=>([],[1,2,8,11,12])
 |_=>([],[])
theorem F105_ok:kj8 Tryz.prog K105 Tryz.f105=some F105:=by kernel_rfl
/- 116: syndrome/syndromeref.SameAll -/
def c116L0:ACode:=(.seq (.seq (.region [.m 11 5, .m 12 0, .o 13 (.n 12), .o 14 (.b .lss 11 13)]) (.cond (.tmp 14) .skip (.exit 0))) (.seq (.block 1 [0,1,5] (.seq (.region [.m 17 0, .m 18 5, .o 19 (.i 1 17 18), .o 20 (.l 19), .m 21 1, .m 22 5, .o 23 (.i 1 21 22), .o 24 (.l 23), .o 25 (.q 16 [20,24]), .o 26 (.un .not (.tmp 25))]) (.cond (.tmp 26) (.seq (.region [.o 4 (.mv (.const (.bool false)))]) .ret) .skip))) (.region [.m 15 5, .o 16 (.c .add 15 1), .m 5 16])))
def c116:ACode:=(.seq (.region [.o 4 (.mv (.const (.bool false)))]) (.seq (.seq (.region [.m 6 0, .o 7 (.n 6), .m 8 1, .o 9 (.n 8), .o 10 (.b .neq 7 9)]) (.cond (.tmp 10) (.seq (.region [.o 4 (.mv (.const (.bool false)))]) .ret) .skip)) (.seq (.seq (.region [.k 5 0]) (.block 0 [] (.loop [0,1,5] c116L0))) (.seq (.region [.o 4 (.mv (.const (.bool true)))]) .ret))))
def F116:AFun:=⟨c116,2,27,[(.tmp 4)]⟩
def K116:Nat→List Nat×List Nat
 |0=>([0,1,5],[])
 |1=>([],[0,1,5])
 |_=>([],[])
theorem F116_ok:kj8 Tryz.prog K116 Tryz.f116=some F116:=by kernel_rfl
/- 125: (syndrome/syndromeref.F).Add -/
def c125L0:ACode:=(.seq (.seq (.region [.m 47 9, .o 48 (.f 2 3), .o 49 (.l 48), .o 50 (.b .lss 47 49)]) (.cond (.tmp 50) .skip (.exit 0))) (.seq (.block 1 [3,7,8,9] (.region [.m 53 7, .m 54 9, .m 55 7, .m 56 9, .o 57 (.i 1 55 56), .o 58 (.l 57), .m 59 8, .m 60 9, .o 61 (.i 1 59 60), .o 62 (.l 61), .o 63 (.b .add 58 62), .o 64 (.f 1 3), .o 65 (.l 64), .o 66 (.b .rem 63 65), .o 67 (.i 1 53 54), .n (.st 1 (.tmp 67) (.tmp 66))])) (.region [.m 51 9, .o 52 (.c .add 51 1), .m 9 52])))
def c125:ACode:=(.seq (.region [.o 3 (.box 52 5 (.tmp 0)), .k 6 0]) (.seq (.seq (.region [.o 10 (.ld true 5 (.tmp 3)), .m 11 1, .o 12 (.q 97 [10,11]), .o 13 (.un .not (.tmp 12)), .m 14 13, .g 15 (.ld true 5 (.tmp 3)) 14 false, .g 16 (.m 2) 14 false, .g 17 (.q 97 [15,16]) 14 false, .g 18 (.un .not (.tmp 17)) 14 false, .o 19 (.pick (.tmp 14) (.const (.bool true)) (.tmp 18))]) (.cond (.tmp 19) (.seq (.region [.k 6 (-1)]) .ret) .skip)) (.seq (.seq (.region [.o 20 (.f 2 3), .o 21 (.l 20), .o 22 (.c .eql 21 1)]) (.cond (.tmp 22) (.seq (.region [.m 23 1, .m 24 2, .o 25 (.b .add 23 24), .o 26 (.f 1 3), .o 27 (.l 26), .o 28 (.b .rem 25 27), .m 6 28]) .ret) .skip)) (.seq (.seq (.region [.o 29 (.f 1 3), .o 30 (.l 29), .o 31 (.c .eql 30 2)]) (.cond (.tmp 31) (.seq (.region [.m 32 1, .m 33 2, .o 34 (.b .xor 32 33), .m 6 34]) .ret) .skip)) (.seq (.region [.m 35 1, .o 36 (.f 1 3), .o 37 (.l 36), .o 38 (.f 2 3), .o 39 (.l 38), .o 40 (.q 102 [35,37,39]), .m 7 40]) (.seq (.region [.m 41 2, .o 42 (.f 1 3), .o 43 (.l 42), .o 44 (.f 2 3), .o 45 (.l 44), .o 46 (.q 102 [41,43,45]), .m 8 46]) (.seq (.seq (.region [.k 9 0]) (.block 0 [3,7] (.loop [3,7,8,9] c125L0))) (.seq (.region [.m 68 7, .o 69 (.f 1 3), .o 70 (.l 69), .o 71 (.q 185 [68,70]), .m 6 71]) .ret))))))))
def F125:AFun:=⟨c125,3,72,[(.tmp 6)]⟩
def K125:Nat→List Nat×List Nat
 |0=>([3,7,8,9],[3,7])
 |1=>([],[3,7,8,9])
 |_=>([],[])
theorem F125_ok:kj8 Tryz.prog K125 Tryz.f125=some F125:=by kernel_rfl
/- 126: (syndrome/syndromeref.F).Mul -/
def c126L0:ACode:=(.seq (.seq (.region [.m 55 11, .o 56 (.f 2 3), .o 57 (.l 56), .o 58 (.b .lss 55 57)]) (.cond (.tmp 58) .skip (.exit 2))) (.seq (.block 3 [3,7,8,9,10,11] (.region [.m 61 9, .m 62 10, .m 63 11, .o 64 (.b .add 62 63), .m 65 9, .m 66 10, .m 67 11, .o 68 (.b .add 66 67), .o 69 (.i 1 65 68), .o 70 (.l 69), .m 71 7, .m 72 10, .o 73 (.i 1 71 72), .o 74 (.l 73), .m 75 8, .m 76 11, .o 77 (.i 1 75 76), .o 78 (.l 77), .o 79 (.b .mul 74 78), .o 80 (.b .add 70 79), .o 81 (.f 1 3), .o 82 (.l 81), .o 83 (.b .rem 80 82), .o 84 (.i 1 61 64), .n (.st 1 (.tmp 84) (.tmp 83))])) (.region [.m 59 11, .o 60 (.c .add 59 1), .m 11 60])))
def c126L1:ACode:=(.seq (.seq (.region [.m 49 10, .o 50 (.f 2 3), .o 51 (.l 50), .o 52 (.b .lss 49 51)]) (.cond (.tmp 52) .skip (.exit 0))) (.seq (.block 1 [3,7,8,9,10] (.seq (.region [.k 11 0]) (.block 2 [3,7,8,9,10] (.loop [3,7,8,9,10,11] c126L0)))) (.region [.m 53 10, .o 54 (.c .add 53 1), .m 10 54])))
def c126L2:ACode:=(.seq (.seq (.region [.m 95 13, .o 96 (.f 2 3), .o 97 (.l 96), .o 98 (.b .lss 95 97)]) (.cond (.tmp 98) .skip (.exit 6))) (.seq (.block 7 [3,9,12,13] (.region [.m 101 9, .m 102 12, .o 103 (.f 2 3), .o 104 (.l 103), .o 105 (.b .sub 102 104), .m 106 13, .o 107 (.b .add 105 106), .m 108 9, .m 109 12, .o 110 (.f 2 3), .o 111 (.l 110), .o 112 (.b .sub 109 111), .m 113 13, .o 114 (.b .add 112 113), .o 115 (.i 1 108 114), .o 116 (.l 115), .m 117 9, .m 118 12, .o 119 (.i 1 117 118), .o 120 (.l 119), .o 121 (.f 1 3), .o 122 (.l 121), .o 123 (.f 4 3), .o 124 (.l 123), .m 125 13, .o 126 (.i 1 124 125), .o 127 (.l 126), .o 128 (.b .sub 122 127), .o 129 (.b .mul 120 128), .o 130 (.b .add 116 129), .o 131 (.f 1 3), .o 132 (.l 131), .o 133 (.b .rem 130 132), .o 134 (.i 1 101 107), .n (.st 1 (.tmp 134) (.tmp 133))])) (.region [.m 99 13, .o 100 (.c .add 99 1), .m 13 100])))
def c126L3:ACode:=(.seq (.seq (.region [.m 89 12, .o 90 (.f 2 3), .o 91 (.l 90), .o 92 (.b .geq 89 91)]) (.cond (.tmp 92) .skip (.exit 4))) (.seq (.block 5 [3,9,12] (.seq (.seq (.region [.k 13 0]) (.block 6 [3,9,12] (.loop [3,9,12,13] c126L2))) (.region [.m 135 9, .m 136 12, .o 137 (.i 1 135 136), .n (.st 1 (.tmp 137) (.const (.int .i64 0)))]))) (.region [.m 93 12, .o 94 (.c .sub 93 1), .m 12 94])))
def c126:ACode:=(.seq (.region [.o 3 (.box 52 5 (.tmp 0)), .k 6 0]) (.seq (.seq (.region [.o 14 (.ld true 5 (.tmp 3)), .m 15 1, .o 16 (.q 97 [14,15]), .o 17 (.un .not (.tmp 16)), .m 18 17, .g 19 (.ld true 5 (.tmp 3)) 18 false, .g 20 (.m 2) 18 false, .g 21 (.q 97 [19,20]) 18 false, .g 22 (.un .not (.tmp 21)) 18 false, .o 23 (.pick (.tmp 18) (.const (.bool true)) (.tmp 22))]) (.cond (.tmp 23) (.seq (.region [.k 6 (-1)]) .ret) .skip)) (.seq (.seq (.region [.o 24 (.f 2 3), .o 25 (.l 24), .o 26 (.c .eql 25 1)]) (.cond (.tmp 26) (.seq (.region [.m 27 1, .m 28 2, .o 29 (.b .mul 27 28), .o 30 (.f 1 3), .o 31 (.l 30), .o 32 (.b .rem 29 31), .m 6 32]) .ret) .skip)) (.seq (.region [.m 33 1, .o 34 (.f 1 3), .o 35 (.l 34), .o 36 (.f 2 3), .o 37 (.l 36), .o 38 (.q 102 [33,35,37]), .m 7 38]) (.seq (.region [.m 39 2, .o 40 (.f 1 3), .o 41 (.l 40), .o 42 (.f 2 3), .o 43 (.l 42), .o 44 (.q 102 [39,41,43]), .m 8 44]) (.seq (.region [.o 45 (.f 2 3), .o 46 (.l 45), .o 47 (.bin .mul (.const (.int .i64 2)) (.tmp 46)), .o 48 (.mks 3 1 8 [(.int .i64 0)] (.tmp 47) (.tmp 47)), .m 9 48]) (.seq (.seq (.region [.k 10 0]) (.block 0 [3,9] (.loop [3,7,8,9,10] c126L1))) (.seq (.seq (.region [.o 85 (.f 2 3), .o 86 (.l 85), .o 87 (.bin .mul (.const (.int .i64 2)) (.tmp 86)), .o 88 (.c .sub 87 1), .m 12 88]) (.block 4 [3,9] (.loop [3,9,12] c126L3))) (.seq (.region [.m 138 9, .o 139 (.f 2 3), .o 140 (.l 139), .o 141 (.sl 1 (.tmp 138) none (some (.tmp 140))), .o 142 (.f 1 3), .o 143 (.l 142), .o 144 (.q 185 [141,143]), .m 6 144]) .ret)))))))))
def F126:AFun:=⟨c126,3,145,[(.tmp 6)]⟩
def K126:Nat→List Nat×List Nat
 |0=>([3,7,8,9,10],[3,9])
 |1=>([],[3,7,8,9,10])
 |2=>([3,7,8,9,10,11],[3,7,8,9,10])
 |3=>([],[3,7,8,9,10,11])
 |4=>([3,9,12],[3,9])
 |5=>([],[3,9,12])
 |6=>([3,9,12,13],[3,9,12])
 |7=>([],[3,9,12,13])
 |_=>([],[])
theorem F126_ok:kj8 Tryz.prog K126 Tryz.f126=some F126:=by kernel_rfl
/- 127: syndrome/syndromelaw.wholeWord -/
def c127:ACode:=(.seq (.region [.k 8 0]) (.seq (.region [.m 10 0, .m 11 1, .m 12 2, .m 13 3, .o 14 (.q 36 [10,11,12,13]), .m 9 14]) (.seq (.seq (.region [.m 15 9, .o 16 (.c .eql 15 0), .m 17 16, .g 18 (.m 3) 17 true, .g 19 (.call 98 [(.const (.int .i64 (-1))),(.tmp 18)]) 17 true, .o 20 (.pick (.tmp 17) (.tmp 19) (.const (.bool false)))]) (.cond (.tmp 20) (.region [.k 9 2]) .skip)) (.seq (.region [.m 21 9, .m 8 21]) .ret))))
def F127:AFun:=⟨c127,4,22,[(.tmp 8)]⟩
def K127:Nat→List Nat×List Nat
 |_=>([],[])
theorem F127_ok:kj8 Tryz.prog K127 Tryz.f127=some F127:=by kernel_rfl
/- 128: syndrome/syndromeref.Few -/
def c128L0:ACode:=(.seq (.seq (.region [.m 7 6, .m 8 1, .o 9 (.b .lss 7 8)]) (.cond (.tmp 9) .skip (.exit 0))) (.seq (.block 1 [0,1,5,6] (.seq (.region [.m 12 5, .m 13 0, .o 14 (.b .mul 12 13), .m 5 14]) (.seq (.region [.m 15 5, .o 16 (.c .gtr 15 4096)]) (.cond (.tmp 16) (.seq (.region [.o 4 (.mv (.const (.bool false)))]) .ret) .skip)))) (.region [.m 10 6, .o 11 (.c .add 10 1), .m 6 11])))
def c128:ACode:=(.seq (.region [.o 4 (.mv (.const (.bool false)))]) (.seq (.region [.k 5 1]) (.seq (.seq (.region [.k 6 0]) (.block 0 [] (.loop [0,1,5,6] c128L0))) (.seq (.region [.o 4 (.mv (.const (.bool true)))]) .ret))))
def F128:AFun:=⟨c128,2,17,[(.tmp 4)]⟩
def K128:Nat→List Nat×List Nat
 |0=>([0,1,5,6],[])
 |1=>([],[0,1,5,6])
 |_=>([],[])
theorem F128_ok:kj8 Tryz.prog K128 Tryz.f128=some F128:=by kernel_rfl
/- 129: syndrome/syndromeref.Near -/
def c129L0:ACode:=(.seq (.seq (.region [.m 18 13]) (.cond (.tmp 18) .skip (.exit 0))) (.block 1 [1,3,4,5,11,12,13] (.seq (.region [.o 20 (.ld true 5 (.tmp 5)), .m 21 1, .m 22 3, .m 23 11, .o 24 (.q 180 [20,21,22,23]), .m 19 24, .o 25 (.e 0 19), .o 26 (.e 1 19), .m 14 25, .m 15 26]) (.seq (.seq (.region [.m 27 14, .m 28 4, .o 29 (.b .leq 27 28)]) (.cond (.tmp 29) (.region [.m 30 12, .m 31 11, .o 32 (.q 138 [31]), .o 33 (.mkSl 22 1 1 [(.tmp 32)]), .o 34 (.app 22 1 24 (.tmp 30) (.tmp 33)), .m 12 34]) .skip)) (.region [.m 35 11, .o 36 (.f 0 5), .o 37 (.l 36), .o 38 (.q 137 [35,37]), .m 13 38])))))
def c129:ACode:=(.seq (.region [.o 5 (.box 52 5 (.tmp 0)), .o 10 (.mv (.const (.slice none 0 0)))]) (.seq (.region [.m 16 2, .o 17 (.mks 3 1 8 [(.int .i64 0)] (.tmp 16) (.tmp 16)), .m 11 17]) (.seq (.region [.o 12 (.mv (.const (.slice none 0 0)))]) (.seq (.region [.o 13 (.mv (.const (.bool true)))]) (.seq (.block 0 [12] (.loop [1,3,4,5,11,12,13] c129L0)) (.seq (.region [.m 39 12, .m 10 39]) .ret))))))
def F129:AFun:=⟨c129,5,40,[(.tmp 10)]⟩
def K129:Nat→List Nat×List Nat
 |0=>([1,3,4,5,11,12,13],[12])
 |1=>([],[1,3,4,5,11,12,13])
 |_=>([],[])
theorem F129_ok:kj8 Tryz.prog K129 Tryz.f129=some F129:=by kernel_rfl
/- 130: syndrome/lists.Within -/
def c130L0:ACode:=(.seq (.region [.o 38 (.b .lss 37 36)]) (.seq (.cond (.tmp 38) .skip (.exit 2)) (.seq (.block 3 [0,1,2,3,4,13,14,15,35,36,37] (.seq (.region [.m 39 37, .o 40 (.i 1 35 37), .o 41 (.l 40), .m 16 39, .m 17 41]) (.seq (.region [.m 43 0, .m 44 14, .m 45 17, .o 46 (.q 105 [43,44,45]), .m 42 46, .o 47 (.e 0 42), .o 48 (.e 1 42), .m 18 47, .m 19 48]) (.seq (.region [.m 49 18, .m 50 3, .m 51 16, .o 52 (.i 1 50 51), .o 53 (.l 52), .o 54 (.b .neq 49 53)]) (.cond (.tmp 54) (.region [.m 55 15, .o 56 (.c .add 55 1), .m 15 56]) .skip))))) (.region [.o 57 (.c .add 37 1), .m 37 57]))))
def c130L1:ACode:=(.seq (.seq (.region [.m 68 20, .o 69 (.c .geq 68 0)]) (.cond (.tmp 69) .skip (.exit 4))) (.seq (.block 5 [0,1,2,3,4,13,14,20] (.seq (.seq (.region [.m 72 14, .m 73 20, .o 74 (.i 1 72 73), .o 75 (.l 74), .o 76 (.c .add 75 1), .o 77 (.i 1 72 73), .n (.st 1 (.tmp 77) (.tmp 76))]) (.seq (.region [.m 78 14, .m 79 20, .o 80 (.i 1 78 79), .o 81 (.l 80), .m 82 0, .o 83 (.b .lss 81 82)]) (.cond (.tmp 83) (.exit 4) .skip))) (.region [.m 84 14, .m 85 20, .o 86 (.i 1 84 85), .n (.st 1 (.tmp 86) (.const (.int .i64 0)))]))) (.region [.m 70 20, .o 71 (.c .sub 70 1), .m 20 71])))
def c130L2:ACode:=(.block 1 [0,1,2,3,4,13,14] (.seq (.region [.k 15 0]) (.seq (.seq (.region [.m 35 1, .o 36 (.n 35), .k 37 0]) (.block 2 [0,1,2,3,4,13,14,15] (.loop [0,1,2,3,4,13,14,15,35,36,37] c130L0))) (.seq (.seq (.region [.m 58 15, .m 59 4, .o 60 (.b .leq 58 59)]) (.cond (.tmp 60) (.region [.m 61 13, .m 62 14, .o 63 (.q 65 [62]), .o 64 (.mkSl 22 1 1 [(.tmp 63)]), .o 65 (.app 22 1 24 (.tmp 61) (.tmp 64)), .m 13 65]) .skip)) (.seq (.region [.m 66 2, .o 67 (.c .sub 66 1), .m 20 67]) (.seq (.block 4 [0,1,2,3,4,13,14,20] (.loop [0,1,2,3,4,13,14,20] c130L1)) (.seq (.region [.m 87 20, .o 88 (.c .lss 87 0)]) (.cond (.tmp 88) (.seq (.region [.m 89 13, .m 10 89, .k 11 0]) .ret) .skip))))))))
def c130:ACode:=(.seq (.region [.o 10 (.mv (.const (.slice none 0 0))), .k 11 0]) (.seq (.seq (.region [.m 21 0, .m 22 1, .m 23 2, .m 24 3, .o 25 (.q 186 [21,22,23,24]), .m 12 25]) (.seq (.region [.m 26 12, .o 27 (.c .neq 26 0)]) (.cond (.tmp 27) (.seq (.region [.m 28 12, .o 10 (.mv (.const (.slice none 0 0))), .m 11 28]) .ret) .skip))) (.seq (.seq (.region [.m 29 0, .m 30 2, .o 31 (.q 187 [29,30]), .o 32 (.un .not (.tmp 31))]) (.cond (.tmp 32) (.seq (.region [.o 10 (.mv (.const (.slice none 0 0))), .k 11 4]) .ret) .skip)) (.seq (.region [.o 13 (.mv (.const (.slice none 0 0)))]) (.seq (.region [.m 33 2, .o 34 (.mks 3 1 8 [(.int .i64 0)] (.tmp 33) (.tmp 33)), .m 14 34]) (.block 0 [] (.loop [0,1,2,3,4,13,14] c130L2)))))))
def F130:AFun:=⟨c130,5,90,[(.tmp 10),(.tmp 11)]⟩
def K130:Nat→List Nat×List Nat
 |0=>([0,1,2,3,4,13,14],[])
 |1=>([],[0,1,2,3,4,13,14])
 |2=>([0,1,2,3,4,13,14,15,35,36,37],[0,1,2,3,4,13,14,15])
 |3=>([],[0,1,2,3,4,13,14,15,35,36,37])
 |4=>([0,1,2,3,4,13,14,20],[0,1,2,3,4,13,14,20])
 |5=>([],[0,1,2,3,4,13,14,20])
 |_=>([],[])
theorem F130_ok:kj8 Tryz.prog K130 Tryz.f130=some F130:=by kernel_rfl
end Go.Proofs.YtlhmdmedagjmnaaGreat
