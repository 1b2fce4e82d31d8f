/-
  Functions of this seat as the small machine's code, written by a program of my own (gen.py); each is checked to be what the model's function is turned into. No condition.
-/
import Derived.Test.YtodbgomfeacdhaaGreatK1
import Derived.Test.YtodbgomfeacdhaaGreatProg
set_option linter.unusedVariables false
set_option linter.unusedSimpArgs false
set_option linter.unusedSectionVars false
set_option maxRecDepth 100000
namespace Go.Proofs.YtodbgomfeacdhaaGreat
open Go.Am
/- 35: syndrome/syndromeref.Punctured -/
def c35L0:ACode:=(.seq (.seq (.region [.m 7 6, .o 8 (.f 2 2), .o 9 (.l 8), .o 10 (.n 9), .o 11 (.b .lss 7 10)]) (.cond (.tmp 11) .skip (.exit 0))) (.seq (.block 1 [1,2,4,5,6] (.region [.m 14 5, .o 15 (.f 2 2), .o 16 (.l 15), .m 17 6, .o 18 (.i 1 16 17), .o 19 (.l 18), .m 20 1, .o 21 (.q 74 [19,20]), .o 22 (.mkSl 25 1 1 [(.tmp 21)]), .o 23 (.app 25 1 24 (.tmp 14) (.tmp 22)), .m 5 23])) (.region [.m 12 6, .o 13 (.c .add 12 1), .m 6 13])))
def c35:ACode:=(.seq (.region [.o 2 (.box 24 3 (.tmp 0)), .o 4 (.alloc 24 [(.int .i64 0),(.int .i64 0),(.slice none 0 0)])]) (.seq (.region [.o 5 (.mv (.const (.slice none 0 0)))]) (.seq (.seq (.region [.k 6 0]) (.block 0 [2,4,5] (.loop [1,2,4,5,6] c35L0))) (.seq (.region [.o 24 (.f 0 2), .o 25 (.l 24), .o 26 (.f 1 2), .o 27 (.l 26), .o 28 (.c .sub 27 1), .m 29 5, .o 30 (.build [(.int .i64 0),(.int .i64 0),(.slice none 0 0)] [(0,1),(1,1),(2,1)] [(0,(.tmp 25)),(1,(.tmp 28)),(2,(.tmp 29))]), .o 31 (.q 6 [30]), .n (.st 3 (.tmp 4) (.tmp 31))]) .ret))))
def F35:AFun:=⟨c35,2,32,[(.cell 4 true 3)]⟩
def K35:Nat→List Nat×List Nat
 |0=>([1,2,4,5,6],[2,4,5])
 |1=>([],[1,2,4,5,6])
 |_=>([],[])
theorem F35_ok:kj8 Tryz.prog K35 Tryz.f35=some F35:=by kernel_rfl
/- 36: syndrome/syndromeref.Shortened -/
def c36L0:ACode:=(.seq (.seq (.region [.m 17 9, .o 18 (.f 2 2), .o 19 (.l 18), .o 20 (.n 19), .o 21 (.b .lss 17 20)]) (.cond (.tmp 21) .skip (.exit 0))) (.seq (.block 1 [1,2,4,5,7,8,9] (.seq (.region [.o 24 (.f 2 2), .o 25 (.l 24), .m 26 9, .o 27 (.i 1 25 26), .o 28 (.l 27), .m 10 28]) (.seq (.seq (.region [.m 29 10, .m 30 1, .o 31 (.i 1 29 30), .o 32 (.l 31), .o 33 (.c .neq 32 0), .m 34 33, .g 35 (.m 7) 34 true, .g 36 (.eqn false 0 (.tmp 35)) 34 true, .o 37 (.pick (.tmp 34) (.tmp 36) (.const (.bool false)))]) (.cond (.tmp 37) (.seq (.region [.m 38 10, .m 7 38]) (.exit 1)) .skip)) (.seq (.seq (.region [.m 39 10, .m 40 1, .o 41 (.i 1 39 40), .o 42 (.l 41), .o 43 (.c .neq 42 0)]) (.cond (.tmp 43) (.region [.o 44 (.ld true 5 (.tmp 5)), .m 45 10, .m 46 7, .o 47 (.ld true 5 (.tmp 5)), .m 48 10, .m 49 1, .o 50 (.i 1 48 49), .o 51 (.l 50), .o 52 (.ld true 5 (.tmp 5)), .m 53 7, .m 54 1, .o 55 (.i 1 53 54), .o 56 (.l 55),⟨(some 57),(.call 47 [(.tmp 52),(.tmp 56)]),none,true⟩,⟨(some 58),(.call 48 [(.tmp 47),(.tmp 51),(.tmp 57)]),none,true⟩, .o 59 (.q 46 [44,45,46,58]), .m 10 59]) .skip)) (.region [.m 60 8, .m 61 10, .m 62 1, .o 63 (.q 74 [61,62]), .o 64 (.mkSl 25 1 1 [(.tmp 63)]), .o 65 (.app 25 1 24 (.tmp 60) (.tmp 64)), .m 8 65]))))) (.region [.m 22 9, .o 23 (.c .add 22 1), .m 9 23])))
def c36:ACode:=(.seq (.region [.o 2 (.box 24 3 (.tmp 0)), .o 4 (.alloc 24 [(.int .i64 0),(.int .i64 0),(.slice none 0 0)])]) (.seq (.region [.o 12 (.f 0 2), .o 13 (.l 12), .o 14 (.q 18 [13]), .m 11 14, .o 15 (.e 0 11), .o 16 (.e 1 11), .o 5 (.alloc 39 [(.int .i64 0),(.int .i64 0),(.int .i64 0),(.int .i64 0),(.slice none 0 0)]), .n (.st 5 (.tmp 5) (.tmp 15)), .m 6 16]) (.seq (.region [.o 7 (.mv (.const (.slice none 0 0)))]) (.seq (.region [.o 8 (.mv (.const (.slice none 0 0)))]) (.seq (.seq (.region [.k 9 0]) (.block 0 [2,4,8] (.loop [1,2,4,5,7,8,9] c36L0))) (.seq (.region [.o 66 (.f 0 2), .o 67 (.l 66), .o 68 (.f 1 2), .o 69 (.l 68), .o 70 (.c .sub 69 1), .m 71 8, .o 72 (.build [(.int .i64 0),(.int .i64 0),(.slice none 0 0)] [(0,1),(1,1),(2,1)] [(0,(.tmp 67)),(1,(.tmp 70)),(2,(.tmp 71))]), .o 73 (.q 6 [72]), .n (.st 3 (.tmp 4) (.tmp 73))]) .ret))))))
def F36:AFun:=⟨c36,2,74,[(.cell 4 true 3)]⟩
def K36:Nat→List Nat×List Nat
 |0=>([1,2,4,5,7,8,9],[2,4,8])
 |1=>([],[1,2,4,5,7,8,9])
 |_=>([],[])
theorem F36_ok:kj8 Tryz.prog K36 Tryz.f36=some F36:=by kernel_rfl
/- 37: syndrome/syndromeref.Extended -/
def c37L0:ACode:=(.seq (.seq (.region [.m 22 8, .o 23 (.f 1 1), .o 24 (.l 23), .o 25 (.b .lss 22 24)]) (.cond (.tmp 25) .skip (.exit 2))) (.seq (.block 3 [1,2,3,5,6,7,8] (.region [.o 28 (.ld true 5 (.tmp 3)), .m 29 7, .o 30 (.f 2 1), .o 31 (.l 30), .m 32 6, .o 33 (.i 1 31 32), .o 34 (.l 33), .m 35 8, .o 36 (.i 1 34 35), .o 37 (.l 36), .o 38 (.q 75 [28,29,37]), .m 7 38])) (.region [.m 26 8, .o 27 (.c .add 26 1), .m 8 27])))
def c37L1:ACode:=(.seq (.seq (.region [.m 15 6, .o 16 (.f 2 1), .o 17 (.l 16), .o 18 (.n 17), .o 19 (.b .lss 15 18)]) (.cond (.tmp 19) .skip (.exit 0))) (.seq (.block 1 [1,2,3,5,6] (.seq (.region [.k 7 0]) (.seq (.seq (.region [.k 8 0]) (.block 2 [1,2,3,5,6,7] (.loop [1,2,3,5,6,7,8] c37L0))) (.region [.m 39 5, .o 40 (.f 2 1), .o 41 (.l 40), .m 42 6, .o 43 (.i 1 41 42), .o 44 (.l 43), .o 45 (.q 45 [44]), .m 46 7, .o 47 (.mkSl 3 1 1 [(.tmp 46)]), .o 48 (.app 3 1 8 (.tmp 45) (.tmp 47)), .o 49 (.mkSl 25 1 1 [(.tmp 48)]), .o 50 (.app 25 1 24 (.tmp 39) (.tmp 49)), .m 5 50])))) (.region [.m 20 6, .o 21 (.c .add 20 1), .m 6 21])))
def c37:ACode:=(.seq (.region [.o 1 (.box 24 3 (.tmp 0)), .o 2 (.alloc 24 [(.int .i64 0),(.int .i64 0),(.slice none 0 0)])]) (.seq (.region [.o 10 (.f 0 1), .o 11 (.l 10), .o 12 (.q 18 [11]), .m 9 12, .o 13 (.e 0 9), .o 14 (.e 1 9), .o 3 (.alloc 39 [(.int .i64 0),(.int .i64 0),(.int .i64 0),(.int .i64 0),(.slice none 0 0)]), .n (.st 5 (.tmp 3) (.tmp 13)), .m 4 14]) (.seq (.region [.o 5 (.mv (.const (.slice none 0 0)))]) (.seq (.seq (.region [.k 6 0]) (.block 0 [1,2,5] (.loop [1,2,3,5,6] c37L1))) (.seq (.region [.o 51 (.f 0 1), .o 52 (.l 51), .o 53 (.f 1 1), .o 54 (.l 53), .o 55 (.c .add 54 1), .m 56 5, .o 57 (.build [(.int .i64 0),(.int .i64 0),(.slice none 0 0)] [(0,1),(1,1),(2,1)] [(0,(.tmp 52)),(1,(.tmp 55)),(2,(.tmp 56))]), .o 58 (.q 6 [57]), .n (.st 3 (.tmp 2) (.tmp 58))]) .ret)))))
def F37:AFun:=⟨c37,1,59,[(.cell 2 true 3)]⟩
def K37:Nat→List Nat×List Nat
 |0=>([1,2,3,5,6],[1,2,5])
 |1=>([],[1,2,3,5,6])
 |2=>([1,2,3,5,6,7,8],[1,2,3,5,6,7])
 |3=>([],[1,2,3,5,6,7,8])
 |_=>([],[])
theorem F37_ok:kj8 Tryz.prog K37 Tryz.f37=some F37:=by kernel_rfl
/- 38: syndrome/code.Puncture -/
def c38:ACode:=(.seq (.region [.o 2 (.box 24 3 (.tmp 0)), .o 3 (.box 3 1 (.tmp 1)), .o 4 (.alloc 24 [(.int .i64 0),(.int .i64 0),(.slice none 0 0)]), .k 5 0]) (.seq (.seq (.region [.o 7 (.ld true 3 (.tmp 2)), .o 8 (.l 3), .o 9 (.q 76 [7,8]), .m 6 9]) (.seq (.region [.m 10 6, .o 11 (.c .neq 10 0)]) (.cond (.tmp 11) (.seq (.region [.o 12 (.build [(.int .i64 0),(.int .i64 0),(.slice none 0 0)] [(0,1),(1,1),(2,1)] []), .m 13 6, .n (.st 3 (.tmp 4) (.tmp 12)), .m 5 13]) .ret) .skip))) (.seq (.region [.o 14 (.ld true 3 (.tmp 2)), .o 15 (.f 1 2), .o 16 (.l 15), .o 17 (.c .sub 16 1), .o 18 (.mkf 78 [(.tmp 3)]), .o 19 (.q 77 [14,17,18]), .o 20 (.e 0 19), .o 21 (.e 1 19), .n (.st 3 (.tmp 4) (.tmp 20)), .m 5 21]) .ret)))
def F38:AFun:=⟨c38,2,22,[(.cell 4 true 3),(.tmp 5)]⟩
def K38:Nat→List Nat×List Nat
 |_=>([],[])
theorem F38_ok:kj8 Tryz.prog K38 Tryz.f38=some F38:=by kernel_rfl
/- 39: syndrome/code.Shorten -/
def c39:ACode:=(.seq (.region [.o 2 (.box 24 3 (.tmp 0)), .o 4 (.alloc 24 [(.int .i64 0),(.int .i64 0),(.slice none 0 0)]), .k 5 0]) (.seq (.seq (.region [.o 9 (.ld true 3 (.tmp 2)), .m 10 1, .o 11 (.q 76 [9,10]), .m 6 11]) (.seq (.region [.m 12 6, .o 13 (.c .neq 12 0)]) (.cond (.tmp 13) (.seq (.region [.o 14 (.build [(.int .i64 0),(.int .i64 0),(.slice none 0 0)] [(0,1),(1,1),(2,1)] []), .m 15 6, .n (.st 3 (.tmp 4) (.tmp 14)), .m 5 15]) .ret) .skip))) (.seq (.region [.o 17 (.ld true 3 (.tmp 2)), .o 18 (.q 9 [17]), .m 16 18, .o 19 (.e 0 16), .o 20 (.e 1 16), .o 7 (.alloc 24 [(.int .i64 0),(.int .i64 0),(.slice none 0 0)]), .n (.st 3 (.tmp 7) (.tmp 19)), .m 8 20]) (.seq (.region [.o 22 (.ld true 3 (.tmp 7)), .m 23 1, .o 24 (.q 38 [22,23]), .m 21 24, .o 25 (.e 0 21), .o 26 (.e 1 21), .n (.st 3 (.tmp 7) (.tmp 25))]) (.seq (.region [.o 27 (.ld true 3 (.tmp 7)), .o 28 (.q 9 [27]), .o 29 (.e 0 28), .o 30 (.e 1 28), .n (.st 3 (.tmp 4) (.tmp 29)), .m 5 30]) .ret)))))
def F39:AFun:=⟨c39,2,31,[(.cell 4 true 3),(.tmp 5)]⟩
def K39:Nat→List Nat×List Nat
 |_=>([],[])
theorem F39_ok:kj8 Tryz.prog K39 Tryz.f39=some F39:=by kernel_rfl
/- 40: syndrome/code.Extend -/
def c40:ACode:=(.seq (.region [.o 1 (.box 24 3 (.tmp 0)), .o 2 (.alloc 24 [(.int .i64 0),(.int .i64 0),(.slice none 0 0)]), .k 3 0]) (.seq (.seq (.region [.o 7 (.ld true 3 (.tmp 1)), .o 8 (.q 10 [7]), .m 4 8]) (.seq (.region [.m 9 4, .o 10 (.c .neq 9 0)]) (.cond (.tmp 10) (.seq (.region [.o 11 (.build [(.int .i64 0),(.int .i64 0),(.slice none 0 0)] [(0,1),(1,1),(2,1)] []), .m 12 4, .n (.st 3 (.tmp 2) (.tmp 11)), .m 3 12]) .ret) .skip))) (.seq (.seq (.region [.o 13 (.f 1 1), .o 14 (.l 13), .o 15 (.c .eql 14 64)]) (.cond (.tmp 15) (.seq (.region [.o 16 (.build [(.int .i64 0),(.int .i64 0),(.slice none 0 0)] [(0,1),(1,1),(2,1)] []), .n (.st 3 (.tmp 2) (.tmp 16)), .k 3 4]) .ret) .skip)) (.seq (.region [.o 18 (.f 0 1), .o 19 (.l 18), .o 20 (.q 24 [19]), .m 17 20, .o 21 (.e 0 17), .o 22 (.e 1 17), .o 5 (.alloc 50 [(.pointer none)]), .n (.st 1 (.tmp 5) (.tmp 21)), .m 6 22]) (.seq (.region [.o 23 (.ld true 3 (.tmp 1)), .o 24 (.f 1 1), .o 25 (.l 24), .o 26 (.c .add 25 1), .o 27 (.mkf 81 [(.tmp 5)]), .o 28 (.q 77 [23,26,27]), .o 29 (.e 0 28), .o 30 (.e 1 28), .n (.st 3 (.tmp 2) (.tmp 29)), .m 3 30]) .ret)))))
def F40:AFun:=⟨c40,1,31,[(.cell 2 true 3),(.tmp 3)]⟩
def K40:Nat→List Nat×List Nat
 |_=>([],[])
theorem F40_ok:kj8 Tryz.prog K40 Tryz.f40=some F40:=by kernel_rfl
/- 41: syndrome/syndromeref.Prime -/
def c41L0:ACode:=(.seq (.seq (.region [.m 15 0, .m 16 4, .o 17 (.b .rem 15 16), .o 18 (.c .eql 17 0)]) (.cond (.tmp 18) .skip (.exit 2))) (.block 3 [0,4,5] (.seq (.region [.m 19 0, .m 20 4, .o 21 (.b .quo 19 20), .m 0 21]) (.region [.m 22 5, .o 23 (.c .add 22 1), .m 5 23]))))
def c41L1:ACode:=(.seq (.seq (.region [.m 6 4, .m 7 0, .o 8 (.b .leq 6 7)]) (.cond (.tmp 8) .skip (.exit 0))) (.seq (.block 1 [0,4] (.seq (.seq (.region [.m 11 0, .m 12 4, .o 13 (.b .rem 11 12), .o 14 (.c .neq 13 0)]) (.cond (.tmp 14) (.exit 1) .skip)) (.seq (.region [.k 5 0]) (.seq (.block 2 [0,4,5] (.loop [0,4,5] c41L0)) (.seq (.seq (.region [.m 24 0, .o 25 (.c .eql 24 1)]) (.cond (.tmp 25) (.seq (.region [.m 26 4, .m 27 5, .m 2 26, .m 3 27]) .ret) .skip)) (.seq (.region [.k 2 0, .k 3 0]) .ret)))))) (.region [.m 9 4, .o 10 (.c .add 9 1), .m 4 10])))
def c41:ACode:=(.seq (.region [.k 2 0, .k 3 0]) (.seq (.seq (.region [.k 4 2]) (.block 0 [] (.loop [0,4] c41L1))) (.seq (.region [.k 2 0, .k 3 0]) .ret)))
def F41:AFun:=⟨c41,1,28,[(.tmp 2),(.tmp 3)]⟩
def K41:Nat→List Nat×List Nat
 |0=>([0,4],[])
 |1=>([],[0,4])
 |2=>([0,4,5],[0,4,5])
 |3=>([],[0,4,5])
 |_=>([],[])
theorem F41_ok:kj8 Tryz.prog K41 Tryz.f41=some F41:=by kernel_rfl
/- 42: syndrome/syndromeref.full -/
def c42L0:ACode:=(.seq (.seq (.region [.m 11 7, .o 12 (.f 0 2), .o 13 (.l 12), .o 14 (.c .sub 13 1), .o 15 (.b .lss 11 14)]) (.cond (.tmp 15) .skip (.exit 0))) (.seq (.block 1 [1,2,5,6,7] (.seq (.seq (.region [.m 18 6, .o 19 (.c .eql 18 0), .m 20 19, .g 21 (.m 5) 20 false, .g 22 (.m 6) 20 false, .g 23 (.i 1 21 22) 20 false, .g 24 (.l 23) 20 false, .o 25 (.pick (.tmp 20) (.const (.bool true)) (.tmp 24))]) (.cond (.tmp 25) (.seq (.region [.o 4 (.mv (.const (.bool false)))]) .ret) .skip)) (.seq (.region [.m 26 5, .m 27 6, .o 28 (.i 1 26 27), .n (.st 1 (.tmp 28) (.const (.bool true)))]) (.region [.o 29 (.ld true 5 (.tmp 2)), .m 30 6, .m 31 1, .o 32 (.q 48 [29,30,31]), .m 6 32])))) (.region [.m 16 7, .o 17 (.c .add 16 1), .m 7 17])))
def c42:ACode:=(.seq (.region [.o 2 (.box 39 5 (.tmp 0)), .o 4 (.mv (.const (.bool false)))]) (.seq (.region [.o 8 (.f 0 2), .o 9 (.l 8), .o 10 (.mks 4 1 1 [(.bool false)] (.tmp 9) (.tmp 9)), .m 5 10]) (.seq (.region [.k 6 1]) (.seq (.seq (.region [.k 7 0]) (.block 0 [] (.loop [1,2,5,6,7] c42L0))) (.seq (.region [.o 4 (.mv (.const (.bool true)))]) .ret)))))
def F42:AFun:=⟨c42,2,33,[(.tmp 4)]⟩
def K42:Nat→List Nat×List Nat
 |0=>([1,2,5,6,7],[])
 |1=>([],[1,2,5,6,7])
 |_=>([],[])
theorem F42_ok:kj8 Tryz.prog K42 Tryz.f42=some F42:=by kernel_rfl
/- 43: syndrome/syndromeref.Digits -/
def c43L0:ACode:=(.seq (.seq (.region [.m 9 8, .m 10 2, .o 11 (.b .lss 9 10)]) (.cond (.tmp 11) .skip (.exit 0))) (.seq (.block 1 [0,1,2,7,8] (.seq (.region [.m 14 7, .m 15 0, .m 16 1, .o 17 (.b .rem 15 16), .o 18 (.mkSl 3 1 1 [(.tmp 17)]), .o 19 (.app 3 1 8 (.tmp 14) (.tmp 18)), .m 7 19]) (.region [.m 20 0, .m 21 1, .o 22 (.b .quo 20 21), .m 0 22]))) (.region [.m 12 8, .o 13 (.c .add 12 1), .m 8 13])))
def c43:ACode:=(.seq (.region [.o 6 (.mv (.const (.slice none 0 0)))]) (.seq (.region [.o 7 (.mv (.const (.slice none 0 0)))]) (.seq (.seq (.region [.k 8 0]) (.block 0 [7] (.loop [0,1,2,7,8] c43L0))) (.seq (.region [.m 23 7, .m 6 23]) .ret))))
def F43:AFun:=⟨c43,3,24,[(.tmp 6)]⟩
def K43:Nat→List Nat×List Nat
 |0=>([0,1,2,7,8],[7])
 |1=>([],[0,1,2,7,8])
 |_=>([],[])
theorem F43_ok:kj8 Tryz.prog K43 Tryz.f43=some F43:=by kernel_rfl
/- 44: (syndrome/syndromeref.F).Has -/
def c44:ACode:=(.seq (.region [.o 2 (.box 39 5 (.tmp 0)), .o 4 (.mv (.const (.bool false)))]) (.seq (.region [.m 5 1, .o 6 (.c .geq 5 0), .m 7 6, .g 8 (.m 1) 7 true, .g 9 (.f 0 2) 7 true, .g 10 (.l 9) 7 true, .g 11 (.b .lss 8 10) 7 true, .o 12 (.pick (.tmp 7) (.tmp 11) (.const (.bool false))), .m 4 12]) .ret))
def F44:AFun:=⟨c44,2,13,[(.tmp 4)]⟩
def K44:Nat→List Nat×List Nat
 |_=>([],[])
theorem F44_ok:kj8 Tryz.prog K44 Tryz.f44=some F44:=by kernel_rfl
/- 45: syndrome/syndromeref.Copy -/
def c45:ACode:=(.seq (.region [.o 2 (.mv (.const (.slice none 0 0)))]) (.seq (.region [.o 3 (.mkSl 3 1 0 []), .m 4 0, .o 5 (.app 3 1 8 (.tmp 3) (.tmp 4)), .m 2 5]) .ret))
def F45:AFun:=⟨c45,1,6,[(.tmp 2)]⟩
def K45:Nat→List Nat×List Nat
 |_=>([],[])
theorem F45_ok:kj8 Tryz.prog K45 Tryz.f45=some F45:=by kernel_rfl
/- 46: (syndrome/syndromeref.F).less -/
def c46L0:ACode:=(.seq (.seq (.region [.m 12 10, .m 13 1, .o 14 (.n 13), .o 15 (.b .lss 12 14)]) (.cond (.tmp 15) .skip (.exit 0))) (.seq (.block 1 [1,2,3,4,9,10] (.seq (.region [.m 18 1, .m 19 10, .o 20 (.i 1 18 19), .o 21 (.l 20), .m 11 21]) (.seq (.seq (.region [.m 22 3, .o 23 (.c .neq 22 0), .m 24 23, .g 25 (.m 2) 24 true, .g 26 (.m 10) 24 true, .g 27 (.i 1 25 26) 24 true, .g 28 (.l 27) 24 true, .g 29 (.c .neq 28 0) 24 true, .o 30 (.pick (.tmp 24) (.tmp 29) (.const (.bool false)))]) (.cond (.tmp 30) (.region [.o 31 (.ld true 5 (.tmp 4)), .m 32 11, .o 33 (.ld true 5 (.tmp 4)), .m 34 3, .m 35 2, .m 36 10, .o 37 (.i 1 35 36), .o 38 (.l 37),⟨(some 39),(.call 48 [(.tmp 33),(.tmp 34),(.tmp 38)]),none,true⟩, .o 40 (.q 75 [31,32,39]), .m 11 40]) .skip)) (.region [.m 41 9, .m 42 11, .o 43 (.mkSl 3 1 1 [(.tmp 42)]), .o 44 (.app 3 1 8 (.tmp 41) (.tmp 43)), .m 9 44])))) (.region [.m 16 10, .o 17 (.c .add 16 1), .m 10 17])))
def c46:ACode:=(.seq (.region [.o 4 (.box 39 5 (.tmp 0)), .o 8 (.mv (.const (.slice none 0 0)))]) (.seq (.region [.o 9 (.mv (.const (.slice none 0 0)))]) (.seq (.seq (.region [.k 10 0]) (.block 0 [9] (.loop [1,2,3,4,9,10] c46L0))) (.seq (.region [.m 45 9, .m 8 45]) .ret))))
def F46:AFun:=⟨c46,4,46,[(.tmp 8)]⟩
def K46:Nat→List Nat×List Nat
 |0=>([1,2,3,4,9,10],[9])
 |1=>([],[1,2,3,4,9,10])
 |_=>([],[])
theorem F46_ok:kj8 Tryz.prog K46 Tryz.f46=some F46:=by kernel_rfl
/- 47: (syndrome/syndromeref.F).Inv -/
def c47L0:ACode:=(.seq (.seq (.region [.m 14 5, .o 15 (.f 0 2), .o 16 (.l 15), .o 17 (.b .lss 14 16)]) (.cond (.tmp 17) .skip (.exit 0))) (.seq (.block 1 [1,2,5] (.seq (.region [.o 20 (.ld true 5 (.tmp 2)), .m 21 1, .m 22 5, .o 23 (.q 48 [20,21,22]), .o 24 (.c .eql 23 1)]) (.cond (.tmp 24) (.seq (.region [.m 25 5, .m 4 25]) .ret) .skip))) (.region [.m 18 5, .o 19 (.c .add 18 1), .m 5 19])))
def c47:ACode:=(.seq (.region [.o 2 (.box 39 5 (.tmp 0)), .k 4 0]) (.seq (.seq (.region [.o 6 (.ld true 5 (.tmp 2)), .m 7 1, .o 8 (.q 44 [6,7]), .o 9 (.un .not (.tmp 8)), .m 10 9, .g 11 (.m 1) 10 false, .g 12 (.c .eql 11 0) 10 false, .o 13 (.pick (.tmp 10) (.const (.bool true)) (.tmp 12))]) (.cond (.tmp 13) (.seq (.region [.k 4 (-1)]) .ret) .skip)) (.seq (.seq (.region [.k 5 1]) (.block 0 [] (.loop [1,2,5] c47L0))) (.seq (.region [.k 4 (-1)]) .ret))))
def F47:AFun:=⟨c47,2,26,[(.tmp 4)]⟩
def K47:Nat→List Nat×List Nat
 |0=>([1,2,5],[])
 |1=>([],[1,2,5])
 |_=>([],[])
theorem F47_ok:kj8 Tryz.prog K47 Tryz.f47=some F47:=by kernel_rfl
/- 48: (syndrome/syndromeref.F).Mul -/
def c48L0:ACode:=(.seq (.seq (.region [.m 55 11, .o 56 (.f 2 3), .o 57 (.l 56), .o 58 (.b .lss 55 57)]) (.cond (.tmp 58) .skip (.exit 2))) (.seq (.block 3 [3,7,8,9,10,11] (.region [.m 61 9, .m 62 10, .m 63 11, .o 64 (.b .add 62 63), .m 65 9, .m 66 10, .m 67 11, .o 68 (.b .add 66 67), .o 69 (.i 1 65 68), .o 70 (.l 69), .m 71 7, .m 72 10, .o 73 (.i 1 71 72), .o 74 (.l 73), .m 75 8, .m 76 11, .o 77 (.i 1 75 76), .o 78 (.l 77), .o 79 (.b .mul 74 78), .o 80 (.b .add 70 79), .o 81 (.f 1 3), .o 82 (.l 81), .o 83 (.b .rem 80 82), .o 84 (.i 1 61 64), .n (.st 1 (.tmp 84) (.tmp 83))])) (.region [.m 59 11, .o 60 (.c .add 59 1), .m 11 60])))
def c48L1:ACode:=(.seq (.seq (.region [.m 49 10, .o 50 (.f 2 3), .o 51 (.l 50), .o 52 (.b .lss 49 51)]) (.cond (.tmp 52) .skip (.exit 0))) (.seq (.block 1 [3,7,8,9,10] (.seq (.region [.k 11 0]) (.block 2 [3,7,8,9,10] (.loop [3,7,8,9,10,11] c48L0)))) (.region [.m 53 10, .o 54 (.c .add 53 1), .m 10 54])))
def c48L2:ACode:=(.seq (.seq (.region [.m 95 13, .o 96 (.f 2 3), .o 97 (.l 96), .o 98 (.b .lss 95 97)]) (.cond (.tmp 98) .skip (.exit 6))) (.seq (.block 7 [3,9,12,13] (.region [.m 101 9, .m 102 12, .o 103 (.f 2 3), .o 104 (.l 103), .o 105 (.b .sub 102 104), .m 106 13, .o 107 (.b .add 105 106), .m 108 9, .m 109 12, .o 110 (.f 2 3), .o 111 (.l 110), .o 112 (.b .sub 109 111), .m 113 13, .o 114 (.b .add 112 113), .o 115 (.i 1 108 114), .o 116 (.l 115), .m 117 9, .m 118 12, .o 119 (.i 1 117 118), .o 120 (.l 119), .o 121 (.f 1 3), .o 122 (.l 121), .o 123 (.f 4 3), .o 124 (.l 123), .m 125 13, .o 126 (.i 1 124 125), .o 127 (.l 126), .o 128 (.b .sub 122 127), .o 129 (.b .mul 120 128), .o 130 (.b .add 116 129), .o 131 (.f 1 3), .o 132 (.l 131), .o 133 (.b .rem 130 132), .o 134 (.i 1 101 107), .n (.st 1 (.tmp 134) (.tmp 133))])) (.region [.m 99 13, .o 100 (.c .add 99 1), .m 13 100])))
def c48L3:ACode:=(.seq (.seq (.region [.m 89 12, .o 90 (.f 2 3), .o 91 (.l 90), .o 92 (.b .geq 89 91)]) (.cond (.tmp 92) .skip (.exit 4))) (.seq (.block 5 [3,9,12] (.seq (.seq (.region [.k 13 0]) (.block 6 [3,9,12] (.loop [3,9,12,13] c48L2))) (.region [.m 135 9, .m 136 12, .o 137 (.i 1 135 136), .n (.st 1 (.tmp 137) (.const (.int .i64 0)))]))) (.region [.m 93 12, .o 94 (.c .sub 93 1), .m 12 94])))
def c48:ACode:=(.seq (.region [.o 3 (.box 39 5 (.tmp 0)), .k 6 0]) (.seq (.seq (.region [.o 14 (.ld true 5 (.tmp 3)), .m 15 1, .o 16 (.q 44 [14,15]), .o 17 (.un .not (.tmp 16)), .m 18 17, .g 19 (.ld true 5 (.tmp 3)) 18 false, .g 20 (.m 2) 18 false, .g 21 (.q 44 [19,20]) 18 false, .g 22 (.un .not (.tmp 21)) 18 false, .o 23 (.pick (.tmp 18) (.const (.bool true)) (.tmp 22))]) (.cond (.tmp 23) (.seq (.region [.k 6 (-1)]) .ret) .skip)) (.seq (.seq (.region [.o 24 (.f 2 3), .o 25 (.l 24), .o 26 (.c .eql 25 1)]) (.cond (.tmp 26) (.seq (.region [.m 27 1, .m 28 2, .o 29 (.b .mul 27 28), .o 30 (.f 1 3), .o 31 (.l 30), .o 32 (.b .rem 29 31), .m 6 32]) .ret) .skip)) (.seq (.region [.m 33 1, .o 34 (.f 1 3), .o 35 (.l 34), .o 36 (.f 2 3), .o 37 (.l 36), .o 38 (.q 43 [33,35,37]), .m 7 38]) (.seq (.region [.m 39 2, .o 40 (.f 1 3), .o 41 (.l 40), .o 42 (.f 2 3), .o 43 (.l 42), .o 44 (.q 43 [39,41,43]), .m 8 44]) (.seq (.region [.o 45 (.f 2 3), .o 46 (.l 45), .o 47 (.bin .mul (.const (.int .i64 2)) (.tmp 46)), .o 48 (.mks 3 1 8 [(.int .i64 0)] (.tmp 47) (.tmp 47)), .m 9 48]) (.seq (.seq (.region [.k 10 0]) (.block 0 [3,9] (.loop [3,7,8,9,10] c48L1))) (.seq (.seq (.region [.o 85 (.f 2 3), .o 86 (.l 85), .o 87 (.bin .mul (.const (.int .i64 2)) (.tmp 86)), .o 88 (.c .sub 87 1), .m 12 88]) (.block 4 [3,9] (.loop [3,9,12] c48L3))) (.seq (.region [.m 138 9, .o 139 (.f 2 3), .o 140 (.l 139), .o 141 (.sl 1 (.tmp 138) none (some (.tmp 140))), .o 142 (.f 1 3), .o 143 (.l 142), .o 144 (.q 83 [141,143]), .m 6 144]) .ret)))))))))
def F48:AFun:=⟨c48,3,145,[(.tmp 6)]⟩
def K48:Nat→List Nat×List Nat
 |0=>([3,7,8,9,10],[3,9])
 |1=>([],[3,7,8,9,10])
 |2=>([3,7,8,9,10,11],[3,7,8,9,10])
 |3=>([],[3,7,8,9,10,11])
 |4=>([3,9,12],[3,9])
 |5=>([],[3,9,12])
 |6=>([3,9,12,13],[3,9,12])
 |7=>([],[3,9,12,13])
 |_=>([],[])
theorem F48_ok:kj8 Tryz.prog K48 Tryz.f48=some F48:=by kernel_rfl
/- 49: syndrome/syndromeref.In -/
def c49L0:ACode:=(.seq (.seq (.region [.m 6 5, .m 7 1, .o 8 (.n 7), .o 9 (.b .lss 6 8)]) (.cond (.tmp 9) .skip (.exit 0))) (.seq (.block 1 [0,1,5] (.seq (.region [.m 12 1, .m 13 5, .o 14 (.i 1 12 13), .o 15 (.l 14), .m 16 0, .o 17 (.b .eql 15 16)]) (.cond (.tmp 17) (.seq (.region [.o 4 (.mv (.const (.bool true)))]) .ret) .skip))) (.region [.m 10 5, .o 11 (.c .add 10 1), .m 5 11])))
def c49:ACode:=(.seq (.region [.o 4 (.mv (.const (.bool false)))]) (.seq (.seq (.region [.k 5 0]) (.block 0 [] (.loop [0,1,5] c49L0))) (.seq (.region [.o 4 (.mv (.const (.bool false)))]) .ret)))
def F49:AFun:=⟨c49,2,18,[(.tmp 4)]⟩
def K49:Nat→List Nat×List Nat
 |0=>([0,1,5],[])
 |1=>([],[0,1,5])
 |_=>([],[])
theorem F49_ok:kj8 Tryz.prog K49 Tryz.f49=some F49:=by kernel_rfl
/- 50: (syndrome/syndromeref.F).Neg -/
def c50L0:ACode:=(.seq (.seq (.region [.m 17 6, .o 18 (.f 2 2), .o 19 (.l 18), .o 20 (.b .lss 17 19)]) (.cond (.tmp 20) .skip (.exit 0))) (.seq (.block 1 [2,5,6] (.region [.m 23 5, .m 24 6, .o 25 (.f 1 2), .o 26 (.l 25), .m 27 5, .m 28 6, .o 29 (.i 1 27 28), .o 30 (.l 29), .o 31 (.b .sub 26 30), .o 32 (.f 1 2), .o 33 (.l 32), .o 34 (.b .rem 31 33), .o 35 (.i 1 23 24), .n (.st 1 (.tmp 35) (.tmp 34))])) (.region [.m 21 6, .o 22 (.c .add 21 1), .m 6 22])))
def c50:ACode:=(.seq (.region [.o 2 (.box 39 5 (.tmp 0)), .k 4 0]) (.seq (.seq (.region [.o 7 (.ld true 5 (.tmp 2)), .m 8 1, .o 9 (.q 44 [7,8]), .o 10 (.un .not (.tmp 9))]) (.cond (.tmp 10) (.seq (.region [.k 4 (-1)]) .ret) .skip)) (.seq (.region [.m 11 1, .o 12 (.f 1 2), .o 13 (.l 12), .o 14 (.f 2 2), .o 15 (.l 14), .o 16 (.q 43 [11,13,15]), .m 5 16]) (.seq (.seq (.region [.k 6 0]) (.block 0 [2,5] (.loop [2,5,6] c50L0))) (.seq (.region [.m 36 5, .o 37 (.f 1 2), .o 38 (.l 37), .o 39 (.q 83 [36,38]), .m 4 39]) .ret)))))
def F50:AFun:=⟨c50,2,40,[(.tmp 4)]⟩
def K50:Nat→List Nat×List Nat
 |0=>([2,5,6],[2,5])
 |1=>([],[2,5,6])
 |_=>([],[])
theorem F50_ok:kj8 Tryz.prog K50 Tryz.f50=some F50:=by kernel_rfl
/- 51: syndrome/matrix.clone -/
def c51L0:ACode:=(.seq (.region [.o 12 (.b .lss 11 10)]) (.seq (.cond (.tmp 12) .skip (.exit 0)) (.seq (.block 1 [3,9,10,11] (.seq (.region [.m 13 11, .o 14 (.i 1 9 11), .o 15 (.l 14), .m 4 13, .m 5 15]) (.region [.m 16 3, .m 17 4, .m 18 5, .o 19 (.q 80 [18]), .o 20 (.i 1 16 17), .n (.st 1 (.tmp 20) (.tmp 19))]))) (.region [.o 21 (.c .add 11 1), .m 11 21]))))
def c51:ACode:=(.seq (.region [.o 2 (.mv (.const (.slice none 0 0)))]) (.seq (.region [.m 6 0, .o 7 (.n 6), .o 8 (.mks 25 1 24 [(.slice none 0 0)] (.tmp 7) (.tmp 7)), .m 3 8]) (.seq (.seq (.region [.m 9 0, .o 10 (.n 9), .k 11 0]) (.block 0 [3] (.loop [3,9,10,11] c51L0))) (.seq (.region [.m 22 3, .m 2 22]) .ret))))
def F51:AFun:=⟨c51,1,23,[(.tmp 2)]⟩
def K51:Nat→List Nat×List Nat
 |0=>([3,9,10,11],[3])
 |1=>([],[3,9,10,11])
 |_=>([],[])
theorem F51_ok:kj8 Tryz.prog K51 Tryz.f51=some F51:=by kernel_rfl
/- 52: slices.IndexFunc[[][]int,[]int] -/
def c52L0:ACode:=(.seq (.region [.o 9 (.b .lss 8 7)]) (.seq (.cond (.tmp 9) .skip (.exit 0)) (.seq (.block 1 [0,1,7,8] (.seq (.region [.m 10 8, .m 5 10]) (.seq (.region [.m 11 1, .m 12 0, .m 13 5, .o 14 (.i 1 12 13), .o 15 (.l 14), .o 16 (.calld (.tmp 11) [(.tmp 15)])]) (.cond (.tmp 16) (.seq (.region [.m 17 5, .m 4 17]) .ret) .skip)))) (.region [.o 18 (.c .add 8 1), .m 8 18]))))
def c52:ACode:=(.seq (.region [.k 4 0]) (.seq (.seq (.region [.m 6 0, .o 7 (.n 6), .k 8 0]) (.block 0 [] (.loop [0,1,7,8] c52L0))) (.seq (.region [.k 4 (-1)]) .ret)))
def F52:AFun:=⟨c52,2,19,[(.tmp 4)]⟩
def K52:Nat→List Nat×List Nat
 |0=>([0,1,7,8],[])
 |1=>([],[0,1,7,8])
 |_=>([],[])
theorem F52_ok:kj8 Tryz.prog K52 Tryz.f52=some F52:=by kernel_rfl
/- 53: syndrome/matrix.Reduce$1 -/
def c53:ACode:=(.seq (.region [.o 3 (.mv (.const (.bool false)))]) (.seq (.region [.m 4 0, .o 5 (.l 1), .o 6 (.i 1 4 5), .o 7 (.l 6), .o 8 (.c .neq 7 0), .m 3 8]) .ret))
def F53:AFun:=⟨c53,2,9,[(.tmp 3)]⟩
def K53:Nat→List Nat×List Nat
 |_=>([],[])
theorem F53_ok:kj8 Tryz.prog K53 Tryz.f53=some F53:=by kernel_rfl
/- 54: syndrome/matrix.scale -/
def c54L0:ACode:=(.seq (.region [.o 10 (.b .lss 9 8)]) (.seq (.cond (.tmp 10) .skip (.exit 0)) (.seq (.block 1 [0,1,2,8,9] (.seq (.region [.m 11 9, .m 6 11]) (.region [.m 12 1, .m 13 6, .m 14 0, .m 15 1, .m 16 6, .o 17 (.i 1 15 16), .o 18 (.l 17), .m 19 2, .o 20 (.q 72 [14,18,19]), .o 21 (.i 1 12 13), .n (.st 1 (.tmp 21) (.tmp 20))]))) (.region [.o 22 (.c .add 9 1), .m 9 22]))))
def c54:ACode:=(.seq (.region [.m 7 1, .o 8 (.n 7), .k 9 0]) (.block 0 [] (.loop [0,1,2,8,9] c54L0)))
def F54:AFun:=⟨c54,3,23,[]⟩
def K54:Nat→List Nat×List Nat
 |0=>([0,1,2,8,9],[])
 |1=>([],[0,1,2,8,9])
 |_=>([],[])
theorem F54_ok:kj8 Tryz.prog K54 Tryz.f54=some F54:=by kernel_rfl
/- 55: (*syndrome/field.Field).Inv -/
def c55:ACode:=(.seq (.region [.k 4 0]) (.seq (.seq (.region [.m 5 0, .m 6 1, .o 7 (.q 64 [5,6]), .o 8 (.un .not (.tmp 7)), .m 9 8, .g 10 (.m 1) 9 false, .g 11 (.c .eql 10 0) 9 false, .o 12 (.pick (.tmp 9) (.const (.bool true)) (.tmp 11))]) (.cond (.tmp 12) (.seq (.region [.k 4 (-1)]) .ret) .skip)) (.seq (.region [.m 13 0, .o 14 (.nilck (.tmp 13)), .o 15 (.f 5 14), .o 16 (.l 15), .m 17 0, .o 18 (.nilck (.tmp 17)), .o 19 (.f 0 18), .o 20 (.l 19), .o 21 (.c .sub 20 1), .m 22 0, .o 23 (.nilck (.tmp 22)), .o 24 (.f 6 23), .o 25 (.l 24), .m 26 1, .o 27 (.i 1 25 26), .o 28 (.l 27), .o 29 (.b .sub 21 28), .m 30 0, .o 31 (.nilck (.tmp 30)), .o 32 (.f 0 31), .o 33 (.l 32), .o 34 (.c .sub 33 1), .o 35 (.b .rem 29 34), .o 36 (.i 1 16 35), .o 37 (.l 36), .m 4 37]) .ret)))
def F55:AFun:=⟨c55,2,38,[(.tmp 4)]⟩
def K55:Nat→List Nat×List Nat
 |_=>([],[])
theorem F55_ok:kj8 Tryz.prog K55 Tryz.f55=some F55:=by kernel_rfl
/- 56: syndrome/matrix.less -/
def c56L0:ACode:=(.seq (.region [.o 12 (.b .lss 11 10)]) (.seq (.cond (.tmp 12) .skip (.exit 0)) (.seq (.block 1 [0,1,2,3,10,11] (.seq (.region [.m 13 11, .m 8 13]) (.region [.m 14 1, .m 15 8, .m 16 0, .m 17 1, .m 18 8, .o 19 (.i 1 17 18), .o 20 (.l 19), .m 21 0, .m 22 3, .m 23 2, .m 24 8, .o 25 (.i 1 23 24), .o 26 (.l 25),⟨(some 27),(.call 72 [(.tmp 21),(.tmp 22),(.tmp 26)]),none,true⟩, .o 28 (.q 82 [16,20,27]), .o 29 (.i 1 14 15), .n (.st 1 (.tmp 29) (.tmp 28))]))) (.region [.o 30 (.c .add 11 1), .m 11 30]))))
def c56:ACode:=(.seq (.region [.m 9 1, .o 10 (.n 9), .k 11 0]) (.block 0 [] (.loop [0,1,2,3,10,11] c56L0)))
def F56:AFun:=⟨c56,4,31,[]⟩
def K56:Nat→List Nat×List Nat
 |0=>([0,1,2,3,10,11],[])
 |1=>([],[0,1,2,3,10,11])
 |_=>([],[])
theorem F56_ok:kj8 Tryz.prog K56 Tryz.f56=some F56:=by kernel_rfl
/- 57: slices.Contains[[]int,int] -/
def c57:ACode:=(.seq (.region [.o 4 (.mv (.const (.bool false)))]) (.seq (.region [.m 5 0, .m 6 1, .o 7 (.q 84 [5,6]), .o 8 (.c .geq 7 0), .m 4 8]) .ret))
def F57:AFun:=⟨c57,2,9,[(.tmp 4)]⟩
def K57:Nat→List Nat×List Nat
 |_=>([],[])
theorem F57_ok:kj8 Tryz.prog K57 Tryz.f57=some F57:=by kernel_rfl
/- 58: (*syndrome/field.Field).Neg -/
def c58L0:ACode:=(.seq (.region [.o 16 (.b .lss 15 14)]) (.seq (.cond (.tmp 16) .skip (.exit 0)) (.seq (.block 1 [0,1,5,6,14,15] (.seq (.region [.m 17 5, .m 18 0, .o 19 (.nilck (.tmp 18)), .o 20 (.f 1 19), .o 21 (.l 20), .m 22 1, .m 23 0, .o 24 (.nilck (.tmp 23)), .o 25 (.f 1 24), .o 26 (.l 25), .o 27 (.b .rem 22 26), .o 28 (.b .sub 21 27), .m 29 0, .o 30 (.nilck (.tmp 29)), .o 31 (.f 1 30), .o 32 (.l 31), .o 33 (.b .rem 28 32), .m 34 6, .o 35 (.b .mul 33 34), .o 36 (.b .add 17 35), .m 5 36]) (.region [.m 37 1, .m 38 0, .o 39 (.nilck (.tmp 38)), .o 40 (.f 1 39), .o 41 (.l 40), .o 42 (.b .quo 37 41), .m 43 6, .m 44 0, .o 45 (.nilck (.tmp 44)), .o 46 (.f 1 45), .o 47 (.l 46), .o 48 (.b .mul 43 47), .m 1 42, .m 6 48]))) (.region [.o 49 (.c .add 15 1), .m 15 49]))))
def c58:ACode:=(.seq (.region [.k 4 0]) (.seq (.seq (.region [.m 7 0, .m 8 1, .o 9 (.q 64 [7,8]), .o 10 (.un .not (.tmp 9))]) (.cond (.tmp 10) (.seq (.region [.k 4 (-1)]) .ret) .skip)) (.seq (.region [.k 5 0, .k 6 1]) (.seq (.seq (.region [.m 11 0, .o 12 (.nilck (.tmp 11)), .o 13 (.f 2 12), .o 14 (.l 13), .k 15 0]) (.block 0 [5] (.loop [0,1,5,6,14,15] c58L0))) (.seq (.region [.m 50 5, .m 4 50]) .ret)))))
def F58:AFun:=⟨c58,2,51,[(.tmp 4)]⟩
def K58:Nat→List Nat×List Nat
 |0=>([0,1,5,6,14,15],[5])
 |1=>([],[0,1,5,6,14,15])
 |_=>([],[])
theorem F58_ok:kj8 Tryz.prog K58 Tryz.f58=some F58:=by kernel_rfl
/- 60: syndrome/field.New$1 -/
def c60:ACode:=(.region [.o 2 (.l 0), .o 3 (.l 0),⟨(some 4),(.call 61 [(.tmp 3)]),none,true⟩, .o 5 (.f 195 1), .o 6 (.iaddrA 65 1 (.tmp 5) (.tmp 2)), .n (.st 1 (.tmp 6) (.tmp 4))])
def F60:AFun:=⟨c60,2,7,[]⟩
def K60:Nat→List Nat×List Nat
 |_=>([],[])
theorem F60_ok:kj8 Tryz.prog K60 Tryz.f60=some F60:=by kernel_rfl
/- 61: syndrome/field.build -/
def c61L0:ACode:=(.seq (.seq (.region [.m 28 5, .o 29 (.q 88 [28]), .o 30 (.un .not (.tmp 29))]) (.cond (.tmp 30) .skip (.exit 0))) (.seq (.block 1 [5] .skip) (.region [.m 31 5, .o 32 (.nilck (.tmp 31)), .o 33 (.f 4 32), .o 34 (.l 33), .o 35 (.c .add 34 1), .o 36 (.nilck (.tmp 31)), .o 37 (.f 4 36), .n (.st 1 (.tmp 37) (.tmp 35))])))
def c61L1:ACode:=(.seq (.region [.o 45 (.b .lss 44 43)]) (.seq (.cond (.tmp 45) .skip (.exit 2)) (.seq (.block 3 [3,4,5,43,44] (.seq (.region [.m 46 44, .m 6 46]) (.seq (.region [.m 47 5, .m 48 6, .m 49 3, .m 50 4, .o 51 (.q 89 [48,49,50]), .o 52 (.mkSl 3 1 1 [(.const (.int .i64 1))]), .o 53 (.app 3 1 8 (.tmp 51) (.tmp 52)), .o 54 (.nilck (.tmp 47)), .o 55 (.f 3 54), .n (.st 1 (.tmp 55) (.tmp 53))]) (.seq (.region [.m 56 5, .o 57 (.q 88 [56])]) (.cond (.tmp 57) (.seq (.region [.m 58 5, .m 2 58]) .ret) .skip))))) (.region [.o 59 (.c .add 44 1), .m 44 59]))))
def c61:ACode:=(.seq (.region [.o 2 (.mv (.const (.pointer none)))]) (.seq (.region [.m 8 0, .o 9 (.q 87 [8]), .m 7 9, .o 10 (.e 0 7), .o 11 (.e 1 7), .m 3 10, .m 4 11]) (.seq (.seq (.region [.m 12 3, .o 13 (.c .eql 12 0)]) (.cond (.tmp 13) (.seq (.region [.o 2 (.mv (.const (.pointer none)))]) .ret) .skip)) (.seq (.region [.m 14 0, .m 15 3, .m 16 4, .o 17 (.build [(.int .i64 0),(.int .i64 0),(.int .i64 0),(.slice none 0 0),(.int .i64 0),(.slice none 0 0),(.slice none 0 0)] [(0,1),(1,1),(2,1),(3,1),(4,1),(5,1),(6,1)] [(0,(.tmp 14)),(1,(.tmp 15)),(2,(.tmp 16))]), .o 18 (.box 108 7 (.tmp 17)), .m 5 18]) (.seq (.seq (.region [.m 19 4, .o 20 (.c .eql 19 1)]) (.cond (.tmp 20) (.seq (.region [.m 21 5, .o 22 (.mkSl 3 1 2 [(.const (.int .i64 0)),(.const (.int .i64 1))]), .o 23 (.nilck (.tmp 21)), .o 24 (.f 3 23), .n (.st 1 (.tmp 24) (.tmp 22))]) (.seq (.seq (.region [.m 25 5, .o 26 (.nilck (.tmp 25)), .o 27 (.f 4 26), .n (.st 1 (.tmp 27) (.const (.int .i64 1)))]) (.block 0 [5] (.loop [5] c61L0))) (.seq (.region [.m 38 5, .m 2 38]) .ret))) .skip)) (.seq (.region [.m 39 5, .m 40 3, .o 41 (.nilck (.tmp 39)), .o 42 (.f 4 41), .n (.st 1 (.tmp 42) (.tmp 40))]) (.seq (.seq (.region [.m 43 0, .k 44 0]) (.block 2 [] (.loop [3,4,5,43,44] c61L1))) (.seq (.region [.o 2 (.mv (.const (.pointer none)))]) .ret))))))))
def F61:AFun:=⟨c61,1,60,[(.tmp 2)]⟩
def K61:Nat→List Nat×List Nat
 |0=>([5],[5])
 |1=>([],[5])
 |2=>([3,4,5,43,44],[])
 |3=>([],[3,4,5,43,44])
 |_=>([],[])
theorem F61_ok:kj8 Tryz.prog K61 Tryz.f61=some F61:=by kernel_rfl
/- 62: slices.ContainsFunc[[]int,int] -/
def c62:ACode:=(.seq (.region [.o 4 (.mv (.const (.bool false)))]) (.seq (.region [.m 5 0, .m 6 1, .o 7 (.q 90 [5,6]), .o 8 (.c .geq 7 0), .m 4 8]) .ret))
def F62:AFun:=⟨c62,2,9,[(.tmp 4)]⟩
def K62:Nat→List Nat×List Nat
 |_=>([],[])
theorem F62_ok:kj8 Tryz.prog K62 Tryz.f62=some F62:=by kernel_rfl
/- 63: syndrome/matrix.Check$1 -/
def c63:ACode:=(.seq (.region [.o 3 (.mv (.const (.bool false)))]) (.seq (.region [.o 4 (.l 1), .m 5 0, .o 6 (.q 64 [4,5]), .o 7 (.un .not (.tmp 6)), .m 3 7]) .ret))
def F63:AFun:=⟨c63,2,8,[(.tmp 3)]⟩
def K63:Nat→List Nat×List Nat
 |_=>([],[])
theorem F63_ok:kj8 Tryz.prog K63 Tryz.f63=some F63:=by kernel_rfl
/- 64: (*syndrome/field.Field).Has -/
def c64:ACode:=(.seq (.region [.o 4 (.mv (.const (.bool false)))]) (.seq (.region [.m 5 1, .o 6 (.c .geq 5 0), .m 7 6, .g 8 (.m 1) 7 true, .g 9 (.m 0) 7 true, .g 10 (.nilck (.tmp 9)) 7 true, .g 11 (.f 0 10) 7 true, .g 12 (.l 11) 7 true, .g 13 (.b .lss 8 12) 7 true, .o 14 (.pick (.tmp 7) (.tmp 13) (.const (.bool false))), .m 4 14]) .ret))
def F64:AFun:=⟨c64,2,15,[(.tmp 4)]⟩
def K64:Nat→List Nat×List Nat
 |_=>([],[])
theorem F64_ok:kj8 Tryz.prog K64 Tryz.f64=some F64:=by kernel_rfl
/- 65: syndrome/syndromeref.SameAll -/
def c65L0:ACode:=(.seq (.seq (.region [.m 11 5, .m 12 0, .o 13 (.n 12), .o 14 (.b .lss 11 13)]) (.cond (.tmp 14) .skip (.exit 0))) (.seq (.block 1 [0,1,5] (.seq (.region [.m 17 0, .m 18 5, .o 19 (.i 1 17 18), .o 20 (.l 19), .m 21 1, .m 22 5, .o 23 (.i 1 21 22), .o 24 (.l 23), .o 25 (.q 69 [20,24]), .o 26 (.un .not (.tmp 25))]) (.cond (.tmp 26) (.seq (.region [.o 4 (.mv (.const (.bool false)))]) .ret) .skip))) (.region [.m 15 5, .o 16 (.c .add 15 1), .m 5 16])))
def c65:ACode:=(.seq (.region [.o 4 (.mv (.const (.bool false)))]) (.seq (.seq (.region [.m 6 0, .o 7 (.n 6), .m 8 1, .o 9 (.n 8), .o 10 (.b .neq 7 9)]) (.cond (.tmp 10) (.seq (.region [.o 4 (.mv (.const (.bool false)))]) .ret) .skip)) (.seq (.seq (.region [.k 5 0]) (.block 0 [] (.loop [0,1,5] c65L0))) (.seq (.region [.o 4 (.mv (.const (.bool true)))]) .ret))))
def F65:AFun:=⟨c65,2,27,[(.tmp 4)]⟩
def K65:Nat→List Nat×List Nat
 |0=>([0,1,5],[])
 |1=>([],[0,1,5])
 |_=>([],[])
theorem F65_ok:kj8 Tryz.prog K65 Tryz.f65=some F65:=by kernel_rfl
/- 66: (syndrome/syndromeref.F).Add -/
def c66L0:ACode:=(.seq (.seq (.region [.m 47 9, .o 48 (.f 2 3), .o 49 (.l 48), .o 50 (.b .lss 47 49)]) (.cond (.tmp 50) .skip (.exit 0))) (.seq (.block 1 [3,7,8,9] (.region [.m 53 7, .m 54 9, .m 55 7, .m 56 9, .o 57 (.i 1 55 56), .o 58 (.l 57), .m 59 8, .m 60 9, .o 61 (.i 1 59 60), .o 62 (.l 61), .o 63 (.b .add 58 62), .o 64 (.f 1 3), .o 65 (.l 64), .o 66 (.b .rem 63 65), .o 67 (.i 1 53 54), .n (.st 1 (.tmp 67) (.tmp 66))])) (.region [.m 51 9, .o 52 (.c .add 51 1), .m 9 52])))
def c66:ACode:=(.seq (.region [.o 3 (.box 39 5 (.tmp 0)), .k 6 0]) (.seq (.seq (.region [.o 10 (.ld true 5 (.tmp 3)), .m 11 1, .o 12 (.q 44 [10,11]), .o 13 (.un .not (.tmp 12)), .m 14 13, .g 15 (.ld true 5 (.tmp 3)) 14 false, .g 16 (.m 2) 14 false, .g 17 (.q 44 [15,16]) 14 false, .g 18 (.un .not (.tmp 17)) 14 false, .o 19 (.pick (.tmp 14) (.const (.bool true)) (.tmp 18))]) (.cond (.tmp 19) (.seq (.region [.k 6 (-1)]) .ret) .skip)) (.seq (.seq (.region [.o 20 (.f 2 3), .o 21 (.l 20), .o 22 (.c .eql 21 1)]) (.cond (.tmp 22) (.seq (.region [.m 23 1, .m 24 2, .o 25 (.b .add 23 24), .o 26 (.f 1 3), .o 27 (.l 26), .o 28 (.b .rem 25 27), .m 6 28]) .ret) .skip)) (.seq (.seq (.region [.o 29 (.f 1 3), .o 30 (.l 29), .o 31 (.c .eql 30 2)]) (.cond (.tmp 31) (.seq (.region [.m 32 1, .m 33 2, .o 34 (.b .xor 32 33), .m 6 34]) .ret) .skip)) (.seq (.region [.m 35 1, .o 36 (.f 1 3), .o 37 (.l 36), .o 38 (.f 2 3), .o 39 (.l 38), .o 40 (.q 43 [35,37,39]), .m 7 40]) (.seq (.region [.m 41 2, .o 42 (.f 1 3), .o 43 (.l 42), .o 44 (.f 2 3), .o 45 (.l 44), .o 46 (.q 43 [41,43,45]), .m 8 46]) (.seq (.seq (.region [.k 9 0]) (.block 0 [3,7] (.loop [3,7,8,9] c66L0))) (.seq (.region [.m 68 7, .o 69 (.f 1 3), .o 70 (.l 69), .o 71 (.q 83 [68,70]), .m 6 71]) .ret))))))))
def F66:AFun:=⟨c66,3,72,[(.tmp 6)]⟩
def K66:Nat→List Nat×List Nat
 |0=>([3,7,8,9],[3,7])
 |1=>([],[3,7,8,9])
 |_=>([],[])
theorem F66_ok:kj8 Tryz.prog K66 Tryz.f66=some F66:=by kernel_rfl
/- 67: syndrome/code.Encode$1 -/
def c67:ACode:=(.seq (.region [.o 3 (.mv (.const (.bool false)))]) (.seq (.region [.o 4 (.l 1), .m 5 0, .o 6 (.q 64 [4,5]), .o 7 (.un .not (.tmp 6)), .m 3 7]) .ret))
def F67:AFun:=⟨c67,2,8,[(.tmp 3)]⟩
def K67:Nat→List Nat×List Nat
 |_=>([],[])
theorem F67_ok:kj8 Tryz.prog K67 Tryz.f67=some F67:=by kernel_rfl
/- 68: syndrome/code.encode -/
def c68L0:ACode:=(.seq (.region [.o 29 (.b .lss 28 27)]) (.seq (.cond (.tmp 29) .skip (.exit 2)) (.seq (.block 3 [0,4,7,9,15,16,17,26,27,28] (.seq (.region [.m 30 28, .o 31 (.i 1 26 28), .o 32 (.l 31), .m 10 30, .m 11 32]) (.region [.m 33 7, .m 34 10, .m 35 0, .m 36 7, .m 37 10, .o 38 (.i 1 36 37), .o 39 (.l 38), .m 40 0, .m 41 9, .m 42 11,⟨(some 43),(.call 72 [(.tmp 40),(.tmp 41),(.tmp 42)]),none,true⟩, .o 44 (.q 71 [35,39,43]), .o 45 (.i 1 33 34), .n (.st 1 (.tmp 45) (.tmp 44))]))) (.region [.o 46 (.c .add 28 1), .m 28 46]))))
def c68L1:ACode:=(.seq (.region [.o 18 (.b .lss 17 16)]) (.seq (.cond (.tmp 18) .skip (.exit 0)) (.seq (.block 1 [0,4,7,15,16,17] (.seq (.region [.m 19 17, .o 20 (.i 1 15 17), .o 21 (.l 20), .m 8 19, .m 9 21]) (.seq (.region [.o 22 (.f 2 4), .o 23 (.l 22), .m 24 8, .o 25 (.i 1 23 24), .o 26 (.l 25), .o 27 (.n 26), .k 28 0]) (.block 2 [0,4,7,15,16,17] (.loop [0,4,7,9,15,16,17,26,27,28] c68L0))))) (.region [.o 47 (.c .add 17 1), .m 17 47]))))
def c68:ACode:=(.seq (.region [.o 4 (.box 24 3 (.tmp 1)), .o 6 (.mv (.const (.slice none 0 0)))]) (.seq (.region [.o 12 (.f 1 4), .o 13 (.l 12), .o 14 (.mks 3 1 8 [(.int .i64 0)] (.tmp 13) (.tmp 13)), .m 7 14]) (.seq (.seq (.region [.m 15 2, .o 16 (.n 15), .k 17 0]) (.block 0 [7] (.loop [0,4,7,15,16,17] c68L1))) (.seq (.region [.m 48 7, .m 6 48]) .ret))))
def F68:AFun:=⟨c68,3,49,[(.tmp 6)]⟩
def K68:Nat→List Nat×List Nat
 |0=>([0,4,7,15,16,17],[7])
 |1=>([],[0,4,7,15,16,17])
 |2=>([0,4,7,9,15,16,17,26,27,28],[0,4,7,15,16,17])
 |3=>([],[0,4,7,9,15,16,17,26,27,28])
 |_=>([],[])
theorem F68_ok:kj8 Tryz.prog K68 Tryz.f68=some F68:=by kernel_rfl
/- 69: syndrome/syndromeref.Same -/
def c69L0:ACode:=(.seq (.seq (.region [.m 11 5, .m 12 0, .o 13 (.n 12), .o 14 (.b .lss 11 13)]) (.cond (.tmp 14) .skip (.exit 0))) (.seq (.block 1 [0,1,5] (.seq (.region [.m 17 0, .m 18 5, .o 19 (.i 1 17 18), .o 20 (.l 19), .m 21 1, .m 22 5, .o 23 (.i 1 21 22), .o 24 (.l 23), .o 25 (.b .neq 20 24)]) (.cond (.tmp 25) (.seq (.region [.o 4 (.mv (.const (.bool false)))]) .ret) .skip))) (.region [.m 15 5, .o 16 (.c .add 15 1), .m 5 16])))
def c69:ACode:=(.seq (.region [.o 4 (.mv (.const (.bool false)))]) (.seq (.seq (.region [.m 6 0, .o 7 (.n 6), .m 8 1, .o 9 (.n 8), .o 10 (.b .neq 7 9)]) (.cond (.tmp 10) (.seq (.region [.o 4 (.mv (.const (.bool false)))]) .ret) .skip)) (.seq (.seq (.region [.k 5 0]) (.block 0 [] (.loop [0,1,5] c69L0))) (.seq (.region [.o 4 (.mv (.const (.bool true)))]) .ret))))
def F69:AFun:=⟨c69,2,26,[(.tmp 4)]⟩
def K69:Nat→List Nat×List Nat
 |0=>([0,1,5],[])
 |1=>([],[0,1,5])
 |_=>([],[])
theorem F69_ok:kj8 Tryz.prog K69 Tryz.f69=some F69:=by kernel_rfl
/- 70: syndrome/code.word -/
def c70:ACode:=(.seq (.region [.o 2 (.box 24 3 (.tmp 0)), .k 4 0]) (.seq (.seq (.region [.m 7 1, .o 8 (.n 7), .o 9 (.f 1 2), .o 10 (.l 9), .o 11 (.b .neq 8 10)]) (.cond (.tmp 11) (.seq (.region [.k 4 6]) .ret) .skip)) (.seq (.region [.o 13 (.f 0 2), .o 14 (.l 13), .o 15 (.q 24 [14]), .m 12 15, .o 16 (.e 0 12), .o 17 (.e 1 12), .o 5 (.alloc 50 [(.pointer none)]), .n (.st 1 (.tmp 5) (.tmp 16)), .m 6 17]) (.seq (.seq (.region [.m 18 1, .o 19 (.mkf 91 [(.tmp 5)]), .o 20 (.q 62 [18,19])]) (.cond (.tmp 20) (.seq (.region [.k 4 2]) .ret) .skip)) (.seq (.region [.k 4 0]) .ret)))))
def F70:AFun:=⟨c70,2,21,[(.tmp 4)]⟩
def K70:Nat→List Nat×List Nat
 |_=>([],[])
theorem F70_ok:kj8 Tryz.prog K70 Tryz.f70=some F70:=by kernel_rfl
/- 71: (*syndrome/field.Field).Add -/
def c71L0:ACode:=(.seq (.region [.o 24 (.b .lss 23 22)]) (.seq (.cond (.tmp 24) .skip (.exit 0)) (.seq (.block 1 [0,1,2,7,8,22,23] (.seq (.region [.m 25 7, .m 26 1, .m 27 0, .o 28 (.nilck (.tmp 27)), .o 29 (.f 1 28), .o 30 (.l 29), .o 31 (.b .rem 26 30), .m 32 2, .m 33 0, .o 34 (.nilck (.tmp 33)), .o 35 (.f 1 34), .o 36 (.l 35), .o 37 (.b .rem 32 36), .o 38 (.b .add 31 37), .m 39 0, .o 40 (.nilck (.tmp 39)), .o 41 (.f 1 40), .o 42 (.l 41), .o 43 (.b .rem 38 42), .m 44 8, .o 45 (.b .mul 43 44), .o 46 (.b .add 25 45), .m 7 46]) (.region [.m 47 1, .m 48 0, .o 49 (.nilck (.tmp 48)), .o 50 (.f 1 49), .o 51 (.l 50), .o 52 (.b .quo 47 51), .m 53 2, .m 54 0, .o 55 (.nilck (.tmp 54)), .o 56 (.f 1 55), .o 57 (.l 56), .o 58 (.b .quo 53 57), .m 59 8, .m 60 0, .o 61 (.nilck (.tmp 60)), .o 62 (.f 1 61), .o 63 (.l 62), .o 64 (.b .mul 59 63), .m 1 52, .m 2 58, .m 8 64]))) (.region [.o 65 (.c .add 23 1), .m 23 65]))))
def c71:ACode:=(.seq (.region [.k 6 0]) (.seq (.seq (.region [.m 9 0, .m 10 1, .o 11 (.q 64 [9,10]), .o 12 (.un .not (.tmp 11)), .m 13 12, .g 14 (.m 0) 13 false, .g 15 (.m 2) 13 false, .g 16 (.q 64 [14,15]) 13 false, .g 17 (.un .not (.tmp 16)) 13 false, .o 18 (.pick (.tmp 13) (.const (.bool true)) (.tmp 17))]) (.cond (.tmp 18) (.seq (.region [.k 6 (-1)]) .ret) .skip)) (.seq (.region [.k 7 0, .k 8 1]) (.seq (.seq (.region [.m 19 0, .o 20 (.nilck (.tmp 19)), .o 21 (.f 2 20), .o 22 (.l 21), .k 23 0]) (.block 0 [7] (.loop [0,1,2,7,8,22,23] c71L0))) (.seq (.region [.m 66 7, .m 6 66]) .ret)))))
def F71:AFun:=⟨c71,3,67,[(.tmp 6)]⟩
def K71:Nat→List Nat×List Nat
 |0=>([0,1,2,7,8,22,23],[7])
 |1=>([],[0,1,2,7,8,22,23])
 |_=>([],[])
theorem F71_ok:kj8 Tryz.prog K71 Tryz.f71=some F71:=by kernel_rfl
/- 72: (*syndrome/field.Field).Mul -/
def c72:ACode:=(.seq (.region [.k 6 0]) (.seq (.seq (.region [.m 7 0, .m 8 1, .o 9 (.q 64 [7,8]), .o 10 (.un .not (.tmp 9)), .m 11 10, .g 12 (.m 0) 11 false, .g 13 (.m 2) 11 false, .g 14 (.q 64 [12,13]) 11 false, .g 15 (.un .not (.tmp 14)) 11 false, .o 16 (.pick (.tmp 11) (.const (.bool true)) (.tmp 15))]) (.cond (.tmp 16) (.seq (.region [.k 6 (-1)]) .ret) .skip)) (.seq (.seq (.region [.m 17 1, .o 18 (.c .eql 17 0), .m 19 18, .g 20 (.m 2) 19 false, .g 21 (.c .eql 20 0) 19 false, .o 22 (.pick (.tmp 19) (.const (.bool true)) (.tmp 21))]) (.cond (.tmp 22) (.seq (.region [.k 6 0]) .ret) .skip)) (.seq (.region [.m 23 0, .o 24 (.nilck (.tmp 23)), .o 25 (.f 5 24), .o 26 (.l 25), .m 27 0, .o 28 (.nilck (.tmp 27)), .o 29 (.f 6 28), .o 30 (.l 29), .m 31 1, .o 32 (.i 1 30 31), .o 33 (.l 32), .m 34 0, .o 35 (.nilck (.tmp 34)), .o 36 (.f 6 35), .o 37 (.l 36), .m 38 2, .o 39 (.i 1 37 38), .o 40 (.l 39), .o 41 (.b .add 33 40), .m 42 0, .o 43 (.nilck (.tmp 42)), .o 44 (.f 0 43), .o 45 (.l 44), .o 46 (.c .sub 45 1), .o 47 (.b .rem 41 46), .o 48 (.i 1 26 47), .o 49 (.l 48), .m 6 49]) .ret))))
def F72:AFun:=⟨c72,3,50,[(.tmp 6)]⟩
def K72:Nat→List Nat×List Nat
 |_=>([],[])
theorem F72_ok:kj8 Tryz.prog K72 Tryz.f72=some F72:=by kernel_rfl
/- 73: syndrome/code.Has$1 -/
def c73:ACode:=(.seq (.region [.o 2 (.mv (.const (.bool false)))]) (.seq (.region [.m 3 0, .o 4 (.c .neq 3 0), .m 2 4]) .ret))
def F73:AFun:=⟨c73,1,5,[(.tmp 2)]⟩
def K73:Nat→List Nat×List Nat
 |_=>([],[])
theorem F73_ok:kj8 Tryz.prog K73 Tryz.f73=some F73:=by kernel_rfl
/- 74: syndrome/syndromeref.Without -/
def c74:ACode:=(.seq (.region [.o 4 (.mv (.const (.slice none 0 0)))]) (.seq (.region [.m 6 0, .m 7 1, .o 8 (.sl 1 (.tmp 6) none (some (.tmp 7))), .o 9 (.q 45 [8]), .m 5 9]) (.seq (.region [.m 10 5, .m 11 0, .m 12 1, .o 13 (.c .add 12 1), .o 14 (.sl 1 (.tmp 11) (some (.tmp 13)) none), .o 15 (.app 3 1 8 (.tmp 10) (.tmp 14)), .m 4 15]) .ret)))
def F74:AFun:=⟨c74,2,16,[(.tmp 4)]⟩
def K74:Nat→List Nat×List Nat
 |_=>([],[])
theorem F74_ok:kj8 Tryz.prog K74 Tryz.f74=some F74:=by kernel_rfl
/- 75: (syndrome/syndromeref.F).Sub -/
def c75:ACode:=(.seq (.region [.o 3 (.box 39 5 (.tmp 0)), .k 6 0]) (.seq (.region [.o 8 (.ld true 5 (.tmp 3)), .m 9 2, .o 10 (.q 50 [8,9]), .m 7 10]) (.seq (.region [.o 11 (.ld true 5 (.tmp 3)), .m 12 1, .m 13 7, .o 14 (.q 66 [11,12,13]), .m 6 14]) .ret)))
def F75:AFun:=⟨c75,3,15,[(.tmp 6)]⟩
def K75:Nat→List Nat×List Nat
 |_=>([],[])
theorem F75_ok:kj8 Tryz.prog K75 Tryz.f75=some F75:=by kernel_rfl
/- 76: syndrome/code.at -/
def c76:ACode:=(.seq (.region [.o 2 (.box 24 3 (.tmp 0)), .k 4 0]) (.seq (.seq (.region [.o 6 (.ld true 3 (.tmp 2)), .o 7 (.q 10 [6]), .m 5 7]) (.seq (.region [.m 8 5, .o 9 (.c .neq 8 0)]) (.cond (.tmp 9) (.seq (.region [.m 10 5, .m 4 10]) .ret) .skip))) (.seq (.seq (.region [.m 11 1, .o 12 (.c .lss 11 0), .m 13 12, .g 14 (.m 1) 13 false, .g 15 (.f 1 2) 13 false, .g 16 (.l 15) 13 false, .g 17 (.b .geq 14 16) 13 false, .o 18 (.pick (.tmp 13) (.const (.bool true)) (.tmp 17))]) (.cond (.tmp 18) (.seq (.region [.k 4 10]) .ret) .skip)) (.seq (.seq (.region [.o 19 (.f 1 2), .o 20 (.l 19), .o 21 (.c .eql 20 1)]) (.cond (.tmp 21) (.seq (.region [.k 4 4]) .ret) .skip)) (.seq (.region [.k 4 0]) .ret)))))
def F76:AFun:=⟨c76,2,22,[(.tmp 4)]⟩
def K76:Nat→List Nat×List Nat
 |_=>([],[])
theorem F76_ok:kj8 Tryz.prog K76 Tryz.f76=some F76:=by kernel_rfl
/- 77: syndrome/code.columns -/
def c77L0:ACode:=(.seq (.region [.o 19 (.b .lss 18 17)]) (.seq (.cond (.tmp 19) .skip (.exit 0)) (.seq (.block 1 [2,6,8,16,17,18] (.seq (.region [.o 20 (.i 1 16 18), .o 21 (.l 20), .m 10 21]) (.region [.o 22 (.f 2 8), .o 23 (.l 22), .m 24 2, .m 25 10,⟨(some 26),(.calld (.tmp 24) [(.tmp 25)]),none,true⟩, .o 27 (.mkSl 25 1 1 [(.tmp 26)]), .o 28 (.app 25 1 24 (.tmp 23) (.tmp 27)), .o 29 (.f 2 8), .n (.st 1 (.tmp 29) (.tmp 28))]))) (.region [.o 30 (.c .add 18 1), .m 18 30]))))
def c77:ACode:=(.seq (.region [.o 3 (.box 24 3 (.tmp 0)), .o 6 (.alloc 24 [(.int .i64 0),(.int .i64 0),(.slice none 0 0)]), .k 7 0]) (.seq (.region [.o 11 (.f 0 3), .o 12 (.l 11), .m 13 1, .o 14 (.build [(.int .i64 0),(.int .i64 0),(.slice none 0 0)] [(0,1),(1,1),(2,1)] [(0,(.tmp 12)),(1,(.tmp 13))]), .o 8 (.alloc 24 [(.int .i64 0),(.int .i64 0),(.slice none 0 0)]), .n (.st 3 (.tmp 8) (.tmp 14))]) (.seq (.seq (.region [.o 15 (.f 2 3), .o 16 (.l 15), .o 17 (.n 16), .k 18 0]) (.block 0 [6,8] (.loop [2,6,8,16,17,18] c77L0))) (.seq (.region [.o 31 (.ld true 3 (.tmp 8)), .o 32 (.q 8 [31]), .o 33 (.e 0 32), .o 34 (.e 1 32), .n (.st 3 (.tmp 6) (.tmp 33)), .m 7 34]) .ret))))
def F77:AFun:=⟨c77,3,35,[(.cell 6 true 3),(.tmp 7)]⟩
def K77:Nat→List Nat×List Nat
 |0=>([2,6,8,16,17,18],[6,8])
 |1=>([],[2,6,8,16,17,18])
 |_=>([],[])
theorem F77_ok:kj8 Tryz.prog K77 Tryz.f77=some F77:=by kernel_rfl
/- 78: syndrome/code.Puncture$1 -/
def c78:ACode:=(.seq (.region [.o 3 (.mv (.const (.slice none 0 0)))]) (.seq (.region [.m 4 0,⟨(some 5),(.call 80 [(.tmp 4)]),none,true⟩,⟨(some 6),(.ld false 1 (.tmp 1)),none,true⟩,⟨(some 7),(.ld false 1 (.tmp 1)),none,true⟩, .o 8 (.c .add 7 1), .o 9 (.q 79 [5,6,8]), .m 3 9]) .ret))
def F78:AFun:=⟨c78,2,10,[(.tmp 3)]⟩
def K78:Nat→List Nat×List Nat
 |_=>([],[])
theorem F78_ok:kj8 Tryz.prog K78 Tryz.f78=some F78:=by kernel_rfl
/- 80: slices.Clone[[]int,int] -/
def c80:ACode:=(.seq (.region [.o 2 (.mv (.const (.slice none 0 0)))]) (.seq (.seq (.region [.m 3 0, .o 4 (.eqn false 0 (.tmp 3))]) (.cond (.tmp 4) (.seq (.region [.o 2 (.mv (.const (.slice none 0 0)))]) .ret) .skip)) (.seq (.region [.o 5 (.mkSl 3 1 0 []), .m 6 0, .o 7 (.app 3 1 8 (.tmp 5) (.tmp 6)), .m 2 7]) .ret)))
def F80:AFun:=⟨c80,1,8,[(.tmp 2)]⟩
def K80:Nat→List Nat×List Nat
 |_=>([],[])
theorem F80_ok:kj8 Tryz.prog K80 Tryz.f80=some F80:=by kernel_rfl
/- 81: syndrome/code.Extend$1 -/
def c81L0:ACode:=(.seq (.region [.o 10 (.b .lss 9 8)]) (.seq (.cond (.tmp 10) .skip (.exit 0)) (.seq (.block 1 [0,1,4,7,8,9] (.seq (.region [.o 11 (.i 1 7 9), .o 12 (.l 11), .m 6 12]) (.region [.o 13 (.l 1), .m 14 4, .m 15 6, .o 16 (.q 82 [13,14,15]), .m 4 16]))) (.region [.o 17 (.c .add 9 1), .m 9 17]))))
def c81:ACode:=(.seq (.region [.o 3 (.mv (.const (.slice none 0 0)))]) (.seq (.region [.k 4 0]) (.seq (.seq (.region [.m 7 0, .o 8 (.n 7), .k 9 0]) (.block 0 [0,4] (.loop [0,1,4,7,8,9] c81L0))) (.seq (.region [.m 18 0, .o 19 (.q 80 [18]), .m 20 4, .o 21 (.mkSl 3 1 1 [(.tmp 20)]), .o 22 (.app 3 1 8 (.tmp 19) (.tmp 21)), .m 3 22]) .ret))))
def F81:AFun:=⟨c81,2,23,[(.tmp 3)]⟩
def K81:Nat→List Nat×List Nat
 |0=>([0,1,4,7,8,9],[0,4])
 |1=>([],[0,1,4,7,8,9])
 |_=>([],[])
theorem F81_ok:kj8 Tryz.prog K81 Tryz.f81=some F81:=by kernel_rfl
/- 82: (*syndrome/field.Field).Sub -/
def c82:ACode:=(.seq (.region [.k 6 0]) (.seq (.region [.m 7 0, .m 8 1, .m 9 0, .m 10 2, .o 11 (.q 58 [9,10]), .o 12 (.q 71 [7,8,11]), .m 6 12]) .ret))
def F82:AFun:=⟨c82,3,13,[(.tmp 6)]⟩
def K82:Nat→List Nat×List Nat
 |_=>([],[])
theorem F82_ok:kj8 Tryz.prog K82 Tryz.f82=some F82:=by kernel_rfl
/- 83: syndrome/syndromeref.Number -/
def c83L0:ACode:=(.seq (.seq (.region [.m 10 6, .o 11 (.c .geq 10 0)]) (.cond (.tmp 11) .skip (.exit 0))) (.seq (.block 1 [0,1,5,6] (.region [.m 14 5, .m 15 1, .o 16 (.b .mul 14 15), .m 17 0, .m 18 6, .o 19 (.i 1 17 18), .o 20 (.l 19), .o 21 (.b .add 16 20), .m 5 21])) (.region [.m 12 6, .o 13 (.c .sub 12 1), .m 6 13])))
def c83:ACode:=(.seq (.region [.k 4 0]) (.seq (.region [.k 5 0]) (.seq (.seq (.region [.m 7 0, .o 8 (.n 7), .o 9 (.c .sub 8 1), .m 6 9]) (.block 0 [5] (.loop [0,1,5,6] c83L0))) (.seq (.region [.m 22 5, .m 4 22]) .ret))))
def F83:AFun:=⟨c83,2,23,[(.tmp 4)]⟩
def K83:Nat→List Nat×List Nat
 |0=>([0,1,5,6],[5])
 |1=>([],[0,1,5,6])
 |_=>([],[])
theorem F83_ok:kj8 Tryz.prog K83 Tryz.f83=some F83:=by kernel_rfl
/- 84: slices.Index[[]int,int] -/
def c84L0:ACode:=(.seq (.region [.o 9 (.b .lss 8 7)]) (.seq (.cond (.tmp 9) .skip (.exit 0)) (.seq (.block 1 [0,1,7,8] (.seq (.region [.m 10 8, .m 5 10]) (.seq (.region [.m 11 1, .m 12 0, .m 13 5, .o 14 (.i 1 12 13), .o 15 (.l 14), .o 16 (.b .eql 11 15)]) (.cond (.tmp 16) (.seq (.region [.m 17 5, .m 4 17]) .ret) .skip)))) (.region [.o 18 (.c .add 8 1), .m 8 18]))))
def c84:ACode:=(.seq (.region [.k 4 0]) (.seq (.seq (.region [.m 6 0, .o 7 (.n 6), .k 8 0]) (.block 0 [] (.loop [0,1,7,8] c84L0))) (.seq (.region [.k 4 (-1)]) .ret)))
def F84:AFun:=⟨c84,2,19,[(.tmp 4)]⟩
def K84:Nat→List Nat×List Nat
 |0=>([0,1,7,8],[])
 |1=>([],[0,1,7,8])
 |_=>([],[])
theorem F84_ok:kj8 Tryz.prog K84 Tryz.f84=some F84:=by kernel_rfl
/- 87: syndrome/field.prime -/
def c87L0:ACode:=(.seq (.seq (.region [.m 4 0, .m 5 2, .o 6 (.b .rem 4 5), .o 7 (.c .neq 6 0)]) (.cond (.tmp 7) .skip (.exit 0))) (.block 1 [0,2,3] (.region [.m 8 2, .o 9 (.c .add 8 1), .m 2 9])))
def c87L1:ACode:=(.seq (.seq (.region [.m 10 0, .m 11 2, .o 12 (.b .rem 10 11), .o 13 (.c .eql 12 0)]) (.cond (.tmp 13) .skip (.exit 2))) (.seq (.block 3 [0,2,3] (.region [.m 17 3, .o 18 (.c .add 17 1), .m 3 18])) (.region [.m 14 0, .m 15 2, .o 16 (.b .quo 14 15), .m 0 16])))
def c87:ACode:=(.seq (.region [.k 2 0, .k 3 0]) (.seq (.region [.k 2 2]) (.seq (.block 0 [0,2,3] (.loop [0,2,3] c87L0)) (.seq (.block 2 [0,2,3] (.loop [0,2,3] c87L1)) (.seq (.seq (.region [.m 19 0, .o 20 (.c .neq 19 1)]) (.cond (.tmp 20) (.seq (.region [.k 2 0, .k 3 0]) .ret) .skip)) (.seq (.region [.m 21 2, .m 22 3, .m 2 21, .m 3 22]) .ret))))))
def F87:AFun:=⟨c87,1,23,[(.tmp 2),(.tmp 3)]⟩
def K87:Nat→List Nat×List Nat
 |0=>([0,2,3],[0,2,3])
 |1=>([],[0,2,3])
 |2=>([0,2,3],[0,2,3])
 |3=>([],[0,2,3])
 |_=>([],[])
theorem F87_ok:kj8 Tryz.prog K87 Tryz.f87=some F87:=by kernel_rfl
/- 88: (*syndrome/field.Field).fill -/
def c88L0:ACode:=(.seq (.region [.o 29 (.b .lss 28 27)]) (.seq (.cond (.tmp 29) .skip (.exit 0)) (.seq (.block 1 [0,27,28] (.seq (.region [.m 30 28, .m 3 30]) (.region [.m 31 0, .o 32 (.nilck (.tmp 31)), .o 33 (.f 6 32), .o 34 (.l 33), .m 35 3, .o 36 (.i 1 34 35), .n (.st 1 (.tmp 36) (.const (.int .i64 (-1))))]))) (.region [.o 37 (.c .add 28 1), .m 28 37]))))
def c88L1:ACode:=(.seq (.region [.o 44 (.b .lss 43 42)]) (.seq (.cond (.tmp 44) .skip (.exit 2)) (.seq (.block 3 [0,4,42,43] (.seq (.region [.m 45 43, .m 5 45]) (.seq (.seq (.region [.m 46 4, .o 47 (.c .eql 46 0), .m 48 47, .g 49 (.m 0) 48 false, .g 50 (.nilck (.tmp 49)) 48 false, .g 51 (.f 6 50) 48 false, .g 52 (.l 51) 48 false, .g 53 (.m 4) 48 false, .g 54 (.i 1 52 53) 48 false, .g 55 (.l 54) 48 false, .g 56 (.c .geq 55 0) 48 false, .o 57 (.pick (.tmp 48) (.const (.bool true)) (.tmp 56))]) (.cond (.tmp 57) (.seq (.region [.o 2 (.mv (.const (.bool false)))]) .ret) .skip)) (.seq (.region [.m 58 0, .o 59 (.nilck (.tmp 58)), .o 60 (.f 5 59), .o 61 (.l 60), .m 62 5, .m 63 0, .o 64 (.nilck (.tmp 63)), .o 65 (.f 6 64), .o 66 (.l 65), .m 67 4, .m 68 4, .m 69 5, .o 70 (.i 1 61 62), .n (.st 1 (.tmp 70) (.tmp 68)), .o 71 (.i 1 66 67), .n (.st 1 (.tmp 71) (.tmp 69))]) (.region [.m 72 0, .m 73 4, .o 74 (.q 96 [72,73]), .m 4 74]))))) (.region [.o 75 (.c .add 43 1), .m 43 75]))))
def c88:ACode:=(.seq (.region [.o 2 (.mv (.const (.bool false)))]) (.seq (.region [.m 6 0, .m 7 0, .o 8 (.nilck (.tmp 7)), .o 9 (.f 0 8), .o 10 (.l 9), .o 11 (.c .sub 10 1), .o 12 (.mks 3 1 8 [(.int .i64 0)] (.tmp 11) (.tmp 11)), .o 13 (.nilck (.tmp 6)), .o 14 (.f 5 13), .n (.st 1 (.tmp 14) (.tmp 12))]) (.seq (.region [.m 15 0, .m 16 0, .o 17 (.nilck (.tmp 16)), .o 18 (.f 0 17), .o 19 (.l 18), .o 20 (.mks 3 1 8 [(.int .i64 0)] (.tmp 19) (.tmp 19)), .o 21 (.nilck (.tmp 15)), .o 22 (.f 6 21), .n (.st 1 (.tmp 22) (.tmp 20))]) (.seq (.seq (.region [.m 23 0, .o 24 (.nilck (.tmp 23)), .o 25 (.f 6 24), .o 26 (.l 25), .o 27 (.n 26), .k 28 0]) (.block 0 [0] (.loop [0,27,28] c88L0))) (.seq (.region [.k 4 1]) (.seq (.seq (.region [.m 38 0, .o 39 (.nilck (.tmp 38)), .o 40 (.f 0 39), .o 41 (.l 40), .o 42 (.c .sub 41 1), .k 43 0]) (.block 2 [4] (.loop [0,4,42,43] c88L1))) (.seq (.region [.m 76 4, .o 77 (.c .eql 76 1), .m 2 77]) .ret)))))))
def F88:AFun:=⟨c88,1,78,[(.tmp 2)]⟩
def K88:Nat→List Nat×List Nat
 |0=>([0,27,28],[0])
 |1=>([],[0,27,28])
 |2=>([0,4,42,43],[4])
 |3=>([],[0,4,42,43])
 |_=>([],[])
theorem F88_ok:kj8 Tryz.prog K88 Tryz.f88=some F88:=by kernel_rfl
/- 89: syndrome/field.digits -/
def c89L0:ACode:=(.seq (.region [.o 14 (.b .lss 13 12)]) (.seq (.cond (.tmp 14) .skip (.exit 0)) (.seq (.block 1 [0,1,7,12,13] (.seq (.region [.m 15 13, .m 8 15]) (.seq (.region [.m 16 7, .m 17 8, .m 18 0, .m 19 1, .o 20 (.b .rem 18 19), .o 21 (.i 1 16 17), .n (.st 1 (.tmp 21) (.tmp 20))]) (.region [.m 22 0, .m 23 1, .o 24 (.b .quo 22 23), .m 0 24])))) (.region [.o 25 (.c .add 13 1), .m 13 25]))))
def c89:ACode:=(.seq (.region [.o 6 (.mv (.const (.slice none 0 0)))]) (.seq (.region [.m 9 2, .o 10 (.mks 3 1 8 [(.int .i64 0)] (.tmp 9) (.tmp 9)), .m 7 10]) (.seq (.seq (.region [.m 11 7, .o 12 (.n 11), .k 13 0]) (.block 0 [7] (.loop [0,1,7,12,13] c89L0))) (.seq (.region [.m 26 7, .m 6 26]) .ret))))
def F89:AFun:=⟨c89,3,27,[(.tmp 6)]⟩
def K89:Nat→List Nat×List Nat
 |0=>([0,1,7,12,13],[7])
 |1=>([],[0,1,7,12,13])
 |_=>([],[])
theorem F89_ok:kj8 Tryz.prog K89 Tryz.f89=some F89:=by kernel_rfl
/- 90: slices.IndexFunc[[]int,int] -/
def c90L0:ACode:=(.seq (.region [.o 9 (.b .lss 8 7)]) (.seq (.cond (.tmp 9) .skip (.exit 0)) (.seq (.block 1 [0,1,7,8] (.seq (.region [.m 10 8, .m 5 10]) (.seq (.region [.m 11 1, .m 12 0, .m 13 5, .o 14 (.i 1 12 13), .o 15 (.l 14), .o 16 (.calld (.tmp 11) [(.tmp 15)])]) (.cond (.tmp 16) (.seq (.region [.m 17 5, .m 4 17]) .ret) .skip)))) (.region [.o 18 (.c .add 8 1), .m 8 18]))))
def c90:ACode:=(.seq (.region [.k 4 0]) (.seq (.seq (.region [.m 6 0, .o 7 (.n 6), .k 8 0]) (.block 0 [] (.loop [0,1,7,8] c90L0))) (.seq (.region [.k 4 (-1)]) .ret)))
def F90:AFun:=⟨c90,2,19,[(.tmp 4)]⟩
def K90:Nat→List Nat×List Nat
 |0=>([0,1,7,8],[])
 |1=>([],[0,1,7,8])
 |_=>([],[])
theorem F90_ok:kj8 Tryz.prog K90 Tryz.f90=some F90:=by kernel_rfl
/- 91: syndrome/code.word$1 -/
def c91:ACode:=(.seq (.region [.o 3 (.mv (.const (.bool false)))]) (.seq (.region [.o 4 (.l 1), .m 5 0, .o 6 (.q 64 [4,5]), .o 7 (.un .not (.tmp 6)), .m 3 7]) .ret))
def F91:AFun:=⟨c91,2,8,[(.tmp 3)]⟩
def K91:Nat→List Nat×List Nat
 |_=>([],[])
theorem F91_ok:kj8 Tryz.prog K91 Tryz.f91=some F91:=by kernel_rfl
/- 96: (*syndrome/field.Field).turn -/
def c96L0:ACode:=(.seq (.region [.o 57 (.b .lss 56 55)]) (.seq (.cond (.tmp 57) .skip (.exit 0)) (.seq (.block 1 [0,5,6,55,56] (.seq (.region [.m 58 56, .m 7 58]) (.region [.m 59 5, .m 60 7, .m 61 5, .m 62 7, .o 63 (.i 1 61 62), .o 64 (.l 63), .m 65 6, .m 66 0, .o 67 (.nilck (.tmp 66)), .o 68 (.f 1 67), .o 69 (.l 68), .m 70 0, .o 71 (.nilck (.tmp 70)), .o 72 (.f 3 71), .o 73 (.l 72), .m 74 7, .o 75 (.i 1 73 74), .o 76 (.l 75), .o 77 (.b .sub 69 76), .o 78 (.b .mul 65 77), .o 79 (.b .add 64 78), .m 80 0, .o 81 (.nilck (.tmp 80)), .o 82 (.f 1 81), .o 83 (.l 82), .o 84 (.b .rem 79 83), .o 85 (.i 1 59 60), .n (.st 1 (.tmp 85) (.tmp 84))]))) (.region [.o 86 (.c .add 56 1), .m 56 86]))))
def c96:ACode:=(.seq (.region [.k 4 0]) (.seq (.seq (.region [.m 8 0, .o 9 (.nilck (.tmp 8)), .o 10 (.f 2 9), .o 11 (.l 10), .o 12 (.c .eql 11 1)]) (.cond (.tmp 12) (.seq (.region [.m 13 1, .m 14 0, .o 15 (.nilck (.tmp 14)), .o 16 (.f 4 15), .o 17 (.l 16), .o 18 (.b .mul 13 17), .m 19 0, .o 20 (.nilck (.tmp 19)), .o 21 (.f 1 20), .o 22 (.l 21), .o 23 (.b .rem 18 22), .m 4 23]) .ret) .skip)) (.seq (.region [.m 24 1, .m 25 0, .o 26 (.nilck (.tmp 25)), .o 27 (.f 1 26), .o 28 (.l 27), .m 29 0, .o 30 (.nilck (.tmp 29)), .o 31 (.f 2 30), .o 32 (.l 31), .o 33 (.q 89 [24,28,32]), .m 5 33]) (.seq (.region [.m 34 5, .m 35 0, .o 36 (.nilck (.tmp 35)), .o 37 (.f 2 36), .o 38 (.l 37), .o 39 (.c .sub 38 1), .o 40 (.i 1 34 39), .o 41 (.l 40), .m 6 41]) (.seq (.region [.m 42 5, .o 43 (.sl 1 (.tmp 42) (some (.const (.int .i64 1))) none), .m 44 5, .m 45 0, .o 46 (.nilck (.tmp 45)), .o 47 (.f 2 46), .o 48 (.l 47), .o 49 (.c .sub 48 1), .o 50 (.sl 1 (.tmp 44) none (some (.tmp 49))), .o 51 (.cpy 1 (.tmp 43) (.tmp 50))]) (.seq (.region [.m 52 5, .o 53 (.iaddr 1 (.tmp 52) (.const (.int .i64 0))), .n (.st 1 (.tmp 53) (.const (.int .i64 0)))]) (.seq (.seq (.region [.m 54 5, .o 55 (.n 54), .k 56 0]) (.block 0 [0,5] (.loop [0,5,6,55,56] c96L0))) (.seq (.region [.m 87 5, .m 88 0, .o 89 (.nilck (.tmp 88)), .o 90 (.f 1 89), .o 91 (.l 90), .o 92 (.q 101 [87,91]), .m 4 92]) .ret))))))))
def F96:AFun:=⟨c96,2,93,[(.tmp 4)]⟩
def K96:Nat→List Nat×List Nat
 |0=>([0,5,6,55,56],[0,5])
 |1=>([],[0,5,6,55,56])
 |_=>([],[])
theorem F96_ok:kj8 Tryz.prog K96 Tryz.f96=some F96:=by kernel_rfl
/- 101: syndrome/field.number -/
def c101L0:ACode:=(.seq (.seq (.region [.m 10 6, .o 11 (.c .geq 10 0)]) (.cond (.tmp 11) .skip (.exit 0))) (.seq (.block 1 [0,1,5,6] (.region [.m 14 5, .m 15 1, .o 16 (.b .mul 14 15), .m 17 0, .m 18 6, .o 19 (.i 1 17 18), .o 20 (.l 19), .o 21 (.b .add 16 20), .m 5 21])) (.region [.m 12 6, .o 13 (.c .sub 12 1), .m 6 13])))
def c101:ACode:=(.seq (.region [.k 4 0]) (.seq (.region [.k 5 0]) (.seq (.seq (.region [.m 7 0, .o 8 (.n 7), .o 9 (.c .sub 8 1), .m 6 9]) (.block 0 [5] (.loop [0,1,5,6] c101L0))) (.seq (.region [.m 22 5, .m 4 22]) .ret))))
def F101:AFun:=⟨c101,2,23,[(.tmp 4)]⟩
def K101:Nat→List Nat×List Nat
 |0=>([0,1,5,6],[5])
 |1=>([],[0,1,5,6])
 |_=>([],[])
theorem F101_ok:kj8 Tryz.prog K101 Tryz.f101=some F101:=by kernel_rfl
end Go.Proofs.YtodbgomfeacdhaaGreat
