/-
  Functions of this seat as the small machine's code, written by a program of my own (gen.py); each is checked to be what the model's function is turned into. No condition.
-/
import Derived.Test.YtlhmdmedagjmnaaK1
import Derived.Test.YtlhmdmedagjmnaaProg
set_option linter.unusedVariables false
set_option linter.unusedSimpArgs false
set_option linter.unusedSectionVars false
set_option maxRecDepth 100000
namespace Go.Proofs.Ytlhmdmedagjmnaa
open Go.Am
/- 77: (syndrome/syndromeref.F).Null -/
def c77L0:ACode:=(.seq (.seq (.region [.m 32 12, .m 33 7, .o 34 (.n 33), .o 35 (.b .lss 32 34)]) (.cond (.tmp 35) .skip (.exit 2))) (.seq (.block 3 [2,3,7,8,9,10,11,12] (.region [.m 38 11, .m 39 8, .m 40 12, .o 41 (.i 1 39 40), .o 42 (.l 41), .o 43 (.ld true 5 (.tmp 3)), .m 44 7, .m 45 12, .o 46 (.i 1 44 45), .o 47 (.l 46), .m 48 10, .o 49 (.i 1 47 48), .o 50 (.l 49),⟨(some 51),(.call 110 [(.tmp 43),(.tmp 50)]),none,true⟩, .o 52 (.i 1 38 42), .n (.st 1 (.tmp 52) (.tmp 51))])) (.region [.m 36 12, .o 37 (.c .add 36 1), .m 12 37])))
def c77L1:ACode:=(.seq (.seq (.region [.m 19 10, .m 20 2, .o 21 (.b .lss 19 20)]) (.cond (.tmp 21) .skip (.exit 0))) (.seq (.block 1 [2,3,7,8,9,10] (.seq (.seq (.region [.m 24 10, .m 25 8, .o 26 (.q 64 [24,25])]) (.cond (.tmp 26) (.exit 1) .skip)) (.seq (.region [.m 27 2, .o 28 (.mks 3 1 8 [(.int .i64 0)] (.tmp 27) (.tmp 27)), .m 11 28]) (.seq (.region [.m 29 11, .m 30 10, .o 31 (.i 1 29 30), .n (.st 1 (.tmp 31) (.const (.int .i64 1)))]) (.seq (.seq (.region [.k 12 0]) (.block 2 [2,3,7,8,9,10,11] (.loop [2,3,7,8,9,10,11,12] c77L0))) (.region [.m 53 9, .m 54 11, .o 55 (.mkSl 34 1 1 [(.tmp 54)]), .o 56 (.app 34 1 24 (.tmp 53) (.tmp 55)), .m 9 56])))))) (.region [.m 22 10, .o 23 (.c .add 22 1), .m 10 23])))
def c77:ACode:=(.seq (.region [.o 3 (.box 58 5 (.tmp 0)), .o 6 (.mv (.const (.slice none 0 0)))]) (.seq (.region [.o 14 (.ld true 5 (.tmp 3)), .m 15 1, .o 16 (.q 46 [14,15]), .m 13 16, .o 17 (.e 0 13), .o 18 (.e 1 13), .m 7 17, .m 8 18]) (.seq (.region [.o 9 (.mv (.const (.slice none 0 0)))]) (.seq (.seq (.region [.k 10 0]) (.block 0 [3,9] (.loop [2,3,7,8,9,10] c77L1))) (.seq (.region [.o 58 (.ld true 5 (.tmp 3)), .m 59 9, .o 60 (.q 46 [58,59]), .m 57 60, .o 61 (.e 0 57), .o 62 (.e 1 57), .m 9 61]) (.seq (.region [.m 63 9, .m 6 63]) .ret))))))
def F77:AFun:=⟨c77,3,64,[(.tmp 6)]⟩
def K77:Nat→List Nat×List Nat
 |0=>([2,3,7,8,9,10],[3,9])
 |1=>([],[2,3,7,8,9,10])
 |2=>([2,3,7,8,9,10,11,12],[2,3,7,8,9,10,11])
 |3=>([],[2,3,7,8,9,10,11,12])
 |_=>([],[])
theorem F77_ok:kj8 Try.prog K77 Try.f77=some F77:=by kernel_rfl
/- 78: syndrome/lists.monomials -/
def c78L0:ACode:=(.seq (.seq (.region [.m 21 7, .m 22 6, .m 23 0, .o 24 (.c .sub 23 1), .o 25 (.b .mul 22 24), .o 26 (.b .add 21 25), .m 27 1, .o 28 (.b .lss 26 27)]) (.cond (.tmp 28) .skip (.exit 2))) (.seq (.block 3 [0,1,5,6,7] (.region [.m 31 5, .m 32 7, .m 33 6, .o 34 (.build [(.int .i64 0),(.int .i64 0)] [(0,1),(1,1)] [(0,(.tmp 32)),(1,(.tmp 33))]), .o 35 (.mkSl 107 2 1 [(.tmp 34)]), .o 36 (.app 107 2 16 (.tmp 31) (.tmp 35)), .m 5 36])) (.region [.m 29 7, .o 30 (.c .add 29 1), .m 7 30])))
def c78L1:ACode:=(.seq (.seq (.region [.m 8 6, .m 9 0, .o 10 (.c .sub 9 1), .o 11 (.b .mul 8 10), .m 12 1, .o 13 (.b .lss 11 12), .m 14 13, .g 15 (.m 5) 14 true, .g 16 (.n 15) 14 true, .g 17 (.c .leq 16 256) 14 true, .o 18 (.pick (.tmp 14) (.tmp 17) (.const (.bool false)))]) (.cond (.tmp 18) .skip (.exit 0))) (.seq (.block 1 [0,1,5,6] (.seq (.seq (.region [.k 7 0]) (.block 2 [0,1,5,6] (.loop [0,1,5,6,7] c78L0))) (.seq (.region [.m 37 0, .o 38 (.c .eql 37 1), .m 39 38, .g 40 (.m 6) 39 true, .g 41 (.c .eql 40 64) 39 true, .o 42 (.pick (.tmp 39) (.tmp 41) (.const (.bool false)))]) (.cond (.tmp 42) (.exit 0) .skip)))) (.region [.m 19 6, .o 20 (.c .add 19 1), .m 6 20])))
def c78:ACode:=(.seq (.region [.o 4 (.mv (.const (.slice none 0 0)))]) (.seq (.region [.o 5 (.mv (.const (.slice none 0 0)))]) (.seq (.seq (.region [.k 6 0]) (.block 0 [5] (.loop [0,1,5,6] c78L1))) (.seq (.region [.m 43 5, .m 4 43]) .ret))))
def F78:AFun:=⟨c78,2,44,[(.tmp 4)]⟩
def K78:Nat→List Nat×List Nat
 |0=>([0,1,5,6],[5])
 |1=>([],[0,1,5,6])
 |2=>([0,1,5,6,7],[0,1,5,6])
 |3=>([],[0,1,5,6,7])
 |_=>([],[])
theorem F78_ok:kj8 Try.prog K78 Try.f78=some F78:=by kernel_rfl
/- 79: (*syndrome/field.Field).Pow -/
def c79:ACode:=(.seq (.region [.k 6 0]) (.seq (.seq (.region [.m 7 0, .m 8 1, .o 9 (.q 98 [7,8]), .o 10 (.un .not (.tmp 9)), .m 11 10, .g 12 (.m 1) 11 false, .g 13 (.c .eql 12 0) 11 false, .g 14 (.m 13) 11 false, .g 15 (.m 2) 14 true, .g 16 (.c .lss 15 0) 14 true, .g 17 (.pick (.tmp 14) (.tmp 16) (.const (.bool false))) 11 false, .o 18 (.pick (.tmp 11) (.const (.bool true)) (.tmp 17))]) (.cond (.tmp 18) (.seq (.region [.k 6 (-1)]) .ret) .skip)) (.seq (.seq (.region [.m 19 2, .o 20 (.c .eql 19 0)]) (.cond (.tmp 20) (.seq (.region [.k 6 1]) .ret) .skip)) (.seq (.seq (.region [.m 21 1, .o 22 (.c .eql 21 0)]) (.cond (.tmp 22) (.seq (.region [.k 6 0]) .ret) .skip)) (.seq (.region [.m 23 2, .m 24 0, .o 25 (.nilck (.tmp 24)), .o 26 (.f 0 25), .o 27 (.l 26), .o 28 (.c .sub 27 1), .o 29 (.b .rem 23 28), .m 2 29]) (.seq (.seq (.region [.m 30 2, .o 31 (.c .lss 30 0)]) (.cond (.tmp 31) (.region [.m 32 2, .m 33 0, .o 34 (.nilck (.tmp 33)), .o 35 (.f 0 34), .o 36 (.l 35), .o 37 (.c .sub 36 1), .o 38 (.b .add 32 37), .m 2 38]) .skip)) (.seq (.region [.m 39 0, .o 40 (.nilck (.tmp 39)), .o 41 (.f 5 40), .o 42 (.l 41), .m 43 0, .o 44 (.nilck (.tmp 43)), .o 45 (.f 6 44), .o 46 (.l 45), .m 47 1, .o 48 (.i 1 46 47), .o 49 (.l 48), .m 50 2, .o 51 (.b .mul 49 50), .m 52 0, .o 53 (.nilck (.tmp 52)), .o 54 (.f 0 53), .o 55 (.l 54), .o 56 (.c .sub 55 1), .o 57 (.b .rem 51 56), .o 58 (.i 1 42 57), .o 59 (.l 58), .m 6 59]) .ret)))))))
def F79:AFun:=⟨c79,3,60,[(.tmp 6)]⟩
def K79:Nat→List Nat×List Nat
 |_=>([],[])
theorem F79_ok:kj8 Try.prog K79 Try.f79=some F79:=by kernel_rfl
/- 82: (syndrome/syndromeref.F).Has -/
def c82:ACode:=(.seq (.region [.o 2 (.box 58 5 (.tmp 0)), .o 4 (.mv (.const (.bool false)))]) (.seq (.region [.m 5 1, .o 6 (.c .geq 5 0), .m 7 6, .g 8 (.m 1) 7 true, .g 9 (.f 0 2) 7 true, .g 10 (.l 9) 7 true, .g 11 (.b .lss 8 10) 7 true, .o 12 (.pick (.tmp 7) (.tmp 11) (.const (.bool false))), .m 4 12]) .ret))
def F82:AFun:=⟨c82,2,13,[(.tmp 4)]⟩
def K82:Nat→List Nat×List Nat
 |_=>([],[])
theorem F82_ok:kj8 Try.prog K82 Try.f82=some F82:=by kernel_rfl
/- 83: syndrome/matrix.Check -/
def c83L0:ACode:=(.seq (.region [.o 23 (.b .lss 22 21)]) (.seq (.cond (.tmp 23) .skip (.exit 0)) (.seq (.block 1 [1,5,20,21,22] (.seq (.region [.o 24 (.i 1 20 22), .o 25 (.l 24), .m 8 25]) (.seq (.seq (.region [.m 26 8, .o 27 (.n 26), .m 28 1, .o 29 (.iaddr 1 (.tmp 28) (.const (.int .i64 0))), .o 30 (.l 29), .o 31 (.n 30), .o 32 (.b .neq 27 31), .m 33 32, .g 34 (.m 8) 33 false, .g 35 (.n 34) 33 false, .g 36 (.c .eql 35 0) 33 false, .o 37 (.pick (.tmp 33) (.const (.bool true)) (.tmp 36))]) (.cond (.tmp 37) (.seq (.region [.k 4 3]) .ret) .skip)) (.seq (.seq (.region [.m 38 8, .o 39 (.n 38), .o 40 (.c .gtr 39 64)]) (.cond (.tmp 40) (.seq (.region [.k 4 4]) .ret) .skip)) (.seq (.region [.m 41 8, .o 42 (.mkf 111 [(.tmp 5)]), .o 43 (.q 96 [41,42])]) (.cond (.tmp 43) (.seq (.region [.k 4 2]) .ret) .skip)))))) (.region [.o 44 (.c .add 22 1), .m 22 44]))))
def c83:ACode:=(.seq (.region [.k 4 0]) (.seq (.region [.m 10 0, .o 11 (.q 51 [10]), .m 9 11, .o 12 (.e 0 9), .o 13 (.e 1 9), .o 5 (.alloc 81 [(.pointer none)]), .n (.st 1 (.tmp 5) (.tmp 12)), .m 6 13]) (.seq (.seq (.region [.m 14 6, .o 15 (.c .neq 14 0)]) (.cond (.tmp 15) (.seq (.region [.m 16 6, .m 4 16]) .ret) .skip)) (.seq (.seq (.region [.m 17 1, .o 18 (.n 17), .o 19 (.c .gtr 18 64)]) (.cond (.tmp 19) (.seq (.region [.k 4 4]) .ret) .skip)) (.seq (.seq (.region [.m 20 1, .o 21 (.n 20), .k 22 0]) (.block 0 [] (.loop [1,5,20,21,22] c83L0))) (.seq (.region [.k 4 0]) .ret))))))
def F83:AFun:=⟨c83,2,45,[(.tmp 4)]⟩
def K83:Nat→List Nat×List Nat
 |0=>([1,5,20,21,22],[])
 |1=>([],[1,5,20,21,22])
 |_=>([],[])
theorem F83_ok:kj8 Try.prog K83 Try.f83=some F83:=by kernel_rfl
/- 84: syndrome/matrix.clone -/
def c84L0:ACode:=(.seq (.region [.o 12 (.b .lss 11 10)]) (.seq (.cond (.tmp 12) .skip (.exit 0)) (.seq (.block 1 [3,9,10,11] (.seq (.region [.m 13 11, .o 14 (.i 1 9 11), .o 15 (.l 14), .m 4 13, .m 5 15]) (.region [.m 16 3, .m 17 4, .m 18 5, .o 19 (.q 74 [18]), .o 20 (.i 1 16 17), .n (.st 1 (.tmp 20) (.tmp 19))]))) (.region [.o 21 (.c .add 11 1), .m 11 21]))))
def c84:ACode:=(.seq (.region [.o 2 (.mv (.const (.slice none 0 0)))]) (.seq (.region [.m 6 0, .o 7 (.n 6), .o 8 (.mks 34 1 24 [(.slice none 0 0)] (.tmp 7) (.tmp 7)), .m 3 8]) (.seq (.seq (.region [.m 9 0, .o 10 (.n 9), .k 11 0]) (.block 0 [3] (.loop [3,9,10,11] c84L0))) (.seq (.region [.m 22 3, .m 2 22]) .ret))))
def F84:AFun:=⟨c84,1,23,[(.tmp 2)]⟩
def K84:Nat→List Nat×List Nat
 |0=>([3,9,10,11],[3])
 |1=>([],[3,9,10,11])
 |_=>([],[])
theorem F84_ok:kj8 Try.prog K84 Try.f84=some F84:=by kernel_rfl
/- 85: slices.IndexFunc[[][]int,[]int] -/
def c85L0:ACode:=(.seq (.region [.o 9 (.b .lss 8 7)]) (.seq (.cond (.tmp 9) .skip (.exit 0)) (.seq (.block 1 [0,1,7,8] (.seq (.region [.m 10 8, .m 5 10]) (.seq (.region [.m 11 1, .m 12 0, .m 13 5, .o 14 (.i 1 12 13), .o 15 (.l 14), .o 16 (.calld (.tmp 11) [(.tmp 15)])]) (.cond (.tmp 16) (.seq (.region [.m 17 5, .m 4 17]) .ret) .skip)))) (.region [.o 18 (.c .add 8 1), .m 8 18]))))
def c85:ACode:=(.seq (.region [.k 4 0]) (.seq (.seq (.region [.m 6 0, .o 7 (.n 6), .k 8 0]) (.block 0 [] (.loop [0,1,7,8] c85L0))) (.seq (.region [.k 4 (-1)]) .ret)))
def F85:AFun:=⟨c85,2,19,[(.tmp 4)]⟩
def K85:Nat→List Nat×List Nat
 |0=>([0,1,7,8],[])
 |1=>([],[0,1,7,8])
 |_=>([],[])
theorem F85_ok:kj8 Try.prog K85 Try.f85=some F85:=by kernel_rfl
/- 86: syndrome/matrix.Reduce$1 -/
def c86:ACode:=(.seq (.region [.o 3 (.mv (.const (.bool false)))]) (.seq (.region [.m 4 0, .o 5 (.l 1), .o 6 (.i 1 4 5), .o 7 (.l 6), .o 8 (.c .neq 7 0), .m 3 8]) .ret))
def F86:AFun:=⟨c86,2,9,[(.tmp 3)]⟩
def K86:Nat→List Nat×List Nat
 |_=>([],[])
theorem F86_ok:kj8 Try.prog K86 Try.f86=some F86:=by kernel_rfl
/- 87: syndrome/matrix.scale -/
def c87L0:ACode:=(.seq (.region [.o 10 (.b .lss 9 8)]) (.seq (.cond (.tmp 10) .skip (.exit 0)) (.seq (.block 1 [0,1,2,8,9] (.seq (.region [.m 11 9, .m 6 11]) (.region [.m 12 1, .m 13 6, .m 14 0, .m 15 1, .m 16 6, .o 17 (.i 1 15 16), .o 18 (.l 17), .m 19 2, .o 20 (.q 60 [14,18,19]), .o 21 (.i 1 12 13), .n (.st 1 (.tmp 21) (.tmp 20))]))) (.region [.o 22 (.c .add 9 1), .m 9 22]))))
def c87:ACode:=(.seq (.region [.m 7 1, .o 8 (.n 7), .k 9 0]) (.block 0 [] (.loop [0,1,2,8,9] c87L0)))
def F87:AFun:=⟨c87,3,23,[]⟩
def K87:Nat→List Nat×List Nat
 |0=>([0,1,2,8,9],[])
 |1=>([],[0,1,2,8,9])
 |_=>([],[])
theorem F87_ok:kj8 Try.prog K87 Try.f87=some F87:=by kernel_rfl
/- 88: (*syndrome/field.Field).Inv -/
def c88:ACode:=(.seq (.region [.k 4 0]) (.seq (.seq (.region [.m 5 0, .m 6 1, .o 7 (.q 98 [5,6]), .o 8 (.un .not (.tmp 7)), .m 9 8, .g 10 (.m 1) 9 false, .g 11 (.c .eql 10 0) 9 false, .o 12 (.pick (.tmp 9) (.const (.bool true)) (.tmp 11))]) (.cond (.tmp 12) (.seq (.region [.k 4 (-1)]) .ret) .skip)) (.seq (.region [.m 13 0, .o 14 (.nilck (.tmp 13)), .o 15 (.f 5 14), .o 16 (.l 15), .m 17 0, .o 18 (.nilck (.tmp 17)), .o 19 (.f 0 18), .o 20 (.l 19), .o 21 (.c .sub 20 1), .m 22 0, .o 23 (.nilck (.tmp 22)), .o 24 (.f 6 23), .o 25 (.l 24), .m 26 1, .o 27 (.i 1 25 26), .o 28 (.l 27), .o 29 (.b .sub 21 28), .m 30 0, .o 31 (.nilck (.tmp 30)), .o 32 (.f 0 31), .o 33 (.l 32), .o 34 (.c .sub 33 1), .o 35 (.b .rem 29 34), .o 36 (.i 1 16 35), .o 37 (.l 36), .m 4 37]) .ret)))
def F88:AFun:=⟨c88,2,38,[(.tmp 4)]⟩
def K88:Nat→List Nat×List Nat
 |_=>([],[])
theorem F88_ok:kj8 Try.prog K88 Try.f88=some F88:=by kernel_rfl
/- 89: syndrome/matrix.less -/
def c89L0:ACode:=(.seq (.region [.o 12 (.b .lss 11 10)]) (.seq (.cond (.tmp 12) .skip (.exit 0)) (.seq (.block 1 [0,1,2,3,10,11] (.seq (.region [.m 13 11, .m 8 13]) (.region [.m 14 1, .m 15 8, .m 16 0, .m 17 1, .m 18 8, .o 19 (.i 1 17 18), .o 20 (.l 19), .m 21 0, .m 22 3, .m 23 2, .m 24 8, .o 25 (.i 1 23 24), .o 26 (.l 25),⟨(some 27),(.call 60 [(.tmp 21),(.tmp 22),(.tmp 26)]),none,true⟩, .o 28 (.q 100 [16,20,27]), .o 29 (.i 1 14 15), .n (.st 1 (.tmp 29) (.tmp 28))]))) (.region [.o 30 (.c .add 11 1), .m 11 30]))))
def c89:ACode:=(.seq (.region [.m 9 1, .o 10 (.n 9), .k 11 0]) (.block 0 [] (.loop [0,1,2,3,10,11] c89L0)))
def F89:AFun:=⟨c89,4,31,[]⟩
def K89:Nat→List Nat×List Nat
 |0=>([0,1,2,3,10,11],[])
 |1=>([],[0,1,2,3,10,11])
 |_=>([],[])
theorem F89_ok:kj8 Try.prog K89 Try.f89=some F89:=by kernel_rfl
/- 90: (syndrome/syndromeref.F).less -/
def c90L0:ACode:=(.seq (.seq (.region [.m 12 10, .m 13 1, .o 14 (.n 13), .o 15 (.b .lss 12 14)]) (.cond (.tmp 15) .skip (.exit 0))) (.seq (.block 1 [1,2,3,4,9,10] (.seq (.region [.m 18 1, .m 19 10, .o 20 (.i 1 18 19), .o 21 (.l 20), .m 11 21]) (.seq (.seq (.region [.m 22 3, .o 23 (.c .neq 22 0), .m 24 23, .g 25 (.m 2) 24 true, .g 26 (.m 10) 24 true, .g 27 (.i 1 25 26) 24 true, .g 28 (.l 27) 24 true, .g 29 (.c .neq 28 0) 24 true, .o 30 (.pick (.tmp 24) (.tmp 29) (.const (.bool false)))]) (.cond (.tmp 30) (.region [.o 31 (.ld true 5 (.tmp 4)), .m 32 11, .o 33 (.ld true 5 (.tmp 4)), .m 34 3, .m 35 2, .m 36 10, .o 37 (.i 1 35 36), .o 38 (.l 37),⟨(some 39),(.call 76 [(.tmp 33),(.tmp 34),(.tmp 38)]),none,true⟩, .o 40 (.q 112 [31,32,39]), .m 11 40]) .skip)) (.region [.m 41 9, .m 42 11, .o 43 (.mkSl 3 1 1 [(.tmp 42)]), .o 44 (.app 3 1 8 (.tmp 41) (.tmp 43)), .m 9 44])))) (.region [.m 16 10, .o 17 (.c .add 16 1), .m 10 17])))
def c90:ACode:=(.seq (.region [.o 4 (.box 58 5 (.tmp 0)), .o 8 (.mv (.const (.slice none 0 0)))]) (.seq (.region [.o 9 (.mv (.const (.slice none 0 0)))]) (.seq (.seq (.region [.k 10 0]) (.block 0 [9] (.loop [1,2,3,4,9,10] c90L0))) (.seq (.region [.m 45 9, .m 8 45]) .ret))))
def F90:AFun:=⟨c90,4,46,[(.tmp 8)]⟩
def K90:Nat→List Nat×List Nat
 |0=>([1,2,3,4,9,10],[9])
 |1=>([],[1,2,3,4,9,10])
 |_=>([],[])
theorem F90_ok:kj8 Try.prog K90 Try.f90=some F90:=by kernel_rfl
/- 91: (syndrome/syndromeref.F).Inv -/
def c91L0:ACode:=(.seq (.seq (.region [.m 14 5, .o 15 (.f 0 2), .o 16 (.l 15), .o 17 (.b .lss 14 16)]) (.cond (.tmp 17) .skip (.exit 0))) (.seq (.block 1 [1,2,5] (.seq (.region [.o 20 (.ld true 5 (.tmp 2)), .m 21 1, .m 22 5, .o 23 (.q 76 [20,21,22]), .o 24 (.c .eql 23 1)]) (.cond (.tmp 24) (.seq (.region [.m 25 5, .m 4 25]) .ret) .skip))) (.region [.m 18 5, .o 19 (.c .add 18 1), .m 5 19])))
def c91:ACode:=(.seq (.region [.o 2 (.box 58 5 (.tmp 0)), .k 4 0]) (.seq (.seq (.region [.o 6 (.ld true 5 (.tmp 2)), .m 7 1, .o 8 (.q 82 [6,7]), .o 9 (.un .not (.tmp 8)), .m 10 9, .g 11 (.m 1) 10 false, .g 12 (.c .eql 11 0) 10 false, .o 13 (.pick (.tmp 10) (.const (.bool true)) (.tmp 12))]) (.cond (.tmp 13) (.seq (.region [.k 4 (-1)]) .ret) .skip)) (.seq (.seq (.region [.k 5 1]) (.block 0 [] (.loop [1,2,5] c91L0))) (.seq (.region [.k 4 (-1)]) .ret))))
def F91:AFun:=⟨c91,2,26,[(.tmp 4)]⟩
def K91:Nat→List Nat×List Nat
 |0=>([1,2,5],[])
 |1=>([],[1,2,5])
 |_=>([],[])
theorem F91_ok:kj8 Try.prog K91 Try.f91=some F91:=by kernel_rfl
/- 92: (*syndrome/field.Field).Neg -/
def c92L0:ACode:=(.seq (.region [.o 16 (.b .lss 15 14)]) (.seq (.cond (.tmp 16) .skip (.exit 0)) (.seq (.block 1 [0,1,5,6,14,15] (.seq (.region [.m 17 5, .m 18 0, .o 19 (.nilck (.tmp 18)), .o 20 (.f 1 19), .o 21 (.l 20), .m 22 1, .m 23 0, .o 24 (.nilck (.tmp 23)), .o 25 (.f 1 24), .o 26 (.l 25), .o 27 (.b .rem 22 26), .o 28 (.b .sub 21 27), .m 29 0, .o 30 (.nilck (.tmp 29)), .o 31 (.f 1 30), .o 32 (.l 31), .o 33 (.b .rem 28 32), .m 34 6, .o 35 (.b .mul 33 34), .o 36 (.b .add 17 35), .m 5 36]) (.region [.m 37 1, .m 38 0, .o 39 (.nilck (.tmp 38)), .o 40 (.f 1 39), .o 41 (.l 40), .o 42 (.b .quo 37 41), .m 43 6, .m 44 0, .o 45 (.nilck (.tmp 44)), .o 46 (.f 1 45), .o 47 (.l 46), .o 48 (.b .mul 43 47), .m 1 42, .m 6 48]))) (.region [.o 49 (.c .add 15 1), .m 15 49]))))
def c92:ACode:=(.seq (.region [.k 4 0]) (.seq (.seq (.region [.m 7 0, .m 8 1, .o 9 (.q 98 [7,8]), .o 10 (.un .not (.tmp 9))]) (.cond (.tmp 10) (.seq (.region [.k 4 (-1)]) .ret) .skip)) (.seq (.region [.k 5 0, .k 6 1]) (.seq (.seq (.region [.m 11 0, .o 12 (.nilck (.tmp 11)), .o 13 (.f 2 12), .o 14 (.l 13), .k 15 0]) (.block 0 [5] (.loop [0,1,5,6,14,15] c92L0))) (.seq (.region [.m 50 5, .m 4 50]) .ret)))))
def F92:AFun:=⟨c92,2,51,[(.tmp 4)]⟩
def K92:Nat→List Nat×List Nat
 |0=>([0,1,5,6,14,15],[5])
 |1=>([],[0,1,5,6,14,15])
 |_=>([],[])
theorem F92_ok:kj8 Try.prog K92 Try.f92=some F92:=by kernel_rfl
/- 94: syndrome/field.New$1 -/
def c94:ACode:=(.region [.o 2 (.l 0), .o 3 (.l 0),⟨(some 4),(.call 95 [(.tmp 3)]),none,true⟩, .o 5 (.f 195 1), .o 6 (.iaddrA 65 1 (.tmp 5) (.tmp 2)), .n (.st 1 (.tmp 6) (.tmp 4))])
def F94:AFun:=⟨c94,2,7,[]⟩
def K94:Nat→List Nat×List Nat
 |_=>([],[])
theorem F94_ok:kj8 Try.prog K94 Try.f94=some F94:=by kernel_rfl
/- 95: syndrome/field.build -/
def c95L0:ACode:=(.seq (.seq (.region [.m 28 5, .o 29 (.q 116 [28]), .o 30 (.un .not (.tmp 29))]) (.cond (.tmp 30) .skip (.exit 0))) (.seq (.block 1 [5] .skip) (.region [.m 31 5, .o 32 (.nilck (.tmp 31)), .o 33 (.f 4 32), .o 34 (.l 33), .o 35 (.c .add 34 1), .o 36 (.nilck (.tmp 31)), .o 37 (.f 4 36), .n (.st 1 (.tmp 37) (.tmp 35))])))
def c95L1:ACode:=(.seq (.region [.o 45 (.b .lss 44 43)]) (.seq (.cond (.tmp 45) .skip (.exit 2)) (.seq (.block 3 [3,4,5,43,44] (.seq (.region [.m 46 44, .m 6 46]) (.seq (.region [.m 47 5, .m 48 6, .m 49 3, .m 50 4, .o 51 (.q 117 [48,49,50]), .o 52 (.mkSl 3 1 1 [(.const (.int .i64 1))]), .o 53 (.app 3 1 8 (.tmp 51) (.tmp 52)), .o 54 (.nilck (.tmp 47)), .o 55 (.f 3 54), .n (.st 1 (.tmp 55) (.tmp 53))]) (.seq (.region [.m 56 5, .o 57 (.q 116 [56])]) (.cond (.tmp 57) (.seq (.region [.m 58 5, .m 2 58]) .ret) .skip))))) (.region [.o 59 (.c .add 44 1), .m 44 59]))))
def c95:ACode:=(.seq (.region [.o 2 (.mv (.const (.pointer none)))]) (.seq (.region [.m 8 0, .o 9 (.q 115 [8]), .m 7 9, .o 10 (.e 0 7), .o 11 (.e 1 7), .m 3 10, .m 4 11]) (.seq (.seq (.region [.m 12 3, .o 13 (.c .eql 12 0)]) (.cond (.tmp 13) (.seq (.region [.o 2 (.mv (.const (.pointer none)))]) .ret) .skip)) (.seq (.region [.m 14 0, .m 15 3, .m 16 4, .o 17 (.build [(.int .i64 0),(.int .i64 0),(.int .i64 0),(.slice none 0 0),(.int .i64 0),(.slice none 0 0),(.slice none 0 0)] [(0,1),(1,1),(2,1),(3,1),(4,1),(5,1),(6,1)] [(0,(.tmp 14)),(1,(.tmp 15)),(2,(.tmp 16))]), .o 18 (.box 137 7 (.tmp 17)), .m 5 18]) (.seq (.seq (.region [.m 19 4, .o 20 (.c .eql 19 1)]) (.cond (.tmp 20) (.seq (.region [.m 21 5, .o 22 (.mkSl 3 1 2 [(.const (.int .i64 0)),(.const (.int .i64 1))]), .o 23 (.nilck (.tmp 21)), .o 24 (.f 3 23), .n (.st 1 (.tmp 24) (.tmp 22))]) (.seq (.seq (.region [.m 25 5, .o 26 (.nilck (.tmp 25)), .o 27 (.f 4 26), .n (.st 1 (.tmp 27) (.const (.int .i64 1)))]) (.block 0 [5] (.loop [5] c95L0))) (.seq (.region [.m 38 5, .m 2 38]) .ret))) .skip)) (.seq (.region [.m 39 5, .m 40 3, .o 41 (.nilck (.tmp 39)), .o 42 (.f 4 41), .n (.st 1 (.tmp 42) (.tmp 40))]) (.seq (.seq (.region [.m 43 0, .k 44 0]) (.block 2 [] (.loop [3,4,5,43,44] c95L1))) (.seq (.region [.o 2 (.mv (.const (.pointer none)))]) .ret))))))))
def F95:AFun:=⟨c95,1,60,[(.tmp 2)]⟩
def K95:Nat→List Nat×List Nat
 |0=>([5],[5])
 |1=>([],[5])
 |2=>([3,4,5,43,44],[])
 |3=>([],[3,4,5,43,44])
 |_=>([],[])
theorem F95_ok:kj8 Try.prog K95 Try.f95=some F95:=by kernel_rfl
/- 96: slices.ContainsFunc[[]int,int] -/
def c96:ACode:=(.seq (.region [.o 4 (.mv (.const (.bool false)))]) (.seq (.region [.m 5 0, .m 6 1, .o 7 (.q 118 [5,6]), .o 8 (.c .geq 7 0), .m 4 8]) .ret))
def F96:AFun:=⟨c96,2,9,[(.tmp 4)]⟩
def K96:Nat→List Nat×List Nat
 |_=>([],[])
theorem F96_ok:kj8 Try.prog K96 Try.f96=some F96:=by kernel_rfl
/- 98: (*syndrome/field.Field).Has -/
def c98:ACode:=(.seq (.region [.o 4 (.mv (.const (.bool false)))]) (.seq (.region [.m 5 1, .o 6 (.c .geq 5 0), .m 7 6, .g 8 (.m 1) 7 true, .g 9 (.m 0) 7 true, .g 10 (.nilck (.tmp 9)) 7 true, .g 11 (.f 0 10) 7 true, .g 12 (.l 11) 7 true, .g 13 (.b .lss 8 12) 7 true, .o 14 (.pick (.tmp 7) (.tmp 13) (.const (.bool false))), .m 4 14]) .ret))
def F98:AFun:=⟨c98,2,15,[(.tmp 4)]⟩
def K98:Nat→List Nat×List Nat
 |_=>([],[])
theorem F98_ok:kj8 Try.prog K98 Try.f98=some F98:=by kernel_rfl
/- 100: (*syndrome/field.Field).Sub -/
def c100:ACode:=(.seq (.region [.k 6 0]) (.seq (.region [.m 7 0, .m 8 1, .m 9 0, .m 10 2, .o 11 (.q 92 [9,10]), .o 12 (.q 58 [7,8,11]), .m 6 12]) .ret))
def F100:AFun:=⟨c100,3,13,[(.tmp 6)]⟩
def K100:Nat→List Nat×List Nat
 |_=>([],[])
theorem F100_ok:kj8 Try.prog K100 Try.f100=some F100:=by kernel_rfl
/- 102: slices.Index[[]int,int] -/
def c102L0:ACode:=(.seq (.region [.o 9 (.b .lss 8 7)]) (.seq (.cond (.tmp 9) .skip (.exit 0)) (.seq (.block 1 [0,1,7,8] (.seq (.region [.m 10 8, .m 5 10]) (.seq (.region [.m 11 1, .m 12 0, .m 13 5, .o 14 (.i 1 12 13), .o 15 (.l 14), .o 16 (.b .eql 11 15)]) (.cond (.tmp 16) (.seq (.region [.m 17 5, .m 4 17]) .ret) .skip)))) (.region [.o 18 (.c .add 8 1), .m 8 18]))))
def c102:ACode:=(.seq (.region [.k 4 0]) (.seq (.seq (.region [.m 6 0, .o 7 (.n 6), .k 8 0]) (.block 0 [] (.loop [0,1,7,8] c102L0))) (.seq (.region [.k 4 (-1)]) .ret)))
def F102:AFun:=⟨c102,2,19,[(.tmp 4)]⟩
def K102:Nat→List Nat×List Nat
 |0=>([0,1,7,8],[])
 |1=>([],[0,1,7,8])
 |_=>([],[])
theorem F102_ok:kj8 Try.prog K102 Try.f102=some F102:=by kernel_rfl
/- 105: syndrome/syndromeref.ReedMay -/
def c105L0:ACode:=(.seq (.seq (.region [.m 26 9, .m 27 1, .o 28 (.n 27), .o 29 (.b .lss 26 28)]) (.cond (.tmp 29) .skip (.exit 0))) (.seq (.block 1 [1,2,7,9] (.seq (.seq (.region [.o 32 (.ld true 5 (.tmp 7)), .m 33 1, .m 34 9, .o 35 (.i 1 33 34), .o 36 (.l 35), .o 37 (.q 82 [32,36]), .o 38 (.un .not (.tmp 37))]) (.cond (.tmp 38) (.seq (.region [.k 6 2]) .ret) .skip)) (.seq (.region [.m 39 1, .m 40 9, .o 41 (.i 1 39 40), .o 42 (.l 41), .m 43 1, .m 44 9, .o 45 (.sl 1 (.tmp 43) none (some (.tmp 44))), .o 46 (.q 64 [42,45])]) (.cond (.tmp 46) (.seq (.region [.k 6 7]) .ret) .skip)))) (.region [.m 30 9, .o 31 (.c .add 30 1), .m 9 31])))
def c105:ACode:=(.seq (.region [.k 6 0]) (.seq (.region [.m 11 0, .o 12 (.q 32 [11]), .m 10 12, .o 13 (.e 0 10), .o 14 (.e 1 10), .o 7 (.alloc 58 [(.int .i64 0),(.int .i64 0),(.int .i64 0),(.int .i64 0),(.slice none 0 0)]), .n (.st 5 (.tmp 7) (.tmp 13)), .m 8 14]) (.seq (.seq (.region [.m 15 8, .o 16 (.c .neq 15 0)]) (.cond (.tmp 16) (.seq (.region [.m 17 8, .m 6 17]) .ret) .skip)) (.seq (.seq (.region [.m 18 1, .o 19 (.n 18), .o 20 (.c .lss 19 1), .m 21 20, .g 22 (.m 1) 21 false, .g 23 (.n 22) 21 false, .g 24 (.c .gtr 23 64) 21 false, .o 25 (.pick (.tmp 21) (.const (.bool true)) (.tmp 24))]) (.cond (.tmp 25) (.seq (.region [.k 6 4]) .ret) .skip)) (.seq (.seq (.region [.k 9 0]) (.block 0 [1,2] (.loop [1,2,7,9] c105L0))) (.seq (.seq (.region [.m 47 2, .o 48 (.c .lss 47 1), .m 49 48, .g 50 (.m 2) 49 false, .g 51 (.m 1) 49 false, .g 52 (.n 51) 49 false, .g 53 (.b .gtr 50 52) 49 false, .o 54 (.pick (.tmp 49) (.const (.bool true)) (.tmp 53))]) (.cond (.tmp 54) (.seq (.region [.k 6 6]) .ret) .skip)) (.seq (.region [.k 6 0]) .ret)))))))
def F105:AFun:=⟨c105,3,55,[(.tmp 6)]⟩
def K105:Nat→List Nat×List Nat
 |0=>([1,2,7,9],[1,2])
 |1=>([],[1,2,7,9])
 |_=>([],[])
theorem F105_ok:kj8 Try.prog K105 Try.f105=some F105:=by kernel_rfl
/- 106: syndrome/syndromeref.PAt -/
def c106:ACode:=(.seq (.region [.o 3 (.box 58 5 (.tmp 0)), .k 6 0]) (.seq (.region [.o 7 (.ld true 5 (.tmp 3)), .m 8 1, .m 9 2, .o 10 (.q 120 [7,8,9]), .m 6 10]) .ret))
def F106:AFun:=⟨c106,3,11,[(.tmp 6)]⟩
def K106:Nat→List Nat×List Nat
 |_=>([],[])
theorem F106_ok:kj8 Try.prog K106 Try.f106=some F106:=by kernel_rfl
/- 107: syndrome/reed.Word -/
def c107:ACode:=(.seq (.region [.k 8 0]) (.seq (.seq (.region [.m 12 0, .m 13 1, .m 14 2, .o 15 (.q 121 [12,13,14]), .m 9 15]) (.seq (.region [.m 16 9, .o 17 (.c .neq 16 0)]) (.cond (.tmp 17) (.seq (.region [.m 18 9, .m 8 18]) .ret) .skip))) (.seq (.seq (.region [.m 19 3, .o 20 (.n 19), .m 21 1, .o 22 (.n 21), .o 23 (.b .neq 20 22)]) (.cond (.tmp 23) (.seq (.region [.k 8 6]) .ret) .skip)) (.seq (.region [.m 25 0, .o 26 (.q 51 [25]), .m 24 26, .o 27 (.e 0 24), .o 28 (.e 1 24), .o 10 (.alloc 81 [(.pointer none)]), .n (.st 1 (.tmp 10) (.tmp 27)), .m 11 28]) (.seq (.seq (.region [.m 29 3, .o 30 (.mkf 122 [(.tmp 10)]), .o 31 (.q 96 [29,30])]) (.cond (.tmp 31) (.seq (.region [.k 8 2]) .ret) .skip)) (.seq (.region [.k 8 0]) .ret))))))
def F107:AFun:=⟨c107,4,32,[(.tmp 8)]⟩
def K107:Nat→List Nat×List Nat
 |_=>([],[])
theorem F107_ok:kj8 Try.prog K107 Try.f107=some F107:=by kernel_rfl
/- 108: syndrome/poly.both -/
def c108:ACode:=(.seq (.region [.o 6 (.mv (.const (.pointer none))), .o 7 (.mv (.const (.slice none 0 0))), .o 8 (.mv (.const (.slice none 0 0))), .k 9 0]) (.seq (.region [.m 13 0, .m 14 1, .o 15 (.q 123 [13,14]), .m 10 15]) (.seq (.seq (.region [.m 16 10, .o 17 (.c .eql 16 0)]) (.cond (.tmp 17) (.region [.m 18 0, .m 19 2, .o 20 (.q 123 [18,19]), .m 10 20]) .skip)) (.seq (.seq (.region [.m 21 10, .o 22 (.c .neq 21 0)]) (.cond (.tmp 22) (.seq (.region [.m 23 10, .o 6 (.mv (.const (.pointer none))), .o 7 (.mv (.const (.slice none 0 0))), .o 8 (.mv (.const (.slice none 0 0))), .m 9 23]) .ret) .skip)) (.seq (.region [.m 25 0, .o 26 (.q 51 [25]), .m 24 26, .o 27 (.e 0 24), .o 28 (.e 1 24), .m 11 27, .m 12 28]) (.seq (.region [.m 29 11, .m 30 1, .o 31 (.q 124 [30]), .m 32 2, .o 33 (.q 124 [32]), .m 6 29, .m 7 31, .m 8 33, .k 9 0]) .ret))))))
def F108:AFun:=⟨c108,3,34,[(.tmp 6),(.tmp 7),(.tmp 8),(.tmp 9)]⟩
def K108:Nat→List Nat×List Nat
 |_=>([],[])
theorem F108_ok:kj8 Try.prog K108 Try.f108=some F108:=by kernel_rfl
/- 109: syndrome/syndromeref.Number -/
def c109L0:ACode:=(.seq (.seq (.region [.m 10 6, .o 11 (.c .geq 10 0)]) (.cond (.tmp 11) .skip (.exit 0))) (.seq (.block 1 [0,1,5,6] (.region [.m 14 5, .m 15 1, .o 16 (.b .mul 14 15), .m 17 0, .m 18 6, .o 19 (.i 1 17 18), .o 20 (.l 19), .o 21 (.b .add 16 20), .m 5 21])) (.region [.m 12 6, .o 13 (.c .sub 12 1), .m 6 13])))
def c109:ACode:=(.seq (.region [.k 4 0]) (.seq (.region [.k 5 0]) (.seq (.seq (.region [.m 7 0, .o 8 (.n 7), .o 9 (.c .sub 8 1), .m 6 9]) (.block 0 [5] (.loop [0,1,5,6] c109L0))) (.seq (.region [.m 22 5, .m 4 22]) .ret))))
def F109:AFun:=⟨c109,2,23,[(.tmp 4)]⟩
def K109:Nat→List Nat×List Nat
 |0=>([0,1,5,6],[5])
 |1=>([],[0,1,5,6])
 |_=>([],[])
theorem F109_ok:kj8 Try.prog K109 Try.f109=some F109:=by kernel_rfl
/- 110: (syndrome/syndromeref.F).Neg -/
def c110L0:ACode:=(.seq (.seq (.region [.m 17 6, .o 18 (.f 2 2), .o 19 (.l 18), .o 20 (.b .lss 17 19)]) (.cond (.tmp 20) .skip (.exit 0))) (.seq (.block 1 [2,5,6] (.region [.m 23 5, .m 24 6, .o 25 (.f 1 2), .o 26 (.l 25), .m 27 5, .m 28 6, .o 29 (.i 1 27 28), .o 30 (.l 29), .o 31 (.b .sub 26 30), .o 32 (.f 1 2), .o 33 (.l 32), .o 34 (.b .rem 31 33), .o 35 (.i 1 23 24), .n (.st 1 (.tmp 35) (.tmp 34))])) (.region [.m 21 6, .o 22 (.c .add 21 1), .m 6 22])))
def c110:ACode:=(.seq (.region [.o 2 (.box 58 5 (.tmp 0)), .k 4 0]) (.seq (.seq (.region [.o 7 (.ld true 5 (.tmp 2)), .m 8 1, .o 9 (.q 82 [7,8]), .o 10 (.un .not (.tmp 9))]) (.cond (.tmp 10) (.seq (.region [.k 4 (-1)]) .ret) .skip)) (.seq (.region [.m 11 1, .o 12 (.f 1 2), .o 13 (.l 12), .o 14 (.f 2 2), .o 15 (.l 14), .o 16 (.q 67 [11,13,15]), .m 5 16]) (.seq (.seq (.region [.k 6 0]) (.block 0 [2,5] (.loop [2,5,6] c110L0))) (.seq (.region [.m 36 5, .o 37 (.f 1 2), .o 38 (.l 37), .o 39 (.q 109 [36,38]), .m 4 39]) .ret)))))
def F110:AFun:=⟨c110,2,40,[(.tmp 4)]⟩
def K110:Nat→List Nat×List Nat
 |0=>([2,5,6],[2,5])
 |1=>([],[2,5,6])
 |_=>([],[])
theorem F110_ok:kj8 Try.prog K110 Try.f110=some F110:=by kernel_rfl
/- 111: syndrome/matrix.Check$1 -/
def c111:ACode:=(.seq (.region [.o 3 (.mv (.const (.bool false)))]) (.seq (.region [.o 4 (.l 1), .m 5 0, .o 6 (.q 98 [4,5]), .o 7 (.un .not (.tmp 6)), .m 3 7]) .ret))
def F111:AFun:=⟨c111,2,8,[(.tmp 3)]⟩
def K111:Nat→List Nat×List Nat
 |_=>([],[])
theorem F111_ok:kj8 Try.prog K111 Try.f111=some F111:=by kernel_rfl
/- 112: (syndrome/syndromeref.F).Sub -/
def c112:ACode:=(.seq (.region [.o 3 (.box 58 5 (.tmp 0)), .k 6 0]) (.seq (.region [.o 8 (.ld true 5 (.tmp 3)), .m 9 2, .o 10 (.q 110 [8,9]), .m 7 10]) (.seq (.region [.o 11 (.ld true 5 (.tmp 3)), .m 12 1, .m 13 7, .o 14 (.q 125 [11,12,13]), .m 6 14]) .ret)))
def F112:AFun:=⟨c112,3,15,[(.tmp 6)]⟩
def K112:Nat→List Nat×List Nat
 |_=>([],[])
theorem F112_ok:kj8 Try.prog K112 Try.f112=some F112:=by kernel_rfl
/- 115: syndrome/field.prime -/
def c115L0:ACode:=(.seq (.seq (.region [.m 4 0, .m 5 2, .o 6 (.b .rem 4 5), .o 7 (.c .neq 6 0)]) (.cond (.tmp 7) .skip (.exit 0))) (.block 1 [0,2,3] (.region [.m 8 2, .o 9 (.c .add 8 1), .m 2 9])))
def c115L1:ACode:=(.seq (.seq (.region [.m 10 0, .m 11 2, .o 12 (.b .rem 10 11), .o 13 (.c .eql 12 0)]) (.cond (.tmp 13) .skip (.exit 2))) (.seq (.block 3 [0,2,3] (.region [.m 17 3, .o 18 (.c .add 17 1), .m 3 18])) (.region [.m 14 0, .m 15 2, .o 16 (.b .quo 14 15), .m 0 16])))
def c115:ACode:=(.seq (.region [.k 2 0, .k 3 0]) (.seq (.region [.k 2 2]) (.seq (.block 0 [0,2,3] (.loop [0,2,3] c115L0)) (.seq (.block 2 [0,2,3] (.loop [0,2,3] c115L1)) (.seq (.seq (.region [.m 19 0, .o 20 (.c .neq 19 1)]) (.cond (.tmp 20) (.seq (.region [.k 2 0, .k 3 0]) .ret) .skip)) (.seq (.region [.m 21 2, .m 22 3, .m 2 21, .m 3 22]) .ret))))))
def F115:AFun:=⟨c115,1,23,[(.tmp 2),(.tmp 3)]⟩
def K115:Nat→List Nat×List Nat
 |0=>([0,2,3],[0,2,3])
 |1=>([],[0,2,3])
 |2=>([0,2,3],[0,2,3])
 |3=>([],[0,2,3])
 |_=>([],[])
theorem F115_ok:kj8 Try.prog K115 Try.f115=some F115:=by kernel_rfl
/- 116: (*syndrome/field.Field).fill -/
def c116L0:ACode:=(.seq (.region [.o 29 (.b .lss 28 27)]) (.seq (.cond (.tmp 29) .skip (.exit 0)) (.seq (.block 1 [0,27,28] (.seq (.region [.m 30 28, .m 3 30]) (.region [.m 31 0, .o 32 (.nilck (.tmp 31)), .o 33 (.f 6 32), .o 34 (.l 33), .m 35 3, .o 36 (.i 1 34 35), .n (.st 1 (.tmp 36) (.const (.int .i64 (-1))))]))) (.region [.o 37 (.c .add 28 1), .m 28 37]))))
def c116L1:ACode:=(.seq (.region [.o 44 (.b .lss 43 42)]) (.seq (.cond (.tmp 44) .skip (.exit 2)) (.seq (.block 3 [0,4,42,43] (.seq (.region [.m 45 43, .m 5 45]) (.seq (.seq (.region [.m 46 4, .o 47 (.c .eql 46 0), .m 48 47, .g 49 (.m 0) 48 false, .g 50 (.nilck (.tmp 49)) 48 false, .g 51 (.f 6 50) 48 false, .g 52 (.l 51) 48 false, .g 53 (.m 4) 48 false, .g 54 (.i 1 52 53) 48 false, .g 55 (.l 54) 48 false, .g 56 (.c .geq 55 0) 48 false, .o 57 (.pick (.tmp 48) (.const (.bool true)) (.tmp 56))]) (.cond (.tmp 57) (.seq (.region [.o 2 (.mv (.const (.bool false)))]) .ret) .skip)) (.seq (.region [.m 58 0, .o 59 (.nilck (.tmp 58)), .o 60 (.f 5 59), .o 61 (.l 60), .m 62 5, .m 63 0, .o 64 (.nilck (.tmp 63)), .o 65 (.f 6 64), .o 66 (.l 65), .m 67 4, .m 68 4, .m 69 5, .o 70 (.i 1 61 62), .n (.st 1 (.tmp 70) (.tmp 68)), .o 71 (.i 1 66 67), .n (.st 1 (.tmp 71) (.tmp 69))]) (.region [.m 72 0, .m 73 4, .o 74 (.q 130 [72,73]), .m 4 74]))))) (.region [.o 75 (.c .add 43 1), .m 43 75]))))
def c116:ACode:=(.seq (.region [.o 2 (.mv (.const (.bool false)))]) (.seq (.region [.m 6 0, .m 7 0, .o 8 (.nilck (.tmp 7)), .o 9 (.f 0 8), .o 10 (.l 9), .o 11 (.c .sub 10 1), .o 12 (.mks 3 1 8 [(.int .i64 0)] (.tmp 11) (.tmp 11)), .o 13 (.nilck (.tmp 6)), .o 14 (.f 5 13), .n (.st 1 (.tmp 14) (.tmp 12))]) (.seq (.region [.m 15 0, .m 16 0, .o 17 (.nilck (.tmp 16)), .o 18 (.f 0 17), .o 19 (.l 18), .o 20 (.mks 3 1 8 [(.int .i64 0)] (.tmp 19) (.tmp 19)), .o 21 (.nilck (.tmp 15)), .o 22 (.f 6 21), .n (.st 1 (.tmp 22) (.tmp 20))]) (.seq (.seq (.region [.m 23 0, .o 24 (.nilck (.tmp 23)), .o 25 (.f 6 24), .o 26 (.l 25), .o 27 (.n 26), .k 28 0]) (.block 0 [0] (.loop [0,27,28] c116L0))) (.seq (.region [.k 4 1]) (.seq (.seq (.region [.m 38 0, .o 39 (.nilck (.tmp 38)), .o 40 (.f 0 39), .o 41 (.l 40), .o 42 (.c .sub 41 1), .k 43 0]) (.block 2 [4] (.loop [0,4,42,43] c116L1))) (.seq (.region [.m 76 4, .o 77 (.c .eql 76 1), .m 2 77]) .ret)))))))
def F116:AFun:=⟨c116,1,78,[(.tmp 2)]⟩
def K116:Nat→List Nat×List Nat
 |0=>([0,27,28],[0])
 |1=>([],[0,27,28])
 |2=>([0,4,42,43],[4])
 |3=>([],[0,4,42,43])
 |_=>([],[])
theorem F116_ok:kj8 Try.prog K116 Try.f116=some F116:=by kernel_rfl
/- 117: syndrome/field.digits -/
def c117L0:ACode:=(.seq (.region [.o 14 (.b .lss 13 12)]) (.seq (.cond (.tmp 14) .skip (.exit 0)) (.seq (.block 1 [0,1,7,12,13] (.seq (.region [.m 15 13, .m 8 15]) (.seq (.region [.m 16 7, .m 17 8, .m 18 0, .m 19 1, .o 20 (.b .rem 18 19), .o 21 (.i 1 16 17), .n (.st 1 (.tmp 21) (.tmp 20))]) (.region [.m 22 0, .m 23 1, .o 24 (.b .quo 22 23), .m 0 24])))) (.region [.o 25 (.c .add 13 1), .m 13 25]))))
def c117:ACode:=(.seq (.region [.o 6 (.mv (.const (.slice none 0 0)))]) (.seq (.region [.m 9 2, .o 10 (.mks 3 1 8 [(.int .i64 0)] (.tmp 9) (.tmp 9)), .m 7 10]) (.seq (.seq (.region [.m 11 7, .o 12 (.n 11), .k 13 0]) (.block 0 [7] (.loop [0,1,7,12,13] c117L0))) (.seq (.region [.m 26 7, .m 6 26]) .ret))))
def F117:AFun:=⟨c117,3,27,[(.tmp 6)]⟩
def K117:Nat→List Nat×List Nat
 |0=>([0,1,7,12,13],[7])
 |1=>([],[0,1,7,12,13])
 |_=>([],[])
theorem F117_ok:kj8 Try.prog K117 Try.f117=some F117:=by kernel_rfl
/- 118: slices.IndexFunc[[]int,int] -/
def c118L0:ACode:=(.seq (.region [.o 9 (.b .lss 8 7)]) (.seq (.cond (.tmp 9) .skip (.exit 0)) (.seq (.block 1 [0,1,7,8] (.seq (.region [.m 10 8, .m 5 10]) (.seq (.region [.m 11 1, .m 12 0, .m 13 5, .o 14 (.i 1 12 13), .o 15 (.l 14), .o 16 (.calld (.tmp 11) [(.tmp 15)])]) (.cond (.tmp 16) (.seq (.region [.m 17 5, .m 4 17]) .ret) .skip)))) (.region [.o 18 (.c .add 8 1), .m 8 18]))))
def c118:ACode:=(.seq (.region [.k 4 0]) (.seq (.seq (.region [.m 6 0, .o 7 (.n 6), .k 8 0]) (.block 0 [] (.loop [0,1,7,8] c118L0))) (.seq (.region [.k 4 (-1)]) .ret)))
def F118:AFun:=⟨c118,2,19,[(.tmp 4)]⟩
def K118:Nat→List Nat×List Nat
 |0=>([0,1,7,8],[])
 |1=>([],[0,1,7,8])
 |_=>([],[])
theorem F118_ok:kj8 Try.prog K118 Try.f118=some F118:=by kernel_rfl
/- 120: (syndrome/syndromeref.F).value -/
def c120L0:ACode:=(.seq (.seq (.region [.m 12 8, .o 13 (.c .geq 12 0)]) (.cond (.tmp 13) .skip (.exit 0))) (.seq (.block 1 [1,2,3,7,8] (.seq (.region [.o 16 (.ld true 5 (.tmp 3)), .m 17 7, .m 18 2, .o 19 (.q 76 [16,17,18]), .m 7 19]) (.region [.o 20 (.ld true 5 (.tmp 3)), .m 21 7, .m 22 1, .m 23 8, .o 24 (.i 1 22 23), .o 25 (.l 24), .o 26 (.q 125 [20,21,25]), .m 7 26]))) (.region [.m 14 8, .o 15 (.c .sub 14 1), .m 8 15])))
def c120:ACode:=(.seq (.region [.o 3 (.box 58 5 (.tmp 0)), .k 6 0]) (.seq (.region [.k 7 0]) (.seq (.seq (.region [.m 9 1, .o 10 (.n 9), .o 11 (.c .sub 10 1), .m 8 11]) (.block 0 [7] (.loop [1,2,3,7,8] c120L0))) (.seq (.region [.m 27 7, .m 6 27]) .ret))))
def F120:AFun:=⟨c120,3,28,[(.tmp 6)]⟩
def K120:Nat→List Nat×List Nat
 |0=>([1,2,3,7,8],[7])
 |1=>([],[1,2,3,7,8])
 |_=>([],[])
theorem F120_ok:kj8 Try.prog K120 Try.f120=some F120:=by kernel_rfl
/- 121: syndrome/reed.Check -/
def c121L0:ACode:=(.seq (.region [.o 30 (.b .lss 29 28)]) (.seq (.cond (.tmp 30) .skip (.exit 0)) (.seq (.block 1 [1,2,7,27,28,29] (.seq (.region [.m 31 29, .o 32 (.i 1 27 29), .o 33 (.l 32), .m 9 31, .m 10 33]) (.seq (.seq (.region [.m 34 7, .m 35 10, .o 36 (.q 98 [34,35]), .o 37 (.un .not (.tmp 36))]) (.cond (.tmp 37) (.seq (.region [.k 6 2]) .ret) .skip)) (.seq (.region [.m 38 1, .m 39 9, .o 40 (.sl 1 (.tmp 38) none (some (.tmp 39))), .m 41 10, .o 42 (.q 61 [40,41])]) (.cond (.tmp 42) (.seq (.region [.k 6 7]) .ret) .skip))))) (.region [.o 43 (.c .add 29 1), .m 29 43]))))
def c121:ACode:=(.seq (.region [.k 6 0]) (.seq (.region [.m 12 0, .o 13 (.q 51 [12]), .m 11 13, .o 14 (.e 0 11), .o 15 (.e 1 11), .m 7 14, .m 8 15]) (.seq (.seq (.region [.m 16 8, .o 17 (.c .neq 16 0)]) (.cond (.tmp 17) (.seq (.region [.m 18 8, .m 6 18]) .ret) .skip)) (.seq (.seq (.region [.m 19 1, .o 20 (.n 19), .o 21 (.c .lss 20 1), .m 22 21, .g 23 (.m 1) 22 false, .g 24 (.n 23) 22 false, .g 25 (.c .gtr 24 64) 22 false, .o 26 (.pick (.tmp 22) (.const (.bool true)) (.tmp 25))]) (.cond (.tmp 26) (.seq (.region [.k 6 4]) .ret) .skip)) (.seq (.seq (.region [.m 27 1, .o 28 (.n 27), .k 29 0]) (.block 0 [1,2] (.loop [1,2,7,27,28,29] c121L0))) (.seq (.seq (.region [.m 44 2, .o 45 (.c .lss 44 1), .m 46 45, .g 47 (.m 2) 46 false, .g 48 (.m 1) 46 false, .g 49 (.n 48) 46 false, .g 50 (.b .gtr 47 49) 46 false, .o 51 (.pick (.tmp 46) (.const (.bool true)) (.tmp 50))]) (.cond (.tmp 51) (.seq (.region [.k 6 6]) .ret) .skip)) (.seq (.region [.k 6 0]) .ret)))))))
def F121:AFun:=⟨c121,3,52,[(.tmp 6)]⟩
def K121:Nat→List Nat×List Nat
 |0=>([1,2,7,27,28,29],[1,2])
 |1=>([],[1,2,7,27,28,29])
 |_=>([],[])
theorem F121_ok:kj8 Try.prog K121 Try.f121=some F121:=by kernel_rfl
/- 122: syndrome/reed.Word$1 -/
def c122:ACode:=(.seq (.region [.o 3 (.mv (.const (.bool false)))]) (.seq (.region [.m 4 0, .o 5 (.c .neq 4 (-1)), .m 6 5, .g 7 (.l 1) 6 true, .g 8 (.m 0) 6 true, .g 9 (.q 98 [7,8]) 6 true, .g 10 (.un .not (.tmp 9)) 6 true, .o 11 (.pick (.tmp 6) (.tmp 10) (.const (.bool false))), .m 3 11]) .ret))
def F122:AFun:=⟨c122,2,12,[(.tmp 3)]⟩
def K122:Nat→List Nat×List Nat
 |_=>([],[])
theorem F122_ok:kj8 Try.prog K122 Try.f122=some F122:=by kernel_rfl
/- 123: syndrome/poly.Check -/
def c123L0:ACode:=(.seq (.region [.o 23 (.b .lss 22 21)]) (.seq (.cond (.tmp 23) .skip (.exit 0)) (.seq (.block 1 [5,20,21,22] (.seq (.region [.o 24 (.i 1 20 22), .o 25 (.l 24), .m 8 25]) (.seq (.region [.m 26 5, .m 27 8, .o 28 (.q 98 [26,27]), .o 29 (.un .not (.tmp 28))]) (.cond (.tmp 29) (.seq (.region [.k 4 2]) .ret) .skip)))) (.region [.o 30 (.c .add 22 1), .m 22 30]))))
def c123:ACode:=(.seq (.region [.k 4 0]) (.seq (.region [.m 10 0, .o 11 (.q 51 [10]), .m 9 11, .o 12 (.e 0 9), .o 13 (.e 1 9), .m 5 12, .m 6 13]) (.seq (.seq (.region [.m 14 6, .o 15 (.c .neq 14 0)]) (.cond (.tmp 15) (.seq (.region [.m 16 6, .m 4 16]) .ret) .skip)) (.seq (.seq (.region [.m 17 1, .o 18 (.n 17), .o 19 (.c .gtr 18 128)]) (.cond (.tmp 19) (.seq (.region [.k 4 4]) .ret) .skip)) (.seq (.seq (.region [.m 20 1, .o 21 (.n 20), .k 22 0]) (.block 0 [] (.loop [5,20,21,22] c123L0))) (.seq (.region [.k 4 0]) .ret))))))
def F123:AFun:=⟨c123,2,31,[(.tmp 4)]⟩
def K123:Nat→List Nat×List Nat
 |0=>([5,20,21,22],[])
 |1=>([],[5,20,21,22])
 |_=>([],[])
theorem F123_ok:kj8 Try.prog K123 Try.f123=some F123:=by kernel_rfl
/- 124: syndrome/poly.trim -/
def c124L0:ACode:=(.seq (.seq (.region [.m 6 3, .o 7 (.c .gtr 6 0), .m 8 7, .g 9 (.m 0) 8 true, .g 10 (.m 3) 8 true, .g 11 (.c .sub 10 1) 8 true, .g 12 (.i 1 9 11) 8 true, .g 13 (.l 12) 8 true, .g 14 (.c .eql 13 0) 8 true, .o 15 (.pick (.tmp 8) (.tmp 14) (.const (.bool false)))]) (.cond (.tmp 15) .skip (.exit 0))) (.block 1 [0,3] (.region [.m 16 3, .o 17 (.c .sub 16 1), .m 3 17])))
def c124:ACode:=(.seq (.region [.o 2 (.mv (.const (.slice none 0 0)))]) (.seq (.region [.m 4 0, .o 5 (.n 4), .m 3 5]) (.seq (.block 0 [0,3] (.loop [0,3] c124L0)) (.seq (.region [.m 18 0, .m 19 3, .o 20 (.sl 1 (.tmp 18) none (some (.tmp 19))), .o 21 (.q 74 [20]), .m 2 21]) .ret))))
def F124:AFun:=⟨c124,1,22,[(.tmp 2)]⟩
def K124:Nat→List Nat×List Nat
 |0=>([0,3],[0,3])
 |1=>([],[0,3])
 |_=>([],[])
theorem F124_ok:kj8 Try.prog K124 Try.f124=some F124:=by kernel_rfl
/- 125: (syndrome/syndromeref.F).Add -/
def c125L0:ACode:=(.seq (.seq (.region [.m 47 9, .o 48 (.f 2 3), .o 49 (.l 48), .o 50 (.b .lss 47 49)]) (.cond (.tmp 50) .skip (.exit 0))) (.seq (.block 1 [3,7,8,9] (.region [.m 53 7, .m 54 9, .m 55 7, .m 56 9, .o 57 (.i 1 55 56), .o 58 (.l 57), .m 59 8, .m 60 9, .o 61 (.i 1 59 60), .o 62 (.l 61), .o 63 (.b .add 58 62), .o 64 (.f 1 3), .o 65 (.l 64), .o 66 (.b .rem 63 65), .o 67 (.i 1 53 54), .n (.st 1 (.tmp 67) (.tmp 66))])) (.region [.m 51 9, .o 52 (.c .add 51 1), .m 9 52])))
def c125:ACode:=(.seq (.region [.o 3 (.box 58 5 (.tmp 0)), .k 6 0]) (.seq (.seq (.region [.o 10 (.ld true 5 (.tmp 3)), .m 11 1, .o 12 (.q 82 [10,11]), .o 13 (.un .not (.tmp 12)), .m 14 13, .g 15 (.ld true 5 (.tmp 3)) 14 false, .g 16 (.m 2) 14 false, .g 17 (.q 82 [15,16]) 14 false, .g 18 (.un .not (.tmp 17)) 14 false, .o 19 (.pick (.tmp 14) (.const (.bool true)) (.tmp 18))]) (.cond (.tmp 19) (.seq (.region [.k 6 (-1)]) .ret) .skip)) (.seq (.seq (.region [.o 20 (.f 2 3), .o 21 (.l 20), .o 22 (.c .eql 21 1)]) (.cond (.tmp 22) (.seq (.region [.m 23 1, .m 24 2, .o 25 (.b .add 23 24), .o 26 (.f 1 3), .o 27 (.l 26), .o 28 (.b .rem 25 27), .m 6 28]) .ret) .skip)) (.seq (.seq (.region [.o 29 (.f 1 3), .o 30 (.l 29), .o 31 (.c .eql 30 2)]) (.cond (.tmp 31) (.seq (.region [.m 32 1, .m 33 2, .o 34 (.b .xor 32 33), .m 6 34]) .ret) .skip)) (.seq (.region [.m 35 1, .o 36 (.f 1 3), .o 37 (.l 36), .o 38 (.f 2 3), .o 39 (.l 38), .o 40 (.q 67 [35,37,39]), .m 7 40]) (.seq (.region [.m 41 2, .o 42 (.f 1 3), .o 43 (.l 42), .o 44 (.f 2 3), .o 45 (.l 44), .o 46 (.q 67 [41,43,45]), .m 8 46]) (.seq (.seq (.region [.k 9 0]) (.block 0 [3,7] (.loop [3,7,8,9] c125L0))) (.seq (.region [.m 68 7, .o 69 (.f 1 3), .o 70 (.l 69), .o 71 (.q 109 [68,70]), .m 6 71]) .ret))))))))
def F125:AFun:=⟨c125,3,72,[(.tmp 6)]⟩
def K125:Nat→List Nat×List Nat
 |0=>([3,7,8,9],[3,7])
 |1=>([],[3,7,8,9])
 |_=>([],[])
theorem F125_ok:kj8 Try.prog K125 Try.f125=some F125:=by kernel_rfl
/- 130: (*syndrome/field.Field).turn -/
def c130L0:ACode:=(.seq (.region [.o 57 (.b .lss 56 55)]) (.seq (.cond (.tmp 57) .skip (.exit 0)) (.seq (.block 1 [0,5,6,55,56] (.seq (.region [.m 58 56, .m 7 58]) (.region [.m 59 5, .m 60 7, .m 61 5, .m 62 7, .o 63 (.i 1 61 62), .o 64 (.l 63), .m 65 6, .m 66 0, .o 67 (.nilck (.tmp 66)), .o 68 (.f 1 67), .o 69 (.l 68), .m 70 0, .o 71 (.nilck (.tmp 70)), .o 72 (.f 3 71), .o 73 (.l 72), .m 74 7, .o 75 (.i 1 73 74), .o 76 (.l 75), .o 77 (.b .sub 69 76), .o 78 (.b .mul 65 77), .o 79 (.b .add 64 78), .m 80 0, .o 81 (.nilck (.tmp 80)), .o 82 (.f 1 81), .o 83 (.l 82), .o 84 (.b .rem 79 83), .o 85 (.i 1 59 60), .n (.st 1 (.tmp 85) (.tmp 84))]))) (.region [.o 86 (.c .add 56 1), .m 56 86]))))
def c130:ACode:=(.seq (.region [.k 4 0]) (.seq (.seq (.region [.m 8 0, .o 9 (.nilck (.tmp 8)), .o 10 (.f 2 9), .o 11 (.l 10), .o 12 (.c .eql 11 1)]) (.cond (.tmp 12) (.seq (.region [.m 13 1, .m 14 0, .o 15 (.nilck (.tmp 14)), .o 16 (.f 4 15), .o 17 (.l 16), .o 18 (.b .mul 13 17), .m 19 0, .o 20 (.nilck (.tmp 19)), .o 21 (.f 1 20), .o 22 (.l 21), .o 23 (.b .rem 18 22), .m 4 23]) .ret) .skip)) (.seq (.region [.m 24 1, .m 25 0, .o 26 (.nilck (.tmp 25)), .o 27 (.f 1 26), .o 28 (.l 27), .m 29 0, .o 30 (.nilck (.tmp 29)), .o 31 (.f 2 30), .o 32 (.l 31), .o 33 (.q 117 [24,28,32]), .m 5 33]) (.seq (.region [.m 34 5, .m 35 0, .o 36 (.nilck (.tmp 35)), .o 37 (.f 2 36), .o 38 (.l 37), .o 39 (.c .sub 38 1), .o 40 (.i 1 34 39), .o 41 (.l 40), .m 6 41]) (.seq (.region [.m 42 5, .o 43 (.sl 1 (.tmp 42) (some (.const (.int .i64 1))) none), .m 44 5, .m 45 0, .o 46 (.nilck (.tmp 45)), .o 47 (.f 2 46), .o 48 (.l 47), .o 49 (.c .sub 48 1), .o 50 (.sl 1 (.tmp 44) none (some (.tmp 49))), .o 51 (.cpy 1 (.tmp 43) (.tmp 50))]) (.seq (.region [.m 52 5, .o 53 (.iaddr 1 (.tmp 52) (.const (.int .i64 0))), .n (.st 1 (.tmp 53) (.const (.int .i64 0)))]) (.seq (.seq (.region [.m 54 5, .o 55 (.n 54), .k 56 0]) (.block 0 [0,5] (.loop [0,5,6,55,56] c130L0))) (.seq (.region [.m 87 5, .m 88 0, .o 89 (.nilck (.tmp 88)), .o 90 (.f 1 89), .o 91 (.l 90), .o 92 (.q 135 [87,91]), .m 4 92]) .ret))))))))
def F130:AFun:=⟨c130,2,93,[(.tmp 4)]⟩
def K130:Nat→List Nat×List Nat
 |0=>([0,5,6,55,56],[0,5])
 |1=>([],[0,5,6,55,56])
 |_=>([],[])
theorem F130_ok:kj8 Try.prog K130 Try.f130=some F130:=by kernel_rfl
/- 135: syndrome/field.number -/
def c135L0:ACode:=(.seq (.seq (.region [.m 10 6, .o 11 (.c .geq 10 0)]) (.cond (.tmp 11) .skip (.exit 0))) (.seq (.block 1 [0,1,5,6] (.region [.m 14 5, .m 15 1, .o 16 (.b .mul 14 15), .m 17 0, .m 18 6, .o 19 (.i 1 17 18), .o 20 (.l 19), .o 21 (.b .add 16 20), .m 5 21])) (.region [.m 12 6, .o 13 (.c .sub 12 1), .m 6 13])))
def c135:ACode:=(.seq (.region [.k 4 0]) (.seq (.region [.k 5 0]) (.seq (.seq (.region [.m 7 0, .o 8 (.n 7), .o 9 (.c .sub 8 1), .m 6 9]) (.block 0 [5] (.loop [0,1,5,6] c135L0))) (.seq (.region [.m 22 5, .m 4 22]) .ret))))
def F135:AFun:=⟨c135,2,23,[(.tmp 4)]⟩
def K135:Nat→List Nat×List Nat
 |0=>([0,1,5,6],[5])
 |1=>([],[0,1,5,6])
 |_=>([],[])
theorem F135_ok:kj8 Try.prog K135 Try.f135=some F135:=by kernel_rfl
end Go.Proofs.Ytlhmdmedagjmnaa
