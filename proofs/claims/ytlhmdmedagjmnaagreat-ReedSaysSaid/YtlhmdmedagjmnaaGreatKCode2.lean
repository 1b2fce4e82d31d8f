/-
  Functions of this seat as the small machine's code, written by a program of my own (gen.py); each is checked to be what the model's function is turned into. No condition.
-/
import Derived.Test.YtlhmdmedagjmnaaGreatK1
import Derived.Test.YtlhmdmedagjmnaaGreatProg
set_option linter.unusedVariables false
set_option linter.unusedSimpArgs false
set_option linter.unusedSectionVars false
set_option maxRecDepth 100000
namespace Go.Proofs.YtlhmdmedagjmnaaGreat
open Go.Am
/- 201: syndrome/reed.filled -/
def c201:ACode:=(.seq (.region [.o 4 (.mv (.const (.slice none 0 0)))]) (.seq (.region [.m 6 1, .o 7 (.mks 3 1 8 [(.int .i64 0)] (.tmp 6) (.tmp 6)), .m 5 7]) (.seq (.region [.m 8 5, .m 9 0, .o 10 (.cpy 1 (.tmp 8) (.tmp 9))]) (.seq (.region [.m 11 5, .m 4 11]) .ret))))
def F201:AFun:=⟨c201,2,12,[(.tmp 4)]⟩
def K201:Nat→List Nat×List Nat
 |_=>([],[])
theorem F201_ok:kj8 Tryz.prog K201 Tryz.f201=some F201:=by kernel_rfl
/- 202: syndrome/poly.times -/
def c202L0:ACode:=(.seq (.region [.o 37 (.b .lss 36 35)]) (.seq (.cond (.tmp 37) .skip (.exit 2)) (.seq (.block 3 [0,2,7,8,9,27,28,29,34,35,36] (.seq (.region [.m 38 36, .o 39 (.i 1 34 36), .o 40 (.l 39), .m 10 38, .m 11 40]) (.region [.m 41 7, .m 42 8, .m 43 10, .o 44 (.b .add 42 43), .m 45 0, .m 46 7, .m 47 8, .m 48 10, .o 49 (.b .add 47 48), .o 50 (.i 1 46 49), .o 51 (.l 50), .m 52 0, .m 53 9, .m 54 11,⟨(some 55),(.call 157 [(.tmp 52),(.tmp 53),(.tmp 54)]),none,true⟩, .o 56 (.q 156 [45,51,55]), .o 57 (.i 1 41 44), .n (.st 1 (.tmp 57) (.tmp 56))]))) (.region [.o 58 (.c .add 36 1), .m 36 58]))))
def c202L1:ACode:=(.seq (.region [.o 30 (.b .lss 29 28)]) (.seq (.cond (.tmp 30) .skip (.exit 0)) (.seq (.block 1 [0,2,7,27,28,29] (.seq (.region [.m 31 29, .o 32 (.i 1 27 29), .o 33 (.l 32), .m 8 31, .m 9 33]) (.seq (.region [.m 34 2, .o 35 (.n 34), .k 36 0]) (.block 2 [0,2,7,27,28,29] (.loop [0,2,7,8,9,27,28,29,34,35,36] c202L0))))) (.region [.o 59 (.c .add 29 1), .m 29 59]))))
def c202:ACode:=(.seq (.region [.o 6 (.mv (.const (.slice none 0 0)))]) (.seq (.seq (.region [.m 12 1, .o 13 (.n 12), .o 14 (.c .eql 13 0), .m 15 14, .g 16 (.m 2) 15 false, .g 17 (.n 16) 15 false, .g 18 (.c .eql 17 0) 15 false, .o 19 (.pick (.tmp 15) (.const (.bool true)) (.tmp 18))]) (.cond (.tmp 19) (.seq (.region [.o 6 (.mv (.const (.slice none 0 0)))]) .ret) .skip)) (.seq (.region [.m 20 1, .o 21 (.n 20), .m 22 2, .o 23 (.n 22), .o 24 (.b .add 21 23), .o 25 (.c .sub 24 1), .o 26 (.mks 3 1 8 [(.int .i64 0)] (.tmp 25) (.tmp 25)), .m 7 26]) (.seq (.seq (.region [.m 27 1, .o 28 (.n 27), .k 29 0]) (.block 0 [7] (.loop [0,2,7,27,28,29] c202L1))) (.seq (.region [.m 60 7, .o 61 (.q 196 [60]), .m 6 61]) .ret)))))
def F202:AFun:=⟨c202,3,62,[(.tmp 6)]⟩
def K202:Nat→List Nat×List Nat
 |0=>([0,2,7,27,28,29],[7])
 |1=>([],[0,2,7,27,28,29])
 |2=>([0,2,7,8,9,27,28,29,34,35,36],[0,2,7,27,28,29])
 |3=>([],[0,2,7,8,9,27,28,29,34,35,36])
 |_=>([],[])
theorem F202_ok:kj8 Tryz.prog K202 Tryz.f202=some F202:=by kernel_rfl
/- 209: (*syndrome/field.Field).turn -/
def c209L0:ACode:=(.seq (.region [.o 57 (.b .lss 56 55)]) (.seq (.cond (.tmp 57) .skip (.exit 0)) (.seq (.block 1 [0,5,6,55,56] (.seq (.region [.m 58 56, .m 7 58]) (.region [.m 59 5, .m 60 7, .m 61 5, .m 62 7, .o 63 (.i 1 61 62), .o 64 (.l 63), .m 65 6, .m 66 0, .o 67 (.nilck (.tmp 66)), .o 68 (.f 1 67), .o 69 (.l 68), .m 70 0, .o 71 (.nilck (.tmp 70)), .o 72 (.f 3 71), .o 73 (.l 72), .m 74 7, .o 75 (.i 1 73 74), .o 76 (.l 75), .o 77 (.b .sub 69 76), .o 78 (.b .mul 65 77), .o 79 (.b .add 64 78), .m 80 0, .o 81 (.nilck (.tmp 80)), .o 82 (.f 1 81), .o 83 (.l 82), .o 84 (.b .rem 79 83), .o 85 (.i 1 59 60), .n (.st 1 (.tmp 85) (.tmp 84))]))) (.region [.o 86 (.c .add 56 1), .m 56 86]))))
def c209:ACode:=(.seq (.region [.k 4 0]) (.seq (.seq (.region [.m 8 0, .o 9 (.nilck (.tmp 8)), .o 10 (.f 2 9), .o 11 (.l 10), .o 12 (.c .eql 11 1)]) (.cond (.tmp 12) (.seq (.region [.m 13 1, .m 14 0, .o 15 (.nilck (.tmp 14)), .o 16 (.f 4 15), .o 17 (.l 16), .o 18 (.b .mul 13 17), .m 19 0, .o 20 (.nilck (.tmp 19)), .o 21 (.f 1 20), .o 22 (.l 21), .o 23 (.b .rem 18 22), .m 4 23]) .ret) .skip)) (.seq (.region [.m 24 1, .m 25 0, .o 26 (.nilck (.tmp 25)), .o 27 (.f 1 26), .o 28 (.l 27), .m 29 0, .o 30 (.nilck (.tmp 29)), .o 31 (.f 2 30), .o 32 (.l 31), .o 33 (.q 194 [24,28,32]), .m 5 33]) (.seq (.region [.m 34 5, .m 35 0, .o 36 (.nilck (.tmp 35)), .o 37 (.f 2 36), .o 38 (.l 37), .o 39 (.c .sub 38 1), .o 40 (.i 1 34 39), .o 41 (.l 40), .m 6 41]) (.seq (.region [.m 42 5, .o 43 (.sl 1 (.tmp 42) (some (.const (.int .i64 1))) none), .m 44 5, .m 45 0, .o 46 (.nilck (.tmp 45)), .o 47 (.f 2 46), .o 48 (.l 47), .o 49 (.c .sub 48 1), .o 50 (.sl 1 (.tmp 44) none (some (.tmp 49))), .o 51 (.cpy 1 (.tmp 43) (.tmp 50))]) (.seq (.region [.m 52 5, .o 53 (.iaddr 1 (.tmp 52) (.const (.int .i64 0))), .n (.st 1 (.tmp 53) (.const (.int .i64 0)))]) (.seq (.seq (.region [.m 54 5, .o 55 (.n 54), .k 56 0]) (.block 0 [0,5] (.loop [0,5,6,55,56] c209L0))) (.seq (.region [.m 87 5, .m 88 0, .o 89 (.nilck (.tmp 88)), .o 90 (.f 1 89), .o 91 (.l 90), .o 92 (.q 215 [87,91]), .m 4 92]) .ret))))))))
def F209:AFun:=⟨c209,2,93,[(.tmp 4)]⟩
def K209:Nat→List Nat×List Nat
 |0=>([0,5,6,55,56],[0,5])
 |1=>([],[0,5,6,55,56])
 |_=>([],[])
theorem F209_ok:kj8 Tryz.prog K209 Tryz.f209=some F209:=by kernel_rfl
/- 210: syndrome/matrix.solve$1 -/
def c210:ACode:=(.seq (.region [.o 3 (.mv (.const (.bool false)))]) (.seq (.region [.m 4 0, .o 5 (.l 1), .o 6 (.i 1 4 5), .o 7 (.l 6), .o 8 (.c .neq 7 0), .m 3 8]) .ret))
def F210:AFun:=⟨c210,2,9,[(.tmp 3)]⟩
def K210:Nat→List Nat×List Nat
 |_=>([],[])
theorem F210_ok:kj8 Tryz.prog K210 Tryz.f210=some F210:=by kernel_rfl
/- 215: syndrome/field.number -/
def c215L0:ACode:=(.seq (.seq (.region [.m 10 6, .o 11 (.c .geq 10 0)]) (.cond (.tmp 11) .skip (.exit 0))) (.seq (.block 1 [0,1,5,6] (.region [.m 14 5, .m 15 1, .o 16 (.b .mul 14 15), .m 17 0, .m 18 6, .o 19 (.i 1 17 18), .o 20 (.l 19), .o 21 (.b .add 16 20), .m 5 21])) (.region [.m 12 6, .o 13 (.c .sub 12 1), .m 6 13])))
def c215:ACode:=(.seq (.region [.k 4 0]) (.seq (.region [.k 5 0]) (.seq (.seq (.region [.m 7 0, .o 8 (.n 7), .o 9 (.c .sub 8 1), .m 6 9]) (.block 0 [5] (.loop [0,1,5,6] c215L0))) (.seq (.region [.m 22 5, .m 4 22]) .ret))))
def F215:AFun:=⟨c215,2,23,[(.tmp 4)]⟩
def K215:Nat→List Nat×List Nat
 |0=>([0,1,5,6],[5])
 |1=>([],[0,1,5,6])
 |_=>([],[])
theorem F215_ok:kj8 Tryz.prog K215 Tryz.f215=some F215:=by kernel_rfl
end Go.Proofs.YtlhmdmedagjmnaaGreat
