/-
  Functions of this seat as the small machine's code, written by a program of my own (gen.py); each is checked to be what the model's function is turned into. No condition.
-/
import Derived.Test.YtodbgomfeacdhaaK1
import Derived.Test.YtodbgomfeacdhaaProg
set_option linter.unusedVariables false
set_option linter.unusedSimpArgs false
set_option linter.unusedSectionVars false
set_option maxRecDepth 100000
namespace Go.Proofs.Ytodbgomfeacdhaa
open Go.Am
/- 172: syndrome/field.New$1 -/
def c172:ACode:=(.region [.o 2 (.l 0), .o 3 (.l 0),⟨(some 4),(.call 173 [(.tmp 3)]),none,true⟩, .o 5 (.f 195 1), .o 6 (.iaddrA 65 1 (.tmp 5) (.tmp 2)), .n (.st 1 (.tmp 6) (.tmp 4))])
def F172:AFun:=⟨c172,2,7,[]⟩
def K172:Nat→List Nat×List Nat
 |_=>([],[])
theorem F172_ok:kj8 Try.prog K172 Try.f172=some F172:=by kernel_rfl
/- 173: syndrome/field.build -/
def c173L0:ACode:=(.seq (.seq (.region [.m 28 5, .o 29 (.q 209 [28]), .o 30 (.un .not (.tmp 29))]) (.cond (.tmp 30) .skip (.exit 0))) (.seq (.block 1 [5] .skip) (.region [.m 31 5, .o 32 (.nilck (.tmp 31)), .o 33 (.f 4 32), .o 34 (.l 33), .o 35 (.c .add 34 1), .o 36 (.nilck (.tmp 31)), .o 37 (.f 4 36), .n (.st 1 (.tmp 37) (.tmp 35))])))
def c173L1:ACode:=(.seq (.region [.o 45 (.b .lss 44 43)]) (.seq (.cond (.tmp 45) .skip (.exit 2)) (.seq (.block 3 [3,4,5,43,44] (.seq (.region [.m 46 44, .m 6 46]) (.seq (.region [.m 47 5, .m 48 6, .m 49 3, .m 50 4, .o 51 (.q 210 [48,49,50]), .o 52 (.mkSl 3 1 1 [(.const (.int .i64 1))]), .o 53 (.app 3 1 8 (.tmp 51) (.tmp 52)), .o 54 (.nilck (.tmp 47)), .o 55 (.f 3 54), .n (.st 1 (.tmp 55) (.tmp 53))]) (.seq (.region [.m 56 5, .o 57 (.q 209 [56])]) (.cond (.tmp 57) (.seq (.region [.m 58 5, .m 2 58]) .ret) .skip))))) (.region [.o 59 (.c .add 44 1), .m 44 59]))))
def c173:ACode:=(.seq (.region [.o 2 (.mv (.const (.pointer none)))]) (.seq (.region [.m 8 0, .o 9 (.q 208 [8]), .m 7 9, .o 10 (.e 0 7), .o 11 (.e 1 7), .m 3 10, .m 4 11]) (.seq (.seq (.region [.m 12 3, .o 13 (.c .eql 12 0)]) (.cond (.tmp 13) (.seq (.region [.o 2 (.mv (.const (.pointer none)))]) .ret) .skip)) (.seq (.region [.m 14 0, .m 15 3, .m 16 4, .o 17 (.build [(.int .i64 0),(.int .i64 0),(.int .i64 0),(.slice none 0 0),(.int .i64 0),(.slice none 0 0),(.slice none 0 0)] [(0,1),(1,1),(2,1),(3,1),(4,1),(5,1),(6,1)] [(0,(.tmp 14)),(1,(.tmp 15)),(2,(.tmp 16))]), .o 18 (.box 187 7 (.tmp 17)), .m 5 18]) (.seq (.seq (.region [.m 19 4, .o 20 (.c .eql 19 1)]) (.cond (.tmp 20) (.seq (.region [.m 21 5, .o 22 (.mkSl 3 1 2 [(.const (.int .i64 0)),(.const (.int .i64 1))]), .o 23 (.nilck (.tmp 21)), .o 24 (.f 3 23), .n (.st 1 (.tmp 24) (.tmp 22))]) (.seq (.seq (.region [.m 25 5, .o 26 (.nilck (.tmp 25)), .o 27 (.f 4 26), .n (.st 1 (.tmp 27) (.const (.int .i64 1)))]) (.block 0 [5] (.loop [5] c173L0))) (.seq (.region [.m 38 5, .m 2 38]) .ret))) .skip)) (.seq (.region [.m 39 5, .m 40 3, .o 41 (.nilck (.tmp 39)), .o 42 (.f 4 41), .n (.st 1 (.tmp 42) (.tmp 40))]) (.seq (.seq (.region [.m 43 0, .k 44 0]) (.block 2 [] (.loop [3,4,5,43,44] c173L1))) (.seq (.region [.o 2 (.mv (.const (.pointer none)))]) .ret))))))))
def F173:AFun:=⟨c173,1,60,[(.tmp 2)]⟩
def K173:Nat→List Nat×List Nat
 |0=>([5],[5])
 |1=>([],[5])
 |2=>([3,4,5,43,44],[])
 |3=>([],[3,4,5,43,44])
 |_=>([],[])
theorem F173_ok:kj8 Try.prog K173 Try.f173=some F173:=by kernel_rfl
/- 174: (*syndrome/field.Field).Add -/
def c174L0:ACode:=(.seq (.region [.o 24 (.b .lss 23 22)]) (.seq (.cond (.tmp 24) .skip (.exit 0)) (.seq (.block 1 [0,1,2,7,8,22,23] (.seq (.region [.m 25 7, .m 26 1, .m 27 0, .o 28 (.nilck (.tmp 27)), .o 29 (.f 1 28), .o 30 (.l 29), .o 31 (.b .rem 26 30), .m 32 2, .m 33 0, .o 34 (.nilck (.tmp 33)), .o 35 (.f 1 34), .o 36 (.l 35), .o 37 (.b .rem 32 36), .o 38 (.b .add 31 37), .m 39 0, .o 40 (.nilck (.tmp 39)), .o 41 (.f 1 40), .o 42 (.l 41), .o 43 (.b .rem 38 42), .m 44 8, .o 45 (.b .mul 43 44), .o 46 (.b .add 25 45), .m 7 46]) (.region [.m 47 1, .m 48 0, .o 49 (.nilck (.tmp 48)), .o 50 (.f 1 49), .o 51 (.l 50), .o 52 (.b .quo 47 51), .m 53 2, .m 54 0, .o 55 (.nilck (.tmp 54)), .o 56 (.f 1 55), .o 57 (.l 56), .o 58 (.b .quo 53 57), .m 59 8, .m 60 0, .o 61 (.nilck (.tmp 60)), .o 62 (.f 1 61), .o 63 (.l 62), .o 64 (.b .mul 59 63), .m 1 52, .m 2 58, .m 8 64]))) (.region [.o 65 (.c .add 23 1), .m 23 65]))))
def c174:ACode:=(.seq (.region [.k 6 0]) (.seq (.seq (.region [.m 9 0, .m 10 1, .o 11 (.q 138 [9,10]), .o 12 (.un .not (.tmp 11)), .m 13 12, .g 14 (.m 0) 13 false, .g 15 (.m 2) 13 false, .g 16 (.q 138 [14,15]) 13 false, .g 17 (.un .not (.tmp 16)) 13 false, .o 18 (.pick (.tmp 13) (.const (.bool true)) (.tmp 17))]) (.cond (.tmp 18) (.seq (.region [.k 6 (-1)]) .ret) .skip)) (.seq (.region [.k 7 0, .k 8 1]) (.seq (.seq (.region [.m 19 0, .o 20 (.nilck (.tmp 19)), .o 21 (.f 2 20), .o 22 (.l 21), .k 23 0]) (.block 0 [7] (.loop [0,1,2,7,8,22,23] c174L0))) (.seq (.region [.m 66 7, .m 6 66]) .ret)))))
def F174:AFun:=⟨c174,3,67,[(.tmp 6)]⟩
def K174:Nat→List Nat×List Nat
 |0=>([0,1,2,7,8,22,23],[7])
 |1=>([],[0,1,2,7,8,22,23])
 |_=>([],[])
theorem F174_ok:kj8 Try.prog K174 Try.f174=some F174:=by kernel_rfl
/- 175: (*syndrome/field.Field).Mul -/
def c175:ACode:=(.seq (.region [.k 6 0]) (.seq (.seq (.region [.m 7 0, .m 8 1, .o 9 (.q 138 [7,8]), .o 10 (.un .not (.tmp 9)), .m 11 10, .g 12 (.m 0) 11 false, .g 13 (.m 2) 11 false, .g 14 (.q 138 [12,13]) 11 false, .g 15 (.un .not (.tmp 14)) 11 false, .o 16 (.pick (.tmp 11) (.const (.bool true)) (.tmp 15))]) (.cond (.tmp 16) (.seq (.region [.k 6 (-1)]) .ret) .skip)) (.seq (.seq (.region [.m 17 1, .o 18 (.c .eql 17 0), .m 19 18, .g 20 (.m 2) 19 false, .g 21 (.c .eql 20 0) 19 false, .o 22 (.pick (.tmp 19) (.const (.bool true)) (.tmp 21))]) (.cond (.tmp 22) (.seq (.region [.k 6 0]) .ret) .skip)) (.seq (.region [.m 23 0, .o 24 (.nilck (.tmp 23)), .o 25 (.f 5 24), .o 26 (.l 25), .m 27 0, .o 28 (.nilck (.tmp 27)), .o 29 (.f 6 28), .o 30 (.l 29), .m 31 1, .o 32 (.i 1 30 31), .o 33 (.l 32), .m 34 0, .o 35 (.nilck (.tmp 34)), .o 36 (.f 6 35), .o 37 (.l 36), .m 38 2, .o 39 (.i 1 37 38), .o 40 (.l 39), .o 41 (.b .add 33 40), .m 42 0, .o 43 (.nilck (.tmp 42)), .o 44 (.f 0 43), .o 45 (.l 44), .o 46 (.c .sub 45 1), .o 47 (.b .rem 41 46), .o 48 (.i 1 26 47), .o 49 (.l 48), .m 6 49]) .ret))))
def F175:AFun:=⟨c175,3,50,[(.tmp 6)]⟩
def K175:Nat→List Nat×List Nat
 |_=>([],[])
theorem F175_ok:kj8 Try.prog K175 Try.f175=some F175:=by kernel_rfl
/- 201: syndrome/matrix.Check$1 -/
def c201:ACode:=(.seq (.region [.o 3 (.mv (.const (.bool false)))]) (.seq (.region [.o 4 (.l 1), .m 5 0, .o 6 (.q 138 [4,5]), .o 7 (.un .not (.tmp 6)), .m 3 7]) .ret))
def F201:AFun:=⟨c201,2,8,[(.tmp 3)]⟩
def K201:Nat→List Nat×List Nat
 |_=>([],[])
theorem F201_ok:kj8 Try.prog K201 Try.f201=some F201:=by kernel_rfl
/- 202: syndrome/poly.both -/
def c202:ACode:=(.seq (.region [.o 6 (.mv (.const (.pointer none))), .o 7 (.mv (.const (.slice none 0 0))), .o 8 (.mv (.const (.slice none 0 0))), .k 9 0]) (.seq (.region [.m 13 0, .m 14 1, .o 15 (.q 160 [13,14]), .m 10 15]) (.seq (.seq (.region [.m 16 10, .o 17 (.c .eql 16 0)]) (.cond (.tmp 17) (.region [.m 18 0, .m 19 2, .o 20 (.q 160 [18,19]), .m 10 20]) .skip)) (.seq (.seq (.region [.m 21 10, .o 22 (.c .neq 21 0)]) (.cond (.tmp 22) (.seq (.region [.m 23 10, .o 6 (.mv (.const (.pointer none))), .o 7 (.mv (.const (.slice none 0 0))), .o 8 (.mv (.const (.slice none 0 0))), .m 9 23]) .ret) .skip)) (.seq (.region [.m 25 0, .o 26 (.q 132 [25]), .m 24 26, .o 27 (.e 0 24), .o 28 (.e 1 24), .m 11 27, .m 12 28]) (.seq (.region [.m 29 11, .m 30 1, .o 31 (.q 204 [30]), .m 32 2, .o 33 (.q 204 [32]), .m 6 29, .m 7 31, .m 8 33, .k 9 0]) .ret))))))
def F202:AFun:=⟨c202,3,34,[(.tmp 6),(.tmp 7),(.tmp 8),(.tmp 9)]⟩
def K202:Nat→List Nat×List Nat
 |_=>([],[])
theorem F202_ok:kj8 Try.prog K202 Try.f202=some F202:=by kernel_rfl
/- 203: syndrome/poly.divide -/
def c203L0:ACode:=(.seq (.region [.o 60 (.b .lss 59 58)]) (.seq (.cond (.tmp 60) .skip (.exit 2)) (.seq (.block 3 [0,2,6,7,8,9,10,57,58,59] (.seq (.region [.m 61 59, .o 62 (.i 1 57 59), .o 63 (.l 62), .m 11 61, .m 12 63]) (.region [.m 64 7, .m 65 9, .m 66 11, .o 67 (.b .add 65 66), .m 68 0, .m 69 7, .m 70 9, .m 71 11, .o 72 (.b .add 70 71), .o 73 (.i 1 69 72), .o 74 (.l 73), .m 75 0, .m 76 10, .m 77 12,⟨(some 78),(.call 175 [(.tmp 75),(.tmp 76),(.tmp 77)]),none,true⟩, .o 79 (.q 165 [68,74,78]), .o 80 (.i 1 64 67), .n (.st 1 (.tmp 80) (.tmp 79))]))) (.region [.o 81 (.c .add 59 1), .m 59 81]))))
def c203L1:ACode:=(.seq (.seq (.region [.m 38 9, .o 39 (.c .geq 38 0)]) (.cond (.tmp 39) .skip (.exit 0))) (.seq (.block 1 [0,2,6,7,8,9] (.seq (.region [.m 42 0, .m 43 7, .m 44 9, .m 45 2, .o 46 (.n 45), .o 47 (.b .add 44 46), .o 48 (.c .sub 47 1), .o 49 (.i 1 43 48), .o 50 (.l 49), .m 51 8, .o 52 (.q 175 [42,50,51]), .m 10 52]) (.seq (.region [.m 53 6, .m 54 9, .m 55 10, .o 56 (.i 1 53 54), .n (.st 1 (.tmp 56) (.tmp 55))]) (.seq (.region [.m 57 2, .o 58 (.n 57), .k 59 0]) (.block 2 [0,2,6,7,8,9] (.loop [0,2,6,7,8,9,10,57,58,59] c203L0)))))) (.region [.m 40 9, .o 41 (.c .sub 40 1), .m 9 41])))
def c203:ACode:=(.seq (.region [.o 6 (.mv (.const (.slice none 0 0))), .o 7 (.mv (.const (.slice none 0 0)))]) (.seq (.region [.m 13 1, .o 14 (.q 92 [13]), .m 7 14]) (.seq (.seq (.region [.m 15 1, .o 16 (.n 15), .m 17 2, .o 18 (.n 17), .o 19 (.b .geq 16 18)]) (.cond (.tmp 19) (.region [.m 20 1, .o 21 (.n 20), .m 22 2, .o 23 (.n 22), .o 24 (.b .sub 21 23), .o 25 (.c .add 24 1), .o 26 (.mks 3 1 8 [(.int .i64 0)] (.tmp 25) (.tmp 25)), .m 6 26]) .skip)) (.seq (.region [.m 27 0, .m 28 2, .m 29 2, .o 30 (.n 29), .o 31 (.c .sub 30 1), .o 32 (.i 1 28 31), .o 33 (.l 32), .o 34 (.q 156 [27,33]), .m 8 34]) (.seq (.seq (.region [.m 35 6, .o 36 (.n 35), .o 37 (.c .sub 36 1), .m 9 37]) (.block 0 [6,7] (.loop [0,2,6,7,8,9] c203L1))) (.seq (.region [.m 82 6, .m 83 7, .o 84 (.q 204 [83]), .m 6 82, .m 7 84]) .ret))))))
def F203:AFun:=⟨c203,3,85,[(.tmp 6),(.tmp 7)]⟩
def K203:Nat→List Nat×List Nat
 |0=>([0,2,6,7,8,9],[6,7])
 |1=>([],[0,2,6,7,8,9])
 |2=>([0,2,6,7,8,9,10,57,58,59],[0,2,6,7,8,9])
 |3=>([],[0,2,6,7,8,9,10,57,58,59])
 |_=>([],[])
theorem F203_ok:kj8 Try.prog K203 Try.f203=some F203:=by kernel_rfl
/- 204: syndrome/poly.trim -/
def c204L0:ACode:=(.seq (.seq (.region [.m 6 3, .o 7 (.c .gtr 6 0), .m 8 7, .g 9 (.m 0) 8 true, .g 10 (.m 3) 8 true, .g 11 (.c .sub 10 1) 8 true, .g 12 (.i 1 9 11) 8 true, .g 13 (.l 12) 8 true, .g 14 (.c .eql 13 0) 8 true, .o 15 (.pick (.tmp 8) (.tmp 14) (.const (.bool false)))]) (.cond (.tmp 15) .skip (.exit 0))) (.block 1 [0,3] (.region [.m 16 3, .o 17 (.c .sub 16 1), .m 3 17])))
def c204:ACode:=(.seq (.region [.o 2 (.mv (.const (.slice none 0 0)))]) (.seq (.region [.m 4 0, .o 5 (.n 4), .m 3 5]) (.seq (.block 0 [0,3] (.loop [0,3] c204L0)) (.seq (.region [.m 18 0, .m 19 3, .o 20 (.sl 1 (.tmp 18) none (some (.tmp 19))), .o 21 (.q 92 [20]), .m 2 21]) .ret))))
def F204:AFun:=⟨c204,1,22,[(.tmp 2)]⟩
def K204:Nat→List Nat×List Nat
 |0=>([0,3],[0,3])
 |1=>([],[0,3])
 |_=>([],[])
theorem F204_ok:kj8 Try.prog K204 Try.f204=some F204:=by kernel_rfl
/- 205: syndrome/syndromeref.Number -/
def c205L0:ACode:=(.seq (.seq (.region [.m 10 6, .o 11 (.c .geq 10 0)]) (.cond (.tmp 11) .skip (.exit 0))) (.seq (.block 1 [0,1,5,6] (.region [.m 14 5, .m 15 1, .o 16 (.b .mul 14 15), .m 17 0, .m 18 6, .o 19 (.i 1 17 18), .o 20 (.l 19), .o 21 (.b .add 16 20), .m 5 21])) (.region [.m 12 6, .o 13 (.c .sub 12 1), .m 6 13])))
def c205:ACode:=(.seq (.region [.k 4 0]) (.seq (.region [.k 5 0]) (.seq (.seq (.region [.m 7 0, .o 8 (.n 7), .o 9 (.c .sub 8 1), .m 6 9]) (.block 0 [5] (.loop [0,1,5,6] c205L0))) (.seq (.region [.m 22 5, .m 4 22]) .ret))))
def F205:AFun:=⟨c205,2,23,[(.tmp 4)]⟩
def K205:Nat→List Nat×List Nat
 |0=>([0,1,5,6],[5])
 |1=>([],[0,1,5,6])
 |_=>([],[])
theorem F205_ok:kj8 Try.prog K205 Try.f205=some F205:=by kernel_rfl
/- 208: syndrome/field.prime -/
def c208L0:ACode:=(.seq (.seq (.region [.m 4 0, .m 5 2, .o 6 (.b .rem 4 5), .o 7 (.c .neq 6 0)]) (.cond (.tmp 7) .skip (.exit 0))) (.block 1 [0,2,3] (.region [.m 8 2, .o 9 (.c .add 8 1), .m 2 9])))
def c208L1:ACode:=(.seq (.seq (.region [.m 10 0, .m 11 2, .o 12 (.b .rem 10 11), .o 13 (.c .eql 12 0)]) (.cond (.tmp 13) .skip (.exit 2))) (.seq (.block 3 [0,2,3] (.region [.m 17 3, .o 18 (.c .add 17 1), .m 3 18])) (.region [.m 14 0, .m 15 2, .o 16 (.b .quo 14 15), .m 0 16])))
def c208:ACode:=(.seq (.region [.k 2 0, .k 3 0]) (.seq (.region [.k 2 2]) (.seq (.block 0 [0,2,3] (.loop [0,2,3] c208L0)) (.seq (.block 2 [0,2,3] (.loop [0,2,3] c208L1)) (.seq (.seq (.region [.m 19 0, .o 20 (.c .neq 19 1)]) (.cond (.tmp 20) (.seq (.region [.k 2 0, .k 3 0]) .ret) .skip)) (.seq (.region [.m 21 2, .m 22 3, .m 2 21, .m 3 22]) .ret))))))
def F208:AFun:=⟨c208,1,23,[(.tmp 2),(.tmp 3)]⟩
def K208:Nat→List Nat×List Nat
 |0=>([0,2,3],[0,2,3])
 |1=>([],[0,2,3])
 |2=>([0,2,3],[0,2,3])
 |3=>([],[0,2,3])
 |_=>([],[])
theorem F208_ok:kj8 Try.prog K208 Try.f208=some F208:=by kernel_rfl
/- 209: (*syndrome/field.Field).fill -/
def c209L0:ACode:=(.seq (.region [.o 29 (.b .lss 28 27)]) (.seq (.cond (.tmp 29) .skip (.exit 0)) (.seq (.block 1 [0,27,28] (.seq (.region [.m 30 28, .m 3 30]) (.region [.m 31 0, .o 32 (.nilck (.tmp 31)), .o 33 (.f 6 32), .o 34 (.l 33), .m 35 3, .o 36 (.i 1 34 35), .n (.st 1 (.tmp 36) (.const (.int .i64 (-1))))]))) (.region [.o 37 (.c .add 28 1), .m 28 37]))))
def c209L1:ACode:=(.seq (.region [.o 44 (.b .lss 43 42)]) (.seq (.cond (.tmp 44) .skip (.exit 2)) (.seq (.block 3 [0,4,42,43] (.seq (.region [.m 45 43, .m 5 45]) (.seq (.seq (.region [.m 46 4, .o 47 (.c .eql 46 0), .m 48 47, .g 49 (.m 0) 48 false, .g 50 (.nilck (.tmp 49)) 48 false, .g 51 (.f 6 50) 48 false, .g 52 (.l 51) 48 false, .g 53 (.m 4) 48 false, .g 54 (.i 1 52 53) 48 false, .g 55 (.l 54) 48 false, .g 56 (.c .geq 55 0) 48 false, .o 57 (.pick (.tmp 48) (.const (.bool true)) (.tmp 56))]) (.cond (.tmp 57) (.seq (.region [.o 2 (.mv (.const (.bool false)))]) .ret) .skip)) (.seq (.region [.m 58 0, .o 59 (.nilck (.tmp 58)), .o 60 (.f 5 59), .o 61 (.l 60), .m 62 5, .m 63 0, .o 64 (.nilck (.tmp 63)), .o 65 (.f 6 64), .o 66 (.l 65), .m 67 4, .m 68 4, .m 69 5, .o 70 (.i 1 61 62), .n (.st 1 (.tmp 70) (.tmp 68)), .o 71 (.i 1 66 67), .n (.st 1 (.tmp 71) (.tmp 69))]) (.region [.m 72 0, .m 73 4, .o 74 (.q 225 [72,73]), .m 4 74]))))) (.region [.o 75 (.c .add 43 1), .m 43 75]))))
def c209:ACode:=(.seq (.region [.o 2 (.mv (.const (.bool false)))]) (.seq (.region [.m 6 0, .m 7 0, .o 8 (.nilck (.tmp 7)), .o 9 (.f 0 8), .o 10 (.l 9), .o 11 (.c .sub 10 1), .o 12 (.mks 3 1 8 [(.int .i64 0)] (.tmp 11) (.tmp 11)), .o 13 (.nilck (.tmp 6)), .o 14 (.f 5 13), .n (.st 1 (.tmp 14) (.tmp 12))]) (.seq (.region [.m 15 0, .m 16 0, .o 17 (.nilck (.tmp 16)), .o 18 (.f 0 17), .o 19 (.l 18), .o 20 (.mks 3 1 8 [(.int .i64 0)] (.tmp 19) (.tmp 19)), .o 21 (.nilck (.tmp 15)), .o 22 (.f 6 21), .n (.st 1 (.tmp 22) (.tmp 20))]) (.seq (.seq (.region [.m 23 0, .o 24 (.nilck (.tmp 23)), .o 25 (.f 6 24), .o 26 (.l 25), .o 27 (.n 26), .k 28 0]) (.block 0 [0] (.loop [0,27,28] c209L0))) (.seq (.region [.k 4 1]) (.seq (.seq (.region [.m 38 0, .o 39 (.nilck (.tmp 38)), .o 40 (.f 0 39), .o 41 (.l 40), .o 42 (.c .sub 41 1), .k 43 0]) (.block 2 [4] (.loop [0,4,42,43] c209L1))) (.seq (.region [.m 76 4, .o 77 (.c .eql 76 1), .m 2 77]) .ret)))))))
def F209:AFun:=⟨c209,1,78,[(.tmp 2)]⟩
def K209:Nat→List Nat×List Nat
 |0=>([0,27,28],[0])
 |1=>([],[0,27,28])
 |2=>([0,4,42,43],[4])
 |3=>([],[0,4,42,43])
 |_=>([],[])
theorem F209_ok:kj8 Try.prog K209 Try.f209=some F209:=by kernel_rfl
/- 210: syndrome/field.digits -/
def c210L0:ACode:=(.seq (.region [.o 14 (.b .lss 13 12)]) (.seq (.cond (.tmp 14) .skip (.exit 0)) (.seq (.block 1 [0,1,7,12,13] (.seq (.region [.m 15 13, .m 8 15]) (.seq (.region [.m 16 7, .m 17 8, .m 18 0, .m 19 1, .o 20 (.b .rem 18 19), .o 21 (.i 1 16 17), .n (.st 1 (.tmp 21) (.tmp 20))]) (.region [.m 22 0, .m 23 1, .o 24 (.b .quo 22 23), .m 0 24])))) (.region [.o 25 (.c .add 13 1), .m 13 25]))))
def c210:ACode:=(.seq (.region [.o 6 (.mv (.const (.slice none 0 0)))]) (.seq (.region [.m 9 2, .o 10 (.mks 3 1 8 [(.int .i64 0)] (.tmp 9) (.tmp 9)), .m 7 10]) (.seq (.seq (.region [.m 11 7, .o 12 (.n 11), .k 13 0]) (.block 0 [7] (.loop [0,1,7,12,13] c210L0))) (.seq (.region [.m 26 7, .m 6 26]) .ret))))
def F210:AFun:=⟨c210,3,27,[(.tmp 6)]⟩
def K210:Nat→List Nat×List Nat
 |0=>([0,1,7,12,13],[7])
 |1=>([],[0,1,7,12,13])
 |_=>([],[])
theorem F210_ok:kj8 Try.prog K210 Try.f210=some F210:=by kernel_rfl
/- 225: (*syndrome/field.Field).turn -/
def c225L0:ACode:=(.seq (.region [.o 57 (.b .lss 56 55)]) (.seq (.cond (.tmp 57) .skip (.exit 0)) (.seq (.block 1 [0,5,6,55,56] (.seq (.region [.m 58 56, .m 7 58]) (.region [.m 59 5, .m 60 7, .m 61 5, .m 62 7, .o 63 (.i 1 61 62), .o 64 (.l 63), .m 65 6, .m 66 0, .o 67 (.nilck (.tmp 66)), .o 68 (.f 1 67), .o 69 (.l 68), .m 70 0, .o 71 (.nilck (.tmp 70)), .o 72 (.f 3 71), .o 73 (.l 72), .m 74 7, .o 75 (.i 1 73 74), .o 76 (.l 75), .o 77 (.b .sub 69 76), .o 78 (.b .mul 65 77), .o 79 (.b .add 64 78), .m 80 0, .o 81 (.nilck (.tmp 80)), .o 82 (.f 1 81), .o 83 (.l 82), .o 84 (.b .rem 79 83), .o 85 (.i 1 59 60), .n (.st 1 (.tmp 85) (.tmp 84))]))) (.region [.o 86 (.c .add 56 1), .m 56 86]))))
def c225:ACode:=(.seq (.region [.k 4 0]) (.seq (.seq (.region [.m 8 0, .o 9 (.nilck (.tmp 8)), .o 10 (.f 2 9), .o 11 (.l 10), .o 12 (.c .eql 11 1)]) (.cond (.tmp 12) (.seq (.region [.m 13 1, .m 14 0, .o 15 (.nilck (.tmp 14)), .o 16 (.f 4 15), .o 17 (.l 16), .o 18 (.b .mul 13 17), .m 19 0, .o 20 (.nilck (.tmp 19)), .o 21 (.f 1 20), .o 22 (.l 21), .o 23 (.b .rem 18 22), .m 4 23]) .ret) .skip)) (.seq (.region [.m 24 1, .m 25 0, .o 26 (.nilck (.tmp 25)), .o 27 (.f 1 26), .o 28 (.l 27), .m 29 0, .o 30 (.nilck (.tmp 29)), .o 31 (.f 2 30), .o 32 (.l 31), .o 33 (.q 210 [24,28,32]), .m 5 33]) (.seq (.region [.m 34 5, .m 35 0, .o 36 (.nilck (.tmp 35)), .o 37 (.f 2 36), .o 38 (.l 37), .o 39 (.c .sub 38 1), .o 40 (.i 1 34 39), .o 41 (.l 40), .m 6 41]) (.seq (.region [.m 42 5, .o 43 (.sl 1 (.tmp 42) (some (.const (.int .i64 1))) none), .m 44 5, .m 45 0, .o 46 (.nilck (.tmp 45)), .o 47 (.f 2 46), .o 48 (.l 47), .o 49 (.c .sub 48 1), .o 50 (.sl 1 (.tmp 44) none (some (.tmp 49))), .o 51 (.cpy 1 (.tmp 43) (.tmp 50))]) (.seq (.region [.m 52 5, .o 53 (.iaddr 1 (.tmp 52) (.const (.int .i64 0))), .n (.st 1 (.tmp 53) (.const (.int .i64 0)))]) (.seq (.seq (.region [.m 54 5, .o 55 (.n 54), .k 56 0]) (.block 0 [0,5] (.loop [0,5,6,55,56] c225L0))) (.seq (.region [.m 87 5, .m 88 0, .o 89 (.nilck (.tmp 88)), .o 90 (.f 1 89), .o 91 (.l 90), .o 92 (.q 234 [87,91]), .m 4 92]) .ret))))))))
def F225:AFun:=⟨c225,2,93,[(.tmp 4)]⟩
def K225:Nat→List Nat×List Nat
 |0=>([0,5,6,55,56],[0,5])
 |1=>([],[0,5,6,55,56])
 |_=>([],[])
theorem F225_ok:kj8 Try.prog K225 Try.f225=some F225:=by kernel_rfl
/- 234: syndrome/field.number -/
def c234L0:ACode:=(.seq (.seq (.region [.m 10 6, .o 11 (.c .geq 10 0)]) (.cond (.tmp 11) .skip (.exit 0))) (.seq (.block 1 [0,1,5,6] (.region [.m 14 5, .m 15 1, .o 16 (.b .mul 14 15), .m 17 0, .m 18 6, .o 19 (.i 1 17 18), .o 20 (.l 19), .o 21 (.b .add 16 20), .m 5 21])) (.region [.m 12 6, .o 13 (.c .sub 12 1), .m 6 13])))
def c234:ACode:=(.seq (.region [.k 4 0]) (.seq (.region [.k 5 0]) (.seq (.seq (.region [.m 7 0, .o 8 (.n 7), .o 9 (.c .sub 8 1), .m 6 9]) (.block 0 [5] (.loop [0,1,5,6] c234L0))) (.seq (.region [.m 22 5, .m 4 22]) .ret))))
def F234:AFun:=⟨c234,2,23,[(.tmp 4)]⟩
def K234:Nat→List Nat×List Nat
 |0=>([0,1,5,6],[5])
 |1=>([],[0,1,5,6])
 |_=>([],[])
theorem F234_ok:kj8 Try.prog K234 Try.f234=some F234:=by kernel_rfl
end Go.Proofs.Ytodbgomfeacdhaa
