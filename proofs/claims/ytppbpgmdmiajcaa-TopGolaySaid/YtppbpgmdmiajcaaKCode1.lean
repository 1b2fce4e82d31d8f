/-
  Functions of this seat as the small machine's code, written by a program of my own (gen.py); each is checked to be what the model's function is turned into. No condition.
-/
import Derived.Test.YtppbpgmdmiajcaaK2
import Derived.Test.YtppbpgmdmiajcaaProg
set_option linter.unusedVariables false
set_option linter.unusedSimpArgs false
set_option linter.unusedSectionVars false
set_option maxRecDepth 100000
namespace Go.Proofs.Ytppbpgmdmiajcaa
open Go.Am
/- 48: slices.IndexFunc[[]int,int] -/
def c48L0:ACode:=(.R [.B 9 .lss 8 7] (.seq (.D 9 .skip (.exit 0)) (.seq (.block 1 [0,1,7,8] (.R [.m 10 8, .m 5 10] (.R [.m 11 1, .m 12 0, .m 13 5, .I 14 1 12 13, .L 15 14, .o 16 (.calld (.tmp 11) [(.tmp 15)])] (.D 16 (.R [.m 17 5, .m 4 17] .ret) .skip)))) (.region [.C 18 .add 8 1, .m 8 18]))))
def c48:ACode:=(.R [.k 4 0] (.seq (.R [.m 6 0, .N 7 6, .k 8 0] (.block 0 [] (.loop [0,1,7,8] c48L0))) (.R [.k 4 (-1)] .ret)))
def F48:AFun:=⟨c48,2,19,[(.tmp 4)]⟩
def K48:Nat→List Nat×List Nat
 |0=>([0,1,7,8],[])
 |1=>([],[0,1,7,8])
 |_=>([],[])
theorem F48_ok:kj8 Try.prog K48 noRg Try.f48=some F48:=by kernel_rfl
/- 49: (*syndrome/field.Field).Add -/
def c49L0:ACode:=(.R [.B 24 .lss 23 22] (.seq (.D 24 .skip (.exit 0)) (.seq (.block 1 [0,1,2,7,8,22,23] (.R [.m 25 7, .m 26 1, .m 27 0, .K 28 27, .F 29 1 28, .L 30 29, .B 31 .rem 26 30, .m 32 2, .m 33 0, .K 34 33, .F 35 1 34, .L 36 35, .B 37 .rem 32 36, .B 38 .add 31 37, .m 39 0, .K 40 39, .F 41 1 40, .L 42 41, .B 43 .rem 38 42, .m 44 8, .B 45 .mul 43 44, .B 46 .add 25 45, .m 7 46] (.region [.m 47 1, .m 48 0, .K 49 48, .F 50 1 49, .L 51 50, .B 52 .quo 47 51, .m 53 2, .m 54 0, .K 55 54, .F 56 1 55, .L 57 56, .B 58 .quo 53 57, .m 59 8, .m 60 0, .K 61 60, .F 62 1 61, .L 63 62, .B 64 .mul 59 63, .m 1 52, .m 2 58, .m 8 64]))) (.region [.C 65 .add 23 1, .m 23 65]))))
def c49:ACode:=(.R [.k 6 0] (.seq (.R [.m 9 0, .m 10 1, .Q 11 32 [9,10], .o 12 (.un .not (.tmp 11)), .m 13 12, .G 14 0 13 false, .G 15 2 13 false, .g 16 (.q 32 [14,15]) 13 false, .g 17 (.un .not (.tmp 16)) 13 false, .P 18 13 17] (.D 18 (.R [.k 6 (-1)] .ret) .skip)) (.R [.k 7 0, .k 8 1] (.seq (.R [.m 19 0, .K 20 19, .F 21 2 20, .L 22 21, .k 23 0] (.block 0 [7] (.loop [0,1,2,7,8,22,23] c49L0))) (.R [.m 66 7, .m 6 66] .ret)))))
def F49:AFun:=⟨c49,3,67,[(.tmp 6)]⟩
def K49:Nat→List Nat×List Nat
 |0=>([0,1,2,7,8,22,23],[7])
 |1=>([],[0,1,2,7,8,22,23])
 |_=>([],[])
theorem F49_ok:kj8 Try.prog K49 noRg Try.f49=some F49:=by kernel_rfl
/- 50: (*syndrome/field.Field).Mul -/
def c50:ACode:=(.R [.k 6 0] (.seq (.R [.m 7 0, .m 8 1, .Q 9 32 [7,8], .o 10 (.un .not (.tmp 9)), .m 11 10, .G 12 0 11 false, .G 13 2 11 false, .g 14 (.q 32 [12,13]) 11 false, .g 15 (.un .not (.tmp 14)) 11 false, .P 16 11 15] (.D 16 (.R [.k 6 (-1)] .ret) .skip)) (.seq (.R [.m 17 1, .C 18 .eql 17 0, .m 19 18, .G 20 2 19 false, .g 21 (.c .eql 20 0) 19 false, .P 22 19 21] (.D 22 (.R [.k 6 0] .ret) .skip)) (.R [.m 23 0, .K 24 23, .F 25 5 24, .L 26 25, .m 27 0, .K 28 27, .F 29 6 28, .L 30 29, .m 31 1, .I 32 1 30 31, .L 33 32, .m 34 0, .K 35 34, .F 36 6 35, .L 37 36, .m 38 2, .I 39 1 37 38, .L 40 39, .B 41 .add 33 40, .m 42 0, .K 43 42, .F 44 0 43, .L 45 44, .C 46 .sub 45 1, .B 47 .rem 41 46, .I 48 1 26 47, .L 49 48, .m 6 49] .ret))))
def F50:AFun:=⟨c50,3,50,[(.tmp 6)]⟩
def K50:Nat→List Nat×List Nat
 |_=>([],[])
theorem F50_ok:kj8 Try.prog K50 noRg Try.f50=some F50:=by kernel_rfl
/- 51: syndrome/code.word$1 -/
def c51:ACode:=(.R [.o 3 (.mv (.const (.bool false)))] (.R [.L 4 1, .m 5 0, .Q 6 32 [4,5], .o 7 (.un .not (.tmp 6)), .m 3 7] .ret))
def F51:AFun:=⟨c51,2,8,[(.tmp 3)]⟩
def K51:Nat→List Nat×List Nat
 |_=>([],[])
theorem F51_ok:kj8 Try.prog K51 noRg Try.f51=some F51:=by kernel_rfl
/- 53: syndrome/poly.Check -/
def c53L0:ACode:=(.R [.B 23 .lss 22 21] (.seq (.D 23 .skip (.exit 0)) (.seq (.block 1 [5,20,21,22] (.R [.I 24 1 20 22, .L 25 24, .m 8 25] (.R [.m 26 5, .m 27 8, .Q 28 32 [26,27], .o 29 (.un .not (.tmp 28))] (.D 29 (.R [.k 4 2] .ret) .skip)))) (.region [.C 30 .add 22 1, .m 22 30]))))
def c53:ACode:=(.R [.k 4 0] (.R [.m 10 0, .Q 11 29 [10], .m 9 11, .E 12 0 9, .E 13 1 9, .m 5 12, .m 6 13] (.seq (.R [.m 14 6, .C 15 .neq 14 0] (.D 15 (.R [.m 16 6, .m 4 16] .ret) .skip)) (.seq (.R [.m 17 1, .N 18 17, .C 19 .gtr 18 128] (.D 19 (.R [.k 4 4] .ret) .skip)) (.seq (.R [.m 20 1, .N 21 20, .k 22 0] (.block 0 [] (.loop [5,20,21,22] c53L0))) (.R [.k 4 0] .ret))))))
def F53:AFun:=⟨c53,2,31,[(.tmp 4)]⟩
def K53:Nat→List Nat×List Nat
 |0=>([5,20,21,22],[])
 |1=>([],[5,20,21,22])
 |_=>([],[])
theorem F53_ok:kj8 Try.prog K53 noRg Try.f53=some F53:=by kernel_rfl
/- 54: syndrome/poly.Div -/
def c54:ACode:=(.R [.Z 6, .Z 7, .k 8 0] (.R [.m 11 0, .m 12 1, .m 13 2, .Q 14 71 [11,12,13], .m 10 14, .E 15 0 10, .E 16 1 10, .E 17 2 10, .E 18 3 10, .m 9 15, .m 1 16, .m 2 17, .m 8 18] (.seq (.R [.m 19 8, .C 20 .neq 19 0] (.D 20 (.R [.m 21 8, .Z 6, .Z 7, .m 8 21] .ret) .skip)) (.seq (.R [.m 22 2, .N 23 22, .C 24 .eql 23 0] (.D 24 (.R [.Z 6, .Z 7, .k 8 5] .ret) .skip)) (.R [.m 26 9, .m 27 1, .m 28 2, .Q 29 72 [26,27,28], .m 25 29, .E 30 0 25, .E 31 1 25, .m 6 30, .m 7 31] (.R [.m 32 6, .m 33 7, .m 6 32, .m 7 33, .k 8 0] .ret))))))
def F54:AFun:=⟨c54,3,34,[(.tmp 6),(.tmp 7),(.tmp 8)]⟩
def K54:Nat→List Nat×List Nat
 |_=>([],[])
theorem F54_ok:kj8 Try.prog K54 noRg Try.f54=some F54:=by kernel_rfl
/- 55: syndrome/poly.Add -/
def c55L0:ACode:=(.R [.B 34 .lss 33 32] (.seq (.D 34 .skip (.exit 0)) (.seq (.block 1 [1,8,31,32,33] (.R [.m 35 33, .I 36 1 31 33, .L 37 36, .m 10 35, .m 11 37] (.region [.m 38 1, .m 39 10, .m 40 8, .m 41 1, .m 42 10, .I 43 1 41 42, .L 44 43, .m 45 11, .Q 46 49 [40,44,45], .I 47 1 38 39, .S 47 46]))) (.region [.C 48 .add 33 1, .m 33 48]))))
def c55:ACode:=(.R [.Z 6, .k 7 0] (.R [.m 13 0, .m 14 1, .m 15 2, .Q 16 71 [13,14,15], .m 12 16, .E 17 0 12, .E 18 1 12, .E 19 2 12, .E 20 3 12, .m 8 17, .m 1 18, .m 2 19, .m 9 20] (.seq (.R [.m 21 9, .C 22 .neq 21 0] (.D 22 (.R [.m 23 9, .Z 6, .m 7 23] .ret) .skip)) (.seq (.R [.m 24 1, .N 25 24, .m 26 2, .N 27 26, .B 28 .lss 25 27] (.D 28 (.region [.m 29 2, .m 30 1, .m 1 29, .m 2 30]) .skip)) (.seq (.R [.m 31 2, .N 32 31, .k 33 0] (.block 0 [1] (.loop [1,8,31,32,33] c55L0))) (.R [.m 49 1, .Q 50 73 [49], .m 6 50, .k 7 0] .ret))))))
def F55:AFun:=⟨c55,3,51,[(.tmp 6),(.tmp 7)]⟩
def K55:Nat→List Nat×List Nat
 |0=>([1,8,31,32,33],[1])
 |1=>([],[1,8,31,32,33])
 |_=>([],[])
theorem F55_ok:kj8 Try.prog K55 noRg Try.f55=some F55:=by kernel_rfl
/- 56: syndrome/code.Extend$1 -/
def c56L0:ACode:=(.R [.B 10 .lss 9 8] (.seq (.D 10 .skip (.exit 0)) (.seq (.block 1 [0,1,4,7,8,9] (.R [.I 11 1 7 9, .L 12 11, .m 6 12] (.region [.L 13 1, .m 14 4, .m 15 6, .Q 16 57 [13,14,15], .m 4 16]))) (.region [.C 17 .add 9 1, .m 9 17]))))
def c56:ACode:=(.R [.Z 3] (.R [.k 4 0] (.seq (.R [.m 7 0, .N 8 7, .k 9 0] (.block 0 [0,4] (.loop [0,1,4,7,8,9] c56L0))) (.R [.m 18 0, .Q 19 26 [18], .m 20 4, .o 21 (.mkSl 3 1 1 [(.tmp 20)]), .o 22 (.app 3 1 8 (.tmp 19) (.tmp 21)), .m 3 22] .ret))))
def F56:AFun:=⟨c56,2,23,[(.tmp 3)]⟩
def K56:Nat→List Nat×List Nat
 |0=>([0,1,4,7,8,9],[0,4])
 |1=>([],[0,1,4,7,8,9])
 |_=>([],[])
theorem F56_ok:kj8 Try.prog K56 noRg Try.f56=some F56:=by kernel_rfl
/- 57: (*syndrome/field.Field).Sub -/
def c57:ACode:=(.R [.k 6 0] (.R [.m 7 0, .m 8 1, .m 9 0, .m 10 2, .Q 11 42 [9,10], .Q 12 49 [7,8,11], .m 6 12] .ret))
def F57:AFun:=⟨c57,3,13,[(.tmp 6)]⟩
def K57:Nat→List Nat×List Nat
 |_=>([],[])
theorem F57_ok:kj8 Try.prog K57 noRg Try.f57=some F57:=by kernel_rfl
/- 58: syndrome/matrix.Check -/
def c58L0:ACode:=(.R [.B 23 .lss 22 21] (.seq (.D 23 .skip (.exit 0)) (.seq (.block 1 [1,5,20,21,22] (.R [.I 24 1 20 22, .L 25 24, .m 8 25] (.seq (.R [.m 26 8, .N 27 26, .m 28 1, .o 29 (.iaddr 1 (.tmp 28) (.const (.int .i64 0))), .L 30 29, .N 31 30, .B 32 .neq 27 31, .m 33 32, .G 34 8 33 false, .g 35 (.n 34) 33 false, .g 36 (.c .eql 35 0) 33 false, .P 37 33 36] (.D 37 (.R [.k 4 3] .ret) .skip)) (.seq (.R [.m 38 8, .N 39 38, .C 40 .gtr 39 64] (.D 40 (.R [.k 4 4] .ret) .skip)) (.R [.m 41 8, .o 42 (.mkf 74 [(.tmp 5)]), .Q 43 30 [41,42]] (.D 43 (.R [.k 4 2] .ret) .skip)))))) (.region [.C 44 .add 22 1, .m 22 44]))))
def c58:ACode:=(.R [.k 4 0] (.R [.m 10 0, .Q 11 29 [10], .m 9 11, .E 12 0 9, .E 13 1 9, .o 5 (.alloc 54 [(.pointer none)]), .S 5 12, .m 6 13] (.seq (.R [.m 14 6, .C 15 .neq 14 0] (.D 15 (.R [.m 16 6, .m 4 16] .ret) .skip)) (.seq (.R [.m 17 1, .N 18 17, .C 19 .gtr 18 64] (.D 19 (.R [.k 4 4] .ret) .skip)) (.seq (.R [.m 20 1, .N 21 20, .k 22 0] (.block 0 [] (.loop [1,5,20,21,22] c58L0))) (.R [.k 4 0] .ret))))))
def F58:AFun:=⟨c58,2,45,[(.tmp 4)]⟩
def K58:Nat→List Nat×List Nat
 |0=>([1,5,20,21,22],[])
 |1=>([],[1,5,20,21,22])
 |_=>([],[])
theorem F58_ok:kj8 Try.prog K58 noRg Try.f58=some F58:=by kernel_rfl
/- 59: syndrome/matrix.clone -/
def c59L0:ACode:=(.R [.B 12 .lss 11 10] (.seq (.D 12 .skip (.exit 0)) (.seq (.block 1 [3,9,10,11] (.R [.m 13 11, .I 14 1 9 11, .L 15 14, .m 4 13, .m 5 15] (.region [.m 16 3, .m 17 4, .m 18 5, .Q 19 26 [18], .I 20 1 16 17, .S 20 19]))) (.region [.C 21 .add 11 1, .m 11 21]))))
def c59:ACode:=(.R [.Z 2] (.R [.m 6 0, .N 7 6, .o 8 (.mks 22 1 24 [(.slice none 0 0)] (.tmp 7) (.tmp 7)), .m 3 8] (.seq (.R [.m 9 0, .N 10 9, .k 11 0] (.block 0 [3] (.loop [3,9,10,11] c59L0))) (.R [.m 22 3, .m 2 22] .ret))))
def F59:AFun:=⟨c59,1,23,[(.tmp 2)]⟩
def K59:Nat→List Nat×List Nat
 |0=>([3,9,10,11],[3])
 |1=>([],[3,9,10,11])
 |_=>([],[])
theorem F59_ok:kj8 Try.prog K59 noRg Try.f59=some F59:=by kernel_rfl
/- 60: slices.IndexFunc[[][]int,[]int] -/
def c60L0:ACode:=(.R [.B 9 .lss 8 7] (.seq (.D 9 .skip (.exit 0)) (.seq (.block 1 [0,1,7,8] (.R [.m 10 8, .m 5 10] (.R [.m 11 1, .m 12 0, .m 13 5, .I 14 1 12 13, .L 15 14, .o 16 (.calld (.tmp 11) [(.tmp 15)])] (.D 16 (.R [.m 17 5, .m 4 17] .ret) .skip)))) (.region [.C 18 .add 8 1, .m 8 18]))))
def c60:ACode:=(.R [.k 4 0] (.seq (.R [.m 6 0, .N 7 6, .k 8 0] (.block 0 [] (.loop [0,1,7,8] c60L0))) (.R [.k 4 (-1)] .ret)))
def F60:AFun:=⟨c60,2,19,[(.tmp 4)]⟩
def K60:Nat→List Nat×List Nat
 |0=>([0,1,7,8],[])
 |1=>([],[0,1,7,8])
 |_=>([],[])
theorem F60_ok:kj8 Try.prog K60 noRg Try.f60=some F60:=by kernel_rfl
/- 61: syndrome/matrix.Reduce$1 -/
def c61:ACode:=(.R [.o 3 (.mv (.const (.bool false)))] (.R [.m 4 0, .L 5 1, .I 6 1 4 5, .L 7 6, .C 8 .neq 7 0, .m 3 8] .ret))
def F61:AFun:=⟨c61,2,9,[(.tmp 3)]⟩
def K61:Nat→List Nat×List Nat
 |_=>([],[])
theorem F61_ok:kj8 Try.prog K61 noRg Try.f61=some F61:=by kernel_rfl
/- 62: syndrome/matrix.scale -/
def c62L0:ACode:=(.R [.B 10 .lss 9 8] (.seq (.D 10 .skip (.exit 0)) (.seq (.block 1 [0,1,2,8,9] (.R [.m 11 9, .m 6 11] (.region [.m 12 1, .m 13 6, .m 14 0, .m 15 1, .m 16 6, .I 17 1 15 16, .L 18 17, .m 19 2, .Q 20 50 [14,18,19], .I 21 1 12 13, .S 21 20]))) (.region [.C 22 .add 9 1, .m 9 22]))))
def c62:ACode:=(.R [.m 7 1, .N 8 7, .k 9 0] (.block 0 [] (.loop [0,1,2,8,9] c62L0)))
def F62:AFun:=⟨c62,3,23,[]⟩
def K62:Nat→List Nat×List Nat
 |0=>([0,1,2,8,9],[])
 |1=>([],[0,1,2,8,9])
 |_=>([],[])
theorem F62_ok:kj8 Try.prog K62 noRg Try.f62=some F62:=by kernel_rfl
/- 63: (*syndrome/field.Field).Inv -/
def c63:ACode:=(.R [.k 4 0] (.seq (.R [.m 5 0, .m 6 1, .Q 7 32 [5,6], .o 8 (.un .not (.tmp 7)), .m 9 8, .G 10 1 9 false, .g 11 (.c .eql 10 0) 9 false, .P 12 9 11] (.D 12 (.R [.k 4 (-1)] .ret) .skip)) (.R [.m 13 0, .K 14 13, .F 15 5 14, .L 16 15, .m 17 0, .K 18 17, .F 19 0 18, .L 20 19, .C 21 .sub 20 1, .m 22 0, .K 23 22, .F 24 6 23, .L 25 24, .m 26 1, .I 27 1 25 26, .L 28 27, .B 29 .sub 21 28, .m 30 0, .K 31 30, .F 32 0 31, .L 33 32, .C 34 .sub 33 1, .B 35 .rem 29 34, .I 36 1 16 35, .L 37 36, .m 4 37] .ret)))
def F63:AFun:=⟨c63,2,38,[(.tmp 4)]⟩
def K63:Nat→List Nat×List Nat
 |_=>([],[])
theorem F63_ok:kj8 Try.prog K63 noRg Try.f63=some F63:=by kernel_rfl
/- 64: syndrome/matrix.less -/
def c64L0:ACode:=(.R [.B 12 .lss 11 10] (.seq (.D 12 .skip (.exit 0)) (.seq (.block 1 [0,1,2,3,10,11] (.R [.m 13 11, .m 8 13] (.region [.m 14 1, .m 15 8, .m 16 0, .m 17 1, .m 18 8, .I 19 1 17 18, .L 20 19, .m 21 0, .m 22 3, .m 23 2, .m 24 8, .I 25 1 23 24, .L 26 25,⟨(some 27),(.call 50 [(.tmp 21),(.tmp 22),(.tmp 26)]),none,true⟩, .Q 28 57 [16,20,27], .I 29 1 14 15, .S 29 28]))) (.region [.C 30 .add 11 1, .m 11 30]))))
def c64:ACode:=(.R [.m 9 1, .N 10 9, .k 11 0] (.block 0 [] (.loop [0,1,2,3,10,11] c64L0)))
def F64:AFun:=⟨c64,4,31,[]⟩
def K64:Nat→List Nat×List Nat
 |0=>([0,1,2,3,10,11],[])
 |1=>([],[0,1,2,3,10,11])
 |_=>([],[])
theorem F64_ok:kj8 Try.prog K64 noRg Try.f64=some F64:=by kernel_rfl
/- 65: slices.Index[[]int,int] -/
def c65L0:ACode:=(.R [.B 9 .lss 8 7] (.seq (.D 9 .skip (.exit 0)) (.seq (.block 1 [0,1,7,8] (.R [.m 10 8, .m 5 10] (.R [.m 11 1, .m 12 0, .m 13 5, .I 14 1 12 13, .L 15 14, .B 16 .eql 11 15] (.D 16 (.R [.m 17 5, .m 4 17] .ret) .skip)))) (.region [.C 18 .add 8 1, .m 8 18]))))
def c65:ACode:=(.R [.k 4 0] (.seq (.R [.m 6 0, .N 7 6, .k 8 0] (.block 0 [] (.loop [0,1,7,8] c65L0))) (.R [.k 4 (-1)] .ret)))
def F65:AFun:=⟨c65,2,19,[(.tmp 4)]⟩
def K65:Nat→List Nat×List Nat
 |0=>([0,1,7,8],[])
 |1=>([],[0,1,7,8])
 |_=>([],[])
theorem F65_ok:kj8 Try.prog K65 noRg Try.f65=some F65:=by kernel_rfl
/- 68: syndrome/field.prime -/
def c68L0:ACode:=(.seq (.R [.m 4 0, .m 5 2, .B 6 .rem 4 5, .C 7 .neq 6 0] (.D 7 .skip (.exit 0))) (.block 1 [0,2,3] (.region [.m 8 2, .C 9 .add 8 1, .m 2 9])))
def c68L1:ACode:=(.seq (.R [.m 10 0, .m 11 2, .B 12 .rem 10 11, .C 13 .eql 12 0] (.D 13 .skip (.exit 2))) (.seq (.block 3 [0,2,3] (.region [.m 17 3, .C 18 .add 17 1, .m 3 18])) (.region [.m 14 0, .m 15 2, .B 16 .quo 14 15, .m 0 16])))
def c68:ACode:=(.R [.k 2 0, .k 3 0] (.R [.k 2 2] (.seq (.block 0 [0,2,3] (.loop [0,2,3] c68L0)) (.seq (.block 2 [0,2,3] (.loop [0,2,3] c68L1)) (.seq (.R [.m 19 0, .C 20 .neq 19 1] (.D 20 (.R [.k 2 0, .k 3 0] .ret) .skip)) (.R [.m 21 2, .m 22 3, .m 2 21, .m 3 22] .ret))))))
def F68:AFun:=⟨c68,1,23,[(.tmp 2),(.tmp 3)]⟩
def K68:Nat→List Nat×List Nat
 |0=>([0,2,3],[0,2,3])
 |1=>([],[0,2,3])
 |2=>([0,2,3],[0,2,3])
 |3=>([],[0,2,3])
 |_=>([],[])
theorem F68_ok:kj8 Try.prog K68 noRg Try.f68=some F68:=by kernel_rfl
/- 69: (*syndrome/field.Field).fill -/
def c69L0:ACode:=(.R [.B 29 .lss 28 27] (.seq (.D 29 .skip (.exit 0)) (.seq (.block 1 [0,27,28] (.R [.m 30 28, .m 3 30] (.region [.m 31 0, .K 32 31, .F 33 6 32, .L 34 33, .m 35 3, .I 36 1 34 35, .n (.st 1 (.tmp 36) (.const (.int .i64 (-1))))]))) (.region [.C 37 .add 28 1, .m 28 37]))))
def c69L1:ACode:=(.R [.B 44 .lss 43 42] (.seq (.D 44 .skip (.exit 2)) (.seq (.block 3 [0,4,42,43] (.R [.m 45 43, .m 5 45] (.seq (.R [.m 46 4, .C 47 .eql 46 0, .m 48 47, .G 49 0 48 false, .g 50 (.nilck (.tmp 49)) 48 false, .g 51 (.f 6 50) 48 false, .H 52 51 48 false, .G 53 4 48 false, .g 54 (.i 1 52 53) 48 false, .H 55 54 48 false, .g 56 (.c .geq 55 0) 48 false, .P 57 48 56] (.D 57 (.R [.o 2 (.mv (.const (.bool false)))] .ret) .skip)) (.R [.m 58 0, .K 59 58, .F 60 5 59, .L 61 60, .m 62 5, .m 63 0, .K 64 63, .F 65 6 64, .L 66 65, .m 67 4, .m 68 4, .m 69 5, .I 70 1 61 62, .S 70 68, .I 71 1 66 67, .S 71 69] (.region [.m 72 0, .m 73 4, .Q 74 79 [72,73], .m 4 74]))))) (.region [.C 75 .add 43 1, .m 43 75]))))
def c69:ACode:=(.R [.o 2 (.mv (.const (.bool false)))] (.R [.m 6 0, .m 7 0, .K 8 7, .F 9 0 8, .L 10 9, .C 11 .sub 10 1, .o 12 (.mks 3 1 8 [(.int .i64 0)] (.tmp 11) (.tmp 11)), .K 13 6, .F 14 5 13, .S 14 12] (.R [.m 15 0, .m 16 0, .K 17 16, .F 18 0 17, .L 19 18, .o 20 (.mks 3 1 8 [(.int .i64 0)] (.tmp 19) (.tmp 19)), .K 21 15, .F 22 6 21, .S 22 20] (.seq (.R [.m 23 0, .K 24 23, .F 25 6 24, .L 26 25, .N 27 26, .k 28 0] (.block 0 [0] (.loop [0,27,28] c69L0))) (.R [.k 4 1] (.seq (.R [.m 38 0, .K 39 38, .F 40 0 39, .L 41 40, .C 42 .sub 41 1, .k 43 0] (.block 2 [4] (.loop [0,4,42,43] c69L1))) (.R [.m 76 4, .C 77 .eql 76 1, .m 2 77] .ret)))))))
def F69:AFun:=⟨c69,1,78,[(.tmp 2)]⟩
def K69:Nat→List Nat×List Nat
 |0=>([0,27,28],[0])
 |1=>([],[0,27,28])
 |2=>([0,4,42,43],[4])
 |3=>([],[0,4,42,43])
 |_=>([],[])
theorem F69_ok:kj8 Try.prog K69 noRg Try.f69=some F69:=by kernel_rfl
/- 70: syndrome/field.digits -/
def c70L0:ACode:=(.R [.B 14 .lss 13 12] (.seq (.D 14 .skip (.exit 0)) (.seq (.block 1 [0,1,7,12,13] (.R [.m 15 13, .m 8 15] (.R [.m 16 7, .m 17 8, .m 18 0, .m 19 1, .B 20 .rem 18 19, .I 21 1 16 17, .S 21 20] (.region [.m 22 0, .m 23 1, .B 24 .quo 22 23, .m 0 24])))) (.region [.C 25 .add 13 1, .m 13 25]))))
def c70:ACode:=(.R [.Z 6] (.R [.m 9 2, .o 10 (.mks 3 1 8 [(.int .i64 0)] (.tmp 9) (.tmp 9)), .m 7 10] (.seq (.R [.m 11 7, .N 12 11, .k 13 0] (.block 0 [7] (.loop [0,1,7,12,13] c70L0))) (.R [.m 26 7, .m 6 26] .ret))))
def F70:AFun:=⟨c70,3,27,[(.tmp 6)]⟩
def K70:Nat→List Nat×List Nat
 |0=>([0,1,7,12,13],[7])
 |1=>([],[0,1,7,12,13])
 |_=>([],[])
theorem F70_ok:kj8 Try.prog K70 noRg Try.f70=some F70:=by kernel_rfl
/- 71: syndrome/poly.both -/
def c71:ACode:=(.R [.o 6 (.mv (.const (.pointer none))), .Z 7, .Z 8, .k 9 0] (.R [.m 13 0, .m 14 1, .Q 15 53 [13,14], .m 10 15] (.seq (.R [.m 16 10, .C 17 .eql 16 0] (.D 17 (.region [.m 18 0, .m 19 2, .Q 20 53 [18,19], .m 10 20]) .skip)) (.seq (.R [.m 21 10, .C 22 .neq 21 0] (.D 22 (.R [.m 23 10, .o 6 (.mv (.const (.pointer none))), .Z 7, .Z 8, .m 9 23] .ret) .skip)) (.R [.m 25 0, .Q 26 29 [25], .m 24 26, .E 27 0 24, .E 28 1 24, .m 11 27, .m 12 28] (.R [.m 29 11, .m 30 1, .Q 31 73 [30], .m 32 2, .Q 33 73 [32], .m 6 29, .m 7 31, .m 8 33, .k 9 0] .ret))))))
def F71:AFun:=⟨c71,3,34,[(.tmp 6),(.tmp 7),(.tmp 8),(.tmp 9)]⟩
def K71:Nat→List Nat×List Nat
 |_=>([],[])
theorem F71_ok:kj8 Try.prog K71 noRg Try.f71=some F71:=by kernel_rfl
/- 72: syndrome/poly.divide -/
def c72L0:ACode:=(.R [.B 60 .lss 59 58] (.seq (.D 60 .skip (.exit 2)) (.seq (.block 3 [0,2,6,7,8,9,10,57,58,59] (.R [.m 61 59, .I 62 1 57 59, .L 63 62, .m 11 61, .m 12 63] (.region [.m 64 7, .m 65 9, .m 66 11, .B 67 .add 65 66, .m 68 0, .m 69 7, .m 70 9, .m 71 11, .B 72 .add 70 71, .I 73 1 69 72, .L 74 73, .m 75 0, .m 76 10, .m 77 12,⟨(some 78),(.call 50 [(.tmp 75),(.tmp 76),(.tmp 77)]),none,true⟩, .Q 79 57 [68,74,78], .I 80 1 64 67, .S 80 79]))) (.region [.C 81 .add 59 1, .m 59 81]))))
def c72L1:ACode:=(.seq (.R [.m 38 9, .C 39 .geq 38 0] (.D 39 .skip (.exit 0))) (.seq (.block 1 [0,2,6,7,8,9] (.R [.m 42 0, .m 43 7, .m 44 9, .m 45 2, .N 46 45, .B 47 .add 44 46, .C 48 .sub 47 1, .I 49 1 43 48, .L 50 49, .m 51 8, .Q 52 50 [42,50,51], .m 10 52] (.R [.m 53 6, .m 54 9, .m 55 10, .I 56 1 53 54, .S 56 55] (.R [.m 57 2, .N 58 57, .k 59 0] (.block 2 [0,2,6,7,8,9] (.loop [0,2,6,7,8,9,10,57,58,59] c72L0)))))) (.region [.m 40 9, .C 41 .sub 40 1, .m 9 41])))
def c72:ACode:=(.R [.Z 6, .Z 7] (.R [.m 13 1, .Q 14 26 [13], .m 7 14] (.seq (.R [.m 15 1, .N 16 15, .m 17 2, .N 18 17, .B 19 .geq 16 18] (.D 19 (.region [.m 20 1, .N 21 20, .m 22 2, .N 23 22, .B 24 .sub 21 23, .C 25 .add 24 1, .o 26 (.mks 3 1 8 [(.int .i64 0)] (.tmp 25) (.tmp 25)), .m 6 26]) .skip)) (.R [.m 27 0, .m 28 2, .m 29 2, .N 30 29, .C 31 .sub 30 1, .I 32 1 28 31, .L 33 32, .Q 34 63 [27,33], .m 8 34] (.seq (.R [.m 35 6, .N 36 35, .C 37 .sub 36 1, .m 9 37] (.block 0 [6,7] (.loop [0,2,6,7,8,9] c72L1))) (.R [.m 82 6, .m 83 7, .Q 84 73 [83], .m 6 82, .m 7 84] .ret))))))
def F72:AFun:=⟨c72,3,85,[(.tmp 6),(.tmp 7)]⟩
def K72:Nat→List Nat×List Nat
 |0=>([0,2,6,7,8,9],[6,7])
 |1=>([],[0,2,6,7,8,9])
 |2=>([0,2,6,7,8,9,10,57,58,59],[0,2,6,7,8,9])
 |3=>([],[0,2,6,7,8,9,10,57,58,59])
 |_=>([],[])
theorem F72_ok:kj8 Try.prog K72 noRg Try.f72=some F72:=by kernel_rfl
/- 73: syndrome/poly.trim -/
def c73L0:ACode:=(.seq (.R [.m 6 3, .C 7 .gtr 6 0, .m 8 7, .G 9 0 8 true, .G 10 3 8 true, .g 11 (.c .sub 10 1) 8 true, .g 12 (.i 1 9 11) 8 true, .H 13 12 8 true, .g 14 (.c .eql 13 0) 8 true, .o 15 (.pick (.tmp 8) (.tmp 14) (.const (.bool false)))] (.D 15 .skip (.exit 0))) (.block 1 [0,3] (.region [.m 16 3, .C 17 .sub 16 1, .m 3 17])))
def c73:ACode:=(.R [.Z 2] (.R [.m 4 0, .N 5 4, .m 3 5] (.seq (.block 0 [0,3] (.loop [0,3] c73L0)) (.R [.m 18 0, .m 19 3, .o 20 (.sl 1 (.tmp 18) none (some (.tmp 19))), .Q 21 26 [20], .m 2 21] .ret))))
def F73:AFun:=⟨c73,1,22,[(.tmp 2)]⟩
def K73:Nat→List Nat×List Nat
 |0=>([0,3],[0,3])
 |1=>([],[0,3])
 |_=>([],[])
theorem F73_ok:kj8 Try.prog K73 noRg Try.f73=some F73:=by kernel_rfl
/- 74: syndrome/matrix.Check$1 -/
def c74:ACode:=(.R [.o 3 (.mv (.const (.bool false)))] (.R [.L 4 1, .m 5 0, .Q 6 32 [4,5], .o 7 (.un .not (.tmp 6)), .m 3 7] .ret))
def F74:AFun:=⟨c74,2,8,[(.tmp 3)]⟩
def K74:Nat→List Nat×List Nat
 |_=>([],[])
theorem F74_ok:kj8 Try.prog K74 noRg Try.f74=some F74:=by kernel_rfl
/- 79: (*syndrome/field.Field).turn -/
def c79L0:ACode:=(.R [.B 57 .lss 56 55] (.seq (.D 57 .skip (.exit 0)) (.seq (.block 1 [0,5,6,55,56] (.R [.m 58 56, .m 7 58] (.region [.m 59 5, .m 60 7, .m 61 5, .m 62 7, .I 63 1 61 62, .L 64 63, .m 65 6, .m 66 0, .K 67 66, .F 68 1 67, .L 69 68, .m 70 0, .K 71 70, .F 72 3 71, .L 73 72, .m 74 7, .I 75 1 73 74, .L 76 75, .B 77 .sub 69 76, .B 78 .mul 65 77, .B 79 .add 64 78, .m 80 0, .K 81 80, .F 82 1 81, .L 83 82, .B 84 .rem 79 83, .I 85 1 59 60, .S 85 84]))) (.region [.C 86 .add 56 1, .m 56 86]))))
def c79:ACode:=(.R [.k 4 0] (.seq (.R [.m 8 0, .K 9 8, .F 10 2 9, .L 11 10, .C 12 .eql 11 1] (.D 12 (.R [.m 13 1, .m 14 0, .K 15 14, .F 16 4 15, .L 17 16, .B 18 .mul 13 17, .m 19 0, .K 20 19, .F 21 1 20, .L 22 21, .B 23 .rem 18 22, .m 4 23] .ret) .skip)) (.R [.m 24 1, .m 25 0, .K 26 25, .F 27 1 26, .L 28 27, .m 29 0, .K 30 29, .F 31 2 30, .L 32 31, .Q 33 70 [24,28,32], .m 5 33] (.R [.m 34 5, .m 35 0, .K 36 35, .F 37 2 36, .L 38 37, .C 39 .sub 38 1, .I 40 1 34 39, .L 41 40, .m 6 41] (.R [.m 42 5, .o 43 (.sl 1 (.tmp 42) (some (.const (.int .i64 1))) none), .m 44 5, .m 45 0, .K 46 45, .F 47 2 46, .L 48 47, .C 49 .sub 48 1, .o 50 (.sl 1 (.tmp 44) none (some (.tmp 49))), .o 51 (.cpy 1 (.tmp 43) (.tmp 50))] (.R [.m 52 5, .o 53 (.iaddr 1 (.tmp 52) (.const (.int .i64 0))), .n (.st 1 (.tmp 53) (.const (.int .i64 0)))] (.seq (.R [.m 54 5, .N 55 54, .k 56 0] (.block 0 [0,5] (.loop [0,5,6,55,56] c79L0))) (.R [.m 87 5, .m 88 0, .K 89 88, .F 90 1 89, .L 91 90, .Q 92 84 [87,91], .m 4 92] .ret))))))))
def F79:AFun:=⟨c79,2,93,[(.tmp 4)]⟩
def K79:Nat→List Nat×List Nat
 |0=>([0,5,6,55,56],[0,5])
 |1=>([],[0,5,6,55,56])
 |_=>([],[])
theorem F79_ok:kj8 Try.prog K79 noRg Try.f79=some F79:=by kernel_rfl
/- 84: syndrome/field.number -/
def c84L0:ACode:=(.seq (.R [.m 10 6, .C 11 .geq 10 0] (.D 11 .skip (.exit 0))) (.seq (.block 1 [0,1,5,6] (.region [.m 14 5, .m 15 1, .B 16 .mul 14 15, .m 17 0, .m 18 6, .I 19 1 17 18, .L 20 19, .B 21 .add 16 20, .m 5 21])) (.region [.m 12 6, .C 13 .sub 12 1, .m 6 13])))
def c84:ACode:=(.R [.k 4 0] (.R [.k 5 0] (.seq (.R [.m 7 0, .N 8 7, .C 9 .sub 8 1, .m 6 9] (.block 0 [5] (.loop [0,1,5,6] c84L0))) (.R [.m 22 5, .m 4 22] .ret))))
def F84:AFun:=⟨c84,2,23,[(.tmp 4)]⟩
def K84:Nat→List Nat×List Nat
 |0=>([0,1,5,6],[5])
 |1=>([],[0,1,5,6])
 |_=>([],[])
theorem F84_ok:kj8 Try.prog K84 noRg Try.f84=some F84:=by kernel_rfl
end Go.Proofs.Ytppbpgmdmiajcaa
