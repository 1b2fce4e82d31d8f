/-
  Functions of this seat as the small machine's code, written by a program of my own (gen.py); each is checked to be what the model's function is turned into. No condition.
-/
import Derived.Test.YtppbpgmdmiajcaaGreatK2
import Derived.Test.YtppbpgmdmiajcaaGreatProg
set_option linter.unusedVariables false
set_option linter.unusedSimpArgs false
set_option linter.unusedSectionVars false
set_option maxRecDepth 100000
namespace Go.Proofs.YtppbpgmdmiajcaaGreat
open Go.Am
/- 6: syndrome/syndrometop.TopBCH -/
def c6L0:ACode:=(.seq (.R [.m 36 12, .m 37 2, .B 38 .lss 36 37] (.D 38 .skip (.exit 0))) (.seq (.block 1 [1,2,7,8,9,11,12] (.region [.m 41 11, .m 42 1, .m 43 12, .B 44 .add 42 43, .m 45 8, .B 46 .rem 44 45, .o 47 (.mkSl 3 1 1 [(.tmp 46)]), .o 48 (.app 3 1 8 (.tmp 41) (.tmp 47)), .m 11 48])) (.region [.m 39 12, .C 40 .add 39 1, .m 12 40])))
def c6:ACode:=(.R [.o 6 (.mv (.const (.bool false)))] (.R [.m 16 0, .Q 17 28 [16], .m 15 17, .E 18 0 15, .E 19 1 15, .m 7 18, .m 8 19] (.R [.m 20 1, .m 21 8, .Q 22 26 [20,21], .m 1 22] (.R [.m 23 2, .m 24 8, .Q 25 26 [23,24], .m 2 25] (.R [.m 27 7, .m 28 8, .m 29 1, .m 30 2, .Q 31 21 [27,28,29,30], .m 26 31, .E 32 0 26, .E 33 1 26, .o 9 (.alloc 35 [(.int .i64 0),(.int .i64 0),(.slice none 0 0)]), .n (.st 3 (.tmp 9) (.tmp 32)), .m 10 33] (.seq (.R [.m 34 10, .C 35 .neq 34 0] (.D 35 (.R [.o 6 (.mv (.const (.bool false)))] .ret) .skip)) (.R [.Z 11] (.seq (.R [.k 12 0] (.block 0 [2,7,8,9,11] (.loop [1,2,7,8,9,11,12] c6L0))) (.R [.m 50 7, .m 51 8, .m 52 11, .Q 53 16 [50,51,52], .m 49 53, .E 54 0 49, .E 55 1 49, .m 13 54, .m 10 55] (.seq (.R [.m 56 10, .C 57 .neq 56 0, .m 58 57, .G 59 13 58 false, .G 60 2 58 false, .g 61 (.b .leq 59 60) 58 false, .P 62 58 61] (.D 62 (.R [.o 6 (.mv (.const (.bool false)))] .ret) .skip)) (.seq (.R [.F 63 2 9, .L 64 63, .N 65 64, .C 66 .eql 65 0, .m 67 66, .G 68 7 67 false, .g 69 (.f 2 9) 67 false, .H 70 69 67 false, .g 71 (.n 70) 67 false, .g 72 (.q 31 [68,71]) 67 false, .g 73 (.un .not (.tmp 72)) 67 false, .P 74 67 73] (.D 74 (.R [.o 6 (.mv (.const (.bool true)))] .ret) .skip)) (.R [.o 76 (.ld true 3 (.tmp 9)), .Q 77 32 [76], .m 75 77, .E 78 0 75, .E 79 1 75, .m 14 78, .m 10 79] (.R [.m 80 10, .C 81 .eql 80 0, .m 82 81, .G 83 14 82 true, .G 84 13 82 true, .g 85 (.b .geq 83 84) 82 true, .o 86 (.pick (.tmp 82) (.tmp 85) (.const (.bool false))), .m 6 86] .ret)))))))))))))
def F6:AFun:=⟨c6,3,87,[(.tmp 6)]⟩
def K6:Nat→List Nat×List Nat
 |0=>([1,2,7,8,9,11,12],[2,7,8,9,11])
 |1=>([],[1,2,7,8,9,11,12])
 |_=>([],[])
theorem F6_ok:kj8 Tryz.prog K6 noRg Tryz.f6=some F6:=by kernel_rfl
/- 10: syndrome/cyclic.Cosets -/
def c10L0:ACode:=(.seq (.R [.m 41 9, .m 42 12, .o 43 (.mget .i64 (.bool false) (.tmp 41) (.tmp 42)), .o 44 (.un .not (.tmp 43))] (.D 44 .skip (.exit 2))) (.seq (.block 3 [0,1,8,9,11,12,33,34] (.R [.m 50 9, .m 51 12, .n (.mput .i64 (.tmp 50) (.tmp 51) (.const (.bool true)))] (.region [.m 52 11, .m 53 12, .o 54 (.mkSl 3 1 1 [(.tmp 53)]), .o 55 (.app 3 1 8 (.tmp 52) (.tmp 54)), .m 11 55]))) (.region [.m 45 12, .m 46 0, .B 47 .mul 45 46, .m 48 1, .B 49 .rem 47 48, .m 12 49])))
def c10L1:ACode:=(.R [.B 35 .lss 34 33] (.seq (.D 35 .skip (.exit 0)) (.seq (.block 1 [0,1,8,9,33,34] (.R [.m 36 34, .m 10 36] (.seq (.R [.m 37 9, .m 38 10, .o 39 (.mget .i64 (.bool false) (.tmp 37) (.tmp 38))] (.D 39 (.exit 1) .skip)) (.R [.Z 11] (.seq (.R [.m 40 10, .m 12 40] (.block 2 [0,1,8,9,11,33,34] (.loop [0,1,8,9,11,12,33,34] c10L0))) (.R [.m 56 11, .Q 57 50 [56]] (.region [.m 58 8, .m 59 11, .o 60 (.mkSl 22 1 1 [(.tmp 59)]), .o 61 (.app 22 1 24 (.tmp 58) (.tmp 60)), .m 8 61]))))))) (.region [.C 62 .add 34 1, .m 34 62]))))
def c10:ACode:=(.R [.Z 4, .k 5 0] (.R [.m 14 0, .Q 15 48 [14], .m 13 15, .E 16 0 13, .E 17 1 13, .m 6 16, .m 7 17] (.seq (.R [.m 18 7, .C 19 .neq 18 0] (.D 19 (.R [.m 20 7, .Z 4, .m 5 20] .ret) .skip)) (.seq (.R [.m 21 1, .C 22 .lss 21 1, .m 23 22, .G 24 1 23 false, .g 25 (.c .gtr 24 64) 23 false, .P 26 23 25] (.D 26 (.R [.Z 4, .k 5 4] .ret) .skip)) (.seq (.R [.m 27 1, .m 28 6, .Q 29 49 [28], .B 30 .rem 27 29, .C 31 .eql 30 0] (.D 31 (.R [.Z 4, .k 5 3] .ret) .skip)) (.R [.Z 8] (.R [.o 32 (.mmk 1000000075), .m 9 32] (.seq (.R [.m 33 1, .k 34 0] (.block 0 [8] (.loop [0,1,8,9,33,34] c10L1))) (.R [.m 63 8, .m 4 63, .k 5 0] .ret)))))))))
def F10:AFun:=⟨c10,2,64,[(.tmp 4),(.tmp 5)]⟩
def K10:Nat→List Nat×List Nat
 |0=>([0,1,8,9,33,34],[8])
 |1=>([],[0,1,8,9,33,34])
 |2=>([0,1,8,9,11,12,33,34],[0,1,8,9,11,33,34])
 |3=>([],[0,1,8,9,11,12,33,34])
 |_=>([],[])
theorem F10_ok:kj8 Tryz.prog K10 noRg Tryz.f10=some F10:=by kernel_rfl
/- 13: syndrome/cyclic.Generator -/
def c13L0:ACode:=(.R [.B 43 .lss 42 41] (.seq (.D 43 .skip (.exit 0)) (.seq (.block 1 [0,10,11,12,40,41,42] (.R [.I 44 1 40 42, .L 45 44, .m 14 45] (.region [.m 47 10, .Q 48 56 [47], .m 49 12, .m 50 10, .m 51 10, .m 52 11, .m 53 14, .Q 54 58 [51,52,53], .Q 55 57 [50,54], .o 56 (.mkSl 3 1 2 [(.tmp 55),(.const (.int .i64 1))]), .Q 57 55 [48,49,56], .m 46 57, .E 58 0 46, .E 59 1 46, .m 12 58]))) (.region [.C 60 .add 42 1, .m 42 60]))))
def c13L1:ACode:=(.R [.B 71 .lss 70 69] (.seq (.D 71 .skip (.exit 2)) (.seq (.block 3 [12,15,68,69,70] (.R [.m 72 70, .I 73 1 68 70, .L 74 73, .m 17 72, .m 18 74] (.region [.m 75 12, .m 76 17, .m 77 15, .m 78 18, .Q 79 60 [77,78], .I 80 1 75 76, .S 80 79]))) (.region [.C 81 .add 70 1, .m 70 81]))))
def c13:ACode:=(.R [.Z 6, .k 7 0] (.R [.m 20 0, .m 21 1, .m 22 2, .Q 23 53 [20,21,22], .m 19 23, .E 24 0 19, .E 25 1 19, .m 8 24, .m 9 25] (.seq (.R [.m 26 9, .C 27 .neq 26 0] (.D 27 (.R [.m 28 9, .Z 6, .m 7 28] .ret) .skip)) (.R [.m 30 0, .m 31 1, .Q 32 54 [30,31], .m 29 32, .E 33 0 29, .E 34 1 29, .E 35 2 29, .m 10 33, .m 11 34, .m 9 35] (.seq (.R [.m 36 9, .C 37 .neq 36 0] (.D 37 (.R [.m 38 9, .Z 6, .m 7 38] .ret) .skip)) (.R [.o 39 (.mkSl 3 1 1 [(.const (.int .i64 1))]), .m 12 39] (.seq (.R [.m 40 8, .N 41 40, .k 42 0] (.block 0 [0,10,12] (.loop [0,10,11,12,40,41,42] c13L0))) (.R [.m 62 0, .m 63 10, .Q 64 56 [63], .Q 65 59 [62,64], .m 61 65, .E 66 0 61, .E 67 1 61, .m 15 66, .m 16 67] (.seq (.R [.m 68 12, .N 69 68, .k 70 0] (.block 2 [12] (.loop [12,15,68,69,70] c13L1))) (.R [.m 82 12, .m 6 82, .k 7 0] .ret))))))))))
def F13:AFun:=⟨c13,3,83,[(.tmp 6),(.tmp 7)]⟩
def K13:Nat→List Nat×List Nat
 |0=>([0,10,11,12,40,41,42],[0,10,12])
 |1=>([],[0,10,11,12,40,41,42])
 |2=>([12,15,68,69,70],[12])
 |3=>([],[12,15,68,69,70])
 |_=>([],[])
theorem F13_ok:kj8 Tryz.prog K13 noRg Tryz.f13=some F13:=by kernel_rfl
/- 16: syndrome/cyclic.Bound -/
def c16L0:ACode:=(.seq (.R [.m 37 13, .m 38 1, .B 39 .lss 37 38, .m 40 39, .G 41 8 40 true, .G 42 12 40 true, .G 43 13 40 true, .G 44 11 40 true, .g 45 (.b .mul 43 44) 40 true, .g 46 (.b .add 42 45) 40 true, .G 47 1 40 true, .g 48 (.b .rem 46 47) 40 true, .g 49 (.q 68 [41,48]) 40 true, .o 50 (.pick (.tmp 40) (.tmp 49) (.const (.bool false)))] (.D 50 .skip (.exit 4))) (.block 5 [1,8,10,11,12,13,33,34] (.region [.m 51 13, .C 52 .add 51 1, .m 13 52])))
def c16L1:ACode:=(.R [.B 35 .lss 34 33] (.seq (.D 35 .skip (.exit 2)) (.seq (.block 3 [1,8,10,11,33,34] (.R [.m 36 34, .m 12 36] (.R [.k 13 0] (.seq (.block 4 [1,8,10,11,13,33,34] (.loop [1,8,10,11,12,13,33,34] c16L0)) (.region [.m 53 10, .m 54 13, .o 55 (.minmax true [(.tmp 53),(.tmp 54)]), .m 10 55]))))) (.region [.C 56 .add 34 1, .m 34 56]))))
def c16L2:ACode:=(.seq (.R [.m 24 11, .m 25 1, .B 26 .leq 24 25] (.D 26 .skip (.exit 0))) (.seq (.block 1 [1,8,10,11] (.seq (.R [.m 29 11, .m 30 1, .Q 31 67 [29,30], .o 32 (.un .not (.tmp 31))] (.D 32 (.exit 1) .skip)) (.R [.m 33 1, .k 34 0] (.block 2 [1,8,10,11] (.loop [1,8,10,11,33,34] c16L1))))) (.region [.m 27 11, .C 28 .add 27 1, .m 11 28])))
def c16:ACode:=(.R [.k 6 0, .k 7 0] (.R [.m 15 0, .m 16 1, .m 17 2, .Q 18 53 [15,16,17], .m 14 18, .E 19 0 14, .E 20 1 14, .m 8 19, .m 9 20] (.seq (.R [.m 21 9, .C 22 .neq 21 0] (.D 22 (.R [.m 23 9, .k 6 0, .m 7 23] .ret) .skip)) (.R [.k 10 0] (.seq (.R [.k 11 1] (.block 0 [10] (.loop [1,8,10,11] c16L2))) (.R [.m 57 10, .C 58 .add 57 1, .m 6 58, .k 7 0] .ret))))))
def F16:AFun:=⟨c16,3,59,[(.tmp 6),(.tmp 7)]⟩
def K16:Nat→List Nat×List Nat
 |0=>([1,8,10,11],[10])
 |1=>([],[1,8,10,11])
 |2=>([1,8,10,11,33,34],[1,8,10,11])
 |3=>([],[1,8,10,11,33,34])
 |4=>([1,8,10,11,12,13,33,34],[1,8,10,11,13,33,34])
 |5=>([],[1,8,10,11,12,13,33,34])
 |_=>([],[])
theorem F16_ok:kj8 Tryz.prog K16 noRg Tryz.f16=some F16:=by kernel_rfl
/- 19: syndrome/cyclic.Of -/
def c19L0:ACode:=(.seq (.R [.m 72 16, .m 73 2, .N 74 73, .B 75 .add 72 74, .m 76 1, .B 77 .leq 75 76] (.D 77 .skip (.exit 0))) (.seq (.block 1 [1,2,6,15,16] (.R [.m 80 1, .o 81 (.mks 3 1 8 [(.int .i64 0)] (.tmp 80) (.tmp 80)), .m 17 81] (.R [.m 82 17, .m 83 16, .o 84 (.sl 1 (.tmp 82) (some (.tmp 83)) none), .m 85 2, .o 86 (.cpy 1 (.tmp 84) (.tmp 85))] (.region [.F 87 2 15, .L 88 87, .m 89 17, .o 90 (.mkSl 22 1 1 [(.tmp 89)]), .o 91 (.app 22 1 24 (.tmp 88) (.tmp 90)), .F 92 2 15, .S 92 91])))) (.region [.m 78 16, .C 79 .add 78 1, .m 16 79])))
def c19:ACode:=(.R [.o 6 (.alloc 35 [(.int .i64 0),(.int .i64 0),(.slice none 0 0)]), .k 7 0] (.seq (.R [.m 18 0, .m 19 2, .Q 20 71 [18,19], .m 8 20] (.R [.m 21 8, .C 22 .neq 21 0] (.D 22 (.R [.o 23 (.build [(.int .i64 0),(.int .i64 0),(.slice none 0 0)] [(0,1),(1,1),(2,1)] []), .m 24 8, .n (.st 3 (.tmp 6) (.tmp 23)), .m 7 24] .ret) .skip))) (.seq (.R [.m 25 1, .C 26 .lss 25 1, .m 27 26, .G 28 1 27 false, .g 29 (.c .gtr 28 64) 27 false, .P 30 27 29] (.D 30 (.R [.o 31 (.build [(.int .i64 0),(.int .i64 0),(.slice none 0 0)] [(0,1),(1,1),(2,1)] []), .n (.st 3 (.tmp 6) (.tmp 31)), .k 7 4] .ret) .skip)) (.R [.m 33 0, .Q 34 48 [33], .m 32 34, .E 35 0 32, .E 36 1 32, .m 9 35, .m 10 36] (.R [.m 37 1, .C 38 .add 37 1, .o 39 (.mks 3 1 8 [(.int .i64 0)] (.tmp 38) (.tmp 38)), .m 11 39] (.R [.m 40 11, .m 41 11, .m 42 1, .m 43 9, .o 44 (.call 57 [(.tmp 43),(.const (.int .i64 1))]), .o 45 (.iaddr 1 (.tmp 40) (.const (.int .i64 0))), .S 45 44, .I 46 1 41 42, .n (.st 1 (.tmp 46) (.const (.int .i64 1)))] (.R [.m 48 0, .m 49 11, .m 50 2, .Q 51 72 [48,49,50], .m 47 51, .E 52 0 47, .E 53 1 47, .E 54 2 47, .m 12 52, .m 13 53, .m 14 54] (.seq (.R [.m 55 14, .C 56 .neq 55 0] (.D 56 (.R [.o 57 (.build [(.int .i64 0),(.int .i64 0),(.slice none 0 0)] [(0,1),(1,1),(2,1)] []), .m 58 14, .n (.st 3 (.tmp 6) (.tmp 57)), .m 7 58] .ret) .skip)) (.seq (.R [.m 59 13, .N 60 59, .C 61 .gtr 60 0] (.D 61 (.R [.o 62 (.build [(.int .i64 0),(.int .i64 0),(.slice none 0 0)] [(0,1),(1,1),(2,1)] []), .n (.st 3 (.tmp 6) (.tmp 62)), .k 7 3] .ret) .skip)) (.R [.m 64 0, .m 65 2, .o 66 (.call 73 [(.tmp 64),(.tmp 65),(.const (.slice none 0 0))]), .m 63 66, .E 67 0 63, .E 68 1 63, .m 2 67] (.R [.m 69 0, .m 70 1, .o 71 (.build [(.int .i64 0),(.int .i64 0),(.slice none 0 0)] [(0,1),(1,1),(2,1)] [(0,(.tmp 69)),(1,(.tmp 70))]), .o 15 (.alloc 35 [(.int .i64 0),(.int .i64 0),(.slice none 0 0)]), .n (.st 3 (.tmp 15) (.tmp 71))] (.seq (.R [.k 16 0] (.block 0 [6,15] (.loop [1,2,6,15,16] c19L0))) (.R [.o 93 (.ld true 3 (.tmp 15)), .Q 94 74 [93], .E 95 0 94, .E 96 1 94, .n (.st 3 (.tmp 6) (.tmp 95)), .m 7 96] .ret)))))))))))))
def F19:AFun:=⟨c19,3,97,[(.cell 6 true 3),(.tmp 7)]⟩
def K19:Nat→List Nat×List Nat
 |0=>([1,2,6,15,16],[6,15])
 |1=>([],[1,2,6,15,16])
 |_=>([],[])
theorem F19_ok:kj8 Tryz.prog K19 noRg Tryz.f19=some F19:=by kernel_rfl
/- 21: syndrome/cyclic.BCH -/
def c21L0:ACode:=(.R [.B 44 .lss 43 42] (.seq (.D 44 .skip (.exit 0)) (.seq (.block 1 [0,1,2,8,12,42,43] (.R [.m 45 43, .m 13 45] (.region [.m 46 12, .m 47 2, .m 48 13, .B 49 .add 47 48, .m 50 1, .B 51 .rem 49 50, .o 52 (.mkSl 3 1 1 [(.tmp 51)]), .o 53 (.app 3 1 8 (.tmp 46) (.tmp 52)), .m 12 53]))) (.region [.C 54 .add 43 1, .m 43 54]))))
def c21:ACode:=(.R [.o 8 (.alloc 35 [(.int .i64 0),(.int .i64 0),(.slice none 0 0)]), .k 9 0] (.seq (.R [.m 17 0, .m 18 1, .Q 19 10 [17,18], .m 16 19, .E 20 0 16, .E 21 1 16, .m 10 20, .m 11 21] (.R [.m 22 11, .C 23 .neq 22 0] (.D 23 (.R [.o 24 (.build [(.int .i64 0),(.int .i64 0),(.slice none 0 0)] [(0,1),(1,1),(2,1)] []), .m 25 11, .n (.st 3 (.tmp 8) (.tmp 24)), .m 9 25] .ret) .skip))) (.seq (.R [.m 26 2, .C 27 .lss 26 0, .m 28 27, .G 29 2 28 false, .G 30 1 28 false, .g 31 (.b .geq 29 30) 28 false, .P 32 28 31] (.D 32 (.R [.o 33 (.build [(.int .i64 0),(.int .i64 0),(.slice none 0 0)] [(0,1),(1,1),(2,1)] []), .n (.st 3 (.tmp 8) (.tmp 33)), .k 9 10] .ret) .skip)) (.seq (.R [.m 34 3, .C 35 .lss 34 0, .m 36 35, .G 37 3 36 false, .G 38 1 36 false, .g 39 (.b .geq 37 38) 36 false, .P 40 36 39] (.D 40 (.R [.o 41 (.build [(.int .i64 0),(.int .i64 0),(.slice none 0 0)] [(0,1),(1,1),(2,1)] []), .n (.st 3 (.tmp 8) (.tmp 41)), .k 9 6] .ret) .skip)) (.R [.Z 12] (.seq (.R [.m 42 3, .k 43 0] (.block 0 [0,1,8,12] (.loop [0,1,2,8,12,42,43] c21L0))) (.R [.m 56 0, .m 57 1, .m 58 12, .Q 59 13 [56,57,58], .m 55 59, .E 60 0 55, .E 61 1 55, .m 14 60, .m 15 61] (.seq (.R [.m 62 15, .C 63 .neq 62 0] (.D 63 (.R [.o 64 (.build [(.int .i64 0),(.int .i64 0),(.slice none 0 0)] [(0,1),(1,1),(2,1)] []), .m 65 15, .n (.st 3 (.tmp 8) (.tmp 64)), .m 9 65] .ret) .skip)) (.R [.m 66 0, .m 67 1, .m 68 14, .Q 69 19 [66,67,68], .E 70 0 69, .E 71 1 69, .n (.st 3 (.tmp 8) (.tmp 70)), .m 9 71] .ret)))))))))
def F21:AFun:=⟨c21,4,72,[(.cell 8 true 3),(.tmp 9)]⟩
def K21:Nat→List Nat×List Nat
 |0=>([0,1,2,8,12,42,43],[0,1,8,12])
 |1=>([],[0,1,2,8,12,42,43])
 |_=>([],[])
theorem F21_ok:kj8 Tryz.prog K21 noRg Tryz.f21=some F21:=by kernel_rfl
/- 26: syndrome/syndromeref.Pick -/
def c26:ACode:=(.R [.k 4 0] (.seq (.R [.m 5 0, .C 6 .lss 5 0] (.D 6 (.region [.m 7 0, .C 8 .add 7 1, .o 9 (.un .neg (.tmp 8)), .m 0 9]) .skip)) (.R [.m 10 0, .m 11 1, .B 12 .rem 10 11, .m 4 12] .ret)))
def F26:AFun:=⟨c26,2,13,[(.tmp 4)]⟩
def K26:Nat→List Nat×List Nat
 |_=>([],[])
theorem F26_ok:kj8 Tryz.prog K26 noRg Tryz.f26=some F26:=by kernel_rfl
/- 28: syndrome/syndrometop.sizeOf -/
def c28:ACode:=(.R [.k 2 0, .k 3 0] (.R [.o 6 (.mkSl 3 1 2 [(.const (.int .i64 2)),(.const (.int .i64 3))]), .o 7 (.mkSl 3 1 2 [(.const (.int .i64 2)),(.const (.int .i64 5))]), .o 8 (.mkSl 3 1 2 [(.const (.int .i64 2)),(.const (.int .i64 7))]), .o 9 (.mkSl 3 1 2 [(.const (.int .i64 2)),(.const (.int .i64 9))]), .o 10 (.mkSl 3 1 2 [(.const (.int .i64 2)),(.const (.int .i64 15))]), .o 11 (.mkSl 3 1 2 [(.const (.int .i64 2)),(.const (.int .i64 21))]), .o 12 (.mkSl 3 1 2 [(.const (.int .i64 3)),(.const (.int .i64 4))]), .o 13 (.mkSl 3 1 2 [(.const (.int .i64 3)),(.const (.int .i64 8))]), .o 14 (.mkSl 3 1 2 [(.const (.int .i64 3)),(.const (.int .i64 13))]), .o 15 (.mkSl 3 1 2 [(.const (.int .i64 4)),(.const (.int .i64 3))]), .o 16 (.mkSl 3 1 2 [(.const (.int .i64 4)),(.const (.int .i64 5))]), .o 17 (.mkSl 3 1 2 [(.const (.int .i64 4)),(.const (.int .i64 15))]), .o 18 (.mkSl 3 1 2 [(.const (.int .i64 5)),(.const (.int .i64 4))]), .o 19 (.mkSl 3 1 2 [(.const (.int .i64 5)),(.const (.int .i64 6))]), .o 20 (.mkSl 3 1 2 [(.const (.int .i64 7)),(.const (.int .i64 6))]), .o 21 (.mkSl 3 1 2 [(.const (.int .i64 8)),(.const (.int .i64 7))]), .o 22 (.mkSl 3 1 2 [(.const (.int .i64 8)),(.const (.int .i64 9))]), .o 23 (.mkSl 3 1 2 [(.const (.int .i64 9)),(.const (.int .i64 8))]), .o 24 (.mkSl 22 1 18 [(.tmp 6),(.tmp 7),(.tmp 8),(.tmp 9),(.tmp 10),(.tmp 11),(.tmp 12),(.tmp 13),(.tmp 14),(.tmp 15),(.tmp 16),(.tmp 17),(.tmp 18),(.tmp 19),(.tmp 20),(.tmp 21),(.tmp 22),(.tmp 23)]), .m 4 24] (.R [.m 25 4, .m 26 0, .m 27 4, .N 28 27, .Q 29 26 [26,28], .I 30 1 25 29, .L 31 30, .m 5 31] (.R [.m 32 5, .o 33 (.iaddr 1 (.tmp 32) (.const (.int .i64 0))), .L 34 33, .m 35 5, .o 36 (.iaddr 1 (.tmp 35) (.const (.int .i64 1))), .L 37 36, .m 2 34, .m 3 37] .ret))))
def F28:AFun:=⟨c28,1,38,[(.tmp 2),(.tmp 3)]⟩
def K28:Nat→List Nat×List Nat
 |_=>([],[])
theorem F28_ok:kj8 Tryz.prog K28 noRg Tryz.f28=some F28:=by kernel_rfl
/- 31: syndrome/syndromeref.Few -/
def c31L0:ACode:=(.seq (.R [.m 7 6, .m 8 1, .B 9 .lss 7 8] (.D 9 .skip (.exit 0))) (.seq (.block 1 [0,1,5,6] (.R [.m 12 5, .m 13 0, .B 14 .mul 12 13, .m 5 14] (.R [.m 15 5, .C 16 .gtr 15 4096] (.D 16 (.R [.o 4 (.mv (.const (.bool false)))] .ret) .skip)))) (.region [.m 10 6, .C 11 .add 10 1, .m 6 11])))
def c31:ACode:=(.R [.o 4 (.mv (.const (.bool false)))] (.R [.k 5 1] (.seq (.R [.k 6 0] (.block 0 [] (.loop [0,1,5,6] c31L0))) (.R [.o 4 (.mv (.const (.bool true)))] .ret))))
def F31:AFun:=⟨c31,2,17,[(.tmp 4)]⟩
def K31:Nat→List Nat×List Nat
 |0=>([0,1,5,6],[])
 |1=>([],[0,1,5,6])
 |_=>([],[])
theorem F31_ok:kj8 Tryz.prog K31 noRg Tryz.f31=some F31:=by kernel_rfl
/- 32: syndrome/code.Distance -/
def c32L0:ACode:=(.seq (.R [.m 15 6, .m 16 4, .N 17 16, .B 18 .lss 15 17] (.D 18 .skip (.exit 0))) (.seq (.block 1 [4,6] (.R [.m 21 4, .m 22 6, .I 23 1 21 22, .L 24 23, .C 25 .gtr 24 0] (.D 25 (.R [.m 26 6, .m 2 26, .k 3 0] .ret) .skip))) (.region [.m 19 6, .C 20 .add 19 1, .m 6 20])))
def c32:ACode:=(.R [.o 1 (.box 35 3 (.tmp 0)), .k 2 0, .k 3 0] (.R [.o 8 (.ld true 3 (.tmp 1)), .Q 9 87 [8], .m 7 9, .E 10 0 7, .E 11 1 7, .m 4 10, .m 5 11] (.seq (.R [.m 12 5, .C 13 .neq 12 0] (.D 13 (.R [.m 14 5, .k 2 0, .m 3 14] .ret) .skip)) (.seq (.R [.k 6 1] (.block 0 [] (.loop [4,6] c32L0))) (.R [.k 2 0, .k 3 0] .ret)))))
def F32:AFun:=⟨c32,1,27,[(.tmp 2),(.tmp 3)]⟩
def K32:Nat→List Nat×List Nat
 |0=>([4,6],[])
 |1=>([],[4,6])
 |_=>([],[])
theorem F32_ok:kj8 Tryz.prog K32 noRg Tryz.f32=some F32:=by kernel_rfl
/- 48: syndrome/field.New -/
def sh7:List Value:=[(.int .u32 0),(.int .i32 0),(.int .u32 0),(.int .u32 0),(.int .i32 0),(.int .u32 0),(.int .u32 0),(.int .i32 0),(.int .u32 0),(.int .u32 0),(.int .i32 0),(.int .u32 0),(.int .u32 0),(.int .i32 0),(.int .u32 0),(.int .u32 0),(.int .i32 0),(.int .u32 0),(.int .u32 0),(.int .i32 0),(.int .u32 0),(.int .u32 0),(.int .i32 0),(.int .u32 0),(.int .u32 0),(.int .i32 0),(.int .u32 0),(.int .u32 0),(.int .i32 0),(.int .u32 0),(.int .u32 0),(.int .i32 0),(.int .u32 0),(.int .u32 0),(.int .i32 0),(.int .u32 0),(.int .u32 0),(.int .i32 0),(.int .u32 0),(.int .u32 0),(.int .i32 0),(.int .u32 0),(.int .u32 0),(.int .i32 0),(.int .u32 0),(.int .u32 0),(.int .i32 0),(.int .u32 0),(.int .u32 0),(.int .i32 0),(.int .u32 0),(.int .u32 0),(.int .i32 0),(.int .u32 0),(.int .u32 0),(.int .i32 0),(.int .u32 0),(.int .u32 0),(.int .i32 0),(.int .u32 0),(.int .u32 0),(.int .i32 0),(.int .u32 0),(.int .u32 0),(.int .i32 0),(.int .u32 0),(.int .u32 0),(.int .i32 0),(.int .u32 0),(.int .u32 0),(.int .i32 0),(.int .u32 0),(.int .u32 0),(.int .i32 0),(.int .u32 0),(.int .u32 0),(.int .i32 0),(.int .u32 0),(.int .u32 0),(.int .i32 0),(.int .u32 0),(.int .u32 0),(.int .i32 0),(.int .u32 0),(.int .u32 0),(.int .i32 0),(.int .u32 0),(.int .u32 0),(.int .i32 0),(.int .u32 0),(.int .u32 0),(.int .i32 0),(.int .u32 0),(.int .u32 0),(.int .i32 0),(.int .u32 0),(.int .u32 0),(.int .i32 0),(.int .u32 0),(.int .u32 0),(.int .i32 0),(.int .u32 0),(.int .u32 0),(.int .i32 0),(.int .u32 0),(.int .u32 0),(.int .i32 0),(.int .u32 0),(.int .u32 0),(.int .i32 0),(.int .u32 0),(.int .u32 0),(.int .i32 0),(.int .u32 0),(.int .u32 0),(.int .i32 0),(.int .u32 0),(.int .u32 0),(.int .i32 0),(.int .u32 0),(.int .u32 0),(.int .i32 0),(.int .u32 0),(.int .u32 0),(.int .i32 0),(.int .u32 0),(.int .u32 0),(.int .i32 0),(.int .u32 0),(.int .u32 0),(.int .i32 0),(.int .u32 0),(.int .u32 0),(.int .i32 0),(.int .u32 0),(.int .u32 0),(.int .i32 0),(.int .u32 0),(.int .u32 0),(.int .i32 0),(.int .u32 0),(.int .u32 0),(.int .i32 0),(.int .u32 0),(.int .u32 0),(.int .i32 0),(.int .u32 0),(.int .u32 0),(.int .i32 0),(.int .u32 0),(.int .u32 0),(.int .i32 0),(.int .u32 0),(.int .u32 0),(.int .i32 0),(.int .u32 0),(.int .u32 0),(.int .i32 0),(.int .u32 0),(.int .u32 0),(.int .i32 0),(.int .u32 0),(.int .u32 0),(.int .i32 0),(.int .u32 0),(.int .u32 0),(.int .i32 0),(.int .u32 0),(.int .u32 0),(.int .i32 0),(.int .u32 0),(.int .u32 0),(.int .i32 0),(.int .u32 0),(.int .u32 0),(.int .i32 0),(.int .u32 0),(.int .u32 0),(.int .i32 0),(.int .u32 0),(.int .u32 0),(.int .i32 0),(.int .u32 0),(.int .u32 0),(.int .i32 0),(.int .u32 0),(.int .u32 0),(.int .i32 0),(.int .u32 0),(.int .u32 0),(.int .i32 0),(.int .u32 0),(.int .u32 0),(.int .i32 0),(.int .u32 0),(.pointer none),(.pointer none),(.pointer none),(.pointer none),(.pointer none),(.pointer none),(.pointer none),(.pointer none),(.pointer none),(.pointer none),(.pointer none),(.pointer none),(.pointer none),(.pointer none),(.pointer none),(.pointer none),(.pointer none),(.pointer none),(.pointer none),(.pointer none),(.pointer none),(.pointer none),(.pointer none),(.pointer none),(.pointer none),(.pointer none),(.pointer none),(.pointer none),(.pointer none),(.pointer none),(.pointer none),(.pointer none),(.pointer none),(.pointer none),(.pointer none),(.pointer none),(.pointer none),(.pointer none),(.pointer none),(.pointer none),(.pointer none),(.pointer none),(.pointer none),(.pointer none),(.pointer none),(.pointer none),(.pointer none),(.pointer none),(.pointer none),(.pointer none),(.pointer none),(.pointer none),(.pointer none),(.pointer none),(.pointer none),(.pointer none),(.pointer none),(.pointer none),(.pointer none),(.pointer none),(.pointer none),(.pointer none),(.pointer none),(.pointer none),(.pointer none)]
def c48:ACode:=(.R [.o 1 (.box 3 1 (.tmp 0)), .o 2 (.mv (.const (.pointer none))), .k 3 0] (.seq (.R [.L 5 1, .C 6 .lss 5 2, .m 7 6, .H 8 1 7 false, .g 9 (.c .gtr 8 64) 7 false, .P 10 7 9] (.D 10 (.R [.o 2 (.mv (.const (.pointer none))), .k 3 1] .ret) .skip)) (.R [.o 4 (.alloc 131 sh7)] (.R [.L 11 1, .F 12 0 4, .o 13 (.iaddrA 65 3 (.tmp 12) (.tmp 11)), .o 14 (.mkf 104 [(.tmp 1),(.tmp 4)]), .Q 15 103 [13,14]] (.seq (.R [.L 16 1, .F 17 195 4, .o 18 (.iaddrA 65 1 (.tmp 17) (.tmp 16)), .L 19 18, .o 20 (.eqn false 1 (.tmp 19))] (.D 20 (.R [.o 2 (.mv (.const (.pointer none))), .k 3 1] .ret) .skip)) (.R [.L 21 1, .F 22 195 4, .o 23 (.iaddrA 65 1 (.tmp 22) (.tmp 21)), .L 24 23, .m 2 24, .k 3 0] .ret))))))
def F48:AFun:=⟨c48,1,25,[(.tmp 2),(.tmp 3)]⟩
def K48:Nat→List Nat×List Nat
 |_=>([],[])
theorem F48_ok:kj8 Tryz.prog K48 noRg Tryz.f48=some F48:=by kernel_rfl
/- 49: (*syndrome/field.Field).Char -/
def c49:ACode:=(.R [.k 2 0] (.R [.m 3 0, .K 4 3, .F 5 1 4, .L 6 5, .m 2 6] .ret))
def F49:AFun:=⟨c49,1,7,[(.tmp 2)]⟩
def K49:Nat→List Nat×List Nat
 |_=>([],[])
theorem F49_ok:kj8 Tryz.prog K49 noRg Tryz.f49=some F49:=by kernel_rfl
/- 50: slices.Sort[[]int,int] -/
def c50:ACode:=(.R [.m 3 0, .N 4 3, .m 2 4] (.region [.m 5 0, .m 6 2, .m 7 2, .o 8 (.conv .u64 (.tmp 7)), .Q 9 107 [8], .o 10 (.call 106 [(.tmp 5),(.const (.int .i64 0)),(.tmp 6),(.tmp 9)])]))
def F50:AFun:=⟨c50,1,11,[]⟩
def K50:Nat→List Nat×List Nat
 |_=>([],[])
theorem F50_ok:kj8 Tryz.prog K50 noRg Tryz.f50=some F50:=by kernel_rfl
/- 53: syndrome/cyclic.closed -/
def c53L0:ACode:=(.R [.B 31 .lss 30 29] (.seq (.D 31 .skip (.exit 0)) (.seq (.block 1 [5,10,28,29,30] (.R [.I 32 1 28 30, .L 33 32, .m 12 33] (.R [.m 34 12, .o 35 (.mkf 112 [(.tmp 5)]), .Q 36 81 [34,35]] (.D 36 (.region [.m 37 10, .m 38 12, .o 39 (.app 3 1 8 (.tmp 37) (.tmp 38)), .m 10 39]) .skip)))) (.region [.C 40 .add 30 1, .m 30 40]))))
def c53:ACode:=(.R [.o 4 (.box 3 1 (.tmp 1)), .o 5 (.box 22 1 (.tmp 2)), .Z 6, .k 7 0] (.R [.m 14 0, .L 15 4, .Q 16 10 [14,15], .m 13 16, .E 17 0 13, .E 18 1 13, .m 8 17, .m 9 18] (.seq (.R [.m 19 9, .C 20 .neq 19 0] (.D 20 (.R [.m 21 9, .Z 6, .m 7 21] .ret) .skip)) (.seq (.R [.L 22 5, .N 23 22, .C 24 .gtr 23 64] (.D 24 (.R [.Z 6, .k 7 4] .ret) .skip)) (.seq (.R [.L 25 5, .o 26 (.mkf 111 [(.tmp 4)]), .Q 27 81 [25,26]] (.D 27 (.R [.Z 6, .k 7 10] .ret) .skip)) (.R [.Z 10] (.seq (.R [.m 28 8, .N 29 28, .k 30 0] (.block 0 [10] (.loop [5,10,28,29,30] c53L0))) (.R [.m 41 10, .Q 42 50 [41]] (.R [.m 43 10, .m 6 43, .k 7 0] .ret)))))))))
def F53:AFun:=⟨c53,3,44,[(.tmp 6),(.tmp 7)]⟩
def K53:Nat→List Nat×List Nat
 |0=>([5,10,28,29,30],[10])
 |1=>([],[5,10,28,29,30])
 |_=>([],[])
theorem F53_ok:kj8 Tryz.prog K53 noRg Tryz.f53=some F53:=by kernel_rfl
/- 54: syndrome/cyclic.home -/
def c54L0:ACode:=(.seq (.R [.m 32 9, .C 33 .leq 32 64] (.D 33 .skip (.exit 0))) (.seq (.block 1 [0,1,9] (.R [.m 37 9, .C 38 .sub 37 1, .m 39 1, .B 40 .rem 38 39, .C 41 .eql 40 0] (.D 41 (.R [.m 43 9, .Q 44 48 [43], .m 42 44, .E 45 0 42, .E 46 1 42, .m 10 45, .m 11 46] (.R [.m 47 10, .m 48 10, .m 49 10, .Q 50 113 [49], .m 51 9, .C 52 .sub 51 1, .m 53 1, .B 54 .quo 52 53, .Q 55 58 [48,50,54], .m 4 47, .m 5 55, .k 6 0] .ret)) .skip))) (.region [.m 34 9, .m 35 0, .B 36 .mul 34 35, .m 9 36])))
def c54:ACode:=(.R [.o 4 (.mv (.const (.pointer none))), .k 5 0, .k 6 0] (.R [.m 13 0, .Q 14 48 [13], .m 12 14, .E 15 0 12, .E 16 1 12, .m 7 15, .m 8 16] (.seq (.R [.m 17 8, .C 18 .neq 17 0] (.D 18 (.R [.m 19 8, .o 4 (.mv (.const (.pointer none))), .k 5 0, .m 6 19] .ret) .skip)) (.seq (.R [.m 20 1, .C 21 .lss 20 1, .m 22 21, .G 23 1 22 false, .g 24 (.c .gtr 23 64) 22 false, .P 25 22 24] (.D 25 (.R [.o 4 (.mv (.const (.pointer none))), .k 5 0, .k 6 4] .ret) .skip)) (.seq (.R [.m 26 1, .m 27 7, .Q 28 49 [27], .B 29 .rem 26 28, .C 30 .eql 29 0] (.D 30 (.R [.o 4 (.mv (.const (.pointer none))), .k 5 0, .k 6 3] .ret) .skip)) (.seq (.R [.m 31 0, .m 9 31] (.block 0 [] (.loop [0,1,9] c54L0))) (.R [.o 4 (.mv (.const (.pointer none))), .k 5 0, .k 6 4] .ret)))))))
def F54:AFun:=⟨c54,2,56,[(.tmp 4),(.tmp 5),(.tmp 6)]⟩
def K54:Nat→List Nat×List Nat
 |0=>([0,1,9],[])
 |1=>([],[0,1,9])
 |_=>([],[])
theorem F54_ok:kj8 Tryz.prog K54 noRg Tryz.f54=some F54:=by kernel_rfl
/- 55: syndrome/poly.Mul -/
def c55:ACode:=(.R [.Z 6, .k 7 0] (.R [.m 11 0, .m 12 1, .m 13 2, .Q 14 114 [11,12,13], .m 10 14, .E 15 0 10, .E 16 1 10, .E 17 2 10, .E 18 3 10, .m 8 15, .m 1 16, .m 2 17, .m 9 18] (.seq (.R [.m 19 9, .C 20 .neq 19 0] (.D 20 (.R [.m 21 9, .Z 6, .m 7 21] .ret) .skip)) (.seq (.R [.m 22 1, .N 23 22, .C 24 .eql 23 0, .m 25 24, .G 26 2 25 false, .g 27 (.n 26) 25 false, .g 28 (.c .eql 27 0) 25 false, .P 29 25 28] (.D 29 (.R [.Z 6, .k 7 0] .ret) .skip)) (.seq (.R [.m 30 1, .N 31 30, .m 32 2, .N 33 32, .B 34 .add 31 33, .C 35 .sub 34 1, .C 36 .gtr 35 128] (.D 36 (.R [.Z 6, .k 7 4] .ret) .skip)) (.R [.m 37 8, .m 38 1, .m 39 2, .Q 40 115 [37,38,39], .m 6 40, .k 7 0] .ret))))))
def F55:AFun:=⟨c55,3,41,[(.tmp 6),(.tmp 7)]⟩
def K55:Nat→List Nat×List Nat
 |_=>([],[])
theorem F55_ok:kj8 Tryz.prog K55 noRg Tryz.f55=some F55:=by kernel_rfl
/- 56: (*syndrome/field.Field).Size -/
def c56:ACode:=(.R [.k 2 0] (.R [.m 3 0, .K 4 3, .F 5 0 4, .L 6 5, .m 2 6] .ret))
def F56:AFun:=⟨c56,1,7,[(.tmp 2)]⟩
def K56:Nat→List Nat×List Nat
 |_=>([],[])
theorem F56_ok:kj8 Tryz.prog K56 noRg Tryz.f56=some F56:=by kernel_rfl
/- 57: (*syndrome/field.Field).Neg -/
def c57L0:ACode:=(.R [.B 16 .lss 15 14] (.seq (.D 16 .skip (.exit 0)) (.seq (.block 1 [0,1,5,6,14,15] (.R [.m 17 5, .m 18 0, .K 19 18, .F 20 1 19, .L 21 20, .m 22 1, .m 23 0, .K 24 23, .F 25 1 24, .L 26 25, .B 27 .rem 22 26, .B 28 .sub 21 27, .m 29 0, .K 30 29, .F 31 1 30, .L 32 31, .B 33 .rem 28 32, .m 34 6, .B 35 .mul 33 34, .B 36 .add 17 35, .m 5 36] (.region [.m 37 1, .m 38 0, .K 39 38, .F 40 1 39, .L 41 40, .B 42 .quo 37 41, .m 43 6, .m 44 0, .K 45 44, .F 46 1 45, .L 47 46, .B 48 .mul 43 47, .m 1 42, .m 6 48]))) (.region [.C 49 .add 15 1, .m 15 49]))))
def c57:ACode:=(.R [.k 4 0] (.seq (.R [.m 7 0, .m 8 1, .Q 9 83 [7,8], .o 10 (.un .not (.tmp 9))] (.D 10 (.R [.k 4 (-1)] .ret) .skip)) (.R [.k 5 0, .k 6 1] (.seq (.R [.m 11 0, .K 12 11, .F 13 2 12, .L 14 13, .k 15 0] (.block 0 [5] (.loop [0,1,5,6,14,15] c57L0))) (.R [.m 50 5, .m 4 50] .ret)))))
def F57:AFun:=⟨c57,2,51,[(.tmp 4)]⟩
def K57:Nat→List Nat×List Nat
 |0=>([0,1,5,6,14,15],[5])
 |1=>([],[0,1,5,6,14,15])
 |_=>([],[])
theorem F57_ok:kj8 Tryz.prog K57 noRg Tryz.f57=some F57:=by kernel_rfl
/- 58: (*syndrome/field.Field).Pow -/
def c58:ACode:=(.R [.k 6 0] (.seq (.R [.m 7 0, .m 8 1, .Q 9 83 [7,8], .o 10 (.un .not (.tmp 9)), .m 11 10, .G 12 1 11 false, .g 13 (.c .eql 12 0) 11 false, .G 14 13 11 false, .G 15 2 14 true, .g 16 (.c .lss 15 0) 14 true, .g 17 (.pick (.tmp 14) (.tmp 16) (.const (.bool false))) 11 false, .P 18 11 17] (.D 18 (.R [.k 6 (-1)] .ret) .skip)) (.seq (.R [.m 19 2, .C 20 .eql 19 0] (.D 20 (.R [.k 6 1] .ret) .skip)) (.seq (.R [.m 21 1, .C 22 .eql 21 0] (.D 22 (.R [.k 6 0] .ret) .skip)) (.R [.m 23 2, .m 24 0, .K 25 24, .F 26 0 25, .L 27 26, .C 28 .sub 27 1, .B 29 .rem 23 28, .m 2 29] (.seq (.R [.m 30 2, .C 31 .lss 30 0] (.D 31 (.region [.m 32 2, .m 33 0, .K 34 33, .F 35 0 34, .L 36 35, .C 37 .sub 36 1, .B 38 .add 32 37, .m 2 38]) .skip)) (.R [.m 39 0, .K 40 39, .F 41 5 40, .L 42 41, .m 43 0, .K 44 43, .F 45 6 44, .L 46 45, .m 47 1, .I 48 1 46 47, .L 49 48, .m 50 2, .B 51 .mul 49 50, .m 52 0, .K 53 52, .F 54 0 53, .L 55 54, .C 56 .sub 55 1, .B 57 .rem 51 56, .I 58 1 42 57, .L 59 58, .m 6 59] .ret)))))))
def F58:AFun:=⟨c58,3,60,[(.tmp 6)]⟩
def K58:Nat→List Nat×List Nat
 |_=>([],[])
theorem F58_ok:kj8 Tryz.prog K58 noRg Tryz.f58=some F58:=by kernel_rfl
/- 59: syndrome/field.Embed -/
def c59L0:ACode:=(.seq (.R [.m 68 9, .C 69 .eql 68 0, .m 70 69, .G 71 8 70 false, .G 72 6 70 false, .g 73 (.nilck (.tmp 72)) 70 false, .g 74 (.f 3 73) 70 false, .H 75 74 70 false, .G 76 9 70 false, .g 77 (.q 116 [71,75,76]) 70 false, .g 78 (.c .neq 77 0) 70 false, .P 79 70 78] (.D 79 .skip (.exit 0))) (.seq (.block 1 [0,6,8,9,10,11] (.region [.m 83 8, .K 84 83, .F 85 5 84, .L 86 85, .m 87 11, .m 88 8, .K 89 88, .F 90 0 89, .L 91 90, .C 92 .sub 91 1, .B 93 .rem 87 92, .I 94 1 86 93, .L 95 94, .m 9 95])) (.region [.m 80 11, .m 81 10, .B 82 .add 80 81, .m 11 82])))
def c59L1:ACode:=(.R [.B 101 .lss 100 99] (.seq (.D 101 .skip (.exit 2)) (.seq (.block 3 [6,8,9,12,99,100] (.R [.m 102 100, .m 13 102] (.region [.m 103 12, .m 104 13, .m 105 8, .m 106 13, .m 107 6, .K 108 107, .F 109 1 108, .L 110 109, .m 111 6, .K 112 111, .F 113 2 112, .L 114 113, .Q 115 117 [106,110,114], .m 116 9, .Q 117 116 [105,115,116], .I 118 1 103 104, .S 118 117]))) (.region [.C 119 .add 100 1, .m 100 119]))))
def c59:ACode:=(.R [.Z 4, .k 5 0] (.R [.m 15 0, .Q 16 48 [15], .m 14 16, .E 17 0 14, .E 18 1 14, .m 6 17, .m 7 18] (.seq (.R [.m 19 7, .C 20 .neq 19 0] (.D 20 (.R [.m 21 7, .Z 4, .m 5 21] .ret) .skip)) (.R [.m 23 1, .Q 24 48 [23], .m 22 24, .E 25 0 22, .E 26 1 22, .m 8 25, .m 7 26] (.seq (.R [.m 27 7, .C 28 .neq 27 0] (.D 28 (.R [.m 29 7, .Z 4, .m 5 29] .ret) .skip)) (.seq (.R [.m 30 6, .K 31 30, .F 32 1 31, .L 33 32, .m 34 8, .K 35 34, .F 36 1 35, .L 37 36, .B 38 .neq 33 37, .m 39 38, .G 40 8 39 false, .g 41 (.nilck (.tmp 40)) 39 false, .g 42 (.f 2 41) 39 false, .H 43 42 39 false, .G 44 6 39 false, .g 45 (.nilck (.tmp 44)) 39 false, .g 46 (.f 2 45) 39 false, .H 47 46 39 false, .g 48 (.b .rem 43 47) 39 false, .g 49 (.c .neq 48 0) 39 false, .P 50 39 49] (.D 50 (.R [.Z 4, .k 5 3] .ret) .skip)) (.R [.k 9 0] (.seq (.R [.m 51 6, .K 52 51, .F 53 2 52, .L 54 53, .C 55 .gtr 54 1] (.D 55 (.R [.m 56 8, .K 57 56, .F 58 0 57, .L 59 58, .C 60 .sub 59 1, .m 61 6, .K 62 61, .F 63 0 62, .L 64 63, .C 65 .sub 64 1, .B 66 .quo 60 65, .m 10 66] (.R [.m 67 10, .m 11 67] (.block 0 [0,6,8,9] (.loop [0,6,8,9,10,11] c59L0)))) .skip)) (.R [.m 96 0, .o 97 (.mks 3 1 8 [(.int .i64 0)] (.tmp 96) (.tmp 96)), .m 12 97] (.seq (.R [.m 98 12, .N 99 98, .k 100 0] (.block 2 [12] (.loop [6,8,9,12,99,100] c59L1))) (.R [.m 120 12, .m 4 120, .k 5 0] .ret)))))))))))
def F59:AFun:=⟨c59,2,121,[(.tmp 4),(.tmp 5)]⟩
def K59:Nat→List Nat×List Nat
 |0=>([0,6,8,9,10,11],[0,6,8,9])
 |1=>([],[0,6,8,9,10,11])
 |2=>([6,8,9,12,99,100],[12])
 |3=>([],[6,8,9,12,99,100])
 |_=>([],[])
theorem F59_ok:kj8 Tryz.prog K59 noRg Tryz.f59=some F59:=by kernel_rfl
/- 60: slices.Index[[]int,int] -/
def c60L0:ACode:=(.R [.B 9 .lss 8 7] (.seq (.D 9 .skip (.exit 0)) (.seq (.block 1 [0,1,7,8] (.R [.m 10 8, .m 5 10] (.R [.m 11 1, .m 12 0, .m 13 5, .I 14 1 12 13, .L 15 14, .B 16 .eql 11 15] (.D 16 (.R [.m 17 5, .m 4 17] .ret) .skip)))) (.region [.C 18 .add 8 1, .m 8 18]))))
def c60:ACode:=(.R [.k 4 0] (.seq (.R [.m 6 0, .N 7 6, .k 8 0] (.block 0 [] (.loop [0,1,7,8] c60L0))) (.R [.k 4 (-1)] .ret)))
def F60:AFun:=⟨c60,2,19,[(.tmp 4)]⟩
def K60:Nat→List Nat×List Nat
 |0=>([0,1,7,8],[])
 |1=>([],[0,1,7,8])
 |_=>([],[])
theorem F60_ok:kj8 Tryz.prog K60 noRg Tryz.f60=some F60:=by kernel_rfl
/- 67: syndrome/cyclic.prime -/
def c67L0:ACode:=(.seq (.R [.m 5 1, .C 6 .neq 5 0] (.D 6 .skip (.exit 0))) (.block 1 [0,1] (.region [.m 7 1, .m 8 0, .m 9 1, .B 10 .rem 8 9, .m 0 7, .m 1 10])))
def c67:ACode:=(.R [.o 4 (.mv (.const (.bool false)))] (.seq (.block 0 [0] (.loop [0,1] c67L0)) (.R [.m 11 0, .C 12 .eql 11 1, .m 4 12] .ret)))
def F67:AFun:=⟨c67,2,13,[(.tmp 4)]⟩
def K67:Nat→List Nat×List Nat
 |0=>([0,1],[0])
 |1=>([],[0,1])
 |_=>([],[])
theorem F67_ok:kj8 Tryz.prog K67 noRg Tryz.f67=some F67:=by kernel_rfl
/- 68: slices.Contains[[]int,int] -/
def c68:ACode:=(.R [.o 4 (.mv (.const (.bool false)))] (.R [.m 5 0, .m 6 1, .Q 7 60 [5,6], .C 8 .geq 7 0, .m 4 8] .ret))
def F68:AFun:=⟨c68,2,9,[(.tmp 4)]⟩
def K68:Nat→List Nat×List Nat
 |_=>([],[])
theorem F68_ok:kj8 Tryz.prog K68 noRg Tryz.f68=some F68:=by kernel_rfl
/- 71: syndrome/poly.Check -/
def c71L0:ACode:=(.R [.B 23 .lss 22 21] (.seq (.D 23 .skip (.exit 0)) (.seq (.block 1 [5,20,21,22] (.R [.I 24 1 20 22, .L 25 24, .m 8 25] (.R [.m 26 5, .m 27 8, .Q 28 83 [26,27], .o 29 (.un .not (.tmp 28))] (.D 29 (.R [.k 4 2] .ret) .skip)))) (.region [.C 30 .add 22 1, .m 22 30]))))
def c71:ACode:=(.R [.k 4 0] (.R [.m 10 0, .Q 11 48 [10], .m 9 11, .E 12 0 9, .E 13 1 9, .m 5 12, .m 6 13] (.seq (.R [.m 14 6, .C 15 .neq 14 0] (.D 15 (.R [.m 16 6, .m 4 16] .ret) .skip)) (.seq (.R [.m 17 1, .N 18 17, .C 19 .gtr 18 128] (.D 19 (.R [.k 4 4] .ret) .skip)) (.seq (.R [.m 20 1, .N 21 20, .k 22 0] (.block 0 [] (.loop [5,20,21,22] c71L0))) (.R [.k 4 0] .ret))))))
def F71:AFun:=⟨c71,2,31,[(.tmp 4)]⟩
def K71:Nat→List Nat×List Nat
 |0=>([5,20,21,22],[])
 |1=>([],[5,20,21,22])
 |_=>([],[])
theorem F71_ok:kj8 Tryz.prog K71 noRg Tryz.f71=some F71:=by kernel_rfl
/- 72: syndrome/poly.Div -/
def c72:ACode:=(.R [.Z 6, .Z 7, .k 8 0] (.R [.m 11 0, .m 12 1, .m 13 2, .Q 14 114 [11,12,13], .m 10 14, .E 15 0 10, .E 16 1 10, .E 17 2 10, .E 18 3 10, .m 9 15, .m 1 16, .m 2 17, .m 8 18] (.seq (.R [.m 19 8, .C 20 .neq 19 0] (.D 20 (.R [.m 21 8, .Z 6, .Z 7, .m 8 21] .ret) .skip)) (.seq (.R [.m 22 2, .N 23 22, .C 24 .eql 23 0] (.D 24 (.R [.Z 6, .Z 7, .k 8 5] .ret) .skip)) (.R [.m 26 9, .m 27 1, .m 28 2, .Q 29 123 [26,27,28], .m 25 29, .E 30 0 25, .E 31 1 25, .m 6 30, .m 7 31] (.R [.m 32 6, .m 33 7, .m 6 32, .m 7 33, .k 8 0] .ret))))))
def F72:AFun:=⟨c72,3,34,[(.tmp 6),(.tmp 7),(.tmp 8)]⟩
def K72:Nat→List Nat×List Nat
 |_=>([],[])
theorem F72_ok:kj8 Tryz.prog K72 noRg Tryz.f72=some F72:=by kernel_rfl
/- 73: syndrome/poly.Add -/
def c73L0:ACode:=(.R [.B 34 .lss 33 32] (.seq (.D 34 .skip (.exit 0)) (.seq (.block 1 [1,8,31,32,33] (.R [.m 35 33, .I 36 1 31 33, .L 37 36, .m 10 35, .m 11 37] (.region [.m 38 1, .m 39 10, .m 40 8, .m 41 1, .m 42 10, .I 43 1 41 42, .L 44 43, .m 45 11, .Q 46 92 [40,44,45], .I 47 1 38 39, .S 47 46]))) (.region [.C 48 .add 33 1, .m 33 48]))))
def c73:ACode:=(.R [.Z 6, .k 7 0] (.R [.m 13 0, .m 14 1, .m 15 2, .Q 16 114 [13,14,15], .m 12 16, .E 17 0 12, .E 18 1 12, .E 19 2 12, .E 20 3 12, .m 8 17, .m 1 18, .m 2 19, .m 9 20] (.seq (.R [.m 21 9, .C 22 .neq 21 0] (.D 22 (.R [.m 23 9, .Z 6, .m 7 23] .ret) .skip)) (.seq (.R [.m 24 1, .N 25 24, .m 26 2, .N 27 26, .B 28 .lss 25 27] (.D 28 (.region [.m 29 2, .m 30 1, .m 1 29, .m 2 30]) .skip)) (.seq (.R [.m 31 2, .N 32 31, .k 33 0] (.block 0 [1] (.loop [1,8,31,32,33] c73L0))) (.R [.m 49 1, .Q 50 124 [49], .m 6 50, .k 7 0] .ret))))))
def F73:AFun:=⟨c73,3,51,[(.tmp 6),(.tmp 7)]⟩
def K73:Nat→List Nat×List Nat
 |0=>([1,8,31,32,33],[1])
 |1=>([],[1,8,31,32,33])
 |_=>([],[])
theorem F73_ok:kj8 Tryz.prog K73 noRg Tryz.f73=some F73:=by kernel_rfl
/- 74: syndrome/code.Make -/
def c74:ACode:=(.R [.o 1 (.box 35 3 (.tmp 0)), .o 2 (.alloc 35 [(.int .i64 0),(.int .i64 0),(.slice none 0 0)]), .k 3 0] (.seq (.R [.o 8 (.ld true 3 (.tmp 1)), .Q 9 125 [8], .m 4 9] (.R [.m 10 4, .C 11 .neq 10 0] (.D 11 (.R [.o 12 (.build [(.int .i64 0),(.int .i64 0),(.slice none 0 0)] [(0,1),(1,1),(2,1)] []), .m 13 4, .n (.st 3 (.tmp 2) (.tmp 12)), .m 3 13] .ret) .skip))) (.R [.F 15 0 1, .L 16 15, .F 17 2 1, .L 18 17, .Q 19 126 [16,18], .m 14 19, .E 20 0 14, .E 21 1 14, .E 22 2 14, .m 5 20, .m 6 21, .m 7 22] (.R [.F 23 0 1, .L 24 23, .F 25 1 1, .L 26 25, .m 27 5, .o 28 (.build [(.int .i64 0),(.int .i64 0),(.slice none 0 0)] [(0,1),(1,1),(2,1)] [(0,(.tmp 24)),(1,(.tmp 26)),(2,(.tmp 27))]), .n (.st 3 (.tmp 2) (.tmp 28)), .k 3 0] .ret))))
def F74:AFun:=⟨c74,1,29,[(.cell 2 true 3),(.tmp 3)]⟩
def K74:Nat→List Nat×List Nat
 |_=>([],[])
theorem F74_ok:kj8 Tryz.prog K74 noRg Tryz.f74=some F74:=by kernel_rfl
/- 81: slices.ContainsFunc[[]int,int] -/
def c81:ACode:=(.R [.o 4 (.mv (.const (.bool false)))] (.R [.m 5 0, .m 6 1, .Q 7 130 [5,6], .C 8 .geq 7 0, .m 4 8] .ret))
def F81:AFun:=⟨c81,2,9,[(.tmp 4)]⟩
def K81:Nat→List Nat×List Nat
 |_=>([],[])
theorem F81_ok:kj8 Tryz.prog K81 noRg Tryz.f81=some F81:=by kernel_rfl
/- 83: (*syndrome/field.Field).Has -/
def c83:ACode:=(.R [.o 4 (.mv (.const (.bool false)))] (.R [.m 5 1, .C 6 .geq 5 0, .m 7 6, .G 8 1 7 true, .G 9 0 7 true, .g 10 (.nilck (.tmp 9)) 7 true, .g 11 (.f 0 10) 7 true, .H 12 11 7 true, .g 13 (.b .lss 8 12) 7 true, .o 14 (.pick (.tmp 7) (.tmp 13) (.const (.bool false))), .m 4 14] .ret))
def F83:AFun:=⟨c83,2,15,[(.tmp 4)]⟩
def K83:Nat→List Nat×List Nat
 |_=>([],[])
theorem F83_ok:kj8 Tryz.prog K83 noRg Tryz.f83=some F83:=by kernel_rfl
/- 84: syndrome/code.encode -/
def c84L0:ACode:=(.R [.B 29 .lss 28 27] (.seq (.D 29 .skip (.exit 2)) (.seq (.block 3 [0,4,7,9,15,16,17,26,27,28] (.R [.m 30 28, .I 31 1 26 28, .L 32 31, .m 10 30, .m 11 32] (.region [.m 33 7, .m 34 10, .m 35 0, .m 36 7, .m 37 10, .I 38 1 36 37, .L 39 38, .m 40 0, .m 41 9, .m 42 11,⟨(some 43),(.call 93 [(.tmp 40),(.tmp 41),(.tmp 42)]),none,true⟩, .Q 44 92 [35,39,43], .I 45 1 33 34, .S 45 44]))) (.region [.C 46 .add 28 1, .m 28 46]))))
def c84L1:ACode:=(.R [.B 18 .lss 17 16] (.seq (.D 18 .skip (.exit 0)) (.seq (.block 1 [0,4,7,15,16,17] (.R [.m 19 17, .I 20 1 15 17, .L 21 20, .m 8 19, .m 9 21] (.R [.F 22 2 4, .L 23 22, .m 24 8, .I 25 1 23 24, .L 26 25, .N 27 26, .k 28 0] (.block 2 [0,4,7,15,16,17] (.loop [0,4,7,9,15,16,17,26,27,28] c84L0))))) (.region [.C 47 .add 17 1, .m 17 47]))))
def c84:ACode:=(.R [.o 4 (.box 35 3 (.tmp 1)), .Z 6] (.R [.F 12 1 4, .L 13 12, .o 14 (.mks 3 1 8 [(.int .i64 0)] (.tmp 13) (.tmp 13)), .m 7 14] (.seq (.R [.m 15 2, .N 16 15, .k 17 0] (.block 0 [7] (.loop [0,4,7,15,16,17] c84L1))) (.R [.m 48 7, .m 6 48] .ret))))
def F84:AFun:=⟨c84,3,49,[(.tmp 6)]⟩
def K84:Nat→List Nat×List Nat
 |0=>([0,4,7,15,16,17],[7])
 |1=>([],[0,4,7,15,16,17])
 |2=>([0,4,7,9,15,16,17,26,27,28],[0,4,7,15,16,17])
 |3=>([],[0,4,7,9,15,16,17,26,27,28])
 |_=>([],[])
theorem F84_ok:kj8 Tryz.prog K84 noRg Tryz.f84=some F84:=by kernel_rfl
/- 87: syndrome/code.Weights -/
def c87L0:ACode:=(.seq (.R [.m 59 38, .C 60 .geq 59 0] (.D 60 .skip (.exit 2))) (.seq (.block 3 [5,33,35,37,38,113] (.R [.m 63 37, .m 64 38, .I 65 1 63 64, .L 66 65, .C 67 .add 66 1, .I 68 1 63 64, .S 68 67] (.seq (.R [.m 69 37, .m 70 38, .I 71 1 69 70, .L 72 71, .F 73 0 33, .L 74 73, .B 75 .lss 72 74] (.D 75 (.exit 2) .skip)) (.region [.m 76 37, .m 77 38, .I 78 1 76 77, .n (.st 1 (.tmp 78) (.const (.int .i64 0)))])))) (.region [.m 61 38, .C 62 .sub 61 1, .m 38 62])))
def c87L1:ACode:=(.seq (.seq (.R [.m 50 37, .m 51 35, .o 52 (.ld true 3 (.tmp 33)), .m 53 37, .Q 54 84 [51,52,53], .o 113 (.pick (.tmp 113) (.tmp 114) (.const (.bool false))), .m 86 5, .m 103 50, .m 104 54] (.seq (.block 1001 [5,33,35,37,113] (.R [.m 88 104] (.block 1 [5,33,35,37,113] (.region [.L 105 86, .m 106 88,⟨(some 107),(.call 94 [(.tmp 106)]),none,true⟩, .I 108 1 105 107, .L 109 108, .C 110 .add 109 1, .I 111 1 105 107, .S 111 110])))) (.region [.o 55 (.un .not (.tmp 113))]))) (.D 55 .skip (.exit 0))) (.block 1 [5,33,35,37,113] (.R [.m 56 37, .N 57 56, .C 58 .sub 57 1, .m 38 58] (.seq (.block 2 [5,33,35,37,38,113] (.loop [5,33,35,37,38,113] c87L0)) (.R [.m 79 38, .C 80 .lss 79 0] (.D 80 (.exit 1000) .skip))))))
def c87:ACode:=(.R [.o 1 (.box 35 3 (.tmp 0)), .Z 2, .k 3 0] (.R [.o 9 (.ld true 3 (.tmp 1)), .Q 10 133 [9], .m 8 10, .E 11 0 8, .E 12 1 8, .n (.st 3 (.tmp 1) (.tmp 11)), .m 4 12] (.seq (.R [.m 13 4, .C 14 .neq 13 0] (.D 14 (.R [.m 15 4, .Z 2, .m 3 15] .ret) .skip)) (.R [.F 16 1 1, .L 17 16, .C 18 .add 17 1, .o 19 (.mks 3 1 8 [(.int .i64 0)] (.tmp 18) (.tmp 18)), .o 5 (.alloc 22 [(.slice none 0 0)]), .S 5 19] (.seq (.R [.o 20 (.ld true 3 (.tmp 1)), .Q 21 134 [20]] (.block 0 [5] (.seq (.block 0 [5,21] .skip) (.R [.o 113 (.mv (.const (.bool false))), .o 33 (.capt 170 1 0 (.tmp 21))] (.seq (.block 1000 [113,5] (.R [.F 40 0 33, .L 41 40, .Q 42 48 [41], .m 39 42, .E 43 0 39, .E 44 1 39, .m 35 43, .m 36 44] (.R [.F 45 2 33, .L 46 45, .N 47 46, .o 48 (.mks 3 1 8 [(.int .i64 0)] (.tmp 47) (.tmp 47)), .m 37 48] (.block 0 [5,113] (.loop [5,33,35,37,113] c87L1))))) (.D 113 (.seq (.block 0 [5] .skip) .ret) (.block 0 [5] .skip))))))) (.R [.L 31 5, .m 2 31, .k 3 0] .ret))))))
def F87:AFun:=⟨c87,1,32,[(.tmp 2),(.tmp 3)]⟩
def K87:Nat→List Nat×List Nat
 |0=>([],[5])
 |_=>([],[])
def K87I0:Nat→List Nat×List Nat
 |0=>([5,33,35,37,113],[5,113])
 |1=>([5,113],[5,33,35,37,113])
 |2=>([5,33,35,37,38,113],[5,33,35,37,38,113])
 |3=>([5,113],[5,33,35,37,38,113])
 |_=>([],[])
def K87B0:Nat→List Nat×List Nat
 |1=>([5,33,35,37,113],[5,33,35,37,113])
 |_=>([],[])
def R87:Nat→Option RgIn
 |0=>some ⟨170,1,1000,1001,[5,21],[5],[5,33,35,37,113],[5],[0,17],K87I0,K87B0⟩
 |_=>none
theorem F87_ok:kj8 Tryz.prog K87 R87 Tryz.f87=some F87:=by kernel_rfl
/- 92: (*syndrome/field.Field).Add -/
def c92L0:ACode:=(.R [.B 24 .lss 23 22] (.seq (.D 24 .skip (.exit 0)) (.seq (.block 1 [0,1,2,7,8,22,23] (.R [.m 25 7, .m 26 1, .m 27 0, .K 28 27, .F 29 1 28, .L 30 29, .B 31 .rem 26 30, .m 32 2, .m 33 0, .K 34 33, .F 35 1 34, .L 36 35, .B 37 .rem 32 36, .B 38 .add 31 37, .m 39 0, .K 40 39, .F 41 1 40, .L 42 41, .B 43 .rem 38 42, .m 44 8, .B 45 .mul 43 44, .B 46 .add 25 45, .m 7 46] (.region [.m 47 1, .m 48 0, .K 49 48, .F 50 1 49, .L 51 50, .B 52 .quo 47 51, .m 53 2, .m 54 0, .K 55 54, .F 56 1 55, .L 57 56, .B 58 .quo 53 57, .m 59 8, .m 60 0, .K 61 60, .F 62 1 61, .L 63 62, .B 64 .mul 59 63, .m 1 52, .m 2 58, .m 8 64]))) (.region [.C 65 .add 23 1, .m 23 65]))))
def c92:ACode:=(.R [.k 6 0] (.seq (.R [.m 9 0, .m 10 1, .Q 11 83 [9,10], .o 12 (.un .not (.tmp 11)), .m 13 12, .G 14 0 13 false, .G 15 2 13 false, .g 16 (.q 83 [14,15]) 13 false, .g 17 (.un .not (.tmp 16)) 13 false, .P 18 13 17] (.D 18 (.R [.k 6 (-1)] .ret) .skip)) (.R [.k 7 0, .k 8 1] (.seq (.R [.m 19 0, .K 20 19, .F 21 2 20, .L 22 21, .k 23 0] (.block 0 [7] (.loop [0,1,2,7,8,22,23] c92L0))) (.R [.m 66 7, .m 6 66] .ret)))))
def F92:AFun:=⟨c92,3,67,[(.tmp 6)]⟩
def K92:Nat→List Nat×List Nat
 |0=>([0,1,2,7,8,22,23],[7])
 |1=>([],[0,1,2,7,8,22,23])
 |_=>([],[])
theorem F92_ok:kj8 Tryz.prog K92 noRg Tryz.f92=some F92:=by kernel_rfl
/- 93: (*syndrome/field.Field).Mul -/
def c93:ACode:=(.R [.k 6 0] (.seq (.R [.m 7 0, .m 8 1, .Q 9 83 [7,8], .o 10 (.un .not (.tmp 9)), .m 11 10, .G 12 0 11 false, .G 13 2 11 false, .g 14 (.q 83 [12,13]) 11 false, .g 15 (.un .not (.tmp 14)) 11 false, .P 16 11 15] (.D 16 (.R [.k 6 (-1)] .ret) .skip)) (.seq (.R [.m 17 1, .C 18 .eql 17 0, .m 19 18, .G 20 2 19 false, .g 21 (.c .eql 20 0) 19 false, .P 22 19 21] (.D 22 (.R [.k 6 0] .ret) .skip)) (.R [.m 23 0, .K 24 23, .F 25 5 24, .L 26 25, .m 27 0, .K 28 27, .F 29 6 28, .L 30 29, .m 31 1, .I 32 1 30 31, .L 33 32, .m 34 0, .K 35 34, .F 36 6 35, .L 37 36, .m 38 2, .I 39 1 37 38, .L 40 39, .B 41 .add 33 40, .m 42 0, .K 43 42, .F 44 0 43, .L 45 44, .C 46 .sub 45 1, .B 47 .rem 41 46, .I 48 1 26 47, .L 49 48, .m 6 49] .ret))))
def F93:AFun:=⟨c93,3,50,[(.tmp 6)]⟩
def K93:Nat→List Nat×List Nat
 |_=>([],[])
theorem F93_ok:kj8 Tryz.prog K93 noRg Tryz.f93=some F93:=by kernel_rfl
/- 94: syndrome/code.Weight -/
def c94L0:ACode:=(.R [.B 9 .lss 8 7] (.seq (.D 9 .skip (.exit 0)) (.seq (.block 1 [3,6,7,8] (.R [.I 10 1 6 8, .L 11 10, .m 5 11] (.R [.m 12 5, .C 13 .neq 12 0] (.D 13 (.region [.m 14 3, .C 15 .add 14 1, .m 3 15]) .skip)))) (.region [.C 16 .add 8 1, .m 8 16]))))
def c94:ACode:=(.R [.k 2 0] (.R [.k 3 0] (.seq (.R [.m 6 0, .N 7 6, .k 8 0] (.block 0 [3] (.loop [3,6,7,8] c94L0))) (.R [.m 17 3, .m 2 17] .ret))))
def F94:AFun:=⟨c94,1,18,[(.tmp 2)]⟩
def K94:Nat→List Nat×List Nat
 |0=>([3,6,7,8],[3])
 |1=>([],[3,6,7,8])
 |_=>([],[])
theorem F94_ok:kj8 Tryz.prog K94 noRg Tryz.f94=some F94:=by kernel_rfl
/- 104: syndrome/field.New$1 -/
def c104:ACode:=(.region [.L 2 0, .L 3 0,⟨(some 4),(.call 105 [(.tmp 3)]),none,true⟩, .F 5 195 1, .o 6 (.iaddrA 65 1 (.tmp 5) (.tmp 2)), .S 6 4])
def F104:AFun:=⟨c104,2,7,[]⟩
def K104:Nat→List Nat×List Nat
 |_=>([],[])
theorem F104_ok:kj8 Tryz.prog K104 noRg Tryz.f104=some F104:=by kernel_rfl
/- 105: syndrome/field.build -/
def c105L0:ACode:=(.seq (.R [.m 28 5, .Q 29 147 [28], .o 30 (.un .not (.tmp 29))] (.D 30 .skip (.exit 0))) (.seq (.block 1 [5] .skip) (.region [.m 31 5, .K 32 31, .F 33 4 32, .L 34 33, .C 35 .add 34 1, .K 36 31, .F 37 4 36, .S 37 35])))
def c105L1:ACode:=(.R [.B 45 .lss 44 43] (.seq (.D 45 .skip (.exit 2)) (.seq (.block 3 [3,4,5,43,44] (.R [.m 46 44, .m 6 46] (.R [.m 47 5, .m 48 6, .m 49 3, .m 50 4, .Q 51 117 [48,49,50], .o 52 (.mkSl 3 1 1 [(.const (.int .i64 1))]), .o 53 (.app 3 1 8 (.tmp 51) (.tmp 52)), .K 54 47, .F 55 3 54, .S 55 53] (.R [.m 56 5, .Q 57 147 [56]] (.D 57 (.R [.m 58 5, .m 2 58] .ret) .skip))))) (.region [.C 59 .add 44 1, .m 44 59]))))
def c105:ACode:=(.R [.o 2 (.mv (.const (.pointer none)))] (.R [.m 8 0, .Q 9 146 [8], .m 7 9, .E 10 0 7, .E 11 1 7, .m 3 10, .m 4 11] (.seq (.R [.m 12 3, .C 13 .eql 12 0] (.D 13 (.R [.o 2 (.mv (.const (.pointer none)))] .ret) .skip)) (.R [.m 14 0, .m 15 3, .m 16 4, .o 17 (.build [(.int .i64 0),(.int .i64 0),(.int .i64 0),(.slice none 0 0),(.int .i64 0),(.slice none 0 0),(.slice none 0 0)] [(0,1),(1,1),(2,1),(3,1),(4,1),(5,1),(6,1)] [(0,(.tmp 14)),(1,(.tmp 15)),(2,(.tmp 16))]), .o 18 (.box 135 7 (.tmp 17)), .m 5 18] (.seq (.R [.m 19 4, .C 20 .eql 19 1] (.D 20 (.R [.m 21 5, .o 22 (.mkSl 3 1 2 [(.const (.int .i64 0)),(.const (.int .i64 1))]), .K 23 21, .F 24 3 23, .S 24 22] (.seq (.R [.m 25 5, .K 26 25, .F 27 4 26, .n (.st 1 (.tmp 27) (.const (.int .i64 1)))] (.block 0 [5] (.loop [5] c105L0))) (.R [.m 38 5, .m 2 38] .ret))) .skip)) (.R [.m 39 5, .m 40 3, .K 41 39, .F 42 4 41, .S 42 40] (.seq (.R [.m 43 0, .k 44 0] (.block 2 [] (.loop [3,4,5,43,44] c105L1))) (.R [.o 2 (.mv (.const (.pointer none)))] .ret))))))))
def F105:AFun:=⟨c105,1,60,[(.tmp 2)]⟩
def K105:Nat→List Nat×List Nat
 |0=>([5],[5])
 |1=>([],[5])
 |2=>([3,4,5,43,44],[])
 |3=>([],[3,4,5,43,44])
 |_=>([],[])
theorem F105_ok:kj8 Tryz.prog K105 noRg Tryz.f105=some F105:=by kernel_rfl
/- 106: slices.pdqsortOrdered[int] -/
def c106L0:ACode:=(.block 1 [0,1,2,3,8,9] (.seq (.region [.m 19 2, .m 20 1, .B 21 .sub 19 20, .m 10 21]) (.seq (.seq (.region [.m 22 10, .C 23 .leq 22 12]) (.cond (.tmp 23) (.seq (.region [.m 24 0, .m 25 1, .m 26 2, .Q 27 148 [24,25,26]]) .ret) .skip)) (.seq (.seq (.region [.m 28 3, .C 29 .eql 28 0]) (.cond (.tmp 29) (.seq (.region [.m 30 0, .m 31 1, .m 32 2, .Q 33 149 [30,31,32]]) .ret) .skip)) (.seq (.seq (.region [.m 34 8, .o 35 (.un .not (.tmp 34))]) (.cond (.tmp 35) (.seq (.region [.m 36 0, .m 37 1, .m 38 2, .Q 39 150 [36,37,38]]) (.region [.m 40 3, .C 41 .sub 40 1, .m 3 41])) .skip)) (.seq (.region [.m 43 0, .m 44 1, .m 45 2, .Q 46 151 [43,44,45], .m 42 46, .E 47 0 42, .E 48 1 42, .m 11 47, .m 12 48]) (.seq (.seq (.region [.m 49 12, .C 50 .eql 49 2]) (.cond (.tmp 50) (.seq (.region [.m 51 0, .m 52 1, .m 53 2, .Q 54 152 [51,52,53]]) (.seq (.region [.m 55 2, .C 56 .sub 55 1, .m 57 11, .m 58 1, .B 59 .sub 57 58, .B 60 .sub 56 59, .m 11 60]) (.region [.k 12 1]))) .skip)) (.seq (.seq (.region [.m 61 8, .m 62 61, .G 63 9 62 true, .o 64 (.pick (.tmp 62) (.tmp 63) (.const (.bool false))), .m 65 64, .G 66 12 65 true, .g 67 (.c .eql 66 1) 65 true, .o 68 (.pick (.tmp 65) (.tmp 67) (.const (.bool false)))]) (.cond (.tmp 68) (.seq (.region [.m 69 0, .m 70 1, .m 71 2, .Q 72 153 [69,70,71]]) (.cond (.tmp 72) .ret .skip)) .skip)) (.seq (.seq (.region [.m 73 1, .C 74 .gtr 73 0, .m 75 74, .G 76 0 75 true, .G 77 1 75 true, .g 78 (.c .sub 77 1) 75 true, .g 79 (.i 1 76 78) 75 true, .H 80 79 75 true, .G 81 0 75 true, .G 82 11 75 true, .g 83 (.i 1 81 82) 75 true, .H 84 83 75 true, .g 85 (.q 154 [80,84]) 75 true, .g 86 (.un .not (.tmp 85)) 75 true, .o 87 (.pick (.tmp 75) (.tmp 86) (.const (.bool false)))]) (.cond (.tmp 87) (.seq (.region [.m 88 0, .m 89 1, .m 90 2, .m 91 11, .Q 92 155 [88,89,90,91], .m 13 92]) (.seq (.region [.m 93 13, .m 1 93]) (.exit 1))) .skip)) (.seq (.region [.m 95 0, .m 96 1, .m 97 2, .m 98 11, .Q 99 156 [95,96,97,98], .m 94 99, .E 100 0 94, .E 101 1 94, .m 14 100, .m 15 101]) (.seq (.region [.m 102 15, .m 9 102]) (.seq (.region [.m 103 14, .m 104 1, .B 105 .sub 103 104, .m 106 2, .m 107 14, .B 108 .sub 106 107, .m 16 105, .m 17 108]) (.seq (.region [.m 109 10, .C 110 .quo 109 8, .m 18 110]) (.seq (.region [.m 111 16, .m 112 17, .B 113 .lss 111 112]) (.cond (.tmp 113) (.seq (.region [.m 114 16, .m 115 18, .B 116 .geq 114 115, .m 8 116]) (.seq (.region [.m 117 0, .m 118 1, .m 119 14, .m 120 3, .Q 121 106 [117,118,119,120]]) (.region [.m 122 14, .C 123 .add 122 1, .m 1 123]))) (.seq (.region [.m 124 17, .m 125 18, .B 126 .geq 124 125, .m 8 126]) (.seq (.region [.m 127 0, .m 128 14, .C 129 .add 128 1, .m 130 2, .m 131 3, .Q 132 106 [127,129,130,131]]) (.region [.m 133 14, .m 2 133]))))))))))))))))))
def c106:ACode:=(.R [.o 8 (.mv (.const (.bool true)))] (.R [.o 9 (.mv (.const (.bool true)))] (.block 0 [] (.loop [0,1,2,3,8,9] c106L0))))
def F106:AFun:=⟨c106,4,134,[]⟩
def K106:Nat→List Nat×List Nat
 |0=>([0,1,2,3,8,9],[])
 |1=>([],[0,1,2,3,8,9])
 |_=>([],[])
theorem F106_ok:kj8 Tryz.prog K106 noRg Tryz.f106=some F106:=by kernel_rfl
end Go.Proofs.YtppbpgmdmiajcaaGreat
