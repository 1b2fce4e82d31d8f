/-
  Functions of this seat as the small machine's code, written by a program of my own (gen.py); each is checked to be what the model's function is turned into. No condition.
-/
import Derived.Test.YtppbpgmdmiajcaaGreatK2
import Derived.Test.YtppbpgmdmiajcaaGreatProg
set_option linter.unusedVariables false
set_option linter.unusedSimpArgs false
set_option linter.unusedSectionVars false
set_option maxRecDepth 100000
namespace Go.Proofs.YtppbpgmdmiajcaaGreat
open Go.Am
/- 107: math/bits.Len -/
def c107:ACode:=(.R [.k 2 0] (.seq (.cond (.const (.bool false)) (.R [.m 3 0, .o 4 (.conv .u32 (.tmp 3)), .Q 5 157 [4], .m 2 5] .ret) .skip) (.R [.m 6 0, .Q 7 158 [6], .m 2 7] .ret)))
def F107:AFun:=⟨c107,1,8,[(.tmp 2)]⟩
def K107:Nat→List Nat×List Nat
 |_=>([],[])
theorem F107_ok:kj8 Tryz.prog K107 noRg Tryz.f107=some F107:=by kernel_rfl
/- 111: syndrome/cyclic.closed$1 -/
def c111:ACode:=(.R [.o 3 (.mv (.const (.bool false)))] (.R [.m 4 0, .C 5 .lss 4 0, .m 6 5, .G 7 0 6 false, .H 8 1 6 false, .g 9 (.b .geq 7 8) 6 false, .P 10 6 9, .m 3 10] .ret))
def F111:AFun:=⟨c111,2,11,[(.tmp 3)]⟩
def K111:Nat→List Nat×List Nat
 |_=>([],[])
theorem F111_ok:kj8 Tryz.prog K111 noRg Tryz.f111=some F111:=by kernel_rfl
/- 112: syndrome/cyclic.closed$2 -/
def c112:ACode:=(.R [.o 3 (.mv (.const (.bool false)))] (.R [.L 4 1, .m 5 0, .Q 6 68 [4,5], .m 3 6] .ret))
def F112:AFun:=⟨c112,2,7,[(.tmp 3)]⟩
def K112:Nat→List Nat×List Nat
 |_=>([],[])
theorem F112_ok:kj8 Tryz.prog K112 noRg Tryz.f112=some F112:=by kernel_rfl
/- 113: (*syndrome/field.Field).Gen -/
def c113:ACode:=(.R [.k 2 0] (.R [.m 3 0, .K 4 3, .F 5 4 4, .L 6 5, .m 2 6] .ret))
def F113:AFun:=⟨c113,1,7,[(.tmp 2)]⟩
def K113:Nat→List Nat×List Nat
 |_=>([],[])
theorem F113_ok:kj8 Tryz.prog K113 noRg Tryz.f113=some F113:=by kernel_rfl
/- 114: syndrome/poly.both -/
def c114:ACode:=(.R [.o 6 (.mv (.const (.pointer none))), .Z 7, .Z 8, .k 9 0] (.R [.m 13 0, .m 14 1, .Q 15 71 [13,14], .m 10 15] (.seq (.R [.m 16 10, .C 17 .eql 16 0] (.D 17 (.region [.m 18 0, .m 19 2, .Q 20 71 [18,19], .m 10 20]) .skip)) (.seq (.R [.m 21 10, .C 22 .neq 21 0] (.D 22 (.R [.m 23 10, .o 6 (.mv (.const (.pointer none))), .Z 7, .Z 8, .m 9 23] .ret) .skip)) (.R [.m 25 0, .Q 26 48 [25], .m 24 26, .E 27 0 24, .E 28 1 24, .m 11 27, .m 12 28] (.R [.m 29 11, .m 30 1, .Q 31 124 [30], .m 32 2, .Q 33 124 [32], .m 6 29, .m 7 31, .m 8 33, .k 9 0] .ret))))))
def F114:AFun:=⟨c114,3,34,[(.tmp 6),(.tmp 7),(.tmp 8),(.tmp 9)]⟩
def K114:Nat→List Nat×List Nat
 |_=>([],[])
theorem F114_ok:kj8 Tryz.prog K114 noRg Tryz.f114=some F114:=by kernel_rfl
/- 115: syndrome/poly.times -/
def c115L0:ACode:=(.R [.B 37 .lss 36 35] (.seq (.D 37 .skip (.exit 2)) (.seq (.block 3 [0,2,7,8,9,27,28,29,34,35,36] (.R [.m 38 36, .I 39 1 34 36, .L 40 39, .m 10 38, .m 11 40] (.region [.m 41 7, .m 42 8, .m 43 10, .B 44 .add 42 43, .m 45 0, .m 46 7, .m 47 8, .m 48 10, .B 49 .add 47 48, .I 50 1 46 49, .L 51 50, .m 52 0, .m 53 9, .m 54 11,⟨(some 55),(.call 93 [(.tmp 52),(.tmp 53),(.tmp 54)]),none,true⟩, .Q 56 92 [45,51,55], .I 57 1 41 44, .S 57 56]))) (.region [.C 58 .add 36 1, .m 36 58]))))
def c115L1:ACode:=(.R [.B 30 .lss 29 28] (.seq (.D 30 .skip (.exit 0)) (.seq (.block 1 [0,2,7,27,28,29] (.R [.m 31 29, .I 32 1 27 29, .L 33 32, .m 8 31, .m 9 33] (.R [.m 34 2, .N 35 34, .k 36 0] (.block 2 [0,2,7,27,28,29] (.loop [0,2,7,8,9,27,28,29,34,35,36] c115L0))))) (.region [.C 59 .add 29 1, .m 29 59]))))
def c115:ACode:=(.R [.Z 6] (.seq (.R [.m 12 1, .N 13 12, .C 14 .eql 13 0, .m 15 14, .G 16 2 15 false, .g 17 (.n 16) 15 false, .g 18 (.c .eql 17 0) 15 false, .P 19 15 18] (.D 19 (.R [.Z 6] .ret) .skip)) (.R [.m 20 1, .N 21 20, .m 22 2, .N 23 22, .B 24 .add 21 23, .C 25 .sub 24 1, .o 26 (.mks 3 1 8 [(.int .i64 0)] (.tmp 25) (.tmp 25)), .m 7 26] (.seq (.R [.m 27 1, .N 28 27, .k 29 0] (.block 0 [7] (.loop [0,2,7,27,28,29] c115L1))) (.R [.m 60 7, .Q 61 124 [60], .m 6 61] .ret)))))
def F115:AFun:=⟨c115,3,62,[(.tmp 6)]⟩
def K115:Nat→List Nat×List Nat
 |0=>([0,2,7,27,28,29],[7])
 |1=>([],[0,2,7,27,28,29])
 |2=>([0,2,7,8,9,27,28,29,34,35,36],[0,2,7,27,28,29])
 |3=>([],[0,2,7,8,9,27,28,29,34,35,36])
 |_=>([],[])
theorem F115_ok:kj8 Tryz.prog K115 noRg Tryz.f115=some F115:=by kernel_rfl
/- 116: (*syndrome/field.Field).value -/
def c116L0:ACode:=(.seq (.R [.m 12 8, .C 13 .geq 12 0] (.D 13 .skip (.exit 0))) (.seq (.block 1 [0,1,2,7,8] (.region [.m 16 0, .m 17 0, .m 18 7, .m 19 2,⟨(some 20),(.call 93 [(.tmp 17),(.tmp 18),(.tmp 19)]),none,true⟩, .m 21 1, .m 22 8, .I 23 1 21 22,⟨(some 24),(.ld false 1 (.tmp 23)),none,true⟩, .Q 25 92 [16,20,24], .m 7 25])) (.region [.m 14 8, .C 15 .sub 14 1, .m 8 15])))
def c116:ACode:=(.R [.k 6 0] (.R [.k 7 0] (.seq (.R [.m 9 1, .N 10 9, .C 11 .sub 10 1, .m 8 11] (.block 0 [7] (.loop [0,1,2,7,8] c116L0))) (.R [.m 26 7, .m 6 26] .ret))))
def F116:AFun:=⟨c116,3,27,[(.tmp 6)]⟩
def K116:Nat→List Nat×List Nat
 |0=>([0,1,2,7,8],[7])
 |1=>([],[0,1,2,7,8])
 |_=>([],[])
theorem F116_ok:kj8 Tryz.prog K116 noRg Tryz.f116=some F116:=by kernel_rfl
/- 117: syndrome/field.digits -/
def c117L0:ACode:=(.R [.B 14 .lss 13 12] (.seq (.D 14 .skip (.exit 0)) (.seq (.block 1 [0,1,7,12,13] (.R [.m 15 13, .m 8 15] (.R [.m 16 7, .m 17 8, .m 18 0, .m 19 1, .B 20 .rem 18 19, .I 21 1 16 17, .S 21 20] (.region [.m 22 0, .m 23 1, .B 24 .quo 22 23, .m 0 24])))) (.region [.C 25 .add 13 1, .m 13 25]))))
def c117:ACode:=(.R [.Z 6] (.R [.m 9 2, .o 10 (.mks 3 1 8 [(.int .i64 0)] (.tmp 9) (.tmp 9)), .m 7 10] (.seq (.R [.m 11 7, .N 12 11, .k 13 0] (.block 0 [7] (.loop [0,1,7,12,13] c117L0))) (.R [.m 26 7, .m 6 26] .ret))))
def F117:AFun:=⟨c117,3,27,[(.tmp 6)]⟩
def K117:Nat→List Nat×List Nat
 |0=>([0,1,7,12,13],[7])
 |1=>([],[0,1,7,12,13])
 |_=>([],[])
theorem F117_ok:kj8 Tryz.prog K117 noRg Tryz.f117=some F117:=by kernel_rfl
/- 120: syndrome/syndromeref.Number -/
def c120L0:ACode:=(.seq (.R [.m 10 6, .C 11 .geq 10 0] (.D 11 .skip (.exit 0))) (.seq (.block 1 [0,1,5,6] (.region [.m 14 5, .m 15 1, .B 16 .mul 14 15, .m 17 0, .m 18 6, .I 19 1 17 18, .L 20 19, .B 21 .add 16 20, .m 5 21])) (.region [.m 12 6, .C 13 .sub 12 1, .m 6 13])))
def c120:ACode:=(.R [.k 4 0] (.R [.k 5 0] (.seq (.R [.m 7 0, .N 8 7, .C 9 .sub 8 1, .m 6 9] (.block 0 [5] (.loop [0,1,5,6] c120L0))) (.R [.m 22 5, .m 4 22] .ret))))
def F120:AFun:=⟨c120,2,23,[(.tmp 4)]⟩
def K120:Nat→List Nat×List Nat
 |0=>([0,1,5,6],[5])
 |1=>([],[0,1,5,6])
 |_=>([],[])
theorem F120_ok:kj8 Tryz.prog K120 noRg Tryz.f120=some F120:=by kernel_rfl
/- 123: syndrome/poly.divide -/
def c123L0:ACode:=(.R [.B 60 .lss 59 58] (.seq (.D 60 .skip (.exit 2)) (.seq (.block 3 [0,2,6,7,8,9,10,57,58,59] (.R [.m 61 59, .I 62 1 57 59, .L 63 62, .m 11 61, .m 12 63] (.region [.m 64 7, .m 65 9, .m 66 11, .B 67 .add 65 66, .m 68 0, .m 69 7, .m 70 9, .m 71 11, .B 72 .add 70 71, .I 73 1 69 72, .L 74 73, .m 75 0, .m 76 10, .m 77 12,⟨(some 78),(.call 93 [(.tmp 75),(.tmp 76),(.tmp 77)]),none,true⟩, .Q 79 161 [68,74,78], .I 80 1 64 67, .S 80 79]))) (.region [.C 81 .add 59 1, .m 59 81]))))
def c123L1:ACode:=(.seq (.R [.m 38 9, .C 39 .geq 38 0] (.D 39 .skip (.exit 0))) (.seq (.block 1 [0,2,6,7,8,9] (.R [.m 42 0, .m 43 7, .m 44 9, .m 45 2, .N 46 45, .B 47 .add 44 46, .C 48 .sub 47 1, .I 49 1 43 48, .L 50 49, .m 51 8, .Q 52 93 [42,50,51], .m 10 52] (.R [.m 53 6, .m 54 9, .m 55 10, .I 56 1 53 54, .S 56 55] (.R [.m 57 2, .N 58 57, .k 59 0] (.block 2 [0,2,6,7,8,9] (.loop [0,2,6,7,8,9,10,57,58,59] c123L0)))))) (.region [.m 40 9, .C 41 .sub 40 1, .m 9 41])))
def c123:ACode:=(.R [.Z 6, .Z 7] (.R [.m 13 1, .Q 14 159 [13], .m 7 14] (.seq (.R [.m 15 1, .N 16 15, .m 17 2, .N 18 17, .B 19 .geq 16 18] (.D 19 (.region [.m 20 1, .N 21 20, .m 22 2, .N 23 22, .B 24 .sub 21 23, .C 25 .add 24 1, .o 26 (.mks 3 1 8 [(.int .i64 0)] (.tmp 25) (.tmp 25)), .m 6 26]) .skip)) (.R [.m 27 0, .m 28 2, .m 29 2, .N 30 29, .C 31 .sub 30 1, .I 32 1 28 31, .L 33 32, .Q 34 160 [27,33], .m 8 34] (.seq (.R [.m 35 6, .N 36 35, .C 37 .sub 36 1, .m 9 37] (.block 0 [6,7] (.loop [0,2,6,7,8,9] c123L1))) (.R [.m 82 6, .m 83 7, .Q 84 124 [83], .m 6 82, .m 7 84] .ret))))))
def F123:AFun:=⟨c123,3,85,[(.tmp 6),(.tmp 7)]⟩
def K123:Nat→List Nat×List Nat
 |0=>([0,2,6,7,8,9],[6,7])
 |1=>([],[0,2,6,7,8,9])
 |2=>([0,2,6,7,8,9,10,57,58,59],[0,2,6,7,8,9])
 |3=>([],[0,2,6,7,8,9,10,57,58,59])
 |_=>([],[])
theorem F123_ok:kj8 Tryz.prog K123 noRg Tryz.f123=some F123:=by kernel_rfl
/- 124: syndrome/poly.trim -/
def c124L0:ACode:=(.seq (.R [.m 6 3, .C 7 .gtr 6 0, .m 8 7, .G 9 0 8 true, .G 10 3 8 true, .g 11 (.c .sub 10 1) 8 true, .g 12 (.i 1 9 11) 8 true, .H 13 12 8 true, .g 14 (.c .eql 13 0) 8 true, .o 15 (.pick (.tmp 8) (.tmp 14) (.const (.bool false)))] (.D 15 .skip (.exit 0))) (.block 1 [0,3] (.region [.m 16 3, .C 17 .sub 16 1, .m 3 17])))
def c124:ACode:=(.R [.Z 2] (.R [.m 4 0, .N 5 4, .m 3 5] (.seq (.block 0 [0,3] (.loop [0,3] c124L0)) (.R [.m 18 0, .m 19 3, .o 20 (.sl 1 (.tmp 18) none (some (.tmp 19))), .Q 21 159 [20], .m 2 21] .ret))))
def F124:AFun:=⟨c124,1,22,[(.tmp 2)]⟩
def K124:Nat→List Nat×List Nat
 |0=>([0,3],[0,3])
 |1=>([],[0,3])
 |_=>([],[])
theorem F124_ok:kj8 Tryz.prog K124 noRg Tryz.f124=some F124:=by kernel_rfl
/- 125: syndrome/code.Check -/
def c125:ACode:=(.R [.o 1 (.box 35 3 (.tmp 0)), .k 2 0] (.seq (.R [.F 7 0 1, .L 8 7, .Q 9 48 [8], .m 6 9, .E 10 0 6, .E 11 1 6, .m 3 10, .m 4 11] (.R [.m 12 4, .C 13 .neq 12 0] (.D 13 (.R [.m 14 4, .m 2 14] .ret) .skip))) (.seq (.R [.F 15 1 1, .L 16 15, .C 17 .lss 16 1, .m 18 17, .g 19 (.f 1 1) 18 false, .H 20 19 18 false, .g 21 (.c .gtr 20 64) 18 false, .P 22 18 21] (.D 22 (.R [.k 2 4] .ret) .skip)) (.seq (.R [.F 23 0 1, .L 24 23, .F 25 2 1, .L 26 25, .Q 27 162 [24,26], .m 5 27] (.R [.m 28 5, .C 29 .neq 28 0] (.D 29 (.R [.m 30 5, .m 2 30] .ret) .skip))) (.seq (.R [.F 31 2 1, .L 32 31, .N 33 32, .C 34 .gtr 33 0, .m 35 34, .g 36 (.f 2 1) 35 true, .H 37 36 35 true, .g 38 (.iaddr 1 (.tmp 37) (.const (.int .i64 0))) 35 true, .H 39 38 35 true, .g 40 (.n 39) 35 true, .g 41 (.f 1 1) 35 true, .H 42 41 35 true, .g 43 (.b .neq 40 42) 35 true, .o 44 (.pick (.tmp 35) (.tmp 43) (.const (.bool false)))] (.D 44 (.R [.k 2 3] .ret) .skip)) (.R [.k 2 0] .ret))))))
def F125:AFun:=⟨c125,1,45,[(.tmp 2)]⟩
def K125:Nat→List Nat×List Nat
 |_=>([],[])
theorem F125_ok:kj8 Tryz.prog K125 noRg Tryz.f125=some F125:=by kernel_rfl
/- 126: syndrome/matrix.Reduce -/
def c126L0:ACode:=(.R [.B 92 .lss 91 90] (.seq (.D 92 .skip (.exit 2)) (.seq (.block 3 [1,5,8,10,11,90,91] (.R [.m 93 91, .m 13 93] (.R [.m 94 13, .m 95 11, .B 96 .neq 94 95, .m 97 96, .G 98 1 97 true, .G 99 13 97 true, .g 100 (.i 1 98 99) 97 true, .H 101 100 97 true, .H 102 10 97 true, .g 103 (.i 1 101 102) 97 true, .H 104 103 97 true, .g 105 (.c .neq 104 0) 97 true, .o 106 (.pick (.tmp 97) (.tmp 105) (.const (.bool false)))] (.D 106 (.region [.m 107 8, .m 108 1, .m 109 13, .I 110 1 108 109, .L 111 110, .m 112 1, .m 113 11, .I 114 1 112 113, .L 115 114, .m 116 1, .m 117 13, .I 118 1 116 117, .L 119 118, .L 120 10, .I 121 1 119 120, .L 122 121, .Q 123 167 [107,111,115,122]]) .skip)))) (.region [.C 124 .add 91 1, .m 91 124]))))
def c126L1:ACode:=(.seq (.R [.L 32 10, .m 33 1, .o 34 (.iaddr 1 (.tmp 33) (.const (.int .i64 0))), .L 35 34, .N 36 35, .B 37 .lss 32 36, .m 38 37, .G 39 5 38 true, .g 40 (.n 39) 38 true, .G 41 1 38 true, .g 42 (.n 41) 38 true, .g 43 (.b .lss 40 42) 38 true, .o 44 (.pick (.tmp 38) (.tmp 43) (.const (.bool false)))] (.D 44 .skip (.exit 0))) (.seq (.block 1 [1,5,8,10] (.R [.m 47 5, .N 48 47, .m 11 48] (.R [.m 49 1, .m 50 11, .o 51 (.sl 1 (.tmp 49) (some (.tmp 50)) none), .o 52 (.mkf 165 [(.tmp 10)]), .Q 53 164 [51,52], .m 12 53] (.seq (.R [.m 54 12, .C 55 .lss 54 0] (.D 55 (.exit 1) .skip)) (.R [.m 56 1, .m 57 11, .m 58 1, .m 59 11, .m 60 12, .B 61 .add 59 60, .m 62 1, .m 63 11, .m 64 12, .B 65 .add 63 64, .I 66 1 62 65, .L 67 66, .m 68 1, .m 69 11, .I 70 1 68 69, .L 71 70, .I 72 1 56 57, .S 72 67, .I 73 1 58 61, .S 73 71] (.R [.m 74 8, .m 75 1, .m 76 11, .I 77 1 75 76, .L 78 77, .m 79 8, .m 80 1, .m 81 11, .I 82 1 80 81, .L 83 82, .L 84 10, .I 85 1 83 84, .L 86 85,⟨(some 87),(.call 160 [(.tmp 79),(.tmp 86)]),none,true⟩, .Q 88 166 [74,78,87]] (.seq (.R [.m 89 1, .N 90 89, .k 91 0] (.block 2 [1,5,8,10] (.loop [1,5,8,10,11,90,91] c126L0))) (.region [.m 125 5, .L 126 10, .o 127 (.mkSl 3 1 1 [(.tmp 126)]), .o 128 (.app 3 1 8 (.tmp 125) (.tmp 127)), .m 5 128])))))))) (.seq (.R [.L 129 10] (.region [.o 10 (.alloc 3 [(.int .i64 0)]), .S 10 129])) (.region [.L 45 10, .C 46 .add 45 1, .S 10 46]))))
def c126:ACode:=(.R [.Z 4, .Z 5, .k 6 0] (.seq (.R [.m 14 0, .m 15 1, .Q 16 162 [14,15], .m 7 16] (.R [.m 17 7, .C 18 .neq 17 0, .m 19 18, .G 20 1 19 false, .g 21 (.n 20) 19 false, .g 22 (.c .eql 21 0) 19 false, .P 23 19 22] (.D 23 (.R [.m 24 7, .Z 4, .Z 5, .m 6 24] .ret) .skip))) (.R [.m 26 0, .Q 27 48 [26], .m 25 27, .E 28 0 25, .E 29 1 25, .m 8 28, .m 9 29] (.R [.m 30 1, .Q 31 163 [30], .m 1 31] (.seq (.R [.o 10 (.alloc 3 [(.int .i64 0)]), .n (.st 1 (.tmp 10) (.const (.int .i64 0)))] (.block 0 [1,5] (.loop [1,5,8,10] c126L1))) (.R [.m 130 1, .m 131 5, .N 132 131, .m 133 5, .N 134 133, .o 135 (.sl3 (.tmp 130) (.tmp 132) (.tmp 134)), .m 136 5, .m 4 135, .m 5 136, .k 6 0] .ret))))))
def F126:AFun:=⟨c126,2,137,[(.tmp 4),(.tmp 5),(.tmp 6)]⟩
def K126:Nat→List Nat×List Nat
 |0=>([1,5,8,10],[1,5])
 |1=>([],[1,5,8,10])
 |2=>([1,5,8,10,11,90,91],[1,5,8,10])
 |3=>([],[1,5,8,10,11,90,91])
 |_=>([],[])
theorem F126_ok:kj8 Tryz.prog K126 noRg Tryz.f126=some F126:=by kernel_rfl
/- 130: slices.IndexFunc[[]int,int] -/
def c130L0:ACode:=(.R [.B 9 .lss 8 7] (.seq (.D 9 .skip (.exit 0)) (.seq (.block 1 [0,1,7,8] (.R [.m 10 8, .m 5 10] (.R [.m 11 1, .m 12 0, .m 13 5, .I 14 1 12 13, .L 15 14, .o 16 (.calld (.tmp 11) [(.tmp 15)])] (.D 16 (.R [.m 17 5, .m 4 17] .ret) .skip)))) (.region [.C 18 .add 8 1, .m 8 18]))))
def c130:ACode:=(.R [.k 4 0] (.seq (.R [.m 6 0, .N 7 6, .k 8 0] (.block 0 [] (.loop [0,1,7,8] c130L0))) (.R [.k 4 (-1)] .ret)))
def F130:AFun:=⟨c130,2,19,[(.tmp 4)]⟩
def K130:Nat→List Nat×List Nat
 |0=>([0,1,7,8],[])
 |1=>([],[0,1,7,8])
 |_=>([],[])
theorem F130_ok:kj8 Tryz.prog K130 noRg Tryz.f130=some F130:=by kernel_rfl
/- 133: syndrome/code.all -/
def c133L0:ACode:=(.R [.B 19 .lss 18 17] (.seq (.D 19 .skip (.exit 0)) (.seq (.block 1 [1,2,5,17,18] (.R [.m 20 5, .F 21 0 1, .L 22 21, .B 23 .mul 20 22, .m 5 23] (.R [.m 24 5, .C 25 .gtr 24 4096] (.D 25 (.R [.o 26 (.build [(.int .i64 0),(.int .i64 0),(.slice none 0 0)] [(0,1),(1,1),(2,1)] []), .n (.st 3 (.tmp 2) (.tmp 26)), .k 3 4] .ret) .skip)))) (.region [.C 27 .add 18 1, .m 18 27]))))
def c133:ACode:=(.R [.o 1 (.box 35 3 (.tmp 0)), .o 2 (.alloc 35 [(.int .i64 0),(.int .i64 0),(.slice none 0 0)]), .k 3 0] (.R [.o 7 (.ld true 3 (.tmp 1)), .Q 8 74 [7], .m 6 8, .E 9 0 6, .E 10 1 6, .n (.st 3 (.tmp 1) (.tmp 9)), .m 4 10] (.seq (.R [.m 11 4, .C 12 .neq 11 0] (.D 12 (.R [.o 13 (.build [(.int .i64 0),(.int .i64 0),(.slice none 0 0)] [(0,1),(1,1),(2,1)] []), .m 14 4, .n (.st 3 (.tmp 2) (.tmp 13)), .m 3 14] .ret) .skip)) (.R [.k 5 1] (.seq (.R [.F 15 2 1, .L 16 15, .N 17 16, .k 18 0] (.block 0 [1,2] (.loop [1,2,5,17,18] c133L0))) (.R [.o 28 (.ld true 3 (.tmp 1)), .n (.st 3 (.tmp 2) (.tmp 28)), .k 3 0] .ret))))))
def F133:AFun:=⟨c133,1,29,[(.cell 2 true 3),(.tmp 3)]⟩
def K133:Nat→List Nat×List Nat
 |0=>([1,2,5,17,18],[1,2])
 |1=>([],[1,2,5,17,18])
 |_=>([],[])
theorem F133_ok:kj8 Tryz.prog K133 noRg Tryz.f133=some F133:=by kernel_rfl
/- 134: syndrome/code.words -/
def c134:ACode:=(.R [.o 1 (.box 35 3 (.tmp 0)), .o 2 (.mv (.const .nilFunc))] (.R [.o 3 (.mkf 170 [(.tmp 1)]), .m 2 3] .ret))
def F134:AFun:=⟨c134,1,4,[(.tmp 2)]⟩
def K134:Nat→List Nat×List Nat
 |_=>([],[])
theorem F134_ok:kj8 Tryz.prog K134 noRg Tryz.f134=some F134:=by kernel_rfl
/- 146: syndrome/field.prime -/
def c146L0:ACode:=(.seq (.R [.m 4 0, .m 5 2, .B 6 .rem 4 5, .C 7 .neq 6 0] (.D 7 .skip (.exit 0))) (.block 1 [0,2,3] (.region [.m 8 2, .C 9 .add 8 1, .m 2 9])))
def c146L1:ACode:=(.seq (.R [.m 10 0, .m 11 2, .B 12 .rem 10 11, .C 13 .eql 12 0] (.D 13 .skip (.exit 2))) (.seq (.block 3 [0,2,3] (.region [.m 17 3, .C 18 .add 17 1, .m 3 18])) (.region [.m 14 0, .m 15 2, .B 16 .quo 14 15, .m 0 16])))
def c146:ACode:=(.R [.k 2 0, .k 3 0] (.R [.k 2 2] (.seq (.block 0 [0,2,3] (.loop [0,2,3] c146L0)) (.seq (.block 2 [0,2,3] (.loop [0,2,3] c146L1)) (.seq (.R [.m 19 0, .C 20 .neq 19 1] (.D 20 (.R [.k 2 0, .k 3 0] .ret) .skip)) (.R [.m 21 2, .m 22 3, .m 2 21, .m 3 22] .ret))))))
def F146:AFun:=⟨c146,1,23,[(.tmp 2),(.tmp 3)]⟩
def K146:Nat→List Nat×List Nat
 |0=>([0,2,3],[0,2,3])
 |1=>([],[0,2,3])
 |2=>([0,2,3],[0,2,3])
 |3=>([],[0,2,3])
 |_=>([],[])
theorem F146_ok:kj8 Tryz.prog K146 noRg Tryz.f146=some F146:=by kernel_rfl
/- 147: (*syndrome/field.Field).fill -/
def c147L0:ACode:=(.R [.B 29 .lss 28 27] (.seq (.D 29 .skip (.exit 0)) (.seq (.block 1 [0,27,28] (.R [.m 30 28, .m 3 30] (.region [.m 31 0, .K 32 31, .F 33 6 32, .L 34 33, .m 35 3, .I 36 1 34 35, .n (.st 1 (.tmp 36) (.const (.int .i64 (-1))))]))) (.region [.C 37 .add 28 1, .m 28 37]))))
def c147L1:ACode:=(.R [.B 44 .lss 43 42] (.seq (.D 44 .skip (.exit 2)) (.seq (.block 3 [0,4,42,43] (.R [.m 45 43, .m 5 45] (.seq (.R [.m 46 4, .C 47 .eql 46 0, .m 48 47, .G 49 0 48 false, .g 50 (.nilck (.tmp 49)) 48 false, .g 51 (.f 6 50) 48 false, .H 52 51 48 false, .G 53 4 48 false, .g 54 (.i 1 52 53) 48 false, .H 55 54 48 false, .g 56 (.c .geq 55 0) 48 false, .P 57 48 56] (.D 57 (.R [.o 2 (.mv (.const (.bool false)))] .ret) .skip)) (.R [.m 58 0, .K 59 58, .F 60 5 59, .L 61 60, .m 62 5, .m 63 0, .K 64 63, .F 65 6 64, .L 66 65, .m 67 4, .m 68 4, .m 69 5, .I 70 1 61 62, .S 70 68, .I 71 1 66 67, .S 71 69] (.region [.m 72 0, .m 73 4, .Q 74 179 [72,73], .m 4 74]))))) (.region [.C 75 .add 43 1, .m 43 75]))))
def c147:ACode:=(.R [.o 2 (.mv (.const (.bool false)))] (.R [.m 6 0, .m 7 0, .K 8 7, .F 9 0 8, .L 10 9, .C 11 .sub 10 1, .o 12 (.mks 3 1 8 [(.int .i64 0)] (.tmp 11) (.tmp 11)), .K 13 6, .F 14 5 13, .S 14 12] (.R [.m 15 0, .m 16 0, .K 17 16, .F 18 0 17, .L 19 18, .o 20 (.mks 3 1 8 [(.int .i64 0)] (.tmp 19) (.tmp 19)), .K 21 15, .F 22 6 21, .S 22 20] (.seq (.R [.m 23 0, .K 24 23, .F 25 6 24, .L 26 25, .N 27 26, .k 28 0] (.block 0 [0] (.loop [0,27,28] c147L0))) (.R [.k 4 1] (.seq (.R [.m 38 0, .K 39 38, .F 40 0 39, .L 41 40, .C 42 .sub 41 1, .k 43 0] (.block 2 [4] (.loop [0,4,42,43] c147L1))) (.R [.m 76 4, .C 77 .eql 76 1, .m 2 77] .ret)))))))
def F147:AFun:=⟨c147,1,78,[(.tmp 2)]⟩
def K147:Nat→List Nat×List Nat
 |0=>([0,27,28],[0])
 |1=>([],[0,27,28])
 |2=>([0,4,42,43],[4])
 |3=>([],[0,4,42,43])
 |_=>([],[])
theorem F147_ok:kj8 Tryz.prog K147 noRg Tryz.f147=some F147:=by kernel_rfl
/- 148: slices.insertionSortOrdered[int] -/
def c148L0:ACode:=(.seq (.R [.m 16 7, .m 17 1, .B 18 .gtr 16 17, .m 19 18, .G 20 0 19 true, .G 21 7 19 true, .g 22 (.i 1 20 21) 19 true, .H 23 22 19 true, .G 24 0 19 true, .G 25 7 19 true, .g 26 (.c .sub 25 1) 19 true, .g 27 (.i 1 24 26) 19 true, .H 28 27 19 true, .g 29 (.q 154 [23,28]) 19 true, .o 30 (.pick (.tmp 19) (.tmp 29) (.const (.bool false)))] (.D 30 .skip (.exit 2))) (.seq (.block 3 [0,1,2,6,7] (.region [.m 33 0, .m 34 7, .m 35 0, .m 36 7, .C 37 .sub 36 1, .m 38 0, .m 39 7, .C 40 .sub 39 1, .I 41 1 38 40, .L 42 41, .m 43 0, .m 44 7, .I 45 1 43 44, .L 46 45, .I 47 1 33 34, .S 47 42, .I 48 1 35 37, .S 48 46])) (.region [.m 31 7, .C 32 .sub 31 1, .m 7 32])))
def c148L1:ACode:=(.seq (.R [.m 10 6, .m 11 2, .B 12 .lss 10 11] (.D 12 .skip (.exit 0))) (.seq (.block 1 [0,1,2,6] (.R [.m 15 6, .m 7 15] (.block 2 [0,1,2,6] (.loop [0,1,2,6,7] c148L0)))) (.region [.m 13 6, .C 14 .add 13 1, .m 6 14])))
def c148:ACode:=(.R [.m 8 1, .C 9 .add 8 1, .m 6 9] (.block 0 [] (.loop [0,1,2,6] c148L1)))
def F148:AFun:=⟨c148,3,49,[]⟩
def K148:Nat→List Nat×List Nat
 |0=>([0,1,2,6],[])
 |1=>([],[0,1,2,6])
 |2=>([0,1,2,6,7],[0,1,2,6])
 |3=>([],[0,1,2,6,7])
 |_=>([],[])
theorem F148_ok:kj8 Tryz.prog K148 noRg Tryz.f148=some F148:=by kernel_rfl
/- 149: slices.heapSortOrdered[int] -/
def c149L0:ACode:=(.seq (.R [.m 18 9, .C 19 .geq 18 0] (.D 19 .skip (.exit 0))) (.seq (.block 1 [0,6,7,8,9] (.region [.m 22 0, .m 23 9, .m 24 8, .m 25 6, .Q 26 180 [22,23,24,25]])) (.region [.m 20 9, .C 21 .sub 20 1, .m 9 21])))
def c149L1:ACode:=(.seq (.R [.m 29 10, .C 30 .geq 29 0] (.D 30 .skip (.exit 2))) (.seq (.block 3 [0,6,7,10] (.R [.m 33 0, .m 34 6, .m 35 0, .m 36 6, .m 37 10, .B 38 .add 36 37, .m 39 0, .m 40 6, .m 41 10, .B 42 .add 40 41, .I 43 1 39 42, .L 44 43, .m 45 0, .m 46 6, .I 47 1 45 46, .L 48 47, .I 49 1 33 34, .S 49 44, .I 50 1 35 38, .S 50 48] (.region [.m 51 0, .m 52 7, .m 53 10, .m 54 6, .Q 55 180 [51,52,53,54]]))) (.region [.m 31 10, .C 32 .sub 31 1, .m 10 32])))
def c149:ACode:=(.R [.m 11 1, .m 6 11] (.R [.k 7 0] (.R [.m 12 2, .m 13 1, .B 14 .sub 12 13, .m 8 14] (.seq (.R [.m 15 8, .C 16 .sub 15 1, .C 17 .quo 16 2, .m 9 17] (.block 0 [0,6,7,8] (.loop [0,6,7,8,9] c149L0))) (.R [.m 27 8, .C 28 .sub 27 1, .m 10 28] (.block 2 [] (.loop [0,6,7,10] c149L1)))))))
def F149:AFun:=⟨c149,3,56,[]⟩
def K149:Nat→List Nat×List Nat
 |0=>([0,6,7,8,9],[0,6,7,8])
 |1=>([],[0,6,7,8,9])
 |2=>([0,6,7,10],[])
 |3=>([],[0,6,7,10])
 |_=>([],[])
theorem F149_ok:kj8 Tryz.prog K149 noRg Tryz.f149=some F149:=by kernel_rfl
/- 150: slices.breakPatternsOrdered[int] -/
def c150L0:ACode:=(.seq (.R [.m 26 9, .m 27 1, .m 28 6, .C 29 .quo 28 4, .C 30 .mul 29 2, .B 31 .add 27 30, .C 32 .add 31 1, .B 33 .leq 26 32] (.D 33 .skip (.exit 0))) (.seq (.block 1 [0,1,6,7,8,9] (.R [.Q 36 182 [7], .m 37 8, .o 38 (.bin .sub (.tmp 37) (.const (.int .u64 1))), .B 39 .and 36 38, .o 40 (.conv .i64 (.tmp 39)), .m 10 40] (.seq (.R [.m 41 10, .m 42 6, .B 43 .geq 41 42] (.D 43 (.region [.m 44 10, .m 45 6, .B 46 .sub 44 45, .m 10 46]) .skip)) (.region [.m 47 0, .m 48 9, .m 49 0, .m 50 1, .m 51 10, .B 52 .add 50 51, .m 53 0, .m 54 1, .m 55 10, .B 56 .add 54 55, .I 57 1 53 56, .L 58 57, .m 59 0, .m 60 9, .I 61 1 59 60, .L 62 61, .I 63 1 47 48, .S 63 58, .I 64 1 49 52, .S 64 62])))) (.region [.m 34 9, .C 35 .add 34 1, .m 9 35])))
def c150:ACode:=(.R [.m 11 2, .m 12 1, .B 13 .sub 11 12, .m 6 13] (.R [.m 14 6, .C 15 .geq 14 8] (.D 15 (.R [.m 16 6, .o 17 (.conv .u64 (.tmp 16)), .o 7 (.alloc 179 [(.int .u64 0)]), .S 7 17] (.R [.m 18 6, .Q 19 181 [18], .m 8 19] (.R [.m 20 1, .m 21 6, .C 22 .quo 21 4, .C 23 .mul 22 2, .B 24 .add 20 23, .C 25 .sub 24 1, .m 9 25] (.block 0 [] (.loop [0,1,6,7,8,9] c150L0))))) .skip)))
def F150:AFun:=⟨c150,3,65,[]⟩
def K150:Nat→List Nat×List Nat
 |0=>([0,1,6,7,8,9],[])
 |1=>([],[0,1,6,7,8,9])
 |_=>([],[])
theorem F150_ok:kj8 Tryz.prog K150 noRg Tryz.f150=some F150:=by kernel_rfl
/- 151: slices.choosePivotOrdered[int] -/
def c151:ACode:=(.R [.k 6 0, .k 7 0] (.R [.m 13 2, .m 14 1, .B 15 .sub 13 14, .m 8 15] (.R [.o 9 (.alloc 3 [(.int .i64 0)])] (.R [.m 16 1, .m 17 8, .C 18 .quo 17 4, .C 19 .mul 18 1, .B 20 .add 16 19, .m 10 20] (.R [.m 21 1, .m 22 8, .C 23 .quo 22 4, .C 24 .mul 23 2, .B 25 .add 21 24, .m 11 25] (.R [.m 26 1, .m 27 8, .C 28 .quo 27 4, .C 29 .mul 28 3, .B 30 .add 26 29, .m 12 30] (.seq (.R [.m 31 8, .C 32 .geq 31 8] (.D 32 (.seq (.R [.m 33 8, .C 34 .geq 33 50] (.D 34 (.R [.m 35 0, .m 36 10, .Q 37 183 [35,36,9], .m 10 37] (.R [.m 38 0, .m 39 11, .Q 40 183 [38,39,9], .m 11 40] (.region [.m 41 0, .m 42 12, .Q 43 183 [41,42,9], .m 12 43]))) .skip)) (.region [.m 44 0, .m 45 10, .m 46 11, .m 47 12, .Q 48 184 [44,45,46,47,9], .m 11 48])) .skip)) (.R [.L 49 9] (.block 0 [] (.R [.C 52 .eql 49 0, .m 51 52] (.D 51 (.R [.m 53 11, .m 6 53, .k 7 1] .ret) (.R [.C 55 .eql 49 12, .m 54 55] (.D 54 (.R [.m 56 11, .m 6 56, .k 7 2] .ret) (.R [.m 50 11, .m 6 50, .k 7 0] .ret))))))))))))))
def F151:AFun:=⟨c151,3,57,[(.tmp 6),(.tmp 7)]⟩
def K151:Nat→List Nat×List Nat
 |0=>([],[])
 |_=>([],[])
theorem F151_ok:kj8 Tryz.prog K151 noRg Tryz.f151=some F151:=by kernel_rfl
/- 152: slices.reverseRangeOrdered[int] -/
def c152L0:ACode:=(.seq (.R [.m 11 6, .m 12 7, .B 13 .lss 11 12] (.D 13 .skip (.exit 0))) (.block 1 [0,6,7] (.R [.m 14 0, .m 15 6, .m 16 0, .m 17 7, .m 18 0, .m 19 7, .I 20 1 18 19, .L 21 20, .m 22 0, .m 23 6, .I 24 1 22 23, .L 25 24, .I 26 1 14 15, .S 26 21, .I 27 1 16 17, .S 27 25] (.R [.m 28 6, .C 29 .add 28 1, .m 6 29] (.region [.m 30 7, .C 31 .sub 30 1, .m 7 31])))))
def c152:ACode:=(.R [.m 8 1, .m 6 8] (.R [.m 9 2, .C 10 .sub 9 1, .m 7 10] (.block 0 [] (.loop [0,6,7] c152L0))))
def F152:AFun:=⟨c152,3,32,[]⟩
def K152:Nat→List Nat×List Nat
 |0=>([0,6,7],[])
 |1=>([],[0,6,7])
 |_=>([],[])
theorem F152_ok:kj8 Tryz.prog K152 noRg Tryz.f152=some F152:=by kernel_rfl
/- 153: slices.partialInsertionSortOrdered[int] -/
def c153L0:ACode:=(.seq (.R [.m 17 7, .m 18 2, .B 19 .lss 17 18, .m 20 19, .G 21 0 20 true, .G 22 7 20 true, .g 23 (.i 1 21 22) 20 true, .H 24 23 20 true, .G 25 0 20 true, .G 26 7 20 true, .g 27 (.c .sub 26 1) 20 true, .g 28 (.i 1 25 27) 20 true, .H 29 28 20 true, .g 30 (.q 154 [24,29]) 20 true, .g 31 (.un .not (.tmp 30)) 20 true, .o 32 (.pick (.tmp 20) (.tmp 31) (.const (.bool false)))] (.D 32 .skip (.exit 2))) (.block 3 [0,1,2,7,8] (.region [.m 33 7, .C 34 .add 33 1, .m 7 34])))
def c153L1:ACode:=(.seq (.R [.m 64 9, .C 65 .geq 64 1] (.D 65 .skip (.exit 4))) (.seq (.block 5 [0,1,2,7,8,9] (.seq (.R [.m 68 0, .m 69 9, .I 70 1 68 69, .L 71 70, .m 72 0, .m 73 9, .C 74 .sub 73 1, .I 75 1 72 74, .L 76 75, .Q 77 154 [71,76], .o 78 (.un .not (.tmp 77))] (.D 78 (.exit 4) .skip)) (.region [.m 79 0, .m 80 9, .m 81 0, .m 82 9, .C 83 .sub 82 1, .m 84 0, .m 85 9, .C 86 .sub 85 1, .I 87 1 84 86, .L 88 87, .m 89 0, .m 90 9, .I 91 1 89 90, .L 92 91, .I 93 1 79 80, .S 93 88, .I 94 1 81 83, .S 94 92]))) (.region [.m 66 9, .C 67 .sub 66 1, .m 9 67])))
def c153L2:ACode:=(.seq (.R [.m 101 10, .m 102 2, .B 103 .lss 101 102] (.D 103 .skip (.exit 6))) (.seq (.block 7 [0,1,2,7,8,10] (.seq (.R [.m 106 0, .m 107 10, .I 108 1 106 107, .L 109 108, .m 110 0, .m 111 10, .C 112 .sub 111 1, .I 113 1 110 112, .L 114 113, .Q 115 154 [109,114], .o 116 (.un .not (.tmp 115))] (.D 116 (.exit 6) .skip)) (.region [.m 117 0, .m 118 10, .m 119 0, .m 120 10, .C 121 .sub 120 1, .m 122 0, .m 123 10, .C 124 .sub 123 1, .I 125 1 122 124, .L 126 125, .m 127 0, .m 128 10, .I 129 1 127 128, .L 130 129, .I 131 1 117 118, .S 131 126, .I 132 1 119 121, .S 132 130]))) (.region [.m 104 10, .C 105 .add 104 1, .m 10 105])))
def c153L3:ACode:=(.seq (.R [.m 13 8, .C 14 .lss 13 5] (.D 14 .skip (.exit 0))) (.seq (.block 1 [0,1,2,7,8] (.seq (.block 2 [0,1,2,7,8] (.loop [0,1,2,7,8] c153L0)) (.seq (.R [.m 35 7, .m 36 2, .B 37 .eql 35 36] (.D 37 (.R [.o 6 (.mv (.const (.bool true)))] .ret) .skip)) (.seq (.R [.m 38 2, .m 39 1, .B 40 .sub 38 39, .C 41 .lss 40 50] (.D 41 (.R [.o 6 (.mv (.const (.bool false)))] .ret) .skip)) (.R [.m 42 0, .m 43 7, .m 44 0, .m 45 7, .C 46 .sub 45 1, .m 47 0, .m 48 7, .C 49 .sub 48 1, .I 50 1 47 49, .L 51 50, .m 52 0, .m 53 7, .I 54 1 52 53, .L 55 54, .I 56 1 42 43, .S 56 51, .I 57 1 44 46, .S 57 55] (.seq (.R [.m 58 7, .m 59 1, .B 60 .sub 58 59, .C 61 .geq 60 2] (.D 61 (.R [.m 62 7, .C 63 .sub 62 1, .m 9 63] (.block 4 [0,1,2,7,8] (.loop [0,1,2,7,8,9] c153L1))) .skip)) (.R [.m 95 2, .m 96 7, .B 97 .sub 95 96, .C 98 .geq 97 2] (.D 98 (.R [.m 99 7, .C 100 .add 99 1, .m 10 100] (.block 6 [0,1,2,7,8] (.loop [0,1,2,7,8,10] c153L2))) .skip)))))))) (.region [.m 15 8, .C 16 .add 15 1, .m 8 16])))
def c153:ACode:=(.R [.o 6 (.mv (.const (.bool false)))] (.R [.m 11 1, .C 12 .add 11 1, .m 7 12] (.seq (.R [.k 8 0] (.block 0 [] (.loop [0,1,2,7,8] c153L3))) (.R [.o 6 (.mv (.const (.bool false)))] .ret))))
def F153:AFun:=⟨c153,3,133,[(.tmp 6)]⟩
def K153:Nat→List Nat×List Nat
 |0=>([0,1,2,7,8],[])
 |1=>([],[0,1,2,7,8])
 |2=>([0,1,2,7,8],[0,1,2,7,8])
 |3=>([],[0,1,2,7,8])
 |4=>([0,1,2,7,8,9],[0,1,2,7,8])
 |5=>([],[0,1,2,7,8,9])
 |6=>([0,1,2,7,8,10],[0,1,2,7,8])
 |7=>([],[0,1,2,7,8,10])
 |_=>([],[])
theorem F153_ok:kj8 Tryz.prog K153 noRg Tryz.f153=some F153:=by kernel_rfl
/- 154: cmp.Less[int] -/
def c154:ACode:=(.R [.o 4 (.mv (.const (.bool false)))] (.R [.m 5 0, .Q 6 185 [5], .m 7 6, .G 8 1 7 true, .g 9 (.q 185 [8]) 7 true, .g 10 (.un .not (.tmp 9)) 7 true, .o 11 (.pick (.tmp 7) (.tmp 10) (.const (.bool false))), .m 12 11, .G 13 0 12 false, .G 14 1 12 false, .g 15 (.b .lss 13 14) 12 false, .P 16 12 15, .m 4 16] .ret))
def F154:AFun:=⟨c154,2,17,[(.tmp 4)]⟩
def K154:Nat→List Nat×List Nat
 |_=>([],[])
theorem F154_ok:kj8 Tryz.prog K154 noRg Tryz.f154=some F154:=by kernel_rfl
/- 155: slices.partitionEqualOrdered[int] -/
def c155L0:ACode:=(.seq (.R [.m 29 9, .m 30 10, .B 31 .leq 29 30, .m 32 31, .G 33 0 32 true, .G 34 1 32 true, .g 35 (.i 1 33 34) 32 true, .H 36 35 32 true, .G 37 0 32 true, .G 38 9 32 true, .g 39 (.i 1 37 38) 32 true, .H 40 39 32 true, .g 41 (.q 154 [36,40]) 32 true, .g 42 (.un .not (.tmp 41)) 32 true, .o 43 (.pick (.tmp 32) (.tmp 42) (.const (.bool false)))] (.D 43 .skip (.exit 2))) (.block 3 [0,1,9,10] (.region [.m 44 9, .C 45 .add 44 1, .m 9 45])))
def c155L1:ACode:=(.seq (.R [.m 46 9, .m 47 10, .B 48 .leq 46 47, .m 49 48, .G 50 0 49 true, .G 51 1 49 true, .g 52 (.i 1 50 51) 49 true, .H 53 52 49 true, .G 54 0 49 true, .G 55 10 49 true, .g 56 (.i 1 54 55) 49 true, .H 57 56 49 true, .g 58 (.q 154 [53,57]) 49 true, .o 59 (.pick (.tmp 49) (.tmp 58) (.const (.bool false)))] (.D 59 .skip (.exit 4))) (.block 5 [0,1,9,10] (.region [.m 60 10, .C 61 .sub 60 1, .m 10 61])))
def c155L2:ACode:=(.block 1 [0,1,9,10] (.seq (.block 2 [0,1,9,10] (.loop [0,1,9,10] c155L0)) (.seq (.block 4 [0,1,9,10] (.loop [0,1,9,10] c155L1)) (.seq (.R [.m 62 9, .m 63 10, .B 64 .gtr 62 63] (.D 64 (.exit 0) .skip)) (.R [.m 65 0, .m 66 9, .m 67 0, .m 68 10, .m 69 0, .m 70 10, .I 71 1 69 70, .L 72 71, .m 73 0, .m 74 9, .I 75 1 73 74, .L 76 75, .I 77 1 65 66, .S 77 72, .I 78 1 67 68, .S 78 76] (.R [.m 79 9, .C 80 .add 79 1, .m 9 80] (.region [.m 81 10, .C 82 .sub 81 1, .m 10 82])))))))
def c155:ACode:=(.R [.k 8 0] (.R [.m 11 0, .m 12 1, .m 13 0, .m 14 3, .m 15 0, .m 16 3, .I 17 1 15 16, .L 18 17, .m 19 0, .m 20 1, .I 21 1 19 20, .L 22 21, .I 23 1 11 12, .S 23 18, .I 24 1 13 14, .S 24 22] (.R [.m 25 1, .C 26 .add 25 1, .m 27 2, .C 28 .sub 27 1, .m 9 26, .m 10 28] (.seq (.block 0 [9] (.loop [0,1,9,10] c155L2)) (.R [.m 83 9, .m 8 83] .ret)))))
def F155:AFun:=⟨c155,4,84,[(.tmp 8)]⟩
def K155:Nat→List Nat×List Nat
 |0=>([0,1,9,10],[9])
 |1=>([],[0,1,9,10])
 |2=>([0,1,9,10],[0,1,9,10])
 |3=>([],[0,1,9,10])
 |4=>([0,1,9,10],[0,1,9,10])
 |5=>([],[0,1,9,10])
 |_=>([],[])
theorem F155_ok:kj8 Tryz.prog K155 noRg Tryz.f155=some F155:=by kernel_rfl
/- 156: slices.partitionOrdered[int] -/
def c156L0:ACode:=(.seq (.R [.m 30 10, .m 31 11, .B 32 .leq 30 31, .m 33 32, .G 34 0 33 true, .G 35 10 33 true, .g 36 (.i 1 34 35) 33 true, .H 37 36 33 true, .G 38 0 33 true, .G 39 1 33 true, .g 40 (.i 1 38 39) 33 true, .H 41 40 33 true, .g 42 (.q 154 [37,41]) 33 true, .o 43 (.pick (.tmp 33) (.tmp 42) (.const (.bool false)))] (.D 43 .skip (.exit 0))) (.block 1 [0,1,10,11] (.region [.m 44 10, .C 45 .add 44 1, .m 10 45])))
def c156L1:ACode:=(.seq (.R [.m 46 10, .m 47 11, .B 48 .leq 46 47, .m 49 48, .G 50 0 49 true, .G 51 11 49 true, .g 52 (.i 1 50 51) 49 true, .H 53 52 49 true, .G 54 0 49 true, .G 55 1 49 true, .g 56 (.i 1 54 55) 49 true, .H 57 56 49 true, .g 58 (.q 154 [53,57]) 49 true, .g 59 (.un .not (.tmp 58)) 49 true, .o 60 (.pick (.tmp 49) (.tmp 59) (.const (.bool false)))] (.D 60 .skip (.exit 2))) (.block 3 [0,1,10,11] (.region [.m 61 11, .C 62 .sub 61 1, .m 11 62])))
def c156L2:ACode:=(.seq (.R [.m 99 10, .m 100 11, .B 101 .leq 99 100, .m 102 101, .G 103 0 102 true, .G 104 10 102 true, .g 105 (.i 1 103 104) 102 true, .H 106 105 102 true, .G 107 0 102 true, .G 108 1 102 true, .g 109 (.i 1 107 108) 102 true, .H 110 109 102 true, .g 111 (.q 154 [106,110]) 102 true, .o 112 (.pick (.tmp 102) (.tmp 111) (.const (.bool false)))] (.D 112 .skip (.exit 6))) (.block 7 [0,1,10,11] (.region [.m 113 10, .C 114 .add 113 1, .m 10 114])))
def c156L3:ACode:=(.seq (.R [.m 115 10, .m 116 11, .B 117 .leq 115 116, .m 118 117, .G 119 0 118 true, .G 120 11 118 true, .g 121 (.i 1 119 120) 118 true, .H 122 121 118 true, .G 123 0 118 true, .G 124 1 118 true, .g 125 (.i 1 123 124) 118 true, .H 126 125 118 true, .g 127 (.q 154 [122,126]) 118 true, .g 128 (.un .not (.tmp 127)) 118 true, .o 129 (.pick (.tmp 118) (.tmp 128) (.const (.bool false)))] (.D 129 .skip (.exit 8))) (.block 9 [0,1,10,11] (.region [.m 130 11, .C 131 .sub 130 1, .m 11 131])))
def c156L4:ACode:=(.block 5 [0,1,10,11] (.seq (.block 6 [0,1,10,11] (.loop [0,1,10,11] c156L2)) (.seq (.block 8 [0,1,10,11] (.loop [0,1,10,11] c156L3)) (.seq (.R [.m 132 10, .m 133 11, .B 134 .gtr 132 133] (.D 134 (.exit 4) .skip)) (.R [.m 135 0, .m 136 10, .m 137 0, .m 138 11, .m 139 0, .m 140 11, .I 141 1 139 140, .L 142 141, .m 143 0, .m 144 10, .I 145 1 143 144, .L 146 145, .I 147 1 135 136, .S 147 142, .I 148 1 137 138, .S 148 146] (.R [.m 149 10, .C 150 .add 149 1, .m 10 150] (.region [.m 151 11, .C 152 .sub 151 1, .m 11 152])))))))
def c156:ACode:=(.R [.k 8 0, .o 9 (.mv (.const (.bool false)))] (.R [.m 12 0, .m 13 1, .m 14 0, .m 15 3, .m 16 0, .m 17 3, .I 18 1 16 17, .L 19 18, .m 20 0, .m 21 1, .I 22 1 20 21, .L 23 22, .I 24 1 12 13, .S 24 19, .I 25 1 14 15, .S 25 23] (.R [.m 26 1, .C 27 .add 26 1, .m 28 2, .C 29 .sub 28 1, .m 10 27, .m 11 29] (.seq (.block 0 [0,1,10,11] (.loop [0,1,10,11] c156L0)) (.seq (.block 2 [0,1,10,11] (.loop [0,1,10,11] c156L1)) (.seq (.R [.m 63 10, .m 64 11, .B 65 .gtr 63 64] (.D 65 (.R [.m 66 0, .m 67 11, .m 68 0, .m 69 1, .m 70 0, .m 71 1, .I 72 1 70 71, .L 73 72, .m 74 0, .m 75 11, .I 76 1 74 75, .L 77 76, .I 78 1 66 67, .S 78 73, .I 79 1 68 69, .S 79 77] (.R [.m 80 11, .m 8 80, .o 9 (.mv (.const (.bool true)))] .ret)) .skip)) (.R [.m 81 0, .m 82 10, .m 83 0, .m 84 11, .m 85 0, .m 86 11, .I 87 1 85 86, .L 88 87, .m 89 0, .m 90 10, .I 91 1 89 90, .L 92 91, .I 93 1 81 82, .S 93 88, .I 94 1 83 84, .S 94 92] (.R [.m 95 10, .C 96 .add 95 1, .m 10 96] (.R [.m 97 11, .C 98 .sub 97 1, .m 11 98] (.seq (.block 4 [0,1,11] (.loop [0,1,10,11] c156L4)) (.R [.m 153 0, .m 154 11, .m 155 0, .m 156 1, .m 157 0, .m 158 1, .I 159 1 157 158, .L 160 159, .m 161 0, .m 162 11, .I 163 1 161 162, .L 164 163, .I 165 1 153 154, .S 165 160, .I 166 1 155 156, .S 166 164] (.R [.m 167 11, .m 8 167, .o 9 (.mv (.const (.bool false)))] .ret))))))))))))
def F156:AFun:=⟨c156,4,168,[(.tmp 8),(.tmp 9)]⟩
def K156:Nat→List Nat×List Nat
 |0=>([0,1,10,11],[0,1,10,11])
 |1=>([],[0,1,10,11])
 |2=>([0,1,10,11],[0,1,10,11])
 |3=>([],[0,1,10,11])
 |4=>([0,1,10,11],[0,1,11])
 |5=>([],[0,1,10,11])
 |6=>([0,1,10,11],[0,1,10,11])
 |7=>([],[0,1,10,11])
 |8=>([0,1,10,11],[0,1,10,11])
 |9=>([],[0,1,10,11])
 |_=>([],[])
theorem F156_ok:kj8 Tryz.prog K156 noRg Tryz.f156=some F156:=by kernel_rfl
/- 158: math/bits.Len64 -/
def c158:ACode:=(.R [.k 2 0] (.seq (.R [.m 3 0, .o 4 (.bin .geq (.tmp 3) (.const (.int .u64 4294967296)))] (.D 4 (.R [.m 5 0, .o 6 (.bin .shr (.tmp 5) (.const (.int .u64 32))), .m 0 6] (.region [.k 2 32])) .skip)) (.seq (.R [.m 7 0, .o 8 (.bin .geq (.tmp 7) (.const (.int .u64 65536)))] (.D 8 (.R [.m 9 0, .o 10 (.bin .shr (.tmp 9) (.const (.int .u64 16))), .m 0 10] (.region [.m 11 2, .C 12 .add 11 16, .m 2 12])) .skip)) (.seq (.R [.m 13 0, .o 14 (.bin .geq (.tmp 13) (.const (.int .u64 256)))] (.D 14 (.R [.m 15 0, .o 16 (.bin .shr (.tmp 15) (.const (.int .u64 8))), .m 0 16] (.region [.m 17 2, .C 18 .add 17 8, .m 2 18])) .skip)) (.R [.m 19 2, .m 20 0, .o 21 (.conv .u8 (.tmp 20)), .o 22 (.idxS (.const (.string {data:= #[0,1,2,2,3,3,3,3,4,4,4,4,4,4,4,4,5,5,5,5,5,5,5,5,5,5,5,5,5,5,5,5,6,6,6,6,6,6,6,6,6,6,6,6,6,6,6,6,6,6,6,6,6,6,6,6,6,6,6,6,6,6,6,6,7,7,7,7,7,7,7,7,7,7,7,7,7,7,7,7,7,7,7,7,7,7,7,7,7,7,7,7,7,7,7,7,7,7,7,7,7,7,7,7,7,7,7,7,7,7,7,7,7,7,7,7,7,7,7,7,7,7,7,7,7,7,7,7,8,8,8,8,8,8,8,8,8,8,8,8,8,8,8,8,8,8,8,8,8,8,8,8,8,8,8,8,8,8,8,8,8,8,8,8,8,8,8,8,8,8,8,8,8,8,8,8,8,8,8,8,8,8,8,8,8,8,8,8,8,8,8,8,8,8,8,8,8,8,8,8,8,8,8,8,8,8,8,8,8,8,8,8,8,8,8,8,8,8,8,8,8,8,8,8,8,8,8,8,8,8,8,8,8,8,8,8,8,8,8,8,8,8,8,8,8,8,8,8,8,8,8,8,8,8,8,8]})) (.tmp 21)), .o 23 (.conv .i64 (.tmp 22)), .B 24 .add 19 23, .m 2 24] .ret)))))
def F158:AFun:=⟨c158,1,25,[(.tmp 2)]⟩
def K158:Nat→List Nat×List Nat
 |_=>([],[])
theorem F158_ok:kj8 Tryz.prog K158 noRg Tryz.f158=some F158:=by kernel_rfl
/- 159: slices.Clone[[]int,int] -/
def c159:ACode:=(.R [.Z 2] (.seq (.R [.m 3 0, .o 4 (.eqn false 0 (.tmp 3))] (.D 4 (.R [.Z 2] .ret) .skip)) (.R [.o 5 (.mkSl 3 1 0 []), .m 6 0, .o 7 (.app 3 1 8 (.tmp 5) (.tmp 6)), .m 2 7] .ret)))
def F159:AFun:=⟨c159,1,8,[(.tmp 2)]⟩
def K159:Nat→List Nat×List Nat
 |_=>([],[])
theorem F159_ok:kj8 Tryz.prog K159 noRg Tryz.f159=some F159:=by kernel_rfl
/- 160: (*syndrome/field.Field).Inv -/
def c160:ACode:=(.R [.k 4 0] (.seq (.R [.m 5 0, .m 6 1, .Q 7 83 [5,6], .o 8 (.un .not (.tmp 7)), .m 9 8, .G 10 1 9 false, .g 11 (.c .eql 10 0) 9 false, .P 12 9 11] (.D 12 (.R [.k 4 (-1)] .ret) .skip)) (.R [.m 13 0, .K 14 13, .F 15 5 14, .L 16 15, .m 17 0, .K 18 17, .F 19 0 18, .L 20 19, .C 21 .sub 20 1, .m 22 0, .K 23 22, .F 24 6 23, .L 25 24, .m 26 1, .I 27 1 25 26, .L 28 27, .B 29 .sub 21 28, .m 30 0, .K 31 30, .F 32 0 31, .L 33 32, .C 34 .sub 33 1, .B 35 .rem 29 34, .I 36 1 16 35, .L 37 36, .m 4 37] .ret)))
def F160:AFun:=⟨c160,2,38,[(.tmp 4)]⟩
def K160:Nat→List Nat×List Nat
 |_=>([],[])
theorem F160_ok:kj8 Tryz.prog K160 noRg Tryz.f160=some F160:=by kernel_rfl
/- 161: (*syndrome/field.Field).Sub -/
def c161:ACode:=(.R [.k 6 0] (.R [.m 7 0, .m 8 1, .m 9 0, .m 10 2, .Q 11 57 [9,10], .Q 12 92 [7,8,11], .m 6 12] .ret))
def F161:AFun:=⟨c161,3,13,[(.tmp 6)]⟩
def K161:Nat→List Nat×List Nat
 |_=>([],[])
theorem F161_ok:kj8 Tryz.prog K161 noRg Tryz.f161=some F161:=by kernel_rfl
/- 162: syndrome/matrix.Check -/
def c162L0:ACode:=(.R [.B 23 .lss 22 21] (.seq (.D 23 .skip (.exit 0)) (.seq (.block 1 [1,5,20,21,22] (.R [.I 24 1 20 22, .L 25 24, .m 8 25] (.seq (.R [.m 26 8, .N 27 26, .m 28 1, .o 29 (.iaddr 1 (.tmp 28) (.const (.int .i64 0))), .L 30 29, .N 31 30, .B 32 .neq 27 31, .m 33 32, .G 34 8 33 false, .g 35 (.n 34) 33 false, .g 36 (.c .eql 35 0) 33 false, .P 37 33 36] (.D 37 (.R [.k 4 3] .ret) .skip)) (.seq (.R [.m 38 8, .N 39 38, .C 40 .gtr 39 64] (.D 40 (.R [.k 4 4] .ret) .skip)) (.R [.m 41 8, .o 42 (.mkf 186 [(.tmp 5)]), .Q 43 81 [41,42]] (.D 43 (.R [.k 4 2] .ret) .skip)))))) (.region [.C 44 .add 22 1, .m 22 44]))))
def c162:ACode:=(.R [.k 4 0] (.R [.m 10 0, .Q 11 48 [10], .m 9 11, .E 12 0 9, .E 13 1 9, .o 5 (.alloc 71 [(.pointer none)]), .S 5 12, .m 6 13] (.seq (.R [.m 14 6, .C 15 .neq 14 0] (.D 15 (.R [.m 16 6, .m 4 16] .ret) .skip)) (.seq (.R [.m 17 1, .N 18 17, .C 19 .gtr 18 64] (.D 19 (.R [.k 4 4] .ret) .skip)) (.seq (.R [.m 20 1, .N 21 20, .k 22 0] (.block 0 [] (.loop [1,5,20,21,22] c162L0))) (.R [.k 4 0] .ret))))))
def F162:AFun:=⟨c162,2,45,[(.tmp 4)]⟩
def K162:Nat→List Nat×List Nat
 |0=>([1,5,20,21,22],[])
 |1=>([],[1,5,20,21,22])
 |_=>([],[])
theorem F162_ok:kj8 Tryz.prog K162 noRg Tryz.f162=some F162:=by kernel_rfl
/- 163: syndrome/matrix.clone -/
def c163L0:ACode:=(.R [.B 12 .lss 11 10] (.seq (.D 12 .skip (.exit 0)) (.seq (.block 1 [3,9,10,11] (.R [.m 13 11, .I 14 1 9 11, .L 15 14, .m 4 13, .m 5 15] (.region [.m 16 3, .m 17 4, .m 18 5, .Q 19 159 [18], .I 20 1 16 17, .S 20 19]))) (.region [.C 21 .add 11 1, .m 11 21]))))
def c163:ACode:=(.R [.Z 2] (.R [.m 6 0, .N 7 6, .o 8 (.mks 22 1 24 [(.slice none 0 0)] (.tmp 7) (.tmp 7)), .m 3 8] (.seq (.R [.m 9 0, .N 10 9, .k 11 0] (.block 0 [3] (.loop [3,9,10,11] c163L0))) (.R [.m 22 3, .m 2 22] .ret))))
def F163:AFun:=⟨c163,1,23,[(.tmp 2)]⟩
def K163:Nat→List Nat×List Nat
 |0=>([3,9,10,11],[3])
 |1=>([],[3,9,10,11])
 |_=>([],[])
theorem F163_ok:kj8 Tryz.prog K163 noRg Tryz.f163=some F163:=by kernel_rfl
/- 164: slices.IndexFunc[[][]int,[]int] -/
def c164L0:ACode:=(.R [.B 9 .lss 8 7] (.seq (.D 9 .skip (.exit 0)) (.seq (.block 1 [0,1,7,8] (.R [.m 10 8, .m 5 10] (.R [.m 11 1, .m 12 0, .m 13 5, .I 14 1 12 13, .L 15 14, .o 16 (.calld (.tmp 11) [(.tmp 15)])] (.D 16 (.R [.m 17 5, .m 4 17] .ret) .skip)))) (.region [.C 18 .add 8 1, .m 8 18]))))
def c164:ACode:=(.R [.k 4 0] (.seq (.R [.m 6 0, .N 7 6, .k 8 0] (.block 0 [] (.loop [0,1,7,8] c164L0))) (.R [.k 4 (-1)] .ret)))
def F164:AFun:=⟨c164,2,19,[(.tmp 4)]⟩
def K164:Nat→List Nat×List Nat
 |0=>([0,1,7,8],[])
 |1=>([],[0,1,7,8])
 |_=>([],[])
theorem F164_ok:kj8 Tryz.prog K164 noRg Tryz.f164=some F164:=by kernel_rfl
/- 165: syndrome/matrix.Reduce$1 -/
def c165:ACode:=(.R [.o 3 (.mv (.const (.bool false)))] (.R [.m 4 0, .L 5 1, .I 6 1 4 5, .L 7 6, .C 8 .neq 7 0, .m 3 8] .ret))
def F165:AFun:=⟨c165,2,9,[(.tmp 3)]⟩
def K165:Nat→List Nat×List Nat
 |_=>([],[])
theorem F165_ok:kj8 Tryz.prog K165 noRg Tryz.f165=some F165:=by kernel_rfl
/- 166: syndrome/matrix.scale -/
def c166L0:ACode:=(.R [.B 10 .lss 9 8] (.seq (.D 10 .skip (.exit 0)) (.seq (.block 1 [0,1,2,8,9] (.R [.m 11 9, .m 6 11] (.region [.m 12 1, .m 13 6, .m 14 0, .m 15 1, .m 16 6, .I 17 1 15 16, .L 18 17, .m 19 2, .Q 20 93 [14,18,19], .I 21 1 12 13, .S 21 20]))) (.region [.C 22 .add 9 1, .m 9 22]))))
def c166:ACode:=(.R [.m 7 1, .N 8 7, .k 9 0] (.block 0 [] (.loop [0,1,2,8,9] c166L0)))
def F166:AFun:=⟨c166,3,23,[]⟩
def K166:Nat→List Nat×List Nat
 |0=>([0,1,2,8,9],[])
 |1=>([],[0,1,2,8,9])
 |_=>([],[])
theorem F166_ok:kj8 Tryz.prog K166 noRg Tryz.f166=some F166:=by kernel_rfl
/- 167: syndrome/matrix.less -/
def c167L0:ACode:=(.R [.B 12 .lss 11 10] (.seq (.D 12 .skip (.exit 0)) (.seq (.block 1 [0,1,2,3,10,11] (.R [.m 13 11, .m 8 13] (.region [.m 14 1, .m 15 8, .m 16 0, .m 17 1, .m 18 8, .I 19 1 17 18, .L 20 19, .m 21 0, .m 22 3, .m 23 2, .m 24 8, .I 25 1 23 24, .L 26 25,⟨(some 27),(.call 93 [(.tmp 21),(.tmp 22),(.tmp 26)]),none,true⟩, .Q 28 161 [16,20,27], .I 29 1 14 15, .S 29 28]))) (.region [.C 30 .add 11 1, .m 11 30]))))
def c167:ACode:=(.R [.m 9 1, .N 10 9, .k 11 0] (.block 0 [] (.loop [0,1,2,3,10,11] c167L0)))
def F167:AFun:=⟨c167,4,31,[]⟩
def K167:Nat→List Nat×List Nat
 |0=>([0,1,2,3,10,11],[])
 |1=>([],[0,1,2,3,10,11])
 |_=>([],[])
theorem F167_ok:kj8 Tryz.prog K167 noRg Tryz.f167=some F167:=by kernel_rfl
/- 179: (*syndrome/field.Field).turn -/
def c179L0:ACode:=(.R [.B 57 .lss 56 55] (.seq (.D 57 .skip (.exit 0)) (.seq (.block 1 [0,5,6,55,56] (.R [.m 58 56, .m 7 58] (.region [.m 59 5, .m 60 7, .m 61 5, .m 62 7, .I 63 1 61 62, .L 64 63, .m 65 6, .m 66 0, .K 67 66, .F 68 1 67, .L 69 68, .m 70 0, .K 71 70, .F 72 3 71, .L 73 72, .m 74 7, .I 75 1 73 74, .L 76 75, .B 77 .sub 69 76, .B 78 .mul 65 77, .B 79 .add 64 78, .m 80 0, .K 81 80, .F 82 1 81, .L 83 82, .B 84 .rem 79 83, .I 85 1 59 60, .S 85 84]))) (.region [.C 86 .add 56 1, .m 56 86]))))
def c179:ACode:=(.R [.k 4 0] (.seq (.R [.m 8 0, .K 9 8, .F 10 2 9, .L 11 10, .C 12 .eql 11 1] (.D 12 (.R [.m 13 1, .m 14 0, .K 15 14, .F 16 4 15, .L 17 16, .B 18 .mul 13 17, .m 19 0, .K 20 19, .F 21 1 20, .L 22 21, .B 23 .rem 18 22, .m 4 23] .ret) .skip)) (.R [.m 24 1, .m 25 0, .K 26 25, .F 27 1 26, .L 28 27, .m 29 0, .K 30 29, .F 31 2 30, .L 32 31, .Q 33 117 [24,28,32], .m 5 33] (.R [.m 34 5, .m 35 0, .K 36 35, .F 37 2 36, .L 38 37, .C 39 .sub 38 1, .I 40 1 34 39, .L 41 40, .m 6 41] (.R [.m 42 5, .o 43 (.sl 1 (.tmp 42) (some (.const (.int .i64 1))) none), .m 44 5, .m 45 0, .K 46 45, .F 47 2 46, .L 48 47, .C 49 .sub 48 1, .o 50 (.sl 1 (.tmp 44) none (some (.tmp 49))), .o 51 (.cpy 1 (.tmp 43) (.tmp 50))] (.R [.m 52 5, .o 53 (.iaddr 1 (.tmp 52) (.const (.int .i64 0))), .n (.st 1 (.tmp 53) (.const (.int .i64 0)))] (.seq (.R [.m 54 5, .N 55 54, .k 56 0] (.block 0 [0,5] (.loop [0,5,6,55,56] c179L0))) (.R [.m 87 5, .m 88 0, .K 89 88, .F 90 1 89, .L 91 90, .Q 92 193 [87,91], .m 4 92] .ret))))))))
def F179:AFun:=⟨c179,2,93,[(.tmp 4)]⟩
def K179:Nat→List Nat×List Nat
 |0=>([0,5,6,55,56],[0,5])
 |1=>([],[0,5,6,55,56])
 |_=>([],[])
theorem F179_ok:kj8 Tryz.prog K179 noRg Tryz.f179=some F179:=by kernel_rfl
/- 180: slices.siftDownOrdered[int] -/
def c180L0:ACode:=(.block 1 [0,2,3,8] (.R [.m 11 8, .o 12 (.bin .mul (.const (.int .i64 2)) (.tmp 11)), .C 13 .add 12 1, .m 9 13] (.seq (.R [.m 14 9, .m 15 2, .B 16 .geq 14 15] (.D 16 (.exit 0) .skip)) (.seq (.R [.m 17 9, .C 18 .add 17 1, .m 19 2, .B 20 .lss 18 19, .m 21 20, .G 22 0 21 true, .G 23 3 21 true, .G 24 9 21 true, .g 25 (.b .add 23 24) 21 true, .g 26 (.i 1 22 25) 21 true, .H 27 26 21 true, .G 28 0 21 true, .G 29 3 21 true, .G 30 9 21 true, .g 31 (.b .add 29 30) 21 true, .g 32 (.c .add 31 1) 21 true, .g 33 (.i 1 28 32) 21 true, .H 34 33 21 true, .g 35 (.q 154 [27,34]) 21 true, .o 36 (.pick (.tmp 21) (.tmp 35) (.const (.bool false)))] (.D 36 (.region [.m 37 9, .C 38 .add 37 1, .m 9 38]) .skip)) (.seq (.R [.m 39 0, .m 40 3, .m 41 8, .B 42 .add 40 41, .I 43 1 39 42, .L 44 43, .m 45 0, .m 46 3, .m 47 9, .B 48 .add 46 47, .I 49 1 45 48, .L 50 49, .Q 51 154 [44,50], .o 52 (.un .not (.tmp 51))] (.D 52 .ret .skip)) (.R [.m 53 0, .m 54 3, .m 55 8, .B 56 .add 54 55, .m 57 0, .m 58 3, .m 59 9, .B 60 .add 58 59, .m 61 0, .m 62 3, .m 63 9, .B 64 .add 62 63, .I 65 1 61 64, .L 66 65, .m 67 0, .m 68 3, .m 69 8, .B 70 .add 68 69, .I 71 1 67 70, .L 72 71, .I 73 1 53 56, .S 73 66, .I 74 1 57 60, .S 74 72] (.region [.m 75 9, .m 8 75])))))))
def c180:ACode:=(.R [.m 10 1, .m 8 10] (.block 0 [] (.loop [0,2,3,8] c180L0)))
def F180:AFun:=⟨c180,4,76,[]⟩
def K180:Nat→List Nat×List Nat
 |0=>([0,2,3,8],[])
 |1=>([],[0,2,3,8])
 |_=>([],[])
theorem F180_ok:kj8 Tryz.prog K180 noRg Tryz.f180=some F180:=by kernel_rfl
/- 181: slices.nextPowerOfTwo -/
def c181:ACode:=(.R [.o 2 (.mv (.const (.int .u64 0)))] (.R [.m 3 0, .o 4 (.conv .u64 (.tmp 3)), .Q 5 107 [4], .o 6 (.bin .shl (.const (.int .u64 1)) (.tmp 5)), .m 2 6] .ret))
def F181:AFun:=⟨c181,1,7,[(.tmp 2)]⟩
def K181:Nat→List Nat×List Nat
 |_=>([],[])
theorem F181_ok:kj8 Tryz.prog K181 noRg Tryz.f181=some F181:=by kernel_rfl
/- 182: (*slices.xorshift).Next -/
def c182:ACode:=(.R [.o 2 (.mv (.const (.int .u64 0)))] (.R [.m 3 0, .K 4 3, .L 5 4, .m 6 0, .K 7 6, .L 8 7, .o 9 (.bin .shl (.tmp 8) (.const (.int .u64 13))), .B 10 .xor 5 9, .K 11 3, .S 11 10] (.R [.m 12 0, .K 13 12, .L 14 13, .m 15 0, .K 16 15, .L 17 16, .o 18 (.bin .shr (.tmp 17) (.const (.int .u64 7))), .B 19 .xor 14 18, .K 20 12, .S 20 19] (.R [.m 21 0, .K 22 21, .L 23 22, .m 24 0, .K 25 24, .L 26 25, .o 27 (.bin .shl (.tmp 26) (.const (.int .u64 17))), .B 28 .xor 23 27, .K 29 21, .S 29 28] (.R [.m 30 0, .K 31 30, .L 32 31, .m 2 32] .ret)))))
def F182:AFun:=⟨c182,1,33,[(.tmp 2)]⟩
def K182:Nat→List Nat×List Nat
 |_=>([],[])
theorem F182_ok:kj8 Tryz.prog K182 noRg Tryz.f182=some F182:=by kernel_rfl
/- 183: slices.medianAdjacentOrdered[int] -/
def c183:ACode:=(.R [.k 6 0] (.R [.m 7 0, .m 8 1, .C 9 .sub 8 1, .m 10 1, .m 11 1, .C 12 .add 11 1, .m 13 2, .Q 14 184 [7,9,10,12,13], .m 6 14] .ret))
def F183:AFun:=⟨c183,3,15,[(.tmp 6)]⟩
def K183:Nat→List Nat×List Nat
 |_=>([],[])
theorem F183_ok:kj8 Tryz.prog K183 noRg Tryz.f183=some F183:=by kernel_rfl
end Go.Proofs.YtppbpgmdmiajcaaGreat
