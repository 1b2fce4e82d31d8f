/-
  Functions of this seat as the small machine's code, written by a program of my own (gen.py); each is checked to be what the model's function is turned into. No condition.
-/
import Derived.Test.YtppbpgmdmiajcaaK2
import Derived.Test.YtppbpgmdmiajcaaProg
set_option linter.unusedVariables false
set_option linter.unusedSimpArgs false
set_option linter.unusedSectionVars false
set_option maxRecDepth 100000
namespace Go.Proofs.Ytppbpgmdmiajcaa
open Go.Am
/- 3: syndrome/syndrometop.TopGolay -/
def c3L0:ACode:=(.seq (.R [.m 113 19, .m 114 10, .B 115 .lss 113 114] (.D 115 .skip (.exit 0))) (.seq (.block 1 [2,9,10,13,16,18,19] (.region [.m 118 18, .m 119 2, .m 120 19, .o 121 (.bin .mul (.const (.int .i64 2)) (.tmp 120)), .F 123 1 13, .m 126 2, .m 127 19, .o 128 (.bin .mul (.const (.int .i64 2)) (.tmp 127)), .C 129 .add 128 1, .F 131 0 9, .L 124 123, .L 132 131,⟨(some 122),(.call 14 [(.tmp 119),(.tmp 121)]),none,true⟩,⟨(some 125),(.call 9 [(.tmp 122),(.tmp 124)]),none,true⟩,⟨(some 130),(.call 14 [(.tmp 126),(.tmp 129)]),none,true⟩, .Q 133 9 [130,132], .I 134 1 118 125, .S 134 133])) (.region [.m 116 19, .C 117 .add 116 1, .m 19 117])))
def c3:ACode:=(.R [.o 8 (.mv (.const (.bool false)))] (.seq (.R [.m 22 1, .N 23 22, .m 24 2, .N 25 24, .B 26 .add 23 25, .C 27 .gtr 26 64] (.D 27 (.R [.o 8 (.mv (.const (.bool true)))] .ret) .skip)) (.R [.o 28 (.call 4 []), .o 9 (.alloc 25 [(.int .i64 0),(.int .i64 0),(.slice none 0 0)]), .n (.st 3 (.tmp 9) (.tmp 28))] (.R [.k 10 3] (.seq (.R [.m 29 3] (.D 29 (.R [.o 30 (.call 5 []), .n (.st 3 (.tmp 9) (.tmp 30))] (.region [.k 10 2])) .skip)) (.R [.o 32 (.ld true 3 (.tmp 9)), .Q 33 6 [32], .m 31 33, .E 34 0 31, .E 35 1 31, .o 11 (.alloc 25 [(.int .i64 0),(.int .i64 0),(.slice none 0 0)]), .n (.st 3 (.tmp 11) (.tmp 34)), .m 12 35] (.seq (.R [.m 36 12, .C 37 .neq 36 0, .m 38 37, .g 39 (.ld true 3 (.tmp 9)) 38 false, .g 40 (.ld true 3 (.tmp 11)) 38 false, .g 41 (.q 7 [39,40]) 38 false, .g 42 (.un .not (.tmp 41)) 38 false, .P 43 38 42, .m 44 43, .g 45 (.f 2 9) 44 false, .H 46 45 44 false, .g 47 (.n 46) 44 false, .g 48 (.c .mul 47 2) 44 false, .g 49 (.f 1 9) 44 false, .H 50 49 44 false, .g 51 (.b .neq 48 50) 44 false, .P 52 44 51, .m 53 52, .g 54 (.f 1 9) 53 false, .H 55 54 53 false, .g 56 (.c .lss 55 12) 53 false, .P 57 53 56, .m 58 57, .g 59 (.f 0 9) 58 false, .H 60 59 58 false, .g 61 (.c .lss 60 2) 58 false, .P 62 58 61] (.D 62 (.R [.o 8 (.mv (.const (.bool false)))] .ret) .skip)) (.R [.o 64 (.ld true 3 (.tmp 9)), .m 65 0, .F 66 1 9, .L 67 66,⟨(some 68),(.call 9 [(.tmp 65),(.tmp 67)]),none,true⟩,⟨(some 69),(.call 8 [(.tmp 64),(.tmp 68)]),none,true⟩, .m 63 69, .E 70 0 63, .E 71 1 63, .o 13 (.alloc 25 [(.int .i64 0),(.int .i64 0),(.slice none 0 0)]), .n (.st 3 (.tmp 13) (.tmp 70)), .m 12 71] (.R [.o 73 (.ld true 3 (.tmp 13)), .m 74 10, .Q 75 10 [73,74], .m 72 75, .E 76 0 72, .E 77 1 72, .m 14 76, .m 15 77] (.R [.o 79 (.ld true 3 (.tmp 13)), .m 80 1, .F 81 0 9, .L 82 81, .F 83 2 9, .L 84 83, .N 85 84,⟨(some 86),(.call 12 [(.tmp 80),(.const (.int .i64 0)),(.tmp 82),(.tmp 85)]),none,true⟩, .Q 87 11 [79,86], .m 78 87, .E 88 0 78, .E 89 1 78, .m 16 88, .m 17 89] (.seq (.R [.m 90 12, .C 91 .neq 90 0, .m 92 91, .G 93 15 92 false, .g 94 (.c .neq 93 0) 92 false, .P 95 92 94, .m 96 95, .G 97 17 96 false, .g 98 (.c .neq 97 0) 96 false, .P 99 96 98, .m 100 99, .G 101 14 100 false, .g 102 (.un .not (.tmp 101)) 100 false, .P 103 100 102, .m 104 103, .G 105 16 104 false, .g 106 (.n 105) 104 false, .g 107 (.f 1 13) 104 false, .H 108 107 104 false, .g 109 (.b .neq 106 108) 104 false, .P 110 104 109] (.D 110 (.R [.o 8 (.mv (.const (.bool false)))] .ret) .skip)) (.R [.m 111 16, .Q 112 13 [111], .m 18 112] (.seq (.R [.k 19 0] (.block 0 [13,16,18] (.loop [2,9,10,13,16,18,19] c3L0))) (.R [.o 136 (.ld true 3 (.tmp 13)), .m 137 18, .Q 138 15 [136,137], .m 135 138, .E 139 0 135, .E 140 1 135, .E 141 2 135, .m 20 139, .m 21 140, .m 12 141] (.R [.m 142 12, .C 143 .eql 142 0, .m 144 143, .G 145 20 144 true, .G 146 16 144 true, .g 147 (.q 16 [145,146]) 144 true, .o 148 (.pick (.tmp 144) (.tmp 147) (.const (.bool false))), .m 149 148, .G 150 21 149 true, .G 151 18 149 true, .G 152 16 149 true, .g 153 (.q 17 [151,152]) 149 true, .g 154 (.b .eql 150 153) 149 true, .o 155 (.pick (.tmp 149) (.tmp 154) (.const (.bool false))), .m 8 155] .ret)))))))))))))))
def F3:AFun:=⟨c3,4,156,[(.tmp 8)]⟩
def K3:Nat→List Nat×List Nat
 |0=>([2,9,10,13,16,18,19],[13,16,18])
 |1=>([],[2,9,10,13,16,18,19])
 |_=>([],[])
theorem F3_ok:kj8 Try.prog K3 noRg Try.f3=some F3:=by kernel_rfl
/- 4: syndrome/golay.Binary -/
def c4:ACode:=(.R [.o 0 (.alloc 25 [(.int .i64 0),(.int .i64 0),(.slice none 0 0)])] (.R [.o 1 (.mkSl 3 1 12 [(.const (.int .i64 1)),(.const (.int .i64 0)),(.const (.int .i64 1)),(.const (.int .i64 0)),(.const (.int .i64 1)),(.const (.int .i64 1)),(.const (.int .i64 1)),(.const (.int .i64 0)),(.const (.int .i64 0)),(.const (.int .i64 0)),(.const (.int .i64 1)),(.const (.int .i64 1))]), .o 2 (.call 18 [(.const (.int .i64 2)),(.const (.int .i64 23)),(.tmp 1)]), .n (.st 3 (.tmp 0) (.tmp 2))] .ret))
def F4:AFun:=⟨c4,0,3,[(.cell 0 true 3)]⟩
def K4:Nat→List Nat×List Nat
 |_=>([],[])
theorem F4_ok:kj8 Try.prog K4 noRg Try.f4=some F4:=by kernel_rfl
/- 5: syndrome/golay.Ternary -/
def c5:ACode:=(.R [.o 0 (.alloc 25 [(.int .i64 0),(.int .i64 0),(.slice none 0 0)])] (.R [.o 1 (.mkSl 3 1 6 [(.const (.int .i64 2)),(.const (.int .i64 0)),(.const (.int .i64 1)),(.const (.int .i64 2)),(.const (.int .i64 1)),(.const (.int .i64 1))]), .o 2 (.call 18 [(.const (.int .i64 3)),(.const (.int .i64 11)),(.tmp 1)]), .n (.st 3 (.tmp 0) (.tmp 2))] .ret))
def F5:AFun:=⟨c5,0,3,[(.cell 0 true 3)]⟩
def K5:Nat→List Nat×List Nat
 |_=>([],[])
theorem F5_ok:kj8 Try.prog K5 noRg Try.f5=some F5:=by kernel_rfl
/- 6: syndrome/code.Dual -/
def c6L0:ACode:=(.R [.B 25 .lss 24 23] (.seq (.D 25 .skip (.exit 0)) (.seq (.block 1 [1,2,23,24] (.R [.m 26 24, .m 5 26] (.R [.F 27 1 1, .L 28 27, .o 29 (.mks 3 1 8 [(.int .i64 0)] (.tmp 28) (.tmp 28)), .m 6 29] (.R [.m 30 6, .m 31 5, .I 32 1 30 31, .n (.st 1 (.tmp 32) (.const (.int .i64 1)))] (.region [.F 33 2 1, .L 34 33, .m 35 6, .o 36 (.mkSl 22 1 1 [(.tmp 35)]), .o 37 (.app 22 1 24 (.tmp 34) (.tmp 36)), .F 38 2 1, .S 38 37]))))) (.region [.C 39 .add 24 1, .m 24 39]))))
def c6:ACode:=(.R [.o 1 (.box 25 3 (.tmp 0)), .o 2 (.alloc 25 [(.int .i64 0),(.int .i64 0),(.slice none 0 0)]), .k 3 0] (.R [.o 10 (.ld true 3 (.tmp 1)), .Q 11 19 [10], .m 9 11, .E 12 0 9, .E 13 1 9, .n (.st 3 (.tmp 1) (.tmp 12)), .m 4 13] (.seq (.R [.m 14 4, .C 15 .neq 14 0] (.D 15 (.R [.o 16 (.build [(.int .i64 0),(.int .i64 0),(.slice none 0 0)] [(0,1),(1,1),(2,1)] []), .m 17 4, .n (.st 3 (.tmp 2) (.tmp 16)), .m 3 17] .ret) .skip)) (.seq (.R [.F 18 2 1, .L 19 18, .N 20 19, .C 21 .eql 20 0] (.D 21 (.seq (.R [.F 22 1 1, .L 23 22, .k 24 0] (.block 0 [1,2] (.loop [1,2,23,24] c6L0))) (.R [.o 40 (.ld true 3 (.tmp 1)), .n (.st 3 (.tmp 2) (.tmp 40)), .k 3 0] .ret)) .skip)) (.R [.F 42 0 1, .L 43 42, .F 44 2 1, .L 45 44, .Q 46 20 [43,45], .m 41 46, .E 47 0 41, .E 48 1 41, .m 7 47, .m 8 48] (.R [.F 49 0 1, .L 50 49, .F 51 1 1, .L 52 51, .m 53 7, .o 54 (.build [(.int .i64 0),(.int .i64 0),(.slice none 0 0)] [(0,1),(1,1),(2,1)] [(0,(.tmp 50)),(1,(.tmp 52)),(2,(.tmp 53))]), .n (.st 3 (.tmp 2) (.tmp 54)), .k 3 0] .ret))))))
def F6:AFun:=⟨c6,1,55,[(.cell 2 true 3),(.tmp 3)]⟩
def K6:Nat→List Nat×List Nat
 |0=>([1,2,23,24],[1,2])
 |1=>([],[1,2,23,24])
 |_=>([],[])
theorem F6_ok:kj8 Try.prog K6 noRg Try.f6=some F6:=by kernel_rfl
/- 7: syndrome/syndromeref.SameCode -/
def c7:ACode:=(.R [.o 2 (.box 25 3 (.tmp 0)), .o 3 (.box 25 3 (.tmp 1)), .o 4 (.mv (.const (.bool false)))] (.R [.F 5 0 2, .L 6 5, .F 7 0 3, .L 8 7, .B 9 .eql 6 8, .m 10 9, .g 11 (.f 1 2) 10 true, .H 12 11 10 true, .g 13 (.f 1 3) 10 true, .H 14 13 10 true, .g 15 (.b .eql 12 14) 10 true, .o 16 (.pick (.tmp 10) (.tmp 15) (.const (.bool false))), .m 17 16, .g 18 (.f 2 2) 17 true, .H 19 18 17 true, .g 20 (.f 2 3) 17 true, .H 21 20 17 true, .g 22 (.q 21 [19,21]) 17 true, .o 23 (.pick (.tmp 17) (.tmp 22) (.const (.bool false))), .m 4 23] .ret))
def F7:AFun:=⟨c7,2,24,[(.tmp 4)]⟩
def K7:Nat→List Nat×List Nat
 |_=>([],[])
theorem F7_ok:kj8 Try.prog K7 noRg Try.f7=some F7:=by kernel_rfl
/- 8: syndrome/code.Puncture -/
def c8:ACode:=(.R [.o 2 (.box 25 3 (.tmp 0)), .o 3 (.box 3 1 (.tmp 1)), .o 4 (.alloc 25 [(.int .i64 0),(.int .i64 0),(.slice none 0 0)]), .k 5 0] (.seq (.R [.o 7 (.ld true 3 (.tmp 2)), .L 8 3, .Q 9 22 [7,8], .m 6 9] (.R [.m 10 6, .C 11 .neq 10 0] (.D 11 (.R [.o 12 (.build [(.int .i64 0),(.int .i64 0),(.slice none 0 0)] [(0,1),(1,1),(2,1)] []), .m 13 6, .n (.st 3 (.tmp 4) (.tmp 12)), .m 5 13] .ret) .skip))) (.R [.o 14 (.ld true 3 (.tmp 2)), .F 15 1 2, .L 16 15, .C 17 .sub 16 1, .o 18 (.mkf 24 [(.tmp 3)]), .Q 19 23 [14,17,18], .E 20 0 19, .E 21 1 19, .n (.st 3 (.tmp 4) (.tmp 20)), .m 5 21] .ret)))
def F8:AFun:=⟨c8,2,22,[(.cell 4 true 3),(.tmp 5)]⟩
def K8:Nat→List Nat×List Nat
 |_=>([],[])
theorem F8_ok:kj8 Try.prog K8 noRg Try.f8=some F8:=by kernel_rfl
/- 9: syndrome/syndromeref.Pick -/
def c9:ACode:=(.R [.k 4 0] (.seq (.R [.m 5 0, .C 6 .lss 5 0] (.D 6 (.region [.m 7 0, .C 8 .add 7 1, .o 9 (.un .neg (.tmp 8)), .m 0 9]) .skip)) (.R [.m 10 0, .m 11 1, .B 12 .rem 10 11, .m 4 12] .ret)))
def F9:AFun:=⟨c9,2,13,[(.tmp 4)]⟩
def K9:Nat→List Nat×List Nat
 |_=>([],[])
theorem F9_ok:kj8 Try.prog K9 noRg Try.f9=some F9:=by kernel_rfl
/- 10: syndrome/golay.Perfect -/
def c10L0:ACode:=(.seq (.R [.m 37 8, .m 38 1, .o 39 (.bin .mul (.const (.int .i64 2)) (.tmp 38)), .B 40 .leq 37 39, .m 41 40, .G 42 8 41 true, .G 43 6 41 true, .g 44 (.n 43) 41 true, .g 45 (.b .lss 42 44) 41 true, .o 46 (.pick (.tmp 41) (.tmp 45) (.const (.bool false)))] (.D 46 .skip (.exit 0))) (.seq (.block 1 [1,2,6,8] (.R [.m 49 6, .m 50 8, .I 51 1 49 50, .L 52 51, .C 53 .gtr 52 0] (.D 53 (.R [.o 4 (.mv (.const (.bool false))), .k 5 0] .ret) .skip))) (.region [.m 47 8, .C 48 .add 47 1, .m 8 48])))
def c10L1:ACode:=(.R [.B 66 .lss 65 64] (.seq (.D 66 .skip (.exit 4)) (.seq (.block 5 [2,9,10,11,12,60,61,64,65] (.R [.m 67 65, .m 13 67] (.region [.m 68 12, .F 69 1 2, .L 70 69, .m 71 13, .B 72 .sub 70 71, .B 73 .mul 68 72, .m 74 13, .C 75 .add 74 1, .B 76 .quo 73 75, .m 12 76]))) (.region [.C 77 .add 65 1, .m 65 77]))))
def c10L2:ACode:=(.R [.B 80 .lss 79 78] (.seq (.D 80 .skip (.exit 6)) (.seq (.block 7 [2,9,10,12,60,61,78,79] (.region [.m 81 12, .F 82 0 2, .L 83 82, .C 84 .sub 83 1, .B 85 .mul 81 84, .m 12 85])) (.region [.C 86 .add 79 1, .m 79 86]))))
def c10L3:ACode:=(.R [.B 62 .lss 61 60] (.seq (.D 62 .skip (.exit 2)) (.seq (.block 3 [2,9,10,60,61] (.R [.m 63 61, .m 11 63] (.R [.k 12 1] (.seq (.R [.m 64 11, .k 65 0] (.block 4 [2,9,10,11,12,60,61] (.loop [2,9,10,11,12,60,61,64,65] c10L1))) (.seq (.R [.m 78 11, .k 79 0] (.block 6 [2,9,10,12,60,61] (.loop [2,9,10,12,60,61,78,79] c10L2))) (.region [.m 87 10, .m 88 12, .B 89 .add 87 88, .m 10 89])))))) (.region [.C 90 .add 61 1, .m 61 90]))))
def c10L4:ACode:=(.R [.B 98 .lss 97 96] (.seq (.D 98 .skip (.exit 8)) (.seq (.block 9 [2,9,10,96,97] (.region [.m 99 9, .F 100 0 2, .L 101 100, .B 102 .mul 99 101, .m 9 102])) (.region [.C 103 .add 97 1, .m 97 103]))))
def c10:ACode:=(.R [.o 2 (.box 25 3 (.tmp 0)), .o 4 (.mv (.const (.bool false))), .k 5 0] (.R [.o 15 (.ld true 3 (.tmp 2)), .Q 16 27 [15], .m 14 16, .E 17 0 14, .E 18 1 14, .m 6 17, .m 7 18] (.seq (.R [.m 19 7, .C 20 .eql 19 0] (.D 20 (.region [.F 21 0 2, .L 22 21, .F 23 1 2, .L 24 23, .Q 25 28 [22,24], .m 7 25]) .skip)) (.seq (.R [.m 26 7, .C 27 .neq 26 0] (.D 27 (.R [.m 28 7, .o 4 (.mv (.const (.bool false))), .m 5 28] .ret) .skip)) (.seq (.R [.m 29 1, .C 30 .lss 29 0, .m 31 30, .G 32 1 31 false, .g 33 (.f 1 2) 31 false, .H 34 33 31 false, .g 35 (.b .gtr 32 34) 31 false, .P 36 31 35] (.D 36 (.R [.o 4 (.mv (.const (.bool false))), .k 5 10] .ret) .skip)) (.seq (.R [.k 8 1] (.block 0 [1,2] (.loop [1,2,6,8] c10L0))) (.R [.o 55 (.ld true 3 (.tmp 2)), .Q 56 19 [55], .m 54 56, .E 57 0 54, .E 58 1 54, .n (.st 3 (.tmp 2) (.tmp 57))] (.R [.k 9 1, .k 10 0] (.seq (.R [.m 59 1, .C 60 .add 59 1, .k 61 0] (.block 2 [2,9,10] (.loop [2,9,10,60,61] c10L3))) (.seq (.R [.F 91 1 2, .L 92 91, .F 93 2 2, .L 94 93, .N 95 94, .B 96 .sub 92 95, .k 97 0] (.block 8 [9,10] (.loop [2,9,10,96,97] c10L4))) (.R [.m 104 9, .m 105 10, .B 106 .eql 104 105, .m 4 106, .k 5 0] .ret)))))))))))
def F10:AFun:=⟨c10,2,107,[(.tmp 4),(.tmp 5)]⟩
def K10:Nat→List Nat×List Nat
 |0=>([1,2,6,8],[1,2])
 |1=>([],[1,2,6,8])
 |2=>([2,9,10,60,61],[2,9,10])
 |3=>([],[2,9,10,60,61])
 |4=>([2,9,10,11,12,60,61,64,65],[2,9,10,11,12,60,61])
 |5=>([],[2,9,10,11,12,60,61,64,65])
 |6=>([2,9,10,12,60,61,78,79],[2,9,10,12,60,61])
 |7=>([],[2,9,10,12,60,61,78,79])
 |8=>([2,9,10,96,97],[9,10])
 |9=>([],[2,9,10,96,97])
 |_=>([],[])
theorem F10_ok:kj8 Try.prog K10 noRg Try.f10=some F10:=by kernel_rfl
/- 11: syndrome/code.Encode -/
def c11:ACode:=(.R [.o 2 (.box 25 3 (.tmp 0)), .Z 4, .k 5 0] (.R [.o 10 (.ld true 3 (.tmp 2)), .Q 11 19 [10], .m 9 11, .E 12 0 9, .E 13 1 9, .n (.st 3 (.tmp 2) (.tmp 12)), .m 6 13] (.seq (.R [.m 14 6, .C 15 .neq 14 0] (.D 15 (.R [.m 16 6, .Z 4, .m 5 16] .ret) .skip)) (.seq (.R [.m 17 1, .N 18 17, .F 19 2 2, .L 20 19, .N 21 20, .B 22 .neq 18 21] (.D 22 (.R [.Z 4, .k 5 6] .ret) .skip)) (.R [.F 24 0 2, .L 25 24, .Q 26 29 [25], .m 23 26, .E 27 0 23, .E 28 1 23, .o 7 (.alloc 54 [(.pointer none)]), .S 7 27, .m 8 28] (.seq (.R [.m 29 1, .o 30 (.mkf 31 [(.tmp 7)]), .Q 31 30 [29,30]] (.D 31 (.R [.Z 4, .k 5 2] .ret) .skip)) (.R [.L 32 7, .o 33 (.ld true 3 (.tmp 2)), .m 34 1, .Q 35 33 [32,33,34], .m 4 35, .k 5 0] .ret)))))))
def F11:AFun:=⟨c11,2,36,[(.tmp 4),(.tmp 5)]⟩
def K11:Nat→List Nat×List Nat
 |_=>([],[])
theorem F11_ok:kj8 Try.prog K11 noRg Try.f11=some F11:=by kernel_rfl
/- 12: syndrome/syndromeref.Numbers -/
def c12L0:ACode:=(.seq (.R [.m 11 10, .m 12 3, .B 13 .lss 11 12] (.D 13 .skip (.exit 0))) (.seq (.block 1 [0,1,2,3,9,10] (.region [.m 16 9, .m 17 0, .m 18 1, .m 19 10, .B 20 .add 18 19, .Q 21 14 [17,20], .m 22 2, .Q 23 9 [21,22], .o 24 (.mkSl 3 1 1 [(.tmp 23)]), .o 25 (.app 3 1 8 (.tmp 16) (.tmp 24)), .m 9 25])) (.region [.m 14 10, .C 15 .add 14 1, .m 10 15])))
def c12:ACode:=(.R [.Z 8] (.R [.Z 9] (.seq (.R [.k 10 0] (.block 0 [9] (.loop [0,1,2,3,9,10] c12L0))) (.R [.m 26 9, .m 8 26] .ret))))
def F12:AFun:=⟨c12,4,27,[(.tmp 8)]⟩
def K12:Nat→List Nat×List Nat
 |0=>([0,1,2,3,9,10],[9])
 |1=>([],[0,1,2,3,9,10])
 |_=>([],[])
theorem F12_ok:kj8 Try.prog K12 noRg Try.f12=some F12:=by kernel_rfl
/- 13: syndrome/syndromeref.Copy -/
def c13:ACode:=(.R [.Z 2] (.R [.o 3 (.mkSl 3 1 0 []), .m 4 0, .o 5 (.app 3 1 8 (.tmp 3) (.tmp 4)), .m 2 5] .ret))
def F13:AFun:=⟨c13,1,6,[(.tmp 2)]⟩
def K13:Nat→List Nat×List Nat
 |_=>([],[])
theorem F13_ok:kj8 Try.prog K13 noRg Try.f13=some F13:=by kernel_rfl
/- 14: syndrome/syndromeref.Raw -/
def c14:ACode:=(.R [.k 4 0] (.seq (.R [.m 5 0, .N 6 5, .C 7 .eql 6 0] (.D 7 (.R [.m 8 1, .m 4 8] .ret) .skip)) (.R [.m 9 0, .m 10 1, .m 11 0, .N 12 11, .B 13 .rem 10 12, .I 14 1 9 13, .L 15 14, .m 16 1, .m 17 0, .N 18 17, .B 19 .quo 16 18, .C 20 .mul 19 7919, .B 21 .add 15 20, .m 4 21] .ret)))
def F14:AFun:=⟨c14,2,22,[(.tmp 4)]⟩
def K14:Nat→List Nat×List Nat
 |_=>([],[])
theorem F14_ok:kj8 Try.prog K14 noRg Try.f14=some F14:=by kernel_rfl
/- 15: syndrome/code.Nearest -/
def c15L0:ACode:=(.seq (.R [.m 71 50, .C 72 .geq 71 0] (.D 72 .skip (.exit 2))) (.seq (.block 3 [3,8,45,47,49,50,137] (.R [.m 75 49, .m 76 50, .I 77 1 75 76, .L 78 77, .C 79 .add 78 1, .I 80 1 75 76, .S 80 79] (.seq (.R [.m 81 49, .m 82 50, .I 83 1 81 82, .L 84 83, .F 85 0 45, .L 86 85, .B 87 .lss 84 86] (.D 87 (.exit 2) .skip)) (.region [.m 88 49, .m 89 50, .I 90 1 88 89, .n (.st 1 (.tmp 90) (.const (.int .i64 0)))])))) (.region [.m 73 50, .C 74 .sub 73 1, .m 50 74])))
def c15L1:ACode:=(.seq (.seq (.R [.m 62 49, .m 63 47, .o 64 (.ld true 3 (.tmp 45)), .m 65 49, .Q 66 33 [63,64,65], .o 137 (.pick (.tmp 137) (.tmp 138) (.const (.bool false))), .m 96 3, .m 101 8, .m 119 62, .m 120 66] (.seq (.block 1001 [3,8,45,47,49,137] (.R [.m 103 120] (.block 1 [3,8,45,47,49,137] (.R [.L 121 101, .o 122 (.eqn false 0 (.tmp 121)), .m 123 122, .G 124 103 123 false, .H 125 96 123 false,⟨(some 126),(.call 17 [(.tmp 124),(.tmp 125)]),(some (123,false)),true⟩,⟨(some 127),(.ld false 1 (.tmp 101)),(some (123,false)),true⟩,⟨(some 128),(.ld false 1 (.tmp 96)),(some (123,false)),true⟩, .g 129 (.q 17 [127,128]) 123 false, .g 130 (.b .lss 126 129) 123 false, .P 131 123 130] (.D 131 (.region [.m 132 103, .S 101 132]) .skip))))) (.region [.o 67 (.un .not (.tmp 137))]))) (.D 67 .skip (.exit 0))) (.block 1 [3,8,45,47,49,137] (.R [.m 68 49, .N 69 68, .C 70 .sub 69 1, .m 50 70] (.seq (.block 2 [3,8,45,47,49,50,137] (.loop [3,8,45,47,49,50,137] c15L0)) (.R [.m 91 50, .C 92 .lss 91 0] (.D 92 (.exit 1000) .skip))))))
def c15:ACode:=(.R [.o 2 (.box 25 3 (.tmp 0)), .o 3 (.box 22 1 (.tmp 1)), .Z 4, .k 5 0, .k 6 0] (.R [.o 12 (.ld true 3 (.tmp 2)), .Q 13 34 [12], .m 11 13, .E 14 0 11, .E 15 1 11, .n (.st 3 (.tmp 2) (.tmp 14)), .m 7 15] (.seq (.R [.m 16 7, .C 17 .eql 16 0] (.D 17 (.region [.o 18 (.ld true 3 (.tmp 2)), .L 19 3, .Q 20 35 [18,19], .m 7 20]) .skip)) (.seq (.R [.m 21 7, .C 22 .neq 21 0] (.D 22 (.R [.m 23 7, .Z 4, .k 5 0, .m 6 23] .ret) .skip)) (.R [.o 8 (.alloc 22 [(.slice none 0 0)])] (.seq (.R [.o 24 (.ld true 3 (.tmp 2)), .Q 25 36 [24]] (.block 0 [3,8] (.seq (.block 0 [3,8,25] .skip) (.R [.o 137 (.mv (.const (.bool false))), .o 45 (.capt 52 1 0 (.tmp 25))] (.seq (.block 1000 [137,3,8] (.R [.F 52 0 45, .L 53 52, .Q 54 29 [53], .m 51 54, .E 55 0 51, .E 56 1 51, .m 47 55, .m 48 56] (.R [.F 57 2 45, .L 58 57, .N 59 58, .o 60 (.mks 3 1 8 [(.int .i64 0)] (.tmp 59) (.tmp 59)), .m 49 60] (.block 0 [3,8,137] (.loop [3,8,45,47,49,137] c15L1))))) (.D 137 (.seq (.block 0 [3,8] .skip) .ret) (.block 0 [3,8] .skip))))))) (.R [.L 40 8, .L 41 8, .L 42 3,⟨(some 43),(.call 17 [(.tmp 41),(.tmp 42)]),none,true⟩, .m 4 40, .m 5 43, .k 6 0] .ret)))))))
def F15:AFun:=⟨c15,2,44,[(.tmp 4),(.tmp 5),(.tmp 6)]⟩
def K15:Nat→List Nat×List Nat
 |0=>([],[3,8])
 |_=>([],[])
def K15I0:Nat→List Nat×List Nat
 |0=>([3,8,45,47,49,137],[3,8,137])
 |1=>([3,8,137],[3,8,45,47,49,137])
 |2=>([3,8,45,47,49,50,137],[3,8,45,47,49,50,137])
 |3=>([3,8,137],[3,8,45,47,49,50,137])
 |_=>([],[])
def K15B0:Nat→List Nat×List Nat
 |1=>([3,8,45,47,49,137],[3,8,45,47,49,137])
 |_=>([],[])
def R15:Nat→Option RgIn
 |0=>some ⟨52,1,1000,1001,[3,8,25],[3,8],[3,8,45,47,49,137],[3,8],[0,17],K15I0,K15B0⟩
 |_=>none
theorem F15_ok:kj8 Try.prog K15 R15 Try.f15=some F15:=by kernel_rfl
/- 16: syndrome/syndromeref.Same -/
def c16L0:ACode:=(.seq (.R [.m 11 5, .m 12 0, .N 13 12, .B 14 .lss 11 13] (.D 14 .skip (.exit 0))) (.seq (.block 1 [0,1,5] (.R [.m 17 0, .m 18 5, .I 19 1 17 18, .L 20 19, .m 21 1, .m 22 5, .I 23 1 21 22, .L 24 23, .B 25 .neq 20 24] (.D 25 (.R [.o 4 (.mv (.const (.bool false)))] .ret) .skip))) (.region [.m 15 5, .C 16 .add 15 1, .m 5 16])))
def c16:ACode:=(.R [.o 4 (.mv (.const (.bool false)))] (.seq (.R [.m 6 0, .N 7 6, .m 8 1, .N 9 8, .B 10 .neq 7 9] (.D 10 (.R [.o 4 (.mv (.const (.bool false)))] .ret) .skip)) (.seq (.R [.k 5 0] (.block 0 [] (.loop [0,1,5] c16L0))) (.R [.o 4 (.mv (.const (.bool true)))] .ret))))
def F16:AFun:=⟨c16,2,26,[(.tmp 4)]⟩
def K16:Nat→List Nat×List Nat
 |0=>([0,1,5],[])
 |1=>([],[0,1,5])
 |_=>([],[])
theorem F16_ok:kj8 Try.prog K16 noRg Try.f16=some F16:=by kernel_rfl
/- 17: syndrome/code.Apart -/
def c17L0:ACode:=(.R [.B 15 .lss 14 13] (.seq (.D 15 .skip (.exit 0)) (.seq (.block 1 [0,1,5,13,14] (.R [.m 16 14, .m 6 16] (.R [.m 17 0, .m 18 6, .I 19 1 17 18, .L 20 19, .m 21 1, .m 22 6, .I 23 1 21 22, .L 24 23, .B 25 .neq 20 24] (.D 25 (.region [.m 26 5, .C 27 .add 26 1, .m 5 27]) .skip)))) (.region [.C 28 .add 14 1, .m 14 28]))))
def c17:ACode:=(.R [.k 4 0] (.seq (.R [.m 7 0, .N 8 7, .m 9 1, .N 10 9, .B 11 .neq 8 10] (.D 11 (.R [.k 4 (-1)] .ret) .skip)) (.R [.k 5 0] (.seq (.R [.m 12 0, .N 13 12, .k 14 0] (.block 0 [5] (.loop [0,1,5,13,14] c17L0))) (.R [.m 29 5, .m 4 29] .ret)))))
def F17:AFun:=⟨c17,2,30,[(.tmp 4)]⟩
def K17:Nat→List Nat×List Nat
 |0=>([0,1,5,13,14],[5])
 |1=>([],[0,1,5,13,14])
 |_=>([],[])
theorem F17_ok:kj8 Try.prog K17 noRg Try.f17=some F17:=by kernel_rfl
/- 18: syndrome/golay.made -/
def c18:ACode:=(.R [.o 6 (.alloc 25 [(.int .i64 0),(.int .i64 0),(.slice none 0 0)])] (.R [.m 10 0, .m 11 1, .m 12 2, .Q 13 37 [10,11,12], .m 9 13, .E 14 0 9, .E 15 1 9, .o 7 (.alloc 25 [(.int .i64 0),(.int .i64 0),(.slice none 0 0)]), .n (.st 3 (.tmp 7) (.tmp 14)), .m 8 15] (.R [.o 17 (.ld true 3 (.tmp 7)), .Q 18 38 [17], .m 16 18, .E 19 0 16, .E 20 1 16, .n (.st 3 (.tmp 7) (.tmp 19))] (.R [.o 21 (.ld true 3 (.tmp 7)), .n (.st 3 (.tmp 6) (.tmp 21))] .ret))))
def F18:AFun:=⟨c18,3,22,[(.cell 6 true 3)]⟩
def K18:Nat→List Nat×List Nat
 |_=>([],[])
theorem F18_ok:kj8 Try.prog K18 noRg Try.f18=some F18:=by kernel_rfl
/- 19: syndrome/code.Make -/
def c19:ACode:=(.R [.o 1 (.box 25 3 (.tmp 0)), .o 2 (.alloc 25 [(.int .i64 0),(.int .i64 0),(.slice none 0 0)]), .k 3 0] (.seq (.R [.o 8 (.ld true 3 (.tmp 1)), .Q 9 39 [8], .m 4 9] (.R [.m 10 4, .C 11 .neq 10 0] (.D 11 (.R [.o 12 (.build [(.int .i64 0),(.int .i64 0),(.slice none 0 0)] [(0,1),(1,1),(2,1)] []), .m 13 4, .n (.st 3 (.tmp 2) (.tmp 12)), .m 3 13] .ret) .skip))) (.R [.F 15 0 1, .L 16 15, .F 17 2 1, .L 18 17, .Q 19 40 [16,18], .m 14 19, .E 20 0 14, .E 21 1 14, .E 22 2 14, .m 5 20, .m 6 21, .m 7 22] (.R [.F 23 0 1, .L 24 23, .F 25 1 1, .L 26 25, .m 27 5, .o 28 (.build [(.int .i64 0),(.int .i64 0),(.slice none 0 0)] [(0,1),(1,1),(2,1)] [(0,(.tmp 24)),(1,(.tmp 26)),(2,(.tmp 27))]), .n (.st 3 (.tmp 2) (.tmp 28)), .k 3 0] .ret))))
def F19:AFun:=⟨c19,1,29,[(.cell 2 true 3),(.tmp 3)]⟩
def K19:Nat→List Nat×List Nat
 |_=>([],[])
theorem F19_ok:kj8 Try.prog K19 noRg Try.f19=some F19:=by kernel_rfl
/- 20: syndrome/matrix.Null -/
def c20L0:ACode:=(.R [.B 57 .lss 56 55] (.seq (.D 57 .skip (.exit 2)) (.seq (.block 3 [0,1,6,7,9,11,12,13,39,40,54,55,56] (.R [.m 58 56, .I 59 1 54 56, .L 60 59, .m 14 58, .m 15 60] (.region [.m 61 13, .m 62 15, .m 63 9, .m 64 6, .m 65 14, .I 66 1 64 65, .L 67 66, .m 68 12, .I 69 1 67 68, .L 70 69, .Q 71 42 [63,70], .I 72 1 61 62, .S 72 71]))) (.region [.C 73 .add 56 1, .m 56 73]))))
def c20L1:ACode:=(.R [.B 41 .lss 40 39] (.seq (.D 41 .skip (.exit 0)) (.seq (.block 1 [0,1,6,7,9,11,39,40] (.R [.m 42 40, .m 12 42] (.seq (.R [.m 43 7, .m 44 12, .Q 45 41 [43,44]] (.D 45 (.exit 1) .skip)) (.R [.m 46 1, .o 47 (.iaddr 1 (.tmp 46) (.const (.int .i64 0))), .L 48 47, .N 49 48, .o 50 (.mks 3 1 8 [(.int .i64 0)] (.tmp 49) (.tmp 49)), .m 13 50] (.R [.m 51 13, .m 52 12, .I 53 1 51 52, .n (.st 1 (.tmp 53) (.const (.int .i64 1)))] (.seq (.R [.m 54 7, .N 55 54, .k 56 0] (.block 2 [0,1,6,7,9,11,13,39,40] (.loop [0,1,6,7,9,11,12,13,39,40,54,55,56] c20L0))) (.region [.m 74 11, .m 75 13, .o 76 (.mkSl 22 1 1 [(.tmp 75)]), .o 77 (.app 22 1 24 (.tmp 74) (.tmp 76)), .m 11 77]))))))) (.region [.C 78 .add 40 1, .m 40 78]))))
def c20:ACode:=(.R [.Z 4, .k 5 0] (.R [.m 17 0, .m 18 1, .Q 19 40 [17,18], .m 16 19, .E 20 0 16, .E 21 1 16, .E 22 2 16, .m 6 20, .m 7 21, .m 8 22] (.seq (.R [.m 23 8, .C 24 .neq 23 0, .m 25 24, .G 26 1 25 false, .g 27 (.n 26) 25 false, .g 28 (.c .eql 27 0) 25 false, .P 29 25 28] (.D 29 (.R [.m 30 8, .Z 4, .m 5 30] .ret) .skip)) (.R [.m 32 0, .Q 33 29 [32], .m 31 33, .E 34 0 31, .E 35 1 31, .m 9 34, .m 10 35] (.R [.Z 11] (.seq (.R [.m 36 1, .o 37 (.iaddr 1 (.tmp 36) (.const (.int .i64 0))), .L 38 37, .N 39 38, .k 40 0] (.block 0 [0,11] (.loop [0,1,6,7,9,11,39,40] c20L1))) (.R [.m 80 0, .m 81 11, .Q 82 40 [80,81], .m 79 82, .E 83 0 79, .E 84 1 79, .E 85 2 79, .m 11 83] (.R [.m 86 11, .m 4 86, .k 5 0] .ret))))))))
def F20:AFun:=⟨c20,2,87,[(.tmp 4),(.tmp 5)]⟩
def K20:Nat→List Nat×List Nat
 |0=>([0,1,6,7,9,11,39,40],[0,11])
 |1=>([],[0,1,6,7,9,11,39,40])
 |2=>([0,1,6,7,9,11,12,13,39,40,54,55,56],[0,1,6,7,9,11,13,39,40])
 |3=>([],[0,1,6,7,9,11,12,13,39,40,54,55,56])
 |_=>([],[])
theorem F20_ok:kj8 Try.prog K20 noRg Try.f20=some F20:=by kernel_rfl
/- 21: syndrome/syndromeref.SameAll -/
def c21L0:ACode:=(.seq (.R [.m 11 5, .m 12 0, .N 13 12, .B 14 .lss 11 13] (.D 14 .skip (.exit 0))) (.seq (.block 1 [0,1,5] (.R [.m 17 0, .m 18 5, .I 19 1 17 18, .L 20 19, .m 21 1, .m 22 5, .I 23 1 21 22, .L 24 23, .Q 25 16 [20,24], .o 26 (.un .not (.tmp 25))] (.D 26 (.R [.o 4 (.mv (.const (.bool false)))] .ret) .skip))) (.region [.m 15 5, .C 16 .add 15 1, .m 5 16])))
def c21:ACode:=(.R [.o 4 (.mv (.const (.bool false)))] (.seq (.R [.m 6 0, .N 7 6, .m 8 1, .N 9 8, .B 10 .neq 7 9] (.D 10 (.R [.o 4 (.mv (.const (.bool false)))] .ret) .skip)) (.seq (.R [.k 5 0] (.block 0 [] (.loop [0,1,5] c21L0))) (.R [.o 4 (.mv (.const (.bool true)))] .ret))))
def F21:AFun:=⟨c21,2,27,[(.tmp 4)]⟩
def K21:Nat→List Nat×List Nat
 |0=>([0,1,5],[])
 |1=>([],[0,1,5])
 |_=>([],[])
theorem F21_ok:kj8 Try.prog K21 noRg Try.f21=some F21:=by kernel_rfl
/- 22: syndrome/code.at -/
def c22:ACode:=(.R [.o 2 (.box 25 3 (.tmp 0)), .k 4 0] (.seq (.R [.o 6 (.ld true 3 (.tmp 2)), .Q 7 39 [6], .m 5 7] (.R [.m 8 5, .C 9 .neq 8 0] (.D 9 (.R [.m 10 5, .m 4 10] .ret) .skip))) (.seq (.R [.m 11 1, .C 12 .lss 11 0, .m 13 12, .G 14 1 13 false, .g 15 (.f 1 2) 13 false, .H 16 15 13 false, .g 17 (.b .geq 14 16) 13 false, .P 18 13 17] (.D 18 (.R [.k 4 10] .ret) .skip)) (.seq (.R [.F 19 1 2, .L 20 19, .C 21 .eql 20 1] (.D 21 (.R [.k 4 4] .ret) .skip)) (.R [.k 4 0] .ret)))))
def F22:AFun:=⟨c22,2,22,[(.tmp 4)]⟩
def K22:Nat→List Nat×List Nat
 |_=>([],[])
theorem F22_ok:kj8 Try.prog K22 noRg Try.f22=some F22:=by kernel_rfl
/- 23: syndrome/code.columns -/
def c23L0:ACode:=(.R [.B 19 .lss 18 17] (.seq (.D 19 .skip (.exit 0)) (.seq (.block 1 [2,6,8,16,17,18] (.R [.I 20 1 16 18, .L 21 20, .m 10 21] (.region [.F 22 2 8, .L 23 22, .m 24 2, .m 25 10,⟨(some 26),(.calld (.tmp 24) [(.tmp 25)]),none,true⟩, .o 27 (.mkSl 22 1 1 [(.tmp 26)]), .o 28 (.app 22 1 24 (.tmp 23) (.tmp 27)), .F 29 2 8, .S 29 28]))) (.region [.C 30 .add 18 1, .m 18 30]))))
def c23:ACode:=(.R [.o 3 (.box 25 3 (.tmp 0)), .o 6 (.alloc 25 [(.int .i64 0),(.int .i64 0),(.slice none 0 0)]), .k 7 0] (.R [.F 11 0 3, .L 12 11, .m 13 1, .o 14 (.build [(.int .i64 0),(.int .i64 0),(.slice none 0 0)] [(0,1),(1,1),(2,1)] [(0,(.tmp 12)),(1,(.tmp 13))]), .o 8 (.alloc 25 [(.int .i64 0),(.int .i64 0),(.slice none 0 0)]), .n (.st 3 (.tmp 8) (.tmp 14))] (.seq (.R [.F 15 2 3, .L 16 15, .N 17 16, .k 18 0] (.block 0 [6,8] (.loop [2,6,8,16,17,18] c23L0))) (.R [.o 31 (.ld true 3 (.tmp 8)), .Q 32 19 [31], .E 33 0 32, .E 34 1 32, .n (.st 3 (.tmp 6) (.tmp 33)), .m 7 34] .ret))))
def F23:AFun:=⟨c23,3,35,[(.cell 6 true 3),(.tmp 7)]⟩
def K23:Nat→List Nat×List Nat
 |0=>([2,6,8,16,17,18],[6,8])
 |1=>([],[2,6,8,16,17,18])
 |_=>([],[])
theorem F23_ok:kj8 Try.prog K23 noRg Try.f23=some F23:=by kernel_rfl
/- 24: syndrome/code.Puncture$1 -/
def c24:ACode:=(.R [.Z 3] (.R [.m 4 0,⟨(some 5),(.call 26 [(.tmp 4)]),none,true⟩,⟨(some 6),(.ld false 1 (.tmp 1)),none,true⟩,⟨(some 7),(.ld false 1 (.tmp 1)),none,true⟩, .C 8 .add 7 1, .Q 9 25 [5,6,8], .m 3 9] .ret))
def F24:AFun:=⟨c24,2,10,[(.tmp 3)]⟩
def K24:Nat→List Nat×List Nat
 |_=>([],[])
theorem F24_ok:kj8 Try.prog K24 noRg Try.f24=some F24:=by kernel_rfl
/- 26: slices.Clone[[]int,int] -/
def c26:ACode:=(.R [.Z 2] (.seq (.R [.m 3 0, .o 4 (.eqn false 0 (.tmp 3))] (.D 4 (.R [.Z 2] .ret) .skip)) (.R [.o 5 (.mkSl 3 1 0 []), .m 6 0, .o 7 (.app 3 1 8 (.tmp 5) (.tmp 6)), .m 2 7] .ret)))
def F26:AFun:=⟨c26,1,8,[(.tmp 2)]⟩
def K26:Nat→List Nat×List Nat
 |_=>([],[])
theorem F26_ok:kj8 Try.prog K26 noRg Try.f26=some F26:=by kernel_rfl
/- 27: syndrome/code.Weights -/
def c27L0:ACode:=(.seq (.R [.m 59 38, .C 60 .geq 59 0] (.D 60 .skip (.exit 2))) (.seq (.block 3 [5,33,35,37,38,113] (.R [.m 63 37, .m 64 38, .I 65 1 63 64, .L 66 65, .C 67 .add 66 1, .I 68 1 63 64, .S 68 67] (.seq (.R [.m 69 37, .m 70 38, .I 71 1 69 70, .L 72 71, .F 73 0 33, .L 74 73, .B 75 .lss 72 74] (.D 75 (.exit 2) .skip)) (.region [.m 76 37, .m 77 38, .I 78 1 76 77, .n (.st 1 (.tmp 78) (.const (.int .i64 0)))])))) (.region [.m 61 38, .C 62 .sub 61 1, .m 38 62])))
def c27L1:ACode:=(.seq (.seq (.R [.m 50 37, .m 51 35, .o 52 (.ld true 3 (.tmp 33)), .m 53 37, .Q 54 33 [51,52,53], .o 113 (.pick (.tmp 113) (.tmp 114) (.const (.bool false))), .m 86 5, .m 103 50, .m 104 54] (.seq (.block 1001 [5,33,35,37,113] (.R [.m 88 104] (.block 1 [5,33,35,37,113] (.region [.L 105 86, .m 106 88,⟨(some 107),(.call 43 [(.tmp 106)]),none,true⟩, .I 108 1 105 107, .L 109 108, .C 110 .add 109 1, .I 111 1 105 107, .S 111 110])))) (.region [.o 55 (.un .not (.tmp 113))]))) (.D 55 .skip (.exit 0))) (.block 1 [5,33,35,37,113] (.R [.m 56 37, .N 57 56, .C 58 .sub 57 1, .m 38 58] (.seq (.block 2 [5,33,35,37,38,113] (.loop [5,33,35,37,38,113] c27L0)) (.R [.m 79 38, .C 80 .lss 79 0] (.D 80 (.exit 1000) .skip))))))
def c27:ACode:=(.R [.o 1 (.box 25 3 (.tmp 0)), .Z 2, .k 3 0] (.R [.o 9 (.ld true 3 (.tmp 1)), .Q 10 34 [9], .m 8 10, .E 11 0 8, .E 12 1 8, .n (.st 3 (.tmp 1) (.tmp 11)), .m 4 12] (.seq (.R [.m 13 4, .C 14 .neq 13 0] (.D 14 (.R [.m 15 4, .Z 2, .m 3 15] .ret) .skip)) (.R [.F 16 1 1, .L 17 16, .C 18 .add 17 1, .o 19 (.mks 3 1 8 [(.int .i64 0)] (.tmp 18) (.tmp 18)), .o 5 (.alloc 22 [(.slice none 0 0)]), .S 5 19] (.seq (.R [.o 20 (.ld true 3 (.tmp 1)), .Q 21 36 [20]] (.block 0 [5] (.seq (.block 0 [5,21] .skip) (.R [.o 113 (.mv (.const (.bool false))), .o 33 (.capt 52 1 0 (.tmp 21))] (.seq (.block 1000 [113,5] (.R [.F 40 0 33, .L 41 40, .Q 42 29 [41], .m 39 42, .E 43 0 39, .E 44 1 39, .m 35 43, .m 36 44] (.R [.F 45 2 33, .L 46 45, .N 47 46, .o 48 (.mks 3 1 8 [(.int .i64 0)] (.tmp 47) (.tmp 47)), .m 37 48] (.block 0 [5,113] (.loop [5,33,35,37,113] c27L1))))) (.D 113 (.seq (.block 0 [5] .skip) .ret) (.block 0 [5] .skip))))))) (.R [.L 31 5, .m 2 31, .k 3 0] .ret))))))
def F27:AFun:=⟨c27,1,32,[(.tmp 2),(.tmp 3)]⟩
def K27:Nat→List Nat×List Nat
 |0=>([],[5])
 |_=>([],[])
def K27I0:Nat→List Nat×List Nat
 |0=>([5,33,35,37,113],[5,113])
 |1=>([5,113],[5,33,35,37,113])
 |2=>([5,33,35,37,38,113],[5,33,35,37,38,113])
 |3=>([5,113],[5,33,35,37,38,113])
 |_=>([],[])
def K27B0:Nat→List Nat×List Nat
 |1=>([5,33,35,37,113],[5,33,35,37,113])
 |_=>([],[])
def R27:Nat→Option RgIn
 |0=>some ⟨52,1,1000,1001,[5,21],[5],[5,33,35,37,113],[5],[0,17],K27I0,K27B0⟩
 |_=>none
theorem F27_ok:kj8 Try.prog K27 R27 Try.f27=some F27:=by kernel_rfl
/- 28: syndrome/weights.Check -/
def c28:ACode:=(.R [.k 4 0] (.seq (.R [.m 8 0, .Q 9 29 [8], .m 7 9, .E 10 0 7, .E 11 1 7, .m 5 10, .m 6 11] (.R [.m 12 6, .C 13 .neq 12 0] (.D 13 (.R [.m 14 6, .m 4 14] .ret) .skip))) (.seq (.R [.m 15 1, .C 16 .lss 15 1, .m 17 16, .G 18 0 17 false, .G 19 1 17 false, .g 20 (.q 44 [18,19]) 17 false, .g 21 (.c .lss 20 0) 17 false, .P 22 17 21] (.D 22 (.R [.k 4 4] .ret) .skip)) (.R [.k 4 0] .ret))))
def F28:AFun:=⟨c28,2,23,[(.tmp 4)]⟩
def K28:Nat→List Nat×List Nat
 |_=>([],[])
theorem F28_ok:kj8 Try.prog K28 noRg Try.f28=some F28:=by kernel_rfl
/- 29: syndrome/field.New -/
def bu3:List Value:=[(.int .u32 0),(.int .i32 0),(.int .u32 0),(.int .u32 0),(.int .i32 0),(.int .u32 0),(.int .u32 0),(.int .i32 0),(.int .u32 0),(.int .u32 0),(.int .i32 0),(.int .u32 0),(.int .u32 0),(.int .i32 0),(.int .u32 0),(.int .u32 0),(.int .i32 0),(.int .u32 0),(.int .u32 0),(.int .i32 0),(.int .u32 0),(.int .u32 0),(.int .i32 0),(.int .u32 0),(.int .u32 0),(.int .i32 0),(.int .u32 0),(.int .u32 0),(.int .i32 0),(.int .u32 0),(.int .u32 0),(.int .i32 0),(.int .u32 0),(.int .u32 0),(.int .i32 0),(.int .u32 0),(.int .u32 0),(.int .i32 0),(.int .u32 0),(.int .u32 0),(.int .i32 0),(.int .u32 0),(.int .u32 0),(.int .i32 0),(.int .u32 0),(.int .u32 0),(.int .i32 0),(.int .u32 0),(.int .u32 0),(.int .i32 0),(.int .u32 0),(.int .u32 0),(.int .i32 0),(.int .u32 0),(.int .u32 0),(.int .i32 0),(.int .u32 0),(.int .u32 0),(.int .i32 0),(.int .u32 0),(.int .u32 0),(.int .i32 0),(.int .u32 0),(.int .u32 0),(.int .i32 0),(.int .u32 0),(.int .u32 0),(.int .i32 0),(.int .u32 0),(.int .u32 0),(.int .i32 0),(.int .u32 0),(.int .u32 0),(.int .i32 0),(.int .u32 0),(.int .u32 0),(.int .i32 0),(.int .u32 0),(.int .u32 0),(.int .i32 0),(.int .u32 0),(.int .u32 0),(.int .i32 0),(.int .u32 0),(.int .u32 0),(.int .i32 0),(.int .u32 0),(.int .u32 0),(.int .i32 0),(.int .u32 0),(.int .u32 0),(.int .i32 0),(.int .u32 0),(.int .u32 0),(.int .i32 0),(.int .u32 0),(.int .u32 0),(.int .i32 0),(.int .u32 0),(.int .u32 0),(.int .i32 0),(.int .u32 0),(.int .u32 0),(.int .i32 0),(.int .u32 0),(.int .u32 0),(.int .i32 0),(.int .u32 0),(.int .u32 0),(.int .i32 0),(.int .u32 0),(.int .u32 0),(.int .i32 0),(.int .u32 0),(.int .u32 0),(.int .i32 0),(.int .u32 0),(.int .u32 0),(.int .i32 0),(.int .u32 0),(.int .u32 0),(.int .i32 0),(.int .u32 0),(.int .u32 0),(.int .i32 0),(.int .u32 0),(.int .u32 0),(.int .i32 0),(.int .u32 0),(.int .u32 0),(.int .i32 0),(.int .u32 0),(.int .u32 0),(.int .i32 0),(.int .u32 0),(.int .u32 0),(.int .i32 0),(.int .u32 0),(.int .u32 0),(.int .i32 0),(.int .u32 0),(.int .u32 0),(.int .i32 0),(.int .u32 0),(.int .u32 0),(.int .i32 0),(.int .u32 0),(.int .u32 0),(.int .i32 0),(.int .u32 0),(.int .u32 0),(.int .i32 0),(.int .u32 0),(.int .u32 0),(.int .i32 0),(.int .u32 0),(.int .u32 0),(.int .i32 0),(.int .u32 0),(.int .u32 0),(.int .i32 0),(.int .u32 0),(.int .u32 0),(.int .i32 0),(.int .u32 0),(.int .u32 0),(.int .i32 0),(.int .u32 0),(.int .u32 0),(.int .i32 0),(.int .u32 0),(.int .u32 0),(.int .i32 0),(.int .u32 0),(.int .u32 0),(.int .i32 0),(.int .u32 0),(.int .u32 0),(.int .i32 0),(.int .u32 0),(.int .u32 0),(.int .i32 0),(.int .u32 0),(.int .u32 0),(.int .i32 0),(.int .u32 0),(.int .u32 0),(.int .i32 0),(.int .u32 0),(.int .u32 0),(.int .i32 0),(.int .u32 0),(.int .u32 0),(.int .i32 0),(.int .u32 0),(.pointer none),(.pointer none),(.pointer none),(.pointer none),(.pointer none),(.pointer none),(.pointer none),(.pointer none),(.pointer none),(.pointer none),(.pointer none),(.pointer none),(.pointer none),(.pointer none),(.pointer none),(.pointer none),(.pointer none),(.pointer none),(.pointer none),(.pointer none),(.pointer none),(.pointer none),(.pointer none),(.pointer none),(.pointer none),(.pointer none),(.pointer none),(.pointer none),(.pointer none),(.pointer none),(.pointer none),(.pointer none),(.pointer none),(.pointer none),(.pointer none),(.pointer none),(.pointer none),(.pointer none),(.pointer none),(.pointer none),(.pointer none),(.pointer none),(.pointer none),(.pointer none),(.pointer none),(.pointer none),(.pointer none),(.pointer none),(.pointer none),(.pointer none),(.pointer none),(.pointer none),(.pointer none),(.pointer none),(.pointer none),(.pointer none),(.pointer none),(.pointer none),(.pointer none),(.pointer none),(.pointer none),(.pointer none),(.pointer none),(.pointer none),(.pointer none)]
def c29:ACode:=(.R [.o 1 (.box 3 1 (.tmp 0)), .o 2 (.mv (.const (.pointer none))), .k 3 0] (.seq (.R [.L 5 1, .C 6 .lss 5 2, .m 7 6, .H 8 1 7 false, .g 9 (.c .gtr 8 64) 7 false, .P 10 7 9] (.D 10 (.R [.o 2 (.mv (.const (.pointer none))), .k 3 1] .ret) .skip)) (.R [.o 4 (.alloc 85 bu3)] (.R [.L 11 1, .F 12 0 4, .o 13 (.iaddrA 65 3 (.tmp 12) (.tmp 11)), .o 14 (.mkf 46 [(.tmp 1),(.tmp 4)]), .Q 15 45 [13,14]] (.seq (.R [.L 16 1, .F 17 195 4, .o 18 (.iaddrA 65 1 (.tmp 17) (.tmp 16)), .L 19 18, .o 20 (.eqn false 1 (.tmp 19))] (.D 20 (.R [.o 2 (.mv (.const (.pointer none))), .k 3 1] .ret) .skip)) (.R [.L 21 1, .F 22 195 4, .o 23 (.iaddrA 65 1 (.tmp 22) (.tmp 21)), .L 24 23, .m 2 24, .k 3 0] .ret))))))
def F29:AFun:=⟨c29,1,25,[(.tmp 2),(.tmp 3)]⟩
def K29:Nat→List Nat×List Nat
 |_=>([],[])
theorem F29_ok:kj8 Try.prog K29 noRg Try.f29=some F29:=by kernel_rfl
/- 30: slices.ContainsFunc[[]int,int] -/
def c30:ACode:=(.R [.o 4 (.mv (.const (.bool false)))] (.R [.m 5 0, .m 6 1, .Q 7 48 [5,6], .C 8 .geq 7 0, .m 4 8] .ret))
def F30:AFun:=⟨c30,2,9,[(.tmp 4)]⟩
def K30:Nat→List Nat×List Nat
 |_=>([],[])
theorem F30_ok:kj8 Try.prog K30 noRg Try.f30=some F30:=by kernel_rfl
/- 31: syndrome/code.Encode$1 -/
def c31:ACode:=(.R [.o 3 (.mv (.const (.bool false)))] (.R [.L 4 1, .m 5 0, .Q 6 32 [4,5], .o 7 (.un .not (.tmp 6)), .m 3 7] .ret))
def F31:AFun:=⟨c31,2,8,[(.tmp 3)]⟩
def K31:Nat→List Nat×List Nat
 |_=>([],[])
theorem F31_ok:kj8 Try.prog K31 noRg Try.f31=some F31:=by kernel_rfl
/- 32: (*syndrome/field.Field).Has -/
def c32:ACode:=(.R [.o 4 (.mv (.const (.bool false)))] (.R [.m 5 1, .C 6 .geq 5 0, .m 7 6, .G 8 1 7 true, .G 9 0 7 true, .g 10 (.nilck (.tmp 9)) 7 true, .g 11 (.f 0 10) 7 true, .H 12 11 7 true, .g 13 (.b .lss 8 12) 7 true, .o 14 (.pick (.tmp 7) (.tmp 13) (.const (.bool false))), .m 4 14] .ret))
def F32:AFun:=⟨c32,2,15,[(.tmp 4)]⟩
def K32:Nat→List Nat×List Nat
 |_=>([],[])
theorem F32_ok:kj8 Try.prog K32 noRg Try.f32=some F32:=by kernel_rfl
/- 33: syndrome/code.encode -/
def c33L0:ACode:=(.R [.B 29 .lss 28 27] (.seq (.D 29 .skip (.exit 2)) (.seq (.block 3 [0,4,7,9,15,16,17,26,27,28] (.R [.m 30 28, .I 31 1 26 28, .L 32 31, .m 10 30, .m 11 32] (.region [.m 33 7, .m 34 10, .m 35 0, .m 36 7, .m 37 10, .I 38 1 36 37, .L 39 38, .m 40 0, .m 41 9, .m 42 11,⟨(some 43),(.call 50 [(.tmp 40),(.tmp 41),(.tmp 42)]),none,true⟩, .Q 44 49 [35,39,43], .I 45 1 33 34, .S 45 44]))) (.region [.C 46 .add 28 1, .m 28 46]))))
def c33L1:ACode:=(.R [.B 18 .lss 17 16] (.seq (.D 18 .skip (.exit 0)) (.seq (.block 1 [0,4,7,15,16,17] (.R [.m 19 17, .I 20 1 15 17, .L 21 20, .m 8 19, .m 9 21] (.R [.F 22 2 4, .L 23 22, .m 24 8, .I 25 1 23 24, .L 26 25, .N 27 26, .k 28 0] (.block 2 [0,4,7,15,16,17] (.loop [0,4,7,9,15,16,17,26,27,28] c33L0))))) (.region [.C 47 .add 17 1, .m 17 47]))))
def c33:ACode:=(.R [.o 4 (.box 25 3 (.tmp 1)), .Z 6] (.R [.F 12 1 4, .L 13 12, .o 14 (.mks 3 1 8 [(.int .i64 0)] (.tmp 13) (.tmp 13)), .m 7 14] (.seq (.R [.m 15 2, .N 16 15, .k 17 0] (.block 0 [7] (.loop [0,4,7,15,16,17] c33L1))) (.R [.m 48 7, .m 6 48] .ret))))
def F33:AFun:=⟨c33,3,49,[(.tmp 6)]⟩
def K33:Nat→List Nat×List Nat
 |0=>([0,4,7,15,16,17],[7])
 |1=>([],[0,4,7,15,16,17])
 |2=>([0,4,7,9,15,16,17,26,27,28],[0,4,7,15,16,17])
 |3=>([],[0,4,7,9,15,16,17,26,27,28])
 |_=>([],[])
theorem F33_ok:kj8 Try.prog K33 noRg Try.f33=some F33:=by kernel_rfl
/- 34: syndrome/code.all -/
def c34L0:ACode:=(.R [.B 19 .lss 18 17] (.seq (.D 19 .skip (.exit 0)) (.seq (.block 1 [1,2,5,17,18] (.R [.m 20 5, .F 21 0 1, .L 22 21, .B 23 .mul 20 22, .m 5 23] (.R [.m 24 5, .C 25 .gtr 24 4096] (.D 25 (.R [.o 26 (.build [(.int .i64 0),(.int .i64 0),(.slice none 0 0)] [(0,1),(1,1),(2,1)] []), .n (.st 3 (.tmp 2) (.tmp 26)), .k 3 4] .ret) .skip)))) (.region [.C 27 .add 18 1, .m 18 27]))))
def c34:ACode:=(.R [.o 1 (.box 25 3 (.tmp 0)), .o 2 (.alloc 25 [(.int .i64 0),(.int .i64 0),(.slice none 0 0)]), .k 3 0] (.R [.o 7 (.ld true 3 (.tmp 1)), .Q 8 19 [7], .m 6 8, .E 9 0 6, .E 10 1 6, .n (.st 3 (.tmp 1) (.tmp 9)), .m 4 10] (.seq (.R [.m 11 4, .C 12 .neq 11 0] (.D 12 (.R [.o 13 (.build [(.int .i64 0),(.int .i64 0),(.slice none 0 0)] [(0,1),(1,1),(2,1)] []), .m 14 4, .n (.st 3 (.tmp 2) (.tmp 13)), .m 3 14] .ret) .skip)) (.R [.k 5 1] (.seq (.R [.F 15 2 1, .L 16 15, .N 17 16, .k 18 0] (.block 0 [1,2] (.loop [1,2,5,17,18] c34L0))) (.R [.o 28 (.ld true 3 (.tmp 1)), .n (.st 3 (.tmp 2) (.tmp 28)), .k 3 0] .ret))))))
def F34:AFun:=⟨c34,1,29,[(.cell 2 true 3),(.tmp 3)]⟩
def K34:Nat→List Nat×List Nat
 |0=>([1,2,5,17,18],[1,2])
 |1=>([],[1,2,5,17,18])
 |_=>([],[])
theorem F34_ok:kj8 Try.prog K34 noRg Try.f34=some F34:=by kernel_rfl
/- 35: syndrome/code.word -/
def c35:ACode:=(.R [.o 2 (.box 25 3 (.tmp 0)), .k 4 0] (.seq (.R [.m 7 1, .N 8 7, .F 9 1 2, .L 10 9, .B 11 .neq 8 10] (.D 11 (.R [.k 4 6] .ret) .skip)) (.R [.F 13 0 2, .L 14 13, .Q 15 29 [14], .m 12 15, .E 16 0 12, .E 17 1 12, .o 5 (.alloc 54 [(.pointer none)]), .S 5 16, .m 6 17] (.seq (.R [.m 18 1, .o 19 (.mkf 51 [(.tmp 5)]), .Q 20 30 [18,19]] (.D 20 (.R [.k 4 2] .ret) .skip)) (.R [.k 4 0] .ret)))))
def F35:AFun:=⟨c35,2,21,[(.tmp 4)]⟩
def K35:Nat→List Nat×List Nat
 |_=>([],[])
theorem F35_ok:kj8 Try.prog K35 noRg Try.f35=some F35:=by kernel_rfl
/- 36: syndrome/code.words -/
def c36:ACode:=(.R [.o 1 (.box 25 3 (.tmp 0)), .o 2 (.mv (.const .nilFunc))] (.R [.o 3 (.mkf 52 [(.tmp 1)]), .m 2 3] .ret))
def F36:AFun:=⟨c36,1,4,[(.tmp 2)]⟩
def K36:Nat→List Nat×List Nat
 |_=>([],[])
theorem F36_ok:kj8 Try.prog K36 noRg Try.f36=some F36:=by kernel_rfl
/- 37: syndrome/cyclic.Of -/
def c37L0:ACode:=(.seq (.R [.m 72 16, .m 73 2, .N 74 73, .B 75 .add 72 74, .m 76 1, .B 77 .leq 75 76] (.D 77 .skip (.exit 0))) (.seq (.block 1 [1,2,6,15,16] (.R [.m 80 1, .o 81 (.mks 3 1 8 [(.int .i64 0)] (.tmp 80) (.tmp 80)), .m 17 81] (.R [.m 82 17, .m 83 16, .o 84 (.sl 1 (.tmp 82) (some (.tmp 83)) none), .m 85 2, .o 86 (.cpy 1 (.tmp 84) (.tmp 85))] (.region [.F 87 2 15, .L 88 87, .m 89 17, .o 90 (.mkSl 22 1 1 [(.tmp 89)]), .o 91 (.app 22 1 24 (.tmp 88) (.tmp 90)), .F 92 2 15, .S 92 91])))) (.region [.m 78 16, .C 79 .add 78 1, .m 16 79])))
def c37:ACode:=(.R [.o 6 (.alloc 25 [(.int .i64 0),(.int .i64 0),(.slice none 0 0)]), .k 7 0] (.seq (.R [.m 18 0, .m 19 2, .Q 20 53 [18,19], .m 8 20] (.R [.m 21 8, .C 22 .neq 21 0] (.D 22 (.R [.o 23 (.build [(.int .i64 0),(.int .i64 0),(.slice none 0 0)] [(0,1),(1,1),(2,1)] []), .m 24 8, .n (.st 3 (.tmp 6) (.tmp 23)), .m 7 24] .ret) .skip))) (.seq (.R [.m 25 1, .C 26 .lss 25 1, .m 27 26, .G 28 1 27 false, .g 29 (.c .gtr 28 64) 27 false, .P 30 27 29] (.D 30 (.R [.o 31 (.build [(.int .i64 0),(.int .i64 0),(.slice none 0 0)] [(0,1),(1,1),(2,1)] []), .n (.st 3 (.tmp 6) (.tmp 31)), .k 7 4] .ret) .skip)) (.R [.m 33 0, .Q 34 29 [33], .m 32 34, .E 35 0 32, .E 36 1 32, .m 9 35, .m 10 36] (.R [.m 37 1, .C 38 .add 37 1, .o 39 (.mks 3 1 8 [(.int .i64 0)] (.tmp 38) (.tmp 38)), .m 11 39] (.R [.m 40 11, .m 41 11, .m 42 1, .m 43 9, .o 44 (.call 42 [(.tmp 43),(.const (.int .i64 1))]), .o 45 (.iaddr 1 (.tmp 40) (.const (.int .i64 0))), .S 45 44, .I 46 1 41 42, .n (.st 1 (.tmp 46) (.const (.int .i64 1)))] (.R [.m 48 0, .m 49 11, .m 50 2, .Q 51 54 [48,49,50], .m 47 51, .E 52 0 47, .E 53 1 47, .E 54 2 47, .m 12 52, .m 13 53, .m 14 54] (.seq (.R [.m 55 14, .C 56 .neq 55 0] (.D 56 (.R [.o 57 (.build [(.int .i64 0),(.int .i64 0),(.slice none 0 0)] [(0,1),(1,1),(2,1)] []), .m 58 14, .n (.st 3 (.tmp 6) (.tmp 57)), .m 7 58] .ret) .skip)) (.seq (.R [.m 59 13, .N 60 59, .C 61 .gtr 60 0] (.D 61 (.R [.o 62 (.build [(.int .i64 0),(.int .i64 0),(.slice none 0 0)] [(0,1),(1,1),(2,1)] []), .n (.st 3 (.tmp 6) (.tmp 62)), .k 7 3] .ret) .skip)) (.R [.m 64 0, .m 65 2, .o 66 (.call 55 [(.tmp 64),(.tmp 65),(.const (.slice none 0 0))]), .m 63 66, .E 67 0 63, .E 68 1 63, .m 2 67] (.R [.m 69 0, .m 70 1, .o 71 (.build [(.int .i64 0),(.int .i64 0),(.slice none 0 0)] [(0,1),(1,1),(2,1)] [(0,(.tmp 69)),(1,(.tmp 70))]), .o 15 (.alloc 25 [(.int .i64 0),(.int .i64 0),(.slice none 0 0)]), .n (.st 3 (.tmp 15) (.tmp 71))] (.seq (.R [.k 16 0] (.block 0 [6,15] (.loop [1,2,6,15,16] c37L0))) (.R [.o 93 (.ld true 3 (.tmp 15)), .Q 94 19 [93], .E 95 0 94, .E 96 1 94, .n (.st 3 (.tmp 6) (.tmp 95)), .m 7 96] .ret)))))))))))))
def F37:AFun:=⟨c37,3,97,[(.cell 6 true 3),(.tmp 7)]⟩
def K37:Nat→List Nat×List Nat
 |0=>([1,2,6,15,16],[6,15])
 |1=>([],[1,2,6,15,16])
 |_=>([],[])
theorem F37_ok:kj8 Try.prog K37 noRg Try.f37=some F37:=by kernel_rfl
/- 38: syndrome/code.Extend -/
def c38:ACode:=(.R [.o 1 (.box 25 3 (.tmp 0)), .o 2 (.alloc 25 [(.int .i64 0),(.int .i64 0),(.slice none 0 0)]), .k 3 0] (.seq (.R [.o 7 (.ld true 3 (.tmp 1)), .Q 8 39 [7], .m 4 8] (.R [.m 9 4, .C 10 .neq 9 0] (.D 10 (.R [.o 11 (.build [(.int .i64 0),(.int .i64 0),(.slice none 0 0)] [(0,1),(1,1),(2,1)] []), .m 12 4, .n (.st 3 (.tmp 2) (.tmp 11)), .m 3 12] .ret) .skip))) (.seq (.R [.F 13 1 1, .L 14 13, .C 15 .eql 14 64] (.D 15 (.R [.o 16 (.build [(.int .i64 0),(.int .i64 0),(.slice none 0 0)] [(0,1),(1,1),(2,1)] []), .n (.st 3 (.tmp 2) (.tmp 16)), .k 3 4] .ret) .skip)) (.R [.F 18 0 1, .L 19 18, .Q 20 29 [19], .m 17 20, .E 21 0 17, .E 22 1 17, .o 5 (.alloc 54 [(.pointer none)]), .S 5 21, .m 6 22] (.R [.o 23 (.ld true 3 (.tmp 1)), .F 24 1 1, .L 25 24, .C 26 .add 25 1, .o 27 (.mkf 56 [(.tmp 5)]), .Q 28 23 [23,26,27], .E 29 0 28, .E 30 1 28, .n (.st 3 (.tmp 2) (.tmp 29)), .m 3 30] .ret)))))
def F38:AFun:=⟨c38,1,31,[(.cell 2 true 3),(.tmp 3)]⟩
def K38:Nat→List Nat×List Nat
 |_=>([],[])
theorem F38_ok:kj8 Try.prog K38 noRg Try.f38=some F38:=by kernel_rfl
/- 39: syndrome/code.Check -/
def c39:ACode:=(.R [.o 1 (.box 25 3 (.tmp 0)), .k 2 0] (.seq (.R [.F 7 0 1, .L 8 7, .Q 9 29 [8], .m 6 9, .E 10 0 6, .E 11 1 6, .m 3 10, .m 4 11] (.R [.m 12 4, .C 13 .neq 12 0] (.D 13 (.R [.m 14 4, .m 2 14] .ret) .skip))) (.seq (.R [.F 15 1 1, .L 16 15, .C 17 .lss 16 1, .m 18 17, .g 19 (.f 1 1) 18 false, .H 20 19 18 false, .g 21 (.c .gtr 20 64) 18 false, .P 22 18 21] (.D 22 (.R [.k 2 4] .ret) .skip)) (.seq (.R [.F 23 0 1, .L 24 23, .F 25 2 1, .L 26 25, .Q 27 58 [24,26], .m 5 27] (.R [.m 28 5, .C 29 .neq 28 0] (.D 29 (.R [.m 30 5, .m 2 30] .ret) .skip))) (.seq (.R [.F 31 2 1, .L 32 31, .N 33 32, .C 34 .gtr 33 0, .m 35 34, .g 36 (.f 2 1) 35 true, .H 37 36 35 true, .g 38 (.iaddr 1 (.tmp 37) (.const (.int .i64 0))) 35 true, .H 39 38 35 true, .g 40 (.n 39) 35 true, .g 41 (.f 1 1) 35 true, .H 42 41 35 true, .g 43 (.b .neq 40 42) 35 true, .o 44 (.pick (.tmp 35) (.tmp 43) (.const (.bool false)))] (.D 44 (.R [.k 2 3] .ret) .skip)) (.R [.k 2 0] .ret))))))
def F39:AFun:=⟨c39,1,45,[(.tmp 2)]⟩
def K39:Nat→List Nat×List Nat
 |_=>([],[])
theorem F39_ok:kj8 Try.prog K39 noRg Try.f39=some F39:=by kernel_rfl
/- 40: syndrome/matrix.Reduce -/
def c40L0:ACode:=(.R [.B 92 .lss 91 90] (.seq (.D 92 .skip (.exit 2)) (.seq (.block 3 [1,5,8,10,11,90,91] (.R [.m 93 91, .m 13 93] (.R [.m 94 13, .m 95 11, .B 96 .neq 94 95, .m 97 96, .G 98 1 97 true, .G 99 13 97 true, .g 100 (.i 1 98 99) 97 true, .H 101 100 97 true, .H 102 10 97 true, .g 103 (.i 1 101 102) 97 true, .H 104 103 97 true, .g 105 (.c .neq 104 0) 97 true, .o 106 (.pick (.tmp 97) (.tmp 105) (.const (.bool false)))] (.D 106 (.region [.m 107 8, .m 108 1, .m 109 13, .I 110 1 108 109, .L 111 110, .m 112 1, .m 113 11, .I 114 1 112 113, .L 115 114, .m 116 1, .m 117 13, .I 118 1 116 117, .L 119 118, .L 120 10, .I 121 1 119 120, .L 122 121, .Q 123 64 [107,111,115,122]]) .skip)))) (.region [.C 124 .add 91 1, .m 91 124]))))
def c40L1:ACode:=(.seq (.R [.L 32 10, .m 33 1, .o 34 (.iaddr 1 (.tmp 33) (.const (.int .i64 0))), .L 35 34, .N 36 35, .B 37 .lss 32 36, .m 38 37, .G 39 5 38 true, .g 40 (.n 39) 38 true, .G 41 1 38 true, .g 42 (.n 41) 38 true, .g 43 (.b .lss 40 42) 38 true, .o 44 (.pick (.tmp 38) (.tmp 43) (.const (.bool false)))] (.D 44 .skip (.exit 0))) (.seq (.block 1 [1,5,8,10] (.R [.m 47 5, .N 48 47, .m 11 48] (.R [.m 49 1, .m 50 11, .o 51 (.sl 1 (.tmp 49) (some (.tmp 50)) none), .o 52 (.mkf 61 [(.tmp 10)]), .Q 53 60 [51,52], .m 12 53] (.seq (.R [.m 54 12, .C 55 .lss 54 0] (.D 55 (.exit 1) .skip)) (.R [.m 56 1, .m 57 11, .m 58 1, .m 59 11, .m 60 12, .B 61 .add 59 60, .m 62 1, .m 63 11, .m 64 12, .B 65 .add 63 64, .I 66 1 62 65, .L 67 66, .m 68 1, .m 69 11, .I 70 1 68 69, .L 71 70, .I 72 1 56 57, .S 72 67, .I 73 1 58 61, .S 73 71] (.R [.m 74 8, .m 75 1, .m 76 11, .I 77 1 75 76, .L 78 77, .m 79 8, .m 80 1, .m 81 11, .I 82 1 80 81, .L 83 82, .L 84 10, .I 85 1 83 84, .L 86 85,⟨(some 87),(.call 63 [(.tmp 79),(.tmp 86)]),none,true⟩, .Q 88 62 [74,78,87]] (.seq (.R [.m 89 1, .N 90 89, .k 91 0] (.block 2 [1,5,8,10] (.loop [1,5,8,10,11,90,91] c40L0))) (.region [.m 125 5, .L 126 10, .o 127 (.mkSl 3 1 1 [(.tmp 126)]), .o 128 (.app 3 1 8 (.tmp 125) (.tmp 127)), .m 5 128])))))))) (.seq (.R [.L 129 10] (.region [.o 10 (.alloc 3 [(.int .i64 0)]), .S 10 129])) (.region [.L 45 10, .C 46 .add 45 1, .S 10 46]))))
def c40:ACode:=(.R [.Z 4, .Z 5, .k 6 0] (.seq (.R [.m 14 0, .m 15 1, .Q 16 58 [14,15], .m 7 16] (.R [.m 17 7, .C 18 .neq 17 0, .m 19 18, .G 20 1 19 false, .g 21 (.n 20) 19 false, .g 22 (.c .eql 21 0) 19 false, .P 23 19 22] (.D 23 (.R [.m 24 7, .Z 4, .Z 5, .m 6 24] .ret) .skip))) (.R [.m 26 0, .Q 27 29 [26], .m 25 27, .E 28 0 25, .E 29 1 25, .m 8 28, .m 9 29] (.R [.m 30 1, .Q 31 59 [30], .m 1 31] (.seq (.R [.o 10 (.alloc 3 [(.int .i64 0)]), .n (.st 1 (.tmp 10) (.const (.int .i64 0)))] (.block 0 [1,5] (.loop [1,5,8,10] c40L1))) (.R [.m 130 1, .m 131 5, .N 132 131, .m 133 5, .N 134 133, .o 135 (.sl3 (.tmp 130) (.tmp 132) (.tmp 134)), .m 136 5, .m 4 135, .m 5 136, .k 6 0] .ret))))))
def F40:AFun:=⟨c40,2,137,[(.tmp 4),(.tmp 5),(.tmp 6)]⟩
def K40:Nat→List Nat×List Nat
 |0=>([1,5,8,10],[1,5])
 |1=>([],[1,5,8,10])
 |2=>([1,5,8,10,11,90,91],[1,5,8,10])
 |3=>([],[1,5,8,10,11,90,91])
 |_=>([],[])
theorem F40_ok:kj8 Try.prog K40 noRg Try.f40=some F40:=by kernel_rfl
/- 41: slices.Contains[[]int,int] -/
def c41:ACode:=(.R [.o 4 (.mv (.const (.bool false)))] (.R [.m 5 0, .m 6 1, .Q 7 65 [5,6], .C 8 .geq 7 0, .m 4 8] .ret))
def F41:AFun:=⟨c41,2,9,[(.tmp 4)]⟩
def K41:Nat→List Nat×List Nat
 |_=>([],[])
theorem F41_ok:kj8 Try.prog K41 noRg Try.f41=some F41:=by kernel_rfl
/- 42: (*syndrome/field.Field).Neg -/
def c42L0:ACode:=(.R [.B 16 .lss 15 14] (.seq (.D 16 .skip (.exit 0)) (.seq (.block 1 [0,1,5,6,14,15] (.R [.m 17 5, .m 18 0, .K 19 18, .F 20 1 19, .L 21 20, .m 22 1, .m 23 0, .K 24 23, .F 25 1 24, .L 26 25, .B 27 .rem 22 26, .B 28 .sub 21 27, .m 29 0, .K 30 29, .F 31 1 30, .L 32 31, .B 33 .rem 28 32, .m 34 6, .B 35 .mul 33 34, .B 36 .add 17 35, .m 5 36] (.region [.m 37 1, .m 38 0, .K 39 38, .F 40 1 39, .L 41 40, .B 42 .quo 37 41, .m 43 6, .m 44 0, .K 45 44, .F 46 1 45, .L 47 46, .B 48 .mul 43 47, .m 1 42, .m 6 48]))) (.region [.C 49 .add 15 1, .m 15 49]))))
def c42:ACode:=(.R [.k 4 0] (.seq (.R [.m 7 0, .m 8 1, .Q 9 32 [7,8], .o 10 (.un .not (.tmp 9))] (.D 10 (.R [.k 4 (-1)] .ret) .skip)) (.R [.k 5 0, .k 6 1] (.seq (.R [.m 11 0, .K 12 11, .F 13 2 12, .L 14 13, .k 15 0] (.block 0 [5] (.loop [0,1,5,6,14,15] c42L0))) (.R [.m 50 5, .m 4 50] .ret)))))
def F42:AFun:=⟨c42,2,51,[(.tmp 4)]⟩
def K42:Nat→List Nat×List Nat
 |0=>([0,1,5,6,14,15],[5])
 |1=>([],[0,1,5,6,14,15])
 |_=>([],[])
theorem F42_ok:kj8 Try.prog K42 noRg Try.f42=some F42:=by kernel_rfl
/- 43: syndrome/code.Weight -/
def c43L0:ACode:=(.R [.B 9 .lss 8 7] (.seq (.D 9 .skip (.exit 0)) (.seq (.block 1 [3,6,7,8] (.R [.I 10 1 6 8, .L 11 10, .m 5 11] (.R [.m 12 5, .C 13 .neq 12 0] (.D 13 (.region [.m 14 3, .C 15 .add 14 1, .m 3 15]) .skip)))) (.region [.C 16 .add 8 1, .m 8 16]))))
def c43:ACode:=(.R [.k 2 0] (.R [.k 3 0] (.seq (.R [.m 6 0, .N 7 6, .k 8 0] (.block 0 [3] (.loop [3,6,7,8] c43L0))) (.R [.m 17 3, .m 2 17] .ret))))
def F43:AFun:=⟨c43,1,18,[(.tmp 2)]⟩
def K43:Nat→List Nat×List Nat
 |0=>([3,6,7,8],[3])
 |1=>([],[3,6,7,8])
 |_=>([],[])
theorem F43_ok:kj8 Try.prog K43 noRg Try.f43=some F43:=by kernel_rfl
/- 44: syndrome/weights.power -/
def c44L0:ACode:=(.R [.B 8 .lss 7 6] (.seq (.D 8 .skip (.exit 0)) (.seq (.block 1 [0,5,6,7] (.R [.m 9 5, .m 10 0, .B 11 .mul 9 10, .m 5 11] (.R [.m 12 5, .C 13 .gtr 12 1073741824] (.D 13 (.R [.k 4 (-1)] .ret) .skip)))) (.region [.C 14 .add 7 1, .m 7 14]))))
def c44:ACode:=(.R [.k 4 0] (.R [.k 5 1] (.seq (.R [.m 6 1, .k 7 0] (.block 0 [5] (.loop [0,5,6,7] c44L0))) (.R [.m 15 5, .m 4 15] .ret))))
def F44:AFun:=⟨c44,2,16,[(.tmp 4)]⟩
def K44:Nat→List Nat×List Nat
 |0=>([0,5,6,7],[5])
 |1=>([],[0,5,6,7])
 |_=>([],[])
theorem F44_ok:kj8 Try.prog K44 noRg Try.f44=some F44:=by kernel_rfl
/- 46: syndrome/field.New$1 -/
def c46:ACode:=(.region [.L 2 0, .L 3 0,⟨(some 4),(.call 47 [(.tmp 3)]),none,true⟩, .F 5 195 1, .o 6 (.iaddrA 65 1 (.tmp 5) (.tmp 2)), .S 6 4])
def F46:AFun:=⟨c46,2,7,[]⟩
def K46:Nat→List Nat×List Nat
 |_=>([],[])
theorem F46_ok:kj8 Try.prog K46 noRg Try.f46=some F46:=by kernel_rfl
/- 47: syndrome/field.build -/
def c47L0:ACode:=(.seq (.R [.m 28 5, .Q 29 69 [28], .o 30 (.un .not (.tmp 29))] (.D 30 .skip (.exit 0))) (.seq (.block 1 [5] .skip) (.region [.m 31 5, .K 32 31, .F 33 4 32, .L 34 33, .C 35 .add 34 1, .K 36 31, .F 37 4 36, .S 37 35])))
def c47L1:ACode:=(.R [.B 45 .lss 44 43] (.seq (.D 45 .skip (.exit 2)) (.seq (.block 3 [3,4,5,43,44] (.R [.m 46 44, .m 6 46] (.R [.m 47 5, .m 48 6, .m 49 3, .m 50 4, .Q 51 70 [48,49,50], .o 52 (.mkSl 3 1 1 [(.const (.int .i64 1))]), .o 53 (.app 3 1 8 (.tmp 51) (.tmp 52)), .K 54 47, .F 55 3 54, .S 55 53] (.R [.m 56 5, .Q 57 69 [56]] (.D 57 (.R [.m 58 5, .m 2 58] .ret) .skip))))) (.region [.C 59 .add 44 1, .m 44 59]))))
def c47:ACode:=(.R [.o 2 (.mv (.const (.pointer none)))] (.R [.m 8 0, .Q 9 68 [8], .m 7 9, .E 10 0 7, .E 11 1 7, .m 3 10, .m 4 11] (.seq (.R [.m 12 3, .C 13 .eql 12 0] (.D 13 (.R [.o 2 (.mv (.const (.pointer none)))] .ret) .skip)) (.R [.m 14 0, .m 15 3, .m 16 4, .o 17 (.build [(.int .i64 0),(.int .i64 0),(.int .i64 0),(.slice none 0 0),(.int .i64 0),(.slice none 0 0),(.slice none 0 0)] [(0,1),(1,1),(2,1),(3,1),(4,1),(5,1),(6,1)] [(0,(.tmp 14)),(1,(.tmp 15)),(2,(.tmp 16))]), .o 18 (.box 90 7 (.tmp 17)), .m 5 18] (.seq (.R [.m 19 4, .C 20 .eql 19 1] (.D 20 (.R [.m 21 5, .o 22 (.mkSl 3 1 2 [(.const (.int .i64 0)),(.const (.int .i64 1))]), .K 23 21, .F 24 3 23, .S 24 22] (.seq (.R [.m 25 5, .K 26 25, .F 27 4 26, .n (.st 1 (.tmp 27) (.const (.int .i64 1)))] (.block 0 [5] (.loop [5] c47L0))) (.R [.m 38 5, .m 2 38] .ret))) .skip)) (.R [.m 39 5, .m 40 3, .K 41 39, .F 42 4 41, .S 42 40] (.seq (.R [.m 43 0, .k 44 0] (.block 2 [] (.loop [3,4,5,43,44] c47L1))) (.R [.o 2 (.mv (.const (.pointer none)))] .ret))))))))
def F47:AFun:=⟨c47,1,60,[(.tmp 2)]⟩
def K47:Nat→List Nat×List Nat
 |0=>([5],[5])
 |1=>([],[5])
 |2=>([3,4,5,43,44],[])
 |3=>([],[3,4,5,43,44])
 |_=>([],[])
theorem F47_ok:kj8 Try.prog K47 noRg Try.f47=some F47:=by kernel_rfl
end Go.Proofs.Ytppbpgmdmiajcaa
