/-
  Functions of this seat as the small machine's code, written by a program of my own (gen.py); each is checked to be what the model's function is turned into. No condition.
-/
import Derived.Test.YtghfdpdiibiigaaK1
import Derived.Test.YtghfdpdiibiigaaProg
set_option linter.unusedVariables false
set_option linter.unusedSimpArgs false
set_option linter.unusedSectionVars false
set_option maxRecDepth 100000
namespace Go.Proofs.Ytghfdpdiibiigaa
open Go.Am
/- 75: slices.IndexFunc[[][]int,[]int] -/
def c75L0 : ACode := (.seq (.region [.o 9 (.b .lss 8 7)]) (.seq (.cond (.tmp 9) .skip (.exit 0)) (.seq (.block 1 [0, 1, 7, 8] (.seq (.region [.m 10 8, .m 5 10]) (.seq (.region [.m 11 1, .m 12 0, .m 13 5, .o 14 (.i 1 12 13), .o 15 (.l 14), .o 16 (.calld (.tmp 11) [(.tmp 15)])]) (.cond (.tmp 16) (.seq (.region [.m 17 5, .m 4 17]) .ret) .skip)))) (.region [.o 18 (.c .add 8 1), .m 8 18]))))
def c75 : ACode := (.seq (.region [.k 4 0]) (.seq (.seq (.region [.m 6 0, .o 7 (.n 6), .k 8 0]) (.block 0 [] (.loop [0, 1, 7, 8] c75L0))) (.seq (.region [.k 4 (-1)]) .ret)))
def F75 : AFun := ⟨c75, 2, 19, [(.tmp 4)]⟩
def K75 : Nat → List Nat × List Nat
 | 0 => ([0, 1, 7, 8], [])
 | 1 => ([], [0, 1, 7, 8])
 | _ => ([], [])
theorem F75_ok : kj8 Try.prog K75 Try.f75 = some F75 := by kernel_rfl
/- 78: slices.Index[[]int,int] -/
def c78L0 : ACode := (.seq (.region [.o 9 (.b .lss 8 7)]) (.seq (.cond (.tmp 9) .skip (.exit 0)) (.seq (.block 1 [0, 1, 7, 8] (.seq (.region [.m 10 8, .m 5 10]) (.seq (.region [.m 11 1, .m 12 0, .m 13 5, .o 14 (.i 1 12 13), .o 15 (.l 14), .o 16 (.b .eql 11 15)]) (.cond (.tmp 16) (.seq (.region [.m 17 5, .m 4 17]) .ret) .skip)))) (.region [.o 18 (.c .add 8 1), .m 8 18]))))
def c78 : ACode := (.seq (.region [.k 4 0]) (.seq (.seq (.region [.m 6 0, .o 7 (.n 6), .k 8 0]) (.block 0 [] (.loop [0, 1, 7, 8] c78L0))) (.seq (.region [.k 4 (-1)]) .ret)))
def F78 : AFun := ⟨c78, 2, 19, [(.tmp 4)]⟩
def K78 : Nat → List Nat × List Nat
 | 0 => ([0, 1, 7, 8], [])
 | 1 => ([], [0, 1, 7, 8])
 | _ => ([], [])
theorem F78_ok : kj8 Try.prog K78 Try.f78 = some F78 := by kernel_rfl
/- 79: syndrome/matrix.Solve$1 -/
def c79 : ACode := (.seq (.region [.o 3 (.mv (.const (.bool false)))]) (.seq (.region [.o 4 (.l 1), .m 5 0, .o 6 (.q 53 [4, 5]), .o 7 (.un .not (.tmp 6)), .m 3 7]) .ret))
def F79 : AFun := ⟨c79, 2, 8, [(.tmp 3)]⟩
def K79 : Nat → List Nat × List Nat
 | _ => ([], [])
theorem F79_ok : kj8 Try.prog K79 Try.f79 = some F79 := by kernel_rfl
/- 80: syndrome/matrix.solve -/
def c80L0 : ACode := (.seq (.region [.o 38 (.b .lss 37 36)]) (.seq (.cond (.tmp 38) .skip (.exit 0)) (.seq (.block 1 [1, 2, 8, 10, 11, 36, 37] (.seq (.region [.m 39 37, .m 12 39]) (.region [.m 40 11, .m 41 12, .m 42 1, .m 43 12, .o 44 (.i 1 42 43), .o 45 (.l 44), ⟨(some 46), (.call 68 [(.tmp 45)]), none, true⟩, .m 47 2, .m 48 12, .o 49 (.i 1 47 48), ⟨(some 50), (.ld false 1 (.tmp 49)), none, true⟩, .o 51 (.mkSl 3 1 1 [(.tmp 50)]), .o 52 (.app 3 1 8 (.tmp 46) (.tmp 51)), .o 53 (.i 1 40 41), .n (.st 1 (.tmp 53) (.tmp 52))]))) (.region [.o 54 (.c .add 37 1), .m 37 54]))))
def c80L1 : ACode := (.seq (.region [.o 104 (.b .lss 103 102)]) (.seq (.cond (.tmp 104) .skip (.exit 4)) (.seq (.block 5 [8, 10, 11, 13, 14, 15, 55, 56, 102, 103] (.seq (.region [.m 105 103, .m 17 105]) (.seq (.region [.m 106 17, .m 107 15, .o 108 (.b .neq 106 107)]) (.cond (.tmp 108) (.region [.m 109 8, .m 110 11, .m 111 17, .o 112 (.i 1 110 111), .o 113 (.l 112), .m 114 11, .m 115 15, .o 116 (.i 1 114 115), .o 117 (.l 116), .m 118 11, .m 119 17, .o 120 (.i 1 118 119), .o 121 (.l 120), .o 122 (.l 14), .o 123 (.i 1 121 122), .o 124 (.l 123), .o 125 (.q 96 [109, 113, 117, 124])]) .skip)))) (.region [.o 126 (.c .add 103 1), .m 103 126]))))
def c80L2 : ACode := (.seq (.region [.o 57 (.b .lss 56 55)]) (.seq (.cond (.tmp 57) .skip (.exit 2)) (.seq (.block 3 [8, 10, 11, 13, 55, 56] (.seq (.region [.m 58 56, .o 14 (.alloc 3 [(.int .i64 0)]), .n (.st 1 (.tmp 14) (.tmp 58))]) (.seq (.region [.m 59 13, .o 60 (.n 59), .m 15 60]) (.seq (.region [.m 61 11, .m 62 15, .o 63 (.sl 1 (.tmp 61) (some (.tmp 62)) none), .o 64 (.mkf 94 [(.tmp 14)]), .o 65 (.q 75 [63, 64]), .m 16 65]) (.seq (.seq (.region [.m 66 16, .o 67 (.c .lss 66 0)]) (.cond (.tmp 67) (.exit 3) .skip)) (.seq (.region [.m 68 11, .m 69 15, .m 70 11, .m 71 15, .m 72 16, .o 73 (.b .add 71 72), .m 74 11, .m 75 15, .m 76 16, .o 77 (.b .add 75 76), .o 78 (.i 1 74 77), .o 79 (.l 78), .m 80 11, .m 81 15, .o 82 (.i 1 80 81), .o 83 (.l 82), .o 84 (.i 1 68 69), .n (.st 1 (.tmp 84) (.tmp 79)), .o 85 (.i 1 70 73), .n (.st 1 (.tmp 85) (.tmp 83))]) (.seq (.region [.m 86 8, .m 87 11, .m 88 15, .o 89 (.i 1 87 88), .o 90 (.l 89), .m 91 8, .m 92 11, .m 93 15, .o 94 (.i 1 92 93), .o 95 (.l 94), .o 96 (.l 14), .o 97 (.i 1 95 96), .o 98 (.l 97), ⟨(some 99), (.call 25 [(.tmp 91), (.tmp 98)]), none, true⟩, .o 100 (.q 95 [86, 90, 99])]) (.seq (.seq (.region [.m 101 11, .o 102 (.n 101), .k 103 0]) (.block 4 [8, 10, 11, 13, 14, 55, 56] (.loop [8, 10, 11, 13, 14, 15, 55, 56, 102, 103] c80L1))) (.region [.m 127 13, .o 128 (.l 14), .o 129 (.mkSl 3 1 1 [(.tmp 128)]), .o 130 (.app 3 1 8 (.tmp 127) (.tmp 129)), .m 13 130]))))))))) (.region [.o 131 (.c .add 56 1), .m 56 131]))))
def c80L3 : ACode := (.seq (.region [.o 138 (.b .lss 137 136)]) (.seq (.cond (.tmp 138) .skip (.exit 6)) (.seq (.block 7 [10, 11, 13, 135, 136, 137] (.seq (.region [.o 139 (.i 1 135 137), .o 140 (.l 139), .m 19 140]) (.seq (.region [.m 141 19, .m 142 10, .o 143 (.i 1 141 142), .o 144 (.l 143), .o 145 (.c .neq 144 0)]) (.cond (.tmp 145) (.seq (.region [.o 6 (.mv (.const (.slice none 0 0))), .o 7 (.mv (.const (.bool false)))]) .ret) .skip)))) (.region [.o 146 (.c .add 137 1), .m 137 146]))))
def c80L4 : ACode := (.seq (.region [.o 152 (.b .lss 151 150)]) (.seq (.cond (.tmp 152) .skip (.exit 8)) (.seq (.block 9 [10, 11, 20, 149, 150, 151] (.seq (.region [.m 153 151, .o 154 (.i 1 149 151), .o 155 (.l 154), .m 21 153, .m 22 155]) (.region [.m 156 20, .m 157 22, .m 158 11, .m 159 21, .o 160 (.i 1 158 159), .o 161 (.l 160), .m 162 10, .o 163 (.i 1 161 162), .o 164 (.l 163), .o 165 (.i 1 156 157), .n (.st 1 (.tmp 165) (.tmp 164))]))) (.region [.o 166 (.c .add 151 1), .m 151 166]))))
def c80 : ACode := (.seq (.region [.o 6 (.mv (.const (.slice none 0 0))), .o 7 (.mv (.const (.bool false)))]) (.seq (.region [.m 24 0, .o 25 (.q 36 [24]), .m 23 25, .o 26 (.e 0 23), .o 27 (.e 1 23), .m 8 26, .m 9 27]) (.seq (.region [.m 28 1, .o 29 (.iaddr 1 (.tmp 28) (.const (.int .i64 0))), .o 30 (.l 29), .o 31 (.n 30), .m 10 31]) (.seq (.region [.m 32 1, .o 33 (.n 32), .o 34 (.mks 22 1 24 [(.slice none 0 0)] (.tmp 33) (.tmp 33)), .m 11 34]) (.seq (.seq (.region [.m 35 1, .o 36 (.n 35), .k 37 0]) (.block 0 [8, 10, 11] (.loop [1, 2, 8, 10, 11, 36, 37] c80L0))) (.seq (.region [.o 13 (.mv (.const (.slice none 0 0)))]) (.seq (.seq (.region [.m 55 10, .k 56 0]) (.block 2 [10, 11, 13] (.loop [8, 10, 11, 13, 55, 56] c80L2))) (.seq (.seq (.region [.m 132 11, .m 133 13, .o 134 (.n 133), .o 135 (.sl 1 (.tmp 132) (some (.tmp 134)) none), .o 136 (.n 135), .k 137 0]) (.block 6 [10, 11, 13] (.loop [10, 11, 13, 135, 136, 137] c80L3))) (.seq (.region [.m 147 10, .o 148 (.mks 3 1 8 [(.int .i64 0)] (.tmp 147) (.tmp 147)), .m 20 148]) (.seq (.seq (.region [.m 149 13, .o 150 (.n 149), .k 151 0]) (.block 8 [20] (.loop [10, 11, 20, 149, 150, 151] c80L4))) (.seq (.region [.m 167 20, .m 6 167, .o 7 (.mv (.const (.bool true)))]) .ret)))))))))))
def F80 : AFun := ⟨c80, 3, 168, [(.tmp 6), (.tmp 7)]⟩
def K80 : Nat → List Nat × List Nat
 | 0 => ([1, 2, 8, 10, 11, 36, 37], [8, 10, 11])
 | 1 => ([], [1, 2, 8, 10, 11, 36, 37])
 | 2 => ([8, 10, 11, 13, 55, 56], [10, 11, 13])
 | 3 => ([], [8, 10, 11, 13, 55, 56])
 | 4 => ([8, 10, 11, 13, 14, 15, 55, 56, 102, 103], [8, 10, 11, 13, 14, 55, 56])
 | 5 => ([], [8, 10, 11, 13, 14, 15, 55, 56, 102, 103])
 | 6 => ([10, 11, 13, 135, 136, 137], [10, 11, 13])
 | 7 => ([], [10, 11, 13, 135, 136, 137])
 | 8 => ([10, 11, 20, 149, 150, 151], [20])
 | 9 => ([], [10, 11, 20, 149, 150, 151])
 | _ => ([], [])
theorem F80_ok : kj8 Try.prog K80 Try.f80 = some F80 := by kernel_rfl
/- 81: syndrome/syndromeref.Prime -/
def c81L0 : ACode := (.seq (.seq (.region [.m 15 0, .m 16 4, .o 17 (.b .rem 15 16), .o 18 (.c .eql 17 0)]) (.cond (.tmp 18) .skip (.exit 2))) (.block 3 [0, 4, 5] (.seq (.region [.m 19 0, .m 20 4, .o 21 (.b .quo 19 20), .m 0 21]) (.region [.m 22 5, .o 23 (.c .add 22 1), .m 5 23]))))
def c81L1 : ACode := (.seq (.seq (.region [.m 6 4, .m 7 0, .o 8 (.b .leq 6 7)]) (.cond (.tmp 8) .skip (.exit 0))) (.seq (.block 1 [0, 4] (.seq (.seq (.region [.m 11 0, .m 12 4, .o 13 (.b .rem 11 12), .o 14 (.c .neq 13 0)]) (.cond (.tmp 14) (.exit 1) .skip)) (.seq (.region [.k 5 0]) (.seq (.block 2 [0, 4, 5] (.loop [0, 4, 5] c81L0)) (.seq (.seq (.region [.m 24 0, .o 25 (.c .eql 24 1)]) (.cond (.tmp 25) (.seq (.region [.m 26 4, .m 27 5, .m 2 26, .m 3 27]) .ret) .skip)) (.seq (.region [.k 2 0, .k 3 0]) .ret)))))) (.region [.m 9 4, .o 10 (.c .add 9 1), .m 4 10])))
def c81 : ACode := (.seq (.region [.k 2 0, .k 3 0]) (.seq (.seq (.region [.k 4 2]) (.block 0 [] (.loop [0, 4] c81L1))) (.seq (.region [.k 2 0, .k 3 0]) .ret)))
def F81 : AFun := ⟨c81, 1, 28, [(.tmp 2), (.tmp 3)]⟩
def K81 : Nat → List Nat × List Nat
 | 0 => ([0, 4], [])
 | 1 => ([], [0, 4])
 | 2 => ([0, 4, 5], [0, 4, 5])
 | 3 => ([], [0, 4, 5])
 | _ => ([], [])
theorem F81_ok : kj8 Try.prog K81 Try.f81 = some F81 := by kernel_rfl
/- 84: (*syndrome/field.Field).fill -/
def c84L0 : ACode := (.seq (.region [.o 29 (.b .lss 28 27)]) (.seq (.cond (.tmp 29) .skip (.exit 0)) (.seq (.block 1 [0, 27, 28] (.seq (.region [.m 30 28, .m 3 30]) (.region [.m 31 0, .o 32 (.nilck (.tmp 31)), .o 33 (.f 6 32), .o 34 (.l 33), .m 35 3, .o 36 (.i 1 34 35), .n (.st 1 (.tmp 36) (.const (.int .i64 (-1))))]))) (.region [.o 37 (.c .add 28 1), .m 28 37]))))
def c84L1 : ACode := (.seq (.region [.o 44 (.b .lss 43 42)]) (.seq (.cond (.tmp 44) .skip (.exit 2)) (.seq (.block 3 [0, 4, 42, 43] (.seq (.region [.m 45 43, .m 5 45]) (.seq (.seq (.region [.m 46 4, .o 47 (.c .eql 46 0), .m 48 47, .g 49 (.m 0) 48 false, .g 50 (.nilck (.tmp 49)) 48 false, .g 51 (.f 6 50) 48 false, .g 52 (.l 51) 48 false, .g 53 (.m 4) 48 false, .g 54 (.i 1 52 53) 48 false, .g 55 (.l 54) 48 false, .g 56 (.c .geq 55 0) 48 false, .o 57 (.pick (.tmp 48) (.const (.bool true)) (.tmp 56))]) (.cond (.tmp 57) (.seq (.region [.o 2 (.mv (.const (.bool false)))]) .ret) .skip)) (.seq (.region [.m 58 0, .o 59 (.nilck (.tmp 58)), .o 60 (.f 5 59), .o 61 (.l 60), .m 62 5, .m 63 0, .o 64 (.nilck (.tmp 63)), .o 65 (.f 6 64), .o 66 (.l 65), .m 67 4, .m 68 4, .m 69 5, .o 70 (.i 1 61 62), .n (.st 1 (.tmp 70) (.tmp 68)), .o 71 (.i 1 66 67), .n (.st 1 (.tmp 71) (.tmp 69))]) (.region [.m 72 0, .m 73 4, .o 74 (.q 101 [72, 73]), .m 4 74]))))) (.region [.o 75 (.c .add 43 1), .m 43 75]))))
def c84 : ACode := (.seq (.region [.o 2 (.mv (.const (.bool false)))]) (.seq (.region [.m 6 0, .m 7 0, .o 8 (.nilck (.tmp 7)), .o 9 (.f 0 8), .o 10 (.l 9), .o 11 (.c .sub 10 1), .o 12 (.mks 3 1 8 [(.int .i64 0)] (.tmp 11) (.tmp 11)), .o 13 (.nilck (.tmp 6)), .o 14 (.f 5 13), .n (.st 1 (.tmp 14) (.tmp 12))]) (.seq (.region [.m 15 0, .m 16 0, .o 17 (.nilck (.tmp 16)), .o 18 (.f 0 17), .o 19 (.l 18), .o 20 (.mks 3 1 8 [(.int .i64 0)] (.tmp 19) (.tmp 19)), .o 21 (.nilck (.tmp 15)), .o 22 (.f 6 21), .n (.st 1 (.tmp 22) (.tmp 20))]) (.seq (.seq (.region [.m 23 0, .o 24 (.nilck (.tmp 23)), .o 25 (.f 6 24), .o 26 (.l 25), .o 27 (.n 26), .k 28 0]) (.block 0 [0] (.loop [0, 27, 28] c84L0))) (.seq (.region [.k 4 1]) (.seq (.seq (.region [.m 38 0, .o 39 (.nilck (.tmp 38)), .o 40 (.f 0 39), .o 41 (.l 40), .o 42 (.c .sub 41 1), .k 43 0]) (.block 2 [4] (.loop [0, 4, 42, 43] c84L1))) (.seq (.region [.m 76 4, .o 77 (.c .eql 76 1), .m 2 77]) .ret)))))))
def F84 : AFun := ⟨c84, 1, 78, [(.tmp 2)]⟩
def K84 : Nat → List Nat × List Nat
 | 0 => ([0, 27, 28], [0])
 | 1 => ([], [0, 27, 28])
 | 2 => ([0, 4, 42, 43], [4])
 | 3 => ([], [0, 4, 42, 43])
 | _ => ([], [])
theorem F84_ok : kj8 Try.prog K84 Try.f84 = some F84 := by kernel_rfl
/- 85: syndrome/poly.both -/
def c85 : ACode := (.seq (.region [.o 6 (.mv (.const (.pointer none))), .o 7 (.mv (.const (.slice none 0 0))), .o 8 (.mv (.const (.slice none 0 0))), .k 9 0]) (.seq (.region [.m 13 0, .m 14 1, .o 15 (.q 61 [13, 14]), .m 10 15]) (.seq (.seq (.region [.m 16 10, .o 17 (.c .eql 16 0)]) (.cond (.tmp 17) (.region [.m 18 0, .m 19 2, .o 20 (.q 61 [18, 19]), .m 10 20]) .skip)) (.seq (.seq (.region [.m 21 10, .o 22 (.c .neq 21 0)]) (.cond (.tmp 22) (.seq (.region [.m 23 10, .o 6 (.mv (.const (.pointer none))), .o 7 (.mv (.const (.slice none 0 0))), .o 8 (.mv (.const (.slice none 0 0))), .m 9 23]) .ret) .skip)) (.seq (.region [.m 25 0, .o 26 (.q 36 [25]), .m 24 26, .o 27 (.e 0 24), .o 28 (.e 1 24), .m 11 27, .m 12 28]) (.seq (.region [.m 29 11, .m 30 1, .o 31 (.q 86 [30]), .m 32 2, .o 33 (.q 86 [32]), .m 6 29, .m 7 31, .m 8 33, .k 9 0]) .ret))))))
def F85 : AFun := ⟨c85, 3, 34, [(.tmp 6), (.tmp 7), (.tmp 8), (.tmp 9)]⟩
def K85 : Nat → List Nat × List Nat
 | _ => ([], [])
theorem F85_ok : kj8 Try.prog K85 Try.f85 = some F85 := by kernel_rfl
/- 86: syndrome/poly.trim -/
def c86L0 : ACode := (.seq (.seq (.region [.m 6 3, .o 7 (.c .gtr 6 0), .m 8 7, .g 9 (.m 0) 8 true, .g 10 (.m 3) 8 true, .g 11 (.c .sub 10 1) 8 true, .g 12 (.i 1 9 11) 8 true, .g 13 (.l 12) 8 true, .g 14 (.c .eql 13 0) 8 true, .o 15 (.pick (.tmp 8) (.tmp 14) (.const (.bool false)))]) (.cond (.tmp 15) .skip (.exit 0))) (.block 1 [0, 3] (.region [.m 16 3, .o 17 (.c .sub 16 1), .m 3 17])))
def c86 : ACode := (.seq (.region [.o 2 (.mv (.const (.slice none 0 0)))]) (.seq (.region [.m 4 0, .o 5 (.n 4), .m 3 5]) (.seq (.block 0 [0, 3] (.loop [0, 3] c86L0)) (.seq (.region [.m 18 0, .m 19 3, .o 20 (.sl 1 (.tmp 18) none (some (.tmp 19))), .o 21 (.q 68 [20]), .m 2 21]) .ret))))
def F86 : AFun := ⟨c86, 1, 22, [(.tmp 2)]⟩
def K86 : Nat → List Nat × List Nat
 | 0 => ([0, 3], [0, 3])
 | 1 => ([], [0, 3])
 | _ => ([], [])
theorem F86_ok : kj8 Try.prog K86 Try.f86 = some F86 := by kernel_rfl
/- 87: syndrome/reed.Word$1 -/
def c87 : ACode := (.seq (.region [.o 3 (.mv (.const (.bool false)))]) (.seq (.region [.m 4 0, .o 5 (.c .neq 4 (-1)), .m 6 5, .g 7 (.l 1) 6 true, .g 8 (.m 0) 6 true, .g 9 (.q 53 [7, 8]) 6 true, .g 10 (.un .not (.tmp 9)) 6 true, .o 11 (.pick (.tmp 6) (.tmp 10) (.const (.bool false))), .m 3 11]) .ret))
def F87 : AFun := ⟨c87, 2, 12, [(.tmp 3)]⟩
def K87 : Nat → List Nat × List Nat
 | _ => ([], [])
theorem F87_ok : kj8 Try.prog K87 Try.f87 = some F87 := by kernel_rfl
/- 88: syndrome/poly.divide -/
def c88L0 : ACode := (.seq (.region [.o 60 (.b .lss 59 58)]) (.seq (.cond (.tmp 60) .skip (.exit 2)) (.seq (.block 3 [0, 2, 6, 7, 8, 9, 10, 57, 58, 59] (.seq (.region [.m 61 59, .o 62 (.i 1 57 59), .o 63 (.l 62), .m 11 61, .m 12 63]) (.region [.m 64 7, .m 65 9, .m 66 11, .o 67 (.b .add 65 66), .m 68 0, .m 69 7, .m 70 9, .m 71 11, .o 72 (.b .add 70 71), .o 73 (.i 1 69 72), .o 74 (.l 73), .m 75 0, .m 76 10, .m 77 12, ⟨(some 78), (.call 22 [(.tmp 75), (.tmp 76), (.tmp 77)]), none, true⟩, .o 79 (.q 24 [68, 74, 78]), .o 80 (.i 1 64 67), .n (.st 1 (.tmp 80) (.tmp 79))]))) (.region [.o 81 (.c .add 59 1), .m 59 81]))))
def c88L1 : ACode := (.seq (.seq (.region [.m 38 9, .o 39 (.c .geq 38 0)]) (.cond (.tmp 39) .skip (.exit 0))) (.seq (.block 1 [0, 2, 6, 7, 8, 9] (.seq (.region [.m 42 0, .m 43 7, .m 44 9, .m 45 2, .o 46 (.n 45), .o 47 (.b .add 44 46), .o 48 (.c .sub 47 1), .o 49 (.i 1 43 48), .o 50 (.l 49), .m 51 8, .o 52 (.q 22 [42, 50, 51]), .m 10 52]) (.seq (.region [.m 53 6, .m 54 9, .m 55 10, .o 56 (.i 1 53 54), .n (.st 1 (.tmp 56) (.tmp 55))]) (.seq (.region [.m 57 2, .o 58 (.n 57), .k 59 0]) (.block 2 [0, 2, 6, 7, 8, 9] (.loop [0, 2, 6, 7, 8, 9, 10, 57, 58, 59] c88L0)))))) (.region [.m 40 9, .o 41 (.c .sub 40 1), .m 9 41])))
def c88 : ACode := (.seq (.region [.o 6 (.mv (.const (.slice none 0 0))), .o 7 (.mv (.const (.slice none 0 0)))]) (.seq (.region [.m 13 1, .o 14 (.q 68 [13]), .m 7 14]) (.seq (.seq (.region [.m 15 1, .o 16 (.n 15), .m 17 2, .o 18 (.n 17), .o 19 (.b .geq 16 18)]) (.cond (.tmp 19) (.region [.m 20 1, .o 21 (.n 20), .m 22 2, .o 23 (.n 22), .o 24 (.b .sub 21 23), .o 25 (.c .add 24 1), .o 26 (.mks 3 1 8 [(.int .i64 0)] (.tmp 25) (.tmp 25)), .m 6 26]) .skip)) (.seq (.region [.m 27 0, .m 28 2, .m 29 2, .o 30 (.n 29), .o 31 (.c .sub 30 1), .o 32 (.i 1 28 31), .o 33 (.l 32), .o 34 (.q 25 [27, 33]), .m 8 34]) (.seq (.seq (.region [.m 35 6, .o 36 (.n 35), .o 37 (.c .sub 36 1), .m 9 37]) (.block 0 [6, 7] (.loop [0, 2, 6, 7, 8, 9] c88L1))) (.seq (.region [.m 82 6, .m 83 7, .o 84 (.q 86 [83]), .m 6 82, .m 7 84]) .ret))))))
def F88 : AFun := ⟨c88, 3, 85, [(.tmp 6), (.tmp 7)]⟩
def K88 : Nat → List Nat × List Nat
 | 0 => ([0, 2, 6, 7, 8, 9], [6, 7])
 | 1 => ([], [0, 2, 6, 7, 8, 9])
 | 2 => ([0, 2, 6, 7, 8, 9, 10, 57, 58, 59], [0, 2, 6, 7, 8, 9])
 | 3 => ([], [0, 2, 6, 7, 8, 9, 10, 57, 58, 59])
 | _ => ([], [])
theorem F88_ok : kj8 Try.prog K88 Try.f88 = some F88 := by kernel_rfl
/- 89: syndrome/reed.near -/
def c89L0 : ACode := (.seq (.region [.o 19 (.b .lss 18 17)]) (.seq (.cond (.tmp 19) .skip (.exit 0)) (.seq (.block 1 [0, 1, 2, 3, 4, 12, 17, 18] (.seq (.region [.m 20 18, .m 13 20]) (.seq (.region [.m 22 0, .m 23 3, .m 24 1, .m 25 13, .o 26 (.i 1 24 25), .o 27 (.l 26), .o 28 (.q 64 [22, 23, 27]), .m 21 28, .o 29 (.e 0 21), .o 30 (.e 1 21), .m 14 29, .m 15 30]) (.seq (.region [.m 31 14, .m 32 2, .m 33 13, .o 34 (.i 1 32 33), .o 35 (.l 34), .o 36 (.b .neq 31 35)]) (.cond (.tmp 36) (.region [.m 37 12, .o 38 (.c .add 37 1), .m 12 38]) .skip))))) (.region [.o 39 (.c .add 18 1), .m 18 39]))))
def c89 : ACode := (.seq (.region [.k 10 0, .o 11 (.mv (.const (.bool false)))]) (.seq (.region [.k 12 0]) (.seq (.seq (.region [.m 16 1, .o 17 (.n 16), .k 18 0]) (.block 0 [1, 4, 12] (.loop [0, 1, 2, 3, 4, 12, 17, 18] c89L0))) (.seq (.region [.m 40 12, .m 41 12, .o 42 (.bin .mul (.const (.int .i64 2)) (.tmp 41)), .m 43 1, .o 44 (.n 43), .m 45 4, .o 46 (.b .sub 44 45), .o 47 (.b .leq 42 46), .m 10 40, .m 11 47]) .ret))))
def F89 : AFun := ⟨c89, 5, 48, [(.tmp 10), (.tmp 11)]⟩
def K89 : Nat → List Nat × List Nat
 | 0 => ([0, 1, 2, 3, 4, 12, 17, 18], [1, 4, 12])
 | 1 => ([], [0, 1, 2, 3, 4, 12, 17, 18])
 | _ => ([], [])
theorem F89_ok : kj8 Try.prog K89 Try.f89 = some F89 := by kernel_rfl
/- 90: syndrome/reed.filled -/
def c90 : ACode := (.seq (.region [.o 4 (.mv (.const (.slice none 0 0)))]) (.seq (.region [.m 6 1, .o 7 (.mks 3 1 8 [(.int .i64 0)] (.tmp 6) (.tmp 6)), .m 5 7]) (.seq (.region [.m 8 5, .m 9 0, .o 10 (.cpy 1 (.tmp 8) (.tmp 9))]) (.seq (.region [.m 11 5, .m 4 11]) .ret))))
def F90 : AFun := ⟨c90, 2, 12, [(.tmp 4)]⟩
def K90 : Nat → List Nat × List Nat
 | _ => ([], [])
theorem F90_ok : kj8 Try.prog K90 Try.f90 = some F90 := by kernel_rfl
/- 91: syndrome/poly.times -/
def c91L0 : ACode := (.seq (.region [.o 37 (.b .lss 36 35)]) (.seq (.cond (.tmp 37) .skip (.exit 2)) (.seq (.block 3 [0, 2, 7, 8, 9, 27, 28, 29, 34, 35, 36] (.seq (.region [.m 38 36, .o 39 (.i 1 34 36), .o 40 (.l 39), .m 10 38, .m 11 40]) (.region [.m 41 7, .m 42 8, .m 43 10, .o 44 (.b .add 42 43), .m 45 0, .m 46 7, .m 47 8, .m 48 10, .o 49 (.b .add 47 48), .o 50 (.i 1 46 49), .o 51 (.l 50), .m 52 0, .m 53 9, .m 54 11, ⟨(some 55), (.call 22 [(.tmp 52), (.tmp 53), (.tmp 54)]), none, true⟩, .o 56 (.q 21 [45, 51, 55]), .o 57 (.i 1 41 44), .n (.st 1 (.tmp 57) (.tmp 56))]))) (.region [.o 58 (.c .add 36 1), .m 36 58]))))
def c91L1 : ACode := (.seq (.region [.o 30 (.b .lss 29 28)]) (.seq (.cond (.tmp 30) .skip (.exit 0)) (.seq (.block 1 [0, 2, 7, 27, 28, 29] (.seq (.region [.m 31 29, .o 32 (.i 1 27 29), .o 33 (.l 32), .m 8 31, .m 9 33]) (.seq (.region [.m 34 2, .o 35 (.n 34), .k 36 0]) (.block 2 [0, 2, 7, 27, 28, 29] (.loop [0, 2, 7, 8, 9, 27, 28, 29, 34, 35, 36] c91L0))))) (.region [.o 59 (.c .add 29 1), .m 29 59]))))
def c91 : ACode := (.seq (.region [.o 6 (.mv (.const (.slice none 0 0)))]) (.seq (.seq (.region [.m 12 1, .o 13 (.n 12), .o 14 (.c .eql 13 0), .m 15 14, .g 16 (.m 2) 15 false, .g 17 (.n 16) 15 false, .g 18 (.c .eql 17 0) 15 false, .o 19 (.pick (.tmp 15) (.const (.bool true)) (.tmp 18))]) (.cond (.tmp 19) (.seq (.region [.o 6 (.mv (.const (.slice none 0 0)))]) .ret) .skip)) (.seq (.region [.m 20 1, .o 21 (.n 20), .m 22 2, .o 23 (.n 22), .o 24 (.b .add 21 23), .o 25 (.c .sub 24 1), .o 26 (.mks 3 1 8 [(.int .i64 0)] (.tmp 25) (.tmp 25)), .m 7 26]) (.seq (.seq (.region [.m 27 1, .o 28 (.n 27), .k 29 0]) (.block 0 [7] (.loop [0, 2, 7, 27, 28, 29] c91L1))) (.seq (.region [.m 60 7, .o 61 (.q 86 [60]), .m 6 61]) .ret)))))
def F91 : AFun := ⟨c91, 3, 62, [(.tmp 6)]⟩
def K91 : Nat → List Nat × List Nat
 | 0 => ([0, 2, 7, 27, 28, 29], [7])
 | 1 => ([], [0, 2, 7, 27, 28, 29])
 | 2 => ([0, 2, 7, 8, 9, 27, 28, 29, 34, 35, 36], [0, 2, 7, 27, 28, 29])
 | 3 => ([], [0, 2, 7, 8, 9, 27, 28, 29, 34, 35, 36])
 | _ => ([], [])
theorem F91_ok : kj8 Try.prog K91 Try.f91 = some F91 := by kernel_rfl
/- 92: slices.IndexFunc[[]int,int] -/
def c92L0 : ACode := (.seq (.region [.o 9 (.b .lss 8 7)]) (.seq (.cond (.tmp 9) .skip (.exit 0)) (.seq (.block 1 [0, 1, 7, 8] (.seq (.region [.m 10 8, .m 5 10]) (.seq (.region [.m 11 1, .m 12 0, .m 13 5, .o 14 (.i 1 12 13), .o 15 (.l 14), .o 16 (.calld (.tmp 11) [(.tmp 15)])]) (.cond (.tmp 16) (.seq (.region [.m 17 5, .m 4 17]) .ret) .skip)))) (.region [.o 18 (.c .add 8 1), .m 8 18]))))
def c92 : ACode := (.seq (.region [.k 4 0]) (.seq (.seq (.region [.m 6 0, .o 7 (.n 6), .k 8 0]) (.block 0 [] (.loop [0, 1, 7, 8] c92L0))) (.seq (.region [.k 4 (-1)]) .ret)))
def F92 : AFun := ⟨c92, 2, 19, [(.tmp 4)]⟩
def K92 : Nat → List Nat × List Nat
 | 0 => ([0, 1, 7, 8], [])
 | 1 => ([], [0, 1, 7, 8])
 | _ => ([], [])
theorem F92_ok : kj8 Try.prog K92 Try.f92 = some F92 := by kernel_rfl
/- 93: syndrome/matrix.Check$1 -/
def c93 : ACode := (.seq (.region [.o 3 (.mv (.const (.bool false)))]) (.seq (.region [.o 4 (.l 1), .m 5 0, .o 6 (.q 53 [4, 5]), .o 7 (.un .not (.tmp 6)), .m 3 7]) .ret))
def F93 : AFun := ⟨c93, 2, 8, [(.tmp 3)]⟩
def K93 : Nat → List Nat × List Nat
 | _ => ([], [])
theorem F93_ok : kj8 Try.prog K93 Try.f93 = some F93 := by kernel_rfl
/- 94: syndrome/matrix.solve$1 -/
def c94 : ACode := (.seq (.region [.o 3 (.mv (.const (.bool false)))]) (.seq (.region [.m 4 0, .o 5 (.l 1), .o 6 (.i 1 4 5), .o 7 (.l 6), .o 8 (.c .neq 7 0), .m 3 8]) .ret))
def F94 : AFun := ⟨c94, 2, 9, [(.tmp 3)]⟩
def K94 : Nat → List Nat × List Nat
 | _ => ([], [])
theorem F94_ok : kj8 Try.prog K94 Try.f94 = some F94 := by kernel_rfl
/- 95: syndrome/matrix.scale -/
def c95L0 : ACode := (.seq (.region [.o 10 (.b .lss 9 8)]) (.seq (.cond (.tmp 10) .skip (.exit 0)) (.seq (.block 1 [0, 1, 2, 8, 9] (.seq (.region [.m 11 9, .m 6 11]) (.region [.m 12 1, .m 13 6, .m 14 0, .m 15 1, .m 16 6, .o 17 (.i 1 15 16), .o 18 (.l 17), .m 19 2, .o 20 (.q 22 [14, 18, 19]), .o 21 (.i 1 12 13), .n (.st 1 (.tmp 21) (.tmp 20))]))) (.region [.o 22 (.c .add 9 1), .m 9 22]))))
def c95 : ACode := (.seq (.region [.m 7 1, .o 8 (.n 7), .k 9 0]) (.block 0 [] (.loop [0, 1, 2, 8, 9] c95L0)))
def F95 : AFun := ⟨c95, 3, 23, []⟩
def K95 : Nat → List Nat × List Nat
 | 0 => ([0, 1, 2, 8, 9], [])
 | 1 => ([], [0, 1, 2, 8, 9])
 | _ => ([], [])
theorem F95_ok : kj8 Try.prog K95 Try.f95 = some F95 := by kernel_rfl
/- 96: syndrome/matrix.less -/
def c96L0 : ACode := (.seq (.region [.o 12 (.b .lss 11 10)]) (.seq (.cond (.tmp 12) .skip (.exit 0)) (.seq (.block 1 [0, 1, 2, 3, 10, 11] (.seq (.region [.m 13 11, .m 8 13]) (.region [.m 14 1, .m 15 8, .m 16 0, .m 17 1, .m 18 8, .o 19 (.i 1 17 18), .o 20 (.l 19), .m 21 0, .m 22 3, .m 23 2, .m 24 8, .o 25 (.i 1 23 24), .o 26 (.l 25), ⟨(some 27), (.call 22 [(.tmp 21), (.tmp 22), (.tmp 26)]), none, true⟩, .o 28 (.q 24 [16, 20, 27]), .o 29 (.i 1 14 15), .n (.st 1 (.tmp 29) (.tmp 28))]))) (.region [.o 30 (.c .add 11 1), .m 11 30]))))
def c96 : ACode := (.seq (.region [.m 9 1, .o 10 (.n 9), .k 11 0]) (.block 0 [] (.loop [0, 1, 2, 3, 10, 11] c96L0)))
def F96 : AFun := ⟨c96, 4, 31, []⟩
def K96 : Nat → List Nat × List Nat
 | 0 => ([0, 1, 2, 3, 10, 11], [])
 | 1 => ([], [0, 1, 2, 3, 10, 11])
 | _ => ([], [])
theorem F96_ok : kj8 Try.prog K96 Try.f96 = some F96 := by kernel_rfl
/- 101: (*syndrome/field.Field).turn -/
def c101L0 : ACode := (.seq (.region [.o 57 (.b .lss 56 55)]) (.seq (.cond (.tmp 57) .skip (.exit 0)) (.seq (.block 1 [0, 5, 6, 55, 56] (.seq (.region [.m 58 56, .m 7 58]) (.region [.m 59 5, .m 60 7, .m 61 5, .m 62 7, .o 63 (.i 1 61 62), .o 64 (.l 63), .m 65 6, .m 66 0, .o 67 (.nilck (.tmp 66)), .o 68 (.f 1 67), .o 69 (.l 68), .m 70 0, .o 71 (.nilck (.tmp 70)), .o 72 (.f 3 71), .o 73 (.l 72), .m 74 7, .o 75 (.i 1 73 74), .o 76 (.l 75), .o 77 (.b .sub 69 76), .o 78 (.b .mul 65 77), .o 79 (.b .add 64 78), .m 80 0, .o 81 (.nilck (.tmp 80)), .o 82 (.f 1 81), .o 83 (.l 82), .o 84 (.b .rem 79 83), .o 85 (.i 1 59 60), .n (.st 1 (.tmp 85) (.tmp 84))]))) (.region [.o 86 (.c .add 56 1), .m 56 86]))))
def c101 : ACode := (.seq (.region [.k 4 0]) (.seq (.seq (.region [.m 8 0, .o 9 (.nilck (.tmp 8)), .o 10 (.f 2 9), .o 11 (.l 10), .o 12 (.c .eql 11 1)]) (.cond (.tmp 12) (.seq (.region [.m 13 1, .m 14 0, .o 15 (.nilck (.tmp 14)), .o 16 (.f 4 15), .o 17 (.l 16), .o 18 (.b .mul 13 17), .m 19 0, .o 20 (.nilck (.tmp 19)), .o 21 (.f 1 20), .o 22 (.l 21), .o 23 (.b .rem 18 22), .m 4 23]) .ret) .skip)) (.seq (.region [.m 24 1, .m 25 0, .o 26 (.nilck (.tmp 25)), .o 27 (.f 1 26), .o 28 (.l 27), .m 29 0, .o 30 (.nilck (.tmp 29)), .o 31 (.f 2 30), .o 32 (.l 31), .o 33 (.q 57 [24, 28, 32]), .m 5 33]) (.seq (.region [.m 34 5, .m 35 0, .o 36 (.nilck (.tmp 35)), .o 37 (.f 2 36), .o 38 (.l 37), .o 39 (.c .sub 38 1), .o 40 (.i 1 34 39), .o 41 (.l 40), .m 6 41]) (.seq (.region [.m 42 5, .o 43 (.sl 1 (.tmp 42) (some (.const (.int .i64 1))) none), .m 44 5, .m 45 0, .o 46 (.nilck (.tmp 45)), .o 47 (.f 2 46), .o 48 (.l 47), .o 49 (.c .sub 48 1), .o 50 (.sl 1 (.tmp 44) none (some (.tmp 49))), .o 51 (.cpy 1 (.tmp 43) (.tmp 50))]) (.seq (.region [.m 52 5, .o 53 (.iaddr 1 (.tmp 52) (.const (.int .i64 0))), .n (.st 1 (.tmp 53) (.const (.int .i64 0)))]) (.seq (.seq (.region [.m 54 5, .o 55 (.n 54), .k 56 0]) (.block 0 [0, 5] (.loop [0, 5, 6, 55, 56] c101L0))) (.seq (.region [.m 87 5, .m 88 0, .o 89 (.nilck (.tmp 88)), .o 90 (.f 1 89), .o 91 (.l 90), .o 92 (.q 106 [87, 91]), .m 4 92]) .ret))))))))
def F101 : AFun := ⟨c101, 2, 93, [(.tmp 4)]⟩
def K101 : Nat → List Nat × List Nat
 | 0 => ([0, 5, 6, 55, 56], [0, 5])
 | 1 => ([], [0, 5, 6, 55, 56])
 | _ => ([], [])
theorem F101_ok : kj8 Try.prog K101 Try.f101 = some F101 := by kernel_rfl
/- 106: syndrome/field.number -/
def c106L0 : ACode := (.seq (.seq (.region [.m 10 6, .o 11 (.c .geq 10 0)]) (.cond (.tmp 11) .skip (.exit 0))) (.seq (.block 1 [0, 1, 5, 6] (.region [.m 14 5, .m 15 1, .o 16 (.b .mul 14 15), .m 17 0, .m 18 6, .o 19 (.i 1 17 18), .o 20 (.l 19), .o 21 (.b .add 16 20), .m 5 21])) (.region [.m 12 6, .o 13 (.c .sub 12 1), .m 6 13])))
def c106 : ACode := (.seq (.region [.k 4 0]) (.seq (.region [.k 5 0]) (.seq (.seq (.region [.m 7 0, .o 8 (.n 7), .o 9 (.c .sub 8 1), .m 6 9]) (.block 0 [5] (.loop [0, 1, 5, 6] c106L0))) (.seq (.region [.m 22 5, .m 4 22]) .ret))))
def F106 : AFun := ⟨c106, 2, 23, [(.tmp 4)]⟩
def K106 : Nat → List Nat × List Nat
 | 0 => ([0, 1, 5, 6], [5])
 | 1 => ([], [0, 1, 5, 6])
 | _ => ([], [])
theorem F106_ok : kj8 Try.prog K106 Try.f106 = some F106 := by kernel_rfl
end Go.Proofs.Ytghfdpdiibiigaa
