/-
  Functions of this seat as the small machine's code, written by a program of my own (gen.py); each is checked to be what the model's function is turned into. No condition.
-/
import Derived.Test.YtmhbpecdpiapgaaGreatK1
import Derived.Test.YtmhbpecdpiapgaaGreatProg
set_option linter.unusedVariables false
set_option linter.unusedSimpArgs false
set_option linter.unusedSectionVars false
set_option maxRecDepth 100000
namespace Go.Proofs.YtmhbpecdpiapgaaGreat
open Go.Am
/- 107: syndrome/matrix.Check$1 -/
def c107:ACode:=(.seq (.region [.o 3 (.mv (.const (.bool false)))]) (.seq (.region [.o 4 (.l 1), .m 5 0, .o 6 (.q 84 [4,5]), .o 7 (.un .not (.tmp 6)), .m 3 7]) .ret))
def F107:AFun:=⟨c107,2,8,[(.tmp 3)]⟩
def K107:Nat→List Nat×List Nat
 |_=>([],[])
theorem F107_ok:kj8 Tryz.prog K107 Tryz.f107=some F107:=by kernel_rfl
/- 117: slices.Clone[[]int,int] -/
def c117:ACode:=(.seq (.region [.o 2 (.mv (.const (.slice none 0 0)))]) (.seq (.seq (.region [.m 3 0, .o 4 (.eqn false 0 (.tmp 3))]) (.cond (.tmp 4) (.seq (.region [.o 2 (.mv (.const (.slice none 0 0)))]) .ret) .skip)) (.seq (.region [.o 5 (.mkSl 3 1 0 []), .m 6 0, .o 7 (.app 3 1 8 (.tmp 5) (.tmp 6)), .m 2 7]) .ret)))
def F117:AFun:=⟨c117,1,8,[(.tmp 2)]⟩
def K117:Nat→List Nat×List Nat
 |_=>([],[])
theorem F117_ok:kj8 Tryz.prog K117 Tryz.f117=some F117:=by kernel_rfl
/- 119: (*syndrome/field.Field).Sub -/
def c119:ACode:=(.seq (.region [.k 6 0]) (.seq (.region [.m 7 0, .m 8 1, .m 9 0, .m 10 2, .o 11 (.q 106 [9,10]), .o 12 (.q 86 [7,8,11]), .m 6 12]) .ret))
def F119:AFun:=⟨c119,3,13,[(.tmp 6)]⟩
def K119:Nat→List Nat×List Nat
 |_=>([],[])
theorem F119_ok:kj8 Tryz.prog K119 Tryz.f119=some F119:=by kernel_rfl
/- 122: syndrome/field.prime -/
def c122L0:ACode:=(.seq (.seq (.region [.m 4 0, .m 5 2, .o 6 (.b .rem 4 5), .o 7 (.c .neq 6 0)]) (.cond (.tmp 7) .skip (.exit 0))) (.block 1 [0,2,3] (.region [.m 8 2, .o 9 (.c .add 8 1), .m 2 9])))
def c122L1:ACode:=(.seq (.seq (.region [.m 10 0, .m 11 2, .o 12 (.b .rem 10 11), .o 13 (.c .eql 12 0)]) (.cond (.tmp 13) .skip (.exit 2))) (.seq (.block 3 [0,2,3] (.region [.m 17 3, .o 18 (.c .add 17 1), .m 3 18])) (.region [.m 14 0, .m 15 2, .o 16 (.b .quo 14 15), .m 0 16])))
def c122:ACode:=(.seq (.region [.k 2 0, .k 3 0]) (.seq (.region [.k 2 2]) (.seq (.block 0 [0,2,3] (.loop [0,2,3] c122L0)) (.seq (.block 2 [0,2,3] (.loop [0,2,3] c122L1)) (.seq (.seq (.region [.m 19 0, .o 20 (.c .neq 19 1)]) (.cond (.tmp 20) (.seq (.region [.k 2 0, .k 3 0]) .ret) .skip)) (.seq (.region [.m 21 2, .m 22 3, .m 2 21, .m 3 22]) .ret))))))
def F122:AFun:=⟨c122,1,23,[(.tmp 2),(.tmp 3)]⟩
def K122:Nat→List Nat×List Nat
 |0=>([0,2,3],[0,2,3])
 |1=>([],[0,2,3])
 |2=>([0,2,3],[0,2,3])
 |3=>([],[0,2,3])
 |_=>([],[])
theorem F122_ok:kj8 Tryz.prog K122 Tryz.f122=some F122:=by kernel_rfl
/- 123: (*syndrome/field.Field).fill -/
def c123L0:ACode:=(.seq (.region [.o 29 (.b .lss 28 27)]) (.seq (.cond (.tmp 29) .skip (.exit 0)) (.seq (.block 1 [0,27,28] (.seq (.region [.m 30 28, .m 3 30]) (.region [.m 31 0, .o 32 (.nilck (.tmp 31)), .o 33 (.f 6 32), .o 34 (.l 33), .m 35 3, .o 36 (.i 1 34 35), .n (.st 1 (.tmp 36) (.const (.int .i64 (-1))))]))) (.region [.o 37 (.c .add 28 1), .m 28 37]))))
def c123L1:ACode:=(.seq (.region [.o 44 (.b .lss 43 42)]) (.seq (.cond (.tmp 44) .skip (.exit 2)) (.seq (.block 3 [0,4,42,43] (.seq (.region [.m 45 43, .m 5 45]) (.seq (.seq (.region [.m 46 4, .o 47 (.c .eql 46 0), .m 48 47, .g 49 (.m 0) 48 false, .g 50 (.nilck (.tmp 49)) 48 false, .g 51 (.f 6 50) 48 false, .g 52 (.l 51) 48 false, .g 53 (.m 4) 48 false, .g 54 (.i 1 52 53) 48 false, .g 55 (.l 54) 48 false, .g 56 (.c .geq 55 0) 48 false, .o 57 (.pick (.tmp 48) (.const (.bool true)) (.tmp 56))]) (.cond (.tmp 57) (.seq (.region [.o 2 (.mv (.const (.bool false)))]) .ret) .skip)) (.seq (.region [.m 58 0, .o 59 (.nilck (.tmp 58)), .o 60 (.f 5 59), .o 61 (.l 60), .m 62 5, .m 63 0, .o 64 (.nilck (.tmp 63)), .o 65 (.f 6 64), .o 66 (.l 65), .m 67 4, .m 68 4, .m 69 5, .o 70 (.i 1 61 62), .n (.st 1 (.tmp 70) (.tmp 68)), .o 71 (.i 1 66 67), .n (.st 1 (.tmp 71) (.tmp 69))]) (.region [.m 72 0, .m 73 4, .o 74 (.q 136 [72,73]), .m 4 74]))))) (.region [.o 75 (.c .add 43 1), .m 43 75]))))
def c123:ACode:=(.seq (.region [.o 2 (.mv (.const (.bool false)))]) (.seq (.region [.m 6 0, .m 7 0, .o 8 (.nilck (.tmp 7)), .o 9 (.f 0 8), .o 10 (.l 9), .o 11 (.c .sub 10 1), .o 12 (.mks 3 1 8 [(.int .i64 0)] (.tmp 11) (.tmp 11)), .o 13 (.nilck (.tmp 6)), .o 14 (.f 5 13), .n (.st 1 (.tmp 14) (.tmp 12))]) (.seq (.region [.m 15 0, .m 16 0, .o 17 (.nilck (.tmp 16)), .o 18 (.f 0 17), .o 19 (.l 18), .o 20 (.mks 3 1 8 [(.int .i64 0)] (.tmp 19) (.tmp 19)), .o 21 (.nilck (.tmp 15)), .o 22 (.f 6 21), .n (.st 1 (.tmp 22) (.tmp 20))]) (.seq (.seq (.region [.m 23 0, .o 24 (.nilck (.tmp 23)), .o 25 (.f 6 24), .o 26 (.l 25), .o 27 (.n 26), .k 28 0]) (.block 0 [0] (.loop [0,27,28] c123L0))) (.seq (.region [.k 4 1]) (.seq (.seq (.region [.m 38 0, .o 39 (.nilck (.tmp 38)), .o 40 (.f 0 39), .o 41 (.l 40), .o 42 (.c .sub 41 1), .k 43 0]) (.block 2 [4] (.loop [0,4,42,43] c123L1))) (.seq (.region [.m 76 4, .o 77 (.c .eql 76 1), .m 2 77]) .ret)))))))
def F123:AFun:=⟨c123,1,78,[(.tmp 2)]⟩
def K123:Nat→List Nat×List Nat
 |0=>([0,27,28],[0])
 |1=>([],[0,27,28])
 |2=>([0,4,42,43],[4])
 |3=>([],[0,4,42,43])
 |_=>([],[])
theorem F123_ok:kj8 Tryz.prog K123 Tryz.f123=some F123:=by kernel_rfl
/- 124: syndrome/field.digits -/
def c124L0:ACode:=(.seq (.region [.o 14 (.b .lss 13 12)]) (.seq (.cond (.tmp 14) .skip (.exit 0)) (.seq (.block 1 [0,1,7,12,13] (.seq (.region [.m 15 13, .m 8 15]) (.seq (.region [.m 16 7, .m 17 8, .m 18 0, .m 19 1, .o 20 (.b .rem 18 19), .o 21 (.i 1 16 17), .n (.st 1 (.tmp 21) (.tmp 20))]) (.region [.m 22 0, .m 23 1, .o 24 (.b .quo 22 23), .m 0 24])))) (.region [.o 25 (.c .add 13 1), .m 13 25]))))
def c124:ACode:=(.seq (.region [.o 6 (.mv (.const (.slice none 0 0)))]) (.seq (.region [.m 9 2, .o 10 (.mks 3 1 8 [(.int .i64 0)] (.tmp 9) (.tmp 9)), .m 7 10]) (.seq (.seq (.region [.m 11 7, .o 12 (.n 11), .k 13 0]) (.block 0 [7] (.loop [0,1,7,12,13] c124L0))) (.seq (.region [.m 26 7, .m 6 26]) .ret))))
def F124:AFun:=⟨c124,3,27,[(.tmp 6)]⟩
def K124:Nat→List Nat×List Nat
 |0=>([0,1,7,12,13],[7])
 |1=>([],[0,1,7,12,13])
 |_=>([],[])
theorem F124_ok:kj8 Tryz.prog K124 Tryz.f124=some F124:=by kernel_rfl
/- 125: slices.IndexFunc[[]int,int] -/
def c125L0:ACode:=(.seq (.region [.o 9 (.b .lss 8 7)]) (.seq (.cond (.tmp 9) .skip (.exit 0)) (.seq (.block 1 [0,1,7,8] (.seq (.region [.m 10 8, .m 5 10]) (.seq (.region [.m 11 1, .m 12 0, .m 13 5, .o 14 (.i 1 12 13), .o 15 (.l 14), .o 16 (.calld (.tmp 11) [(.tmp 15)])]) (.cond (.tmp 16) (.seq (.region [.m 17 5, .m 4 17]) .ret) .skip)))) (.region [.o 18 (.c .add 8 1), .m 8 18]))))
def c125:ACode:=(.seq (.region [.k 4 0]) (.seq (.seq (.region [.m 6 0, .o 7 (.n 6), .k 8 0]) (.block 0 [] (.loop [0,1,7,8] c125L0))) (.seq (.region [.k 4 (-1)]) .ret)))
def F125:AFun:=⟨c125,2,19,[(.tmp 4)]⟩
def K125:Nat→List Nat×List Nat
 |0=>([0,1,7,8],[])
 |1=>([],[0,1,7,8])
 |_=>([],[])
theorem F125_ok:kj8 Tryz.prog K125 Tryz.f125=some F125:=by kernel_rfl
/- 126: syndrome/store.wide$1 -/
def c126:ACode:=(.seq (.region [.o 3 (.mv (.const (.bool false)))]) (.seq (.region [.m 4 0, .o 5 (.l 1), .o 6 (.i 1 4 5), .o 7 (.l 6), .o 8 (.c .neq 7 0), .m 3 8]) .ret))
def F126:AFun:=⟨c126,2,9,[(.tmp 3)]⟩
def K126:Nat→List Nat×List Nat
 |_=>([],[])
theorem F126_ok:kj8 Tryz.prog K126 Tryz.f126=some F126:=by kernel_rfl
/- 127: syndrome/store.wide$2 -/
def c127:ACode:=(.seq (.region [.o 2 (.mv (.const (.bool false)))]) (.seq (.region [.m 3 0, .o 4 (.c .neq 3 0), .m 2 4]) .ret))
def F127:AFun:=⟨c127,1,5,[(.tmp 2)]⟩
def K127:Nat→List Nat×List Nat
 |_=>([],[])
theorem F127_ok:kj8 Tryz.prog K127 Tryz.f127=some F127:=by kernel_rfl
/- 128: slices.Index[[]int,int] -/
def c128L0:ACode:=(.seq (.region [.o 9 (.b .lss 8 7)]) (.seq (.cond (.tmp 9) .skip (.exit 0)) (.seq (.block 1 [0,1,7,8] (.seq (.region [.m 10 8, .m 5 10]) (.seq (.region [.m 11 1, .m 12 0, .m 13 5, .o 14 (.i 1 12 13), .o 15 (.l 14), .o 16 (.b .eql 11 15)]) (.cond (.tmp 16) (.seq (.region [.m 17 5, .m 4 17]) .ret) .skip)))) (.region [.o 18 (.c .add 8 1), .m 8 18]))))
def c128:ACode:=(.seq (.region [.k 4 0]) (.seq (.seq (.region [.m 6 0, .o 7 (.n 6), .k 8 0]) (.block 0 [] (.loop [0,1,7,8] c128L0))) (.seq (.region [.k 4 (-1)]) .ret)))
def F128:AFun:=⟨c128,2,19,[(.tmp 4)]⟩
def K128:Nat→List Nat×List Nat
 |0=>([0,1,7,8],[])
 |1=>([],[0,1,7,8])
 |_=>([],[])
theorem F128_ok:kj8 Tryz.prog K128 Tryz.f128=some F128:=by kernel_rfl
/- 129: syndrome/matrix.Solve$1 -/
def c129:ACode:=(.seq (.region [.o 3 (.mv (.const (.bool false)))]) (.seq (.region [.o 4 (.l 1), .m 5 0, .o 6 (.q 84 [4,5]), .o 7 (.un .not (.tmp 6)), .m 3 7]) .ret))
def F129:AFun:=⟨c129,2,8,[(.tmp 3)]⟩
def K129:Nat→List Nat×List Nat
 |_=>([],[])
theorem F129_ok:kj8 Tryz.prog K129 Tryz.f129=some F129:=by kernel_rfl
/- 130: syndrome/matrix.solve -/
def c130L0:ACode:=(.seq (.region [.o 38 (.b .lss 37 36)]) (.seq (.cond (.tmp 38) .skip (.exit 0)) (.seq (.block 1 [1,2,8,10,11,36,37] (.seq (.region [.m 39 37, .m 12 39]) (.region [.m 40 11, .m 41 12, .m 42 1, .m 43 12, .o 44 (.i 1 42 43), .o 45 (.l 44),⟨(some 46),(.call 117 [(.tmp 45)]),none,true⟩, .m 47 2, .m 48 12, .o 49 (.i 1 47 48),⟨(some 50),(.ld false 1 (.tmp 49)),none,true⟩, .o 51 (.mkSl 3 1 1 [(.tmp 50)]), .o 52 (.app 3 1 8 (.tmp 46) (.tmp 51)), .o 53 (.i 1 40 41), .n (.st 1 (.tmp 53) (.tmp 52))]))) (.region [.o 54 (.c .add 37 1), .m 37 54]))))
def c130L1:ACode:=(.seq (.region [.o 104 (.b .lss 103 102)]) (.seq (.cond (.tmp 104) .skip (.exit 4)) (.seq (.block 5 [8,10,11,13,14,15,55,56,102,103] (.seq (.region [.m 105 103, .m 17 105]) (.seq (.region [.m 106 17, .m 107 15, .o 108 (.b .neq 106 107)]) (.cond (.tmp 108) (.region [.m 109 8, .m 110 11, .m 111 17, .o 112 (.i 1 110 111), .o 113 (.l 112), .m 114 11, .m 115 15, .o 116 (.i 1 114 115), .o 117 (.l 116), .m 118 11, .m 119 17, .o 120 (.i 1 118 119), .o 121 (.l 120), .o 122 (.l 14), .o 123 (.i 1 121 122), .o 124 (.l 123), .o 125 (.q 105 [109,113,117,124])]) .skip)))) (.region [.o 126 (.c .add 103 1), .m 103 126]))))
def c130L2:ACode:=(.seq (.region [.o 57 (.b .lss 56 55)]) (.seq (.cond (.tmp 57) .skip (.exit 2)) (.seq (.block 3 [8,10,11,13,55,56] (.seq (.region [.m 58 56, .o 14 (.alloc 3 [(.int .i64 0)]), .n (.st 1 (.tmp 14) (.tmp 58))]) (.seq (.region [.m 59 13, .o 60 (.n 59), .m 15 60]) (.seq (.region [.m 61 11, .m 62 15, .o 63 (.sl 1 (.tmp 61) (some (.tmp 62)) none), .o 64 (.mkf 137 [(.tmp 14)]), .o 65 (.q 101 [63,64]), .m 16 65]) (.seq (.seq (.region [.m 66 16, .o 67 (.c .lss 66 0)]) (.cond (.tmp 67) (.exit 3) .skip)) (.seq (.region [.m 68 11, .m 69 15, .m 70 11, .m 71 15, .m 72 16, .o 73 (.b .add 71 72), .m 74 11, .m 75 15, .m 76 16, .o 77 (.b .add 75 76), .o 78 (.i 1 74 77), .o 79 (.l 78), .m 80 11, .m 81 15, .o 82 (.i 1 80 81), .o 83 (.l 82), .o 84 (.i 1 68 69), .n (.st 1 (.tmp 84) (.tmp 79)), .o 85 (.i 1 70 73), .n (.st 1 (.tmp 85) (.tmp 83))]) (.seq (.region [.m 86 8, .m 87 11, .m 88 15, .o 89 (.i 1 87 88), .o 90 (.l 89), .m 91 8, .m 92 11, .m 93 15, .o 94 (.i 1 92 93), .o 95 (.l 94), .o 96 (.l 14), .o 97 (.i 1 95 96), .o 98 (.l 97),⟨(some 99),(.call 104 [(.tmp 91),(.tmp 98)]),none,true⟩, .o 100 (.q 103 [86,90,99])]) (.seq (.seq (.region [.m 101 11, .o 102 (.n 101), .k 103 0]) (.block 4 [8,10,11,13,14,55,56] (.loop [8,10,11,13,14,15,55,56,102,103] c130L1))) (.region [.m 127 13, .o 128 (.l 14), .o 129 (.mkSl 3 1 1 [(.tmp 128)]), .o 130 (.app 3 1 8 (.tmp 127) (.tmp 129)), .m 13 130]))))))))) (.region [.o 131 (.c .add 56 1), .m 56 131]))))
def c130L3:ACode:=(.seq (.region [.o 138 (.b .lss 137 136)]) (.seq (.cond (.tmp 138) .skip (.exit 6)) (.seq (.block 7 [10,11,13,135,136,137] (.seq (.region [.o 139 (.i 1 135 137), .o 140 (.l 139), .m 19 140]) (.seq (.region [.m 141 19, .m 142 10, .o 143 (.i 1 141 142), .o 144 (.l 143), .o 145 (.c .neq 144 0)]) (.cond (.tmp 145) (.seq (.region [.o 6 (.mv (.const (.slice none 0 0))), .o 7 (.mv (.const (.bool false)))]) .ret) .skip)))) (.region [.o 146 (.c .add 137 1), .m 137 146]))))
def c130L4:ACode:=(.seq (.region [.o 152 (.b .lss 151 150)]) (.seq (.cond (.tmp 152) .skip (.exit 8)) (.seq (.block 9 [10,11,20,149,150,151] (.seq (.region [.m 153 151, .o 154 (.i 1 149 151), .o 155 (.l 154), .m 21 153, .m 22 155]) (.region [.m 156 20, .m 157 22, .m 158 11, .m 159 21, .o 160 (.i 1 158 159), .o 161 (.l 160), .m 162 10, .o 163 (.i 1 161 162), .o 164 (.l 163), .o 165 (.i 1 156 157), .n (.st 1 (.tmp 165) (.tmp 164))]))) (.region [.o 166 (.c .add 151 1), .m 151 166]))))
def c130:ACode:=(.seq (.region [.o 6 (.mv (.const (.slice none 0 0))), .o 7 (.mv (.const (.bool false)))]) (.seq (.region [.m 24 0, .o 25 (.q 36 [24]), .m 23 25, .o 26 (.e 0 23), .o 27 (.e 1 23), .m 8 26, .m 9 27]) (.seq (.region [.m 28 1, .o 29 (.iaddr 1 (.tmp 28) (.const (.int .i64 0))), .o 30 (.l 29), .o 31 (.n 30), .m 10 31]) (.seq (.region [.m 32 1, .o 33 (.n 32), .o 34 (.mks 22 1 24 [(.slice none 0 0)] (.tmp 33) (.tmp 33)), .m 11 34]) (.seq (.seq (.region [.m 35 1, .o 36 (.n 35), .k 37 0]) (.block 0 [8,10,11] (.loop [1,2,8,10,11,36,37] c130L0))) (.seq (.region [.o 13 (.mv (.const (.slice none 0 0)))]) (.seq (.seq (.region [.m 55 10, .k 56 0]) (.block 2 [10,11,13] (.loop [8,10,11,13,55,56] c130L2))) (.seq (.seq (.region [.m 132 11, .m 133 13, .o 134 (.n 133), .o 135 (.sl 1 (.tmp 132) (some (.tmp 134)) none), .o 136 (.n 135), .k 137 0]) (.block 6 [10,11,13] (.loop [10,11,13,135,136,137] c130L3))) (.seq (.region [.m 147 10, .o 148 (.mks 3 1 8 [(.int .i64 0)] (.tmp 147) (.tmp 147)), .m 20 148]) (.seq (.seq (.region [.m 149 13, .o 150 (.n 149), .k 151 0]) (.block 8 [20] (.loop [10,11,20,149,150,151] c130L4))) (.seq (.region [.m 167 20, .m 6 167, .o 7 (.mv (.const (.bool true)))]) .ret)))))))))))
def F130:AFun:=⟨c130,3,168,[(.tmp 6),(.tmp 7)]⟩
def K130:Nat→List Nat×List Nat
 |0=>([1,2,8,10,11,36,37],[8,10,11])
 |1=>([],[1,2,8,10,11,36,37])
 |2=>([8,10,11,13,55,56],[10,11,13])
 |3=>([],[8,10,11,13,55,56])
 |4=>([8,10,11,13,14,15,55,56,102,103],[8,10,11,13,14,55,56])
 |5=>([],[8,10,11,13,14,15,55,56,102,103])
 |6=>([10,11,13,135,136,137],[10,11,13])
 |7=>([],[10,11,13,135,136,137])
 |8=>([10,11,20,149,150,151],[20])
 |9=>([],[10,11,20,149,150,151])
 |_=>([],[])
theorem F130_ok:kj8 Tryz.prog K130 Tryz.f130=some F130:=by kernel_rfl
/- 136: (*syndrome/field.Field).turn -/
def c136L0:ACode:=(.seq (.region [.o 57 (.b .lss 56 55)]) (.seq (.cond (.tmp 57) .skip (.exit 0)) (.seq (.block 1 [0,5,6,55,56] (.seq (.region [.m 58 56, .m 7 58]) (.region [.m 59 5, .m 60 7, .m 61 5, .m 62 7, .o 63 (.i 1 61 62), .o 64 (.l 63), .m 65 6, .m 66 0, .o 67 (.nilck (.tmp 66)), .o 68 (.f 1 67), .o 69 (.l 68), .m 70 0, .o 71 (.nilck (.tmp 70)), .o 72 (.f 3 71), .o 73 (.l 72), .m 74 7, .o 75 (.i 1 73 74), .o 76 (.l 75), .o 77 (.b .sub 69 76), .o 78 (.b .mul 65 77), .o 79 (.b .add 64 78), .m 80 0, .o 81 (.nilck (.tmp 80)), .o 82 (.f 1 81), .o 83 (.l 82), .o 84 (.b .rem 79 83), .o 85 (.i 1 59 60), .n (.st 1 (.tmp 85) (.tmp 84))]))) (.region [.o 86 (.c .add 56 1), .m 56 86]))))
def c136:ACode:=(.seq (.region [.k 4 0]) (.seq (.seq (.region [.m 8 0, .o 9 (.nilck (.tmp 8)), .o 10 (.f 2 9), .o 11 (.l 10), .o 12 (.c .eql 11 1)]) (.cond (.tmp 12) (.seq (.region [.m 13 1, .m 14 0, .o 15 (.nilck (.tmp 14)), .o 16 (.f 4 15), .o 17 (.l 16), .o 18 (.b .mul 13 17), .m 19 0, .o 20 (.nilck (.tmp 19)), .o 21 (.f 1 20), .o 22 (.l 21), .o 23 (.b .rem 18 22), .m 4 23]) .ret) .skip)) (.seq (.region [.m 24 1, .m 25 0, .o 26 (.nilck (.tmp 25)), .o 27 (.f 1 26), .o 28 (.l 27), .m 29 0, .o 30 (.nilck (.tmp 29)), .o 31 (.f 2 30), .o 32 (.l 31), .o 33 (.q 124 [24,28,32]), .m 5 33]) (.seq (.region [.m 34 5, .m 35 0, .o 36 (.nilck (.tmp 35)), .o 37 (.f 2 36), .o 38 (.l 37), .o 39 (.c .sub 38 1), .o 40 (.i 1 34 39), .o 41 (.l 40), .m 6 41]) (.seq (.region [.m 42 5, .o 43 (.sl 1 (.tmp 42) (some (.const (.int .i64 1))) none), .m 44 5, .m 45 0, .o 46 (.nilck (.tmp 45)), .o 47 (.f 2 46), .o 48 (.l 47), .o 49 (.c .sub 48 1), .o 50 (.sl 1 (.tmp 44) none (some (.tmp 49))), .o 51 (.cpy 1 (.tmp 43) (.tmp 50))]) (.seq (.region [.m 52 5, .o 53 (.iaddr 1 (.tmp 52) (.const (.int .i64 0))), .n (.st 1 (.tmp 53) (.const (.int .i64 0)))]) (.seq (.seq (.region [.m 54 5, .o 55 (.n 54), .k 56 0]) (.block 0 [0,5] (.loop [0,5,6,55,56] c136L0))) (.seq (.region [.m 87 5, .m 88 0, .o 89 (.nilck (.tmp 88)), .o 90 (.f 1 89), .o 91 (.l 90), .o 92 (.q 142 [87,91]), .m 4 92]) .ret))))))))
def F136:AFun:=⟨c136,2,93,[(.tmp 4)]⟩
def K136:Nat→List Nat×List Nat
 |0=>([0,5,6,55,56],[0,5])
 |1=>([],[0,5,6,55,56])
 |_=>([],[])
theorem F136_ok:kj8 Tryz.prog K136 Tryz.f136=some F136:=by kernel_rfl
/- 137: syndrome/matrix.solve$1 -/
def c137:ACode:=(.seq (.region [.o 3 (.mv (.const (.bool false)))]) (.seq (.region [.m 4 0, .o 5 (.l 1), .o 6 (.i 1 4 5), .o 7 (.l 6), .o 8 (.c .neq 7 0), .m 3 8]) .ret))
def F137:AFun:=⟨c137,2,9,[(.tmp 3)]⟩
def K137:Nat→List Nat×List Nat
 |_=>([],[])
theorem F137_ok:kj8 Tryz.prog K137 Tryz.f137=some F137:=by kernel_rfl
/- 142: syndrome/field.number -/
def c142L0:ACode:=(.seq (.seq (.region [.m 10 6, .o 11 (.c .geq 10 0)]) (.cond (.tmp 11) .skip (.exit 0))) (.seq (.block 1 [0,1,5,6] (.region [.m 14 5, .m 15 1, .o 16 (.b .mul 14 15), .m 17 0, .m 18 6, .o 19 (.i 1 17 18), .o 20 (.l 19), .o 21 (.b .add 16 20), .m 5 21])) (.region [.m 12 6, .o 13 (.c .sub 12 1), .m 6 13])))
def c142:ACode:=(.seq (.region [.k 4 0]) (.seq (.region [.k 5 0]) (.seq (.seq (.region [.m 7 0, .o 8 (.n 7), .o 9 (.c .sub 8 1), .m 6 9]) (.block 0 [5] (.loop [0,1,5,6] c142L0))) (.seq (.region [.m 22 5, .m 4 22]) .ret))))
def F142:AFun:=⟨c142,2,23,[(.tmp 4)]⟩
def K142:Nat→List Nat×List Nat
 |0=>([0,1,5,6],[5])
 |1=>([],[0,1,5,6])
 |_=>([],[])
theorem F142_ok:kj8 Tryz.prog K142 Tryz.f142=some F142:=by kernel_rfl
end Go.Proofs.YtmhbpecdpiapgaaGreat
