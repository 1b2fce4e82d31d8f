/-
  Functions of this seat as the small machine's code, written by a program of my own (gen.py); each is checked to be what the model's function is turned into. No condition.
-/
import Derived.Test.YtlhmdmedagjmnaaGreatK1
import Derived.Test.YtlhmdmedagjmnaaGreatProg
set_option linter.unusedVariables false
set_option linter.unusedSimpArgs false
set_option linter.unusedSectionVars false
set_option maxRecDepth 100000
namespace Go.Proofs.YtlhmdmedagjmnaaGreat
open Go.Am
/- 126: (syndrome/syndromeref.F).Mul -/
def c126L0:ACode:=(.seq (.seq (.region [.m 55 11, .o 56 (.f 2 3), .o 57 (.l 56), .o 58 (.b .lss 55 57)]) (.cond (.tmp 58) .skip (.exit 2))) (.seq (.block 3 [3,7,8,9,10,11] (.region [.m 61 9, .m 62 10, .m 63 11, .o 64 (.b .add 62 63), .m 65 9, .m 66 10, .m 67 11, .o 68 (.b .add 66 67), .o 69 (.i 1 65 68), .o 70 (.l 69), .m 71 7, .m 72 10, .o 73 (.i 1 71 72), .o 74 (.l 73), .m 75 8, .m 76 11, .o 77 (.i 1 75 76), .o 78 (.l 77), .o 79 (.b .mul 74 78), .o 80 (.b .add 70 79), .o 81 (.f 1 3), .o 82 (.l 81), .o 83 (.b .rem 80 82), .o 84 (.i 1 61 64), .n (.st 1 (.tmp 84) (.tmp 83))])) (.region [.m 59 11, .o 60 (.c .add 59 1), .m 11 60])))
def c126L1:ACode:=(.seq (.seq (.region [.m 49 10, .o 50 (.f 2 3), .o 51 (.l 50), .o 52 (.b .lss 49 51)]) (.cond (.tmp 52) .skip (.exit 0))) (.seq (.block 1 [3,7,8,9,10] (.seq (.region [.k 11 0]) (.block 2 [3,7,8,9,10] (.loop [3,7,8,9,10,11] c126L0)))) (.region [.m 53 10, .o 54 (.c .add 53 1), .m 10 54])))
def c126L2:ACode:=(.seq (.seq (.region [.m 95 13, .o 96 (.f 2 3), .o 97 (.l 96), .o 98 (.b .lss 95 97)]) (.cond (.tmp 98) .skip (.exit 6))) (.seq (.block 7 [3,9,12,13] (.region [.m 101 9, .m 102 12, .o 103 (.f 2 3), .o 104 (.l 103), .o 105 (.b .sub 102 104), .m 106 13, .o 107 (.b .add 105 106), .m 108 9, .m 109 12, .o 110 (.f 2 3), .o 111 (.l 110), .o 112 (.b .sub 109 111), .m 113 13, .o 114 (.b .add 112 113), .o 115 (.i 1 108 114), .o 116 (.l 115), .m 117 9, .m 118 12, .o 119 (.i 1 117 118), .o 120 (.l 119), .o 121 (.f 1 3), .o 122 (.l 121), .o 123 (.f 4 3), .o 124 (.l 123), .m 125 13, .o 126 (.i 1 124 125), .o 127 (.l 126), .o 128 (.b .sub 122 127), .o 129 (.b .mul 120 128), .o 130 (.b .add 116 129), .o 131 (.f 1 3), .o 132 (.l 131), .o 133 (.b .rem 130 132), .o 134 (.i 1 101 107), .n (.st 1 (.tmp 134) (.tmp 133))])) (.region [.m 99 13, .o 100 (.c .add 99 1), .m 13 100])))
def c126L3:ACode:=(.seq (.seq (.region [.m 89 12, .o 90 (.f 2 3), .o 91 (.l 90), .o 92 (.b .geq 89 91)]) (.cond (.tmp 92) .skip (.exit 4))) (.seq (.block 5 [3,9,12] (.seq (.seq (.region [.k 13 0]) (.block 6 [3,9,12] (.loop [3,9,12,13] c126L2))) (.region [.m 135 9, .m 136 12, .o 137 (.i 1 135 136), .n (.st 1 (.tmp 137) (.const (.int .i64 0)))]))) (.region [.m 93 12, .o 94 (.c .sub 93 1), .m 12 94])))
def c126:ACode:=(.seq (.region [.o 3 (.box 52 5 (.tmp 0)), .k 6 0]) (.seq (.seq (.region [.o 14 (.ld true 5 (.tmp 3)), .m 15 1, .o 16 (.q 97 [14,15]), .o 17 (.un .not (.tmp 16)), .m 18 17, .g 19 (.ld true 5 (.tmp 3)) 18 false, .g 20 (.m 2) 18 false, .g 21 (.q 97 [19,20]) 18 false, .g 22 (.un .not (.tmp 21)) 18 false, .o 23 (.pick (.tmp 18) (.const (.bool true)) (.tmp 22))]) (.cond (.tmp 23) (.seq (.region [.k 6 (-1)]) .ret) .skip)) (.seq (.seq (.region [.o 24 (.f 2 3), .o 25 (.l 24), .o 26 (.c .eql 25 1)]) (.cond (.tmp 26) (.seq (.region [.m 27 1, .m 28 2, .o 29 (.b .mul 27 28), .o 30 (.f 1 3), .o 31 (.l 30), .o 32 (.b .rem 29 31), .m 6 32]) .ret) .skip)) (.seq (.region [.m 33 1, .o 34 (.f 1 3), .o 35 (.l 34), .o 36 (.f 2 3), .o 37 (.l 36), .o 38 (.q 102 [33,35,37]), .m 7 38]) (.seq (.region [.m 39 2, .o 40 (.f 1 3), .o 41 (.l 40), .o 42 (.f 2 3), .o 43 (.l 42), .o 44 (.q 102 [39,41,43]), .m 8 44]) (.seq (.region [.o 45 (.f 2 3), .o 46 (.l 45), .o 47 (.bin .mul (.const (.int .i64 2)) (.tmp 46)), .o 48 (.mks 3 1 8 [(.int .i64 0)] (.tmp 47) (.tmp 47)), .m 9 48]) (.seq (.seq (.region [.k 10 0]) (.block 0 [3,9] (.loop [3,7,8,9,10] c126L1))) (.seq (.seq (.region [.o 85 (.f 2 3), .o 86 (.l 85), .o 87 (.bin .mul (.const (.int .i64 2)) (.tmp 86)), .o 88 (.c .sub 87 1), .m 12 88]) (.block 4 [3,9] (.loop [3,9,12] c126L3))) (.seq (.region [.m 138 9, .o 139 (.f 2 3), .o 140 (.l 139), .o 141 (.sl 1 (.tmp 138) none (some (.tmp 140))), .o 142 (.f 1 3), .o 143 (.l 142), .o 144 (.q 185 [141,143]), .m 6 144]) .ret)))))))))
def F126:AFun:=⟨c126,3,145,[(.tmp 6)]⟩
def K126:Nat→List Nat×List Nat
 |0=>([3,7,8,9,10],[3,9])
 |1=>([],[3,7,8,9,10])
 |2=>([3,7,8,9,10,11],[3,7,8,9,10])
 |3=>([],[3,7,8,9,10,11])
 |4=>([3,9,12],[3,9])
 |5=>([],[3,9,12])
 |6=>([3,9,12,13],[3,9,12])
 |7=>([],[3,9,12,13])
 |_=>([],[])
theorem F126_ok:kj8 Tryz.prog K126 Tryz.f126=some F126:=by kernel_rfl
/- 133: slices.IndexFunc[[]int,int] -/
def c133L0:ACode:=(.seq (.region [.o 9 (.b .lss 8 7)]) (.seq (.cond (.tmp 9) .skip (.exit 0)) (.seq (.block 1 [0,1,7,8] (.seq (.region [.m 10 8, .m 5 10]) (.seq (.region [.m 11 1, .m 12 0, .m 13 5, .o 14 (.i 1 12 13), .o 15 (.l 14), .o 16 (.calld (.tmp 11) [(.tmp 15)])]) (.cond (.tmp 16) (.seq (.region [.m 17 5, .m 4 17]) .ret) .skip)))) (.region [.o 18 (.c .add 8 1), .m 8 18]))))
def c133:ACode:=(.seq (.region [.k 4 0]) (.seq (.seq (.region [.m 6 0, .o 7 (.n 6), .k 8 0]) (.block 0 [] (.loop [0,1,7,8] c133L0))) (.seq (.region [.k 4 (-1)]) .ret)))
def F133:AFun:=⟨c133,2,19,[(.tmp 4)]⟩
def K133:Nat→List Nat×List Nat
 |0=>([0,1,7,8],[])
 |1=>([],[0,1,7,8])
 |_=>([],[])
theorem F133_ok:kj8 Tryz.prog K133 Tryz.f133=some F133:=by kernel_rfl
/- 138: syndrome/syndromeref.Copy -/
def c138:ACode:=(.seq (.region [.o 2 (.mv (.const (.slice none 0 0)))]) (.seq (.region [.o 3 (.mkSl 3 1 0 []), .m 4 0, .o 5 (.app 3 1 8 (.tmp 3) (.tmp 4)), .m 2 5]) .ret))
def F138:AFun:=⟨c138,1,6,[(.tmp 2)]⟩
def K138:Nat→List Nat×List Nat
 |_=>([],[])
theorem F138_ok:kj8 Tryz.prog K138 Tryz.f138=some F138:=by kernel_rfl
/- 139: (syndrome/syndromeref.F).less -/
def c139L0:ACode:=(.seq (.seq (.region [.m 12 10, .m 13 1, .o 14 (.n 13), .o 15 (.b .lss 12 14)]) (.cond (.tmp 15) .skip (.exit 0))) (.seq (.block 1 [1,2,3,4,9,10] (.seq (.region [.m 18 1, .m 19 10, .o 20 (.i 1 18 19), .o 21 (.l 20), .m 11 21]) (.seq (.seq (.region [.m 22 3, .o 23 (.c .neq 22 0), .m 24 23, .g 25 (.m 2) 24 true, .g 26 (.m 10) 24 true, .g 27 (.i 1 25 26) 24 true, .g 28 (.l 27) 24 true, .g 29 (.c .neq 28 0) 24 true, .o 30 (.pick (.tmp 24) (.tmp 29) (.const (.bool false)))]) (.cond (.tmp 30) (.region [.o 31 (.ld true 5 (.tmp 4)), .m 32 11, .o 33 (.ld true 5 (.tmp 4)), .m 34 3, .m 35 2, .m 36 10, .o 37 (.i 1 35 36), .o 38 (.l 37),⟨(some 39),(.call 126 [(.tmp 33),(.tmp 34),(.tmp 38)]),none,true⟩, .o 40 (.q 160 [31,32,39]), .m 11 40]) .skip)) (.region [.m 41 9, .m 42 11, .o 43 (.mkSl 3 1 1 [(.tmp 42)]), .o 44 (.app 3 1 8 (.tmp 41) (.tmp 43)), .m 9 44])))) (.region [.m 16 10, .o 17 (.c .add 16 1), .m 10 17])))
def c139:ACode:=(.seq (.region [.o 4 (.box 52 5 (.tmp 0)), .o 8 (.mv (.const (.slice none 0 0)))]) (.seq (.region [.o 9 (.mv (.const (.slice none 0 0)))]) (.seq (.seq (.region [.k 10 0]) (.block 0 [9] (.loop [1,2,3,4,9,10] c139L0))) (.seq (.region [.m 45 9, .m 8 45]) .ret))))
def F139:AFun:=⟨c139,4,46,[(.tmp 8)]⟩
def K139:Nat→List Nat×List Nat
 |0=>([1,2,3,4,9,10],[9])
 |1=>([],[1,2,3,4,9,10])
 |_=>([],[])
theorem F139_ok:kj8 Tryz.prog K139 Tryz.f139=some F139:=by kernel_rfl
/- 140: (syndrome/syndromeref.F).Inv -/
def c140L0:ACode:=(.seq (.seq (.region [.m 14 5, .o 15 (.f 0 2), .o 16 (.l 15), .o 17 (.b .lss 14 16)]) (.cond (.tmp 17) .skip (.exit 0))) (.seq (.block 1 [1,2,5] (.seq (.region [.o 20 (.ld true 5 (.tmp 2)), .m 21 1, .m 22 5, .o 23 (.q 126 [20,21,22]), .o 24 (.c .eql 23 1)]) (.cond (.tmp 24) (.seq (.region [.m 25 5, .m 4 25]) .ret) .skip))) (.region [.m 18 5, .o 19 (.c .add 18 1), .m 5 19])))
def c140:ACode:=(.seq (.region [.o 2 (.box 52 5 (.tmp 0)), .k 4 0]) (.seq (.seq (.region [.o 6 (.ld true 5 (.tmp 2)), .m 7 1, .o 8 (.q 97 [6,7]), .o 9 (.un .not (.tmp 8)), .m 10 9, .g 11 (.m 1) 10 false, .g 12 (.c .eql 11 0) 10 false, .o 13 (.pick (.tmp 10) (.const (.bool true)) (.tmp 12))]) (.cond (.tmp 13) (.seq (.region [.k 4 (-1)]) .ret) .skip)) (.seq (.seq (.region [.k 5 1]) (.block 0 [] (.loop [1,2,5] c140L0))) (.seq (.region [.k 4 (-1)]) .ret))))
def F140:AFun:=⟨c140,2,26,[(.tmp 4)]⟩
def K140:Nat→List Nat×List Nat
 |0=>([1,2,5],[])
 |1=>([],[1,2,5])
 |_=>([],[])
theorem F140_ok:kj8 Tryz.prog K140 Tryz.f140=some F140:=by kernel_rfl
/- 141: (syndrome/syndromeref.F).Neg -/
def c141L0:ACode:=(.seq (.seq (.region [.m 17 6, .o 18 (.f 2 2), .o 19 (.l 18), .o 20 (.b .lss 17 19)]) (.cond (.tmp 20) .skip (.exit 0))) (.seq (.block 1 [2,5,6] (.region [.m 23 5, .m 24 6, .o 25 (.f 1 2), .o 26 (.l 25), .m 27 5, .m 28 6, .o 29 (.i 1 27 28), .o 30 (.l 29), .o 31 (.b .sub 26 30), .o 32 (.f 1 2), .o 33 (.l 32), .o 34 (.b .rem 31 33), .o 35 (.i 1 23 24), .n (.st 1 (.tmp 35) (.tmp 34))])) (.region [.m 21 6, .o 22 (.c .add 21 1), .m 6 22])))
def c141:ACode:=(.seq (.region [.o 2 (.box 52 5 (.tmp 0)), .k 4 0]) (.seq (.seq (.region [.o 7 (.ld true 5 (.tmp 2)), .m 8 1, .o 9 (.q 97 [7,8]), .o 10 (.un .not (.tmp 9))]) (.cond (.tmp 10) (.seq (.region [.k 4 (-1)]) .ret) .skip)) (.seq (.region [.m 11 1, .o 12 (.f 1 2), .o 13 (.l 12), .o 14 (.f 2 2), .o 15 (.l 14), .o 16 (.q 102 [11,13,15]), .m 5 16]) (.seq (.seq (.region [.k 6 0]) (.block 0 [2,5] (.loop [2,5,6] c141L0))) (.seq (.region [.m 36 5, .o 37 (.f 1 2), .o 38 (.l 37), .o 39 (.q 185 [36,38]), .m 4 39]) .ret)))))
def F141:AFun:=⟨c141,2,40,[(.tmp 4)]⟩
def K141:Nat→List Nat×List Nat
 |0=>([2,5,6],[2,5])
 |1=>([],[2,5,6])
 |_=>([],[])
theorem F141_ok:kj8 Tryz.prog K141 Tryz.f141=some F141:=by kernel_rfl
/- 143: slices.IndexFunc[[][]int,[]int] -/
def c143L0:ACode:=(.seq (.region [.o 9 (.b .lss 8 7)]) (.seq (.cond (.tmp 9) .skip (.exit 0)) (.seq (.block 1 [0,1,7,8] (.seq (.region [.m 10 8, .m 5 10]) (.seq (.region [.m 11 1, .m 12 0, .m 13 5, .o 14 (.i 1 12 13), .o 15 (.l 14), .o 16 (.calld (.tmp 11) [(.tmp 15)])]) (.cond (.tmp 16) (.seq (.region [.m 17 5, .m 4 17]) .ret) .skip)))) (.region [.o 18 (.c .add 8 1), .m 8 18]))))
def c143:ACode:=(.seq (.region [.k 4 0]) (.seq (.seq (.region [.m 6 0, .o 7 (.n 6), .k 8 0]) (.block 0 [] (.loop [0,1,7,8] c143L0))) (.seq (.region [.k 4 (-1)]) .ret)))
def F143:AFun:=⟨c143,2,19,[(.tmp 4)]⟩
def K143:Nat→List Nat×List Nat
 |0=>([0,1,7,8],[])
 |1=>([],[0,1,7,8])
 |_=>([],[])
theorem F143_ok:kj8 Tryz.prog K143 Tryz.f143=some F143:=by kernel_rfl
/- 145: syndrome/matrix.scale -/
def c145L0:ACode:=(.seq (.region [.o 10 (.b .lss 9 8)]) (.seq (.cond (.tmp 10) .skip (.exit 0)) (.seq (.block 1 [0,1,2,8,9] (.seq (.region [.m 11 9, .m 6 11]) (.region [.m 12 1, .m 13 6, .m 14 0, .m 15 1, .m 16 6, .o 17 (.i 1 15 16), .o 18 (.l 17), .m 19 2, .o 20 (.q 157 [14,18,19]), .o 21 (.i 1 12 13), .n (.st 1 (.tmp 21) (.tmp 20))]))) (.region [.o 22 (.c .add 9 1), .m 9 22]))))
def c145:ACode:=(.seq (.region [.m 7 1, .o 8 (.n 7), .k 9 0]) (.block 0 [] (.loop [0,1,2,8,9] c145L0)))
def F145:AFun:=⟨c145,3,23,[]⟩
def K145:Nat→List Nat×List Nat
 |0=>([0,1,2,8,9],[])
 |1=>([],[0,1,2,8,9])
 |_=>([],[])
theorem F145_ok:kj8 Tryz.prog K145 Tryz.f145=some F145:=by kernel_rfl
/- 146: (*syndrome/field.Field).Inv -/
def c146:ACode:=(.seq (.region [.k 4 0]) (.seq (.seq (.region [.m 5 0, .m 6 1, .o 7 (.q 95 [5,6]), .o 8 (.un .not (.tmp 7)), .m 9 8, .g 10 (.m 1) 9 false, .g 11 (.c .eql 10 0) 9 false, .o 12 (.pick (.tmp 9) (.const (.bool true)) (.tmp 11))]) (.cond (.tmp 12) (.seq (.region [.k 4 (-1)]) .ret) .skip)) (.seq (.region [.m 13 0, .o 14 (.nilck (.tmp 13)), .o 15 (.f 5 14), .o 16 (.l 15), .m 17 0, .o 18 (.nilck (.tmp 17)), .o 19 (.f 0 18), .o 20 (.l 19), .o 21 (.c .sub 20 1), .m 22 0, .o 23 (.nilck (.tmp 22)), .o 24 (.f 6 23), .o 25 (.l 24), .m 26 1, .o 27 (.i 1 25 26), .o 28 (.l 27), .o 29 (.b .sub 21 28), .m 30 0, .o 31 (.nilck (.tmp 30)), .o 32 (.f 0 31), .o 33 (.l 32), .o 34 (.c .sub 33 1), .o 35 (.b .rem 29 34), .o 36 (.i 1 16 35), .o 37 (.l 36), .m 4 37]) .ret)))
def F146:AFun:=⟨c146,2,38,[(.tmp 4)]⟩
def K146:Nat→List Nat×List Nat
 |_=>([],[])
theorem F146_ok:kj8 Tryz.prog K146 Tryz.f146=some F146:=by kernel_rfl
/- 147: syndrome/matrix.less -/
def c147L0:ACode:=(.seq (.region [.o 12 (.b .lss 11 10)]) (.seq (.cond (.tmp 12) .skip (.exit 0)) (.seq (.block 1 [0,1,2,3,10,11] (.seq (.region [.m 13 11, .m 8 13]) (.region [.m 14 1, .m 15 8, .m 16 0, .m 17 1, .m 18 8, .o 19 (.i 1 17 18), .o 20 (.l 19), .m 21 0, .m 22 3, .m 23 2, .m 24 8, .o 25 (.i 1 23 24), .o 26 (.l 25),⟨(some 27),(.call 157 [(.tmp 21),(.tmp 22),(.tmp 26)]),none,true⟩, .o 28 (.q 166 [16,20,27]), .o 29 (.i 1 14 15), .n (.st 1 (.tmp 29) (.tmp 28))]))) (.region [.o 30 (.c .add 11 1), .m 11 30]))))
def c147:ACode:=(.seq (.region [.m 9 1, .o 10 (.n 9), .k 11 0]) (.block 0 [] (.loop [0,1,2,3,10,11] c147L0)))
def F147:AFun:=⟨c147,4,31,[]⟩
def K147:Nat→List Nat×List Nat
 |0=>([0,1,2,3,10,11],[])
 |1=>([],[0,1,2,3,10,11])
 |_=>([],[])
theorem F147_ok:kj8 Tryz.prog K147 Tryz.f147=some F147:=by kernel_rfl
/- 148: (*syndrome/field.Field).Neg -/
def c148L0:ACode:=(.seq (.region [.o 16 (.b .lss 15 14)]) (.seq (.cond (.tmp 16) .skip (.exit 0)) (.seq (.block 1 [0,1,5,6,14,15] (.seq (.region [.m 17 5, .m 18 0, .o 19 (.nilck (.tmp 18)), .o 20 (.f 1 19), .o 21 (.l 20), .m 22 1, .m 23 0, .o 24 (.nilck (.tmp 23)), .o 25 (.f 1 24), .o 26 (.l 25), .o 27 (.b .rem 22 26), .o 28 (.b .sub 21 27), .m 29 0, .o 30 (.nilck (.tmp 29)), .o 31 (.f 1 30), .o 32 (.l 31), .o 33 (.b .rem 28 32), .m 34 6, .o 35 (.b .mul 33 34), .o 36 (.b .add 17 35), .m 5 36]) (.region [.m 37 1, .m 38 0, .o 39 (.nilck (.tmp 38)), .o 40 (.f 1 39), .o 41 (.l 40), .o 42 (.b .quo 37 41), .m 43 6, .m 44 0, .o 45 (.nilck (.tmp 44)), .o 46 (.f 1 45), .o 47 (.l 46), .o 48 (.b .mul 43 47), .m 1 42, .m 6 48]))) (.region [.o 49 (.c .add 15 1), .m 15 49]))))
def c148:ACode:=(.seq (.region [.k 4 0]) (.seq (.seq (.region [.m 7 0, .m 8 1, .o 9 (.q 95 [7,8]), .o 10 (.un .not (.tmp 9))]) (.cond (.tmp 10) (.seq (.region [.k 4 (-1)]) .ret) .skip)) (.seq (.region [.k 5 0, .k 6 1]) (.seq (.seq (.region [.m 11 0, .o 12 (.nilck (.tmp 11)), .o 13 (.f 2 12), .o 14 (.l 13), .k 15 0]) (.block 0 [5] (.loop [0,1,5,6,14,15] c148L0))) (.seq (.region [.m 50 5, .m 4 50]) .ret)))))
def F148:AFun:=⟨c148,2,51,[(.tmp 4)]⟩
def K148:Nat→List Nat×List Nat
 |0=>([0,1,5,6,14,15],[5])
 |1=>([],[0,1,5,6,14,15])
 |_=>([],[])
theorem F148_ok:kj8 Tryz.prog K148 Tryz.f148=some F148:=by kernel_rfl
/- 150: syndrome/field.New$1 -/
def c150:ACode:=(.region [.o 2 (.l 0), .o 3 (.l 0),⟨(some 4),(.call 151 [(.tmp 3)]),none,true⟩, .o 5 (.f 195 1), .o 6 (.iaddrA 65 1 (.tmp 5) (.tmp 2)), .n (.st 1 (.tmp 6) (.tmp 4))])
def F150:AFun:=⟨c150,2,7,[]⟩
def K150:Nat→List Nat×List Nat
 |_=>([],[])
theorem F150_ok:kj8 Tryz.prog K150 Tryz.f150=some F150:=by kernel_rfl
/- 151: syndrome/field.build -/
def c151L0:ACode:=(.seq (.seq (.region [.m 28 5, .o 29 (.q 193 [28]), .o 30 (.un .not (.tmp 29))]) (.cond (.tmp 30) .skip (.exit 0))) (.seq (.block 1 [5] .skip) (.region [.m 31 5, .o 32 (.nilck (.tmp 31)), .o 33 (.f 4 32), .o 34 (.l 33), .o 35 (.c .add 34 1), .o 36 (.nilck (.tmp 31)), .o 37 (.f 4 36), .n (.st 1 (.tmp 37) (.tmp 35))])))
def c151L1:ACode:=(.seq (.region [.o 45 (.b .lss 44 43)]) (.seq (.cond (.tmp 45) .skip (.exit 2)) (.seq (.block 3 [3,4,5,43,44] (.seq (.region [.m 46 44, .m 6 46]) (.seq (.region [.m 47 5, .m 48 6, .m 49 3, .m 50 4, .o 51 (.q 194 [48,49,50]), .o 52 (.mkSl 3 1 1 [(.const (.int .i64 1))]), .o 53 (.app 3 1 8 (.tmp 51) (.tmp 52)), .o 54 (.nilck (.tmp 47)), .o 55 (.f 3 54), .n (.st 1 (.tmp 55) (.tmp 53))]) (.seq (.region [.m 56 5, .o 57 (.q 193 [56])]) (.cond (.tmp 57) (.seq (.region [.m 58 5, .m 2 58]) .ret) .skip))))) (.region [.o 59 (.c .add 44 1), .m 44 59]))))
def c151:ACode:=(.seq (.region [.o 2 (.mv (.const (.pointer none)))]) (.seq (.region [.m 8 0, .o 9 (.q 192 [8]), .m 7 9, .o 10 (.e 0 7), .o 11 (.e 1 7), .m 3 10, .m 4 11]) (.seq (.seq (.region [.m 12 3, .o 13 (.c .eql 12 0)]) (.cond (.tmp 13) (.seq (.region [.o 2 (.mv (.const (.pointer none)))]) .ret) .skip)) (.seq (.region [.m 14 0, .m 15 3, .m 16 4, .o 17 (.build [(.int .i64 0),(.int .i64 0),(.int .i64 0),(.slice none 0 0),(.int .i64 0),(.slice none 0 0),(.slice none 0 0)] [(0,1),(1,1),(2,1),(3,1),(4,1),(5,1),(6,1)] [(0,(.tmp 14)),(1,(.tmp 15)),(2,(.tmp 16))]), .o 18 (.box 176 7 (.tmp 17)), .m 5 18]) (.seq (.seq (.region [.m 19 4, .o 20 (.c .eql 19 1)]) (.cond (.tmp 20) (.seq (.region [.m 21 5, .o 22 (.mkSl 3 1 2 [(.const (.int .i64 0)),(.const (.int .i64 1))]), .o 23 (.nilck (.tmp 21)), .o 24 (.f 3 23), .n (.st 1 (.tmp 24) (.tmp 22))]) (.seq (.seq (.region [.m 25 5, .o 26 (.nilck (.tmp 25)), .o 27 (.f 4 26), .n (.st 1 (.tmp 27) (.const (.int .i64 1)))]) (.block 0 [5] (.loop [5] c151L0))) (.seq (.region [.m 38 5, .m 2 38]) .ret))) .skip)) (.seq (.region [.m 39 5, .m 40 3, .o 41 (.nilck (.tmp 39)), .o 42 (.f 4 41), .n (.st 1 (.tmp 42) (.tmp 40))]) (.seq (.seq (.region [.m 43 0, .k 44 0]) (.block 2 [] (.loop [3,4,5,43,44] c151L1))) (.seq (.region [.o 2 (.mv (.const (.pointer none)))]) .ret))))))))
def F151:AFun:=⟨c151,1,60,[(.tmp 2)]⟩
def K151:Nat→List Nat×List Nat
 |0=>([5],[5])
 |1=>([],[5])
 |2=>([3,4,5,43,44],[])
 |3=>([],[3,4,5,43,44])
 |_=>([],[])
theorem F151_ok:kj8 Tryz.prog K151 Tryz.f151=some F151:=by kernel_rfl
/- 152: syndrome/matrix.Check$1 -/
def c152:ACode:=(.seq (.region [.o 3 (.mv (.const (.bool false)))]) (.seq (.region [.o 4 (.l 1), .m 5 0, .o 6 (.q 95 [4,5]), .o 7 (.un .not (.tmp 6)), .m 3 7]) .ret))
def F152:AFun:=⟨c152,2,8,[(.tmp 3)]⟩
def K152:Nat→List Nat×List Nat
 |_=>([],[])
theorem F152_ok:kj8 Tryz.prog K152 Tryz.f152=some F152:=by kernel_rfl
/- 156: (*syndrome/field.Field).Add -/
def c156L0:ACode:=(.seq (.region [.o 24 (.b .lss 23 22)]) (.seq (.cond (.tmp 24) .skip (.exit 0)) (.seq (.block 1 [0,1,2,7,8,22,23] (.seq (.region [.m 25 7, .m 26 1, .m 27 0, .o 28 (.nilck (.tmp 27)), .o 29 (.f 1 28), .o 30 (.l 29), .o 31 (.b .rem 26 30), .m 32 2, .m 33 0, .o 34 (.nilck (.tmp 33)), .o 35 (.f 1 34), .o 36 (.l 35), .o 37 (.b .rem 32 36), .o 38 (.b .add 31 37), .m 39 0, .o 40 (.nilck (.tmp 39)), .o 41 (.f 1 40), .o 42 (.l 41), .o 43 (.b .rem 38 42), .m 44 8, .o 45 (.b .mul 43 44), .o 46 (.b .add 25 45), .m 7 46]) (.region [.m 47 1, .m 48 0, .o 49 (.nilck (.tmp 48)), .o 50 (.f 1 49), .o 51 (.l 50), .o 52 (.b .quo 47 51), .m 53 2, .m 54 0, .o 55 (.nilck (.tmp 54)), .o 56 (.f 1 55), .o 57 (.l 56), .o 58 (.b .quo 53 57), .m 59 8, .m 60 0, .o 61 (.nilck (.tmp 60)), .o 62 (.f 1 61), .o 63 (.l 62), .o 64 (.b .mul 59 63), .m 1 52, .m 2 58, .m 8 64]))) (.region [.o 65 (.c .add 23 1), .m 23 65]))))
def c156:ACode:=(.seq (.region [.k 6 0]) (.seq (.seq (.region [.m 9 0, .m 10 1, .o 11 (.q 95 [9,10]), .o 12 (.un .not (.tmp 11)), .m 13 12, .g 14 (.m 0) 13 false, .g 15 (.m 2) 13 false, .g 16 (.q 95 [14,15]) 13 false, .g 17 (.un .not (.tmp 16)) 13 false, .o 18 (.pick (.tmp 13) (.const (.bool true)) (.tmp 17))]) (.cond (.tmp 18) (.seq (.region [.k 6 (-1)]) .ret) .skip)) (.seq (.region [.k 7 0, .k 8 1]) (.seq (.seq (.region [.m 19 0, .o 20 (.nilck (.tmp 19)), .o 21 (.f 2 20), .o 22 (.l 21), .k 23 0]) (.block 0 [7] (.loop [0,1,2,7,8,22,23] c156L0))) (.seq (.region [.m 66 7, .m 6 66]) .ret)))))
def F156:AFun:=⟨c156,3,67,[(.tmp 6)]⟩
def K156:Nat→List Nat×List Nat
 |0=>([0,1,2,7,8,22,23],[7])
 |1=>([],[0,1,2,7,8,22,23])
 |_=>([],[])
theorem F156_ok:kj8 Tryz.prog K156 Tryz.f156=some F156:=by kernel_rfl
/- 157: (*syndrome/field.Field).Mul -/
def c157:ACode:=(.seq (.region [.k 6 0]) (.seq (.seq (.region [.m 7 0, .m 8 1, .o 9 (.q 95 [7,8]), .o 10 (.un .not (.tmp 9)), .m 11 10, .g 12 (.m 0) 11 false, .g 13 (.m 2) 11 false, .g 14 (.q 95 [12,13]) 11 false, .g 15 (.un .not (.tmp 14)) 11 false, .o 16 (.pick (.tmp 11) (.const (.bool true)) (.tmp 15))]) (.cond (.tmp 16) (.seq (.region [.k 6 (-1)]) .ret) .skip)) (.seq (.seq (.region [.m 17 1, .o 18 (.c .eql 17 0), .m 19 18, .g 20 (.m 2) 19 false, .g 21 (.c .eql 20 0) 19 false, .o 22 (.pick (.tmp 19) (.const (.bool true)) (.tmp 21))]) (.cond (.tmp 22) (.seq (.region [.k 6 0]) .ret) .skip)) (.seq (.region [.m 23 0, .o 24 (.nilck (.tmp 23)), .o 25 (.f 5 24), .o 26 (.l 25), .m 27 0, .o 28 (.nilck (.tmp 27)), .o 29 (.f 6 28), .o 30 (.l 29), .m 31 1, .o 32 (.i 1 30 31), .o 33 (.l 32), .m 34 0, .o 35 (.nilck (.tmp 34)), .o 36 (.f 6 35), .o 37 (.l 36), .m 38 2, .o 39 (.i 1 37 38), .o 40 (.l 39), .o 41 (.b .add 33 40), .m 42 0, .o 43 (.nilck (.tmp 42)), .o 44 (.f 0 43), .o 45 (.l 44), .o 46 (.c .sub 45 1), .o 47 (.b .rem 41 46), .o 48 (.i 1 26 47), .o 49 (.l 48), .m 6 49]) .ret))))
def F157:AFun:=⟨c157,3,50,[(.tmp 6)]⟩
def K157:Nat→List Nat×List Nat
 |_=>([],[])
theorem F157_ok:kj8 Tryz.prog K157 Tryz.f157=some F157:=by kernel_rfl
/- 160: (syndrome/syndromeref.F).Sub -/
def c160:ACode:=(.seq (.region [.o 3 (.box 52 5 (.tmp 0)), .k 6 0]) (.seq (.region [.o 8 (.ld true 5 (.tmp 3)), .m 9 2, .o 10 (.q 141 [8,9]), .m 7 10]) (.seq (.region [.o 11 (.ld true 5 (.tmp 3)), .m 12 1, .m 13 7, .o 14 (.q 125 [11,12,13]), .m 6 14]) .ret)))
def F160:AFun:=⟨c160,3,15,[(.tmp 6)]⟩
def K160:Nat→List Nat×List Nat
 |_=>([],[])
theorem F160_ok:kj8 Tryz.prog K160 Tryz.f160=some F160:=by kernel_rfl
/- 166: (*syndrome/field.Field).Sub -/
def c166:ACode:=(.seq (.region [.k 6 0]) (.seq (.region [.m 7 0, .m 8 1, .m 9 0, .m 10 2, .o 11 (.q 148 [9,10]), .o 12 (.q 156 [7,8,11]), .m 6 12]) .ret))
def F166:AFun:=⟨c166,3,13,[(.tmp 6)]⟩
def K166:Nat→List Nat×List Nat
 |_=>([],[])
theorem F166_ok:kj8 Tryz.prog K166 Tryz.f166=some F166:=by kernel_rfl
/- 167: slices.Index[[]int,int] -/
def c167L0:ACode:=(.seq (.region [.o 9 (.b .lss 8 7)]) (.seq (.cond (.tmp 9) .skip (.exit 0)) (.seq (.block 1 [0,1,7,8] (.seq (.region [.m 10 8, .m 5 10]) (.seq (.region [.m 11 1, .m 12 0, .m 13 5, .o 14 (.i 1 12 13), .o 15 (.l 14), .o 16 (.b .eql 11 15)]) (.cond (.tmp 16) (.seq (.region [.m 17 5, .m 4 17]) .ret) .skip)))) (.region [.o 18 (.c .add 8 1), .m 8 18]))))
def c167:ACode:=(.seq (.region [.k 4 0]) (.seq (.seq (.region [.m 6 0, .o 7 (.n 6), .k 8 0]) (.block 0 [] (.loop [0,1,7,8] c167L0))) (.seq (.region [.k 4 (-1)]) .ret)))
def F167:AFun:=⟨c167,2,19,[(.tmp 4)]⟩
def K167:Nat→List Nat×List Nat
 |0=>([0,1,7,8],[])
 |1=>([],[0,1,7,8])
 |_=>([],[])
theorem F167_ok:kj8 Tryz.prog K167 Tryz.f167=some F167:=by kernel_rfl
/- 168: (syndrome/syndromeref.F).value -/
def c168L0:ACode:=(.seq (.seq (.region [.m 12 8, .o 13 (.c .geq 12 0)]) (.cond (.tmp 13) .skip (.exit 0))) (.seq (.block 1 [1,2,3,7,8] (.seq (.region [.o 16 (.ld true 5 (.tmp 3)), .m 17 7, .m 18 2, .o 19 (.q 126 [16,17,18]), .m 7 19]) (.region [.o 20 (.ld true 5 (.tmp 3)), .m 21 7, .m 22 1, .m 23 8, .o 24 (.i 1 22 23), .o 25 (.l 24), .o 26 (.q 125 [20,21,25]), .m 7 26]))) (.region [.m 14 8, .o 15 (.c .sub 14 1), .m 8 15])))
def c168:ACode:=(.seq (.region [.o 3 (.box 52 5 (.tmp 0)), .k 6 0]) (.seq (.region [.k 7 0]) (.seq (.seq (.region [.m 9 1, .o 10 (.n 9), .o 11 (.c .sub 10 1), .m 8 11]) (.block 0 [7] (.loop [1,2,3,7,8] c168L0))) (.seq (.region [.m 27 7, .m 6 27]) .ret))))
def F168:AFun:=⟨c168,3,28,[(.tmp 6)]⟩
def K168:Nat→List Nat×List Nat
 |0=>([1,2,3,7,8],[7])
 |1=>([],[1,2,3,7,8])
 |_=>([],[])
theorem F168_ok:kj8 Tryz.prog K168 Tryz.f168=some F168:=by kernel_rfl
/- 169: syndrome/poly.both -/
def c169:ACode:=(.seq (.region [.o 6 (.mv (.const (.pointer none))), .o 7 (.mv (.const (.slice none 0 0))), .o 8 (.mv (.const (.slice none 0 0))), .k 9 0]) (.seq (.region [.m 13 0, .m 14 1, .o 15 (.q 104 [13,14]), .m 10 15]) (.seq (.seq (.region [.m 16 10, .o 17 (.c .eql 16 0)]) (.cond (.tmp 17) (.region [.m 18 0, .m 19 2, .o 20 (.q 104 [18,19]), .m 10 20]) .skip)) (.seq (.seq (.region [.m 21 10, .o 22 (.c .neq 21 0)]) (.cond (.tmp 22) (.seq (.region [.m 23 10, .o 6 (.mv (.const (.pointer none))), .o 7 (.mv (.const (.slice none 0 0))), .o 8 (.mv (.const (.slice none 0 0))), .m 9 23]) .ret) .skip)) (.seq (.region [.m 25 0, .o 26 (.q 81 [25]), .m 24 26, .o 27 (.e 0 24), .o 28 (.e 1 24), .m 11 27, .m 12 28]) (.seq (.region [.m 29 11, .m 30 1, .o 31 (.q 196 [30]), .m 32 2, .o 33 (.q 196 [32]), .m 6 29, .m 7 31, .m 8 33, .k 9 0]) .ret))))))
def F169:AFun:=⟨c169,3,34,[(.tmp 6),(.tmp 7),(.tmp 8),(.tmp 9)]⟩
def K169:Nat→List Nat×List Nat
 |_=>([],[])
theorem F169_ok:kj8 Tryz.prog K169 Tryz.f169=some F169:=by kernel_rfl
/- 170: syndrome/reed.here -/
def c170L0:ACode:=(.seq (.region [.o 11 (.b .lss 10 9)]) (.seq (.cond (.tmp 11) .skip (.exit 0)) (.seq (.block 1 [0,4,5,8,9,10] (.seq (.region [.m 12 10, .o 13 (.i 1 8 10), .o 14 (.l 13), .m 6 12, .m 7 14]) (.seq (.region [.m 15 7, .o 16 (.c .neq 15 (-1))]) (.cond (.tmp 16) (.region [.m 17 4, .m 18 0, .m 19 6, .o 20 (.i 1 18 19), .o 21 (.l 20), .o 22 (.mkSl 3 1 1 [(.tmp 21)]), .o 23 (.app 3 1 8 (.tmp 17) (.tmp 22)), .m 24 5, .m 25 7, .o 26 (.mkSl 3 1 1 [(.tmp 25)]), .o 27 (.app 3 1 8 (.tmp 24) (.tmp 26)), .m 4 23, .m 5 27]) .skip)))) (.region [.o 28 (.c .add 10 1), .m 10 28]))))
def c170:ACode:=(.seq (.region [.o 4 (.mv (.const (.slice none 0 0))), .o 5 (.mv (.const (.slice none 0 0)))]) (.seq (.seq (.region [.m 8 1, .o 9 (.n 8), .k 10 0]) (.block 0 [4,5] (.loop [0,4,5,8,9,10] c170L0))) (.seq (.region [.m 29 4, .m 30 5, .m 4 29, .m 5 30]) .ret)))
def F170:AFun:=⟨c170,2,31,[(.tmp 4),(.tmp 5)]⟩
def K170:Nat→List Nat×List Nat
 |0=>([0,4,5,8,9,10],[4,5])
 |1=>([],[0,4,5,8,9,10])
 |_=>([],[])
theorem F170_ok:kj8 Tryz.prog K170 Tryz.f170=some F170:=by kernel_rfl
/- 171: (*syndrome/field.Field).Pow -/
def c171:ACode:=(.seq (.region [.k 6 0]) (.seq (.seq (.region [.m 7 0, .m 8 1, .o 9 (.q 95 [7,8]), .o 10 (.un .not (.tmp 9)), .m 11 10, .g 12 (.m 1) 11 false, .g 13 (.c .eql 12 0) 11 false, .g 14 (.m 13) 11 false, .g 15 (.m 2) 14 true, .g 16 (.c .lss 15 0) 14 true, .g 17 (.pick (.tmp 14) (.tmp 16) (.const (.bool false))) 11 false, .o 18 (.pick (.tmp 11) (.const (.bool true)) (.tmp 17))]) (.cond (.tmp 18) (.seq (.region [.k 6 (-1)]) .ret) .skip)) (.seq (.seq (.region [.m 19 2, .o 20 (.c .eql 19 0)]) (.cond (.tmp 20) (.seq (.region [.k 6 1]) .ret) .skip)) (.seq (.seq (.region [.m 21 1, .o 22 (.c .eql 21 0)]) (.cond (.tmp 22) (.seq (.region [.k 6 0]) .ret) .skip)) (.seq (.region [.m 23 2, .m 24 0, .o 25 (.nilck (.tmp 24)), .o 26 (.f 0 25), .o 27 (.l 26), .o 28 (.c .sub 27 1), .o 29 (.b .rem 23 28), .m 2 29]) (.seq (.seq (.region [.m 30 2, .o 31 (.c .lss 30 0)]) (.cond (.tmp 31) (.region [.m 32 2, .m 33 0, .o 34 (.nilck (.tmp 33)), .o 35 (.f 0 34), .o 36 (.l 35), .o 37 (.c .sub 36 1), .o 38 (.b .add 32 37), .m 2 38]) .skip)) (.seq (.region [.m 39 0, .o 40 (.nilck (.tmp 39)), .o 41 (.f 5 40), .o 42 (.l 41), .m 43 0, .o 44 (.nilck (.tmp 43)), .o 45 (.f 6 44), .o 46 (.l 45), .m 47 1, .o 48 (.i 1 46 47), .o 49 (.l 48), .m 50 2, .o 51 (.b .mul 49 50), .m 52 0, .o 53 (.nilck (.tmp 52)), .o 54 (.f 0 53), .o 55 (.l 54), .o 56 (.c .sub 55 1), .o 57 (.b .rem 51 56), .o 58 (.i 1 42 57), .o 59 (.l 58), .m 6 59]) .ret)))))))
def F171:AFun:=⟨c171,3,60,[(.tmp 6)]⟩
def K171:Nat→List Nat×List Nat
 |_=>([],[])
theorem F171_ok:kj8 Tryz.prog K171 Tryz.f171=some F171:=by kernel_rfl
/- 172: syndrome/matrix.Solve -/
def c172:ACode:=(.seq (.region [.o 6 (.mv (.const (.slice none 0 0))), .o 7 (.mv (.const (.bool false))), .k 8 0]) (.seq (.region [.m 14 0, .m 15 1, .o 16 (.q 82 [14,15]), .m 9 16]) (.seq (.seq (.region [.m 17 9, .o 18 (.c .neq 17 0)]) (.cond (.tmp 18) (.seq (.region [.m 19 9, .o 6 (.mv (.const (.slice none 0 0))), .o 7 (.mv (.const (.bool false))), .m 8 19]) .ret) .skip)) (.seq (.seq (.region [.m 20 2, .o 21 (.n 20), .m 22 1, .o 23 (.n 22), .o 24 (.b .neq 21 23)]) (.cond (.tmp 24) (.seq (.region [.o 6 (.mv (.const (.slice none 0 0))), .o 7 (.mv (.const (.bool false))), .k 8 6]) .ret) .skip)) (.seq (.region [.m 26 0, .o 27 (.q 81 [26]), .m 25 27, .o 28 (.e 0 25), .o 29 (.e 1 25), .o 10 (.alloc 101 [(.pointer none)]), .n (.st 1 (.tmp 10) (.tmp 28)), .m 11 29]) (.seq (.seq (.region [.m 30 2, .o 31 (.mkf 197 [(.tmp 10)]), .o 32 (.q 61 [30,31])]) (.cond (.tmp 32) (.seq (.region [.o 6 (.mv (.const (.slice none 0 0))), .o 7 (.mv (.const (.bool false))), .k 8 2]) .ret) .skip)) (.seq (.seq (.region [.m 33 1, .o 34 (.n 33), .o 35 (.c .eql 34 0)]) (.cond (.tmp 35) (.seq (.region [.o 6 (.mv (.const (.slice none 0 0))), .o 7 (.mv (.const (.bool true))), .k 8 0]) .ret) .skip)) (.seq (.region [.m 37 0, .m 38 1, .m 39 2, .o 40 (.q 198 [37,38,39]), .m 36 40, .o 41 (.e 0 36), .o 42 (.e 1 36), .m 12 41, .m 13 42]) (.seq (.region [.m 43 12, .m 44 13, .m 6 43, .m 7 44, .k 8 0]) .ret)))))))))
def F172:AFun:=⟨c172,3,45,[(.tmp 6),(.tmp 7),(.tmp 8)]⟩
def K172:Nat→List Nat×List Nat
 |_=>([],[])
theorem F172_ok:kj8 Tryz.prog K172 Tryz.f172=some F172:=by kernel_rfl
/- 173: syndrome/poly.Div -/
def c173:ACode:=(.seq (.region [.o 6 (.mv (.const (.slice none 0 0))), .o 7 (.mv (.const (.slice none 0 0))), .k 8 0]) (.seq (.region [.m 11 0, .m 12 1, .m 13 2, .o 14 (.q 169 [11,12,13]), .m 10 14, .o 15 (.e 0 10), .o 16 (.e 1 10), .o 17 (.e 2 10), .o 18 (.e 3 10), .m 9 15, .m 1 16, .m 2 17, .m 8 18]) (.seq (.seq (.region [.m 19 8, .o 20 (.c .neq 19 0)]) (.cond (.tmp 20) (.seq (.region [.m 21 8, .o 6 (.mv (.const (.slice none 0 0))), .o 7 (.mv (.const (.slice none 0 0))), .m 8 21]) .ret) .skip)) (.seq (.seq (.region [.m 22 2, .o 23 (.n 22), .o 24 (.c .eql 23 0)]) (.cond (.tmp 24) (.seq (.region [.o 6 (.mv (.const (.slice none 0 0))), .o 7 (.mv (.const (.slice none 0 0))), .k 8 5]) .ret) .skip)) (.seq (.region [.m 26 9, .m 27 1, .m 28 2, .o 29 (.q 199 [26,27,28]), .m 25 29, .o 30 (.e 0 25), .o 31 (.e 1 25), .m 6 30, .m 7 31]) (.seq (.region [.m 32 6, .m 33 7, .m 6 32, .m 7 33, .k 8 0]) .ret))))))
def F173:AFun:=⟨c173,3,34,[(.tmp 6),(.tmp 7),(.tmp 8)]⟩
def K173:Nat→List Nat×List Nat
 |_=>([],[])
theorem F173_ok:kj8 Tryz.prog K173 Tryz.f173=some F173:=by kernel_rfl
/- 174: syndrome/reed.told -/
def c174:ACode:=(.seq (.region [.o 10 (.mv (.const (.slice none 0 0))), .k 11 0, .o 12 (.mv (.const (.bool false))), .k 13 0]) (.seq (.region [.m 17 0, .m 18 1, .m 19 2, .m 20 3, .m 21 4, .o 22 (.q 200 [17,18,19,20,21]), .m 16 22, .o 23 (.e 0 16), .o 24 (.e 1 16), .m 14 23, .m 15 24]) (.seq (.seq (.region [.m 25 15, .o 26 (.un .not (.tmp 25))]) (.cond (.tmp 26) (.seq (.region [.o 10 (.mv (.const (.slice none 0 0))), .k 11 0, .o 12 (.mv (.const (.bool false))), .k 13 0]) .ret) .skip)) (.seq (.region [.m 27 3, .m 28 4, .o 29 (.q 201 [27,28]), .m 30 14, .m 10 29, .m 11 30, .o 12 (.mv (.const (.bool true))), .k 13 0]) .ret))))
def F174:AFun:=⟨c174,5,31,[(.tmp 10),(.tmp 11),(.tmp 12),(.tmp 13)]⟩
def K174:Nat→List Nat×List Nat
 |_=>([],[])
theorem F174_ok:kj8 Tryz.prog K174 Tryz.f174=some F174:=by kernel_rfl
/- 175: syndrome/poly.Mul -/
def c175:ACode:=(.seq (.region [.o 6 (.mv (.const (.slice none 0 0))), .k 7 0]) (.seq (.region [.m 11 0, .m 12 1, .m 13 2, .o 14 (.q 169 [11,12,13]), .m 10 14, .o 15 (.e 0 10), .o 16 (.e 1 10), .o 17 (.e 2 10), .o 18 (.e 3 10), .m 8 15, .m 1 16, .m 2 17, .m 9 18]) (.seq (.seq (.region [.m 19 9, .o 20 (.c .neq 19 0)]) (.cond (.tmp 20) (.seq (.region [.m 21 9, .o 6 (.mv (.const (.slice none 0 0))), .m 7 21]) .ret) .skip)) (.seq (.seq (.region [.m 22 1, .o 23 (.n 22), .o 24 (.c .eql 23 0), .m 25 24, .g 26 (.m 2) 25 false, .g 27 (.n 26) 25 false, .g 28 (.c .eql 27 0) 25 false, .o 29 (.pick (.tmp 25) (.const (.bool true)) (.tmp 28))]) (.cond (.tmp 29) (.seq (.region [.o 6 (.mv (.const (.slice none 0 0))), .k 7 0]) .ret) .skip)) (.seq (.seq (.region [.m 30 1, .o 31 (.n 30), .m 32 2, .o 33 (.n 32), .o 34 (.b .add 31 33), .o 35 (.c .sub 34 1), .o 36 (.c .gtr 35 128)]) (.cond (.tmp 36) (.seq (.region [.o 6 (.mv (.const (.slice none 0 0))), .k 7 4]) .ret) .skip)) (.seq (.region [.m 37 8, .m 38 1, .m 39 2, .o 40 (.q 202 [37,38,39]), .m 6 40, .k 7 0]) .ret))))))
def F175:AFun:=⟨c175,3,41,[(.tmp 6),(.tmp 7)]⟩
def K175:Nat→List Nat×List Nat
 |_=>([],[])
theorem F175_ok:kj8 Tryz.prog K175 Tryz.f175=some F175:=by kernel_rfl
/- 176: syndrome/poly.Through -/
def c176L0:ACode:=(.seq (.region [.o 81 (.b .lss 80 79)]) (.seq (.cond (.tmp 81) .skip (.exit 2)) (.seq (.block 3 [0,1,2,8,12,13,14,15,20,21,41,42,43,79,80] (.seq (.region [.m 82 80, .m 22 82]) (.region [.m 83 21, .m 84 22, .m 85 8, .m 86 21, .m 87 22, .o 88 (.i 1 86 87), .o 89 (.l 88), .m 90 20, .o 91 (.q 157 [85,89,90]), .o 92 (.i 1 83 84), .n (.st 1 (.tmp 92) (.tmp 91))]))) (.region [.o 93 (.c .add 80 1), .m 80 93]))))
def c176L1:ACode:=(.seq (.region [.o 44 (.b .lss 43 42)]) (.seq (.cond (.tmp 44) .skip (.exit 0)) (.seq (.block 1 [0,1,2,8,12,13,41,42,43] (.seq (.region [.m 45 43, .o 46 (.i 1 41 43), .o 47 (.l 46), .m 14 45, .m 15 47]) (.seq (.region [.m 49 0, .m 50 13, .m 51 15, .o 52 (.q 105 [49,50,51]), .m 48 52, .o 53 (.e 0 48), .o 54 (.e 1 48), .m 16 53, .m 17 54]) (.seq (.seq (.region [.m 55 16, .o 56 (.c .eql 55 0)]) (.cond (.tmp 56) (.seq (.region [.o 6 (.mv (.const (.slice none 0 0))), .k 7 7]) .ret) .skip)) (.seq (.region [.m 58 0, .m 59 12, .m 60 15, .o 61 (.q 105 [58,59,60]), .m 57 61, .o 62 (.e 0 57), .o 63 (.e 1 57), .m 18 62, .m 19 63]) (.seq (.region [.m 64 8, .m 65 8, .m 66 2, .m 67 14, .o 68 (.i 1 66 67), .o 69 (.l 68), .m 70 18, .o 71 (.q 166 [65,69,70]), .m 72 8, .m 73 16, .o 74 (.q 146 [72,73]), .o 75 (.q 157 [64,71,74]), .m 20 75]) (.seq (.region [.m 76 13, .o 77 (.q 65 [76]), .m 21 77]) (.seq (.seq (.region [.m 78 21, .o 79 (.n 78), .k 80 0]) (.block 2 [0,1,2,8,12,13,14,15,21,41,42,43] (.loop [0,1,2,8,12,13,14,15,20,21,41,42,43,79,80] c176L0))) (.seq (.region [.m 95 0, .m 96 12, .m 97 21, .o 98 (.q 177 [95,96,97]), .m 94 98, .o 99 (.e 0 94), .o 100 (.e 1 94), .m 12 99]) (.seq (.region [.m 101 14, .o 102 (.c .add 101 1), .m 103 1, .o 104 (.n 103), .o 105 (.b .lss 102 104)]) (.cond (.tmp 105) (.region [.m 106 8, .m 107 13, .m 108 8, .m 109 15, .o 110 (.q 148 [108,109]), .o 111 (.mkSl 3 1 2 [(.tmp 110),(.const (.int .i64 1))]), .o 112 (.q 202 [106,107,111]), .m 13 112]) .skip))))))))))) (.region [.o 113 (.c .add 43 1), .m 43 113]))))
def c176:ACode:=(.seq (.region [.o 6 (.mv (.const (.slice none 0 0))), .k 7 0]) (.seq (.region [.m 24 0, .m 25 1, .m 26 2, .o 27 (.q 169 [24,25,26]), .m 23 27, .o 28 (.e 0 23), .o 29 (.e 1 23), .o 30 (.e 2 23), .o 31 (.e 3 23), .m 8 28, .m 9 29, .m 10 30, .m 11 31]) (.seq (.seq (.region [.m 32 11, .o 33 (.c .neq 32 0)]) (.cond (.tmp 33) (.seq (.region [.m 34 11, .o 6 (.mv (.const (.slice none 0 0))), .m 7 34]) .ret) .skip)) (.seq (.seq (.region [.m 35 1, .o 36 (.n 35), .m 37 2, .o 38 (.n 37), .o 39 (.b .neq 36 38)]) (.cond (.tmp 39) (.seq (.region [.o 6 (.mv (.const (.slice none 0 0))), .k 7 6]) .ret) .skip)) (.seq (.region [.o 12 (.mv (.const (.slice none 0 0)))]) (.seq (.region [.o 40 (.mkSl 3 1 1 [(.const (.int .i64 1))]), .m 13 40]) (.seq (.seq (.region [.m 41 1, .o 42 (.n 41), .k 43 0]) (.block 0 [12] (.loop [0,1,2,8,12,13,41,42,43] c176L1))) (.seq (.region [.m 114 12, .m 6 114, .k 7 0]) .ret))))))))
def F176:AFun:=⟨c176,3,115,[(.tmp 6),(.tmp 7)]⟩
def K176:Nat→List Nat×List Nat
 |0=>([0,1,2,8,12,13,41,42,43],[12])
 |1=>([],[0,1,2,8,12,13,41,42,43])
 |2=>([0,1,2,8,12,13,14,15,20,21,41,42,43,79,80],[0,1,2,8,12,13,14,15,21,41,42,43])
 |3=>([],[0,1,2,8,12,13,14,15,20,21,41,42,43,79,80])
 |_=>([],[])
theorem F176_ok:kj8 Tryz.prog K176 Tryz.f176=some F176:=by kernel_rfl
/- 177: syndrome/poly.Add -/
def c177L0:ACode:=(.seq (.region [.o 34 (.b .lss 33 32)]) (.seq (.cond (.tmp 34) .skip (.exit 0)) (.seq (.block 1 [1,8,31,32,33] (.seq (.region [.m 35 33, .o 36 (.i 1 31 33), .o 37 (.l 36), .m 10 35, .m 11 37]) (.region [.m 38 1, .m 39 10, .m 40 8, .m 41 1, .m 42 10, .o 43 (.i 1 41 42), .o 44 (.l 43), .m 45 11, .o 46 (.q 156 [40,44,45]), .o 47 (.i 1 38 39), .n (.st 1 (.tmp 47) (.tmp 46))]))) (.region [.o 48 (.c .add 33 1), .m 33 48]))))
def c177:ACode:=(.seq (.region [.o 6 (.mv (.const (.slice none 0 0))), .k 7 0]) (.seq (.region [.m 13 0, .m 14 1, .m 15 2, .o 16 (.q 169 [13,14,15]), .m 12 16, .o 17 (.e 0 12), .o 18 (.e 1 12), .o 19 (.e 2 12), .o 20 (.e 3 12), .m 8 17, .m 1 18, .m 2 19, .m 9 20]) (.seq (.seq (.region [.m 21 9, .o 22 (.c .neq 21 0)]) (.cond (.tmp 22) (.seq (.region [.m 23 9, .o 6 (.mv (.const (.slice none 0 0))), .m 7 23]) .ret) .skip)) (.seq (.seq (.region [.m 24 1, .o 25 (.n 24), .m 26 2, .o 27 (.n 26), .o 28 (.b .lss 25 27)]) (.cond (.tmp 28) (.region [.m 29 2, .m 30 1, .m 1 29, .m 2 30]) .skip)) (.seq (.seq (.region [.m 31 2, .o 32 (.n 31), .k 33 0]) (.block 0 [1] (.loop [1,8,31,32,33] c177L0))) (.seq (.region [.m 49 1, .o 50 (.q 196 [49]), .m 6 50, .k 7 0]) .ret))))))
def F177:AFun:=⟨c177,3,51,[(.tmp 6),(.tmp 7)]⟩
def K177:Nat→List Nat×List Nat
 |0=>([1,8,31,32,33],[1])
 |1=>([],[1,8,31,32,33])
 |_=>([],[])
theorem F177_ok:kj8 Tryz.prog K177 Tryz.f177=some F177:=by kernel_rfl
/- 178: syndrome/syndromeref.Trim -/
def c178L0:ACode:=(.seq (.seq (.region [.m 6 3, .o 7 (.c .gtr 6 0), .m 8 7, .g 9 (.m 0) 8 true, .g 10 (.m 3) 8 true, .g 11 (.c .sub 10 1) 8 true, .g 12 (.i 1 9 11) 8 true, .g 13 (.l 12) 8 true, .g 14 (.c .eql 13 0) 8 true, .o 15 (.pick (.tmp 8) (.tmp 14) (.const (.bool false)))]) (.cond (.tmp 15) .skip (.exit 0))) (.block 1 [0,3] (.region [.m 16 3, .o 17 (.c .sub 16 1), .m 3 17])))
def c178:ACode:=(.seq (.region [.o 2 (.mv (.const (.slice none 0 0)))]) (.seq (.region [.m 4 0, .o 5 (.n 4), .m 3 5]) (.seq (.block 0 [0,3] (.loop [0,3] c178L0)) (.seq (.region [.m 18 0, .m 19 3, .o 20 (.sl 1 (.tmp 18) none (some (.tmp 19))), .o 21 (.q 138 [20]), .m 2 21]) .ret))))
def F178:AFun:=⟨c178,1,22,[(.tmp 2)]⟩
def K178:Nat→List Nat×List Nat
 |0=>([0,3],[0,3])
 |1=>([],[0,3])
 |_=>([],[])
theorem F178_ok:kj8 Tryz.prog K178 Tryz.f178=some F178:=by kernel_rfl
/- 179: syndrome/syndromeref.PDiv -/
def c179L0:ACode:=(.seq (.seq (.region [.m 60 12, .m 61 2, .o 62 (.n 61), .o 63 (.b .lss 60 62)]) (.cond (.tmp 63) .skip (.exit 2))) (.seq (.block 3 [1,2,3,8,9,10,11,12] (.region [.m 66 1, .m 67 10, .m 68 12, .o 69 (.b .add 67 68), .o 70 (.ld true 5 (.tmp 3)), .m 71 1, .m 72 10, .m 73 12, .o 74 (.b .add 72 73), .o 75 (.i 1 71 74), .o 76 (.l 75), .o 77 (.ld true 5 (.tmp 3)), .m 78 11, .m 79 2, .m 80 12, .o 81 (.i 1 79 80), .o 82 (.l 81),⟨(some 83),(.call 126 [(.tmp 77),(.tmp 78),(.tmp 82)]),none,true⟩, .o 84 (.q 160 [70,76,83]), .o 85 (.i 1 66 69), .n (.st 1 (.tmp 85) (.tmp 84))])) (.region [.m 64 12, .o 65 (.c .add 64 1), .m 12 65])))
def c179L1:ACode:=(.seq (.seq (.region [.m 37 1, .o 38 (.n 37), .m 39 2, .o 40 (.n 39), .o 41 (.b .geq 38 40)]) (.cond (.tmp 41) .skip (.exit 0))) (.block 1 [1,2,3,8,9] (.seq (.region [.m 42 1, .o 43 (.n 42), .m 44 2, .o 45 (.n 44), .o 46 (.b .sub 43 45), .m 10 46]) (.seq (.region [.o 47 (.ld true 5 (.tmp 3)), .m 48 1, .m 49 1, .o 50 (.n 49), .o 51 (.c .sub 50 1), .o 52 (.i 1 48 51), .o 53 (.l 52), .m 54 9, .o 55 (.q 126 [47,53,54]), .m 11 55]) (.seq (.region [.m 56 8, .m 57 10, .m 58 11, .o 59 (.i 1 56 57), .n (.st 1 (.tmp 59) (.tmp 58))]) (.seq (.seq (.region [.k 12 0]) (.block 2 [1,2,3,8,9] (.loop [1,2,3,8,9,10,11,12] c179L0))) (.region [.m 86 1, .o 87 (.q 178 [86]), .m 1 87])))))))
def c179:ACode:=(.seq (.region [.o 3 (.box 52 5 (.tmp 0)), .o 6 (.mv (.const (.slice none 0 0))), .o 7 (.mv (.const (.slice none 0 0)))]) (.seq (.region [.m 13 1, .o 14 (.q 178 [13]), .m 1 14]) (.seq (.region [.m 15 2, .o 16 (.q 178 [15]), .m 2 16]) (.seq (.region [.o 8 (.mv (.const (.slice none 0 0)))]) (.seq (.seq (.region [.m 17 1, .o 18 (.n 17), .m 19 2, .o 20 (.n 19), .o 21 (.b .geq 18 20)]) (.cond (.tmp 21) (.region [.m 22 1, .o 23 (.n 22), .m 24 2, .o 25 (.n 24), .o 26 (.b .sub 23 25), .o 27 (.c .add 26 1), .o 28 (.mks 3 1 8 [(.int .i64 0)] (.tmp 27) (.tmp 27)), .m 8 28]) .skip)) (.seq (.region [.o 29 (.ld true 5 (.tmp 3)), .m 30 2, .m 31 2, .o 32 (.n 31), .o 33 (.c .sub 32 1), .o 34 (.i 1 30 33), .o 35 (.l 34), .o 36 (.q 140 [29,35]), .m 9 36]) (.seq (.block 0 [1,8] (.loop [1,2,3,8,9] c179L1)) (.seq (.region [.m 88 8, .o 89 (.q 178 [88]), .m 90 1, .m 6 89, .m 7 90]) .ret))))))))
def F179:AFun:=⟨c179,3,91,[(.tmp 6),(.tmp 7)]⟩
def K179:Nat→List Nat×List Nat
 |0=>([1,2,3,8,9],[1,8])
 |1=>([],[1,2,3,8,9])
 |2=>([1,2,3,8,9,10,11,12],[1,2,3,8,9])
 |3=>([],[1,2,3,8,9,10,11,12])
 |_=>([],[])
theorem F179_ok:kj8 Tryz.prog K179 Tryz.f179=some F179:=by kernel_rfl
/- 180: syndrome/syndromeref.Off -/
def c180L0:ACode:=(.seq (.seq (.region [.m 13 12, .m 14 2, .o 15 (.n 14), .o 16 (.b .lss 13 15)]) (.cond (.tmp 16) .skip (.exit 0))) (.seq (.block 1 [1,2,3,4,10,11,12] (.seq (.seq (.region [.m 19 2, .m 20 12, .o 21 (.i 1 19 20), .o 22 (.l 21), .o 23 (.c .eql 22 (-1))]) (.cond (.tmp 23) (.exit 1) .skip)) (.seq (.region [.m 24 11, .o 25 (.c .add 24 1), .m 11 25]) (.seq (.region [.o 26 (.ld true 5 (.tmp 4)), .m 27 3, .m 28 1, .m 29 12, .o 30 (.i 1 28 29), .o 31 (.l 30),⟨(some 32),(.call 103 [(.tmp 26),(.tmp 27),(.tmp 31)]),none,true⟩, .m 33 2, .m 34 12, .o 35 (.i 1 33 34),⟨(some 36),(.ld false 1 (.tmp 35)),none,true⟩, .o 37 (.b .neq 32 36)]) (.cond (.tmp 37) (.region [.m 38 10, .o 39 (.c .add 38 1), .m 10 39]) .skip))))) (.region [.m 17 12, .o 18 (.c .add 17 1), .m 12 18])))
def c180:ACode:=(.seq (.region [.o 4 (.box 52 5 (.tmp 0)), .k 8 0, .k 9 0]) (.seq (.region [.k 10 0]) (.seq (.region [.k 11 0]) (.seq (.seq (.region [.k 12 0]) (.block 0 [10,11] (.loop [1,2,3,4,10,11,12] c180L0))) (.seq (.region [.m 40 10, .m 41 11, .m 8 40, .m 9 41]) .ret)))))
def F180:AFun:=⟨c180,4,42,[(.tmp 8),(.tmp 9)]⟩
def K180:Nat→List Nat×List Nat
 |0=>([1,2,3,4,10,11,12],[10,11])
 |1=>([],[1,2,3,4,10,11,12])
 |_=>([],[])
theorem F180_ok:kj8 Tryz.prog K180 Tryz.f180=some F180:=by kernel_rfl
/- 185: syndrome/syndromeref.Number -/
def c185L0:ACode:=(.seq (.seq (.region [.m 10 6, .o 11 (.c .geq 10 0)]) (.cond (.tmp 11) .skip (.exit 0))) (.seq (.block 1 [0,1,5,6] (.region [.m 14 5, .m 15 1, .o 16 (.b .mul 14 15), .m 17 0, .m 18 6, .o 19 (.i 1 17 18), .o 20 (.l 19), .o 21 (.b .add 16 20), .m 5 21])) (.region [.m 12 6, .o 13 (.c .sub 12 1), .m 6 13])))
def c185:ACode:=(.seq (.region [.k 4 0]) (.seq (.region [.k 5 0]) (.seq (.seq (.region [.m 7 0, .o 8 (.n 7), .o 9 (.c .sub 8 1), .m 6 9]) (.block 0 [5] (.loop [0,1,5,6] c185L0))) (.seq (.region [.m 22 5, .m 4 22]) .ret))))
def F185:AFun:=⟨c185,2,23,[(.tmp 4)]⟩
def K185:Nat→List Nat×List Nat
 |0=>([0,1,5,6],[5])
 |1=>([],[0,1,5,6])
 |_=>([],[])
theorem F185_ok:kj8 Tryz.prog K185 Tryz.f185=some F185:=by kernel_rfl
/- 192: syndrome/field.prime -/
def c192L0:ACode:=(.seq (.seq (.region [.m 4 0, .m 5 2, .o 6 (.b .rem 4 5), .o 7 (.c .neq 6 0)]) (.cond (.tmp 7) .skip (.exit 0))) (.block 1 [0,2,3] (.region [.m 8 2, .o 9 (.c .add 8 1), .m 2 9])))
def c192L1:ACode:=(.seq (.seq (.region [.m 10 0, .m 11 2, .o 12 (.b .rem 10 11), .o 13 (.c .eql 12 0)]) (.cond (.tmp 13) .skip (.exit 2))) (.seq (.block 3 [0,2,3] (.region [.m 17 3, .o 18 (.c .add 17 1), .m 3 18])) (.region [.m 14 0, .m 15 2, .o 16 (.b .quo 14 15), .m 0 16])))
def c192:ACode:=(.seq (.region [.k 2 0, .k 3 0]) (.seq (.region [.k 2 2]) (.seq (.block 0 [0,2,3] (.loop [0,2,3] c192L0)) (.seq (.block 2 [0,2,3] (.loop [0,2,3] c192L1)) (.seq (.seq (.region [.m 19 0, .o 20 (.c .neq 19 1)]) (.cond (.tmp 20) (.seq (.region [.k 2 0, .k 3 0]) .ret) .skip)) (.seq (.region [.m 21 2, .m 22 3, .m 2 21, .m 3 22]) .ret))))))
def F192:AFun:=⟨c192,1,23,[(.tmp 2),(.tmp 3)]⟩
def K192:Nat→List Nat×List Nat
 |0=>([0,2,3],[0,2,3])
 |1=>([],[0,2,3])
 |2=>([0,2,3],[0,2,3])
 |3=>([],[0,2,3])
 |_=>([],[])
theorem F192_ok:kj8 Tryz.prog K192 Tryz.f192=some F192:=by kernel_rfl
/- 193: (*syndrome/field.Field).fill -/
def c193L0:ACode:=(.seq (.region [.o 29 (.b .lss 28 27)]) (.seq (.cond (.tmp 29) .skip (.exit 0)) (.seq (.block 1 [0,27,28] (.seq (.region [.m 30 28, .m 3 30]) (.region [.m 31 0, .o 32 (.nilck (.tmp 31)), .o 33 (.f 6 32), .o 34 (.l 33), .m 35 3, .o 36 (.i 1 34 35), .n (.st 1 (.tmp 36) (.const (.int .i64 (-1))))]))) (.region [.o 37 (.c .add 28 1), .m 28 37]))))
def c193L1:ACode:=(.seq (.region [.o 44 (.b .lss 43 42)]) (.seq (.cond (.tmp 44) .skip (.exit 2)) (.seq (.block 3 [0,4,42,43] (.seq (.region [.m 45 43, .m 5 45]) (.seq (.seq (.region [.m 46 4, .o 47 (.c .eql 46 0), .m 48 47, .g 49 (.m 0) 48 false, .g 50 (.nilck (.tmp 49)) 48 false, .g 51 (.f 6 50) 48 false, .g 52 (.l 51) 48 false, .g 53 (.m 4) 48 false, .g 54 (.i 1 52 53) 48 false, .g 55 (.l 54) 48 false, .g 56 (.c .geq 55 0) 48 false, .o 57 (.pick (.tmp 48) (.const (.bool true)) (.tmp 56))]) (.cond (.tmp 57) (.seq (.region [.o 2 (.mv (.const (.bool false)))]) .ret) .skip)) (.seq (.region [.m 58 0, .o 59 (.nilck (.tmp 58)), .o 60 (.f 5 59), .o 61 (.l 60), .m 62 5, .m 63 0, .o 64 (.nilck (.tmp 63)), .o 65 (.f 6 64), .o 66 (.l 65), .m 67 4, .m 68 4, .m 69 5, .o 70 (.i 1 61 62), .n (.st 1 (.tmp 70) (.tmp 68)), .o 71 (.i 1 66 67), .n (.st 1 (.tmp 71) (.tmp 69))]) (.region [.m 72 0, .m 73 4, .o 74 (.q 209 [72,73]), .m 4 74]))))) (.region [.o 75 (.c .add 43 1), .m 43 75]))))
def c193:ACode:=(.seq (.region [.o 2 (.mv (.const (.bool false)))]) (.seq (.region [.m 6 0, .m 7 0, .o 8 (.nilck (.tmp 7)), .o 9 (.f 0 8), .o 10 (.l 9), .o 11 (.c .sub 10 1), .o 12 (.mks 3 1 8 [(.int .i64 0)] (.tmp 11) (.tmp 11)), .o 13 (.nilck (.tmp 6)), .o 14 (.f 5 13), .n (.st 1 (.tmp 14) (.tmp 12))]) (.seq (.region [.m 15 0, .m 16 0, .o 17 (.nilck (.tmp 16)), .o 18 (.f 0 17), .o 19 (.l 18), .o 20 (.mks 3 1 8 [(.int .i64 0)] (.tmp 19) (.tmp 19)), .o 21 (.nilck (.tmp 15)), .o 22 (.f 6 21), .n (.st 1 (.tmp 22) (.tmp 20))]) (.seq (.seq (.region [.m 23 0, .o 24 (.nilck (.tmp 23)), .o 25 (.f 6 24), .o 26 (.l 25), .o 27 (.n 26), .k 28 0]) (.block 0 [0] (.loop [0,27,28] c193L0))) (.seq (.region [.k 4 1]) (.seq (.seq (.region [.m 38 0, .o 39 (.nilck (.tmp 38)), .o 40 (.f 0 39), .o 41 (.l 40), .o 42 (.c .sub 41 1), .k 43 0]) (.block 2 [4] (.loop [0,4,42,43] c193L1))) (.seq (.region [.m 76 4, .o 77 (.c .eql 76 1), .m 2 77]) .ret)))))))
def F193:AFun:=⟨c193,1,78,[(.tmp 2)]⟩
def K193:Nat→List Nat×List Nat
 |0=>([0,27,28],[0])
 |1=>([],[0,27,28])
 |2=>([0,4,42,43],[4])
 |3=>([],[0,4,42,43])
 |_=>([],[])
theorem F193_ok:kj8 Tryz.prog K193 Tryz.f193=some F193:=by kernel_rfl
/- 194: syndrome/field.digits -/
def c194L0:ACode:=(.seq (.region [.o 14 (.b .lss 13 12)]) (.seq (.cond (.tmp 14) .skip (.exit 0)) (.seq (.block 1 [0,1,7,12,13] (.seq (.region [.m 15 13, .m 8 15]) (.seq (.region [.m 16 7, .m 17 8, .m 18 0, .m 19 1, .o 20 (.b .rem 18 19), .o 21 (.i 1 16 17), .n (.st 1 (.tmp 21) (.tmp 20))]) (.region [.m 22 0, .m 23 1, .o 24 (.b .quo 22 23), .m 0 24])))) (.region [.o 25 (.c .add 13 1), .m 13 25]))))
def c194:ACode:=(.seq (.region [.o 6 (.mv (.const (.slice none 0 0)))]) (.seq (.region [.m 9 2, .o 10 (.mks 3 1 8 [(.int .i64 0)] (.tmp 9) (.tmp 9)), .m 7 10]) (.seq (.seq (.region [.m 11 7, .o 12 (.n 11), .k 13 0]) (.block 0 [7] (.loop [0,1,7,12,13] c194L0))) (.seq (.region [.m 26 7, .m 6 26]) .ret))))
def F194:AFun:=⟨c194,3,27,[(.tmp 6)]⟩
def K194:Nat→List Nat×List Nat
 |0=>([0,1,7,12,13],[7])
 |1=>([],[0,1,7,12,13])
 |_=>([],[])
theorem F194_ok:kj8 Tryz.prog K194 Tryz.f194=some F194:=by kernel_rfl
/- 196: syndrome/poly.trim -/
def c196L0:ACode:=(.seq (.seq (.region [.m 6 3, .o 7 (.c .gtr 6 0), .m 8 7, .g 9 (.m 0) 8 true, .g 10 (.m 3) 8 true, .g 11 (.c .sub 10 1) 8 true, .g 12 (.i 1 9 11) 8 true, .g 13 (.l 12) 8 true, .g 14 (.c .eql 13 0) 8 true, .o 15 (.pick (.tmp 8) (.tmp 14) (.const (.bool false)))]) (.cond (.tmp 15) .skip (.exit 0))) (.block 1 [0,3] (.region [.m 16 3, .o 17 (.c .sub 16 1), .m 3 17])))
def c196:ACode:=(.seq (.region [.o 2 (.mv (.const (.slice none 0 0)))]) (.seq (.region [.m 4 0, .o 5 (.n 4), .m 3 5]) (.seq (.block 0 [0,3] (.loop [0,3] c196L0)) (.seq (.region [.m 18 0, .m 19 3, .o 20 (.sl 1 (.tmp 18) none (some (.tmp 19))), .o 21 (.q 65 [20]), .m 2 21]) .ret))))
def F196:AFun:=⟨c196,1,22,[(.tmp 2)]⟩
def K196:Nat→List Nat×List Nat
 |0=>([0,3],[0,3])
 |1=>([],[0,3])
 |_=>([],[])
theorem F196_ok:kj8 Tryz.prog K196 Tryz.f196=some F196:=by kernel_rfl
/- 197: syndrome/matrix.Solve$1 -/
def c197:ACode:=(.seq (.region [.o 3 (.mv (.const (.bool false)))]) (.seq (.region [.o 4 (.l 1), .m 5 0, .o 6 (.q 95 [4,5]), .o 7 (.un .not (.tmp 6)), .m 3 7]) .ret))
def F197:AFun:=⟨c197,2,8,[(.tmp 3)]⟩
def K197:Nat→List Nat×List Nat
 |_=>([],[])
theorem F197_ok:kj8 Tryz.prog K197 Tryz.f197=some F197:=by kernel_rfl
/- 198: syndrome/matrix.solve -/
def c198L0:ACode:=(.seq (.region [.o 38 (.b .lss 37 36)]) (.seq (.cond (.tmp 38) .skip (.exit 0)) (.seq (.block 1 [1,2,8,10,11,36,37] (.seq (.region [.m 39 37, .m 12 39]) (.region [.m 40 11, .m 41 12, .m 42 1, .m 43 12, .o 44 (.i 1 42 43), .o 45 (.l 44),⟨(some 46),(.call 65 [(.tmp 45)]),none,true⟩, .m 47 2, .m 48 12, .o 49 (.i 1 47 48),⟨(some 50),(.ld false 1 (.tmp 49)),none,true⟩, .o 51 (.mkSl 3 1 1 [(.tmp 50)]), .o 52 (.app 3 1 8 (.tmp 46) (.tmp 51)), .o 53 (.i 1 40 41), .n (.st 1 (.tmp 53) (.tmp 52))]))) (.region [.o 54 (.c .add 37 1), .m 37 54]))))
def c198L1:ACode:=(.seq (.region [.o 104 (.b .lss 103 102)]) (.seq (.cond (.tmp 104) .skip (.exit 4)) (.seq (.block 5 [8,10,11,13,14,15,55,56,102,103] (.seq (.region [.m 105 103, .m 17 105]) (.seq (.region [.m 106 17, .m 107 15, .o 108 (.b .neq 106 107)]) (.cond (.tmp 108) (.region [.m 109 8, .m 110 11, .m 111 17, .o 112 (.i 1 110 111), .o 113 (.l 112), .m 114 11, .m 115 15, .o 116 (.i 1 114 115), .o 117 (.l 116), .m 118 11, .m 119 17, .o 120 (.i 1 118 119), .o 121 (.l 120), .o 122 (.l 14), .o 123 (.i 1 121 122), .o 124 (.l 123), .o 125 (.q 147 [109,113,117,124])]) .skip)))) (.region [.o 126 (.c .add 103 1), .m 103 126]))))
def c198L2:ACode:=(.seq (.region [.o 57 (.b .lss 56 55)]) (.seq (.cond (.tmp 57) .skip (.exit 2)) (.seq (.block 3 [8,10,11,13,55,56] (.seq (.region [.m 58 56, .o 14 (.alloc 3 [(.int .i64 0)]), .n (.st 1 (.tmp 14) (.tmp 58))]) (.seq (.region [.m 59 13, .o 60 (.n 59), .m 15 60]) (.seq (.region [.m 61 11, .m 62 15, .o 63 (.sl 1 (.tmp 61) (some (.tmp 62)) none), .o 64 (.mkf 210 [(.tmp 14)]), .o 65 (.q 143 [63,64]), .m 16 65]) (.seq (.seq (.region [.m 66 16, .o 67 (.c .lss 66 0)]) (.cond (.tmp 67) (.exit 3) .skip)) (.seq (.region [.m 68 11, .m 69 15, .m 70 11, .m 71 15, .m 72 16, .o 73 (.b .add 71 72), .m 74 11, .m 75 15, .m 76 16, .o 77 (.b .add 75 76), .o 78 (.i 1 74 77), .o 79 (.l 78), .m 80 11, .m 81 15, .o 82 (.i 1 80 81), .o 83 (.l 82), .o 84 (.i 1 68 69), .n (.st 1 (.tmp 84) (.tmp 79)), .o 85 (.i 1 70 73), .n (.st 1 (.tmp 85) (.tmp 83))]) (.seq (.region [.m 86 8, .m 87 11, .m 88 15, .o 89 (.i 1 87 88), .o 90 (.l 89), .m 91 8, .m 92 11, .m 93 15, .o 94 (.i 1 92 93), .o 95 (.l 94), .o 96 (.l 14), .o 97 (.i 1 95 96), .o 98 (.l 97),⟨(some 99),(.call 146 [(.tmp 91),(.tmp 98)]),none,true⟩, .o 100 (.q 145 [86,90,99])]) (.seq (.seq (.region [.m 101 11, .o 102 (.n 101), .k 103 0]) (.block 4 [8,10,11,13,14,55,56] (.loop [8,10,11,13,14,15,55,56,102,103] c198L1))) (.region [.m 127 13, .o 128 (.l 14), .o 129 (.mkSl 3 1 1 [(.tmp 128)]), .o 130 (.app 3 1 8 (.tmp 127) (.tmp 129)), .m 13 130]))))))))) (.region [.o 131 (.c .add 56 1), .m 56 131]))))
def c198L3:ACode:=(.seq (.region [.o 138 (.b .lss 137 136)]) (.seq (.cond (.tmp 138) .skip (.exit 6)) (.seq (.block 7 [10,11,13,135,136,137] (.seq (.region [.o 139 (.i 1 135 137), .o 140 (.l 139), .m 19 140]) (.seq (.region [.m 141 19, .m 142 10, .o 143 (.i 1 141 142), .o 144 (.l 143), .o 145 (.c .neq 144 0)]) (.cond (.tmp 145) (.seq (.region [.o 6 (.mv (.const (.slice none 0 0))), .o 7 (.mv (.const (.bool false)))]) .ret) .skip)))) (.region [.o 146 (.c .add 137 1), .m 137 146]))))
def c198L4:ACode:=(.seq (.region [.o 152 (.b .lss 151 150)]) (.seq (.cond (.tmp 152) .skip (.exit 8)) (.seq (.block 9 [10,11,20,149,150,151] (.seq (.region [.m 153 151, .o 154 (.i 1 149 151), .o 155 (.l 154), .m 21 153, .m 22 155]) (.region [.m 156 20, .m 157 22, .m 158 11, .m 159 21, .o 160 (.i 1 158 159), .o 161 (.l 160), .m 162 10, .o 163 (.i 1 161 162), .o 164 (.l 163), .o 165 (.i 1 156 157), .n (.st 1 (.tmp 165) (.tmp 164))]))) (.region [.o 166 (.c .add 151 1), .m 151 166]))))
def c198:ACode:=(.seq (.region [.o 6 (.mv (.const (.slice none 0 0))), .o 7 (.mv (.const (.bool false)))]) (.seq (.region [.m 24 0, .o 25 (.q 81 [24]), .m 23 25, .o 26 (.e 0 23), .o 27 (.e 1 23), .m 8 26, .m 9 27]) (.seq (.region [.m 28 1, .o 29 (.iaddr 1 (.tmp 28) (.const (.int .i64 0))), .o 30 (.l 29), .o 31 (.n 30), .m 10 31]) (.seq (.region [.m 32 1, .o 33 (.n 32), .o 34 (.mks 22 1 24 [(.slice none 0 0)] (.tmp 33) (.tmp 33)), .m 11 34]) (.seq (.seq (.region [.m 35 1, .o 36 (.n 35), .k 37 0]) (.block 0 [8,10,11] (.loop [1,2,8,10,11,36,37] c198L0))) (.seq (.region [.o 13 (.mv (.const (.slice none 0 0)))]) (.seq (.seq (.region [.m 55 10, .k 56 0]) (.block 2 [10,11,13] (.loop [8,10,11,13,55,56] c198L2))) (.seq (.seq (.region [.m 132 11, .m 133 13, .o 134 (.n 133), .o 135 (.sl 1 (.tmp 132) (some (.tmp 134)) none), .o 136 (.n 135), .k 137 0]) (.block 6 [10,11,13] (.loop [10,11,13,135,136,137] c198L3))) (.seq (.region [.m 147 10, .o 148 (.mks 3 1 8 [(.int .i64 0)] (.tmp 147) (.tmp 147)), .m 20 148]) (.seq (.seq (.region [.m 149 13, .o 150 (.n 149), .k 151 0]) (.block 8 [20] (.loop [10,11,20,149,150,151] c198L4))) (.seq (.region [.m 167 20, .m 6 167, .o 7 (.mv (.const (.bool true)))]) .ret)))))))))))
def F198:AFun:=⟨c198,3,168,[(.tmp 6),(.tmp 7)]⟩
def K198:Nat→List Nat×List Nat
 |0=>([1,2,8,10,11,36,37],[8,10,11])
 |1=>([],[1,2,8,10,11,36,37])
 |2=>([8,10,11,13,55,56],[10,11,13])
 |3=>([],[8,10,11,13,55,56])
 |4=>([8,10,11,13,14,15,55,56,102,103],[8,10,11,13,14,55,56])
 |5=>([],[8,10,11,13,14,15,55,56,102,103])
 |6=>([10,11,13,135,136,137],[10,11,13])
 |7=>([],[10,11,13,135,136,137])
 |8=>([10,11,20,149,150,151],[20])
 |9=>([],[10,11,20,149,150,151])
 |_=>([],[])
theorem F198_ok:kj8 Tryz.prog K198 Tryz.f198=some F198:=by kernel_rfl
/- 199: syndrome/poly.divide -/
def c199L0:ACode:=(.seq (.region [.o 60 (.b .lss 59 58)]) (.seq (.cond (.tmp 60) .skip (.exit 2)) (.seq (.block 3 [0,2,6,7,8,9,10,57,58,59] (.seq (.region [.m 61 59, .o 62 (.i 1 57 59), .o 63 (.l 62), .m 11 61, .m 12 63]) (.region [.m 64 7, .m 65 9, .m 66 11, .o 67 (.b .add 65 66), .m 68 0, .m 69 7, .m 70 9, .m 71 11, .o 72 (.b .add 70 71), .o 73 (.i 1 69 72), .o 74 (.l 73), .m 75 0, .m 76 10, .m 77 12,⟨(some 78),(.call 157 [(.tmp 75),(.tmp 76),(.tmp 77)]),none,true⟩, .o 79 (.q 166 [68,74,78]), .o 80 (.i 1 64 67), .n (.st 1 (.tmp 80) (.tmp 79))]))) (.region [.o 81 (.c .add 59 1), .m 59 81]))))
def c199L1:ACode:=(.seq (.seq (.region [.m 38 9, .o 39 (.c .geq 38 0)]) (.cond (.tmp 39) .skip (.exit 0))) (.seq (.block 1 [0,2,6,7,8,9] (.seq (.region [.m 42 0, .m 43 7, .m 44 9, .m 45 2, .o 46 (.n 45), .o 47 (.b .add 44 46), .o 48 (.c .sub 47 1), .o 49 (.i 1 43 48), .o 50 (.l 49), .m 51 8, .o 52 (.q 157 [42,50,51]), .m 10 52]) (.seq (.region [.m 53 6, .m 54 9, .m 55 10, .o 56 (.i 1 53 54), .n (.st 1 (.tmp 56) (.tmp 55))]) (.seq (.region [.m 57 2, .o 58 (.n 57), .k 59 0]) (.block 2 [0,2,6,7,8,9] (.loop [0,2,6,7,8,9,10,57,58,59] c199L0)))))) (.region [.m 40 9, .o 41 (.c .sub 40 1), .m 9 41])))
def c199:ACode:=(.seq (.region [.o 6 (.mv (.const (.slice none 0 0))), .o 7 (.mv (.const (.slice none 0 0)))]) (.seq (.region [.m 13 1, .o 14 (.q 65 [13]), .m 7 14]) (.seq (.seq (.region [.m 15 1, .o 16 (.n 15), .m 17 2, .o 18 (.n 17), .o 19 (.b .geq 16 18)]) (.cond (.tmp 19) (.region [.m 20 1, .o 21 (.n 20), .m 22 2, .o 23 (.n 22), .o 24 (.b .sub 21 23), .o 25 (.c .add 24 1), .o 26 (.mks 3 1 8 [(.int .i64 0)] (.tmp 25) (.tmp 25)), .m 6 26]) .skip)) (.seq (.region [.m 27 0, .m 28 2, .m 29 2, .o 30 (.n 29), .o 31 (.c .sub 30 1), .o 32 (.i 1 28 31), .o 33 (.l 32), .o 34 (.q 146 [27,33]), .m 8 34]) (.seq (.seq (.region [.m 35 6, .o 36 (.n 35), .o 37 (.c .sub 36 1), .m 9 37]) (.block 0 [6,7] (.loop [0,2,6,7,8,9] c199L1))) (.seq (.region [.m 82 6, .m 83 7, .o 84 (.q 196 [83]), .m 6 82, .m 7 84]) .ret))))))
def F199:AFun:=⟨c199,3,85,[(.tmp 6),(.tmp 7)]⟩
def K199:Nat→List Nat×List Nat
 |0=>([0,2,6,7,8,9],[6,7])
 |1=>([],[0,2,6,7,8,9])
 |2=>([0,2,6,7,8,9,10,57,58,59],[0,2,6,7,8,9])
 |3=>([],[0,2,6,7,8,9,10,57,58,59])
 |_=>([],[])
theorem F199_ok:kj8 Tryz.prog K199 Tryz.f199=some F199:=by kernel_rfl
/- 200: syndrome/reed.near -/
def c200L0:ACode:=(.seq (.region [.o 19 (.b .lss 18 17)]) (.seq (.cond (.tmp 19) .skip (.exit 0)) (.seq (.block 1 [0,1,2,3,4,12,17,18] (.seq (.region [.m 20 18, .m 13 20]) (.seq (.region [.m 22 0, .m 23 3, .m 24 1, .m 25 13, .o 26 (.i 1 24 25), .o 27 (.l 26), .o 28 (.q 105 [22,23,27]), .m 21 28, .o 29 (.e 0 21), .o 30 (.e 1 21), .m 14 29, .m 15 30]) (.seq (.region [.m 31 14, .m 32 2, .m 33 13, .o 34 (.i 1 32 33), .o 35 (.l 34), .o 36 (.b .neq 31 35)]) (.cond (.tmp 36) (.region [.m 37 12, .o 38 (.c .add 37 1), .m 12 38]) .skip))))) (.region [.o 39 (.c .add 18 1), .m 18 39]))))
def c200:ACode:=(.seq (.region [.k 10 0, .o 11 (.mv (.const (.bool false)))]) (.seq (.region [.k 12 0]) (.seq (.seq (.region [.m 16 1, .o 17 (.n 16), .k 18 0]) (.block 0 [1,4,12] (.loop [0,1,2,3,4,12,17,18] c200L0))) (.seq (.region [.m 40 12, .m 41 12, .o 42 (.bin .mul (.const (.int .i64 2)) (.tmp 41)), .m 43 1, .o 44 (.n 43), .m 45 4, .o 46 (.b .sub 44 45), .o 47 (.b .leq 42 46), .m 10 40, .m 11 47]) .ret))))
def F200:AFun:=⟨c200,5,48,[(.tmp 10),(.tmp 11)]⟩
def K200:Nat→List Nat×List Nat
 |0=>([0,1,2,3,4,12,17,18],[1,4,12])
 |1=>([],[0,1,2,3,4,12,17,18])
 |_=>([],[])
theorem F200_ok:kj8 Tryz.prog K200 Tryz.f200=some F200:=by kernel_rfl
end Go.Proofs.YtlhmdmedagjmnaaGreat
