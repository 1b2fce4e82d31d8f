/-
  Functions of this seat as the small machine's code, written by a program of my own (gen.py); each is checked to be what the model's function is turned into. No condition.
-/
import Derived.Test.YtppbpgmdmiajcaaGreatK2
import Derived.Test.YtppbpgmdmiajcaaGreatProg
set_option linter.unusedVariables false
set_option linter.unusedSimpArgs false
set_option linter.unusedSectionVars false
set_option maxRecDepth 100000
namespace Go.Proofs.YtppbpgmdmiajcaaGreat
open Go.Am
/- 116: (*syndrome/field.Field).value -/
def c116L0:ACode:=(.seq (.seq (.region [.m 12 8, .o 13 (.c .geq 12 0)]) (.cond (.tmp 13) .skip (.exit 0))) (.seq (.block 1 [0,1,2,7,8] (.region [.m 16 0, .m 17 0, .m 18 7, .m 19 2,⟨(some 20),(.call 93 [(.tmp 17),(.tmp 18),(.tmp 19)]),none,true⟩, .m 21 1, .m 22 8, .o 23 (.i 1 21 22),⟨(some 24),(.ld false 1 (.tmp 23)),none,true⟩, .o 25 (.q 92 [16,20,24]), .m 7 25])) (.region [.m 14 8, .o 15 (.c .sub 14 1), .m 8 15])))
def c116:ACode:=(.seq (.region [.k 6 0]) (.seq (.region [.k 7 0]) (.seq (.seq (.region [.m 9 1, .o 10 (.n 9), .o 11 (.c .sub 10 1), .m 8 11]) (.block 0 [7] (.loop [0,1,2,7,8] c116L0))) (.seq (.region [.m 26 7, .m 6 26]) .ret))))
def F116:AFun:=⟨c116,3,27,[(.tmp 6)]⟩
def K116:Nat→List Nat×List Nat
 |0=>([0,1,2,7,8],[7])
 |1=>([],[0,1,2,7,8])
 |_=>([],[])
theorem F116_ok:kj8 Tryz.prog K116 noRg Tryz.f116=some F116:=by kernel_rfl
/- 117: syndrome/field.digits -/
def c117L0:ACode:=(.seq (.region [.o 14 (.b .lss 13 12)]) (.seq (.cond (.tmp 14) .skip (.exit 0)) (.seq (.block 1 [0,1,7,12,13] (.seq (.region [.m 15 13, .m 8 15]) (.seq (.region [.m 16 7, .m 17 8, .m 18 0, .m 19 1, .o 20 (.b .rem 18 19), .o 21 (.i 1 16 17), .n (.st 1 (.tmp 21) (.tmp 20))]) (.region [.m 22 0, .m 23 1, .o 24 (.b .quo 22 23), .m 0 24])))) (.region [.o 25 (.c .add 13 1), .m 13 25]))))
def c117:ACode:=(.seq (.region [.o 6 (.mv (.const (.slice none 0 0)))]) (.seq (.region [.m 9 2, .o 10 (.mks 3 1 8 [(.int .i64 0)] (.tmp 9) (.tmp 9)), .m 7 10]) (.seq (.seq (.region [.m 11 7, .o 12 (.n 11), .k 13 0]) (.block 0 [7] (.loop [0,1,7,12,13] c117L0))) (.seq (.region [.m 26 7, .m 6 26]) .ret))))
def F117:AFun:=⟨c117,3,27,[(.tmp 6)]⟩
def K117:Nat→List Nat×List Nat
 |0=>([0,1,7,12,13],[7])
 |1=>([],[0,1,7,12,13])
 |_=>([],[])
theorem F117_ok:kj8 Tryz.prog K117 noRg Tryz.f117=some F117:=by kernel_rfl
/- 120: syndrome/syndromeref.Number -/
def c120L0:ACode:=(.seq (.seq (.region [.m 10 6, .o 11 (.c .geq 10 0)]) (.cond (.tmp 11) .skip (.exit 0))) (.seq (.block 1 [0,1,5,6] (.region [.m 14 5, .m 15 1, .o 16 (.b .mul 14 15), .m 17 0, .m 18 6, .o 19 (.i 1 17 18), .o 20 (.l 19), .o 21 (.b .add 16 20), .m 5 21])) (.region [.m 12 6, .o 13 (.c .sub 12 1), .m 6 13])))
def c120:ACode:=(.seq (.region [.k 4 0]) (.seq (.region [.k 5 0]) (.seq (.seq (.region [.m 7 0, .o 8 (.n 7), .o 9 (.c .sub 8 1), .m 6 9]) (.block 0 [5] (.loop [0,1,5,6] c120L0))) (.seq (.region [.m 22 5, .m 4 22]) .ret))))
def F120:AFun:=⟨c120,2,23,[(.tmp 4)]⟩
def K120:Nat→List Nat×List Nat
 |0=>([0,1,5,6],[5])
 |1=>([],[0,1,5,6])
 |_=>([],[])
theorem F120_ok:kj8 Tryz.prog K120 noRg Tryz.f120=some F120:=by kernel_rfl
/- 123: syndrome/poly.divide -/
def c123L0:ACode:=(.seq (.region [.o 60 (.b .lss 59 58)]) (.seq (.cond (.tmp 60) .skip (.exit 2)) (.seq (.block 3 [0,2,6,7,8,9,10,57,58,59] (.seq (.region [.m 61 59, .o 62 (.i 1 57 59), .o 63 (.l 62), .m 11 61, .m 12 63]) (.region [.m 64 7, .m 65 9, .m 66 11, .o 67 (.b .add 65 66), .m 68 0, .m 69 7, .m 70 9, .m 71 11, .o 72 (.b .add 70 71), .o 73 (.i 1 69 72), .o 74 (.l 73), .m 75 0, .m 76 10, .m 77 12,⟨(some 78),(.call 93 [(.tmp 75),(.tmp 76),(.tmp 77)]),none,true⟩, .o 79 (.q 161 [68,74,78]), .o 80 (.i 1 64 67), .n (.st 1 (.tmp 80) (.tmp 79))]))) (.region [.o 81 (.c .add 59 1), .m 59 81]))))
def c123L1:ACode:=(.seq (.seq (.region [.m 38 9, .o 39 (.c .geq 38 0)]) (.cond (.tmp 39) .skip (.exit 0))) (.seq (.block 1 [0,2,6,7,8,9] (.seq (.region [.m 42 0, .m 43 7, .m 44 9, .m 45 2, .o 46 (.n 45), .o 47 (.b .add 44 46), .o 48 (.c .sub 47 1), .o 49 (.i 1 43 48), .o 50 (.l 49), .m 51 8, .o 52 (.q 93 [42,50,51]), .m 10 52]) (.seq (.region [.m 53 6, .m 54 9, .m 55 10, .o 56 (.i 1 53 54), .n (.st 1 (.tmp 56) (.tmp 55))]) (.seq (.region [.m 57 2, .o 58 (.n 57), .k 59 0]) (.block 2 [0,2,6,7,8,9] (.loop [0,2,6,7,8,9,10,57,58,59] c123L0)))))) (.region [.m 40 9, .o 41 (.c .sub 40 1), .m 9 41])))
def c123:ACode:=(.seq (.region [.o 6 (.mv (.const (.slice none 0 0))), .o 7 (.mv (.const (.slice none 0 0)))]) (.seq (.region [.m 13 1, .o 14 (.q 159 [13]), .m 7 14]) (.seq (.seq (.region [.m 15 1, .o 16 (.n 15), .m 17 2, .o 18 (.n 17), .o 19 (.b .geq 16 18)]) (.cond (.tmp 19) (.region [.m 20 1, .o 21 (.n 20), .m 22 2, .o 23 (.n 22), .o 24 (.b .sub 21 23), .o 25 (.c .add 24 1), .o 26 (.mks 3 1 8 [(.int .i64 0)] (.tmp 25) (.tmp 25)), .m 6 26]) .skip)) (.seq (.region [.m 27 0, .m 28 2, .m 29 2, .o 30 (.n 29), .o 31 (.c .sub 30 1), .o 32 (.i 1 28 31), .o 33 (.l 32), .o 34 (.q 160 [27,33]), .m 8 34]) (.seq (.seq (.region [.m 35 6, .o 36 (.n 35), .o 37 (.c .sub 36 1), .m 9 37]) (.block 0 [6,7] (.loop [0,2,6,7,8,9] c123L1))) (.seq (.region [.m 82 6, .m 83 7, .o 84 (.q 124 [83]), .m 6 82, .m 7 84]) .ret))))))
def F123:AFun:=⟨c123,3,85,[(.tmp 6),(.tmp 7)]⟩
def K123:Nat→List Nat×List Nat
 |0=>([0,2,6,7,8,9],[6,7])
 |1=>([],[0,2,6,7,8,9])
 |2=>([0,2,6,7,8,9,10,57,58,59],[0,2,6,7,8,9])
 |3=>([],[0,2,6,7,8,9,10,57,58,59])
 |_=>([],[])
theorem F123_ok:kj8 Tryz.prog K123 noRg Tryz.f123=some F123:=by kernel_rfl
/- 124: syndrome/poly.trim -/
def c124L0:ACode:=(.seq (.seq (.region [.m 6 3, .o 7 (.c .gtr 6 0), .m 8 7, .g 9 (.m 0) 8 true, .g 10 (.m 3) 8 true, .g 11 (.c .sub 10 1) 8 true, .g 12 (.i 1 9 11) 8 true, .g 13 (.l 12) 8 true, .g 14 (.c .eql 13 0) 8 true, .o 15 (.pick (.tmp 8) (.tmp 14) (.const (.bool false)))]) (.cond (.tmp 15) .skip (.exit 0))) (.block 1 [0,3] (.region [.m 16 3, .o 17 (.c .sub 16 1), .m 3 17])))
def c124:ACode:=(.seq (.region [.o 2 (.mv (.const (.slice none 0 0)))]) (.seq (.region [.m 4 0, .o 5 (.n 4), .m 3 5]) (.seq (.block 0 [0,3] (.loop [0,3] c124L0)) (.seq (.region [.m 18 0, .m 19 3, .o 20 (.sl 1 (.tmp 18) none (some (.tmp 19))), .o 21 (.q 159 [20]), .m 2 21]) .ret))))
def F124:AFun:=⟨c124,1,22,[(.tmp 2)]⟩
def K124:Nat→List Nat×List Nat
 |0=>([0,3],[0,3])
 |1=>([],[0,3])
 |_=>([],[])
theorem F124_ok:kj8 Tryz.prog K124 noRg Tryz.f124=some F124:=by kernel_rfl
/- 125: syndrome/code.Check -/
def c125:ACode:=(.seq (.region [.o 1 (.box 35 3 (.tmp 0)), .k 2 0]) (.seq (.seq (.region [.o 7 (.f 0 1), .o 8 (.l 7), .o 9 (.q 48 [8]), .m 6 9, .o 10 (.e 0 6), .o 11 (.e 1 6), .m 3 10, .m 4 11]) (.seq (.region [.m 12 4, .o 13 (.c .neq 12 0)]) (.cond (.tmp 13) (.seq (.region [.m 14 4, .m 2 14]) .ret) .skip))) (.seq (.seq (.region [.o 15 (.f 1 1), .o 16 (.l 15), .o 17 (.c .lss 16 1), .m 18 17, .g 19 (.f 1 1) 18 false, .g 20 (.l 19) 18 false, .g 21 (.c .gtr 20 64) 18 false, .o 22 (.pick (.tmp 18) (.const (.bool true)) (.tmp 21))]) (.cond (.tmp 22) (.seq (.region [.k 2 4]) .ret) .skip)) (.seq (.seq (.region [.o 23 (.f 0 1), .o 24 (.l 23), .o 25 (.f 2 1), .o 26 (.l 25), .o 27 (.q 162 [24,26]), .m 5 27]) (.seq (.region [.m 28 5, .o 29 (.c .neq 28 0)]) (.cond (.tmp 29) (.seq (.region [.m 30 5, .m 2 30]) .ret) .skip))) (.seq (.seq (.region [.o 31 (.f 2 1), .o 32 (.l 31), .o 33 (.n 32), .o 34 (.c .gtr 33 0), .m 35 34, .g 36 (.f 2 1) 35 true, .g 37 (.l 36) 35 true, .g 38 (.iaddr 1 (.tmp 37) (.const (.int .i64 0))) 35 true, .g 39 (.l 38) 35 true, .g 40 (.n 39) 35 true, .g 41 (.f 1 1) 35 true, .g 42 (.l 41) 35 true, .g 43 (.b .neq 40 42) 35 true, .o 44 (.pick (.tmp 35) (.tmp 43) (.const (.bool false)))]) (.cond (.tmp 44) (.seq (.region [.k 2 3]) .ret) .skip)) (.seq (.region [.k 2 0]) .ret))))))
def F125:AFun:=⟨c125,1,45,[(.tmp 2)]⟩
def K125:Nat→List Nat×List Nat
 |_=>([],[])
theorem F125_ok:kj8 Tryz.prog K125 noRg Tryz.f125=some F125:=by kernel_rfl
/- 126: syndrome/matrix.Reduce -/
def c126L0:ACode:=(.seq (.region [.o 92 (.b .lss 91 90)]) (.seq (.cond (.tmp 92) .skip (.exit 2)) (.seq (.block 3 [1,5,8,10,11,90,91] (.seq (.region [.m 93 91, .m 13 93]) (.seq (.region [.m 94 13, .m 95 11, .o 96 (.b .neq 94 95), .m 97 96, .g 98 (.m 1) 97 true, .g 99 (.m 13) 97 true, .g 100 (.i 1 98 99) 97 true, .g 101 (.l 100) 97 true, .g 102 (.l 10) 97 true, .g 103 (.i 1 101 102) 97 true, .g 104 (.l 103) 97 true, .g 105 (.c .neq 104 0) 97 true, .o 106 (.pick (.tmp 97) (.tmp 105) (.const (.bool false)))]) (.cond (.tmp 106) (.region [.m 107 8, .m 108 1, .m 109 13, .o 110 (.i 1 108 109), .o 111 (.l 110), .m 112 1, .m 113 11, .o 114 (.i 1 112 113), .o 115 (.l 114), .m 116 1, .m 117 13, .o 118 (.i 1 116 117), .o 119 (.l 118), .o 120 (.l 10), .o 121 (.i 1 119 120), .o 122 (.l 121), .o 123 (.q 167 [107,111,115,122])]) .skip)))) (.region [.o 124 (.c .add 91 1), .m 91 124]))))
def c126L1:ACode:=(.seq (.seq (.region [.o 32 (.l 10), .m 33 1, .o 34 (.iaddr 1 (.tmp 33) (.const (.int .i64 0))), .o 35 (.l 34), .o 36 (.n 35), .o 37 (.b .lss 32 36), .m 38 37, .g 39 (.m 5) 38 true, .g 40 (.n 39) 38 true, .g 41 (.m 1) 38 true, .g 42 (.n 41) 38 true, .g 43 (.b .lss 40 42) 38 true, .o 44 (.pick (.tmp 38) (.tmp 43) (.const (.bool false)))]) (.cond (.tmp 44) .skip (.exit 0))) (.seq (.block 1 [1,5,8,10] (.seq (.region [.m 47 5, .o 48 (.n 47), .m 11 48]) (.seq (.region [.m 49 1, .m 50 11, .o 51 (.sl 1 (.tmp 49) (some (.tmp 50)) none), .o 52 (.mkf 165 [(.tmp 10)]), .o 53 (.q 164 [51,52]), .m 12 53]) (.seq (.seq (.region [.m 54 12, .o 55 (.c .lss 54 0)]) (.cond (.tmp 55) (.exit 1) .skip)) (.seq (.region [.m 56 1, .m 57 11, .m 58 1, .m 59 11, .m 60 12, .o 61 (.b .add 59 60), .m 62 1, .m 63 11, .m 64 12, .o 65 (.b .add 63 64), .o 66 (.i 1 62 65), .o 67 (.l 66), .m 68 1, .m 69 11, .o 70 (.i 1 68 69), .o 71 (.l 70), .o 72 (.i 1 56 57), .n (.st 1 (.tmp 72) (.tmp 67)), .o 73 (.i 1 58 61), .n (.st 1 (.tmp 73) (.tmp 71))]) (.seq (.region [.m 74 8, .m 75 1, .m 76 11, .o 77 (.i 1 75 76), .o 78 (.l 77), .m 79 8, .m 80 1, .m 81 11, .o 82 (.i 1 80 81), .o 83 (.l 82), .o 84 (.l 10), .o 85 (.i 1 83 84), .o 86 (.l 85),⟨(some 87),(.call 160 [(.tmp 79),(.tmp 86)]),none,true⟩, .o 88 (.q 166 [74,78,87])]) (.seq (.seq (.region [.m 89 1, .o 90 (.n 89), .k 91 0]) (.block 2 [1,5,8,10] (.loop [1,5,8,10,11,90,91] c126L0))) (.region [.m 125 5, .o 126 (.l 10), .o 127 (.mkSl 3 1 1 [(.tmp 126)]), .o 128 (.app 3 1 8 (.tmp 125) (.tmp 127)), .m 5 128])))))))) (.seq (.seq (.region [.o 129 (.l 10)]) (.region [.o 10 (.alloc 3 [(.int .i64 0)]), .n (.st 1 (.tmp 10) (.tmp 129))])) (.region [.o 45 (.l 10), .o 46 (.c .add 45 1), .n (.st 1 (.tmp 10) (.tmp 46))]))))
def c126:ACode:=(.seq (.region [.o 4 (.mv (.const (.slice none 0 0))), .o 5 (.mv (.const (.slice none 0 0))), .k 6 0]) (.seq (.seq (.region [.m 14 0, .m 15 1, .o 16 (.q 162 [14,15]), .m 7 16]) (.seq (.region [.m 17 7, .o 18 (.c .neq 17 0), .m 19 18, .g 20 (.m 1) 19 false, .g 21 (.n 20) 19 false, .g 22 (.c .eql 21 0) 19 false, .o 23 (.pick (.tmp 19) (.const (.bool true)) (.tmp 22))]) (.cond (.tmp 23) (.seq (.region [.m 24 7, .o 4 (.mv (.const (.slice none 0 0))), .o 5 (.mv (.const (.slice none 0 0))), .m 6 24]) .ret) .skip))) (.seq (.region [.m 26 0, .o 27 (.q 48 [26]), .m 25 27, .o 28 (.e 0 25), .o 29 (.e 1 25), .m 8 28, .m 9 29]) (.seq (.region [.m 30 1, .o 31 (.q 163 [30]), .m 1 31]) (.seq (.seq (.region [.o 10 (.alloc 3 [(.int .i64 0)]), .n (.st 1 (.tmp 10) (.const (.int .i64 0)))]) (.block 0 [1,5] (.loop [1,5,8,10] c126L1))) (.seq (.region [.m 130 1, .m 131 5, .o 132 (.n 131), .m 133 5, .o 134 (.n 133), .o 135 (.sl3 (.tmp 130) (.tmp 132) (.tmp 134)), .m 136 5, .m 4 135, .m 5 136, .k 6 0]) .ret))))))
def F126:AFun:=⟨c126,2,137,[(.tmp 4),(.tmp 5),(.tmp 6)]⟩
def K126:Nat→List Nat×List Nat
 |0=>([1,5,8,10],[1,5])
 |1=>([],[1,5,8,10])
 |2=>([1,5,8,10,11,90,91],[1,5,8,10])
 |3=>([],[1,5,8,10,11,90,91])
 |_=>([],[])
theorem F126_ok:kj8 Tryz.prog K126 noRg Tryz.f126=some F126:=by kernel_rfl
/- 130: slices.IndexFunc[[]int,int] -/
def c130L0:ACode:=(.seq (.region [.o 9 (.b .lss 8 7)]) (.seq (.cond (.tmp 9) .skip (.exit 0)) (.seq (.block 1 [0,1,7,8] (.seq (.region [.m 10 8, .m 5 10]) (.seq (.region [.m 11 1, .m 12 0, .m 13 5, .o 14 (.i 1 12 13), .o 15 (.l 14), .o 16 (.calld (.tmp 11) [(.tmp 15)])]) (.cond (.tmp 16) (.seq (.region [.m 17 5, .m 4 17]) .ret) .skip)))) (.region [.o 18 (.c .add 8 1), .m 8 18]))))
def c130:ACode:=(.seq (.region [.k 4 0]) (.seq (.seq (.region [.m 6 0, .o 7 (.n 6), .k 8 0]) (.block 0 [] (.loop [0,1,7,8] c130L0))) (.seq (.region [.k 4 (-1)]) .ret)))
def F130:AFun:=⟨c130,2,19,[(.tmp 4)]⟩
def K130:Nat→List Nat×List Nat
 |0=>([0,1,7,8],[])
 |1=>([],[0,1,7,8])
 |_=>([],[])
theorem F130_ok:kj8 Tryz.prog K130 noRg Tryz.f130=some F130:=by kernel_rfl
/- 131: syndrome/code.Dual -/
def c131L0:ACode:=(.seq (.region [.o 25 (.b .lss 24 23)]) (.seq (.cond (.tmp 25) .skip (.exit 0)) (.seq (.block 1 [1,2,23,24] (.seq (.region [.m 26 24, .m 5 26]) (.seq (.region [.o 27 (.f 1 1), .o 28 (.l 27), .o 29 (.mks 3 1 8 [(.int .i64 0)] (.tmp 28) (.tmp 28)), .m 6 29]) (.seq (.region [.m 30 6, .m 31 5, .o 32 (.i 1 30 31), .n (.st 1 (.tmp 32) (.const (.int .i64 1)))]) (.region [.o 33 (.f 2 1), .o 34 (.l 33), .m 35 6, .o 36 (.mkSl 22 1 1 [(.tmp 35)]), .o 37 (.app 22 1 24 (.tmp 34) (.tmp 36)), .o 38 (.f 2 1), .n (.st 1 (.tmp 38) (.tmp 37))]))))) (.region [.o 39 (.c .add 24 1), .m 24 39]))))
def c131:ACode:=(.seq (.region [.o 1 (.box 35 3 (.tmp 0)), .o 2 (.alloc 35 [(.int .i64 0),(.int .i64 0),(.slice none 0 0)]), .k 3 0]) (.seq (.region [.o 10 (.ld true 3 (.tmp 1)), .o 11 (.q 74 [10]), .m 9 11, .o 12 (.e 0 9), .o 13 (.e 1 9), .n (.st 3 (.tmp 1) (.tmp 12)), .m 4 13]) (.seq (.seq (.region [.m 14 4, .o 15 (.c .neq 14 0)]) (.cond (.tmp 15) (.seq (.region [.o 16 (.build [(.int .i64 0),(.int .i64 0),(.slice none 0 0)] [(0,1),(1,1),(2,1)] []), .m 17 4, .n (.st 3 (.tmp 2) (.tmp 16)), .m 3 17]) .ret) .skip)) (.seq (.seq (.region [.o 18 (.f 2 1), .o 19 (.l 18), .o 20 (.n 19), .o 21 (.c .eql 20 0)]) (.cond (.tmp 21) (.seq (.seq (.region [.o 22 (.f 1 1), .o 23 (.l 22), .k 24 0]) (.block 0 [1,2] (.loop [1,2,23,24] c131L0))) (.seq (.region [.o 40 (.ld true 3 (.tmp 1)), .n (.st 3 (.tmp 2) (.tmp 40)), .k 3 0]) .ret)) .skip)) (.seq (.region [.o 42 (.f 0 1), .o 43 (.l 42), .o 44 (.f 2 1), .o 45 (.l 44), .o 46 (.q 168 [43,45]), .m 41 46, .o 47 (.e 0 41), .o 48 (.e 1 41), .m 7 47, .m 8 48]) (.seq (.region [.o 49 (.f 0 1), .o 50 (.l 49), .o 51 (.f 1 1), .o 52 (.l 51), .m 53 7, .o 54 (.build [(.int .i64 0),(.int .i64 0),(.slice none 0 0)] [(0,1),(1,1),(2,1)] [(0,(.tmp 50)),(1,(.tmp 52)),(2,(.tmp 53))]), .n (.st 3 (.tmp 2) (.tmp 54)), .k 3 0]) .ret))))))
def F131:AFun:=⟨c131,1,55,[(.cell 2 true 3),(.tmp 3)]⟩
def K131:Nat→List Nat×List Nat
 |0=>([1,2,23,24],[1,2])
 |1=>([],[1,2,23,24])
 |_=>([],[])
theorem F131_ok:kj8 Tryz.prog K131 noRg Tryz.f131=some F131:=by kernel_rfl
/- 132: syndrome/code.word -/
def c132:ACode:=(.seq (.region [.o 2 (.box 35 3 (.tmp 0)), .k 4 0]) (.seq (.seq (.region [.m 7 1, .o 8 (.n 7), .o 9 (.f 1 2), .o 10 (.l 9), .o 11 (.b .neq 8 10)]) (.cond (.tmp 11) (.seq (.region [.k 4 6]) .ret) .skip)) (.seq (.region [.o 13 (.f 0 2), .o 14 (.l 13), .o 15 (.q 48 [14]), .m 12 15, .o 16 (.e 0 12), .o 17 (.e 1 12), .o 5 (.alloc 71 [(.pointer none)]), .n (.st 1 (.tmp 5) (.tmp 16)), .m 6 17]) (.seq (.seq (.region [.m 18 1, .o 19 (.mkf 169 [(.tmp 5)]), .o 20 (.q 81 [18,19])]) (.cond (.tmp 20) (.seq (.region [.k 4 2]) .ret) .skip)) (.seq (.region [.k 4 0]) .ret)))))
def F132:AFun:=⟨c132,2,21,[(.tmp 4)]⟩
def K132:Nat→List Nat×List Nat
 |_=>([],[])
theorem F132_ok:kj8 Tryz.prog K132 noRg Tryz.f132=some F132:=by kernel_rfl
/- 146: syndrome/field.prime -/
def c146L0:ACode:=(.seq (.seq (.region [.m 4 0, .m 5 2, .o 6 (.b .rem 4 5), .o 7 (.c .neq 6 0)]) (.cond (.tmp 7) .skip (.exit 0))) (.block 1 [0,2,3] (.region [.m 8 2, .o 9 (.c .add 8 1), .m 2 9])))
def c146L1:ACode:=(.seq (.seq (.region [.m 10 0, .m 11 2, .o 12 (.b .rem 10 11), .o 13 (.c .eql 12 0)]) (.cond (.tmp 13) .skip (.exit 2))) (.seq (.block 3 [0,2,3] (.region [.m 17 3, .o 18 (.c .add 17 1), .m 3 18])) (.region [.m 14 0, .m 15 2, .o 16 (.b .quo 14 15), .m 0 16])))
def c146:ACode:=(.seq (.region [.k 2 0, .k 3 0]) (.seq (.region [.k 2 2]) (.seq (.block 0 [0,2,3] (.loop [0,2,3] c146L0)) (.seq (.block 2 [0,2,3] (.loop [0,2,3] c146L1)) (.seq (.seq (.region [.m 19 0, .o 20 (.c .neq 19 1)]) (.cond (.tmp 20) (.seq (.region [.k 2 0, .k 3 0]) .ret) .skip)) (.seq (.region [.m 21 2, .m 22 3, .m 2 21, .m 3 22]) .ret))))))
def F146:AFun:=⟨c146,1,23,[(.tmp 2),(.tmp 3)]⟩
def K146:Nat→List Nat×List Nat
 |0=>([0,2,3],[0,2,3])
 |1=>([],[0,2,3])
 |2=>([0,2,3],[0,2,3])
 |3=>([],[0,2,3])
 |_=>([],[])
theorem F146_ok:kj8 Tryz.prog K146 noRg Tryz.f146=some F146:=by kernel_rfl
/- 147: (*syndrome/field.Field).fill -/
def c147L0:ACode:=(.seq (.region [.o 29 (.b .lss 28 27)]) (.seq (.cond (.tmp 29) .skip (.exit 0)) (.seq (.block 1 [0,27,28] (.seq (.region [.m 30 28, .m 3 30]) (.region [.m 31 0, .o 32 (.nilck (.tmp 31)), .o 33 (.f 6 32), .o 34 (.l 33), .m 35 3, .o 36 (.i 1 34 35), .n (.st 1 (.tmp 36) (.const (.int .i64 (-1))))]))) (.region [.o 37 (.c .add 28 1), .m 28 37]))))
def c147L1:ACode:=(.seq (.region [.o 44 (.b .lss 43 42)]) (.seq (.cond (.tmp 44) .skip (.exit 2)) (.seq (.block 3 [0,4,42,43] (.seq (.region [.m 45 43, .m 5 45]) (.seq (.seq (.region [.m 46 4, .o 47 (.c .eql 46 0), .m 48 47, .g 49 (.m 0) 48 false, .g 50 (.nilck (.tmp 49)) 48 false, .g 51 (.f 6 50) 48 false, .g 52 (.l 51) 48 false, .g 53 (.m 4) 48 false, .g 54 (.i 1 52 53) 48 false, .g 55 (.l 54) 48 false, .g 56 (.c .geq 55 0) 48 false, .o 57 (.pick (.tmp 48) (.const (.bool true)) (.tmp 56))]) (.cond (.tmp 57) (.seq (.region [.o 2 (.mv (.const (.bool false)))]) .ret) .skip)) (.seq (.region [.m 58 0, .o 59 (.nilck (.tmp 58)), .o 60 (.f 5 59), .o 61 (.l 60), .m 62 5, .m 63 0, .o 64 (.nilck (.tmp 63)), .o 65 (.f 6 64), .o 66 (.l 65), .m 67 4, .m 68 4, .m 69 5, .o 70 (.i 1 61 62), .n (.st 1 (.tmp 70) (.tmp 68)), .o 71 (.i 1 66 67), .n (.st 1 (.tmp 71) (.tmp 69))]) (.region [.m 72 0, .m 73 4, .o 74 (.q 179 [72,73]), .m 4 74]))))) (.region [.o 75 (.c .add 43 1), .m 43 75]))))
def c147:ACode:=(.seq (.region [.o 2 (.mv (.const (.bool false)))]) (.seq (.region [.m 6 0, .m 7 0, .o 8 (.nilck (.tmp 7)), .o 9 (.f 0 8), .o 10 (.l 9), .o 11 (.c .sub 10 1), .o 12 (.mks 3 1 8 [(.int .i64 0)] (.tmp 11) (.tmp 11)), .o 13 (.nilck (.tmp 6)), .o 14 (.f 5 13), .n (.st 1 (.tmp 14) (.tmp 12))]) (.seq (.region [.m 15 0, .m 16 0, .o 17 (.nilck (.tmp 16)), .o 18 (.f 0 17), .o 19 (.l 18), .o 20 (.mks 3 1 8 [(.int .i64 0)] (.tmp 19) (.tmp 19)), .o 21 (.nilck (.tmp 15)), .o 22 (.f 6 21), .n (.st 1 (.tmp 22) (.tmp 20))]) (.seq (.seq (.region [.m 23 0, .o 24 (.nilck (.tmp 23)), .o 25 (.f 6 24), .o 26 (.l 25), .o 27 (.n 26), .k 28 0]) (.block 0 [0] (.loop [0,27,28] c147L0))) (.seq (.region [.k 4 1]) (.seq (.seq (.region [.m 38 0, .o 39 (.nilck (.tmp 38)), .o 40 (.f 0 39), .o 41 (.l 40), .o 42 (.c .sub 41 1), .k 43 0]) (.block 2 [4] (.loop [0,4,42,43] c147L1))) (.seq (.region [.m 76 4, .o 77 (.c .eql 76 1), .m 2 77]) .ret)))))))
def F147:AFun:=⟨c147,1,78,[(.tmp 2)]⟩
def K147:Nat→List Nat×List Nat
 |0=>([0,27,28],[0])
 |1=>([],[0,27,28])
 |2=>([0,4,42,43],[4])
 |3=>([],[0,4,42,43])
 |_=>([],[])
theorem F147_ok:kj8 Tryz.prog K147 noRg Tryz.f147=some F147:=by kernel_rfl
/- 148: slices.insertionSortOrdered[int] -/
def c148L0:ACode:=(.seq (.seq (.region [.m 16 7, .m 17 1, .o 18 (.b .gtr 16 17), .m 19 18, .g 20 (.m 0) 19 true, .g 21 (.m 7) 19 true, .g 22 (.i 1 20 21) 19 true, .g 23 (.l 22) 19 true, .g 24 (.m 0) 19 true, .g 25 (.m 7) 19 true, .g 26 (.c .sub 25 1) 19 true, .g 27 (.i 1 24 26) 19 true, .g 28 (.l 27) 19 true, .g 29 (.q 154 [23,28]) 19 true, .o 30 (.pick (.tmp 19) (.tmp 29) (.const (.bool false)))]) (.cond (.tmp 30) .skip (.exit 2))) (.seq (.block 3 [0,1,2,6,7] (.region [.m 33 0, .m 34 7, .m 35 0, .m 36 7, .o 37 (.c .sub 36 1), .m 38 0, .m 39 7, .o 40 (.c .sub 39 1), .o 41 (.i 1 38 40), .o 42 (.l 41), .m 43 0, .m 44 7, .o 45 (.i 1 43 44), .o 46 (.l 45), .o 47 (.i 1 33 34), .n (.st 1 (.tmp 47) (.tmp 42)), .o 48 (.i 1 35 37), .n (.st 1 (.tmp 48) (.tmp 46))])) (.region [.m 31 7, .o 32 (.c .sub 31 1), .m 7 32])))
def c148L1:ACode:=(.seq (.seq (.region [.m 10 6, .m 11 2, .o 12 (.b .lss 10 11)]) (.cond (.tmp 12) .skip (.exit 0))) (.seq (.block 1 [0,1,2,6] (.seq (.region [.m 15 6, .m 7 15]) (.block 2 [0,1,2,6] (.loop [0,1,2,6,7] c148L0)))) (.region [.m 13 6, .o 14 (.c .add 13 1), .m 6 14])))
def c148:ACode:=(.seq (.region [.m 8 1, .o 9 (.c .add 8 1), .m 6 9]) (.block 0 [] (.loop [0,1,2,6] c148L1)))
def F148:AFun:=⟨c148,3,49,[]⟩
def K148:Nat→List Nat×List Nat
 |0=>([0,1,2,6],[])
 |1=>([],[0,1,2,6])
 |2=>([0,1,2,6,7],[0,1,2,6])
 |3=>([],[0,1,2,6,7])
 |_=>([],[])
theorem F148_ok:kj8 Tryz.prog K148 noRg Tryz.f148=some F148:=by kernel_rfl
/- 149: slices.heapSortOrdered[int] -/
def c149L0:ACode:=(.seq (.seq (.region [.m 18 9, .o 19 (.c .geq 18 0)]) (.cond (.tmp 19) .skip (.exit 0))) (.seq (.block 1 [0,6,7,8,9] (.region [.m 22 0, .m 23 9, .m 24 8, .m 25 6, .o 26 (.q 180 [22,23,24,25])])) (.region [.m 20 9, .o 21 (.c .sub 20 1), .m 9 21])))
def c149L1:ACode:=(.seq (.seq (.region [.m 29 10, .o 30 (.c .geq 29 0)]) (.cond (.tmp 30) .skip (.exit 2))) (.seq (.block 3 [0,6,7,10] (.seq (.region [.m 33 0, .m 34 6, .m 35 0, .m 36 6, .m 37 10, .o 38 (.b .add 36 37), .m 39 0, .m 40 6, .m 41 10, .o 42 (.b .add 40 41), .o 43 (.i 1 39 42), .o 44 (.l 43), .m 45 0, .m 46 6, .o 47 (.i 1 45 46), .o 48 (.l 47), .o 49 (.i 1 33 34), .n (.st 1 (.tmp 49) (.tmp 44)), .o 50 (.i 1 35 38), .n (.st 1 (.tmp 50) (.tmp 48))]) (.region [.m 51 0, .m 52 7, .m 53 10, .m 54 6, .o 55 (.q 180 [51,52,53,54])]))) (.region [.m 31 10, .o 32 (.c .sub 31 1), .m 10 32])))
def c149:ACode:=(.seq (.region [.m 11 1, .m 6 11]) (.seq (.region [.k 7 0]) (.seq (.region [.m 12 2, .m 13 1, .o 14 (.b .sub 12 13), .m 8 14]) (.seq (.seq (.region [.m 15 8, .o 16 (.c .sub 15 1), .o 17 (.c .quo 16 2), .m 9 17]) (.block 0 [0,6,7,8] (.loop [0,6,7,8,9] c149L0))) (.seq (.region [.m 27 8, .o 28 (.c .sub 27 1), .m 10 28]) (.block 2 [] (.loop [0,6,7,10] c149L1)))))))
def F149:AFun:=⟨c149,3,56,[]⟩
def K149:Nat→List Nat×List Nat
 |0=>([0,6,7,8,9],[0,6,7,8])
 |1=>([],[0,6,7,8,9])
 |2=>([0,6,7,10],[])
 |3=>([],[0,6,7,10])
 |_=>([],[])
theorem F149_ok:kj8 Tryz.prog K149 noRg Tryz.f149=some F149:=by kernel_rfl
/- 150: slices.breakPatternsOrdered[int] -/
def c150L0:ACode:=(.seq (.seq (.region [.m 26 9, .m 27 1, .m 28 6, .o 29 (.c .quo 28 4), .o 30 (.c .mul 29 2), .o 31 (.b .add 27 30), .o 32 (.c .add 31 1), .o 33 (.b .leq 26 32)]) (.cond (.tmp 33) .skip (.exit 0))) (.seq (.block 1 [0,1,6,7,8,9] (.seq (.region [.o 36 (.q 182 [7]), .m 37 8, .o 38 (.bin .sub (.tmp 37) (.const (.int .u64 1))), .o 39 (.b .and 36 38), .o 40 (.conv .i64 (.tmp 39)), .m 10 40]) (.seq (.seq (.region [.m 41 10, .m 42 6, .o 43 (.b .geq 41 42)]) (.cond (.tmp 43) (.region [.m 44 10, .m 45 6, .o 46 (.b .sub 44 45), .m 10 46]) .skip)) (.region [.m 47 0, .m 48 9, .m 49 0, .m 50 1, .m 51 10, .o 52 (.b .add 50 51), .m 53 0, .m 54 1, .m 55 10, .o 56 (.b .add 54 55), .o 57 (.i 1 53 56), .o 58 (.l 57), .m 59 0, .m 60 9, .o 61 (.i 1 59 60), .o 62 (.l 61), .o 63 (.i 1 47 48), .n (.st 1 (.tmp 63) (.tmp 58)), .o 64 (.i 1 49 52), .n (.st 1 (.tmp 64) (.tmp 62))])))) (.region [.m 34 9, .o 35 (.c .add 34 1), .m 9 35])))
def c150:ACode:=(.seq (.region [.m 11 2, .m 12 1, .o 13 (.b .sub 11 12), .m 6 13]) (.seq (.region [.m 14 6, .o 15 (.c .geq 14 8)]) (.cond (.tmp 15) (.seq (.region [.m 16 6, .o 17 (.conv .u64 (.tmp 16)), .o 7 (.alloc 179 [(.int .u64 0)]), .n (.st 1 (.tmp 7) (.tmp 17))]) (.seq (.region [.m 18 6, .o 19 (.q 181 [18]), .m 8 19]) (.seq (.region [.m 20 1, .m 21 6, .o 22 (.c .quo 21 4), .o 23 (.c .mul 22 2), .o 24 (.b .add 20 23), .o 25 (.c .sub 24 1), .m 9 25]) (.block 0 [] (.loop [0,1,6,7,8,9] c150L0))))) .skip)))
def F150:AFun:=⟨c150,3,65,[]⟩
def K150:Nat→List Nat×List Nat
 |0=>([0,1,6,7,8,9],[])
 |1=>([],[0,1,6,7,8,9])
 |_=>([],[])
theorem F150_ok:kj8 Tryz.prog K150 noRg Tryz.f150=some F150:=by kernel_rfl
/- 151: slices.choosePivotOrdered[int] -/
def c151:ACode:=(.seq (.region [.k 6 0, .k 7 0]) (.seq (.region [.m 13 2, .m 14 1, .o 15 (.b .sub 13 14), .m 8 15]) (.seq (.region [.o 9 (.alloc 3 [(.int .i64 0)])]) (.seq (.region [.m 16 1, .m 17 8, .o 18 (.c .quo 17 4), .o 19 (.c .mul 18 1), .o 20 (.b .add 16 19), .m 10 20]) (.seq (.region [.m 21 1, .m 22 8, .o 23 (.c .quo 22 4), .o 24 (.c .mul 23 2), .o 25 (.b .add 21 24), .m 11 25]) (.seq (.region [.m 26 1, .m 27 8, .o 28 (.c .quo 27 4), .o 29 (.c .mul 28 3), .o 30 (.b .add 26 29), .m 12 30]) (.seq (.seq (.region [.m 31 8, .o 32 (.c .geq 31 8)]) (.cond (.tmp 32) (.seq (.seq (.region [.m 33 8, .o 34 (.c .geq 33 50)]) (.cond (.tmp 34) (.seq (.region [.m 35 0, .m 36 10, .o 37 (.q 183 [35,36,9]), .m 10 37]) (.seq (.region [.m 38 0, .m 39 11, .o 40 (.q 183 [38,39,9]), .m 11 40]) (.region [.m 41 0, .m 42 12, .o 43 (.q 183 [41,42,9]), .m 12 43]))) .skip)) (.region [.m 44 0, .m 45 10, .m 46 11, .m 47 12, .o 48 (.q 184 [44,45,46,47,9]), .m 11 48])) .skip)) (.seq (.region [.o 49 (.l 9)]) (.block 0 [] (.seq (.region [.o 52 (.c .eql 49 0), .m 51 52]) (.cond (.tmp 51) (.seq (.region [.m 53 11, .m 6 53, .k 7 1]) .ret) (.seq (.region [.o 55 (.c .eql 49 12), .m 54 55]) (.cond (.tmp 54) (.seq (.region [.m 56 11, .m 6 56, .k 7 2]) .ret) (.seq (.region [.m 50 11, .m 6 50, .k 7 0]) .ret))))))))))))))
def F151:AFun:=⟨c151,3,57,[(.tmp 6),(.tmp 7)]⟩
def K151:Nat→List Nat×List Nat
 |0=>([],[])
 |_=>([],[])
theorem F151_ok:kj8 Tryz.prog K151 noRg Tryz.f151=some F151:=by kernel_rfl
/- 152: slices.reverseRangeOrdered[int] -/
def c152L0:ACode:=(.seq (.seq (.region [.m 11 6, .m 12 7, .o 13 (.b .lss 11 12)]) (.cond (.tmp 13) .skip (.exit 0))) (.block 1 [0,6,7] (.seq (.region [.m 14 0, .m 15 6, .m 16 0, .m 17 7, .m 18 0, .m 19 7, .o 20 (.i 1 18 19), .o 21 (.l 20), .m 22 0, .m 23 6, .o 24 (.i 1 22 23), .o 25 (.l 24), .o 26 (.i 1 14 15), .n (.st 1 (.tmp 26) (.tmp 21)), .o 27 (.i 1 16 17), .n (.st 1 (.tmp 27) (.tmp 25))]) (.seq (.region [.m 28 6, .o 29 (.c .add 28 1), .m 6 29]) (.region [.m 30 7, .o 31 (.c .sub 30 1), .m 7 31])))))
def c152:ACode:=(.seq (.region [.m 8 1, .m 6 8]) (.seq (.region [.m 9 2, .o 10 (.c .sub 9 1), .m 7 10]) (.block 0 [] (.loop [0,6,7] c152L0))))
def F152:AFun:=⟨c152,3,32,[]⟩
def K152:Nat→List Nat×List Nat
 |0=>([0,6,7],[])
 |1=>([],[0,6,7])
 |_=>([],[])
theorem F152_ok:kj8 Tryz.prog K152 noRg Tryz.f152=some F152:=by kernel_rfl
/- 153: slices.partialInsertionSortOrdered[int] -/
def c153L0:ACode:=(.seq (.seq (.region [.m 17 7, .m 18 2, .o 19 (.b .lss 17 18), .m 20 19, .g 21 (.m 0) 20 true, .g 22 (.m 7) 20 true, .g 23 (.i 1 21 22) 20 true, .g 24 (.l 23) 20 true, .g 25 (.m 0) 20 true, .g 26 (.m 7) 20 true, .g 27 (.c .sub 26 1) 20 true, .g 28 (.i 1 25 27) 20 true, .g 29 (.l 28) 20 true, .g 30 (.q 154 [24,29]) 20 true, .g 31 (.un .not (.tmp 30)) 20 true, .o 32 (.pick (.tmp 20) (.tmp 31) (.const (.bool false)))]) (.cond (.tmp 32) .skip (.exit 2))) (.block 3 [0,1,2,7,8] (.region [.m 33 7, .o 34 (.c .add 33 1), .m 7 34])))
def c153L1:ACode:=(.seq (.seq (.region [.m 64 9, .o 65 (.c .geq 64 1)]) (.cond (.tmp 65) .skip (.exit 4))) (.seq (.block 5 [0,1,2,7,8,9] (.seq (.seq (.region [.m 68 0, .m 69 9, .o 70 (.i 1 68 69), .o 71 (.l 70), .m 72 0, .m 73 9, .o 74 (.c .sub 73 1), .o 75 (.i 1 72 74), .o 76 (.l 75), .o 77 (.q 154 [71,76]), .o 78 (.un .not (.tmp 77))]) (.cond (.tmp 78) (.exit 4) .skip)) (.region [.m 79 0, .m 80 9, .m 81 0, .m 82 9, .o 83 (.c .sub 82 1), .m 84 0, .m 85 9, .o 86 (.c .sub 85 1), .o 87 (.i 1 84 86), .o 88 (.l 87), .m 89 0, .m 90 9, .o 91 (.i 1 89 90), .o 92 (.l 91), .o 93 (.i 1 79 80), .n (.st 1 (.tmp 93) (.tmp 88)), .o 94 (.i 1 81 83), .n (.st 1 (.tmp 94) (.tmp 92))]))) (.region [.m 66 9, .o 67 (.c .sub 66 1), .m 9 67])))
def c153L2:ACode:=(.seq (.seq (.region [.m 101 10, .m 102 2, .o 103 (.b .lss 101 102)]) (.cond (.tmp 103) .skip (.exit 6))) (.seq (.block 7 [0,1,2,7,8,10] (.seq (.seq (.region [.m 106 0, .m 107 10, .o 108 (.i 1 106 107), .o 109 (.l 108), .m 110 0, .m 111 10, .o 112 (.c .sub 111 1), .o 113 (.i 1 110 112), .o 114 (.l 113), .o 115 (.q 154 [109,114]), .o 116 (.un .not (.tmp 115))]) (.cond (.tmp 116) (.exit 6) .skip)) (.region [.m 117 0, .m 118 10, .m 119 0, .m 120 10, .o 121 (.c .sub 120 1), .m 122 0, .m 123 10, .o 124 (.c .sub 123 1), .o 125 (.i 1 122 124), .o 126 (.l 125), .m 127 0, .m 128 10, .o 129 (.i 1 127 128), .o 130 (.l 129), .o 131 (.i 1 117 118), .n (.st 1 (.tmp 131) (.tmp 126)), .o 132 (.i 1 119 121), .n (.st 1 (.tmp 132) (.tmp 130))]))) (.region [.m 104 10, .o 105 (.c .add 104 1), .m 10 105])))
def c153L3:ACode:=(.seq (.seq (.region [.m 13 8, .o 14 (.c .lss 13 5)]) (.cond (.tmp 14) .skip (.exit 0))) (.seq (.block 1 [0,1,2,7,8] (.seq (.block 2 [0,1,2,7,8] (.loop [0,1,2,7,8] c153L0)) (.seq (.seq (.region [.m 35 7, .m 36 2, .o 37 (.b .eql 35 36)]) (.cond (.tmp 37) (.seq (.region [.o 6 (.mv (.const (.bool true)))]) .ret) .skip)) (.seq (.seq (.region [.m 38 2, .m 39 1, .o 40 (.b .sub 38 39), .o 41 (.c .lss 40 50)]) (.cond (.tmp 41) (.seq (.region [.o 6 (.mv (.const (.bool false)))]) .ret) .skip)) (.seq (.region [.m 42 0, .m 43 7, .m 44 0, .m 45 7, .o 46 (.c .sub 45 1), .m 47 0, .m 48 7, .o 49 (.c .sub 48 1), .o 50 (.i 1 47 49), .o 51 (.l 50), .m 52 0, .m 53 7, .o 54 (.i 1 52 53), .o 55 (.l 54), .o 56 (.i 1 42 43), .n (.st 1 (.tmp 56) (.tmp 51)), .o 57 (.i 1 44 46), .n (.st 1 (.tmp 57) (.tmp 55))]) (.seq (.seq (.region [.m 58 7, .m 59 1, .o 60 (.b .sub 58 59), .o 61 (.c .geq 60 2)]) (.cond (.tmp 61) (.seq (.region [.m 62 7, .o 63 (.c .sub 62 1), .m 9 63]) (.block 4 [0,1,2,7,8] (.loop [0,1,2,7,8,9] c153L1))) .skip)) (.seq (.region [.m 95 2, .m 96 7, .o 97 (.b .sub 95 96), .o 98 (.c .geq 97 2)]) (.cond (.tmp 98) (.seq (.region [.m 99 7, .o 100 (.c .add 99 1), .m 10 100]) (.block 6 [0,1,2,7,8] (.loop [0,1,2,7,8,10] c153L2))) .skip)))))))) (.region [.m 15 8, .o 16 (.c .add 15 1), .m 8 16])))
def c153:ACode:=(.seq (.region [.o 6 (.mv (.const (.bool false)))]) (.seq (.region [.m 11 1, .o 12 (.c .add 11 1), .m 7 12]) (.seq (.seq (.region [.k 8 0]) (.block 0 [] (.loop [0,1,2,7,8] c153L3))) (.seq (.region [.o 6 (.mv (.const (.bool false)))]) .ret))))
def F153:AFun:=⟨c153,3,133,[(.tmp 6)]⟩
def K153:Nat→List Nat×List Nat
 |0=>([0,1,2,7,8],[])
 |1=>([],[0,1,2,7,8])
 |2=>([0,1,2,7,8],[0,1,2,7,8])
 |3=>([],[0,1,2,7,8])
 |4=>([0,1,2,7,8,9],[0,1,2,7,8])
 |5=>([],[0,1,2,7,8,9])
 |6=>([0,1,2,7,8,10],[0,1,2,7,8])
 |7=>([],[0,1,2,7,8,10])
 |_=>([],[])
theorem F153_ok:kj8 Tryz.prog K153 noRg Tryz.f153=some F153:=by kernel_rfl
/- 154: cmp.Less[int] -/
def c154:ACode:=(.seq (.region [.o 4 (.mv (.const (.bool false)))]) (.seq (.region [.m 5 0, .o 6 (.q 185 [5]), .m 7 6, .g 8 (.m 1) 7 true, .g 9 (.q 185 [8]) 7 true, .g 10 (.un .not (.tmp 9)) 7 true, .o 11 (.pick (.tmp 7) (.tmp 10) (.const (.bool false))), .m 12 11, .g 13 (.m 0) 12 false, .g 14 (.m 1) 12 false, .g 15 (.b .lss 13 14) 12 false, .o 16 (.pick (.tmp 12) (.const (.bool true)) (.tmp 15)), .m 4 16]) .ret))
def F154:AFun:=⟨c154,2,17,[(.tmp 4)]⟩
def K154:Nat→List Nat×List Nat
 |_=>([],[])
theorem F154_ok:kj8 Tryz.prog K154 noRg Tryz.f154=some F154:=by kernel_rfl
/- 155: slices.partitionEqualOrdered[int] -/
def c155L0:ACode:=(.seq (.seq (.region [.m 29 9, .m 30 10, .o 31 (.b .leq 29 30), .m 32 31, .g 33 (.m 0) 32 true, .g 34 (.m 1) 32 true, .g 35 (.i 1 33 34) 32 true, .g 36 (.l 35) 32 true, .g 37 (.m 0) 32 true, .g 38 (.m 9) 32 true, .g 39 (.i 1 37 38) 32 true, .g 40 (.l 39) 32 true, .g 41 (.q 154 [36,40]) 32 true, .g 42 (.un .not (.tmp 41)) 32 true, .o 43 (.pick (.tmp 32) (.tmp 42) (.const (.bool false)))]) (.cond (.tmp 43) .skip (.exit 2))) (.block 3 [0,1,9,10] (.region [.m 44 9, .o 45 (.c .add 44 1), .m 9 45])))
def c155L1:ACode:=(.seq (.seq (.region [.m 46 9, .m 47 10, .o 48 (.b .leq 46 47), .m 49 48, .g 50 (.m 0) 49 true, .g 51 (.m 1) 49 true, .g 52 (.i 1 50 51) 49 true, .g 53 (.l 52) 49 true, .g 54 (.m 0) 49 true, .g 55 (.m 10) 49 true, .g 56 (.i 1 54 55) 49 true, .g 57 (.l 56) 49 true, .g 58 (.q 154 [53,57]) 49 true, .o 59 (.pick (.tmp 49) (.tmp 58) (.const (.bool false)))]) (.cond (.tmp 59) .skip (.exit 4))) (.block 5 [0,1,9,10] (.region [.m 60 10, .o 61 (.c .sub 60 1), .m 10 61])))
def c155L2:ACode:=(.block 1 [0,1,9,10] (.seq (.block 2 [0,1,9,10] (.loop [0,1,9,10] c155L0)) (.seq (.block 4 [0,1,9,10] (.loop [0,1,9,10] c155L1)) (.seq (.seq (.region [.m 62 9, .m 63 10, .o 64 (.b .gtr 62 63)]) (.cond (.tmp 64) (.exit 0) .skip)) (.seq (.region [.m 65 0, .m 66 9, .m 67 0, .m 68 10, .m 69 0, .m 70 10, .o 71 (.i 1 69 70), .o 72 (.l 71), .m 73 0, .m 74 9, .o 75 (.i 1 73 74), .o 76 (.l 75), .o 77 (.i 1 65 66), .n (.st 1 (.tmp 77) (.tmp 72)), .o 78 (.i 1 67 68), .n (.st 1 (.tmp 78) (.tmp 76))]) (.seq (.region [.m 79 9, .o 80 (.c .add 79 1), .m 9 80]) (.region [.m 81 10, .o 82 (.c .sub 81 1), .m 10 82])))))))
def c155:ACode:=(.seq (.region [.k 8 0]) (.seq (.region [.m 11 0, .m 12 1, .m 13 0, .m 14 3, .m 15 0, .m 16 3, .o 17 (.i 1 15 16), .o 18 (.l 17), .m 19 0, .m 20 1, .o 21 (.i 1 19 20), .o 22 (.l 21), .o 23 (.i 1 11 12), .n (.st 1 (.tmp 23) (.tmp 18)), .o 24 (.i 1 13 14), .n (.st 1 (.tmp 24) (.tmp 22))]) (.seq (.region [.m 25 1, .o 26 (.c .add 25 1), .m 27 2, .o 28 (.c .sub 27 1), .m 9 26, .m 10 28]) (.seq (.block 0 [9] (.loop [0,1,9,10] c155L2)) (.seq (.region [.m 83 9, .m 8 83]) .ret)))))
def F155:AFun:=⟨c155,4,84,[(.tmp 8)]⟩
def K155:Nat→List Nat×List Nat
 |0=>([0,1,9,10],[9])
 |1=>([],[0,1,9,10])
 |2=>([0,1,9,10],[0,1,9,10])
 |3=>([],[0,1,9,10])
 |4=>([0,1,9,10],[0,1,9,10])
 |5=>([],[0,1,9,10])
 |_=>([],[])
theorem F155_ok:kj8 Tryz.prog K155 noRg Tryz.f155=some F155:=by kernel_rfl
/- 156: slices.partitionOrdered[int] -/
def c156L0:ACode:=(.seq (.seq (.region [.m 30 10, .m 31 11, .o 32 (.b .leq 30 31), .m 33 32, .g 34 (.m 0) 33 true, .g 35 (.m 10) 33 true, .g 36 (.i 1 34 35) 33 true, .g 37 (.l 36) 33 true, .g 38 (.m 0) 33 true, .g 39 (.m 1) 33 true, .g 40 (.i 1 38 39) 33 true, .g 41 (.l 40) 33 true, .g 42 (.q 154 [37,41]) 33 true, .o 43 (.pick (.tmp 33) (.tmp 42) (.const (.bool false)))]) (.cond (.tmp 43) .skip (.exit 0))) (.block 1 [0,1,10,11] (.region [.m 44 10, .o 45 (.c .add 44 1), .m 10 45])))
def c156L1:ACode:=(.seq (.seq (.region [.m 46 10, .m 47 11, .o 48 (.b .leq 46 47), .m 49 48, .g 50 (.m 0) 49 true, .g 51 (.m 11) 49 true, .g 52 (.i 1 50 51) 49 true, .g 53 (.l 52) 49 true, .g 54 (.m 0) 49 true, .g 55 (.m 1) 49 true, .g 56 (.i 1 54 55) 49 true, .g 57 (.l 56) 49 true, .g 58 (.q 154 [53,57]) 49 true, .g 59 (.un .not (.tmp 58)) 49 true, .o 60 (.pick (.tmp 49) (.tmp 59) (.const (.bool false)))]) (.cond (.tmp 60) .skip (.exit 2))) (.block 3 [0,1,10,11] (.region [.m 61 11, .o 62 (.c .sub 61 1), .m 11 62])))
def c156L2:ACode:=(.seq (.seq (.region [.m 99 10, .m 100 11, .o 101 (.b .leq 99 100), .m 102 101, .g 103 (.m 0) 102 true, .g 104 (.m 10) 102 true, .g 105 (.i 1 103 104) 102 true, .g 106 (.l 105) 102 true, .g 107 (.m 0) 102 true, .g 108 (.m 1) 102 true, .g 109 (.i 1 107 108) 102 true, .g 110 (.l 109) 102 true, .g 111 (.q 154 [106,110]) 102 true, .o 112 (.pick (.tmp 102) (.tmp 111) (.const (.bool false)))]) (.cond (.tmp 112) .skip (.exit 6))) (.block 7 [0,1,10,11] (.region [.m 113 10, .o 114 (.c .add 113 1), .m 10 114])))
def c156L3:ACode:=(.seq (.seq (.region [.m 115 10, .m 116 11, .o 117 (.b .leq 115 116), .m 118 117, .g 119 (.m 0) 118 true, .g 120 (.m 11) 118 true, .g 121 (.i 1 119 120) 118 true, .g 122 (.l 121) 118 true, .g 123 (.m 0) 118 true, .g 124 (.m 1) 118 true, .g 125 (.i 1 123 124) 118 true, .g 126 (.l 125) 118 true, .g 127 (.q 154 [122,126]) 118 true, .g 128 (.un .not (.tmp 127)) 118 true, .o 129 (.pick (.tmp 118) (.tmp 128) (.const (.bool false)))]) (.cond (.tmp 129) .skip (.exit 8))) (.block 9 [0,1,10,11] (.region [.m 130 11, .o 131 (.c .sub 130 1), .m 11 131])))
def c156L4:ACode:=(.block 5 [0,1,10,11] (.seq (.block 6 [0,1,10,11] (.loop [0,1,10,11] c156L2)) (.seq (.block 8 [0,1,10,11] (.loop [0,1,10,11] c156L3)) (.seq (.seq (.region [.m 132 10, .m 133 11, .o 134 (.b .gtr 132 133)]) (.cond (.tmp 134) (.exit 4) .skip)) (.seq (.region [.m 135 0, .m 136 10, .m 137 0, .m 138 11, .m 139 0, .m 140 11, .o 141 (.i 1 139 140), .o 142 (.l 141), .m 143 0, .m 144 10, .o 145 (.i 1 143 144), .o 146 (.l 145), .o 147 (.i 1 135 136), .n (.st 1 (.tmp 147) (.tmp 142)), .o 148 (.i 1 137 138), .n (.st 1 (.tmp 148) (.tmp 146))]) (.seq (.region [.m 149 10, .o 150 (.c .add 149 1), .m 10 150]) (.region [.m 151 11, .o 152 (.c .sub 151 1), .m 11 152])))))))
def c156:ACode:=(.seq (.region [.k 8 0, .o 9 (.mv (.const (.bool false)))]) (.seq (.region [.m 12 0, .m 13 1, .m 14 0, .m 15 3, .m 16 0, .m 17 3, .o 18 (.i 1 16 17), .o 19 (.l 18), .m 20 0, .m 21 1, .o 22 (.i 1 20 21), .o 23 (.l 22), .o 24 (.i 1 12 13), .n (.st 1 (.tmp 24) (.tmp 19)), .o 25 (.i 1 14 15), .n (.st 1 (.tmp 25) (.tmp 23))]) (.seq (.region [.m 26 1, .o 27 (.c .add 26 1), .m 28 2, .o 29 (.c .sub 28 1), .m 10 27, .m 11 29]) (.seq (.block 0 [0,1,10,11] (.loop [0,1,10,11] c156L0)) (.seq (.block 2 [0,1,10,11] (.loop [0,1,10,11] c156L1)) (.seq (.seq (.region [.m 63 10, .m 64 11, .o 65 (.b .gtr 63 64)]) (.cond (.tmp 65) (.seq (.region [.m 66 0, .m 67 11, .m 68 0, .m 69 1, .m 70 0, .m 71 1, .o 72 (.i 1 70 71), .o 73 (.l 72), .m 74 0, .m 75 11, .o 76 (.i 1 74 75), .o 77 (.l 76), .o 78 (.i 1 66 67), .n (.st 1 (.tmp 78) (.tmp 73)), .o 79 (.i 1 68 69), .n (.st 1 (.tmp 79) (.tmp 77))]) (.seq (.region [.m 80 11, .m 8 80, .o 9 (.mv (.const (.bool true)))]) .ret)) .skip)) (.seq (.region [.m 81 0, .m 82 10, .m 83 0, .m 84 11, .m 85 0, .m 86 11, .o 87 (.i 1 85 86), .o 88 (.l 87), .m 89 0, .m 90 10, .o 91 (.i 1 89 90), .o 92 (.l 91), .o 93 (.i 1 81 82), .n (.st 1 (.tmp 93) (.tmp 88)), .o 94 (.i 1 83 84), .n (.st 1 (.tmp 94) (.tmp 92))]) (.seq (.region [.m 95 10, .o 96 (.c .add 95 1), .m 10 96]) (.seq (.region [.m 97 11, .o 98 (.c .sub 97 1), .m 11 98]) (.seq (.block 4 [0,1,11] (.loop [0,1,10,11] c156L4)) (.seq (.region [.m 153 0, .m 154 11, .m 155 0, .m 156 1, .m 157 0, .m 158 1, .o 159 (.i 1 157 158), .o 160 (.l 159), .m 161 0, .m 162 11, .o 163 (.i 1 161 162), .o 164 (.l 163), .o 165 (.i 1 153 154), .n (.st 1 (.tmp 165) (.tmp 160)), .o 166 (.i 1 155 156), .n (.st 1 (.tmp 166) (.tmp 164))]) (.seq (.region [.m 167 11, .m 8 167, .o 9 (.mv (.const (.bool false)))]) .ret))))))))))))
def F156:AFun:=⟨c156,4,168,[(.tmp 8),(.tmp 9)]⟩
def K156:Nat→List Nat×List Nat
 |0=>([0,1,10,11],[0,1,10,11])
 |1=>([],[0,1,10,11])
 |2=>([0,1,10,11],[0,1,10,11])
 |3=>([],[0,1,10,11])
 |4=>([0,1,10,11],[0,1,11])
 |5=>([],[0,1,10,11])
 |6=>([0,1,10,11],[0,1,10,11])
 |7=>([],[0,1,10,11])
 |8=>([0,1,10,11],[0,1,10,11])
 |9=>([],[0,1,10,11])
 |_=>([],[])
theorem F156_ok:kj8 Tryz.prog K156 noRg Tryz.f156=some F156:=by kernel_rfl
/- 158: math/bits.Len64 -/
def c158:ACode:=(.seq (.region [.k 2 0]) (.seq (.seq (.region [.m 3 0, .o 4 (.bin .geq (.tmp 3) (.const (.int .u64 4294967296)))]) (.cond (.tmp 4) (.seq (.region [.m 5 0, .o 6 (.bin .shr (.tmp 5) (.const (.int .u64 32))), .m 0 6]) (.region [.k 2 32])) .skip)) (.seq (.seq (.region [.m 7 0, .o 8 (.bin .geq (.tmp 7) (.const (.int .u64 65536)))]) (.cond (.tmp 8) (.seq (.region [.m 9 0, .o 10 (.bin .shr (.tmp 9) (.const (.int .u64 16))), .m 0 10]) (.region [.m 11 2, .o 12 (.c .add 11 16), .m 2 12])) .skip)) (.seq (.seq (.region [.m 13 0, .o 14 (.bin .geq (.tmp 13) (.const (.int .u64 256)))]) (.cond (.tmp 14) (.seq (.region [.m 15 0, .o 16 (.bin .shr (.tmp 15) (.const (.int .u64 8))), .m 0 16]) (.region [.m 17 2, .o 18 (.c .add 17 8), .m 2 18])) .skip)) (.seq (.region [.m 19 2, .m 20 0, .o 21 (.conv .u8 (.tmp 20)), .o 22 (.idxS (.const (.string {data:= #[0,1,2,2,3,3,3,3,4,4,4,4,4,4,4,4,5,5,5,5,5,5,5,5,5,5,5,5,5,5,5,5,6,6,6,6,6,6,6,6,6,6,6,6,6,6,6,6,6,6,6,6,6,6,6,6,6,6,6,6,6,6,6,6,7,7,7,7,7,7,7,7,7,7,7,7,7,7,7,7,7,7,7,7,7,7,7,7,7,7,7,7,7,7,7,7,7,7,7,7,7,7,7,7,7,7,7,7,7,7,7,7,7,7,7,7,7,7,7,7,7,7,7,7,7,7,7,7,8,8,8,8,8,8,8,8,8,8,8,8,8,8,8,8,8,8,8,8,8,8,8,8,8,8,8,8,8,8,8,8,8,8,8,8,8,8,8,8,8,8,8,8,8,8,8,8,8,8,8,8,8,8,8,8,8,8,8,8,8,8,8,8,8,8,8,8,8,8,8,8,8,8,8,8,8,8,8,8,8,8,8,8,8,8,8,8,8,8,8,8,8,8,8,8,8,8,8,8,8,8,8,8,8,8,8,8,8,8,8,8,8,8,8,8,8,8,8,8,8,8,8,8,8,8,8,8]})) (.tmp 21)), .o 23 (.conv .i64 (.tmp 22)), .o 24 (.b .add 19 23), .m 2 24]) .ret)))))
def F158:AFun:=⟨c158,1,25,[(.tmp 2)]⟩
def K158:Nat→List Nat×List Nat
 |_=>([],[])
theorem F158_ok:kj8 Tryz.prog K158 noRg Tryz.f158=some F158:=by kernel_rfl
/- 159: slices.Clone[[]int,int] -/
def c159:ACode:=(.seq (.region [.o 2 (.mv (.const (.slice none 0 0)))]) (.seq (.seq (.region [.m 3 0, .o 4 (.eqn false 0 (.tmp 3))]) (.cond (.tmp 4) (.seq (.region [.o 2 (.mv (.const (.slice none 0 0)))]) .ret) .skip)) (.seq (.region [.o 5 (.mkSl 3 1 0 []), .m 6 0, .o 7 (.app 3 1 8 (.tmp 5) (.tmp 6)), .m 2 7]) .ret)))
def F159:AFun:=⟨c159,1,8,[(.tmp 2)]⟩
def K159:Nat→List Nat×List Nat
 |_=>([],[])
theorem F159_ok:kj8 Tryz.prog K159 noRg Tryz.f159=some F159:=by kernel_rfl
/- 160: (*syndrome/field.Field).Inv -/
def c160:ACode:=(.seq (.region [.k 4 0]) (.seq (.seq (.region [.m 5 0, .m 6 1, .o 7 (.q 83 [5,6]), .o 8 (.un .not (.tmp 7)), .m 9 8, .g 10 (.m 1) 9 false, .g 11 (.c .eql 10 0) 9 false, .o 12 (.pick (.tmp 9) (.const (.bool true)) (.tmp 11))]) (.cond (.tmp 12) (.seq (.region [.k 4 (-1)]) .ret) .skip)) (.seq (.region [.m 13 0, .o 14 (.nilck (.tmp 13)), .o 15 (.f 5 14), .o 16 (.l 15), .m 17 0, .o 18 (.nilck (.tmp 17)), .o 19 (.f 0 18), .o 20 (.l 19), .o 21 (.c .sub 20 1), .m 22 0, .o 23 (.nilck (.tmp 22)), .o 24 (.f 6 23), .o 25 (.l 24), .m 26 1, .o 27 (.i 1 25 26), .o 28 (.l 27), .o 29 (.b .sub 21 28), .m 30 0, .o 31 (.nilck (.tmp 30)), .o 32 (.f 0 31), .o 33 (.l 32), .o 34 (.c .sub 33 1), .o 35 (.b .rem 29 34), .o 36 (.i 1 16 35), .o 37 (.l 36), .m 4 37]) .ret)))
def F160:AFun:=⟨c160,2,38,[(.tmp 4)]⟩
def K160:Nat→List Nat×List Nat
 |_=>([],[])
theorem F160_ok:kj8 Tryz.prog K160 noRg Tryz.f160=some F160:=by kernel_rfl
/- 161: (*syndrome/field.Field).Sub -/
def c161:ACode:=(.seq (.region [.k 6 0]) (.seq (.region [.m 7 0, .m 8 1, .m 9 0, .m 10 2, .o 11 (.q 57 [9,10]), .o 12 (.q 92 [7,8,11]), .m 6 12]) .ret))
def F161:AFun:=⟨c161,3,13,[(.tmp 6)]⟩
def K161:Nat→List Nat×List Nat
 |_=>([],[])
theorem F161_ok:kj8 Tryz.prog K161 noRg Tryz.f161=some F161:=by kernel_rfl
/- 162: syndrome/matrix.Check -/
def c162L0:ACode:=(.seq (.region [.o 23 (.b .lss 22 21)]) (.seq (.cond (.tmp 23) .skip (.exit 0)) (.seq (.block 1 [1,5,20,21,22] (.seq (.region [.o 24 (.i 1 20 22), .o 25 (.l 24), .m 8 25]) (.seq (.seq (.region [.m 26 8, .o 27 (.n 26), .m 28 1, .o 29 (.iaddr 1 (.tmp 28) (.const (.int .i64 0))), .o 30 (.l 29), .o 31 (.n 30), .o 32 (.b .neq 27 31), .m 33 32, .g 34 (.m 8) 33 false, .g 35 (.n 34) 33 false, .g 36 (.c .eql 35 0) 33 false, .o 37 (.pick (.tmp 33) (.const (.bool true)) (.tmp 36))]) (.cond (.tmp 37) (.seq (.region [.k 4 3]) .ret) .skip)) (.seq (.seq (.region [.m 38 8, .o 39 (.n 38), .o 40 (.c .gtr 39 64)]) (.cond (.tmp 40) (.seq (.region [.k 4 4]) .ret) .skip)) (.seq (.region [.m 41 8, .o 42 (.mkf 186 [(.tmp 5)]), .o 43 (.q 81 [41,42])]) (.cond (.tmp 43) (.seq (.region [.k 4 2]) .ret) .skip)))))) (.region [.o 44 (.c .add 22 1), .m 22 44]))))
def c162:ACode:=(.seq (.region [.k 4 0]) (.seq (.region [.m 10 0, .o 11 (.q 48 [10]), .m 9 11, .o 12 (.e 0 9), .o 13 (.e 1 9), .o 5 (.alloc 71 [(.pointer none)]), .n (.st 1 (.tmp 5) (.tmp 12)), .m 6 13]) (.seq (.seq (.region [.m 14 6, .o 15 (.c .neq 14 0)]) (.cond (.tmp 15) (.seq (.region [.m 16 6, .m 4 16]) .ret) .skip)) (.seq (.seq (.region [.m 17 1, .o 18 (.n 17), .o 19 (.c .gtr 18 64)]) (.cond (.tmp 19) (.seq (.region [.k 4 4]) .ret) .skip)) (.seq (.seq (.region [.m 20 1, .o 21 (.n 20), .k 22 0]) (.block 0 [] (.loop [1,5,20,21,22] c162L0))) (.seq (.region [.k 4 0]) .ret))))))
def F162:AFun:=⟨c162,2,45,[(.tmp 4)]⟩
def K162:Nat→List Nat×List Nat
 |0=>([1,5,20,21,22],[])
 |1=>([],[1,5,20,21,22])
 |_=>([],[])
theorem F162_ok:kj8 Tryz.prog K162 noRg Tryz.f162=some F162:=by kernel_rfl
/- 163: syndrome/matrix.clone -/
def c163L0:ACode:=(.seq (.region [.o 12 (.b .lss 11 10)]) (.seq (.cond (.tmp 12) .skip (.exit 0)) (.seq (.block 1 [3,9,10,11] (.seq (.region [.m 13 11, .o 14 (.i 1 9 11), .o 15 (.l 14), .m 4 13, .m 5 15]) (.region [.m 16 3, .m 17 4, .m 18 5, .o 19 (.q 159 [18]), .o 20 (.i 1 16 17), .n (.st 1 (.tmp 20) (.tmp 19))]))) (.region [.o 21 (.c .add 11 1), .m 11 21]))))
def c163:ACode:=(.seq (.region [.o 2 (.mv (.const (.slice none 0 0)))]) (.seq (.region [.m 6 0, .o 7 (.n 6), .o 8 (.mks 22 1 24 [(.slice none 0 0)] (.tmp 7) (.tmp 7)), .m 3 8]) (.seq (.seq (.region [.m 9 0, .o 10 (.n 9), .k 11 0]) (.block 0 [3] (.loop [3,9,10,11] c163L0))) (.seq (.region [.m 22 3, .m 2 22]) .ret))))
def F163:AFun:=⟨c163,1,23,[(.tmp 2)]⟩
def K163:Nat→List Nat×List Nat
 |0=>([3,9,10,11],[3])
 |1=>([],[3,9,10,11])
 |_=>([],[])
theorem F163_ok:kj8 Tryz.prog K163 noRg Tryz.f163=some F163:=by kernel_rfl
/- 164: slices.IndexFunc[[][]int,[]int] -/
def c164L0:ACode:=(.seq (.region [.o 9 (.b .lss 8 7)]) (.seq (.cond (.tmp 9) .skip (.exit 0)) (.seq (.block 1 [0,1,7,8] (.seq (.region [.m 10 8, .m 5 10]) (.seq (.region [.m 11 1, .m 12 0, .m 13 5, .o 14 (.i 1 12 13), .o 15 (.l 14), .o 16 (.calld (.tmp 11) [(.tmp 15)])]) (.cond (.tmp 16) (.seq (.region [.m 17 5, .m 4 17]) .ret) .skip)))) (.region [.o 18 (.c .add 8 1), .m 8 18]))))
def c164:ACode:=(.seq (.region [.k 4 0]) (.seq (.seq (.region [.m 6 0, .o 7 (.n 6), .k 8 0]) (.block 0 [] (.loop [0,1,7,8] c164L0))) (.seq (.region [.k 4 (-1)]) .ret)))
def F164:AFun:=⟨c164,2,19,[(.tmp 4)]⟩
def K164:Nat→List Nat×List Nat
 |0=>([0,1,7,8],[])
 |1=>([],[0,1,7,8])
 |_=>([],[])
theorem F164_ok:kj8 Tryz.prog K164 noRg Tryz.f164=some F164:=by kernel_rfl
/- 165: syndrome/matrix.Reduce$1 -/
def c165:ACode:=(.seq (.region [.o 3 (.mv (.const (.bool false)))]) (.seq (.region [.m 4 0, .o 5 (.l 1), .o 6 (.i 1 4 5), .o 7 (.l 6), .o 8 (.c .neq 7 0), .m 3 8]) .ret))
def F165:AFun:=⟨c165,2,9,[(.tmp 3)]⟩
def K165:Nat→List Nat×List Nat
 |_=>([],[])
theorem F165_ok:kj8 Tryz.prog K165 noRg Tryz.f165=some F165:=by kernel_rfl
/- 166: syndrome/matrix.scale -/
def c166L0:ACode:=(.seq (.region [.o 10 (.b .lss 9 8)]) (.seq (.cond (.tmp 10) .skip (.exit 0)) (.seq (.block 1 [0,1,2,8,9] (.seq (.region [.m 11 9, .m 6 11]) (.region [.m 12 1, .m 13 6, .m 14 0, .m 15 1, .m 16 6, .o 17 (.i 1 15 16), .o 18 (.l 17), .m 19 2, .o 20 (.q 93 [14,18,19]), .o 21 (.i 1 12 13), .n (.st 1 (.tmp 21) (.tmp 20))]))) (.region [.o 22 (.c .add 9 1), .m 9 22]))))
def c166:ACode:=(.seq (.region [.m 7 1, .o 8 (.n 7), .k 9 0]) (.block 0 [] (.loop [0,1,2,8,9] c166L0)))
def F166:AFun:=⟨c166,3,23,[]⟩
def K166:Nat→List Nat×List Nat
 |0=>([0,1,2,8,9],[])
 |1=>([],[0,1,2,8,9])
 |_=>([],[])
theorem F166_ok:kj8 Tryz.prog K166 noRg Tryz.f166=some F166:=by kernel_rfl
/- 167: syndrome/matrix.less -/
def c167L0:ACode:=(.seq (.region [.o 12 (.b .lss 11 10)]) (.seq (.cond (.tmp 12) .skip (.exit 0)) (.seq (.block 1 [0,1,2,3,10,11] (.seq (.region [.m 13 11, .m 8 13]) (.region [.m 14 1, .m 15 8, .m 16 0, .m 17 1, .m 18 8, .o 19 (.i 1 17 18), .o 20 (.l 19), .m 21 0, .m 22 3, .m 23 2, .m 24 8, .o 25 (.i 1 23 24), .o 26 (.l 25),⟨(some 27),(.call 93 [(.tmp 21),(.tmp 22),(.tmp 26)]),none,true⟩, .o 28 (.q 161 [16,20,27]), .o 29 (.i 1 14 15), .n (.st 1 (.tmp 29) (.tmp 28))]))) (.region [.o 30 (.c .add 11 1), .m 11 30]))))
def c167:ACode:=(.seq (.region [.m 9 1, .o 10 (.n 9), .k 11 0]) (.block 0 [] (.loop [0,1,2,3,10,11] c167L0)))
def F167:AFun:=⟨c167,4,31,[]⟩
def K167:Nat→List Nat×List Nat
 |0=>([0,1,2,3,10,11],[])
 |1=>([],[0,1,2,3,10,11])
 |_=>([],[])
theorem F167_ok:kj8 Tryz.prog K167 noRg Tryz.f167=some F167:=by kernel_rfl
/- 168: syndrome/matrix.Null -/
def c168L0:ACode:=(.seq (.region [.o 57 (.b .lss 56 55)]) (.seq (.cond (.tmp 57) .skip (.exit 2)) (.seq (.block 3 [0,1,6,7,9,11,12,13,39,40,54,55,56] (.seq (.region [.m 58 56, .o 59 (.i 1 54 56), .o 60 (.l 59), .m 14 58, .m 15 60]) (.region [.m 61 13, .m 62 15, .m 63 9, .m 64 6, .m 65 14, .o 66 (.i 1 64 65), .o 67 (.l 66), .m 68 12, .o 69 (.i 1 67 68), .o 70 (.l 69), .o 71 (.q 57 [63,70]), .o 72 (.i 1 61 62), .n (.st 1 (.tmp 72) (.tmp 71))]))) (.region [.o 73 (.c .add 56 1), .m 56 73]))))
def c168L1:ACode:=(.seq (.region [.o 41 (.b .lss 40 39)]) (.seq (.cond (.tmp 41) .skip (.exit 0)) (.seq (.block 1 [0,1,6,7,9,11,39,40] (.seq (.region [.m 42 40, .m 12 42]) (.seq (.seq (.region [.m 43 7, .m 44 12, .o 45 (.q 68 [43,44])]) (.cond (.tmp 45) (.exit 1) .skip)) (.seq (.region [.m 46 1, .o 47 (.iaddr 1 (.tmp 46) (.const (.int .i64 0))), .o 48 (.l 47), .o 49 (.n 48), .o 50 (.mks 3 1 8 [(.int .i64 0)] (.tmp 49) (.tmp 49)), .m 13 50]) (.seq (.region [.m 51 13, .m 52 12, .o 53 (.i 1 51 52), .n (.st 1 (.tmp 53) (.const (.int .i64 1)))]) (.seq (.seq (.region [.m 54 7, .o 55 (.n 54), .k 56 0]) (.block 2 [0,1,6,7,9,11,13,39,40] (.loop [0,1,6,7,9,11,12,13,39,40,54,55,56] c168L0))) (.region [.m 74 11, .m 75 13, .o 76 (.mkSl 22 1 1 [(.tmp 75)]), .o 77 (.app 22 1 24 (.tmp 74) (.tmp 76)), .m 11 77]))))))) (.region [.o 78 (.c .add 40 1), .m 40 78]))))
def c168:ACode:=(.seq (.region [.o 4 (.mv (.const (.slice none 0 0))), .k 5 0]) (.seq (.region [.m 17 0, .m 18 1, .o 19 (.q 126 [17,18]), .m 16 19, .o 20 (.e 0 16), .o 21 (.e 1 16), .o 22 (.e 2 16), .m 6 20, .m 7 21, .m 8 22]) (.seq (.seq (.region [.m 23 8, .o 24 (.c .neq 23 0), .m 25 24, .g 26 (.m 1) 25 false, .g 27 (.n 26) 25 false, .g 28 (.c .eql 27 0) 25 false, .o 29 (.pick (.tmp 25) (.const (.bool true)) (.tmp 28))]) (.cond (.tmp 29) (.seq (.region [.m 30 8, .o 4 (.mv (.const (.slice none 0 0))), .m 5 30]) .ret) .skip)) (.seq (.region [.m 32 0, .o 33 (.q 48 [32]), .m 31 33, .o 34 (.e 0 31), .o 35 (.e 1 31), .m 9 34, .m 10 35]) (.seq (.region [.o 11 (.mv (.const (.slice none 0 0)))]) (.seq (.seq (.region [.m 36 1, .o 37 (.iaddr 1 (.tmp 36) (.const (.int .i64 0))), .o 38 (.l 37), .o 39 (.n 38), .k 40 0]) (.block 0 [0,11] (.loop [0,1,6,7,9,11,39,40] c168L1))) (.seq (.region [.m 80 0, .m 81 11, .o 82 (.q 126 [80,81]), .m 79 82, .o 83 (.e 0 79), .o 84 (.e 1 79), .o 85 (.e 2 79), .m 11 83]) (.seq (.region [.m 86 11, .m 4 86, .k 5 0]) .ret))))))))
def F168:AFun:=⟨c168,2,87,[(.tmp 4),(.tmp 5)]⟩
def K168:Nat→List Nat×List Nat
 |0=>([0,1,6,7,9,11,39,40],[0,11])
 |1=>([],[0,1,6,7,9,11,39,40])
 |2=>([0,1,6,7,9,11,12,13,39,40,54,55,56],[0,1,6,7,9,11,13,39,40])
 |3=>([],[0,1,6,7,9,11,12,13,39,40,54,55,56])
 |_=>([],[])
theorem F168_ok:kj8 Tryz.prog K168 noRg Tryz.f168=some F168:=by kernel_rfl
/- 169: syndrome/code.word$1 -/
def c169:ACode:=(.seq (.region [.o 3 (.mv (.const (.bool false)))]) (.seq (.region [.o 4 (.l 1), .m 5 0, .o 6 (.q 83 [4,5]), .o 7 (.un .not (.tmp 6)), .m 3 7]) .ret))
def F169:AFun:=⟨c169,2,8,[(.tmp 3)]⟩
def K169:Nat→List Nat×List Nat
 |_=>([],[])
theorem F169_ok:kj8 Tryz.prog K169 noRg Tryz.f169=some F169:=by kernel_rfl
/- 179: (*syndrome/field.Field).turn -/
def c179L0:ACode:=(.seq (.region [.o 57 (.b .lss 56 55)]) (.seq (.cond (.tmp 57) .skip (.exit 0)) (.seq (.block 1 [0,5,6,55,56] (.seq (.region [.m 58 56, .m 7 58]) (.region [.m 59 5, .m 60 7, .m 61 5, .m 62 7, .o 63 (.i 1 61 62), .o 64 (.l 63), .m 65 6, .m 66 0, .o 67 (.nilck (.tmp 66)), .o 68 (.f 1 67), .o 69 (.l 68), .m 70 0, .o 71 (.nilck (.tmp 70)), .o 72 (.f 3 71), .o 73 (.l 72), .m 74 7, .o 75 (.i 1 73 74), .o 76 (.l 75), .o 77 (.b .sub 69 76), .o 78 (.b .mul 65 77), .o 79 (.b .add 64 78), .m 80 0, .o 81 (.nilck (.tmp 80)), .o 82 (.f 1 81), .o 83 (.l 82), .o 84 (.b .rem 79 83), .o 85 (.i 1 59 60), .n (.st 1 (.tmp 85) (.tmp 84))]))) (.region [.o 86 (.c .add 56 1), .m 56 86]))))
def c179:ACode:=(.seq (.region [.k 4 0]) (.seq (.seq (.region [.m 8 0, .o 9 (.nilck (.tmp 8)), .o 10 (.f 2 9), .o 11 (.l 10), .o 12 (.c .eql 11 1)]) (.cond (.tmp 12) (.seq (.region [.m 13 1, .m 14 0, .o 15 (.nilck (.tmp 14)), .o 16 (.f 4 15), .o 17 (.l 16), .o 18 (.b .mul 13 17), .m 19 0, .o 20 (.nilck (.tmp 19)), .o 21 (.f 1 20), .o 22 (.l 21), .o 23 (.b .rem 18 22), .m 4 23]) .ret) .skip)) (.seq (.region [.m 24 1, .m 25 0, .o 26 (.nilck (.tmp 25)), .o 27 (.f 1 26), .o 28 (.l 27), .m 29 0, .o 30 (.nilck (.tmp 29)), .o 31 (.f 2 30), .o 32 (.l 31), .o 33 (.q 117 [24,28,32]), .m 5 33]) (.seq (.region [.m 34 5, .m 35 0, .o 36 (.nilck (.tmp 35)), .o 37 (.f 2 36), .o 38 (.l 37), .o 39 (.c .sub 38 1), .o 40 (.i 1 34 39), .o 41 (.l 40), .m 6 41]) (.seq (.region [.m 42 5, .o 43 (.sl 1 (.tmp 42) (some (.const (.int .i64 1))) none), .m 44 5, .m 45 0, .o 46 (.nilck (.tmp 45)), .o 47 (.f 2 46), .o 48 (.l 47), .o 49 (.c .sub 48 1), .o 50 (.sl 1 (.tmp 44) none (some (.tmp 49))), .o 51 (.cpy 1 (.tmp 43) (.tmp 50))]) (.seq (.region [.m 52 5, .o 53 (.iaddr 1 (.tmp 52) (.const (.int .i64 0))), .n (.st 1 (.tmp 53) (.const (.int .i64 0)))]) (.seq (.seq (.region [.m 54 5, .o 55 (.n 54), .k 56 0]) (.block 0 [0,5] (.loop [0,5,6,55,56] c179L0))) (.seq (.region [.m 87 5, .m 88 0, .o 89 (.nilck (.tmp 88)), .o 90 (.f 1 89), .o 91 (.l 90), .o 92 (.q 193 [87,91]), .m 4 92]) .ret))))))))
def F179:AFun:=⟨c179,2,93,[(.tmp 4)]⟩
def K179:Nat→List Nat×List Nat
 |0=>([0,5,6,55,56],[0,5])
 |1=>([],[0,5,6,55,56])
 |_=>([],[])
theorem F179_ok:kj8 Tryz.prog K179 noRg Tryz.f179=some F179:=by kernel_rfl
/- 180: slices.siftDownOrdered[int] -/
def c180L0:ACode:=(.block 1 [0,2,3,8] (.seq (.region [.m 11 8, .o 12 (.bin .mul (.const (.int .i64 2)) (.tmp 11)), .o 13 (.c .add 12 1), .m 9 13]) (.seq (.seq (.region [.m 14 9, .m 15 2, .o 16 (.b .geq 14 15)]) (.cond (.tmp 16) (.exit 0) .skip)) (.seq (.seq (.region [.m 17 9, .o 18 (.c .add 17 1), .m 19 2, .o 20 (.b .lss 18 19), .m 21 20, .g 22 (.m 0) 21 true, .g 23 (.m 3) 21 true, .g 24 (.m 9) 21 true, .g 25 (.b .add 23 24) 21 true, .g 26 (.i 1 22 25) 21 true, .g 27 (.l 26) 21 true, .g 28 (.m 0) 21 true, .g 29 (.m 3) 21 true, .g 30 (.m 9) 21 true, .g 31 (.b .add 29 30) 21 true, .g 32 (.c .add 31 1) 21 true, .g 33 (.i 1 28 32) 21 true, .g 34 (.l 33) 21 true, .g 35 (.q 154 [27,34]) 21 true, .o 36 (.pick (.tmp 21) (.tmp 35) (.const (.bool false)))]) (.cond (.tmp 36) (.region [.m 37 9, .o 38 (.c .add 37 1), .m 9 38]) .skip)) (.seq (.seq (.region [.m 39 0, .m 40 3, .m 41 8, .o 42 (.b .add 40 41), .o 43 (.i 1 39 42), .o 44 (.l 43), .m 45 0, .m 46 3, .m 47 9, .o 48 (.b .add 46 47), .o 49 (.i 1 45 48), .o 50 (.l 49), .o 51 (.q 154 [44,50]), .o 52 (.un .not (.tmp 51))]) (.cond (.tmp 52) .ret .skip)) (.seq (.region [.m 53 0, .m 54 3, .m 55 8, .o 56 (.b .add 54 55), .m 57 0, .m 58 3, .m 59 9, .o 60 (.b .add 58 59), .m 61 0, .m 62 3, .m 63 9, .o 64 (.b .add 62 63), .o 65 (.i 1 61 64), .o 66 (.l 65), .m 67 0, .m 68 3, .m 69 8, .o 70 (.b .add 68 69), .o 71 (.i 1 67 70), .o 72 (.l 71), .o 73 (.i 1 53 56), .n (.st 1 (.tmp 73) (.tmp 66)), .o 74 (.i 1 57 60), .n (.st 1 (.tmp 74) (.tmp 72))]) (.region [.m 75 9, .m 8 75])))))))
def c180:ACode:=(.seq (.region [.m 10 1, .m 8 10]) (.block 0 [] (.loop [0,2,3,8] c180L0)))
def F180:AFun:=⟨c180,4,76,[]⟩
def K180:Nat→List Nat×List Nat
 |0=>([0,2,3,8],[])
 |1=>([],[0,2,3,8])
 |_=>([],[])
theorem F180_ok:kj8 Tryz.prog K180 noRg Tryz.f180=some F180:=by kernel_rfl
/- 181: slices.nextPowerOfTwo -/
def c181:ACode:=(.seq (.region [.o 2 (.mv (.const (.int .u64 0)))]) (.seq (.region [.m 3 0, .o 4 (.conv .u64 (.tmp 3)), .o 5 (.q 107 [4]), .o 6 (.bin .shl (.const (.int .u64 1)) (.tmp 5)), .m 2 6]) .ret))
def F181:AFun:=⟨c181,1,7,[(.tmp 2)]⟩
def K181:Nat→List Nat×List Nat
 |_=>([],[])
theorem F181_ok:kj8 Tryz.prog K181 noRg Tryz.f181=some F181:=by kernel_rfl
/- 182: (*slices.xorshift).Next -/
def c182:ACode:=(.seq (.region [.o 2 (.mv (.const (.int .u64 0)))]) (.seq (.region [.m 3 0, .o 4 (.nilck (.tmp 3)), .o 5 (.l 4), .m 6 0, .o 7 (.nilck (.tmp 6)), .o 8 (.l 7), .o 9 (.bin .shl (.tmp 8) (.const (.int .u64 13))), .o 10 (.b .xor 5 9), .o 11 (.nilck (.tmp 3)), .n (.st 1 (.tmp 11) (.tmp 10))]) (.seq (.region [.m 12 0, .o 13 (.nilck (.tmp 12)), .o 14 (.l 13), .m 15 0, .o 16 (.nilck (.tmp 15)), .o 17 (.l 16), .o 18 (.bin .shr (.tmp 17) (.const (.int .u64 7))), .o 19 (.b .xor 14 18), .o 20 (.nilck (.tmp 12)), .n (.st 1 (.tmp 20) (.tmp 19))]) (.seq (.region [.m 21 0, .o 22 (.nilck (.tmp 21)), .o 23 (.l 22), .m 24 0, .o 25 (.nilck (.tmp 24)), .o 26 (.l 25), .o 27 (.bin .shl (.tmp 26) (.const (.int .u64 17))), .o 28 (.b .xor 23 27), .o 29 (.nilck (.tmp 21)), .n (.st 1 (.tmp 29) (.tmp 28))]) (.seq (.region [.m 30 0, .o 31 (.nilck (.tmp 30)), .o 32 (.l 31), .m 2 32]) .ret)))))
def F182:AFun:=⟨c182,1,33,[(.tmp 2)]⟩
def K182:Nat→List Nat×List Nat
 |_=>([],[])
theorem F182_ok:kj8 Tryz.prog K182 noRg Tryz.f182=some F182:=by kernel_rfl
/- 183: slices.medianAdjacentOrdered[int] -/
def c183:ACode:=(.seq (.region [.k 6 0]) (.seq (.region [.m 7 0, .m 8 1, .o 9 (.c .sub 8 1), .m 10 1, .m 11 1, .o 12 (.c .add 11 1), .m 13 2, .o 14 (.q 184 [7,9,10,12,13]), .m 6 14]) .ret))
def F183:AFun:=⟨c183,3,15,[(.tmp 6)]⟩
def K183:Nat→List Nat×List Nat
 |_=>([],[])
theorem F183_ok:kj8 Tryz.prog K183 noRg Tryz.f183=some F183:=by kernel_rfl
end Go.Proofs.YtppbpgmdmiajcaaGreat
