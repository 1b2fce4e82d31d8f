/-
  Functions of this seat as the small machine's code, written by a program of my own (gen.py); each is checked to be what the model's function is turned into. No condition.
-/
import Derived.Test.YtlhmdmedagjmnaaGreatK1
import Derived.Test.YtlhmdmedagjmnaaGreatProg
set_option linter.unusedVariables false
set_option linter.unusedSimpArgs false
set_option linter.unusedSectionVars false
set_option maxRecDepth 100000
namespace Go.Proofs.YtlhmdmedagjmnaaGreat
open Go.Am
/- 131: syndrome/syndromeref.Sudan -/
def c131L0:ACode:=(.seq (.seq (.region [.m 33 14, .m 34 13, .m 35 2, .o 36 (.c .sub 35 1), .o 37 (.b .mul 34 36), .o 38 (.b .add 33 37), .m 39 4, .o 40 (.b .lss 38 39), .m 41 40, .g 42 (.m 12) 41 true, .g 43 (.n 42) 41 true, .g 44 (.c .lss 43 64) 41 true, .o 45 (.pick (.tmp 41) (.tmp 44) (.const (.bool false)))]) (.cond (.tmp 45) .skip (.exit 2))) (.seq (.block 3 [1,2,3,4,5,12,13,14] (.region [.m 48 12, .m 49 14, .m 50 13, .o 51 (.mkSl 3 1 2 [(.tmp 49),(.tmp 50)]), .o 52 (.mkSl 22 1 1 [(.tmp 51)]), .o 53 (.app 22 1 24 (.tmp 48) (.tmp 52)), .m 12 53])) (.region [.m 46 14, .o 47 (.c .add 46 1), .m 14 47])))
def c131L1:ACode:=(.seq (.seq (.region [.m 25 13, .m 26 2, .o 27 (.c .sub 26 1), .o 28 (.b .mul 25 27), .m 29 4, .o 30 (.b .lss 28 29)]) (.cond (.tmp 30) .skip (.exit 0))) (.seq (.block 1 [1,2,3,4,5,12,13] (.seq (.region [.k 14 0]) (.block 2 [1,2,3,4,5,12,13] (.loop [1,2,3,4,5,12,13,14] c131L0)))) (.region [.m 31 13, .o 32 (.c .add 31 1), .m 13 32])))
def c131L2:ACode:=(.seq (.seq (.region [.m 60 18, .m 61 12, .o 62 (.n 61), .o 63 (.b .lss 60 62)]) (.cond (.tmp 63) .skip (.exit 6))) (.seq (.block 7 [1,3,5,12,15,16,17,18] (.seq (.region [.o 66 (.ld true 5 (.tmp 5)), .m 67 1, .m 68 16, .o 69 (.i 1 67 68), .o 70 (.l 69), .m 71 12, .m 72 18, .o 73 (.i 1 71 72), .o 74 (.l 73), .o 75 (.iaddr 1 (.tmp 74) (.const (.int .i64 0))), .o 76 (.l 75), .o 77 (.q 188 [66,70,76]), .m 19 77]) (.seq (.region [.o 78 (.ld true 5 (.tmp 5)), .m 79 3, .m 80 16, .o 81 (.i 1 79 80), .o 82 (.l 81), .m 83 12, .m 84 18, .o 85 (.i 1 83 84), .o 86 (.l 85), .o 87 (.iaddr 1 (.tmp 86) (.const (.int .i64 1))), .o 88 (.l 87), .o 89 (.q 188 [78,82,88]), .m 20 89]) (.region [.m 90 17, .o 91 (.ld true 5 (.tmp 5)), .m 92 19, .m 93 20, .o 94 (.q 126 [91,92,93]), .o 95 (.mkSl 3 1 1 [(.tmp 94)]), .o 96 (.app 3 1 8 (.tmp 90) (.tmp 95)), .m 17 96])))) (.region [.m 64 18, .o 65 (.c .add 64 1), .m 18 65])))
def c131L3:ACode:=(.seq (.seq (.region [.m 54 16, .m 55 1, .o 56 (.n 55), .o 57 (.b .lss 54 56)]) (.cond (.tmp 57) .skip (.exit 4))) (.seq (.block 5 [1,3,5,12,15,16] (.seq (.region [.o 17 (.mv (.const (.slice none 0 0)))]) (.seq (.seq (.region [.k 18 0]) (.block 6 [1,3,5,12,15,16,17] (.loop [1,3,5,12,15,16,17,18] c131L2))) (.region [.m 97 15, .m 98 17, .o 99 (.mkSl 22 1 1 [(.tmp 98)]), .o 100 (.app 22 1 24 (.tmp 97) (.tmp 99)), .m 15 100])))) (.region [.m 58 16, .o 59 (.c .add 58 1), .m 16 59])))
def c131L4:ACode:=(.seq (.seq (.region [.m 109 23, .m 110 12, .o 111 (.n 110), .o 112 (.b .lss 109 111)]) (.cond (.tmp 112) .skip (.exit 8))) (.seq (.block 9 [12,21,22,23] (.seq (.seq (.region [.m 115 12, .m 116 23, .o 117 (.i 1 115 116), .o 118 (.l 117), .o 119 (.iaddr 1 (.tmp 118) (.const (.int .i64 1))), .o 120 (.l 119), .m 121 22, .o 122 (.n 121), .o 123 (.b .eql 120 122)]) (.cond (.tmp 123) (.region [.m 124 22, .o 125 (.mkSl 22 1 1 [(.const (.slice none 0 0))]), .o 126 (.app 22 1 24 (.tmp 124) (.tmp 125)), .m 22 126]) .skip)) (.seq (.region [.m 127 12, .m 128 23, .o 129 (.i 1 127 128), .o 130 (.l 129), .o 131 (.iaddr 1 (.tmp 130) (.const (.int .i64 1))), .o 132 (.l 131), .m 24 132]) (.region [.m 133 22, .m 134 24, .m 135 22, .m 136 24, .o 137 (.i 1 135 136), .o 138 (.l 137), .m 139 21, .o 140 (.iaddr 1 (.tmp 139) (.const (.int .i64 0))), .o 141 (.l 140), .m 142 23, .o 143 (.i 1 141 142), .o 144 (.l 143), .o 145 (.mkSl 3 1 1 [(.tmp 144)]), .o 146 (.app 3 1 8 (.tmp 138) (.tmp 145)), .o 147 (.i 1 133 134), .n (.st 1 (.tmp 147) (.tmp 146))])))) (.region [.m 113 23, .o 114 (.c .add 113 1), .m 23 114])))
def c131:ACode:=(.seq (.region [.o 5 (.box 52 5 (.tmp 0)), .o 10 (.mv (.const (.slice none 0 0))), .o 11 (.mv (.const (.bool false)))]) (.seq (.region [.o 12 (.mv (.const (.slice none 0 0)))]) (.seq (.seq (.region [.k 13 0]) (.block 0 [1,3,5,12] (.loop [1,2,3,4,5,12,13] c131L1))) (.seq (.region [.o 15 (.mv (.const (.slice none 0 0)))]) (.seq (.seq (.region [.k 16 0]) (.block 4 [5,12,15] (.loop [1,3,5,12,15,16] c131L3))) (.seq (.region [.o 101 (.ld true 5 (.tmp 5)), .m 102 15, .m 103 12, .o 104 (.n 103), .o 105 (.q 78 [101,102,104]), .m 21 105]) (.seq (.seq (.region [.m 106 21, .o 107 (.n 106), .o 108 (.c .eql 107 0)]) (.cond (.tmp 108) (.seq (.region [.o 10 (.mv (.const (.slice none 0 0))), .o 11 (.mv (.const (.bool false)))]) .ret) .skip)) (.seq (.region [.o 22 (.mv (.const (.slice none 0 0)))]) (.seq (.seq (.region [.k 23 0]) (.block 8 [22] (.loop [12,21,22,23] c131L4))) (.seq (.region [.m 148 22, .m 10 148, .o 11 (.mv (.const (.bool true)))]) .ret))))))))))
def F131:AFun:=⟨c131,5,149,[(.tmp 10),(.tmp 11)]⟩
def K131:Nat→List Nat×List Nat
 |0=>([1,2,3,4,5,12,13],[1,3,5,12])
 |1=>([],[1,2,3,4,5,12,13])
 |2=>([1,2,3,4,5,12,13,14],[1,2,3,4,5,12,13])
 |3=>([],[1,2,3,4,5,12,13,14])
 |4=>([1,3,5,12,15,16],[5,12,15])
 |5=>([],[1,3,5,12,15,16])
 |6=>([1,3,5,12,15,16,17,18],[1,3,5,12,15,16,17])
 |7=>([],[1,3,5,12,15,16,17,18])
 |8=>([12,21,22,23],[22])
 |9=>([],[12,21,22,23])
 |_=>([],[])
theorem F131_ok:kj8 Tryz.prog K131 Tryz.f131=some F131:=by kernel_rfl
/- 132: syndrome/lists.Sudan -/
def c132L0:ACode:=(.seq (.region [.o 70 (.b .lss 69 68)]) (.seq (.cond (.tmp 70) .skip (.exit 2)) (.seq (.block 3 [0,3,13,14,16,17,18,19,60,61,62,67,68,69] (.seq (.region [.o 71 (.i 2 67 69), .o 72 (.ld true 2 (.tmp 71)), .o 21 (.alloc 193 [(.int .i64 0),(.int .i64 0)]), .n (.st 2 (.tmp 21) (.tmp 72))]) (.region [.m 73 19, .m 74 14, .m 75 14, .m 76 18, .o 77 (.iaddrA 2 1 (.tmp 21) (.const (.int .i64 0))), .o 78 (.l 77),⟨(some 79),(.call 171 [(.tmp 75),(.tmp 76),(.tmp 78)]),none,true⟩, .m 80 14, .m 81 3, .m 82 17, .o 83 (.i 1 81 82),⟨(some 84),(.ld false 1 (.tmp 83)),none,true⟩, .o 85 (.iaddrA 2 1 (.tmp 21) (.const (.int .i64 1))),⟨(some 86),(.ld false 1 (.tmp 85)),none,true⟩, .o 87 (.q 171 [80,84,86]), .o 88 (.q 157 [74,79,87]), .o 89 (.mkSl 3 1 1 [(.tmp 88)]), .o 90 (.app 3 1 8 (.tmp 73) (.tmp 89)), .m 19 90]))) (.region [.o 91 (.c .add 69 1), .m 69 91]))))
def c132L1:ACode:=(.seq (.region [.o 63 (.b .lss 62 61)]) (.seq (.cond (.tmp 63) .skip (.exit 0)) (.seq (.block 1 [0,3,13,14,16,60,61,62] (.seq (.region [.m 64 62, .o 65 (.i 1 60 62), .o 66 (.l 65), .m 17 64, .m 18 66]) (.seq (.region [.o 19 (.mv (.const (.slice none 0 0)))]) (.seq (.seq (.region [.m 67 13, .o 68 (.n 67), .k 69 0]) (.block 2 [0,3,13,14,16,19,60,61,62] (.loop [0,3,13,14,16,17,18,19,60,61,62,67,68,69] c132L0))) (.region [.m 92 16, .m 93 19, .o 94 (.mkSl 22 1 1 [(.tmp 93)]), .o 95 (.app 22 1 24 (.tmp 92) (.tmp 94)), .m 16 95]))))) (.region [.o 96 (.c .add 62 1), .m 62 96]))))
def c132L2:ACode:=(.seq (.region [.o 109 (.b .lss 108 107)]) (.seq (.cond (.tmp 109) .skip (.exit 4)) (.seq (.block 5 [22,24,106,107,108] (.seq (.region [.m 110 108, .o 111 (.i 2 106 108), .o 112 (.ld true 2 (.tmp 111)), .o 26 (.alloc 193 [(.int .i64 0),(.int .i64 0)]), .m 25 110, .n (.st 2 (.tmp 26) (.tmp 112))]) (.seq (.seq (.region [.o 113 (.iaddrA 2 1 (.tmp 26) (.const (.int .i64 1))), .o 114 (.l 113), .m 115 24, .o 116 (.n 115), .o 117 (.b .eql 114 116)]) (.cond (.tmp 117) (.region [.m 118 24, .o 119 (.mkSl 22 1 1 [(.const (.slice none 0 0))]), .o 120 (.app 22 1 24 (.tmp 118) (.tmp 119)), .m 24 120]) .skip)) (.region [.m 121 24, .o 122 (.iaddrA 2 1 (.tmp 26) (.const (.int .i64 1))), .o 123 (.ldb false 1 (.tmp 122)), .m 124 24, .o 125 (.iaddrA 2 1 (.tmp 26) (.const (.int .i64 1))), .o 126 (.l 125), .o 127 (.i 1 124 126), .o 128 (.l 127), .m 129 22, .o 130 (.iaddr 1 (.tmp 129) (.const (.int .i64 0))), .o 131 (.l 130), .m 132 25, .o 133 (.i 1 131 132), .o 134 (.l 133), .o 135 (.mkSl 3 1 1 [(.tmp 134)]), .o 136 (.app 3 1 8 (.tmp 128) (.tmp 135)), .o 137 (.i 1 121 123), .n (.st 1 (.tmp 137) (.tmp 136))])))) (.region [.o 138 (.c .add 108 1), .m 108 138]))))
def c132:ACode:=(.seq (.region [.o 10 (.mv (.const (.slice none 0 0))), .k 11 0]) (.seq (.seq (.region [.m 27 0, .m 28 1, .m 29 2, .m 30 3, .o 31 (.q 186 [27,28,29,30]), .m 12 31]) (.seq (.region [.m 32 12, .o 33 (.c .neq 32 0)]) (.cond (.tmp 33) (.seq (.region [.m 34 12, .o 10 (.mv (.const (.slice none 0 0))), .m 11 34]) .ret) .skip))) (.seq (.seq (.region [.m 35 2, .o 36 (.c .lss 35 2), .m 37 36, .g 38 (.m 4) 37 false, .g 39 (.c .lss 38 1) 37 false, .o 40 (.pick (.tmp 37) (.const (.bool true)) (.tmp 39)), .m 41 40, .g 42 (.m 4) 41 false, .g 43 (.m 1) 41 false, .g 44 (.n 43) 41 false, .g 45 (.b .gtr 42 44) 41 false, .o 46 (.pick (.tmp 41) (.const (.bool true)) (.tmp 45))]) (.cond (.tmp 46) (.seq (.region [.o 10 (.mv (.const (.slice none 0 0))), .k 11 6]) .ret) .skip)) (.seq (.region [.m 47 2, .m 48 4, .o 49 (.q 189 [47,48]), .m 13 49]) (.seq (.seq (.region [.m 50 13, .o 51 (.n 50), .o 52 (.c .gtr 51 64)]) (.cond (.tmp 52) (.region [.m 53 13, .o 54 (.sl 2 (.tmp 53) none (some (.const (.int .i64 64)))), .m 13 54]) .skip)) (.seq (.region [.m 56 0, .o 57 (.q 81 [56]), .m 55 57, .o 58 (.e 0 55), .o 59 (.e 1 55), .m 14 58, .m 15 59]) (.seq (.region [.o 16 (.mv (.const (.slice none 0 0)))]) (.seq (.seq (.region [.m 60 1, .o 61 (.n 60), .k 62 0]) (.block 0 [0,13,16] (.loop [0,3,13,14,16,60,61,62] c132L1))) (.seq (.region [.m 98 0, .m 99 16, .o 100 (.q 80 [98,99]), .m 97 100, .o 101 (.e 0 97), .o 102 (.e 1 97), .m 22 101, .m 23 102]) (.seq (.seq (.region [.m 103 22, .o 104 (.n 103), .o 105 (.c .eql 104 0)]) (.cond (.tmp 105) (.seq (.region [.o 10 (.mv (.const (.slice none 0 0))), .k 11 9]) .ret) .skip)) (.seq (.region [.o 24 (.mv (.const (.slice none 0 0)))]) (.seq (.seq (.region [.m 106 13, .o 107 (.n 106), .k 108 0]) (.block 4 [24] (.loop [22,24,106,107,108] c132L2))) (.seq (.region [.m 139 24, .m 10 139, .k 11 0]) .ret)))))))))))))
def F132:AFun:=⟨c132,5,140,[(.tmp 10),(.tmp 11)]⟩
def K132:Nat→List Nat×List Nat
 |0=>([0,3,13,14,16,60,61,62],[0,13,16])
 |1=>([],[0,3,13,14,16,60,61,62])
 |2=>([0,3,13,14,16,17,18,19,60,61,62,67,68,69],[0,3,13,14,16,19,60,61,62])
 |3=>([],[0,3,13,14,16,17,18,19,60,61,62,67,68,69])
 |4=>([22,24,106,107,108],[24])
 |5=>([],[22,24,106,107,108])
 |_=>([],[])
theorem F132_ok:kj8 Tryz.prog K132 Tryz.f132=some F132:=by kernel_rfl
/- 133: slices.IndexFunc[[]int,int] -/
def c133L0:ACode:=(.seq (.region [.o 9 (.b .lss 8 7)]) (.seq (.cond (.tmp 9) .skip (.exit 0)) (.seq (.block 1 [0,1,7,8] (.seq (.region [.m 10 8, .m 5 10]) (.seq (.region [.m 11 1, .m 12 0, .m 13 5, .o 14 (.i 1 12 13), .o 15 (.l 14), .o 16 (.calld (.tmp 11) [(.tmp 15)])]) (.cond (.tmp 16) (.seq (.region [.m 17 5, .m 4 17]) .ret) .skip)))) (.region [.o 18 (.c .add 8 1), .m 8 18]))))
def c133:ACode:=(.seq (.region [.k 4 0]) (.seq (.seq (.region [.m 6 0, .o 7 (.n 6), .k 8 0]) (.block 0 [] (.loop [0,1,7,8] c133L0))) (.seq (.region [.k 4 (-1)]) .ret)))
def F133:AFun:=⟨c133,2,19,[(.tmp 4)]⟩
def K133:Nat→List Nat×List Nat
 |0=>([0,1,7,8],[])
 |1=>([],[0,1,7,8])
 |_=>([],[])
theorem F133_ok:kj8 Tryz.prog K133 Tryz.f133=some F133:=by kernel_rfl
/- 137: syndrome/syndromeref.Next -/
def c137L0:ACode:=(.seq (.seq (.region [.m 9 5, .o 10 (.c .geq 9 0)]) (.cond (.tmp 10) .skip (.exit 0))) (.seq (.block 1 [0,1,5] (.seq (.region [.m 13 0, .m 14 5, .m 15 0, .m 16 5, .o 17 (.i 1 15 16), .o 18 (.l 17), .o 19 (.c .add 18 1), .o 20 (.i 1 13 14), .n (.st 1 (.tmp 20) (.tmp 19))]) (.seq (.seq (.region [.m 21 0, .m 22 5, .o 23 (.i 1 21 22), .o 24 (.l 23), .m 25 1, .o 26 (.b .lss 24 25)]) (.cond (.tmp 26) (.seq (.region [.o 4 (.mv (.const (.bool true)))]) .ret) .skip)) (.region [.m 27 0, .m 28 5, .o 29 (.i 1 27 28), .n (.st 1 (.tmp 29) (.const (.int .i64 0)))])))) (.region [.m 11 5, .o 12 (.c .sub 11 1), .m 5 12])))
def c137:ACode:=(.seq (.region [.o 4 (.mv (.const (.bool false)))]) (.seq (.seq (.region [.m 6 0, .o 7 (.n 6), .o 8 (.c .sub 7 1), .m 5 8]) (.block 0 [] (.loop [0,1,5] c137L0))) (.seq (.region [.o 4 (.mv (.const (.bool false)))]) .ret)))
def F137:AFun:=⟨c137,2,30,[(.tmp 4)]⟩
def K137:Nat→List Nat×List Nat
 |0=>([0,1,5],[])
 |1=>([],[0,1,5])
 |_=>([],[])
theorem F137_ok:kj8 Tryz.prog K137 Tryz.f137=some F137:=by kernel_rfl
/- 138: syndrome/syndromeref.Copy -/
def c138:ACode:=(.seq (.region [.o 2 (.mv (.const (.slice none 0 0)))]) (.seq (.region [.o 3 (.mkSl 3 1 0 []), .m 4 0, .o 5 (.app 3 1 8 (.tmp 3) (.tmp 4)), .m 2 5]) .ret))
def F138:AFun:=⟨c138,1,6,[(.tmp 2)]⟩
def K138:Nat→List Nat×List Nat
 |_=>([],[])
theorem F138_ok:kj8 Tryz.prog K138 Tryz.f138=some F138:=by kernel_rfl
/- 139: (syndrome/syndromeref.F).less -/
def c139L0:ACode:=(.seq (.seq (.region [.m 12 10, .m 13 1, .o 14 (.n 13), .o 15 (.b .lss 12 14)]) (.cond (.tmp 15) .skip (.exit 0))) (.seq (.block 1 [1,2,3,4,9,10] (.seq (.region [.m 18 1, .m 19 10, .o 20 (.i 1 18 19), .o 21 (.l 20), .m 11 21]) (.seq (.seq (.region [.m 22 3, .o 23 (.c .neq 22 0), .m 24 23, .g 25 (.m 2) 24 true, .g 26 (.m 10) 24 true, .g 27 (.i 1 25 26) 24 true, .g 28 (.l 27) 24 true, .g 29 (.c .neq 28 0) 24 true, .o 30 (.pick (.tmp 24) (.tmp 29) (.const (.bool false)))]) (.cond (.tmp 30) (.region [.o 31 (.ld true 5 (.tmp 4)), .m 32 11, .o 33 (.ld true 5 (.tmp 4)), .m 34 3, .m 35 2, .m 36 10, .o 37 (.i 1 35 36), .o 38 (.l 37),⟨(some 39),(.call 126 [(.tmp 33),(.tmp 34),(.tmp 38)]),none,true⟩, .o 40 (.q 160 [31,32,39]), .m 11 40]) .skip)) (.region [.m 41 9, .m 42 11, .o 43 (.mkSl 3 1 1 [(.tmp 42)]), .o 44 (.app 3 1 8 (.tmp 41) (.tmp 43)), .m 9 44])))) (.region [.m 16 10, .o 17 (.c .add 16 1), .m 10 17])))
def c139:ACode:=(.seq (.region [.o 4 (.box 52 5 (.tmp 0)), .o 8 (.mv (.const (.slice none 0 0)))]) (.seq (.region [.o 9 (.mv (.const (.slice none 0 0)))]) (.seq (.seq (.region [.k 10 0]) (.block 0 [9] (.loop [1,2,3,4,9,10] c139L0))) (.seq (.region [.m 45 9, .m 8 45]) .ret))))
def F139:AFun:=⟨c139,4,46,[(.tmp 8)]⟩
def K139:Nat→List Nat×List Nat
 |0=>([1,2,3,4,9,10],[9])
 |1=>([],[1,2,3,4,9,10])
 |_=>([],[])
theorem F139_ok:kj8 Tryz.prog K139 Tryz.f139=some F139:=by kernel_rfl
/- 140: (syndrome/syndromeref.F).Inv -/
def c140L0:ACode:=(.seq (.seq (.region [.m 14 5, .o 15 (.f 0 2), .o 16 (.l 15), .o 17 (.b .lss 14 16)]) (.cond (.tmp 17) .skip (.exit 0))) (.seq (.block 1 [1,2,5] (.seq (.region [.o 20 (.ld true 5 (.tmp 2)), .m 21 1, .m 22 5, .o 23 (.q 126 [20,21,22]), .o 24 (.c .eql 23 1)]) (.cond (.tmp 24) (.seq (.region [.m 25 5, .m 4 25]) .ret) .skip))) (.region [.m 18 5, .o 19 (.c .add 18 1), .m 5 19])))
def c140:ACode:=(.seq (.region [.o 2 (.box 52 5 (.tmp 0)), .k 4 0]) (.seq (.seq (.region [.o 6 (.ld true 5 (.tmp 2)), .m 7 1, .o 8 (.q 97 [6,7]), .o 9 (.un .not (.tmp 8)), .m 10 9, .g 11 (.m 1) 10 false, .g 12 (.c .eql 11 0) 10 false, .o 13 (.pick (.tmp 10) (.const (.bool true)) (.tmp 12))]) (.cond (.tmp 13) (.seq (.region [.k 4 (-1)]) .ret) .skip)) (.seq (.seq (.region [.k 5 1]) (.block 0 [] (.loop [1,2,5] c140L0))) (.seq (.region [.k 4 (-1)]) .ret))))
def F140:AFun:=⟨c140,2,26,[(.tmp 4)]⟩
def K140:Nat→List Nat×List Nat
 |0=>([1,2,5],[])
 |1=>([],[1,2,5])
 |_=>([],[])
theorem F140_ok:kj8 Tryz.prog K140 Tryz.f140=some F140:=by kernel_rfl
/- 141: (syndrome/syndromeref.F).Neg -/
def c141L0:ACode:=(.seq (.seq (.region [.m 17 6, .o 18 (.f 2 2), .o 19 (.l 18), .o 20 (.b .lss 17 19)]) (.cond (.tmp 20) .skip (.exit 0))) (.seq (.block 1 [2,5,6] (.region [.m 23 5, .m 24 6, .o 25 (.f 1 2), .o 26 (.l 25), .m 27 5, .m 28 6, .o 29 (.i 1 27 28), .o 30 (.l 29), .o 31 (.b .sub 26 30), .o 32 (.f 1 2), .o 33 (.l 32), .o 34 (.b .rem 31 33), .o 35 (.i 1 23 24), .n (.st 1 (.tmp 35) (.tmp 34))])) (.region [.m 21 6, .o 22 (.c .add 21 1), .m 6 22])))
def c141:ACode:=(.seq (.region [.o 2 (.box 52 5 (.tmp 0)), .k 4 0]) (.seq (.seq (.region [.o 7 (.ld true 5 (.tmp 2)), .m 8 1, .o 9 (.q 97 [7,8]), .o 10 (.un .not (.tmp 9))]) (.cond (.tmp 10) (.seq (.region [.k 4 (-1)]) .ret) .skip)) (.seq (.region [.m 11 1, .o 12 (.f 1 2), .o 13 (.l 12), .o 14 (.f 2 2), .o 15 (.l 14), .o 16 (.q 102 [11,13,15]), .m 5 16]) (.seq (.seq (.region [.k 6 0]) (.block 0 [2,5] (.loop [2,5,6] c141L0))) (.seq (.region [.m 36 5, .o 37 (.f 1 2), .o 38 (.l 37), .o 39 (.q 185 [36,38]), .m 4 39]) .ret)))))
def F141:AFun:=⟨c141,2,40,[(.tmp 4)]⟩
def K141:Nat→List Nat×List Nat
 |0=>([2,5,6],[2,5])
 |1=>([],[2,5,6])
 |_=>([],[])
theorem F141_ok:kj8 Tryz.prog K141 Tryz.f141=some F141:=by kernel_rfl
/- 142: syndrome/matrix.clone -/
def c142L0:ACode:=(.seq (.region [.o 12 (.b .lss 11 10)]) (.seq (.cond (.tmp 12) .skip (.exit 0)) (.seq (.block 1 [3,9,10,11] (.seq (.region [.m 13 11, .o 14 (.i 1 9 11), .o 15 (.l 14), .m 4 13, .m 5 15]) (.region [.m 16 3, .m 17 4, .m 18 5, .o 19 (.q 65 [18]), .o 20 (.i 1 16 17), .n (.st 1 (.tmp 20) (.tmp 19))]))) (.region [.o 21 (.c .add 11 1), .m 11 21]))))
def c142:ACode:=(.seq (.region [.o 2 (.mv (.const (.slice none 0 0)))]) (.seq (.region [.m 6 0, .o 7 (.n 6), .o 8 (.mks 22 1 24 [(.slice none 0 0)] (.tmp 7) (.tmp 7)), .m 3 8]) (.seq (.seq (.region [.m 9 0, .o 10 (.n 9), .k 11 0]) (.block 0 [3] (.loop [3,9,10,11] c142L0))) (.seq (.region [.m 22 3, .m 2 22]) .ret))))
def F142:AFun:=⟨c142,1,23,[(.tmp 2)]⟩
def K142:Nat→List Nat×List Nat
 |0=>([3,9,10,11],[3])
 |1=>([],[3,9,10,11])
 |_=>([],[])
theorem F142_ok:kj8 Tryz.prog K142 Tryz.f142=some F142:=by kernel_rfl
/- 143: slices.IndexFunc[[][]int,[]int] -/
def c143L0:ACode:=(.seq (.region [.o 9 (.b .lss 8 7)]) (.seq (.cond (.tmp 9) .skip (.exit 0)) (.seq (.block 1 [0,1,7,8] (.seq (.region [.m 10 8, .m 5 10]) (.seq (.region [.m 11 1, .m 12 0, .m 13 5, .o 14 (.i 1 12 13), .o 15 (.l 14), .o 16 (.calld (.tmp 11) [(.tmp 15)])]) (.cond (.tmp 16) (.seq (.region [.m 17 5, .m 4 17]) .ret) .skip)))) (.region [.o 18 (.c .add 8 1), .m 8 18]))))
def c143:ACode:=(.seq (.region [.k 4 0]) (.seq (.seq (.region [.m 6 0, .o 7 (.n 6), .k 8 0]) (.block 0 [] (.loop [0,1,7,8] c143L0))) (.seq (.region [.k 4 (-1)]) .ret)))
def F143:AFun:=⟨c143,2,19,[(.tmp 4)]⟩
def K143:Nat→List Nat×List Nat
 |0=>([0,1,7,8],[])
 |1=>([],[0,1,7,8])
 |_=>([],[])
theorem F143_ok:kj8 Tryz.prog K143 Tryz.f143=some F143:=by kernel_rfl
/- 144: syndrome/matrix.Reduce$1 -/
def c144:ACode:=(.seq (.region [.o 3 (.mv (.const (.bool false)))]) (.seq (.region [.m 4 0, .o 5 (.l 1), .o 6 (.i 1 4 5), .o 7 (.l 6), .o 8 (.c .neq 7 0), .m 3 8]) .ret))
def F144:AFun:=⟨c144,2,9,[(.tmp 3)]⟩
def K144:Nat→List Nat×List Nat
 |_=>([],[])
theorem F144_ok:kj8 Tryz.prog K144 Tryz.f144=some F144:=by kernel_rfl
/- 145: syndrome/matrix.scale -/
def c145L0:ACode:=(.seq (.region [.o 10 (.b .lss 9 8)]) (.seq (.cond (.tmp 10) .skip (.exit 0)) (.seq (.block 1 [0,1,2,8,9] (.seq (.region [.m 11 9, .m 6 11]) (.region [.m 12 1, .m 13 6, .m 14 0, .m 15 1, .m 16 6, .o 17 (.i 1 15 16), .o 18 (.l 17), .m 19 2, .o 20 (.q 157 [14,18,19]), .o 21 (.i 1 12 13), .n (.st 1 (.tmp 21) (.tmp 20))]))) (.region [.o 22 (.c .add 9 1), .m 9 22]))))
def c145:ACode:=(.seq (.region [.m 7 1, .o 8 (.n 7), .k 9 0]) (.block 0 [] (.loop [0,1,2,8,9] c145L0)))
def F145:AFun:=⟨c145,3,23,[]⟩
def K145:Nat→List Nat×List Nat
 |0=>([0,1,2,8,9],[])
 |1=>([],[0,1,2,8,9])
 |_=>([],[])
theorem F145_ok:kj8 Tryz.prog K145 Tryz.f145=some F145:=by kernel_rfl
/- 146: (*syndrome/field.Field).Inv -/
def c146:ACode:=(.seq (.region [.k 4 0]) (.seq (.seq (.region [.m 5 0, .m 6 1, .o 7 (.q 95 [5,6]), .o 8 (.un .not (.tmp 7)), .m 9 8, .g 10 (.m 1) 9 false, .g 11 (.c .eql 10 0) 9 false, .o 12 (.pick (.tmp 9) (.const (.bool true)) (.tmp 11))]) (.cond (.tmp 12) (.seq (.region [.k 4 (-1)]) .ret) .skip)) (.seq (.region [.m 13 0, .o 14 (.nilck (.tmp 13)), .o 15 (.f 5 14), .o 16 (.l 15), .m 17 0, .o 18 (.nilck (.tmp 17)), .o 19 (.f 0 18), .o 20 (.l 19), .o 21 (.c .sub 20 1), .m 22 0, .o 23 (.nilck (.tmp 22)), .o 24 (.f 6 23), .o 25 (.l 24), .m 26 1, .o 27 (.i 1 25 26), .o 28 (.l 27), .o 29 (.b .sub 21 28), .m 30 0, .o 31 (.nilck (.tmp 30)), .o 32 (.f 0 31), .o 33 (.l 32), .o 34 (.c .sub 33 1), .o 35 (.b .rem 29 34), .o 36 (.i 1 16 35), .o 37 (.l 36), .m 4 37]) .ret)))
def F146:AFun:=⟨c146,2,38,[(.tmp 4)]⟩
def K146:Nat→List Nat×List Nat
 |_=>([],[])
theorem F146_ok:kj8 Tryz.prog K146 Tryz.f146=some F146:=by kernel_rfl
/- 147: syndrome/matrix.less -/
def c147L0:ACode:=(.seq (.region [.o 12 (.b .lss 11 10)]) (.seq (.cond (.tmp 12) .skip (.exit 0)) (.seq (.block 1 [0,1,2,3,10,11] (.seq (.region [.m 13 11, .m 8 13]) (.region [.m 14 1, .m 15 8, .m 16 0, .m 17 1, .m 18 8, .o 19 (.i 1 17 18), .o 20 (.l 19), .m 21 0, .m 22 3, .m 23 2, .m 24 8, .o 25 (.i 1 23 24), .o 26 (.l 25),⟨(some 27),(.call 157 [(.tmp 21),(.tmp 22),(.tmp 26)]),none,true⟩, .o 28 (.q 166 [16,20,27]), .o 29 (.i 1 14 15), .n (.st 1 (.tmp 29) (.tmp 28))]))) (.region [.o 30 (.c .add 11 1), .m 11 30]))))
def c147:ACode:=(.seq (.region [.m 9 1, .o 10 (.n 9), .k 11 0]) (.block 0 [] (.loop [0,1,2,3,10,11] c147L0)))
def F147:AFun:=⟨c147,4,31,[]⟩
def K147:Nat→List Nat×List Nat
 |0=>([0,1,2,3,10,11],[])
 |1=>([],[0,1,2,3,10,11])
 |_=>([],[])
theorem F147_ok:kj8 Tryz.prog K147 Tryz.f147=some F147:=by kernel_rfl
/- 148: (*syndrome/field.Field).Neg -/
def c148L0:ACode:=(.seq (.region [.o 16 (.b .lss 15 14)]) (.seq (.cond (.tmp 16) .skip (.exit 0)) (.seq (.block 1 [0,1,5,6,14,15] (.seq (.region [.m 17 5, .m 18 0, .o 19 (.nilck (.tmp 18)), .o 20 (.f 1 19), .o 21 (.l 20), .m 22 1, .m 23 0, .o 24 (.nilck (.tmp 23)), .o 25 (.f 1 24), .o 26 (.l 25), .o 27 (.b .rem 22 26), .o 28 (.b .sub 21 27), .m 29 0, .o 30 (.nilck (.tmp 29)), .o 31 (.f 1 30), .o 32 (.l 31), .o 33 (.b .rem 28 32), .m 34 6, .o 35 (.b .mul 33 34), .o 36 (.b .add 17 35), .m 5 36]) (.region [.m 37 1, .m 38 0, .o 39 (.nilck (.tmp 38)), .o 40 (.f 1 39), .o 41 (.l 40), .o 42 (.b .quo 37 41), .m 43 6, .m 44 0, .o 45 (.nilck (.tmp 44)), .o 46 (.f 1 45), .o 47 (.l 46), .o 48 (.b .mul 43 47), .m 1 42, .m 6 48]))) (.region [.o 49 (.c .add 15 1), .m 15 49]))))
def c148:ACode:=(.seq (.region [.k 4 0]) (.seq (.seq (.region [.m 7 0, .m 8 1, .o 9 (.q 95 [7,8]), .o 10 (.un .not (.tmp 9))]) (.cond (.tmp 10) (.seq (.region [.k 4 (-1)]) .ret) .skip)) (.seq (.region [.k 5 0, .k 6 1]) (.seq (.seq (.region [.m 11 0, .o 12 (.nilck (.tmp 11)), .o 13 (.f 2 12), .o 14 (.l 13), .k 15 0]) (.block 0 [5] (.loop [0,1,5,6,14,15] c148L0))) (.seq (.region [.m 50 5, .m 4 50]) .ret)))))
def F148:AFun:=⟨c148,2,51,[(.tmp 4)]⟩
def K148:Nat→List Nat×List Nat
 |0=>([0,1,5,6,14,15],[5])
 |1=>([],[0,1,5,6,14,15])
 |_=>([],[])
theorem F148_ok:kj8 Tryz.prog K148 Tryz.f148=some F148:=by kernel_rfl
/- 150: syndrome/field.New$1 -/
def c150:ACode:=(.region [.o 2 (.l 0), .o 3 (.l 0),⟨(some 4),(.call 151 [(.tmp 3)]),none,true⟩, .o 5 (.f 195 1), .o 6 (.iaddrA 65 1 (.tmp 5) (.tmp 2)), .n (.st 1 (.tmp 6) (.tmp 4))])
def F150:AFun:=⟨c150,2,7,[]⟩
def K150:Nat→List Nat×List Nat
 |_=>([],[])
theorem F150_ok:kj8 Tryz.prog K150 Tryz.f150=some F150:=by kernel_rfl
/- 151: syndrome/field.build -/
def c151L0:ACode:=(.seq (.seq (.region [.m 28 5, .o 29 (.q 193 [28]), .o 30 (.un .not (.tmp 29))]) (.cond (.tmp 30) .skip (.exit 0))) (.seq (.block 1 [5] .skip) (.region [.m 31 5, .o 32 (.nilck (.tmp 31)), .o 33 (.f 4 32), .o 34 (.l 33), .o 35 (.c .add 34 1), .o 36 (.nilck (.tmp 31)), .o 37 (.f 4 36), .n (.st 1 (.tmp 37) (.tmp 35))])))
def c151L1:ACode:=(.seq (.region [.o 45 (.b .lss 44 43)]) (.seq (.cond (.tmp 45) .skip (.exit 2)) (.seq (.block 3 [3,4,5,43,44] (.seq (.region [.m 46 44, .m 6 46]) (.seq (.region [.m 47 5, .m 48 6, .m 49 3, .m 50 4, .o 51 (.q 194 [48,49,50]), .o 52 (.mkSl 3 1 1 [(.const (.int .i64 1))]), .o 53 (.app 3 1 8 (.tmp 51) (.tmp 52)), .o 54 (.nilck (.tmp 47)), .o 55 (.f 3 54), .n (.st 1 (.tmp 55) (.tmp 53))]) (.seq (.region [.m 56 5, .o 57 (.q 193 [56])]) (.cond (.tmp 57) (.seq (.region [.m 58 5, .m 2 58]) .ret) .skip))))) (.region [.o 59 (.c .add 44 1), .m 44 59]))))
def c151:ACode:=(.seq (.region [.o 2 (.mv (.const (.pointer none)))]) (.seq (.region [.m 8 0, .o 9 (.q 192 [8]), .m 7 9, .o 10 (.e 0 7), .o 11 (.e 1 7), .m 3 10, .m 4 11]) (.seq (.seq (.region [.m 12 3, .o 13 (.c .eql 12 0)]) (.cond (.tmp 13) (.seq (.region [.o 2 (.mv (.const (.pointer none)))]) .ret) .skip)) (.seq (.region [.m 14 0, .m 15 3, .m 16 4, .o 17 (.build [(.int .i64 0),(.int .i64 0),(.int .i64 0),(.slice none 0 0),(.int .i64 0),(.slice none 0 0),(.slice none 0 0)] [(0,1),(1,1),(2,1),(3,1),(4,1),(5,1),(6,1)] [(0,(.tmp 14)),(1,(.tmp 15)),(2,(.tmp 16))]), .o 18 (.box 176 7 (.tmp 17)), .m 5 18]) (.seq (.seq (.region [.m 19 4, .o 20 (.c .eql 19 1)]) (.cond (.tmp 20) (.seq (.region [.m 21 5, .o 22 (.mkSl 3 1 2 [(.const (.int .i64 0)),(.const (.int .i64 1))]), .o 23 (.nilck (.tmp 21)), .o 24 (.f 3 23), .n (.st 1 (.tmp 24) (.tmp 22))]) (.seq (.seq (.region [.m 25 5, .o 26 (.nilck (.tmp 25)), .o 27 (.f 4 26), .n (.st 1 (.tmp 27) (.const (.int .i64 1)))]) (.block 0 [5] (.loop [5] c151L0))) (.seq (.region [.m 38 5, .m 2 38]) .ret))) .skip)) (.seq (.region [.m 39 5, .m 40 3, .o 41 (.nilck (.tmp 39)), .o 42 (.f 4 41), .n (.st 1 (.tmp 42) (.tmp 40))]) (.seq (.seq (.region [.m 43 0, .k 44 0]) (.block 2 [] (.loop [3,4,5,43,44] c151L1))) (.seq (.region [.o 2 (.mv (.const (.pointer none)))]) .ret))))))))
def F151:AFun:=⟨c151,1,60,[(.tmp 2)]⟩
def K151:Nat→List Nat×List Nat
 |0=>([5],[5])
 |1=>([],[5])
 |2=>([3,4,5,43,44],[])
 |3=>([],[3,4,5,43,44])
 |_=>([],[])
theorem F151_ok:kj8 Tryz.prog K151 Tryz.f151=some F151:=by kernel_rfl
/- 152: syndrome/matrix.Check$1 -/
def c152:ACode:=(.seq (.region [.o 3 (.mv (.const (.bool false)))]) (.seq (.region [.o 4 (.l 1), .m 5 0, .o 6 (.q 95 [4,5]), .o 7 (.un .not (.tmp 6)), .m 3 7]) .ret))
def F152:AFun:=⟨c152,2,8,[(.tmp 3)]⟩
def K152:Nat→List Nat×List Nat
 |_=>([],[])
theorem F152_ok:kj8 Tryz.prog K152 Tryz.f152=some F152:=by kernel_rfl
/- 156: (*syndrome/field.Field).Add -/
def c156L0:ACode:=(.seq (.region [.o 24 (.b .lss 23 22)]) (.seq (.cond (.tmp 24) .skip (.exit 0)) (.seq (.block 1 [0,1,2,7,8,22,23] (.seq (.region [.m 25 7, .m 26 1, .m 27 0, .o 28 (.nilck (.tmp 27)), .o 29 (.f 1 28), .o 30 (.l 29), .o 31 (.b .rem 26 30), .m 32 2, .m 33 0, .o 34 (.nilck (.tmp 33)), .o 35 (.f 1 34), .o 36 (.l 35), .o 37 (.b .rem 32 36), .o 38 (.b .add 31 37), .m 39 0, .o 40 (.nilck (.tmp 39)), .o 41 (.f 1 40), .o 42 (.l 41), .o 43 (.b .rem 38 42), .m 44 8, .o 45 (.b .mul 43 44), .o 46 (.b .add 25 45), .m 7 46]) (.region [.m 47 1, .m 48 0, .o 49 (.nilck (.tmp 48)), .o 50 (.f 1 49), .o 51 (.l 50), .o 52 (.b .quo 47 51), .m 53 2, .m 54 0, .o 55 (.nilck (.tmp 54)), .o 56 (.f 1 55), .o 57 (.l 56), .o 58 (.b .quo 53 57), .m 59 8, .m 60 0, .o 61 (.nilck (.tmp 60)), .o 62 (.f 1 61), .o 63 (.l 62), .o 64 (.b .mul 59 63), .m 1 52, .m 2 58, .m 8 64]))) (.region [.o 65 (.c .add 23 1), .m 23 65]))))
def c156:ACode:=(.seq (.region [.k 6 0]) (.seq (.seq (.region [.m 9 0, .m 10 1, .o 11 (.q 95 [9,10]), .o 12 (.un .not (.tmp 11)), .m 13 12, .g 14 (.m 0) 13 false, .g 15 (.m 2) 13 false, .g 16 (.q 95 [14,15]) 13 false, .g 17 (.un .not (.tmp 16)) 13 false, .o 18 (.pick (.tmp 13) (.const (.bool true)) (.tmp 17))]) (.cond (.tmp 18) (.seq (.region [.k 6 (-1)]) .ret) .skip)) (.seq (.region [.k 7 0, .k 8 1]) (.seq (.seq (.region [.m 19 0, .o 20 (.nilck (.tmp 19)), .o 21 (.f 2 20), .o 22 (.l 21), .k 23 0]) (.block 0 [7] (.loop [0,1,2,7,8,22,23] c156L0))) (.seq (.region [.m 66 7, .m 6 66]) .ret)))))
def F156:AFun:=⟨c156,3,67,[(.tmp 6)]⟩
def K156:Nat→List Nat×List Nat
 |0=>([0,1,2,7,8,22,23],[7])
 |1=>([],[0,1,2,7,8,22,23])
 |_=>([],[])
theorem F156_ok:kj8 Tryz.prog K156 Tryz.f156=some F156:=by kernel_rfl
/- 157: (*syndrome/field.Field).Mul -/
def c157:ACode:=(.seq (.region [.k 6 0]) (.seq (.seq (.region [.m 7 0, .m 8 1, .o 9 (.q 95 [7,8]), .o 10 (.un .not (.tmp 9)), .m 11 10, .g 12 (.m 0) 11 false, .g 13 (.m 2) 11 false, .g 14 (.q 95 [12,13]) 11 false, .g 15 (.un .not (.tmp 14)) 11 false, .o 16 (.pick (.tmp 11) (.const (.bool true)) (.tmp 15))]) (.cond (.tmp 16) (.seq (.region [.k 6 (-1)]) .ret) .skip)) (.seq (.seq (.region [.m 17 1, .o 18 (.c .eql 17 0), .m 19 18, .g 20 (.m 2) 19 false, .g 21 (.c .eql 20 0) 19 false, .o 22 (.pick (.tmp 19) (.const (.bool true)) (.tmp 21))]) (.cond (.tmp 22) (.seq (.region [.k 6 0]) .ret) .skip)) (.seq (.region [.m 23 0, .o 24 (.nilck (.tmp 23)), .o 25 (.f 5 24), .o 26 (.l 25), .m 27 0, .o 28 (.nilck (.tmp 27)), .o 29 (.f 6 28), .o 30 (.l 29), .m 31 1, .o 32 (.i 1 30 31), .o 33 (.l 32), .m 34 0, .o 35 (.nilck (.tmp 34)), .o 36 (.f 6 35), .o 37 (.l 36), .m 38 2, .o 39 (.i 1 37 38), .o 40 (.l 39), .o 41 (.b .add 33 40), .m 42 0, .o 43 (.nilck (.tmp 42)), .o 44 (.f 0 43), .o 45 (.l 44), .o 46 (.c .sub 45 1), .o 47 (.b .rem 41 46), .o 48 (.i 1 26 47), .o 49 (.l 48), .m 6 49]) .ret))))
def F157:AFun:=⟨c157,3,50,[(.tmp 6)]⟩
def K157:Nat→List Nat×List Nat
 |_=>([],[])
theorem F157_ok:kj8 Tryz.prog K157 Tryz.f157=some F157:=by kernel_rfl
/- 160: (syndrome/syndromeref.F).Sub -/
def c160:ACode:=(.seq (.region [.o 3 (.box 52 5 (.tmp 0)), .k 6 0]) (.seq (.region [.o 8 (.ld true 5 (.tmp 3)), .m 9 2, .o 10 (.q 141 [8,9]), .m 7 10]) (.seq (.region [.o 11 (.ld true 5 (.tmp 3)), .m 12 1, .m 13 7, .o 14 (.q 125 [11,12,13]), .m 6 14]) .ret)))
def F160:AFun:=⟨c160,3,15,[(.tmp 6)]⟩
def K160:Nat→List Nat×List Nat
 |_=>([],[])
theorem F160_ok:kj8 Tryz.prog K160 Tryz.f160=some F160:=by kernel_rfl
/- 166: (*syndrome/field.Field).Sub -/
def c166:ACode:=(.seq (.region [.k 6 0]) (.seq (.region [.m 7 0, .m 8 1, .m 9 0, .m 10 2, .o 11 (.q 148 [9,10]), .o 12 (.q 156 [7,8,11]), .m 6 12]) .ret))
def F166:AFun:=⟨c166,3,13,[(.tmp 6)]⟩
def K166:Nat→List Nat×List Nat
 |_=>([],[])
theorem F166_ok:kj8 Tryz.prog K166 Tryz.f166=some F166:=by kernel_rfl
/- 167: slices.Index[[]int,int] -/
def c167L0:ACode:=(.seq (.region [.o 9 (.b .lss 8 7)]) (.seq (.cond (.tmp 9) .skip (.exit 0)) (.seq (.block 1 [0,1,7,8] (.seq (.region [.m 10 8, .m 5 10]) (.seq (.region [.m 11 1, .m 12 0, .m 13 5, .o 14 (.i 1 12 13), .o 15 (.l 14), .o 16 (.b .eql 11 15)]) (.cond (.tmp 16) (.seq (.region [.m 17 5, .m 4 17]) .ret) .skip)))) (.region [.o 18 (.c .add 8 1), .m 8 18]))))
def c167:ACode:=(.seq (.region [.k 4 0]) (.seq (.seq (.region [.m 6 0, .o 7 (.n 6), .k 8 0]) (.block 0 [] (.loop [0,1,7,8] c167L0))) (.seq (.region [.k 4 (-1)]) .ret)))
def F167:AFun:=⟨c167,2,19,[(.tmp 4)]⟩
def K167:Nat→List Nat×List Nat
 |0=>([0,1,7,8],[])
 |1=>([],[0,1,7,8])
 |_=>([],[])
theorem F167_ok:kj8 Tryz.prog K167 Tryz.f167=some F167:=by kernel_rfl
/- 168: (syndrome/syndromeref.F).value -/
def c168L0:ACode:=(.seq (.seq (.region [.m 12 8, .o 13 (.c .geq 12 0)]) (.cond (.tmp 13) .skip (.exit 0))) (.seq (.block 1 [1,2,3,7,8] (.seq (.region [.o 16 (.ld true 5 (.tmp 3)), .m 17 7, .m 18 2, .o 19 (.q 126 [16,17,18]), .m 7 19]) (.region [.o 20 (.ld true 5 (.tmp 3)), .m 21 7, .m 22 1, .m 23 8, .o 24 (.i 1 22 23), .o 25 (.l 24), .o 26 (.q 125 [20,21,25]), .m 7 26]))) (.region [.m 14 8, .o 15 (.c .sub 14 1), .m 8 15])))
def c168:ACode:=(.seq (.region [.o 3 (.box 52 5 (.tmp 0)), .k 6 0]) (.seq (.region [.k 7 0]) (.seq (.seq (.region [.m 9 1, .o 10 (.n 9), .o 11 (.c .sub 10 1), .m 8 11]) (.block 0 [7] (.loop [1,2,3,7,8] c168L0))) (.seq (.region [.m 27 7, .m 6 27]) .ret))))
def F168:AFun:=⟨c168,3,28,[(.tmp 6)]⟩
def K168:Nat→List Nat×List Nat
 |0=>([1,2,3,7,8],[7])
 |1=>([],[1,2,3,7,8])
 |_=>([],[])
theorem F168_ok:kj8 Tryz.prog K168 Tryz.f168=some F168:=by kernel_rfl
/- 169: syndrome/poly.both -/
def c169:ACode:=(.seq (.region [.o 6 (.mv (.const (.pointer none))), .o 7 (.mv (.const (.slice none 0 0))), .o 8 (.mv (.const (.slice none 0 0))), .k 9 0]) (.seq (.region [.m 13 0, .m 14 1, .o 15 (.q 104 [13,14]), .m 10 15]) (.seq (.seq (.region [.m 16 10, .o 17 (.c .eql 16 0)]) (.cond (.tmp 17) (.region [.m 18 0, .m 19 2, .o 20 (.q 104 [18,19]), .m 10 20]) .skip)) (.seq (.seq (.region [.m 21 10, .o 22 (.c .neq 21 0)]) (.cond (.tmp 22) (.seq (.region [.m 23 10, .o 6 (.mv (.const (.pointer none))), .o 7 (.mv (.const (.slice none 0 0))), .o 8 (.mv (.const (.slice none 0 0))), .m 9 23]) .ret) .skip)) (.seq (.region [.m 25 0, .o 26 (.q 81 [25]), .m 24 26, .o 27 (.e 0 24), .o 28 (.e 1 24), .m 11 27, .m 12 28]) (.seq (.region [.m 29 11, .m 30 1, .o 31 (.q 196 [30]), .m 32 2, .o 33 (.q 196 [32]), .m 6 29, .m 7 31, .m 8 33, .k 9 0]) .ret))))))
def F169:AFun:=⟨c169,3,34,[(.tmp 6),(.tmp 7),(.tmp 8),(.tmp 9)]⟩
def K169:Nat→List Nat×List Nat
 |_=>([],[])
theorem F169_ok:kj8 Tryz.prog K169 Tryz.f169=some F169:=by kernel_rfl
/- 171: (*syndrome/field.Field).Pow -/
def c171:ACode:=(.seq (.region [.k 6 0]) (.seq (.seq (.region [.m 7 0, .m 8 1, .o 9 (.q 95 [7,8]), .o 10 (.un .not (.tmp 9)), .m 11 10, .g 12 (.m 1) 11 false, .g 13 (.c .eql 12 0) 11 false, .g 14 (.m 13) 11 false, .g 15 (.m 2) 14 true, .g 16 (.c .lss 15 0) 14 true, .g 17 (.pick (.tmp 14) (.tmp 16) (.const (.bool false))) 11 false, .o 18 (.pick (.tmp 11) (.const (.bool true)) (.tmp 17))]) (.cond (.tmp 18) (.seq (.region [.k 6 (-1)]) .ret) .skip)) (.seq (.seq (.region [.m 19 2, .o 20 (.c .eql 19 0)]) (.cond (.tmp 20) (.seq (.region [.k 6 1]) .ret) .skip)) (.seq (.seq (.region [.m 21 1, .o 22 (.c .eql 21 0)]) (.cond (.tmp 22) (.seq (.region [.k 6 0]) .ret) .skip)) (.seq (.region [.m 23 2, .m 24 0, .o 25 (.nilck (.tmp 24)), .o 26 (.f 0 25), .o 27 (.l 26), .o 28 (.c .sub 27 1), .o 29 (.b .rem 23 28), .m 2 29]) (.seq (.seq (.region [.m 30 2, .o 31 (.c .lss 30 0)]) (.cond (.tmp 31) (.region [.m 32 2, .m 33 0, .o 34 (.nilck (.tmp 33)), .o 35 (.f 0 34), .o 36 (.l 35), .o 37 (.c .sub 36 1), .o 38 (.b .add 32 37), .m 2 38]) .skip)) (.seq (.region [.m 39 0, .o 40 (.nilck (.tmp 39)), .o 41 (.f 5 40), .o 42 (.l 41), .m 43 0, .o 44 (.nilck (.tmp 43)), .o 45 (.f 6 44), .o 46 (.l 45), .m 47 1, .o 48 (.i 1 46 47), .o 49 (.l 48), .m 50 2, .o 51 (.b .mul 49 50), .m 52 0, .o 53 (.nilck (.tmp 52)), .o 54 (.f 0 53), .o 55 (.l 54), .o 56 (.c .sub 55 1), .o 57 (.b .rem 51 56), .o 58 (.i 1 42 57), .o 59 (.l 58), .m 6 59]) .ret)))))))
def F171:AFun:=⟨c171,3,60,[(.tmp 6)]⟩
def K171:Nat→List Nat×List Nat
 |_=>([],[])
theorem F171_ok:kj8 Tryz.prog K171 Tryz.f171=some F171:=by kernel_rfl
/- 180: syndrome/syndromeref.Off -/
def c180L0:ACode:=(.seq (.seq (.region [.m 13 12, .m 14 2, .o 15 (.n 14), .o 16 (.b .lss 13 15)]) (.cond (.tmp 16) .skip (.exit 0))) (.seq (.block 1 [1,2,3,4,10,11,12] (.seq (.seq (.region [.m 19 2, .m 20 12, .o 21 (.i 1 19 20), .o 22 (.l 21), .o 23 (.c .eql 22 (-1))]) (.cond (.tmp 23) (.exit 1) .skip)) (.seq (.region [.m 24 11, .o 25 (.c .add 24 1), .m 11 25]) (.seq (.region [.o 26 (.ld true 5 (.tmp 4)), .m 27 3, .m 28 1, .m 29 12, .o 30 (.i 1 28 29), .o 31 (.l 30),⟨(some 32),(.call 103 [(.tmp 26),(.tmp 27),(.tmp 31)]),none,true⟩, .m 33 2, .m 34 12, .o 35 (.i 1 33 34),⟨(some 36),(.ld false 1 (.tmp 35)),none,true⟩, .o 37 (.b .neq 32 36)]) (.cond (.tmp 37) (.region [.m 38 10, .o 39 (.c .add 38 1), .m 10 39]) .skip))))) (.region [.m 17 12, .o 18 (.c .add 17 1), .m 12 18])))
def c180:ACode:=(.seq (.region [.o 4 (.box 52 5 (.tmp 0)), .k 8 0, .k 9 0]) (.seq (.region [.k 10 0]) (.seq (.region [.k 11 0]) (.seq (.seq (.region [.k 12 0]) (.block 0 [10,11] (.loop [1,2,3,4,10,11,12] c180L0))) (.seq (.region [.m 40 10, .m 41 11, .m 8 40, .m 9 41]) .ret)))))
def F180:AFun:=⟨c180,4,42,[(.tmp 8),(.tmp 9)]⟩
def K180:Nat→List Nat×List Nat
 |0=>([1,2,3,4,10,11,12],[10,11])
 |1=>([],[1,2,3,4,10,11,12])
 |_=>([],[])
theorem F180_ok:kj8 Tryz.prog K180 Tryz.f180=some F180:=by kernel_rfl
/- 185: syndrome/syndromeref.Number -/
def c185L0:ACode:=(.seq (.seq (.region [.m 10 6, .o 11 (.c .geq 10 0)]) (.cond (.tmp 11) .skip (.exit 0))) (.seq (.block 1 [0,1,5,6] (.region [.m 14 5, .m 15 1, .o 16 (.b .mul 14 15), .m 17 0, .m 18 6, .o 19 (.i 1 17 18), .o 20 (.l 19), .o 21 (.b .add 16 20), .m 5 21])) (.region [.m 12 6, .o 13 (.c .sub 12 1), .m 6 13])))
def c185:ACode:=(.seq (.region [.k 4 0]) (.seq (.region [.k 5 0]) (.seq (.seq (.region [.m 7 0, .o 8 (.n 7), .o 9 (.c .sub 8 1), .m 6 9]) (.block 0 [5] (.loop [0,1,5,6] c185L0))) (.seq (.region [.m 22 5, .m 4 22]) .ret))))
def F185:AFun:=⟨c185,2,23,[(.tmp 4)]⟩
def K185:Nat→List Nat×List Nat
 |0=>([0,1,5,6],[5])
 |1=>([],[0,1,5,6])
 |_=>([],[])
theorem F185_ok:kj8 Tryz.prog K185 Tryz.f185=some F185:=by kernel_rfl
/- 186: syndrome/lists.whole -/
def c186:ACode:=(.seq (.region [.k 8 0]) (.seq (.region [.m 10 0, .m 11 1, .m 12 2, .m 13 3, .o 14 (.q 35 [10,11,12,13]), .m 9 14]) (.seq (.seq (.region [.m 15 9, .o 16 (.c .eql 15 0), .m 17 16, .g 18 (.m 3) 17 true, .g 19 (.call 96 [(.tmp 18),(.const (.int .i64 (-1)))]) 17 true, .o 20 (.pick (.tmp 17) (.tmp 19) (.const (.bool false)))]) (.cond (.tmp 20) (.region [.k 9 2]) .skip)) (.seq (.region [.m 21 9, .m 8 21]) .ret))))
def F186:AFun:=⟨c186,4,22,[(.tmp 8)]⟩
def K186:Nat→List Nat×List Nat
 |_=>([],[])
theorem F186_ok:kj8 Tryz.prog K186 Tryz.f186=some F186:=by kernel_rfl
/- 187: syndrome/lists.few -/
def c187L0:ACode:=(.seq (.region [.o 8 (.b .lss 7 6)]) (.seq (.cond (.tmp 8) .skip (.exit 0)) (.seq (.block 1 [0,5,6,7] (.seq (.region [.m 9 5, .m 10 0, .o 11 (.b .mul 9 10), .m 5 11]) (.seq (.region [.m 12 5, .o 13 (.c .gtr 12 4096)]) (.cond (.tmp 13) (.seq (.region [.o 4 (.mv (.const (.bool false)))]) .ret) .skip)))) (.region [.o 14 (.c .add 7 1), .m 7 14]))))
def c187:ACode:=(.seq (.region [.o 4 (.mv (.const (.bool false)))]) (.seq (.region [.k 5 1]) (.seq (.seq (.region [.m 6 1, .k 7 0]) (.block 0 [] (.loop [0,5,6,7] c187L0))) (.seq (.region [.o 4 (.mv (.const (.bool true)))]) .ret))))
def F187:AFun:=⟨c187,2,15,[(.tmp 4)]⟩
def K187:Nat→List Nat×List Nat
 |0=>([0,5,6,7],[])
 |1=>([],[0,5,6,7])
 |_=>([],[])
theorem F187_ok:kj8 Tryz.prog K187 Tryz.f187=some F187:=by kernel_rfl
/- 188: (syndrome/syndromeref.F).Pow -/
def c188L0:ACode:=(.seq (.seq (.region [.m 37 8, .m 38 2, .o 39 (.b .lss 37 38)]) (.cond (.tmp 39) .skip (.exit 0))) (.seq (.block 1 [1,2,3,7,8] (.region [.o 42 (.ld true 5 (.tmp 3)), .m 43 7, .m 44 1, .o 45 (.q 126 [42,43,44]), .m 7 45])) (.region [.m 40 8, .o 41 (.c .add 40 1), .m 8 41])))
def c188:ACode:=(.seq (.region [.o 3 (.box 52 5 (.tmp 0)), .k 6 0]) (.seq (.seq (.region [.o 9 (.ld true 5 (.tmp 3)), .m 10 1, .o 11 (.q 97 [9,10]), .o 12 (.un .not (.tmp 11)), .m 13 12, .g 14 (.m 1) 13 false, .g 15 (.c .eql 14 0) 13 false, .g 16 (.m 15) 13 false, .g 17 (.m 2) 16 true, .g 18 (.c .lss 17 0) 16 true, .g 19 (.pick (.tmp 16) (.tmp 18) (.const (.bool false))) 13 false, .o 20 (.pick (.tmp 13) (.const (.bool true)) (.tmp 19))]) (.cond (.tmp 20) (.seq (.region [.k 6 (-1)]) .ret) .skip)) (.seq (.seq (.region [.m 21 2, .o 22 (.c .eql 21 0)]) (.cond (.tmp 22) (.seq (.region [.k 6 1]) .ret) .skip)) (.seq (.seq (.region [.m 23 1, .o 24 (.c .eql 23 0)]) (.cond (.tmp 24) (.seq (.region [.k 6 0]) .ret) .skip)) (.seq (.region [.m 25 2, .o 26 (.f 0 3), .o 27 (.l 26), .o 28 (.c .sub 27 1), .o 29 (.b .rem 25 28), .m 2 29]) (.seq (.seq (.region [.m 30 2, .o 31 (.c .lss 30 0)]) (.cond (.tmp 31) (.region [.m 32 2, .o 33 (.f 0 3), .o 34 (.l 33), .o 35 (.b .add 32 34), .o 36 (.c .sub 35 1), .m 2 36]) .skip)) (.seq (.region [.k 7 1]) (.seq (.seq (.region [.k 8 0]) (.block 0 [7] (.loop [1,2,3,7,8] c188L0))) (.seq (.region [.m 46 7, .m 6 46]) .ret)))))))))
def F188:AFun:=⟨c188,3,47,[(.tmp 6)]⟩
def K188:Nat→List Nat×List Nat
 |0=>([1,2,3,7,8],[7])
 |1=>([],[1,2,3,7,8])
 |_=>([],[])
theorem F188_ok:kj8 Tryz.prog K188 Tryz.f188=some F188:=by kernel_rfl
/- 189: syndrome/lists.monomials -/
def c189L0:ACode:=(.seq (.seq (.region [.m 21 7, .m 22 6, .m 23 0, .o 24 (.c .sub 23 1), .o 25 (.b .mul 22 24), .o 26 (.b .add 21 25), .m 27 1, .o 28 (.b .lss 26 27)]) (.cond (.tmp 28) .skip (.exit 2))) (.seq (.block 3 [0,1,5,6,7] (.region [.m 31 5, .m 32 7, .m 33 6, .o 34 (.build [(.int .i64 0),(.int .i64 0)] [(0,1),(1,1)] [(0,(.tmp 32)),(1,(.tmp 33))]), .o 35 (.mkSl 193 2 1 [(.tmp 34)]), .o 36 (.app 193 2 16 (.tmp 31) (.tmp 35)), .m 5 36])) (.region [.m 29 7, .o 30 (.c .add 29 1), .m 7 30])))
def c189L1:ACode:=(.seq (.seq (.region [.m 8 6, .m 9 0, .o 10 (.c .sub 9 1), .o 11 (.b .mul 8 10), .m 12 1, .o 13 (.b .lss 11 12), .m 14 13, .g 15 (.m 5) 14 true, .g 16 (.n 15) 14 true, .g 17 (.c .leq 16 256) 14 true, .o 18 (.pick (.tmp 14) (.tmp 17) (.const (.bool false)))]) (.cond (.tmp 18) .skip (.exit 0))) (.seq (.block 1 [0,1,5,6] (.seq (.seq (.region [.k 7 0]) (.block 2 [0,1,5,6] (.loop [0,1,5,6,7] c189L0))) (.seq (.region [.m 37 0, .o 38 (.c .eql 37 1), .m 39 38, .g 40 (.m 6) 39 true, .g 41 (.c .eql 40 64) 39 true, .o 42 (.pick (.tmp 39) (.tmp 41) (.const (.bool false)))]) (.cond (.tmp 42) (.exit 0) .skip)))) (.region [.m 19 6, .o 20 (.c .add 19 1), .m 6 20])))
def c189:ACode:=(.seq (.region [.o 4 (.mv (.const (.slice none 0 0)))]) (.seq (.region [.o 5 (.mv (.const (.slice none 0 0)))]) (.seq (.seq (.region [.k 6 0]) (.block 0 [5] (.loop [0,1,5,6] c189L1))) (.seq (.region [.m 43 5, .m 4 43]) .ret))))
def F189:AFun:=⟨c189,2,44,[(.tmp 4)]⟩
def K189:Nat→List Nat×List Nat
 |0=>([0,1,5,6],[5])
 |1=>([],[0,1,5,6])
 |2=>([0,1,5,6,7],[0,1,5,6])
 |3=>([],[0,1,5,6,7])
 |_=>([],[])
theorem F189_ok:kj8 Tryz.prog K189 Tryz.f189=some F189:=by kernel_rfl
/- 192: syndrome/field.prime -/
def c192L0:ACode:=(.seq (.seq (.region [.m 4 0, .m 5 2, .o 6 (.b .rem 4 5), .o 7 (.c .neq 6 0)]) (.cond (.tmp 7) .skip (.exit 0))) (.block 1 [0,2,3] (.region [.m 8 2, .o 9 (.c .add 8 1), .m 2 9])))
def c192L1:ACode:=(.seq (.seq (.region [.m 10 0, .m 11 2, .o 12 (.b .rem 10 11), .o 13 (.c .eql 12 0)]) (.cond (.tmp 13) .skip (.exit 2))) (.seq (.block 3 [0,2,3] (.region [.m 17 3, .o 18 (.c .add 17 1), .m 3 18])) (.region [.m 14 0, .m 15 2, .o 16 (.b .quo 14 15), .m 0 16])))
def c192:ACode:=(.seq (.region [.k 2 0, .k 3 0]) (.seq (.region [.k 2 2]) (.seq (.block 0 [0,2,3] (.loop [0,2,3] c192L0)) (.seq (.block 2 [0,2,3] (.loop [0,2,3] c192L1)) (.seq (.seq (.region [.m 19 0, .o 20 (.c .neq 19 1)]) (.cond (.tmp 20) (.seq (.region [.k 2 0, .k 3 0]) .ret) .skip)) (.seq (.region [.m 21 2, .m 22 3, .m 2 21, .m 3 22]) .ret))))))
def F192:AFun:=⟨c192,1,23,[(.tmp 2),(.tmp 3)]⟩
def K192:Nat→List Nat×List Nat
 |0=>([0,2,3],[0,2,3])
 |1=>([],[0,2,3])
 |2=>([0,2,3],[0,2,3])
 |3=>([],[0,2,3])
 |_=>([],[])
theorem F192_ok:kj8 Tryz.prog K192 Tryz.f192=some F192:=by kernel_rfl
/- 193: (*syndrome/field.Field).fill -/
def c193L0:ACode:=(.seq (.region [.o 29 (.b .lss 28 27)]) (.seq (.cond (.tmp 29) .skip (.exit 0)) (.seq (.block 1 [0,27,28] (.seq (.region [.m 30 28, .m 3 30]) (.region [.m 31 0, .o 32 (.nilck (.tmp 31)), .o 33 (.f 6 32), .o 34 (.l 33), .m 35 3, .o 36 (.i 1 34 35), .n (.st 1 (.tmp 36) (.const (.int .i64 (-1))))]))) (.region [.o 37 (.c .add 28 1), .m 28 37]))))
def c193L1:ACode:=(.seq (.region [.o 44 (.b .lss 43 42)]) (.seq (.cond (.tmp 44) .skip (.exit 2)) (.seq (.block 3 [0,4,42,43] (.seq (.region [.m 45 43, .m 5 45]) (.seq (.seq (.region [.m 46 4, .o 47 (.c .eql 46 0), .m 48 47, .g 49 (.m 0) 48 false, .g 50 (.nilck (.tmp 49)) 48 false, .g 51 (.f 6 50) 48 false, .g 52 (.l 51) 48 false, .g 53 (.m 4) 48 false, .g 54 (.i 1 52 53) 48 false, .g 55 (.l 54) 48 false, .g 56 (.c .geq 55 0) 48 false, .o 57 (.pick (.tmp 48) (.const (.bool true)) (.tmp 56))]) (.cond (.tmp 57) (.seq (.region [.o 2 (.mv (.const (.bool false)))]) .ret) .skip)) (.seq (.region [.m 58 0, .o 59 (.nilck (.tmp 58)), .o 60 (.f 5 59), .o 61 (.l 60), .m 62 5, .m 63 0, .o 64 (.nilck (.tmp 63)), .o 65 (.f 6 64), .o 66 (.l 65), .m 67 4, .m 68 4, .m 69 5, .o 70 (.i 1 61 62), .n (.st 1 (.tmp 70) (.tmp 68)), .o 71 (.i 1 66 67), .n (.st 1 (.tmp 71) (.tmp 69))]) (.region [.m 72 0, .m 73 4, .o 74 (.q 209 [72,73]), .m 4 74]))))) (.region [.o 75 (.c .add 43 1), .m 43 75]))))
def c193:ACode:=(.seq (.region [.o 2 (.mv (.const (.bool false)))]) (.seq (.region [.m 6 0, .m 7 0, .o 8 (.nilck (.tmp 7)), .o 9 (.f 0 8), .o 10 (.l 9), .o 11 (.c .sub 10 1), .o 12 (.mks 3 1 8 [(.int .i64 0)] (.tmp 11) (.tmp 11)), .o 13 (.nilck (.tmp 6)), .o 14 (.f 5 13), .n (.st 1 (.tmp 14) (.tmp 12))]) (.seq (.region [.m 15 0, .m 16 0, .o 17 (.nilck (.tmp 16)), .o 18 (.f 0 17), .o 19 (.l 18), .o 20 (.mks 3 1 8 [(.int .i64 0)] (.tmp 19) (.tmp 19)), .o 21 (.nilck (.tmp 15)), .o 22 (.f 6 21), .n (.st 1 (.tmp 22) (.tmp 20))]) (.seq (.seq (.region [.m 23 0, .o 24 (.nilck (.tmp 23)), .o 25 (.f 6 24), .o 26 (.l 25), .o 27 (.n 26), .k 28 0]) (.block 0 [0] (.loop [0,27,28] c193L0))) (.seq (.region [.k 4 1]) (.seq (.seq (.region [.m 38 0, .o 39 (.nilck (.tmp 38)), .o 40 (.f 0 39), .o 41 (.l 40), .o 42 (.c .sub 41 1), .k 43 0]) (.block 2 [4] (.loop [0,4,42,43] c193L1))) (.seq (.region [.m 76 4, .o 77 (.c .eql 76 1), .m 2 77]) .ret)))))))
def F193:AFun:=⟨c193,1,78,[(.tmp 2)]⟩
def K193:Nat→List Nat×List Nat
 |0=>([0,27,28],[0])
 |1=>([],[0,27,28])
 |2=>([0,4,42,43],[4])
 |3=>([],[0,4,42,43])
 |_=>([],[])
theorem F193_ok:kj8 Tryz.prog K193 Tryz.f193=some F193:=by kernel_rfl
/- 194: syndrome/field.digits -/
def c194L0:ACode:=(.seq (.region [.o 14 (.b .lss 13 12)]) (.seq (.cond (.tmp 14) .skip (.exit 0)) (.seq (.block 1 [0,1,7,12,13] (.seq (.region [.m 15 13, .m 8 15]) (.seq (.region [.m 16 7, .m 17 8, .m 18 0, .m 19 1, .o 20 (.b .rem 18 19), .o 21 (.i 1 16 17), .n (.st 1 (.tmp 21) (.tmp 20))]) (.region [.m 22 0, .m 23 1, .o 24 (.b .quo 22 23), .m 0 24])))) (.region [.o 25 (.c .add 13 1), .m 13 25]))))
def c194:ACode:=(.seq (.region [.o 6 (.mv (.const (.slice none 0 0)))]) (.seq (.region [.m 9 2, .o 10 (.mks 3 1 8 [(.int .i64 0)] (.tmp 9) (.tmp 9)), .m 7 10]) (.seq (.seq (.region [.m 11 7, .o 12 (.n 11), .k 13 0]) (.block 0 [7] (.loop [0,1,7,12,13] c194L0))) (.seq (.region [.m 26 7, .m 6 26]) .ret))))
def F194:AFun:=⟨c194,3,27,[(.tmp 6)]⟩
def K194:Nat→List Nat×List Nat
 |0=>([0,1,7,12,13],[7])
 |1=>([],[0,1,7,12,13])
 |_=>([],[])
theorem F194_ok:kj8 Tryz.prog K194 Tryz.f194=some F194:=by kernel_rfl
/- 196: syndrome/poly.trim -/
def c196L0:ACode:=(.seq (.seq (.region [.m 6 3, .o 7 (.c .gtr 6 0), .m 8 7, .g 9 (.m 0) 8 true, .g 10 (.m 3) 8 true, .g 11 (.c .sub 10 1) 8 true, .g 12 (.i 1 9 11) 8 true, .g 13 (.l 12) 8 true, .g 14 (.c .eql 13 0) 8 true, .o 15 (.pick (.tmp 8) (.tmp 14) (.const (.bool false)))]) (.cond (.tmp 15) .skip (.exit 0))) (.block 1 [0,3] (.region [.m 16 3, .o 17 (.c .sub 16 1), .m 3 17])))
def c196:ACode:=(.seq (.region [.o 2 (.mv (.const (.slice none 0 0)))]) (.seq (.region [.m 4 0, .o 5 (.n 4), .m 3 5]) (.seq (.block 0 [0,3] (.loop [0,3] c196L0)) (.seq (.region [.m 18 0, .m 19 3, .o 20 (.sl 1 (.tmp 18) none (some (.tmp 19))), .o 21 (.q 65 [20]), .m 2 21]) .ret))))
def F196:AFun:=⟨c196,1,22,[(.tmp 2)]⟩
def K196:Nat→List Nat×List Nat
 |0=>([0,3],[0,3])
 |1=>([],[0,3])
 |_=>([],[])
theorem F196_ok:kj8 Tryz.prog K196 Tryz.f196=some F196:=by kernel_rfl
/- 209: (*syndrome/field.Field).turn -/
def c209L0:ACode:=(.seq (.region [.o 57 (.b .lss 56 55)]) (.seq (.cond (.tmp 57) .skip (.exit 0)) (.seq (.block 1 [0,5,6,55,56] (.seq (.region [.m 58 56, .m 7 58]) (.region [.m 59 5, .m 60 7, .m 61 5, .m 62 7, .o 63 (.i 1 61 62), .o 64 (.l 63), .m 65 6, .m 66 0, .o 67 (.nilck (.tmp 66)), .o 68 (.f 1 67), .o 69 (.l 68), .m 70 0, .o 71 (.nilck (.tmp 70)), .o 72 (.f 3 71), .o 73 (.l 72), .m 74 7, .o 75 (.i 1 73 74), .o 76 (.l 75), .o 77 (.b .sub 69 76), .o 78 (.b .mul 65 77), .o 79 (.b .add 64 78), .m 80 0, .o 81 (.nilck (.tmp 80)), .o 82 (.f 1 81), .o 83 (.l 82), .o 84 (.b .rem 79 83), .o 85 (.i 1 59 60), .n (.st 1 (.tmp 85) (.tmp 84))]))) (.region [.o 86 (.c .add 56 1), .m 56 86]))))
def c209:ACode:=(.seq (.region [.k 4 0]) (.seq (.seq (.region [.m 8 0, .o 9 (.nilck (.tmp 8)), .o 10 (.f 2 9), .o 11 (.l 10), .o 12 (.c .eql 11 1)]) (.cond (.tmp 12) (.seq (.region [.m 13 1, .m 14 0, .o 15 (.nilck (.tmp 14)), .o 16 (.f 4 15), .o 17 (.l 16), .o 18 (.b .mul 13 17), .m 19 0, .o 20 (.nilck (.tmp 19)), .o 21 (.f 1 20), .o 22 (.l 21), .o 23 (.b .rem 18 22), .m 4 23]) .ret) .skip)) (.seq (.region [.m 24 1, .m 25 0, .o 26 (.nilck (.tmp 25)), .o 27 (.f 1 26), .o 28 (.l 27), .m 29 0, .o 30 (.nilck (.tmp 29)), .o 31 (.f 2 30), .o 32 (.l 31), .o 33 (.q 194 [24,28,32]), .m 5 33]) (.seq (.region [.m 34 5, .m 35 0, .o 36 (.nilck (.tmp 35)), .o 37 (.f 2 36), .o 38 (.l 37), .o 39 (.c .sub 38 1), .o 40 (.i 1 34 39), .o 41 (.l 40), .m 6 41]) (.seq (.region [.m 42 5, .o 43 (.sl 1 (.tmp 42) (some (.const (.int .i64 1))) none), .m 44 5, .m 45 0, .o 46 (.nilck (.tmp 45)), .o 47 (.f 2 46), .o 48 (.l 47), .o 49 (.c .sub 48 1), .o 50 (.sl 1 (.tmp 44) none (some (.tmp 49))), .o 51 (.cpy 1 (.tmp 43) (.tmp 50))]) (.seq (.region [.m 52 5, .o 53 (.iaddr 1 (.tmp 52) (.const (.int .i64 0))), .n (.st 1 (.tmp 53) (.const (.int .i64 0)))]) (.seq (.seq (.region [.m 54 5, .o 55 (.n 54), .k 56 0]) (.block 0 [0,5] (.loop [0,5,6,55,56] c209L0))) (.seq (.region [.m 87 5, .m 88 0, .o 89 (.nilck (.tmp 88)), .o 90 (.f 1 89), .o 91 (.l 90), .o 92 (.q 215 [87,91]), .m 4 92]) .ret))))))))
def F209:AFun:=⟨c209,2,93,[(.tmp 4)]⟩
def K209:Nat→List Nat×List Nat
 |0=>([0,5,6,55,56],[0,5])
 |1=>([],[0,5,6,55,56])
 |_=>([],[])
theorem F209_ok:kj8 Tryz.prog K209 Tryz.f209=some F209:=by kernel_rfl
/- 215: syndrome/field.number -/
def c215L0:ACode:=(.seq (.seq (.region [.m 10 6, .o 11 (.c .geq 10 0)]) (.cond (.tmp 11) .skip (.exit 0))) (.seq (.block 1 [0,1,5,6] (.region [.m 14 5, .m 15 1, .o 16 (.b .mul 14 15), .m 17 0, .m 18 6, .o 19 (.i 1 17 18), .o 20 (.l 19), .o 21 (.b .add 16 20), .m 5 21])) (.region [.m 12 6, .o 13 (.c .sub 12 1), .m 6 13])))
def c215:ACode:=(.seq (.region [.k 4 0]) (.seq (.region [.k 5 0]) (.seq (.seq (.region [.m 7 0, .o 8 (.n 7), .o 9 (.c .sub 8 1), .m 6 9]) (.block 0 [5] (.loop [0,1,5,6] c215L0))) (.seq (.region [.m 22 5, .m 4 22]) .ret))))
def F215:AFun:=⟨c215,2,23,[(.tmp 4)]⟩
def K215:Nat→List Nat×List Nat
 |0=>([0,1,5,6],[5])
 |1=>([],[0,1,5,6])
 |_=>([],[])
theorem F215_ok:kj8 Tryz.prog K215 Tryz.f215=some F215:=by kernel_rfl
end Go.Proofs.YtlhmdmedagjmnaaGreat
