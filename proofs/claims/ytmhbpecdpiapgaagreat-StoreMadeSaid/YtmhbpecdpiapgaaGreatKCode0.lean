/-
  Functions of this seat as the small machine's code, written by a program of my own (gen.py); each is checked to be what the model's function is turned into. No condition.
-/
import Derived.Test.YtmhbpecdpiapgaaGreatK1
import Derived.Test.YtmhbpecdpiapgaaGreatProg
set_option linter.unusedVariables false
set_option linter.unusedSimpArgs false
set_option linter.unusedSectionVars false
set_option maxRecDepth 100000
namespace Go.Proofs.YtmhbpecdpiapgaaGreat
open Go.Am
/- 3: syndrome/syndromelaw.StoreSays -/
def c3:ACode:=(.seq (.region [.o 18 (.mv (.const (.bool false)))]) (.seq (.seq (.region [.m 27 4, .o 28 (.n 27), .m 29 5, .o 30 (.n 29), .o 31 (.b .add 28 30), .m 32 8, .o 33 (.n 32), .o 34 (.b .add 31 33), .o 35 (.c .gtr 34 300), .m 36 35, .g 37 (.m 6) 36 false, .g 38 (.q 6 [37]) 36 false, .o 39 (.pick (.tmp 36) (.const (.bool true)) (.tmp 38))]) (.cond (.tmp 39) (.seq (.region [.o 18 (.mv (.const (.bool true)))]) .ret) .skip)) (.seq (.region [.m 40 0, .m 41 1, .m 42 2, .m 43 3, .o 44 (.q 7 [40,41,42,43]), .m 19 44]) (.seq (.region [.m 46 0, .m 47 1, .m 48 2, .m 49 3, .o 50 (.q 8 [46,47,48,49]), .m 45 50, .o 51 (.e 0 45), .o 52 (.e 1 45), .m 20 51, .m 21 52]) (.seq (.seq (.region [.m 53 21, .m 54 19, .o 55 (.b .neq 53 54), .m 56 55, .g 57 (.m 20) 56 false, .g 58 (.eqn false 1 (.tmp 57)) 56 false, .g 59 (.m 19) 56 false, .g 60 (.c .neq 59 0) 56 false, .g 61 (.eqb true (.tmp 58) (.tmp 60)) 56 false, .o 62 (.pick (.tmp 56) (.const (.bool true)) (.tmp 61))]) (.cond (.tmp 62) (.seq (.region [.o 18 (.mv (.const (.bool false)))]) .ret) .skip)) (.seq (.seq (.region [.m 63 20, .o 64 (.eqn false 1 (.tmp 63))]) (.cond (.tmp 64) (.seq (.region [.o 18 (.mv (.const (.bool true)))]) .ret) .skip)) (.seq (.region [.m 66 0, .o 67 (.q 9 [66]), .m 65 67, .o 68 (.e 0 65), .o 69 (.e 1 65), .o 22 (.alloc 31 [(.int .i64 0),(.int .i64 0),(.int .i64 0),(.int .i64 0),(.slice none 0 0)]), .n (.st 5 (.tmp 22) (.tmp 68)), .m 23 69]) (.seq (.seq (.region [.m 70 20, .o 71 (.q 10 [70]), .m 72 2, .m 73 3, .o 74 (.q 11 [72,73]), .o 75 (.b .neq 71 74)]) (.cond (.tmp 75) (.seq (.region [.o 18 (.mv (.const (.bool false)))]) .ret) .skip)) (.seq (.region [.k 24 0]) (.seq (.seq (.region [.m 76 4, .o 77 (.n 76), .m 78 2, .m 79 3, .o 80 (.q 11 [78,79]), .o 81 (.b .neq 77 80)]) (.cond (.tmp 81) (.region [.k 24 6]) (.seq (.region [.o 82 (.ld true 5 (.tmp 22)), .m 83 4, .o 84 (.q 12 [82,83]), .o 85 (.un .not (.tmp 84))]) (.cond (.tmp 85) (.region [.k 24 2]) .skip)))) (.seq (.region [.o 25 (.mv (.const (.slice none 0 0)))]) (.seq (.seq (.region [.m 86 24, .o 87 (.c .eql 86 0)]) (.cond (.tmp 87) (.region [.o 88 (.ld true 5 (.tmp 22)), .m 89 1, .m 90 2, .m 91 3, .m 92 4, .o 93 (.q 13 [88,89,90,91,92]), .m 25 93]) .skip)) (.seq (.region [.m 95 20, .m 96 4, .o 97 (.q 14 [95,96]), .m 94 97, .o 98 (.e 0 94), .o 99 (.e 1 94), .m 26 98, .m 21 99]) (.seq (.region [.m 100 26, .m 101 21, .m 102 25, .m 103 24, .o 104 (.q 15 [100,101,102,103]), .m 105 104, .g 106 (.m 20) 105 true, .g 107 (.ld true 5 (.tmp 22)) 105 true, .g 108 (.m 1) 105 true, .g 109 (.m 2) 105 true, .g 110 (.m 3) 105 true, .g 111 (.m 5) 105 true, .g 112 (.m 6) 105 true, .g 113 (.q 16 [106,107,108,109,110,111,112]) 105 true, .o 114 (.pick (.tmp 105) (.tmp 113) (.const (.bool false))), .m 115 114, .g 116 (.m 20) 115 true, .g 117 (.ld true 5 (.tmp 22)) 115 true, .g 118 (.m 1) 115 true, .g 119 (.m 3) 115 true, .g 120 (.m 5) 115 true, .g 121 (.m 6) 115 true, .g 122 (.m 7) 115 true, .g 123 (.m 8) 115 true, .g 124 (.q 17 [116,117,118,119,120,121,122,123]) 115 true, .o 125 (.pick (.tmp 115) (.tmp 124) (.const (.bool false))), .m 18 125]) .ret))))))))))))))
def F3:AFun:=⟨c3,9,126,[(.tmp 18)]⟩
def K3:Nat→List Nat×List Nat
 |_=>([],[])
theorem F3_ok:kj8 Tryz.prog K3 Tryz.f3=some F3:=by kernel_rfl
/- 4: syndrome/syndromelaw.StoreMade -/
def c4L0:ACode:=(.seq (.seq (.region [.m 76 22, .m 77 1, .o 78 (.b .lss 76 77)]) (.cond (.tmp 78) .skip (.exit 0))) (.seq (.block 1 [0,1,2,3,4,6,16,18,19,20,21,22] (.seq (.region [.m 81 20, .m 82 22, .o 83 (.i 1 81 82), .o 84 (.l 83), .m 85 2, .o 86 (.b .lss 84 85)]) (.cond (.tmp 86) (.region [.m 87 21, .m 88 20, .m 89 22, .o 90 (.i 1 88 89), .o 91 (.l 90), .o 92 (.mkSl 3 1 1 [(.tmp 91)]), .o 93 (.app 3 1 8 (.tmp 87) (.tmp 92)), .m 21 93]) .skip))) (.region [.m 79 22, .o 80 (.c .add 79 1), .m 22 80])))
def c4L1:ACode:=(.seq (.seq (.region [.m 100 24, .m 101 3, .o 102 (.b .lss 100 101)]) (.cond (.tmp 102) .skip (.exit 2))) (.seq (.block 3 [0,1,2,3,4,5,6,16,18,19,21,23,24] (.region [.m 105 23, .m 106 19, .m 107 21, .m 108 24, .o 109 (.i 1 107 108), .o 110 (.l 109), .o 111 (.i 1 106 110), .o 112 (.l 111), .o 113 (.mkSl 22 1 1 [(.tmp 112)]), .o 114 (.app 22 1 24 (.tmp 105) (.tmp 113)), .m 23 114])) (.region [.m 103 24, .o 104 (.c .add 103 1), .m 24 104])))
def c4L2:ACode:=(.seq (.seq (.region [.m 122 26, .m 123 4, .o 124 (.b .lss 122 123)]) (.cond (.tmp 124) .skip (.exit 4))) (.seq (.block 5 [1,2,3,4,5,16,18,19,21,23,25,26] (.seq (.region [.o 127 (.ld true 5 (.tmp 16)), .m 128 19, .m 129 21, .m 130 26, .o 131 (.i 1 129 130), .o 132 (.l 131), .o 133 (.i 1 128 132), .o 134 (.l 133), .o 135 (.ld true 5 (.tmp 16)), .m 136 5, .m 137 4,⟨(some 138),(.call 22 [(.tmp 135),(.tmp 136),(.tmp 137)]),none,true⟩, .o 139 (.q 21 [127,134,138]), .m 27 139]) (.region [.m 140 25, .m 141 27, .o 142 (.mkSl 3 1 1 [(.tmp 141)]), .o 143 (.app 3 1 8 (.tmp 140) (.tmp 142)), .m 25 143]))) (.region [.m 125 26, .o 126 (.c .add 125 1), .m 26 126])))
def c4:ACode:=(.seq (.region [.o 14 (.mv (.const (.bool false)))]) (.seq (.seq (.region [.m 28 0, .o 29 (.n 28), .o 30 (.c .gtr 29 256)]) (.cond (.tmp 30) (.seq (.region [.o 14 (.mv (.const (.bool true)))]) .ret) .skip)) (.seq (.region [.o 31 (.mkSl 3 1 9 [(.const (.int .i64 3)),(.const (.int .i64 4)),(.const (.int .i64 5)),(.const (.int .i64 7)),(.const (.int .i64 8)),(.const (.int .i64 9)),(.const (.int .i64 11)),(.const (.int .i64 13)),(.const (.int .i64 16))]), .m 15 31]) (.seq (.region [.m 32 15, .m 33 1, .m 34 15, .o 35 (.n 34), .o 36 (.q 18 [33,35]), .o 37 (.i 1 32 36), .o 38 (.l 37), .m 1 38]) (.seq (.region [.m 39 2, .m 40 1, .o 41 (.c .sub 40 1), .o 42 (.q 18 [39,41]), .o 43 (.bin .add (.const (.int .i64 2)) (.tmp 42)), .m 2 43]) (.seq (.seq (.region [.m 44 2, .o 45 (.c .gtr 44 10)]) (.cond (.tmp 45) (.region [.k 2 10]) .skip)) (.seq (.region [.m 46 4, .m 47 2, .o 48 (.c .sub 47 1), .o 49 (.q 18 [46,48]), .o 50 (.bin .add (.const (.int .i64 1)) (.tmp 49)), .m 4 50]) (.seq (.region [.m 51 3, .m 52 4, .o 53 (.q 18 [51,52]), .o 54 (.bin .add (.const (.int .i64 1)) (.tmp 53)), .m 3 54]) (.seq (.region [.m 56 1, .o 57 (.q 9 [56]), .m 55 57, .o 58 (.e 0 55), .o 59 (.e 1 55), .o 16 (.alloc 31 [(.int .i64 0),(.int .i64 0),(.int .i64 0),(.int .i64 0),(.slice none 0 0)]), .n (.st 5 (.tmp 16) (.tmp 58)), .m 17 59]) (.seq (.region [.m 60 0, .m 61 1, .m 62 3, .m 63 4, .o 64 (.q 11 [62,63]), .o 65 (.call 19 [(.tmp 60),(.const (.int .i64 0)),(.tmp 61),(.tmp 64)]), .m 18 65]) (.seq (.region [.o 66 (.ld true 5 (.tmp 16)), .m 67 2, .m 68 3, .m 69 4, .m 70 18, .o 71 (.q 13 [66,67,68,69,70]), .m 19 71]) (.seq (.region [.m 72 0, .m 73 1, .m 74 1, .o 75 (.q 20 [72,73,74]), .m 20 75]) (.seq (.region [.o 21 (.mv (.const (.slice none 0 0)))]) (.seq (.seq (.region [.k 22 0]) (.block 0 [0,1,2,3,4,6,16,18,19,21] (.loop [0,1,2,3,4,6,16,18,19,20,21,22] c4L0))) (.seq (.region [.m 94 21, .m 95 21, .o 96 (.n 95), .o 97 (.c .sub 96 1), .o 98 (.i 1 94 97), .o 99 (.l 98), .m 5 99]) (.seq (.region [.o 23 (.mv (.const (.slice none 0 0)))]) (.seq (.seq (.region [.k 24 0]) (.block 2 [0,1,2,3,4,5,6,16,18,19,21,23] (.loop [0,1,2,3,4,5,6,16,18,19,21,23,24] c4L1))) (.seq (.seq (.region [.m 115 6]) (.cond (.tmp 115) (.region [.m 116 23, .m 117 0, .m 118 1, .m 119 4, .o 120 (.call 19 [(.tmp 117),(.const (.int .i64 9)),(.tmp 118),(.tmp 119)]), .o 121 (.iaddr 1 (.tmp 116) (.const (.int .i64 0))), .n (.st 1 (.tmp 121) (.tmp 120))]) .skip)) (.seq (.region [.o 25 (.mv (.const (.slice none 0 0)))]) (.seq (.seq (.region [.k 26 0]) (.block 4 [1,2,3,4,5,18,21,23,25] (.loop [1,2,3,4,5,16,18,19,21,23,25,26] c4L2))) (.seq (.seq (.region [.m 144 1, .m 145 2, .m 146 3, .m 147 4, .m 148 18, .m 149 21, .m 150 3, .o 151 (.sl 1 (.tmp 149) none (some (.tmp 150))), .m 152 23, .m 153 5, .m 154 25, .o 155 (.q 3 [144,145,146,147,148,151,152,153,154]), .o 156 (.un .not (.tmp 155))]) (.cond (.tmp 156) (.seq (.region [.o 14 (.mv (.const (.bool false)))]) .ret) .skip)) (.seq (.region [.m 157 1, .m 158 2, .m 159 3, .m 160 4, .m 161 18, .m 162 21, .m 163 4, .o 164 (.sl 1 (.tmp 162) none (some (.tmp 163))), .m 165 23, .m 166 5, .m 167 25, .o 168 (.q 3 [157,158,159,160,161,164,165,166,167]), .m 14 168]) .ret))))))))))))))))))))))
def F4:AFun:=⟨c4,7,169,[(.tmp 14)]⟩
def K4:Nat→List Nat×List Nat
 |0=>([0,1,2,3,4,6,16,18,19,20,21,22],[0,1,2,3,4,6,16,18,19,21])
 |1=>([],[0,1,2,3,4,6,16,18,19,20,21,22])
 |2=>([0,1,2,3,4,5,6,16,18,19,21,23,24],[0,1,2,3,4,5,6,16,18,19,21,23])
 |3=>([],[0,1,2,3,4,5,6,16,18,19,21,23,24])
 |4=>([1,2,3,4,5,16,18,19,21,23,25,26],[1,2,3,4,5,18,21,23,25])
 |5=>([],[1,2,3,4,5,16,18,19,21,23,25,26])
 |_=>([],[])
theorem F4_ok:kj8 Tryz.prog K4 Tryz.f4=some F4:=by kernel_rfl
/- 6: syndrome/syndromelaw.heavy -/
def c6L0:ACode:=(.seq (.seq (.region [.m 7 4, .m 8 0, .o 9 (.n 8), .o 10 (.b .lss 7 9), .m 11 10, .g 12 (.m 3) 11 true, .g 13 (.c .leq 12 6000) 11 true, .o 14 (.pick (.tmp 11) (.tmp 13) (.const (.bool false)))]) (.cond (.tmp 14) .skip (.exit 0))) (.seq (.block 1 [0,3,4] (.region [.m 17 3, .m 18 0, .m 19 4, .o 20 (.i 1 18 19), .o 21 (.l 20), .o 22 (.n 21), .o 23 (.b .add 17 22), .m 3 23])) (.region [.m 15 4, .o 16 (.c .add 15 1), .m 4 16])))
def c6:ACode:=(.seq (.region [.o 2 (.mv (.const (.bool false)))]) (.seq (.region [.m 5 0, .o 6 (.n 5), .m 3 6]) (.seq (.seq (.region [.k 4 0]) (.block 0 [3] (.loop [0,3,4] c6L0))) (.seq (.region [.m 24 3, .o 25 (.c .gtr 24 6000), .m 2 25]) .ret))))
def F6:AFun:=⟨c6,1,26,[(.tmp 2)]⟩
def K6:Nat→List Nat×List Nat
 |0=>([0,3,4],[3])
 |1=>([],[0,3,4])
 |_=>([],[])
theorem F6_ok:kj8 Tryz.prog K6 Tryz.f6=some F6:=by kernel_rfl
/- 7: syndrome/syndromeref.PlanMay -/
def c7:ACode:=(.seq (.region [.k 8 0]) (.seq (.region [.m 12 0, .o 13 (.q 9 [12]), .m 11 13, .o 14 (.e 0 11), .o 15 (.e 1 11), .o 9 (.alloc 31 [(.int .i64 0),(.int .i64 0),(.int .i64 0),(.int .i64 0),(.slice none 0 0)]), .n (.st 5 (.tmp 9) (.tmp 14)), .m 10 15]) (.seq (.seq (.region [.m 16 10, .o 17 (.c .neq 16 0)]) (.cond (.tmp 17) (.seq (.region [.m 18 10, .m 8 18]) .ret) .skip)) (.seq (.seq (.region [.m 19 1, .o 20 (.c .lss 19 2), .m 21 20, .g 22 (.m 1) 21 false, .g 23 (.m 0) 21 false, .g 24 (.b .gtr 22 23) 21 false, .o 25 (.pick (.tmp 21) (.const (.bool true)) (.tmp 24)), .m 26 25, .g 27 (.m 1) 26 false, .g 28 (.c .gtr 27 16) 26 false, .o 29 (.pick (.tmp 26) (.const (.bool true)) (.tmp 28))]) (.cond (.tmp 29) (.seq (.region [.k 8 4]) .ret) .skip)) (.seq (.seq (.region [.m 30 2, .o 31 (.c .lss 30 1), .m 32 31, .g 33 (.m 2) 32 false, .g 34 (.m 3) 32 false, .g 35 (.b .gtr 33 34) 32 false, .o 36 (.pick (.tmp 32) (.const (.bool true)) (.tmp 35)), .m 37 36, .g 38 (.m 3) 37 false, .g 39 (.m 1) 37 false, .g 40 (.b .geq 38 39) 37 false, .o 41 (.pick (.tmp 37) (.const (.bool true)) (.tmp 40))]) (.cond (.tmp 41) (.seq (.region [.k 8 6]) .ret) .skip)) (.seq (.region [.k 8 0]) .ret))))))
def F7:AFun:=⟨c7,4,42,[(.tmp 8)]⟩
def K7:Nat→List Nat×List Nat
 |_=>([],[])
theorem F7_ok:kj8 Tryz.prog K7 Tryz.f7=some F7:=by kernel_rfl
/- 8: syndrome/store.New -/
def c8:ACode:=(.seq (.region [.o 8 (.mv (.const (.pointer none))), .k 9 0]) (.seq (.seq (.region [.m 13 0, .o 14 (.q 36 [13]), .m 12 14, .o 15 (.e 0 12), .o 16 (.e 1 12), .m 10 15, .m 11 16]) (.seq (.region [.m 17 11, .o 18 (.c .neq 17 0)]) (.cond (.tmp 18) (.seq (.region [.m 19 11, .o 8 (.mv (.const (.pointer none))), .m 9 19]) .ret) .skip))) (.seq (.seq (.region [.m 20 1, .o 21 (.c .lss 20 2), .m 22 21, .g 23 (.m 1) 22 false, .g 24 (.m 0) 22 false, .g 25 (.b .gtr 23 24) 22 false, .o 26 (.pick (.tmp 22) (.const (.bool true)) (.tmp 25)), .m 27 26, .g 28 (.m 1) 27 false, .g 29 (.c .gtr 28 16) 27 false, .o 30 (.pick (.tmp 27) (.const (.bool true)) (.tmp 29))]) (.cond (.tmp 30) (.seq (.region [.o 8 (.mv (.const (.pointer none))), .k 9 4]) .ret) .skip)) (.seq (.seq (.region [.m 31 2, .o 32 (.c .lss 31 1), .m 33 32, .g 34 (.m 2) 33 false, .g 35 (.m 3) 33 false, .g 36 (.b .gtr 34 35) 33 false, .o 37 (.pick (.tmp 33) (.const (.bool true)) (.tmp 36)), .m 38 37, .g 39 (.m 3) 38 false, .g 40 (.m 1) 38 false, .g 41 (.b .geq 39 40) 38 false, .o 42 (.pick (.tmp 38) (.const (.bool true)) (.tmp 41))]) (.cond (.tmp 42) (.seq (.region [.o 8 (.mv (.const (.pointer none))), .k 9 6]) .ret) .skip)) (.seq (.region [.m 43 0, .m 44 1, .m 45 2, .m 46 3, .o 47 (.build [(.int .i64 0),(.int .i64 0),(.int .i64 0),(.int .i64 0)] [(0,1),(1,1),(2,1),(3,1)] [(0,(.tmp 43)),(1,(.tmp 44)),(2,(.tmp 45)),(3,(.tmp 46))]), .o 48 (.box 64 4 (.tmp 47)), .m 8 48, .k 9 0]) .ret)))))
def F8:AFun:=⟨c8,4,49,[(.tmp 8),(.tmp 9)]⟩
def K8:Nat→List Nat×List Nat
 |_=>([],[])
theorem F8_ok:kj8 Tryz.prog K8 Tryz.f8=some F8:=by kernel_rfl
/- 9: syndrome/syndromeref.Field -/
def c9L0:ACode:=(.seq (.seq (.region [.m 32 7, .m 33 0, .o 34 (.b .lss 32 33)]) (.cond (.tmp 34) .skip (.exit 0))) (.seq (.block 1 [0,2,4,5,6,7] (.seq (.region [.o 37 (.ld true 5 (.tmp 6)), .m 38 7, .o 39 (.q 38 [37,38])]) (.cond (.tmp 39) (.seq (.region [.m 40 7, .o 41 (.f 3 6), .n (.st 1 (.tmp 41) (.tmp 40))]) (.seq (.region [.o 42 (.ld true 5 (.tmp 6)), .n (.st 5 (.tmp 2) (.tmp 42)), .k 3 0]) .ret)) .skip))) (.region [.m 35 7, .o 36 (.c .add 35 1), .m 7 36])))
def c9L1:ACode:=(.seq (.seq (.region [.m 45 8, .m 46 0, .o 47 (.b .lss 45 46)]) (.cond (.tmp 47) .skip (.exit 2))) (.seq (.block 3 [0,2,4,5,6,8] (.seq (.region [.m 50 8, .m 51 4, .m 52 5, .o 53 (.q 39 [50,51,52]), .o 54 (.mkSl 3 1 1 [(.const (.int .i64 1))]), .o 55 (.app 3 1 8 (.tmp 53) (.tmp 54)), .o 56 (.f 4 6), .n (.st 1 (.tmp 56) (.tmp 55))]) (.seq (.region [.o 57 (.ld true 5 (.tmp 6)), .m 58 4, .o 59 (.q 38 [57,58])]) (.cond (.tmp 59) (.seq (.region [.o 60 (.ld true 5 (.tmp 6)), .n (.st 5 (.tmp 2) (.tmp 60)), .k 3 0]) .ret) .skip)))) (.region [.m 48 8, .o 49 (.c .add 48 1), .m 8 49])))
def c9:ACode:=(.seq (.region [.o 2 (.alloc 31 [(.int .i64 0),(.int .i64 0),(.int .i64 0),(.int .i64 0),(.slice none 0 0)]), .k 3 0]) (.seq (.seq (.region [.m 9 0, .o 10 (.c .lss 9 2), .m 11 10, .g 12 (.m 0) 11 false, .g 13 (.c .gtr 12 64) 11 false, .o 14 (.pick (.tmp 11) (.const (.bool true)) (.tmp 13))]) (.cond (.tmp 14) (.seq (.region [.o 15 (.build [(.int .i64 0),(.int .i64 0),(.int .i64 0),(.int .i64 0),(.slice none 0 0)] [(0,1),(1,1),(2,1),(3,1),(4,1)] []), .n (.st 5 (.tmp 2) (.tmp 15)), .k 3 1]) .ret) .skip)) (.seq (.region [.m 17 0, .o 18 (.q 37 [17]), .m 16 18, .o 19 (.e 0 16), .o 20 (.e 1 16), .m 4 19, .m 5 20]) (.seq (.seq (.region [.m 21 4, .o 22 (.c .eql 21 0)]) (.cond (.tmp 22) (.seq (.region [.o 23 (.build [(.int .i64 0),(.int .i64 0),(.int .i64 0),(.int .i64 0),(.slice none 0 0)] [(0,1),(1,1),(2,1),(3,1),(4,1)] []), .n (.st 5 (.tmp 2) (.tmp 23)), .k 3 1]) .ret) .skip)) (.seq (.region [.m 24 0, .m 25 4, .m 26 5, .o 27 (.build [(.int .i64 0),(.int .i64 0),(.int .i64 0),(.int .i64 0),(.slice none 0 0)] [(0,1),(1,1),(2,1),(3,1),(4,1)] [(0,(.tmp 24)),(1,(.tmp 25)),(2,(.tmp 26))]), .o 6 (.alloc 31 [(.int .i64 0),(.int .i64 0),(.int .i64 0),(.int .i64 0),(.slice none 0 0)]), .n (.st 5 (.tmp 6) (.tmp 27))]) (.seq (.seq (.region [.m 28 5, .o 29 (.c .eql 28 1)]) (.cond (.tmp 29) (.seq (.region [.o 30 (.mkSl 3 1 2 [(.const (.int .i64 0)),(.const (.int .i64 1))]), .o 31 (.f 4 6), .n (.st 1 (.tmp 31) (.tmp 30))]) (.seq (.region [.k 7 1]) (.block 0 [0,2,4,5,6] (.loop [0,2,4,5,6,7] c9L0)))) .skip)) (.seq (.region [.m 43 4, .o 44 (.f 3 6), .n (.st 1 (.tmp 44) (.tmp 43))]) (.seq (.seq (.region [.k 8 0]) (.block 2 [2] (.loop [0,2,4,5,6,8] c9L1))) (.seq (.region [.o 61 (.build [(.int .i64 0),(.int .i64 0),(.int .i64 0),(.int .i64 0),(.slice none 0 0)] [(0,1),(1,1),(2,1),(3,1),(4,1)] []), .n (.st 5 (.tmp 2) (.tmp 61)), .k 3 1]) .ret)))))))))
def F9:AFun:=⟨c9,1,62,[(.cell 2 true 5),(.tmp 3)]⟩
def K9:Nat→List Nat×List Nat
 |0=>([0,2,4,5,6,7],[0,2,4,5,6])
 |1=>([],[0,2,4,5,6,7])
 |2=>([0,2,4,5,6,8],[2])
 |3=>([],[0,2,4,5,6,8])
 |_=>([],[])
theorem F9_ok:kj8 Tryz.prog K9 Tryz.f9=some F9:=by kernel_rfl
/- 10: (*syndrome/store.Plan).Size -/
def c10:ACode:=(.seq (.region [.k 2 0]) (.seq (.region [.m 3 0, .o 4 (.nilck (.tmp 3)), .o 5 (.f 2 4), .o 6 (.l 5), .m 7 0, .o 8 (.nilck (.tmp 7)), .o 9 (.f 2 8), .o 10 (.l 9), .o 11 (.c .add 10 1), .o 12 (.b .mul 6 11), .o 13 (.c .quo 12 2), .m 14 0, .o 15 (.nilck (.tmp 14)), .o 16 (.f 2 15), .o 17 (.l 16), .m 18 0, .o 19 (.nilck (.tmp 18)), .o 20 (.f 3 19), .o 21 (.l 20), .m 22 0, .o 23 (.nilck (.tmp 22)), .o 24 (.f 2 23), .o 25 (.l 24), .o 26 (.b .sub 21 25), .o 27 (.b .mul 17 26), .o 28 (.b .add 13 27), .m 2 28]) .ret))
def F10:AFun:=⟨c10,1,29,[(.tmp 2)]⟩
def K10:Nat→List Nat×List Nat
 |_=>([],[])
theorem F10_ok:kj8 Tryz.prog K10 Tryz.f10=some F10:=by kernel_rfl
/- 11: syndrome/syndromeref.FileSize -/
def c11:ACode:=(.seq (.region [.k 4 0]) (.seq (.region [.m 5 0, .m 6 0, .o 7 (.c .add 6 1), .o 8 (.b .mul 5 7), .o 9 (.c .quo 8 2), .m 10 0, .m 11 1, .m 12 0, .o 13 (.b .sub 11 12), .o 14 (.b .mul 10 13), .o 15 (.b .add 9 14), .m 4 15]) .ret))
def F11:AFun:=⟨c11,2,16,[(.tmp 4)]⟩
def K11:Nat→List Nat×List Nat
 |_=>([],[])
theorem F11_ok:kj8 Tryz.prog K11 Tryz.f11=some F11:=by kernel_rfl
/- 12: (syndrome/syndromeref.F).Elements -/
def c12L0:ACode:=(.seq (.seq (.region [.m 6 5, .m 7 1, .o 8 (.n 7), .o 9 (.b .lss 6 8)]) (.cond (.tmp 9) .skip (.exit 0))) (.seq (.block 1 [1,2,5] (.seq (.region [.o 12 (.ld true 5 (.tmp 2)), .m 13 1, .m 14 5, .o 15 (.i 1 13 14), .o 16 (.l 15), .o 17 (.q 40 [12,16]), .o 18 (.un .not (.tmp 17))]) (.cond (.tmp 18) (.seq (.region [.o 4 (.mv (.const (.bool false)))]) .ret) .skip))) (.region [.m 10 5, .o 11 (.c .add 10 1), .m 5 11])))
def c12:ACode:=(.seq (.region [.o 2 (.box 31 5 (.tmp 0)), .o 4 (.mv (.const (.bool false)))]) (.seq (.seq (.region [.k 5 0]) (.block 0 [] (.loop [1,2,5] c12L0))) (.seq (.region [.o 4 (.mv (.const (.bool true)))]) .ret)))
def F12:AFun:=⟨c12,2,19,[(.tmp 4)]⟩
def K12:Nat→List Nat×List Nat
 |0=>([1,2,5],[])
 |1=>([],[1,2,5])
 |_=>([],[])
theorem F12_ok:kj8 Tryz.prog K12 Tryz.f12=some F12:=by kernel_rfl
/- 13: syndrome/syndromeref.Written -/
def c13L0:ACode:=(.seq (.seq (.region [.m 18 13, .m 19 1, .o 20 (.b .lss 18 19)]) (.cond (.tmp 20) .skip (.exit 0))) (.seq (.block 1 [1,3,5,11,12,13] (.region [.m 23 12, .o 24 (.ld true 5 (.tmp 5)), .m 25 13, .m 26 3, .o 27 (.q 22 [24,25,26]), .o 28 (.mkSl 22 1 1 [(.tmp 27)]), .o 29 (.app 22 1 24 (.tmp 23) (.tmp 28)), .m 12 29])) (.region [.m 21 13, .o 22 (.c .add 21 1), .m 13 22])))
def c13:ACode:=(.seq (.region [.o 5 (.box 31 5 (.tmp 0)), .o 10 (.mv (.const (.slice none 0 0)))]) (.seq (.region [.m 14 2, .m 15 3, .m 16 4, .o 17 (.q 41 [14,15,16]), .m 11 17]) (.seq (.region [.o 12 (.mv (.const (.slice none 0 0)))]) (.seq (.seq (.region [.k 13 0]) (.block 0 [5,11,12] (.loop [1,3,5,11,12,13] c13L0))) (.seq (.region [.o 30 (.ld true 5 (.tmp 5)), .m 31 12, .m 32 11, .o 33 (.q 42 [30,31,32]), .m 10 33]) .ret)))))
def F13:AFun:=⟨c13,5,34,[(.tmp 10)]⟩
def K13:Nat→List Nat×List Nat
 |0=>([1,3,5,11,12,13],[5,11,12])
 |1=>([],[1,3,5,11,12,13])
 |_=>([],[])
theorem F13_ok:kj8 Tryz.prog K13 Tryz.f13=some F13:=by kernel_rfl
/- 14: (*syndrome/store.Plan).Write -/
def c14L0:ACode:=(.seq (.region [.o 24 (.b .lss 23 22)]) (.seq (.cond (.tmp 24) .skip (.exit 0)) (.seq (.block 1 [0,1,6,22,23] (.seq (.region [.m 25 23, .m 7 25]) (.region [.m 26 6, .m 27 0, .m 28 7, .m 29 0, .o 30 (.nilck (.tmp 29)), .o 31 (.f 3 30), .o 32 (.l 31), .o 33 (.q 44 [27,28,32]), .o 34 (.mkSl 22 1 1 [(.tmp 33)]), .o 35 (.app 22 1 24 (.tmp 26) (.tmp 34)), .m 6 35]))) (.region [.o 36 (.c .add 23 1), .m 23 36]))))
def c14:ACode:=(.seq (.region [.o 4 (.mv (.const (.slice none 0 0))), .k 5 0]) (.seq (.seq (.region [.m 10 1, .o 11 (.n 10), .m 12 0, .o 13 (.q 10 [12]), .o 14 (.b .neq 11 13)]) (.cond (.tmp 14) (.seq (.region [.o 4 (.mv (.const (.slice none 0 0))), .k 5 6]) .ret) .skip)) (.seq (.seq (.region [.m 15 0, .m 16 1, .o 17 (.q 43 [15,16]), .o 18 (.un .not (.tmp 17))]) (.cond (.tmp 18) (.seq (.region [.o 4 (.mv (.const (.slice none 0 0))), .k 5 2]) .ret) .skip)) (.seq (.region [.o 6 (.mv (.const (.slice none 0 0)))]) (.seq (.seq (.region [.m 19 0, .o 20 (.nilck (.tmp 19)), .o 21 (.f 1 20), .o 22 (.l 21), .k 23 0]) (.block 0 [0,1,6] (.loop [0,1,6,22,23] c14L0))) (.seq (.region [.m 38 0, .o 39 (.nilck (.tmp 38)), .o 40 (.f 0 39), .o 41 (.l 40), .m 42 6, .m 43 0, .m 44 1,⟨(some 45),(.call 46 [(.tmp 43),(.tmp 44)]),none,true⟩, .o 46 (.q 45 [41,42,45]), .m 37 46, .o 47 (.e 0 37), .o 48 (.e 1 37), .m 8 47, .m 9 48]) (.seq (.region [.m 49 8, .m 4 49, .k 5 0]) .ret)))))))
def F14:AFun:=⟨c14,2,50,[(.tmp 4),(.tmp 5)]⟩
def K14:Nat→List Nat×List Nat
 |0=>([0,1,6,22,23],[0,1,6])
 |1=>([],[0,1,6,22,23])
 |_=>([],[])
theorem F14_ok:kj8 Tryz.prog K14 Tryz.f14=some F14:=by kernel_rfl
/- 15: syndrome/syndromelaw.lists -/
def c15:ACode:=(.seq (.region [.o 8 (.mv (.const (.bool false)))]) (.seq (.seq (.region [.m 9 3, .o 10 (.c .neq 9 0)]) (.cond (.tmp 10) (.seq (.region [.m 11 1, .m 12 3, .o 13 (.b .eql 11 12), .m 14 13, .g 15 (.m 0) 14 true, .g 16 (.n 15) 14 true, .g 17 (.c .eql 16 0) 14 true, .o 18 (.pick (.tmp 14) (.tmp 17) (.const (.bool false))), .m 8 18]) .ret) .skip)) (.seq (.region [.m 19 1, .o 20 (.c .eql 19 0), .m 21 20, .g 22 (.m 0) 21 true, .g 23 (.m 2) 21 true, .g 24 (.q 47 [22,23]) 21 true, .o 25 (.pick (.tmp 21) (.tmp 24) (.const (.bool false))), .m 8 25]) .ret)))
def F15:AFun:=⟨c15,4,26,[(.tmp 8)]⟩
def K15:Nat→List Nat×List Nat
 |_=>([],[])
theorem F15_ok:kj8 Tryz.prog K15 Tryz.f15=some F15:=by kernel_rfl
/- 16: syndrome/syndromelaw.storeReads -/
def c16:ACode:=(.seq (.region [.o 8 (.box 31 5 (.tmp 1)), .o 14 (.mv (.const (.bool false)))]) (.seq (.region [.m 21 5, .m 22 2, .m 23 3, .o 24 (.q 48 [21,22,23]), .m 15 24]) (.seq (.seq (.region [.m 25 15, .o 26 (.c .eql 25 0)]) (.cond (.tmp 26) (.region [.o 27 (.ld true 5 (.tmp 8)), .m 28 5, .m 29 6, .m 30 4, .o 31 (.q 49 [27,28,29,30]), .m 15 31]) .skip)) (.seq (.region [.o 16 (.mv (.const (.slice none 0 0)))]) (.seq (.seq (.region [.m 32 15, .o 33 (.c .eql 32 0)]) (.cond (.tmp 33) (.seq (.region [.o 35 (.ld true 5 (.tmp 8)), .m 36 2, .m 37 3, .m 38 4, .m 39 5, .m 40 6, .o 41 (.q 50 [35,36,37,38,39,40]), .m 34 41, .o 42 (.e 0 34), .o 43 (.e 1 34), .m 17 42, .m 18 43]) (.seq (.region [.m 44 17, .m 16 44]) (.seq (.region [.m 45 18, .o 46 (.un .not (.tmp 45))]) (.cond (.tmp 46) (.region [.k 15 9]) .skip)))) .skip)) (.seq (.region [.m 48 0, .m 49 5, .m 50 6, .o 51 (.q 51 [48,49,50]), .m 47 51, .o 52 (.e 0 47), .o 53 (.e 1 47), .m 19 52, .m 20 53]) (.seq (.region [.m 54 19, .m 55 20, .m 56 16, .m 57 15, .o 58 (.q 52 [54,55,56,57]), .m 14 58]) .ret)))))))
def F16:AFun:=⟨c16,7,59,[(.tmp 14)]⟩
def K16:Nat→List Nat×List Nat
 |_=>([],[])
theorem F16_ok:kj8 Tryz.prog K16 Tryz.f16=some F16:=by kernel_rfl
/- 17: syndrome/syndromelaw.storeMends -/
def c17L0:ACode:=(.seq (.seq (.region [.m 110 24, .m 111 3, .o 112 (.b .lss 110 111)]) (.cond (.tmp 112) .skip (.exit 1))) (.seq (.block 2 [0,3,4,6,7,9,18,23,24] (.region [.m 115 23, .o 116 (.ld true 5 (.tmp 9)), .m 117 4, .m 118 24, .o 119 (.i 1 117 118), .o 120 (.l 119), .m 121 3, .o 122 (.q 22 [116,120,121]), .o 123 (.mkSl 22 1 1 [(.tmp 122)]), .o 124 (.app 22 1 24 (.tmp 115) (.tmp 123)), .m 23 124])) (.region [.m 113 24, .o 114 (.c .add 113 1), .m 24 114])))
def c17:ACode:=(.seq (.region [.o 9 (.box 31 5 (.tmp 1)), .o 16 (.mv (.const (.bool false)))]) (.seq (.region [.o 17 (.mv (.const (.slice none 0 0)))]) (.seq (.seq (.region [.m 26 5, .o 27 (.n 26), .o 28 (.c .gtr 27 0)]) (.cond (.tmp 28) (.region [.m 29 5, .o 30 (.iaddr 1 (.tmp 29) (.const (.int .i64 0))), .o 31 (.l 30), .m 17 31]) .skip)) (.seq (.region [.k 18 0]) (.seq (.block 0 [0,2,3,4,6,7,9,17,18] (.seq (.region [.m 33 17, .o 34 (.n 33), .m 35 3, .o 36 (.b .neq 34 35), .m 32 36]) (.cond (.tmp 32) (.region [.k 18 6]) (.seq (.region [.o 38 (.ld true 5 (.tmp 9)), .m 39 17, .o 40 (.q 12 [38,39]), .o 41 (.un .not (.tmp 40)), .m 37 41]) (.cond (.tmp 37) (.region [.k 18 2]) (.seq (.region [.m 43 6, .o 44 (.c .lss 43 0), .m 45 44, .g 46 (.m 6) 45 false, .g 47 (.m 2) 45 false, .g 48 (.b .geq 46 47) 45 false, .o 49 (.pick (.tmp 45) (.const (.bool true)) (.tmp 48)), .m 42 49]) (.cond (.tmp 42) (.region [.k 18 10]) .skip))))))) (.seq (.region [.k 19 0]) (.seq (.seq (.region [.m 50 18, .o 51 (.c .eql 50 0)]) (.cond (.tmp 51) (.region [.o 52 (.ld true 5 (.tmp 9)), .m 53 17, .o 54 (.ld true 5 (.tmp 9)), .m 55 6, .m 56 3,⟨(some 57),(.call 22 [(.tmp 54),(.tmp 55),(.tmp 56)]),none,true⟩, .o 58 (.q 21 [52,53,57]), .m 19 58]) .skip)) (.seq (.region [.m 60 0, .m 61 17, .m 62 6, .o 63 (.q 53 [60,61,62]), .m 59 63, .o 64 (.e 0 59), .o 65 (.e 1 59), .m 20 64, .m 21 65]) (.seq (.seq (.region [.m 66 20, .m 67 21, .m 68 19, .m 69 18, .o 70 (.q 54 [66,67,68,69]), .o 71 (.un .not (.tmp 70))]) (.cond (.tmp 71) (.seq (.region [.o 16 (.mv (.const (.bool false)))]) .ret) .skip)) (.seq (.region [.k 18 0]) (.seq (.seq (.region [.m 72 6, .o 73 (.c .lss 72 0), .m 74 73, .g 75 (.m 6) 74 false, .g 76 (.m 2) 74 false, .g 77 (.b .geq 75 76) 74 false, .o 78 (.pick (.tmp 74) (.const (.bool true)) (.tmp 77))]) (.cond (.tmp 78) (.region [.k 18 10]) .skip)) (.seq (.seq (.region [.m 79 18, .o 80 (.c .eql 79 0)]) (.cond (.tmp 80) (.region [.m 81 4, .m 82 2, .m 83 3, .o 84 (.q 48 [81,82,83]), .m 18 84]) .skip)) (.seq (.seq (.region [.m 85 18, .o 86 (.c .eql 85 0), .m 87 86, .g 88 (.m 6) 87 true, .g 89 (.m 4) 87 true, .g 90 (.q 55 [88,89]) 87 true, .o 91 (.pick (.tmp 87) (.tmp 90) (.const (.bool false)))]) (.cond (.tmp 91) (.region [.k 18 7]) .skip)) (.seq (.seq (.region [.m 92 18, .o 93 (.c .eql 92 0), .m 94 93, .g 95 (.m 7) 94 true, .g 96 (.n 95) 94 true, .g 97 (.m 3) 94 true, .g 98 (.b .neq 96 97) 94 true, .o 99 (.pick (.tmp 94) (.tmp 98) (.const (.bool false)))]) (.cond (.tmp 99) (.region [.k 18 6]) .skip)) (.seq (.seq (.region [.m 100 18, .o 101 (.c .eql 100 0), .m 102 101, .g 103 (.ld true 5 (.tmp 9)) 102 true, .g 104 (.m 7) 102 true, .g 105 (.q 12 [103,104]) 102 true, .g 106 (.un .not (.tmp 105)) 102 true, .o 107 (.pick (.tmp 102) (.tmp 106) (.const (.bool false)))]) (.cond (.tmp 107) (.region [.k 18 2]) .skip)) (.seq (.region [.o 22 (.mv (.const (.slice none 0 0)))]) (.seq (.seq (.region [.m 108 18, .o 109 (.c .eql 108 0)]) (.cond (.tmp 109) (.seq (.region [.o 23 (.mv (.const (.slice none 0 0)))]) (.seq (.seq (.region [.k 24 0]) (.block 1 [0,4,6,7,9,18,23] (.loop [0,3,4,6,7,9,18,23,24] c17L0))) (.region [.o 126 (.ld true 5 (.tmp 9)), .m 127 23, .m 128 7, .o 129 (.q 56 [126,127,128]), .m 125 129, .o 130 (.e 0 125), .o 131 (.e 1 125), .m 22 130]))) .skip)) (.seq (.region [.m 133 0, .m 134 6, .m 135 4, .m 136 7, .o 137 (.q 57 [133,134,135,136]), .m 132 137, .o 138 (.e 0 132), .o 139 (.e 1 132), .m 25 138, .m 21 139]) (.seq (.region [.m 140 25, .m 141 21, .m 142 22, .m 143 18, .o 144 (.q 52 [140,141,142,143]), .m 16 144]) .ret)))))))))))))))))))
def F17:AFun:=⟨c17,8,145,[(.tmp 16)]⟩
def K17:Nat→List Nat×List Nat
 |0=>([],[0,2,3,4,6,7,9,17,18])
 |1=>([0,3,4,6,7,9,18,23,24],[0,4,6,7,9,18,23])
 |2=>([],[0,3,4,6,7,9,18,23,24])
 |_=>([],[])
theorem F17_ok:kj8 Tryz.prog K17 Tryz.f17=some F17:=by kernel_rfl
/- 18: syndrome/syndromeref.Pick -/
def c18:ACode:=(.seq (.region [.k 4 0]) (.seq (.seq (.region [.m 5 0, .o 6 (.c .lss 5 0)]) (.cond (.tmp 6) (.region [.m 7 0, .o 8 (.c .add 7 1), .o 9 (.un .neg (.tmp 8)), .m 0 9]) .skip)) (.seq (.region [.m 10 0, .m 11 1, .o 12 (.b .rem 10 11), .m 4 12]) .ret)))
def F18:AFun:=⟨c18,2,13,[(.tmp 4)]⟩
def K18:Nat→List Nat×List Nat
 |_=>([],[])
theorem F18_ok:kj8 Tryz.prog K18 Tryz.f18=some F18:=by kernel_rfl
/- 19: syndrome/syndromeref.Numbers -/
def c19L0:ACode:=(.seq (.seq (.region [.m 11 10, .m 12 3, .o 13 (.b .lss 11 12)]) (.cond (.tmp 13) .skip (.exit 0))) (.seq (.block 1 [0,1,2,3,9,10] (.region [.m 16 9, .m 17 0, .m 18 1, .m 19 10, .o 20 (.b .add 18 19), .o 21 (.q 58 [17,20]), .m 22 2, .o 23 (.q 18 [21,22]), .o 24 (.mkSl 3 1 1 [(.tmp 23)]), .o 25 (.app 3 1 8 (.tmp 16) (.tmp 24)), .m 9 25])) (.region [.m 14 10, .o 15 (.c .add 14 1), .m 10 15])))
def c19:ACode:=(.seq (.region [.o 8 (.mv (.const (.slice none 0 0)))]) (.seq (.region [.o 9 (.mv (.const (.slice none 0 0)))]) (.seq (.seq (.region [.k 10 0]) (.block 0 [9] (.loop [0,1,2,3,9,10] c19L0))) (.seq (.region [.m 26 9, .m 8 26]) .ret))))
def F19:AFun:=⟨c19,4,27,[(.tmp 8)]⟩
def K19:Nat→List Nat×List Nat
 |0=>([0,1,2,3,9,10],[9])
 |1=>([],[0,1,2,3,9,10])
 |_=>([],[])
theorem F19_ok:kj8 Tryz.prog K19 Tryz.f19=some F19:=by kernel_rfl
/- 20: syndrome/syndromeref.PlacesOf -/
def c20L0:ACode:=(.seq (.seq (.region [.m 14 8, .m 15 1, .o 16 (.b .lss 14 15)]) (.cond (.tmp 16) .skip (.exit 0))) (.seq (.block 1 [0,1,2,7,8] (.region [.m 19 7, .m 20 8, .m 21 8, .o 22 (.i 1 19 20), .n (.st 1 (.tmp 22) (.tmp 21))])) (.region [.m 17 8, .o 18 (.c .add 17 1), .m 8 18])))
def c20L1:ACode:=(.seq (.seq (.region [.m 23 9, .m 24 2, .o 25 (.b .lss 23 24)]) (.cond (.tmp 25) .skip (.exit 2))) (.seq (.block 3 [0,1,2,7,9] (.seq (.region [.m 28 9, .m 29 0, .m 30 9, .o 31 (.q 58 [29,30]), .m 32 1, .m 33 9, .o 34 (.b .sub 32 33), .o 35 (.q 18 [31,34]), .o 36 (.b .add 28 35), .m 10 36]) (.seq (.region [.m 37 7, .m 38 9, .o 39 (.i 1 37 38), .o 40 (.l 39), .m 11 40]) (.seq (.region [.m 41 7, .m 42 9, .m 43 7, .m 44 10, .o 45 (.i 1 43 44), .o 46 (.l 45), .o 47 (.i 1 41 42), .n (.st 1 (.tmp 47) (.tmp 46))]) (.region [.m 48 7, .m 49 10, .m 50 11, .o 51 (.i 1 48 49), .n (.st 1 (.tmp 51) (.tmp 50))]))))) (.region [.m 26 9, .o 27 (.c .add 26 1), .m 9 27])))
def c20:ACode:=(.seq (.region [.o 6 (.mv (.const (.slice none 0 0)))]) (.seq (.region [.m 12 1, .o 13 (.mks 3 1 8 [(.int .i64 0)] (.tmp 12) (.tmp 12)), .m 7 13]) (.seq (.seq (.region [.k 8 0]) (.block 0 [0,1,2,7] (.loop [0,1,2,7,8] c20L0))) (.seq (.seq (.region [.k 9 0]) (.block 2 [2,7] (.loop [0,1,2,7,9] c20L1))) (.seq (.region [.m 52 7, .m 53 2, .o 54 (.sl 1 (.tmp 52) none (some (.tmp 53))), .m 6 54]) .ret)))))
def F20:AFun:=⟨c20,3,55,[(.tmp 6)]⟩
def K20:Nat→List Nat×List Nat
 |0=>([0,1,2,7,8],[0,1,2,7])
 |1=>([],[0,1,2,7,8])
 |2=>([0,1,2,7,9],[2,7])
 |3=>([],[0,1,2,7,9])
 |_=>([],[])
theorem F20_ok:kj8 Tryz.prog K20 Tryz.f20=some F20:=by kernel_rfl
/- 21: (syndrome/syndromeref.F).Dot -/
def c21L0:ACode:=(.seq (.seq (.region [.m 9 8, .m 10 1, .o 11 (.n 10), .o 12 (.b .lss 9 11)]) (.cond (.tmp 12) .skip (.exit 0))) (.seq (.block 1 [1,2,3,7,8] (.region [.o 15 (.ld true 5 (.tmp 3)), .m 16 7, .o 17 (.ld true 5 (.tmp 3)), .m 18 1, .m 19 8, .o 20 (.i 1 18 19), .o 21 (.l 20), .m 22 2, .m 23 8, .o 24 (.i 1 22 23), .o 25 (.l 24),⟨(some 26),(.call 60 [(.tmp 17),(.tmp 21),(.tmp 25)]),none,true⟩, .o 27 (.q 59 [15,16,26]), .m 7 27])) (.region [.m 13 8, .o 14 (.c .add 13 1), .m 8 14])))
def c21:ACode:=(.seq (.region [.o 3 (.box 31 5 (.tmp 0)), .k 6 0]) (.seq (.region [.k 7 0]) (.seq (.seq (.region [.k 8 0]) (.block 0 [7] (.loop [1,2,3,7,8] c21L0))) (.seq (.region [.m 28 7, .m 6 28]) .ret))))
def F21:AFun:=⟨c21,3,29,[(.tmp 6)]⟩
def K21:Nat→List Nat×List Nat
 |0=>([1,2,3,7,8],[7])
 |1=>([],[1,2,3,7,8])
 |_=>([],[])
theorem F21_ok:kj8 Tryz.prog K21 Tryz.f21=some F21:=by kernel_rfl
/- 22: (syndrome/syndromeref.F).Powers -/
def c22L0:ACode:=(.seq (.seq (.region [.m 10 9, .m 11 2, .o 12 (.b .lss 10 11)]) (.cond (.tmp 12) .skip (.exit 0))) (.seq (.block 1 [1,2,3,7,8,9] (.seq (.region [.m 15 7, .m 16 8, .o 17 (.mkSl 3 1 1 [(.tmp 16)]), .o 18 (.app 3 1 8 (.tmp 15) (.tmp 17)), .m 7 18]) (.region [.o 19 (.ld true 5 (.tmp 3)), .m 20 8, .m 21 1, .o 22 (.q 60 [19,20,21]), .m 8 22]))) (.region [.m 13 9, .o 14 (.c .add 13 1), .m 9 14])))
def c22:ACode:=(.seq (.region [.o 3 (.box 31 5 (.tmp 0)), .o 6 (.mv (.const (.slice none 0 0)))]) (.seq (.region [.o 7 (.mv (.const (.slice none 0 0)))]) (.seq (.region [.k 8 1]) (.seq (.seq (.region [.k 9 0]) (.block 0 [7] (.loop [1,2,3,7,8,9] c22L0))) (.seq (.region [.m 23 7, .m 6 23]) .ret)))))
def F22:AFun:=⟨c22,3,24,[(.tmp 6)]⟩
def K22:Nat→List Nat×List Nat
 |0=>([1,2,3,7,8,9],[7])
 |1=>([],[1,2,3,7,8,9])
 |_=>([],[])
theorem F22_ok:kj8 Tryz.prog K22 Tryz.f22=some F22:=by kernel_rfl
/- 23: syndrome/syndromeref.CodeMay -/
def c23:ACode:=(.seq (.region [.o 1 (.box 50 3 (.tmp 0)), .k 2 0]) (.seq (.region [.o 6 (.f 0 1), .o 7 (.l 6), .o 8 (.q 9 [7]), .m 5 8, .o 9 (.e 0 5), .o 10 (.e 1 5), .o 3 (.alloc 31 [(.int .i64 0),(.int .i64 0),(.int .i64 0),(.int .i64 0),(.slice none 0 0)]), .n (.st 5 (.tmp 3) (.tmp 9)), .m 4 10]) (.seq (.seq (.region [.m 11 4, .o 12 (.c .neq 11 0)]) (.cond (.tmp 12) (.seq (.region [.m 13 4, .m 2 13]) .ret) .skip)) (.seq (.seq (.region [.o 14 (.f 1 1), .o 15 (.l 14), .o 16 (.c .lss 15 1), .m 17 16, .g 18 (.f 1 1) 17 false, .g 19 (.l 18) 17 false, .g 20 (.c .gtr 19 64) 17 false, .o 21 (.pick (.tmp 17) (.const (.bool true)) (.tmp 20))]) (.cond (.tmp 21) (.seq (.region [.k 2 4]) .ret) .skip)) (.seq (.region [.o 22 (.f 0 1), .o 23 (.l 22), .o 24 (.f 2 1), .o 25 (.l 24), .o 26 (.q 61 [23,25]), .m 4 26]) (.seq (.seq (.region [.m 27 4, .o 28 (.c .eql 27 0), .m 29 28, .g 30 (.f 2 1) 29 true, .g 31 (.l 30) 29 true, .g 32 (.n 31) 29 true, .g 33 (.c .gtr 32 0) 29 true, .o 34 (.pick (.tmp 29) (.tmp 33) (.const (.bool false))), .m 35 34, .g 36 (.f 2 1) 35 true, .g 37 (.l 36) 35 true, .g 38 (.iaddr 1 (.tmp 37) (.const (.int .i64 0))) 35 true, .g 39 (.l 38) 35 true, .g 40 (.n 39) 35 true, .g 41 (.f 1 1) 35 true, .g 42 (.l 41) 35 true, .g 43 (.b .neq 40 42) 35 true, .o 44 (.pick (.tmp 35) (.tmp 43) (.const (.bool false)))]) (.cond (.tmp 44) (.region [.k 4 3]) .skip)) (.seq (.region [.m 45 4, .m 2 45]) .ret)))))))
def F23:AFun:=⟨c23,1,46,[(.tmp 2)]⟩
def K23:Nat→List Nat×List Nat
 |_=>([],[])
theorem F23_ok:kj8 Tryz.prog K23 Tryz.f23=some F23:=by kernel_rfl
/- 25: syndrome/syndromeref.DualOf -/
def c25:ACode:=(.seq (.region [.o 1 (.box 50 3 (.tmp 0)), .o 2 (.alloc 50 [(.int .i64 0),(.int .i64 0),(.slice none 0 0)])]) (.seq (.region [.o 6 (.f 0 1), .o 7 (.l 6), .o 8 (.q 9 [7]), .m 5 8, .o 9 (.e 0 5), .o 10 (.e 1 5), .o 3 (.alloc 31 [(.int .i64 0),(.int .i64 0),(.int .i64 0),(.int .i64 0),(.slice none 0 0)]), .n (.st 5 (.tmp 3) (.tmp 9)), .m 4 10]) (.seq (.region [.o 11 (.f 0 1), .o 12 (.l 11), .o 13 (.f 1 1), .o 14 (.l 13), .o 15 (.ld true 5 (.tmp 3)), .o 16 (.f 2 1), .o 17 (.l 16), .o 18 (.f 1 1), .o 19 (.l 18),⟨(some 20),(.call 63 [(.tmp 15),(.tmp 17),(.tmp 19)]),none,true⟩, .o 21 (.build [(.int .i64 0),(.int .i64 0),(.slice none 0 0)] [(0,1),(1,1),(2,1)] [(0,(.tmp 12)),(1,(.tmp 14)),(2,(.tmp 20))]), .n (.st 3 (.tmp 2) (.tmp 21))]) .ret)))
def F25:AFun:=⟨c25,1,22,[(.cell 2 true 3)]⟩
def K25:Nat→List Nat×List Nat
 |_=>([],[])
theorem F25_ok:kj8 Tryz.prog K25 Tryz.f25=some F25:=by kernel_rfl
/- 36: syndrome/field.New -/
def tb2:List Value:=[(.int .u32 0),(.int .i32 0),(.int .u32 0),(.int .u32 0),(.int .i32 0),(.int .u32 0),(.int .u32 0),(.int .i32 0),(.int .u32 0),(.int .u32 0),(.int .i32 0),(.int .u32 0),(.int .u32 0),(.int .i32 0),(.int .u32 0),(.int .u32 0),(.int .i32 0),(.int .u32 0),(.int .u32 0),(.int .i32 0),(.int .u32 0),(.int .u32 0),(.int .i32 0),(.int .u32 0),(.int .u32 0),(.int .i32 0),(.int .u32 0),(.int .u32 0),(.int .i32 0),(.int .u32 0),(.int .u32 0),(.int .i32 0),(.int .u32 0),(.int .u32 0),(.int .i32 0),(.int .u32 0),(.int .u32 0),(.int .i32 0),(.int .u32 0),(.int .u32 0),(.int .i32 0),(.int .u32 0),(.int .u32 0),(.int .i32 0),(.int .u32 0),(.int .u32 0),(.int .i32 0),(.int .u32 0),(.int .u32 0),(.int .i32 0),(.int .u32 0),(.int .u32 0),(.int .i32 0),(.int .u32 0),(.int .u32 0),(.int .i32 0),(.int .u32 0),(.int .u32 0),(.int .i32 0),(.int .u32 0),(.int .u32 0),(.int .i32 0),(.int .u32 0),(.int .u32 0),(.int .i32 0),(.int .u32 0),(.int .u32 0),(.int .i32 0),(.int .u32 0),(.int .u32 0),(.int .i32 0),(.int .u32 0),(.int .u32 0),(.int .i32 0),(.int .u32 0),(.int .u32 0),(.int .i32 0),(.int .u32 0),(.int .u32 0),(.int .i32 0),(.int .u32 0),(.int .u32 0),(.int .i32 0),(.int .u32 0),(.int .u32 0),(.int .i32 0),(.int .u32 0),(.int .u32 0),(.int .i32 0),(.int .u32 0),(.int .u32 0),(.int .i32 0),(.int .u32 0),(.int .u32 0),(.int .i32 0),(.int .u32 0),(.int .u32 0),(.int .i32 0),(.int .u32 0),(.int .u32 0),(.int .i32 0),(.int .u32 0),(.int .u32 0),(.int .i32 0),(.int .u32 0),(.int .u32 0),(.int .i32 0),(.int .u32 0),(.int .u32 0),(.int .i32 0),(.int .u32 0),(.int .u32 0),(.int .i32 0),(.int .u32 0),(.int .u32 0),(.int .i32 0),(.int .u32 0),(.int .u32 0),(.int .i32 0),(.int .u32 0),(.int .u32 0),(.int .i32 0),(.int .u32 0),(.int .u32 0),(.int .i32 0),(.int .u32 0),(.int .u32 0),(.int .i32 0),(.int .u32 0),(.int .u32 0),(.int .i32 0),(.int .u32 0),(.int .u32 0),(.int .i32 0),(.int .u32 0),(.int .u32 0),(.int .i32 0),(.int .u32 0),(.int .u32 0),(.int .i32 0),(.int .u32 0),(.int .u32 0),(.int .i32 0),(.int .u32 0),(.int .u32 0),(.int .i32 0),(.int .u32 0),(.int .u32 0),(.int .i32 0),(.int .u32 0),(.int .u32 0),(.int .i32 0),(.int .u32 0),(.int .u32 0),(.int .i32 0),(.int .u32 0),(.int .u32 0),(.int .i32 0),(.int .u32 0),(.int .u32 0),(.int .i32 0),(.int .u32 0),(.int .u32 0),(.int .i32 0),(.int .u32 0),(.int .u32 0),(.int .i32 0),(.int .u32 0),(.int .u32 0),(.int .i32 0),(.int .u32 0),(.int .u32 0),(.int .i32 0),(.int .u32 0),(.int .u32 0),(.int .i32 0),(.int .u32 0),(.int .u32 0),(.int .i32 0),(.int .u32 0),(.int .u32 0),(.int .i32 0),(.int .u32 0),(.int .u32 0),(.int .i32 0),(.int .u32 0),(.int .u32 0),(.int .i32 0),(.int .u32 0),(.int .u32 0),(.int .i32 0),(.int .u32 0),(.int .u32 0),(.int .i32 0),(.int .u32 0),(.pointer none),(.pointer none),(.pointer none),(.pointer none),(.pointer none),(.pointer none),(.pointer none),(.pointer none),(.pointer none),(.pointer none),(.pointer none),(.pointer none),(.pointer none),(.pointer none),(.pointer none),(.pointer none),(.pointer none),(.pointer none),(.pointer none),(.pointer none),(.pointer none),(.pointer none),(.pointer none),(.pointer none),(.pointer none),(.pointer none),(.pointer none),(.pointer none),(.pointer none),(.pointer none),(.pointer none),(.pointer none),(.pointer none),(.pointer none),(.pointer none),(.pointer none),(.pointer none),(.pointer none),(.pointer none),(.pointer none),(.pointer none),(.pointer none),(.pointer none),(.pointer none),(.pointer none),(.pointer none),(.pointer none),(.pointer none),(.pointer none),(.pointer none),(.pointer none),(.pointer none),(.pointer none),(.pointer none),(.pointer none),(.pointer none),(.pointer none),(.pointer none),(.pointer none),(.pointer none),(.pointer none),(.pointer none),(.pointer none),(.pointer none),(.pointer none)]
def c36:ACode:=(.seq (.region [.o 1 (.box 3 1 (.tmp 0)), .o 2 (.mv (.const (.pointer none))), .k 3 0]) (.seq (.seq (.region [.o 5 (.l 1), .o 6 (.c .lss 5 2), .m 7 6, .g 8 (.l 1) 7 false, .g 9 (.c .gtr 8 64) 7 false, .o 10 (.pick (.tmp 7) (.const (.bool true)) (.tmp 9))]) (.cond (.tmp 10) (.seq (.region [.o 2 (.mv (.const (.pointer none))), .k 3 1]) .ret) .skip)) (.seq (.region [.o 4 (.alloc 119 tb2)]) (.seq (.region [.o 11 (.l 1), .o 12 (.f 0 4), .o 13 (.iaddrA 65 3 (.tmp 12) (.tmp 11)), .o 14 (.mkf 80 [(.tmp 1),(.tmp 4)]), .o 15 (.q 79 [13,14])]) (.seq (.seq (.region [.o 16 (.l 1), .o 17 (.f 195 4), .o 18 (.iaddrA 65 1 (.tmp 17) (.tmp 16)), .o 19 (.l 18), .o 20 (.eqn false 1 (.tmp 19))]) (.cond (.tmp 20) (.seq (.region [.o 2 (.mv (.const (.pointer none))), .k 3 1]) .ret) .skip)) (.seq (.region [.o 21 (.l 1), .o 22 (.f 195 4), .o 23 (.iaddrA 65 1 (.tmp 22) (.tmp 21)), .o 24 (.l 23), .m 2 24, .k 3 0]) .ret))))))
def F36:AFun:=⟨c36,1,25,[(.tmp 2),(.tmp 3)]⟩
def K36:Nat→List Nat×List Nat
 |_=>([],[])
theorem F36_ok:kj8 Tryz.prog K36 Tryz.f36=some F36:=by kernel_rfl
/- 37: syndrome/syndromeref.Prime -/
def c37L0:ACode:=(.seq (.seq (.region [.m 15 0, .m 16 4, .o 17 (.b .rem 15 16), .o 18 (.c .eql 17 0)]) (.cond (.tmp 18) .skip (.exit 2))) (.block 3 [0,4,5] (.seq (.region [.m 19 0, .m 20 4, .o 21 (.b .quo 19 20), .m 0 21]) (.region [.m 22 5, .o 23 (.c .add 22 1), .m 5 23]))))
def c37L1:ACode:=(.seq (.seq (.region [.m 6 4, .m 7 0, .o 8 (.b .leq 6 7)]) (.cond (.tmp 8) .skip (.exit 0))) (.seq (.block 1 [0,4] (.seq (.seq (.region [.m 11 0, .m 12 4, .o 13 (.b .rem 11 12), .o 14 (.c .neq 13 0)]) (.cond (.tmp 14) (.exit 1) .skip)) (.seq (.region [.k 5 0]) (.seq (.block 2 [0,4,5] (.loop [0,4,5] c37L0)) (.seq (.seq (.region [.m 24 0, .o 25 (.c .eql 24 1)]) (.cond (.tmp 25) (.seq (.region [.m 26 4, .m 27 5, .m 2 26, .m 3 27]) .ret) .skip)) (.seq (.region [.k 2 0, .k 3 0]) .ret)))))) (.region [.m 9 4, .o 10 (.c .add 9 1), .m 4 10])))
def c37:ACode:=(.seq (.region [.k 2 0, .k 3 0]) (.seq (.seq (.region [.k 4 2]) (.block 0 [] (.loop [0,4] c37L1))) (.seq (.region [.k 2 0, .k 3 0]) .ret)))
def F37:AFun:=⟨c37,1,28,[(.tmp 2),(.tmp 3)]⟩
def K37:Nat→List Nat×List Nat
 |0=>([0,4],[])
 |1=>([],[0,4])
 |2=>([0,4,5],[0,4,5])
 |3=>([],[0,4,5])
 |_=>([],[])
theorem F37_ok:kj8 Tryz.prog K37 Tryz.f37=some F37:=by kernel_rfl
/- 38: syndrome/syndromeref.full -/
def c38L0:ACode:=(.seq (.seq (.region [.m 11 7, .o 12 (.f 0 2), .o 13 (.l 12), .o 14 (.c .sub 13 1), .o 15 (.b .lss 11 14)]) (.cond (.tmp 15) .skip (.exit 0))) (.seq (.block 1 [1,2,5,6,7] (.seq (.seq (.region [.m 18 6, .o 19 (.c .eql 18 0), .m 20 19, .g 21 (.m 5) 20 false, .g 22 (.m 6) 20 false, .g 23 (.i 1 21 22) 20 false, .g 24 (.l 23) 20 false, .o 25 (.pick (.tmp 20) (.const (.bool true)) (.tmp 24))]) (.cond (.tmp 25) (.seq (.region [.o 4 (.mv (.const (.bool false)))]) .ret) .skip)) (.seq (.region [.m 26 5, .m 27 6, .o 28 (.i 1 26 27), .n (.st 1 (.tmp 28) (.const (.bool true)))]) (.region [.o 29 (.ld true 5 (.tmp 2)), .m 30 6, .m 31 1, .o 32 (.q 60 [29,30,31]), .m 6 32])))) (.region [.m 16 7, .o 17 (.c .add 16 1), .m 7 17])))
def c38:ACode:=(.seq (.region [.o 2 (.box 31 5 (.tmp 0)), .o 4 (.mv (.const (.bool false)))]) (.seq (.region [.o 8 (.f 0 2), .o 9 (.l 8), .o 10 (.mks 4 1 1 [(.bool false)] (.tmp 9) (.tmp 9)), .m 5 10]) (.seq (.region [.k 6 1]) (.seq (.seq (.region [.k 7 0]) (.block 0 [] (.loop [1,2,5,6,7] c38L0))) (.seq (.region [.o 4 (.mv (.const (.bool true)))]) .ret)))))
def F38:AFun:=⟨c38,2,33,[(.tmp 4)]⟩
def K38:Nat→List Nat×List Nat
 |0=>([1,2,5,6,7],[])
 |1=>([],[1,2,5,6,7])
 |_=>([],[])
theorem F38_ok:kj8 Tryz.prog K38 Tryz.f38=some F38:=by kernel_rfl
/- 39: syndrome/syndromeref.Digits -/
def c39L0:ACode:=(.seq (.seq (.region [.m 9 8, .m 10 2, .o 11 (.b .lss 9 10)]) (.cond (.tmp 11) .skip (.exit 0))) (.seq (.block 1 [0,1,2,7,8] (.seq (.region [.m 14 7, .m 15 0, .m 16 1, .o 17 (.b .rem 15 16), .o 18 (.mkSl 3 1 1 [(.tmp 17)]), .o 19 (.app 3 1 8 (.tmp 14) (.tmp 18)), .m 7 19]) (.region [.m 20 0, .m 21 1, .o 22 (.b .quo 20 21), .m 0 22]))) (.region [.m 12 8, .o 13 (.c .add 12 1), .m 8 13])))
def c39:ACode:=(.seq (.region [.o 6 (.mv (.const (.slice none 0 0)))]) (.seq (.region [.o 7 (.mv (.const (.slice none 0 0)))]) (.seq (.seq (.region [.k 8 0]) (.block 0 [7] (.loop [0,1,2,7,8] c39L0))) (.seq (.region [.m 23 7, .m 6 23]) .ret))))
def F39:AFun:=⟨c39,3,24,[(.tmp 6)]⟩
def K39:Nat→List Nat×List Nat
 |0=>([0,1,2,7,8],[7])
 |1=>([],[0,1,2,7,8])
 |_=>([],[])
theorem F39_ok:kj8 Tryz.prog K39 Tryz.f39=some F39:=by kernel_rfl
/- 40: (syndrome/syndromeref.F).Has -/
def c40:ACode:=(.seq (.region [.o 2 (.box 31 5 (.tmp 0)), .o 4 (.mv (.const (.bool false)))]) (.seq (.region [.m 5 1, .o 6 (.c .geq 5 0), .m 7 6, .g 8 (.m 1) 7 true, .g 9 (.f 0 2) 7 true, .g 10 (.l 9) 7 true, .g 11 (.b .lss 8 10) 7 true, .o 12 (.pick (.tmp 7) (.tmp 11) (.const (.bool false))), .m 4 12]) .ret))
def F40:AFun:=⟨c40,2,13,[(.tmp 4)]⟩
def K40:Nat→List Nat×List Nat
 |_=>([],[])
theorem F40_ok:kj8 Tryz.prog K40 Tryz.f40=some F40:=by kernel_rfl
/- 41: syndrome/syndromeref.Square -/
def c41L0:ACode:=(.seq (.seq (.region [.m 14 8, .m 15 1, .o 16 (.b .lss 14 15)]) (.cond (.tmp 16) .skip (.exit 0))) (.seq (.block 1 [0,1,2,7,8] (.region [.m 19 7, .m 20 1, .o 21 (.mks 3 1 8 [(.int .i64 0)] (.tmp 20) (.tmp 20)), .o 22 (.mkSl 22 1 1 [(.tmp 21)]), .o 23 (.app 22 1 24 (.tmp 19) (.tmp 22)), .m 7 23])) (.region [.m 17 8, .o 18 (.c .add 17 1), .m 8 18])))
def c41L1:ACode:=(.seq (.seq (.region [.m 30 11, .m 31 0, .o 32 (.b .lss 30 31)]) (.cond (.tmp 32) .skip (.exit 4))) (.seq (.block 5 [0,1,2,7,9,10,11] (.seq (.region [.m 35 7, .m 36 10, .o 37 (.i 1 35 36), .o 38 (.l 37), .m 39 11, .m 40 2, .m 41 9, .o 42 (.i 1 40 41), .o 43 (.l 42), .o 44 (.i 1 38 39), .n (.st 1 (.tmp 44) (.tmp 43))]) (.seq (.region [.m 45 7, .m 46 11, .o 47 (.i 1 45 46), .o 48 (.l 47), .m 49 10, .m 50 2, .m 51 9, .o 52 (.i 1 50 51), .o 53 (.l 52), .o 54 (.i 1 48 49), .n (.st 1 (.tmp 54) (.tmp 53))]) (.region [.m 55 9, .o 56 (.c .add 55 1), .m 9 56])))) (.region [.m 33 11, .o 34 (.c .add 33 1), .m 11 34])))
def c41L2:ACode:=(.seq (.seq (.region [.m 24 10, .m 25 0, .o 26 (.b .lss 24 25)]) (.cond (.tmp 26) .skip (.exit 2))) (.seq (.block 3 [0,1,2,7,9,10] (.seq (.region [.m 29 10, .m 11 29]) (.block 4 [0,1,2,7,9,10] (.loop [0,1,2,7,9,10,11] c41L1)))) (.region [.m 27 10, .o 28 (.c .add 27 1), .m 10 28])))
def c41L3:ACode:=(.seq (.seq (.region [.m 63 13, .m 64 1, .o 65 (.b .lss 63 64)]) (.cond (.tmp 65) .skip (.exit 8))) (.seq (.block 9 [0,1,2,7,9,12,13] (.seq (.region [.m 68 7, .m 69 12, .o 70 (.i 1 68 69), .o 71 (.l 70), .m 72 13, .m 73 2, .m 74 9, .o 75 (.i 1 73 74), .o 76 (.l 75), .o 77 (.i 1 71 72), .n (.st 1 (.tmp 77) (.tmp 76))]) (.seq (.region [.m 78 7, .m 79 13, .o 80 (.i 1 78 79), .o 81 (.l 80), .m 82 12, .m 83 2, .m 84 9, .o 85 (.i 1 83 84), .o 86 (.l 85), .o 87 (.i 1 81 82), .n (.st 1 (.tmp 87) (.tmp 86))]) (.region [.m 88 9, .o 89 (.c .add 88 1), .m 9 89])))) (.region [.m 66 13, .o 67 (.c .add 66 1), .m 13 67])))
def c41L4:ACode:=(.seq (.seq (.region [.m 57 12, .m 58 0, .o 59 (.b .lss 57 58)]) (.cond (.tmp 59) .skip (.exit 6))) (.seq (.block 7 [0,1,2,7,9,12] (.seq (.region [.m 62 0, .m 13 62]) (.block 8 [0,1,2,7,9,12] (.loop [0,1,2,7,9,12,13] c41L3)))) (.region [.m 60 12, .o 61 (.c .add 60 1), .m 12 61])))
def c41:ACode:=(.seq (.region [.o 6 (.mv (.const (.slice none 0 0)))]) (.seq (.region [.o 7 (.mv (.const (.slice none 0 0)))]) (.seq (.seq (.region [.k 8 0]) (.block 0 [0,1,2,7] (.loop [0,1,2,7,8] c41L0))) (.seq (.region [.k 9 0]) (.seq (.seq (.region [.k 10 0]) (.block 2 [0,1,2,7,9] (.loop [0,1,2,7,9,10] c41L2))) (.seq (.seq (.region [.k 12 0]) (.block 6 [7] (.loop [0,1,2,7,9,12] c41L4))) (.seq (.region [.m 90 7, .m 6 90]) .ret)))))))
def F41:AFun:=⟨c41,3,91,[(.tmp 6)]⟩
def K41:Nat→List Nat×List Nat
 |0=>([0,1,2,7,8],[0,1,2,7])
 |1=>([],[0,1,2,7,8])
 |2=>([0,1,2,7,9,10],[0,1,2,7,9])
 |3=>([],[0,1,2,7,9,10])
 |4=>([0,1,2,7,9,10,11],[0,1,2,7,9,10])
 |5=>([],[0,1,2,7,9,10,11])
 |6=>([0,1,2,7,9,12],[7])
 |7=>([],[0,1,2,7,9,12])
 |8=>([0,1,2,7,9,12,13],[0,1,2,7,9,12])
 |9=>([],[0,1,2,7,9,12,13])
 |_=>([],[])
theorem F41_ok:kj8 Tryz.prog K41 Tryz.f41=some F41:=by kernel_rfl
/- 42: (syndrome/syndromeref.F).Product -/
def c42L0:ACode:=(.seq (.seq (.region [.m 29 11, .m 30 9, .o 31 (.n 30), .o 32 (.b .lss 29 31)]) (.cond (.tmp 32) .skip (.exit 4))) (.seq (.block 5 [1,2,3,7,8,9,10,11] (.region [.m 35 9, .m 36 11, .o 37 (.ld true 5 (.tmp 3)), .m 38 9, .m 39 11, .o 40 (.i 1 38 39), .o 41 (.l 40), .o 42 (.ld true 5 (.tmp 3)), .m 43 1, .m 44 8, .o 45 (.i 1 43 44), .o 46 (.l 45), .m 47 10, .o 48 (.i 1 46 47), .o 49 (.l 48), .m 50 2, .m 51 10, .o 52 (.i 1 50 51), .o 53 (.l 52), .m 54 11, .o 55 (.i 1 53 54), .o 56 (.l 55),⟨(some 57),(.call 60 [(.tmp 42),(.tmp 49),(.tmp 56)]),none,true⟩, .o 58 (.q 59 [37,41,57]), .o 59 (.i 1 35 36), .n (.st 1 (.tmp 59) (.tmp 58))])) (.region [.m 33 11, .o 34 (.c .add 33 1), .m 11 34])))
def c42L1:ACode:=(.seq (.seq (.region [.m 23 10, .m 24 2, .o 25 (.n 24), .o 26 (.b .lss 23 25)]) (.cond (.tmp 26) .skip (.exit 2))) (.seq (.block 3 [1,2,3,7,8,9,10] (.seq (.region [.k 11 0]) (.block 4 [1,2,3,7,8,9,10] (.loop [1,2,3,7,8,9,10,11] c42L0)))) (.region [.m 27 10, .o 28 (.c .add 27 1), .m 10 28])))
def c42L2:ACode:=(.seq (.seq (.region [.m 12 8, .m 13 1, .o 14 (.n 13), .o 15 (.b .lss 12 14)]) (.cond (.tmp 15) .skip (.exit 0))) (.seq (.block 1 [1,2,3,7,8] (.seq (.region [.m 18 2, .o 19 (.iaddr 1 (.tmp 18) (.const (.int .i64 0))), .o 20 (.l 19), .o 21 (.n 20), .o 22 (.mks 3 1 8 [(.int .i64 0)] (.tmp 21) (.tmp 21)), .m 9 22]) (.seq (.seq (.region [.k 10 0]) (.block 2 [1,2,3,7,8,9] (.loop [1,2,3,7,8,9,10] c42L1))) (.region [.m 60 7, .m 61 9, .o 62 (.mkSl 22 1 1 [(.tmp 61)]), .o 63 (.app 22 1 24 (.tmp 60) (.tmp 62)), .m 7 63])))) (.region [.m 16 8, .o 17 (.c .add 16 1), .m 8 17])))
def c42:ACode:=(.seq (.region [.o 3 (.box 31 5 (.tmp 0)), .o 6 (.mv (.const (.slice none 0 0)))]) (.seq (.region [.o 7 (.mv (.const (.slice none 0 0)))]) (.seq (.seq (.region [.k 8 0]) (.block 0 [7] (.loop [1,2,3,7,8] c42L2))) (.seq (.region [.m 64 7, .m 6 64]) .ret))))
def F42:AFun:=⟨c42,3,65,[(.tmp 6)]⟩
def K42:Nat→List Nat×List Nat
 |0=>([1,2,3,7,8],[7])
 |1=>([],[1,2,3,7,8])
 |2=>([1,2,3,7,8,9,10],[1,2,3,7,8,9])
 |3=>([],[1,2,3,7,8,9,10])
 |4=>([1,2,3,7,8,9,10,11],[1,2,3,7,8,9,10])
 |5=>([],[1,2,3,7,8,9,10,11])
 |_=>([],[])
theorem F42_ok:kj8 Tryz.prog K42 Tryz.f42=some F42:=by kernel_rfl
/- 43: (*syndrome/store.Plan).numbers -/
def c43:ACode:=(.seq (.region [.o 4 (.mv (.const (.bool false)))]) (.seq (.region [.m 8 0, .o 9 (.nilck (.tmp 8)), .o 10 (.f 0 9), .o 11 (.l 10), .o 12 (.q 36 [11]), .m 7 12, .o 13 (.e 0 7), .o 14 (.e 1 7), .o 5 (.alloc 60 [(.pointer none)]), .n (.st 1 (.tmp 5) (.tmp 13)), .m 6 14]) (.seq (.region [.m 15 1, .o 16 (.mkf 83 [(.tmp 5)]), .o 17 (.q 82 [15,16]), .o 18 (.un .not (.tmp 17)), .m 4 18]) .ret)))
def F43:AFun:=⟨c43,2,19,[(.tmp 4)]⟩
def K43:Nat→List Nat×List Nat
 |_=>([],[])
theorem F43_ok:kj8 Tryz.prog K43 Tryz.f43=some F43:=by kernel_rfl
/- 44: (*syndrome/store.Plan).powers -/
def c44L0:ACode:=(.seq (.region [.o 21 (.b .lss 20 19)]) (.seq (.cond (.tmp 21) .skip (.exit 0)) (.seq (.block 1 [1,7,9,19,20] (.seq (.region [.m 22 20, .m 10 22]) (.region [.m 23 9, .m 24 7, .m 25 1, .m 26 10, .o 27 (.q 85 [24,25,26]), .o 28 (.mkSl 3 1 1 [(.tmp 27)]), .o 29 (.app 3 1 8 (.tmp 23) (.tmp 28)), .m 9 29]))) (.region [.o 30 (.c .add 20 1), .m 20 30]))))
def c44:ACode:=(.seq (.region [.o 6 (.mv (.const (.slice none 0 0)))]) (.seq (.region [.m 12 0, .o 13 (.nilck (.tmp 12)), .o 14 (.f 0 13), .o 15 (.l 14), .o 16 (.q 36 [15]), .m 11 16, .o 17 (.e 0 11), .o 18 (.e 1 11), .m 7 17, .m 8 18]) (.seq (.region [.o 9 (.mv (.const (.slice none 0 0)))]) (.seq (.seq (.region [.m 19 2, .k 20 0]) (.block 0 [9] (.loop [1,7,9,19,20] c44L0))) (.seq (.region [.m 31 9, .m 6 31]) .ret)))))
def F44:AFun:=⟨c44,3,32,[(.tmp 6)]⟩
def K44:Nat→List Nat×List Nat
 |0=>([1,7,9,19,20],[9])
 |1=>([],[1,7,9,19,20])
 |_=>([],[])
theorem F44_ok:kj8 Tryz.prog K44 Tryz.f44=some F44:=by kernel_rfl
/- 45: syndrome/matrix.Times -/
def c45L0:ACode:=(.seq (.region [.o 71 (.b .lss 70 69)]) (.seq (.cond (.tmp 71) .skip (.exit 4)) (.seq (.block 5 [2,9,11,14,16,47,48,49,58,59,60,68,69,70] (.seq (.region [.m 72 70, .o 73 (.i 1 68 70), .o 74 (.l 73), .m 17 72, .m 18 74]) (.region [.m 75 14, .m 76 17, .m 77 9, .m 78 14, .m 79 17, .o 80 (.i 1 78 79), .o 81 (.l 80), .m 82 9, .m 83 16, .m 84 18,⟨(some 85),(.call 87 [(.tmp 82),(.tmp 83),(.tmp 84)]),none,true⟩, .o 86 (.q 86 [77,81,85]), .o 87 (.i 1 75 76), .n (.st 1 (.tmp 87) (.tmp 86))]))) (.region [.o 88 (.c .add 70 1), .m 70 88]))))
def c45L1:ACode:=(.seq (.region [.o 61 (.b .lss 60 59)]) (.seq (.cond (.tmp 61) .skip (.exit 2)) (.seq (.block 3 [2,9,11,14,47,48,49,58,59,60] (.seq (.region [.m 62 60, .o 63 (.i 1 58 60), .o 64 (.l 63), .m 15 62, .m 16 64]) (.seq (.region [.m 65 2, .m 66 15, .o 67 (.i 1 65 66), .o 68 (.l 67), .o 69 (.n 68), .k 70 0]) (.block 4 [2,9,11,14,47,48,49,58,59,60] (.loop [2,9,11,14,16,47,48,49,58,59,60,68,69,70] c45L0))))) (.region [.o 89 (.c .add 60 1), .m 60 89]))))
def c45L2:ACode:=(.seq (.region [.o 50 (.b .lss 49 48)]) (.seq (.cond (.tmp 50) .skip (.exit 0)) (.seq (.block 1 [2,9,11,47,48,49] (.seq (.region [.o 51 (.i 1 47 49), .o 52 (.l 51), .m 13 52]) (.seq (.region [.m 53 2, .o 54 (.iaddr 1 (.tmp 53) (.const (.int .i64 0))), .o 55 (.l 54), .o 56 (.n 55), .o 57 (.mks 3 1 8 [(.int .i64 0)] (.tmp 56) (.tmp 56)), .m 14 57]) (.seq (.seq (.region [.m 58 13, .o 59 (.n 58), .k 60 0]) (.block 2 [2,9,11,14,47,48,49] (.loop [2,9,11,14,47,48,49,58,59,60] c45L1))) (.region [.m 90 11, .m 91 14, .o 92 (.mkSl 22 1 1 [(.tmp 91)]), .o 93 (.app 22 1 24 (.tmp 90) (.tmp 92)), .m 11 93]))))) (.region [.o 94 (.c .add 49 1), .m 49 94]))))
def c45:ACode:=(.seq (.region [.o 6 (.mv (.const (.slice none 0 0))), .k 7 0]) (.seq (.region [.m 19 0, .m 20 1, .o 21 (.q 66 [19,20]), .m 8 21]) (.seq (.seq (.region [.m 22 8, .o 23 (.c .eql 22 0)]) (.cond (.tmp 23) (.region [.m 24 0, .m 25 2, .o 26 (.q 66 [24,25]), .m 8 26]) .skip)) (.seq (.seq (.region [.m 27 8, .o 28 (.c .neq 27 0)]) (.cond (.tmp 28) (.seq (.region [.m 29 8, .o 6 (.mv (.const (.slice none 0 0))), .m 7 29]) .ret) .skip)) (.seq (.seq (.region [.m 30 1, .o 31 (.n 30), .o 32 (.c .gtr 31 0), .m 33 32, .g 34 (.m 1) 33 true, .g 35 (.iaddr 1 (.tmp 34) (.const (.int .i64 0))) 33 true, .g 36 (.l 35) 33 true, .g 37 (.n 36) 33 true, .g 38 (.m 2) 33 true, .g 39 (.n 38) 33 true, .g 40 (.b .neq 37 39) 33 true, .o 41 (.pick (.tmp 33) (.tmp 40) (.const (.bool false)))]) (.cond (.tmp 41) (.seq (.region [.o 6 (.mv (.const (.slice none 0 0))), .k 7 3]) .ret) .skip)) (.seq (.region [.m 43 0, .o 44 (.q 36 [43]), .m 42 44, .o 45 (.e 0 42), .o 46 (.e 1 42), .m 9 45, .m 10 46]) (.seq (.region [.o 11 (.mv (.const (.slice none 0 0)))]) (.seq (.seq (.region [.m 47 1, .o 48 (.n 47), .k 49 0]) (.block 0 [11] (.loop [2,9,11,47,48,49] c45L2))) (.seq (.region [.m 95 11, .m 6 95, .k 7 0]) .ret)))))))))
def F45:AFun:=⟨c45,3,96,[(.tmp 6),(.tmp 7)]⟩
def K45:Nat→List Nat×List Nat
 |0=>([2,9,11,47,48,49],[11])
 |1=>([],[2,9,11,47,48,49])
 |2=>([2,9,11,14,47,48,49,58,59,60],[2,9,11,14,47,48,49])
 |3=>([],[2,9,11,14,47,48,49,58,59,60])
 |4=>([2,9,11,14,16,47,48,49,58,59,60,68,69,70],[2,9,11,14,47,48,49,58,59,60])
 |5=>([],[2,9,11,14,16,47,48,49,58,59,60,68,69,70])
 |_=>([],[])
theorem F45_ok:kj8 Tryz.prog K45 Tryz.f45=some F45:=by kernel_rfl
/- 46: (*syndrome/store.Plan).square -/
def c46L0:ACode:=(.seq (.region [.o 33 (.b .lss 32 31)]) (.seq (.cond (.tmp 33) .skip (.exit 2)) (.seq (.block 3 [0,1,5,6,15,16,31,32] (.seq (.region [.m 34 32, .m 7 34]) (.seq (.region [.m 35 0, .m 36 6, .m 37 7, .o 38 (.q 88 [35,36,37]), .m 8 38]) (.seq (.region [.m 39 8, .o 40 (.c .geq 39 0)]) (.cond (.tmp 40) (.region [.m 41 5, .m 42 6, .o 43 (.i 1 41 42), .o 44 (.l 43), .m 45 7, .m 46 1, .m 47 8, .o 48 (.i 1 46 47), .o 49 (.l 48), .o 50 (.i 1 44 45), .n (.st 1 (.tmp 50) (.tmp 49))]) .skip))))) (.region [.o 51 (.c .add 32 1), .m 32 51]))))
def c46L1:ACode:=(.seq (.region [.o 17 (.b .lss 16 15)]) (.seq (.cond (.tmp 17) .skip (.exit 0)) (.seq (.block 1 [0,1,5,15,16] (.seq (.region [.m 18 16, .m 6 18]) (.seq (.region [.m 19 5, .m 20 6, .m 21 0, .o 22 (.nilck (.tmp 21)), .o 23 (.f 3 22), .o 24 (.l 23), .o 25 (.mks 3 1 8 [(.int .i64 0)] (.tmp 24) (.tmp 24)), .o 26 (.i 1 19 20), .n (.st 1 (.tmp 26) (.tmp 25))]) (.seq (.region [.m 27 5, .m 28 6, .o 29 (.i 1 27 28), .o 30 (.l 29), .o 31 (.n 30), .k 32 0]) (.block 2 [0,1,5,15,16] (.loop [0,1,5,6,15,16,31,32] c46L0)))))) (.region [.o 52 (.c .add 16 1), .m 16 52]))))
def c46:ACode:=(.seq (.region [.o 4 (.mv (.const (.slice none 0 0)))]) (.seq (.region [.m 9 0, .o 10 (.nilck (.tmp 9)), .o 11 (.f 3 10), .o 12 (.l 11), .o 13 (.mks 22 1 24 [(.slice none 0 0)] (.tmp 12) (.tmp 12)), .m 5 13]) (.seq (.seq (.region [.m 14 5, .o 15 (.n 14), .k 16 0]) (.block 0 [5] (.loop [0,1,5,15,16] c46L1))) (.seq (.region [.m 53 5, .m 4 53]) .ret))))
def F46:AFun:=⟨c46,2,54,[(.tmp 4)]⟩
def K46:Nat→List Nat×List Nat
 |0=>([0,1,5,15,16],[5])
 |1=>([],[0,1,5,15,16])
 |2=>([0,1,5,6,15,16,31,32],[0,1,5,15,16])
 |3=>([],[0,1,5,6,15,16,31,32])
 |_=>([],[])
theorem F46_ok:kj8 Tryz.prog K46 Tryz.f46=some F46:=by kernel_rfl
/- 47: syndrome/syndromeref.SameAll -/
def c47L0:ACode:=(.seq (.seq (.region [.m 11 5, .m 12 0, .o 13 (.n 12), .o 14 (.b .lss 11 13)]) (.cond (.tmp 14) .skip (.exit 0))) (.seq (.block 1 [0,1,5] (.seq (.region [.m 17 0, .m 18 5, .o 19 (.i 1 17 18), .o 20 (.l 19), .m 21 1, .m 22 5, .o 23 (.i 1 21 22), .o 24 (.l 23), .o 25 (.q 89 [20,24]), .o 26 (.un .not (.tmp 25))]) (.cond (.tmp 26) (.seq (.region [.o 4 (.mv (.const (.bool false)))]) .ret) .skip))) (.region [.m 15 5, .o 16 (.c .add 15 1), .m 5 16])))
def c47:ACode:=(.seq (.region [.o 4 (.mv (.const (.bool false)))]) (.seq (.seq (.region [.m 6 0, .o 7 (.n 6), .m 8 1, .o 9 (.n 8), .o 10 (.b .neq 7 9)]) (.cond (.tmp 10) (.seq (.region [.o 4 (.mv (.const (.bool false)))]) .ret) .skip)) (.seq (.seq (.region [.k 5 0]) (.block 0 [] (.loop [0,1,5] c47L0))) (.seq (.region [.o 4 (.mv (.const (.bool true)))]) .ret))))
def F47:AFun:=⟨c47,2,27,[(.tmp 4)]⟩
def K47:Nat→List Nat×List Nat
 |0=>([0,1,5],[])
 |1=>([],[0,1,5])
 |_=>([],[])
theorem F47_ok:kj8 Tryz.prog K47 Tryz.f47=some F47:=by kernel_rfl
/- 48: syndrome/syndromeref.NodesMay -/
def c48L0:ACode:=(.seq (.seq (.region [.m 12 7, .m 13 0, .o 14 (.n 13), .o 15 (.b .lss 12 14)]) (.cond (.tmp 15) .skip (.exit 0))) (.seq (.block 1 [0,1,7] (.seq (.seq (.region [.m 18 0, .m 19 7, .o 20 (.i 1 18 19), .o 21 (.l 20), .o 22 (.c .lss 21 0), .m 23 22, .g 24 (.m 0) 23 false, .g 25 (.m 7) 23 false, .g 26 (.i 1 24 25) 23 false, .g 27 (.l 26) 23 false, .g 28 (.m 1) 23 false, .g 29 (.b .geq 27 28) 23 false, .o 30 (.pick (.tmp 23) (.const (.bool true)) (.tmp 29))]) (.cond (.tmp 30) (.seq (.region [.k 6 10]) .ret) .skip)) (.seq (.region [.m 31 0, .m 32 7, .o 33 (.i 1 31 32), .o 34 (.l 33), .m 35 0, .m 36 7, .o 37 (.sl 1 (.tmp 35) none (some (.tmp 36))), .o 38 (.q 55 [34,37])]) (.cond (.tmp 38) (.seq (.region [.k 6 7]) .ret) .skip)))) (.region [.m 16 7, .o 17 (.c .add 16 1), .m 7 17])))
def c48:ACode:=(.seq (.region [.k 6 0]) (.seq (.seq (.region [.m 8 0, .o 9 (.n 8), .m 10 2, .o 11 (.b .neq 9 10)]) (.cond (.tmp 11) (.seq (.region [.k 6 6]) .ret) .skip)) (.seq (.seq (.region [.k 7 0]) (.block 0 [] (.loop [0,1,7] c48L0))) (.seq (.region [.k 6 0]) .ret))))
def F48:AFun:=⟨c48,3,39,[(.tmp 6)]⟩
def K48:Nat→List Nat×List Nat
 |0=>([0,1,7],[])
 |1=>([],[0,1,7])
 |_=>([],[])
theorem F48_ok:kj8 Tryz.prog K48 Tryz.f48=some F48:=by kernel_rfl
/- 49: syndrome/syndromeref.HaveMay -/
def c49L0:ACode:=(.seq (.seq (.region [.m 15 9, .m 16 2, .o 17 (.n 16), .o 18 (.b .lss 15 17)]) (.cond (.tmp 18) .skip (.exit 0))) (.seq (.block 1 [2,3,4,9] (.seq (.seq (.region [.m 21 2, .m 22 9, .o 23 (.i 1 21 22), .o 24 (.l 23), .o 25 (.n 24), .m 26 3, .o 27 (.b .neq 25 26)]) (.cond (.tmp 27) (.seq (.region [.k 8 6]) .ret) .skip)) (.seq (.region [.o 28 (.ld true 5 (.tmp 4)), .m 29 2, .m 30 9, .o 31 (.i 1 29 30), .o 32 (.l 31), .o 33 (.q 12 [28,32]), .o 34 (.un .not (.tmp 33))]) (.cond (.tmp 34) (.seq (.region [.k 8 2]) .ret) .skip)))) (.region [.m 19 9, .o 20 (.c .add 19 1), .m 9 20])))
def c49:ACode:=(.seq (.region [.o 4 (.box 31 5 (.tmp 0)), .k 8 0]) (.seq (.seq (.region [.m 10 2, .o 11 (.n 10), .m 12 1, .o 13 (.n 12), .o 14 (.b .neq 11 13)]) (.cond (.tmp 14) (.seq (.region [.k 8 6]) .ret) .skip)) (.seq (.seq (.region [.k 9 0]) (.block 0 [] (.loop [2,3,4,9] c49L0))) (.seq (.region [.k 8 0]) .ret))))
def F49:AFun:=⟨c49,4,35,[(.tmp 8)]⟩
def K49:Nat→List Nat×List Nat
 |0=>([2,3,4,9],[])
 |1=>([],[2,3,4,9])
 |_=>([],[])
theorem F49_ok:kj8 Tryz.prog K49 Tryz.f49=some F49:=by kernel_rfl
/- 50: syndrome/syndromeref.FileOf -/
def c50L0:ACode:=(.seq (.seq (.region [.m 39 15, .m 40 4, .o 41 (.n 40), .o 42 (.b .lss 39 41)]) (.cond (.tmp 42) .skip (.exit 0))) (.seq (.block 1 [1,2,3,4,5,6,14,15] (.region [.m 45 14, .o 46 (.ld true 5 (.tmp 6)), .m 47 4, .m 48 15, .o 49 (.i 1 47 48), .o 50 (.l 49), .m 51 2, .o 52 (.q 22 [46,50,51]), .o 53 (.mkSl 22 1 1 [(.tmp 52)]), .o 54 (.app 22 1 24 (.tmp 45) (.tmp 53)), .m 14 54])) (.region [.m 43 15, .o 44 (.c .add 43 1), .m 15 44])))
def c50L1:ACode:=(.seq (.seq (.region [.m 63 19, .m 64 4, .o 65 (.n 64), .o 66 (.b .lss 63 65)]) (.cond (.tmp 66) .skip (.exit 4))) (.seq (.block 5 [1,2,3,4,5,6,14,16,17,18,19] (.region [.m 69 18, .m 70 5, .m 71 19, .o 72 (.i 1 70 71), .o 73 (.l 72), .m 74 17, .o 75 (.i 1 73 74), .o 76 (.l 75), .o 77 (.mkSl 3 1 1 [(.tmp 76)]), .o 78 (.app 3 1 8 (.tmp 69) (.tmp 77)), .m 18 78])) (.region [.m 67 19, .o 68 (.c .add 67 1), .m 19 68])))
def c50L2:ACode:=(.seq (.seq (.region [.m 86 22, .m 87 2, .o 88 (.b .lss 86 87)]) (.cond (.tmp 88) .skip (.exit 6))) (.seq (.block 7 [1,2,3,4,5,6,14,16,17,20,22] (.region [.m 91 16, .m 92 22, .m 93 16, .m 94 22, .o 95 (.i 1 93 94), .o 96 (.l 95), .m 97 20, .m 98 22, .o 99 (.i 1 97 98), .o 100 (.l 99), .o 101 (.mkSl 3 1 1 [(.tmp 100)]), .o 102 (.app 3 1 8 (.tmp 96) (.tmp 101)), .o 103 (.i 1 91 92), .n (.st 1 (.tmp 103) (.tmp 102))])) (.region [.m 89 22, .o 90 (.c .add 89 1), .m 22 90])))
def c50L3:ACode:=(.seq (.seq (.region [.m 58 17, .m 59 3, .o 60 (.b .lss 58 59)]) (.cond (.tmp 60) .skip (.exit 2))) (.seq (.block 3 [1,2,3,4,5,6,14,16,17] (.seq (.region [.o 18 (.mv (.const (.slice none 0 0)))]) (.seq (.seq (.region [.k 19 0]) (.block 4 [1,2,3,4,5,6,14,16,17,18] (.loop [1,2,3,4,5,6,14,16,17,18,19] c50L1))) (.seq (.region [.o 80 (.ld true 5 (.tmp 6)), .m 81 14, .m 82 18, .o 83 (.q 56 [80,81,82]), .m 79 83, .o 84 (.e 0 79), .o 85 (.e 1 79), .m 20 84, .m 21 85]) (.seq (.region [.k 22 0]) (.block 6 [1,2,3,4,5,6,14,16,17] (.loop [1,2,3,4,5,6,14,16,17,20,22] c50L2))))))) (.region [.m 61 17, .o 62 (.c .add 61 1), .m 17 62])))
def c50L4:ACode:=(.seq (.seq (.region [.m 132 29, .m 133 3, .o 134 (.b .lss 132 133)]) (.cond (.tmp 134) .skip (.exit 12))) (.seq (.block 13 [1,2,3,4,5,6,14,16,23,24,25,26,27,28,29] (.region [.o 137 (.ld true 5 (.tmp 6)), .m 138 28, .o 139 (.ld true 5 (.tmp 6)), .m 140 27, .m 141 29, .o 142 (.i 1 140 141), .o 143 (.l 142), .m 144 16, .m 145 24, .o 146 (.i 1 144 145), .o 147 (.l 146), .m 148 29, .m 149 2, .o 150 (.b .sub 148 149), .o 151 (.i 1 147 150), .o 152 (.l 151),⟨(some 153),(.call 60 [(.tmp 139),(.tmp 143),(.tmp 152)]),none,true⟩, .o 154 (.q 90 [137,138,153]), .m 28 154])) (.region [.m 135 29, .o 136 (.c .add 135 1), .m 29 136])))
def c50L5:ACode:=(.seq (.seq (.region [.m 111 26, .m 112 4, .o 113 (.n 112), .o 114 (.b .lss 111 113)]) (.cond (.tmp 114) .skip (.exit 10))) (.seq (.block 11 [1,2,3,4,5,6,14,16,23,24,25,26] (.seq (.region [.o 117 (.ld true 5 (.tmp 6)), .m 118 4, .m 119 26, .o 120 (.i 1 118 119), .o 121 (.l 120), .m 122 3, .o 123 (.q 22 [117,121,122]), .m 27 123]) (.seq (.region [.m 124 5, .m 125 26, .o 126 (.i 1 124 125), .o 127 (.l 126), .m 128 24, .o 129 (.i 1 127 128), .o 130 (.l 129), .m 28 130]) (.seq (.seq (.region [.m 131 2, .m 29 131]) (.block 12 [1,2,3,4,5,6,14,16,23,24,25,26,28] (.loop [1,2,3,4,5,6,14,16,23,24,25,26,27,28,29] c50L4))) (.region [.m 155 25, .m 156 28, .o 157 (.mkSl 3 1 1 [(.tmp 156)]), .o 158 (.app 3 1 8 (.tmp 155) (.tmp 157)), .m 25 158]))))) (.region [.m 115 26, .o 116 (.c .add 115 1), .m 26 116])))
def c50L6:ACode:=(.seq (.seq (.region [.m 166 32, .m 167 2, .o 168 (.b .lss 166 167)]) (.cond (.tmp 168) .skip (.exit 14))) (.seq (.block 15 [1,2,3,4,5,6,14,16,23,24,30,32] (.region [.m 171 23, .m 172 32, .m 173 23, .m 174 32, .o 175 (.i 1 173 174), .o 176 (.l 175), .m 177 30, .m 178 32, .o 179 (.i 1 177 178), .o 180 (.l 179), .o 181 (.mkSl 3 1 1 [(.tmp 180)]), .o 182 (.app 3 1 8 (.tmp 176) (.tmp 181)), .o 183 (.i 1 171 172), .n (.st 1 (.tmp 183) (.tmp 182))])) (.region [.m 169 32, .o 170 (.c .add 169 1), .m 32 170])))
def c50L7:ACode:=(.seq (.seq (.region [.m 106 24, .m 107 2, .o 108 (.b .lss 106 107)]) (.cond (.tmp 108) .skip (.exit 8))) (.seq (.block 9 [1,2,3,4,5,6,14,16,23,24] (.seq (.region [.o 25 (.mv (.const (.slice none 0 0)))]) (.seq (.seq (.region [.k 26 0]) (.block 10 [1,2,3,4,5,6,14,16,23,24,25] (.loop [1,2,3,4,5,6,14,16,23,24,25,26] c50L5))) (.seq (.region [.o 160 (.ld true 5 (.tmp 6)), .m 161 14, .m 162 25, .o 163 (.q 56 [160,161,162]), .m 159 163, .o 164 (.e 0 159), .o 165 (.e 1 159), .m 30 164, .m 31 165]) (.seq (.region [.k 32 0]) (.block 14 [1,2,3,4,5,6,14,16,23,24] (.loop [1,2,3,4,5,6,14,16,23,24,30,32] c50L6))))))) (.region [.m 109 24, .o 110 (.c .add 109 1), .m 24 110])))
def c50L8:ACode:=(.seq (.seq (.region [.m 190 35, .m 191 2, .o 192 (.b .lss 190 191)]) (.cond (.tmp 192) .skip (.exit 18))) (.seq (.block 19 [1,2,3,4,5,6,16,23,33,34,35] (.region [.m 195 33, .m 196 23, .m 197 34, .o 198 (.i 1 196 197), .o 199 (.l 198), .m 200 35, .o 201 (.i 1 199 200), .o 202 (.l 201), .o 203 (.mkSl 3 1 1 [(.tmp 202)]), .o 204 (.app 3 1 8 (.tmp 195) (.tmp 203)), .m 33 204])) (.region [.m 193 35, .o 194 (.c .add 193 1), .m 35 194])))
def c50L9:ACode:=(.seq (.seq (.region [.m 184 34, .m 185 2, .o 186 (.b .lss 184 185)]) (.cond (.tmp 186) .skip (.exit 16))) (.seq (.block 17 [1,2,3,4,5,6,16,23,33,34] (.seq (.region [.m 189 34, .m 35 189]) (.block 18 [1,2,3,4,5,6,16,23,33,34] (.loop [1,2,3,4,5,6,16,23,33,34,35] c50L8)))) (.region [.m 187 34, .o 188 (.c .add 187 1), .m 34 188])))
def c50L10:ACode:=(.seq (.seq (.region [.m 205 36, .m 206 2, .o 207 (.b .lss 205 206)]) (.cond (.tmp 207) .skip (.exit 20))) (.seq (.block 21 [1,2,3,4,5,6,16,33,36] (.region [.m 210 33, .m 211 16, .m 212 36, .o 213 (.i 1 211 212), .o 214 (.l 213), .o 215 (.app 3 1 8 (.tmp 210) (.tmp 214)), .m 33 215])) (.region [.m 208 36, .o 209 (.c .add 208 1), .m 36 209])))
def c50L11:ACode:=(.seq (.seq (.region [.m 222 38, .m 223 4, .o 224 (.n 223), .o 225 (.b .lss 222 224)]) (.cond (.tmp 225) .skip (.exit 22))) (.seq (.block 23 [4,5,33,37,38] (.seq (.region [.m 228 37, .m 229 4, .m 230 38, .o 231 (.i 1 229 230), .o 232 (.l 231), .o 233 (.i 1 228 232), .o 234 (.l 233), .m 235 5, .m 236 38, .o 237 (.i 1 235 236), .o 238 (.l 237), .o 239 (.q 89 [234,238]), .o 240 (.un .not (.tmp 239))]) (.cond (.tmp 240) (.seq (.region [.o 12 (.mv (.const (.slice none 0 0))), .o 13 (.mv (.const (.bool false)))]) .ret) .skip))) (.region [.m 226 38, .o 227 (.c .add 226 1), .m 38 227])))
def c50:ACode:=(.seq (.region [.o 6 (.box 31 5 (.tmp 0)), .o 12 (.mv (.const (.slice none 0 0))), .o 13 (.mv (.const (.bool false)))]) (.seq (.region [.o 14 (.mv (.const (.slice none 0 0)))]) (.seq (.seq (.region [.k 15 0]) (.block 0 [1,2,3,4,5,6,14] (.loop [1,2,3,4,5,6,14,15] c50L0))) (.seq (.region [.m 55 2, .o 56 (.mks 22 1 24 [(.slice none 0 0)] (.tmp 55) (.tmp 55)), .m 16 56]) (.seq (.seq (.region [.m 57 2, .m 17 57]) (.block 2 [1,2,3,4,5,6,14,16] (.loop [1,2,3,4,5,6,14,16,17] c50L3))) (.seq (.region [.m 104 2, .o 105 (.mks 22 1 24 [(.slice none 0 0)] (.tmp 104) (.tmp 104)), .m 23 105]) (.seq (.seq (.region [.k 24 0]) (.block 8 [1,2,3,4,5,6,16,23] (.loop [1,2,3,4,5,6,14,16,23,24] c50L7))) (.seq (.region [.o 33 (.mv (.const (.slice none 0 0)))]) (.seq (.seq (.region [.k 34 0]) (.block 16 [1,2,3,4,5,6,16,33] (.loop [1,2,3,4,5,6,16,23,33,34] c50L9))) (.seq (.seq (.region [.k 36 0]) (.block 20 [1,2,3,4,5,6,33] (.loop [1,2,3,4,5,6,16,33,36] c50L10))) (.seq (.region [.o 216 (.ld true 5 (.tmp 6)), .m 217 1, .m 218 2, .m 219 3, .m 220 33, .o 221 (.q 13 [216,217,218,219,220]), .m 37 221]) (.seq (.seq (.region [.k 38 0]) (.block 22 [33] (.loop [4,5,33,37,38] c50L11))) (.seq (.region [.m 241 33, .m 12 241, .o 13 (.mv (.const (.bool true)))]) .ret)))))))))))))
def F50:AFun:=⟨c50,6,242,[(.tmp 12),(.tmp 13)]⟩
def K50:Nat→List Nat×List Nat
 |0=>([1,2,3,4,5,6,14,15],[1,2,3,4,5,6,14])
 |1=>([],[1,2,3,4,5,6,14,15])
 |2=>([1,2,3,4,5,6,14,16,17],[1,2,3,4,5,6,14,16])
 |3=>([],[1,2,3,4,5,6,14,16,17])
 |4=>([1,2,3,4,5,6,14,16,17,18,19],[1,2,3,4,5,6,14,16,17,18])
 |5=>([],[1,2,3,4,5,6,14,16,17,18,19])
 |6=>([1,2,3,4,5,6,14,16,17,20,22],[1,2,3,4,5,6,14,16,17])
 |7=>([],[1,2,3,4,5,6,14,16,17,20,22])
 |8=>([1,2,3,4,5,6,14,16,23,24],[1,2,3,4,5,6,16,23])
 |9=>([],[1,2,3,4,5,6,14,16,23,24])
 |10=>([1,2,3,4,5,6,14,16,23,24,25,26],[1,2,3,4,5,6,14,16,23,24,25])
 |11=>([],[1,2,3,4,5,6,14,16,23,24,25,26])
 |12=>([1,2,3,4,5,6,14,16,23,24,25,26,27,28,29],[1,2,3,4,5,6,14,16,23,24,25,26,28])
 |13=>([],[1,2,3,4,5,6,14,16,23,24,25,26,27,28,29])
 |14=>([1,2,3,4,5,6,14,16,23,24,30,32],[1,2,3,4,5,6,14,16,23,24])
 |15=>([],[1,2,3,4,5,6,14,16,23,24,30,32])
 |16=>([1,2,3,4,5,6,16,23,33,34],[1,2,3,4,5,6,16,33])
 |17=>([],[1,2,3,4,5,6,16,23,33,34])
 |18=>([1,2,3,4,5,6,16,23,33,34,35],[1,2,3,4,5,6,16,23,33,34])
 |19=>([],[1,2,3,4,5,6,16,23,33,34,35])
 |20=>([1,2,3,4,5,6,16,33,36],[1,2,3,4,5,6,33])
 |21=>([],[1,2,3,4,5,6,16,33,36])
 |22=>([4,5,33,37,38],[33])
 |23=>([],[4,5,33,37,38])
 |_=>([],[])
theorem F50_ok:kj8 Tryz.prog K50 Tryz.f50=some F50:=by kernel_rfl
end Go.Proofs.YtmhbpecdpiapgaaGreat
