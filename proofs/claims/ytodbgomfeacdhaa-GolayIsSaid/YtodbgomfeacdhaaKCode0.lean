/-
  Functions of this seat as the small machine's code, written by a program of my own (gen.py); each is checked to be what the model's function is turned into. No condition.
-/
import Derived.Test.YtodbgomfeacdhaaK1
import Derived.Test.YtodbgomfeacdhaaProg
set_option linter.unusedVariables false
set_option linter.unusedSimpArgs false
set_option linter.unusedSectionVars false
set_option maxRecDepth 100000
namespace Go.Proofs.Ytodbgomfeacdhaa
open Go.Am
/- 3: syndrome/syndromelaw.GolayIs -/
def c3:ACode:=(.seq (.region [.o 0 (.mv (.const (.bool false)))]) (.seq (.region [.o 1 (.call 14 []), .o 2 (.mkSl 3 1 12 [(.const (.int .i64 1)),(.const (.int .i64 0)),(.const (.int .i64 1)),(.const (.int .i64 0)),(.const (.int .i64 1)),(.const (.int .i64 1)),(.const (.int .i64 1)),(.const (.int .i64 0)),(.const (.int .i64 0)),(.const (.int .i64 0)),(.const (.int .i64 1)),(.const (.int .i64 1))]), .o 3 (.call 15 [(.const (.int .i64 2)),(.const (.int .i64 23)),(.tmp 2)]), .o 4 (.q 13 [1,3]), .m 5 4, .g 6 (.call 16 []) 5 true, .g 7 (.mkSl 3 1 6 [(.const (.int .i64 2)),(.const (.int .i64 0)),(.const (.int .i64 1)),(.const (.int .i64 2)),(.const (.int .i64 1)),(.const (.int .i64 1))]) 5 true, .g 8 (.call 15 [(.const (.int .i64 3)),(.const (.int .i64 11)),(.tmp 7)]) 5 true, .g 9 (.q 13 [6,8]) 5 true, .o 10 (.pick (.tmp 5) (.tmp 9) (.const (.bool false))), .m 0 10]) .ret))
def F3:AFun:=⟨c3,0,11,[(.tmp 0)]⟩
def K3:Nat→List Nat×List Nat
 |_=>([],[])
theorem F3_ok:kj8 Try.prog K3 Try.f3=some F3:=by kernel_rfl
/- 13: syndrome/syndromeref.SameCode -/
def c13:ACode:=(.seq (.region [.o 2 (.box 25 3 (.tmp 0)), .o 3 (.box 25 3 (.tmp 1)), .o 4 (.mv (.const (.bool false)))]) (.seq (.region [.o 5 (.f 0 2), .o 6 (.l 5), .o 7 (.f 0 3), .o 8 (.l 7), .o 9 (.b .eql 6 8), .m 10 9, .g 11 (.f 1 2) 10 true, .g 12 (.l 11) 10 true, .g 13 (.f 1 3) 10 true, .g 14 (.l 13) 10 true, .g 15 (.b .eql 12 14) 10 true, .o 16 (.pick (.tmp 10) (.tmp 15) (.const (.bool false))), .m 17 16, .g 18 (.f 2 2) 17 true, .g 19 (.l 18) 17 true, .g 20 (.f 2 3) 17 true, .g 21 (.l 20) 17 true, .g 22 (.q 68 [19,21]) 17 true, .o 23 (.pick (.tmp 17) (.tmp 22) (.const (.bool false))), .m 4 23]) .ret))
def F13:AFun:=⟨c13,2,24,[(.tmp 4)]⟩
def K13:Nat→List Nat×List Nat
 |_=>([],[])
theorem F13_ok:kj8 Try.prog K13 Try.f13=some F13:=by kernel_rfl
/- 14: syndrome/golay.Binary -/
def c14:ACode:=(.seq (.region [.o 0 (.alloc 25 [(.int .i64 0),(.int .i64 0),(.slice none 0 0)])]) (.seq (.region [.o 1 (.mkSl 3 1 12 [(.const (.int .i64 1)),(.const (.int .i64 0)),(.const (.int .i64 1)),(.const (.int .i64 0)),(.const (.int .i64 1)),(.const (.int .i64 1)),(.const (.int .i64 1)),(.const (.int .i64 0)),(.const (.int .i64 0)),(.const (.int .i64 0)),(.const (.int .i64 1)),(.const (.int .i64 1))]), .o 2 (.call 69 [(.const (.int .i64 2)),(.const (.int .i64 23)),(.tmp 1)]), .n (.st 3 (.tmp 0) (.tmp 2))]) .ret))
def F14:AFun:=⟨c14,0,3,[(.cell 0 true 3)]⟩
def K14:Nat→List Nat×List Nat
 |_=>([],[])
theorem F14_ok:kj8 Try.prog K14 Try.f14=some F14:=by kernel_rfl
/- 15: syndrome/syndromeref.Golay -/
def c15L0:ACode:=(.seq (.seq (.region [.m 24 10, .m 25 2, .o 26 (.n 25), .o 27 (.b .lss 24 26)]) (.cond (.tmp 27) .skip (.exit 2))) (.seq (.block 3 [1,2,6,7,8,9,10] (.region [.m 30 9, .m 31 10, .m 32 8, .o 33 (.b .add 31 32), .m 34 2, .m 35 10, .o 36 (.i 1 34 35), .o 37 (.l 36), .o 38 (.i 1 30 33), .n (.st 1 (.tmp 38) (.tmp 37))])) (.region [.m 28 10, .o 29 (.c .add 28 1), .m 10 29])))
def c15L1:ACode:=(.seq (.seq (.region [.m 14 8, .m 15 2, .o 16 (.n 15), .o 17 (.b .add 14 16), .m 18 1, .o 19 (.b .leq 17 18)]) (.cond (.tmp 19) .skip (.exit 0))) (.seq (.block 1 [1,2,6,7,8] (.seq (.region [.m 22 1, .o 23 (.mks 3 1 8 [(.int .i64 0)] (.tmp 22) (.tmp 22)), .m 9 23]) (.seq (.seq (.region [.k 10 0]) (.block 2 [1,2,6,7,8,9] (.loop [1,2,6,7,8,9,10] c15L0))) (.region [.o 39 (.f 2 7), .o 40 (.l 39), .m 41 9, .o 42 (.mkSl 28 1 1 [(.tmp 41)]), .o 43 (.app 28 1 24 (.tmp 40) (.tmp 42)), .o 44 (.f 2 7), .n (.st 1 (.tmp 44) (.tmp 43))])))) (.region [.m 20 8, .o 21 (.c .add 20 1), .m 8 21])))
def c15:ACode:=(.seq (.region [.o 6 (.alloc 25 [(.int .i64 0),(.int .i64 0),(.slice none 0 0)])]) (.seq (.region [.m 11 0, .m 12 1, .o 13 (.build [(.int .i64 0),(.int .i64 0),(.slice none 0 0)] [(0,1),(1,1),(2,1)] [(0,(.tmp 11)),(1,(.tmp 12))]), .o 7 (.alloc 25 [(.int .i64 0),(.int .i64 0),(.slice none 0 0)]), .n (.st 3 (.tmp 7) (.tmp 13))]) (.seq (.seq (.region [.k 8 0]) (.block 0 [6,7] (.loop [1,2,6,7,8] c15L1))) (.seq (.region [.o 45 (.ld true 3 (.tmp 7)), .o 46 (.q 70 [45]), .n (.st 3 (.tmp 6) (.tmp 46))]) .ret))))
def F15:AFun:=⟨c15,3,47,[(.cell 6 true 3)]⟩
def K15:Nat→List Nat×List Nat
 |0=>([1,2,6,7,8],[6,7])
 |1=>([],[1,2,6,7,8])
 |2=>([1,2,6,7,8,9,10],[1,2,6,7,8,9])
 |3=>([],[1,2,6,7,8,9,10])
 |_=>([],[])
theorem F15_ok:kj8 Try.prog K15 Try.f15=some F15:=by kernel_rfl
/- 16: syndrome/golay.Ternary -/
def c16:ACode:=(.seq (.region [.o 0 (.alloc 25 [(.int .i64 0),(.int .i64 0),(.slice none 0 0)])]) (.seq (.region [.o 1 (.mkSl 3 1 6 [(.const (.int .i64 2)),(.const (.int .i64 0)),(.const (.int .i64 1)),(.const (.int .i64 2)),(.const (.int .i64 1)),(.const (.int .i64 1))]), .o 2 (.call 69 [(.const (.int .i64 3)),(.const (.int .i64 11)),(.tmp 1)]), .n (.st 3 (.tmp 0) (.tmp 2))]) .ret))
def F16:AFun:=⟨c16,0,3,[(.cell 0 true 3)]⟩
def K16:Nat→List Nat×List Nat
 |_=>([],[])
theorem F16_ok:kj8 Try.prog K16 Try.f16=some F16:=by kernel_rfl
/- 28: syndrome/syndromeref.Same -/
def c28L0:ACode:=(.seq (.seq (.region [.m 11 5, .m 12 0, .o 13 (.n 12), .o 14 (.b .lss 11 13)]) (.cond (.tmp 14) .skip (.exit 0))) (.seq (.block 1 [0,1,5] (.seq (.region [.m 17 0, .m 18 5, .o 19 (.i 1 17 18), .o 20 (.l 19), .m 21 1, .m 22 5, .o 23 (.i 1 21 22), .o 24 (.l 23), .o 25 (.b .neq 20 24)]) (.cond (.tmp 25) (.seq (.region [.o 4 (.mv (.const (.bool false)))]) .ret) .skip))) (.region [.m 15 5, .o 16 (.c .add 15 1), .m 5 16])))
def c28:ACode:=(.seq (.region [.o 4 (.mv (.const (.bool false)))]) (.seq (.seq (.region [.m 6 0, .o 7 (.n 6), .m 8 1, .o 9 (.n 8), .o 10 (.b .neq 7 9)]) (.cond (.tmp 10) (.seq (.region [.o 4 (.mv (.const (.bool false)))]) .ret) .skip)) (.seq (.seq (.region [.k 5 0]) (.block 0 [] (.loop [0,1,5] c28L0))) (.seq (.region [.o 4 (.mv (.const (.bool true)))]) .ret))))
def F28:AFun:=⟨c28,2,26,[(.tmp 4)]⟩
def K28:Nat→List Nat×List Nat
 |0=>([0,1,5],[])
 |1=>([],[0,1,5])
 |_=>([],[])
theorem F28_ok:kj8 Try.prog K28 Try.f28=some F28:=by kernel_rfl
/- 47: syndrome/syndromeref.Copy -/
def c47:ACode:=(.seq (.region [.o 2 (.mv (.const (.slice none 0 0)))]) (.seq (.region [.o 3 (.mkSl 3 1 0 []), .m 4 0, .o 5 (.app 3 1 8 (.tmp 3) (.tmp 4)), .m 2 5]) .ret))
def F47:AFun:=⟨c47,1,6,[(.tmp 2)]⟩
def K47:Nat→List Nat×List Nat
 |_=>([],[])
theorem F47_ok:kj8 Try.prog K47 Try.f47=some F47:=by kernel_rfl
/- 68: syndrome/syndromeref.SameAll -/
def c68L0:ACode:=(.seq (.seq (.region [.m 11 5, .m 12 0, .o 13 (.n 12), .o 14 (.b .lss 11 13)]) (.cond (.tmp 14) .skip (.exit 0))) (.seq (.block 1 [0,1,5] (.seq (.region [.m 17 0, .m 18 5, .o 19 (.i 1 17 18), .o 20 (.l 19), .m 21 1, .m 22 5, .o 23 (.i 1 21 22), .o 24 (.l 23), .o 25 (.q 28 [20,24]), .o 26 (.un .not (.tmp 25))]) (.cond (.tmp 26) (.seq (.region [.o 4 (.mv (.const (.bool false)))]) .ret) .skip))) (.region [.m 15 5, .o 16 (.c .add 15 1), .m 5 16])))
def c68:ACode:=(.seq (.region [.o 4 (.mv (.const (.bool false)))]) (.seq (.seq (.region [.m 6 0, .o 7 (.n 6), .m 8 1, .o 9 (.n 8), .o 10 (.b .neq 7 9)]) (.cond (.tmp 10) (.seq (.region [.o 4 (.mv (.const (.bool false)))]) .ret) .skip)) (.seq (.seq (.region [.k 5 0]) (.block 0 [] (.loop [0,1,5] c68L0))) (.seq (.region [.o 4 (.mv (.const (.bool true)))]) .ret))))
def F68:AFun:=⟨c68,2,27,[(.tmp 4)]⟩
def K68:Nat→List Nat×List Nat
 |0=>([0,1,5],[])
 |1=>([],[0,1,5])
 |_=>([],[])
theorem F68_ok:kj8 Try.prog K68 Try.f68=some F68:=by kernel_rfl
/- 69: syndrome/golay.made -/
def c69:ACode:=(.seq (.region [.o 6 (.alloc 25 [(.int .i64 0),(.int .i64 0),(.slice none 0 0)])]) (.seq (.region [.m 10 0, .m 11 1, .m 12 2, .o 13 (.q 125 [10,11,12]), .m 9 13, .o 14 (.e 0 9), .o 15 (.e 1 9), .o 7 (.alloc 25 [(.int .i64 0),(.int .i64 0),(.slice none 0 0)]), .n (.st 3 (.tmp 7) (.tmp 14)), .m 8 15]) (.seq (.region [.o 17 (.ld true 3 (.tmp 7)), .o 18 (.q 126 [17]), .m 16 18, .o 19 (.e 0 16), .o 20 (.e 1 16), .n (.st 3 (.tmp 7) (.tmp 19))]) (.seq (.region [.o 21 (.ld true 3 (.tmp 7)), .n (.st 3 (.tmp 6) (.tmp 21))]) .ret))))
def F69:AFun:=⟨c69,3,22,[(.cell 6 true 3)]⟩
def K69:Nat→List Nat×List Nat
 |_=>([],[])
theorem F69_ok:kj8 Try.prog K69 Try.f69=some F69:=by kernel_rfl
/- 70: syndrome/syndromeref.Extended -/
def c70L0:ACode:=(.seq (.seq (.region [.m 22 8, .o 23 (.f 1 1), .o 24 (.l 23), .o 25 (.b .lss 22 24)]) (.cond (.tmp 25) .skip (.exit 2))) (.seq (.block 3 [1,2,3,5,6,7,8] (.region [.o 28 (.ld true 5 (.tmp 3)), .m 29 7, .o 30 (.f 2 1), .o 31 (.l 30), .m 32 6, .o 33 (.i 1 31 32), .o 34 (.l 33), .m 35 8, .o 36 (.i 1 34 35), .o 37 (.l 36), .o 38 (.q 127 [28,29,37]), .m 7 38])) (.region [.m 26 8, .o 27 (.c .add 26 1), .m 8 27])))
def c70L1:ACode:=(.seq (.seq (.region [.m 15 6, .o 16 (.f 2 1), .o 17 (.l 16), .o 18 (.n 17), .o 19 (.b .lss 15 18)]) (.cond (.tmp 19) .skip (.exit 0))) (.seq (.block 1 [1,2,3,5,6] (.seq (.region [.k 7 0]) (.seq (.seq (.region [.k 8 0]) (.block 2 [1,2,3,5,6,7] (.loop [1,2,3,5,6,7,8] c70L0))) (.region [.m 39 5, .o 40 (.f 2 1), .o 41 (.l 40), .m 42 6, .o 43 (.i 1 41 42), .o 44 (.l 43), .o 45 (.q 47 [44]), .m 46 7, .o 47 (.mkSl 3 1 1 [(.tmp 46)]), .o 48 (.app 3 1 8 (.tmp 45) (.tmp 47)), .o 49 (.mkSl 28 1 1 [(.tmp 48)]), .o 50 (.app 28 1 24 (.tmp 39) (.tmp 49)), .m 5 50])))) (.region [.m 20 6, .o 21 (.c .add 20 1), .m 6 21])))
def c70:ACode:=(.seq (.region [.o 1 (.box 25 3 (.tmp 0)), .o 2 (.alloc 25 [(.int .i64 0),(.int .i64 0),(.slice none 0 0)])]) (.seq (.region [.o 10 (.f 0 1), .o 11 (.l 10), .o 12 (.q 78 [11]), .m 9 12, .o 13 (.e 0 9), .o 14 (.e 1 9), .o 3 (.alloc 102 [(.int .i64 0),(.int .i64 0),(.int .i64 0),(.int .i64 0),(.slice none 0 0)]), .n (.st 5 (.tmp 3) (.tmp 13)), .m 4 14]) (.seq (.region [.o 5 (.mv (.const (.slice none 0 0)))]) (.seq (.seq (.region [.k 6 0]) (.block 0 [1,2,5] (.loop [1,2,3,5,6] c70L1))) (.seq (.region [.o 51 (.f 0 1), .o 52 (.l 51), .o 53 (.f 1 1), .o 54 (.l 53), .o 55 (.c .add 54 1), .m 56 5, .o 57 (.build [(.int .i64 0),(.int .i64 0),(.slice none 0 0)] [(0,1),(1,1),(2,1)] [(0,(.tmp 52)),(1,(.tmp 55)),(2,(.tmp 56))]), .o 58 (.q 72 [57]), .n (.st 3 (.tmp 2) (.tmp 58))]) .ret)))))
def F70:AFun:=⟨c70,1,59,[(.cell 2 true 3)]⟩
def K70:Nat→List Nat×List Nat
 |0=>([1,2,3,5,6],[1,2,5])
 |1=>([],[1,2,3,5,6])
 |2=>([1,2,3,5,6,7,8],[1,2,3,5,6,7])
 |3=>([],[1,2,3,5,6,7,8])
 |_=>([],[])
theorem F70_ok:kj8 Try.prog K70 Try.f70=some F70:=by kernel_rfl
/- 72: syndrome/syndromeref.Made -/
def c72:ACode:=(.seq (.region [.o 1 (.box 25 3 (.tmp 0)), .o 2 (.alloc 25 [(.int .i64 0),(.int .i64 0),(.slice none 0 0)])]) (.seq (.region [.o 8 (.f 0 1), .o 9 (.l 8), .o 10 (.q 78 [9]), .m 7 10, .o 11 (.e 0 7), .o 12 (.e 1 7), .o 3 (.alloc 102 [(.int .i64 0),(.int .i64 0),(.int .i64 0),(.int .i64 0),(.slice none 0 0)]), .n (.st 5 (.tmp 3) (.tmp 11)), .m 4 12]) (.seq (.region [.o 14 (.ld true 5 (.tmp 3)), .o 15 (.f 2 1), .o 16 (.l 15), .o 17 (.q 129 [14,16]), .m 13 17, .o 18 (.e 0 13), .o 19 (.e 1 13), .m 5 18, .m 6 19]) (.seq (.region [.o 20 (.f 0 1), .o 21 (.l 20), .o 22 (.f 1 1), .o 23 (.l 22), .m 24 5, .o 25 (.build [(.int .i64 0),(.int .i64 0),(.slice none 0 0)] [(0,1),(1,1),(2,1)] [(0,(.tmp 21)),(1,(.tmp 23)),(2,(.tmp 24))]), .n (.st 3 (.tmp 2) (.tmp 25))]) .ret))))
def F72:AFun:=⟨c72,1,26,[(.cell 2 true 3)]⟩
def K72:Nat→List Nat×List Nat
 |_=>([],[])
theorem F72_ok:kj8 Try.prog K72 Try.f72=some F72:=by kernel_rfl
/- 78: syndrome/syndromeref.Field -/
def c78L0:ACode:=(.seq (.seq (.region [.m 32 7, .m 33 0, .o 34 (.b .lss 32 33)]) (.cond (.tmp 34) .skip (.exit 0))) (.seq (.block 1 [0,2,4,5,6,7] (.seq (.region [.o 37 (.ld true 5 (.tmp 6)), .m 38 7, .o 39 (.q 135 [37,38])]) (.cond (.tmp 39) (.seq (.region [.m 40 7, .o 41 (.f 3 6), .n (.st 1 (.tmp 41) (.tmp 40))]) (.seq (.region [.o 42 (.ld true 5 (.tmp 6)), .n (.st 5 (.tmp 2) (.tmp 42)), .k 3 0]) .ret)) .skip))) (.region [.m 35 7, .o 36 (.c .add 35 1), .m 7 36])))
def c78L1:ACode:=(.seq (.seq (.region [.m 45 8, .m 46 0, .o 47 (.b .lss 45 46)]) (.cond (.tmp 47) .skip (.exit 2))) (.seq (.block 3 [0,2,4,5,6,8] (.seq (.region [.m 50 8, .m 51 4, .m 52 5, .o 53 (.q 136 [50,51,52]), .o 54 (.mkSl 3 1 1 [(.const (.int .i64 1))]), .o 55 (.app 3 1 8 (.tmp 53) (.tmp 54)), .o 56 (.f 4 6), .n (.st 1 (.tmp 56) (.tmp 55))]) (.seq (.region [.o 57 (.ld true 5 (.tmp 6)), .m 58 4, .o 59 (.q 135 [57,58])]) (.cond (.tmp 59) (.seq (.region [.o 60 (.ld true 5 (.tmp 6)), .n (.st 5 (.tmp 2) (.tmp 60)), .k 3 0]) .ret) .skip)))) (.region [.m 48 8, .o 49 (.c .add 48 1), .m 8 49])))
def c78:ACode:=(.seq (.region [.o 2 (.alloc 102 [(.int .i64 0),(.int .i64 0),(.int .i64 0),(.int .i64 0),(.slice none 0 0)]), .k 3 0]) (.seq (.seq (.region [.m 9 0, .o 10 (.c .lss 9 2), .m 11 10, .g 12 (.m 0) 11 false, .g 13 (.c .gtr 12 64) 11 false, .o 14 (.pick (.tmp 11) (.const (.bool true)) (.tmp 13))]) (.cond (.tmp 14) (.seq (.region [.o 15 (.build [(.int .i64 0),(.int .i64 0),(.int .i64 0),(.int .i64 0),(.slice none 0 0)] [(0,1),(1,1),(2,1),(3,1),(4,1)] []), .n (.st 5 (.tmp 2) (.tmp 15)), .k 3 1]) .ret) .skip)) (.seq (.region [.m 17 0, .o 18 (.q 134 [17]), .m 16 18, .o 19 (.e 0 16), .o 20 (.e 1 16), .m 4 19, .m 5 20]) (.seq (.seq (.region [.m 21 4, .o 22 (.c .eql 21 0)]) (.cond (.tmp 22) (.seq (.region [.o 23 (.build [(.int .i64 0),(.int .i64 0),(.int .i64 0),(.int .i64 0),(.slice none 0 0)] [(0,1),(1,1),(2,1),(3,1),(4,1)] []), .n (.st 5 (.tmp 2) (.tmp 23)), .k 3 1]) .ret) .skip)) (.seq (.region [.m 24 0, .m 25 4, .m 26 5, .o 27 (.build [(.int .i64 0),(.int .i64 0),(.int .i64 0),(.int .i64 0),(.slice none 0 0)] [(0,1),(1,1),(2,1),(3,1),(4,1)] [(0,(.tmp 24)),(1,(.tmp 25)),(2,(.tmp 26))]), .o 6 (.alloc 102 [(.int .i64 0),(.int .i64 0),(.int .i64 0),(.int .i64 0),(.slice none 0 0)]), .n (.st 5 (.tmp 6) (.tmp 27))]) (.seq (.seq (.region [.m 28 5, .o 29 (.c .eql 28 1)]) (.cond (.tmp 29) (.seq (.region [.o 30 (.mkSl 3 1 2 [(.const (.int .i64 0)),(.const (.int .i64 1))]), .o 31 (.f 4 6), .n (.st 1 (.tmp 31) (.tmp 30))]) (.seq (.region [.k 7 1]) (.block 0 [0,2,4,5,6] (.loop [0,2,4,5,6,7] c78L0)))) .skip)) (.seq (.region [.m 43 4, .o 44 (.f 3 6), .n (.st 1 (.tmp 44) (.tmp 43))]) (.seq (.seq (.region [.k 8 0]) (.block 2 [2] (.loop [0,2,4,5,6,8] c78L1))) (.seq (.region [.o 61 (.build [(.int .i64 0),(.int .i64 0),(.int .i64 0),(.int .i64 0),(.slice none 0 0)] [(0,1),(1,1),(2,1),(3,1),(4,1)] []), .n (.st 5 (.tmp 2) (.tmp 61)), .k 3 1]) .ret)))))))))
def F78:AFun:=⟨c78,1,62,[(.cell 2 true 5),(.tmp 3)]⟩
def K78:Nat→List Nat×List Nat
 |0=>([0,2,4,5,6,7],[0,2,4,5,6])
 |1=>([],[0,2,4,5,6,7])
 |2=>([0,2,4,5,6,8],[2])
 |3=>([],[0,2,4,5,6,8])
 |_=>([],[])
theorem F78_ok:kj8 Try.prog K78 Try.f78=some F78:=by kernel_rfl
/- 79: (syndrome/syndromeref.F).Has -/
def c79:ACode:=(.seq (.region [.o 2 (.box 102 5 (.tmp 0)), .o 4 (.mv (.const (.bool false)))]) (.seq (.region [.m 5 1, .o 6 (.c .geq 5 0), .m 7 6, .g 8 (.m 1) 7 true, .g 9 (.f 0 2) 7 true, .g 10 (.l 9) 7 true, .g 11 (.b .lss 8 10) 7 true, .o 12 (.pick (.tmp 7) (.tmp 11) (.const (.bool false))), .m 4 12]) .ret))
def F79:AFun:=⟨c79,2,13,[(.tmp 4)]⟩
def K79:Nat→List Nat×List Nat
 |_=>([],[])
theorem F79_ok:kj8 Try.prog K79 Try.f79=some F79:=by kernel_rfl
/- 92: slices.Clone[[]int,int] -/
def c92:ACode:=(.seq (.region [.o 2 (.mv (.const (.slice none 0 0)))]) (.seq (.seq (.region [.m 3 0, .o 4 (.eqn false 0 (.tmp 3))]) (.cond (.tmp 4) (.seq (.region [.o 2 (.mv (.const (.slice none 0 0)))]) .ret) .skip)) (.seq (.region [.o 5 (.mkSl 3 1 0 []), .m 6 0, .o 7 (.app 3 1 8 (.tmp 5) (.tmp 6)), .m 2 7]) .ret)))
def F92:AFun:=⟨c92,1,8,[(.tmp 2)]⟩
def K92:Nat→List Nat×List Nat
 |_=>([],[])
theorem F92_ok:kj8 Try.prog K92 Try.f92=some F92:=by kernel_rfl
/- 95: slices.ContainsFunc[[]int,int] -/
def c95:ACode:=(.seq (.region [.o 4 (.mv (.const (.bool false)))]) (.seq (.region [.m 5 0, .m 6 1, .o 7 (.q 141 [5,6]), .o 8 (.c .geq 7 0), .m 4 8]) .ret))
def F95:AFun:=⟨c95,2,9,[(.tmp 4)]⟩
def K95:Nat→List Nat×List Nat
 |_=>([],[])
theorem F95_ok:kj8 Try.prog K95 Try.f95=some F95:=by kernel_rfl
/- 115: syndrome/code.Make -/
def c115:ACode:=(.seq (.region [.o 1 (.box 25 3 (.tmp 0)), .o 2 (.alloc 25 [(.int .i64 0),(.int .i64 0),(.slice none 0 0)]), .k 3 0]) (.seq (.seq (.region [.o 8 (.ld true 3 (.tmp 1)), .o 9 (.q 148 [8]), .m 4 9]) (.seq (.region [.m 10 4, .o 11 (.c .neq 10 0)]) (.cond (.tmp 11) (.seq (.region [.o 12 (.build [(.int .i64 0),(.int .i64 0),(.slice none 0 0)] [(0,1),(1,1),(2,1)] []), .m 13 4, .n (.st 3 (.tmp 2) (.tmp 12)), .m 3 13]) .ret) .skip))) (.seq (.region [.o 15 (.f 0 1), .o 16 (.l 15), .o 17 (.f 2 1), .o 18 (.l 17), .o 19 (.q 118 [16,18]), .m 14 19, .o 20 (.e 0 14), .o 21 (.e 1 14), .o 22 (.e 2 14), .m 5 20, .m 6 21, .m 7 22]) (.seq (.region [.o 23 (.f 0 1), .o 24 (.l 23), .o 25 (.f 1 1), .o 26 (.l 25), .m 27 5, .o 28 (.build [(.int .i64 0),(.int .i64 0),(.slice none 0 0)] [(0,1),(1,1),(2,1)] [(0,(.tmp 24)),(1,(.tmp 26)),(2,(.tmp 27))]), .n (.st 3 (.tmp 2) (.tmp 28)), .k 3 0]) .ret))))
def F115:AFun:=⟨c115,1,29,[(.cell 2 true 3),(.tmp 3)]⟩
def K115:Nat→List Nat×List Nat
 |_=>([],[])
theorem F115_ok:kj8 Try.prog K115 Try.f115=some F115:=by kernel_rfl
/- 118: syndrome/matrix.Reduce -/
def c118L0:ACode:=(.seq (.region [.o 92 (.b .lss 91 90)]) (.seq (.cond (.tmp 92) .skip (.exit 2)) (.seq (.block 3 [1,5,8,10,11,90,91] (.seq (.region [.m 93 91, .m 13 93]) (.seq (.region [.m 94 13, .m 95 11, .o 96 (.b .neq 94 95), .m 97 96, .g 98 (.m 1) 97 true, .g 99 (.m 13) 97 true, .g 100 (.i 1 98 99) 97 true, .g 101 (.l 100) 97 true, .g 102 (.l 10) 97 true, .g 103 (.i 1 101 102) 97 true, .g 104 (.l 103) 97 true, .g 105 (.c .neq 104 0) 97 true, .o 106 (.pick (.tmp 97) (.tmp 105) (.const (.bool false)))]) (.cond (.tmp 106) (.region [.m 107 8, .m 108 1, .m 109 13, .o 110 (.i 1 108 109), .o 111 (.l 110), .m 112 1, .m 113 11, .o 114 (.i 1 112 113), .o 115 (.l 114), .m 116 1, .m 117 13, .o 118 (.i 1 116 117), .o 119 (.l 118), .o 120 (.l 10), .o 121 (.i 1 119 120), .o 122 (.l 121), .o 123 (.q 157 [107,111,115,122])]) .skip)))) (.region [.o 124 (.c .add 91 1), .m 91 124]))))
def c118L1:ACode:=(.seq (.seq (.region [.o 32 (.l 10), .m 33 1, .o 34 (.iaddr 1 (.tmp 33) (.const (.int .i64 0))), .o 35 (.l 34), .o 36 (.n 35), .o 37 (.b .lss 32 36), .m 38 37, .g 39 (.m 5) 38 true, .g 40 (.n 39) 38 true, .g 41 (.m 1) 38 true, .g 42 (.n 41) 38 true, .g 43 (.b .lss 40 42) 38 true, .o 44 (.pick (.tmp 38) (.tmp 43) (.const (.bool false)))]) (.cond (.tmp 44) .skip (.exit 0))) (.seq (.block 1 [1,5,8,10] (.seq (.region [.m 47 5, .o 48 (.n 47), .m 11 48]) (.seq (.region [.m 49 1, .m 50 11, .o 51 (.sl 1 (.tmp 49) (some (.tmp 50)) none), .o 52 (.mkf 154 [(.tmp 10)]), .o 53 (.q 153 [51,52]), .m 12 53]) (.seq (.seq (.region [.m 54 12, .o 55 (.c .lss 54 0)]) (.cond (.tmp 55) (.exit 1) .skip)) (.seq (.region [.m 56 1, .m 57 11, .m 58 1, .m 59 11, .m 60 12, .o 61 (.b .add 59 60), .m 62 1, .m 63 11, .m 64 12, .o 65 (.b .add 63 64), .o 66 (.i 1 62 65), .o 67 (.l 66), .m 68 1, .m 69 11, .o 70 (.i 1 68 69), .o 71 (.l 70), .o 72 (.i 1 56 57), .n (.st 1 (.tmp 72) (.tmp 67)), .o 73 (.i 1 58 61), .n (.st 1 (.tmp 73) (.tmp 71))]) (.seq (.region [.m 74 8, .m 75 1, .m 76 11, .o 77 (.i 1 75 76), .o 78 (.l 77), .m 79 8, .m 80 1, .m 81 11, .o 82 (.i 1 80 81), .o 83 (.l 82), .o 84 (.l 10), .o 85 (.i 1 83 84), .o 86 (.l 85),⟨(some 87),(.call 156 [(.tmp 79),(.tmp 86)]),none,true⟩, .o 88 (.q 155 [74,78,87])]) (.seq (.seq (.region [.m 89 1, .o 90 (.n 89), .k 91 0]) (.block 2 [1,5,8,10] (.loop [1,5,8,10,11,90,91] c118L0))) (.region [.m 125 5, .o 126 (.l 10), .o 127 (.mkSl 3 1 1 [(.tmp 126)]), .o 128 (.app 3 1 8 (.tmp 125) (.tmp 127)), .m 5 128])))))))) (.seq (.seq (.region [.o 129 (.l 10)]) (.region [.o 10 (.alloc 3 [(.int .i64 0)]), .n (.st 1 (.tmp 10) (.tmp 129))])) (.region [.o 45 (.l 10), .o 46 (.c .add 45 1), .n (.st 1 (.tmp 10) (.tmp 46))]))))
def c118:ACode:=(.seq (.region [.o 4 (.mv (.const (.slice none 0 0))), .o 5 (.mv (.const (.slice none 0 0))), .k 6 0]) (.seq (.seq (.region [.m 14 0, .m 15 1, .o 16 (.q 151 [14,15]), .m 7 16]) (.seq (.region [.m 17 7, .o 18 (.c .neq 17 0), .m 19 18, .g 20 (.m 1) 19 false, .g 21 (.n 20) 19 false, .g 22 (.c .eql 21 0) 19 false, .o 23 (.pick (.tmp 19) (.const (.bool true)) (.tmp 22))]) (.cond (.tmp 23) (.seq (.region [.m 24 7, .o 4 (.mv (.const (.slice none 0 0))), .o 5 (.mv (.const (.slice none 0 0))), .m 6 24]) .ret) .skip))) (.seq (.region [.m 26 0, .o 27 (.q 132 [26]), .m 25 27, .o 28 (.e 0 25), .o 29 (.e 1 25), .m 8 28, .m 9 29]) (.seq (.region [.m 30 1, .o 31 (.q 152 [30]), .m 1 31]) (.seq (.seq (.region [.o 10 (.alloc 3 [(.int .i64 0)]), .n (.st 1 (.tmp 10) (.const (.int .i64 0)))]) (.block 0 [1,5] (.loop [1,5,8,10] c118L1))) (.seq (.region [.m 130 1, .m 131 5, .o 132 (.n 131), .m 133 5, .o 134 (.n 133), .o 135 (.sl3 (.tmp 130) (.tmp 132) (.tmp 134)), .m 136 5, .m 4 135, .m 5 136, .k 6 0]) .ret))))))
def F118:AFun:=⟨c118,2,137,[(.tmp 4),(.tmp 5),(.tmp 6)]⟩
def K118:Nat→List Nat×List Nat
 |0=>([1,5,8,10],[1,5])
 |1=>([],[1,5,8,10])
 |2=>([1,5,8,10,11,90,91],[1,5,8,10])
 |3=>([],[1,5,8,10,11,90,91])
 |_=>([],[])
theorem F118_ok:kj8 Try.prog K118 Try.f118=some F118:=by kernel_rfl
/- 125: syndrome/cyclic.Of -/
def c125L0:ACode:=(.seq (.seq (.region [.m 72 16, .m 73 2, .o 74 (.n 73), .o 75 (.b .add 72 74), .m 76 1, .o 77 (.b .leq 75 76)]) (.cond (.tmp 77) .skip (.exit 0))) (.seq (.block 1 [1,2,6,15,16] (.seq (.region [.m 80 1, .o 81 (.mks 3 1 8 [(.int .i64 0)] (.tmp 80) (.tmp 80)), .m 17 81]) (.seq (.region [.m 82 17, .m 83 16, .o 84 (.sl 1 (.tmp 82) (some (.tmp 83)) none), .m 85 2, .o 86 (.cpy 1 (.tmp 84) (.tmp 85))]) (.region [.o 87 (.f 2 15), .o 88 (.l 87), .m 89 17, .o 90 (.mkSl 28 1 1 [(.tmp 89)]), .o 91 (.app 28 1 24 (.tmp 88) (.tmp 90)), .o 92 (.f 2 15), .n (.st 1 (.tmp 92) (.tmp 91))])))) (.region [.m 78 16, .o 79 (.c .add 78 1), .m 16 79])))
def c125:ACode:=(.seq (.region [.o 6 (.alloc 25 [(.int .i64 0),(.int .i64 0),(.slice none 0 0)]), .k 7 0]) (.seq (.seq (.region [.m 18 0, .m 19 2, .o 20 (.q 160 [18,19]), .m 8 20]) (.seq (.region [.m 21 8, .o 22 (.c .neq 21 0)]) (.cond (.tmp 22) (.seq (.region [.o 23 (.build [(.int .i64 0),(.int .i64 0),(.slice none 0 0)] [(0,1),(1,1),(2,1)] []), .m 24 8, .n (.st 3 (.tmp 6) (.tmp 23)), .m 7 24]) .ret) .skip))) (.seq (.seq (.region [.m 25 1, .o 26 (.c .lss 25 1), .m 27 26, .g 28 (.m 1) 27 false, .g 29 (.c .gtr 28 64) 27 false, .o 30 (.pick (.tmp 27) (.const (.bool true)) (.tmp 29))]) (.cond (.tmp 30) (.seq (.region [.o 31 (.build [(.int .i64 0),(.int .i64 0),(.slice none 0 0)] [(0,1),(1,1),(2,1)] []), .n (.st 3 (.tmp 6) (.tmp 31)), .k 7 4]) .ret) .skip)) (.seq (.region [.m 33 0, .o 34 (.q 132 [33]), .m 32 34, .o 35 (.e 0 32), .o 36 (.e 1 32), .m 9 35, .m 10 36]) (.seq (.region [.m 37 1, .o 38 (.c .add 37 1), .o 39 (.mks 3 1 8 [(.int .i64 0)] (.tmp 38) (.tmp 38)), .m 11 39]) (.seq (.region [.m 40 11, .m 41 11, .m 42 1, .m 43 9, .o 44 (.call 150 [(.tmp 43),(.const (.int .i64 1))]), .o 45 (.iaddr 1 (.tmp 40) (.const (.int .i64 0))), .n (.st 1 (.tmp 45) (.tmp 44)), .o 46 (.i 1 41 42), .n (.st 1 (.tmp 46) (.const (.int .i64 1)))]) (.seq (.region [.m 48 0, .m 49 11, .m 50 2, .o 51 (.q 161 [48,49,50]), .m 47 51, .o 52 (.e 0 47), .o 53 (.e 1 47), .o 54 (.e 2 47), .m 12 52, .m 13 53, .m 14 54]) (.seq (.seq (.region [.m 55 14, .o 56 (.c .neq 55 0)]) (.cond (.tmp 56) (.seq (.region [.o 57 (.build [(.int .i64 0),(.int .i64 0),(.slice none 0 0)] [(0,1),(1,1),(2,1)] []), .m 58 14, .n (.st 3 (.tmp 6) (.tmp 57)), .m 7 58]) .ret) .skip)) (.seq (.seq (.region [.m 59 13, .o 60 (.n 59), .o 61 (.c .gtr 60 0)]) (.cond (.tmp 61) (.seq (.region [.o 62 (.build [(.int .i64 0),(.int .i64 0),(.slice none 0 0)] [(0,1),(1,1),(2,1)] []), .n (.st 3 (.tmp 6) (.tmp 62)), .k 7 3]) .ret) .skip)) (.seq (.region [.m 64 0, .m 65 2, .o 66 (.call 162 [(.tmp 64),(.tmp 65),(.const (.slice none 0 0))]), .m 63 66, .o 67 (.e 0 63), .o 68 (.e 1 63), .m 2 67]) (.seq (.region [.m 69 0, .m 70 1, .o 71 (.build [(.int .i64 0),(.int .i64 0),(.slice none 0 0)] [(0,1),(1,1),(2,1)] [(0,(.tmp 69)),(1,(.tmp 70))]), .o 15 (.alloc 25 [(.int .i64 0),(.int .i64 0),(.slice none 0 0)]), .n (.st 3 (.tmp 15) (.tmp 71))]) (.seq (.seq (.region [.k 16 0]) (.block 0 [6,15] (.loop [1,2,6,15,16] c125L0))) (.seq (.region [.o 93 (.ld true 3 (.tmp 15)), .o 94 (.q 115 [93]), .o 95 (.e 0 94), .o 96 (.e 1 94), .n (.st 3 (.tmp 6) (.tmp 95)), .m 7 96]) .ret)))))))))))))
def F125:AFun:=⟨c125,3,97,[(.cell 6 true 3),(.tmp 7)]⟩
def K125:Nat→List Nat×List Nat
 |0=>([1,2,6,15,16],[6,15])
 |1=>([],[1,2,6,15,16])
 |_=>([],[])
theorem F125_ok:kj8 Try.prog K125 Try.f125=some F125:=by kernel_rfl
/- 126: syndrome/code.Extend -/
def c126:ACode:=(.seq (.region [.o 1 (.box 25 3 (.tmp 0)), .o 2 (.alloc 25 [(.int .i64 0),(.int .i64 0),(.slice none 0 0)]), .k 3 0]) (.seq (.seq (.region [.o 7 (.ld true 3 (.tmp 1)), .o 8 (.q 148 [7]), .m 4 8]) (.seq (.region [.m 9 4, .o 10 (.c .neq 9 0)]) (.cond (.tmp 10) (.seq (.region [.o 11 (.build [(.int .i64 0),(.int .i64 0),(.slice none 0 0)] [(0,1),(1,1),(2,1)] []), .m 12 4, .n (.st 3 (.tmp 2) (.tmp 11)), .m 3 12]) .ret) .skip))) (.seq (.seq (.region [.o 13 (.f 1 1), .o 14 (.l 13), .o 15 (.c .eql 14 64)]) (.cond (.tmp 15) (.seq (.region [.o 16 (.build [(.int .i64 0),(.int .i64 0),(.slice none 0 0)] [(0,1),(1,1),(2,1)] []), .n (.st 3 (.tmp 2) (.tmp 16)), .k 3 4]) .ret) .skip)) (.seq (.region [.o 18 (.f 0 1), .o 19 (.l 18), .o 20 (.q 132 [19]), .m 17 20, .o 21 (.e 0 17), .o 22 (.e 1 17), .o 5 (.alloc 141 [(.pointer none)]), .n (.st 1 (.tmp 5) (.tmp 21)), .m 6 22]) (.seq (.region [.o 23 (.ld true 3 (.tmp 1)), .o 24 (.f 1 1), .o 25 (.l 24), .o 26 (.c .add 25 1), .o 27 (.mkf 164 [(.tmp 5)]), .o 28 (.q 163 [23,26,27]), .o 29 (.e 0 28), .o 30 (.e 1 28), .n (.st 3 (.tmp 2) (.tmp 29)), .m 3 30]) .ret)))))
def F126:AFun:=⟨c126,1,31,[(.cell 2 true 3),(.tmp 3)]⟩
def K126:Nat→List Nat×List Nat
 |_=>([],[])
theorem F126_ok:kj8 Try.prog K126 Try.f126=some F126:=by kernel_rfl
/- 127: (syndrome/syndromeref.F).Sub -/
def c127:ACode:=(.seq (.region [.o 3 (.box 102 5 (.tmp 0)), .k 6 0]) (.seq (.region [.o 8 (.ld true 5 (.tmp 3)), .m 9 2, .o 10 (.q 166 [8,9]), .m 7 10]) (.seq (.region [.o 11 (.ld true 5 (.tmp 3)), .m 12 1, .m 13 7, .o 14 (.q 167 [11,12,13]), .m 6 14]) .ret)))
def F127:AFun:=⟨c127,3,15,[(.tmp 6)]⟩
def K127:Nat→List Nat×List Nat
 |_=>([],[])
theorem F127_ok:kj8 Try.prog K127 Try.f127=some F127:=by kernel_rfl
/- 129: (syndrome/syndromeref.F).Reduce -/
def c129L0:ACode:=(.seq (.seq (.region [.m 27 10, .m 28 6, .o 29 (.n 28), .o 30 (.b .lss 27 29)]) (.cond (.tmp 30) .skip (.exit 2))) (.seq (.block 3 [1,2,6,7,8,9,10] (.region [.o 33 (.ld true 5 (.tmp 2)), .m 34 9, .m 35 6, .m 36 10, .o 37 (.i 1 35 36), .o 38 (.l 37), .m 39 9, .m 40 7, .m 41 10, .o 42 (.i 1 40 41), .o 43 (.l 42), .o 44 (.i 1 39 43), .o 45 (.l 44), .o 46 (.q 168 [33,34,38,45]), .m 9 46])) (.region [.m 31 10, .o 32 (.c .add 31 1), .m 10 32])))
def c129L1:ACode:=(.seq (.seq (.region [.m 47 11, .m 48 9, .o 49 (.n 48), .o 50 (.b .lss 47 49), .m 51 50, .g 52 (.m 9) 51 true, .g 53 (.m 11) 51 true, .g 54 (.i 1 52 53) 51 true, .g 55 (.l 54) 51 true, .g 56 (.c .eql 55 0) 51 true, .o 57 (.pick (.tmp 51) (.tmp 56) (.const (.bool false)))]) (.cond (.tmp 57) .skip (.exit 4))) (.block 5 [1,2,6,7,8,9,11] (.region [.m 58 11, .o 59 (.c .add 58 1), .m 11 59])))
def c129L2:ACode:=(.seq (.seq (.region [.m 70 13, .m 71 9, .o 72 (.n 71), .o 73 (.b .lss 70 72)]) (.cond (.tmp 73) .skip (.exit 6))) (.seq (.block 7 [1,2,6,7,8,9,11,12,13] (.region [.m 76 9, .m 77 13, .o 78 (.ld true 5 (.tmp 2)), .m 79 9, .m 80 13, .o 81 (.i 1 79 80), .o 82 (.l 81), .m 83 12, .o 84 (.q 170 [78,82,83]), .o 85 (.i 1 76 77), .n (.st 1 (.tmp 85) (.tmp 84))])) (.region [.m 74 13, .o 75 (.c .add 74 1), .m 13 75])))
def c129L3:ACode:=(.seq (.seq (.region [.m 86 14, .m 87 6, .o 88 (.n 87), .o 89 (.b .lss 86 88)]) (.cond (.tmp 89) .skip (.exit 8))) (.seq (.block 9 [1,2,6,7,8,9,11,14] (.region [.m 92 6, .m 93 14, .o 94 (.ld true 5 (.tmp 2)), .m 95 6, .m 96 14, .o 97 (.i 1 95 96), .o 98 (.l 97), .m 99 9, .m 100 6, .m 101 14, .o 102 (.i 1 100 101), .o 103 (.l 102), .m 104 11, .o 105 (.i 1 103 104), .o 106 (.l 105), .o 107 (.q 168 [94,98,99,106]), .o 108 (.i 1 92 93), .n (.st 1 (.tmp 108) (.tmp 107))])) (.region [.m 90 14, .o 91 (.c .add 90 1), .m 14 91])))
def c129L4:ACode:=(.seq (.seq (.region [.m 109 15, .m 110 6, .o 111 (.n 110), .o 112 (.b .lss 109 111), .m 113 112, .g 114 (.m 7) 113 true, .g 115 (.m 15) 113 true, .g 116 (.i 1 114 115) 113 true, .g 117 (.l 116) 113 true, .g 118 (.m 11) 113 true, .g 119 (.b .lss 117 118) 113 true, .o 120 (.pick (.tmp 113) (.tmp 119) (.const (.bool false)))]) (.cond (.tmp 120) .skip (.exit 10))) (.block 11 [1,2,6,7,8,9,11,15] (.region [.m 121 15, .o 122 (.c .add 121 1), .m 15 122])))
def c129L5:ACode:=(.seq (.seq (.region [.m 16 8, .m 17 1, .o 18 (.n 17), .o 19 (.b .lss 16 18)]) (.cond (.tmp 19) .skip (.exit 0))) (.seq (.block 1 [1,2,6,7,8] (.seq (.region [.m 22 1, .m 23 8, .o 24 (.i 1 22 23), .o 25 (.l 24), .o 26 (.q 47 [25]), .m 9 26]) (.seq (.seq (.region [.k 10 0]) (.block 2 [1,2,6,7,8,9] (.loop [1,2,6,7,8,9,10] c129L0))) (.seq (.region [.k 11 0]) (.seq (.block 4 [1,2,6,7,8,9,11] (.loop [1,2,6,7,8,9,11] c129L1)) (.seq (.seq (.region [.m 60 11, .m 61 9, .o 62 (.n 61), .o 63 (.b .eql 60 62)]) (.cond (.tmp 63) (.exit 1) .skip)) (.seq (.region [.o 64 (.ld true 5 (.tmp 2)), .m 65 9, .m 66 11, .o 67 (.i 1 65 66), .o 68 (.l 67), .o 69 (.q 169 [64,68]), .m 12 69]) (.seq (.seq (.region [.k 13 0]) (.block 6 [1,2,6,7,8,9,11] (.loop [1,2,6,7,8,9,11,12,13] c129L2))) (.seq (.seq (.region [.k 14 0]) (.block 8 [1,2,6,7,8,9,11] (.loop [1,2,6,7,8,9,11,14] c129L3))) (.seq (.region [.k 15 0]) (.seq (.block 10 [1,2,6,7,8,9,11,15] (.loop [1,2,6,7,8,9,11,15] c129L4)) (.seq (.region [.o 123 (.mkSl 28 1 0 []), .m 124 6, .m 125 15, .o 126 (.sl 1 (.tmp 124) none (some (.tmp 125))), .o 127 (.app 28 1 24 (.tmp 123) (.tmp 126)), .m 128 9, .o 129 (.mkSl 28 1 1 [(.tmp 128)]), .o 130 (.app 28 1 24 (.tmp 127) (.tmp 129)), .m 131 6, .m 132 15, .o 133 (.sl 1 (.tmp 131) (some (.tmp 132)) none), .o 134 (.app 28 1 24 (.tmp 130) (.tmp 133)), .m 6 134]) (.region [.o 135 (.mkSl 3 1 0 []), .m 136 7, .m 137 15, .o 138 (.sl 1 (.tmp 136) none (some (.tmp 137))), .o 139 (.app 3 1 8 (.tmp 135) (.tmp 138)), .m 140 11, .o 141 (.mkSl 3 1 1 [(.tmp 140)]), .o 142 (.app 3 1 8 (.tmp 139) (.tmp 141)), .m 143 7, .m 144 15, .o 145 (.sl 1 (.tmp 143) (some (.tmp 144)) none), .o 146 (.app 3 1 8 (.tmp 142) (.tmp 145)), .m 7 146]))))))))))))) (.region [.m 20 8, .o 21 (.c .add 20 1), .m 8 21])))
def c129:ACode:=(.seq (.region [.o 2 (.box 102 5 (.tmp 0)), .o 4 (.mv (.const (.slice none 0 0))), .o 5 (.mv (.const (.slice none 0 0)))]) (.seq (.region [.o 6 (.mv (.const (.slice none 0 0)))]) (.seq (.region [.o 7 (.mv (.const (.slice none 0 0)))]) (.seq (.seq (.region [.k 8 0]) (.block 0 [6,7] (.loop [1,2,6,7,8] c129L5))) (.seq (.region [.m 147 6, .m 148 7, .m 4 147, .m 5 148]) .ret)))))
def F129:AFun:=⟨c129,2,149,[(.tmp 4),(.tmp 5)]⟩
def K129:Nat→List Nat×List Nat
 |0=>([1,2,6,7,8],[6,7])
 |1=>([],[1,2,6,7,8])
 |2=>([1,2,6,7,8,9,10],[1,2,6,7,8,9])
 |3=>([],[1,2,6,7,8,9,10])
 |4=>([1,2,6,7,8,9,11],[1,2,6,7,8,9,11])
 |5=>([],[1,2,6,7,8,9,11])
 |6=>([1,2,6,7,8,9,11,12,13],[1,2,6,7,8,9,11])
 |7=>([],[1,2,6,7,8,9,11,12,13])
 |8=>([1,2,6,7,8,9,11,14],[1,2,6,7,8,9,11])
 |9=>([],[1,2,6,7,8,9,11,14])
 |10=>([1,2,6,7,8,9,11,15],[1,2,6,7,8,9,11,15])
 |11=>([],[1,2,6,7,8,9,11,15])
 |_=>([],[])
theorem F129_ok:kj8 Try.prog K129 Try.f129=some F129:=by kernel_rfl
/- 132: syndrome/field.New -/
def j14:List Value:=[(.int .u32 0),(.int .i32 0),(.int .u32 0),(.int .u32 0),(.int .i32 0),(.int .u32 0),(.int .u32 0),(.int .i32 0),(.int .u32 0),(.int .u32 0),(.int .i32 0),(.int .u32 0),(.int .u32 0),(.int .i32 0),(.int .u32 0),(.int .u32 0),(.int .i32 0),(.int .u32 0),(.int .u32 0),(.int .i32 0),(.int .u32 0),(.int .u32 0),(.int .i32 0),(.int .u32 0),(.int .u32 0),(.int .i32 0),(.int .u32 0),(.int .u32 0),(.int .i32 0),(.int .u32 0),(.int .u32 0),(.int .i32 0),(.int .u32 0),(.int .u32 0),(.int .i32 0),(.int .u32 0),(.int .u32 0),(.int .i32 0),(.int .u32 0),(.int .u32 0),(.int .i32 0),(.int .u32 0),(.int .u32 0),(.int .i32 0),(.int .u32 0),(.int .u32 0),(.int .i32 0),(.int .u32 0),(.int .u32 0),(.int .i32 0),(.int .u32 0),(.int .u32 0),(.int .i32 0),(.int .u32 0),(.int .u32 0),(.int .i32 0),(.int .u32 0),(.int .u32 0),(.int .i32 0),(.int .u32 0),(.int .u32 0),(.int .i32 0),(.int .u32 0),(.int .u32 0),(.int .i32 0),(.int .u32 0),(.int .u32 0),(.int .i32 0),(.int .u32 0),(.int .u32 0),(.int .i32 0),(.int .u32 0),(.int .u32 0),(.int .i32 0),(.int .u32 0),(.int .u32 0),(.int .i32 0),(.int .u32 0),(.int .u32 0),(.int .i32 0),(.int .u32 0),(.int .u32 0),(.int .i32 0),(.int .u32 0),(.int .u32 0),(.int .i32 0),(.int .u32 0),(.int .u32 0),(.int .i32 0),(.int .u32 0),(.int .u32 0),(.int .i32 0),(.int .u32 0),(.int .u32 0),(.int .i32 0),(.int .u32 0),(.int .u32 0),(.int .i32 0),(.int .u32 0),(.int .u32 0),(.int .i32 0),(.int .u32 0),(.int .u32 0),(.int .i32 0),(.int .u32 0),(.int .u32 0),(.int .i32 0),(.int .u32 0),(.int .u32 0),(.int .i32 0),(.int .u32 0),(.int .u32 0),(.int .i32 0),(.int .u32 0),(.int .u32 0),(.int .i32 0),(.int .u32 0),(.int .u32 0),(.int .i32 0),(.int .u32 0),(.int .u32 0),(.int .i32 0),(.int .u32 0),(.int .u32 0),(.int .i32 0),(.int .u32 0),(.int .u32 0),(.int .i32 0),(.int .u32 0),(.int .u32 0),(.int .i32 0),(.int .u32 0),(.int .u32 0),(.int .i32 0),(.int .u32 0),(.int .u32 0),(.int .i32 0),(.int .u32 0),(.int .u32 0),(.int .i32 0),(.int .u32 0),(.int .u32 0),(.int .i32 0),(.int .u32 0),(.int .u32 0),(.int .i32 0),(.int .u32 0),(.int .u32 0),(.int .i32 0),(.int .u32 0),(.int .u32 0),(.int .i32 0),(.int .u32 0),(.int .u32 0),(.int .i32 0),(.int .u32 0),(.int .u32 0),(.int .i32 0),(.int .u32 0),(.int .u32 0),(.int .i32 0),(.int .u32 0),(.int .u32 0),(.int .i32 0),(.int .u32 0),(.int .u32 0),(.int .i32 0),(.int .u32 0),(.int .u32 0),(.int .i32 0),(.int .u32 0),(.int .u32 0),(.int .i32 0),(.int .u32 0),(.int .u32 0),(.int .i32 0),(.int .u32 0),(.int .u32 0),(.int .i32 0),(.int .u32 0),(.int .u32 0),(.int .i32 0),(.int .u32 0),(.int .u32 0),(.int .i32 0),(.int .u32 0),(.int .u32 0),(.int .i32 0),(.int .u32 0),(.int .u32 0),(.int .i32 0),(.int .u32 0),(.int .u32 0),(.int .i32 0),(.int .u32 0),(.pointer none),(.pointer none),(.pointer none),(.pointer none),(.pointer none),(.pointer none),(.pointer none),(.pointer none),(.pointer none),(.pointer none),(.pointer none),(.pointer none),(.pointer none),(.pointer none),(.pointer none),(.pointer none),(.pointer none),(.pointer none),(.pointer none),(.pointer none),(.pointer none),(.pointer none),(.pointer none),(.pointer none),(.pointer none),(.pointer none),(.pointer none),(.pointer none),(.pointer none),(.pointer none),(.pointer none),(.pointer none),(.pointer none),(.pointer none),(.pointer none),(.pointer none),(.pointer none),(.pointer none),(.pointer none),(.pointer none),(.pointer none),(.pointer none),(.pointer none),(.pointer none),(.pointer none),(.pointer none),(.pointer none),(.pointer none),(.pointer none),(.pointer none),(.pointer none),(.pointer none),(.pointer none),(.pointer none),(.pointer none),(.pointer none),(.pointer none),(.pointer none),(.pointer none),(.pointer none),(.pointer none),(.pointer none),(.pointer none),(.pointer none),(.pointer none)]
def c132:ACode:=(.seq (.region [.o 1 (.box 3 1 (.tmp 0)), .o 2 (.mv (.const (.pointer none))), .k 3 0]) (.seq (.seq (.region [.o 5 (.l 1), .o 6 (.c .lss 5 2), .m 7 6, .g 8 (.l 1) 7 false, .g 9 (.c .gtr 8 64) 7 false, .o 10 (.pick (.tmp 7) (.const (.bool true)) (.tmp 9))]) (.cond (.tmp 10) (.seq (.region [.o 2 (.mv (.const (.pointer none))), .k 3 1]) .ret) .skip)) (.seq (.region [.o 4 (.alloc 183 j14)]) (.seq (.region [.o 11 (.l 1), .o 12 (.f 0 4), .o 13 (.iaddrA 65 3 (.tmp 12) (.tmp 11)), .o 14 (.mkf 172 [(.tmp 1),(.tmp 4)]), .o 15 (.q 171 [13,14])]) (.seq (.seq (.region [.o 16 (.l 1), .o 17 (.f 195 4), .o 18 (.iaddrA 65 1 (.tmp 17) (.tmp 16)), .o 19 (.l 18), .o 20 (.eqn false 1 (.tmp 19))]) (.cond (.tmp 20) (.seq (.region [.o 2 (.mv (.const (.pointer none))), .k 3 1]) .ret) .skip)) (.seq (.region [.o 21 (.l 1), .o 22 (.f 195 4), .o 23 (.iaddrA 65 1 (.tmp 22) (.tmp 21)), .o 24 (.l 23), .m 2 24, .k 3 0]) .ret))))))
def F132:AFun:=⟨c132,1,25,[(.tmp 2),(.tmp 3)]⟩
def K132:Nat→List Nat×List Nat
 |_=>([],[])
theorem F132_ok:kj8 Try.prog K132 Try.f132=some F132:=by kernel_rfl
/- 134: syndrome/syndromeref.Prime -/
def c134L0:ACode:=(.seq (.seq (.region [.m 15 0, .m 16 4, .o 17 (.b .rem 15 16), .o 18 (.c .eql 17 0)]) (.cond (.tmp 18) .skip (.exit 2))) (.block 3 [0,4,5] (.seq (.region [.m 19 0, .m 20 4, .o 21 (.b .quo 19 20), .m 0 21]) (.region [.m 22 5, .o 23 (.c .add 22 1), .m 5 23]))))
def c134L1:ACode:=(.seq (.seq (.region [.m 6 4, .m 7 0, .o 8 (.b .leq 6 7)]) (.cond (.tmp 8) .skip (.exit 0))) (.seq (.block 1 [0,4] (.seq (.seq (.region [.m 11 0, .m 12 4, .o 13 (.b .rem 11 12), .o 14 (.c .neq 13 0)]) (.cond (.tmp 14) (.exit 1) .skip)) (.seq (.region [.k 5 0]) (.seq (.block 2 [0,4,5] (.loop [0,4,5] c134L0)) (.seq (.seq (.region [.m 24 0, .o 25 (.c .eql 24 1)]) (.cond (.tmp 25) (.seq (.region [.m 26 4, .m 27 5, .m 2 26, .m 3 27]) .ret) .skip)) (.seq (.region [.k 2 0, .k 3 0]) .ret)))))) (.region [.m 9 4, .o 10 (.c .add 9 1), .m 4 10])))
def c134:ACode:=(.seq (.region [.k 2 0, .k 3 0]) (.seq (.seq (.region [.k 4 2]) (.block 0 [] (.loop [0,4] c134L1))) (.seq (.region [.k 2 0, .k 3 0]) .ret)))
def F134:AFun:=⟨c134,1,28,[(.tmp 2),(.tmp 3)]⟩
def K134:Nat→List Nat×List Nat
 |0=>([0,4],[])
 |1=>([],[0,4])
 |2=>([0,4,5],[0,4,5])
 |3=>([],[0,4,5])
 |_=>([],[])
theorem F134_ok:kj8 Try.prog K134 Try.f134=some F134:=by kernel_rfl
/- 135: syndrome/syndromeref.full -/
def c135L0:ACode:=(.seq (.seq (.region [.m 11 7, .o 12 (.f 0 2), .o 13 (.l 12), .o 14 (.c .sub 13 1), .o 15 (.b .lss 11 14)]) (.cond (.tmp 15) .skip (.exit 0))) (.seq (.block 1 [1,2,5,6,7] (.seq (.seq (.region [.m 18 6, .o 19 (.c .eql 18 0), .m 20 19, .g 21 (.m 5) 20 false, .g 22 (.m 6) 20 false, .g 23 (.i 1 21 22) 20 false, .g 24 (.l 23) 20 false, .o 25 (.pick (.tmp 20) (.const (.bool true)) (.tmp 24))]) (.cond (.tmp 25) (.seq (.region [.o 4 (.mv (.const (.bool false)))]) .ret) .skip)) (.seq (.region [.m 26 5, .m 27 6, .o 28 (.i 1 26 27), .n (.st 1 (.tmp 28) (.const (.bool true)))]) (.region [.o 29 (.ld true 5 (.tmp 2)), .m 30 6, .m 31 1, .o 32 (.q 170 [29,30,31]), .m 6 32])))) (.region [.m 16 7, .o 17 (.c .add 16 1), .m 7 17])))
def c135:ACode:=(.seq (.region [.o 2 (.box 102 5 (.tmp 0)), .o 4 (.mv (.const (.bool false)))]) (.seq (.region [.o 8 (.f 0 2), .o 9 (.l 8), .o 10 (.mks 4 1 1 [(.bool false)] (.tmp 9) (.tmp 9)), .m 5 10]) (.seq (.region [.k 6 1]) (.seq (.seq (.region [.k 7 0]) (.block 0 [] (.loop [1,2,5,6,7] c135L0))) (.seq (.region [.o 4 (.mv (.const (.bool true)))]) .ret)))))
def F135:AFun:=⟨c135,2,33,[(.tmp 4)]⟩
def K135:Nat→List Nat×List Nat
 |0=>([1,2,5,6,7],[])
 |1=>([],[1,2,5,6,7])
 |_=>([],[])
theorem F135_ok:kj8 Try.prog K135 Try.f135=some F135:=by kernel_rfl
/- 136: syndrome/syndromeref.Digits -/
def c136L0:ACode:=(.seq (.seq (.region [.m 9 8, .m 10 2, .o 11 (.b .lss 9 10)]) (.cond (.tmp 11) .skip (.exit 0))) (.seq (.block 1 [0,1,2,7,8] (.seq (.region [.m 14 7, .m 15 0, .m 16 1, .o 17 (.b .rem 15 16), .o 18 (.mkSl 3 1 1 [(.tmp 17)]), .o 19 (.app 3 1 8 (.tmp 14) (.tmp 18)), .m 7 19]) (.region [.m 20 0, .m 21 1, .o 22 (.b .quo 20 21), .m 0 22]))) (.region [.m 12 8, .o 13 (.c .add 12 1), .m 8 13])))
def c136:ACode:=(.seq (.region [.o 6 (.mv (.const (.slice none 0 0)))]) (.seq (.region [.o 7 (.mv (.const (.slice none 0 0)))]) (.seq (.seq (.region [.k 8 0]) (.block 0 [7] (.loop [0,1,2,7,8] c136L0))) (.seq (.region [.m 23 7, .m 6 23]) .ret))))
def F136:AFun:=⟨c136,3,24,[(.tmp 6)]⟩
def K136:Nat→List Nat×List Nat
 |0=>([0,1,2,7,8],[7])
 |1=>([],[0,1,2,7,8])
 |_=>([],[])
theorem F136_ok:kj8 Try.prog K136 Try.f136=some F136:=by kernel_rfl
/- 138: (*syndrome/field.Field).Has -/
def c138:ACode:=(.seq (.region [.o 4 (.mv (.const (.bool false)))]) (.seq (.region [.m 5 1, .o 6 (.c .geq 5 0), .m 7 6, .g 8 (.m 1) 7 true, .g 9 (.m 0) 7 true, .g 10 (.nilck (.tmp 9)) 7 true, .g 11 (.f 0 10) 7 true, .g 12 (.l 11) 7 true, .g 13 (.b .lss 8 12) 7 true, .o 14 (.pick (.tmp 7) (.tmp 13) (.const (.bool false))), .m 4 14]) .ret))
def F138:AFun:=⟨c138,2,15,[(.tmp 4)]⟩
def K138:Nat→List Nat×List Nat
 |_=>([],[])
theorem F138_ok:kj8 Try.prog K138 Try.f138=some F138:=by kernel_rfl
/- 141: slices.IndexFunc[[]int,int] -/
def c141L0:ACode:=(.seq (.region [.o 9 (.b .lss 8 7)]) (.seq (.cond (.tmp 9) .skip (.exit 0)) (.seq (.block 1 [0,1,7,8] (.seq (.region [.m 10 8, .m 5 10]) (.seq (.region [.m 11 1, .m 12 0, .m 13 5, .o 14 (.i 1 12 13), .o 15 (.l 14), .o 16 (.calld (.tmp 11) [(.tmp 15)])]) (.cond (.tmp 16) (.seq (.region [.m 17 5, .m 4 17]) .ret) .skip)))) (.region [.o 18 (.c .add 8 1), .m 8 18]))))
def c141:ACode:=(.seq (.region [.k 4 0]) (.seq (.seq (.region [.m 6 0, .o 7 (.n 6), .k 8 0]) (.block 0 [] (.loop [0,1,7,8] c141L0))) (.seq (.region [.k 4 (-1)]) .ret)))
def F141:AFun:=⟨c141,2,19,[(.tmp 4)]⟩
def K141:Nat→List Nat×List Nat
 |0=>([0,1,7,8],[])
 |1=>([],[0,1,7,8])
 |_=>([],[])
theorem F141_ok:kj8 Try.prog K141 Try.f141=some F141:=by kernel_rfl
/- 148: syndrome/code.Check -/
def c148:ACode:=(.seq (.region [.o 1 (.box 25 3 (.tmp 0)), .k 2 0]) (.seq (.seq (.region [.o 7 (.f 0 1), .o 8 (.l 7), .o 9 (.q 132 [8]), .m 6 9, .o 10 (.e 0 6), .o 11 (.e 1 6), .m 3 10, .m 4 11]) (.seq (.region [.m 12 4, .o 13 (.c .neq 12 0)]) (.cond (.tmp 13) (.seq (.region [.m 14 4, .m 2 14]) .ret) .skip))) (.seq (.seq (.region [.o 15 (.f 1 1), .o 16 (.l 15), .o 17 (.c .lss 16 1), .m 18 17, .g 19 (.f 1 1) 18 false, .g 20 (.l 19) 18 false, .g 21 (.c .gtr 20 64) 18 false, .o 22 (.pick (.tmp 18) (.const (.bool true)) (.tmp 21))]) (.cond (.tmp 22) (.seq (.region [.k 2 4]) .ret) .skip)) (.seq (.seq (.region [.o 23 (.f 0 1), .o 24 (.l 23), .o 25 (.f 2 1), .o 26 (.l 25), .o 27 (.q 151 [24,26]), .m 5 27]) (.seq (.region [.m 28 5, .o 29 (.c .neq 28 0)]) (.cond (.tmp 29) (.seq (.region [.m 30 5, .m 2 30]) .ret) .skip))) (.seq (.seq (.region [.o 31 (.f 2 1), .o 32 (.l 31), .o 33 (.n 32), .o 34 (.c .gtr 33 0), .m 35 34, .g 36 (.f 2 1) 35 true, .g 37 (.l 36) 35 true, .g 38 (.iaddr 1 (.tmp 37) (.const (.int .i64 0))) 35 true, .g 39 (.l 38) 35 true, .g 40 (.n 39) 35 true, .g 41 (.f 1 1) 35 true, .g 42 (.l 41) 35 true, .g 43 (.b .neq 40 42) 35 true, .o 44 (.pick (.tmp 35) (.tmp 43) (.const (.bool false)))]) (.cond (.tmp 44) (.seq (.region [.k 2 3]) .ret) .skip)) (.seq (.region [.k 2 0]) .ret))))))
def F148:AFun:=⟨c148,1,45,[(.tmp 2)]⟩
def K148:Nat→List Nat×List Nat
 |_=>([],[])
theorem F148_ok:kj8 Try.prog K148 Try.f148=some F148:=by kernel_rfl
/- 150: (*syndrome/field.Field).Neg -/
def c150L0:ACode:=(.seq (.region [.o 16 (.b .lss 15 14)]) (.seq (.cond (.tmp 16) .skip (.exit 0)) (.seq (.block 1 [0,1,5,6,14,15] (.seq (.region [.m 17 5, .m 18 0, .o 19 (.nilck (.tmp 18)), .o 20 (.f 1 19), .o 21 (.l 20), .m 22 1, .m 23 0, .o 24 (.nilck (.tmp 23)), .o 25 (.f 1 24), .o 26 (.l 25), .o 27 (.b .rem 22 26), .o 28 (.b .sub 21 27), .m 29 0, .o 30 (.nilck (.tmp 29)), .o 31 (.f 1 30), .o 32 (.l 31), .o 33 (.b .rem 28 32), .m 34 6, .o 35 (.b .mul 33 34), .o 36 (.b .add 17 35), .m 5 36]) (.region [.m 37 1, .m 38 0, .o 39 (.nilck (.tmp 38)), .o 40 (.f 1 39), .o 41 (.l 40), .o 42 (.b .quo 37 41), .m 43 6, .m 44 0, .o 45 (.nilck (.tmp 44)), .o 46 (.f 1 45), .o 47 (.l 46), .o 48 (.b .mul 43 47), .m 1 42, .m 6 48]))) (.region [.o 49 (.c .add 15 1), .m 15 49]))))
def c150:ACode:=(.seq (.region [.k 4 0]) (.seq (.seq (.region [.m 7 0, .m 8 1, .o 9 (.q 138 [7,8]), .o 10 (.un .not (.tmp 9))]) (.cond (.tmp 10) (.seq (.region [.k 4 (-1)]) .ret) .skip)) (.seq (.region [.k 5 0, .k 6 1]) (.seq (.seq (.region [.m 11 0, .o 12 (.nilck (.tmp 11)), .o 13 (.f 2 12), .o 14 (.l 13), .k 15 0]) (.block 0 [5] (.loop [0,1,5,6,14,15] c150L0))) (.seq (.region [.m 50 5, .m 4 50]) .ret)))))
def F150:AFun:=⟨c150,2,51,[(.tmp 4)]⟩
def K150:Nat→List Nat×List Nat
 |0=>([0,1,5,6,14,15],[5])
 |1=>([],[0,1,5,6,14,15])
 |_=>([],[])
theorem F150_ok:kj8 Try.prog K150 Try.f150=some F150:=by kernel_rfl
/- 151: syndrome/matrix.Check -/
def c151L0:ACode:=(.seq (.region [.o 23 (.b .lss 22 21)]) (.seq (.cond (.tmp 23) .skip (.exit 0)) (.seq (.block 1 [1,5,20,21,22] (.seq (.region [.o 24 (.i 1 20 22), .o 25 (.l 24), .m 8 25]) (.seq (.seq (.region [.m 26 8, .o 27 (.n 26), .m 28 1, .o 29 (.iaddr 1 (.tmp 28) (.const (.int .i64 0))), .o 30 (.l 29), .o 31 (.n 30), .o 32 (.b .neq 27 31), .m 33 32, .g 34 (.m 8) 33 false, .g 35 (.n 34) 33 false, .g 36 (.c .eql 35 0) 33 false, .o 37 (.pick (.tmp 33) (.const (.bool true)) (.tmp 36))]) (.cond (.tmp 37) (.seq (.region [.k 4 3]) .ret) .skip)) (.seq (.seq (.region [.m 38 8, .o 39 (.n 38), .o 40 (.c .gtr 39 64)]) (.cond (.tmp 40) (.seq (.region [.k 4 4]) .ret) .skip)) (.seq (.region [.m 41 8, .o 42 (.mkf 201 [(.tmp 5)]), .o 43 (.q 95 [41,42])]) (.cond (.tmp 43) (.seq (.region [.k 4 2]) .ret) .skip)))))) (.region [.o 44 (.c .add 22 1), .m 22 44]))))
def c151:ACode:=(.seq (.region [.k 4 0]) (.seq (.region [.m 10 0, .o 11 (.q 132 [10]), .m 9 11, .o 12 (.e 0 9), .o 13 (.e 1 9), .o 5 (.alloc 141 [(.pointer none)]), .n (.st 1 (.tmp 5) (.tmp 12)), .m 6 13]) (.seq (.seq (.region [.m 14 6, .o 15 (.c .neq 14 0)]) (.cond (.tmp 15) (.seq (.region [.m 16 6, .m 4 16]) .ret) .skip)) (.seq (.seq (.region [.m 17 1, .o 18 (.n 17), .o 19 (.c .gtr 18 64)]) (.cond (.tmp 19) (.seq (.region [.k 4 4]) .ret) .skip)) (.seq (.seq (.region [.m 20 1, .o 21 (.n 20), .k 22 0]) (.block 0 [] (.loop [1,5,20,21,22] c151L0))) (.seq (.region [.k 4 0]) .ret))))))
def F151:AFun:=⟨c151,2,45,[(.tmp 4)]⟩
def K151:Nat→List Nat×List Nat
 |0=>([1,5,20,21,22],[])
 |1=>([],[1,5,20,21,22])
 |_=>([],[])
theorem F151_ok:kj8 Try.prog K151 Try.f151=some F151:=by kernel_rfl
/- 152: syndrome/matrix.clone -/
def c152L0:ACode:=(.seq (.region [.o 12 (.b .lss 11 10)]) (.seq (.cond (.tmp 12) .skip (.exit 0)) (.seq (.block 1 [3,9,10,11] (.seq (.region [.m 13 11, .o 14 (.i 1 9 11), .o 15 (.l 14), .m 4 13, .m 5 15]) (.region [.m 16 3, .m 17 4, .m 18 5, .o 19 (.q 92 [18]), .o 20 (.i 1 16 17), .n (.st 1 (.tmp 20) (.tmp 19))]))) (.region [.o 21 (.c .add 11 1), .m 11 21]))))
def c152:ACode:=(.seq (.region [.o 2 (.mv (.const (.slice none 0 0)))]) (.seq (.region [.m 6 0, .o 7 (.n 6), .o 8 (.mks 28 1 24 [(.slice none 0 0)] (.tmp 7) (.tmp 7)), .m 3 8]) (.seq (.seq (.region [.m 9 0, .o 10 (.n 9), .k 11 0]) (.block 0 [3] (.loop [3,9,10,11] c152L0))) (.seq (.region [.m 22 3, .m 2 22]) .ret))))
def F152:AFun:=⟨c152,1,23,[(.tmp 2)]⟩
def K152:Nat→List Nat×List Nat
 |0=>([3,9,10,11],[3])
 |1=>([],[3,9,10,11])
 |_=>([],[])
theorem F152_ok:kj8 Try.prog K152 Try.f152=some F152:=by kernel_rfl
/- 153: slices.IndexFunc[[][]int,[]int] -/
def c153L0:ACode:=(.seq (.region [.o 9 (.b .lss 8 7)]) (.seq (.cond (.tmp 9) .skip (.exit 0)) (.seq (.block 1 [0,1,7,8] (.seq (.region [.m 10 8, .m 5 10]) (.seq (.region [.m 11 1, .m 12 0, .m 13 5, .o 14 (.i 1 12 13), .o 15 (.l 14), .o 16 (.calld (.tmp 11) [(.tmp 15)])]) (.cond (.tmp 16) (.seq (.region [.m 17 5, .m 4 17]) .ret) .skip)))) (.region [.o 18 (.c .add 8 1), .m 8 18]))))
def c153:ACode:=(.seq (.region [.k 4 0]) (.seq (.seq (.region [.m 6 0, .o 7 (.n 6), .k 8 0]) (.block 0 [] (.loop [0,1,7,8] c153L0))) (.seq (.region [.k 4 (-1)]) .ret)))
def F153:AFun:=⟨c153,2,19,[(.tmp 4)]⟩
def K153:Nat→List Nat×List Nat
 |0=>([0,1,7,8],[])
 |1=>([],[0,1,7,8])
 |_=>([],[])
theorem F153_ok:kj8 Try.prog K153 Try.f153=some F153:=by kernel_rfl
/- 154: syndrome/matrix.Reduce$1 -/
def c154:ACode:=(.seq (.region [.o 3 (.mv (.const (.bool false)))]) (.seq (.region [.m 4 0, .o 5 (.l 1), .o 6 (.i 1 4 5), .o 7 (.l 6), .o 8 (.c .neq 7 0), .m 3 8]) .ret))
def F154:AFun:=⟨c154,2,9,[(.tmp 3)]⟩
def K154:Nat→List Nat×List Nat
 |_=>([],[])
theorem F154_ok:kj8 Try.prog K154 Try.f154=some F154:=by kernel_rfl
/- 155: syndrome/matrix.scale -/
def c155L0:ACode:=(.seq (.region [.o 10 (.b .lss 9 8)]) (.seq (.cond (.tmp 10) .skip (.exit 0)) (.seq (.block 1 [0,1,2,8,9] (.seq (.region [.m 11 9, .m 6 11]) (.region [.m 12 1, .m 13 6, .m 14 0, .m 15 1, .m 16 6, .o 17 (.i 1 15 16), .o 18 (.l 17), .m 19 2, .o 20 (.q 175 [14,18,19]), .o 21 (.i 1 12 13), .n (.st 1 (.tmp 21) (.tmp 20))]))) (.region [.o 22 (.c .add 9 1), .m 9 22]))))
def c155:ACode:=(.seq (.region [.m 7 1, .o 8 (.n 7), .k 9 0]) (.block 0 [] (.loop [0,1,2,8,9] c155L0)))
def F155:AFun:=⟨c155,3,23,[]⟩
def K155:Nat→List Nat×List Nat
 |0=>([0,1,2,8,9],[])
 |1=>([],[0,1,2,8,9])
 |_=>([],[])
theorem F155_ok:kj8 Try.prog K155 Try.f155=some F155:=by kernel_rfl
/- 156: (*syndrome/field.Field).Inv -/
def c156:ACode:=(.seq (.region [.k 4 0]) (.seq (.seq (.region [.m 5 0, .m 6 1, .o 7 (.q 138 [5,6]), .o 8 (.un .not (.tmp 7)), .m 9 8, .g 10 (.m 1) 9 false, .g 11 (.c .eql 10 0) 9 false, .o 12 (.pick (.tmp 9) (.const (.bool true)) (.tmp 11))]) (.cond (.tmp 12) (.seq (.region [.k 4 (-1)]) .ret) .skip)) (.seq (.region [.m 13 0, .o 14 (.nilck (.tmp 13)), .o 15 (.f 5 14), .o 16 (.l 15), .m 17 0, .o 18 (.nilck (.tmp 17)), .o 19 (.f 0 18), .o 20 (.l 19), .o 21 (.c .sub 20 1), .m 22 0, .o 23 (.nilck (.tmp 22)), .o 24 (.f 6 23), .o 25 (.l 24), .m 26 1, .o 27 (.i 1 25 26), .o 28 (.l 27), .o 29 (.b .sub 21 28), .m 30 0, .o 31 (.nilck (.tmp 30)), .o 32 (.f 0 31), .o 33 (.l 32), .o 34 (.c .sub 33 1), .o 35 (.b .rem 29 34), .o 36 (.i 1 16 35), .o 37 (.l 36), .m 4 37]) .ret)))
def F156:AFun:=⟨c156,2,38,[(.tmp 4)]⟩
def K156:Nat→List Nat×List Nat
 |_=>([],[])
theorem F156_ok:kj8 Try.prog K156 Try.f156=some F156:=by kernel_rfl
/- 157: syndrome/matrix.less -/
def c157L0:ACode:=(.seq (.region [.o 12 (.b .lss 11 10)]) (.seq (.cond (.tmp 12) .skip (.exit 0)) (.seq (.block 1 [0,1,2,3,10,11] (.seq (.region [.m 13 11, .m 8 13]) (.region [.m 14 1, .m 15 8, .m 16 0, .m 17 1, .m 18 8, .o 19 (.i 1 17 18), .o 20 (.l 19), .m 21 0, .m 22 3, .m 23 2, .m 24 8, .o 25 (.i 1 23 24), .o 26 (.l 25),⟨(some 27),(.call 175 [(.tmp 21),(.tmp 22),(.tmp 26)]),none,true⟩, .o 28 (.q 165 [16,20,27]), .o 29 (.i 1 14 15), .n (.st 1 (.tmp 29) (.tmp 28))]))) (.region [.o 30 (.c .add 11 1), .m 11 30]))))
def c157:ACode:=(.seq (.region [.m 9 1, .o 10 (.n 9), .k 11 0]) (.block 0 [] (.loop [0,1,2,3,10,11] c157L0)))
def F157:AFun:=⟨c157,4,31,[]⟩
def K157:Nat→List Nat×List Nat
 |0=>([0,1,2,3,10,11],[])
 |1=>([],[0,1,2,3,10,11])
 |_=>([],[])
theorem F157_ok:kj8 Try.prog K157 Try.f157=some F157:=by kernel_rfl
/- 160: syndrome/poly.Check -/
def c160L0:ACode:=(.seq (.region [.o 23 (.b .lss 22 21)]) (.seq (.cond (.tmp 23) .skip (.exit 0)) (.seq (.block 1 [5,20,21,22] (.seq (.region [.o 24 (.i 1 20 22), .o 25 (.l 24), .m 8 25]) (.seq (.region [.m 26 5, .m 27 8, .o 28 (.q 138 [26,27]), .o 29 (.un .not (.tmp 28))]) (.cond (.tmp 29) (.seq (.region [.k 4 2]) .ret) .skip)))) (.region [.o 30 (.c .add 22 1), .m 22 30]))))
def c160:ACode:=(.seq (.region [.k 4 0]) (.seq (.region [.m 10 0, .o 11 (.q 132 [10]), .m 9 11, .o 12 (.e 0 9), .o 13 (.e 1 9), .m 5 12, .m 6 13]) (.seq (.seq (.region [.m 14 6, .o 15 (.c .neq 14 0)]) (.cond (.tmp 15) (.seq (.region [.m 16 6, .m 4 16]) .ret) .skip)) (.seq (.seq (.region [.m 17 1, .o 18 (.n 17), .o 19 (.c .gtr 18 128)]) (.cond (.tmp 19) (.seq (.region [.k 4 4]) .ret) .skip)) (.seq (.seq (.region [.m 20 1, .o 21 (.n 20), .k 22 0]) (.block 0 [] (.loop [5,20,21,22] c160L0))) (.seq (.region [.k 4 0]) .ret))))))
def F160:AFun:=⟨c160,2,31,[(.tmp 4)]⟩
def K160:Nat→List Nat×List Nat
 |0=>([5,20,21,22],[])
 |1=>([],[5,20,21,22])
 |_=>([],[])
theorem F160_ok:kj8 Try.prog K160 Try.f160=some F160:=by kernel_rfl
/- 161: syndrome/poly.Div -/
def c161:ACode:=(.seq (.region [.o 6 (.mv (.const (.slice none 0 0))), .o 7 (.mv (.const (.slice none 0 0))), .k 8 0]) (.seq (.region [.m 11 0, .m 12 1, .m 13 2, .o 14 (.q 202 [11,12,13]), .m 10 14, .o 15 (.e 0 10), .o 16 (.e 1 10), .o 17 (.e 2 10), .o 18 (.e 3 10), .m 9 15, .m 1 16, .m 2 17, .m 8 18]) (.seq (.seq (.region [.m 19 8, .o 20 (.c .neq 19 0)]) (.cond (.tmp 20) (.seq (.region [.m 21 8, .o 6 (.mv (.const (.slice none 0 0))), .o 7 (.mv (.const (.slice none 0 0))), .m 8 21]) .ret) .skip)) (.seq (.seq (.region [.m 22 2, .o 23 (.n 22), .o 24 (.c .eql 23 0)]) (.cond (.tmp 24) (.seq (.region [.o 6 (.mv (.const (.slice none 0 0))), .o 7 (.mv (.const (.slice none 0 0))), .k 8 5]) .ret) .skip)) (.seq (.region [.m 26 9, .m 27 1, .m 28 2, .o 29 (.q 203 [26,27,28]), .m 25 29, .o 30 (.e 0 25), .o 31 (.e 1 25), .m 6 30, .m 7 31]) (.seq (.region [.m 32 6, .m 33 7, .m 6 32, .m 7 33, .k 8 0]) .ret))))))
def F161:AFun:=⟨c161,3,34,[(.tmp 6),(.tmp 7),(.tmp 8)]⟩
def K161:Nat→List Nat×List Nat
 |_=>([],[])
theorem F161_ok:kj8 Try.prog K161 Try.f161=some F161:=by kernel_rfl
/- 162: syndrome/poly.Add -/
def c162L0:ACode:=(.seq (.region [.o 34 (.b .lss 33 32)]) (.seq (.cond (.tmp 34) .skip (.exit 0)) (.seq (.block 1 [1,8,31,32,33] (.seq (.region [.m 35 33, .o 36 (.i 1 31 33), .o 37 (.l 36), .m 10 35, .m 11 37]) (.region [.m 38 1, .m 39 10, .m 40 8, .m 41 1, .m 42 10, .o 43 (.i 1 41 42), .o 44 (.l 43), .m 45 11, .o 46 (.q 174 [40,44,45]), .o 47 (.i 1 38 39), .n (.st 1 (.tmp 47) (.tmp 46))]))) (.region [.o 48 (.c .add 33 1), .m 33 48]))))
def c162:ACode:=(.seq (.region [.o 6 (.mv (.const (.slice none 0 0))), .k 7 0]) (.seq (.region [.m 13 0, .m 14 1, .m 15 2, .o 16 (.q 202 [13,14,15]), .m 12 16, .o 17 (.e 0 12), .o 18 (.e 1 12), .o 19 (.e 2 12), .o 20 (.e 3 12), .m 8 17, .m 1 18, .m 2 19, .m 9 20]) (.seq (.seq (.region [.m 21 9, .o 22 (.c .neq 21 0)]) (.cond (.tmp 22) (.seq (.region [.m 23 9, .o 6 (.mv (.const (.slice none 0 0))), .m 7 23]) .ret) .skip)) (.seq (.seq (.region [.m 24 1, .o 25 (.n 24), .m 26 2, .o 27 (.n 26), .o 28 (.b .lss 25 27)]) (.cond (.tmp 28) (.region [.m 29 2, .m 30 1, .m 1 29, .m 2 30]) .skip)) (.seq (.seq (.region [.m 31 2, .o 32 (.n 31), .k 33 0]) (.block 0 [1] (.loop [1,8,31,32,33] c162L0))) (.seq (.region [.m 49 1, .o 50 (.q 204 [49]), .m 6 50, .k 7 0]) .ret))))))
def F162:AFun:=⟨c162,3,51,[(.tmp 6),(.tmp 7)]⟩
def K162:Nat→List Nat×List Nat
 |0=>([1,8,31,32,33],[1])
 |1=>([],[1,8,31,32,33])
 |_=>([],[])
theorem F162_ok:kj8 Try.prog K162 Try.f162=some F162:=by kernel_rfl
/- 163: syndrome/code.columns -/
def c163L0:ACode:=(.seq (.region [.o 19 (.b .lss 18 17)]) (.seq (.cond (.tmp 19) .skip (.exit 0)) (.seq (.block 1 [2,6,8,16,17,18] (.seq (.region [.o 20 (.i 1 16 18), .o 21 (.l 20), .m 10 21]) (.region [.o 22 (.f 2 8), .o 23 (.l 22), .m 24 2, .m 25 10,⟨(some 26),(.calld (.tmp 24) [(.tmp 25)]),none,true⟩, .o 27 (.mkSl 28 1 1 [(.tmp 26)]), .o 28 (.app 28 1 24 (.tmp 23) (.tmp 27)), .o 29 (.f 2 8), .n (.st 1 (.tmp 29) (.tmp 28))]))) (.region [.o 30 (.c .add 18 1), .m 18 30]))))
def c163:ACode:=(.seq (.region [.o 3 (.box 25 3 (.tmp 0)), .o 6 (.alloc 25 [(.int .i64 0),(.int .i64 0),(.slice none 0 0)]), .k 7 0]) (.seq (.region [.o 11 (.f 0 3), .o 12 (.l 11), .m 13 1, .o 14 (.build [(.int .i64 0),(.int .i64 0),(.slice none 0 0)] [(0,1),(1,1),(2,1)] [(0,(.tmp 12)),(1,(.tmp 13))]), .o 8 (.alloc 25 [(.int .i64 0),(.int .i64 0),(.slice none 0 0)]), .n (.st 3 (.tmp 8) (.tmp 14))]) (.seq (.seq (.region [.o 15 (.f 2 3), .o 16 (.l 15), .o 17 (.n 16), .k 18 0]) (.block 0 [6,8] (.loop [2,6,8,16,17,18] c163L0))) (.seq (.region [.o 31 (.ld true 3 (.tmp 8)), .o 32 (.q 115 [31]), .o 33 (.e 0 32), .o 34 (.e 1 32), .n (.st 3 (.tmp 6) (.tmp 33)), .m 7 34]) .ret))))
def F163:AFun:=⟨c163,3,35,[(.cell 6 true 3),(.tmp 7)]⟩
def K163:Nat→List Nat×List Nat
 |0=>([2,6,8,16,17,18],[6,8])
 |1=>([],[2,6,8,16,17,18])
 |_=>([],[])
theorem F163_ok:kj8 Try.prog K163 Try.f163=some F163:=by kernel_rfl
/- 164: syndrome/code.Extend$1 -/
def c164L0:ACode:=(.seq (.region [.o 10 (.b .lss 9 8)]) (.seq (.cond (.tmp 10) .skip (.exit 0)) (.seq (.block 1 [0,1,4,7,8,9] (.seq (.region [.o 11 (.i 1 7 9), .o 12 (.l 11), .m 6 12]) (.region [.o 13 (.l 1), .m 14 4, .m 15 6, .o 16 (.q 165 [13,14,15]), .m 4 16]))) (.region [.o 17 (.c .add 9 1), .m 9 17]))))
def c164:ACode:=(.seq (.region [.o 3 (.mv (.const (.slice none 0 0)))]) (.seq (.region [.k 4 0]) (.seq (.seq (.region [.m 7 0, .o 8 (.n 7), .k 9 0]) (.block 0 [0,4] (.loop [0,1,4,7,8,9] c164L0))) (.seq (.region [.m 18 0, .o 19 (.q 92 [18]), .m 20 4, .o 21 (.mkSl 3 1 1 [(.tmp 20)]), .o 22 (.app 3 1 8 (.tmp 19) (.tmp 21)), .m 3 22]) .ret))))
def F164:AFun:=⟨c164,2,23,[(.tmp 3)]⟩
def K164:Nat→List Nat×List Nat
 |0=>([0,1,4,7,8,9],[0,4])
 |1=>([],[0,1,4,7,8,9])
 |_=>([],[])
theorem F164_ok:kj8 Try.prog K164 Try.f164=some F164:=by kernel_rfl
/- 165: (*syndrome/field.Field).Sub -/
def c165:ACode:=(.seq (.region [.k 6 0]) (.seq (.region [.m 7 0, .m 8 1, .m 9 0, .m 10 2, .o 11 (.q 150 [9,10]), .o 12 (.q 174 [7,8,11]), .m 6 12]) .ret))
def F165:AFun:=⟨c165,3,13,[(.tmp 6)]⟩
def K165:Nat→List Nat×List Nat
 |_=>([],[])
theorem F165_ok:kj8 Try.prog K165 Try.f165=some F165:=by kernel_rfl
/- 166: (syndrome/syndromeref.F).Neg -/
def c166L0:ACode:=(.seq (.seq (.region [.m 17 6, .o 18 (.f 2 2), .o 19 (.l 18), .o 20 (.b .lss 17 19)]) (.cond (.tmp 20) .skip (.exit 0))) (.seq (.block 1 [2,5,6] (.region [.m 23 5, .m 24 6, .o 25 (.f 1 2), .o 26 (.l 25), .m 27 5, .m 28 6, .o 29 (.i 1 27 28), .o 30 (.l 29), .o 31 (.b .sub 26 30), .o 32 (.f 1 2), .o 33 (.l 32), .o 34 (.b .rem 31 33), .o 35 (.i 1 23 24), .n (.st 1 (.tmp 35) (.tmp 34))])) (.region [.m 21 6, .o 22 (.c .add 21 1), .m 6 22])))
def c166:ACode:=(.seq (.region [.o 2 (.box 102 5 (.tmp 0)), .k 4 0]) (.seq (.seq (.region [.o 7 (.ld true 5 (.tmp 2)), .m 8 1, .o 9 (.q 79 [7,8]), .o 10 (.un .not (.tmp 9))]) (.cond (.tmp 10) (.seq (.region [.k 4 (-1)]) .ret) .skip)) (.seq (.region [.m 11 1, .o 12 (.f 1 2), .o 13 (.l 12), .o 14 (.f 2 2), .o 15 (.l 14), .o 16 (.q 136 [11,13,15]), .m 5 16]) (.seq (.seq (.region [.k 6 0]) (.block 0 [2,5] (.loop [2,5,6] c166L0))) (.seq (.region [.m 36 5, .o 37 (.f 1 2), .o 38 (.l 37), .o 39 (.q 205 [36,38]), .m 4 39]) .ret)))))
def F166:AFun:=⟨c166,2,40,[(.tmp 4)]⟩
def K166:Nat→List Nat×List Nat
 |0=>([2,5,6],[2,5])
 |1=>([],[2,5,6])
 |_=>([],[])
theorem F166_ok:kj8 Try.prog K166 Try.f166=some F166:=by kernel_rfl
/- 167: (syndrome/syndromeref.F).Add -/
def c167L0:ACode:=(.seq (.seq (.region [.m 47 9, .o 48 (.f 2 3), .o 49 (.l 48), .o 50 (.b .lss 47 49)]) (.cond (.tmp 50) .skip (.exit 0))) (.seq (.block 1 [3,7,8,9] (.region [.m 53 7, .m 54 9, .m 55 7, .m 56 9, .o 57 (.i 1 55 56), .o 58 (.l 57), .m 59 8, .m 60 9, .o 61 (.i 1 59 60), .o 62 (.l 61), .o 63 (.b .add 58 62), .o 64 (.f 1 3), .o 65 (.l 64), .o 66 (.b .rem 63 65), .o 67 (.i 1 53 54), .n (.st 1 (.tmp 67) (.tmp 66))])) (.region [.m 51 9, .o 52 (.c .add 51 1), .m 9 52])))
def c167:ACode:=(.seq (.region [.o 3 (.box 102 5 (.tmp 0)), .k 6 0]) (.seq (.seq (.region [.o 10 (.ld true 5 (.tmp 3)), .m 11 1, .o 12 (.q 79 [10,11]), .o 13 (.un .not (.tmp 12)), .m 14 13, .g 15 (.ld true 5 (.tmp 3)) 14 false, .g 16 (.m 2) 14 false, .g 17 (.q 79 [15,16]) 14 false, .g 18 (.un .not (.tmp 17)) 14 false, .o 19 (.pick (.tmp 14) (.const (.bool true)) (.tmp 18))]) (.cond (.tmp 19) (.seq (.region [.k 6 (-1)]) .ret) .skip)) (.seq (.seq (.region [.o 20 (.f 2 3), .o 21 (.l 20), .o 22 (.c .eql 21 1)]) (.cond (.tmp 22) (.seq (.region [.m 23 1, .m 24 2, .o 25 (.b .add 23 24), .o 26 (.f 1 3), .o 27 (.l 26), .o 28 (.b .rem 25 27), .m 6 28]) .ret) .skip)) (.seq (.seq (.region [.o 29 (.f 1 3), .o 30 (.l 29), .o 31 (.c .eql 30 2)]) (.cond (.tmp 31) (.seq (.region [.m 32 1, .m 33 2, .o 34 (.b .xor 32 33), .m 6 34]) .ret) .skip)) (.seq (.region [.m 35 1, .o 36 (.f 1 3), .o 37 (.l 36), .o 38 (.f 2 3), .o 39 (.l 38), .o 40 (.q 136 [35,37,39]), .m 7 40]) (.seq (.region [.m 41 2, .o 42 (.f 1 3), .o 43 (.l 42), .o 44 (.f 2 3), .o 45 (.l 44), .o 46 (.q 136 [41,43,45]), .m 8 46]) (.seq (.seq (.region [.k 9 0]) (.block 0 [3,7] (.loop [3,7,8,9] c167L0))) (.seq (.region [.m 68 7, .o 69 (.f 1 3), .o 70 (.l 69), .o 71 (.q 205 [68,70]), .m 6 71]) .ret))))))))
def F167:AFun:=⟨c167,3,72,[(.tmp 6)]⟩
def K167:Nat→List Nat×List Nat
 |0=>([3,7,8,9],[3,7])
 |1=>([],[3,7,8,9])
 |_=>([],[])
theorem F167_ok:kj8 Try.prog K167 Try.f167=some F167:=by kernel_rfl
/- 168: (syndrome/syndromeref.F).less -/
def c168L0:ACode:=(.seq (.seq (.region [.m 12 10, .m 13 1, .o 14 (.n 13), .o 15 (.b .lss 12 14)]) (.cond (.tmp 15) .skip (.exit 0))) (.seq (.block 1 [1,2,3,4,9,10] (.seq (.region [.m 18 1, .m 19 10, .o 20 (.i 1 18 19), .o 21 (.l 20), .m 11 21]) (.seq (.seq (.region [.m 22 3, .o 23 (.c .neq 22 0), .m 24 23, .g 25 (.m 2) 24 true, .g 26 (.m 10) 24 true, .g 27 (.i 1 25 26) 24 true, .g 28 (.l 27) 24 true, .g 29 (.c .neq 28 0) 24 true, .o 30 (.pick (.tmp 24) (.tmp 29) (.const (.bool false)))]) (.cond (.tmp 30) (.region [.o 31 (.ld true 5 (.tmp 4)), .m 32 11, .o 33 (.ld true 5 (.tmp 4)), .m 34 3, .m 35 2, .m 36 10, .o 37 (.i 1 35 36), .o 38 (.l 37),⟨(some 39),(.call 170 [(.tmp 33),(.tmp 34),(.tmp 38)]),none,true⟩, .o 40 (.q 127 [31,32,39]), .m 11 40]) .skip)) (.region [.m 41 9, .m 42 11, .o 43 (.mkSl 3 1 1 [(.tmp 42)]), .o 44 (.app 3 1 8 (.tmp 41) (.tmp 43)), .m 9 44])))) (.region [.m 16 10, .o 17 (.c .add 16 1), .m 10 17])))
def c168:ACode:=(.seq (.region [.o 4 (.box 102 5 (.tmp 0)), .o 8 (.mv (.const (.slice none 0 0)))]) (.seq (.region [.o 9 (.mv (.const (.slice none 0 0)))]) (.seq (.seq (.region [.k 10 0]) (.block 0 [9] (.loop [1,2,3,4,9,10] c168L0))) (.seq (.region [.m 45 9, .m 8 45]) .ret))))
def F168:AFun:=⟨c168,4,46,[(.tmp 8)]⟩
def K168:Nat→List Nat×List Nat
 |0=>([1,2,3,4,9,10],[9])
 |1=>([],[1,2,3,4,9,10])
 |_=>([],[])
theorem F168_ok:kj8 Try.prog K168 Try.f168=some F168:=by kernel_rfl
/- 169: (syndrome/syndromeref.F).Inv -/
def c169L0:ACode:=(.seq (.seq (.region [.m 14 5, .o 15 (.f 0 2), .o 16 (.l 15), .o 17 (.b .lss 14 16)]) (.cond (.tmp 17) .skip (.exit 0))) (.seq (.block 1 [1,2,5] (.seq (.region [.o 20 (.ld true 5 (.tmp 2)), .m 21 1, .m 22 5, .o 23 (.q 170 [20,21,22]), .o 24 (.c .eql 23 1)]) (.cond (.tmp 24) (.seq (.region [.m 25 5, .m 4 25]) .ret) .skip))) (.region [.m 18 5, .o 19 (.c .add 18 1), .m 5 19])))
def c169:ACode:=(.seq (.region [.o 2 (.box 102 5 (.tmp 0)), .k 4 0]) (.seq (.seq (.region [.o 6 (.ld true 5 (.tmp 2)), .m 7 1, .o 8 (.q 79 [6,7]), .o 9 (.un .not (.tmp 8)), .m 10 9, .g 11 (.m 1) 10 false, .g 12 (.c .eql 11 0) 10 false, .o 13 (.pick (.tmp 10) (.const (.bool true)) (.tmp 12))]) (.cond (.tmp 13) (.seq (.region [.k 4 (-1)]) .ret) .skip)) (.seq (.seq (.region [.k 5 1]) (.block 0 [] (.loop [1,2,5] c169L0))) (.seq (.region [.k 4 (-1)]) .ret))))
def F169:AFun:=⟨c169,2,26,[(.tmp 4)]⟩
def K169:Nat→List Nat×List Nat
 |0=>([1,2,5],[])
 |1=>([],[1,2,5])
 |_=>([],[])
theorem F169_ok:kj8 Try.prog K169 Try.f169=some F169:=by kernel_rfl
/- 170: (syndrome/syndromeref.F).Mul -/
def c170L0:ACode:=(.seq (.seq (.region [.m 55 11, .o 56 (.f 2 3), .o 57 (.l 56), .o 58 (.b .lss 55 57)]) (.cond (.tmp 58) .skip (.exit 2))) (.seq (.block 3 [3,7,8,9,10,11] (.region [.m 61 9, .m 62 10, .m 63 11, .o 64 (.b .add 62 63), .m 65 9, .m 66 10, .m 67 11, .o 68 (.b .add 66 67), .o 69 (.i 1 65 68), .o 70 (.l 69), .m 71 7, .m 72 10, .o 73 (.i 1 71 72), .o 74 (.l 73), .m 75 8, .m 76 11, .o 77 (.i 1 75 76), .o 78 (.l 77), .o 79 (.b .mul 74 78), .o 80 (.b .add 70 79), .o 81 (.f 1 3), .o 82 (.l 81), .o 83 (.b .rem 80 82), .o 84 (.i 1 61 64), .n (.st 1 (.tmp 84) (.tmp 83))])) (.region [.m 59 11, .o 60 (.c .add 59 1), .m 11 60])))
def c170L1:ACode:=(.seq (.seq (.region [.m 49 10, .o 50 (.f 2 3), .o 51 (.l 50), .o 52 (.b .lss 49 51)]) (.cond (.tmp 52) .skip (.exit 0))) (.seq (.block 1 [3,7,8,9,10] (.seq (.region [.k 11 0]) (.block 2 [3,7,8,9,10] (.loop [3,7,8,9,10,11] c170L0)))) (.region [.m 53 10, .o 54 (.c .add 53 1), .m 10 54])))
def c170L2:ACode:=(.seq (.seq (.region [.m 95 13, .o 96 (.f 2 3), .o 97 (.l 96), .o 98 (.b .lss 95 97)]) (.cond (.tmp 98) .skip (.exit 6))) (.seq (.block 7 [3,9,12,13] (.region [.m 101 9, .m 102 12, .o 103 (.f 2 3), .o 104 (.l 103), .o 105 (.b .sub 102 104), .m 106 13, .o 107 (.b .add 105 106), .m 108 9, .m 109 12, .o 110 (.f 2 3), .o 111 (.l 110), .o 112 (.b .sub 109 111), .m 113 13, .o 114 (.b .add 112 113), .o 115 (.i 1 108 114), .o 116 (.l 115), .m 117 9, .m 118 12, .o 119 (.i 1 117 118), .o 120 (.l 119), .o 121 (.f 1 3), .o 122 (.l 121), .o 123 (.f 4 3), .o 124 (.l 123), .m 125 13, .o 126 (.i 1 124 125), .o 127 (.l 126), .o 128 (.b .sub 122 127), .o 129 (.b .mul 120 128), .o 130 (.b .add 116 129), .o 131 (.f 1 3), .o 132 (.l 131), .o 133 (.b .rem 130 132), .o 134 (.i 1 101 107), .n (.st 1 (.tmp 134) (.tmp 133))])) (.region [.m 99 13, .o 100 (.c .add 99 1), .m 13 100])))
def c170L3:ACode:=(.seq (.seq (.region [.m 89 12, .o 90 (.f 2 3), .o 91 (.l 90), .o 92 (.b .geq 89 91)]) (.cond (.tmp 92) .skip (.exit 4))) (.seq (.block 5 [3,9,12] (.seq (.seq (.region [.k 13 0]) (.block 6 [3,9,12] (.loop [3,9,12,13] c170L2))) (.region [.m 135 9, .m 136 12, .o 137 (.i 1 135 136), .n (.st 1 (.tmp 137) (.const (.int .i64 0)))]))) (.region [.m 93 12, .o 94 (.c .sub 93 1), .m 12 94])))
def c170:ACode:=(.seq (.region [.o 3 (.box 102 5 (.tmp 0)), .k 6 0]) (.seq (.seq (.region [.o 14 (.ld true 5 (.tmp 3)), .m 15 1, .o 16 (.q 79 [14,15]), .o 17 (.un .not (.tmp 16)), .m 18 17, .g 19 (.ld true 5 (.tmp 3)) 18 false, .g 20 (.m 2) 18 false, .g 21 (.q 79 [19,20]) 18 false, .g 22 (.un .not (.tmp 21)) 18 false, .o 23 (.pick (.tmp 18) (.const (.bool true)) (.tmp 22))]) (.cond (.tmp 23) (.seq (.region [.k 6 (-1)]) .ret) .skip)) (.seq (.seq (.region [.o 24 (.f 2 3), .o 25 (.l 24), .o 26 (.c .eql 25 1)]) (.cond (.tmp 26) (.seq (.region [.m 27 1, .m 28 2, .o 29 (.b .mul 27 28), .o 30 (.f 1 3), .o 31 (.l 30), .o 32 (.b .rem 29 31), .m 6 32]) .ret) .skip)) (.seq (.region [.m 33 1, .o 34 (.f 1 3), .o 35 (.l 34), .o 36 (.f 2 3), .o 37 (.l 36), .o 38 (.q 136 [33,35,37]), .m 7 38]) (.seq (.region [.m 39 2, .o 40 (.f 1 3), .o 41 (.l 40), .o 42 (.f 2 3), .o 43 (.l 42), .o 44 (.q 136 [39,41,43]), .m 8 44]) (.seq (.region [.o 45 (.f 2 3), .o 46 (.l 45), .o 47 (.bin .mul (.const (.int .i64 2)) (.tmp 46)), .o 48 (.mks 3 1 8 [(.int .i64 0)] (.tmp 47) (.tmp 47)), .m 9 48]) (.seq (.seq (.region [.k 10 0]) (.block 0 [3,9] (.loop [3,7,8,9,10] c170L1))) (.seq (.seq (.region [.o 85 (.f 2 3), .o 86 (.l 85), .o 87 (.bin .mul (.const (.int .i64 2)) (.tmp 86)), .o 88 (.c .sub 87 1), .m 12 88]) (.block 4 [3,9] (.loop [3,9,12] c170L3))) (.seq (.region [.m 138 9, .o 139 (.f 2 3), .o 140 (.l 139), .o 141 (.sl 1 (.tmp 138) none (some (.tmp 140))), .o 142 (.f 1 3), .o 143 (.l 142), .o 144 (.q 205 [141,143]), .m 6 144]) .ret)))))))))
def F170:AFun:=⟨c170,3,145,[(.tmp 6)]⟩
def K170:Nat→List Nat×List Nat
 |0=>([3,7,8,9,10],[3,9])
 |1=>([],[3,7,8,9,10])
 |2=>([3,7,8,9,10,11],[3,7,8,9,10])
 |3=>([],[3,7,8,9,10,11])
 |4=>([3,9,12],[3,9])
 |5=>([],[3,9,12])
 |6=>([3,9,12,13],[3,9,12])
 |7=>([],[3,9,12,13])
 |_=>([],[])
theorem F170_ok:kj8 Try.prog K170 Try.f170=some F170:=by kernel_rfl
end Go.Proofs.Ytodbgomfeacdhaa
