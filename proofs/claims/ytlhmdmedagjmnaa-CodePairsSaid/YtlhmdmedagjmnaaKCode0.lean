/-
  Functions of this seat as the small machine's code, written by a program of my own (gen.py); each is checked to be what the model's function is turned into. No condition.
-/
import Derived.Test.YtlhmdmedagjmnaaK1
import Derived.Test.YtlhmdmedagjmnaaProg
set_option linter.unusedVariables false
set_option linter.unusedSimpArgs false
set_option linter.unusedSectionVars false
set_option maxRecDepth 100000
namespace Go.Proofs.Ytlhmdmedagjmnaa
open Go.Am
/- 3: syndrome/syndromelaw.CodePairs -/
def c3:ACode:=(.seq (.region [.o 2 (.box 24 3 (.tmp 0)), .o 3 (.box 24 3 (.tmp 1)), .o 4 (.mv (.const (.bool false)))]) (.seq (.seq (.region [.o 12 (.f 2 2), .o 13 (.l 12), .o 14 (.q 8 [13]), .m 15 14, .g 16 (.f 2 3) 15 false, .g 17 (.l 16) 15 false, .g 18 (.q 8 [17]) 15 false, .o 19 (.pick (.tmp 15) (.const (.bool true)) (.tmp 18))]) (.cond (.tmp 19) (.seq (.region [.o 4 (.mv (.const (.bool true)))]) .ret) .skip)) (.seq (.region [.o 20 (.ld true 3 (.tmp 2)), .o 21 (.q 9 [20]), .m 5 21]) (.seq (.seq (.region [.m 22 5, .o 23 (.c .eql 22 0)]) (.cond (.tmp 23) (.region [.o 24 (.ld true 3 (.tmp 3)), .o 25 (.q 9 [24]), .m 5 25]) .skip)) (.seq (.seq (.region [.m 26 5, .o 27 (.c .eql 26 0), .m 28 27, .g 29 (.f 0 2) 28 true, .g 30 (.l 29) 28 true, .g 31 (.f 0 3) 28 true, .g 32 (.l 31) 28 true, .g 33 (.b .neq 30 32) 28 true, .g 34 (.m 33) 28 true, .g 35 (.f 1 2) 34 false, .g 36 (.l 35) 34 false, .g 37 (.f 1 3) 34 false, .g 38 (.l 37) 34 false, .g 39 (.b .neq 36 38) 34 false, .g 40 (.pick (.tmp 34) (.const (.bool true)) (.tmp 39)) 28 true, .o 41 (.pick (.tmp 28) (.tmp 40) (.const (.bool false)))]) (.cond (.tmp 41) (.region [.k 5 3]) .skip)) (.seq (.region [.o 43 (.ld true 3 (.tmp 2)), .o 44 (.ld true 3 (.tmp 3)), .o 45 (.q 10 [43,44]), .m 42 45, .o 46 (.e 0 42), .o 47 (.e 1 42), .o 6 (.alloc 24 [(.int .i64 0),(.int .i64 0),(.slice none 0 0)]), .n (.st 3 (.tmp 6) (.tmp 46)), .m 7 47]) (.seq (.region [.o 49 (.ld true 3 (.tmp 2)), .o 50 (.ld true 3 (.tmp 3)), .o 51 (.q 11 [49,50]), .m 48 51, .o 52 (.e 0 48), .o 53 (.e 1 48), .o 8 (.alloc 24 [(.int .i64 0),(.int .i64 0),(.slice none 0 0)]), .n (.st 3 (.tmp 8) (.tmp 52)), .m 9 53]) (.seq (.region [.o 54 (.build [(.int .i64 0),(.int .i64 0),(.slice none 0 0)] [(0,1),(1,1),(2,1)] []), .o 10 (.alloc 24 [(.int .i64 0),(.int .i64 0),(.slice none 0 0)]), .n (.st 3 (.tmp 10) (.tmp 54))]) (.seq (.region [.o 55 (.ld true 3 (.tmp 10)), .o 11 (.alloc 24 [(.int .i64 0),(.int .i64 0),(.slice none 0 0)]), .n (.st 3 (.tmp 11) (.tmp 55))]) (.seq (.seq (.region [.m 56 5, .o 57 (.c .eql 56 0)]) (.cond (.tmp 57) (.seq (.region [.o 58 (.f 0 2), .o 60 (.f 1 2), .o 63 (.f 2 2), .o 66 (.f 2 3), .o 59 (.ldb false 1 (.tmp 58)), .o 61 (.ldb false 1 (.tmp 60)), .o 64 (.l 63), .o 67 (.ldb false 1 (.tmp 66)), .o 62 (.mkSl 34 1 0 []), .o 65 (.app 34 1 24 (.tmp 62) (.tmp 64)), .o 68 (.app 34 1 24 (.tmp 65) (.tmp 67)), .o 69 (.build [(.int .i64 0),(.int .i64 0),(.slice none 0 0)] [(0,1),(1,1),(2,1)] [(0,(.tmp 59)),(1,(.tmp 61)),(2,(.tmp 68))]), .o 70 (.q 12 [69]), .n (.st 3 (.tmp 10) (.tmp 70))]) (.region [.o 71 (.ld true 3 (.tmp 2)), .o 72 (.ld true 3 (.tmp 3)), .o 73 (.q 13 [71,72]), .n (.st 3 (.tmp 11) (.tmp 73))])) .skip)) (.seq (.region [.o 74 (.ld true 3 (.tmp 6)), .m 75 7, .o 76 (.ld true 3 (.tmp 10)), .m 77 5, .o 78 (.q 14 [74,75,76,77]), .m 79 78, .g 80 (.ld true 3 (.tmp 8)) 79 true, .g 81 (.m 9) 79 true, .g 82 (.ld true 3 (.tmp 11)) 79 true, .g 83 (.m 5) 79 true, .g 84 (.q 14 [80,81,82,83]) 79 true, .o 85 (.pick (.tmp 79) (.tmp 84) (.const (.bool false))), .m 4 85]) .ret)))))))))))
def F3:AFun:=⟨c3,2,86,[(.tmp 4)]⟩
def K3:Nat→List Nat×List Nat
 |_=>([],[])
theorem F3_ok:kj8 Try.prog K3 Try.f3=some F3:=by kernel_rfl
/- 8: syndrome/syndromelaw.heavy -/
def c8L0:ACode:=(.seq (.seq (.region [.m 7 4, .m 8 0, .o 9 (.n 8), .o 10 (.b .lss 7 9), .m 11 10, .g 12 (.m 3) 11 true, .g 13 (.c .leq 12 6000) 11 true, .o 14 (.pick (.tmp 11) (.tmp 13) (.const (.bool false)))]) (.cond (.tmp 14) .skip (.exit 0))) (.seq (.block 1 [0,3,4] (.region [.m 17 3, .m 18 0, .m 19 4, .o 20 (.i 1 18 19), .o 21 (.l 20), .o 22 (.n 21), .o 23 (.b .add 17 22), .m 3 23])) (.region [.m 15 4, .o 16 (.c .add 15 1), .m 4 16])))
def c8:ACode:=(.seq (.region [.o 2 (.mv (.const (.bool false)))]) (.seq (.region [.m 5 0, .o 6 (.n 5), .m 3 6]) (.seq (.seq (.region [.k 4 0]) (.block 0 [3] (.loop [0,3,4] c8L0))) (.seq (.region [.m 24 3, .o 25 (.c .gtr 24 6000), .m 2 25]) .ret))))
def F8:AFun:=⟨c8,1,26,[(.tmp 2)]⟩
def K8:Nat→List Nat×List Nat
 |0=>([0,3,4],[3])
 |1=>([],[0,3,4])
 |_=>([],[])
theorem F8_ok:kj8 Try.prog K8 Try.f8=some F8:=by kernel_rfl
/- 9: syndrome/syndromeref.CodeMay -/
def c9:ACode:=(.seq (.region [.o 1 (.box 24 3 (.tmp 0)), .k 2 0]) (.seq (.region [.o 6 (.f 0 1), .o 7 (.l 6), .o 8 (.q 32 [7]), .m 5 8, .o 9 (.e 0 5), .o 10 (.e 1 5), .o 3 (.alloc 58 [(.int .i64 0),(.int .i64 0),(.int .i64 0),(.int .i64 0),(.slice none 0 0)]), .n (.st 5 (.tmp 3) (.tmp 9)), .m 4 10]) (.seq (.seq (.region [.m 11 4, .o 12 (.c .neq 11 0)]) (.cond (.tmp 12) (.seq (.region [.m 13 4, .m 2 13]) .ret) .skip)) (.seq (.seq (.region [.o 14 (.f 1 1), .o 15 (.l 14), .o 16 (.c .lss 15 1), .m 17 16, .g 18 (.f 1 1) 17 false, .g 19 (.l 18) 17 false, .g 20 (.c .gtr 19 64) 17 false, .o 21 (.pick (.tmp 17) (.const (.bool true)) (.tmp 20))]) (.cond (.tmp 21) (.seq (.region [.k 2 4]) .ret) .skip)) (.seq (.region [.o 22 (.f 0 1), .o 23 (.l 22), .o 24 (.f 2 1), .o 25 (.l 24), .o 26 (.q 43 [23,25]), .m 4 26]) (.seq (.seq (.region [.m 27 4, .o 28 (.c .eql 27 0), .m 29 28, .g 30 (.f 2 1) 29 true, .g 31 (.l 30) 29 true, .g 32 (.n 31) 29 true, .g 33 (.c .gtr 32 0) 29 true, .o 34 (.pick (.tmp 29) (.tmp 33) (.const (.bool false))), .m 35 34, .g 36 (.f 2 1) 35 true, .g 37 (.l 36) 35 true, .g 38 (.iaddr 1 (.tmp 37) (.const (.int .i64 0))) 35 true, .g 39 (.l 38) 35 true, .g 40 (.n 39) 35 true, .g 41 (.f 1 1) 35 true, .g 42 (.l 41) 35 true, .g 43 (.b .neq 40 42) 35 true, .o 44 (.pick (.tmp 35) (.tmp 43) (.const (.bool false)))]) (.cond (.tmp 44) (.region [.k 4 3]) .skip)) (.seq (.region [.m 45 4, .m 2 45]) .ret)))))))
def F9:AFun:=⟨c9,1,46,[(.tmp 2)]⟩
def K9:Nat→List Nat×List Nat
 |_=>([],[])
theorem F9_ok:kj8 Try.prog K9 Try.f9=some F9:=by kernel_rfl
/- 10: syndrome/code.Sum -/
def c10L0:ACode:=(.seq (.region [.o 35 (.b .lss 34 33)]) (.seq (.cond (.tmp 35) .skip (.exit 0)) (.seq (.block 1 [2,4,7,32,33,34] (.seq (.region [.o 36 (.i 1 32 34), .o 37 (.l 36), .m 9 37]) (.region [.o 39 (.f 0 2), .m 41 7, .m 42 9, .m 45 7, .o 46 (.n 45), .o 47 (.c .add 46 1), .o 48 (.minmax false [(.tmp 47),(.const (.int .i64 64))]), .o 40 (.ldb false 1 (.tmp 39)), .o 43 (.mkSl 34 1 1 [(.tmp 42)]), .o 44 (.app 34 1 24 (.tmp 41) (.tmp 43)), .o 49 (.sl 1 (.tmp 44) none (some (.tmp 48))), .o 50 (.q 45 [40,49]), .m 38 50, .o 51 (.e 0 38), .o 52 (.e 1 38), .o 53 (.e 2 38), .m 7 51]))) (.region [.o 54 (.c .add 34 1), .m 34 54]))))
def c10:ACode:=(.seq (.region [.o 2 (.box 24 3 (.tmp 0)), .o 3 (.box 24 3 (.tmp 1)), .o 4 (.alloc 24 [(.int .i64 0),(.int .i64 0),(.slice none 0 0)]), .k 5 0]) (.seq (.seq (.region [.o 10 (.ld true 3 (.tmp 2)), .o 11 (.ld true 3 (.tmp 3)), .o 12 (.q 44 [10,11]), .m 6 12]) (.seq (.region [.m 13 6, .o 14 (.c .neq 13 0)]) (.cond (.tmp 14) (.seq (.region [.o 15 (.build [(.int .i64 0),(.int .i64 0),(.slice none 0 0)] [(0,1),(1,1),(2,1)] []), .m 16 6, .n (.st 3 (.tmp 4) (.tmp 15)), .m 5 16]) .ret) .skip))) (.seq (.region [.o 18 (.ld true 3 (.tmp 2)), .o 19 (.q 18 [18]), .m 17 19, .o 20 (.e 0 17), .o 21 (.e 1 17), .n (.st 3 (.tmp 2) (.tmp 20))]) (.seq (.region [.o 23 (.ld true 3 (.tmp 3)), .o 24 (.q 18 [23]), .m 22 24, .o 25 (.e 0 22), .o 26 (.e 1 22), .n (.st 3 (.tmp 3) (.tmp 25))]) (.seq (.region [.o 7 (.mv (.const (.slice none 0 0)))]) (.seq (.region [.m 27 7, .o 28 (.f 2 2), .o 29 (.l 28), .o 30 (.app 34 1 24 (.tmp 27) (.tmp 29)), .m 7 30]) (.seq (.seq (.region [.o 31 (.f 2 3), .o 32 (.l 31), .o 33 (.n 32), .k 34 0]) (.block 0 [2,4,7] (.loop [2,4,7,32,33,34] c10L0))) (.seq (.region [.o 55 (.f 0 2), .o 56 (.l 55), .o 57 (.f 1 2), .o 58 (.l 57), .m 59 7, .o 60 (.build [(.int .i64 0),(.int .i64 0),(.slice none 0 0)] [(0,1),(1,1),(2,1)] [(0,(.tmp 56)),(1,(.tmp 58)),(2,(.tmp 59))]), .n (.st 3 (.tmp 4) (.tmp 60)), .k 5 0]) .ret))))))))
def F10:AFun:=⟨c10,2,61,[(.cell 4 true 3),(.tmp 5)]⟩
def K10:Nat→List Nat×List Nat
 |0=>([2,4,7,32,33,34],[2,4,7])
 |1=>([],[2,4,7,32,33,34])
 |_=>([],[])
theorem F10_ok:kj8 Try.prog K10 Try.f10=some F10:=by kernel_rfl
/- 11: syndrome/code.Meet -/
def c11:ACode:=(.seq (.region [.o 2 (.box 24 3 (.tmp 0)), .o 3 (.box 24 3 (.tmp 1)), .o 4 (.alloc 24 [(.int .i64 0),(.int .i64 0),(.slice none 0 0)]), .k 5 0]) (.seq (.seq (.region [.o 9 (.ld true 3 (.tmp 2)), .o 10 (.ld true 3 (.tmp 3)), .o 11 (.q 44 [9,10]), .m 6 11]) (.seq (.region [.m 12 6, .o 13 (.c .neq 12 0)]) (.cond (.tmp 13) (.seq (.region [.o 14 (.build [(.int .i64 0),(.int .i64 0),(.slice none 0 0)] [(0,1),(1,1),(2,1)] []), .m 15 6, .n (.st 3 (.tmp 4) (.tmp 14)), .m 5 15]) .ret) .skip))) (.seq (.region [.o 17 (.ld true 3 (.tmp 2)), .o 18 (.q 19 [17]), .m 16 18, .o 19 (.e 0 16), .o 20 (.e 1 16), .n (.st 3 (.tmp 2) (.tmp 19))]) (.seq (.region [.o 22 (.ld true 3 (.tmp 3)), .o 23 (.q 19 [22]), .m 21 23, .o 24 (.e 0 21), .o 25 (.e 1 21), .n (.st 3 (.tmp 3) (.tmp 24))]) (.seq (.region [.o 27 (.ld true 3 (.tmp 2)), .o 28 (.ld true 3 (.tmp 3)), .o 29 (.q 10 [27,28]), .m 26 29, .o 30 (.e 0 26), .o 31 (.e 1 26), .o 7 (.alloc 24 [(.int .i64 0),(.int .i64 0),(.slice none 0 0)]), .n (.st 3 (.tmp 7) (.tmp 30)), .m 8 31]) (.seq (.region [.o 32 (.ld true 3 (.tmp 7)), .o 33 (.q 19 [32]), .o 34 (.e 0 33), .o 35 (.e 1 33), .n (.st 3 (.tmp 4) (.tmp 34)), .m 5 35]) .ret))))))
def F11:AFun:=⟨c11,2,36,[(.cell 4 true 3),(.tmp 5)]⟩
def K11:Nat→List Nat×List Nat
 |_=>([],[])
theorem F11_ok:kj8 Try.prog K11 Try.f11=some F11:=by kernel_rfl
/- 12: syndrome/syndromeref.Made -/
def c12:ACode:=(.seq (.region [.o 1 (.box 24 3 (.tmp 0)), .o 2 (.alloc 24 [(.int .i64 0),(.int .i64 0),(.slice none 0 0)])]) (.seq (.region [.o 8 (.f 0 1), .o 9 (.l 8), .o 10 (.q 32 [9]), .m 7 10, .o 11 (.e 0 7), .o 12 (.e 1 7), .o 3 (.alloc 58 [(.int .i64 0),(.int .i64 0),(.int .i64 0),(.int .i64 0),(.slice none 0 0)]), .n (.st 5 (.tmp 3) (.tmp 11)), .m 4 12]) (.seq (.region [.o 14 (.ld true 5 (.tmp 3)), .o 15 (.f 2 1), .o 16 (.l 15), .o 17 (.q 46 [14,16]), .m 13 17, .o 18 (.e 0 13), .o 19 (.e 1 13), .m 5 18, .m 6 19]) (.seq (.region [.o 20 (.f 0 1), .o 21 (.l 20), .o 22 (.f 1 1), .o 23 (.l 22), .m 24 5, .o 25 (.build [(.int .i64 0),(.int .i64 0),(.slice none 0 0)] [(0,1),(1,1),(2,1)] [(0,(.tmp 21)),(1,(.tmp 23)),(2,(.tmp 24))]), .n (.st 3 (.tmp 2) (.tmp 25))]) .ret))))
def F12:AFun:=⟨c12,1,26,[(.cell 2 true 3)]⟩
def K12:Nat→List Nat×List Nat
 |_=>([],[])
theorem F12_ok:kj8 Try.prog K12 Try.f12=some F12:=by kernel_rfl
/- 13: syndrome/syndromeref.Both -/
def c13:ACode:=(.seq (.region [.o 2 (.box 24 3 (.tmp 0)), .o 3 (.box 24 3 (.tmp 1)), .o 4 (.alloc 24 [(.int .i64 0),(.int .i64 0),(.slice none 0 0)])]) (.seq (.region [.o 7 (.ld true 3 (.tmp 2)), .o 8 (.q 47 [7]), .o 5 (.alloc 24 [(.int .i64 0),(.int .i64 0),(.slice none 0 0)]), .n (.st 3 (.tmp 5) (.tmp 8))]) (.seq (.region [.o 9 (.ld true 3 (.tmp 3)), .o 10 (.q 47 [9]), .o 6 (.alloc 24 [(.int .i64 0),(.int .i64 0),(.slice none 0 0)]), .n (.st 3 (.tmp 6) (.tmp 10))]) (.seq (.region [.o 11 (.f 0 2), .o 13 (.f 1 2), .o 16 (.f 2 5), .o 19 (.f 2 6), .o 12 (.ldb false 1 (.tmp 11)), .o 14 (.ldb false 1 (.tmp 13)), .o 17 (.l 16), .o 20 (.ldb false 1 (.tmp 19)), .o 15 (.mkSl 34 1 0 []), .o 18 (.app 34 1 24 (.tmp 15) (.tmp 17)), .o 21 (.app 34 1 24 (.tmp 18) (.tmp 20)), .o 22 (.build [(.int .i64 0),(.int .i64 0),(.slice none 0 0)] [(0,1),(1,1),(2,1)] [(0,(.tmp 12)),(1,(.tmp 14)),(2,(.tmp 21))]), .o 23 (.q 47 [22]), .n (.st 3 (.tmp 4) (.tmp 23))]) .ret))))
def F13:AFun:=⟨c13,2,24,[(.cell 4 true 3)]⟩
def K13:Nat→List Nat×List Nat
 |_=>([],[])
theorem F13_ok:kj8 Try.prog K13 Try.f13=some F13:=by kernel_rfl
/- 14: syndrome/syndromelaw.sameCode -/
def c14:ACode:=(.seq (.region [.o 4 (.box 24 3 (.tmp 0)), .o 6 (.box 24 3 (.tmp 2)), .o 8 (.mv (.const (.bool false)))]) (.seq (.seq (.region [.m 9 3, .o 10 (.c .neq 9 0)]) (.cond (.tmp 10) (.seq (.region [.m 11 1, .m 12 3, .o 13 (.b .eql 11 12), .m 14 13, .g 15 (.ld true 3 (.tmp 4)) 14 true, .g 16 (.build [(.int .i64 0),(.int .i64 0),(.slice none 0 0)] [(0,1),(1,1),(2,1)] []) 14 true, .g 17 (.q 20 [15,16]) 14 true, .o 18 (.pick (.tmp 14) (.tmp 17) (.const (.bool false))), .m 8 18]) .ret) .skip)) (.seq (.region [.m 19 1, .o 20 (.c .eql 19 0), .m 21 20, .g 22 (.ld true 3 (.tmp 4)) 21 true, .g 23 (.ld true 3 (.tmp 6)) 21 true, .g 24 (.q 20 [22,23]) 21 true, .o 25 (.pick (.tmp 21) (.tmp 24) (.const (.bool false))), .m 8 25]) .ret)))
def F14:AFun:=⟨c14,4,26,[(.tmp 8)]⟩
def K14:Nat→List Nat×List Nat
 |_=>([],[])
theorem F14_ok:kj8 Try.prog K14 Try.f14=some F14:=by kernel_rfl
/- 18: syndrome/code.Make -/
def c18:ACode:=(.seq (.region [.o 1 (.box 24 3 (.tmp 0)), .o 2 (.alloc 24 [(.int .i64 0),(.int .i64 0),(.slice none 0 0)]), .k 3 0]) (.seq (.seq (.region [.o 8 (.ld true 3 (.tmp 1)), .o 9 (.q 48 [8]), .m 4 9]) (.seq (.region [.m 10 4, .o 11 (.c .neq 10 0)]) (.cond (.tmp 11) (.seq (.region [.o 12 (.build [(.int .i64 0),(.int .i64 0),(.slice none 0 0)] [(0,1),(1,1),(2,1)] []), .m 13 4, .n (.st 3 (.tmp 2) (.tmp 12)), .m 3 13]) .ret) .skip))) (.seq (.region [.o 15 (.f 0 1), .o 16 (.l 15), .o 17 (.f 2 1), .o 18 (.l 17), .o 19 (.q 45 [16,18]), .m 14 19, .o 20 (.e 0 14), .o 21 (.e 1 14), .o 22 (.e 2 14), .m 5 20, .m 6 21, .m 7 22]) (.seq (.region [.o 23 (.f 0 1), .o 24 (.l 23), .o 25 (.f 1 1), .o 26 (.l 25), .m 27 5, .o 28 (.build [(.int .i64 0),(.int .i64 0),(.slice none 0 0)] [(0,1),(1,1),(2,1)] [(0,(.tmp 24)),(1,(.tmp 26)),(2,(.tmp 27))]), .n (.st 3 (.tmp 2) (.tmp 28)), .k 3 0]) .ret))))
def F18:AFun:=⟨c18,1,29,[(.cell 2 true 3),(.tmp 3)]⟩
def K18:Nat→List Nat×List Nat
 |_=>([],[])
theorem F18_ok:kj8 Try.prog K18 Try.f18=some F18:=by kernel_rfl
/- 19: syndrome/code.Dual -/
def c19L0:ACode:=(.seq (.region [.o 25 (.b .lss 24 23)]) (.seq (.cond (.tmp 25) .skip (.exit 0)) (.seq (.block 1 [1,2,23,24] (.seq (.region [.m 26 24, .m 5 26]) (.seq (.region [.o 27 (.f 1 1), .o 28 (.l 27), .o 29 (.mks 3 1 8 [(.int .i64 0)] (.tmp 28) (.tmp 28)), .m 6 29]) (.seq (.region [.m 30 6, .m 31 5, .o 32 (.i 1 30 31), .n (.st 1 (.tmp 32) (.const (.int .i64 1)))]) (.region [.o 33 (.f 2 1), .o 34 (.l 33), .m 35 6, .o 36 (.mkSl 34 1 1 [(.tmp 35)]), .o 37 (.app 34 1 24 (.tmp 34) (.tmp 36)), .o 38 (.f 2 1), .n (.st 1 (.tmp 38) (.tmp 37))]))))) (.region [.o 39 (.c .add 24 1), .m 24 39]))))
def c19:ACode:=(.seq (.region [.o 1 (.box 24 3 (.tmp 0)), .o 2 (.alloc 24 [(.int .i64 0),(.int .i64 0),(.slice none 0 0)]), .k 3 0]) (.seq (.region [.o 10 (.ld true 3 (.tmp 1)), .o 11 (.q 18 [10]), .m 9 11, .o 12 (.e 0 9), .o 13 (.e 1 9), .n (.st 3 (.tmp 1) (.tmp 12)), .m 4 13]) (.seq (.seq (.region [.m 14 4, .o 15 (.c .neq 14 0)]) (.cond (.tmp 15) (.seq (.region [.o 16 (.build [(.int .i64 0),(.int .i64 0),(.slice none 0 0)] [(0,1),(1,1),(2,1)] []), .m 17 4, .n (.st 3 (.tmp 2) (.tmp 16)), .m 3 17]) .ret) .skip)) (.seq (.seq (.region [.o 18 (.f 2 1), .o 19 (.l 18), .o 20 (.n 19), .o 21 (.c .eql 20 0)]) (.cond (.tmp 21) (.seq (.seq (.region [.o 22 (.f 1 1), .o 23 (.l 22), .k 24 0]) (.block 0 [1,2] (.loop [1,2,23,24] c19L0))) (.seq (.region [.o 40 (.ld true 3 (.tmp 1)), .n (.st 3 (.tmp 2) (.tmp 40)), .k 3 0]) .ret)) .skip)) (.seq (.region [.o 42 (.f 0 1), .o 43 (.l 42), .o 44 (.f 2 1), .o 45 (.l 44), .o 46 (.q 49 [43,45]), .m 41 46, .o 47 (.e 0 41), .o 48 (.e 1 41), .m 7 47, .m 8 48]) (.seq (.region [.o 49 (.f 0 1), .o 50 (.l 49), .o 51 (.f 1 1), .o 52 (.l 51), .m 53 7, .o 54 (.build [(.int .i64 0),(.int .i64 0),(.slice none 0 0)] [(0,1),(1,1),(2,1)] [(0,(.tmp 50)),(1,(.tmp 52)),(2,(.tmp 53))]), .n (.st 3 (.tmp 2) (.tmp 54)), .k 3 0]) .ret))))))
def F19:AFun:=⟨c19,1,55,[(.cell 2 true 3),(.tmp 3)]⟩
def K19:Nat→List Nat×List Nat
 |0=>([1,2,23,24],[1,2])
 |1=>([],[1,2,23,24])
 |_=>([],[])
theorem F19_ok:kj8 Try.prog K19 Try.f19=some F19:=by kernel_rfl
/- 20: syndrome/syndromeref.SameCode -/
def c20:ACode:=(.seq (.region [.o 2 (.box 24 3 (.tmp 0)), .o 3 (.box 24 3 (.tmp 1)), .o 4 (.mv (.const (.bool false)))]) (.seq (.region [.o 5 (.f 0 2), .o 6 (.l 5), .o 7 (.f 0 3), .o 8 (.l 7), .o 9 (.b .eql 6 8), .m 10 9, .g 11 (.f 1 2) 10 true, .g 12 (.l 11) 10 true, .g 13 (.f 1 3) 10 true, .g 14 (.l 13) 10 true, .g 15 (.b .eql 12 14) 10 true, .o 16 (.pick (.tmp 10) (.tmp 15) (.const (.bool false))), .m 17 16, .g 18 (.f 2 2) 17 true, .g 19 (.l 18) 17 true, .g 20 (.f 2 3) 17 true, .g 21 (.l 20) 17 true, .g 22 (.q 50 [19,21]) 17 true, .o 23 (.pick (.tmp 17) (.tmp 22) (.const (.bool false))), .m 4 23]) .ret))
def F20:AFun:=⟨c20,2,24,[(.tmp 4)]⟩
def K20:Nat→List Nat×List Nat
 |_=>([],[])
theorem F20_ok:kj8 Try.prog K20 Try.f20=some F20:=by kernel_rfl
/- 27: syndrome/syndromeref.Same -/
def c27L0:ACode:=(.seq (.seq (.region [.m 11 5, .m 12 0, .o 13 (.n 12), .o 14 (.b .lss 11 13)]) (.cond (.tmp 14) .skip (.exit 0))) (.seq (.block 1 [0,1,5] (.seq (.region [.m 17 0, .m 18 5, .o 19 (.i 1 17 18), .o 20 (.l 19), .m 21 1, .m 22 5, .o 23 (.i 1 21 22), .o 24 (.l 23), .o 25 (.b .neq 20 24)]) (.cond (.tmp 25) (.seq (.region [.o 4 (.mv (.const (.bool false)))]) .ret) .skip))) (.region [.m 15 5, .o 16 (.c .add 15 1), .m 5 16])))
def c27:ACode:=(.seq (.region [.o 4 (.mv (.const (.bool false)))]) (.seq (.seq (.region [.m 6 0, .o 7 (.n 6), .m 8 1, .o 9 (.n 8), .o 10 (.b .neq 7 9)]) (.cond (.tmp 10) (.seq (.region [.o 4 (.mv (.const (.bool false)))]) .ret) .skip)) (.seq (.seq (.region [.k 5 0]) (.block 0 [] (.loop [0,1,5] c27L0))) (.seq (.region [.o 4 (.mv (.const (.bool true)))]) .ret))))
def F27:AFun:=⟨c27,2,26,[(.tmp 4)]⟩
def K27:Nat→List Nat×List Nat
 |0=>([0,1,5],[])
 |1=>([],[0,1,5])
 |_=>([],[])
theorem F27_ok:kj8 Try.prog K27 Try.f27=some F27:=by kernel_rfl
/- 32: syndrome/syndromeref.Field -/
def c32L0:ACode:=(.seq (.seq (.region [.m 32 7, .m 33 0, .o 34 (.b .lss 32 33)]) (.cond (.tmp 34) .skip (.exit 0))) (.seq (.block 1 [0,2,4,5,6,7] (.seq (.region [.o 37 (.ld true 5 (.tmp 6)), .m 38 7, .o 39 (.q 66 [37,38])]) (.cond (.tmp 39) (.seq (.region [.m 40 7, .o 41 (.f 3 6), .n (.st 1 (.tmp 41) (.tmp 40))]) (.seq (.region [.o 42 (.ld true 5 (.tmp 6)), .n (.st 5 (.tmp 2) (.tmp 42)), .k 3 0]) .ret)) .skip))) (.region [.m 35 7, .o 36 (.c .add 35 1), .m 7 36])))
def c32L1:ACode:=(.seq (.seq (.region [.m 45 8, .m 46 0, .o 47 (.b .lss 45 46)]) (.cond (.tmp 47) .skip (.exit 2))) (.seq (.block 3 [0,2,4,5,6,8] (.seq (.region [.m 50 8, .m 51 4, .m 52 5, .o 53 (.q 67 [50,51,52]), .o 54 (.mkSl 3 1 1 [(.const (.int .i64 1))]), .o 55 (.app 3 1 8 (.tmp 53) (.tmp 54)), .o 56 (.f 4 6), .n (.st 1 (.tmp 56) (.tmp 55))]) (.seq (.region [.o 57 (.ld true 5 (.tmp 6)), .m 58 4, .o 59 (.q 66 [57,58])]) (.cond (.tmp 59) (.seq (.region [.o 60 (.ld true 5 (.tmp 6)), .n (.st 5 (.tmp 2) (.tmp 60)), .k 3 0]) .ret) .skip)))) (.region [.m 48 8, .o 49 (.c .add 48 1), .m 8 49])))
def c32:ACode:=(.seq (.region [.o 2 (.alloc 58 [(.int .i64 0),(.int .i64 0),(.int .i64 0),(.int .i64 0),(.slice none 0 0)]), .k 3 0]) (.seq (.seq (.region [.m 9 0, .o 10 (.c .lss 9 2), .m 11 10, .g 12 (.m 0) 11 false, .g 13 (.c .gtr 12 64) 11 false, .o 14 (.pick (.tmp 11) (.const (.bool true)) (.tmp 13))]) (.cond (.tmp 14) (.seq (.region [.o 15 (.build [(.int .i64 0),(.int .i64 0),(.int .i64 0),(.int .i64 0),(.slice none 0 0)] [(0,1),(1,1),(2,1),(3,1),(4,1)] []), .n (.st 5 (.tmp 2) (.tmp 15)), .k 3 1]) .ret) .skip)) (.seq (.region [.m 17 0, .o 18 (.q 65 [17]), .m 16 18, .o 19 (.e 0 16), .o 20 (.e 1 16), .m 4 19, .m 5 20]) (.seq (.seq (.region [.m 21 4, .o 22 (.c .eql 21 0)]) (.cond (.tmp 22) (.seq (.region [.o 23 (.build [(.int .i64 0),(.int .i64 0),(.int .i64 0),(.int .i64 0),(.slice none 0 0)] [(0,1),(1,1),(2,1),(3,1),(4,1)] []), .n (.st 5 (.tmp 2) (.tmp 23)), .k 3 1]) .ret) .skip)) (.seq (.region [.m 24 0, .m 25 4, .m 26 5, .o 27 (.build [(.int .i64 0),(.int .i64 0),(.int .i64 0),(.int .i64 0),(.slice none 0 0)] [(0,1),(1,1),(2,1),(3,1),(4,1)] [(0,(.tmp 24)),(1,(.tmp 25)),(2,(.tmp 26))]), .o 6 (.alloc 58 [(.int .i64 0),(.int .i64 0),(.int .i64 0),(.int .i64 0),(.slice none 0 0)]), .n (.st 5 (.tmp 6) (.tmp 27))]) (.seq (.seq (.region [.m 28 5, .o 29 (.c .eql 28 1)]) (.cond (.tmp 29) (.seq (.region [.o 30 (.mkSl 3 1 2 [(.const (.int .i64 0)),(.const (.int .i64 1))]), .o 31 (.f 4 6), .n (.st 1 (.tmp 31) (.tmp 30))]) (.seq (.region [.k 7 1]) (.block 0 [0,2,4,5,6] (.loop [0,2,4,5,6,7] c32L0)))) .skip)) (.seq (.region [.m 43 4, .o 44 (.f 3 6), .n (.st 1 (.tmp 44) (.tmp 43))]) (.seq (.seq (.region [.k 8 0]) (.block 2 [2] (.loop [0,2,4,5,6,8] c32L1))) (.seq (.region [.o 61 (.build [(.int .i64 0),(.int .i64 0),(.int .i64 0),(.int .i64 0),(.slice none 0 0)] [(0,1),(1,1),(2,1),(3,1),(4,1)] []), .n (.st 5 (.tmp 2) (.tmp 61)), .k 3 1]) .ret)))))))))
def F32:AFun:=⟨c32,1,62,[(.cell 2 true 5),(.tmp 3)]⟩
def K32:Nat→List Nat×List Nat
 |0=>([0,2,4,5,6,7],[0,2,4,5,6])
 |1=>([],[0,2,4,5,6,7])
 |2=>([0,2,4,5,6,8],[2])
 |3=>([],[0,2,4,5,6,8])
 |_=>([],[])
theorem F32_ok:kj8 Try.prog K32 Try.f32=some F32:=by kernel_rfl
/- 43: syndrome/syndromeref.MatrixMay -/
def c43L0:ACode:=(.seq (.seq (.region [.m 50 8, .m 51 1, .m 52 7, .o 53 (.i 1 51 52), .o 54 (.l 53), .o 55 (.n 54), .o 56 (.b .lss 50 55)]) (.cond (.tmp 56) .skip (.exit 2))) (.seq (.block 3 [1,5,7,8] (.seq (.region [.o 59 (.ld true 5 (.tmp 5)), .m 60 1, .m 61 7, .o 62 (.i 1 60 61), .o 63 (.l 62), .m 64 8, .o 65 (.i 1 63 64), .o 66 (.l 65), .o 67 (.q 82 [59,66]), .o 68 (.un .not (.tmp 67))]) (.cond (.tmp 68) (.seq (.region [.k 4 2]) .ret) .skip))) (.region [.m 57 8, .o 58 (.c .add 57 1), .m 8 58])))
def c43L1:ACode:=(.seq (.seq (.region [.m 20 7, .m 21 1, .o 22 (.n 21), .o 23 (.b .lss 20 22)]) (.cond (.tmp 23) .skip (.exit 0))) (.seq (.block 1 [1,5,7] (.seq (.seq (.region [.m 26 1, .m 27 7, .o 28 (.i 1 26 27), .o 29 (.l 28), .o 30 (.n 29), .m 31 1, .o 32 (.iaddr 1 (.tmp 31) (.const (.int .i64 0))), .o 33 (.l 32), .o 34 (.n 33), .o 35 (.b .neq 30 34), .m 36 35, .g 37 (.m 1) 36 false, .g 38 (.m 7) 36 false, .g 39 (.i 1 37 38) 36 false, .g 40 (.l 39) 36 false, .g 41 (.n 40) 36 false, .g 42 (.c .eql 41 0) 36 false, .o 43 (.pick (.tmp 36) (.const (.bool true)) (.tmp 42))]) (.cond (.tmp 43) (.seq (.region [.k 4 3]) .ret) .skip)) (.seq (.seq (.region [.m 44 1, .m 45 7, .o 46 (.i 1 44 45), .o 47 (.l 46), .o 48 (.n 47), .o 49 (.c .gtr 48 64)]) (.cond (.tmp 49) (.seq (.region [.k 4 4]) .ret) .skip)) (.seq (.region [.k 8 0]) (.block 2 [1,5,7] (.loop [1,5,7,8] c43L0)))))) (.region [.m 24 7, .o 25 (.c .add 24 1), .m 7 25])))
def c43:ACode:=(.seq (.region [.k 4 0]) (.seq (.region [.m 10 0, .o 11 (.q 32 [10]), .m 9 11, .o 12 (.e 0 9), .o 13 (.e 1 9), .o 5 (.alloc 58 [(.int .i64 0),(.int .i64 0),(.int .i64 0),(.int .i64 0),(.slice none 0 0)]), .n (.st 5 (.tmp 5) (.tmp 12)), .m 6 13]) (.seq (.seq (.region [.m 14 6, .o 15 (.c .neq 14 0)]) (.cond (.tmp 15) (.seq (.region [.m 16 6, .m 4 16]) .ret) .skip)) (.seq (.seq (.region [.m 17 1, .o 18 (.n 17), .o 19 (.c .gtr 18 64)]) (.cond (.tmp 19) (.seq (.region [.k 4 4]) .ret) .skip)) (.seq (.seq (.region [.k 7 0]) (.block 0 [] (.loop [1,5,7] c43L1))) (.seq (.region [.k 4 0]) .ret))))))
def F43:AFun:=⟨c43,2,69,[(.tmp 4)]⟩
def K43:Nat→List Nat×List Nat
 |0=>([1,5,7],[])
 |1=>([],[1,5,7])
 |2=>([1,5,7,8],[1,5,7])
 |3=>([],[1,5,7,8])
 |_=>([],[])
theorem F43_ok:kj8 Try.prog K43 Try.f43=some F43:=by kernel_rfl
/- 44: syndrome/code.pair -/
def c44:ACode:=(.seq (.region [.o 2 (.box 24 3 (.tmp 0)), .o 3 (.box 24 3 (.tmp 1)), .k 4 0]) (.seq (.region [.o 6 (.ld true 3 (.tmp 2)), .o 7 (.q 48 [6]), .m 5 7]) (.seq (.seq (.region [.m 8 5, .o 9 (.c .eql 8 0)]) (.cond (.tmp 9) (.region [.o 10 (.ld true 3 (.tmp 3)), .o 11 (.q 48 [10]), .m 5 11]) .skip)) (.seq (.seq (.region [.m 12 5, .o 13 (.c .eql 12 0), .m 14 13, .g 15 (.f 0 2) 14 true, .g 16 (.l 15) 14 true, .g 17 (.f 0 3) 14 true, .g 18 (.l 17) 14 true, .g 19 (.b .neq 16 18) 14 true, .g 20 (.m 19) 14 true, .g 21 (.f 1 2) 20 false, .g 22 (.l 21) 20 false, .g 23 (.f 1 3) 20 false, .g 24 (.l 23) 20 false, .g 25 (.b .neq 22 24) 20 false, .g 26 (.pick (.tmp 20) (.const (.bool true)) (.tmp 25)) 14 true, .o 27 (.pick (.tmp 14) (.tmp 26) (.const (.bool false)))]) (.cond (.tmp 27) (.region [.k 5 3]) .skip)) (.seq (.region [.m 28 5, .m 4 28]) .ret)))))
def F44:AFun:=⟨c44,2,29,[(.tmp 4)]⟩
def K44:Nat→List Nat×List Nat
 |_=>([],[])
theorem F44_ok:kj8 Try.prog K44 Try.f44=some F44:=by kernel_rfl
/- 45: syndrome/matrix.Reduce -/
def c45L0:ACode:=(.seq (.region [.o 92 (.b .lss 91 90)]) (.seq (.cond (.tmp 92) .skip (.exit 2)) (.seq (.block 3 [1,5,8,10,11,90,91] (.seq (.region [.m 93 91, .m 13 93]) (.seq (.region [.m 94 13, .m 95 11, .o 96 (.b .neq 94 95), .m 97 96, .g 98 (.m 1) 97 true, .g 99 (.m 13) 97 true, .g 100 (.i 1 98 99) 97 true, .g 101 (.l 100) 97 true, .g 102 (.l 10) 97 true, .g 103 (.i 1 101 102) 97 true, .g 104 (.l 103) 97 true, .g 105 (.c .neq 104 0) 97 true, .o 106 (.pick (.tmp 97) (.tmp 105) (.const (.bool false)))]) (.cond (.tmp 106) (.region [.m 107 8, .m 108 1, .m 109 13, .o 110 (.i 1 108 109), .o 111 (.l 110), .m 112 1, .m 113 11, .o 114 (.i 1 112 113), .o 115 (.l 114), .m 116 1, .m 117 13, .o 118 (.i 1 116 117), .o 119 (.l 118), .o 120 (.l 10), .o 121 (.i 1 119 120), .o 122 (.l 121), .o 123 (.q 89 [107,111,115,122])]) .skip)))) (.region [.o 124 (.c .add 91 1), .m 91 124]))))
def c45L1:ACode:=(.seq (.seq (.region [.o 32 (.l 10), .m 33 1, .o 34 (.iaddr 1 (.tmp 33) (.const (.int .i64 0))), .o 35 (.l 34), .o 36 (.n 35), .o 37 (.b .lss 32 36), .m 38 37, .g 39 (.m 5) 38 true, .g 40 (.n 39) 38 true, .g 41 (.m 1) 38 true, .g 42 (.n 41) 38 true, .g 43 (.b .lss 40 42) 38 true, .o 44 (.pick (.tmp 38) (.tmp 43) (.const (.bool false)))]) (.cond (.tmp 44) .skip (.exit 0))) (.seq (.block 1 [1,5,8,10] (.seq (.region [.m 47 5, .o 48 (.n 47), .m 11 48]) (.seq (.region [.m 49 1, .m 50 11, .o 51 (.sl 1 (.tmp 49) (some (.tmp 50)) none), .o 52 (.mkf 86 [(.tmp 10)]), .o 53 (.q 85 [51,52]), .m 12 53]) (.seq (.seq (.region [.m 54 12, .o 55 (.c .lss 54 0)]) (.cond (.tmp 55) (.exit 1) .skip)) (.seq (.region [.m 56 1, .m 57 11, .m 58 1, .m 59 11, .m 60 12, .o 61 (.b .add 59 60), .m 62 1, .m 63 11, .m 64 12, .o 65 (.b .add 63 64), .o 66 (.i 1 62 65), .o 67 (.l 66), .m 68 1, .m 69 11, .o 70 (.i 1 68 69), .o 71 (.l 70), .o 72 (.i 1 56 57), .n (.st 1 (.tmp 72) (.tmp 67)), .o 73 (.i 1 58 61), .n (.st 1 (.tmp 73) (.tmp 71))]) (.seq (.region [.m 74 8, .m 75 1, .m 76 11, .o 77 (.i 1 75 76), .o 78 (.l 77), .m 79 8, .m 80 1, .m 81 11, .o 82 (.i 1 80 81), .o 83 (.l 82), .o 84 (.l 10), .o 85 (.i 1 83 84), .o 86 (.l 85),⟨(some 87),(.call 88 [(.tmp 79),(.tmp 86)]),none,true⟩, .o 88 (.q 87 [74,78,87])]) (.seq (.seq (.region [.m 89 1, .o 90 (.n 89), .k 91 0]) (.block 2 [1,5,8,10] (.loop [1,5,8,10,11,90,91] c45L0))) (.region [.m 125 5, .o 126 (.l 10), .o 127 (.mkSl 3 1 1 [(.tmp 126)]), .o 128 (.app 3 1 8 (.tmp 125) (.tmp 127)), .m 5 128])))))))) (.seq (.seq (.region [.o 129 (.l 10)]) (.region [.o 10 (.alloc 3 [(.int .i64 0)]), .n (.st 1 (.tmp 10) (.tmp 129))])) (.region [.o 45 (.l 10), .o 46 (.c .add 45 1), .n (.st 1 (.tmp 10) (.tmp 46))]))))
def c45:ACode:=(.seq (.region [.o 4 (.mv (.const (.slice none 0 0))), .o 5 (.mv (.const (.slice none 0 0))), .k 6 0]) (.seq (.seq (.region [.m 14 0, .m 15 1, .o 16 (.q 83 [14,15]), .m 7 16]) (.seq (.region [.m 17 7, .o 18 (.c .neq 17 0), .m 19 18, .g 20 (.m 1) 19 false, .g 21 (.n 20) 19 false, .g 22 (.c .eql 21 0) 19 false, .o 23 (.pick (.tmp 19) (.const (.bool true)) (.tmp 22))]) (.cond (.tmp 23) (.seq (.region [.m 24 7, .o 4 (.mv (.const (.slice none 0 0))), .o 5 (.mv (.const (.slice none 0 0))), .m 6 24]) .ret) .skip))) (.seq (.region [.m 26 0, .o 27 (.q 51 [26]), .m 25 27, .o 28 (.e 0 25), .o 29 (.e 1 25), .m 8 28, .m 9 29]) (.seq (.region [.m 30 1, .o 31 (.q 84 [30]), .m 1 31]) (.seq (.seq (.region [.o 10 (.alloc 3 [(.int .i64 0)]), .n (.st 1 (.tmp 10) (.const (.int .i64 0)))]) (.block 0 [1,5] (.loop [1,5,8,10] c45L1))) (.seq (.region [.m 130 1, .m 131 5, .o 132 (.n 131), .m 133 5, .o 134 (.n 133), .o 135 (.sl3 (.tmp 130) (.tmp 132) (.tmp 134)), .m 136 5, .m 4 135, .m 5 136, .k 6 0]) .ret))))))
def F45:AFun:=⟨c45,2,137,[(.tmp 4),(.tmp 5),(.tmp 6)]⟩
def K45:Nat→List Nat×List Nat
 |0=>([1,5,8,10],[1,5])
 |1=>([],[1,5,8,10])
 |2=>([1,5,8,10,11,90,91],[1,5,8,10])
 |3=>([],[1,5,8,10,11,90,91])
 |_=>([],[])
theorem F45_ok:kj8 Try.prog K45 Try.f45=some F45:=by kernel_rfl
/- 46: (syndrome/syndromeref.F).Reduce -/
def c46L0:ACode:=(.seq (.seq (.region [.m 27 10, .m 28 6, .o 29 (.n 28), .o 30 (.b .lss 27 29)]) (.cond (.tmp 30) .skip (.exit 2))) (.seq (.block 3 [1,2,6,7,8,9,10] (.region [.o 33 (.ld true 5 (.tmp 2)), .m 34 9, .m 35 6, .m 36 10, .o 37 (.i 1 35 36), .o 38 (.l 37), .m 39 9, .m 40 7, .m 41 10, .o 42 (.i 1 40 41), .o 43 (.l 42), .o 44 (.i 1 39 43), .o 45 (.l 44), .o 46 (.q 90 [33,34,38,45]), .m 9 46])) (.region [.m 31 10, .o 32 (.c .add 31 1), .m 10 32])))
def c46L1:ACode:=(.seq (.seq (.region [.m 47 11, .m 48 9, .o 49 (.n 48), .o 50 (.b .lss 47 49), .m 51 50, .g 52 (.m 9) 51 true, .g 53 (.m 11) 51 true, .g 54 (.i 1 52 53) 51 true, .g 55 (.l 54) 51 true, .g 56 (.c .eql 55 0) 51 true, .o 57 (.pick (.tmp 51) (.tmp 56) (.const (.bool false)))]) (.cond (.tmp 57) .skip (.exit 4))) (.block 5 [1,2,6,7,8,9,11] (.region [.m 58 11, .o 59 (.c .add 58 1), .m 11 59])))
def c46L2:ACode:=(.seq (.seq (.region [.m 70 13, .m 71 9, .o 72 (.n 71), .o 73 (.b .lss 70 72)]) (.cond (.tmp 73) .skip (.exit 6))) (.seq (.block 7 [1,2,6,7,8,9,11,12,13] (.region [.m 76 9, .m 77 13, .o 78 (.ld true 5 (.tmp 2)), .m 79 9, .m 80 13, .o 81 (.i 1 79 80), .o 82 (.l 81), .m 83 12, .o 84 (.q 76 [78,82,83]), .o 85 (.i 1 76 77), .n (.st 1 (.tmp 85) (.tmp 84))])) (.region [.m 74 13, .o 75 (.c .add 74 1), .m 13 75])))
def c46L3:ACode:=(.seq (.seq (.region [.m 86 14, .m 87 6, .o 88 (.n 87), .o 89 (.b .lss 86 88)]) (.cond (.tmp 89) .skip (.exit 8))) (.seq (.block 9 [1,2,6,7,8,9,11,14] (.region [.m 92 6, .m 93 14, .o 94 (.ld true 5 (.tmp 2)), .m 95 6, .m 96 14, .o 97 (.i 1 95 96), .o 98 (.l 97), .m 99 9, .m 100 6, .m 101 14, .o 102 (.i 1 100 101), .o 103 (.l 102), .m 104 11, .o 105 (.i 1 103 104), .o 106 (.l 105), .o 107 (.q 90 [94,98,99,106]), .o 108 (.i 1 92 93), .n (.st 1 (.tmp 108) (.tmp 107))])) (.region [.m 90 14, .o 91 (.c .add 90 1), .m 14 91])))
def c46L4:ACode:=(.seq (.seq (.region [.m 109 15, .m 110 6, .o 111 (.n 110), .o 112 (.b .lss 109 111), .m 113 112, .g 114 (.m 7) 113 true, .g 115 (.m 15) 113 true, .g 116 (.i 1 114 115) 113 true, .g 117 (.l 116) 113 true, .g 118 (.m 11) 113 true, .g 119 (.b .lss 117 118) 113 true, .o 120 (.pick (.tmp 113) (.tmp 119) (.const (.bool false)))]) (.cond (.tmp 120) .skip (.exit 10))) (.block 11 [1,2,6,7,8,9,11,15] (.region [.m 121 15, .o 122 (.c .add 121 1), .m 15 122])))
def c46L5:ACode:=(.seq (.seq (.region [.m 16 8, .m 17 1, .o 18 (.n 17), .o 19 (.b .lss 16 18)]) (.cond (.tmp 19) .skip (.exit 0))) (.seq (.block 1 [1,2,6,7,8] (.seq (.region [.m 22 1, .m 23 8, .o 24 (.i 1 22 23), .o 25 (.l 24), .o 26 (.q 69 [25]), .m 9 26]) (.seq (.seq (.region [.k 10 0]) (.block 2 [1,2,6,7,8,9] (.loop [1,2,6,7,8,9,10] c46L0))) (.seq (.region [.k 11 0]) (.seq (.block 4 [1,2,6,7,8,9,11] (.loop [1,2,6,7,8,9,11] c46L1)) (.seq (.seq (.region [.m 60 11, .m 61 9, .o 62 (.n 61), .o 63 (.b .eql 60 62)]) (.cond (.tmp 63) (.exit 1) .skip)) (.seq (.region [.o 64 (.ld true 5 (.tmp 2)), .m 65 9, .m 66 11, .o 67 (.i 1 65 66), .o 68 (.l 67), .o 69 (.q 91 [64,68]), .m 12 69]) (.seq (.seq (.region [.k 13 0]) (.block 6 [1,2,6,7,8,9,11] (.loop [1,2,6,7,8,9,11,12,13] c46L2))) (.seq (.seq (.region [.k 14 0]) (.block 8 [1,2,6,7,8,9,11] (.loop [1,2,6,7,8,9,11,14] c46L3))) (.seq (.region [.k 15 0]) (.seq (.block 10 [1,2,6,7,8,9,11,15] (.loop [1,2,6,7,8,9,11,15] c46L4)) (.seq (.region [.o 123 (.mkSl 34 1 0 []), .m 124 6, .m 125 15, .o 126 (.sl 1 (.tmp 124) none (some (.tmp 125))), .o 127 (.app 34 1 24 (.tmp 123) (.tmp 126)), .m 128 9, .o 129 (.mkSl 34 1 1 [(.tmp 128)]), .o 130 (.app 34 1 24 (.tmp 127) (.tmp 129)), .m 131 6, .m 132 15, .o 133 (.sl 1 (.tmp 131) (some (.tmp 132)) none), .o 134 (.app 34 1 24 (.tmp 130) (.tmp 133)), .m 6 134]) (.region [.o 135 (.mkSl 3 1 0 []), .m 136 7, .m 137 15, .o 138 (.sl 1 (.tmp 136) none (some (.tmp 137))), .o 139 (.app 3 1 8 (.tmp 135) (.tmp 138)), .m 140 11, .o 141 (.mkSl 3 1 1 [(.tmp 140)]), .o 142 (.app 3 1 8 (.tmp 139) (.tmp 141)), .m 143 7, .m 144 15, .o 145 (.sl 1 (.tmp 143) (some (.tmp 144)) none), .o 146 (.app 3 1 8 (.tmp 142) (.tmp 145)), .m 7 146]))))))))))))) (.region [.m 20 8, .o 21 (.c .add 20 1), .m 8 21])))
def c46:ACode:=(.seq (.region [.o 2 (.box 58 5 (.tmp 0)), .o 4 (.mv (.const (.slice none 0 0))), .o 5 (.mv (.const (.slice none 0 0)))]) (.seq (.region [.o 6 (.mv (.const (.slice none 0 0)))]) (.seq (.region [.o 7 (.mv (.const (.slice none 0 0)))]) (.seq (.seq (.region [.k 8 0]) (.block 0 [6,7] (.loop [1,2,6,7,8] c46L5))) (.seq (.region [.m 147 6, .m 148 7, .m 4 147, .m 5 148]) .ret)))))
def F46:AFun:=⟨c46,2,149,[(.tmp 4),(.tmp 5)]⟩
def K46:Nat→List Nat×List Nat
 |0=>([1,2,6,7,8],[6,7])
 |1=>([],[1,2,6,7,8])
 |2=>([1,2,6,7,8,9,10],[1,2,6,7,8,9])
 |3=>([],[1,2,6,7,8,9,10])
 |4=>([1,2,6,7,8,9,11],[1,2,6,7,8,9,11])
 |5=>([],[1,2,6,7,8,9,11])
 |6=>([1,2,6,7,8,9,11,12,13],[1,2,6,7,8,9,11])
 |7=>([],[1,2,6,7,8,9,11,12,13])
 |8=>([1,2,6,7,8,9,11,14],[1,2,6,7,8,9,11])
 |9=>([],[1,2,6,7,8,9,11,14])
 |10=>([1,2,6,7,8,9,11,15],[1,2,6,7,8,9,11,15])
 |11=>([],[1,2,6,7,8,9,11,15])
 |_=>([],[])
theorem F46_ok:kj8 Try.prog K46 Try.f46=some F46:=by kernel_rfl
/- 47: syndrome/syndromeref.DualOf -/
def c47:ACode:=(.seq (.region [.o 1 (.box 24 3 (.tmp 0)), .o 2 (.alloc 24 [(.int .i64 0),(.int .i64 0),(.slice none 0 0)])]) (.seq (.region [.o 6 (.f 0 1), .o 7 (.l 6), .o 8 (.q 32 [7]), .m 5 8, .o 9 (.e 0 5), .o 10 (.e 1 5), .o 3 (.alloc 58 [(.int .i64 0),(.int .i64 0),(.int .i64 0),(.int .i64 0),(.slice none 0 0)]), .n (.st 5 (.tmp 3) (.tmp 9)), .m 4 10]) (.seq (.region [.o 11 (.f 0 1), .o 12 (.l 11), .o 13 (.f 1 1), .o 14 (.l 13), .o 15 (.ld true 5 (.tmp 3)), .o 16 (.f 2 1), .o 17 (.l 16), .o 18 (.f 1 1), .o 19 (.l 18),⟨(some 20),(.call 77 [(.tmp 15),(.tmp 17),(.tmp 19)]),none,true⟩, .o 21 (.build [(.int .i64 0),(.int .i64 0),(.slice none 0 0)] [(0,1),(1,1),(2,1)] [(0,(.tmp 12)),(1,(.tmp 14)),(2,(.tmp 20))]), .n (.st 3 (.tmp 2) (.tmp 21))]) .ret)))
def F47:AFun:=⟨c47,1,22,[(.cell 2 true 3)]⟩
def K47:Nat→List Nat×List Nat
 |_=>([],[])
theorem F47_ok:kj8 Try.prog K47 Try.f47=some F47:=by kernel_rfl
/- 48: syndrome/code.Check -/
def c48:ACode:=(.seq (.region [.o 1 (.box 24 3 (.tmp 0)), .k 2 0]) (.seq (.seq (.region [.o 7 (.f 0 1), .o 8 (.l 7), .o 9 (.q 51 [8]), .m 6 9, .o 10 (.e 0 6), .o 11 (.e 1 6), .m 3 10, .m 4 11]) (.seq (.region [.m 12 4, .o 13 (.c .neq 12 0)]) (.cond (.tmp 13) (.seq (.region [.m 14 4, .m 2 14]) .ret) .skip))) (.seq (.seq (.region [.o 15 (.f 1 1), .o 16 (.l 15), .o 17 (.c .lss 16 1), .m 18 17, .g 19 (.f 1 1) 18 false, .g 20 (.l 19) 18 false, .g 21 (.c .gtr 20 64) 18 false, .o 22 (.pick (.tmp 18) (.const (.bool true)) (.tmp 21))]) (.cond (.tmp 22) (.seq (.region [.k 2 4]) .ret) .skip)) (.seq (.seq (.region [.o 23 (.f 0 1), .o 24 (.l 23), .o 25 (.f 2 1), .o 26 (.l 25), .o 27 (.q 83 [24,26]), .m 5 27]) (.seq (.region [.m 28 5, .o 29 (.c .neq 28 0)]) (.cond (.tmp 29) (.seq (.region [.m 30 5, .m 2 30]) .ret) .skip))) (.seq (.seq (.region [.o 31 (.f 2 1), .o 32 (.l 31), .o 33 (.n 32), .o 34 (.c .gtr 33 0), .m 35 34, .g 36 (.f 2 1) 35 true, .g 37 (.l 36) 35 true, .g 38 (.iaddr 1 (.tmp 37) (.const (.int .i64 0))) 35 true, .g 39 (.l 38) 35 true, .g 40 (.n 39) 35 true, .g 41 (.f 1 1) 35 true, .g 42 (.l 41) 35 true, .g 43 (.b .neq 40 42) 35 true, .o 44 (.pick (.tmp 35) (.tmp 43) (.const (.bool false)))]) (.cond (.tmp 44) (.seq (.region [.k 2 3]) .ret) .skip)) (.seq (.region [.k 2 0]) .ret))))))
def F48:AFun:=⟨c48,1,45,[(.tmp 2)]⟩
def K48:Nat→List Nat×List Nat
 |_=>([],[])
theorem F48_ok:kj8 Try.prog K48 Try.f48=some F48:=by kernel_rfl
/- 49: syndrome/matrix.Null -/
def c49L0:ACode:=(.seq (.region [.o 57 (.b .lss 56 55)]) (.seq (.cond (.tmp 57) .skip (.exit 2)) (.seq (.block 3 [0,1,6,7,9,11,12,13,39,40,54,55,56] (.seq (.region [.m 58 56, .o 59 (.i 1 54 56), .o 60 (.l 59), .m 14 58, .m 15 60]) (.region [.m 61 13, .m 62 15, .m 63 9, .m 64 6, .m 65 14, .o 66 (.i 1 64 65), .o 67 (.l 66), .m 68 12, .o 69 (.i 1 67 68), .o 70 (.l 69), .o 71 (.q 92 [63,70]), .o 72 (.i 1 61 62), .n (.st 1 (.tmp 72) (.tmp 71))]))) (.region [.o 73 (.c .add 56 1), .m 56 73]))))
def c49L1:ACode:=(.seq (.region [.o 41 (.b .lss 40 39)]) (.seq (.cond (.tmp 41) .skip (.exit 0)) (.seq (.block 1 [0,1,6,7,9,11,39,40] (.seq (.region [.m 42 40, .m 12 42]) (.seq (.seq (.region [.m 43 7, .m 44 12, .o 45 (.q 61 [43,44])]) (.cond (.tmp 45) (.exit 1) .skip)) (.seq (.region [.m 46 1, .o 47 (.iaddr 1 (.tmp 46) (.const (.int .i64 0))), .o 48 (.l 47), .o 49 (.n 48), .o 50 (.mks 3 1 8 [(.int .i64 0)] (.tmp 49) (.tmp 49)), .m 13 50]) (.seq (.region [.m 51 13, .m 52 12, .o 53 (.i 1 51 52), .n (.st 1 (.tmp 53) (.const (.int .i64 1)))]) (.seq (.seq (.region [.m 54 7, .o 55 (.n 54), .k 56 0]) (.block 2 [0,1,6,7,9,11,13,39,40] (.loop [0,1,6,7,9,11,12,13,39,40,54,55,56] c49L0))) (.region [.m 74 11, .m 75 13, .o 76 (.mkSl 34 1 1 [(.tmp 75)]), .o 77 (.app 34 1 24 (.tmp 74) (.tmp 76)), .m 11 77]))))))) (.region [.o 78 (.c .add 40 1), .m 40 78]))))
def c49:ACode:=(.seq (.region [.o 4 (.mv (.const (.slice none 0 0))), .k 5 0]) (.seq (.region [.m 17 0, .m 18 1, .o 19 (.q 45 [17,18]), .m 16 19, .o 20 (.e 0 16), .o 21 (.e 1 16), .o 22 (.e 2 16), .m 6 20, .m 7 21, .m 8 22]) (.seq (.seq (.region [.m 23 8, .o 24 (.c .neq 23 0), .m 25 24, .g 26 (.m 1) 25 false, .g 27 (.n 26) 25 false, .g 28 (.c .eql 27 0) 25 false, .o 29 (.pick (.tmp 25) (.const (.bool true)) (.tmp 28))]) (.cond (.tmp 29) (.seq (.region [.m 30 8, .o 4 (.mv (.const (.slice none 0 0))), .m 5 30]) .ret) .skip)) (.seq (.region [.m 32 0, .o 33 (.q 51 [32]), .m 31 33, .o 34 (.e 0 31), .o 35 (.e 1 31), .m 9 34, .m 10 35]) (.seq (.region [.o 11 (.mv (.const (.slice none 0 0)))]) (.seq (.seq (.region [.m 36 1, .o 37 (.iaddr 1 (.tmp 36) (.const (.int .i64 0))), .o 38 (.l 37), .o 39 (.n 38), .k 40 0]) (.block 0 [0,11] (.loop [0,1,6,7,9,11,39,40] c49L1))) (.seq (.region [.m 80 0, .m 81 11, .o 82 (.q 45 [80,81]), .m 79 82, .o 83 (.e 0 79), .o 84 (.e 1 79), .o 85 (.e 2 79), .m 11 83]) (.seq (.region [.m 86 11, .m 4 86, .k 5 0]) .ret))))))))
def F49:AFun:=⟨c49,2,87,[(.tmp 4),(.tmp 5)]⟩
def K49:Nat→List Nat×List Nat
 |0=>([0,1,6,7,9,11,39,40],[0,11])
 |1=>([],[0,1,6,7,9,11,39,40])
 |2=>([0,1,6,7,9,11,12,13,39,40,54,55,56],[0,1,6,7,9,11,13,39,40])
 |3=>([],[0,1,6,7,9,11,12,13,39,40,54,55,56])
 |_=>([],[])
theorem F49_ok:kj8 Try.prog K49 Try.f49=some F49:=by kernel_rfl
/- 50: syndrome/syndromeref.SameAll -/
def c50L0:ACode:=(.seq (.seq (.region [.m 11 5, .m 12 0, .o 13 (.n 12), .o 14 (.b .lss 11 13)]) (.cond (.tmp 14) .skip (.exit 0))) (.seq (.block 1 [0,1,5] (.seq (.region [.m 17 0, .m 18 5, .o 19 (.i 1 17 18), .o 20 (.l 19), .m 21 1, .m 22 5, .o 23 (.i 1 21 22), .o 24 (.l 23), .o 25 (.q 27 [20,24]), .o 26 (.un .not (.tmp 25))]) (.cond (.tmp 26) (.seq (.region [.o 4 (.mv (.const (.bool false)))]) .ret) .skip))) (.region [.m 15 5, .o 16 (.c .add 15 1), .m 5 16])))
def c50:ACode:=(.seq (.region [.o 4 (.mv (.const (.bool false)))]) (.seq (.seq (.region [.m 6 0, .o 7 (.n 6), .m 8 1, .o 9 (.n 8), .o 10 (.b .neq 7 9)]) (.cond (.tmp 10) (.seq (.region [.o 4 (.mv (.const (.bool false)))]) .ret) .skip)) (.seq (.seq (.region [.k 5 0]) (.block 0 [] (.loop [0,1,5] c50L0))) (.seq (.region [.o 4 (.mv (.const (.bool true)))]) .ret))))
def F50:AFun:=⟨c50,2,27,[(.tmp 4)]⟩
def K50:Nat→List Nat×List Nat
 |0=>([0,1,5],[])
 |1=>([],[0,1,5])
 |_=>([],[])
theorem F50_ok:kj8 Try.prog K50 Try.f50=some F50:=by kernel_rfl
/- 51: syndrome/field.New -/
def oi4:List Value:=[(.int .u32 0),(.int .i32 0),(.int .u32 0),(.int .u32 0),(.int .i32 0),(.int .u32 0),(.int .u32 0),(.int .i32 0),(.int .u32 0),(.int .u32 0),(.int .i32 0),(.int .u32 0),(.int .u32 0),(.int .i32 0),(.int .u32 0),(.int .u32 0),(.int .i32 0),(.int .u32 0),(.int .u32 0),(.int .i32 0),(.int .u32 0),(.int .u32 0),(.int .i32 0),(.int .u32 0),(.int .u32 0),(.int .i32 0),(.int .u32 0),(.int .u32 0),(.int .i32 0),(.int .u32 0),(.int .u32 0),(.int .i32 0),(.int .u32 0),(.int .u32 0),(.int .i32 0),(.int .u32 0),(.int .u32 0),(.int .i32 0),(.int .u32 0),(.int .u32 0),(.int .i32 0),(.int .u32 0),(.int .u32 0),(.int .i32 0),(.int .u32 0),(.int .u32 0),(.int .i32 0),(.int .u32 0),(.int .u32 0),(.int .i32 0),(.int .u32 0),(.int .u32 0),(.int .i32 0),(.int .u32 0),(.int .u32 0),(.int .i32 0),(.int .u32 0),(.int .u32 0),(.int .i32 0),(.int .u32 0),(.int .u32 0),(.int .i32 0),(.int .u32 0),(.int .u32 0),(.int .i32 0),(.int .u32 0),(.int .u32 0),(.int .i32 0),(.int .u32 0),(.int .u32 0),(.int .i32 0),(.int .u32 0),(.int .u32 0),(.int .i32 0),(.int .u32 0),(.int .u32 0),(.int .i32 0),(.int .u32 0),(.int .u32 0),(.int .i32 0),(.int .u32 0),(.int .u32 0),(.int .i32 0),(.int .u32 0),(.int .u32 0),(.int .i32 0),(.int .u32 0),(.int .u32 0),(.int .i32 0),(.int .u32 0),(.int .u32 0),(.int .i32 0),(.int .u32 0),(.int .u32 0),(.int .i32 0),(.int .u32 0),(.int .u32 0),(.int .i32 0),(.int .u32 0),(.int .u32 0),(.int .i32 0),(.int .u32 0),(.int .u32 0),(.int .i32 0),(.int .u32 0),(.int .u32 0),(.int .i32 0),(.int .u32 0),(.int .u32 0),(.int .i32 0),(.int .u32 0),(.int .u32 0),(.int .i32 0),(.int .u32 0),(.int .u32 0),(.int .i32 0),(.int .u32 0),(.int .u32 0),(.int .i32 0),(.int .u32 0),(.int .u32 0),(.int .i32 0),(.int .u32 0),(.int .u32 0),(.int .i32 0),(.int .u32 0),(.int .u32 0),(.int .i32 0),(.int .u32 0),(.int .u32 0),(.int .i32 0),(.int .u32 0),(.int .u32 0),(.int .i32 0),(.int .u32 0),(.int .u32 0),(.int .i32 0),(.int .u32 0),(.int .u32 0),(.int .i32 0),(.int .u32 0),(.int .u32 0),(.int .i32 0),(.int .u32 0),(.int .u32 0),(.int .i32 0),(.int .u32 0),(.int .u32 0),(.int .i32 0),(.int .u32 0),(.int .u32 0),(.int .i32 0),(.int .u32 0),(.int .u32 0),(.int .i32 0),(.int .u32 0),(.int .u32 0),(.int .i32 0),(.int .u32 0),(.int .u32 0),(.int .i32 0),(.int .u32 0),(.int .u32 0),(.int .i32 0),(.int .u32 0),(.int .u32 0),(.int .i32 0),(.int .u32 0),(.int .u32 0),(.int .i32 0),(.int .u32 0),(.int .u32 0),(.int .i32 0),(.int .u32 0),(.int .u32 0),(.int .i32 0),(.int .u32 0),(.int .u32 0),(.int .i32 0),(.int .u32 0),(.int .u32 0),(.int .i32 0),(.int .u32 0),(.int .u32 0),(.int .i32 0),(.int .u32 0),(.int .u32 0),(.int .i32 0),(.int .u32 0),(.int .u32 0),(.int .i32 0),(.int .u32 0),(.int .u32 0),(.int .i32 0),(.int .u32 0),(.pointer none),(.pointer none),(.pointer none),(.pointer none),(.pointer none),(.pointer none),(.pointer none),(.pointer none),(.pointer none),(.pointer none),(.pointer none),(.pointer none),(.pointer none),(.pointer none),(.pointer none),(.pointer none),(.pointer none),(.pointer none),(.pointer none),(.pointer none),(.pointer none),(.pointer none),(.pointer none),(.pointer none),(.pointer none),(.pointer none),(.pointer none),(.pointer none),(.pointer none),(.pointer none),(.pointer none),(.pointer none),(.pointer none),(.pointer none),(.pointer none),(.pointer none),(.pointer none),(.pointer none),(.pointer none),(.pointer none),(.pointer none),(.pointer none),(.pointer none),(.pointer none),(.pointer none),(.pointer none),(.pointer none),(.pointer none),(.pointer none),(.pointer none),(.pointer none),(.pointer none),(.pointer none),(.pointer none),(.pointer none),(.pointer none),(.pointer none),(.pointer none),(.pointer none),(.pointer none),(.pointer none),(.pointer none),(.pointer none),(.pointer none),(.pointer none)]
def c51:ACode:=(.seq (.region [.o 1 (.box 3 1 (.tmp 0)), .o 2 (.mv (.const (.pointer none))), .k 3 0]) (.seq (.seq (.region [.o 5 (.l 1), .o 6 (.c .lss 5 2), .m 7 6, .g 8 (.l 1) 7 false, .g 9 (.c .gtr 8 64) 7 false, .o 10 (.pick (.tmp 7) (.const (.bool true)) (.tmp 9))]) (.cond (.tmp 10) (.seq (.region [.o 2 (.mv (.const (.pointer none))), .k 3 1]) .ret) .skip)) (.seq (.region [.o 4 (.alloc 132 oi4)]) (.seq (.region [.o 11 (.l 1), .o 12 (.f 0 4), .o 13 (.iaddrA 65 3 (.tmp 12) (.tmp 11)), .o 14 (.mkf 94 [(.tmp 1),(.tmp 4)]), .o 15 (.q 93 [13,14])]) (.seq (.seq (.region [.o 16 (.l 1), .o 17 (.f 195 4), .o 18 (.iaddrA 65 1 (.tmp 17) (.tmp 16)), .o 19 (.l 18), .o 20 (.eqn false 1 (.tmp 19))]) (.cond (.tmp 20) (.seq (.region [.o 2 (.mv (.const (.pointer none))), .k 3 1]) .ret) .skip)) (.seq (.region [.o 21 (.l 1), .o 22 (.f 195 4), .o 23 (.iaddrA 65 1 (.tmp 22) (.tmp 21)), .o 24 (.l 23), .m 2 24, .k 3 0]) .ret))))))
def F51:AFun:=⟨c51,1,25,[(.tmp 2),(.tmp 3)]⟩
def K51:Nat→List Nat×List Nat
 |_=>([],[])
theorem F51_ok:kj8 Try.prog K51 Try.f51=some F51:=by kernel_rfl
/- 58: (*syndrome/field.Field).Add -/
def c58L0:ACode:=(.seq (.region [.o 24 (.b .lss 23 22)]) (.seq (.cond (.tmp 24) .skip (.exit 0)) (.seq (.block 1 [0,1,2,7,8,22,23] (.seq (.region [.m 25 7, .m 26 1, .m 27 0, .o 28 (.nilck (.tmp 27)), .o 29 (.f 1 28), .o 30 (.l 29), .o 31 (.b .rem 26 30), .m 32 2, .m 33 0, .o 34 (.nilck (.tmp 33)), .o 35 (.f 1 34), .o 36 (.l 35), .o 37 (.b .rem 32 36), .o 38 (.b .add 31 37), .m 39 0, .o 40 (.nilck (.tmp 39)), .o 41 (.f 1 40), .o 42 (.l 41), .o 43 (.b .rem 38 42), .m 44 8, .o 45 (.b .mul 43 44), .o 46 (.b .add 25 45), .m 7 46]) (.region [.m 47 1, .m 48 0, .o 49 (.nilck (.tmp 48)), .o 50 (.f 1 49), .o 51 (.l 50), .o 52 (.b .quo 47 51), .m 53 2, .m 54 0, .o 55 (.nilck (.tmp 54)), .o 56 (.f 1 55), .o 57 (.l 56), .o 58 (.b .quo 53 57), .m 59 8, .m 60 0, .o 61 (.nilck (.tmp 60)), .o 62 (.f 1 61), .o 63 (.l 62), .o 64 (.b .mul 59 63), .m 1 52, .m 2 58, .m 8 64]))) (.region [.o 65 (.c .add 23 1), .m 23 65]))))
def c58:ACode:=(.seq (.region [.k 6 0]) (.seq (.seq (.region [.m 9 0, .m 10 1, .o 11 (.q 98 [9,10]), .o 12 (.un .not (.tmp 11)), .m 13 12, .g 14 (.m 0) 13 false, .g 15 (.m 2) 13 false, .g 16 (.q 98 [14,15]) 13 false, .g 17 (.un .not (.tmp 16)) 13 false, .o 18 (.pick (.tmp 13) (.const (.bool true)) (.tmp 17))]) (.cond (.tmp 18) (.seq (.region [.k 6 (-1)]) .ret) .skip)) (.seq (.region [.k 7 0, .k 8 1]) (.seq (.seq (.region [.m 19 0, .o 20 (.nilck (.tmp 19)), .o 21 (.f 2 20), .o 22 (.l 21), .k 23 0]) (.block 0 [7] (.loop [0,1,2,7,8,22,23] c58L0))) (.seq (.region [.m 66 7, .m 6 66]) .ret)))))
def F58:AFun:=⟨c58,3,67,[(.tmp 6)]⟩
def K58:Nat→List Nat×List Nat
 |0=>([0,1,2,7,8,22,23],[7])
 |1=>([],[0,1,2,7,8,22,23])
 |_=>([],[])
theorem F58_ok:kj8 Try.prog K58 Try.f58=some F58:=by kernel_rfl
/- 60: (*syndrome/field.Field).Mul -/
def c60:ACode:=(.seq (.region [.k 6 0]) (.seq (.seq (.region [.m 7 0, .m 8 1, .o 9 (.q 98 [7,8]), .o 10 (.un .not (.tmp 9)), .m 11 10, .g 12 (.m 0) 11 false, .g 13 (.m 2) 11 false, .g 14 (.q 98 [12,13]) 11 false, .g 15 (.un .not (.tmp 14)) 11 false, .o 16 (.pick (.tmp 11) (.const (.bool true)) (.tmp 15))]) (.cond (.tmp 16) (.seq (.region [.k 6 (-1)]) .ret) .skip)) (.seq (.seq (.region [.m 17 1, .o 18 (.c .eql 17 0), .m 19 18, .g 20 (.m 2) 19 false, .g 21 (.c .eql 20 0) 19 false, .o 22 (.pick (.tmp 19) (.const (.bool true)) (.tmp 21))]) (.cond (.tmp 22) (.seq (.region [.k 6 0]) .ret) .skip)) (.seq (.region [.m 23 0, .o 24 (.nilck (.tmp 23)), .o 25 (.f 5 24), .o 26 (.l 25), .m 27 0, .o 28 (.nilck (.tmp 27)), .o 29 (.f 6 28), .o 30 (.l 29), .m 31 1, .o 32 (.i 1 30 31), .o 33 (.l 32), .m 34 0, .o 35 (.nilck (.tmp 34)), .o 36 (.f 6 35), .o 37 (.l 36), .m 38 2, .o 39 (.i 1 37 38), .o 40 (.l 39), .o 41 (.b .add 33 40), .m 42 0, .o 43 (.nilck (.tmp 42)), .o 44 (.f 0 43), .o 45 (.l 44), .o 46 (.c .sub 45 1), .o 47 (.b .rem 41 46), .o 48 (.i 1 26 47), .o 49 (.l 48), .m 6 49]) .ret))))
def F60:AFun:=⟨c60,3,50,[(.tmp 6)]⟩
def K60:Nat→List Nat×List Nat
 |_=>([],[])
theorem F60_ok:kj8 Try.prog K60 Try.f60=some F60:=by kernel_rfl
/- 61: slices.Contains[[]int,int] -/
def c61:ACode:=(.seq (.region [.o 4 (.mv (.const (.bool false)))]) (.seq (.region [.m 5 0, .m 6 1, .o 7 (.q 102 [5,6]), .o 8 (.c .geq 7 0), .m 4 8]) .ret))
def F61:AFun:=⟨c61,2,9,[(.tmp 4)]⟩
def K61:Nat→List Nat×List Nat
 |_=>([],[])
theorem F61_ok:kj8 Try.prog K61 Try.f61=some F61:=by kernel_rfl
/- 64: syndrome/syndromeref.In -/
def c64L0:ACode:=(.seq (.seq (.region [.m 6 5, .m 7 1, .o 8 (.n 7), .o 9 (.b .lss 6 8)]) (.cond (.tmp 9) .skip (.exit 0))) (.seq (.block 1 [0,1,5] (.seq (.region [.m 12 1, .m 13 5, .o 14 (.i 1 12 13), .o 15 (.l 14), .m 16 0, .o 17 (.b .eql 15 16)]) (.cond (.tmp 17) (.seq (.region [.o 4 (.mv (.const (.bool true)))]) .ret) .skip))) (.region [.m 10 5, .o 11 (.c .add 10 1), .m 5 11])))
def c64:ACode:=(.seq (.region [.o 4 (.mv (.const (.bool false)))]) (.seq (.seq (.region [.k 5 0]) (.block 0 [] (.loop [0,1,5] c64L0))) (.seq (.region [.o 4 (.mv (.const (.bool false)))]) .ret)))
def F64:AFun:=⟨c64,2,18,[(.tmp 4)]⟩
def K64:Nat→List Nat×List Nat
 |0=>([0,1,5],[])
 |1=>([],[0,1,5])
 |_=>([],[])
theorem F64_ok:kj8 Try.prog K64 Try.f64=some F64:=by kernel_rfl
/- 65: syndrome/syndromeref.Prime -/
def c65L0:ACode:=(.seq (.seq (.region [.m 15 0, .m 16 4, .o 17 (.b .rem 15 16), .o 18 (.c .eql 17 0)]) (.cond (.tmp 18) .skip (.exit 2))) (.block 3 [0,4,5] (.seq (.region [.m 19 0, .m 20 4, .o 21 (.b .quo 19 20), .m 0 21]) (.region [.m 22 5, .o 23 (.c .add 22 1), .m 5 23]))))
def c65L1:ACode:=(.seq (.seq (.region [.m 6 4, .m 7 0, .o 8 (.b .leq 6 7)]) (.cond (.tmp 8) .skip (.exit 0))) (.seq (.block 1 [0,4] (.seq (.seq (.region [.m 11 0, .m 12 4, .o 13 (.b .rem 11 12), .o 14 (.c .neq 13 0)]) (.cond (.tmp 14) (.exit 1) .skip)) (.seq (.region [.k 5 0]) (.seq (.block 2 [0,4,5] (.loop [0,4,5] c65L0)) (.seq (.seq (.region [.m 24 0, .o 25 (.c .eql 24 1)]) (.cond (.tmp 25) (.seq (.region [.m 26 4, .m 27 5, .m 2 26, .m 3 27]) .ret) .skip)) (.seq (.region [.k 2 0, .k 3 0]) .ret)))))) (.region [.m 9 4, .o 10 (.c .add 9 1), .m 4 10])))
def c65:ACode:=(.seq (.region [.k 2 0, .k 3 0]) (.seq (.seq (.region [.k 4 2]) (.block 0 [] (.loop [0,4] c65L1))) (.seq (.region [.k 2 0, .k 3 0]) .ret)))
def F65:AFun:=⟨c65,1,28,[(.tmp 2),(.tmp 3)]⟩
def K65:Nat→List Nat×List Nat
 |0=>([0,4],[])
 |1=>([],[0,4])
 |2=>([0,4,5],[0,4,5])
 |3=>([],[0,4,5])
 |_=>([],[])
theorem F65_ok:kj8 Try.prog K65 Try.f65=some F65:=by kernel_rfl
/- 66: syndrome/syndromeref.full -/
def c66L0:ACode:=(.seq (.seq (.region [.m 11 7, .o 12 (.f 0 2), .o 13 (.l 12), .o 14 (.c .sub 13 1), .o 15 (.b .lss 11 14)]) (.cond (.tmp 15) .skip (.exit 0))) (.seq (.block 1 [1,2,5,6,7] (.seq (.seq (.region [.m 18 6, .o 19 (.c .eql 18 0), .m 20 19, .g 21 (.m 5) 20 false, .g 22 (.m 6) 20 false, .g 23 (.i 1 21 22) 20 false, .g 24 (.l 23) 20 false, .o 25 (.pick (.tmp 20) (.const (.bool true)) (.tmp 24))]) (.cond (.tmp 25) (.seq (.region [.o 4 (.mv (.const (.bool false)))]) .ret) .skip)) (.seq (.region [.m 26 5, .m 27 6, .o 28 (.i 1 26 27), .n (.st 1 (.tmp 28) (.const (.bool true)))]) (.region [.o 29 (.ld true 5 (.tmp 2)), .m 30 6, .m 31 1, .o 32 (.q 76 [29,30,31]), .m 6 32])))) (.region [.m 16 7, .o 17 (.c .add 16 1), .m 7 17])))
def c66:ACode:=(.seq (.region [.o 2 (.box 58 5 (.tmp 0)), .o 4 (.mv (.const (.bool false)))]) (.seq (.region [.o 8 (.f 0 2), .o 9 (.l 8), .o 10 (.mks 4 1 1 [(.bool false)] (.tmp 9) (.tmp 9)), .m 5 10]) (.seq (.region [.k 6 1]) (.seq (.seq (.region [.k 7 0]) (.block 0 [] (.loop [1,2,5,6,7] c66L0))) (.seq (.region [.o 4 (.mv (.const (.bool true)))]) .ret)))))
def F66:AFun:=⟨c66,2,33,[(.tmp 4)]⟩
def K66:Nat→List Nat×List Nat
 |0=>([1,2,5,6,7],[])
 |1=>([],[1,2,5,6,7])
 |_=>([],[])
theorem F66_ok:kj8 Try.prog K66 Try.f66=some F66:=by kernel_rfl
/- 67: syndrome/syndromeref.Digits -/
def c67L0:ACode:=(.seq (.seq (.region [.m 9 8, .m 10 2, .o 11 (.b .lss 9 10)]) (.cond (.tmp 11) .skip (.exit 0))) (.seq (.block 1 [0,1,2,7,8] (.seq (.region [.m 14 7, .m 15 0, .m 16 1, .o 17 (.b .rem 15 16), .o 18 (.mkSl 3 1 1 [(.tmp 17)]), .o 19 (.app 3 1 8 (.tmp 14) (.tmp 18)), .m 7 19]) (.region [.m 20 0, .m 21 1, .o 22 (.b .quo 20 21), .m 0 22]))) (.region [.m 12 8, .o 13 (.c .add 12 1), .m 8 13])))
def c67:ACode:=(.seq (.region [.o 6 (.mv (.const (.slice none 0 0)))]) (.seq (.region [.o 7 (.mv (.const (.slice none 0 0)))]) (.seq (.seq (.region [.k 8 0]) (.block 0 [7] (.loop [0,1,2,7,8] c67L0))) (.seq (.region [.m 23 7, .m 6 23]) .ret))))
def F67:AFun:=⟨c67,3,24,[(.tmp 6)]⟩
def K67:Nat→List Nat×List Nat
 |0=>([0,1,2,7,8],[7])
 |1=>([],[0,1,2,7,8])
 |_=>([],[])
theorem F67_ok:kj8 Try.prog K67 Try.f67=some F67:=by kernel_rfl
/- 69: syndrome/syndromeref.Copy -/
def c69:ACode:=(.seq (.region [.o 2 (.mv (.const (.slice none 0 0)))]) (.seq (.region [.o 3 (.mkSl 3 1 0 []), .m 4 0, .o 5 (.app 3 1 8 (.tmp 3) (.tmp 4)), .m 2 5]) .ret))
def F69:AFun:=⟨c69,1,6,[(.tmp 2)]⟩
def K69:Nat→List Nat×List Nat
 |_=>([],[])
theorem F69_ok:kj8 Try.prog K69 Try.f69=some F69:=by kernel_rfl
/- 74: slices.Clone[[]int,int] -/
def c74:ACode:=(.seq (.region [.o 2 (.mv (.const (.slice none 0 0)))]) (.seq (.seq (.region [.m 3 0, .o 4 (.eqn false 0 (.tmp 3))]) (.cond (.tmp 4) (.seq (.region [.o 2 (.mv (.const (.slice none 0 0)))]) .ret) .skip)) (.seq (.region [.o 5 (.mkSl 3 1 0 []), .m 6 0, .o 7 (.app 3 1 8 (.tmp 5) (.tmp 6)), .m 2 7]) .ret)))
def F74:AFun:=⟨c74,1,8,[(.tmp 2)]⟩
def K74:Nat→List Nat×List Nat
 |_=>([],[])
theorem F74_ok:kj8 Try.prog K74 Try.f74=some F74:=by kernel_rfl
/- 76: (syndrome/syndromeref.F).Mul -/
def c76L0:ACode:=(.seq (.seq (.region [.m 55 11, .o 56 (.f 2 3), .o 57 (.l 56), .o 58 (.b .lss 55 57)]) (.cond (.tmp 58) .skip (.exit 2))) (.seq (.block 3 [3,7,8,9,10,11] (.region [.m 61 9, .m 62 10, .m 63 11, .o 64 (.b .add 62 63), .m 65 9, .m 66 10, .m 67 11, .o 68 (.b .add 66 67), .o 69 (.i 1 65 68), .o 70 (.l 69), .m 71 7, .m 72 10, .o 73 (.i 1 71 72), .o 74 (.l 73), .m 75 8, .m 76 11, .o 77 (.i 1 75 76), .o 78 (.l 77), .o 79 (.b .mul 74 78), .o 80 (.b .add 70 79), .o 81 (.f 1 3), .o 82 (.l 81), .o 83 (.b .rem 80 82), .o 84 (.i 1 61 64), .n (.st 1 (.tmp 84) (.tmp 83))])) (.region [.m 59 11, .o 60 (.c .add 59 1), .m 11 60])))
def c76L1:ACode:=(.seq (.seq (.region [.m 49 10, .o 50 (.f 2 3), .o 51 (.l 50), .o 52 (.b .lss 49 51)]) (.cond (.tmp 52) .skip (.exit 0))) (.seq (.block 1 [3,7,8,9,10] (.seq (.region [.k 11 0]) (.block 2 [3,7,8,9,10] (.loop [3,7,8,9,10,11] c76L0)))) (.region [.m 53 10, .o 54 (.c .add 53 1), .m 10 54])))
def c76L2:ACode:=(.seq (.seq (.region [.m 95 13, .o 96 (.f 2 3), .o 97 (.l 96), .o 98 (.b .lss 95 97)]) (.cond (.tmp 98) .skip (.exit 6))) (.seq (.block 7 [3,9,12,13] (.region [.m 101 9, .m 102 12, .o 103 (.f 2 3), .o 104 (.l 103), .o 105 (.b .sub 102 104), .m 106 13, .o 107 (.b .add 105 106), .m 108 9, .m 109 12, .o 110 (.f 2 3), .o 111 (.l 110), .o 112 (.b .sub 109 111), .m 113 13, .o 114 (.b .add 112 113), .o 115 (.i 1 108 114), .o 116 (.l 115), .m 117 9, .m 118 12, .o 119 (.i 1 117 118), .o 120 (.l 119), .o 121 (.f 1 3), .o 122 (.l 121), .o 123 (.f 4 3), .o 124 (.l 123), .m 125 13, .o 126 (.i 1 124 125), .o 127 (.l 126), .o 128 (.b .sub 122 127), .o 129 (.b .mul 120 128), .o 130 (.b .add 116 129), .o 131 (.f 1 3), .o 132 (.l 131), .o 133 (.b .rem 130 132), .o 134 (.i 1 101 107), .n (.st 1 (.tmp 134) (.tmp 133))])) (.region [.m 99 13, .o 100 (.c .add 99 1), .m 13 100])))
def c76L3:ACode:=(.seq (.seq (.region [.m 89 12, .o 90 (.f 2 3), .o 91 (.l 90), .o 92 (.b .geq 89 91)]) (.cond (.tmp 92) .skip (.exit 4))) (.seq (.block 5 [3,9,12] (.seq (.seq (.region [.k 13 0]) (.block 6 [3,9,12] (.loop [3,9,12,13] c76L2))) (.region [.m 135 9, .m 136 12, .o 137 (.i 1 135 136), .n (.st 1 (.tmp 137) (.const (.int .i64 0)))]))) (.region [.m 93 12, .o 94 (.c .sub 93 1), .m 12 94])))
def c76:ACode:=(.seq (.region [.o 3 (.box 58 5 (.tmp 0)), .k 6 0]) (.seq (.seq (.region [.o 14 (.ld true 5 (.tmp 3)), .m 15 1, .o 16 (.q 82 [14,15]), .o 17 (.un .not (.tmp 16)), .m 18 17, .g 19 (.ld true 5 (.tmp 3)) 18 false, .g 20 (.m 2) 18 false, .g 21 (.q 82 [19,20]) 18 false, .g 22 (.un .not (.tmp 21)) 18 false, .o 23 (.pick (.tmp 18) (.const (.bool true)) (.tmp 22))]) (.cond (.tmp 23) (.seq (.region [.k 6 (-1)]) .ret) .skip)) (.seq (.seq (.region [.o 24 (.f 2 3), .o 25 (.l 24), .o 26 (.c .eql 25 1)]) (.cond (.tmp 26) (.seq (.region [.m 27 1, .m 28 2, .o 29 (.b .mul 27 28), .o 30 (.f 1 3), .o 31 (.l 30), .o 32 (.b .rem 29 31), .m 6 32]) .ret) .skip)) (.seq (.region [.m 33 1, .o 34 (.f 1 3), .o 35 (.l 34), .o 36 (.f 2 3), .o 37 (.l 36), .o 38 (.q 67 [33,35,37]), .m 7 38]) (.seq (.region [.m 39 2, .o 40 (.f 1 3), .o 41 (.l 40), .o 42 (.f 2 3), .o 43 (.l 42), .o 44 (.q 67 [39,41,43]), .m 8 44]) (.seq (.region [.o 45 (.f 2 3), .o 46 (.l 45), .o 47 (.bin .mul (.const (.int .i64 2)) (.tmp 46)), .o 48 (.mks 3 1 8 [(.int .i64 0)] (.tmp 47) (.tmp 47)), .m 9 48]) (.seq (.seq (.region [.k 10 0]) (.block 0 [3,9] (.loop [3,7,8,9,10] c76L1))) (.seq (.seq (.region [.o 85 (.f 2 3), .o 86 (.l 85), .o 87 (.bin .mul (.const (.int .i64 2)) (.tmp 86)), .o 88 (.c .sub 87 1), .m 12 88]) (.block 4 [3,9] (.loop [3,9,12] c76L3))) (.seq (.region [.m 138 9, .o 139 (.f 2 3), .o 140 (.l 139), .o 141 (.sl 1 (.tmp 138) none (some (.tmp 140))), .o 142 (.f 1 3), .o 143 (.l 142), .o 144 (.q 109 [141,143]), .m 6 144]) .ret)))))))))
def F76:AFun:=⟨c76,3,145,[(.tmp 6)]⟩
def K76:Nat→List Nat×List Nat
 |0=>([3,7,8,9,10],[3,9])
 |1=>([],[3,7,8,9,10])
 |2=>([3,7,8,9,10,11],[3,7,8,9,10])
 |3=>([],[3,7,8,9,10,11])
 |4=>([3,9,12],[3,9])
 |5=>([],[3,9,12])
 |6=>([3,9,12,13],[3,9,12])
 |7=>([],[3,9,12,13])
 |_=>([],[])
theorem F76_ok:kj8 Try.prog K76 Try.f76=some F76:=by kernel_rfl
/- 77: (syndrome/syndromeref.F).Null -/
def c77L0:ACode:=(.seq (.seq (.region [.m 32 12, .m 33 7, .o 34 (.n 33), .o 35 (.b .lss 32 34)]) (.cond (.tmp 35) .skip (.exit 2))) (.seq (.block 3 [2,3,7,8,9,10,11,12] (.region [.m 38 11, .m 39 8, .m 40 12, .o 41 (.i 1 39 40), .o 42 (.l 41), .o 43 (.ld true 5 (.tmp 3)), .m 44 7, .m 45 12, .o 46 (.i 1 44 45), .o 47 (.l 46), .m 48 10, .o 49 (.i 1 47 48), .o 50 (.l 49),⟨(some 51),(.call 110 [(.tmp 43),(.tmp 50)]),none,true⟩, .o 52 (.i 1 38 42), .n (.st 1 (.tmp 52) (.tmp 51))])) (.region [.m 36 12, .o 37 (.c .add 36 1), .m 12 37])))
def c77L1:ACode:=(.seq (.seq (.region [.m 19 10, .m 20 2, .o 21 (.b .lss 19 20)]) (.cond (.tmp 21) .skip (.exit 0))) (.seq (.block 1 [2,3,7,8,9,10] (.seq (.seq (.region [.m 24 10, .m 25 8, .o 26 (.q 64 [24,25])]) (.cond (.tmp 26) (.exit 1) .skip)) (.seq (.region [.m 27 2, .o 28 (.mks 3 1 8 [(.int .i64 0)] (.tmp 27) (.tmp 27)), .m 11 28]) (.seq (.region [.m 29 11, .m 30 10, .o 31 (.i 1 29 30), .n (.st 1 (.tmp 31) (.const (.int .i64 1)))]) (.seq (.seq (.region [.k 12 0]) (.block 2 [2,3,7,8,9,10,11] (.loop [2,3,7,8,9,10,11,12] c77L0))) (.region [.m 53 9, .m 54 11, .o 55 (.mkSl 34 1 1 [(.tmp 54)]), .o 56 (.app 34 1 24 (.tmp 53) (.tmp 55)), .m 9 56])))))) (.region [.m 22 10, .o 23 (.c .add 22 1), .m 10 23])))
def c77:ACode:=(.seq (.region [.o 3 (.box 58 5 (.tmp 0)), .o 6 (.mv (.const (.slice none 0 0)))]) (.seq (.region [.o 14 (.ld true 5 (.tmp 3)), .m 15 1, .o 16 (.q 46 [14,15]), .m 13 16, .o 17 (.e 0 13), .o 18 (.e 1 13), .m 7 17, .m 8 18]) (.seq (.region [.o 9 (.mv (.const (.slice none 0 0)))]) (.seq (.seq (.region [.k 10 0]) (.block 0 [3,9] (.loop [2,3,7,8,9,10] c77L1))) (.seq (.region [.o 58 (.ld true 5 (.tmp 3)), .m 59 9, .o 60 (.q 46 [58,59]), .m 57 60, .o 61 (.e 0 57), .o 62 (.e 1 57), .m 9 61]) (.seq (.region [.m 63 9, .m 6 63]) .ret))))))
def F77:AFun:=⟨c77,3,64,[(.tmp 6)]⟩
def K77:Nat→List Nat×List Nat
 |0=>([2,3,7,8,9,10],[3,9])
 |1=>([],[2,3,7,8,9,10])
 |2=>([2,3,7,8,9,10,11,12],[2,3,7,8,9,10,11])
 |3=>([],[2,3,7,8,9,10,11,12])
 |_=>([],[])
theorem F77_ok:kj8 Try.prog K77 Try.f77=some F77:=by kernel_rfl
/- 82: (syndrome/syndromeref.F).Has -/
def c82:ACode:=(.seq (.region [.o 2 (.box 58 5 (.tmp 0)), .o 4 (.mv (.const (.bool false)))]) (.seq (.region [.m 5 1, .o 6 (.c .geq 5 0), .m 7 6, .g 8 (.m 1) 7 true, .g 9 (.f 0 2) 7 true, .g 10 (.l 9) 7 true, .g 11 (.b .lss 8 10) 7 true, .o 12 (.pick (.tmp 7) (.tmp 11) (.const (.bool false))), .m 4 12]) .ret))
def F82:AFun:=⟨c82,2,13,[(.tmp 4)]⟩
def K82:Nat→List Nat×List Nat
 |_=>([],[])
theorem F82_ok:kj8 Try.prog K82 Try.f82=some F82:=by kernel_rfl
/- 83: syndrome/matrix.Check -/
def c83L0:ACode:=(.seq (.region [.o 23 (.b .lss 22 21)]) (.seq (.cond (.tmp 23) .skip (.exit 0)) (.seq (.block 1 [1,5,20,21,22] (.seq (.region [.o 24 (.i 1 20 22), .o 25 (.l 24), .m 8 25]) (.seq (.seq (.region [.m 26 8, .o 27 (.n 26), .m 28 1, .o 29 (.iaddr 1 (.tmp 28) (.const (.int .i64 0))), .o 30 (.l 29), .o 31 (.n 30), .o 32 (.b .neq 27 31), .m 33 32, .g 34 (.m 8) 33 false, .g 35 (.n 34) 33 false, .g 36 (.c .eql 35 0) 33 false, .o 37 (.pick (.tmp 33) (.const (.bool true)) (.tmp 36))]) (.cond (.tmp 37) (.seq (.region [.k 4 3]) .ret) .skip)) (.seq (.seq (.region [.m 38 8, .o 39 (.n 38), .o 40 (.c .gtr 39 64)]) (.cond (.tmp 40) (.seq (.region [.k 4 4]) .ret) .skip)) (.seq (.region [.m 41 8, .o 42 (.mkf 111 [(.tmp 5)]), .o 43 (.q 96 [41,42])]) (.cond (.tmp 43) (.seq (.region [.k 4 2]) .ret) .skip)))))) (.region [.o 44 (.c .add 22 1), .m 22 44]))))
def c83:ACode:=(.seq (.region [.k 4 0]) (.seq (.region [.m 10 0, .o 11 (.q 51 [10]), .m 9 11, .o 12 (.e 0 9), .o 13 (.e 1 9), .o 5 (.alloc 81 [(.pointer none)]), .n (.st 1 (.tmp 5) (.tmp 12)), .m 6 13]) (.seq (.seq (.region [.m 14 6, .o 15 (.c .neq 14 0)]) (.cond (.tmp 15) (.seq (.region [.m 16 6, .m 4 16]) .ret) .skip)) (.seq (.seq (.region [.m 17 1, .o 18 (.n 17), .o 19 (.c .gtr 18 64)]) (.cond (.tmp 19) (.seq (.region [.k 4 4]) .ret) .skip)) (.seq (.seq (.region [.m 20 1, .o 21 (.n 20), .k 22 0]) (.block 0 [] (.loop [1,5,20,21,22] c83L0))) (.seq (.region [.k 4 0]) .ret))))))
def F83:AFun:=⟨c83,2,45,[(.tmp 4)]⟩
def K83:Nat→List Nat×List Nat
 |0=>([1,5,20,21,22],[])
 |1=>([],[1,5,20,21,22])
 |_=>([],[])
theorem F83_ok:kj8 Try.prog K83 Try.f83=some F83:=by kernel_rfl
/- 84: syndrome/matrix.clone -/
def c84L0:ACode:=(.seq (.region [.o 12 (.b .lss 11 10)]) (.seq (.cond (.tmp 12) .skip (.exit 0)) (.seq (.block 1 [3,9,10,11] (.seq (.region [.m 13 11, .o 14 (.i 1 9 11), .o 15 (.l 14), .m 4 13, .m 5 15]) (.region [.m 16 3, .m 17 4, .m 18 5, .o 19 (.q 74 [18]), .o 20 (.i 1 16 17), .n (.st 1 (.tmp 20) (.tmp 19))]))) (.region [.o 21 (.c .add 11 1), .m 11 21]))))
def c84:ACode:=(.seq (.region [.o 2 (.mv (.const (.slice none 0 0)))]) (.seq (.region [.m 6 0, .o 7 (.n 6), .o 8 (.mks 34 1 24 [(.slice none 0 0)] (.tmp 7) (.tmp 7)), .m 3 8]) (.seq (.seq (.region [.m 9 0, .o 10 (.n 9), .k 11 0]) (.block 0 [3] (.loop [3,9,10,11] c84L0))) (.seq (.region [.m 22 3, .m 2 22]) .ret))))
def F84:AFun:=⟨c84,1,23,[(.tmp 2)]⟩
def K84:Nat→List Nat×List Nat
 |0=>([3,9,10,11],[3])
 |1=>([],[3,9,10,11])
 |_=>([],[])
theorem F84_ok:kj8 Try.prog K84 Try.f84=some F84:=by kernel_rfl
end Go.Proofs.Ytlhmdmedagjmnaa
