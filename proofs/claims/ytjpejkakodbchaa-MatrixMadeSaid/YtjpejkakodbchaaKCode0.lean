/-
  Functions of this seat as the small machine's code, written by a program of my own (gen.py); each is checked to be what the model's function is turned into. No condition.
-/
import Derived.Test.YtjpejkakodbchaaK1
import Derived.Test.YtjpejkakodbchaaProg
set_option linter.unusedVariables false
set_option linter.unusedSimpArgs false
set_option linter.unusedSectionVars false
set_option maxRecDepth 100000
namespace Go.Proofs.Ytjpejkakodbchaa
open Go.Am
/- 3: syndrome/syndromelaw.MatrixSays -/
def c3 : ACode := (.seq (.region [.o 8 (.mv (.const (.bool false)))]) (.seq (.seq (.region [.m 16 1, .o 17 (.q 14 [16]), .m 18 17, .g 19 (.m 2) 18 false, .g 20 (.q 14 [19]) 18 false, .o 21 (.pick (.tmp 18) (.const (.bool true)) (.tmp 20)), .m 22 21, .g 23 (.m 3) 22 false, .g 24 (.n 23) 22 false, .g 25 (.c .gtr 24 100) 22 false, .o 26 (.pick (.tmp 22) (.const (.bool true)) (.tmp 25))]) (.cond (.tmp 26) (.seq (.region [.o 8 (.mv (.const (.bool true)))]) .ret) .skip)) (.seq (.region [.m 27 0, .m 28 1, .o 29 (.q 15 [27, 28]), .m 9 29]) (.seq (.region [.m 30 9, .m 10 30]) (.seq (.seq (.region [.m 31 10, .o 32 (.c .eql 31 0)]) (.cond (.tmp 32) (.region [.m 33 0, .m 34 2, .o 35 (.q 15 [33, 34]), .m 10 35]) .skip)) (.seq (.seq (.region [.m 36 10, .o 37 (.c .eql 36 0), .m 38 37, .g 39 (.m 1) 38 true, .g 40 (.n 39) 38 true, .g 41 (.c .gtr 40 0) 38 true, .o 42 (.pick (.tmp 38) (.tmp 41) (.const (.bool false))), .m 43 42, .g 44 (.m 1) 43 true, .g 45 (.iaddr 1 (.tmp 44) (.const (.int .i64 0))) 43 true, .g 46 (.l 45) 43 true, .g 47 (.n 46) 43 true, .g 48 (.m 2) 43 true, .g 49 (.n 48) 43 true, .g 50 (.b .neq 47 49) 43 true, .o 51 (.pick (.tmp 43) (.tmp 50) (.const (.bool false)))]) (.cond (.tmp 51) (.region [.k 10 3]) .skip)) (.seq (.region [.m 53 0, .o 54 (.q 16 [53]), .m 52 54, .o 55 (.e 0 52), .o 56 (.e 1 52), .o 11 (.alloc 28 [(.int .i64 0), (.int .i64 0), (.int .i64 0), (.int .i64 0), (.slice none 0 0)]), .n (.st 5 (.tmp 11) (.tmp 55)), .m 12 56]) (.seq (.region [.o 13 (.mv (.const (.slice none 0 0)))]) (.seq (.seq (.region [.m 57 10, .o 58 (.c .eql 57 0), .m 59 58, .g 60 (.m 1) 59 true, .g 61 (.n 60) 59 true, .g 62 (.c .gtr 61 0) 59 true, .o 63 (.pick (.tmp 59) (.tmp 62) (.const (.bool false)))]) (.cond (.tmp 63) (.region [.o 64 (.ld true 5 (.tmp 11)), .m 65 1, .m 66 2, .o 67 (.q 17 [64, 65, 66]), .m 13 67]) .skip)) (.seq (.region [.m 69 0, .m 70 1, .m 71 2, .o 72 (.q 18 [69, 70, 71]), .m 68 72, .o 73 (.e 0 68), .o 74 (.e 1 68), .m 14 73, .m 15 74]) (.seq (.seq (.region [.m 75 0, .m 76 1, .o 77 (.q 19 [75, 76]), .m 78 9, .o 79 (.b .neq 77 78), .m 80 79, .g 81 (.m 14) 80 false, .g 82 (.m 15) 80 false, .g 83 (.m 13) 80 false, .g 84 (.m 10) 80 false, .g 85 (.q 20 [81, 82, 83, 84]) 80 false, .g 86 (.un .not (.tmp 85)) 80 false, .o 87 (.pick (.tmp 80) (.const (.bool true)) (.tmp 86))]) (.cond (.tmp 87) (.seq (.region [.o 8 (.mv (.const (.bool false)))]) .ret) .skip)) (.seq (.region [.m 88 0, .m 89 1, .m 90 3, .m 91 9, .o 92 (.q 21 [88, 89, 90, 91]), .m 8 92]) .ret))))))))))))
def F3 : AFun := ⟨c3, 4, 93, [(.tmp 8)]⟩
def K3 : Nat → List Nat × List Nat
 | _ => ([], [])
theorem F3_ok : kj8 Try.prog K3 Try.f3 = some F3 := by kernel_rfl
/- 4: syndrome/syndromelaw.MatrixMade -/
def c4 : ACode := (.seq (.region [.o 10 (.mv (.const (.bool false)))]) (.seq (.seq (.region [.m 13 0, .o 14 (.n 13), .o 15 (.c .gtr 14 256)]) (.cond (.tmp 15) (.seq (.region [.o 10 (.mv (.const (.bool true)))]) .ret) .skip)) (.seq (.region [.m 16 1, .o 17 (.q 22 [16]), .m 1 17]) (.seq (.region [.m 18 2, .o 19 (.call 23 [(.tmp 18), (.const (.int .i64 6))]), .o 20 (.bin .add (.const (.int .i64 1)) (.tmp 19)), .m 2 20]) (.seq (.region [.m 21 3, .o 22 (.call 23 [(.tmp 21), (.const (.int .i64 6))]), .o 23 (.bin .add (.const (.int .i64 1)) (.tmp 22)), .m 3 23]) (.seq (.region [.m 24 4, .o 25 (.call 23 [(.tmp 24), (.const (.int .i64 6))]), .o 26 (.bin .add (.const (.int .i64 1)) (.tmp 25)), .m 4 26]) (.seq (.region [.m 27 0, .m 28 1, .m 29 2, .m 30 3, .o 31 (.call 24 [(.tmp 27), (.const (.int .i64 0)), (.tmp 28), (.tmp 29), (.tmp 30)]), .m 11 31]) (.seq (.region [.m 32 0, .m 33 1, .m 34 3, .m 35 3, .o 36 (.call 24 [(.tmp 32), (.const (.int .i64 7)), (.tmp 33), (.tmp 34), (.tmp 35)]), .m 12 36]) (.seq (.region [.m 37 1, .m 38 11, .m 39 0, .m 40 2, .m 41 3, .o 42 (.b .mul 40 41), .m 43 1, .m 44 3, .m 45 4, .o 46 (.q 24 [39, 42, 43, 44, 45]), .m 47 0, .m 48 1, .m 49 2, .o 50 (.call 25 [(.tmp 47), (.const (.int .i64 3)), (.tmp 48), (.tmp 49)]), .o 51 (.q 3 [37, 38, 46, 50]), .m 52 51, .g 53 (.m 1) 52 true, .g 54 (.m 12) 52 true, .g 55 (.m 0) 52 true, .g 56 (.m 1) 52 true, .g 57 (.m 3) 52 true, .g 58 (.call 25 [(.tmp 55), (.const (.int .i64 5)), (.tmp 56), (.tmp 57)]) 52 true, .g 59 (.call 21 [(.tmp 53), (.tmp 54), (.tmp 58), (.const (.int .i64 0))]) 52 true, .o 60 (.pick (.tmp 52) (.tmp 59) (.const (.bool false))), .m 10 60]) .ret)))))))))
def F4 : AFun := ⟨c4, 5, 61, [(.tmp 10)]⟩
def K4 : Nat → List Nat × List Nat
 | _ => ([], [])
theorem F4_ok : kj8 Try.prog K4 Try.f4 = some F4 := by kernel_rfl
/- 14: syndrome/syndromelaw.heavy -/
def c14L0 : ACode := (.seq (.seq (.region [.m 7 4, .m 8 0, .o 9 (.n 8), .o 10 (.b .lss 7 9), .m 11 10, .g 12 (.m 3) 11 true, .g 13 (.c .leq 12 6000) 11 true, .o 14 (.pick (.tmp 11) (.tmp 13) (.const (.bool false)))]) (.cond (.tmp 14) .skip (.exit 0))) (.seq (.block 1 [0, 3, 4] (.region [.m 17 3, .m 18 0, .m 19 4, .o 20 (.i 1 18 19), .o 21 (.l 20), .o 22 (.n 21), .o 23 (.b .add 17 22), .m 3 23])) (.region [.m 15 4, .o 16 (.c .add 15 1), .m 4 16])))
def c14 : ACode := (.seq (.region [.o 2 (.mv (.const (.bool false)))]) (.seq (.region [.m 5 0, .o 6 (.n 5), .m 3 6]) (.seq (.seq (.region [.k 4 0]) (.block 0 [3] (.loop [0, 3, 4] c14L0))) (.seq (.region [.m 24 3, .o 25 (.c .gtr 24 6000), .m 2 25]) .ret))))
def F14 : AFun := ⟨c14, 1, 26, [(.tmp 2)]⟩
def K14 : Nat → List Nat × List Nat
 | 0 => ([0, 3, 4], [3])
 | 1 => ([], [0, 3, 4])
 | _ => ([], [])
theorem F14_ok : kj8 Try.prog K14 Try.f14 = some F14 := by kernel_rfl
/- 15: syndrome/syndromeref.MatrixMay -/
def c15L0 : ACode := (.seq (.seq (.region [.m 50 8, .m 51 1, .m 52 7, .o 53 (.i 1 51 52), .o 54 (.l 53), .o 55 (.n 54), .o 56 (.b .lss 50 55)]) (.cond (.tmp 56) .skip (.exit 2))) (.seq (.block 3 [1, 5, 7, 8] (.seq (.region [.o 59 (.ld true 5 (.tmp 5)), .m 60 1, .m 61 7, .o 62 (.i 1 60 61), .o 63 (.l 62), .m 64 8, .o 65 (.i 1 63 64), .o 66 (.l 65), .o 67 (.q 71 [59, 66]), .o 68 (.un .not (.tmp 67))]) (.cond (.tmp 68) (.seq (.region [.k 4 2]) .ret) .skip))) (.region [.m 57 8, .o 58 (.c .add 57 1), .m 8 58])))
def c15L1 : ACode := (.seq (.seq (.region [.m 20 7, .m 21 1, .o 22 (.n 21), .o 23 (.b .lss 20 22)]) (.cond (.tmp 23) .skip (.exit 0))) (.seq (.block 1 [1, 5, 7] (.seq (.seq (.region [.m 26 1, .m 27 7, .o 28 (.i 1 26 27), .o 29 (.l 28), .o 30 (.n 29), .m 31 1, .o 32 (.iaddr 1 (.tmp 31) (.const (.int .i64 0))), .o 33 (.l 32), .o 34 (.n 33), .o 35 (.b .neq 30 34), .m 36 35, .g 37 (.m 1) 36 false, .g 38 (.m 7) 36 false, .g 39 (.i 1 37 38) 36 false, .g 40 (.l 39) 36 false, .g 41 (.n 40) 36 false, .g 42 (.c .eql 41 0) 36 false, .o 43 (.pick (.tmp 36) (.const (.bool true)) (.tmp 42))]) (.cond (.tmp 43) (.seq (.region [.k 4 3]) .ret) .skip)) (.seq (.seq (.region [.m 44 1, .m 45 7, .o 46 (.i 1 44 45), .o 47 (.l 46), .o 48 (.n 47), .o 49 (.c .gtr 48 64)]) (.cond (.tmp 49) (.seq (.region [.k 4 4]) .ret) .skip)) (.seq (.region [.k 8 0]) (.block 2 [1, 5, 7] (.loop [1, 5, 7, 8] c15L0)))))) (.region [.m 24 7, .o 25 (.c .add 24 1), .m 7 25])))
def c15 : ACode := (.seq (.region [.k 4 0]) (.seq (.region [.m 10 0, .o 11 (.q 16 [10]), .m 9 11, .o 12 (.e 0 9), .o 13 (.e 1 9), .o 5 (.alloc 28 [(.int .i64 0), (.int .i64 0), (.int .i64 0), (.int .i64 0), (.slice none 0 0)]), .n (.st 5 (.tmp 5) (.tmp 12)), .m 6 13]) (.seq (.seq (.region [.m 14 6, .o 15 (.c .neq 14 0)]) (.cond (.tmp 15) (.seq (.region [.m 16 6, .m 4 16]) .ret) .skip)) (.seq (.seq (.region [.m 17 1, .o 18 (.n 17), .o 19 (.c .gtr 18 64)]) (.cond (.tmp 19) (.seq (.region [.k 4 4]) .ret) .skip)) (.seq (.seq (.region [.k 7 0]) (.block 0 [] (.loop [1, 5, 7] c15L1))) (.seq (.region [.k 4 0]) .ret))))))
def F15 : AFun := ⟨c15, 2, 69, [(.tmp 4)]⟩
def K15 : Nat → List Nat × List Nat
 | 0 => ([1, 5, 7], [])
 | 1 => ([], [1, 5, 7])
 | 2 => ([1, 5, 7, 8], [1, 5, 7])
 | 3 => ([], [1, 5, 7, 8])
 | _ => ([], [])
theorem F15_ok : kj8 Try.prog K15 Try.f15 = some F15 := by kernel_rfl
/- 16: syndrome/syndromeref.Field -/
def c16L0 : ACode := (.seq (.seq (.region [.m 32 7, .m 33 0, .o 34 (.b .lss 32 33)]) (.cond (.tmp 34) .skip (.exit 0))) (.seq (.block 1 [0, 2, 4, 5, 6, 7] (.seq (.region [.o 37 (.ld true 5 (.tmp 6)), .m 38 7, .o 39 (.q 73 [37, 38])]) (.cond (.tmp 39) (.seq (.region [.m 40 7, .o 41 (.f 3 6), .n (.st 1 (.tmp 41) (.tmp 40))]) (.seq (.region [.o 42 (.ld true 5 (.tmp 6)), .n (.st 5 (.tmp 2) (.tmp 42)), .k 3 0]) .ret)) .skip))) (.region [.m 35 7, .o 36 (.c .add 35 1), .m 7 36])))
def c16L1 : ACode := (.seq (.seq (.region [.m 45 8, .m 46 0, .o 47 (.b .lss 45 46)]) (.cond (.tmp 47) .skip (.exit 2))) (.seq (.block 3 [0, 2, 4, 5, 6, 8] (.seq (.region [.m 50 8, .m 51 4, .m 52 5, .o 53 (.q 74 [50, 51, 52]), .o 54 (.mkSl 3 1 1 [(.const (.int .i64 1))]), .o 55 (.app 3 1 8 (.tmp 53) (.tmp 54)), .o 56 (.f 4 6), .n (.st 1 (.tmp 56) (.tmp 55))]) (.seq (.region [.o 57 (.ld true 5 (.tmp 6)), .m 58 4, .o 59 (.q 73 [57, 58])]) (.cond (.tmp 59) (.seq (.region [.o 60 (.ld true 5 (.tmp 6)), .n (.st 5 (.tmp 2) (.tmp 60)), .k 3 0]) .ret) .skip)))) (.region [.m 48 8, .o 49 (.c .add 48 1), .m 8 49])))
def c16 : ACode := (.seq (.region [.o 2 (.alloc 28 [(.int .i64 0), (.int .i64 0), (.int .i64 0), (.int .i64 0), (.slice none 0 0)]), .k 3 0]) (.seq (.seq (.region [.m 9 0, .o 10 (.c .lss 9 2), .m 11 10, .g 12 (.m 0) 11 false, .g 13 (.c .gtr 12 64) 11 false, .o 14 (.pick (.tmp 11) (.const (.bool true)) (.tmp 13))]) (.cond (.tmp 14) (.seq (.region [.o 15 (.build [(.int .i64 0), (.int .i64 0), (.int .i64 0), (.int .i64 0), (.slice none 0 0)] [(0, 1), (1, 1), (2, 1), (3, 1), (4, 1)] []), .n (.st 5 (.tmp 2) (.tmp 15)), .k 3 1]) .ret) .skip)) (.seq (.region [.m 17 0, .o 18 (.q 72 [17]), .m 16 18, .o 19 (.e 0 16), .o 20 (.e 1 16), .m 4 19, .m 5 20]) (.seq (.seq (.region [.m 21 4, .o 22 (.c .eql 21 0)]) (.cond (.tmp 22) (.seq (.region [.o 23 (.build [(.int .i64 0), (.int .i64 0), (.int .i64 0), (.int .i64 0), (.slice none 0 0)] [(0, 1), (1, 1), (2, 1), (3, 1), (4, 1)] []), .n (.st 5 (.tmp 2) (.tmp 23)), .k 3 1]) .ret) .skip)) (.seq (.region [.m 24 0, .m 25 4, .m 26 5, .o 27 (.build [(.int .i64 0), (.int .i64 0), (.int .i64 0), (.int .i64 0), (.slice none 0 0)] [(0, 1), (1, 1), (2, 1), (3, 1), (4, 1)] [(0, (.tmp 24)), (1, (.tmp 25)), (2, (.tmp 26))]), .o 6 (.alloc 28 [(.int .i64 0), (.int .i64 0), (.int .i64 0), (.int .i64 0), (.slice none 0 0)]), .n (.st 5 (.tmp 6) (.tmp 27))]) (.seq (.seq (.region [.m 28 5, .o 29 (.c .eql 28 1)]) (.cond (.tmp 29) (.seq (.region [.o 30 (.mkSl 3 1 2 [(.const (.int .i64 0)), (.const (.int .i64 1))]), .o 31 (.f 4 6), .n (.st 1 (.tmp 31) (.tmp 30))]) (.seq (.region [.k 7 1]) (.block 0 [0, 2, 4, 5, 6] (.loop [0, 2, 4, 5, 6, 7] c16L0)))) .skip)) (.seq (.region [.m 43 4, .o 44 (.f 3 6), .n (.st 1 (.tmp 44) (.tmp 43))]) (.seq (.seq (.region [.k 8 0]) (.block 2 [2] (.loop [0, 2, 4, 5, 6, 8] c16L1))) (.seq (.region [.o 61 (.build [(.int .i64 0), (.int .i64 0), (.int .i64 0), (.int .i64 0), (.slice none 0 0)] [(0, 1), (1, 1), (2, 1), (3, 1), (4, 1)] []), .n (.st 5 (.tmp 2) (.tmp 61)), .k 3 1]) .ret)))))))))
def F16 : AFun := ⟨c16, 1, 62, [(.cell 2 true 5), (.tmp 3)]⟩
def K16 : Nat → List Nat × List Nat
 | 0 => ([0, 2, 4, 5, 6, 7], [0, 2, 4, 5, 6])
 | 1 => ([], [0, 2, 4, 5, 6, 7])
 | 2 => ([0, 2, 4, 5, 6, 8], [2])
 | 3 => ([], [0, 2, 4, 5, 6, 8])
 | _ => ([], [])
theorem F16_ok : kj8 Try.prog K16 Try.f16 = some F16 := by kernel_rfl
/- 17: (syndrome/syndromeref.F).Product -/
def c17L0 : ACode := (.seq (.seq (.region [.m 29 11, .m 30 9, .o 31 (.n 30), .o 32 (.b .lss 29 31)]) (.cond (.tmp 32) .skip (.exit 4))) (.seq (.block 5 [1, 2, 3, 7, 8, 9, 10, 11] (.region [.m 35 9, .m 36 11, .o 37 (.ld true 5 (.tmp 3)), .m 38 9, .m 39 11, .o 40 (.i 1 38 39), .o 41 (.l 40), .o 42 (.ld true 5 (.tmp 3)), .m 43 1, .m 44 8, .o 45 (.i 1 43 44), .o 46 (.l 45), .m 47 10, .o 48 (.i 1 46 47), .o 49 (.l 48), .m 50 2, .m 51 10, .o 52 (.i 1 50 51), .o 53 (.l 52), .m 54 11, .o 55 (.i 1 53 54), .o 56 (.l 55), ⟨(some 57), (.call 76 [(.tmp 42), (.tmp 49), (.tmp 56)]), none, true⟩, .o 58 (.q 75 [37, 41, 57]), .o 59 (.i 1 35 36), .n (.st 1 (.tmp 59) (.tmp 58))])) (.region [.m 33 11, .o 34 (.c .add 33 1), .m 11 34])))
def c17L1 : ACode := (.seq (.seq (.region [.m 23 10, .m 24 2, .o 25 (.n 24), .o 26 (.b .lss 23 25)]) (.cond (.tmp 26) .skip (.exit 2))) (.seq (.block 3 [1, 2, 3, 7, 8, 9, 10] (.seq (.region [.k 11 0]) (.block 4 [1, 2, 3, 7, 8, 9, 10] (.loop [1, 2, 3, 7, 8, 9, 10, 11] c17L0)))) (.region [.m 27 10, .o 28 (.c .add 27 1), .m 10 28])))
def c17L2 : ACode := (.seq (.seq (.region [.m 12 8, .m 13 1, .o 14 (.n 13), .o 15 (.b .lss 12 14)]) (.cond (.tmp 15) .skip (.exit 0))) (.seq (.block 1 [1, 2, 3, 7, 8] (.seq (.region [.m 18 2, .o 19 (.iaddr 1 (.tmp 18) (.const (.int .i64 0))), .o 20 (.l 19), .o 21 (.n 20), .o 22 (.mks 3 1 8 [(.int .i64 0)] (.tmp 21) (.tmp 21)), .m 9 22]) (.seq (.seq (.region [.k 10 0]) (.block 2 [1, 2, 3, 7, 8, 9] (.loop [1, 2, 3, 7, 8, 9, 10] c17L1))) (.region [.m 60 7, .m 61 9, .o 62 (.mkSl 23 1 1 [(.tmp 61)]), .o 63 (.app 23 1 24 (.tmp 60) (.tmp 62)), .m 7 63])))) (.region [.m 16 8, .o 17 (.c .add 16 1), .m 8 17])))
def c17 : ACode := (.seq (.region [.o 3 (.box 28 5 (.tmp 0)), .o 6 (.mv (.const (.slice none 0 0)))]) (.seq (.region [.o 7 (.mv (.const (.slice none 0 0)))]) (.seq (.seq (.region [.k 8 0]) (.block 0 [7] (.loop [1, 2, 3, 7, 8] c17L2))) (.seq (.region [.m 64 7, .m 6 64]) .ret))))
def F17 : AFun := ⟨c17, 3, 65, [(.tmp 6)]⟩
def K17 : Nat → List Nat × List Nat
 | 0 => ([1, 2, 3, 7, 8], [7])
 | 1 => ([], [1, 2, 3, 7, 8])
 | 2 => ([1, 2, 3, 7, 8, 9, 10], [1, 2, 3, 7, 8, 9])
 | 3 => ([], [1, 2, 3, 7, 8, 9, 10])
 | 4 => ([1, 2, 3, 7, 8, 9, 10, 11], [1, 2, 3, 7, 8, 9, 10])
 | 5 => ([], [1, 2, 3, 7, 8, 9, 10, 11])
 | _ => ([], [])
theorem F17_ok : kj8 Try.prog K17 Try.f17 = some F17 := by kernel_rfl
/- 18: syndrome/matrix.Times -/
def c18L0 : ACode := (.seq (.region [.o 71 (.b .lss 70 69)]) (.seq (.cond (.tmp 71) .skip (.exit 4)) (.seq (.block 5 [2, 9, 11, 14, 16, 47, 48, 49, 58, 59, 60, 68, 69, 70] (.seq (.region [.m 72 70, .o 73 (.i 1 68 70), .o 74 (.l 73), .m 17 72, .m 18 74]) (.region [.m 75 14, .m 76 17, .m 77 9, .m 78 14, .m 79 17, .o 80 (.i 1 78 79), .o 81 (.l 80), .m 82 9, .m 83 16, .m 84 18, ⟨(some 85), (.call 79 [(.tmp 82), (.tmp 83), (.tmp 84)]), none, true⟩, .o 86 (.q 78 [77, 81, 85]), .o 87 (.i 1 75 76), .n (.st 1 (.tmp 87) (.tmp 86))]))) (.region [.o 88 (.c .add 70 1), .m 70 88]))))
def c18L1 : ACode := (.seq (.region [.o 61 (.b .lss 60 59)]) (.seq (.cond (.tmp 61) .skip (.exit 2)) (.seq (.block 3 [2, 9, 11, 14, 47, 48, 49, 58, 59, 60] (.seq (.region [.m 62 60, .o 63 (.i 1 58 60), .o 64 (.l 63), .m 15 62, .m 16 64]) (.seq (.region [.m 65 2, .m 66 15, .o 67 (.i 1 65 66), .o 68 (.l 67), .o 69 (.n 68), .k 70 0]) (.block 4 [2, 9, 11, 14, 47, 48, 49, 58, 59, 60] (.loop [2, 9, 11, 14, 16, 47, 48, 49, 58, 59, 60, 68, 69, 70] c18L0))))) (.region [.o 89 (.c .add 60 1), .m 60 89]))))
def c18L2 : ACode := (.seq (.region [.o 50 (.b .lss 49 48)]) (.seq (.cond (.tmp 50) .skip (.exit 0)) (.seq (.block 1 [2, 9, 11, 47, 48, 49] (.seq (.region [.o 51 (.i 1 47 49), .o 52 (.l 51), .m 13 52]) (.seq (.region [.m 53 2, .o 54 (.iaddr 1 (.tmp 53) (.const (.int .i64 0))), .o 55 (.l 54), .o 56 (.n 55), .o 57 (.mks 3 1 8 [(.int .i64 0)] (.tmp 56) (.tmp 56)), .m 14 57]) (.seq (.seq (.region [.m 58 13, .o 59 (.n 58), .k 60 0]) (.block 2 [2, 9, 11, 14, 47, 48, 49] (.loop [2, 9, 11, 14, 47, 48, 49, 58, 59, 60] c18L1))) (.region [.m 90 11, .m 91 14, .o 92 (.mkSl 23 1 1 [(.tmp 91)]), .o 93 (.app 23 1 24 (.tmp 90) (.tmp 92)), .m 11 93]))))) (.region [.o 94 (.c .add 49 1), .m 49 94]))))
def c18 : ACode := (.seq (.region [.o 6 (.mv (.const (.slice none 0 0))), .k 7 0]) (.seq (.region [.m 19 0, .m 20 1, .o 21 (.q 19 [19, 20]), .m 8 21]) (.seq (.seq (.region [.m 22 8, .o 23 (.c .eql 22 0)]) (.cond (.tmp 23) (.region [.m 24 0, .m 25 2, .o 26 (.q 19 [24, 25]), .m 8 26]) .skip)) (.seq (.seq (.region [.m 27 8, .o 28 (.c .neq 27 0)]) (.cond (.tmp 28) (.seq (.region [.m 29 8, .o 6 (.mv (.const (.slice none 0 0))), .m 7 29]) .ret) .skip)) (.seq (.seq (.region [.m 30 1, .o 31 (.n 30), .o 32 (.c .gtr 31 0), .m 33 32, .g 34 (.m 1) 33 true, .g 35 (.iaddr 1 (.tmp 34) (.const (.int .i64 0))) 33 true, .g 36 (.l 35) 33 true, .g 37 (.n 36) 33 true, .g 38 (.m 2) 33 true, .g 39 (.n 38) 33 true, .g 40 (.b .neq 37 39) 33 true, .o 41 (.pick (.tmp 33) (.tmp 40) (.const (.bool false)))]) (.cond (.tmp 41) (.seq (.region [.o 6 (.mv (.const (.slice none 0 0))), .k 7 3]) .ret) .skip)) (.seq (.region [.m 43 0, .o 44 (.q 77 [43]), .m 42 44, .o 45 (.e 0 42), .o 46 (.e 1 42), .m 9 45, .m 10 46]) (.seq (.region [.o 11 (.mv (.const (.slice none 0 0)))]) (.seq (.seq (.region [.m 47 1, .o 48 (.n 47), .k 49 0]) (.block 0 [11] (.loop [2, 9, 11, 47, 48, 49] c18L2))) (.seq (.region [.m 95 11, .m 6 95, .k 7 0]) .ret)))))))))
def F18 : AFun := ⟨c18, 3, 96, [(.tmp 6), (.tmp 7)]⟩
def K18 : Nat → List Nat × List Nat
 | 0 => ([2, 9, 11, 47, 48, 49], [11])
 | 1 => ([], [2, 9, 11, 47, 48, 49])
 | 2 => ([2, 9, 11, 14, 47, 48, 49, 58, 59, 60], [2, 9, 11, 14, 47, 48, 49])
 | 3 => ([], [2, 9, 11, 14, 47, 48, 49, 58, 59, 60])
 | 4 => ([2, 9, 11, 14, 16, 47, 48, 49, 58, 59, 60, 68, 69, 70], [2, 9, 11, 14, 47, 48, 49, 58, 59, 60])
 | 5 => ([], [2, 9, 11, 14, 16, 47, 48, 49, 58, 59, 60, 68, 69, 70])
 | _ => ([], [])
theorem F18_ok : kj8 Try.prog K18 Try.f18 = some F18 := by kernel_rfl
/- 19: syndrome/matrix.Check -/
def c19L0 : ACode := (.seq (.region [.o 23 (.b .lss 22 21)]) (.seq (.cond (.tmp 23) .skip (.exit 0)) (.seq (.block 1 [1, 5, 20, 21, 22] (.seq (.region [.o 24 (.i 1 20 22), .o 25 (.l 24), .m 8 25]) (.seq (.seq (.region [.m 26 8, .o 27 (.n 26), .m 28 1, .o 29 (.iaddr 1 (.tmp 28) (.const (.int .i64 0))), .o 30 (.l 29), .o 31 (.n 30), .o 32 (.b .neq 27 31), .m 33 32, .g 34 (.m 8) 33 false, .g 35 (.n 34) 33 false, .g 36 (.c .eql 35 0) 33 false, .o 37 (.pick (.tmp 33) (.const (.bool true)) (.tmp 36))]) (.cond (.tmp 37) (.seq (.region [.k 4 3]) .ret) .skip)) (.seq (.seq (.region [.m 38 8, .o 39 (.n 38), .o 40 (.c .gtr 39 64)]) (.cond (.tmp 40) (.seq (.region [.k 4 4]) .ret) .skip)) (.seq (.region [.m 41 8, .o 42 (.mkf 81 [(.tmp 5)]), .o 43 (.q 80 [41, 42])]) (.cond (.tmp 43) (.seq (.region [.k 4 2]) .ret) .skip)))))) (.region [.o 44 (.c .add 22 1), .m 22 44]))))
def c19 : ACode := (.seq (.region [.k 4 0]) (.seq (.region [.m 10 0, .o 11 (.q 77 [10]), .m 9 11, .o 12 (.e 0 9), .o 13 (.e 1 9), .o 5 (.alloc 107 [(.pointer none)]), .n (.st 1 (.tmp 5) (.tmp 12)), .m 6 13]) (.seq (.seq (.region [.m 14 6, .o 15 (.c .neq 14 0)]) (.cond (.tmp 15) (.seq (.region [.m 16 6, .m 4 16]) .ret) .skip)) (.seq (.seq (.region [.m 17 1, .o 18 (.n 17), .o 19 (.c .gtr 18 64)]) (.cond (.tmp 19) (.seq (.region [.k 4 4]) .ret) .skip)) (.seq (.seq (.region [.m 20 1, .o 21 (.n 20), .k 22 0]) (.block 0 [] (.loop [1, 5, 20, 21, 22] c19L0))) (.seq (.region [.k 4 0]) .ret))))))
def F19 : AFun := ⟨c19, 2, 45, [(.tmp 4)]⟩
def K19 : Nat → List Nat × List Nat
 | 0 => ([1, 5, 20, 21, 22], [])
 | 1 => ([], [1, 5, 20, 21, 22])
 | _ => ([], [])
theorem F19_ok : kj8 Try.prog K19 Try.f19 = some F19 := by kernel_rfl
/- 20: syndrome/syndromelaw.lists -/
def c20 : ACode := (.seq (.region [.o 8 (.mv (.const (.bool false)))]) (.seq (.seq (.region [.m 9 3, .o 10 (.c .neq 9 0)]) (.cond (.tmp 10) (.seq (.region [.m 11 1, .m 12 3, .o 13 (.b .eql 11 12), .m 14 13, .g 15 (.m 0) 14 true, .g 16 (.n 15) 14 true, .g 17 (.c .eql 16 0) 14 true, .o 18 (.pick (.tmp 14) (.tmp 17) (.const (.bool false))), .m 8 18]) .ret) .skip)) (.seq (.region [.m 19 1, .o 20 (.c .eql 19 0), .m 21 20, .g 22 (.m 0) 21 true, .g 23 (.m 2) 21 true, .g 24 (.q 83 [22, 23]) 21 true, .o 25 (.pick (.tmp 21) (.tmp 24) (.const (.bool false))), .m 8 25]) .ret)))
def F20 : AFun := ⟨c20, 4, 26, [(.tmp 8)]⟩
def K20 : Nat → List Nat × List Nat
 | _ => ([], [])
theorem F20_ok : kj8 Try.prog K20 Try.f20 = some F20 := by kernel_rfl
/- 21: syndrome/syndromelaw.matrixOne -/
def c21 : ACode := (.seq (.region [.o 8 (.mv (.const (.bool false)))]) (.seq (.region [.m 27 0, .o 28 (.q 16 [27]), .m 26 28, .o 29 (.e 0 26), .o 30 (.e 1 26), .o 9 (.alloc 28 [(.int .i64 0), (.int .i64 0), (.int .i64 0), (.int .i64 0), (.slice none 0 0)]), .n (.st 5 (.tmp 9) (.tmp 29)), .m 10 30]) (.seq (.region [.o 11 (.mv (.const (.slice none 0 0)))]) (.seq (.region [.o 12 (.mv (.const (.slice none 0 0)))]) (.seq (.region [.o 13 (.mv (.const (.slice none 0 0)))]) (.seq (.seq (.region [.m 31 3, .o 32 (.c .eql 31 0), .m 33 32, .g 34 (.m 1) 33 true, .g 35 (.n 34) 33 true, .g 36 (.c .gtr 35 0) 33 true, .o 37 (.pick (.tmp 33) (.tmp 36) (.const (.bool false)))]) (.cond (.tmp 37) (.seq (.region [.o 39 (.ld true 5 (.tmp 9)), .m 40 1, .o 41 (.q 84 [39, 40]), .m 38 41, .o 42 (.e 0 38), .o 43 (.e 1 38), .m 11 42, .m 12 43]) (.region [.o 44 (.ld true 5 (.tmp 9)), .m 45 1, .m 46 1, .o 47 (.iaddr 1 (.tmp 46) (.const (.int .i64 0))), .o 48 (.l 47), .o 49 (.n 48), .o 50 (.q 85 [44, 45, 49]), .m 13 50])) .skip)) (.seq (.region [.m 52 0, .m 53 1, .o 54 (.q 65 [52, 53]), .m 51 54, .o 55 (.e 0 51), .o 56 (.e 1 51), .o 57 (.e 2 51), .m 14 55, .m 15 56, .m 16 57]) (.seq (.region [.m 59 0, .m 60 1, .o 61 (.q 63 [59, 60]), .m 58 61, .o 62 (.e 0 58), .o 63 (.e 1 58), .m 17 62, .m 18 63]) (.seq (.region [.m 65 0, .m 66 1, .o 67 (.q 64 [65, 66]), .m 64 67, .o 68 (.e 0 64), .o 69 (.e 1 64), .m 19 68, .m 20 69]) (.seq (.seq (.region [.m 70 14, .m 71 16, .m 72 11, .m 73 3, .o 74 (.q 20 [70, 71, 72, 73]), .o 75 (.un .not (.tmp 74)), .m 76 75, .g 77 (.m 15) 76 false, .g 78 (.m 16) 76 false, .g 79 (.m 12) 76 false, .g 80 (.m 3) 76 false, .g 81 (.q 35 [77, 78, 79, 80]) 76 false, .g 82 (.un .not (.tmp 81)) 76 false, .o 83 (.pick (.tmp 76) (.const (.bool true)) (.tmp 82)), .m 84 83, .g 85 (.m 17) 84 false, .g 86 (.m 18) 84 false, .g 87 (.m 11) 84 false, .g 88 (.n 87) 84 false, .g 89 (.m 3) 84 false, .g 90 (.q 53 [85, 86, 88, 89]) 84 false, .g 91 (.un .not (.tmp 90)) 84 false, .o 92 (.pick (.tmp 84) (.const (.bool true)) (.tmp 91)), .m 93 92, .g 94 (.m 19) 93 false, .g 95 (.m 20) 93 false, .g 96 (.m 13) 93 false, .g 97 (.m 3) 93 false, .g 98 (.q 20 [94, 95, 96, 97]) 93 false, .g 99 (.un .not (.tmp 98)) 93 false, .o 100 (.pick (.tmp 93) (.const (.bool true)) (.tmp 99))]) (.cond (.tmp 100) (.seq (.region [.o 8 (.mv (.const (.bool false)))]) .ret) .skip)) (.seq (.region [.m 101 3, .m 21 101]) (.seq (.seq (.region [.m 102 21, .o 103 (.c .eql 102 0), .m 104 103, .g 105 (.m 2) 104 true, .g 106 (.n 105) 104 true, .g 107 (.m 1) 104 true, .g 108 (.n 107) 104 true, .g 109 (.b .neq 106 108) 104 true, .o 110 (.pick (.tmp 104) (.tmp 109) (.const (.bool false)))]) (.cond (.tmp 110) (.region [.k 21 6]) .skip)) (.seq (.seq (.region [.m 111 21, .o 112 (.c .eql 111 0), .m 113 112, .g 114 (.ld true 5 (.tmp 9)) 113 true, .g 115 (.m 2) 113 true, .g 116 (.q 32 [114, 115]) 113 true, .g 117 (.un .not (.tmp 116)) 113 true, .o 118 (.pick (.tmp 113) (.tmp 117) (.const (.bool false)))]) (.cond (.tmp 118) (.region [.k 21 2]) .skip)) (.seq (.region [.o 22 (.mv (.const (.slice none 0 0)))]) (.seq (.region [.m 119 21, .o 120 (.c .eql 119 0), .m 23 120]) (.seq (.seq (.region [.m 121 21, .o 122 (.c .eql 121 0), .m 123 122, .g 124 (.m 1) 123 true, .g 125 (.n 124) 123 true, .g 126 (.c .gtr 125 0) 123 true, .o 127 (.pick (.tmp 123) (.tmp 126) (.const (.bool false)))]) (.cond (.tmp 127) (.region [.o 129 (.ld true 5 (.tmp 9)), .m 130 1, .m 131 2, .o 132 (.q 86 [129, 130, 131]), .m 128 132, .o 133 (.e 0 128), .o 134 (.e 1 128), .m 22 133, .m 23 134]) .skip)) (.seq (.region [.m 136 0, .m 137 1, .m 138 2, .o 139 (.q 87 [136, 137, 138]), .m 135 139, .o 140 (.e 0 135), .o 141 (.e 1 135), .o 142 (.e 2 135), .m 24 140, .m 25 141, .m 16 142]) (.seq (.seq (.region [.m 143 16, .m 144 21, .o 145 (.b .neq 143 144), .m 146 145, .g 147 (.m 25) 146 false, .g 148 (.m 23) 146 false, .g 149 (.eqb true (.tmp 147) (.tmp 148)) 146 false, .o 150 (.pick (.tmp 146) (.const (.bool true)) (.tmp 149)), .m 151 150, .g 152 (.m 24) 151 false, .g 153 (.m 22) 151 false, .g 154 (.q 58 [152, 153]) 151 false, .g 155 (.un .not (.tmp 154)) 151 false, .o 156 (.pick (.tmp 151) (.const (.bool true)) (.tmp 155))]) (.cond (.tmp 156) (.seq (.region [.o 8 (.mv (.const (.bool false)))]) .ret) .skip)) (.seq (.region [.m 157 0, .o 158 (.ld true 5 (.tmp 9)), .m 159 1, .m 160 11, .o 161 (.n 160), .m 162 3, .o 163 (.q 88 [157, 158, 159, 161, 162]), .m 8 163]) .ret)))))))))))))))))))
def F21 : AFun := ⟨c21, 4, 164, [(.tmp 8)]⟩
def K21 : Nat → List Nat × List Nat
 | _ => ([], [])
theorem F21_ok : kj8 Try.prog K21 Try.f21 = some F21 := by kernel_rfl
/- 22: syndrome/syndromeref.SizeOf -/
def c22 : ACode := (.seq (.region [.k 2 0]) (.seq (.region [.o 5 (.call 89 []), .m 3 5]) (.seq (.region [.m 6 0, .o 7 (.call 23 [(.tmp 6), (.const (.int .i64 100))]), .m 4 7]) (.seq (.seq (.region [.m 8 4, .o 9 (.c .lss 8 60)]) (.cond (.tmp 9) (.seq (.region [.m 10 3, .m 11 4, .o 12 (.c .rem 11 7), .o 13 (.i 1 10 12), .o 14 (.l 13), .m 2 14]) .ret) .skip)) (.seq (.region [.m 15 3, .m 16 0, .o 17 (.c .quo 16 100), .m 18 3, .o 19 (.n 18), .o 20 (.q 23 [17, 19]), .o 21 (.i 1 15 20), .o 22 (.l 21), .m 2 22]) .ret)))))
def F22 : AFun := ⟨c22, 1, 23, [(.tmp 2)]⟩
def K22 : Nat → List Nat × List Nat
 | _ => ([], [])
theorem F22_ok : kj8 Try.prog K22 Try.f22 = some F22 := by kernel_rfl
/- 23: syndrome/syndromeref.Pick -/
def c23 : ACode := (.seq (.region [.k 4 0]) (.seq (.seq (.region [.m 5 0, .o 6 (.c .lss 5 0)]) (.cond (.tmp 6) (.region [.m 7 0, .o 8 (.c .add 7 1), .o 9 (.un .neg (.tmp 8)), .m 0 9]) .skip)) (.seq (.region [.m 10 0, .m 11 1, .o 12 (.b .rem 10 11), .m 4 12]) .ret)))
def F23 : AFun := ⟨c23, 2, 13, [(.tmp 4)]⟩
def K23 : Nat → List Nat × List Nat
 | _ => ([], [])
theorem F23_ok : kj8 Try.prog K23 Try.f23 = some F23 := by kernel_rfl
/- 24: syndrome/syndromeref.MatrixOf -/
def c24L0 : ACode := (.seq (.seq (.region [.m 13 12, .m 14 3, .o 15 (.b .lss 13 14)]) (.cond (.tmp 15) .skip (.exit 0))) (.seq (.block 1 [0, 1, 2, 3, 4, 11, 12] (.region [.m 18 11, .m 19 0, .m 20 1, .m 21 12, .m 22 4, .o 23 (.b .mul 21 22), .o 24 (.b .add 20 23), .m 25 2, .m 26 4, .o 27 (.q 25 [19, 24, 25, 26]), .o 28 (.mkSl 23 1 1 [(.tmp 27)]), .o 29 (.app 23 1 24 (.tmp 18) (.tmp 28)), .m 11 29])) (.region [.m 16 12, .o 17 (.c .add 16 1), .m 12 17])))
def c24 : ACode := (.seq (.region [.o 10 (.mv (.const (.slice none 0 0)))]) (.seq (.region [.o 11 (.mv (.const (.slice none 0 0)))]) (.seq (.seq (.region [.k 12 0]) (.block 0 [11] (.loop [0, 1, 2, 3, 4, 11, 12] c24L0))) (.seq (.region [.m 30 11, .m 10 30]) .ret))))
def F24 : AFun := ⟨c24, 5, 31, [(.tmp 10)]⟩
def K24 : Nat → List Nat × List Nat
 | 0 => ([0, 1, 2, 3, 4, 11, 12], [11])
 | 1 => ([], [0, 1, 2, 3, 4, 11, 12])
 | _ => ([], [])
theorem F24_ok : kj8 Try.prog K24 Try.f24 = some F24 := by kernel_rfl
/- 25: syndrome/syndromeref.Numbers -/
def c25L0 : ACode := (.seq (.seq (.region [.m 11 10, .m 12 3, .o 13 (.b .lss 11 12)]) (.cond (.tmp 13) .skip (.exit 0))) (.seq (.block 1 [0, 1, 2, 3, 9, 10] (.region [.m 16 9, .m 17 0, .m 18 1, .m 19 10, .o 20 (.b .add 18 19), .o 21 (.q 40 [17, 20]), .m 22 2, .o 23 (.q 23 [21, 22]), .o 24 (.mkSl 3 1 1 [(.tmp 23)]), .o 25 (.app 3 1 8 (.tmp 16) (.tmp 24)), .m 9 25])) (.region [.m 14 10, .o 15 (.c .add 14 1), .m 10 15])))
def c25 : ACode := (.seq (.region [.o 8 (.mv (.const (.slice none 0 0)))]) (.seq (.region [.o 9 (.mv (.const (.slice none 0 0)))]) (.seq (.seq (.region [.k 10 0]) (.block 0 [9] (.loop [0, 1, 2, 3, 9, 10] c25L0))) (.seq (.region [.m 26 9, .m 8 26]) .ret))))
def F25 : AFun := ⟨c25, 4, 27, [(.tmp 8)]⟩
def K25 : Nat → List Nat × List Nat
 | 0 => ([0, 1, 2, 3, 9, 10], [9])
 | 1 => ([], [0, 1, 2, 3, 9, 10])
 | _ => ([], [])
theorem F25_ok : kj8 Try.prog K25 Try.f25 = some F25 := by kernel_rfl
/- 32: (syndrome/syndromeref.F).Elements -/
def c32L0 : ACode := (.seq (.seq (.region [.m 6 5, .m 7 1, .o 8 (.n 7), .o 9 (.b .lss 6 8)]) (.cond (.tmp 9) .skip (.exit 0))) (.seq (.block 1 [1, 2, 5] (.seq (.region [.o 12 (.ld true 5 (.tmp 2)), .m 13 1, .m 14 5, .o 15 (.i 1 13 14), .o 16 (.l 15), .o 17 (.q 71 [12, 16]), .o 18 (.un .not (.tmp 17))]) (.cond (.tmp 18) (.seq (.region [.o 4 (.mv (.const (.bool false)))]) .ret) .skip))) (.region [.m 10 5, .o 11 (.c .add 10 1), .m 5 11])))
def c32 : ACode := (.seq (.region [.o 2 (.box 28 5 (.tmp 0)), .o 4 (.mv (.const (.bool false)))]) (.seq (.seq (.region [.k 5 0]) (.block 0 [] (.loop [1, 2, 5] c32L0))) (.seq (.region [.o 4 (.mv (.const (.bool true)))]) .ret)))
def F32 : AFun := ⟨c32, 2, 19, [(.tmp 4)]⟩
def K32 : Nat → List Nat × List Nat
 | 0 => ([1, 2, 5], [])
 | 1 => ([], [1, 2, 5])
 | _ => ([], [])
theorem F32_ok : kj8 Try.prog K32 Try.f32 = some F32 := by kernel_rfl
/- 35: syndrome/syndromelaw.list -/
def c35 : ACode := (.seq (.region [.o 8 (.mv (.const (.bool false)))]) (.seq (.seq (.region [.m 9 3, .o 10 (.c .neq 9 0)]) (.cond (.tmp 10) (.seq (.region [.m 11 1, .m 12 3, .o 13 (.b .eql 11 12), .m 14 13, .g 15 (.m 0) 14 true, .g 16 (.n 15) 14 true, .g 17 (.c .eql 16 0) 14 true, .o 18 (.pick (.tmp 14) (.tmp 17) (.const (.bool false))), .m 8 18]) .ret) .skip)) (.seq (.region [.m 19 1, .o 20 (.c .eql 19 0), .m 21 20, .g 22 (.m 0) 21 true, .g 23 (.m 2) 21 true, .g 24 (.q 58 [22, 23]) 21 true, .o 25 (.pick (.tmp 21) (.tmp 24) (.const (.bool false))), .m 8 25]) .ret)))
def F35 : AFun := ⟨c35, 4, 26, [(.tmp 8)]⟩
def K35 : Nat → List Nat × List Nat
 | _ => ([], [])
theorem F35_ok : kj8 Try.prog K35 Try.f35 = some F35 := by kernel_rfl
/- 40: syndrome/syndromeref.Raw -/
def c40 : ACode := (.seq (.region [.k 4 0]) (.seq (.seq (.region [.m 5 0, .o 6 (.n 5), .o 7 (.c .eql 6 0)]) (.cond (.tmp 7) (.seq (.region [.m 8 1, .m 4 8]) .ret) .skip)) (.seq (.region [.m 9 0, .m 10 1, .m 11 0, .o 12 (.n 11), .o 13 (.b .rem 10 12), .o 14 (.i 1 9 13), .o 15 (.l 14), .m 16 1, .m 17 0, .o 18 (.n 17), .o 19 (.b .quo 16 18), .o 20 (.c .mul 19 7919), .o 21 (.b .add 15 20), .m 4 21]) .ret)))
def F40 : AFun := ⟨c40, 2, 22, [(.tmp 4)]⟩
def K40 : Nat → List Nat × List Nat
 | _ => ([], [])
theorem F40_ok : kj8 Try.prog K40 Try.f40 = some F40 := by kernel_rfl
/- 53: syndrome/syndromelaw.num -/
def c53 : ACode := (.seq (.region [.o 8 (.mv (.const (.bool false)))]) (.seq (.seq (.region [.m 9 3, .o 10 (.c .neq 9 0)]) (.cond (.tmp 10) (.seq (.region [.m 11 1, .m 12 3, .o 13 (.b .eql 11 12), .m 14 13, .g 15 (.m 0) 14 true, .g 16 (.c .eql 15 0) 14 true, .o 17 (.pick (.tmp 14) (.tmp 16) (.const (.bool false))), .m 8 17]) .ret) .skip)) (.seq (.region [.m 18 1, .o 19 (.c .eql 18 0), .m 20 19, .g 21 (.m 0) 20 true, .g 22 (.m 2) 20 true, .g 23 (.b .eql 21 22) 20 true, .o 24 (.pick (.tmp 20) (.tmp 23) (.const (.bool false))), .m 8 24]) .ret)))
def F53 : AFun := ⟨c53, 4, 25, [(.tmp 8)]⟩
def K53 : Nat → List Nat × List Nat
 | _ => ([], [])
theorem F53_ok : kj8 Try.prog K53 Try.f53 = some F53 := by kernel_rfl
/- 58: syndrome/syndromeref.Same -/
def c58L0 : ACode := (.seq (.seq (.region [.m 11 5, .m 12 0, .o 13 (.n 12), .o 14 (.b .lss 11 13)]) (.cond (.tmp 14) .skip (.exit 0))) (.seq (.block 1 [0, 1, 5] (.seq (.region [.m 17 0, .m 18 5, .o 19 (.i 1 17 18), .o 20 (.l 19), .m 21 1, .m 22 5, .o 23 (.i 1 21 22), .o 24 (.l 23), .o 25 (.b .neq 20 24)]) (.cond (.tmp 25) (.seq (.region [.o 4 (.mv (.const (.bool false)))]) .ret) .skip))) (.region [.m 15 5, .o 16 (.c .add 15 1), .m 5 16])))
def c58 : ACode := (.seq (.region [.o 4 (.mv (.const (.bool false)))]) (.seq (.seq (.region [.m 6 0, .o 7 (.n 6), .m 8 1, .o 9 (.n 8), .o 10 (.b .neq 7 9)]) (.cond (.tmp 10) (.seq (.region [.o 4 (.mv (.const (.bool false)))]) .ret) .skip)) (.seq (.seq (.region [.k 5 0]) (.block 0 [] (.loop [0, 1, 5] c58L0))) (.seq (.region [.o 4 (.mv (.const (.bool true)))]) .ret))))
def F58 : AFun := ⟨c58, 2, 26, [(.tmp 4)]⟩
def K58 : Nat → List Nat × List Nat
 | 0 => ([0, 1, 5], [])
 | 1 => ([], [0, 1, 5])
 | _ => ([], [])
theorem F58_ok : kj8 Try.prog K58 Try.f58 = some F58 := by kernel_rfl
/- 63: syndrome/matrix.Rank -/
def c63 : ACode := (.seq (.region [.k 4 0, .k 5 0]) (.seq (.region [.m 10 0, .m 11 1, .o 12 (.q 65 [10, 11]), .m 9 12, .o 13 (.e 0 9), .o 14 (.e 1 9), .o 15 (.e 2 9), .m 6 13, .m 7 14, .m 8 15]) (.seq (.region [.m 16 7, .o 17 (.n 16), .m 18 8, .m 4 17, .m 5 18]) .ret)))
def F63 : AFun := ⟨c63, 2, 19, [(.tmp 4), (.tmp 5)]⟩
def K63 : Nat → List Nat × List Nat
 | _ => ([], [])
theorem F63_ok : kj8 Try.prog K63 Try.f63 = some F63 := by kernel_rfl
/- 64: syndrome/matrix.Null -/
def c64L0 : ACode := (.seq (.region [.o 57 (.b .lss 56 55)]) (.seq (.cond (.tmp 57) .skip (.exit 2)) (.seq (.block 3 [0, 1, 6, 7, 9, 11, 12, 13, 39, 40, 54, 55, 56] (.seq (.region [.m 58 56, .o 59 (.i 1 54 56), .o 60 (.l 59), .m 14 58, .m 15 60]) (.region [.m 61 13, .m 62 15, .m 63 9, .m 64 6, .m 65 14, .o 66 (.i 1 64 65), .o 67 (.l 66), .m 68 12, .o 69 (.i 1 67 68), .o 70 (.l 69), .o 71 (.q 115 [63, 70]), .o 72 (.i 1 61 62), .n (.st 1 (.tmp 72) (.tmp 71))]))) (.region [.o 73 (.c .add 56 1), .m 56 73]))))
def c64L1 : ACode := (.seq (.region [.o 41 (.b .lss 40 39)]) (.seq (.cond (.tmp 41) .skip (.exit 0)) (.seq (.block 1 [0, 1, 6, 7, 9, 11, 39, 40] (.seq (.region [.m 42 40, .m 12 42]) (.seq (.seq (.region [.m 43 7, .m 44 12, .o 45 (.q 114 [43, 44])]) (.cond (.tmp 45) (.exit 1) .skip)) (.seq (.region [.m 46 1, .o 47 (.iaddr 1 (.tmp 46) (.const (.int .i64 0))), .o 48 (.l 47), .o 49 (.n 48), .o 50 (.mks 3 1 8 [(.int .i64 0)] (.tmp 49) (.tmp 49)), .m 13 50]) (.seq (.region [.m 51 13, .m 52 12, .o 53 (.i 1 51 52), .n (.st 1 (.tmp 53) (.const (.int .i64 1)))]) (.seq (.seq (.region [.m 54 7, .o 55 (.n 54), .k 56 0]) (.block 2 [0, 1, 6, 7, 9, 11, 13, 39, 40] (.loop [0, 1, 6, 7, 9, 11, 12, 13, 39, 40, 54, 55, 56] c64L0))) (.region [.m 74 11, .m 75 13, .o 76 (.mkSl 23 1 1 [(.tmp 75)]), .o 77 (.app 23 1 24 (.tmp 74) (.tmp 76)), .m 11 77]))))))) (.region [.o 78 (.c .add 40 1), .m 40 78]))))
def c64 : ACode := (.seq (.region [.o 4 (.mv (.const (.slice none 0 0))), .k 5 0]) (.seq (.region [.m 17 0, .m 18 1, .o 19 (.q 65 [17, 18]), .m 16 19, .o 20 (.e 0 16), .o 21 (.e 1 16), .o 22 (.e 2 16), .m 6 20, .m 7 21, .m 8 22]) (.seq (.seq (.region [.m 23 8, .o 24 (.c .neq 23 0), .m 25 24, .g 26 (.m 1) 25 false, .g 27 (.n 26) 25 false, .g 28 (.c .eql 27 0) 25 false, .o 29 (.pick (.tmp 25) (.const (.bool true)) (.tmp 28))]) (.cond (.tmp 29) (.seq (.region [.m 30 8, .o 4 (.mv (.const (.slice none 0 0))), .m 5 30]) .ret) .skip)) (.seq (.region [.m 32 0, .o 33 (.q 77 [32]), .m 31 33, .o 34 (.e 0 31), .o 35 (.e 1 31), .m 9 34, .m 10 35]) (.seq (.region [.o 11 (.mv (.const (.slice none 0 0)))]) (.seq (.seq (.region [.m 36 1, .o 37 (.iaddr 1 (.tmp 36) (.const (.int .i64 0))), .o 38 (.l 37), .o 39 (.n 38), .k 40 0]) (.block 0 [0, 11] (.loop [0, 1, 6, 7, 9, 11, 39, 40] c64L1))) (.seq (.region [.m 80 0, .m 81 11, .o 82 (.q 65 [80, 81]), .m 79 82, .o 83 (.e 0 79), .o 84 (.e 1 79), .o 85 (.e 2 79), .m 11 83]) (.seq (.region [.m 86 11, .m 4 86, .k 5 0]) .ret))))))))
def F64 : AFun := ⟨c64, 2, 87, [(.tmp 4), (.tmp 5)]⟩
def K64 : Nat → List Nat × List Nat
 | 0 => ([0, 1, 6, 7, 9, 11, 39, 40], [0, 11])
 | 1 => ([], [0, 1, 6, 7, 9, 11, 39, 40])
 | 2 => ([0, 1, 6, 7, 9, 11, 12, 13, 39, 40, 54, 55, 56], [0, 1, 6, 7, 9, 11, 13, 39, 40])
 | 3 => ([], [0, 1, 6, 7, 9, 11, 12, 13, 39, 40, 54, 55, 56])
 | _ => ([], [])
theorem F64_ok : kj8 Try.prog K64 Try.f64 = some F64 := by kernel_rfl
/- 65: syndrome/matrix.Reduce -/
def c65L0 : ACode := (.seq (.region [.o 92 (.b .lss 91 90)]) (.seq (.cond (.tmp 92) .skip (.exit 2)) (.seq (.block 3 [1, 5, 8, 10, 11, 90, 91] (.seq (.region [.m 93 91, .m 13 93]) (.seq (.region [.m 94 13, .m 95 11, .o 96 (.b .neq 94 95), .m 97 96, .g 98 (.m 1) 97 true, .g 99 (.m 13) 97 true, .g 100 (.i 1 98 99) 97 true, .g 101 (.l 100) 97 true, .g 102 (.l 10) 97 true, .g 103 (.i 1 101 102) 97 true, .g 104 (.l 103) 97 true, .g 105 (.c .neq 104 0) 97 true, .o 106 (.pick (.tmp 97) (.tmp 105) (.const (.bool false)))]) (.cond (.tmp 106) (.region [.m 107 8, .m 108 1, .m 109 13, .o 110 (.i 1 108 109), .o 111 (.l 110), .m 112 1, .m 113 11, .o 114 (.i 1 112 113), .o 115 (.l 114), .m 116 1, .m 117 13, .o 118 (.i 1 116 117), .o 119 (.l 118), .o 120 (.l 10), .o 121 (.i 1 119 120), .o 122 (.l 121), .o 123 (.q 121 [107, 111, 115, 122])]) .skip)))) (.region [.o 124 (.c .add 91 1), .m 91 124]))))
def c65L1 : ACode := (.seq (.seq (.region [.o 32 (.l 10), .m 33 1, .o 34 (.iaddr 1 (.tmp 33) (.const (.int .i64 0))), .o 35 (.l 34), .o 36 (.n 35), .o 37 (.b .lss 32 36), .m 38 37, .g 39 (.m 5) 38 true, .g 40 (.n 39) 38 true, .g 41 (.m 1) 38 true, .g 42 (.n 41) 38 true, .g 43 (.b .lss 40 42) 38 true, .o 44 (.pick (.tmp 38) (.tmp 43) (.const (.bool false)))]) (.cond (.tmp 44) .skip (.exit 0))) (.seq (.block 1 [1, 5, 8, 10] (.seq (.region [.m 47 5, .o 48 (.n 47), .m 11 48]) (.seq (.region [.m 49 1, .m 50 11, .o 51 (.sl 1 (.tmp 49) (some (.tmp 50)) none), .o 52 (.mkf 118 [(.tmp 10)]), .o 53 (.q 117 [51, 52]), .m 12 53]) (.seq (.seq (.region [.m 54 12, .o 55 (.c .lss 54 0)]) (.cond (.tmp 55) (.exit 1) .skip)) (.seq (.region [.m 56 1, .m 57 11, .m 58 1, .m 59 11, .m 60 12, .o 61 (.b .add 59 60), .m 62 1, .m 63 11, .m 64 12, .o 65 (.b .add 63 64), .o 66 (.i 1 62 65), .o 67 (.l 66), .m 68 1, .m 69 11, .o 70 (.i 1 68 69), .o 71 (.l 70), .o 72 (.i 1 56 57), .n (.st 1 (.tmp 72) (.tmp 67)), .o 73 (.i 1 58 61), .n (.st 1 (.tmp 73) (.tmp 71))]) (.seq (.region [.m 74 8, .m 75 1, .m 76 11, .o 77 (.i 1 75 76), .o 78 (.l 77), .m 79 8, .m 80 1, .m 81 11, .o 82 (.i 1 80 81), .o 83 (.l 82), .o 84 (.l 10), .o 85 (.i 1 83 84), .o 86 (.l 85), ⟨(some 87), (.call 120 [(.tmp 79), (.tmp 86)]), none, true⟩, .o 88 (.q 119 [74, 78, 87])]) (.seq (.seq (.region [.m 89 1, .o 90 (.n 89), .k 91 0]) (.block 2 [1, 5, 8, 10] (.loop [1, 5, 8, 10, 11, 90, 91] c65L0))) (.region [.m 125 5, .o 126 (.l 10), .o 127 (.mkSl 3 1 1 [(.tmp 126)]), .o 128 (.app 3 1 8 (.tmp 125) (.tmp 127)), .m 5 128])))))))) (.seq (.seq (.region [.o 129 (.l 10)]) (.region [.o 10 (.alloc 3 [(.int .i64 0)]), .n (.st 1 (.tmp 10) (.tmp 129))])) (.region [.o 45 (.l 10), .o 46 (.c .add 45 1), .n (.st 1 (.tmp 10) (.tmp 46))]))))
def c65 : ACode := (.seq (.region [.o 4 (.mv (.const (.slice none 0 0))), .o 5 (.mv (.const (.slice none 0 0))), .k 6 0]) (.seq (.seq (.region [.m 14 0, .m 15 1, .o 16 (.q 19 [14, 15]), .m 7 16]) (.seq (.region [.m 17 7, .o 18 (.c .neq 17 0), .m 19 18, .g 20 (.m 1) 19 false, .g 21 (.n 20) 19 false, .g 22 (.c .eql 21 0) 19 false, .o 23 (.pick (.tmp 19) (.const (.bool true)) (.tmp 22))]) (.cond (.tmp 23) (.seq (.region [.m 24 7, .o 4 (.mv (.const (.slice none 0 0))), .o 5 (.mv (.const (.slice none 0 0))), .m 6 24]) .ret) .skip))) (.seq (.region [.m 26 0, .o 27 (.q 77 [26]), .m 25 27, .o 28 (.e 0 25), .o 29 (.e 1 25), .m 8 28, .m 9 29]) (.seq (.region [.m 30 1, .o 31 (.q 116 [30]), .m 1 31]) (.seq (.seq (.region [.o 10 (.alloc 3 [(.int .i64 0)]), .n (.st 1 (.tmp 10) (.const (.int .i64 0)))]) (.block 0 [1, 5] (.loop [1, 5, 8, 10] c65L1))) (.seq (.region [.m 130 1, .m 131 5, .o 132 (.n 131), .m 133 5, .o 134 (.n 133), .o 135 (.sl3 (.tmp 130) (.tmp 132) (.tmp 134)), .m 136 5, .m 4 135, .m 5 136, .k 6 0]) .ret))))))
def F65 : AFun := ⟨c65, 2, 137, [(.tmp 4), (.tmp 5), (.tmp 6)]⟩
def K65 : Nat → List Nat × List Nat
 | 0 => ([1, 5, 8, 10], [1, 5])
 | 1 => ([], [1, 5, 8, 10])
 | 2 => ([1, 5, 8, 10, 11, 90, 91], [1, 5, 8, 10])
 | 3 => ([], [1, 5, 8, 10, 11, 90, 91])
 | _ => ([], [])
theorem F65_ok : kj8 Try.prog K65 Try.f65 = some F65 := by kernel_rfl
/- 71: (syndrome/syndromeref.F).Has -/
def c71 : ACode := (.seq (.region [.o 2 (.box 28 5 (.tmp 0)), .o 4 (.mv (.const (.bool false)))]) (.seq (.region [.m 5 1, .o 6 (.c .geq 5 0), .m 7 6, .g 8 (.m 1) 7 true, .g 9 (.f 0 2) 7 true, .g 10 (.l 9) 7 true, .g 11 (.b .lss 8 10) 7 true, .o 12 (.pick (.tmp 7) (.tmp 11) (.const (.bool false))), .m 4 12]) .ret))
def F71 : AFun := ⟨c71, 2, 13, [(.tmp 4)]⟩
def K71 : Nat → List Nat × List Nat
 | _ => ([], [])
theorem F71_ok : kj8 Try.prog K71 Try.f71 = some F71 := by kernel_rfl
/- 72: syndrome/syndromeref.Prime -/
def c72L0 : ACode := (.seq (.seq (.region [.m 15 0, .m 16 4, .o 17 (.b .rem 15 16), .o 18 (.c .eql 17 0)]) (.cond (.tmp 18) .skip (.exit 2))) (.block 3 [0, 4, 5] (.seq (.region [.m 19 0, .m 20 4, .o 21 (.b .quo 19 20), .m 0 21]) (.region [.m 22 5, .o 23 (.c .add 22 1), .m 5 23]))))
def c72L1 : ACode := (.seq (.seq (.region [.m 6 4, .m 7 0, .o 8 (.b .leq 6 7)]) (.cond (.tmp 8) .skip (.exit 0))) (.seq (.block 1 [0, 4] (.seq (.seq (.region [.m 11 0, .m 12 4, .o 13 (.b .rem 11 12), .o 14 (.c .neq 13 0)]) (.cond (.tmp 14) (.exit 1) .skip)) (.seq (.region [.k 5 0]) (.seq (.block 2 [0, 4, 5] (.loop [0, 4, 5] c72L0)) (.seq (.seq (.region [.m 24 0, .o 25 (.c .eql 24 1)]) (.cond (.tmp 25) (.seq (.region [.m 26 4, .m 27 5, .m 2 26, .m 3 27]) .ret) .skip)) (.seq (.region [.k 2 0, .k 3 0]) .ret)))))) (.region [.m 9 4, .o 10 (.c .add 9 1), .m 4 10])))
def c72 : ACode := (.seq (.region [.k 2 0, .k 3 0]) (.seq (.seq (.region [.k 4 2]) (.block 0 [] (.loop [0, 4] c72L1))) (.seq (.region [.k 2 0, .k 3 0]) .ret)))
def F72 : AFun := ⟨c72, 1, 28, [(.tmp 2), (.tmp 3)]⟩
def K72 : Nat → List Nat × List Nat
 | 0 => ([0, 4], [])
 | 1 => ([], [0, 4])
 | 2 => ([0, 4, 5], [0, 4, 5])
 | 3 => ([], [0, 4, 5])
 | _ => ([], [])
theorem F72_ok : kj8 Try.prog K72 Try.f72 = some F72 := by kernel_rfl
/- 73: syndrome/syndromeref.full -/
def c73L0 : ACode := (.seq (.seq (.region [.m 11 7, .o 12 (.f 0 2), .o 13 (.l 12), .o 14 (.c .sub 13 1), .o 15 (.b .lss 11 14)]) (.cond (.tmp 15) .skip (.exit 0))) (.seq (.block 1 [1, 2, 5, 6, 7] (.seq (.seq (.region [.m 18 6, .o 19 (.c .eql 18 0), .m 20 19, .g 21 (.m 5) 20 false, .g 22 (.m 6) 20 false, .g 23 (.i 1 21 22) 20 false, .g 24 (.l 23) 20 false, .o 25 (.pick (.tmp 20) (.const (.bool true)) (.tmp 24))]) (.cond (.tmp 25) (.seq (.region [.o 4 (.mv (.const (.bool false)))]) .ret) .skip)) (.seq (.region [.m 26 5, .m 27 6, .o 28 (.i 1 26 27), .n (.st 1 (.tmp 28) (.const (.bool true)))]) (.region [.o 29 (.ld true 5 (.tmp 2)), .m 30 6, .m 31 1, .o 32 (.q 76 [29, 30, 31]), .m 6 32])))) (.region [.m 16 7, .o 17 (.c .add 16 1), .m 7 17])))
def c73 : ACode := (.seq (.region [.o 2 (.box 28 5 (.tmp 0)), .o 4 (.mv (.const (.bool false)))]) (.seq (.region [.o 8 (.f 0 2), .o 9 (.l 8), .o 10 (.mks 4 1 1 [(.bool false)] (.tmp 9) (.tmp 9)), .m 5 10]) (.seq (.region [.k 6 1]) (.seq (.seq (.region [.k 7 0]) (.block 0 [] (.loop [1, 2, 5, 6, 7] c73L0))) (.seq (.region [.o 4 (.mv (.const (.bool true)))]) .ret)))))
def F73 : AFun := ⟨c73, 2, 33, [(.tmp 4)]⟩
def K73 : Nat → List Nat × List Nat
 | 0 => ([1, 2, 5, 6, 7], [])
 | 1 => ([], [1, 2, 5, 6, 7])
 | _ => ([], [])
theorem F73_ok : kj8 Try.prog K73 Try.f73 = some F73 := by kernel_rfl
/- 74: syndrome/syndromeref.Digits -/
def c74L0 : ACode := (.seq (.seq (.region [.m 9 8, .m 10 2, .o 11 (.b .lss 9 10)]) (.cond (.tmp 11) .skip (.exit 0))) (.seq (.block 1 [0, 1, 2, 7, 8] (.seq (.region [.m 14 7, .m 15 0, .m 16 1, .o 17 (.b .rem 15 16), .o 18 (.mkSl 3 1 1 [(.tmp 17)]), .o 19 (.app 3 1 8 (.tmp 14) (.tmp 18)), .m 7 19]) (.region [.m 20 0, .m 21 1, .o 22 (.b .quo 20 21), .m 0 22]))) (.region [.m 12 8, .o 13 (.c .add 12 1), .m 8 13])))
def c74 : ACode := (.seq (.region [.o 6 (.mv (.const (.slice none 0 0)))]) (.seq (.region [.o 7 (.mv (.const (.slice none 0 0)))]) (.seq (.seq (.region [.k 8 0]) (.block 0 [7] (.loop [0, 1, 2, 7, 8] c74L0))) (.seq (.region [.m 23 7, .m 6 23]) .ret))))
def F74 : AFun := ⟨c74, 3, 24, [(.tmp 6)]⟩
def K74 : Nat → List Nat × List Nat
 | 0 => ([0, 1, 2, 7, 8], [7])
 | 1 => ([], [0, 1, 2, 7, 8])
 | _ => ([], [])
theorem F74_ok : kj8 Try.prog K74 Try.f74 = some F74 := by kernel_rfl
/- 75: (syndrome/syndromeref.F).Add -/
def c75L0 : ACode := (.seq (.seq (.region [.m 47 9, .o 48 (.f 2 3), .o 49 (.l 48), .o 50 (.b .lss 47 49)]) (.cond (.tmp 50) .skip (.exit 0))) (.seq (.block 1 [3, 7, 8, 9] (.region [.m 53 7, .m 54 9, .m 55 7, .m 56 9, .o 57 (.i 1 55 56), .o 58 (.l 57), .m 59 8, .m 60 9, .o 61 (.i 1 59 60), .o 62 (.l 61), .o 63 (.b .add 58 62), .o 64 (.f 1 3), .o 65 (.l 64), .o 66 (.b .rem 63 65), .o 67 (.i 1 53 54), .n (.st 1 (.tmp 67) (.tmp 66))])) (.region [.m 51 9, .o 52 (.c .add 51 1), .m 9 52])))
def c75 : ACode := (.seq (.region [.o 3 (.box 28 5 (.tmp 0)), .k 6 0]) (.seq (.seq (.region [.o 10 (.ld true 5 (.tmp 3)), .m 11 1, .o 12 (.q 71 [10, 11]), .o 13 (.un .not (.tmp 12)), .m 14 13, .g 15 (.ld true 5 (.tmp 3)) 14 false, .g 16 (.m 2) 14 false, .g 17 (.q 71 [15, 16]) 14 false, .g 18 (.un .not (.tmp 17)) 14 false, .o 19 (.pick (.tmp 14) (.const (.bool true)) (.tmp 18))]) (.cond (.tmp 19) (.seq (.region [.k 6 (-1)]) .ret) .skip)) (.seq (.seq (.region [.o 20 (.f 2 3), .o 21 (.l 20), .o 22 (.c .eql 21 1)]) (.cond (.tmp 22) (.seq (.region [.m 23 1, .m 24 2, .o 25 (.b .add 23 24), .o 26 (.f 1 3), .o 27 (.l 26), .o 28 (.b .rem 25 27), .m 6 28]) .ret) .skip)) (.seq (.seq (.region [.o 29 (.f 1 3), .o 30 (.l 29), .o 31 (.c .eql 30 2)]) (.cond (.tmp 31) (.seq (.region [.m 32 1, .m 33 2, .o 34 (.b .xor 32 33), .m 6 34]) .ret) .skip)) (.seq (.region [.m 35 1, .o 36 (.f 1 3), .o 37 (.l 36), .o 38 (.f 2 3), .o 39 (.l 38), .o 40 (.q 74 [35, 37, 39]), .m 7 40]) (.seq (.region [.m 41 2, .o 42 (.f 1 3), .o 43 (.l 42), .o 44 (.f 2 3), .o 45 (.l 44), .o 46 (.q 74 [41, 43, 45]), .m 8 46]) (.seq (.seq (.region [.k 9 0]) (.block 0 [3, 7] (.loop [3, 7, 8, 9] c75L0))) (.seq (.region [.m 68 7, .o 69 (.f 1 3), .o 70 (.l 69), .o 71 (.q 127 [68, 70]), .m 6 71]) .ret))))))))
def F75 : AFun := ⟨c75, 3, 72, [(.tmp 6)]⟩
def K75 : Nat → List Nat × List Nat
 | 0 => ([3, 7, 8, 9], [3, 7])
 | 1 => ([], [3, 7, 8, 9])
 | _ => ([], [])
theorem F75_ok : kj8 Try.prog K75 Try.f75 = some F75 := by kernel_rfl
/- 76: (syndrome/syndromeref.F).Mul -/
def c76L0 : ACode := (.seq (.seq (.region [.m 55 11, .o 56 (.f 2 3), .o 57 (.l 56), .o 58 (.b .lss 55 57)]) (.cond (.tmp 58) .skip (.exit 2))) (.seq (.block 3 [3, 7, 8, 9, 10, 11] (.region [.m 61 9, .m 62 10, .m 63 11, .o 64 (.b .add 62 63), .m 65 9, .m 66 10, .m 67 11, .o 68 (.b .add 66 67), .o 69 (.i 1 65 68), .o 70 (.l 69), .m 71 7, .m 72 10, .o 73 (.i 1 71 72), .o 74 (.l 73), .m 75 8, .m 76 11, .o 77 (.i 1 75 76), .o 78 (.l 77), .o 79 (.b .mul 74 78), .o 80 (.b .add 70 79), .o 81 (.f 1 3), .o 82 (.l 81), .o 83 (.b .rem 80 82), .o 84 (.i 1 61 64), .n (.st 1 (.tmp 84) (.tmp 83))])) (.region [.m 59 11, .o 60 (.c .add 59 1), .m 11 60])))
def c76L1 : ACode := (.seq (.seq (.region [.m 49 10, .o 50 (.f 2 3), .o 51 (.l 50), .o 52 (.b .lss 49 51)]) (.cond (.tmp 52) .skip (.exit 0))) (.seq (.block 1 [3, 7, 8, 9, 10] (.seq (.region [.k 11 0]) (.block 2 [3, 7, 8, 9, 10] (.loop [3, 7, 8, 9, 10, 11] c76L0)))) (.region [.m 53 10, .o 54 (.c .add 53 1), .m 10 54])))
def c76L2 : ACode := (.seq (.seq (.region [.m 95 13, .o 96 (.f 2 3), .o 97 (.l 96), .o 98 (.b .lss 95 97)]) (.cond (.tmp 98) .skip (.exit 6))) (.seq (.block 7 [3, 9, 12, 13] (.region [.m 101 9, .m 102 12, .o 103 (.f 2 3), .o 104 (.l 103), .o 105 (.b .sub 102 104), .m 106 13, .o 107 (.b .add 105 106), .m 108 9, .m 109 12, .o 110 (.f 2 3), .o 111 (.l 110), .o 112 (.b .sub 109 111), .m 113 13, .o 114 (.b .add 112 113), .o 115 (.i 1 108 114), .o 116 (.l 115), .m 117 9, .m 118 12, .o 119 (.i 1 117 118), .o 120 (.l 119), .o 121 (.f 1 3), .o 122 (.l 121), .o 123 (.f 4 3), .o 124 (.l 123), .m 125 13, .o 126 (.i 1 124 125), .o 127 (.l 126), .o 128 (.b .sub 122 127), .o 129 (.b .mul 120 128), .o 130 (.b .add 116 129), .o 131 (.f 1 3), .o 132 (.l 131), .o 133 (.b .rem 130 132), .o 134 (.i 1 101 107), .n (.st 1 (.tmp 134) (.tmp 133))])) (.region [.m 99 13, .o 100 (.c .add 99 1), .m 13 100])))
def c76L3 : ACode := (.seq (.seq (.region [.m 89 12, .o 90 (.f 2 3), .o 91 (.l 90), .o 92 (.b .geq 89 91)]) (.cond (.tmp 92) .skip (.exit 4))) (.seq (.block 5 [3, 9, 12] (.seq (.seq (.region [.k 13 0]) (.block 6 [3, 9, 12] (.loop [3, 9, 12, 13] c76L2))) (.region [.m 135 9, .m 136 12, .o 137 (.i 1 135 136), .n (.st 1 (.tmp 137) (.const (.int .i64 0)))]))) (.region [.m 93 12, .o 94 (.c .sub 93 1), .m 12 94])))
def c76 : ACode := (.seq (.region [.o 3 (.box 28 5 (.tmp 0)), .k 6 0]) (.seq (.seq (.region [.o 14 (.ld true 5 (.tmp 3)), .m 15 1, .o 16 (.q 71 [14, 15]), .o 17 (.un .not (.tmp 16)), .m 18 17, .g 19 (.ld true 5 (.tmp 3)) 18 false, .g 20 (.m 2) 18 false, .g 21 (.q 71 [19, 20]) 18 false, .g 22 (.un .not (.tmp 21)) 18 false, .o 23 (.pick (.tmp 18) (.const (.bool true)) (.tmp 22))]) (.cond (.tmp 23) (.seq (.region [.k 6 (-1)]) .ret) .skip)) (.seq (.seq (.region [.o 24 (.f 2 3), .o 25 (.l 24), .o 26 (.c .eql 25 1)]) (.cond (.tmp 26) (.seq (.region [.m 27 1, .m 28 2, .o 29 (.b .mul 27 28), .o 30 (.f 1 3), .o 31 (.l 30), .o 32 (.b .rem 29 31), .m 6 32]) .ret) .skip)) (.seq (.region [.m 33 1, .o 34 (.f 1 3), .o 35 (.l 34), .o 36 (.f 2 3), .o 37 (.l 36), .o 38 (.q 74 [33, 35, 37]), .m 7 38]) (.seq (.region [.m 39 2, .o 40 (.f 1 3), .o 41 (.l 40), .o 42 (.f 2 3), .o 43 (.l 42), .o 44 (.q 74 [39, 41, 43]), .m 8 44]) (.seq (.region [.o 45 (.f 2 3), .o 46 (.l 45), .o 47 (.bin .mul (.const (.int .i64 2)) (.tmp 46)), .o 48 (.mks 3 1 8 [(.int .i64 0)] (.tmp 47) (.tmp 47)), .m 9 48]) (.seq (.seq (.region [.k 10 0]) (.block 0 [3, 9] (.loop [3, 7, 8, 9, 10] c76L1))) (.seq (.seq (.region [.o 85 (.f 2 3), .o 86 (.l 85), .o 87 (.bin .mul (.const (.int .i64 2)) (.tmp 86)), .o 88 (.c .sub 87 1), .m 12 88]) (.block 4 [3, 9] (.loop [3, 9, 12] c76L3))) (.seq (.region [.m 138 9, .o 139 (.f 2 3), .o 140 (.l 139), .o 141 (.sl 1 (.tmp 138) none (some (.tmp 140))), .o 142 (.f 1 3), .o 143 (.l 142), .o 144 (.q 127 [141, 143]), .m 6 144]) .ret)))))))))
def F76 : AFun := ⟨c76, 3, 145, [(.tmp 6)]⟩
def K76 : Nat → List Nat × List Nat
 | 0 => ([3, 7, 8, 9, 10], [3, 9])
 | 1 => ([], [3, 7, 8, 9, 10])
 | 2 => ([3, 7, 8, 9, 10, 11], [3, 7, 8, 9, 10])
 | 3 => ([], [3, 7, 8, 9, 10, 11])
 | 4 => ([3, 9, 12], [3, 9])
 | 5 => ([], [3, 9, 12])
 | 6 => ([3, 9, 12, 13], [3, 9, 12])
 | 7 => ([], [3, 9, 12, 13])
 | _ => ([], [])
theorem F76_ok : kj8 Try.prog K76 Try.f76 = some F76 := by kernel_rfl
/- 77: syndrome/field.New -/
def b90 : List Value := [(.int .u32 0), (.int .i32 0), (.int .u32 0), (.int .u32 0), (.int .i32 0), (.int .u32 0), (.int .u32 0), (.int .i32 0), (.int .u32 0), (.int .u32 0), (.int .i32 0), (.int .u32 0), (.int .u32 0), (.int .i32 0), (.int .u32 0), (.int .u32 0), (.int .i32 0), (.int .u32 0), (.int .u32 0), (.int .i32 0), (.int .u32 0), (.int .u32 0), (.int .i32 0), (.int .u32 0), (.int .u32 0), (.int .i32 0), (.int .u32 0), (.int .u32 0), (.int .i32 0), (.int .u32 0), (.int .u32 0), (.int .i32 0), (.int .u32 0), (.int .u32 0), (.int .i32 0), (.int .u32 0), (.int .u32 0), (.int .i32 0), (.int .u32 0), (.int .u32 0), (.int .i32 0), (.int .u32 0), (.int .u32 0), (.int .i32 0), (.int .u32 0), (.int .u32 0), (.int .i32 0), (.int .u32 0), (.int .u32 0), (.int .i32 0), (.int .u32 0), (.int .u32 0), (.int .i32 0), (.int .u32 0), (.int .u32 0), (.int .i32 0), (.int .u32 0), (.int .u32 0), (.int .i32 0), (.int .u32 0), (.int .u32 0), (.int .i32 0), (.int .u32 0), (.int .u32 0), (.int .i32 0), (.int .u32 0), (.int .u32 0), (.int .i32 0), (.int .u32 0), (.int .u32 0), (.int .i32 0), (.int .u32 0), (.int .u32 0), (.int .i32 0), (.int .u32 0), (.int .u32 0), (.int .i32 0), (.int .u32 0), (.int .u32 0), (.int .i32 0), (.int .u32 0), (.int .u32 0), (.int .i32 0), (.int .u32 0), (.int .u32 0), (.int .i32 0), (.int .u32 0), (.int .u32 0), (.int .i32 0), (.int .u32 0), (.int .u32 0), (.int .i32 0), (.int .u32 0), (.int .u32 0), (.int .i32 0), (.int .u32 0), (.int .u32 0), (.int .i32 0), (.int .u32 0), (.int .u32 0), (.int .i32 0), (.int .u32 0), (.int .u32 0), (.int .i32 0), (.int .u32 0), (.int .u32 0), (.int .i32 0), (.int .u32 0), (.int .u32 0), (.int .i32 0), (.int .u32 0), (.int .u32 0), (.int .i32 0), (.int .u32 0), (.int .u32 0), (.int .i32 0), (.int .u32 0), (.int .u32 0), (.int .i32 0), (.int .u32 0), (.int .u32 0), (.int .i32 0), (.int .u32 0), (.int .u32 0), (.int .i32 0), (.int .u32 0), (.int .u32 0), (.int .i32 0), (.int .u32 0), (.int .u32 0), (.int .i32 0), (.int .u32 0), (.int .u32 0), (.int .i32 0), (.int .u32 0), (.int .u32 0), (.int .i32 0), (.int .u32 0), (.int .u32 0), (.int .i32 0), (.int .u32 0), (.int .u32 0), (.int .i32 0), (.int .u32 0), (.int .u32 0), (.int .i32 0), (.int .u32 0), (.int .u32 0), (.int .i32 0), (.int .u32 0), (.int .u32 0), (.int .i32 0), (.int .u32 0), (.int .u32 0), (.int .i32 0), (.int .u32 0), (.int .u32 0), (.int .i32 0), (.int .u32 0), (.int .u32 0), (.int .i32 0), (.int .u32 0), (.int .u32 0), (.int .i32 0), (.int .u32 0), (.int .u32 0), (.int .i32 0), (.int .u32 0), (.int .u32 0), (.int .i32 0), (.int .u32 0), (.int .u32 0), (.int .i32 0), (.int .u32 0), (.int .u32 0), (.int .i32 0), (.int .u32 0), (.int .u32 0), (.int .i32 0), (.int .u32 0), (.int .u32 0), (.int .i32 0), (.int .u32 0), (.int .u32 0), (.int .i32 0), (.int .u32 0), (.int .u32 0), (.int .i32 0), (.int .u32 0), (.int .u32 0), (.int .i32 0), (.int .u32 0), (.int .u32 0), (.int .i32 0), (.int .u32 0), (.pointer none), (.pointer none), (.pointer none), (.pointer none), (.pointer none), (.pointer none), (.pointer none), (.pointer none), (.pointer none), (.pointer none), (.pointer none), (.pointer none), (.pointer none), (.pointer none), (.pointer none), (.pointer none), (.pointer none), (.pointer none), (.pointer none), (.pointer none), (.pointer none), (.pointer none), (.pointer none), (.pointer none), (.pointer none), (.pointer none), (.pointer none), (.pointer none), (.pointer none), (.pointer none), (.pointer none), (.pointer none), (.pointer none), (.pointer none), (.pointer none), (.pointer none), (.pointer none), (.pointer none), (.pointer none), (.pointer none), (.pointer none), (.pointer none), (.pointer none), (.pointer none), (.pointer none), (.pointer none), (.pointer none), (.pointer none), (.pointer none), (.pointer none), (.pointer none), (.pointer none), (.pointer none), (.pointer none), (.pointer none), (.pointer none), (.pointer none), (.pointer none), (.pointer none), (.pointer none), (.pointer none), (.pointer none), (.pointer none), (.pointer none), (.pointer none)]
def c77 : ACode := (.seq (.region [.o 1 (.box 3 1 (.tmp 0)), .o 2 (.mv (.const (.pointer none))), .k 3 0]) (.seq (.seq (.region [.o 5 (.l 1), .o 6 (.c .lss 5 2), .m 7 6, .g 8 (.l 1) 7 false, .g 9 (.c .gtr 8 64) 7 false, .o 10 (.pick (.tmp 7) (.const (.bool true)) (.tmp 9))]) (.cond (.tmp 10) (.seq (.region [.o 2 (.mv (.const (.pointer none))), .k 3 1]) .ret) .skip)) (.seq (.region [.o 4 (.alloc 152 b90)]) (.seq (.region [.o 11 (.l 1), .o 12 (.f 0 4), .o 13 (.iaddrA 65 3 (.tmp 12) (.tmp 11)), .o 14 (.mkf 129 [(.tmp 1), (.tmp 4)]), .o 15 (.q 128 [13, 14])]) (.seq (.seq (.region [.o 16 (.l 1), .o 17 (.f 195 4), .o 18 (.iaddrA 65 1 (.tmp 17) (.tmp 16)), .o 19 (.l 18), .o 20 (.eqn false 1 (.tmp 19))]) (.cond (.tmp 20) (.seq (.region [.o 2 (.mv (.const (.pointer none))), .k 3 1]) .ret) .skip)) (.seq (.region [.o 21 (.l 1), .o 22 (.f 195 4), .o 23 (.iaddrA 65 1 (.tmp 22) (.tmp 21)), .o 24 (.l 23), .m 2 24, .k 3 0]) .ret))))))
def F77 : AFun := ⟨c77, 1, 25, [(.tmp 2), (.tmp 3)]⟩
def K77 : Nat → List Nat × List Nat
 | _ => ([], [])
theorem F77_ok : kj8 Try.prog K77 Try.f77 = some F77 := by kernel_rfl
/- 78: (*syndrome/field.Field).Add -/
def c78L0 : ACode := (.seq (.region [.o 24 (.b .lss 23 22)]) (.seq (.cond (.tmp 24) .skip (.exit 0)) (.seq (.block 1 [0, 1, 2, 7, 8, 22, 23] (.seq (.region [.m 25 7, .m 26 1, .m 27 0, .o 28 (.nilck (.tmp 27)), .o 29 (.f 1 28), .o 30 (.l 29), .o 31 (.b .rem 26 30), .m 32 2, .m 33 0, .o 34 (.nilck (.tmp 33)), .o 35 (.f 1 34), .o 36 (.l 35), .o 37 (.b .rem 32 36), .o 38 (.b .add 31 37), .m 39 0, .o 40 (.nilck (.tmp 39)), .o 41 (.f 1 40), .o 42 (.l 41), .o 43 (.b .rem 38 42), .m 44 8, .o 45 (.b .mul 43 44), .o 46 (.b .add 25 45), .m 7 46]) (.region [.m 47 1, .m 48 0, .o 49 (.nilck (.tmp 48)), .o 50 (.f 1 49), .o 51 (.l 50), .o 52 (.b .quo 47 51), .m 53 2, .m 54 0, .o 55 (.nilck (.tmp 54)), .o 56 (.f 1 55), .o 57 (.l 56), .o 58 (.b .quo 53 57), .m 59 8, .m 60 0, .o 61 (.nilck (.tmp 60)), .o 62 (.f 1 61), .o 63 (.l 62), .o 64 (.b .mul 59 63), .m 1 52, .m 2 58, .m 8 64]))) (.region [.o 65 (.c .add 23 1), .m 23 65]))))
def c78 : ACode := (.seq (.region [.k 6 0]) (.seq (.seq (.region [.m 9 0, .m 10 1, .o 11 (.q 82 [9, 10]), .o 12 (.un .not (.tmp 11)), .m 13 12, .g 14 (.m 0) 13 false, .g 15 (.m 2) 13 false, .g 16 (.q 82 [14, 15]) 13 false, .g 17 (.un .not (.tmp 16)) 13 false, .o 18 (.pick (.tmp 13) (.const (.bool true)) (.tmp 17))]) (.cond (.tmp 18) (.seq (.region [.k 6 (-1)]) .ret) .skip)) (.seq (.region [.k 7 0, .k 8 1]) (.seq (.seq (.region [.m 19 0, .o 20 (.nilck (.tmp 19)), .o 21 (.f 2 20), .o 22 (.l 21), .k 23 0]) (.block 0 [7] (.loop [0, 1, 2, 7, 8, 22, 23] c78L0))) (.seq (.region [.m 66 7, .m 6 66]) .ret)))))
def F78 : AFun := ⟨c78, 3, 67, [(.tmp 6)]⟩
def K78 : Nat → List Nat × List Nat
 | 0 => ([0, 1, 2, 7, 8, 22, 23], [7])
 | 1 => ([], [0, 1, 2, 7, 8, 22, 23])
 | _ => ([], [])
theorem F78_ok : kj8 Try.prog K78 Try.f78 = some F78 := by kernel_rfl
/- 79: (*syndrome/field.Field).Mul -/
def c79 : ACode := (.seq (.region [.k 6 0]) (.seq (.seq (.region [.m 7 0, .m 8 1, .o 9 (.q 82 [7, 8]), .o 10 (.un .not (.tmp 9)), .m 11 10, .g 12 (.m 0) 11 false, .g 13 (.m 2) 11 false, .g 14 (.q 82 [12, 13]) 11 false, .g 15 (.un .not (.tmp 14)) 11 false, .o 16 (.pick (.tmp 11) (.const (.bool true)) (.tmp 15))]) (.cond (.tmp 16) (.seq (.region [.k 6 (-1)]) .ret) .skip)) (.seq (.seq (.region [.m 17 1, .o 18 (.c .eql 17 0), .m 19 18, .g 20 (.m 2) 19 false, .g 21 (.c .eql 20 0) 19 false, .o 22 (.pick (.tmp 19) (.const (.bool true)) (.tmp 21))]) (.cond (.tmp 22) (.seq (.region [.k 6 0]) .ret) .skip)) (.seq (.region [.m 23 0, .o 24 (.nilck (.tmp 23)), .o 25 (.f 5 24), .o 26 (.l 25), .m 27 0, .o 28 (.nilck (.tmp 27)), .o 29 (.f 6 28), .o 30 (.l 29), .m 31 1, .o 32 (.i 1 30 31), .o 33 (.l 32), .m 34 0, .o 35 (.nilck (.tmp 34)), .o 36 (.f 6 35), .o 37 (.l 36), .m 38 2, .o 39 (.i 1 37 38), .o 40 (.l 39), .o 41 (.b .add 33 40), .m 42 0, .o 43 (.nilck (.tmp 42)), .o 44 (.f 0 43), .o 45 (.l 44), .o 46 (.c .sub 45 1), .o 47 (.b .rem 41 46), .o 48 (.i 1 26 47), .o 49 (.l 48), .m 6 49]) .ret))))
def F79 : AFun := ⟨c79, 3, 50, [(.tmp 6)]⟩
def K79 : Nat → List Nat × List Nat
 | _ => ([], [])
theorem F79_ok : kj8 Try.prog K79 Try.f79 = some F79 := by kernel_rfl
/- 80: slices.ContainsFunc[[]int,int] -/
def c80 : ACode := (.seq (.region [.o 4 (.mv (.const (.bool false)))]) (.seq (.region [.m 5 0, .m 6 1, .o 7 (.q 131 [5, 6]), .o 8 (.c .geq 7 0), .m 4 8]) .ret))
def F80 : AFun := ⟨c80, 2, 9, [(.tmp 4)]⟩
def K80 : Nat → List Nat × List Nat
 | _ => ([], [])
theorem F80_ok : kj8 Try.prog K80 Try.f80 = some F80 := by kernel_rfl
/- 81: syndrome/matrix.Check$1 -/
def c81 : ACode := (.seq (.region [.o 3 (.mv (.const (.bool false)))]) (.seq (.region [.o 4 (.l 1), .m 5 0, .o 6 (.q 82 [4, 5]), .o 7 (.un .not (.tmp 6)), .m 3 7]) .ret))
def F81 : AFun := ⟨c81, 2, 8, [(.tmp 3)]⟩
def K81 : Nat → List Nat × List Nat
 | _ => ([], [])
theorem F81_ok : kj8 Try.prog K81 Try.f81 = some F81 := by kernel_rfl
/- 82: (*syndrome/field.Field).Has -/
def c82 : ACode := (.seq (.region [.o 4 (.mv (.const (.bool false)))]) (.seq (.region [.m 5 1, .o 6 (.c .geq 5 0), .m 7 6, .g 8 (.m 1) 7 true, .g 9 (.m 0) 7 true, .g 10 (.nilck (.tmp 9)) 7 true, .g 11 (.f 0 10) 7 true, .g 12 (.l 11) 7 true, .g 13 (.b .lss 8 12) 7 true, .o 14 (.pick (.tmp 7) (.tmp 13) (.const (.bool false))), .m 4 14]) .ret))
def F82 : AFun := ⟨c82, 2, 15, [(.tmp 4)]⟩
def K82 : Nat → List Nat × List Nat
 | _ => ([], [])
theorem F82_ok : kj8 Try.prog K82 Try.f82 = some F82 := by kernel_rfl
/- 83: syndrome/syndromeref.SameAll -/
def c83L0 : ACode := (.seq (.seq (.region [.m 11 5, .m 12 0, .o 13 (.n 12), .o 14 (.b .lss 11 13)]) (.cond (.tmp 14) .skip (.exit 0))) (.seq (.block 1 [0, 1, 5] (.seq (.region [.m 17 0, .m 18 5, .o 19 (.i 1 17 18), .o 20 (.l 19), .m 21 1, .m 22 5, .o 23 (.i 1 21 22), .o 24 (.l 23), .o 25 (.q 58 [20, 24]), .o 26 (.un .not (.tmp 25))]) (.cond (.tmp 26) (.seq (.region [.o 4 (.mv (.const (.bool false)))]) .ret) .skip))) (.region [.m 15 5, .o 16 (.c .add 15 1), .m 5 16])))
def c83 : ACode := (.seq (.region [.o 4 (.mv (.const (.bool false)))]) (.seq (.seq (.region [.m 6 0, .o 7 (.n 6), .m 8 1, .o 9 (.n 8), .o 10 (.b .neq 7 9)]) (.cond (.tmp 10) (.seq (.region [.o 4 (.mv (.const (.bool false)))]) .ret) .skip)) (.seq (.seq (.region [.k 5 0]) (.block 0 [] (.loop [0, 1, 5] c83L0))) (.seq (.region [.o 4 (.mv (.const (.bool true)))]) .ret))))
def F83 : AFun := ⟨c83, 2, 27, [(.tmp 4)]⟩
def K83 : Nat → List Nat × List Nat
 | 0 => ([0, 1, 5], [])
 | 1 => ([], [0, 1, 5])
 | _ => ([], [])
theorem F83_ok : kj8 Try.prog K83 Try.f83 = some F83 := by kernel_rfl
/- 84: (syndrome/syndromeref.F).Reduce -/
def c84L0 : ACode := (.seq (.seq (.region [.m 27 10, .m 28 6, .o 29 (.n 28), .o 30 (.b .lss 27 29)]) (.cond (.tmp 30) .skip (.exit 2))) (.seq (.block 3 [1, 2, 6, 7, 8, 9, 10] (.region [.o 33 (.ld true 5 (.tmp 2)), .m 34 9, .m 35 6, .m 36 10, .o 37 (.i 1 35 36), .o 38 (.l 37), .m 39 9, .m 40 7, .m 41 10, .o 42 (.i 1 40 41), .o 43 (.l 42), .o 44 (.i 1 39 43), .o 45 (.l 44), .o 46 (.q 133 [33, 34, 38, 45]), .m 9 46])) (.region [.m 31 10, .o 32 (.c .add 31 1), .m 10 32])))
def c84L1 : ACode := (.seq (.seq (.region [.m 47 11, .m 48 9, .o 49 (.n 48), .o 50 (.b .lss 47 49), .m 51 50, .g 52 (.m 9) 51 true, .g 53 (.m 11) 51 true, .g 54 (.i 1 52 53) 51 true, .g 55 (.l 54) 51 true, .g 56 (.c .eql 55 0) 51 true, .o 57 (.pick (.tmp 51) (.tmp 56) (.const (.bool false)))]) (.cond (.tmp 57) .skip (.exit 4))) (.block 5 [1, 2, 6, 7, 8, 9, 11] (.region [.m 58 11, .o 59 (.c .add 58 1), .m 11 59])))
def c84L2 : ACode := (.seq (.seq (.region [.m 70 13, .m 71 9, .o 72 (.n 71), .o 73 (.b .lss 70 72)]) (.cond (.tmp 73) .skip (.exit 6))) (.seq (.block 7 [1, 2, 6, 7, 8, 9, 11, 12, 13] (.region [.m 76 9, .m 77 13, .o 78 (.ld true 5 (.tmp 2)), .m 79 9, .m 80 13, .o 81 (.i 1 79 80), .o 82 (.l 81), .m 83 12, .o 84 (.q 76 [78, 82, 83]), .o 85 (.i 1 76 77), .n (.st 1 (.tmp 85) (.tmp 84))])) (.region [.m 74 13, .o 75 (.c .add 74 1), .m 13 75])))
def c84L3 : ACode := (.seq (.seq (.region [.m 86 14, .m 87 6, .o 88 (.n 87), .o 89 (.b .lss 86 88)]) (.cond (.tmp 89) .skip (.exit 8))) (.seq (.block 9 [1, 2, 6, 7, 8, 9, 11, 14] (.region [.m 92 6, .m 93 14, .o 94 (.ld true 5 (.tmp 2)), .m 95 6, .m 96 14, .o 97 (.i 1 95 96), .o 98 (.l 97), .m 99 9, .m 100 6, .m 101 14, .o 102 (.i 1 100 101), .o 103 (.l 102), .m 104 11, .o 105 (.i 1 103 104), .o 106 (.l 105), .o 107 (.q 133 [94, 98, 99, 106]), .o 108 (.i 1 92 93), .n (.st 1 (.tmp 108) (.tmp 107))])) (.region [.m 90 14, .o 91 (.c .add 90 1), .m 14 91])))
def c84L4 : ACode := (.seq (.seq (.region [.m 109 15, .m 110 6, .o 111 (.n 110), .o 112 (.b .lss 109 111), .m 113 112, .g 114 (.m 7) 113 true, .g 115 (.m 15) 113 true, .g 116 (.i 1 114 115) 113 true, .g 117 (.l 116) 113 true, .g 118 (.m 11) 113 true, .g 119 (.b .lss 117 118) 113 true, .o 120 (.pick (.tmp 113) (.tmp 119) (.const (.bool false)))]) (.cond (.tmp 120) .skip (.exit 10))) (.block 11 [1, 2, 6, 7, 8, 9, 11, 15] (.region [.m 121 15, .o 122 (.c .add 121 1), .m 15 122])))
def c84L5 : ACode := (.seq (.seq (.region [.m 16 8, .m 17 1, .o 18 (.n 17), .o 19 (.b .lss 16 18)]) (.cond (.tmp 19) .skip (.exit 0))) (.seq (.block 1 [1, 2, 6, 7, 8] (.seq (.region [.m 22 1, .m 23 8, .o 24 (.i 1 22 23), .o 25 (.l 24), .o 26 (.q 132 [25]), .m 9 26]) (.seq (.seq (.region [.k 10 0]) (.block 2 [1, 2, 6, 7, 8, 9] (.loop [1, 2, 6, 7, 8, 9, 10] c84L0))) (.seq (.region [.k 11 0]) (.seq (.block 4 [1, 2, 6, 7, 8, 9, 11] (.loop [1, 2, 6, 7, 8, 9, 11] c84L1)) (.seq (.seq (.region [.m 60 11, .m 61 9, .o 62 (.n 61), .o 63 (.b .eql 60 62)]) (.cond (.tmp 63) (.exit 1) .skip)) (.seq (.region [.o 64 (.ld true 5 (.tmp 2)), .m 65 9, .m 66 11, .o 67 (.i 1 65 66), .o 68 (.l 67), .o 69 (.q 134 [64, 68]), .m 12 69]) (.seq (.seq (.region [.k 13 0]) (.block 6 [1, 2, 6, 7, 8, 9, 11] (.loop [1, 2, 6, 7, 8, 9, 11, 12, 13] c84L2))) (.seq (.seq (.region [.k 14 0]) (.block 8 [1, 2, 6, 7, 8, 9, 11] (.loop [1, 2, 6, 7, 8, 9, 11, 14] c84L3))) (.seq (.region [.k 15 0]) (.seq (.block 10 [1, 2, 6, 7, 8, 9, 11, 15] (.loop [1, 2, 6, 7, 8, 9, 11, 15] c84L4)) (.seq (.region [.o 123 (.mkSl 23 1 0 []), .m 124 6, .m 125 15, .o 126 (.sl 1 (.tmp 124) none (some (.tmp 125))), .o 127 (.app 23 1 24 (.tmp 123) (.tmp 126)), .m 128 9, .o 129 (.mkSl 23 1 1 [(.tmp 128)]), .o 130 (.app 23 1 24 (.tmp 127) (.tmp 129)), .m 131 6, .m 132 15, .o 133 (.sl 1 (.tmp 131) (some (.tmp 132)) none), .o 134 (.app 23 1 24 (.tmp 130) (.tmp 133)), .m 6 134]) (.region [.o 135 (.mkSl 3 1 0 []), .m 136 7, .m 137 15, .o 138 (.sl 1 (.tmp 136) none (some (.tmp 137))), .o 139 (.app 3 1 8 (.tmp 135) (.tmp 138)), .m 140 11, .o 141 (.mkSl 3 1 1 [(.tmp 140)]), .o 142 (.app 3 1 8 (.tmp 139) (.tmp 141)), .m 143 7, .m 144 15, .o 145 (.sl 1 (.tmp 143) (some (.tmp 144)) none), .o 146 (.app 3 1 8 (.tmp 142) (.tmp 145)), .m 7 146]))))))))))))) (.region [.m 20 8, .o 21 (.c .add 20 1), .m 8 21])))
def c84 : ACode := (.seq (.region [.o 2 (.box 28 5 (.tmp 0)), .o 4 (.mv (.const (.slice none 0 0))), .o 5 (.mv (.const (.slice none 0 0)))]) (.seq (.region [.o 6 (.mv (.const (.slice none 0 0)))]) (.seq (.region [.o 7 (.mv (.const (.slice none 0 0)))]) (.seq (.seq (.region [.k 8 0]) (.block 0 [6, 7] (.loop [1, 2, 6, 7, 8] c84L5))) (.seq (.region [.m 147 6, .m 148 7, .m 4 147, .m 5 148]) .ret)))))
def F84 : AFun := ⟨c84, 2, 149, [(.tmp 4), (.tmp 5)]⟩
def K84 : Nat → List Nat × List Nat
 | 0 => ([1, 2, 6, 7, 8], [6, 7])
 | 1 => ([], [1, 2, 6, 7, 8])
 | 2 => ([1, 2, 6, 7, 8, 9, 10], [1, 2, 6, 7, 8, 9])
 | 3 => ([], [1, 2, 6, 7, 8, 9, 10])
 | 4 => ([1, 2, 6, 7, 8, 9, 11], [1, 2, 6, 7, 8, 9, 11])
 | 5 => ([], [1, 2, 6, 7, 8, 9, 11])
 | 6 => ([1, 2, 6, 7, 8, 9, 11, 12, 13], [1, 2, 6, 7, 8, 9, 11])
 | 7 => ([], [1, 2, 6, 7, 8, 9, 11, 12, 13])
 | 8 => ([1, 2, 6, 7, 8, 9, 11, 14], [1, 2, 6, 7, 8, 9, 11])
 | 9 => ([], [1, 2, 6, 7, 8, 9, 11, 14])
 | 10 => ([1, 2, 6, 7, 8, 9, 11, 15], [1, 2, 6, 7, 8, 9, 11, 15])
 | 11 => ([], [1, 2, 6, 7, 8, 9, 11, 15])
 | _ => ([], [])
theorem F84_ok : kj8 Try.prog K84 Try.f84 = some F84 := by kernel_rfl
end Go.Proofs.Ytjpejkakodbchaa
