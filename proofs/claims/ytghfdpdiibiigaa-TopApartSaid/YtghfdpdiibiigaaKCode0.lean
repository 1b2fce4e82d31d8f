/-
  Functions of this seat as the small machine's code, written by a program of my own (gen.py); each is checked to be what the model's function is turned into. No condition.
-/
import Derived.Test.YtghfdpdiibiigaaK1
import Derived.Test.YtghfdpdiibiigaaProg
set_option linter.unusedVariables false
set_option linter.unusedSimpArgs false
set_option linter.unusedSectionVars false
set_option maxRecDepth 100000
namespace Go.Proofs.Ytghfdpdiibiigaa
open Go.Am
/- 7: syndrome/syndrometop.TopApart -/
def c7 : ACode := (.seq (.region [.o 10 (.mv (.const (.bool false)))]) (.seq (.seq (.region [.m 18 0, .o 19 (.n 18), .m 20 1, .o 21 (.n 20), .o 22 (.b .add 19 21), .o 23 (.c .gtr 22 256)]) (.cond (.tmp 23) (.seq (.region [.o 10 (.mv (.const (.bool true)))]) .ret) .skip)) (.seq (.region [.m 24 2, .o 25 (.q 33 [24]), .m 2 25]) (.seq (.region [.m 26 3, .o 27 (.call 9 [(.tmp 26), (.const (.int .i64 16))]), .o 28 (.bin .add (.const (.int .i64 1)) (.tmp 27)), .m 3 28]) (.seq (.seq (.region [.m 29 3, .m 30 2, .o 31 (.b .gtr 29 30)]) (.cond (.tmp 31) (.region [.m 32 2, .m 3 32]) .skip)) (.seq (.region [.m 33 4, .m 34 3, .o 35 (.q 9 [33, 34]), .o 36 (.bin .add (.const (.int .i64 1)) (.tmp 35)), .m 4 36]) (.seq (.region [.m 37 0, .m 38 2, .m 39 3, .o 40 (.q 14 [37, 38, 39]), .m 11 40]) (.seq (.region [.m 41 0, .m 42 2, .m 43 4, .o 44 (.call 11 [(.tmp 41), (.const (.int .i64 3)), (.tmp 42), (.tmp 43)]), .m 12 44]) (.seq (.region [.m 45 1, .m 46 2, .m 47 4, .o 48 (.call 11 [(.tmp 45), (.const (.int .i64 3)), (.tmp 46), (.tmp 47)]), .m 13 48]) (.seq (.region [.m 50 2, .m 51 11, .m 52 12, .o 53 (.q 39 [50, 51, 52]), .m 49 53, .o 54 (.e 0 49), .o 55 (.e 1 49), .m 14 54, .m 15 55]) (.seq (.region [.m 57 2, .m 58 11, .m 59 13, .o 60 (.q 39 [57, 58, 59]), .m 56 60, .o 61 (.e 0 56), .o 62 (.e 1 56), .m 16 61, .m 17 62]) (.seq (.region [.m 63 15, .o 64 (.c .eql 63 0), .m 65 64, .g 66 (.m 17) 65 true, .g 67 (.c .eql 66 0) 65 true, .o 68 (.pick (.tmp 65) (.tmp 67) (.const (.bool false))), .m 69 68, .g 70 (.m 14) 69 true, .g 71 (.n 70) 69 true, .g 72 (.m 3) 69 true, .g 73 (.b .eql 71 72) 69 true, .o 74 (.pick (.tmp 69) (.tmp 73) (.const (.bool false))), .m 75 74, .g 76 (.m 16) 75 true, .g 77 (.n 76) 75 true, .g 78 (.m 3) 75 true, .g 79 (.b .eql 77 78) 75 true, .o 80 (.pick (.tmp 75) (.tmp 79) (.const (.bool false))), .m 81 80, .g 82 (.m 12) 81 true, .g 83 (.m 13) 81 true, .g 84 (.q 16 [82, 83]) 81 true, .g 85 (.m 84) 81 true, .g 86 (.m 14) 85 false, .g 87 (.m 16) 85 false, .g 88 (.q 40 [86, 87]) 85 false, .g 89 (.m 3) 85 false, .g 90 (.m 4) 85 false, .g 91 (.b .sub 89 90) 85 false, .g 92 (.b .gtr 88 91) 85 false, .g 93 (.pick (.tmp 85) (.const (.bool true)) (.tmp 92)) 81 true, .o 94 (.pick (.tmp 81) (.tmp 93) (.const (.bool false))), .m 10 94]) .ret))))))))))))
def F7 : AFun := ⟨c7, 5, 95, [(.tmp 10)]⟩
def K7 : Nat → List Nat × List Nat
 | _ => ([], [])
theorem F7_ok : kj8 Try.prog K7 Try.f7 = some F7 := by kernel_rfl
/- 9: syndrome/syndromeref.Pick -/
def c9 : ACode := (.seq (.region [.k 4 0]) (.seq (.seq (.region [.m 5 0, .o 6 (.c .lss 5 0)]) (.cond (.tmp 6) (.region [.m 7 0, .o 8 (.c .add 7 1), .o 9 (.un .neg (.tmp 8)), .m 0 9]) .skip)) (.seq (.region [.m 10 0, .m 11 1, .o 12 (.b .rem 10 11), .m 4 12]) .ret)))
def F9 : AFun := ⟨c9, 2, 13, [(.tmp 4)]⟩
def K9 : Nat → List Nat × List Nat
 | _ => ([], [])
theorem F9_ok : kj8 Try.prog K9 Try.f9 = some F9 := by kernel_rfl
/- 11: syndrome/syndromeref.Numbers -/
def c11L0 : ACode := (.seq (.seq (.region [.m 11 10, .m 12 3, .o 13 (.b .lss 11 12)]) (.cond (.tmp 13) .skip (.exit 0))) (.seq (.block 1 [0, 1, 2, 3, 9, 10] (.region [.m 16 9, .m 17 0, .m 18 1, .m 19 10, .o 20 (.b .add 18 19), .o 21 (.q 41 [17, 20]), .m 22 2, .o 23 (.q 9 [21, 22]), .o 24 (.mkSl 3 1 1 [(.tmp 23)]), .o 25 (.app 3 1 8 (.tmp 16) (.tmp 24)), .m 9 25])) (.region [.m 14 10, .o 15 (.c .add 14 1), .m 10 15])))
def c11 : ACode := (.seq (.region [.o 8 (.mv (.const (.slice none 0 0)))]) (.seq (.region [.o 9 (.mv (.const (.slice none 0 0)))]) (.seq (.seq (.region [.k 10 0]) (.block 0 [9] (.loop [0, 1, 2, 3, 9, 10] c11L0))) (.seq (.region [.m 26 9, .m 8 26]) .ret))))
def F11 : AFun := ⟨c11, 4, 27, [(.tmp 8)]⟩
def K11 : Nat → List Nat × List Nat
 | 0 => ([0, 1, 2, 3, 9, 10], [9])
 | 1 => ([], [0, 1, 2, 3, 9, 10])
 | _ => ([], [])
theorem F11_ok : kj8 Try.prog K11 Try.f11 = some F11 := by kernel_rfl
/- 14: syndrome/syndromeref.PlacesOf -/
def c14L0 : ACode := (.seq (.seq (.region [.m 14 8, .m 15 1, .o 16 (.b .lss 14 15)]) (.cond (.tmp 16) .skip (.exit 0))) (.seq (.block 1 [0, 1, 2, 7, 8] (.region [.m 19 7, .m 20 8, .m 21 8, .o 22 (.i 1 19 20), .n (.st 1 (.tmp 22) (.tmp 21))])) (.region [.m 17 8, .o 18 (.c .add 17 1), .m 8 18])))
def c14L1 : ACode := (.seq (.seq (.region [.m 23 9, .m 24 2, .o 25 (.b .lss 23 24)]) (.cond (.tmp 25) .skip (.exit 2))) (.seq (.block 3 [0, 1, 2, 7, 9] (.seq (.region [.m 28 9, .m 29 0, .m 30 9, .o 31 (.q 41 [29, 30]), .m 32 1, .m 33 9, .o 34 (.b .sub 32 33), .o 35 (.q 9 [31, 34]), .o 36 (.b .add 28 35), .m 10 36]) (.seq (.region [.m 37 7, .m 38 9, .o 39 (.i 1 37 38), .o 40 (.l 39), .m 11 40]) (.seq (.region [.m 41 7, .m 42 9, .m 43 7, .m 44 10, .o 45 (.i 1 43 44), .o 46 (.l 45), .o 47 (.i 1 41 42), .n (.st 1 (.tmp 47) (.tmp 46))]) (.region [.m 48 7, .m 49 10, .m 50 11, .o 51 (.i 1 48 49), .n (.st 1 (.tmp 51) (.tmp 50))]))))) (.region [.m 26 9, .o 27 (.c .add 26 1), .m 9 27])))
def c14 : ACode := (.seq (.region [.o 6 (.mv (.const (.slice none 0 0)))]) (.seq (.region [.m 12 1, .o 13 (.mks 3 1 8 [(.int .i64 0)] (.tmp 12) (.tmp 12)), .m 7 13]) (.seq (.seq (.region [.k 8 0]) (.block 0 [0, 1, 2, 7] (.loop [0, 1, 2, 7, 8] c14L0))) (.seq (.seq (.region [.k 9 0]) (.block 2 [2, 7] (.loop [0, 1, 2, 7, 9] c14L1))) (.seq (.region [.m 52 7, .m 53 2, .o 54 (.sl 1 (.tmp 52) none (some (.tmp 53))), .m 6 54]) .ret)))))
def F14 : AFun := ⟨c14, 3, 55, [(.tmp 6)]⟩
def K14 : Nat → List Nat × List Nat
 | 0 => ([0, 1, 2, 7, 8], [0, 1, 2, 7])
 | 1 => ([], [0, 1, 2, 7, 8])
 | 2 => ([0, 1, 2, 7, 9], [2, 7])
 | 3 => ([], [0, 1, 2, 7, 9])
 | _ => ([], [])
theorem F14_ok : kj8 Try.prog K14 Try.f14 = some F14 := by kernel_rfl
/- 16: syndrome/syndromeref.Same -/
def c16L0 : ACode := (.seq (.seq (.region [.m 11 5, .m 12 0, .o 13 (.n 12), .o 14 (.b .lss 11 13)]) (.cond (.tmp 14) .skip (.exit 0))) (.seq (.block 1 [0, 1, 5] (.seq (.region [.m 17 0, .m 18 5, .o 19 (.i 1 17 18), .o 20 (.l 19), .m 21 1, .m 22 5, .o 23 (.i 1 21 22), .o 24 (.l 23), .o 25 (.b .neq 20 24)]) (.cond (.tmp 25) (.seq (.region [.o 4 (.mv (.const (.bool false)))]) .ret) .skip))) (.region [.m 15 5, .o 16 (.c .add 15 1), .m 5 16])))
def c16 : ACode := (.seq (.region [.o 4 (.mv (.const (.bool false)))]) (.seq (.seq (.region [.m 6 0, .o 7 (.n 6), .m 8 1, .o 9 (.n 8), .o 10 (.b .neq 7 9)]) (.cond (.tmp 10) (.seq (.region [.o 4 (.mv (.const (.bool false)))]) .ret) .skip)) (.seq (.seq (.region [.k 5 0]) (.block 0 [] (.loop [0, 1, 5] c16L0))) (.seq (.region [.o 4 (.mv (.const (.bool true)))]) .ret))))
def F16 : AFun := ⟨c16, 2, 26, [(.tmp 4)]⟩
def K16 : Nat → List Nat × List Nat
 | 0 => ([0, 1, 5], [])
 | 1 => ([], [0, 1, 5])
 | _ => ([], [])
theorem F16_ok : kj8 Try.prog K16 Try.f16 = some F16 := by kernel_rfl
/- 21: (*syndrome/field.Field).Add -/
def c21L0 : ACode := (.seq (.region [.o 24 (.b .lss 23 22)]) (.seq (.cond (.tmp 24) .skip (.exit 0)) (.seq (.block 1 [0, 1, 2, 7, 8, 22, 23] (.seq (.region [.m 25 7, .m 26 1, .m 27 0, .o 28 (.nilck (.tmp 27)), .o 29 (.f 1 28), .o 30 (.l 29), .o 31 (.b .rem 26 30), .m 32 2, .m 33 0, .o 34 (.nilck (.tmp 33)), .o 35 (.f 1 34), .o 36 (.l 35), .o 37 (.b .rem 32 36), .o 38 (.b .add 31 37), .m 39 0, .o 40 (.nilck (.tmp 39)), .o 41 (.f 1 40), .o 42 (.l 41), .o 43 (.b .rem 38 42), .m 44 8, .o 45 (.b .mul 43 44), .o 46 (.b .add 25 45), .m 7 46]) (.region [.m 47 1, .m 48 0, .o 49 (.nilck (.tmp 48)), .o 50 (.f 1 49), .o 51 (.l 50), .o 52 (.b .quo 47 51), .m 53 2, .m 54 0, .o 55 (.nilck (.tmp 54)), .o 56 (.f 1 55), .o 57 (.l 56), .o 58 (.b .quo 53 57), .m 59 8, .m 60 0, .o 61 (.nilck (.tmp 60)), .o 62 (.f 1 61), .o 63 (.l 62), .o 64 (.b .mul 59 63), .m 1 52, .m 2 58, .m 8 64]))) (.region [.o 65 (.c .add 23 1), .m 23 65]))))
def c21 : ACode := (.seq (.region [.k 6 0]) (.seq (.seq (.region [.m 9 0, .m 10 1, .o 11 (.q 53 [9, 10]), .o 12 (.un .not (.tmp 11)), .m 13 12, .g 14 (.m 0) 13 false, .g 15 (.m 2) 13 false, .g 16 (.q 53 [14, 15]) 13 false, .g 17 (.un .not (.tmp 16)) 13 false, .o 18 (.pick (.tmp 13) (.const (.bool true)) (.tmp 17))]) (.cond (.tmp 18) (.seq (.region [.k 6 (-1)]) .ret) .skip)) (.seq (.region [.k 7 0, .k 8 1]) (.seq (.seq (.region [.m 19 0, .o 20 (.nilck (.tmp 19)), .o 21 (.f 2 20), .o 22 (.l 21), .k 23 0]) (.block 0 [7] (.loop [0, 1, 2, 7, 8, 22, 23] c21L0))) (.seq (.region [.m 66 7, .m 6 66]) .ret)))))
def F21 : AFun := ⟨c21, 3, 67, [(.tmp 6)]⟩
def K21 : Nat → List Nat × List Nat
 | 0 => ([0, 1, 2, 7, 8, 22, 23], [7])
 | 1 => ([], [0, 1, 2, 7, 8, 22, 23])
 | _ => ([], [])
theorem F21_ok : kj8 Try.prog K21 Try.f21 = some F21 := by kernel_rfl
/- 22: (*syndrome/field.Field).Mul -/
def c22 : ACode := (.seq (.region [.k 6 0]) (.seq (.seq (.region [.m 7 0, .m 8 1, .o 9 (.q 53 [7, 8]), .o 10 (.un .not (.tmp 9)), .m 11 10, .g 12 (.m 0) 11 false, .g 13 (.m 2) 11 false, .g 14 (.q 53 [12, 13]) 11 false, .g 15 (.un .not (.tmp 14)) 11 false, .o 16 (.pick (.tmp 11) (.const (.bool true)) (.tmp 15))]) (.cond (.tmp 16) (.seq (.region [.k 6 (-1)]) .ret) .skip)) (.seq (.seq (.region [.m 17 1, .o 18 (.c .eql 17 0), .m 19 18, .g 20 (.m 2) 19 false, .g 21 (.c .eql 20 0) 19 false, .o 22 (.pick (.tmp 19) (.const (.bool true)) (.tmp 21))]) (.cond (.tmp 22) (.seq (.region [.k 6 0]) .ret) .skip)) (.seq (.region [.m 23 0, .o 24 (.nilck (.tmp 23)), .o 25 (.f 5 24), .o 26 (.l 25), .m 27 0, .o 28 (.nilck (.tmp 27)), .o 29 (.f 6 28), .o 30 (.l 29), .m 31 1, .o 32 (.i 1 30 31), .o 33 (.l 32), .m 34 0, .o 35 (.nilck (.tmp 34)), .o 36 (.f 6 35), .o 37 (.l 36), .m 38 2, .o 39 (.i 1 37 38), .o 40 (.l 39), .o 41 (.b .add 33 40), .m 42 0, .o 43 (.nilck (.tmp 42)), .o 44 (.f 0 43), .o 45 (.l 44), .o 46 (.c .sub 45 1), .o 47 (.b .rem 41 46), .o 48 (.i 1 26 47), .o 49 (.l 48), .m 6 49]) .ret))))
def F22 : AFun := ⟨c22, 3, 50, [(.tmp 6)]⟩
def K22 : Nat → List Nat × List Nat
 | _ => ([], [])
theorem F22_ok : kj8 Try.prog K22 Try.f22 = some F22 := by kernel_rfl
/- 33: syndrome/syndromeref.SizeOf -/
def c33 : ACode := (.seq (.region [.k 2 0]) (.seq (.region [.o 5 (.call 54 []), .m 3 5]) (.seq (.region [.m 6 0, .o 7 (.call 9 [(.tmp 6), (.const (.int .i64 100))]), .m 4 7]) (.seq (.seq (.region [.m 8 4, .o 9 (.c .lss 8 60)]) (.cond (.tmp 9) (.seq (.region [.m 10 3, .m 11 4, .o 12 (.c .rem 11 7), .o 13 (.i 1 10 12), .o 14 (.l 13), .m 2 14]) .ret) .skip)) (.seq (.region [.m 15 3, .m 16 0, .o 17 (.c .quo 16 100), .m 18 3, .o 19 (.n 18), .o 20 (.q 9 [17, 19]), .o 21 (.i 1 15 20), .o 22 (.l 21), .m 2 22]) .ret)))))
def F33 : AFun := ⟨c33, 1, 23, [(.tmp 2)]⟩
def K33 : Nat → List Nat × List Nat
 | _ => ([], [])
theorem F33_ok : kj8 Try.prog K33 Try.f33 = some F33 := by kernel_rfl
/- 36: syndrome/field.New -/
def tb2 : List Value := [(.int .u32 0), (.int .i32 0), (.int .u32 0), (.int .u32 0), (.int .i32 0), (.int .u32 0), (.int .u32 0), (.int .i32 0), (.int .u32 0), (.int .u32 0), (.int .i32 0), (.int .u32 0), (.int .u32 0), (.int .i32 0), (.int .u32 0), (.int .u32 0), (.int .i32 0), (.int .u32 0), (.int .u32 0), (.int .i32 0), (.int .u32 0), (.int .u32 0), (.int .i32 0), (.int .u32 0), (.int .u32 0), (.int .i32 0), (.int .u32 0), (.int .u32 0), (.int .i32 0), (.int .u32 0), (.int .u32 0), (.int .i32 0), (.int .u32 0), (.int .u32 0), (.int .i32 0), (.int .u32 0), (.int .u32 0), (.int .i32 0), (.int .u32 0), (.int .u32 0), (.int .i32 0), (.int .u32 0), (.int .u32 0), (.int .i32 0), (.int .u32 0), (.int .u32 0), (.int .i32 0), (.int .u32 0), (.int .u32 0), (.int .i32 0), (.int .u32 0), (.int .u32 0), (.int .i32 0), (.int .u32 0), (.int .u32 0), (.int .i32 0), (.int .u32 0), (.int .u32 0), (.int .i32 0), (.int .u32 0), (.int .u32 0), (.int .i32 0), (.int .u32 0), (.int .u32 0), (.int .i32 0), (.int .u32 0), (.int .u32 0), (.int .i32 0), (.int .u32 0), (.int .u32 0), (.int .i32 0), (.int .u32 0), (.int .u32 0), (.int .i32 0), (.int .u32 0), (.int .u32 0), (.int .i32 0), (.int .u32 0), (.int .u32 0), (.int .i32 0), (.int .u32 0), (.int .u32 0), (.int .i32 0), (.int .u32 0), (.int .u32 0), (.int .i32 0), (.int .u32 0), (.int .u32 0), (.int .i32 0), (.int .u32 0), (.int .u32 0), (.int .i32 0), (.int .u32 0), (.int .u32 0), (.int .i32 0), (.int .u32 0), (.int .u32 0), (.int .i32 0), (.int .u32 0), (.int .u32 0), (.int .i32 0), (.int .u32 0), (.int .u32 0), (.int .i32 0), (.int .u32 0), (.int .u32 0), (.int .i32 0), (.int .u32 0), (.int .u32 0), (.int .i32 0), (.int .u32 0), (.int .u32 0), (.int .i32 0), (.int .u32 0), (.int .u32 0), (.int .i32 0), (.int .u32 0), (.int .u32 0), (.int .i32 0), (.int .u32 0), (.int .u32 0), (.int .i32 0), (.int .u32 0), (.int .u32 0), (.int .i32 0), (.int .u32 0), (.int .u32 0), (.int .i32 0), (.int .u32 0), (.int .u32 0), (.int .i32 0), (.int .u32 0), (.int .u32 0), (.int .i32 0), (.int .u32 0), (.int .u32 0), (.int .i32 0), (.int .u32 0), (.int .u32 0), (.int .i32 0), (.int .u32 0), (.int .u32 0), (.int .i32 0), (.int .u32 0), (.int .u32 0), (.int .i32 0), (.int .u32 0), (.int .u32 0), (.int .i32 0), (.int .u32 0), (.int .u32 0), (.int .i32 0), (.int .u32 0), (.int .u32 0), (.int .i32 0), (.int .u32 0), (.int .u32 0), (.int .i32 0), (.int .u32 0), (.int .u32 0), (.int .i32 0), (.int .u32 0), (.int .u32 0), (.int .i32 0), (.int .u32 0), (.int .u32 0), (.int .i32 0), (.int .u32 0), (.int .u32 0), (.int .i32 0), (.int .u32 0), (.int .u32 0), (.int .i32 0), (.int .u32 0), (.int .u32 0), (.int .i32 0), (.int .u32 0), (.int .u32 0), (.int .i32 0), (.int .u32 0), (.int .u32 0), (.int .i32 0), (.int .u32 0), (.int .u32 0), (.int .i32 0), (.int .u32 0), (.int .u32 0), (.int .i32 0), (.int .u32 0), (.int .u32 0), (.int .i32 0), (.int .u32 0), (.int .u32 0), (.int .i32 0), (.int .u32 0), (.pointer none), (.pointer none), (.pointer none), (.pointer none), (.pointer none), (.pointer none), (.pointer none), (.pointer none), (.pointer none), (.pointer none), (.pointer none), (.pointer none), (.pointer none), (.pointer none), (.pointer none), (.pointer none), (.pointer none), (.pointer none), (.pointer none), (.pointer none), (.pointer none), (.pointer none), (.pointer none), (.pointer none), (.pointer none), (.pointer none), (.pointer none), (.pointer none), (.pointer none), (.pointer none), (.pointer none), (.pointer none), (.pointer none), (.pointer none), (.pointer none), (.pointer none), (.pointer none), (.pointer none), (.pointer none), (.pointer none), (.pointer none), (.pointer none), (.pointer none), (.pointer none), (.pointer none), (.pointer none), (.pointer none), (.pointer none), (.pointer none), (.pointer none), (.pointer none), (.pointer none), (.pointer none), (.pointer none), (.pointer none), (.pointer none), (.pointer none), (.pointer none), (.pointer none), (.pointer none), (.pointer none), (.pointer none), (.pointer none), (.pointer none), (.pointer none)]
def c36 : ACode := (.seq (.region [.o 1 (.box 3 1 (.tmp 0)), .o 2 (.mv (.const (.pointer none))), .k 3 0]) (.seq (.seq (.region [.o 5 (.l 1), .o 6 (.c .lss 5 2), .m 7 6, .g 8 (.l 1) 7 false, .g 9 (.c .gtr 8 64) 7 false, .o 10 (.pick (.tmp 7) (.const (.bool true)) (.tmp 9))]) (.cond (.tmp 10) (.seq (.region [.o 2 (.mv (.const (.pointer none))), .k 3 1]) .ret) .skip)) (.seq (.region [.o 4 (.alloc 93 tb2)]) (.seq (.region [.o 11 (.l 1), .o 12 (.f 0 4), .o 13 (.iaddrA 65 3 (.tmp 12) (.tmp 11)), .o 14 (.mkf 59 [(.tmp 1), (.tmp 4)]), .o 15 (.q 58 [13, 14])]) (.seq (.seq (.region [.o 16 (.l 1), .o 17 (.f 195 4), .o 18 (.iaddrA 65 1 (.tmp 17) (.tmp 16)), .o 19 (.l 18), .o 20 (.eqn false 1 (.tmp 19))]) (.cond (.tmp 20) (.seq (.region [.o 2 (.mv (.const (.pointer none))), .k 3 1]) .ret) .skip)) (.seq (.region [.o 21 (.l 1), .o 22 (.f 195 4), .o 23 (.iaddrA 65 1 (.tmp 22) (.tmp 21)), .o 24 (.l 23), .m 2 24, .k 3 0]) .ret))))))
def F36 : AFun := ⟨c36, 1, 25, [(.tmp 2), (.tmp 3)]⟩
def K36 : Nat → List Nat × List Nat
 | _ => ([], [])
theorem F36_ok : kj8 Try.prog K36 Try.f36 = some F36 := by kernel_rfl
/- 39: syndrome/reed.Encode -/
def c39L0 : ACode := (.seq (.region [.o 33 (.b .lss 32 31)]) (.seq (.cond (.tmp 33) .skip (.exit 0)) (.seq (.block 1 [0, 2, 10, 30, 31, 32] (.seq (.region [.m 34 32, .o 35 (.i 1 30 32), .o 36 (.l 35), .m 11 34, .m 12 36]) (.region [.m 38 10, .m 39 11, .m 40 0, .m 41 2, .m 42 12, .o 43 (.q 64 [40, 41, 42]), .m 37 43, .o 44 (.e 0 37), .o 45 (.e 1 37), .o 46 (.i 1 38 39), .n (.st 1 (.tmp 46) (.tmp 44))]))) (.region [.o 47 (.c .add 32 1), .m 32 47]))))
def c39 : ACode := (.seq (.region [.o 6 (.mv (.const (.slice none 0 0))), .k 7 0]) (.seq (.seq (.region [.m 13 0, .m 14 1, .m 15 2, .o 16 (.n 15), .o 17 (.q 63 [13, 14, 16]), .m 8 17]) (.seq (.region [.m 18 8, .o 19 (.c .neq 18 0)]) (.cond (.tmp 19) (.seq (.region [.m 20 8, .o 6 (.mv (.const (.slice none 0 0))), .m 7 20]) .ret) .skip))) (.seq (.seq (.region [.m 21 0, .m 22 2, .o 23 (.q 61 [21, 22]), .m 9 23]) (.seq (.region [.m 24 9, .o 25 (.c .neq 24 0)]) (.cond (.tmp 25) (.seq (.region [.m 26 9, .o 6 (.mv (.const (.slice none 0 0))), .m 7 26]) .ret) .skip))) (.seq (.region [.m 27 1, .o 28 (.n 27), .o 29 (.mks 3 1 8 [(.int .i64 0)] (.tmp 28) (.tmp 28)), .m 10 29]) (.seq (.seq (.region [.m 30 1, .o 31 (.n 30), .k 32 0]) (.block 0 [10] (.loop [0, 2, 10, 30, 31, 32] c39L0))) (.seq (.region [.m 48 10, .m 6 48, .k 7 0]) .ret))))))
def F39 : AFun := ⟨c39, 3, 49, [(.tmp 6), (.tmp 7)]⟩
def K39 : Nat → List Nat × List Nat
 | 0 => ([0, 2, 10, 30, 31, 32], [10])
 | 1 => ([], [0, 2, 10, 30, 31, 32])
 | _ => ([], [])
theorem F39_ok : kj8 Try.prog K39 Try.f39 = some F39 := by kernel_rfl
/- 40: syndrome/code.Apart -/
def c40L0 : ACode := (.seq (.region [.o 15 (.b .lss 14 13)]) (.seq (.cond (.tmp 15) .skip (.exit 0)) (.seq (.block 1 [0, 1, 5, 13, 14] (.seq (.region [.m 16 14, .m 6 16]) (.seq (.region [.m 17 0, .m 18 6, .o 19 (.i 1 17 18), .o 20 (.l 19), .m 21 1, .m 22 6, .o 23 (.i 1 21 22), .o 24 (.l 23), .o 25 (.b .neq 20 24)]) (.cond (.tmp 25) (.region [.m 26 5, .o 27 (.c .add 26 1), .m 5 27]) .skip)))) (.region [.o 28 (.c .add 14 1), .m 14 28]))))
def c40 : ACode := (.seq (.region [.k 4 0]) (.seq (.seq (.region [.m 7 0, .o 8 (.n 7), .m 9 1, .o 10 (.n 9), .o 11 (.b .neq 8 10)]) (.cond (.tmp 11) (.seq (.region [.k 4 (-1)]) .ret) .skip)) (.seq (.region [.k 5 0]) (.seq (.seq (.region [.m 12 0, .o 13 (.n 12), .k 14 0]) (.block 0 [5] (.loop [0, 1, 5, 13, 14] c40L0))) (.seq (.region [.m 29 5, .m 4 29]) .ret)))))
def F40 : AFun := ⟨c40, 2, 30, [(.tmp 4)]⟩
def K40 : Nat → List Nat × List Nat
 | 0 => ([0, 1, 5, 13, 14], [5])
 | 1 => ([], [0, 1, 5, 13, 14])
 | _ => ([], [])
theorem F40_ok : kj8 Try.prog K40 Try.f40 = some F40 := by kernel_rfl
/- 41: syndrome/syndromeref.Raw -/
def c41 : ACode := (.seq (.region [.k 4 0]) (.seq (.seq (.region [.m 5 0, .o 6 (.n 5), .o 7 (.c .eql 6 0)]) (.cond (.tmp 7) (.seq (.region [.m 8 1, .m 4 8]) .ret) .skip)) (.seq (.region [.m 9 0, .m 10 1, .m 11 0, .o 12 (.n 11), .o 13 (.b .rem 10 12), .o 14 (.i 1 9 13), .o 15 (.l 14), .m 16 1, .m 17 0, .o 18 (.n 17), .o 19 (.b .quo 16 18), .o 20 (.c .mul 19 7919), .o 21 (.b .add 15 20), .m 4 21]) .ret)))
def F41 : AFun := ⟨c41, 2, 22, [(.tmp 4)]⟩
def K41 : Nat → List Nat × List Nat
 | _ => ([], [])
theorem F41_ok : kj8 Try.prog K41 Try.f41 = some F41 := by kernel_rfl
/- 51: slices.Contains[[]int,int] -/
def c51 : ACode := (.seq (.region [.o 4 (.mv (.const (.bool false)))]) (.seq (.region [.m 5 0, .m 6 1, .o 7 (.q 78 [5, 6]), .o 8 (.c .geq 7 0), .m 4 8]) .ret))
def F51 : AFun := ⟨c51, 2, 9, [(.tmp 4)]⟩
def K51 : Nat → List Nat × List Nat
 | _ => ([], [])
theorem F51_ok : kj8 Try.prog K51 Try.f51 = some F51 := by kernel_rfl
/- 53: (*syndrome/field.Field).Has -/
def c53 : ACode := (.seq (.region [.o 4 (.mv (.const (.bool false)))]) (.seq (.region [.m 5 1, .o 6 (.c .geq 5 0), .m 7 6, .g 8 (.m 1) 7 true, .g 9 (.m 0) 7 true, .g 10 (.nilck (.tmp 9)) 7 true, .g 11 (.f 0 10) 7 true, .g 12 (.l 11) 7 true, .g 13 (.b .lss 8 12) 7 true, .o 14 (.pick (.tmp 7) (.tmp 13) (.const (.bool false))), .m 4 14]) .ret))
def F53 : AFun := ⟨c53, 2, 15, [(.tmp 4)]⟩
def K53 : Nat → List Nat × List Nat
 | _ => ([], [])
theorem F53_ok : kj8 Try.prog K53 Try.f53 = some F53 := by kernel_rfl
/- 54: syndrome/syndromeref.Sizes -/
def c54L0 : ACode := (.seq (.seq (.region [.m 5 2, .o 6 (.c .leq 5 64)]) (.cond (.tmp 6) .skip (.exit 0))) (.seq (.block 1 [1, 2] (.seq (.region [.m 10 2, .o 11 (.q 81 [10]), .m 9 11, .o 12 (.e 0 9), .o 13 (.e 1 9), .m 3 12, .m 4 13]) (.seq (.region [.m 14 3, .o 15 (.c .gtr 14 0)]) (.cond (.tmp 15) (.region [.m 16 1, .m 17 2, .o 18 (.mkSl 3 1 1 [(.tmp 17)]), .o 19 (.app 3 1 8 (.tmp 16) (.tmp 18)), .m 1 19]) .skip)))) (.region [.m 7 2, .o 8 (.c .add 7 1), .m 2 8])))
def c54 : ACode := (.seq (.region [.o 0 (.mv (.const (.slice none 0 0)))]) (.seq (.region [.o 1 (.mv (.const (.slice none 0 0)))]) (.seq (.seq (.region [.k 2 2]) (.block 0 [1] (.loop [1, 2] c54L0))) (.seq (.region [.m 20 1, .m 0 20]) .ret))))
def F54 : AFun := ⟨c54, 0, 21, [(.tmp 0)]⟩
def K54 : Nat → List Nat × List Nat
 | 0 => ([1, 2], [1])
 | 1 => ([], [1, 2])
 | _ => ([], [])
theorem F54_ok : kj8 Try.prog K54 Try.f54 = some F54 := by kernel_rfl
/- 55: syndrome/field.prime -/
def c55L0 : ACode := (.seq (.seq (.region [.m 4 0, .m 5 2, .o 6 (.b .rem 4 5), .o 7 (.c .neq 6 0)]) (.cond (.tmp 7) .skip (.exit 0))) (.block 1 [0, 2, 3] (.region [.m 8 2, .o 9 (.c .add 8 1), .m 2 9])))
def c55L1 : ACode := (.seq (.seq (.region [.m 10 0, .m 11 2, .o 12 (.b .rem 10 11), .o 13 (.c .eql 12 0)]) (.cond (.tmp 13) .skip (.exit 2))) (.seq (.block 3 [0, 2, 3] (.region [.m 17 3, .o 18 (.c .add 17 1), .m 3 18])) (.region [.m 14 0, .m 15 2, .o 16 (.b .quo 14 15), .m 0 16])))
def c55 : ACode := (.seq (.region [.k 2 0, .k 3 0]) (.seq (.region [.k 2 2]) (.seq (.block 0 [0, 2, 3] (.loop [0, 2, 3] c55L0)) (.seq (.block 2 [0, 2, 3] (.loop [0, 2, 3] c55L1)) (.seq (.seq (.region [.m 19 0, .o 20 (.c .neq 19 1)]) (.cond (.tmp 20) (.seq (.region [.k 2 0, .k 3 0]) .ret) .skip)) (.seq (.region [.m 21 2, .m 22 3, .m 2 21, .m 3 22]) .ret))))))
def F55 : AFun := ⟨c55, 1, 23, [(.tmp 2), (.tmp 3)]⟩
def K55 : Nat → List Nat × List Nat
 | 0 => ([0, 2, 3], [0, 2, 3])
 | 1 => ([], [0, 2, 3])
 | 2 => ([0, 2, 3], [0, 2, 3])
 | 3 => ([], [0, 2, 3])
 | _ => ([], [])
theorem F55_ok : kj8 Try.prog K55 Try.f55 = some F55 := by kernel_rfl
/- 57: syndrome/field.digits -/
def c57L0 : ACode := (.seq (.region [.o 14 (.b .lss 13 12)]) (.seq (.cond (.tmp 14) .skip (.exit 0)) (.seq (.block 1 [0, 1, 7, 12, 13] (.seq (.region [.m 15 13, .m 8 15]) (.seq (.region [.m 16 7, .m 17 8, .m 18 0, .m 19 1, .o 20 (.b .rem 18 19), .o 21 (.i 1 16 17), .n (.st 1 (.tmp 21) (.tmp 20))]) (.region [.m 22 0, .m 23 1, .o 24 (.b .quo 22 23), .m 0 24])))) (.region [.o 25 (.c .add 13 1), .m 13 25]))))
def c57 : ACode := (.seq (.region [.o 6 (.mv (.const (.slice none 0 0)))]) (.seq (.region [.m 9 2, .o 10 (.mks 3 1 8 [(.int .i64 0)] (.tmp 9) (.tmp 9)), .m 7 10]) (.seq (.seq (.region [.m 11 7, .o 12 (.n 11), .k 13 0]) (.block 0 [7] (.loop [0, 1, 7, 12, 13] c57L0))) (.seq (.region [.m 26 7, .m 6 26]) .ret))))
def F57 : AFun := ⟨c57, 3, 27, [(.tmp 6)]⟩
def K57 : Nat → List Nat × List Nat
 | 0 => ([0, 1, 7, 12, 13], [7])
 | 1 => ([], [0, 1, 7, 12, 13])
 | _ => ([], [])
theorem F57_ok : kj8 Try.prog K57 Try.f57 = some F57 := by kernel_rfl
/- 59: syndrome/field.New$1 -/
def c59 : ACode := (.region [.o 2 (.l 0), .o 3 (.l 0), ⟨(some 4), (.call 60 [(.tmp 3)]), none, true⟩, .o 5 (.f 195 1), .o 6 (.iaddrA 65 1 (.tmp 5) (.tmp 2)), .n (.st 1 (.tmp 6) (.tmp 4))])
def F59 : AFun := ⟨c59, 2, 7, []⟩
def K59 : Nat → List Nat × List Nat
 | _ => ([], [])
theorem F59_ok : kj8 Try.prog K59 Try.f59 = some F59 := by kernel_rfl
/- 60: syndrome/field.build -/
def c60L0 : ACode := (.seq (.seq (.region [.m 28 5, .o 29 (.q 84 [28]), .o 30 (.un .not (.tmp 29))]) (.cond (.tmp 30) .skip (.exit 0))) (.seq (.block 1 [5] .skip) (.region [.m 31 5, .o 32 (.nilck (.tmp 31)), .o 33 (.f 4 32), .o 34 (.l 33), .o 35 (.c .add 34 1), .o 36 (.nilck (.tmp 31)), .o 37 (.f 4 36), .n (.st 1 (.tmp 37) (.tmp 35))])))
def c60L1 : ACode := (.seq (.region [.o 45 (.b .lss 44 43)]) (.seq (.cond (.tmp 45) .skip (.exit 2)) (.seq (.block 3 [3, 4, 5, 43, 44] (.seq (.region [.m 46 44, .m 6 46]) (.seq (.region [.m 47 5, .m 48 6, .m 49 3, .m 50 4, .o 51 (.q 57 [48, 49, 50]), .o 52 (.mkSl 3 1 1 [(.const (.int .i64 1))]), .o 53 (.app 3 1 8 (.tmp 51) (.tmp 52)), .o 54 (.nilck (.tmp 47)), .o 55 (.f 3 54), .n (.st 1 (.tmp 55) (.tmp 53))]) (.seq (.region [.m 56 5, .o 57 (.q 84 [56])]) (.cond (.tmp 57) (.seq (.region [.m 58 5, .m 2 58]) .ret) .skip))))) (.region [.o 59 (.c .add 44 1), .m 44 59]))))
def c60 : ACode := (.seq (.region [.o 2 (.mv (.const (.pointer none)))]) (.seq (.region [.m 8 0, .o 9 (.q 55 [8]), .m 7 9, .o 10 (.e 0 7), .o 11 (.e 1 7), .m 3 10, .m 4 11]) (.seq (.seq (.region [.m 12 3, .o 13 (.c .eql 12 0)]) (.cond (.tmp 13) (.seq (.region [.o 2 (.mv (.const (.pointer none)))]) .ret) .skip)) (.seq (.region [.m 14 0, .m 15 3, .m 16 4, .o 17 (.build [(.int .i64 0), (.int .i64 0), (.int .i64 0), (.slice none 0 0), (.int .i64 0), (.slice none 0 0), (.slice none 0 0)] [(0, 1), (1, 1), (2, 1), (3, 1), (4, 1), (5, 1), (6, 1)] [(0, (.tmp 14)), (1, (.tmp 15)), (2, (.tmp 16))]), .o 18 (.box 72 7 (.tmp 17)), .m 5 18]) (.seq (.seq (.region [.m 19 4, .o 20 (.c .eql 19 1)]) (.cond (.tmp 20) (.seq (.region [.m 21 5, .o 22 (.mkSl 3 1 2 [(.const (.int .i64 0)), (.const (.int .i64 1))]), .o 23 (.nilck (.tmp 21)), .o 24 (.f 3 23), .n (.st 1 (.tmp 24) (.tmp 22))]) (.seq (.seq (.region [.m 25 5, .o 26 (.nilck (.tmp 25)), .o 27 (.f 4 26), .n (.st 1 (.tmp 27) (.const (.int .i64 1)))]) (.block 0 [5] (.loop [5] c60L0))) (.seq (.region [.m 38 5, .m 2 38]) .ret))) .skip)) (.seq (.region [.m 39 5, .m 40 3, .o 41 (.nilck (.tmp 39)), .o 42 (.f 4 41), .n (.st 1 (.tmp 42) (.tmp 40))]) (.seq (.seq (.region [.m 43 0, .k 44 0]) (.block 2 [] (.loop [3, 4, 5, 43, 44] c60L1))) (.seq (.region [.o 2 (.mv (.const (.pointer none)))]) .ret))))))))
def F60 : AFun := ⟨c60, 1, 60, [(.tmp 2)]⟩
def K60 : Nat → List Nat × List Nat
 | 0 => ([5], [5])
 | 1 => ([], [5])
 | 2 => ([3, 4, 5, 43, 44], [])
 | 3 => ([], [3, 4, 5, 43, 44])
 | _ => ([], [])
theorem F60_ok : kj8 Try.prog K60 Try.f60 = some F60 := by kernel_rfl
/- 61: syndrome/poly.Check -/
def c61L0 : ACode := (.seq (.region [.o 23 (.b .lss 22 21)]) (.seq (.cond (.tmp 23) .skip (.exit 0)) (.seq (.block 1 [5, 20, 21, 22] (.seq (.region [.o 24 (.i 1 20 22), .o 25 (.l 24), .m 8 25]) (.seq (.region [.m 26 5, .m 27 8, .o 28 (.q 53 [26, 27]), .o 29 (.un .not (.tmp 28))]) (.cond (.tmp 29) (.seq (.region [.k 4 2]) .ret) .skip)))) (.region [.o 30 (.c .add 22 1), .m 22 30]))))
def c61 : ACode := (.seq (.region [.k 4 0]) (.seq (.region [.m 10 0, .o 11 (.q 36 [10]), .m 9 11, .o 12 (.e 0 9), .o 13 (.e 1 9), .m 5 12, .m 6 13]) (.seq (.seq (.region [.m 14 6, .o 15 (.c .neq 14 0)]) (.cond (.tmp 15) (.seq (.region [.m 16 6, .m 4 16]) .ret) .skip)) (.seq (.seq (.region [.m 17 1, .o 18 (.n 17), .o 19 (.c .gtr 18 128)]) (.cond (.tmp 19) (.seq (.region [.k 4 4]) .ret) .skip)) (.seq (.seq (.region [.m 20 1, .o 21 (.n 20), .k 22 0]) (.block 0 [] (.loop [5, 20, 21, 22] c61L0))) (.seq (.region [.k 4 0]) .ret))))))
def F61 : AFun := ⟨c61, 2, 31, [(.tmp 4)]⟩
def K61 : Nat → List Nat × List Nat
 | 0 => ([5, 20, 21, 22], [])
 | 1 => ([], [5, 20, 21, 22])
 | _ => ([], [])
theorem F61_ok : kj8 Try.prog K61 Try.f61 = some F61 := by kernel_rfl
/- 63: syndrome/reed.Check -/
def c63L0 : ACode := (.seq (.region [.o 30 (.b .lss 29 28)]) (.seq (.cond (.tmp 30) .skip (.exit 0)) (.seq (.block 1 [1, 2, 7, 27, 28, 29] (.seq (.region [.m 31 29, .o 32 (.i 1 27 29), .o 33 (.l 32), .m 9 31, .m 10 33]) (.seq (.seq (.region [.m 34 7, .m 35 10, .o 36 (.q 53 [34, 35]), .o 37 (.un .not (.tmp 36))]) (.cond (.tmp 37) (.seq (.region [.k 6 2]) .ret) .skip)) (.seq (.region [.m 38 1, .m 39 9, .o 40 (.sl 1 (.tmp 38) none (some (.tmp 39))), .m 41 10, .o 42 (.q 51 [40, 41])]) (.cond (.tmp 42) (.seq (.region [.k 6 7]) .ret) .skip))))) (.region [.o 43 (.c .add 29 1), .m 29 43]))))
def c63 : ACode := (.seq (.region [.k 6 0]) (.seq (.region [.m 12 0, .o 13 (.q 36 [12]), .m 11 13, .o 14 (.e 0 11), .o 15 (.e 1 11), .m 7 14, .m 8 15]) (.seq (.seq (.region [.m 16 8, .o 17 (.c .neq 16 0)]) (.cond (.tmp 17) (.seq (.region [.m 18 8, .m 6 18]) .ret) .skip)) (.seq (.seq (.region [.m 19 1, .o 20 (.n 19), .o 21 (.c .lss 20 1), .m 22 21, .g 23 (.m 1) 22 false, .g 24 (.n 23) 22 false, .g 25 (.c .gtr 24 64) 22 false, .o 26 (.pick (.tmp 22) (.const (.bool true)) (.tmp 25))]) (.cond (.tmp 26) (.seq (.region [.k 6 4]) .ret) .skip)) (.seq (.seq (.region [.m 27 1, .o 28 (.n 27), .k 29 0]) (.block 0 [1, 2] (.loop [1, 2, 7, 27, 28, 29] c63L0))) (.seq (.seq (.region [.m 44 2, .o 45 (.c .lss 44 1), .m 46 45, .g 47 (.m 2) 46 false, .g 48 (.m 1) 46 false, .g 49 (.n 48) 46 false, .g 50 (.b .gtr 47 49) 46 false, .o 51 (.pick (.tmp 46) (.const (.bool true)) (.tmp 50))]) (.cond (.tmp 51) (.seq (.region [.k 6 6]) .ret) .skip)) (.seq (.region [.k 6 0]) .ret)))))))
def F63 : AFun := ⟨c63, 3, 52, [(.tmp 6)]⟩
def K63 : Nat → List Nat × List Nat
 | 0 => ([1, 2, 7, 27, 28, 29], [1, 2])
 | 1 => ([], [1, 2, 7, 27, 28, 29])
 | _ => ([], [])
theorem F63_ok : kj8 Try.prog K63 Try.f63 = some F63 := by kernel_rfl
/- 64: syndrome/poly.At -/
def c64L0 : ACode := (.seq (.seq (.region [.m 29 12, .o 30 (.c .geq 29 0)]) (.cond (.tmp 30) .skip (.exit 0))) (.seq (.block 1 [1, 2, 8, 11, 12] (.region [.m 33 8, .m 34 8, .m 35 11, .m 36 2, ⟨(some 37), (.call 22 [(.tmp 34), (.tmp 35), (.tmp 36)]), none, true⟩, .m 38 1, .m 39 12, .o 40 (.i 1 38 39), ⟨(some 41), (.ld false 1 (.tmp 40)), none, true⟩, .o 42 (.q 21 [33, 37, 41]), .m 11 42])) (.region [.m 31 12, .o 32 (.c .sub 31 1), .m 12 32])))
def c64 : ACode := (.seq (.region [.k 6 0, .k 7 0]) (.seq (.region [.m 14 0, .m 15 1, .m 16 2, .o 17 (.mkSl 3 1 1 [(.tmp 16)]), .o 18 (.q 85 [14, 15, 17]), .m 13 18, .o 19 (.e 0 13), .o 20 (.e 1 13), .o 21 (.e 2 13), .o 22 (.e 3 13), .m 8 19, .m 1 20, .m 9 21, .m 10 22]) (.seq (.seq (.region [.m 23 10, .o 24 (.c .neq 23 0)]) (.cond (.tmp 24) (.seq (.region [.m 25 10, .k 6 0, .m 7 25]) .ret) .skip)) (.seq (.region [.k 11 0]) (.seq (.seq (.region [.m 26 1, .o 27 (.n 26), .o 28 (.c .sub 27 1), .m 12 28]) (.block 0 [11] (.loop [1, 2, 8, 11, 12] c64L0))) (.seq (.region [.m 43 11, .m 6 43, .k 7 0]) .ret))))))
def F64 : AFun := ⟨c64, 3, 44, [(.tmp 6), (.tmp 7)]⟩
def K64 : Nat → List Nat × List Nat
 | 0 => ([1, 2, 8, 11, 12], [11])
 | 1 => ([], [1, 2, 8, 11, 12])
 | _ => ([], [])
theorem F64_ok : kj8 Try.prog K64 Try.f64 = some F64 := by kernel_rfl
/- 68: slices.Clone[[]int,int] -/
def c68 : ACode := (.seq (.region [.o 2 (.mv (.const (.slice none 0 0)))]) (.seq (.seq (.region [.m 3 0, .o 4 (.eqn false 0 (.tmp 3))]) (.cond (.tmp 4) (.seq (.region [.o 2 (.mv (.const (.slice none 0 0)))]) .ret) .skip)) (.seq (.region [.o 5 (.mkSl 3 1 0 []), .m 6 0, .o 7 (.app 3 1 8 (.tmp 5) (.tmp 6)), .m 2 7]) .ret)))
def F68 : AFun := ⟨c68, 1, 8, [(.tmp 2)]⟩
def K68 : Nat → List Nat × List Nat
 | _ => ([], [])
theorem F68_ok : kj8 Try.prog K68 Try.f68 = some F68 := by kernel_rfl
/- 78: slices.Index[[]int,int] -/
def c78L0 : ACode := (.seq (.region [.o 9 (.b .lss 8 7)]) (.seq (.cond (.tmp 9) .skip (.exit 0)) (.seq (.block 1 [0, 1, 7, 8] (.seq (.region [.m 10 8, .m 5 10]) (.seq (.region [.m 11 1, .m 12 0, .m 13 5, .o 14 (.i 1 12 13), .o 15 (.l 14), .o 16 (.b .eql 11 15)]) (.cond (.tmp 16) (.seq (.region [.m 17 5, .m 4 17]) .ret) .skip)))) (.region [.o 18 (.c .add 8 1), .m 8 18]))))
def c78 : ACode := (.seq (.region [.k 4 0]) (.seq (.seq (.region [.m 6 0, .o 7 (.n 6), .k 8 0]) (.block 0 [] (.loop [0, 1, 7, 8] c78L0))) (.seq (.region [.k 4 (-1)]) .ret)))
def F78 : AFun := ⟨c78, 2, 19, [(.tmp 4)]⟩
def K78 : Nat → List Nat × List Nat
 | 0 => ([0, 1, 7, 8], [])
 | 1 => ([], [0, 1, 7, 8])
 | _ => ([], [])
theorem F78_ok : kj8 Try.prog K78 Try.f78 = some F78 := by kernel_rfl
/- 81: syndrome/syndromeref.Prime -/
def c81L0 : ACode := (.seq (.seq (.region [.m 15 0, .m 16 4, .o 17 (.b .rem 15 16), .o 18 (.c .eql 17 0)]) (.cond (.tmp 18) .skip (.exit 2))) (.block 3 [0, 4, 5] (.seq (.region [.m 19 0, .m 20 4, .o 21 (.b .quo 19 20), .m 0 21]) (.region [.m 22 5, .o 23 (.c .add 22 1), .m 5 23]))))
def c81L1 : ACode := (.seq (.seq (.region [.m 6 4, .m 7 0, .o 8 (.b .leq 6 7)]) (.cond (.tmp 8) .skip (.exit 0))) (.seq (.block 1 [0, 4] (.seq (.seq (.region [.m 11 0, .m 12 4, .o 13 (.b .rem 11 12), .o 14 (.c .neq 13 0)]) (.cond (.tmp 14) (.exit 1) .skip)) (.seq (.region [.k 5 0]) (.seq (.block 2 [0, 4, 5] (.loop [0, 4, 5] c81L0)) (.seq (.seq (.region [.m 24 0, .o 25 (.c .eql 24 1)]) (.cond (.tmp 25) (.seq (.region [.m 26 4, .m 27 5, .m 2 26, .m 3 27]) .ret) .skip)) (.seq (.region [.k 2 0, .k 3 0]) .ret)))))) (.region [.m 9 4, .o 10 (.c .add 9 1), .m 4 10])))
def c81 : ACode := (.seq (.region [.k 2 0, .k 3 0]) (.seq (.seq (.region [.k 4 2]) (.block 0 [] (.loop [0, 4] c81L1))) (.seq (.region [.k 2 0, .k 3 0]) .ret)))
def F81 : AFun := ⟨c81, 1, 28, [(.tmp 2), (.tmp 3)]⟩
def K81 : Nat → List Nat × List Nat
 | 0 => ([0, 4], [])
 | 1 => ([], [0, 4])
 | 2 => ([0, 4, 5], [0, 4, 5])
 | 3 => ([], [0, 4, 5])
 | _ => ([], [])
theorem F81_ok : kj8 Try.prog K81 Try.f81 = some F81 := by kernel_rfl
/- 84: (*syndrome/field.Field).fill -/
def c84L0 : ACode := (.seq (.region [.o 29 (.b .lss 28 27)]) (.seq (.cond (.tmp 29) .skip (.exit 0)) (.seq (.block 1 [0, 27, 28] (.seq (.region [.m 30 28, .m 3 30]) (.region [.m 31 0, .o 32 (.nilck (.tmp 31)), .o 33 (.f 6 32), .o 34 (.l 33), .m 35 3, .o 36 (.i 1 34 35), .n (.st 1 (.tmp 36) (.const (.int .i64 (-1))))]))) (.region [.o 37 (.c .add 28 1), .m 28 37]))))
def c84L1 : ACode := (.seq (.region [.o 44 (.b .lss 43 42)]) (.seq (.cond (.tmp 44) .skip (.exit 2)) (.seq (.block 3 [0, 4, 42, 43] (.seq (.region [.m 45 43, .m 5 45]) (.seq (.seq (.region [.m 46 4, .o 47 (.c .eql 46 0), .m 48 47, .g 49 (.m 0) 48 false, .g 50 (.nilck (.tmp 49)) 48 false, .g 51 (.f 6 50) 48 false, .g 52 (.l 51) 48 false, .g 53 (.m 4) 48 false, .g 54 (.i 1 52 53) 48 false, .g 55 (.l 54) 48 false, .g 56 (.c .geq 55 0) 48 false, .o 57 (.pick (.tmp 48) (.const (.bool true)) (.tmp 56))]) (.cond (.tmp 57) (.seq (.region [.o 2 (.mv (.const (.bool false)))]) .ret) .skip)) (.seq (.region [.m 58 0, .o 59 (.nilck (.tmp 58)), .o 60 (.f 5 59), .o 61 (.l 60), .m 62 5, .m 63 0, .o 64 (.nilck (.tmp 63)), .o 65 (.f 6 64), .o 66 (.l 65), .m 67 4, .m 68 4, .m 69 5, .o 70 (.i 1 61 62), .n (.st 1 (.tmp 70) (.tmp 68)), .o 71 (.i 1 66 67), .n (.st 1 (.tmp 71) (.tmp 69))]) (.region [.m 72 0, .m 73 4, .o 74 (.q 101 [72, 73]), .m 4 74]))))) (.region [.o 75 (.c .add 43 1), .m 43 75]))))
def c84 : ACode := (.seq (.region [.o 2 (.mv (.const (.bool false)))]) (.seq (.region [.m 6 0, .m 7 0, .o 8 (.nilck (.tmp 7)), .o 9 (.f 0 8), .o 10 (.l 9), .o 11 (.c .sub 10 1), .o 12 (.mks 3 1 8 [(.int .i64 0)] (.tmp 11) (.tmp 11)), .o 13 (.nilck (.tmp 6)), .o 14 (.f 5 13), .n (.st 1 (.tmp 14) (.tmp 12))]) (.seq (.region [.m 15 0, .m 16 0, .o 17 (.nilck (.tmp 16)), .o 18 (.f 0 17), .o 19 (.l 18), .o 20 (.mks 3 1 8 [(.int .i64 0)] (.tmp 19) (.tmp 19)), .o 21 (.nilck (.tmp 15)), .o 22 (.f 6 21), .n (.st 1 (.tmp 22) (.tmp 20))]) (.seq (.seq (.region [.m 23 0, .o 24 (.nilck (.tmp 23)), .o 25 (.f 6 24), .o 26 (.l 25), .o 27 (.n 26), .k 28 0]) (.block 0 [0] (.loop [0, 27, 28] c84L0))) (.seq (.region [.k 4 1]) (.seq (.seq (.region [.m 38 0, .o 39 (.nilck (.tmp 38)), .o 40 (.f 0 39), .o 41 (.l 40), .o 42 (.c .sub 41 1), .k 43 0]) (.block 2 [4] (.loop [0, 4, 42, 43] c84L1))) (.seq (.region [.m 76 4, .o 77 (.c .eql 76 1), .m 2 77]) .ret)))))))
def F84 : AFun := ⟨c84, 1, 78, [(.tmp 2)]⟩
def K84 : Nat → List Nat × List Nat
 | 0 => ([0, 27, 28], [0])
 | 1 => ([], [0, 27, 28])
 | 2 => ([0, 4, 42, 43], [4])
 | 3 => ([], [0, 4, 42, 43])
 | _ => ([], [])
theorem F84_ok : kj8 Try.prog K84 Try.f84 = some F84 := by kernel_rfl
/- 85: syndrome/poly.both -/
def c85 : ACode := (.seq (.region [.o 6 (.mv (.const (.pointer none))), .o 7 (.mv (.const (.slice none 0 0))), .o 8 (.mv (.const (.slice none 0 0))), .k 9 0]) (.seq (.region [.m 13 0, .m 14 1, .o 15 (.q 61 [13, 14]), .m 10 15]) (.seq (.seq (.region [.m 16 10, .o 17 (.c .eql 16 0)]) (.cond (.tmp 17) (.region [.m 18 0, .m 19 2, .o 20 (.q 61 [18, 19]), .m 10 20]) .skip)) (.seq (.seq (.region [.m 21 10, .o 22 (.c .neq 21 0)]) (.cond (.tmp 22) (.seq (.region [.m 23 10, .o 6 (.mv (.const (.pointer none))), .o 7 (.mv (.const (.slice none 0 0))), .o 8 (.mv (.const (.slice none 0 0))), .m 9 23]) .ret) .skip)) (.seq (.region [.m 25 0, .o 26 (.q 36 [25]), .m 24 26, .o 27 (.e 0 24), .o 28 (.e 1 24), .m 11 27, .m 12 28]) (.seq (.region [.m 29 11, .m 30 1, .o 31 (.q 86 [30]), .m 32 2, .o 33 (.q 86 [32]), .m 6 29, .m 7 31, .m 8 33, .k 9 0]) .ret))))))
def F85 : AFun := ⟨c85, 3, 34, [(.tmp 6), (.tmp 7), (.tmp 8), (.tmp 9)]⟩
def K85 : Nat → List Nat × List Nat
 | _ => ([], [])
theorem F85_ok : kj8 Try.prog K85 Try.f85 = some F85 := by kernel_rfl
/- 86: syndrome/poly.trim -/
def c86L0 : ACode := (.seq (.seq (.region [.m 6 3, .o 7 (.c .gtr 6 0), .m 8 7, .g 9 (.m 0) 8 true, .g 10 (.m 3) 8 true, .g 11 (.c .sub 10 1) 8 true, .g 12 (.i 1 9 11) 8 true, .g 13 (.l 12) 8 true, .g 14 (.c .eql 13 0) 8 true, .o 15 (.pick (.tmp 8) (.tmp 14) (.const (.bool false)))]) (.cond (.tmp 15) .skip (.exit 0))) (.block 1 [0, 3] (.region [.m 16 3, .o 17 (.c .sub 16 1), .m 3 17])))
def c86 : ACode := (.seq (.region [.o 2 (.mv (.const (.slice none 0 0)))]) (.seq (.region [.m 4 0, .o 5 (.n 4), .m 3 5]) (.seq (.block 0 [0, 3] (.loop [0, 3] c86L0)) (.seq (.region [.m 18 0, .m 19 3, .o 20 (.sl 1 (.tmp 18) none (some (.tmp 19))), .o 21 (.q 68 [20]), .m 2 21]) .ret))))
def F86 : AFun := ⟨c86, 1, 22, [(.tmp 2)]⟩
def K86 : Nat → List Nat × List Nat
 | 0 => ([0, 3], [0, 3])
 | 1 => ([], [0, 3])
 | _ => ([], [])
theorem F86_ok : kj8 Try.prog K86 Try.f86 = some F86 := by kernel_rfl
/- 101: (*syndrome/field.Field).turn -/
def c101L0 : ACode := (.seq (.region [.o 57 (.b .lss 56 55)]) (.seq (.cond (.tmp 57) .skip (.exit 0)) (.seq (.block 1 [0, 5, 6, 55, 56] (.seq (.region [.m 58 56, .m 7 58]) (.region [.m 59 5, .m 60 7, .m 61 5, .m 62 7, .o 63 (.i 1 61 62), .o 64 (.l 63), .m 65 6, .m 66 0, .o 67 (.nilck (.tmp 66)), .o 68 (.f 1 67), .o 69 (.l 68), .m 70 0, .o 71 (.nilck (.tmp 70)), .o 72 (.f 3 71), .o 73 (.l 72), .m 74 7, .o 75 (.i 1 73 74), .o 76 (.l 75), .o 77 (.b .sub 69 76), .o 78 (.b .mul 65 77), .o 79 (.b .add 64 78), .m 80 0, .o 81 (.nilck (.tmp 80)), .o 82 (.f 1 81), .o 83 (.l 82), .o 84 (.b .rem 79 83), .o 85 (.i 1 59 60), .n (.st 1 (.tmp 85) (.tmp 84))]))) (.region [.o 86 (.c .add 56 1), .m 56 86]))))
def c101 : ACode := (.seq (.region [.k 4 0]) (.seq (.seq (.region [.m 8 0, .o 9 (.nilck (.tmp 8)), .o 10 (.f 2 9), .o 11 (.l 10), .o 12 (.c .eql 11 1)]) (.cond (.tmp 12) (.seq (.region [.m 13 1, .m 14 0, .o 15 (.nilck (.tmp 14)), .o 16 (.f 4 15), .o 17 (.l 16), .o 18 (.b .mul 13 17), .m 19 0, .o 20 (.nilck (.tmp 19)), .o 21 (.f 1 20), .o 22 (.l 21), .o 23 (.b .rem 18 22), .m 4 23]) .ret) .skip)) (.seq (.region [.m 24 1, .m 25 0, .o 26 (.nilck (.tmp 25)), .o 27 (.f 1 26), .o 28 (.l 27), .m 29 0, .o 30 (.nilck (.tmp 29)), .o 31 (.f 2 30), .o 32 (.l 31), .o 33 (.q 57 [24, 28, 32]), .m 5 33]) (.seq (.region [.m 34 5, .m 35 0, .o 36 (.nilck (.tmp 35)), .o 37 (.f 2 36), .o 38 (.l 37), .o 39 (.c .sub 38 1), .o 40 (.i 1 34 39), .o 41 (.l 40), .m 6 41]) (.seq (.region [.m 42 5, .o 43 (.sl 1 (.tmp 42) (some (.const (.int .i64 1))) none), .m 44 5, .m 45 0, .o 46 (.nilck (.tmp 45)), .o 47 (.f 2 46), .o 48 (.l 47), .o 49 (.c .sub 48 1), .o 50 (.sl 1 (.tmp 44) none (some (.tmp 49))), .o 51 (.cpy 1 (.tmp 43) (.tmp 50))]) (.seq (.region [.m 52 5, .o 53 (.iaddr 1 (.tmp 52) (.const (.int .i64 0))), .n (.st 1 (.tmp 53) (.const (.int .i64 0)))]) (.seq (.seq (.region [.m 54 5, .o 55 (.n 54), .k 56 0]) (.block 0 [0, 5] (.loop [0, 5, 6, 55, 56] c101L0))) (.seq (.region [.m 87 5, .m 88 0, .o 89 (.nilck (.tmp 88)), .o 90 (.f 1 89), .o 91 (.l 90), .o 92 (.q 106 [87, 91]), .m 4 92]) .ret))))))))
def F101 : AFun := ⟨c101, 2, 93, [(.tmp 4)]⟩
def K101 : Nat → List Nat × List Nat
 | 0 => ([0, 5, 6, 55, 56], [0, 5])
 | 1 => ([], [0, 5, 6, 55, 56])
 | _ => ([], [])
theorem F101_ok : kj8 Try.prog K101 Try.f101 = some F101 := by kernel_rfl
/- 106: syndrome/field.number -/
def c106L0 : ACode := (.seq (.seq (.region [.m 10 6, .o 11 (.c .geq 10 0)]) (.cond (.tmp 11) .skip (.exit 0))) (.seq (.block 1 [0, 1, 5, 6] (.region [.m 14 5, .m 15 1, .o 16 (.b .mul 14 15), .m 17 0, .m 18 6, .o 19 (.i 1 17 18), .o 20 (.l 19), .o 21 (.b .add 16 20), .m 5 21])) (.region [.m 12 6, .o 13 (.c .sub 12 1), .m 6 13])))
def c106 : ACode := (.seq (.region [.k 4 0]) (.seq (.region [.k 5 0]) (.seq (.seq (.region [.m 7 0, .o 8 (.n 7), .o 9 (.c .sub 8 1), .m 6 9]) (.block 0 [5] (.loop [0, 1, 5, 6] c106L0))) (.seq (.region [.m 22 5, .m 4 22]) .ret))))
def F106 : AFun := ⟨c106, 2, 23, [(.tmp 4)]⟩
def K106 : Nat → List Nat × List Nat
 | 0 => ([0, 1, 5, 6], [5])
 | 1 => ([], [0, 1, 5, 6])
 | _ => ([], [])
theorem F106_ok : kj8 Try.prog K106 Try.f106 = some F106 := by kernel_rfl
end Go.Proofs.Ytghfdpdiibiigaa
