/-
  Functions of this seat as the small machine's code, written by a program of my own (gen.py); each is checked to be what the model's function is turned into. No condition.
-/
import Derived.Test.YtjpejkakodbchaaK1
import Derived.Test.YtjpejkakodbchaaProg
set_option linter.unusedVariables false
set_option linter.unusedSimpArgs false
set_option linter.unusedSectionVars false
set_option maxRecDepth 100000
namespace Go.Proofs.Ytjpejkakodbchaa
open Go.Am
/- 125: syndrome/code.Syndrome -/
def c125L0 : ACode := (.seq (.region [.o 45 (.b .lss 44 43)]) (.seq (.cond (.tmp 45) .skip (.exit 2)) (.seq (.block 3 [1, 8, 10, 13, 36, 37, 38, 42, 43, 44] (.seq (.region [.m 46 44, .o 47 (.i 1 42 44), .o 48 (.l 47), .m 14 46, .m 15 48]) (.region [.m 49 8, .m 50 13, .m 51 8, .m 52 15, .m 53 1, .m 54 14, .o 55 (.i 1 53 54), .o 56 (.l 55), .o 57 (.q 79 [51, 52, 56]), .o 58 (.q 78 [49, 50, 57]), .m 13 58]))) (.region [.o 59 (.c .add 44 1), .m 44 59]))))
def c125L1 : ACode := (.seq (.region [.o 39 (.b .lss 38 37)]) (.seq (.cond (.tmp 39) .skip (.exit 0)) (.seq (.block 1 [1, 8, 10, 36, 37, 38] (.seq (.region [.o 40 (.i 1 36 38), .o 41 (.l 40), .m 12 41]) (.seq (.region [.k 13 0]) (.seq (.seq (.region [.m 42 12, .o 43 (.n 42), .k 44 0]) (.block 2 [1, 8, 10, 13, 36, 37, 38] (.loop [1, 8, 10, 13, 36, 37, 38, 42, 43, 44] c125L0))) (.region [.m 60 10, .m 61 13, .o 62 (.mkSl 3 1 1 [(.tmp 61)]), .o 63 (.app 3 1 8 (.tmp 60) (.tmp 62)), .m 10 63]))))) (.region [.o 64 (.c .add 38 1), .m 38 64]))))
def c125 : ACode := (.seq (.region [.o 2 (.box 43 3 (.tmp 0)), .o 4 (.mv (.const (.slice none 0 0))), .k 5 0]) (.seq (.region [.o 17 (.ld true 3 (.tmp 2)), .o 18 (.q 68 [17]), .m 16 18, .o 19 (.e 0 16), .o 20 (.e 1 16), .o 6 (.alloc 43 [(.int .i64 0), (.int .i64 0), (.slice none 0 0)]), .n (.st 3 (.tmp 6) (.tmp 19)), .m 7 20]) (.seq (.seq (.region [.m 21 7, .o 22 (.c .eql 21 0)]) (.cond (.tmp 22) (.region [.o 23 (.ld true 3 (.tmp 2)), .m 24 1, .o 25 (.q 109 [23, 24]), .m 7 25]) .skip)) (.seq (.seq (.region [.m 26 7, .o 27 (.c .neq 26 0)]) (.cond (.tmp 27) (.seq (.region [.m 28 7, .o 4 (.mv (.const (.slice none 0 0))), .m 5 28]) .ret) .skip)) (.seq (.region [.o 30 (.f 0 2), .o 31 (.l 30), .o 32 (.q 77 [31]), .m 29 32, .o 33 (.e 0 29), .o 34 (.e 1 29), .m 8 33, .m 9 34]) (.seq (.region [.o 10 (.mv (.const (.slice none 0 0)))]) (.seq (.seq (.region [.o 35 (.f 2 6), .o 36 (.l 35), .o 37 (.n 36), .k 38 0]) (.block 0 [10] (.loop [1, 8, 10, 36, 37, 38] c125L1))) (.seq (.region [.m 65 10, .m 4 65, .k 5 0]) .ret))))))))
def F125 : AFun := ⟨c125, 2, 66, [(.tmp 4), (.tmp 5)]⟩
def K125 : Nat → List Nat × List Nat
  | 0 => ([1, 8, 10, 36, 37, 38], [10])
  | 1 => ([], [1, 8, 10, 36, 37, 38])
  | 2 => ([1, 8, 10, 13, 36, 37, 38, 42, 43, 44], [1, 8, 10, 13, 36, 37, 38])
  | 3 => ([], [1, 8, 10, 13, 36, 37, 38, 42, 43, 44])
  | _ => ([], [])
theorem F125_ok : kj8 Try.prog K125 Try.f125 = some F125 := by kernel_rfl
/- 126: syndrome/code.Has$1 -/
def c126 : ACode := (.seq (.region [.o 2 (.mv (.const (.bool false)))]) (.seq (.region [.m 3 0, .o 4 (.c .neq 3 0), .m 2 4]) .ret))
def F126 : AFun := ⟨c126, 1, 5, [(.tmp 2)]⟩
def K126 : Nat → List Nat × List Nat
  | _ => ([], [])
theorem F126_ok : kj8 Try.prog K126 Try.f126 = some F126 := by kernel_rfl
/- 127: syndrome/syndromeref.Number -/
def c127L0 : ACode := (.seq (.seq (.region [.m 10 6, .o 11 (.c .geq 10 0)]) (.cond (.tmp 11) .skip (.exit 0))) (.seq (.block 1 [0, 1, 5, 6] (.region [.m 14 5, .m 15 1, .o 16 (.b .mul 14 15), .m 17 0, .m 18 6, .o 19 (.i 1 17 18), .o 20 (.l 19), .o 21 (.b .add 16 20), .m 5 21])) (.region [.m 12 6, .o 13 (.c .sub 12 1), .m 6 13])))
def c127 : ACode := (.seq (.region [.k 4 0]) (.seq (.region [.k 5 0]) (.seq (.seq (.region [.m 7 0, .o 8 (.n 7), .o 9 (.c .sub 8 1), .m 6 9]) (.block 0 [5] (.loop [0, 1, 5, 6] c127L0))) (.seq (.region [.m 22 5, .m 4 22]) .ret))))
def F127 : AFun := ⟨c127, 2, 23, [(.tmp 4)]⟩
def K127 : Nat → List Nat × List Nat
  | 0 => ([0, 1, 5, 6], [5])
  | 1 => ([], [0, 1, 5, 6])
  | _ => ([], [])
theorem F127_ok : kj8 Try.prog K127 Try.f127 = some F127 := by kernel_rfl
/- 129: syndrome/field.New$1 -/
def c129 : ACode := (.region [.o 2 (.l 0), .o 3 (.l 0), ⟨(some 4), (.call 130 [(.tmp 3)]), none, true⟩, .o 5 (.f 195 1), .o 6 (.iaddrA 65 1 (.tmp 5) (.tmp 2)), .n (.st 1 (.tmp 6) (.tmp 4))])
def F129 : AFun := ⟨c129, 2, 7, []⟩
def K129 : Nat → List Nat × List Nat
  | _ => ([], [])
theorem F129_ok : kj8 Try.prog K129 Try.f129 = some F129 := by kernel_rfl
/- 130: syndrome/field.build -/
def c130L0 : ACode := (.seq (.seq (.region [.m 28 5, .o 29 (.q 155 [28]), .o 30 (.un .not (.tmp 29))]) (.cond (.tmp 30) .skip (.exit 0))) (.seq (.block 1 [5] .skip) (.region [.m 31 5, .o 32 (.nilck (.tmp 31)), .o 33 (.f 4 32), .o 34 (.l 33), .o 35 (.c .add 34 1), .o 36 (.nilck (.tmp 31)), .o 37 (.f 4 36), .n (.st 1 (.tmp 37) (.tmp 35))])))
def c130L1 : ACode := (.seq (.region [.o 45 (.b .lss 44 43)]) (.seq (.cond (.tmp 45) .skip (.exit 2)) (.seq (.block 3 [3, 4, 5, 43, 44] (.seq (.region [.m 46 44, .m 6 46]) (.seq (.region [.m 47 5, .m 48 6, .m 49 3, .m 50 4, .o 51 (.q 156 [48, 49, 50]), .o 52 (.mkSl 3 1 1 [(.const (.int .i64 1))]), .o 53 (.app 3 1 8 (.tmp 51) (.tmp 52)), .o 54 (.nilck (.tmp 47)), .o 55 (.f 3 54), .n (.st 1 (.tmp 55) (.tmp 53))]) (.seq (.region [.m 56 5, .o 57 (.q 155 [56])]) (.cond (.tmp 57) (.seq (.region [.m 58 5, .m 2 58]) .ret) .skip))))) (.region [.o 59 (.c .add 44 1), .m 44 59]))))
def c130 : ACode := (.seq (.region [.o 2 (.mv (.const (.pointer none)))]) (.seq (.region [.m 8 0, .o 9 (.q 154 [8]), .m 7 9, .o 10 (.e 0 7), .o 11 (.e 1 7), .m 3 10, .m 4 11]) (.seq (.seq (.region [.m 12 3, .o 13 (.c .eql 12 0)]) (.cond (.tmp 13) (.seq (.region [.o 2 (.mv (.const (.pointer none)))]) .ret) .skip)) (.seq (.region [.m 14 0, .m 15 3, .m 16 4, .o 17 (.build [(.int .i64 0), (.int .i64 0), (.int .i64 0), (.slice none 0 0), (.int .i64 0), (.slice none 0 0), (.slice none 0 0)] [(0, 1), (1, 1), (2, 1), (3, 1), (4, 1), (5, 1), (6, 1)] [(0, (.tmp 14)), (1, (.tmp 15)), (2, (.tmp 16))]), .o 18 (.box 156 7 (.tmp 17)), .m 5 18]) (.seq (.seq (.region [.m 19 4, .o 20 (.c .eql 19 1)]) (.cond (.tmp 20) (.seq (.region [.m 21 5, .o 22 (.mkSl 3 1 2 [(.const (.int .i64 0)), (.const (.int .i64 1))]), .o 23 (.nilck (.tmp 21)), .o 24 (.f 3 23), .n (.st 1 (.tmp 24) (.tmp 22))]) (.seq (.seq (.region [.m 25 5, .o 26 (.nilck (.tmp 25)), .o 27 (.f 4 26), .n (.st 1 (.tmp 27) (.const (.int .i64 1)))]) (.block 0 [5] (.loop [5] c130L0))) (.seq (.region [.m 38 5, .m 2 38]) .ret))) .skip)) (.seq (.region [.m 39 5, .m 40 3, .o 41 (.nilck (.tmp 39)), .o 42 (.f 4 41), .n (.st 1 (.tmp 42) (.tmp 40))]) (.seq (.seq (.region [.m 43 0, .k 44 0]) (.block 2 [] (.loop [3, 4, 5, 43, 44] c130L1))) (.seq (.region [.o 2 (.mv (.const (.pointer none)))]) .ret))))))))
def F130 : AFun := ⟨c130, 1, 60, [(.tmp 2)]⟩
def K130 : Nat → List Nat × List Nat
  | 0 => ([5], [5])
  | 1 => ([], [5])
  | 2 => ([3, 4, 5, 43, 44], [])
  | 3 => ([], [3, 4, 5, 43, 44])
  | _ => ([], [])
theorem F130_ok : kj8 Try.prog K130 Try.f130 = some F130 := by kernel_rfl
/- 131: slices.IndexFunc[[]int,int] -/
def c131L0 : ACode := (.seq (.region [.o 9 (.b .lss 8 7)]) (.seq (.cond (.tmp 9) .skip (.exit 0)) (.seq (.block 1 [0, 1, 7, 8] (.seq (.region [.m 10 8, .m 5 10]) (.seq (.region [.m 11 1, .m 12 0, .m 13 5, .o 14 (.i 1 12 13), .o 15 (.l 14), .o 16 (.calld (.tmp 11) [(.tmp 15)])]) (.cond (.tmp 16) (.seq (.region [.m 17 5, .m 4 17]) .ret) .skip)))) (.region [.o 18 (.c .add 8 1), .m 8 18]))))
def c131 : ACode := (.seq (.region [.k 4 0]) (.seq (.seq (.region [.m 6 0, .o 7 (.n 6), .k 8 0]) (.block 0 [] (.loop [0, 1, 7, 8] c131L0))) (.seq (.region [.k 4 (-1)]) .ret)))
def F131 : AFun := ⟨c131, 2, 19, [(.tmp 4)]⟩
def K131 : Nat → List Nat × List Nat
  | 0 => ([0, 1, 7, 8], [])
  | 1 => ([], [0, 1, 7, 8])
  | _ => ([], [])
theorem F131_ok : kj8 Try.prog K131 Try.f131 = some F131 := by kernel_rfl
/- 145: syndrome/code.word$1 -/
def c145 : ACode := (.seq (.region [.o 3 (.mv (.const (.bool false)))]) (.seq (.region [.o 4 (.l 1), .m 5 0, .o 6 (.q 82 [4, 5]), .o 7 (.un .not (.tmp 6)), .m 3 7]) .ret))
def F145 : AFun := ⟨c145, 2, 8, [(.tmp 3)]⟩
def K145 : Nat → List Nat × List Nat
  | _ => ([], [])
theorem F145_ok : kj8 Try.prog K145 Try.f145 = some F145 := by kernel_rfl
/- 149: slices.Index[[]int,int] -/
def c149L0 : ACode := (.seq (.region [.o 9 (.b .lss 8 7)]) (.seq (.cond (.tmp 9) .skip (.exit 0)) (.seq (.block 1 [0, 1, 7, 8] (.seq (.region [.m 10 8, .m 5 10]) (.seq (.region [.m 11 1, .m 12 0, .m 13 5, .o 14 (.i 1 12 13), .o 15 (.l 14), .o 16 (.b .eql 11 15)]) (.cond (.tmp 16) (.seq (.region [.m 17 5, .m 4 17]) .ret) .skip)))) (.region [.o 18 (.c .add 8 1), .m 8 18]))))
def c149 : ACode := (.seq (.region [.k 4 0]) (.seq (.seq (.region [.m 6 0, .o 7 (.n 6), .k 8 0]) (.block 0 [] (.loop [0, 1, 7, 8] c149L0))) (.seq (.region [.k 4 (-1)]) .ret)))
def F149 : AFun := ⟨c149, 2, 19, [(.tmp 4)]⟩
def K149 : Nat → List Nat × List Nat
  | 0 => ([0, 1, 7, 8], [])
  | 1 => ([], [0, 1, 7, 8])
  | _ => ([], [])
theorem F149_ok : kj8 Try.prog K149 Try.f149 = some F149 := by kernel_rfl
/- 150: slices.Clone[[]int,int] -/
def c150 : ACode := (.seq (.region [.o 2 (.mv (.const (.slice none 0 0)))]) (.seq (.seq (.region [.m 3 0, .o 4 (.eqn false 0 (.tmp 3))]) (.cond (.tmp 4) (.seq (.region [.o 2 (.mv (.const (.slice none 0 0)))]) .ret) .skip)) (.seq (.region [.o 5 (.mkSl 3 1 0 []), .m 6 0, .o 7 (.app 3 1 8 (.tmp 5) (.tmp 6)), .m 2 7]) .ret)))
def F150 : AFun := ⟨c150, 1, 8, [(.tmp 2)]⟩
def K150 : Nat → List Nat × List Nat
  | _ => ([], [])
theorem F150_ok : kj8 Try.prog K150 Try.f150 = some F150 := by kernel_rfl
/- 151: (*syndrome/field.Field).Sub -/
def c151 : ACode := (.seq (.region [.k 6 0]) (.seq (.region [.m 7 0, .m 8 1, .m 9 0, .m 10 2, .o 11 (.q 115 [9, 10]), .o 12 (.q 78 [7, 8, 11]), .m 6 12]) .ret))
def F151 : AFun := ⟨c151, 3, 13, [(.tmp 6)]⟩
def K151 : Nat → List Nat × List Nat
  | _ => ([], [])
theorem F151_ok : kj8 Try.prog K151 Try.f151 = some F151 := by kernel_rfl
/- 154: syndrome/field.prime -/
def c154L0 : ACode := (.seq (.seq (.region [.m 4 0, .m 5 2, .o 6 (.b .rem 4 5), .o 7 (.c .neq 6 0)]) (.cond (.tmp 7) .skip (.exit 0))) (.block 1 [0, 2, 3] (.region [.m 8 2, .o 9 (.c .add 8 1), .m 2 9])))
def c154L1 : ACode := (.seq (.seq (.region [.m 10 0, .m 11 2, .o 12 (.b .rem 10 11), .o 13 (.c .eql 12 0)]) (.cond (.tmp 13) .skip (.exit 2))) (.seq (.block 3 [0, 2, 3] (.region [.m 17 3, .o 18 (.c .add 17 1), .m 3 18])) (.region [.m 14 0, .m 15 2, .o 16 (.b .quo 14 15), .m 0 16])))
def c154 : ACode := (.seq (.region [.k 2 0, .k 3 0]) (.seq (.region [.k 2 2]) (.seq (.block 0 [0, 2, 3] (.loop [0, 2, 3] c154L0)) (.seq (.block 2 [0, 2, 3] (.loop [0, 2, 3] c154L1)) (.seq (.seq (.region [.m 19 0, .o 20 (.c .neq 19 1)]) (.cond (.tmp 20) (.seq (.region [.k 2 0, .k 3 0]) .ret) .skip)) (.seq (.region [.m 21 2, .m 22 3, .m 2 21, .m 3 22]) .ret))))))
def F154 : AFun := ⟨c154, 1, 23, [(.tmp 2), (.tmp 3)]⟩
def K154 : Nat → List Nat × List Nat
  | 0 => ([0, 2, 3], [0, 2, 3])
  | 1 => ([], [0, 2, 3])
  | 2 => ([0, 2, 3], [0, 2, 3])
  | 3 => ([], [0, 2, 3])
  | _ => ([], [])
theorem F154_ok : kj8 Try.prog K154 Try.f154 = some F154 := by kernel_rfl
/- 155: (*syndrome/field.Field).fill -/
def c155L0 : ACode := (.seq (.region [.o 29 (.b .lss 28 27)]) (.seq (.cond (.tmp 29) .skip (.exit 0)) (.seq (.block 1 [0, 27, 28] (.seq (.region [.m 30 28, .m 3 30]) (.region [.m 31 0, .o 32 (.nilck (.tmp 31)), .o 33 (.f 6 32), .o 34 (.l 33), .m 35 3, .o 36 (.i 1 34 35), .n (.st 1 (.tmp 36) (.const (.int .i64 (-1))))]))) (.region [.o 37 (.c .add 28 1), .m 28 37]))))
def c155L1 : ACode := (.seq (.region [.o 44 (.b .lss 43 42)]) (.seq (.cond (.tmp 44) .skip (.exit 2)) (.seq (.block 3 [0, 4, 42, 43] (.seq (.region [.m 45 43, .m 5 45]) (.seq (.seq (.region [.m 46 4, .o 47 (.c .eql 46 0), .m 48 47, .g 49 (.m 0) 48 false, .g 50 (.nilck (.tmp 49)) 48 false, .g 51 (.f 6 50) 48 false, .g 52 (.l 51) 48 false, .g 53 (.m 4) 48 false, .g 54 (.i 1 52 53) 48 false, .g 55 (.l 54) 48 false, .g 56 (.c .geq 55 0) 48 false, .o 57 (.pick (.tmp 48) (.const (.bool true)) (.tmp 56))]) (.cond (.tmp 57) (.seq (.region [.o 2 (.mv (.const (.bool false)))]) .ret) .skip)) (.seq (.region [.m 58 0, .o 59 (.nilck (.tmp 58)), .o 60 (.f 5 59), .o 61 (.l 60), .m 62 5, .m 63 0, .o 64 (.nilck (.tmp 63)), .o 65 (.f 6 64), .o 66 (.l 65), .m 67 4, .m 68 4, .m 69 5, .o 70 (.i 1 61 62), .n (.st 1 (.tmp 70) (.tmp 68)), .o 71 (.i 1 66 67), .n (.st 1 (.tmp 71) (.tmp 69))]) (.region [.m 72 0, .m 73 4, .o 74 (.q 169 [72, 73]), .m 4 74]))))) (.region [.o 75 (.c .add 43 1), .m 43 75]))))
def c155 : ACode := (.seq (.region [.o 2 (.mv (.const (.bool false)))]) (.seq (.region [.m 6 0, .m 7 0, .o 8 (.nilck (.tmp 7)), .o 9 (.f 0 8), .o 10 (.l 9), .o 11 (.c .sub 10 1), .o 12 (.mks 3 1 8 [(.int .i64 0)] (.tmp 11) (.tmp 11)), .o 13 (.nilck (.tmp 6)), .o 14 (.f 5 13), .n (.st 1 (.tmp 14) (.tmp 12))]) (.seq (.region [.m 15 0, .m 16 0, .o 17 (.nilck (.tmp 16)), .o 18 (.f 0 17), .o 19 (.l 18), .o 20 (.mks 3 1 8 [(.int .i64 0)] (.tmp 19) (.tmp 19)), .o 21 (.nilck (.tmp 15)), .o 22 (.f 6 21), .n (.st 1 (.tmp 22) (.tmp 20))]) (.seq (.seq (.region [.m 23 0, .o 24 (.nilck (.tmp 23)), .o 25 (.f 6 24), .o 26 (.l 25), .o 27 (.n 26), .k 28 0]) (.block 0 [0] (.loop [0, 27, 28] c155L0))) (.seq (.region [.k 4 1]) (.seq (.seq (.region [.m 38 0, .o 39 (.nilck (.tmp 38)), .o 40 (.f 0 39), .o 41 (.l 40), .o 42 (.c .sub 41 1), .k 43 0]) (.block 2 [4] (.loop [0, 4, 42, 43] c155L1))) (.seq (.region [.m 76 4, .o 77 (.c .eql 76 1), .m 2 77]) .ret)))))))
def F155 : AFun := ⟨c155, 1, 78, [(.tmp 2)]⟩
def K155 : Nat → List Nat × List Nat
  | 0 => ([0, 27, 28], [0])
  | 1 => ([], [0, 27, 28])
  | 2 => ([0, 4, 42, 43], [4])
  | 3 => ([], [0, 4, 42, 43])
  | _ => ([], [])
theorem F155_ok : kj8 Try.prog K155 Try.f155 = some F155 := by kernel_rfl
/- 156: syndrome/field.digits -/
def c156L0 : ACode := (.seq (.region [.o 14 (.b .lss 13 12)]) (.seq (.cond (.tmp 14) .skip (.exit 0)) (.seq (.block 1 [0, 1, 7, 12, 13] (.seq (.region [.m 15 13, .m 8 15]) (.seq (.region [.m 16 7, .m 17 8, .m 18 0, .m 19 1, .o 20 (.b .rem 18 19), .o 21 (.i 1 16 17), .n (.st 1 (.tmp 21) (.tmp 20))]) (.region [.m 22 0, .m 23 1, .o 24 (.b .quo 22 23), .m 0 24])))) (.region [.o 25 (.c .add 13 1), .m 13 25]))))
def c156 : ACode := (.seq (.region [.o 6 (.mv (.const (.slice none 0 0)))]) (.seq (.region [.m 9 2, .o 10 (.mks 3 1 8 [(.int .i64 0)] (.tmp 9) (.tmp 9)), .m 7 10]) (.seq (.seq (.region [.m 11 7, .o 12 (.n 11), .k 13 0]) (.block 0 [7] (.loop [0, 1, 7, 12, 13] c156L0))) (.seq (.region [.m 26 7, .m 6 26]) .ret))))
def F156 : AFun := ⟨c156, 3, 27, [(.tmp 6)]⟩
def K156 : Nat → List Nat × List Nat
  | 0 => ([0, 1, 7, 12, 13], [7])
  | 1 => ([], [0, 1, 7, 12, 13])
  | _ => ([], [])
theorem F156_ok : kj8 Try.prog K156 Try.f156 = some F156 := by kernel_rfl
/- 169: (*syndrome/field.Field).turn -/
def c169L0 : ACode := (.seq (.region [.o 57 (.b .lss 56 55)]) (.seq (.cond (.tmp 57) .skip (.exit 0)) (.seq (.block 1 [0, 5, 6, 55, 56] (.seq (.region [.m 58 56, .m 7 58]) (.region [.m 59 5, .m 60 7, .m 61 5, .m 62 7, .o 63 (.i 1 61 62), .o 64 (.l 63), .m 65 6, .m 66 0, .o 67 (.nilck (.tmp 66)), .o 68 (.f 1 67), .o 69 (.l 68), .m 70 0, .o 71 (.nilck (.tmp 70)), .o 72 (.f 3 71), .o 73 (.l 72), .m 74 7, .o 75 (.i 1 73 74), .o 76 (.l 75), .o 77 (.b .sub 69 76), .o 78 (.b .mul 65 77), .o 79 (.b .add 64 78), .m 80 0, .o 81 (.nilck (.tmp 80)), .o 82 (.f 1 81), .o 83 (.l 82), .o 84 (.b .rem 79 83), .o 85 (.i 1 59 60), .n (.st 1 (.tmp 85) (.tmp 84))]))) (.region [.o 86 (.c .add 56 1), .m 56 86]))))
def c169 : ACode := (.seq (.region [.k 4 0]) (.seq (.seq (.region [.m 8 0, .o 9 (.nilck (.tmp 8)), .o 10 (.f 2 9), .o 11 (.l 10), .o 12 (.c .eql 11 1)]) (.cond (.tmp 12) (.seq (.region [.m 13 1, .m 14 0, .o 15 (.nilck (.tmp 14)), .o 16 (.f 4 15), .o 17 (.l 16), .o 18 (.b .mul 13 17), .m 19 0, .o 20 (.nilck (.tmp 19)), .o 21 (.f 1 20), .o 22 (.l 21), .o 23 (.b .rem 18 22), .m 4 23]) .ret) .skip)) (.seq (.region [.m 24 1, .m 25 0, .o 26 (.nilck (.tmp 25)), .o 27 (.f 1 26), .o 28 (.l 27), .m 29 0, .o 30 (.nilck (.tmp 29)), .o 31 (.f 2 30), .o 32 (.l 31), .o 33 (.q 156 [24, 28, 32]), .m 5 33]) (.seq (.region [.m 34 5, .m 35 0, .o 36 (.nilck (.tmp 35)), .o 37 (.f 2 36), .o 38 (.l 37), .o 39 (.c .sub 38 1), .o 40 (.i 1 34 39), .o 41 (.l 40), .m 6 41]) (.seq (.region [.m 42 5, .o 43 (.sl 1 (.tmp 42) (some (.const (.int .i64 1))) none), .m 44 5, .m 45 0, .o 46 (.nilck (.tmp 45)), .o 47 (.f 2 46), .o 48 (.l 47), .o 49 (.c .sub 48 1), .o 50 (.sl 1 (.tmp 44) none (some (.tmp 49))), .o 51 (.cpy 1 (.tmp 43) (.tmp 50))]) (.seq (.region [.m 52 5, .o 53 (.iaddr 1 (.tmp 52) (.const (.int .i64 0))), .n (.st 1 (.tmp 53) (.const (.int .i64 0)))]) (.seq (.seq (.region [.m 54 5, .o 55 (.n 54), .k 56 0]) (.block 0 [0, 5] (.loop [0, 5, 6, 55, 56] c169L0))) (.seq (.region [.m 87 5, .m 88 0, .o 89 (.nilck (.tmp 88)), .o 90 (.f 1 89), .o 91 (.l 90), .o 92 (.q 177 [87, 91]), .m 4 92]) .ret))))))))
def F169 : AFun := ⟨c169, 2, 93, [(.tmp 4)]⟩
def K169 : Nat → List Nat × List Nat
  | 0 => ([0, 5, 6, 55, 56], [0, 5])
  | 1 => ([], [0, 5, 6, 55, 56])
  | _ => ([], [])
theorem F169_ok : kj8 Try.prog K169 Try.f169 = some F169 := by kernel_rfl
/- 177: syndrome/field.number -/
def c177L0 : ACode := (.seq (.seq (.region [.m 10 6, .o 11 (.c .geq 10 0)]) (.cond (.tmp 11) .skip (.exit 0))) (.seq (.block 1 [0, 1, 5, 6] (.region [.m 14 5, .m 15 1, .o 16 (.b .mul 14 15), .m 17 0, .m 18 6, .o 19 (.i 1 17 18), .o 20 (.l 19), .o 21 (.b .add 16 20), .m 5 21])) (.region [.m 12 6, .o 13 (.c .sub 12 1), .m 6 13])))
def c177 : ACode := (.seq (.region [.k 4 0]) (.seq (.region [.k 5 0]) (.seq (.seq (.region [.m 7 0, .o 8 (.n 7), .o 9 (.c .sub 8 1), .m 6 9]) (.block 0 [5] (.loop [0, 1, 5, 6] c177L0))) (.seq (.region [.m 22 5, .m 4 22]) .ret))))
def F177 : AFun := ⟨c177, 2, 23, [(.tmp 4)]⟩
def K177 : Nat → List Nat × List Nat
  | 0 => ([0, 1, 5, 6], [5])
  | 1 => ([], [0, 1, 5, 6])
  | _ => ([], [])
theorem F177_ok : kj8 Try.prog K177 Try.f177 = some F177 := by kernel_rfl
end Go.Proofs.Ytjpejkakodbchaa
