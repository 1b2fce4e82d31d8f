/-
  Functions of this seat as the small machine's code, written by a program of my own (gen.py); each is checked to be what the model's function is turned into. No condition.
-/
import Derived.Test.YtjpejkakodbchaaK1
import Derived.Test.YtjpejkakodbchaaProg
set_option linter.unusedVariables false
set_option linter.unusedSimpArgs false
set_option linter.unusedSectionVars false
set_option maxRecDepth 100000
namespace Go.Proofs.Ytjpejkakodbchaa
open Go.Am
/- 120: (*syndrome/field.Field).Inv -/
def c120 : ACode := (.seq (.region [.k 4 0]) (.seq (.seq (.region [.m 5 0, .m 6 1, .o 7 (.q 82 [5, 6]), .o 8 (.un .not (.tmp 7)), .m 9 8, .g 10 (.m 1) 9 false, .g 11 (.c .eql 10 0) 9 false, .o 12 (.pick (.tmp 9) (.const (.bool true)) (.tmp 11))]) (.cond (.tmp 12) (.seq (.region [.k 4 (-1)]) .ret) .skip)) (.seq (.region [.m 13 0, .o 14 (.nilck (.tmp 13)), .o 15 (.f 5 14), .o 16 (.l 15), .m 17 0, .o 18 (.nilck (.tmp 17)), .o 19 (.f 0 18), .o 20 (.l 19), .o 21 (.c .sub 20 1), .m 22 0, .o 23 (.nilck (.tmp 22)), .o 24 (.f 6 23), .o 25 (.l 24), .m 26 1, .o 27 (.i 1 25 26), .o 28 (.l 27), .o 29 (.b .sub 21 28), .m 30 0, .o 31 (.nilck (.tmp 30)), .o 32 (.f 0 31), .o 33 (.l 32), .o 34 (.c .sub 33 1), .o 35 (.b .rem 29 34), .o 36 (.i 1 16 35), .o 37 (.l 36), .m 4 37]) .ret)))
def F120 : AFun := ⟨c120, 2, 38, [(.tmp 4)]⟩
def K120 : Nat → List Nat × List Nat
  | _ => ([], [])
theorem F120_ok : kj8 Try.prog K120 Try.f120 = some F120 := by kernel_rfl
/- 121: syndrome/matrix.less -/
def c121L0 : ACode := (.seq (.region [.o 12 (.b .lss 11 10)]) (.seq (.cond (.tmp 12) .skip (.exit 0)) (.seq (.block 1 [0, 1, 2, 3, 10, 11] (.seq (.region [.m 13 11, .m 8 13]) (.region [.m 14 1, .m 15 8, .m 16 0, .m 17 1, .m 18 8, .o 19 (.i 1 17 18), .o 20 (.l 19), .m 21 0, .m 22 3, .m 23 2, .m 24 8, .o 25 (.i 1 23 24), .o 26 (.l 25), ⟨(some 27), (.call 79 [(.tmp 21), (.tmp 22), (.tmp 26)]), none, true⟩, .o 28 (.q 151 [16, 20, 27]), .o 29 (.i 1 14 15), .n (.st 1 (.tmp 29) (.tmp 28))]))) (.region [.o 30 (.c .add 11 1), .m 11 30]))))
def c121 : ACode := (.seq (.region [.m 9 1, .o 10 (.n 9), .k 11 0]) (.block 0 [] (.loop [0, 1, 2, 3, 10, 11] c121L0)))
def F121 : AFun := ⟨c121, 4, 31, []⟩
def K121 : Nat → List Nat × List Nat
  | 0 => ([0, 1, 2, 3, 10, 11], [])
  | 1 => ([], [0, 1, 2, 3, 10, 11])
  | _ => ([], [])
theorem F121_ok : kj8 Try.prog K121 Try.f121 = some F121 := by kernel_rfl
/- 122: syndrome/code.Check -/
def c122 : ACode := (.seq (.region [.o 1 (.box 43 3 (.tmp 0)), .k 2 0]) (.seq (.seq (.region [.o 7 (.f 0 1), .o 8 (.l 7), .o 9 (.q 77 [8]), .m 6 9, .o 10 (.e 0 6), .o 11 (.e 1 6), .m 3 10, .m 4 11]) (.seq (.region [.m 12 4, .o 13 (.c .neq 12 0)]) (.cond (.tmp 13) (.seq (.region [.m 14 4, .m 2 14]) .ret) .skip))) (.seq (.seq (.region [.o 15 (.f 1 1), .o 16 (.l 15), .o 17 (.c .lss 16 1), .m 18 17, .g 19 (.f 1 1) 18 false, .g 20 (.l 19) 18 false, .g 21 (.c .gtr 20 64) 18 false, .o 22 (.pick (.tmp 18) (.const (.bool true)) (.tmp 21))]) (.cond (.tmp 22) (.seq (.region [.k 2 4]) .ret) .skip)) (.seq (.seq (.region [.o 23 (.f 0 1), .o 24 (.l 23), .o 25 (.f 2 1), .o 26 (.l 25), .o 27 (.q 19 [24, 26]), .m 5 27]) (.seq (.region [.m 28 5, .o 29 (.c .neq 28 0)]) (.cond (.tmp 29) (.seq (.region [.m 30 5, .m 2 30]) .ret) .skip))) (.seq (.seq (.region [.o 31 (.f 2 1), .o 32 (.l 31), .o 33 (.n 32), .o 34 (.c .gtr 33 0), .m 35 34, .g 36 (.f 2 1) 35 true, .g 37 (.l 36) 35 true, .g 38 (.iaddr 1 (.tmp 37) (.const (.int .i64 0))) 35 true, .g 39 (.l 38) 35 true, .g 40 (.n 39) 35 true, .g 41 (.f 1 1) 35 true, .g 42 (.l 41) 35 true, .g 43 (.b .neq 40 42) 35 true, .o 44 (.pick (.tmp 35) (.tmp 43) (.const (.bool false)))]) (.cond (.tmp 44) (.seq (.region [.k 2 3]) .ret) .skip)) (.seq (.region [.k 2 0]) .ret))))))
def F122 : AFun := ⟨c122, 1, 45, [(.tmp 2)]⟩
def K122 : Nat → List Nat × List Nat
  | _ => ([], [])
theorem F122_ok : kj8 Try.prog K122 Try.f122 = some F122 := by kernel_rfl
/- 127: syndrome/syndromeref.Number -/
def c127L0 : ACode := (.seq (.seq (.region [.m 10 6, .o 11 (.c .geq 10 0)]) (.cond (.tmp 11) .skip (.exit 0))) (.seq (.block 1 [0, 1, 5, 6] (.region [.m 14 5, .m 15 1, .o 16 (.b .mul 14 15), .m 17 0, .m 18 6, .o 19 (.i 1 17 18), .o 20 (.l 19), .o 21 (.b .add 16 20), .m 5 21])) (.region [.m 12 6, .o 13 (.c .sub 12 1), .m 6 13])))
def c127 : ACode := (.seq (.region [.k 4 0]) (.seq (.region [.k 5 0]) (.seq (.seq (.region [.m 7 0, .o 8 (.n 7), .o 9 (.c .sub 8 1), .m 6 9]) (.block 0 [5] (.loop [0, 1, 5, 6] c127L0))) (.seq (.region [.m 22 5, .m 4 22]) .ret))))
def F127 : AFun := ⟨c127, 2, 23, [(.tmp 4)]⟩
def K127 : Nat → List Nat × List Nat
  | 0 => ([0, 1, 5, 6], [5])
  | 1 => ([], [0, 1, 5, 6])
  | _ => ([], [])
theorem F127_ok : kj8 Try.prog K127 Try.f127 = some F127 := by kernel_rfl
/- 129: syndrome/field.New$1 -/
def c129 : ACode := (.region [.o 2 (.l 0), .o 3 (.l 0), ⟨(some 4), (.call 130 [(.tmp 3)]), none, true⟩, .o 5 (.f 195 1), .o 6 (.iaddrA 65 1 (.tmp 5) (.tmp 2)), .n (.st 1 (.tmp 6) (.tmp 4))])
def F129 : AFun := ⟨c129, 2, 7, []⟩
def K129 : Nat → List Nat × List Nat
  | _ => ([], [])
theorem F129_ok : kj8 Try.prog K129 Try.f129 = some F129 := by kernel_rfl
/- 130: syndrome/field.build -/
def c130L0 : ACode := (.seq (.seq (.region [.m 28 5, .o 29 (.q 155 [28]), .o 30 (.un .not (.tmp 29))]) (.cond (.tmp 30) .skip (.exit 0))) (.seq (.block 1 [5] .skip) (.region [.m 31 5, .o 32 (.nilck (.tmp 31)), .o 33 (.f 4 32), .o 34 (.l 33), .o 35 (.c .add 34 1), .o 36 (.nilck (.tmp 31)), .o 37 (.f 4 36), .n (.st 1 (.tmp 37) (.tmp 35))])))
def c130L1 : ACode := (.seq (.region [.o 45 (.b .lss 44 43)]) (.seq (.cond (.tmp 45) .skip (.exit 2)) (.seq (.block 3 [3, 4, 5, 43, 44] (.seq (.region [.m 46 44, .m 6 46]) (.seq (.region [.m 47 5, .m 48 6, .m 49 3, .m 50 4, .o 51 (.q 156 [48, 49, 50]), .o 52 (.mkSl 3 1 1 [(.const (.int .i64 1))]), .o 53 (.app 3 1 8 (.tmp 51) (.tmp 52)), .o 54 (.nilck (.tmp 47)), .o 55 (.f 3 54), .n (.st 1 (.tmp 55) (.tmp 53))]) (.seq (.region [.m 56 5, .o 57 (.q 155 [56])]) (.cond (.tmp 57) (.seq (.region [.m 58 5, .m 2 58]) .ret) .skip))))) (.region [.o 59 (.c .add 44 1), .m 44 59]))))
def c130 : ACode := (.seq (.region [.o 2 (.mv (.const (.pointer none)))]) (.seq (.region [.m 8 0, .o 9 (.q 154 [8]), .m 7 9, .o 10 (.e 0 7), .o 11 (.e 1 7), .m 3 10, .m 4 11]) (.seq (.seq (.region [.m 12 3, .o 13 (.c .eql 12 0)]) (.cond (.tmp 13) (.seq (.region [.o 2 (.mv (.const (.pointer none)))]) .ret) .skip)) (.seq (.region [.m 14 0, .m 15 3, .m 16 4, .o 17 (.build [(.int .i64 0), (.int .i64 0), (.int .i64 0), (.slice none 0 0), (.int .i64 0), (.slice none 0 0), (.slice none 0 0)] [(0, 1), (1, 1), (2, 1), (3, 1), (4, 1), (5, 1), (6, 1)] [(0, (.tmp 14)), (1, (.tmp 15)), (2, (.tmp 16))]), .o 18 (.box 156 7 (.tmp 17)), .m 5 18]) (.seq (.seq (.region [.m 19 4, .o 20 (.c .eql 19 1)]) (.cond (.tmp 20) (.seq (.region [.m 21 5, .o 22 (.mkSl 3 1 2 [(.const (.int .i64 0)), (.const (.int .i64 1))]), .o 23 (.nilck (.tmp 21)), .o 24 (.f 3 23), .n (.st 1 (.tmp 24) (.tmp 22))]) (.seq (.seq (.region [.m 25 5, .o 26 (.nilck (.tmp 25)), .o 27 (.f 4 26), .n (.st 1 (.tmp 27) (.const (.int .i64 1)))]) (.block 0 [5] (.loop [5] c130L0))) (.seq (.region [.m 38 5, .m 2 38]) .ret))) .skip)) (.seq (.region [.m 39 5, .m 40 3, .o 41 (.nilck (.tmp 39)), .o 42 (.f 4 41), .n (.st 1 (.tmp 42) (.tmp 40))]) (.seq (.seq (.region [.m 43 0, .k 44 0]) (.block 2 [] (.loop [3, 4, 5, 43, 44] c130L1))) (.seq (.region [.o 2 (.mv (.const (.pointer none)))]) .ret))))))))
def F130 : AFun := ⟨c130, 1, 60, [(.tmp 2)]⟩
def K130 : Nat → List Nat × List Nat
  | 0 => ([5], [5])
  | 1 => ([], [5])
  | 2 => ([3, 4, 5, 43, 44], [])
  | 3 => ([], [3, 4, 5, 43, 44])
  | _ => ([], [])
theorem F130_ok : kj8 Try.prog K130 Try.f130 = some F130 := by kernel_rfl
/- 131: slices.IndexFunc[[]int,int] -/
def c131L0 : ACode := (.seq (.region [.o 9 (.b .lss 8 7)]) (.seq (.cond (.tmp 9) .skip (.exit 0)) (.seq (.block 1 [0, 1, 7, 8] (.seq (.region [.m 10 8, .m 5 10]) (.seq (.region [.m 11 1, .m 12 0, .m 13 5, .o 14 (.i 1 12 13), .o 15 (.l 14), .o 16 (.calld (.tmp 11) [(.tmp 15)])]) (.cond (.tmp 16) (.seq (.region [.m 17 5, .m 4 17]) .ret) .skip)))) (.region [.o 18 (.c .add 8 1), .m 8 18]))))
def c131 : ACode := (.seq (.region [.k 4 0]) (.seq (.seq (.region [.m 6 0, .o 7 (.n 6), .k 8 0]) (.block 0 [] (.loop [0, 1, 7, 8] c131L0))) (.seq (.region [.k 4 (-1)]) .ret)))
def F131 : AFun := ⟨c131, 2, 19, [(.tmp 4)]⟩
def K131 : Nat → List Nat × List Nat
  | 0 => ([0, 1, 7, 8], [])
  | 1 => ([], [0, 1, 7, 8])
  | _ => ([], [])
theorem F131_ok : kj8 Try.prog K131 Try.f131 = some F131 := by kernel_rfl
/- 132: syndrome/syndromeref.Copy -/
def c132 : ACode := (.seq (.region [.o 2 (.mv (.const (.slice none 0 0)))]) (.seq (.region [.o 3 (.mkSl 3 1 0 []), .m 4 0, .o 5 (.app 3 1 8 (.tmp 3) (.tmp 4)), .m 2 5]) .ret))
def F132 : AFun := ⟨c132, 1, 6, [(.tmp 2)]⟩
def K132 : Nat → List Nat × List Nat
  | _ => ([], [])
theorem F132_ok : kj8 Try.prog K132 Try.f132 = some F132 := by kernel_rfl
/- 133: (syndrome/syndromeref.F).less -/
def c133L0 : ACode := (.seq (.seq (.region [.m 12 10, .m 13 1, .o 14 (.n 13), .o 15 (.b .lss 12 14)]) (.cond (.tmp 15) .skip (.exit 0))) (.seq (.block 1 [1, 2, 3, 4, 9, 10] (.seq (.region [.m 18 1, .m 19 10, .o 20 (.i 1 18 19), .o 21 (.l 20), .m 11 21]) (.seq (.seq (.region [.m 22 3, .o 23 (.c .neq 22 0), .m 24 23, .g 25 (.m 2) 24 true, .g 26 (.m 10) 24 true, .g 27 (.i 1 25 26) 24 true, .g 28 (.l 27) 24 true, .g 29 (.c .neq 28 0) 24 true, .o 30 (.pick (.tmp 24) (.tmp 29) (.const (.bool false)))]) (.cond (.tmp 30) (.region [.o 31 (.ld true 5 (.tmp 4)), .m 32 11, .o 33 (.ld true 5 (.tmp 4)), .m 34 3, .m 35 2, .m 36 10, .o 37 (.i 1 35 36), .o 38 (.l 37), ⟨(some 39), (.call 76 [(.tmp 33), (.tmp 34), (.tmp 38)]), none, true⟩, .o 40 (.q 148 [31, 32, 39]), .m 11 40]) .skip)) (.region [.m 41 9, .m 42 11, .o 43 (.mkSl 3 1 1 [(.tmp 42)]), .o 44 (.app 3 1 8 (.tmp 41) (.tmp 43)), .m 9 44])))) (.region [.m 16 10, .o 17 (.c .add 16 1), .m 10 17])))
def c133 : ACode := (.seq (.region [.o 4 (.box 28 5 (.tmp 0)), .o 8 (.mv (.const (.slice none 0 0)))]) (.seq (.region [.o 9 (.mv (.const (.slice none 0 0)))]) (.seq (.seq (.region [.k 10 0]) (.block 0 [9] (.loop [1, 2, 3, 4, 9, 10] c133L0))) (.seq (.region [.m 45 9, .m 8 45]) .ret))))
def F133 : AFun := ⟨c133, 4, 46, [(.tmp 8)]⟩
def K133 : Nat → List Nat × List Nat
  | 0 => ([1, 2, 3, 4, 9, 10], [9])
  | 1 => ([], [1, 2, 3, 4, 9, 10])
  | _ => ([], [])
theorem F133_ok : kj8 Try.prog K133 Try.f133 = some F133 := by kernel_rfl
/- 134: (syndrome/syndromeref.F).Inv -/
def c134L0 : ACode := (.seq (.seq (.region [.m 14 5, .o 15 (.f 0 2), .o 16 (.l 15), .o 17 (.b .lss 14 16)]) (.cond (.tmp 17) .skip (.exit 0))) (.seq (.block 1 [1, 2, 5] (.seq (.region [.o 20 (.ld true 5 (.tmp 2)), .m 21 1, .m 22 5, .o 23 (.q 76 [20, 21, 22]), .o 24 (.c .eql 23 1)]) (.cond (.tmp 24) (.seq (.region [.m 25 5, .m 4 25]) .ret) .skip))) (.region [.m 18 5, .o 19 (.c .add 18 1), .m 5 19])))
def c134 : ACode := (.seq (.region [.o 2 (.box 28 5 (.tmp 0)), .k 4 0]) (.seq (.seq (.region [.o 6 (.ld true 5 (.tmp 2)), .m 7 1, .o 8 (.q 71 [6, 7]), .o 9 (.un .not (.tmp 8)), .m 10 9, .g 11 (.m 1) 10 false, .g 12 (.c .eql 11 0) 10 false, .o 13 (.pick (.tmp 10) (.const (.bool true)) (.tmp 12))]) (.cond (.tmp 13) (.seq (.region [.k 4 (-1)]) .ret) .skip)) (.seq (.seq (.region [.k 5 1]) (.block 0 [] (.loop [1, 2, 5] c134L0))) (.seq (.region [.k 4 (-1)]) .ret))))
def F134 : AFun := ⟨c134, 2, 26, [(.tmp 4)]⟩
def K134 : Nat → List Nat × List Nat
  | 0 => ([1, 2, 5], [])
  | 1 => ([], [1, 2, 5])
  | _ => ([], [])
theorem F134_ok : kj8 Try.prog K134 Try.f134 = some F134 := by kernel_rfl
/- 136: (syndrome/syndromeref.F).Neg -/
def c136L0 : ACode := (.seq (.seq (.region [.m 17 6, .o 18 (.f 2 2), .o 19 (.l 18), .o 20 (.b .lss 17 19)]) (.cond (.tmp 20) .skip (.exit 0))) (.seq (.block 1 [2, 5, 6] (.region [.m 23 5, .m 24 6, .o 25 (.f 1 2), .o 26 (.l 25), .m 27 5, .m 28 6, .o 29 (.i 1 27 28), .o 30 (.l 29), .o 31 (.b .sub 26 30), .o 32 (.f 1 2), .o 33 (.l 32), .o 34 (.b .rem 31 33), .o 35 (.i 1 23 24), .n (.st 1 (.tmp 35) (.tmp 34))])) (.region [.m 21 6, .o 22 (.c .add 21 1), .m 6 22])))
def c136 : ACode := (.seq (.region [.o 2 (.box 28 5 (.tmp 0)), .k 4 0]) (.seq (.seq (.region [.o 7 (.ld true 5 (.tmp 2)), .m 8 1, .o 9 (.q 71 [7, 8]), .o 10 (.un .not (.tmp 9))]) (.cond (.tmp 10) (.seq (.region [.k 4 (-1)]) .ret) .skip)) (.seq (.region [.m 11 1, .o 12 (.f 1 2), .o 13 (.l 12), .o 14 (.f 2 2), .o 15 (.l 14), .o 16 (.q 74 [11, 13, 15]), .m 5 16]) (.seq (.seq (.region [.k 6 0]) (.block 0 [2, 5] (.loop [2, 5, 6] c136L0))) (.seq (.region [.m 36 5, .o 37 (.f 1 2), .o 38 (.l 37), .o 39 (.q 127 [36, 38]), .m 4 39]) .ret)))))
def F136 : AFun := ⟨c136, 2, 40, [(.tmp 4)]⟩
def K136 : Nat → List Nat × List Nat
  | 0 => ([2, 5, 6], [2, 5])
  | 1 => ([], [2, 5, 6])
  | _ => ([], [])
theorem F136_ok : kj8 Try.prog K136 Try.f136 = some F136 := by kernel_rfl
/- 141: math/bits.OnesCount -/
def c141 : ACode := (.seq (.region [.k 2 0]) (.seq (.cond (.const (.bool false)) (.seq (.region [.m 3 0, .o 4 (.conv .u32 (.tmp 3)), .o 5 (.q 158 [4]), .m 2 5]) .ret) .skip) (.seq (.region [.m 6 0, .o 7 (.q 159 [6]), .m 2 7]) .ret)))
def F141 : AFun := ⟨c141, 1, 8, [(.tmp 2)]⟩
def K141 : Nat → List Nat × List Nat
  | _ => ([], [])
theorem F141_ok : kj8 Try.prog K141 Try.f141 = some F141 := by kernel_rfl
/- 148: (syndrome/syndromeref.F).Sub -/
def c148 : ACode := (.seq (.region [.o 3 (.box 28 5 (.tmp 0)), .k 6 0]) (.seq (.region [.o 8 (.ld true 5 (.tmp 3)), .m 9 2, .o 10 (.q 136 [8, 9]), .m 7 10]) (.seq (.region [.o 11 (.ld true 5 (.tmp 3)), .m 12 1, .m 13 7, .o 14 (.q 75 [11, 12, 13]), .m 6 14]) .ret)))
def F148 : AFun := ⟨c148, 3, 15, [(.tmp 6)]⟩
def K148 : Nat → List Nat × List Nat
  | _ => ([], [])
theorem F148_ok : kj8 Try.prog K148 Try.f148 = some F148 := by kernel_rfl
/- 150: slices.Clone[[]int,int] -/
def c150 : ACode := (.seq (.region [.o 2 (.mv (.const (.slice none 0 0)))]) (.seq (.seq (.region [.m 3 0, .o 4 (.eqn false 0 (.tmp 3))]) (.cond (.tmp 4) (.seq (.region [.o 2 (.mv (.const (.slice none 0 0)))]) .ret) .skip)) (.seq (.region [.o 5 (.mkSl 3 1 0 []), .m 6 0, .o 7 (.app 3 1 8 (.tmp 5) (.tmp 6)), .m 2 7]) .ret)))
def F150 : AFun := ⟨c150, 1, 8, [(.tmp 2)]⟩
def K150 : Nat → List Nat × List Nat
  | _ => ([], [])
theorem F150_ok : kj8 Try.prog K150 Try.f150 = some F150 := by kernel_rfl
/- 151: (*syndrome/field.Field).Sub -/
def c151 : ACode := (.seq (.region [.k 6 0]) (.seq (.region [.m 7 0, .m 8 1, .m 9 0, .m 10 2, .o 11 (.q 115 [9, 10]), .o 12 (.q 78 [7, 8, 11]), .m 6 12]) .ret))
def F151 : AFun := ⟨c151, 3, 13, [(.tmp 6)]⟩
def K151 : Nat → List Nat × List Nat
  | _ => ([], [])
theorem F151_ok : kj8 Try.prog K151 Try.f151 = some F151 := by kernel_rfl
/- 154: syndrome/field.prime -/
def c154L0 : ACode := (.seq (.seq (.region [.m 4 0, .m 5 2, .o 6 (.b .rem 4 5), .o 7 (.c .neq 6 0)]) (.cond (.tmp 7) .skip (.exit 0))) (.block 1 [0, 2, 3] (.region [.m 8 2, .o 9 (.c .add 8 1), .m 2 9])))
def c154L1 : ACode := (.seq (.seq (.region [.m 10 0, .m 11 2, .o 12 (.b .rem 10 11), .o 13 (.c .eql 12 0)]) (.cond (.tmp 13) .skip (.exit 2))) (.seq (.block 3 [0, 2, 3] (.region [.m 17 3, .o 18 (.c .add 17 1), .m 3 18])) (.region [.m 14 0, .m 15 2, .o 16 (.b .quo 14 15), .m 0 16])))
def c154 : ACode := (.seq (.region [.k 2 0, .k 3 0]) (.seq (.region [.k 2 2]) (.seq (.block 0 [0, 2, 3] (.loop [0, 2, 3] c154L0)) (.seq (.block 2 [0, 2, 3] (.loop [0, 2, 3] c154L1)) (.seq (.seq (.region [.m 19 0, .o 20 (.c .neq 19 1)]) (.cond (.tmp 20) (.seq (.region [.k 2 0, .k 3 0]) .ret) .skip)) (.seq (.region [.m 21 2, .m 22 3, .m 2 21, .m 3 22]) .ret))))))
def F154 : AFun := ⟨c154, 1, 23, [(.tmp 2), (.tmp 3)]⟩
def K154 : Nat → List Nat × List Nat
  | 0 => ([0, 2, 3], [0, 2, 3])
  | 1 => ([], [0, 2, 3])
  | 2 => ([0, 2, 3], [0, 2, 3])
  | 3 => ([], [0, 2, 3])
  | _ => ([], [])
theorem F154_ok : kj8 Try.prog K154 Try.f154 = some F154 := by kernel_rfl
/- 155: (*syndrome/field.Field).fill -/
def c155L0 : ACode := (.seq (.region [.o 29 (.b .lss 28 27)]) (.seq (.cond (.tmp 29) .skip (.exit 0)) (.seq (.block 1 [0, 27, 28] (.seq (.region [.m 30 28, .m 3 30]) (.region [.m 31 0, .o 32 (.nilck (.tmp 31)), .o 33 (.f 6 32), .o 34 (.l 33), .m 35 3, .o 36 (.i 1 34 35), .n (.st 1 (.tmp 36) (.const (.int .i64 (-1))))]))) (.region [.o 37 (.c .add 28 1), .m 28 37]))))
def c155L1 : ACode := (.seq (.region [.o 44 (.b .lss 43 42)]) (.seq (.cond (.tmp 44) .skip (.exit 2)) (.seq (.block 3 [0, 4, 42, 43] (.seq (.region [.m 45 43, .m 5 45]) (.seq (.seq (.region [.m 46 4, .o 47 (.c .eql 46 0), .m 48 47, .g 49 (.m 0) 48 false, .g 50 (.nilck (.tmp 49)) 48 false, .g 51 (.f 6 50) 48 false, .g 52 (.l 51) 48 false, .g 53 (.m 4) 48 false, .g 54 (.i 1 52 53) 48 false, .g 55 (.l 54) 48 false, .g 56 (.c .geq 55 0) 48 false, .o 57 (.pick (.tmp 48) (.const (.bool true)) (.tmp 56))]) (.cond (.tmp 57) (.seq (.region [.o 2 (.mv (.const (.bool false)))]) .ret) .skip)) (.seq (.region [.m 58 0, .o 59 (.nilck (.tmp 58)), .o 60 (.f 5 59), .o 61 (.l 60), .m 62 5, .m 63 0, .o 64 (.nilck (.tmp 63)), .o 65 (.f 6 64), .o 66 (.l 65), .m 67 4, .m 68 4, .m 69 5, .o 70 (.i 1 61 62), .n (.st 1 (.tmp 70) (.tmp 68)), .o 71 (.i 1 66 67), .n (.st 1 (.tmp 71) (.tmp 69))]) (.region [.m 72 0, .m 73 4, .o 74 (.q 169 [72, 73]), .m 4 74]))))) (.region [.o 75 (.c .add 43 1), .m 43 75]))))
def c155 : ACode := (.seq (.region [.o 2 (.mv (.const (.bool false)))]) (.seq (.region [.m 6 0, .m 7 0, .o 8 (.nilck (.tmp 7)), .o 9 (.f 0 8), .o 10 (.l 9), .o 11 (.c .sub 10 1), .o 12 (.mks 3 1 8 [(.int .i64 0)] (.tmp 11) (.tmp 11)), .o 13 (.nilck (.tmp 6)), .o 14 (.f 5 13), .n (.st 1 (.tmp 14) (.tmp 12))]) (.seq (.region [.m 15 0, .m 16 0, .o 17 (.nilck (.tmp 16)), .o 18 (.f 0 17), .o 19 (.l 18), .o 20 (.mks 3 1 8 [(.int .i64 0)] (.tmp 19) (.tmp 19)), .o 21 (.nilck (.tmp 15)), .o 22 (.f 6 21), .n (.st 1 (.tmp 22) (.tmp 20))]) (.seq (.seq (.region [.m 23 0, .o 24 (.nilck (.tmp 23)), .o 25 (.f 6 24), .o 26 (.l 25), .o 27 (.n 26), .k 28 0]) (.block 0 [0] (.loop [0, 27, 28] c155L0))) (.seq (.region [.k 4 1]) (.seq (.seq (.region [.m 38 0, .o 39 (.nilck (.tmp 38)), .o 40 (.f 0 39), .o 41 (.l 40), .o 42 (.c .sub 41 1), .k 43 0]) (.block 2 [4] (.loop [0, 4, 42, 43] c155L1))) (.seq (.region [.m 76 4, .o 77 (.c .eql 76 1), .m 2 77]) .ret)))))))
def F155 : AFun := ⟨c155, 1, 78, [(.tmp 2)]⟩
def K155 : Nat → List Nat × List Nat
  | 0 => ([0, 27, 28], [0])
  | 1 => ([], [0, 27, 28])
  | 2 => ([0, 4, 42, 43], [4])
  | 3 => ([], [0, 4, 42, 43])
  | _ => ([], [])
theorem F155_ok : kj8 Try.prog K155 Try.f155 = some F155 := by kernel_rfl
/- 156: syndrome/field.digits -/
def c156L0 : ACode := (.seq (.region [.o 14 (.b .lss 13 12)]) (.seq (.cond (.tmp 14) .skip (.exit 0)) (.seq (.block 1 [0, 1, 7, 12, 13] (.seq (.region [.m 15 13, .m 8 15]) (.seq (.region [.m 16 7, .m 17 8, .m 18 0, .m 19 1, .o 20 (.b .rem 18 19), .o 21 (.i 1 16 17), .n (.st 1 (.tmp 21) (.tmp 20))]) (.region [.m 22 0, .m 23 1, .o 24 (.b .quo 22 23), .m 0 24])))) (.region [.o 25 (.c .add 13 1), .m 13 25]))))
def c156 : ACode := (.seq (.region [.o 6 (.mv (.const (.slice none 0 0)))]) (.seq (.region [.m 9 2, .o 10 (.mks 3 1 8 [(.int .i64 0)] (.tmp 9) (.tmp 9)), .m 7 10]) (.seq (.seq (.region [.m 11 7, .o 12 (.n 11), .k 13 0]) (.block 0 [7] (.loop [0, 1, 7, 12, 13] c156L0))) (.seq (.region [.m 26 7, .m 6 26]) .ret))))
def F156 : AFun := ⟨c156, 3, 27, [(.tmp 6)]⟩
def K156 : Nat → List Nat × List Nat
  | 0 => ([0, 1, 7, 12, 13], [7])
  | 1 => ([], [0, 1, 7, 12, 13])
  | _ => ([], [])
theorem F156_ok : kj8 Try.prog K156 Try.f156 = some F156 := by kernel_rfl
/- 159: math/bits.OnesCount64 -/
def c159 : ACode := (.seq (.region [.k 2 0]) (.seq (.region [.m 3 0, .o 4 (.bin .shr (.tmp 3) (.const (.int .u64 1))), .o 5 (.bin .and (.tmp 4) (.const (.int .u64 6148914691236517205))), .m 6 0, .o 7 (.bin .and (.tmp 6) (.const (.int .u64 6148914691236517205))), .o 8 (.b .add 5 7), .m 0 8]) (.seq (.region [.m 9 0, .o 10 (.bin .shr (.tmp 9) (.const (.int .u64 2))), .o 11 (.bin .and (.tmp 10) (.const (.int .u64 3689348814741910323))), .m 12 0, .o 13 (.bin .and (.tmp 12) (.const (.int .u64 3689348814741910323))), .o 14 (.b .add 11 13), .m 0 14]) (.seq (.region [.m 15 0, .o 16 (.bin .shr (.tmp 15) (.const (.int .u64 4))), .m 17 0, .o 18 (.b .add 16 17), .o 19 (.bin .and (.tmp 18) (.const (.int .u64 1085102592571150095))), .m 0 19]) (.seq (.region [.m 20 0, .m 21 0, .o 22 (.bin .shr (.tmp 21) (.const (.int .u64 8))), .o 23 (.b .add 20 22), .m 0 23]) (.seq (.region [.m 24 0, .m 25 0, .o 26 (.bin .shr (.tmp 25) (.const (.int .u64 16))), .o 27 (.b .add 24 26), .m 0 27]) (.seq (.region [.m 28 0, .m 29 0, .o 30 (.bin .shr (.tmp 29) (.const (.int .u64 32))), .o 31 (.b .add 28 30), .m 0 31]) (.seq (.region [.m 32 0, .o 33 (.conv .i64 (.tmp 32)), .o 34 (.c .and 33 127), .m 2 34]) .ret))))))))
def F159 : AFun := ⟨c159, 1, 35, [(.tmp 2)]⟩
def K159 : Nat → List Nat × List Nat
  | _ => ([], [])
theorem F159_ok : kj8 Try.prog K159 Try.f159 = some F159 := by kernel_rfl
/- 169: (*syndrome/field.Field).turn -/
def c169L0 : ACode := (.seq (.region [.o 57 (.b .lss 56 55)]) (.seq (.cond (.tmp 57) .skip (.exit 0)) (.seq (.block 1 [0, 5, 6, 55, 56] (.seq (.region [.m 58 56, .m 7 58]) (.region [.m 59 5, .m 60 7, .m 61 5, .m 62 7, .o 63 (.i 1 61 62), .o 64 (.l 63), .m 65 6, .m 66 0, .o 67 (.nilck (.tmp 66)), .o 68 (.f 1 67), .o 69 (.l 68), .m 70 0, .o 71 (.nilck (.tmp 70)), .o 72 (.f 3 71), .o 73 (.l 72), .m 74 7, .o 75 (.i 1 73 74), .o 76 (.l 75), .o 77 (.b .sub 69 76), .o 78 (.b .mul 65 77), .o 79 (.b .add 64 78), .m 80 0, .o 81 (.nilck (.tmp 80)), .o 82 (.f 1 81), .o 83 (.l 82), .o 84 (.b .rem 79 83), .o 85 (.i 1 59 60), .n (.st 1 (.tmp 85) (.tmp 84))]))) (.region [.o 86 (.c .add 56 1), .m 56 86]))))
def c169 : ACode := (.seq (.region [.k 4 0]) (.seq (.seq (.region [.m 8 0, .o 9 (.nilck (.tmp 8)), .o 10 (.f 2 9), .o 11 (.l 10), .o 12 (.c .eql 11 1)]) (.cond (.tmp 12) (.seq (.region [.m 13 1, .m 14 0, .o 15 (.nilck (.tmp 14)), .o 16 (.f 4 15), .o 17 (.l 16), .o 18 (.b .mul 13 17), .m 19 0, .o 20 (.nilck (.tmp 19)), .o 21 (.f 1 20), .o 22 (.l 21), .o 23 (.b .rem 18 22), .m 4 23]) .ret) .skip)) (.seq (.region [.m 24 1, .m 25 0, .o 26 (.nilck (.tmp 25)), .o 27 (.f 1 26), .o 28 (.l 27), .m 29 0, .o 30 (.nilck (.tmp 29)), .o 31 (.f 2 30), .o 32 (.l 31), .o 33 (.q 156 [24, 28, 32]), .m 5 33]) (.seq (.region [.m 34 5, .m 35 0, .o 36 (.nilck (.tmp 35)), .o 37 (.f 2 36), .o 38 (.l 37), .o 39 (.c .sub 38 1), .o 40 (.i 1 34 39), .o 41 (.l 40), .m 6 41]) (.seq (.region [.m 42 5, .o 43 (.sl 1 (.tmp 42) (some (.const (.int .i64 1))) none), .m 44 5, .m 45 0, .o 46 (.nilck (.tmp 45)), .o 47 (.f 2 46), .o 48 (.l 47), .o 49 (.c .sub 48 1), .o 50 (.sl 1 (.tmp 44) none (some (.tmp 49))), .o 51 (.cpy 1 (.tmp 43) (.tmp 50))]) (.seq (.region [.m 52 5, .o 53 (.iaddr 1 (.tmp 52) (.const (.int .i64 0))), .n (.st 1 (.tmp 53) (.const (.int .i64 0)))]) (.seq (.seq (.region [.m 54 5, .o 55 (.n 54), .k 56 0]) (.block 0 [0, 5] (.loop [0, 5, 6, 55, 56] c169L0))) (.seq (.region [.m 87 5, .m 88 0, .o 89 (.nilck (.tmp 88)), .o 90 (.f 1 89), .o 91 (.l 90), .o 92 (.q 177 [87, 91]), .m 4 92]) .ret))))))))
def F169 : AFun := ⟨c169, 2, 93, [(.tmp 4)]⟩
def K169 : Nat → List Nat × List Nat
  | 0 => ([0, 5, 6, 55, 56], [0, 5])
  | 1 => ([], [0, 5, 6, 55, 56])
  | _ => ([], [])
theorem F169_ok : kj8 Try.prog K169 Try.f169 = some F169 := by kernel_rfl
/- 177: syndrome/field.number -/
def c177L0 : ACode := (.seq (.seq (.region [.m 10 6, .o 11 (.c .geq 10 0)]) (.cond (.tmp 11) .skip (.exit 0))) (.seq (.block 1 [0, 1, 5, 6] (.region [.m 14 5, .m 15 1, .o 16 (.b .mul 14 15), .m 17 0, .m 18 6, .o 19 (.i 1 17 18), .o 20 (.l 19), .o 21 (.b .add 16 20), .m 5 21])) (.region [.m 12 6, .o 13 (.c .sub 12 1), .m 6 13])))
def c177 : ACode := (.seq (.region [.k 4 0]) (.seq (.region [.k 5 0]) (.seq (.seq (.region [.m 7 0, .o 8 (.n 7), .o 9 (.c .sub 8 1), .m 6 9]) (.block 0 [5] (.loop [0, 1, 5, 6] c177L0))) (.seq (.region [.m 22 5, .m 4 22]) .ret))))
def F177 : AFun := ⟨c177, 2, 23, [(.tmp 4)]⟩
def K177 : Nat → List Nat × List Nat
  | 0 => ([0, 1, 5, 6], [5])
  | 1 => ([], [0, 1, 5, 6])
  | _ => ([], [])
theorem F177_ok : kj8 Try.prog K177 Try.f177 = some F177 := by kernel_rfl
end Go.Proofs.Ytjpejkakodbchaa
