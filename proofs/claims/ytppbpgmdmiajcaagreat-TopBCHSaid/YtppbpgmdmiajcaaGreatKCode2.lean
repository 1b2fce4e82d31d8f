/-
  Functions of this seat as the small machine's code, written by a program of my own (gen.py); each is checked to be what the model's function is turned into. No condition.
-/
import Derived.Test.YtppbpgmdmiajcaaGreatK2
import Derived.Test.YtppbpgmdmiajcaaGreatProg
set_option linter.unusedVariables false
set_option linter.unusedSimpArgs false
set_option linter.unusedSectionVars false
set_option maxRecDepth 100000
namespace Go.Proofs.YtppbpgmdmiajcaaGreat
open Go.Am
/- 184: slices.medianOrdered[int] -/
def c184:ACode:=(.R [.k 10 0] (.R [.m 12 0, .m 13 1, .m 14 2, .m 15 4, .Q 16 194 [12,13,14,15], .m 11 16, .E 17 0 11, .E 18 1 11, .m 1 17, .m 2 18] (.R [.m 20 0, .m 21 2, .m 22 3, .m 23 4, .Q 24 194 [20,21,22,23], .m 19 24, .E 25 0 19, .E 26 1 19, .m 2 25, .m 3 26] (.R [.m 28 0, .m 29 1, .m 30 2, .m 31 4, .Q 32 194 [28,29,30,31], .m 27 32, .E 33 0 27, .E 34 1 27, .m 1 33, .m 2 34] (.R [.m 35 2, .m 10 35] .ret)))))
def F184:AFun:=⟨c184,5,36,[(.tmp 10)]⟩
def K184:Nat→List Nat×List Nat
 |_=>([],[])
theorem F184_ok:kj8 Tryz.prog K184 noRg Tryz.f184=some F184:=by kernel_rfl
/- 185: cmp.isNaN[int] -/
def c185:ACode:=(.R [.o 2 (.mv (.const (.bool false)))] (.R [.m 3 0, .m 4 0, .B 5 .neq 3 4, .m 2 5] .ret))
def F185:AFun:=⟨c185,1,6,[(.tmp 2)]⟩
def K185:Nat→List Nat×List Nat
 |_=>([],[])
theorem F185_ok:kj8 Tryz.prog K185 noRg Tryz.f185=some F185:=by kernel_rfl
/- 186: syndrome/matrix.Check$1 -/
def c186:ACode:=(.R [.o 3 (.mv (.const (.bool false)))] (.R [.L 4 1, .m 5 0, .Q 6 83 [4,5], .o 7 (.un .not (.tmp 6)), .m 3 7] .ret))
def F186:AFun:=⟨c186,2,8,[(.tmp 3)]⟩
def K186:Nat→List Nat×List Nat
 |_=>([],[])
theorem F186_ok:kj8 Tryz.prog K186 noRg Tryz.f186=some F186:=by kernel_rfl
/- 193: syndrome/field.number -/
def c193L0:ACode:=(.seq (.R [.m 10 6, .C 11 .geq 10 0] (.D 11 .skip (.exit 0))) (.seq (.block 1 [0,1,5,6] (.region [.m 14 5, .m 15 1, .B 16 .mul 14 15, .m 17 0, .m 18 6, .I 19 1 17 18, .L 20 19, .B 21 .add 16 20, .m 5 21])) (.region [.m 12 6, .C 13 .sub 12 1, .m 6 13])))
def c193:ACode:=(.R [.k 4 0] (.R [.k 5 0] (.seq (.R [.m 7 0, .N 8 7, .C 9 .sub 8 1, .m 6 9] (.block 0 [5] (.loop [0,1,5,6] c193L0))) (.R [.m 22 5, .m 4 22] .ret))))
def F193:AFun:=⟨c193,2,23,[(.tmp 4)]⟩
def K193:Nat→List Nat×List Nat
 |0=>([0,1,5,6],[5])
 |1=>([],[0,1,5,6])
 |_=>([],[])
theorem F193_ok:kj8 Tryz.prog K193 noRg Tryz.f193=some F193:=by kernel_rfl
/- 194: slices.order2Ordered[int] -/
def c194:ACode:=(.R [.k 8 0, .k 9 0] (.seq (.R [.m 10 0, .m 11 2, .I 12 1 10 11, .L 13 12, .m 14 0, .m 15 1, .I 16 1 14 15, .L 17 16, .Q 18 154 [13,17]] (.D 18 (.R [.m 19 3, .K 20 19, .L 21 20, .C 22 .add 21 1, .K 23 19, .S 23 22] (.R [.m 24 2, .m 25 1, .m 8 24, .m 9 25] .ret)) .skip)) (.R [.m 26 1, .m 27 2, .m 8 26, .m 9 27] .ret)))
def F194:AFun:=⟨c194,4,28,[(.tmp 8),(.tmp 9)]⟩
def K194:Nat→List Nat×List Nat
 |_=>([],[])
theorem F194_ok:kj8 Tryz.prog K194 noRg Tryz.f194=some F194:=by kernel_rfl
end Go.Proofs.YtppbpgmdmiajcaaGreat
