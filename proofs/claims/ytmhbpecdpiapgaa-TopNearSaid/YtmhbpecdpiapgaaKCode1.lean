/-
  Functions of this seat as the small machine's code, written by a program of my own (gen.py); each is checked to be what the model's function is turned into. No condition.
-/
import Derived.Test.YtmhbpecdpiapgaaK1
import Derived.Test.YtmhbpecdpiapgaaProg
set_option linter.unusedVariables false
set_option linter.unusedSimpArgs false
set_option linter.unusedSectionVars false
set_option maxRecDepth 100000
namespace Go.Proofs.Ytmhbpecdpiapgaa
open Go.Am
/- 186: slices.IndexFunc[[]int,int] -/
def c186L0:ACode:=(.seq (.region [.o 9 (.b .lss 8 7)]) (.seq (.cond (.tmp 9) .skip (.exit 0)) (.seq (.block 1 [0,1,7,8] (.seq (.region [.m 10 8, .m 5 10]) (.seq (.region [.m 11 1, .m 12 0, .m 13 5, .o 14 (.i 1 12 13), .o 15 (.l 14), .o 16 (.calld (.tmp 11) [(.tmp 15)])]) (.cond (.tmp 16) (.seq (.region [.m 17 5, .m 4 17]) .ret) .skip)))) (.region [.o 18 (.c .add 8 1), .m 8 18]))))
def c186:ACode:=(.seq (.region [.k 4 0]) (.seq (.seq (.region [.m 6 0, .o 7 (.n 6), .k 8 0]) (.block 0 [] (.loop [0,1,7,8] c186L0))) (.seq (.region [.k 4 (-1)]) .ret)))
def F186:AFun:=⟨c186,2,19,[(.tmp 4)]⟩
def K186:Nat→List Nat×List Nat
 |0=>([0,1,7,8],[])
 |1=>([],[0,1,7,8])
 |_=>([],[])
theorem F186_ok:kj8 Try.prog K186 Try.f186=some F186:=by kernel_rfl
/- 188: syndrome/reed.Word -/
def c188:ACode:=(.seq (.region [.k 8 0]) (.seq (.seq (.region [.m 12 0, .m 13 1, .m 14 2, .o 15 (.q 126 [12,13,14]), .m 9 15]) (.seq (.region [.m 16 9, .o 17 (.c .neq 16 0)]) (.cond (.tmp 17) (.seq (.region [.m 18 9, .m 8 18]) .ret) .skip))) (.seq (.seq (.region [.m 19 3, .o 20 (.n 19), .m 21 1, .o 22 (.n 21), .o 23 (.b .neq 20 22)]) (.cond (.tmp 23) (.seq (.region [.k 8 6]) .ret) .skip)) (.seq (.region [.m 25 0, .o 26 (.q 76 [25]), .m 24 26, .o 27 (.e 0 24), .o 28 (.e 1 24), .o 10 (.alloc 104 [(.pointer none)]), .n (.st 1 (.tmp 10) (.tmp 27)), .m 11 28]) (.seq (.seq (.region [.m 29 3, .o 30 (.mkf 213 [(.tmp 10)]), .o 31 (.q 113 [29,30])]) (.cond (.tmp 31) (.seq (.region [.k 8 2]) .ret) .skip)) (.seq (.region [.k 8 0]) .ret))))))
def F188:AFun:=⟨c188,4,32,[(.tmp 8)]⟩
def K188:Nat→List Nat×List Nat
 |_=>([],[])
theorem F188_ok:kj8 Try.prog K188 Try.f188=some F188:=by kernel_rfl
/- 189: syndrome/poly.both -/
def c189:ACode:=(.seq (.region [.o 6 (.mv (.const (.pointer none))), .o 7 (.mv (.const (.slice none 0 0))), .o 8 (.mv (.const (.slice none 0 0))), .k 9 0]) (.seq (.region [.m 13 0, .m 14 1, .o 15 (.q 127 [13,14]), .m 10 15]) (.seq (.seq (.region [.m 16 10, .o 17 (.c .eql 16 0)]) (.cond (.tmp 17) (.region [.m 18 0, .m 19 2, .o 20 (.q 127 [18,19]), .m 10 20]) .skip)) (.seq (.seq (.region [.m 21 10, .o 22 (.c .neq 21 0)]) (.cond (.tmp 22) (.seq (.region [.m 23 10, .o 6 (.mv (.const (.pointer none))), .o 7 (.mv (.const (.slice none 0 0))), .o 8 (.mv (.const (.slice none 0 0))), .m 9 23]) .ret) .skip)) (.seq (.region [.m 25 0, .o 26 (.q 76 [25]), .m 24 26, .o 27 (.e 0 24), .o 28 (.e 1 24), .m 11 27, .m 12 28]) (.seq (.region [.m 29 11, .m 30 1, .o 31 (.q 191 [30]), .m 32 2, .o 33 (.q 191 [32]), .m 6 29, .m 7 31, .m 8 33, .k 9 0]) .ret))))))
def F189:AFun:=⟨c189,3,34,[(.tmp 6),(.tmp 7),(.tmp 8),(.tmp 9)]⟩
def K189:Nat→List Nat×List Nat
 |_=>([],[])
theorem F189_ok:kj8 Try.prog K189 Try.f189=some F189:=by kernel_rfl
/- 190: syndrome/poly.times -/
def c190L0:ACode:=(.seq (.region [.o 37 (.b .lss 36 35)]) (.seq (.cond (.tmp 37) .skip (.exit 2)) (.seq (.block 3 [0,2,7,8,9,27,28,29,34,35,36] (.seq (.region [.m 38 36, .o 39 (.i 1 34 36), .o 40 (.l 39), .m 10 38, .m 11 40]) (.region [.m 41 7, .m 42 8, .m 43 10, .o 44 (.b .add 42 43), .m 45 0, .m 46 7, .m 47 8, .m 48 10, .o 49 (.b .add 47 48), .o 50 (.i 1 46 49), .o 51 (.l 50), .m 52 0, .m 53 9, .m 54 11,⟨(some 55),(.call 85 [(.tmp 52),(.tmp 53),(.tmp 54)]),none,true⟩, .o 56 (.q 83 [45,51,55]), .o 57 (.i 1 41 44), .n (.st 1 (.tmp 57) (.tmp 56))]))) (.region [.o 58 (.c .add 36 1), .m 36 58]))))
def c190L1:ACode:=(.seq (.region [.o 30 (.b .lss 29 28)]) (.seq (.cond (.tmp 30) .skip (.exit 0)) (.seq (.block 1 [0,2,7,27,28,29] (.seq (.region [.m 31 29, .o 32 (.i 1 27 29), .o 33 (.l 32), .m 8 31, .m 9 33]) (.seq (.region [.m 34 2, .o 35 (.n 34), .k 36 0]) (.block 2 [0,2,7,27,28,29] (.loop [0,2,7,8,9,27,28,29,34,35,36] c190L0))))) (.region [.o 59 (.c .add 29 1), .m 29 59]))))
def c190:ACode:=(.seq (.region [.o 6 (.mv (.const (.slice none 0 0)))]) (.seq (.seq (.region [.m 12 1, .o 13 (.n 12), .o 14 (.c .eql 13 0), .m 15 14, .g 16 (.m 2) 15 false, .g 17 (.n 16) 15 false, .g 18 (.c .eql 17 0) 15 false, .o 19 (.pick (.tmp 15) (.const (.bool true)) (.tmp 18))]) (.cond (.tmp 19) (.seq (.region [.o 6 (.mv (.const (.slice none 0 0)))]) .ret) .skip)) (.seq (.region [.m 20 1, .o 21 (.n 20), .m 22 2, .o 23 (.n 22), .o 24 (.b .add 21 23), .o 25 (.c .sub 24 1), .o 26 (.mks 3 1 8 [(.int .i64 0)] (.tmp 25) (.tmp 25)), .m 7 26]) (.seq (.seq (.region [.m 27 1, .o 28 (.n 27), .k 29 0]) (.block 0 [7] (.loop [0,2,7,27,28,29] c190L1))) (.seq (.region [.m 60 7, .o 61 (.q 191 [60]), .m 6 61]) .ret)))))
def F190:AFun:=⟨c190,3,62,[(.tmp 6)]⟩
def K190:Nat→List Nat×List Nat
 |0=>([0,2,7,27,28,29],[7])
 |1=>([],[0,2,7,27,28,29])
 |2=>([0,2,7,8,9,27,28,29,34,35,36],[0,2,7,27,28,29])
 |3=>([],[0,2,7,8,9,27,28,29,34,35,36])
 |_=>([],[])
theorem F190_ok:kj8 Try.prog K190 Try.f190=some F190:=by kernel_rfl
/- 191: syndrome/poly.trim -/
def c191L0:ACode:=(.seq (.seq (.region [.m 6 3, .o 7 (.c .gtr 6 0), .m 8 7, .g 9 (.m 0) 8 true, .g 10 (.m 3) 8 true, .g 11 (.c .sub 10 1) 8 true, .g 12 (.i 1 9 11) 8 true, .g 13 (.l 12) 8 true, .g 14 (.c .eql 13 0) 8 true, .o 15 (.pick (.tmp 8) (.tmp 14) (.const (.bool false)))]) (.cond (.tmp 15) .skip (.exit 0))) (.block 1 [0,3] (.region [.m 16 3, .o 17 (.c .sub 16 1), .m 3 17])))
def c191:ACode:=(.seq (.region [.o 2 (.mv (.const (.slice none 0 0)))]) (.seq (.region [.m 4 0, .o 5 (.n 4), .m 3 5]) (.seq (.block 0 [0,3] (.loop [0,3] c191L0)) (.seq (.region [.m 18 0, .m 19 3, .o 20 (.sl 1 (.tmp 18) none (some (.tmp 19))), .o 21 (.q 119 [20]), .m 2 21]) .ret))))
def F191:AFun:=⟨c191,1,22,[(.tmp 2)]⟩
def K191:Nat→List Nat×List Nat
 |0=>([0,3],[0,3])
 |1=>([],[0,3])
 |_=>([],[])
theorem F191_ok:kj8 Try.prog K191 Try.f191=some F191:=by kernel_rfl
/- 196: syndrome/matrix.clone -/
def c196L0:ACode:=(.seq (.region [.o 12 (.b .lss 11 10)]) (.seq (.cond (.tmp 12) .skip (.exit 0)) (.seq (.block 1 [3,9,10,11] (.seq (.region [.m 13 11, .o 14 (.i 1 9 11), .o 15 (.l 14), .m 4 13, .m 5 15]) (.region [.m 16 3, .m 17 4, .m 18 5, .o 19 (.q 119 [18]), .o 20 (.i 1 16 17), .n (.st 1 (.tmp 20) (.tmp 19))]))) (.region [.o 21 (.c .add 11 1), .m 11 21]))))
def c196:ACode:=(.seq (.region [.o 2 (.mv (.const (.slice none 0 0)))]) (.seq (.region [.m 6 0, .o 7 (.n 6), .o 8 (.mks 22 1 24 [(.slice none 0 0)] (.tmp 7) (.tmp 7)), .m 3 8]) (.seq (.seq (.region [.m 9 0, .o 10 (.n 9), .k 11 0]) (.block 0 [3] (.loop [3,9,10,11] c196L0))) (.seq (.region [.m 22 3, .m 2 22]) .ret))))
def F196:AFun:=⟨c196,1,23,[(.tmp 2)]⟩
def K196:Nat→List Nat×List Nat
 |0=>([3,9,10,11],[3])
 |1=>([],[3,9,10,11])
 |_=>([],[])
theorem F196_ok:kj8 Try.prog K196 Try.f196=some F196:=by kernel_rfl
/- 197: syndrome/matrix.Reduce$1 -/
def c197:ACode:=(.seq (.region [.o 3 (.mv (.const (.bool false)))]) (.seq (.region [.m 4 0, .o 5 (.l 1), .o 6 (.i 1 4 5), .o 7 (.l 6), .o 8 (.c .neq 7 0), .m 3 8]) .ret))
def F197:AFun:=⟨c197,2,9,[(.tmp 3)]⟩
def K197:Nat→List Nat×List Nat
 |_=>([],[])
theorem F197_ok:kj8 Try.prog K197 Try.f197=some F197:=by kernel_rfl
/- 198: syndrome/matrix.scale -/
def c198L0:ACode:=(.seq (.region [.o 10 (.b .lss 9 8)]) (.seq (.cond (.tmp 10) .skip (.exit 0)) (.seq (.block 1 [0,1,2,8,9] (.seq (.region [.m 11 9, .m 6 11]) (.region [.m 12 1, .m 13 6, .m 14 0, .m 15 1, .m 16 6, .o 17 (.i 1 15 16), .o 18 (.l 17), .m 19 2, .o 20 (.q 85 [14,18,19]), .o 21 (.i 1 12 13), .n (.st 1 (.tmp 21) (.tmp 20))]))) (.region [.o 22 (.c .add 9 1), .m 9 22]))))
def c198:ACode:=(.seq (.region [.m 7 1, .o 8 (.n 7), .k 9 0]) (.block 0 [] (.loop [0,1,2,8,9] c198L0)))
def F198:AFun:=⟨c198,3,23,[]⟩
def K198:Nat→List Nat×List Nat
 |0=>([0,1,2,8,9],[])
 |1=>([],[0,1,2,8,9])
 |_=>([],[])
theorem F198_ok:kj8 Try.prog K198 Try.f198=some F198:=by kernel_rfl
/- 199: syndrome/matrix.less -/
def c199L0:ACode:=(.seq (.region [.o 12 (.b .lss 11 10)]) (.seq (.cond (.tmp 12) .skip (.exit 0)) (.seq (.block 1 [0,1,2,3,10,11] (.seq (.region [.m 13 11, .m 8 13]) (.region [.m 14 1, .m 15 8, .m 16 0, .m 17 1, .m 18 8, .o 19 (.i 1 17 18), .o 20 (.l 19), .m 21 0, .m 22 3, .m 23 2, .m 24 8, .o 25 (.i 1 23 24), .o 26 (.l 25),⟨(some 27),(.call 85 [(.tmp 21),(.tmp 22),(.tmp 26)]),none,true⟩, .o 28 (.q 166 [16,20,27]), .o 29 (.i 1 14 15), .n (.st 1 (.tmp 29) (.tmp 28))]))) (.region [.o 30 (.c .add 11 1), .m 11 30]))))
def c199:ACode:=(.seq (.region [.m 9 1, .o 10 (.n 9), .k 11 0]) (.block 0 [] (.loop [0,1,2,3,10,11] c199L0)))
def F199:AFun:=⟨c199,4,31,[]⟩
def K199:Nat→List Nat×List Nat
 |0=>([0,1,2,3,10,11],[])
 |1=>([],[0,1,2,3,10,11])
 |_=>([],[])
theorem F199_ok:kj8 Try.prog K199 Try.f199=some F199:=by kernel_rfl
/- 204: syndrome/field.prime -/
def c204L0:ACode:=(.seq (.seq (.region [.m 4 0, .m 5 2, .o 6 (.b .rem 4 5), .o 7 (.c .neq 6 0)]) (.cond (.tmp 7) .skip (.exit 0))) (.block 1 [0,2,3] (.region [.m 8 2, .o 9 (.c .add 8 1), .m 2 9])))
def c204L1:ACode:=(.seq (.seq (.region [.m 10 0, .m 11 2, .o 12 (.b .rem 10 11), .o 13 (.c .eql 12 0)]) (.cond (.tmp 13) .skip (.exit 2))) (.seq (.block 3 [0,2,3] (.region [.m 17 3, .o 18 (.c .add 17 1), .m 3 18])) (.region [.m 14 0, .m 15 2, .o 16 (.b .quo 14 15), .m 0 16])))
def c204:ACode:=(.seq (.region [.k 2 0, .k 3 0]) (.seq (.region [.k 2 2]) (.seq (.block 0 [0,2,3] (.loop [0,2,3] c204L0)) (.seq (.block 2 [0,2,3] (.loop [0,2,3] c204L1)) (.seq (.seq (.region [.m 19 0, .o 20 (.c .neq 19 1)]) (.cond (.tmp 20) (.seq (.region [.k 2 0, .k 3 0]) .ret) .skip)) (.seq (.region [.m 21 2, .m 22 3, .m 2 21, .m 3 22]) .ret))))))
def F204:AFun:=⟨c204,1,23,[(.tmp 2),(.tmp 3)]⟩
def K204:Nat→List Nat×List Nat
 |0=>([0,2,3],[0,2,3])
 |1=>([],[0,2,3])
 |2=>([0,2,3],[0,2,3])
 |3=>([],[0,2,3])
 |_=>([],[])
theorem F204_ok:kj8 Try.prog K204 Try.f204=some F204:=by kernel_rfl
/- 205: (*syndrome/field.Field).fill -/
def c205L0:ACode:=(.seq (.region [.o 29 (.b .lss 28 27)]) (.seq (.cond (.tmp 29) .skip (.exit 0)) (.seq (.block 1 [0,27,28] (.seq (.region [.m 30 28, .m 3 30]) (.region [.m 31 0, .o 32 (.nilck (.tmp 31)), .o 33 (.f 6 32), .o 34 (.l 33), .m 35 3, .o 36 (.i 1 34 35), .n (.st 1 (.tmp 36) (.const (.int .i64 (-1))))]))) (.region [.o 37 (.c .add 28 1), .m 28 37]))))
def c205L1:ACode:=(.seq (.region [.o 44 (.b .lss 43 42)]) (.seq (.cond (.tmp 44) .skip (.exit 2)) (.seq (.block 3 [0,4,42,43] (.seq (.region [.m 45 43, .m 5 45]) (.seq (.seq (.region [.m 46 4, .o 47 (.c .eql 46 0), .m 48 47, .g 49 (.m 0) 48 false, .g 50 (.nilck (.tmp 49)) 48 false, .g 51 (.f 6 50) 48 false, .g 52 (.l 51) 48 false, .g 53 (.m 4) 48 false, .g 54 (.i 1 52 53) 48 false, .g 55 (.l 54) 48 false, .g 56 (.c .geq 55 0) 48 false, .o 57 (.pick (.tmp 48) (.const (.bool true)) (.tmp 56))]) (.cond (.tmp 57) (.seq (.region [.o 2 (.mv (.const (.bool false)))]) .ret) .skip)) (.seq (.region [.m 58 0, .o 59 (.nilck (.tmp 58)), .o 60 (.f 5 59), .o 61 (.l 60), .m 62 5, .m 63 0, .o 64 (.nilck (.tmp 63)), .o 65 (.f 6 64), .o 66 (.l 65), .m 67 4, .m 68 4, .m 69 5, .o 70 (.i 1 61 62), .n (.st 1 (.tmp 70) (.tmp 68)), .o 71 (.i 1 66 67), .n (.st 1 (.tmp 71) (.tmp 69))]) (.region [.m 72 0, .m 73 4, .o 74 (.q 231 [72,73]), .m 4 74]))))) (.region [.o 75 (.c .add 43 1), .m 43 75]))))
def c205:ACode:=(.seq (.region [.o 2 (.mv (.const (.bool false)))]) (.seq (.region [.m 6 0, .m 7 0, .o 8 (.nilck (.tmp 7)), .o 9 (.f 0 8), .o 10 (.l 9), .o 11 (.c .sub 10 1), .o 12 (.mks 3 1 8 [(.int .i64 0)] (.tmp 11) (.tmp 11)), .o 13 (.nilck (.tmp 6)), .o 14 (.f 5 13), .n (.st 1 (.tmp 14) (.tmp 12))]) (.seq (.region [.m 15 0, .m 16 0, .o 17 (.nilck (.tmp 16)), .o 18 (.f 0 17), .o 19 (.l 18), .o 20 (.mks 3 1 8 [(.int .i64 0)] (.tmp 19) (.tmp 19)), .o 21 (.nilck (.tmp 15)), .o 22 (.f 6 21), .n (.st 1 (.tmp 22) (.tmp 20))]) (.seq (.seq (.region [.m 23 0, .o 24 (.nilck (.tmp 23)), .o 25 (.f 6 24), .o 26 (.l 25), .o 27 (.n 26), .k 28 0]) (.block 0 [0] (.loop [0,27,28] c205L0))) (.seq (.region [.k 4 1]) (.seq (.seq (.region [.m 38 0, .o 39 (.nilck (.tmp 38)), .o 40 (.f 0 39), .o 41 (.l 40), .o 42 (.c .sub 41 1), .k 43 0]) (.block 2 [4] (.loop [0,4,42,43] c205L1))) (.seq (.region [.m 76 4, .o 77 (.c .eql 76 1), .m 2 77]) .ret)))))))
def F205:AFun:=⟨c205,1,78,[(.tmp 2)]⟩
def K205:Nat→List Nat×List Nat
 |0=>([0,27,28],[0])
 |1=>([],[0,27,28])
 |2=>([0,4,42,43],[4])
 |3=>([],[0,4,42,43])
 |_=>([],[])
theorem F205_ok:kj8 Try.prog K205 Try.f205=some F205:=by kernel_rfl
/- 206: syndrome/field.digits -/
def c206L0:ACode:=(.seq (.region [.o 14 (.b .lss 13 12)]) (.seq (.cond (.tmp 14) .skip (.exit 0)) (.seq (.block 1 [0,1,7,12,13] (.seq (.region [.m 15 13, .m 8 15]) (.seq (.region [.m 16 7, .m 17 8, .m 18 0, .m 19 1, .o 20 (.b .rem 18 19), .o 21 (.i 1 16 17), .n (.st 1 (.tmp 21) (.tmp 20))]) (.region [.m 22 0, .m 23 1, .o 24 (.b .quo 22 23), .m 0 24])))) (.region [.o 25 (.c .add 13 1), .m 13 25]))))
def c206:ACode:=(.seq (.region [.o 6 (.mv (.const (.slice none 0 0)))]) (.seq (.region [.m 9 2, .o 10 (.mks 3 1 8 [(.int .i64 0)] (.tmp 9) (.tmp 9)), .m 7 10]) (.seq (.seq (.region [.m 11 7, .o 12 (.n 11), .k 13 0]) (.block 0 [7] (.loop [0,1,7,12,13] c206L0))) (.seq (.region [.m 26 7, .m 6 26]) .ret))))
def F206:AFun:=⟨c206,3,27,[(.tmp 6)]⟩
def K206:Nat→List Nat×List Nat
 |0=>([0,1,7,12,13],[7])
 |1=>([],[0,1,7,12,13])
 |_=>([],[])
theorem F206_ok:kj8 Try.prog K206 Try.f206=some F206:=by kernel_rfl
/- 207: syndrome/matrix.Check$1 -/
def c207:ACode:=(.seq (.region [.o 3 (.mv (.const (.bool false)))]) (.seq (.region [.o 4 (.l 1), .m 5 0, .o 6 (.q 115 [4,5]), .o 7 (.un .not (.tmp 6)), .m 3 7]) .ret))
def F207:AFun:=⟨c207,2,8,[(.tmp 3)]⟩
def K207:Nat→List Nat×List Nat
 |_=>([],[])
theorem F207_ok:kj8 Try.prog K207 Try.f207=some F207:=by kernel_rfl
/- 213: syndrome/reed.Word$1 -/
def c213:ACode:=(.seq (.region [.o 3 (.mv (.const (.bool false)))]) (.seq (.region [.m 4 0, .o 5 (.c .neq 4 (-1)), .m 6 5, .g 7 (.l 1) 6 true, .g 8 (.m 0) 6 true, .g 9 (.q 115 [7,8]) 6 true, .g 10 (.un .not (.tmp 9)) 6 true, .o 11 (.pick (.tmp 6) (.tmp 10) (.const (.bool false))), .m 3 11]) .ret))
def F213:AFun:=⟨c213,2,12,[(.tmp 3)]⟩
def K213:Nat→List Nat×List Nat
 |_=>([],[])
theorem F213_ok:kj8 Try.prog K213 Try.f213=some F213:=by kernel_rfl
/- 231: (*syndrome/field.Field).turn -/
def c231L0:ACode:=(.seq (.region [.o 57 (.b .lss 56 55)]) (.seq (.cond (.tmp 57) .skip (.exit 0)) (.seq (.block 1 [0,5,6,55,56] (.seq (.region [.m 58 56, .m 7 58]) (.region [.m 59 5, .m 60 7, .m 61 5, .m 62 7, .o 63 (.i 1 61 62), .o 64 (.l 63), .m 65 6, .m 66 0, .o 67 (.nilck (.tmp 66)), .o 68 (.f 1 67), .o 69 (.l 68), .m 70 0, .o 71 (.nilck (.tmp 70)), .o 72 (.f 3 71), .o 73 (.l 72), .m 74 7, .o 75 (.i 1 73 74), .o 76 (.l 75), .o 77 (.b .sub 69 76), .o 78 (.b .mul 65 77), .o 79 (.b .add 64 78), .m 80 0, .o 81 (.nilck (.tmp 80)), .o 82 (.f 1 81), .o 83 (.l 82), .o 84 (.b .rem 79 83), .o 85 (.i 1 59 60), .n (.st 1 (.tmp 85) (.tmp 84))]))) (.region [.o 86 (.c .add 56 1), .m 56 86]))))
def c231:ACode:=(.seq (.region [.k 4 0]) (.seq (.seq (.region [.m 8 0, .o 9 (.nilck (.tmp 8)), .o 10 (.f 2 9), .o 11 (.l 10), .o 12 (.c .eql 11 1)]) (.cond (.tmp 12) (.seq (.region [.m 13 1, .m 14 0, .o 15 (.nilck (.tmp 14)), .o 16 (.f 4 15), .o 17 (.l 16), .o 18 (.b .mul 13 17), .m 19 0, .o 20 (.nilck (.tmp 19)), .o 21 (.f 1 20), .o 22 (.l 21), .o 23 (.b .rem 18 22), .m 4 23]) .ret) .skip)) (.seq (.region [.m 24 1, .m 25 0, .o 26 (.nilck (.tmp 25)), .o 27 (.f 1 26), .o 28 (.l 27), .m 29 0, .o 30 (.nilck (.tmp 29)), .o 31 (.f 2 30), .o 32 (.l 31), .o 33 (.q 206 [24,28,32]), .m 5 33]) (.seq (.region [.m 34 5, .m 35 0, .o 36 (.nilck (.tmp 35)), .o 37 (.f 2 36), .o 38 (.l 37), .o 39 (.c .sub 38 1), .o 40 (.i 1 34 39), .o 41 (.l 40), .m 6 41]) (.seq (.region [.m 42 5, .o 43 (.sl 1 (.tmp 42) (some (.const (.int .i64 1))) none), .m 44 5, .m 45 0, .o 46 (.nilck (.tmp 45)), .o 47 (.f 2 46), .o 48 (.l 47), .o 49 (.c .sub 48 1), .o 50 (.sl 1 (.tmp 44) none (some (.tmp 49))), .o 51 (.cpy 1 (.tmp 43) (.tmp 50))]) (.seq (.region [.m 52 5, .o 53 (.iaddr 1 (.tmp 52) (.const (.int .i64 0))), .n (.st 1 (.tmp 53) (.const (.int .i64 0)))]) (.seq (.seq (.region [.m 54 5, .o 55 (.n 54), .k 56 0]) (.block 0 [0,5] (.loop [0,5,6,55,56] c231L0))) (.seq (.region [.m 87 5, .m 88 0, .o 89 (.nilck (.tmp 88)), .o 90 (.f 1 89), .o 91 (.l 90), .o 92 (.q 244 [87,91]), .m 4 92]) .ret))))))))
def F231:AFun:=⟨c231,2,93,[(.tmp 4)]⟩
def K231:Nat→List Nat×List Nat
 |0=>([0,5,6,55,56],[0,5])
 |1=>([],[0,5,6,55,56])
 |_=>([],[])
theorem F231_ok:kj8 Try.prog K231 Try.f231=some F231:=by kernel_rfl
/- 233: syndrome/syndromeref.Number -/
def c233L0:ACode:=(.seq (.seq (.region [.m 10 6, .o 11 (.c .geq 10 0)]) (.cond (.tmp 11) .skip (.exit 0))) (.seq (.block 1 [0,1,5,6] (.region [.m 14 5, .m 15 1, .o 16 (.b .mul 14 15), .m 17 0, .m 18 6, .o 19 (.i 1 17 18), .o 20 (.l 19), .o 21 (.b .add 16 20), .m 5 21])) (.region [.m 12 6, .o 13 (.c .sub 12 1), .m 6 13])))
def c233:ACode:=(.seq (.region [.k 4 0]) (.seq (.region [.k 5 0]) (.seq (.seq (.region [.m 7 0, .o 8 (.n 7), .o 9 (.c .sub 8 1), .m 6 9]) (.block 0 [5] (.loop [0,1,5,6] c233L0))) (.seq (.region [.m 22 5, .m 4 22]) .ret))))
def F233:AFun:=⟨c233,2,23,[(.tmp 4)]⟩
def K233:Nat→List Nat×List Nat
 |0=>([0,1,5,6],[5])
 |1=>([],[0,1,5,6])
 |_=>([],[])
theorem F233_ok:kj8 Try.prog K233 Try.f233=some F233:=by kernel_rfl
/- 244: syndrome/field.number -/
def c244L0:ACode:=(.seq (.seq (.region [.m 10 6, .o 11 (.c .geq 10 0)]) (.cond (.tmp 11) .skip (.exit 0))) (.seq (.block 1 [0,1,5,6] (.region [.m 14 5, .m 15 1, .o 16 (.b .mul 14 15), .m 17 0, .m 18 6, .o 19 (.i 1 17 18), .o 20 (.l 19), .o 21 (.b .add 16 20), .m 5 21])) (.region [.m 12 6, .o 13 (.c .sub 12 1), .m 6 13])))
def c244:ACode:=(.seq (.region [.k 4 0]) (.seq (.region [.k 5 0]) (.seq (.seq (.region [.m 7 0, .o 8 (.n 7), .o 9 (.c .sub 8 1), .m 6 9]) (.block 0 [5] (.loop [0,1,5,6] c244L0))) (.seq (.region [.m 22 5, .m 4 22]) .ret))))
def F244:AFun:=⟨c244,2,23,[(.tmp 4)]⟩
def K244:Nat→List Nat×List Nat
 |0=>([0,1,5,6],[5])
 |1=>([],[0,1,5,6])
 |_=>([],[])
theorem F244_ok:kj8 Try.prog K244 Try.f244=some F244:=by kernel_rfl
end Go.Proofs.Ytmhbpecdpiapgaa
