/-
  Functions of this seat as the small machine's code, written by a program of my own (gen.py); each is checked to be what the model's function is turned into. No condition.
-/
import Derived.Test.YtppbpgmdmiajcaaGreatK2
import Derived.Test.YtppbpgmdmiajcaaGreatProg
set_option linter.unusedVariables false
set_option linter.unusedSimpArgs false
set_option linter.unusedSectionVars false
set_option maxRecDepth 100000
namespace Go.Proofs.YtppbpgmdmiajcaaGreat
open Go.Am
/- 5: syndrome/syndrometop.TopTurned -/
def c5:ACode:=(.seq (.region [.o 8 (.mv (.const (.bool false)))]) (.seq (.seq (.region [.m 18 0, .o 19 (.n 18), .m 20 3, .o 21 (.n 20), .o 22 (.b .add 19 21), .o 23 (.c .gtr 22 256)]) (.cond (.tmp 23) (.seq (.region [.o 8 (.mv (.const (.bool true)))]) .ret) .skip)) (.seq (.region [.m 25 1, .o 26 (.q 28 [25]), .m 24 26, .o 27 (.e 0 24), .o 28 (.e 1 24), .m 9 27, .m 10 28]) (.seq (.region [.m 29 0, .m 30 10, .m 31 2, .o 32 (.call 26 [(.tmp 31),(.const (.int .i64 4))]), .o 33 (.call 27 [(.tmp 29),(.const (.int .i64 0)),(.tmp 30),(.tmp 32)]), .m 11 33]) (.seq (.region [.m 35 9, .m 36 10, .m 37 11, .o 38 (.q 13 [35,36,37]), .m 34 38, .o 39 (.e 0 34), .o 40 (.e 1 34), .m 12 39, .m 13 40]) (.seq (.region [.m 42 9, .m 43 10, .m 44 12, .o 45 (.q 19 [42,43,44]), .m 41 45, .o 46 (.e 0 41), .o 47 (.e 1 41), .o 14 (.alloc 35 [(.int .i64 0),(.int .i64 0),(.slice none 0 0)]), .n (.st 3 (.tmp 14) (.tmp 46)), .m 15 47]) (.seq (.seq (.region [.m 48 13, .o 49 (.c .neq 48 0), .m 50 49, .g 51 (.m 15) 50 false, .g 52 (.c .neq 51 0) 50 false, .o 53 (.pick (.tmp 50) (.const (.bool true)) (.tmp 52)), .m 54 53, .g 55 (.m 12) 54 false, .g 56 (.n 55) 54 false, .g 57 (.c .eql 56 0) 54 false, .o 58 (.pick (.tmp 54) (.const (.bool true)) (.tmp 57)), .m 59 58, .g 60 (.f 2 14) 59 false, .g 61 (.l 60) 59 false, .g 62 (.n 61) 59 false, .g 63 (.m 10) 59 false, .g 64 (.m 12) 59 false, .g 65 (.n 64) 59 false, .g 66 (.b .sub 63 65) 59 false, .g 67 (.c .add 66 1) 59 false, .g 68 (.b .neq 62 67) 59 false, .o 69 (.pick (.tmp 59) (.const (.bool true)) (.tmp 68))]) (.cond (.tmp 69) (.seq (.region [.o 8 (.mv (.const (.bool false)))]) .ret) .skip)) (.seq (.region [.o 71 (.ld true 3 (.tmp 14)), .m 72 3, .m 73 9, .o 74 (.f 2 14), .o 75 (.l 74), .o 76 (.n 75),⟨(some 77),(.call 27 [(.tmp 72),(.const (.int .i64 0)),(.tmp 73),(.tmp 76)]),none,true⟩, .o 78 (.q 29 [71,77]), .m 70 78, .o 79 (.e 0 70), .o 80 (.e 1 70), .m 16 79, .m 13 80]) (.seq (.seq (.region [.m 81 13, .o 82 (.c .neq 81 0), .m 83 82, .g 84 (.m 16) 83 false, .g 85 (.n 84) 83 false, .g 86 (.m 10) 83 false, .g 87 (.b .neq 85 86) 83 false, .o 88 (.pick (.tmp 83) (.const (.bool true)) (.tmp 87))]) (.cond (.tmp 88) (.seq (.region [.o 8 (.mv (.const (.bool false)))]) .ret) .skip)) (.seq (.region [.o 90 (.ldb true 3 (.tmp 14)), .m 91 16, .m 92 10, .o 93 (.c .sub 92 1), .o 94 (.i 1 91 93), .o 95 (.l 94), .o 96 (.mkSl 3 1 1 [(.tmp 95)]), .m 97 16, .m 98 10, .o 99 (.c .sub 98 1), .o 100 (.sl 1 (.tmp 97) none (some (.tmp 99))), .o 101 (.app 3 1 8 (.tmp 96) (.tmp 100)), .o 102 (.q 30 [90,101]), .m 89 102, .o 103 (.e 0 89), .o 104 (.e 1 89), .m 17 103, .m 13 104]) (.seq (.region [.m 105 13, .o 106 (.c .eql 105 0), .m 107 106, .g 108 (.m 17) 107 true, .o 109 (.pick (.tmp 107) (.tmp 108) (.const (.bool false))), .m 8 109]) .ret)))))))))))
def F5:AFun:=⟨c5,4,110,[(.tmp 8)]⟩
def K5:Nat→List Nat×List Nat
 |_=>([],[])
theorem F5_ok:kj8 Tryz.prog K5 noRg Tryz.f5=some F5:=by kernel_rfl
/- 10: syndrome/cyclic.Cosets -/
def c10L0:ACode:=(.seq (.seq (.region [.m 41 9, .m 42 12, .o 43 (.mget .i64 (.bool false) (.tmp 41) (.tmp 42)), .o 44 (.un .not (.tmp 43))]) (.cond (.tmp 44) .skip (.exit 2))) (.seq (.block 3 [0,1,8,9,11,12,33,34] (.seq (.region [.m 50 9, .m 51 12, .n (.mput .i64 (.tmp 50) (.tmp 51) (.const (.bool true)))]) (.region [.m 52 11, .m 53 12, .o 54 (.mkSl 3 1 1 [(.tmp 53)]), .o 55 (.app 3 1 8 (.tmp 52) (.tmp 54)), .m 11 55]))) (.region [.m 45 12, .m 46 0, .o 47 (.b .mul 45 46), .m 48 1, .o 49 (.b .rem 47 48), .m 12 49])))
def c10L1:ACode:=(.seq (.region [.o 35 (.b .lss 34 33)]) (.seq (.cond (.tmp 35) .skip (.exit 0)) (.seq (.block 1 [0,1,8,9,33,34] (.seq (.region [.m 36 34, .m 10 36]) (.seq (.seq (.region [.m 37 9, .m 38 10, .o 39 (.mget .i64 (.bool false) (.tmp 37) (.tmp 38))]) (.cond (.tmp 39) (.exit 1) .skip)) (.seq (.region [.o 11 (.mv (.const (.slice none 0 0)))]) (.seq (.seq (.region [.m 40 10, .m 12 40]) (.block 2 [0,1,8,9,11,33,34] (.loop [0,1,8,9,11,12,33,34] c10L0))) (.seq (.region [.m 56 11, .o 57 (.q 50 [56])]) (.region [.m 58 8, .m 59 11, .o 60 (.mkSl 22 1 1 [(.tmp 59)]), .o 61 (.app 22 1 24 (.tmp 58) (.tmp 60)), .m 8 61]))))))) (.region [.o 62 (.c .add 34 1), .m 34 62]))))
def c10:ACode:=(.seq (.region [.o 4 (.mv (.const (.slice none 0 0))), .k 5 0]) (.seq (.region [.m 14 0, .o 15 (.q 48 [14]), .m 13 15, .o 16 (.e 0 13), .o 17 (.e 1 13), .m 6 16, .m 7 17]) (.seq (.seq (.region [.m 18 7, .o 19 (.c .neq 18 0)]) (.cond (.tmp 19) (.seq (.region [.m 20 7, .o 4 (.mv (.const (.slice none 0 0))), .m 5 20]) .ret) .skip)) (.seq (.seq (.region [.m 21 1, .o 22 (.c .lss 21 1), .m 23 22, .g 24 (.m 1) 23 false, .g 25 (.c .gtr 24 64) 23 false, .o 26 (.pick (.tmp 23) (.const (.bool true)) (.tmp 25))]) (.cond (.tmp 26) (.seq (.region [.o 4 (.mv (.const (.slice none 0 0))), .k 5 4]) .ret) .skip)) (.seq (.seq (.region [.m 27 1, .m 28 6, .o 29 (.q 49 [28]), .o 30 (.b .rem 27 29), .o 31 (.c .eql 30 0)]) (.cond (.tmp 31) (.seq (.region [.o 4 (.mv (.const (.slice none 0 0))), .k 5 3]) .ret) .skip)) (.seq (.region [.o 8 (.mv (.const (.slice none 0 0)))]) (.seq (.region [.o 32 (.mmk 1000000075), .m 9 32]) (.seq (.seq (.region [.m 33 1, .k 34 0]) (.block 0 [8] (.loop [0,1,8,9,33,34] c10L1))) (.seq (.region [.m 63 8, .m 4 63, .k 5 0]) .ret)))))))))
def F10:AFun:=⟨c10,2,64,[(.tmp 4),(.tmp 5)]⟩
def K10:Nat→List Nat×List Nat
 |0=>([0,1,8,9,33,34],[8])
 |1=>([],[0,1,8,9,33,34])
 |2=>([0,1,8,9,11,12,33,34],[0,1,8,9,11,33,34])
 |3=>([],[0,1,8,9,11,12,33,34])
 |_=>([],[])
theorem F10_ok:kj8 Tryz.prog K10 noRg Tryz.f10=some F10:=by kernel_rfl
/- 13: syndrome/cyclic.Generator -/
def c13L0:ACode:=(.seq (.region [.o 43 (.b .lss 42 41)]) (.seq (.cond (.tmp 43) .skip (.exit 0)) (.seq (.block 1 [0,10,11,12,40,41,42] (.seq (.region [.o 44 (.i 1 40 42), .o 45 (.l 44), .m 14 45]) (.region [.m 47 10, .o 48 (.q 56 [47]), .m 49 12, .m 50 10, .m 51 10, .m 52 11, .m 53 14, .o 54 (.q 58 [51,52,53]), .o 55 (.q 57 [50,54]), .o 56 (.mkSl 3 1 2 [(.tmp 55),(.const (.int .i64 1))]), .o 57 (.q 55 [48,49,56]), .m 46 57, .o 58 (.e 0 46), .o 59 (.e 1 46), .m 12 58]))) (.region [.o 60 (.c .add 42 1), .m 42 60]))))
def c13L1:ACode:=(.seq (.region [.o 71 (.b .lss 70 69)]) (.seq (.cond (.tmp 71) .skip (.exit 2)) (.seq (.block 3 [12,15,68,69,70] (.seq (.region [.m 72 70, .o 73 (.i 1 68 70), .o 74 (.l 73), .m 17 72, .m 18 74]) (.region [.m 75 12, .m 76 17, .m 77 15, .m 78 18, .o 79 (.q 60 [77,78]), .o 80 (.i 1 75 76), .n (.st 1 (.tmp 80) (.tmp 79))]))) (.region [.o 81 (.c .add 70 1), .m 70 81]))))
def c13:ACode:=(.seq (.region [.o 6 (.mv (.const (.slice none 0 0))), .k 7 0]) (.seq (.region [.m 20 0, .m 21 1, .m 22 2, .o 23 (.q 53 [20,21,22]), .m 19 23, .o 24 (.e 0 19), .o 25 (.e 1 19), .m 8 24, .m 9 25]) (.seq (.seq (.region [.m 26 9, .o 27 (.c .neq 26 0)]) (.cond (.tmp 27) (.seq (.region [.m 28 9, .o 6 (.mv (.const (.slice none 0 0))), .m 7 28]) .ret) .skip)) (.seq (.region [.m 30 0, .m 31 1, .o 32 (.q 54 [30,31]), .m 29 32, .o 33 (.e 0 29), .o 34 (.e 1 29), .o 35 (.e 2 29), .m 10 33, .m 11 34, .m 9 35]) (.seq (.seq (.region [.m 36 9, .o 37 (.c .neq 36 0)]) (.cond (.tmp 37) (.seq (.region [.m 38 9, .o 6 (.mv (.const (.slice none 0 0))), .m 7 38]) .ret) .skip)) (.seq (.region [.o 39 (.mkSl 3 1 1 [(.const (.int .i64 1))]), .m 12 39]) (.seq (.seq (.region [.m 40 8, .o 41 (.n 40), .k 42 0]) (.block 0 [0,10,12] (.loop [0,10,11,12,40,41,42] c13L0))) (.seq (.region [.m 62 0, .m 63 10, .o 64 (.q 56 [63]), .o 65 (.q 59 [62,64]), .m 61 65, .o 66 (.e 0 61), .o 67 (.e 1 61), .m 15 66, .m 16 67]) (.seq (.seq (.region [.m 68 12, .o 69 (.n 68), .k 70 0]) (.block 2 [12] (.loop [12,15,68,69,70] c13L1))) (.seq (.region [.m 82 12, .m 6 82, .k 7 0]) .ret))))))))))
def F13:AFun:=⟨c13,3,83,[(.tmp 6),(.tmp 7)]⟩
def K13:Nat→List Nat×List Nat
 |0=>([0,10,11,12,40,41,42],[0,10,12])
 |1=>([],[0,10,11,12,40,41,42])
 |2=>([12,15,68,69,70],[12])
 |3=>([],[12,15,68,69,70])
 |_=>([],[])
theorem F13_ok:kj8 Tryz.prog K13 noRg Tryz.f13=some F13:=by kernel_rfl
/- 19: syndrome/cyclic.Of -/
def c19L0:ACode:=(.seq (.seq (.region [.m 72 16, .m 73 2, .o 74 (.n 73), .o 75 (.b .add 72 74), .m 76 1, .o 77 (.b .leq 75 76)]) (.cond (.tmp 77) .skip (.exit 0))) (.seq (.block 1 [1,2,6,15,16] (.seq (.region [.m 80 1, .o 81 (.mks 3 1 8 [(.int .i64 0)] (.tmp 80) (.tmp 80)), .m 17 81]) (.seq (.region [.m 82 17, .m 83 16, .o 84 (.sl 1 (.tmp 82) (some (.tmp 83)) none), .m 85 2, .o 86 (.cpy 1 (.tmp 84) (.tmp 85))]) (.region [.o 87 (.f 2 15), .o 88 (.l 87), .m 89 17, .o 90 (.mkSl 22 1 1 [(.tmp 89)]), .o 91 (.app 22 1 24 (.tmp 88) (.tmp 90)), .o 92 (.f 2 15), .n (.st 1 (.tmp 92) (.tmp 91))])))) (.region [.m 78 16, .o 79 (.c .add 78 1), .m 16 79])))
def c19:ACode:=(.seq (.region [.o 6 (.alloc 35 [(.int .i64 0),(.int .i64 0),(.slice none 0 0)]), .k 7 0]) (.seq (.seq (.region [.m 18 0, .m 19 2, .o 20 (.q 71 [18,19]), .m 8 20]) (.seq (.region [.m 21 8, .o 22 (.c .neq 21 0)]) (.cond (.tmp 22) (.seq (.region [.o 23 (.build [(.int .i64 0),(.int .i64 0),(.slice none 0 0)] [(0,1),(1,1),(2,1)] []), .m 24 8, .n (.st 3 (.tmp 6) (.tmp 23)), .m 7 24]) .ret) .skip))) (.seq (.seq (.region [.m 25 1, .o 26 (.c .lss 25 1), .m 27 26, .g 28 (.m 1) 27 false, .g 29 (.c .gtr 28 64) 27 false, .o 30 (.pick (.tmp 27) (.const (.bool true)) (.tmp 29))]) (.cond (.tmp 30) (.seq (.region [.o 31 (.build [(.int .i64 0),(.int .i64 0),(.slice none 0 0)] [(0,1),(1,1),(2,1)] []), .n (.st 3 (.tmp 6) (.tmp 31)), .k 7 4]) .ret) .skip)) (.seq (.region [.m 33 0, .o 34 (.q 48 [33]), .m 32 34, .o 35 (.e 0 32), .o 36 (.e 1 32), .m 9 35, .m 10 36]) (.seq (.region [.m 37 1, .o 38 (.c .add 37 1), .o 39 (.mks 3 1 8 [(.int .i64 0)] (.tmp 38) (.tmp 38)), .m 11 39]) (.seq (.region [.m 40 11, .m 41 11, .m 42 1, .m 43 9, .o 44 (.call 57 [(.tmp 43),(.const (.int .i64 1))]), .o 45 (.iaddr 1 (.tmp 40) (.const (.int .i64 0))), .n (.st 1 (.tmp 45) (.tmp 44)), .o 46 (.i 1 41 42), .n (.st 1 (.tmp 46) (.const (.int .i64 1)))]) (.seq (.region [.m 48 0, .m 49 11, .m 50 2, .o 51 (.q 72 [48,49,50]), .m 47 51, .o 52 (.e 0 47), .o 53 (.e 1 47), .o 54 (.e 2 47), .m 12 52, .m 13 53, .m 14 54]) (.seq (.seq (.region [.m 55 14, .o 56 (.c .neq 55 0)]) (.cond (.tmp 56) (.seq (.region [.o 57 (.build [(.int .i64 0),(.int .i64 0),(.slice none 0 0)] [(0,1),(1,1),(2,1)] []), .m 58 14, .n (.st 3 (.tmp 6) (.tmp 57)), .m 7 58]) .ret) .skip)) (.seq (.seq (.region [.m 59 13, .o 60 (.n 59), .o 61 (.c .gtr 60 0)]) (.cond (.tmp 61) (.seq (.region [.o 62 (.build [(.int .i64 0),(.int .i64 0),(.slice none 0 0)] [(0,1),(1,1),(2,1)] []), .n (.st 3 (.tmp 6) (.tmp 62)), .k 7 3]) .ret) .skip)) (.seq (.region [.m 64 0, .m 65 2, .o 66 (.call 73 [(.tmp 64),(.tmp 65),(.const (.slice none 0 0))]), .m 63 66, .o 67 (.e 0 63), .o 68 (.e 1 63), .m 2 67]) (.seq (.region [.m 69 0, .m 70 1, .o 71 (.build [(.int .i64 0),(.int .i64 0),(.slice none 0 0)] [(0,1),(1,1),(2,1)] [(0,(.tmp 69)),(1,(.tmp 70))]), .o 15 (.alloc 35 [(.int .i64 0),(.int .i64 0),(.slice none 0 0)]), .n (.st 3 (.tmp 15) (.tmp 71))]) (.seq (.seq (.region [.k 16 0]) (.block 0 [6,15] (.loop [1,2,6,15,16] c19L0))) (.seq (.region [.o 93 (.ld true 3 (.tmp 15)), .o 94 (.q 74 [93]), .o 95 (.e 0 94), .o 96 (.e 1 94), .n (.st 3 (.tmp 6) (.tmp 95)), .m 7 96]) .ret)))))))))))))
def F19:AFun:=⟨c19,3,97,[(.cell 6 true 3),(.tmp 7)]⟩
def K19:Nat→List Nat×List Nat
 |0=>([1,2,6,15,16],[6,15])
 |1=>([],[1,2,6,15,16])
 |_=>([],[])
theorem F19_ok:kj8 Tryz.prog K19 noRg Tryz.f19=some F19:=by kernel_rfl
/- 26: syndrome/syndromeref.Pick -/
def c26:ACode:=(.seq (.region [.k 4 0]) (.seq (.seq (.region [.m 5 0, .o 6 (.c .lss 5 0)]) (.cond (.tmp 6) (.region [.m 7 0, .o 8 (.c .add 7 1), .o 9 (.un .neg (.tmp 8)), .m 0 9]) .skip)) (.seq (.region [.m 10 0, .m 11 1, .o 12 (.b .rem 10 11), .m 4 12]) .ret)))
def F26:AFun:=⟨c26,2,13,[(.tmp 4)]⟩
def K26:Nat→List Nat×List Nat
 |_=>([],[])
theorem F26_ok:kj8 Tryz.prog K26 noRg Tryz.f26=some F26:=by kernel_rfl
/- 27: syndrome/syndromeref.Numbers -/
def c27L0:ACode:=(.seq (.seq (.region [.m 11 10, .m 12 3, .o 13 (.b .lss 11 12)]) (.cond (.tmp 13) .skip (.exit 0))) (.seq (.block 1 [0,1,2,3,9,10] (.region [.m 16 9, .m 17 0, .m 18 1, .m 19 10, .o 20 (.b .add 18 19), .o 21 (.q 80 [17,20]), .m 22 2, .o 23 (.q 26 [21,22]), .o 24 (.mkSl 3 1 1 [(.tmp 23)]), .o 25 (.app 3 1 8 (.tmp 16) (.tmp 24)), .m 9 25])) (.region [.m 14 10, .o 15 (.c .add 14 1), .m 10 15])))
def c27:ACode:=(.seq (.region [.o 8 (.mv (.const (.slice none 0 0)))]) (.seq (.region [.o 9 (.mv (.const (.slice none 0 0)))]) (.seq (.seq (.region [.k 10 0]) (.block 0 [9] (.loop [0,1,2,3,9,10] c27L0))) (.seq (.region [.m 26 9, .m 8 26]) .ret))))
def F27:AFun:=⟨c27,4,27,[(.tmp 8)]⟩
def K27:Nat→List Nat×List Nat
 |0=>([0,1,2,3,9,10],[9])
 |1=>([],[0,1,2,3,9,10])
 |_=>([],[])
theorem F27_ok:kj8 Tryz.prog K27 noRg Tryz.f27=some F27:=by kernel_rfl
/- 28: syndrome/syndrometop.sizeOf -/
def c28:ACode:=(.seq (.region [.k 2 0, .k 3 0]) (.seq (.region [.o 6 (.mkSl 3 1 2 [(.const (.int .i64 2)),(.const (.int .i64 3))]), .o 7 (.mkSl 3 1 2 [(.const (.int .i64 2)),(.const (.int .i64 5))]), .o 8 (.mkSl 3 1 2 [(.const (.int .i64 2)),(.const (.int .i64 7))]), .o 9 (.mkSl 3 1 2 [(.const (.int .i64 2)),(.const (.int .i64 9))]), .o 10 (.mkSl 3 1 2 [(.const (.int .i64 2)),(.const (.int .i64 15))]), .o 11 (.mkSl 3 1 2 [(.const (.int .i64 2)),(.const (.int .i64 21))]), .o 12 (.mkSl 3 1 2 [(.const (.int .i64 3)),(.const (.int .i64 4))]), .o 13 (.mkSl 3 1 2 [(.const (.int .i64 3)),(.const (.int .i64 8))]), .o 14 (.mkSl 3 1 2 [(.const (.int .i64 3)),(.const (.int .i64 13))]), .o 15 (.mkSl 3 1 2 [(.const (.int .i64 4)),(.const (.int .i64 3))]), .o 16 (.mkSl 3 1 2 [(.const (.int .i64 4)),(.const (.int .i64 5))]), .o 17 (.mkSl 3 1 2 [(.const (.int .i64 4)),(.const (.int .i64 15))]), .o 18 (.mkSl 3 1 2 [(.const (.int .i64 5)),(.const (.int .i64 4))]), .o 19 (.mkSl 3 1 2 [(.const (.int .i64 5)),(.const (.int .i64 6))]), .o 20 (.mkSl 3 1 2 [(.const (.int .i64 7)),(.const (.int .i64 6))]), .o 21 (.mkSl 3 1 2 [(.const (.int .i64 8)),(.const (.int .i64 7))]), .o 22 (.mkSl 3 1 2 [(.const (.int .i64 8)),(.const (.int .i64 9))]), .o 23 (.mkSl 3 1 2 [(.const (.int .i64 9)),(.const (.int .i64 8))]), .o 24 (.mkSl 22 1 18 [(.tmp 6),(.tmp 7),(.tmp 8),(.tmp 9),(.tmp 10),(.tmp 11),(.tmp 12),(.tmp 13),(.tmp 14),(.tmp 15),(.tmp 16),(.tmp 17),(.tmp 18),(.tmp 19),(.tmp 20),(.tmp 21),(.tmp 22),(.tmp 23)]), .m 4 24]) (.seq (.region [.m 25 4, .m 26 0, .m 27 4, .o 28 (.n 27), .o 29 (.q 26 [26,28]), .o 30 (.i 1 25 29), .o 31 (.l 30), .m 5 31]) (.seq (.region [.m 32 5, .o 33 (.iaddr 1 (.tmp 32) (.const (.int .i64 0))), .o 34 (.l 33), .m 35 5, .o 36 (.iaddr 1 (.tmp 35) (.const (.int .i64 1))), .o 37 (.l 36), .m 2 34, .m 3 37]) .ret))))
def F28:AFun:=⟨c28,1,38,[(.tmp 2),(.tmp 3)]⟩
def K28:Nat→List Nat×List Nat
 |_=>([],[])
theorem F28_ok:kj8 Tryz.prog K28 noRg Tryz.f28=some F28:=by kernel_rfl
/- 29: syndrome/code.Encode -/
def c29:ACode:=(.seq (.region [.o 2 (.box 35 3 (.tmp 0)), .o 4 (.mv (.const (.slice none 0 0))), .k 5 0]) (.seq (.region [.o 10 (.ld true 3 (.tmp 2)), .o 11 (.q 74 [10]), .m 9 11, .o 12 (.e 0 9), .o 13 (.e 1 9), .n (.st 3 (.tmp 2) (.tmp 12)), .m 6 13]) (.seq (.seq (.region [.m 14 6, .o 15 (.c .neq 14 0)]) (.cond (.tmp 15) (.seq (.region [.m 16 6, .o 4 (.mv (.const (.slice none 0 0))), .m 5 16]) .ret) .skip)) (.seq (.seq (.region [.m 17 1, .o 18 (.n 17), .o 19 (.f 2 2), .o 20 (.l 19), .o 21 (.n 20), .o 22 (.b .neq 18 21)]) (.cond (.tmp 22) (.seq (.region [.o 4 (.mv (.const (.slice none 0 0))), .k 5 6]) .ret) .skip)) (.seq (.region [.o 24 (.f 0 2), .o 25 (.l 24), .o 26 (.q 48 [25]), .m 23 26, .o 27 (.e 0 23), .o 28 (.e 1 23), .o 7 (.alloc 71 [(.pointer none)]), .n (.st 1 (.tmp 7) (.tmp 27)), .m 8 28]) (.seq (.seq (.region [.m 29 1, .o 30 (.mkf 82 [(.tmp 7)]), .o 31 (.q 81 [29,30])]) (.cond (.tmp 31) (.seq (.region [.o 4 (.mv (.const (.slice none 0 0))), .k 5 2]) .ret) .skip)) (.seq (.region [.o 32 (.l 7), .o 33 (.ld true 3 (.tmp 2)), .m 34 1, .o 35 (.q 84 [32,33,34]), .m 4 35, .k 5 0]) .ret)))))))
def F29:AFun:=⟨c29,2,36,[(.tmp 4),(.tmp 5)]⟩
def K29:Nat→List Nat×List Nat
 |_=>([],[])
theorem F29_ok:kj8 Tryz.prog K29 noRg Tryz.f29=some F29:=by kernel_rfl
/- 30: syndrome/code.Has -/
def c30:ACode:=(.seq (.region [.o 2 (.box 35 3 (.tmp 0)), .o 4 (.mv (.const (.bool false))), .k 5 0]) (.seq (.region [.o 9 (.ld true 3 (.tmp 2)), .m 10 1, .o 11 (.q 85 [9,10]), .m 8 11, .o 12 (.e 0 8), .o 13 (.e 1 8), .m 6 12, .m 7 13]) (.seq (.region [.m 14 7, .o 15 (.c .eql 14 0), .m 16 15, .g 17 (.m 6) 16 true, .g 18 (.call 81 [(.tmp 17),(.func 86)]) 16 true, .g 19 (.un .not (.tmp 18)) 16 true, .o 20 (.pick (.tmp 16) (.tmp 19) (.const (.bool false))), .m 21 7, .m 4 20, .m 5 21]) .ret)))
def F30:AFun:=⟨c30,2,22,[(.tmp 4),(.tmp 5)]⟩
def K30:Nat→List Nat×List Nat
 |_=>([],[])
theorem F30_ok:kj8 Tryz.prog K30 noRg Tryz.f30=some F30:=by kernel_rfl
/- 48: syndrome/field.New -/
def sh7:List Value:=[(.int .u32 0),(.int .i32 0),(.int .u32 0),(.int .u32 0),(.int .i32 0),(.int .u32 0),(.int .u32 0),(.int .i32 0),(.int .u32 0),(.int .u32 0),(.int .i32 0),(.int .u32 0),(.int .u32 0),(.int .i32 0),(.int .u32 0),(.int .u32 0),(.int .i32 0),(.int .u32 0),(.int .u32 0),(.int .i32 0),(.int .u32 0),(.int .u32 0),(.int .i32 0),(.int .u32 0),(.int .u32 0),(.int .i32 0),(.int .u32 0),(.int .u32 0),(.int .i32 0),(.int .u32 0),(.int .u32 0),(.int .i32 0),(.int .u32 0),(.int .u32 0),(.int .i32 0),(.int .u32 0),(.int .u32 0),(.int .i32 0),(.int .u32 0),(.int .u32 0),(.int .i32 0),(.int .u32 0),(.int .u32 0),(.int .i32 0),(.int .u32 0),(.int .u32 0),(.int .i32 0),(.int .u32 0),(.int .u32 0),(.int .i32 0),(.int .u32 0),(.int .u32 0),(.int .i32 0),(.int .u32 0),(.int .u32 0),(.int .i32 0),(.int .u32 0),(.int .u32 0),(.int .i32 0),(.int .u32 0),(.int .u32 0),(.int .i32 0),(.int .u32 0),(.int .u32 0),(.int .i32 0),(.int .u32 0),(.int .u32 0),(.int .i32 0),(.int .u32 0),(.int .u32 0),(.int .i32 0),(.int .u32 0),(.int .u32 0),(.int .i32 0),(.int .u32 0),(.int .u32 0),(.int .i32 0),(.int .u32 0),(.int .u32 0),(.int .i32 0),(.int .u32 0),(.int .u32 0),(.int .i32 0),(.int .u32 0),(.int .u32 0),(.int .i32 0),(.int .u32 0),(.int .u32 0),(.int .i32 0),(.int .u32 0),(.int .u32 0),(.int .i32 0),(.int .u32 0),(.int .u32 0),(.int .i32 0),(.int .u32 0),(.int .u32 0),(.int .i32 0),(.int .u32 0),(.int .u32 0),(.int .i32 0),(.int .u32 0),(.int .u32 0),(.int .i32 0),(.int .u32 0),(.int .u32 0),(.int .i32 0),(.int .u32 0),(.int .u32 0),(.int .i32 0),(.int .u32 0),(.int .u32 0),(.int .i32 0),(.int .u32 0),(.int .u32 0),(.int .i32 0),(.int .u32 0),(.int .u32 0),(.int .i32 0),(.int .u32 0),(.int .u32 0),(.int .i32 0),(.int .u32 0),(.int .u32 0),(.int .i32 0),(.int .u32 0),(.int .u32 0),(.int .i32 0),(.int .u32 0),(.int .u32 0),(.int .i32 0),(.int .u32 0),(.int .u32 0),(.int .i32 0),(.int .u32 0),(.int .u32 0),(.int .i32 0),(.int .u32 0),(.int .u32 0),(.int .i32 0),(.int .u32 0),(.int .u32 0),(.int .i32 0),(.int .u32 0),(.int .u32 0),(.int .i32 0),(.int .u32 0),(.int .u32 0),(.int .i32 0),(.int .u32 0),(.int .u32 0),(.int .i32 0),(.int .u32 0),(.int .u32 0),(.int .i32 0),(.int .u32 0),(.int .u32 0),(.int .i32 0),(.int .u32 0),(.int .u32 0),(.int .i32 0),(.int .u32 0),(.int .u32 0),(.int .i32 0),(.int .u32 0),(.int .u32 0),(.int .i32 0),(.int .u32 0),(.int .u32 0),(.int .i32 0),(.int .u32 0),(.int .u32 0),(.int .i32 0),(.int .u32 0),(.int .u32 0),(.int .i32 0),(.int .u32 0),(.int .u32 0),(.int .i32 0),(.int .u32 0),(.int .u32 0),(.int .i32 0),(.int .u32 0),(.int .u32 0),(.int .i32 0),(.int .u32 0),(.int .u32 0),(.int .i32 0),(.int .u32 0),(.int .u32 0),(.int .i32 0),(.int .u32 0),(.int .u32 0),(.int .i32 0),(.int .u32 0),(.pointer none),(.pointer none),(.pointer none),(.pointer none),(.pointer none),(.pointer none),(.pointer none),(.pointer none),(.pointer none),(.pointer none),(.pointer none),(.pointer none),(.pointer none),(.pointer none),(.pointer none),(.pointer none),(.pointer none),(.pointer none),(.pointer none),(.pointer none),(.pointer none),(.pointer none),(.pointer none),(.pointer none),(.pointer none),(.pointer none),(.pointer none),(.pointer none),(.pointer none),(.pointer none),(.pointer none),(.pointer none),(.pointer none),(.pointer none),(.pointer none),(.pointer none),(.pointer none),(.pointer none),(.pointer none),(.pointer none),(.pointer none),(.pointer none),(.pointer none),(.pointer none),(.pointer none),(.pointer none),(.pointer none),(.pointer none),(.pointer none),(.pointer none),(.pointer none),(.pointer none),(.pointer none),(.pointer none),(.pointer none),(.pointer none),(.pointer none),(.pointer none),(.pointer none),(.pointer none),(.pointer none),(.pointer none),(.pointer none),(.pointer none),(.pointer none)]
def c48:ACode:=(.seq (.region [.o 1 (.box 3 1 (.tmp 0)), .o 2 (.mv (.const (.pointer none))), .k 3 0]) (.seq (.seq (.region [.o 5 (.l 1), .o 6 (.c .lss 5 2), .m 7 6, .g 8 (.l 1) 7 false, .g 9 (.c .gtr 8 64) 7 false, .o 10 (.pick (.tmp 7) (.const (.bool true)) (.tmp 9))]) (.cond (.tmp 10) (.seq (.region [.o 2 (.mv (.const (.pointer none))), .k 3 1]) .ret) .skip)) (.seq (.region [.o 4 (.alloc 131 sh7)]) (.seq (.region [.o 11 (.l 1), .o 12 (.f 0 4), .o 13 (.iaddrA 65 3 (.tmp 12) (.tmp 11)), .o 14 (.mkf 104 [(.tmp 1),(.tmp 4)]), .o 15 (.q 103 [13,14])]) (.seq (.seq (.region [.o 16 (.l 1), .o 17 (.f 195 4), .o 18 (.iaddrA 65 1 (.tmp 17) (.tmp 16)), .o 19 (.l 18), .o 20 (.eqn false 1 (.tmp 19))]) (.cond (.tmp 20) (.seq (.region [.o 2 (.mv (.const (.pointer none))), .k 3 1]) .ret) .skip)) (.seq (.region [.o 21 (.l 1), .o 22 (.f 195 4), .o 23 (.iaddrA 65 1 (.tmp 22) (.tmp 21)), .o 24 (.l 23), .m 2 24, .k 3 0]) .ret))))))
def F48:AFun:=⟨c48,1,25,[(.tmp 2),(.tmp 3)]⟩
def K48:Nat→List Nat×List Nat
 |_=>([],[])
theorem F48_ok:kj8 Tryz.prog K48 noRg Tryz.f48=some F48:=by kernel_rfl
/- 49: (*syndrome/field.Field).Char -/
def c49:ACode:=(.seq (.region [.k 2 0]) (.seq (.region [.m 3 0, .o 4 (.nilck (.tmp 3)), .o 5 (.f 1 4), .o 6 (.l 5), .m 2 6]) .ret))
def F49:AFun:=⟨c49,1,7,[(.tmp 2)]⟩
def K49:Nat→List Nat×List Nat
 |_=>([],[])
theorem F49_ok:kj8 Tryz.prog K49 noRg Tryz.f49=some F49:=by kernel_rfl
/- 50: slices.Sort[[]int,int] -/
def c50:ACode:=(.seq (.region [.m 3 0, .o 4 (.n 3), .m 2 4]) (.region [.m 5 0, .m 6 2, .m 7 2, .o 8 (.conv .u64 (.tmp 7)), .o 9 (.q 107 [8]), .o 10 (.call 106 [(.tmp 5),(.const (.int .i64 0)),(.tmp 6),(.tmp 9)])]))
def F50:AFun:=⟨c50,1,11,[]⟩
def K50:Nat→List Nat×List Nat
 |_=>([],[])
theorem F50_ok:kj8 Tryz.prog K50 noRg Tryz.f50=some F50:=by kernel_rfl
/- 53: syndrome/cyclic.closed -/
def c53L0:ACode:=(.seq (.region [.o 31 (.b .lss 30 29)]) (.seq (.cond (.tmp 31) .skip (.exit 0)) (.seq (.block 1 [5,10,28,29,30] (.seq (.region [.o 32 (.i 1 28 30), .o 33 (.l 32), .m 12 33]) (.seq (.region [.m 34 12, .o 35 (.mkf 112 [(.tmp 5)]), .o 36 (.q 81 [34,35])]) (.cond (.tmp 36) (.region [.m 37 10, .m 38 12, .o 39 (.app 3 1 8 (.tmp 37) (.tmp 38)), .m 10 39]) .skip)))) (.region [.o 40 (.c .add 30 1), .m 30 40]))))
def c53:ACode:=(.seq (.region [.o 4 (.box 3 1 (.tmp 1)), .o 5 (.box 22 1 (.tmp 2)), .o 6 (.mv (.const (.slice none 0 0))), .k 7 0]) (.seq (.region [.m 14 0, .o 15 (.l 4), .o 16 (.q 10 [14,15]), .m 13 16, .o 17 (.e 0 13), .o 18 (.e 1 13), .m 8 17, .m 9 18]) (.seq (.seq (.region [.m 19 9, .o 20 (.c .neq 19 0)]) (.cond (.tmp 20) (.seq (.region [.m 21 9, .o 6 (.mv (.const (.slice none 0 0))), .m 7 21]) .ret) .skip)) (.seq (.seq (.region [.o 22 (.l 5), .o 23 (.n 22), .o 24 (.c .gtr 23 64)]) (.cond (.tmp 24) (.seq (.region [.o 6 (.mv (.const (.slice none 0 0))), .k 7 4]) .ret) .skip)) (.seq (.seq (.region [.o 25 (.l 5), .o 26 (.mkf 111 [(.tmp 4)]), .o 27 (.q 81 [25,26])]) (.cond (.tmp 27) (.seq (.region [.o 6 (.mv (.const (.slice none 0 0))), .k 7 10]) .ret) .skip)) (.seq (.region [.o 10 (.mv (.const (.slice none 0 0)))]) (.seq (.seq (.region [.m 28 8, .o 29 (.n 28), .k 30 0]) (.block 0 [10] (.loop [5,10,28,29,30] c53L0))) (.seq (.region [.m 41 10, .o 42 (.q 50 [41])]) (.seq (.region [.m 43 10, .m 6 43, .k 7 0]) .ret)))))))))
def F53:AFun:=⟨c53,3,44,[(.tmp 6),(.tmp 7)]⟩
def K53:Nat→List Nat×List Nat
 |0=>([5,10,28,29,30],[10])
 |1=>([],[5,10,28,29,30])
 |_=>([],[])
theorem F53_ok:kj8 Tryz.prog K53 noRg Tryz.f53=some F53:=by kernel_rfl
/- 54: syndrome/cyclic.home -/
def c54L0:ACode:=(.seq (.seq (.region [.m 32 9, .o 33 (.c .leq 32 64)]) (.cond (.tmp 33) .skip (.exit 0))) (.seq (.block 1 [0,1,9] (.seq (.region [.m 37 9, .o 38 (.c .sub 37 1), .m 39 1, .o 40 (.b .rem 38 39), .o 41 (.c .eql 40 0)]) (.cond (.tmp 41) (.seq (.region [.m 43 9, .o 44 (.q 48 [43]), .m 42 44, .o 45 (.e 0 42), .o 46 (.e 1 42), .m 10 45, .m 11 46]) (.seq (.region [.m 47 10, .m 48 10, .m 49 10, .o 50 (.q 113 [49]), .m 51 9, .o 52 (.c .sub 51 1), .m 53 1, .o 54 (.b .quo 52 53), .o 55 (.q 58 [48,50,54]), .m 4 47, .m 5 55, .k 6 0]) .ret)) .skip))) (.region [.m 34 9, .m 35 0, .o 36 (.b .mul 34 35), .m 9 36])))
def c54:ACode:=(.seq (.region [.o 4 (.mv (.const (.pointer none))), .k 5 0, .k 6 0]) (.seq (.region [.m 13 0, .o 14 (.q 48 [13]), .m 12 14, .o 15 (.e 0 12), .o 16 (.e 1 12), .m 7 15, .m 8 16]) (.seq (.seq (.region [.m 17 8, .o 18 (.c .neq 17 0)]) (.cond (.tmp 18) (.seq (.region [.m 19 8, .o 4 (.mv (.const (.pointer none))), .k 5 0, .m 6 19]) .ret) .skip)) (.seq (.seq (.region [.m 20 1, .o 21 (.c .lss 20 1), .m 22 21, .g 23 (.m 1) 22 false, .g 24 (.c .gtr 23 64) 22 false, .o 25 (.pick (.tmp 22) (.const (.bool true)) (.tmp 24))]) (.cond (.tmp 25) (.seq (.region [.o 4 (.mv (.const (.pointer none))), .k 5 0, .k 6 4]) .ret) .skip)) (.seq (.seq (.region [.m 26 1, .m 27 7, .o 28 (.q 49 [27]), .o 29 (.b .rem 26 28), .o 30 (.c .eql 29 0)]) (.cond (.tmp 30) (.seq (.region [.o 4 (.mv (.const (.pointer none))), .k 5 0, .k 6 3]) .ret) .skip)) (.seq (.seq (.region [.m 31 0, .m 9 31]) (.block 0 [] (.loop [0,1,9] c54L0))) (.seq (.region [.o 4 (.mv (.const (.pointer none))), .k 5 0, .k 6 4]) .ret)))))))
def F54:AFun:=⟨c54,2,56,[(.tmp 4),(.tmp 5),(.tmp 6)]⟩
def K54:Nat→List Nat×List Nat
 |0=>([0,1,9],[])
 |1=>([],[0,1,9])
 |_=>([],[])
theorem F54_ok:kj8 Tryz.prog K54 noRg Tryz.f54=some F54:=by kernel_rfl
/- 55: syndrome/poly.Mul -/
def c55:ACode:=(.seq (.region [.o 6 (.mv (.const (.slice none 0 0))), .k 7 0]) (.seq (.region [.m 11 0, .m 12 1, .m 13 2, .o 14 (.q 114 [11,12,13]), .m 10 14, .o 15 (.e 0 10), .o 16 (.e 1 10), .o 17 (.e 2 10), .o 18 (.e 3 10), .m 8 15, .m 1 16, .m 2 17, .m 9 18]) (.seq (.seq (.region [.m 19 9, .o 20 (.c .neq 19 0)]) (.cond (.tmp 20) (.seq (.region [.m 21 9, .o 6 (.mv (.const (.slice none 0 0))), .m 7 21]) .ret) .skip)) (.seq (.seq (.region [.m 22 1, .o 23 (.n 22), .o 24 (.c .eql 23 0), .m 25 24, .g 26 (.m 2) 25 false, .g 27 (.n 26) 25 false, .g 28 (.c .eql 27 0) 25 false, .o 29 (.pick (.tmp 25) (.const (.bool true)) (.tmp 28))]) (.cond (.tmp 29) (.seq (.region [.o 6 (.mv (.const (.slice none 0 0))), .k 7 0]) .ret) .skip)) (.seq (.seq (.region [.m 30 1, .o 31 (.n 30), .m 32 2, .o 33 (.n 32), .o 34 (.b .add 31 33), .o 35 (.c .sub 34 1), .o 36 (.c .gtr 35 128)]) (.cond (.tmp 36) (.seq (.region [.o 6 (.mv (.const (.slice none 0 0))), .k 7 4]) .ret) .skip)) (.seq (.region [.m 37 8, .m 38 1, .m 39 2, .o 40 (.q 115 [37,38,39]), .m 6 40, .k 7 0]) .ret))))))
def F55:AFun:=⟨c55,3,41,[(.tmp 6),(.tmp 7)]⟩
def K55:Nat→List Nat×List Nat
 |_=>([],[])
theorem F55_ok:kj8 Tryz.prog K55 noRg Tryz.f55=some F55:=by kernel_rfl
/- 56: (*syndrome/field.Field).Size -/
def c56:ACode:=(.seq (.region [.k 2 0]) (.seq (.region [.m 3 0, .o 4 (.nilck (.tmp 3)), .o 5 (.f 0 4), .o 6 (.l 5), .m 2 6]) .ret))
def F56:AFun:=⟨c56,1,7,[(.tmp 2)]⟩
def K56:Nat→List Nat×List Nat
 |_=>([],[])
theorem F56_ok:kj8 Tryz.prog K56 noRg Tryz.f56=some F56:=by kernel_rfl
/- 57: (*syndrome/field.Field).Neg -/
def c57L0:ACode:=(.seq (.region [.o 16 (.b .lss 15 14)]) (.seq (.cond (.tmp 16) .skip (.exit 0)) (.seq (.block 1 [0,1,5,6,14,15] (.seq (.region [.m 17 5, .m 18 0, .o 19 (.nilck (.tmp 18)), .o 20 (.f 1 19), .o 21 (.l 20), .m 22 1, .m 23 0, .o 24 (.nilck (.tmp 23)), .o 25 (.f 1 24), .o 26 (.l 25), .o 27 (.b .rem 22 26), .o 28 (.b .sub 21 27), .m 29 0, .o 30 (.nilck (.tmp 29)), .o 31 (.f 1 30), .o 32 (.l 31), .o 33 (.b .rem 28 32), .m 34 6, .o 35 (.b .mul 33 34), .o 36 (.b .add 17 35), .m 5 36]) (.region [.m 37 1, .m 38 0, .o 39 (.nilck (.tmp 38)), .o 40 (.f 1 39), .o 41 (.l 40), .o 42 (.b .quo 37 41), .m 43 6, .m 44 0, .o 45 (.nilck (.tmp 44)), .o 46 (.f 1 45), .o 47 (.l 46), .o 48 (.b .mul 43 47), .m 1 42, .m 6 48]))) (.region [.o 49 (.c .add 15 1), .m 15 49]))))
def c57:ACode:=(.seq (.region [.k 4 0]) (.seq (.seq (.region [.m 7 0, .m 8 1, .o 9 (.q 83 [7,8]), .o 10 (.un .not (.tmp 9))]) (.cond (.tmp 10) (.seq (.region [.k 4 (-1)]) .ret) .skip)) (.seq (.region [.k 5 0, .k 6 1]) (.seq (.seq (.region [.m 11 0, .o 12 (.nilck (.tmp 11)), .o 13 (.f 2 12), .o 14 (.l 13), .k 15 0]) (.block 0 [5] (.loop [0,1,5,6,14,15] c57L0))) (.seq (.region [.m 50 5, .m 4 50]) .ret)))))
def F57:AFun:=⟨c57,2,51,[(.tmp 4)]⟩
def K57:Nat→List Nat×List Nat
 |0=>([0,1,5,6,14,15],[5])
 |1=>([],[0,1,5,6,14,15])
 |_=>([],[])
theorem F57_ok:kj8 Tryz.prog K57 noRg Tryz.f57=some F57:=by kernel_rfl
/- 58: (*syndrome/field.Field).Pow -/
def c58:ACode:=(.seq (.region [.k 6 0]) (.seq (.seq (.region [.m 7 0, .m 8 1, .o 9 (.q 83 [7,8]), .o 10 (.un .not (.tmp 9)), .m 11 10, .g 12 (.m 1) 11 false, .g 13 (.c .eql 12 0) 11 false, .g 14 (.m 13) 11 false, .g 15 (.m 2) 14 true, .g 16 (.c .lss 15 0) 14 true, .g 17 (.pick (.tmp 14) (.tmp 16) (.const (.bool false))) 11 false, .o 18 (.pick (.tmp 11) (.const (.bool true)) (.tmp 17))]) (.cond (.tmp 18) (.seq (.region [.k 6 (-1)]) .ret) .skip)) (.seq (.seq (.region [.m 19 2, .o 20 (.c .eql 19 0)]) (.cond (.tmp 20) (.seq (.region [.k 6 1]) .ret) .skip)) (.seq (.seq (.region [.m 21 1, .o 22 (.c .eql 21 0)]) (.cond (.tmp 22) (.seq (.region [.k 6 0]) .ret) .skip)) (.seq (.region [.m 23 2, .m 24 0, .o 25 (.nilck (.tmp 24)), .o 26 (.f 0 25), .o 27 (.l 26), .o 28 (.c .sub 27 1), .o 29 (.b .rem 23 28), .m 2 29]) (.seq (.seq (.region [.m 30 2, .o 31 (.c .lss 30 0)]) (.cond (.tmp 31) (.region [.m 32 2, .m 33 0, .o 34 (.nilck (.tmp 33)), .o 35 (.f 0 34), .o 36 (.l 35), .o 37 (.c .sub 36 1), .o 38 (.b .add 32 37), .m 2 38]) .skip)) (.seq (.region [.m 39 0, .o 40 (.nilck (.tmp 39)), .o 41 (.f 5 40), .o 42 (.l 41), .m 43 0, .o 44 (.nilck (.tmp 43)), .o 45 (.f 6 44), .o 46 (.l 45), .m 47 1, .o 48 (.i 1 46 47), .o 49 (.l 48), .m 50 2, .o 51 (.b .mul 49 50), .m 52 0, .o 53 (.nilck (.tmp 52)), .o 54 (.f 0 53), .o 55 (.l 54), .o 56 (.c .sub 55 1), .o 57 (.b .rem 51 56), .o 58 (.i 1 42 57), .o 59 (.l 58), .m 6 59]) .ret)))))))
def F58:AFun:=⟨c58,3,60,[(.tmp 6)]⟩
def K58:Nat→List Nat×List Nat
 |_=>([],[])
theorem F58_ok:kj8 Tryz.prog K58 noRg Tryz.f58=some F58:=by kernel_rfl
/- 59: syndrome/field.Embed -/
def c59L0:ACode:=(.seq (.seq (.region [.m 68 9, .o 69 (.c .eql 68 0), .m 70 69, .g 71 (.m 8) 70 false, .g 72 (.m 6) 70 false, .g 73 (.nilck (.tmp 72)) 70 false, .g 74 (.f 3 73) 70 false, .g 75 (.l 74) 70 false, .g 76 (.m 9) 70 false, .g 77 (.q 116 [71,75,76]) 70 false, .g 78 (.c .neq 77 0) 70 false, .o 79 (.pick (.tmp 70) (.const (.bool true)) (.tmp 78))]) (.cond (.tmp 79) .skip (.exit 0))) (.seq (.block 1 [0,6,8,9,10,11] (.region [.m 83 8, .o 84 (.nilck (.tmp 83)), .o 85 (.f 5 84), .o 86 (.l 85), .m 87 11, .m 88 8, .o 89 (.nilck (.tmp 88)), .o 90 (.f 0 89), .o 91 (.l 90), .o 92 (.c .sub 91 1), .o 93 (.b .rem 87 92), .o 94 (.i 1 86 93), .o 95 (.l 94), .m 9 95])) (.region [.m 80 11, .m 81 10, .o 82 (.b .add 80 81), .m 11 82])))
def c59L1:ACode:=(.seq (.region [.o 101 (.b .lss 100 99)]) (.seq (.cond (.tmp 101) .skip (.exit 2)) (.seq (.block 3 [6,8,9,12,99,100] (.seq (.region [.m 102 100, .m 13 102]) (.region [.m 103 12, .m 104 13, .m 105 8, .m 106 13, .m 107 6, .o 108 (.nilck (.tmp 107)), .o 109 (.f 1 108), .o 110 (.l 109), .m 111 6, .o 112 (.nilck (.tmp 111)), .o 113 (.f 2 112), .o 114 (.l 113), .o 115 (.q 117 [106,110,114]), .m 116 9, .o 117 (.q 116 [105,115,116]), .o 118 (.i 1 103 104), .n (.st 1 (.tmp 118) (.tmp 117))]))) (.region [.o 119 (.c .add 100 1), .m 100 119]))))
def c59:ACode:=(.seq (.region [.o 4 (.mv (.const (.slice none 0 0))), .k 5 0]) (.seq (.region [.m 15 0, .o 16 (.q 48 [15]), .m 14 16, .o 17 (.e 0 14), .o 18 (.e 1 14), .m 6 17, .m 7 18]) (.seq (.seq (.region [.m 19 7, .o 20 (.c .neq 19 0)]) (.cond (.tmp 20) (.seq (.region [.m 21 7, .o 4 (.mv (.const (.slice none 0 0))), .m 5 21]) .ret) .skip)) (.seq (.region [.m 23 1, .o 24 (.q 48 [23]), .m 22 24, .o 25 (.e 0 22), .o 26 (.e 1 22), .m 8 25, .m 7 26]) (.seq (.seq (.region [.m 27 7, .o 28 (.c .neq 27 0)]) (.cond (.tmp 28) (.seq (.region [.m 29 7, .o 4 (.mv (.const (.slice none 0 0))), .m 5 29]) .ret) .skip)) (.seq (.seq (.region [.m 30 6, .o 31 (.nilck (.tmp 30)), .o 32 (.f 1 31), .o 33 (.l 32), .m 34 8, .o 35 (.nilck (.tmp 34)), .o 36 (.f 1 35), .o 37 (.l 36), .o 38 (.b .neq 33 37), .m 39 38, .g 40 (.m 8) 39 false, .g 41 (.nilck (.tmp 40)) 39 false, .g 42 (.f 2 41) 39 false, .g 43 (.l 42) 39 false, .g 44 (.m 6) 39 false, .g 45 (.nilck (.tmp 44)) 39 false, .g 46 (.f 2 45) 39 false, .g 47 (.l 46) 39 false, .g 48 (.b .rem 43 47) 39 false, .g 49 (.c .neq 48 0) 39 false, .o 50 (.pick (.tmp 39) (.const (.bool true)) (.tmp 49))]) (.cond (.tmp 50) (.seq (.region [.o 4 (.mv (.const (.slice none 0 0))), .k 5 3]) .ret) .skip)) (.seq (.region [.k 9 0]) (.seq (.seq (.region [.m 51 6, .o 52 (.nilck (.tmp 51)), .o 53 (.f 2 52), .o 54 (.l 53), .o 55 (.c .gtr 54 1)]) (.cond (.tmp 55) (.seq (.region [.m 56 8, .o 57 (.nilck (.tmp 56)), .o 58 (.f 0 57), .o 59 (.l 58), .o 60 (.c .sub 59 1), .m 61 6, .o 62 (.nilck (.tmp 61)), .o 63 (.f 0 62), .o 64 (.l 63), .o 65 (.c .sub 64 1), .o 66 (.b .quo 60 65), .m 10 66]) (.seq (.region [.m 67 10, .m 11 67]) (.block 0 [0,6,8,9] (.loop [0,6,8,9,10,11] c59L0)))) .skip)) (.seq (.region [.m 96 0, .o 97 (.mks 3 1 8 [(.int .i64 0)] (.tmp 96) (.tmp 96)), .m 12 97]) (.seq (.seq (.region [.m 98 12, .o 99 (.n 98), .k 100 0]) (.block 2 [12] (.loop [6,8,9,12,99,100] c59L1))) (.seq (.region [.m 120 12, .m 4 120, .k 5 0]) .ret)))))))))))
def F59:AFun:=⟨c59,2,121,[(.tmp 4),(.tmp 5)]⟩
def K59:Nat→List Nat×List Nat
 |0=>([0,6,8,9,10,11],[0,6,8,9])
 |1=>([],[0,6,8,9,10,11])
 |2=>([6,8,9,12,99,100],[12])
 |3=>([],[6,8,9,12,99,100])
 |_=>([],[])
theorem F59_ok:kj8 Tryz.prog K59 noRg Tryz.f59=some F59:=by kernel_rfl
/- 60: slices.Index[[]int,int] -/
def c60L0:ACode:=(.seq (.region [.o 9 (.b .lss 8 7)]) (.seq (.cond (.tmp 9) .skip (.exit 0)) (.seq (.block 1 [0,1,7,8] (.seq (.region [.m 10 8, .m 5 10]) (.seq (.region [.m 11 1, .m 12 0, .m 13 5, .o 14 (.i 1 12 13), .o 15 (.l 14), .o 16 (.b .eql 11 15)]) (.cond (.tmp 16) (.seq (.region [.m 17 5, .m 4 17]) .ret) .skip)))) (.region [.o 18 (.c .add 8 1), .m 8 18]))))
def c60:ACode:=(.seq (.region [.k 4 0]) (.seq (.seq (.region [.m 6 0, .o 7 (.n 6), .k 8 0]) (.block 0 [] (.loop [0,1,7,8] c60L0))) (.seq (.region [.k 4 (-1)]) .ret)))
def F60:AFun:=⟨c60,2,19,[(.tmp 4)]⟩
def K60:Nat→List Nat×List Nat
 |0=>([0,1,7,8],[])
 |1=>([],[0,1,7,8])
 |_=>([],[])
theorem F60_ok:kj8 Tryz.prog K60 noRg Tryz.f60=some F60:=by kernel_rfl
/- 68: slices.Contains[[]int,int] -/
def c68:ACode:=(.seq (.region [.o 4 (.mv (.const (.bool false)))]) (.seq (.region [.m 5 0, .m 6 1, .o 7 (.q 60 [5,6]), .o 8 (.c .geq 7 0), .m 4 8]) .ret))
def F68:AFun:=⟨c68,2,9,[(.tmp 4)]⟩
def K68:Nat→List Nat×List Nat
 |_=>([],[])
theorem F68_ok:kj8 Tryz.prog K68 noRg Tryz.f68=some F68:=by kernel_rfl
/- 71: syndrome/poly.Check -/
def c71L0:ACode:=(.seq (.region [.o 23 (.b .lss 22 21)]) (.seq (.cond (.tmp 23) .skip (.exit 0)) (.seq (.block 1 [5,20,21,22] (.seq (.region [.o 24 (.i 1 20 22), .o 25 (.l 24), .m 8 25]) (.seq (.region [.m 26 5, .m 27 8, .o 28 (.q 83 [26,27]), .o 29 (.un .not (.tmp 28))]) (.cond (.tmp 29) (.seq (.region [.k 4 2]) .ret) .skip)))) (.region [.o 30 (.c .add 22 1), .m 22 30]))))
def c71:ACode:=(.seq (.region [.k 4 0]) (.seq (.region [.m 10 0, .o 11 (.q 48 [10]), .m 9 11, .o 12 (.e 0 9), .o 13 (.e 1 9), .m 5 12, .m 6 13]) (.seq (.seq (.region [.m 14 6, .o 15 (.c .neq 14 0)]) (.cond (.tmp 15) (.seq (.region [.m 16 6, .m 4 16]) .ret) .skip)) (.seq (.seq (.region [.m 17 1, .o 18 (.n 17), .o 19 (.c .gtr 18 128)]) (.cond (.tmp 19) (.seq (.region [.k 4 4]) .ret) .skip)) (.seq (.seq (.region [.m 20 1, .o 21 (.n 20), .k 22 0]) (.block 0 [] (.loop [5,20,21,22] c71L0))) (.seq (.region [.k 4 0]) .ret))))))
def F71:AFun:=⟨c71,2,31,[(.tmp 4)]⟩
def K71:Nat→List Nat×List Nat
 |0=>([5,20,21,22],[])
 |1=>([],[5,20,21,22])
 |_=>([],[])
theorem F71_ok:kj8 Tryz.prog K71 noRg Tryz.f71=some F71:=by kernel_rfl
/- 72: syndrome/poly.Div -/
def c72:ACode:=(.seq (.region [.o 6 (.mv (.const (.slice none 0 0))), .o 7 (.mv (.const (.slice none 0 0))), .k 8 0]) (.seq (.region [.m 11 0, .m 12 1, .m 13 2, .o 14 (.q 114 [11,12,13]), .m 10 14, .o 15 (.e 0 10), .o 16 (.e 1 10), .o 17 (.e 2 10), .o 18 (.e 3 10), .m 9 15, .m 1 16, .m 2 17, .m 8 18]) (.seq (.seq (.region [.m 19 8, .o 20 (.c .neq 19 0)]) (.cond (.tmp 20) (.seq (.region [.m 21 8, .o 6 (.mv (.const (.slice none 0 0))), .o 7 (.mv (.const (.slice none 0 0))), .m 8 21]) .ret) .skip)) (.seq (.seq (.region [.m 22 2, .o 23 (.n 22), .o 24 (.c .eql 23 0)]) (.cond (.tmp 24) (.seq (.region [.o 6 (.mv (.const (.slice none 0 0))), .o 7 (.mv (.const (.slice none 0 0))), .k 8 5]) .ret) .skip)) (.seq (.region [.m 26 9, .m 27 1, .m 28 2, .o 29 (.q 123 [26,27,28]), .m 25 29, .o 30 (.e 0 25), .o 31 (.e 1 25), .m 6 30, .m 7 31]) (.seq (.region [.m 32 6, .m 33 7, .m 6 32, .m 7 33, .k 8 0]) .ret))))))
def F72:AFun:=⟨c72,3,34,[(.tmp 6),(.tmp 7),(.tmp 8)]⟩
def K72:Nat→List Nat×List Nat
 |_=>([],[])
theorem F72_ok:kj8 Tryz.prog K72 noRg Tryz.f72=some F72:=by kernel_rfl
/- 73: syndrome/poly.Add -/
def c73L0:ACode:=(.seq (.region [.o 34 (.b .lss 33 32)]) (.seq (.cond (.tmp 34) .skip (.exit 0)) (.seq (.block 1 [1,8,31,32,33] (.seq (.region [.m 35 33, .o 36 (.i 1 31 33), .o 37 (.l 36), .m 10 35, .m 11 37]) (.region [.m 38 1, .m 39 10, .m 40 8, .m 41 1, .m 42 10, .o 43 (.i 1 41 42), .o 44 (.l 43), .m 45 11, .o 46 (.q 92 [40,44,45]), .o 47 (.i 1 38 39), .n (.st 1 (.tmp 47) (.tmp 46))]))) (.region [.o 48 (.c .add 33 1), .m 33 48]))))
def c73:ACode:=(.seq (.region [.o 6 (.mv (.const (.slice none 0 0))), .k 7 0]) (.seq (.region [.m 13 0, .m 14 1, .m 15 2, .o 16 (.q 114 [13,14,15]), .m 12 16, .o 17 (.e 0 12), .o 18 (.e 1 12), .o 19 (.e 2 12), .o 20 (.e 3 12), .m 8 17, .m 1 18, .m 2 19, .m 9 20]) (.seq (.seq (.region [.m 21 9, .o 22 (.c .neq 21 0)]) (.cond (.tmp 22) (.seq (.region [.m 23 9, .o 6 (.mv (.const (.slice none 0 0))), .m 7 23]) .ret) .skip)) (.seq (.seq (.region [.m 24 1, .o 25 (.n 24), .m 26 2, .o 27 (.n 26), .o 28 (.b .lss 25 27)]) (.cond (.tmp 28) (.region [.m 29 2, .m 30 1, .m 1 29, .m 2 30]) .skip)) (.seq (.seq (.region [.m 31 2, .o 32 (.n 31), .k 33 0]) (.block 0 [1] (.loop [1,8,31,32,33] c73L0))) (.seq (.region [.m 49 1, .o 50 (.q 124 [49]), .m 6 50, .k 7 0]) .ret))))))
def F73:AFun:=⟨c73,3,51,[(.tmp 6),(.tmp 7)]⟩
def K73:Nat→List Nat×List Nat
 |0=>([1,8,31,32,33],[1])
 |1=>([],[1,8,31,32,33])
 |_=>([],[])
theorem F73_ok:kj8 Tryz.prog K73 noRg Tryz.f73=some F73:=by kernel_rfl
/- 74: syndrome/code.Make -/
def c74:ACode:=(.seq (.region [.o 1 (.box 35 3 (.tmp 0)), .o 2 (.alloc 35 [(.int .i64 0),(.int .i64 0),(.slice none 0 0)]), .k 3 0]) (.seq (.seq (.region [.o 8 (.ld true 3 (.tmp 1)), .o 9 (.q 125 [8]), .m 4 9]) (.seq (.region [.m 10 4, .o 11 (.c .neq 10 0)]) (.cond (.tmp 11) (.seq (.region [.o 12 (.build [(.int .i64 0),(.int .i64 0),(.slice none 0 0)] [(0,1),(1,1),(2,1)] []), .m 13 4, .n (.st 3 (.tmp 2) (.tmp 12)), .m 3 13]) .ret) .skip))) (.seq (.region [.o 15 (.f 0 1), .o 16 (.l 15), .o 17 (.f 2 1), .o 18 (.l 17), .o 19 (.q 126 [16,18]), .m 14 19, .o 20 (.e 0 14), .o 21 (.e 1 14), .o 22 (.e 2 14), .m 5 20, .m 6 21, .m 7 22]) (.seq (.region [.o 23 (.f 0 1), .o 24 (.l 23), .o 25 (.f 1 1), .o 26 (.l 25), .m 27 5, .o 28 (.build [(.int .i64 0),(.int .i64 0),(.slice none 0 0)] [(0,1),(1,1),(2,1)] [(0,(.tmp 24)),(1,(.tmp 26)),(2,(.tmp 27))]), .n (.st 3 (.tmp 2) (.tmp 28)), .k 3 0]) .ret))))
def F74:AFun:=⟨c74,1,29,[(.cell 2 true 3),(.tmp 3)]⟩
def K74:Nat→List Nat×List Nat
 |_=>([],[])
theorem F74_ok:kj8 Tryz.prog K74 noRg Tryz.f74=some F74:=by kernel_rfl
/- 80: syndrome/syndromeref.Raw -/
def c80:ACode:=(.seq (.region [.k 4 0]) (.seq (.seq (.region [.m 5 0, .o 6 (.n 5), .o 7 (.c .eql 6 0)]) (.cond (.tmp 7) (.seq (.region [.m 8 1, .m 4 8]) .ret) .skip)) (.seq (.region [.m 9 0, .m 10 1, .m 11 0, .o 12 (.n 11), .o 13 (.b .rem 10 12), .o 14 (.i 1 9 13), .o 15 (.l 14), .m 16 1, .m 17 0, .o 18 (.n 17), .o 19 (.b .quo 16 18), .o 20 (.c .mul 19 7919), .o 21 (.b .add 15 20), .m 4 21]) .ret)))
def F80:AFun:=⟨c80,2,22,[(.tmp 4)]⟩
def K80:Nat→List Nat×List Nat
 |_=>([],[])
theorem F80_ok:kj8 Tryz.prog K80 noRg Tryz.f80=some F80:=by kernel_rfl
/- 81: slices.ContainsFunc[[]int,int] -/
def c81:ACode:=(.seq (.region [.o 4 (.mv (.const (.bool false)))]) (.seq (.region [.m 5 0, .m 6 1, .o 7 (.q 130 [5,6]), .o 8 (.c .geq 7 0), .m 4 8]) .ret))
def F81:AFun:=⟨c81,2,9,[(.tmp 4)]⟩
def K81:Nat→List Nat×List Nat
 |_=>([],[])
theorem F81_ok:kj8 Tryz.prog K81 noRg Tryz.f81=some F81:=by kernel_rfl
/- 82: syndrome/code.Encode$1 -/
def c82:ACode:=(.seq (.region [.o 3 (.mv (.const (.bool false)))]) (.seq (.region [.o 4 (.l 1), .m 5 0, .o 6 (.q 83 [4,5]), .o 7 (.un .not (.tmp 6)), .m 3 7]) .ret))
def F82:AFun:=⟨c82,2,8,[(.tmp 3)]⟩
def K82:Nat→List Nat×List Nat
 |_=>([],[])
theorem F82_ok:kj8 Tryz.prog K82 noRg Tryz.f82=some F82:=by kernel_rfl
/- 83: (*syndrome/field.Field).Has -/
def c83:ACode:=(.seq (.region [.o 4 (.mv (.const (.bool false)))]) (.seq (.region [.m 5 1, .o 6 (.c .geq 5 0), .m 7 6, .g 8 (.m 1) 7 true, .g 9 (.m 0) 7 true, .g 10 (.nilck (.tmp 9)) 7 true, .g 11 (.f 0 10) 7 true, .g 12 (.l 11) 7 true, .g 13 (.b .lss 8 12) 7 true, .o 14 (.pick (.tmp 7) (.tmp 13) (.const (.bool false))), .m 4 14]) .ret))
def F83:AFun:=⟨c83,2,15,[(.tmp 4)]⟩
def K83:Nat→List Nat×List Nat
 |_=>([],[])
theorem F83_ok:kj8 Tryz.prog K83 noRg Tryz.f83=some F83:=by kernel_rfl
/- 84: syndrome/code.encode -/
def c84L0:ACode:=(.seq (.region [.o 29 (.b .lss 28 27)]) (.seq (.cond (.tmp 29) .skip (.exit 2)) (.seq (.block 3 [0,4,7,9,15,16,17,26,27,28] (.seq (.region [.m 30 28, .o 31 (.i 1 26 28), .o 32 (.l 31), .m 10 30, .m 11 32]) (.region [.m 33 7, .m 34 10, .m 35 0, .m 36 7, .m 37 10, .o 38 (.i 1 36 37), .o 39 (.l 38), .m 40 0, .m 41 9, .m 42 11,⟨(some 43),(.call 93 [(.tmp 40),(.tmp 41),(.tmp 42)]),none,true⟩, .o 44 (.q 92 [35,39,43]), .o 45 (.i 1 33 34), .n (.st 1 (.tmp 45) (.tmp 44))]))) (.region [.o 46 (.c .add 28 1), .m 28 46]))))
def c84L1:ACode:=(.seq (.region [.o 18 (.b .lss 17 16)]) (.seq (.cond (.tmp 18) .skip (.exit 0)) (.seq (.block 1 [0,4,7,15,16,17] (.seq (.region [.m 19 17, .o 20 (.i 1 15 17), .o 21 (.l 20), .m 8 19, .m 9 21]) (.seq (.region [.o 22 (.f 2 4), .o 23 (.l 22), .m 24 8, .o 25 (.i 1 23 24), .o 26 (.l 25), .o 27 (.n 26), .k 28 0]) (.block 2 [0,4,7,15,16,17] (.loop [0,4,7,9,15,16,17,26,27,28] c84L0))))) (.region [.o 47 (.c .add 17 1), .m 17 47]))))
def c84:ACode:=(.seq (.region [.o 4 (.box 35 3 (.tmp 1)), .o 6 (.mv (.const (.slice none 0 0)))]) (.seq (.region [.o 12 (.f 1 4), .o 13 (.l 12), .o 14 (.mks 3 1 8 [(.int .i64 0)] (.tmp 13) (.tmp 13)), .m 7 14]) (.seq (.seq (.region [.m 15 2, .o 16 (.n 15), .k 17 0]) (.block 0 [7] (.loop [0,4,7,15,16,17] c84L1))) (.seq (.region [.m 48 7, .m 6 48]) .ret))))
def F84:AFun:=⟨c84,3,49,[(.tmp 6)]⟩
def K84:Nat→List Nat×List Nat
 |0=>([0,4,7,15,16,17],[7])
 |1=>([],[0,4,7,15,16,17])
 |2=>([0,4,7,9,15,16,17,26,27,28],[0,4,7,15,16,17])
 |3=>([],[0,4,7,9,15,16,17,26,27,28])
 |_=>([],[])
theorem F84_ok:kj8 Tryz.prog K84 noRg Tryz.f84=some F84:=by kernel_rfl
/- 85: syndrome/code.Syndrome -/
def c85L0:ACode:=(.seq (.region [.o 45 (.b .lss 44 43)]) (.seq (.cond (.tmp 45) .skip (.exit 2)) (.seq (.block 3 [1,8,10,13,36,37,38,42,43,44] (.seq (.region [.m 46 44, .o 47 (.i 1 42 44), .o 48 (.l 47), .m 14 46, .m 15 48]) (.region [.m 49 8, .m 50 13, .m 51 8, .m 52 15, .m 53 1, .m 54 14, .o 55 (.i 1 53 54), .o 56 (.l 55), .o 57 (.q 93 [51,52,56]), .o 58 (.q 92 [49,50,57]), .m 13 58]))) (.region [.o 59 (.c .add 44 1), .m 44 59]))))
def c85L1:ACode:=(.seq (.region [.o 39 (.b .lss 38 37)]) (.seq (.cond (.tmp 39) .skip (.exit 0)) (.seq (.block 1 [1,8,10,36,37,38] (.seq (.region [.o 40 (.i 1 36 38), .o 41 (.l 40), .m 12 41]) (.seq (.region [.k 13 0]) (.seq (.seq (.region [.m 42 12, .o 43 (.n 42), .k 44 0]) (.block 2 [1,8,10,13,36,37,38] (.loop [1,8,10,13,36,37,38,42,43,44] c85L0))) (.region [.m 60 10, .m 61 13, .o 62 (.mkSl 3 1 1 [(.tmp 61)]), .o 63 (.app 3 1 8 (.tmp 60) (.tmp 62)), .m 10 63]))))) (.region [.o 64 (.c .add 38 1), .m 38 64]))))
def c85:ACode:=(.seq (.region [.o 2 (.box 35 3 (.tmp 0)), .o 4 (.mv (.const (.slice none 0 0))), .k 5 0]) (.seq (.region [.o 17 (.ld true 3 (.tmp 2)), .o 18 (.q 131 [17]), .m 16 18, .o 19 (.e 0 16), .o 20 (.e 1 16), .o 6 (.alloc 35 [(.int .i64 0),(.int .i64 0),(.slice none 0 0)]), .n (.st 3 (.tmp 6) (.tmp 19)), .m 7 20]) (.seq (.seq (.region [.m 21 7, .o 22 (.c .eql 21 0)]) (.cond (.tmp 22) (.region [.o 23 (.ld true 3 (.tmp 2)), .m 24 1, .o 25 (.q 132 [23,24]), .m 7 25]) .skip)) (.seq (.seq (.region [.m 26 7, .o 27 (.c .neq 26 0)]) (.cond (.tmp 27) (.seq (.region [.m 28 7, .o 4 (.mv (.const (.slice none 0 0))), .m 5 28]) .ret) .skip)) (.seq (.region [.o 30 (.f 0 2), .o 31 (.l 30), .o 32 (.q 48 [31]), .m 29 32, .o 33 (.e 0 29), .o 34 (.e 1 29), .m 8 33, .m 9 34]) (.seq (.region [.o 10 (.mv (.const (.slice none 0 0)))]) (.seq (.seq (.region [.o 35 (.f 2 6), .o 36 (.l 35), .o 37 (.n 36), .k 38 0]) (.block 0 [10] (.loop [1,8,10,36,37,38] c85L1))) (.seq (.region [.m 65 10, .m 4 65, .k 5 0]) .ret))))))))
def F85:AFun:=⟨c85,2,66,[(.tmp 4),(.tmp 5)]⟩
def K85:Nat→List Nat×List Nat
 |0=>([1,8,10,36,37,38],[10])
 |1=>([],[1,8,10,36,37,38])
 |2=>([1,8,10,13,36,37,38,42,43,44],[1,8,10,13,36,37,38])
 |3=>([],[1,8,10,13,36,37,38,42,43,44])
 |_=>([],[])
theorem F85_ok:kj8 Tryz.prog K85 noRg Tryz.f85=some F85:=by kernel_rfl
/- 86: syndrome/code.Has$1 -/
def c86:ACode:=(.seq (.region [.o 2 (.mv (.const (.bool false)))]) (.seq (.region [.m 3 0, .o 4 (.c .neq 3 0), .m 2 4]) .ret))
def F86:AFun:=⟨c86,1,5,[(.tmp 2)]⟩
def K86:Nat→List Nat×List Nat
 |_=>([],[])
theorem F86_ok:kj8 Tryz.prog K86 noRg Tryz.f86=some F86:=by kernel_rfl
/- 92: (*syndrome/field.Field).Add -/
def c92L0:ACode:=(.seq (.region [.o 24 (.b .lss 23 22)]) (.seq (.cond (.tmp 24) .skip (.exit 0)) (.seq (.block 1 [0,1,2,7,8,22,23] (.seq (.region [.m 25 7, .m 26 1, .m 27 0, .o 28 (.nilck (.tmp 27)), .o 29 (.f 1 28), .o 30 (.l 29), .o 31 (.b .rem 26 30), .m 32 2, .m 33 0, .o 34 (.nilck (.tmp 33)), .o 35 (.f 1 34), .o 36 (.l 35), .o 37 (.b .rem 32 36), .o 38 (.b .add 31 37), .m 39 0, .o 40 (.nilck (.tmp 39)), .o 41 (.f 1 40), .o 42 (.l 41), .o 43 (.b .rem 38 42), .m 44 8, .o 45 (.b .mul 43 44), .o 46 (.b .add 25 45), .m 7 46]) (.region [.m 47 1, .m 48 0, .o 49 (.nilck (.tmp 48)), .o 50 (.f 1 49), .o 51 (.l 50), .o 52 (.b .quo 47 51), .m 53 2, .m 54 0, .o 55 (.nilck (.tmp 54)), .o 56 (.f 1 55), .o 57 (.l 56), .o 58 (.b .quo 53 57), .m 59 8, .m 60 0, .o 61 (.nilck (.tmp 60)), .o 62 (.f 1 61), .o 63 (.l 62), .o 64 (.b .mul 59 63), .m 1 52, .m 2 58, .m 8 64]))) (.region [.o 65 (.c .add 23 1), .m 23 65]))))
def c92:ACode:=(.seq (.region [.k 6 0]) (.seq (.seq (.region [.m 9 0, .m 10 1, .o 11 (.q 83 [9,10]), .o 12 (.un .not (.tmp 11)), .m 13 12, .g 14 (.m 0) 13 false, .g 15 (.m 2) 13 false, .g 16 (.q 83 [14,15]) 13 false, .g 17 (.un .not (.tmp 16)) 13 false, .o 18 (.pick (.tmp 13) (.const (.bool true)) (.tmp 17))]) (.cond (.tmp 18) (.seq (.region [.k 6 (-1)]) .ret) .skip)) (.seq (.region [.k 7 0, .k 8 1]) (.seq (.seq (.region [.m 19 0, .o 20 (.nilck (.tmp 19)), .o 21 (.f 2 20), .o 22 (.l 21), .k 23 0]) (.block 0 [7] (.loop [0,1,2,7,8,22,23] c92L0))) (.seq (.region [.m 66 7, .m 6 66]) .ret)))))
def F92:AFun:=⟨c92,3,67,[(.tmp 6)]⟩
def K92:Nat→List Nat×List Nat
 |0=>([0,1,2,7,8,22,23],[7])
 |1=>([],[0,1,2,7,8,22,23])
 |_=>([],[])
theorem F92_ok:kj8 Tryz.prog K92 noRg Tryz.f92=some F92:=by kernel_rfl
/- 93: (*syndrome/field.Field).Mul -/
def c93:ACode:=(.seq (.region [.k 6 0]) (.seq (.seq (.region [.m 7 0, .m 8 1, .o 9 (.q 83 [7,8]), .o 10 (.un .not (.tmp 9)), .m 11 10, .g 12 (.m 0) 11 false, .g 13 (.m 2) 11 false, .g 14 (.q 83 [12,13]) 11 false, .g 15 (.un .not (.tmp 14)) 11 false, .o 16 (.pick (.tmp 11) (.const (.bool true)) (.tmp 15))]) (.cond (.tmp 16) (.seq (.region [.k 6 (-1)]) .ret) .skip)) (.seq (.seq (.region [.m 17 1, .o 18 (.c .eql 17 0), .m 19 18, .g 20 (.m 2) 19 false, .g 21 (.c .eql 20 0) 19 false, .o 22 (.pick (.tmp 19) (.const (.bool true)) (.tmp 21))]) (.cond (.tmp 22) (.seq (.region [.k 6 0]) .ret) .skip)) (.seq (.region [.m 23 0, .o 24 (.nilck (.tmp 23)), .o 25 (.f 5 24), .o 26 (.l 25), .m 27 0, .o 28 (.nilck (.tmp 27)), .o 29 (.f 6 28), .o 30 (.l 29), .m 31 1, .o 32 (.i 1 30 31), .o 33 (.l 32), .m 34 0, .o 35 (.nilck (.tmp 34)), .o 36 (.f 6 35), .o 37 (.l 36), .m 38 2, .o 39 (.i 1 37 38), .o 40 (.l 39), .o 41 (.b .add 33 40), .m 42 0, .o 43 (.nilck (.tmp 42)), .o 44 (.f 0 43), .o 45 (.l 44), .o 46 (.c .sub 45 1), .o 47 (.b .rem 41 46), .o 48 (.i 1 26 47), .o 49 (.l 48), .m 6 49]) .ret))))
def F93:AFun:=⟨c93,3,50,[(.tmp 6)]⟩
def K93:Nat→List Nat×List Nat
 |_=>([],[])
theorem F93_ok:kj8 Tryz.prog K93 noRg Tryz.f93=some F93:=by kernel_rfl
/- 104: syndrome/field.New$1 -/
def c104:ACode:=(.region [.o 2 (.l 0), .o 3 (.l 0),⟨(some 4),(.call 105 [(.tmp 3)]),none,true⟩, .o 5 (.f 195 1), .o 6 (.iaddrA 65 1 (.tmp 5) (.tmp 2)), .n (.st 1 (.tmp 6) (.tmp 4))])
def F104:AFun:=⟨c104,2,7,[]⟩
def K104:Nat→List Nat×List Nat
 |_=>([],[])
theorem F104_ok:kj8 Tryz.prog K104 noRg Tryz.f104=some F104:=by kernel_rfl
/- 105: syndrome/field.build -/
def c105L0:ACode:=(.seq (.seq (.region [.m 28 5, .o 29 (.q 147 [28]), .o 30 (.un .not (.tmp 29))]) (.cond (.tmp 30) .skip (.exit 0))) (.seq (.block 1 [5] .skip) (.region [.m 31 5, .o 32 (.nilck (.tmp 31)), .o 33 (.f 4 32), .o 34 (.l 33), .o 35 (.c .add 34 1), .o 36 (.nilck (.tmp 31)), .o 37 (.f 4 36), .n (.st 1 (.tmp 37) (.tmp 35))])))
def c105L1:ACode:=(.seq (.region [.o 45 (.b .lss 44 43)]) (.seq (.cond (.tmp 45) .skip (.exit 2)) (.seq (.block 3 [3,4,5,43,44] (.seq (.region [.m 46 44, .m 6 46]) (.seq (.region [.m 47 5, .m 48 6, .m 49 3, .m 50 4, .o 51 (.q 117 [48,49,50]), .o 52 (.mkSl 3 1 1 [(.const (.int .i64 1))]), .o 53 (.app 3 1 8 (.tmp 51) (.tmp 52)), .o 54 (.nilck (.tmp 47)), .o 55 (.f 3 54), .n (.st 1 (.tmp 55) (.tmp 53))]) (.seq (.region [.m 56 5, .o 57 (.q 147 [56])]) (.cond (.tmp 57) (.seq (.region [.m 58 5, .m 2 58]) .ret) .skip))))) (.region [.o 59 (.c .add 44 1), .m 44 59]))))
def c105:ACode:=(.seq (.region [.o 2 (.mv (.const (.pointer none)))]) (.seq (.region [.m 8 0, .o 9 (.q 146 [8]), .m 7 9, .o 10 (.e 0 7), .o 11 (.e 1 7), .m 3 10, .m 4 11]) (.seq (.seq (.region [.m 12 3, .o 13 (.c .eql 12 0)]) (.cond (.tmp 13) (.seq (.region [.o 2 (.mv (.const (.pointer none)))]) .ret) .skip)) (.seq (.region [.m 14 0, .m 15 3, .m 16 4, .o 17 (.build [(.int .i64 0),(.int .i64 0),(.int .i64 0),(.slice none 0 0),(.int .i64 0),(.slice none 0 0),(.slice none 0 0)] [(0,1),(1,1),(2,1),(3,1),(4,1),(5,1),(6,1)] [(0,(.tmp 14)),(1,(.tmp 15)),(2,(.tmp 16))]), .o 18 (.box 135 7 (.tmp 17)), .m 5 18]) (.seq (.seq (.region [.m 19 4, .o 20 (.c .eql 19 1)]) (.cond (.tmp 20) (.seq (.region [.m 21 5, .o 22 (.mkSl 3 1 2 [(.const (.int .i64 0)),(.const (.int .i64 1))]), .o 23 (.nilck (.tmp 21)), .o 24 (.f 3 23), .n (.st 1 (.tmp 24) (.tmp 22))]) (.seq (.seq (.region [.m 25 5, .o 26 (.nilck (.tmp 25)), .o 27 (.f 4 26), .n (.st 1 (.tmp 27) (.const (.int .i64 1)))]) (.block 0 [5] (.loop [5] c105L0))) (.seq (.region [.m 38 5, .m 2 38]) .ret))) .skip)) (.seq (.region [.m 39 5, .m 40 3, .o 41 (.nilck (.tmp 39)), .o 42 (.f 4 41), .n (.st 1 (.tmp 42) (.tmp 40))]) (.seq (.seq (.region [.m 43 0, .k 44 0]) (.block 2 [] (.loop [3,4,5,43,44] c105L1))) (.seq (.region [.o 2 (.mv (.const (.pointer none)))]) .ret))))))))
def F105:AFun:=⟨c105,1,60,[(.tmp 2)]⟩
def K105:Nat→List Nat×List Nat
 |0=>([5],[5])
 |1=>([],[5])
 |2=>([3,4,5,43,44],[])
 |3=>([],[3,4,5,43,44])
 |_=>([],[])
theorem F105_ok:kj8 Tryz.prog K105 noRg Tryz.f105=some F105:=by kernel_rfl
/- 106: slices.pdqsortOrdered[int] -/
def c106L0:ACode:=(.block 1 [0,1,2,3,8,9] (.seq (.region [.m 19 2, .m 20 1, .o 21 (.b .sub 19 20), .m 10 21]) (.seq (.seq (.region [.m 22 10, .o 23 (.c .leq 22 12)]) (.cond (.tmp 23) (.seq (.region [.m 24 0, .m 25 1, .m 26 2, .o 27 (.q 148 [24,25,26])]) .ret) .skip)) (.seq (.seq (.region [.m 28 3, .o 29 (.c .eql 28 0)]) (.cond (.tmp 29) (.seq (.region [.m 30 0, .m 31 1, .m 32 2, .o 33 (.q 149 [30,31,32])]) .ret) .skip)) (.seq (.seq (.region [.m 34 8, .o 35 (.un .not (.tmp 34))]) (.cond (.tmp 35) (.seq (.region [.m 36 0, .m 37 1, .m 38 2, .o 39 (.q 150 [36,37,38])]) (.region [.m 40 3, .o 41 (.c .sub 40 1), .m 3 41])) .skip)) (.seq (.region [.m 43 0, .m 44 1, .m 45 2, .o 46 (.q 151 [43,44,45]), .m 42 46, .o 47 (.e 0 42), .o 48 (.e 1 42), .m 11 47, .m 12 48]) (.seq (.seq (.region [.m 49 12, .o 50 (.c .eql 49 2)]) (.cond (.tmp 50) (.seq (.region [.m 51 0, .m 52 1, .m 53 2, .o 54 (.q 152 [51,52,53])]) (.seq (.region [.m 55 2, .o 56 (.c .sub 55 1), .m 57 11, .m 58 1, .o 59 (.b .sub 57 58), .o 60 (.b .sub 56 59), .m 11 60]) (.region [.k 12 1]))) .skip)) (.seq (.seq (.region [.m 61 8, .m 62 61, .g 63 (.m 9) 62 true, .o 64 (.pick (.tmp 62) (.tmp 63) (.const (.bool false))), .m 65 64, .g 66 (.m 12) 65 true, .g 67 (.c .eql 66 1) 65 true, .o 68 (.pick (.tmp 65) (.tmp 67) (.const (.bool false)))]) (.cond (.tmp 68) (.seq (.region [.m 69 0, .m 70 1, .m 71 2, .o 72 (.q 153 [69,70,71])]) (.cond (.tmp 72) .ret .skip)) .skip)) (.seq (.seq (.region [.m 73 1, .o 74 (.c .gtr 73 0), .m 75 74, .g 76 (.m 0) 75 true, .g 77 (.m 1) 75 true, .g 78 (.c .sub 77 1) 75 true, .g 79 (.i 1 76 78) 75 true, .g 80 (.l 79) 75 true, .g 81 (.m 0) 75 true, .g 82 (.m 11) 75 true, .g 83 (.i 1 81 82) 75 true, .g 84 (.l 83) 75 true, .g 85 (.q 154 [80,84]) 75 true, .g 86 (.un .not (.tmp 85)) 75 true, .o 87 (.pick (.tmp 75) (.tmp 86) (.const (.bool false)))]) (.cond (.tmp 87) (.seq (.region [.m 88 0, .m 89 1, .m 90 2, .m 91 11, .o 92 (.q 155 [88,89,90,91]), .m 13 92]) (.seq (.region [.m 93 13, .m 1 93]) (.exit 1))) .skip)) (.seq (.region [.m 95 0, .m 96 1, .m 97 2, .m 98 11, .o 99 (.q 156 [95,96,97,98]), .m 94 99, .o 100 (.e 0 94), .o 101 (.e 1 94), .m 14 100, .m 15 101]) (.seq (.region [.m 102 15, .m 9 102]) (.seq (.region [.m 103 14, .m 104 1, .o 105 (.b .sub 103 104), .m 106 2, .m 107 14, .o 108 (.b .sub 106 107), .m 16 105, .m 17 108]) (.seq (.region [.m 109 10, .o 110 (.c .quo 109 8), .m 18 110]) (.seq (.region [.m 111 16, .m 112 17, .o 113 (.b .lss 111 112)]) (.cond (.tmp 113) (.seq (.region [.m 114 16, .m 115 18, .o 116 (.b .geq 114 115), .m 8 116]) (.seq (.region [.m 117 0, .m 118 1, .m 119 14, .m 120 3, .o 121 (.q 106 [117,118,119,120])]) (.region [.m 122 14, .o 123 (.c .add 122 1), .m 1 123]))) (.seq (.region [.m 124 17, .m 125 18, .o 126 (.b .geq 124 125), .m 8 126]) (.seq (.region [.m 127 0, .m 128 14, .o 129 (.c .add 128 1), .m 130 2, .m 131 3, .o 132 (.q 106 [127,129,130,131])]) (.region [.m 133 14, .m 2 133]))))))))))))))))))
def c106:ACode:=(.seq (.region [.o 8 (.mv (.const (.bool true)))]) (.seq (.region [.o 9 (.mv (.const (.bool true)))]) (.block 0 [] (.loop [0,1,2,3,8,9] c106L0))))
def F106:AFun:=⟨c106,4,134,[]⟩
def K106:Nat→List Nat×List Nat
 |0=>([0,1,2,3,8,9],[])
 |1=>([],[0,1,2,3,8,9])
 |_=>([],[])
theorem F106_ok:kj8 Tryz.prog K106 noRg Tryz.f106=some F106:=by kernel_rfl
/- 107: math/bits.Len -/
def c107:ACode:=(.seq (.region [.k 2 0]) (.seq (.cond (.const (.bool false)) (.seq (.region [.m 3 0, .o 4 (.conv .u32 (.tmp 3)), .o 5 (.q 157 [4]), .m 2 5]) .ret) .skip) (.seq (.region [.m 6 0, .o 7 (.q 158 [6]), .m 2 7]) .ret)))
def F107:AFun:=⟨c107,1,8,[(.tmp 2)]⟩
def K107:Nat→List Nat×List Nat
 |_=>([],[])
theorem F107_ok:kj8 Tryz.prog K107 noRg Tryz.f107=some F107:=by kernel_rfl
/- 111: syndrome/cyclic.closed$1 -/
def c111:ACode:=(.seq (.region [.o 3 (.mv (.const (.bool false)))]) (.seq (.region [.m 4 0, .o 5 (.c .lss 4 0), .m 6 5, .g 7 (.m 0) 6 false, .g 8 (.l 1) 6 false, .g 9 (.b .geq 7 8) 6 false, .o 10 (.pick (.tmp 6) (.const (.bool true)) (.tmp 9)), .m 3 10]) .ret))
def F111:AFun:=⟨c111,2,11,[(.tmp 3)]⟩
def K111:Nat→List Nat×List Nat
 |_=>([],[])
theorem F111_ok:kj8 Tryz.prog K111 noRg Tryz.f111=some F111:=by kernel_rfl
/- 112: syndrome/cyclic.closed$2 -/
def c112:ACode:=(.seq (.region [.o 3 (.mv (.const (.bool false)))]) (.seq (.region [.o 4 (.l 1), .m 5 0, .o 6 (.q 68 [4,5]), .m 3 6]) .ret))
def F112:AFun:=⟨c112,2,7,[(.tmp 3)]⟩
def K112:Nat→List Nat×List Nat
 |_=>([],[])
theorem F112_ok:kj8 Tryz.prog K112 noRg Tryz.f112=some F112:=by kernel_rfl
/- 113: (*syndrome/field.Field).Gen -/
def c113:ACode:=(.seq (.region [.k 2 0]) (.seq (.region [.m 3 0, .o 4 (.nilck (.tmp 3)), .o 5 (.f 4 4), .o 6 (.l 5), .m 2 6]) .ret))
def F113:AFun:=⟨c113,1,7,[(.tmp 2)]⟩
def K113:Nat→List Nat×List Nat
 |_=>([],[])
theorem F113_ok:kj8 Tryz.prog K113 noRg Tryz.f113=some F113:=by kernel_rfl
/- 114: syndrome/poly.both -/
def c114:ACode:=(.seq (.region [.o 6 (.mv (.const (.pointer none))), .o 7 (.mv (.const (.slice none 0 0))), .o 8 (.mv (.const (.slice none 0 0))), .k 9 0]) (.seq (.region [.m 13 0, .m 14 1, .o 15 (.q 71 [13,14]), .m 10 15]) (.seq (.seq (.region [.m 16 10, .o 17 (.c .eql 16 0)]) (.cond (.tmp 17) (.region [.m 18 0, .m 19 2, .o 20 (.q 71 [18,19]), .m 10 20]) .skip)) (.seq (.seq (.region [.m 21 10, .o 22 (.c .neq 21 0)]) (.cond (.tmp 22) (.seq (.region [.m 23 10, .o 6 (.mv (.const (.pointer none))), .o 7 (.mv (.const (.slice none 0 0))), .o 8 (.mv (.const (.slice none 0 0))), .m 9 23]) .ret) .skip)) (.seq (.region [.m 25 0, .o 26 (.q 48 [25]), .m 24 26, .o 27 (.e 0 24), .o 28 (.e 1 24), .m 11 27, .m 12 28]) (.seq (.region [.m 29 11, .m 30 1, .o 31 (.q 124 [30]), .m 32 2, .o 33 (.q 124 [32]), .m 6 29, .m 7 31, .m 8 33, .k 9 0]) .ret))))))
def F114:AFun:=⟨c114,3,34,[(.tmp 6),(.tmp 7),(.tmp 8),(.tmp 9)]⟩
def K114:Nat→List Nat×List Nat
 |_=>([],[])
theorem F114_ok:kj8 Tryz.prog K114 noRg Tryz.f114=some F114:=by kernel_rfl
/- 115: syndrome/poly.times -/
def c115L0:ACode:=(.seq (.region [.o 37 (.b .lss 36 35)]) (.seq (.cond (.tmp 37) .skip (.exit 2)) (.seq (.block 3 [0,2,7,8,9,27,28,29,34,35,36] (.seq (.region [.m 38 36, .o 39 (.i 1 34 36), .o 40 (.l 39), .m 10 38, .m 11 40]) (.region [.m 41 7, .m 42 8, .m 43 10, .o 44 (.b .add 42 43), .m 45 0, .m 46 7, .m 47 8, .m 48 10, .o 49 (.b .add 47 48), .o 50 (.i 1 46 49), .o 51 (.l 50), .m 52 0, .m 53 9, .m 54 11,⟨(some 55),(.call 93 [(.tmp 52),(.tmp 53),(.tmp 54)]),none,true⟩, .o 56 (.q 92 [45,51,55]), .o 57 (.i 1 41 44), .n (.st 1 (.tmp 57) (.tmp 56))]))) (.region [.o 58 (.c .add 36 1), .m 36 58]))))
def c115L1:ACode:=(.seq (.region [.o 30 (.b .lss 29 28)]) (.seq (.cond (.tmp 30) .skip (.exit 0)) (.seq (.block 1 [0,2,7,27,28,29] (.seq (.region [.m 31 29, .o 32 (.i 1 27 29), .o 33 (.l 32), .m 8 31, .m 9 33]) (.seq (.region [.m 34 2, .o 35 (.n 34), .k 36 0]) (.block 2 [0,2,7,27,28,29] (.loop [0,2,7,8,9,27,28,29,34,35,36] c115L0))))) (.region [.o 59 (.c .add 29 1), .m 29 59]))))
def c115:ACode:=(.seq (.region [.o 6 (.mv (.const (.slice none 0 0)))]) (.seq (.seq (.region [.m 12 1, .o 13 (.n 12), .o 14 (.c .eql 13 0), .m 15 14, .g 16 (.m 2) 15 false, .g 17 (.n 16) 15 false, .g 18 (.c .eql 17 0) 15 false, .o 19 (.pick (.tmp 15) (.const (.bool true)) (.tmp 18))]) (.cond (.tmp 19) (.seq (.region [.o 6 (.mv (.const (.slice none 0 0)))]) .ret) .skip)) (.seq (.region [.m 20 1, .o 21 (.n 20), .m 22 2, .o 23 (.n 22), .o 24 (.b .add 21 23), .o 25 (.c .sub 24 1), .o 26 (.mks 3 1 8 [(.int .i64 0)] (.tmp 25) (.tmp 25)), .m 7 26]) (.seq (.seq (.region [.m 27 1, .o 28 (.n 27), .k 29 0]) (.block 0 [7] (.loop [0,2,7,27,28,29] c115L1))) (.seq (.region [.m 60 7, .o 61 (.q 124 [60]), .m 6 61]) .ret)))))
def F115:AFun:=⟨c115,3,62,[(.tmp 6)]⟩
def K115:Nat→List Nat×List Nat
 |0=>([0,2,7,27,28,29],[7])
 |1=>([],[0,2,7,27,28,29])
 |2=>([0,2,7,8,9,27,28,29,34,35,36],[0,2,7,27,28,29])
 |3=>([],[0,2,7,8,9,27,28,29,34,35,36])
 |_=>([],[])
theorem F115_ok:kj8 Tryz.prog K115 noRg Tryz.f115=some F115:=by kernel_rfl
end Go.Proofs.YtppbpgmdmiajcaaGreat
