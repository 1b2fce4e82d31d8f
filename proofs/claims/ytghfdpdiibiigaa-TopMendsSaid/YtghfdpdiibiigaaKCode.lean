/-
  Functions of this seat as the small machine's code, written by a program of my own (gen.py); each is checked to be what the model's function is turned into. No condition.
-/
import Derived.Test.YtghfdpdiibiigaaK3
import Derived.Test.YtghfdpdiibiigaaKCode0
import Derived.Test.YtghfdpdiibiigaaKCode1
set_option linter.unusedVariables false
set_option linter.unusedSimpArgs false
set_option linter.unusedSectionVars false
set_option maxRecDepth 100000
namespace Go.Proofs.Ytghfdpdiibiigaa
open Go.Am
def T : Tab
 | 8 => some F8
 | 9 => some F9
 | 11 => some F11
 | 14 => some F14
 | 16 => some F16
 | 21 => some F21
 | 22 => some F22
 | 23 => some F23
 | 24 => some F24
 | 25 => some F25
 | 26 => some F26
 | 33 => some F33
 | 36 => some F36
 | 39 => some F39
 | 41 => some F41
 | 42 => some F42
 | 43 => some F43
 | 51 => some F51
 | 52 => some F52
 | 53 => some F53
 | 54 => some F54
 | 55 => some F55
 | 57 => some F57
 | 58 => some FDo
 | 59 => some F59
 | 60 => some F60
 | 61 => some F61
 | 62 => some F62
 | 63 => some F63
 | 64 => some F64
 | 65 => some F65
 | 66 => some F66
 | 67 => some F67
 | 68 => some F68
 | 69 => some F69
 | 70 => some F70
 | 71 => some F71
 | 72 => some F72
 | 74 => some F74
 | 75 => some F75
 | 78 => some F78
 | 79 => some F79
 | 80 => some F80
 | 81 => some F81
 | 84 => some F84
 | 85 => some F85
 | 86 => some F86
 | 87 => some F87
 | 88 => some F88
 | 89 => some F89
 | 90 => some F90
 | 91 => some F91
 | 92 => some F92
 | 93 => some F93
 | 94 => some F94
 | 95 => some F95
 | 96 => some F96
 | 101 => some F101
 | 106 => some F106
 | _ => none
theorem T8 : T 8 = some F8 := rfl
theorem T9 : T 9 = some F9 := rfl
theorem T11 : T 11 = some F11 := rfl
theorem T14 : T 14 = some F14 := rfl
theorem T16 : T 16 = some F16 := rfl
theorem T21 : T 21 = some F21 := rfl
theorem T22 : T 22 = some F22 := rfl
theorem T23 : T 23 = some F23 := rfl
theorem T24 : T 24 = some F24 := rfl
theorem T25 : T 25 = some F25 := rfl
theorem T26 : T 26 = some F26 := rfl
theorem T33 : T 33 = some F33 := rfl
theorem T36 : T 36 = some F36 := rfl
theorem T39 : T 39 = some F39 := rfl
theorem T41 : T 41 = some F41 := rfl
theorem T42 : T 42 = some F42 := rfl
theorem T43 : T 43 = some F43 := rfl
theorem T51 : T 51 = some F51 := rfl
theorem T52 : T 52 = some F52 := rfl
theorem T53 : T 53 = some F53 := rfl
theorem T54 : T 54 = some F54 := rfl
theorem T55 : T 55 = some F55 := rfl
theorem T57 : T 57 = some F57 := rfl
theorem T59 : T 59 = some F59 := rfl
theorem T60 : T 60 = some F60 := rfl
theorem T61 : T 61 = some F61 := rfl
theorem T62 : T 62 = some F62 := rfl
theorem T63 : T 63 = some F63 := rfl
theorem T64 : T 64 = some F64 := rfl
theorem T65 : T 65 = some F65 := rfl
theorem T66 : T 66 = some F66 := rfl
theorem T67 : T 67 = some F67 := rfl
theorem T68 : T 68 = some F68 := rfl
theorem T69 : T 69 = some F69 := rfl
theorem T70 : T 70 = some F70 := rfl
theorem T71 : T 71 = some F71 := rfl
theorem T72 : T 72 = some F72 := rfl
theorem T74 : T 74 = some F74 := rfl
theorem T75 : T 75 = some F75 := rfl
theorem T78 : T 78 = some F78 := rfl
theorem T79 : T 79 = some F79 := rfl
theorem T80 : T 80 = some F80 := rfl
theorem T81 : T 81 = some F81 := rfl
theorem T84 : T 84 = some F84 := rfl
theorem T85 : T 85 = some F85 := rfl
theorem T86 : T 86 = some F86 := rfl
theorem T87 : T 87 = some F87 := rfl
theorem T88 : T 88 = some F88 := rfl
theorem T89 : T 89 = some F89 := rfl
theorem T90 : T 90 = some F90 := rfl
theorem T91 : T 91 = some F91 := rfl
theorem T92 : T 92 = some F92 := rfl
theorem T93 : T 93 = some F93 := rfl
theorem T94 : T 94 = some F94 := rfl
theorem T95 : T 95 = some F95 := rfl
theorem T96 : T 96 = some F96 := rfl
theorem T101 : T 101 = some F101 := rfl
theorem T106 : T 106 = some F106 := rfl
theorem T58 : T 58 = some FDo := rfl
theorem b41 : xp2 Try.prog T := by
 intro f F h
 unfold T at h
 split at h
 ·cases h; exact .inl (lh3 Try.func8 F8_ok)
 ·cases h; exact .inl (lh3 Try.func9 F9_ok)
 ·cases h; exact .inl (lh3 Try.func11 F11_ok)
 ·cases h; exact .inl (lh3 Try.func14 F14_ok)
 ·cases h; exact .inl (lh3 Try.func16 F16_ok)
 ·cases h; exact .inl (lh3 Try.func21 F21_ok)
 ·cases h; exact .inl (lh3 Try.func22 F22_ok)
 ·cases h; exact .inl (lh3 Try.func23 F23_ok)
 ·cases h; exact .inl (lh3 Try.func24 F24_ok)
 ·cases h; exact .inl (lh3 Try.func25 F25_ok)
 ·cases h; exact .inl (lh3 Try.func26 F26_ok)
 ·cases h; exact .inl (lh3 Try.func33 F33_ok)
 ·cases h; exact .inl (lh3 Try.func36 F36_ok)
 ·cases h; exact .inl (lh3 Try.func39 F39_ok)
 ·cases h; exact .inl (lh3 Try.func41 F41_ok)
 ·cases h; exact .inl (lh3 Try.func42 F42_ok)
 ·cases h; exact .inl (lh3 Try.func43 F43_ok)
 ·cases h; exact .inl (lh3 Try.func51 F51_ok)
 ·cases h; exact .inl (lh3 Try.func52 F52_ok)
 ·cases h; exact .inl (lh3 Try.func53 F53_ok)
 ·cases h; exact .inl (lh3 Try.func54 F54_ok)
 ·cases h; exact .inl (lh3 Try.func55 F55_ok)
 ·cases h; exact .inl (lh3 Try.func57 F57_ok)
 ·cases h; exact .inr (tr1 rfl)
 ·cases h; exact .inl (lh3 Try.func59 F59_ok)
 ·cases h; exact .inl (lh3 Try.func60 F60_ok)
 ·cases h; exact .inl (lh3 Try.func61 F61_ok)
 ·cases h; exact .inl (lh3 Try.func62 F62_ok)
 ·cases h; exact .inl (lh3 Try.func63 F63_ok)
 ·cases h; exact .inl (lh3 Try.func64 F64_ok)
 ·cases h; exact .inl (lh3 Try.func65 F65_ok)
 ·cases h; exact .inl (lh3 Try.func66 F66_ok)
 ·cases h; exact .inl (lh3 Try.func67 F67_ok)
 ·cases h; exact .inl (lh3 Try.func68 F68_ok)
 ·cases h; exact .inl (lh3 Try.func69 F69_ok)
 ·cases h; exact .inl (lh3 Try.func70 F70_ok)
 ·cases h; exact .inl (lh3 Try.func71 F71_ok)
 ·cases h; exact .inl (lh3 Try.func72 F72_ok)
 ·cases h; exact .inl (lh3 Try.func74 F74_ok)
 ·cases h; exact .inl (lh3 Try.func75 F75_ok)
 ·cases h; exact .inl (lh3 Try.func78 F78_ok)
 ·cases h; exact .inl (lh3 Try.func79 F79_ok)
 ·cases h; exact .inl (lh3 Try.func80 F80_ok)
 ·cases h; exact .inl (lh3 Try.func81 F81_ok)
 ·cases h; exact .inl (lh3 Try.func84 F84_ok)
 ·cases h; exact .inl (lh3 Try.func85 F85_ok)
 ·cases h; exact .inl (lh3 Try.func86 F86_ok)
 ·cases h; exact .inl (lh3 Try.func87 F87_ok)
 ·cases h; exact .inl (lh3 Try.func88 F88_ok)
 ·cases h; exact .inl (lh3 Try.func89 F89_ok)
 ·cases h; exact .inl (lh3 Try.func90 F90_ok)
 ·cases h; exact .inl (lh3 Try.func91 F91_ok)
 ·cases h; exact .inl (lh3 Try.func92 F92_ok)
 ·cases h; exact .inl (lh3 Try.func93 F93_ok)
 ·cases h; exact .inl (lh3 Try.func94 F94_ok)
 ·cases h; exact .inl (lh3 Try.func95 F95_ok)
 ·cases h; exact .inl (lh3 Try.func96 F96_ok)
 ·cases h; exact .inl (lh3 Try.func101 F101_ok)
 ·cases h; exact .inl (lh3 Try.func106 F106_ok)
 ·cases h
theorem mixed : Try.prog.follows .mixedOrders = true := by kernel_rfl
end Go.Proofs.Ytghfdpdiibiigaa
