/-
  Functions of this seat as the small machine's code, written by a program of my own (gen.py); each is checked to be what the model's function is turned into. No condition.
-/
import Derived.Test.YtghfdpdiibiigaaK3
import Derived.Test.YtghfdpdiibiigaaKCode0
set_option linter.unusedVariables false
set_option linter.unusedSimpArgs false
set_option linter.unusedSectionVars false
set_option maxRecDepth 100000
namespace Go.Proofs.Ytghfdpdiibiigaa
open Go.Am
def T : Tab
 | 5 => some F5
 | 9 => some F9
 | 19 => some F19
 | 20 => some F20
 | 21 => some F21
 | 22 => some F22
 | 26 => some F26
 | 29 => some F29
 | 30 => some F30
 | 31 => some F31
 | 32 => some F32
 | 33 => some F33
 | 34 => some F34
 | 35 => some F35
 | 36 => some F36
 | 37 => some F37
 | 53 => some F53
 | 54 => some F54
 | 55 => some F55
 | 56 => some F56
 | 57 => some F57
 | 58 => some FDo
 | 59 => some F59
 | 60 => some F60
 | 81 => some F81
 | 84 => some F84
 | 101 => some F101
 | 106 => some F106
 | _ => none
theorem T5 : T 5 = some F5 := rfl
theorem T9 : T 9 = some F9 := rfl
theorem T19 : T 19 = some F19 := rfl
theorem T20 : T 20 = some F20 := rfl
theorem T21 : T 21 = some F21 := rfl
theorem T22 : T 22 = some F22 := rfl
theorem T26 : T 26 = some F26 := rfl
theorem T29 : T 29 = some F29 := rfl
theorem T30 : T 30 = some F30 := rfl
theorem T31 : T 31 = some F31 := rfl
theorem T32 : T 32 = some F32 := rfl
theorem T33 : T 33 = some F33 := rfl
theorem T34 : T 34 = some F34 := rfl
theorem T35 : T 35 = some F35 := rfl
theorem T36 : T 36 = some F36 := rfl
theorem T37 : T 37 = some F37 := rfl
theorem T53 : T 53 = some F53 := rfl
theorem T54 : T 54 = some F54 := rfl
theorem T55 : T 55 = some F55 := rfl
theorem T56 : T 56 = some F56 := rfl
theorem T57 : T 57 = some F57 := rfl
theorem T59 : T 59 = some F59 := rfl
theorem T60 : T 60 = some F60 := rfl
theorem T81 : T 81 = some F81 := rfl
theorem T84 : T 84 = some F84 := rfl
theorem T101 : T 101 = some F101 := rfl
theorem T106 : T 106 = some F106 := rfl
theorem T58 : T 58 = some FDo := rfl
theorem b41 : xp2 Try.prog T := by
 intro f F h
 unfold T at h
 split at h
 ·cases h; exact .inl (lh3 Try.func5 F5_ok)
 ·cases h; exact .inl (lh3 Try.func9 F9_ok)
 ·cases h; exact .inl (lh3 Try.func19 F19_ok)
 ·cases h; exact .inl (lh3 Try.func20 F20_ok)
 ·cases h; exact .inl (lh3 Try.func21 F21_ok)
 ·cases h; exact .inl (lh3 Try.func22 F22_ok)
 ·cases h; exact .inl (lh3 Try.func26 F26_ok)
 ·cases h; exact .inl (lh3 Try.func29 F29_ok)
 ·cases h; exact .inl (lh3 Try.func30 F30_ok)
 ·cases h; exact .inl (lh3 Try.func31 F31_ok)
 ·cases h; exact .inl (lh3 Try.func32 F32_ok)
 ·cases h; exact .inl (lh3 Try.func33 F33_ok)
 ·cases h; exact .inl (lh3 Try.func34 F34_ok)
 ·cases h; exact .inl (lh3 Try.func35 F35_ok)
 ·cases h; exact .inl (lh3 Try.func36 F36_ok)
 ·cases h; exact .inl (lh3 Try.func37 F37_ok)
 ·cases h; exact .inl (lh3 Try.func53 F53_ok)
 ·cases h; exact .inl (lh3 Try.func54 F54_ok)
 ·cases h; exact .inl (lh3 Try.func55 F55_ok)
 ·cases h; exact .inl (lh3 Try.func56 F56_ok)
 ·cases h; exact .inl (lh3 Try.func57 F57_ok)
 ·cases h; exact .inr (tr1 rfl)
 ·cases h; exact .inl (lh3 Try.func59 F59_ok)
 ·cases h; exact .inl (lh3 Try.func60 F60_ok)
 ·cases h; exact .inl (lh3 Try.func81 F81_ok)
 ·cases h; exact .inl (lh3 Try.func84 F84_ok)
 ·cases h; exact .inl (lh3 Try.func101 F101_ok)
 ·cases h; exact .inl (lh3 Try.func106 F106_ok)
 ·cases h
theorem mixed : Try.prog.follows .mixedOrders = true := by kernel_rfl
end Go.Proofs.Ytghfdpdiibiigaa
