/-
  Functions of this seat as the small machine's code, written by a program of my own (gen.py); each is checked to be what the model's function is turned into. No condition.
-/
import Derived.Test.YtghfdpdiibiigaaK3
import Derived.Test.YtghfdpdiibiigaaKCode0
set_option linter.unusedVariables false
set_option linter.unusedSimpArgs false
set_option linter.unusedSectionVars false
set_option maxRecDepth 100000
namespace Go.Proofs.Ytghfdpdiibiigaa
open Go.Am
def T : Tab
 | 7 => some F7
 | 9 => some F9
 | 11 => some F11
 | 14 => some F14
 | 16 => some F16
 | 21 => some F21
 | 22 => some F22
 | 33 => some F33
 | 36 => some F36
 | 39 => some F39
 | 40 => some F40
 | 41 => some F41
 | 51 => some F51
 | 53 => some F53
 | 54 => some F54
 | 55 => some F55
 | 57 => some F57
 | 58 => some FDo
 | 59 => some F59
 | 60 => some F60
 | 61 => some F61
 | 63 => some F63
 | 64 => some F64
 | 68 => some F68
 | 78 => some F78
 | 81 => some F81
 | 84 => some F84
 | 85 => some F85
 | 86 => some F86
 | 101 => some F101
 | 106 => some F106
 | _ => none
theorem T7 : T 7 = some F7 := rfl
theorem T9 : T 9 = some F9 := rfl
theorem T11 : T 11 = some F11 := rfl
theorem T14 : T 14 = some F14 := rfl
theorem T16 : T 16 = some F16 := rfl
theorem T21 : T 21 = some F21 := rfl
theorem T22 : T 22 = some F22 := rfl
theorem T33 : T 33 = some F33 := rfl
theorem T36 : T 36 = some F36 := rfl
theorem T39 : T 39 = some F39 := rfl
theorem T40 : T 40 = some F40 := rfl
theorem T41 : T 41 = some F41 := rfl
theorem T51 : T 51 = some F51 := rfl
theorem T53 : T 53 = some F53 := rfl
theorem T54 : T 54 = some F54 := rfl
theorem T55 : T 55 = some F55 := rfl
theorem T57 : T 57 = some F57 := rfl
theorem T59 : T 59 = some F59 := rfl
theorem T60 : T 60 = some F60 := rfl
theorem T61 : T 61 = some F61 := rfl
theorem T63 : T 63 = some F63 := rfl
theorem T64 : T 64 = some F64 := rfl
theorem T68 : T 68 = some F68 := rfl
theorem T78 : T 78 = some F78 := rfl
theorem T81 : T 81 = some F81 := rfl
theorem T84 : T 84 = some F84 := rfl
theorem T85 : T 85 = some F85 := rfl
theorem T86 : T 86 = some F86 := rfl
theorem T101 : T 101 = some F101 := rfl
theorem T106 : T 106 = some F106 := rfl
theorem T58 : T 58 = some FDo := rfl
theorem b41 : xp2 Try.prog T := by
 intro f F h
 unfold T at h
 split at h
 ·cases h; exact .inl (lh3 Try.func7 F7_ok)
 ·cases h; exact .inl (lh3 Try.func9 F9_ok)
 ·cases h; exact .inl (lh3 Try.func11 F11_ok)
 ·cases h; exact .inl (lh3 Try.func14 F14_ok)
 ·cases h; exact .inl (lh3 Try.func16 F16_ok)
 ·cases h; exact .inl (lh3 Try.func21 F21_ok)
 ·cases h; exact .inl (lh3 Try.func22 F22_ok)
 ·cases h; exact .inl (lh3 Try.func33 F33_ok)
 ·cases h; exact .inl (lh3 Try.func36 F36_ok)
 ·cases h; exact .inl (lh3 Try.func39 F39_ok)
 ·cases h; exact .inl (lh3 Try.func40 F40_ok)
 ·cases h; exact .inl (lh3 Try.func41 F41_ok)
 ·cases h; exact .inl (lh3 Try.func51 F51_ok)
 ·cases h; exact .inl (lh3 Try.func53 F53_ok)
 ·cases h; exact .inl (lh3 Try.func54 F54_ok)
 ·cases h; exact .inl (lh3 Try.func55 F55_ok)
 ·cases h; exact .inl (lh3 Try.func57 F57_ok)
 ·cases h; exact .inr (tr1 rfl)
 ·cases h; exact .inl (lh3 Try.func59 F59_ok)
 ·cases h; exact .inl (lh3 Try.func60 F60_ok)
 ·cases h; exact .inl (lh3 Try.func61 F61_ok)
 ·cases h; exact .inl (lh3 Try.func63 F63_ok)
 ·cases h; exact .inl (lh3 Try.func64 F64_ok)
 ·cases h; exact .inl (lh3 Try.func68 F68_ok)
 ·cases h; exact .inl (lh3 Try.func78 F78_ok)
 ·cases h; exact .inl (lh3 Try.func81 F81_ok)
 ·cases h; exact .inl (lh3 Try.func84 F84_ok)
 ·cases h; exact .inl (lh3 Try.func85 F85_ok)
 ·cases h; exact .inl (lh3 Try.func86 F86_ok)
 ·cases h; exact .inl (lh3 Try.func101 F101_ok)
 ·cases h; exact .inl (lh3 Try.func106 F106_ok)
 ·cases h
theorem mixed : Try.prog.follows .mixedOrders = true := by kernel_rfl
end Go.Proofs.Ytghfdpdiibiigaa
