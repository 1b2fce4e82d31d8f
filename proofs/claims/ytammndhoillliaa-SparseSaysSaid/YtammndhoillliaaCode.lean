/-
  Functions of this seat as the small machine's code, written by a program of my own (gen.py); each is checked to be what the model's function is turned into. No condition.
-/
import Derived.Test.YtammndhoillliaaCode0
namespace Go.Proofs.Ytammndhoillliaa
open Go.Am
set_option maxRecDepth 100000
def T : Tab
  | 2 => some F2
  | 3 => some F3
  | 4 => some F4
  | 16 => some F16
  | 22 => some F22
  | 23 => some F23
  | 24 => some F24
  | 25 => some F25
  | 26 => some F26
  | 27 => some F27
  | 28 => some F28
  | 29 => some F29
  | 30 => some F30
  | 31 => some F31
  | 32 => some F32
  | 33 => some F33
  | 92 => some F92
  | 94 => some F94
  | 98 => some F98
  | 106 => some F106
  | 107 => some F107
  | 108 => some F108
  | 109 => some F109
  | 110 => some F110
  | 111 => some F111
  | 112 => some F112
  | 113 => some F113
  | 114 => some F114
  | 148 => some F148
  | 151 => some F151
  | 152 => some F152
  | _ => none
theorem T2 : T 2 = some F2 := rfl
theorem T3 : T 3 = some F3 := rfl
theorem T4 : T 4 = some F4 := rfl
theorem T16 : T 16 = some F16 := rfl
theorem T22 : T 22 = some F22 := rfl
theorem T23 : T 23 = some F23 := rfl
theorem T24 : T 24 = some F24 := rfl
theorem T25 : T 25 = some F25 := rfl
theorem T26 : T 26 = some F26 := rfl
theorem T27 : T 27 = some F27 := rfl
theorem T28 : T 28 = some F28 := rfl
theorem T29 : T 29 = some F29 := rfl
theorem T30 : T 30 = some F30 := rfl
theorem T31 : T 31 = some F31 := rfl
theorem T32 : T 32 = some F32 := rfl
theorem T33 : T 33 = some F33 := rfl
theorem T92 : T 92 = some F92 := rfl
theorem T94 : T 94 = some F94 := rfl
theorem T98 : T 98 = some F98 := rfl
theorem T106 : T 106 = some F106 := rfl
theorem T107 : T 107 = some F107 := rfl
theorem T108 : T 108 = some F108 := rfl
theorem T109 : T 109 = some F109 := rfl
theorem T110 : T 110 = some F110 := rfl
theorem T111 : T 111 = some F111 := rfl
theorem T112 : T 112 = some F112 := rfl
theorem T113 : T 113 = some F113 := rfl
theorem T114 : T 114 = some F114 := rfl
theorem T148 : T 148 = some F148 := rfl
theorem T151 : T 151 = some F151 := rfl
theorem T152 : T 152 = some F152 := rfl
theorem tabOK : TabOK Try.prog T := by
  intro f F h
  unfold T at h
  split at h
  · cases h; exact .inl (compF_sound Try.func2 F2_ok)
  · cases h; exact .inl (compF_sound Try.func3 F3_ok)
  · cases h; exact .inl (compF_sound Try.func4 F4_ok)
  · cases h; exact .inl (compF_sound Try.func16 F16_ok)
  · cases h; exact .inl (compF_sound Try.func22 F22_ok)
  · cases h; exact .inl (compF_sound Try.func23 F23_ok)
  · cases h; exact .inl (compF_sound Try.func24 F24_ok)
  · cases h; exact .inl (compF_sound Try.func25 F25_ok)
  · cases h; exact .inl (compF_sound Try.func26 F26_ok)
  · cases h; exact .inl (compF_sound Try.func27 F27_ok)
  · cases h; exact .inl (compF_sound Try.func28 F28_ok)
  · cases h; exact .inl (compF_sound Try.func29 F29_ok)
  · cases h; exact .inl (compF_sound Try.func30 F30_ok)
  · cases h; exact .inl (compF_sound Try.func31 F31_ok)
  · cases h; exact .inl (compF_sound Try.func32 F32_ok)
  · cases h; exact .inl (compF_sound Try.func33 F33_ok)
  · cases h; exact .inl (compF_sound Try.func92 F92_ok)
  · cases h; exact .inl (compF_sound Try.func94 F94_ok)
  · cases h; exact .inl (compF_sound Try.func98 F98_ok)
  · cases h; exact .inl (compF_sound Try.func106 F106_ok)
  · cases h; exact .inl (compF_sound Try.func107 F107_ok)
  · cases h; exact .inl (compF_sound Try.func108 F108_ok)
  · cases h; exact .inl (compF_sound Try.func109 F109_ok)
  · cases h; exact .inl (compF_sound Try.func110 F110_ok)
  · cases h; exact .inl (compF_sound Try.func111 F111_ok)
  · cases h; exact .inl (compF_sound Try.func112 F112_ok)
  · cases h; exact .inl (compF_sound Try.func113 F113_ok)
  · cases h; exact .inl (compF_sound Try.func114 F114_ok)
  · cases h; exact .inl (compF_sound Try.func148 F148_ok)
  · cases h; exact .inl (compF_sound Try.func151 F151_ok)
  · cases h; exact .inl (compF_sound Try.func152 F152_ok)
  · cases h
theorem mixed : Try.prog.follows .mixedOrders = true := by kernel_rfl
end Go.Proofs.Ytammndhoillliaa
