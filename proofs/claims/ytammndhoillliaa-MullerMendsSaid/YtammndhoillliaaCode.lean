/-
  Functions of this seat as the small machine's code, written by a program of my own (gen.py); each is checked to be what the model's function is turned into. No condition.
-/
import Derived.Test.YtammndhoillliaaCode0
namespace Go.Proofs.Ytammndhoillliaa
open Go.Am
set_option maxRecDepth 100000
def T : Tab
  | 2 => some F2
  | 3 => some F3
  | 4 => some F4
  | 15 => some F15
  | 16 => some F16
  | 17 => some F17
  | 18 => some F18
  | 19 => some F19
  | 20 => some F20
  | 21 => some F21
  | 22 => some F22
  | 33 => some F33
  | 35 => some F35
  | 36 => some F36
  | 92 => some F92
  | 93 => some F93
  | 94 => some F94
  | 95 => some F95
  | 96 => some F96
  | 97 => some F97
  | 98 => some F98
  | 99 => some F99
  | 100 => some F100
  | 101 => some F101
  | 102 => some F102
  | 103 => some F103
  | 104 => some F104
  | 105 => some F105
  | 106 => some F106
  | 113 => some F113
  | 114 => some F114
  | 148 => some F148
  | 150 => some F150
  | 152 => some F152
  | _ => none
theorem T2 : T 2 = some F2 := rfl
theorem T3 : T 3 = some F3 := rfl
theorem T4 : T 4 = some F4 := rfl
theorem T15 : T 15 = some F15 := rfl
theorem T16 : T 16 = some F16 := rfl
theorem T17 : T 17 = some F17 := rfl
theorem T18 : T 18 = some F18 := rfl
theorem T19 : T 19 = some F19 := rfl
theorem T20 : T 20 = some F20 := rfl
theorem T21 : T 21 = some F21 := rfl
theorem T22 : T 22 = some F22 := rfl
theorem T33 : T 33 = some F33 := rfl
theorem T35 : T 35 = some F35 := rfl
theorem T36 : T 36 = some F36 := rfl
theorem T92 : T 92 = some F92 := rfl
theorem T93 : T 93 = some F93 := rfl
theorem T94 : T 94 = some F94 := rfl
theorem T95 : T 95 = some F95 := rfl
theorem T96 : T 96 = some F96 := rfl
theorem T97 : T 97 = some F97 := rfl
theorem T98 : T 98 = some F98 := rfl
theorem T99 : T 99 = some F99 := rfl
theorem T100 : T 100 = some F100 := rfl
theorem T101 : T 101 = some F101 := rfl
theorem T102 : T 102 = some F102 := rfl
theorem T103 : T 103 = some F103 := rfl
theorem T104 : T 104 = some F104 := rfl
theorem T105 : T 105 = some F105 := rfl
theorem T106 : T 106 = some F106 := rfl
theorem T113 : T 113 = some F113 := rfl
theorem T114 : T 114 = some F114 := rfl
theorem T148 : T 148 = some F148 := rfl
theorem T150 : T 150 = some F150 := rfl
theorem T152 : T 152 = some F152 := rfl
theorem tabOK : TabOK Try.prog T := by
  intro f F h
  unfold T at h
  split at h
  · cases h; exact .inl (compF_sound Try.func2 F2_ok)
  · cases h; exact .inl (compF_sound Try.func3 F3_ok)
  · cases h; exact .inl (compF_sound Try.func4 F4_ok)
  · cases h; exact .inl (compF_sound Try.func15 F15_ok)
  · cases h; exact .inl (compF_sound Try.func16 F16_ok)
  · cases h; exact .inl (compF_sound Try.func17 F17_ok)
  · cases h; exact .inl (compF_sound Try.func18 F18_ok)
  · cases h; exact .inl (compF_sound Try.func19 F19_ok)
  · cases h; exact .inl (compF_sound Try.func20 F20_ok)
  · cases h; exact .inl (compF_sound Try.func21 F21_ok)
  · cases h; exact .inl (compF_sound Try.func22 F22_ok)
  · cases h; exact .inl (compF_sound Try.func33 F33_ok)
  · cases h; exact .inl (compF_sound Try.func35 F35_ok)
  · cases h; exact .inl (compF_sound Try.func36 F36_ok)
  · cases h; exact .inl (compF_sound Try.func92 F92_ok)
  · cases h; exact .inl (compF_sound Try.func93 F93_ok)
  · cases h; exact .inl (compF_sound Try.func94 F94_ok)
  · cases h; exact .inl (compF_sound Try.func95 F95_ok)
  · cases h; exact .inl (compF_sound Try.func96 F96_ok)
  · cases h; exact .inl (compF_sound Try.func97 F97_ok)
  · cases h; exact .inl (compF_sound Try.func98 F98_ok)
  · cases h; exact .inl (compF_sound Try.func99 F99_ok)
  · cases h; exact .inl (compF_sound Try.func100 F100_ok)
  · cases h; exact .inl (compF_sound Try.func101 F101_ok)
  · cases h; exact .inl (compF_sound Try.func102 F102_ok)
  · cases h; exact .inl (compF_sound Try.func103 F103_ok)
  · cases h; exact .inl (compF_sound Try.func104 F104_ok)
  · cases h; exact .inl (compF_sound Try.func105 F105_ok)
  · cases h; exact .inl (compF_sound Try.func106 F106_ok)
  · cases h; exact .inl (compF_sound Try.func113 F113_ok)
  · cases h; exact .inl (compF_sound Try.func114 F114_ok)
  · cases h; exact .inl (compF_sound Try.func148 F148_ok)
  · cases h; exact .inl (compF_sound Try.func150 F150_ok)
  · cases h; exact .inl (compF_sound Try.func152 F152_ok)
  · cases h
theorem mixed : Try.prog.follows .mixedOrders = true := by kernel_rfl
end Go.Proofs.Ytammndhoillliaa
