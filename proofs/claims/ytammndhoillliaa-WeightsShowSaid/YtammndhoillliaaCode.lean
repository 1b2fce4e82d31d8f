/-
  Functions of this seat as the small machine's code, written by a program of my own (gen.py); each is checked to be what the model's function is turned into. No condition.
-/
import Derived.Test.YtammndhoillliaaDo
import Derived.Test.YtammndhoillliaaCode0
import Derived.Test.YtammndhoillliaaCode1
namespace Go.Proofs.Ytammndhoillliaa
open Go.Am
set_option maxRecDepth 100000
def T : Tab
  | 2 => some F2
  | 3 => some F3
  | 4 => some F4
  | 5 => some F5
  | 7 => some F7
  | 39 => some F39
  | 40 => some F40
  | 41 => some F41
  | 42 => some F42
  | 43 => some F43
  | 44 => some F44
  | 45 => some F45
  | 46 => some F46
  | 47 => some F47
  | 48 => some F48
  | 49 => some F49
  | 50 => some F50
  | 51 => some F51
  | 52 => some F52
  | 53 => some F53
  | 54 => some F54
  | 55 => some F55
  | 56 => some F56
  | 57 => some F57
  | 58 => some F58
  | 59 => some F59
  | 60 => some F60
  | 61 => some F61
  | 62 => some F62
  | 63 => some F63
  | 64 => some F64
  | 65 => some F65
  | 66 => some F66
  | 67 => some F67
  | 68 => some F68
  | 69 => some F69
  | 70 => some F70
  | 71 => some F71
  | 72 => some F72
  | 116 => some F116
  | 118 => some F118
  | 119 => some F119
  | 120 => some F120
  | 121 => some F121
  | 122 => some FDo
  | 123 => some F123
  | 124 => some F124
  | 125 => some F125
  | 126 => some F126
  | 127 => some F127
  | 128 => some F128
  | 153 => some F153
  | 154 => some F154
  | 157 => some F157
  | 165 => some F165
  | 166 => some F166
  | 171 => some F171
  | 180 => some F180
  | _ => none
theorem T2 : T 2 = some F2 := rfl
theorem T3 : T 3 = some F3 := rfl
theorem T4 : T 4 = some F4 := rfl
theorem T5 : T 5 = some F5 := rfl
theorem T7 : T 7 = some F7 := rfl
theorem T39 : T 39 = some F39 := rfl
theorem T40 : T 40 = some F40 := rfl
theorem T41 : T 41 = some F41 := rfl
theorem T42 : T 42 = some F42 := rfl
theorem T43 : T 43 = some F43 := rfl
theorem T44 : T 44 = some F44 := rfl
theorem T45 : T 45 = some F45 := rfl
theorem T46 : T 46 = some F46 := rfl
theorem T47 : T 47 = some F47 := rfl
theorem T48 : T 48 = some F48 := rfl
theorem T49 : T 49 = some F49 := rfl
theorem T50 : T 50 = some F50 := rfl
theorem T51 : T 51 = some F51 := rfl
theorem T52 : T 52 = some F52 := rfl
theorem T53 : T 53 = some F53 := rfl
theorem T54 : T 54 = some F54 := rfl
theorem T55 : T 55 = some F55 := rfl
theorem T56 : T 56 = some F56 := rfl
theorem T57 : T 57 = some F57 := rfl
theorem T58 : T 58 = some F58 := rfl
theorem T59 : T 59 = some F59 := rfl
theorem T60 : T 60 = some F60 := rfl
theorem T61 : T 61 = some F61 := rfl
theorem T62 : T 62 = some F62 := rfl
theorem T63 : T 63 = some F63 := rfl
theorem T64 : T 64 = some F64 := rfl
theorem T65 : T 65 = some F65 := rfl
theorem T66 : T 66 = some F66 := rfl
theorem T67 : T 67 = some F67 := rfl
theorem T68 : T 68 = some F68 := rfl
theorem T69 : T 69 = some F69 := rfl
theorem T70 : T 70 = some F70 := rfl
theorem T71 : T 71 = some F71 := rfl
theorem T72 : T 72 = some F72 := rfl
theorem T116 : T 116 = some F116 := rfl
theorem T118 : T 118 = some F118 := rfl
theorem T119 : T 119 = some F119 := rfl
theorem T120 : T 120 = some F120 := rfl
theorem T121 : T 121 = some F121 := rfl
theorem T123 : T 123 = some F123 := rfl
theorem T124 : T 124 = some F124 := rfl
theorem T125 : T 125 = some F125 := rfl
theorem T126 : T 126 = some F126 := rfl
theorem T127 : T 127 = some F127 := rfl
theorem T128 : T 128 = some F128 := rfl
theorem T153 : T 153 = some F153 := rfl
theorem T154 : T 154 = some F154 := rfl
theorem T157 : T 157 = some F157 := rfl
theorem T165 : T 165 = some F165 := rfl
theorem T166 : T 166 = some F166 := rfl
theorem T171 : T 171 = some F171 := rfl
theorem T180 : T 180 = some F180 := rfl
theorem T122 : T 122 = some FDo := rfl
theorem tabOK : TabOK Try.prog T := by
  intro f F h
  unfold T at h
  split at h
  · cases h; exact .inl (compF_sound Try.func2 F2_ok)
  · cases h; exact .inl (compF_sound Try.func3 F3_ok)
  · cases h; exact .inl (compF_sound Try.func4 F4_ok)
  · cases h; exact .inl (compF_sound Try.func5 F5_ok)
  · cases h; exact .inl (compF_sound Try.func7 F7_ok)
  · cases h; exact .inl (compF_sound Try.func39 F39_ok)
  · cases h; exact .inl (compF_sound Try.func40 F40_ok)
  · cases h; exact .inl (compF_sound Try.func41 F41_ok)
  · cases h; exact .inl (compF_sound Try.func42 F42_ok)
  · cases h; exact .inl (compF_sound Try.func43 F43_ok)
  · cases h; exact .inl (compF_sound Try.func44 F44_ok)
  · cases h; exact .inl (compF_sound Try.func45 F45_ok)
  · cases h; exact .inl (compF_sound Try.func46 F46_ok)
  · cases h; exact .inl (compF_sound Try.func47 F47_ok)
  · cases h; exact .inl (compF_sound Try.func48 F48_ok)
  · cases h; exact .inl (compF_sound Try.func49 F49_ok)
  · cases h; exact .inl (compF_sound Try.func50 F50_ok)
  · cases h; exact .inl (compF_sound Try.func51 F51_ok)
  · cases h; exact .inl (compF_sound Try.func52 F52_ok)
  · cases h; exact .inl (compF_sound Try.func53 F53_ok)
  · cases h; exact .inl (compF_sound Try.func54 F54_ok)
  · cases h; exact .inl (compF_sound Try.func55 F55_ok)
  · cases h; exact .inl (compF_sound Try.func56 F56_ok)
  · cases h; exact .inl (compF_sound Try.func57 F57_ok)
  · cases h; exact .inl (compF_sound Try.func58 F58_ok)
  · cases h; exact .inl (compF_sound Try.func59 F59_ok)
  · cases h; exact .inl (compF_sound Try.func60 F60_ok)
  · cases h; exact .inl (compF_sound Try.func61 F61_ok)
  · cases h; exact .inl (compF_sound Try.func62 F62_ok)
  · cases h; exact .inl (compF_sound Try.func63 F63_ok)
  · cases h; exact .inl (compF_sound Try.func64 F64_ok)
  · cases h; exact .inl (compF_sound Try.func65 F65_ok)
  · cases h; exact .inl (compF_sound Try.func66 F66_ok)
  · cases h; exact .inl (compF_sound Try.func67 F67_ok)
  · cases h; exact .inl (compF_sound Try.func68 F68_ok)
  · cases h; exact .inl (compF_sound Try.func69 F69_ok)
  · cases h; exact .inl (compF_sound Try.func70 F70_ok)
  · cases h; exact .inl (compF_sound Try.func71 F71_ok)
  · cases h; exact .inl (compF_sound Try.func72 F72_ok)
  · cases h; exact .inl (compF_sound Try.func116 F116_ok)
  · cases h; exact .inl (compF_sound Try.func118 F118_ok)
  · cases h; exact .inl (compF_sound Try.func119 F119_ok)
  · cases h; exact .inl (compF_sound Try.func120 F120_ok)
  · cases h; exact .inl (compF_sound Try.func121 F121_ok)
  · cases h; exact .inr (once_ok rfl)
  · cases h; exact .inl (compF_sound Try.func123 F123_ok)
  · cases h; exact .inl (compF_sound Try.func124 F124_ok)
  · cases h; exact .inl (compF_sound Try.func125 F125_ok)
  · cases h; exact .inl (compF_sound Try.func126 F126_ok)
  · cases h; exact .inl (compF_sound Try.func127 F127_ok)
  · cases h; exact .inl (compF_sound Try.func128 F128_ok)
  · cases h; exact .inl (compF_sound Try.func153 F153_ok)
  · cases h; exact .inl (compF_sound Try.func154 F154_ok)
  · cases h; exact .inl (compF_sound Try.func157 F157_ok)
  · cases h; exact .inl (compF_sound Try.func165 F165_ok)
  · cases h; exact .inl (compF_sound Try.func166 F166_ok)
  · cases h; exact .inl (compF_sound Try.func171 F171_ok)
  · cases h; exact .inl (compF_sound Try.func180 F180_ok)
  · cases h
theorem mixed : Try.prog.follows .mixedOrders = true := by kernel_rfl
end Go.Proofs.Ytammndhoillliaa
