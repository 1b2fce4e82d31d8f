/-
  Functions of this seat as the small machine's code, written by a program of my own (gen.py); each is checked to be what the model's function is turned into. No condition.
-/
import Derived.Test.YtammndhoillliaaK1
import Derived.Test.YtammndhoillliaaKCode0
import Derived.Test.YtammndhoillliaaKCode1
import Derived.Test.YtammndhoillliaaKCode2
namespace Go.Proofs.Ytammndhoillliaa
open Go.Am
set_option maxRecDepth 100000
def T : Tab
  | 2 => some F2
  | 3 => some F3
  | 4 => some F4
  | 5 => some F5
  | 6 => some F6
  | 7 => some F7
  | 8 => some F8
  | 9 => some F9
  | 10 => some F10
  | 11 => some F11
  | 12 => some F12
  | 13 => some F13
  | 17 => some F17
  | 20 => some F20
  | 22 => some F22
  | 33 => some F33
  | 35 => some F35
  | 36 => some F36
  | 42 => some F42
  | 43 => some F43
  | 44 => some F44
  | 45 => some F45
  | 46 => some F46
  | 47 => some F47
  | 48 => some F48
  | 49 => some F49
  | 50 => some F50
  | 51 => some F51
  | 52 => some F52
  | 53 => some F53
  | 54 => some F54
  | 55 => some F55
  | 56 => some F56
  | 57 => some F57
  | 58 => some F58
  | 59 => some F59
  | 60 => some F60
  | 61 => some F61
  | 62 => some F62
  | 63 => some F63
  | 64 => some F64
  | 65 => some F65
  | 66 => some F66
  | 67 => some F67
  | 68 => some F68
  | 69 => some F69
  | 70 => some F70
  | 71 => some F71
  | 72 => some F72
  | 73 => some F73
  | 74 => some F74
  | 76 => some F76
  | 77 => some F77
  | 78 => some F78
  | 79 => some F79
  | 80 => some F80
  | 81 => some F81
  | 92 => some F92
  | 94 => some F94
  | 98 => some F98
  | 106 => some F106
  | 113 => some F113
  | 114 => some F114
  | 116 => some F116
  | 118 => some F118
  | 122 => some FDo
  | 123 => some F123
  | 124 => some F124
  | 125 => some F125
  | 126 => some F126
  | 127 => some F127
  | 128 => some F128
  | 129 => some F129
  | 130 => some F130
  | 131 => some F131
  | 132 => some F132
  | 135 => some F135
  | 148 => some F148
  | 152 => some F152
  | 157 => some F157
  | 158 => some F158
  | 159 => some F159
  | 160 => some F160
  | 161 => some F161
  | 171 => some F171
  | 172 => some F172
  | 180 => some F180
  | _ => none
theorem T2 : T 2 = some F2 := rfl
theorem T3 : T 3 = some F3 := rfl
theorem T4 : T 4 = some F4 := rfl
theorem T5 : T 5 = some F5 := rfl
theorem T6 : T 6 = some F6 := rfl
theorem T7 : T 7 = some F7 := rfl
theorem T8 : T 8 = some F8 := rfl
theorem T9 : T 9 = some F9 := rfl
theorem T10 : T 10 = some F10 := rfl
theorem T11 : T 11 = some F11 := rfl
theorem T12 : T 12 = some F12 := rfl
theorem T13 : T 13 = some F13 := rfl
theorem T17 : T 17 = some F17 := rfl
theorem T20 : T 20 = some F20 := rfl
theorem T22 : T 22 = some F22 := rfl
theorem T33 : T 33 = some F33 := rfl
theorem T35 : T 35 = some F35 := rfl
theorem T36 : T 36 = some F36 := rfl
theorem T42 : T 42 = some F42 := rfl
theorem T43 : T 43 = some F43 := rfl
theorem T44 : T 44 = some F44 := rfl
theorem T45 : T 45 = some F45 := rfl
theorem T46 : T 46 = some F46 := rfl
theorem T47 : T 47 = some F47 := rfl
theorem T48 : T 48 = some F48 := rfl
theorem T49 : T 49 = some F49 := rfl
theorem T50 : T 50 = some F50 := rfl
theorem T51 : T 51 = some F51 := rfl
theorem T52 : T 52 = some F52 := rfl
theorem T53 : T 53 = some F53 := rfl
theorem T54 : T 54 = some F54 := rfl
theorem T55 : T 55 = some F55 := rfl
theorem T56 : T 56 = some F56 := rfl
theorem T57 : T 57 = some F57 := rfl
theorem T58 : T 58 = some F58 := rfl
theorem T59 : T 59 = some F59 := rfl
theorem T60 : T 60 = some F60 := rfl
theorem T61 : T 61 = some F61 := rfl
theorem T62 : T 62 = some F62 := rfl
theorem T63 : T 63 = some F63 := rfl
theorem T64 : T 64 = some F64 := rfl
theorem T65 : T 65 = some F65 := rfl
theorem T66 : T 66 = some F66 := rfl
theorem T67 : T 67 = some F67 := rfl
theorem T68 : T 68 = some F68 := rfl
theorem T69 : T 69 = some F69 := rfl
theorem T70 : T 70 = some F70 := rfl
theorem T71 : T 71 = some F71 := rfl
theorem T72 : T 72 = some F72 := rfl
theorem T73 : T 73 = some F73 := rfl
theorem T74 : T 74 = some F74 := rfl
theorem T76 : T 76 = some F76 := rfl
theorem T77 : T 77 = some F77 := rfl
theorem T78 : T 78 = some F78 := rfl
theorem T79 : T 79 = some F79 := rfl
theorem T80 : T 80 = some F80 := rfl
theorem T81 : T 81 = some F81 := rfl
theorem T92 : T 92 = some F92 := rfl
theorem T94 : T 94 = some F94 := rfl
theorem T98 : T 98 = some F98 := rfl
theorem T106 : T 106 = some F106 := rfl
theorem T113 : T 113 = some F113 := rfl
theorem T114 : T 114 = some F114 := rfl
theorem T116 : T 116 = some F116 := rfl
theorem T118 : T 118 = some F118 := rfl
theorem T123 : T 123 = some F123 := rfl
theorem T124 : T 124 = some F124 := rfl
theorem T125 : T 125 = some F125 := rfl
theorem T126 : T 126 = some F126 := rfl
theorem T127 : T 127 = some F127 := rfl
theorem T128 : T 128 = some F128 := rfl
theorem T129 : T 129 = some F129 := rfl
theorem T130 : T 130 = some F130 := rfl
theorem T131 : T 131 = some F131 := rfl
theorem T132 : T 132 = some F132 := rfl
theorem T135 : T 135 = some F135 := rfl
theorem T148 : T 148 = some F148 := rfl
theorem T152 : T 152 = some F152 := rfl
theorem T157 : T 157 = some F157 := rfl
theorem T158 : T 158 = some F158 := rfl
theorem T159 : T 159 = some F159 := rfl
theorem T160 : T 160 = some F160 := rfl
theorem T161 : T 161 = some F161 := rfl
theorem T171 : T 171 = some F171 := rfl
theorem T172 : T 172 = some F172 := rfl
theorem T180 : T 180 = some F180 := rfl
theorem T122 : T 122 = some FDo := rfl
theorem tabOK : TabOK Try.prog T := by
  intro f F h
  unfold T at h
  split at h
  · cases h; exact .inl (compF_sound Try.func2 F2_ok)
  · cases h; exact .inl (compF_sound Try.func3 F3_ok)
  · cases h; exact .inl (compF_sound Try.func4 F4_ok)
  · cases h; exact .inl (compF_sound Try.func5 F5_ok)
  · cases h; exact .inl (compF_sound Try.func6 F6_ok)
  · cases h; exact .inl (compF_sound Try.func7 F7_ok)
  · cases h; exact .inl (compF_sound Try.func8 F8_ok)
  · cases h; exact .inl (compF_sound Try.func9 F9_ok)
  · cases h; exact .inl (compF_sound Try.func10 F10_ok)
  · cases h; exact .inl (compF_sound Try.func11 F11_ok)
  · cases h; exact .inl (compF_sound Try.func12 F12_ok)
  · cases h; exact .inl (compF_sound Try.func13 F13_ok)
  · cases h; exact .inl (compF_sound Try.func17 F17_ok)
  · cases h; exact .inl (compF_sound Try.func20 F20_ok)
  · cases h; exact .inl (compF_sound Try.func22 F22_ok)
  · cases h; exact .inl (compF_sound Try.func33 F33_ok)
  · cases h; exact .inl (compF_sound Try.func35 F35_ok)
  · cases h; exact .inl (compF_sound Try.func36 F36_ok)
  · cases h; exact .inl (compF_sound Try.func42 F42_ok)
  · cases h; exact .inl (compF_sound Try.func43 F43_ok)
  · cases h; exact .inl (compF_sound Try.func44 F44_ok)
  · cases h; exact .inl (compF_sound Try.func45 F45_ok)
  · cases h; exact .inl (compF_sound Try.func46 F46_ok)
  · cases h; exact .inl (compF_sound Try.func47 F47_ok)
  · cases h; exact .inl (compF_sound Try.func48 F48_ok)
  · cases h; exact .inl (compF_sound Try.func49 F49_ok)
  · cases h; exact .inl (compF_sound Try.func50 F50_ok)
  · cases h; exact .inl (compF_sound Try.func51 F51_ok)
  · cases h; exact .inl (compF_sound Try.func52 F52_ok)
  · cases h; exact .inl (compF_sound Try.func53 F53_ok)
  · cases h; exact .inl (compF_sound Try.func54 F54_ok)
  · cases h; exact .inl (compF_sound Try.func55 F55_ok)
  · cases h; exact .inl (compF_sound Try.func56 F56_ok)
  · cases h; exact .inl (compF_sound Try.func57 F57_ok)
  · cases h; exact .inl (compF_sound Try.func58 F58_ok)
  · cases h; exact .inl (compF_sound Try.func59 F59_ok)
  · cases h; exact .inl (compF_sound Try.func60 F60_ok)
  · cases h; exact .inl (compF_sound Try.func61 F61_ok)
  · cases h; exact .inl (compF_sound Try.func62 F62_ok)
  · cases h; exact .inl (compF_sound Try.func63 F63_ok)
  · cases h; exact .inl (compF_sound Try.func64 F64_ok)
  · cases h; exact .inl (compF_sound Try.func65 F65_ok)
  · cases h; exact .inl (compF_sound Try.func66 F66_ok)
  · cases h; exact .inl (compF_sound Try.func67 F67_ok)
  · cases h; exact .inl (compF_sound Try.func68 F68_ok)
  · cases h; exact .inl (compF_sound Try.func69 F69_ok)
  · cases h; exact .inl (compF_sound Try.func70 F70_ok)
  · cases h; exact .inl (compF_sound Try.func71 F71_ok)
  · cases h; exact .inl (compF_sound Try.func72 F72_ok)
  · cases h; exact .inl (compF_sound Try.func73 F73_ok)
  · cases h; exact .inl (compF_sound Try.func74 F74_ok)
  · cases h; exact .inl (compF_sound Try.func76 F76_ok)
  · cases h; exact .inl (compF_sound Try.func77 F77_ok)
  · cases h; exact .inl (compF_sound Try.func78 F78_ok)
  · cases h; exact .inl (compF_sound Try.func79 F79_ok)
  · cases h; exact .inl (compF_sound Try.func80 F80_ok)
  · cases h; exact .inl (compF_sound Try.func81 F81_ok)
  · cases h; exact .inl (compF_sound Try.func92 F92_ok)
  · cases h; exact .inl (compF_sound Try.func94 F94_ok)
  · cases h; exact .inl (compF_sound Try.func98 F98_ok)
  · cases h; exact .inl (compF_sound Try.func106 F106_ok)
  · cases h; exact .inl (compF_sound Try.func113 F113_ok)
  · cases h; exact .inl (compF_sound Try.func114 F114_ok)
  · cases h; exact .inl (compF_sound Try.func116 F116_ok)
  · cases h; exact .inl (compF_sound Try.func118 F118_ok)
  · cases h; exact .inr (once_ok rfl)
  · cases h; exact .inl (compF_sound Try.func123 F123_ok)
  · cases h; exact .inl (compF_sound Try.func124 F124_ok)
  · cases h; exact .inl (compF_sound Try.func125 F125_ok)
  · cases h; exact .inl (compF_sound Try.func126 F126_ok)
  · cases h; exact .inl (compF_sound Try.func127 F127_ok)
  · cases h; exact .inl (compF_sound Try.func128 F128_ok)
  · cases h; exact .inl (compF_sound Try.func129 F129_ok)
  · cases h; exact .inl (compF_sound Try.func130 F130_ok)
  · cases h; exact .inl (compF_sound Try.func131 F131_ok)
  · cases h; exact .inl (compF_sound Try.func132 F132_ok)
  · cases h; exact .inl (compF_sound Try.func135 F135_ok)
  · cases h; exact .inl (compF_sound Try.func148 F148_ok)
  · cases h; exact .inl (compF_sound Try.func152 F152_ok)
  · cases h; exact .inl (compF_sound Try.func157 F157_ok)
  · cases h; exact .inl (compF_sound Try.func158 F158_ok)
  · cases h; exact .inl (compF_sound Try.func159 F159_ok)
  · cases h; exact .inl (compF_sound Try.func160 F160_ok)
  · cases h; exact .inl (compF_sound Try.func161 F161_ok)
  · cases h; exact .inl (compF_sound Try.func171 F171_ok)
  · cases h; exact .inl (compF_sound Try.func172 F172_ok)
  · cases h; exact .inl (compF_sound Try.func180 F180_ok)
  · cases h
theorem mixed : Try.prog.follows .mixedOrders = true := by kernel_rfl
end Go.Proofs.Ytammndhoillliaa
