/-
  Functions of this seat as the small machine's code, written by a program of my own (gen.py); each is checked to be what the model's function is turned into. No condition.
-/
import Derived.Test.YtammndhoillliaaDo
import Derived.Test.YtammndhoillliaaCode0
import Derived.Test.YtammndhoillliaaCode1
import Derived.Test.YtammndhoillliaaCode2
import Derived.Test.YtammndhoillliaaCode3
import Derived.Test.YtammndhoillliaaCode4
namespace Go.Proofs.Ytammndhoillliaa
open Go.Am
set_option maxRecDepth 100000
def T : Tab
  | 3 => some F3
  | 4 => some F4
  | 5 => some F5
  | 6 => some F6
  | 7 => some F7
  | 8 => some F8
  | 9 => some F9
  | 10 => some F10
  | 11 => some F11
  | 12 => some F12
  | 13 => some F13
  | 14 => some F14
  | 15 => some F15
  | 16 => some F16
  | 17 => some F17
  | 18 => some F18
  | 19 => some F19
  | 20 => some F20
  | 21 => some F21
  | 22 => some F22
  | 23 => some F23
  | 24 => some F24
  | 25 => some F25
  | 26 => some F26
  | 27 => some F27
  | 28 => some F28
  | 29 => some F29
  | 30 => some F30
  | 31 => some F31
  | 32 => some F32
  | 33 => some F33
  | 34 => some F34
  | 35 => some F35
  | 36 => some F36
  | 37 => some F37
  | 38 => some F38
  | 39 => some F39
  | 40 => some F40
  | 41 => some F41
  | 42 => some F42
  | 43 => some F43
  | 44 => some F44
  | 45 => some F45
  | 46 => some F46
  | 47 => some F47
  | 48 => some F48
  | 49 => some F49
  | 50 => some F50
  | 51 => some F51
  | 52 => some F52
  | 53 => some F53
  | 54 => some F54
  | 55 => some F55
  | 56 => some F56
  | 57 => some F57
  | 58 => some F58
  | 59 => some F59
  | 60 => some F60
  | 61 => some F61
  | 62 => some F62
  | 63 => some F63
  | 64 => some F64
  | 65 => some F65
  | 66 => some F66
  | 67 => some F67
  | 68 => some F68
  | 69 => some F69
  | 70 => some F70
  | 71 => some F71
  | 72 => some F72
  | 73 => some F73
  | 74 => some F74
  | 75 => some F75
  | 76 => some F76
  | 77 => some F77
  | 78 => some F78
  | 79 => some F79
  | 80 => some F80
  | 81 => some F81
  | 82 => some F82
  | 83 => some F83
  | 84 => some F84
  | 85 => some F85
  | 86 => some F86
  | 87 => some F87
  | 88 => some F88
  | 89 => some F89
  | 90 => some F90
  | 91 => some F91
  | 92 => some F92
  | 93 => some F93
  | 94 => some F94
  | 95 => some F95
  | 96 => some F96
  | 97 => some F97
  | 98 => some F98
  | 99 => some F99
  | 100 => some F100
  | 101 => some F101
  | 102 => some F102
  | 103 => some F103
  | 104 => some F104
  | 105 => some F105
  | 106 => some F106
  | 107 => some F107
  | 108 => some F108
  | 109 => some F109
  | 110 => some F110
  | 111 => some F111
  | 112 => some F112
  | 113 => some F113
  | 114 => some F114
  | 115 => some F115
  | 116 => some F116
  | 117 => some F117
  | 118 => some F118
  | 119 => some F119
  | 120 => some F120
  | 121 => some F121
  | 122 => some FDo
  | 123 => some F123
  | 124 => some F124
  | 125 => some F125
  | 126 => some F126
  | 127 => some F127
  | 128 => some F128
  | 129 => some F129
  | 130 => some F130
  | 131 => some F131
  | 132 => some F132
  | 133 => some F133
  | 134 => some F134
  | 135 => some F135
  | 136 => some F136
  | 137 => some F137
  | 138 => some F138
  | 139 => some F139
  | 140 => some F140
  | 141 => some F141
  | 142 => some F142
  | 143 => some F143
  | 144 => some F144
  | 145 => some F145
  | 146 => some F146
  | 147 => some F147
  | 148 => some F148
  | 149 => some F149
  | 150 => some F150
  | 151 => some F151
  | 152 => some F152
  | 153 => some F153
  | 154 => some F154
  | 155 => some F155
  | 156 => some F156
  | 157 => some F157
  | 158 => some F158
  | 159 => some F159
  | 160 => some F160
  | 161 => some F161
  | 162 => some F162
  | 163 => some F163
  | 164 => some F164
  | 165 => some F165
  | 166 => some F166
  | 168 => some F168
  | 169 => some F169
  | 170 => some F170
  | 171 => some F171
  | 172 => some F172
  | 173 => some F173
  | 174 => some F174
  | 175 => some F175
  | 176 => some F176
  | 177 => some F177
  | 179 => some F179
  | 180 => some F180
  | 181 => some F181
  | 186 => some F186
  | 189 => some F189
  | 190 => some F190
  | _ => none
theorem T3 : T 3 = some F3 := rfl
theorem T4 : T 4 = some F4 := rfl
theorem T5 : T 5 = some F5 := rfl
theorem T6 : T 6 = some F6 := rfl
theorem T7 : T 7 = some F7 := rfl
theorem T8 : T 8 = some F8 := rfl
theorem T9 : T 9 = some F9 := rfl
theorem T10 : T 10 = some F10 := rfl
theorem T11 : T 11 = some F11 := rfl
theorem T12 : T 12 = some F12 := rfl
theorem T13 : T 13 = some F13 := rfl
theorem T14 : T 14 = some F14 := rfl
theorem T15 : T 15 = some F15 := rfl
theorem T16 : T 16 = some F16 := rfl
theorem T17 : T 17 = some F17 := rfl
theorem T18 : T 18 = some F18 := rfl
theorem T19 : T 19 = some F19 := rfl
theorem T20 : T 20 = some F20 := rfl
theorem T21 : T 21 = some F21 := rfl
theorem T22 : T 22 = some F22 := rfl
theorem T23 : T 23 = some F23 := rfl
theorem T24 : T 24 = some F24 := rfl
theorem T25 : T 25 = some F25 := rfl
theorem T26 : T 26 = some F26 := rfl
theorem T27 : T 27 = some F27 := rfl
theorem T28 : T 28 = some F28 := rfl
theorem T29 : T 29 = some F29 := rfl
theorem T30 : T 30 = some F30 := rfl
theorem T31 : T 31 = some F31 := rfl
theorem T32 : T 32 = some F32 := rfl
theorem T33 : T 33 = some F33 := rfl
theorem T34 : T 34 = some F34 := rfl
theorem T35 : T 35 = some F35 := rfl
theorem T36 : T 36 = some F36 := rfl
theorem T37 : T 37 = some F37 := rfl
theorem T38 : T 38 = some F38 := rfl
theorem T39 : T 39 = some F39 := rfl
theorem T40 : T 40 = some F40 := rfl
theorem T41 : T 41 = some F41 := rfl
theorem T42 : T 42 = some F42 := rfl
theorem T43 : T 43 = some F43 := rfl
theorem T44 : T 44 = some F44 := rfl
theorem T45 : T 45 = some F45 := rfl
theorem T46 : T 46 = some F46 := rfl
theorem T47 : T 47 = some F47 := rfl
theorem T48 : T 48 = some F48 := rfl
theorem T49 : T 49 = some F49 := rfl
theorem T50 : T 50 = some F50 := rfl
theorem T51 : T 51 = some F51 := rfl
theorem T52 : T 52 = some F52 := rfl
theorem T53 : T 53 = some F53 := rfl
theorem T54 : T 54 = some F54 := rfl
theorem T55 : T 55 = some F55 := rfl
theorem T56 : T 56 = some F56 := rfl
theorem T57 : T 57 = some F57 := rfl
theorem T58 : T 58 = some F58 := rfl
theorem T59 : T 59 = some F59 := rfl
theorem T60 : T 60 = some F60 := rfl
theorem T61 : T 61 = some F61 := rfl
theorem T62 : T 62 = some F62 := rfl
theorem T63 : T 63 = some F63 := rfl
theorem T64 : T 64 = some F64 := rfl
theorem T65 : T 65 = some F65 := rfl
theorem T66 : T 66 = some F66 := rfl
theorem T67 : T 67 = some F67 := rfl
theorem T68 : T 68 = some F68 := rfl
theorem T69 : T 69 = some F69 := rfl
theorem T70 : T 70 = some F70 := rfl
theorem T71 : T 71 = some F71 := rfl
theorem T72 : T 72 = some F72 := rfl
theorem T73 : T 73 = some F73 := rfl
theorem T74 : T 74 = some F74 := rfl
theorem T75 : T 75 = some F75 := rfl
theorem T76 : T 76 = some F76 := rfl
theorem T77 : T 77 = some F77 := rfl
theorem T78 : T 78 = some F78 := rfl
theorem T79 : T 79 = some F79 := rfl
theorem T80 : T 80 = some F80 := rfl
theorem T81 : T 81 = some F81 := rfl
theorem T82 : T 82 = some F82 := rfl
theorem T83 : T 83 = some F83 := rfl
theorem T84 : T 84 = some F84 := rfl
theorem T85 : T 85 = some F85 := rfl
theorem T86 : T 86 = some F86 := rfl
theorem T87 : T 87 = some F87 := rfl
theorem T88 : T 88 = some F88 := rfl
theorem T89 : T 89 = some F89 := rfl
theorem T90 : T 90 = some F90 := rfl
theorem T91 : T 91 = some F91 := rfl
theorem T92 : T 92 = some F92 := rfl
theorem T93 : T 93 = some F93 := rfl
theorem T94 : T 94 = some F94 := rfl
theorem T95 : T 95 = some F95 := rfl
theorem T96 : T 96 = some F96 := rfl
theorem T97 : T 97 = some F97 := rfl
theorem T98 : T 98 = some F98 := rfl
theorem T99 : T 99 = some F99 := rfl
theorem T100 : T 100 = some F100 := rfl
theorem T101 : T 101 = some F101 := rfl
theorem T102 : T 102 = some F102 := rfl
theorem T103 : T 103 = some F103 := rfl
theorem T104 : T 104 = some F104 := rfl
theorem T105 : T 105 = some F105 := rfl
theorem T106 : T 106 = some F106 := rfl
theorem T107 : T 107 = some F107 := rfl
theorem T108 : T 108 = some F108 := rfl
theorem T109 : T 109 = some F109 := rfl
theorem T110 : T 110 = some F110 := rfl
theorem T111 : T 111 = some F111 := rfl
theorem T112 : T 112 = some F112 := rfl
theorem T113 : T 113 = some F113 := rfl
theorem T114 : T 114 = some F114 := rfl
theorem T115 : T 115 = some F115 := rfl
theorem T116 : T 116 = some F116 := rfl
theorem T117 : T 117 = some F117 := rfl
theorem T118 : T 118 = some F118 := rfl
theorem T119 : T 119 = some F119 := rfl
theorem T120 : T 120 = some F120 := rfl
theorem T121 : T 121 = some F121 := rfl
theorem T123 : T 123 = some F123 := rfl
theorem T124 : T 124 = some F124 := rfl
theorem T125 : T 125 = some F125 := rfl
theorem T126 : T 126 = some F126 := rfl
theorem T127 : T 127 = some F127 := rfl
theorem T128 : T 128 = some F128 := rfl
theorem T129 : T 129 = some F129 := rfl
theorem T130 : T 130 = some F130 := rfl
theorem T131 : T 131 = some F131 := rfl
theorem T132 : T 132 = some F132 := rfl
theorem T133 : T 133 = some F133 := rfl
theorem T134 : T 134 = some F134 := rfl
theorem T135 : T 135 = some F135 := rfl
theorem T136 : T 136 = some F136 := rfl
theorem T137 : T 137 = some F137 := rfl
theorem T138 : T 138 = some F138 := rfl
theorem T139 : T 139 = some F139 := rfl
theorem T140 : T 140 = some F140 := rfl
theorem T141 : T 141 = some F141 := rfl
theorem T142 : T 142 = some F142 := rfl
theorem T143 : T 143 = some F143 := rfl
theorem T144 : T 144 = some F144 := rfl
theorem T145 : T 145 = some F145 := rfl
theorem T146 : T 146 = some F146 := rfl
theorem T147 : T 147 = some F147 := rfl
theorem T148 : T 148 = some F148 := rfl
theorem T149 : T 149 = some F149 := rfl
theorem T150 : T 150 = some F150 := rfl
theorem T151 : T 151 = some F151 := rfl
theorem T152 : T 152 = some F152 := rfl
theorem T153 : T 153 = some F153 := rfl
theorem T154 : T 154 = some F154 := rfl
theorem T155 : T 155 = some F155 := rfl
theorem T156 : T 156 = some F156 := rfl
theorem T157 : T 157 = some F157 := rfl
theorem T158 : T 158 = some F158 := rfl
theorem T159 : T 159 = some F159 := rfl
theorem T160 : T 160 = some F160 := rfl
theorem T161 : T 161 = some F161 := rfl
theorem T162 : T 162 = some F162 := rfl
theorem T163 : T 163 = some F163 := rfl
theorem T164 : T 164 = some F164 := rfl
theorem T165 : T 165 = some F165 := rfl
theorem T166 : T 166 = some F166 := rfl
theorem T168 : T 168 = some F168 := rfl
theorem T169 : T 169 = some F169 := rfl
theorem T170 : T 170 = some F170 := rfl
theorem T171 : T 171 = some F171 := rfl
theorem T172 : T 172 = some F172 := rfl
theorem T173 : T 173 = some F173 := rfl
theorem T174 : T 174 = some F174 := rfl
theorem T175 : T 175 = some F175 := rfl
theorem T176 : T 176 = some F176 := rfl
theorem T177 : T 177 = some F177 := rfl
theorem T179 : T 179 = some F179 := rfl
theorem T180 : T 180 = some F180 := rfl
theorem T181 : T 181 = some F181 := rfl
theorem T186 : T 186 = some F186 := rfl
theorem T189 : T 189 = some F189 := rfl
theorem T190 : T 190 = some F190 := rfl
theorem T122 : T 122 = some FDo := rfl
theorem tabOK : TabOK Try.prog T := by
  intro f F h
  unfold T at h
  split at h
  · cases h; exact .inl (compF_sound Try.func3 F3_ok)
  · cases h; exact .inl (compF_sound Try.func4 F4_ok)
  · cases h; exact .inl (compF_sound Try.func5 F5_ok)
  · cases h; exact .inl (compF_sound Try.func6 F6_ok)
  · cases h; exact .inl (compF_sound Try.func7 F7_ok)
  · cases h; exact .inl (compF_sound Try.func8 F8_ok)
  · cases h; exact .inl (compF_sound Try.func9 F9_ok)
  · cases h; exact .inl (compF_sound Try.func10 F10_ok)
  · cases h; exact .inl (compF_sound Try.func11 F11_ok)
  · cases h; exact .inl (compF_sound Try.func12 F12_ok)
  · cases h; exact .inl (compF_sound Try.func13 F13_ok)
  · cases h; exact .inl (compF_sound Try.func14 F14_ok)
  · cases h; exact .inl (compF_sound Try.func15 F15_ok)
  · cases h; exact .inl (compF_sound Try.func16 F16_ok)
  · cases h; exact .inl (compF_sound Try.func17 F17_ok)
  · cases h; exact .inl (compF_sound Try.func18 F18_ok)
  · cases h; exact .inl (compF_sound Try.func19 F19_ok)
  · cases h; exact .inl (compF_sound Try.func20 F20_ok)
  · cases h; exact .inl (compF_sound Try.func21 F21_ok)
  · cases h; exact .inl (compF_sound Try.func22 F22_ok)
  · cases h; exact .inl (compF_sound Try.func23 F23_ok)
  · cases h; exact .inl (compF_sound Try.func24 F24_ok)
  · cases h; exact .inl (compF_sound Try.func25 F25_ok)
  · cases h; exact .inl (compF_sound Try.func26 F26_ok)
  · cases h; exact .inl (compF_sound Try.func27 F27_ok)
  · cases h; exact .inl (compF_sound Try.func28 F28_ok)
  · cases h; exact .inl (compF_sound Try.func29 F29_ok)
  · cases h; exact .inl (compF_sound Try.func30 F30_ok)
  · cases h; exact .inl (compF_sound Try.func31 F31_ok)
  · cases h; exact .inl (compF_sound Try.func32 F32_ok)
  · cases h; exact .inl (compF_sound Try.func33 F33_ok)
  · cases h; exact .inl (compF_sound Try.func34 F34_ok)
  · cases h; exact .inl (compF_sound Try.func35 F35_ok)
  · cases h; exact .inl (compF_sound Try.func36 F36_ok)
  · cases h; exact .inl (compF_sound Try.func37 F37_ok)
  · cases h; exact .inl (compF_sound Try.func38 F38_ok)
  · cases h; exact .inl (compF_sound Try.func39 F39_ok)
  · cases h; exact .inl (compF_sound Try.func40 F40_ok)
  · cases h; exact .inl (compF_sound Try.func41 F41_ok)
  · cases h; exact .inl (compF_sound Try.func42 F42_ok)
  · cases h; exact .inl (compF_sound Try.func43 F43_ok)
  · cases h; exact .inl (compF_sound Try.func44 F44_ok)
  · cases h; exact .inl (compF_sound Try.func45 F45_ok)
  · cases h; exact .inl (compF_sound Try.func46 F46_ok)
  · cases h; exact .inl (compF_sound Try.func47 F47_ok)
  · cases h; exact .inl (compF_sound Try.func48 F48_ok)
  · cases h; exact .inl (compF_sound Try.func49 F49_ok)
  · cases h; exact .inl (compF_sound Try.func50 F50_ok)
  · cases h; exact .inl (compF_sound Try.func51 F51_ok)
  · cases h; exact .inl (compF_sound Try.func52 F52_ok)
  · cases h; exact .inl (compF_sound Try.func53 F53_ok)
  · cases h; exact .inl (compF_sound Try.func54 F54_ok)
  · cases h; exact .inl (compF_sound Try.func55 F55_ok)
  · cases h; exact .inl (compF_sound Try.func56 F56_ok)
  · cases h; exact .inl (compF_sound Try.func57 F57_ok)
  · cases h; exact .inl (compF_sound Try.func58 F58_ok)
  · cases h; exact .inl (compF_sound Try.func59 F59_ok)
  · cases h; exact .inl (compF_sound Try.func60 F60_ok)
  · cases h; exact .inl (compF_sound Try.func61 F61_ok)
  · cases h; exact .inl (compF_sound Try.func62 F62_ok)
  · cases h; exact .inl (compF_sound Try.func63 F63_ok)
  · cases h; exact .inl (compF_sound Try.func64 F64_ok)
  · cases h; exact .inl (compF_sound Try.func65 F65_ok)
  · cases h; exact .inl (compF_sound Try.func66 F66_ok)
  · cases h; exact .inl (compF_sound Try.func67 F67_ok)
  · cases h; exact .inl (compF_sound Try.func68 F68_ok)
  · cases h; exact .inl (compF_sound Try.func69 F69_ok)
  · cases h; exact .inl (compF_sound Try.func70 F70_ok)
  · cases h; exact .inl (compF_sound Try.func71 F71_ok)
  · cases h; exact .inl (compF_sound Try.func72 F72_ok)
  · cases h; exact .inl (compF_sound Try.func73 F73_ok)
  · cases h; exact .inl (compF_sound Try.func74 F74_ok)
  · cases h; exact .inl (compF_sound Try.func75 F75_ok)
  · cases h; exact .inl (compF_sound Try.func76 F76_ok)
  · cases h; exact .inl (compF_sound Try.func77 F77_ok)
  · cases h; exact .inl (compF_sound Try.func78 F78_ok)
  · cases h; exact .inl (compF_sound Try.func79 F79_ok)
  · cases h; exact .inl (compF_sound Try.func80 F80_ok)
  · cases h; exact .inl (compF_sound Try.func81 F81_ok)
  · cases h; exact .inl (compF_sound Try.func82 F82_ok)
  · cases h; exact .inl (compF_sound Try.func83 F83_ok)
  · cases h; exact .inl (compF_sound Try.func84 F84_ok)
  · cases h; exact .inl (compF_sound Try.func85 F85_ok)
  · cases h; exact .inl (compF_sound Try.func86 F86_ok)
  · cases h; exact .inl (compF_sound Try.func87 F87_ok)
  · cases h; exact .inl (compF_sound Try.func88 F88_ok)
  · cases h; exact .inl (compF_sound Try.func89 F89_ok)
  · cases h; exact .inl (compF_sound Try.func90 F90_ok)
  · cases h; exact .inl (compF_sound Try.func91 F91_ok)
  · cases h; exact .inl (compF_sound Try.func92 F92_ok)
  · cases h; exact .inl (compF_sound Try.func93 F93_ok)
  · cases h; exact .inl (compF_sound Try.func94 F94_ok)
  · cases h; exact .inl (compF_sound Try.func95 F95_ok)
  · cases h; exact .inl (compF_sound Try.func96 F96_ok)
  · cases h; exact .inl (compF_sound Try.func97 F97_ok)
  · cases h; exact .inl (compF_sound Try.func98 F98_ok)
  · cases h; exact .inl (compF_sound Try.func99 F99_ok)
  · cases h; exact .inl (compF_sound Try.func100 F100_ok)
  · cases h; exact .inl (compF_sound Try.func101 F101_ok)
  · cases h; exact .inl (compF_sound Try.func102 F102_ok)
  · cases h; exact .inl (compF_sound Try.func103 F103_ok)
  · cases h; exact .inl (compF_sound Try.func104 F104_ok)
  · cases h; exact .inl (compF_sound Try.func105 F105_ok)
  · cases h; exact .inl (compF_sound Try.func106 F106_ok)
  · cases h; exact .inl (compF_sound Try.func107 F107_ok)
  · cases h; exact .inl (compF_sound Try.func108 F108_ok)
  · cases h; exact .inl (compF_sound Try.func109 F109_ok)
  · cases h; exact .inl (compF_sound Try.func110 F110_ok)
  · cases h; exact .inl (compF_sound Try.func111 F111_ok)
  · cases h; exact .inl (compF_sound Try.func112 F112_ok)
  · cases h; exact .inl (compF_sound Try.func113 F113_ok)
  · cases h; exact .inl (compF_sound Try.func114 F114_ok)
  · cases h; exact .inl (compF_sound Try.func115 F115_ok)
  · cases h; exact .inl (compF_sound Try.func116 F116_ok)
  · cases h; exact .inl (compF_sound Try.func117 F117_ok)
  · cases h; exact .inl (compF_sound Try.func118 F118_ok)
  · cases h; exact .inl (compF_sound Try.func119 F119_ok)
  · cases h; exact .inl (compF_sound Try.func120 F120_ok)
  · cases h; exact .inl (compF_sound Try.func121 F121_ok)
  · cases h; exact .inr (once_ok rfl)
  · cases h; exact .inl (compF_sound Try.func123 F123_ok)
  · cases h; exact .inl (compF_sound Try.func124 F124_ok)
  · cases h; exact .inl (compF_sound Try.func125 F125_ok)
  · cases h; exact .inl (compF_sound Try.func126 F126_ok)
  · cases h; exact .inl (compF_sound Try.func127 F127_ok)
  · cases h; exact .inl (compF_sound Try.func128 F128_ok)
  · cases h; exact .inl (compF_sound Try.func129 F129_ok)
  · cases h; exact .inl (compF_sound Try.func130 F130_ok)
  · cases h; exact .inl (compF_sound Try.func131 F131_ok)
  · cases h; exact .inl (compF_sound Try.func132 F132_ok)
  · cases h; exact .inl (compF_sound Try.func133 F133_ok)
  · cases h; exact .inl (compF_sound Try.func134 F134_ok)
  · cases h; exact .inl (compF_sound Try.func135 F135_ok)
  · cases h; exact .inl (compF_sound Try.func136 F136_ok)
  · cases h; exact .inl (compF_sound Try.func137 F137_ok)
  · cases h; exact .inl (compF_sound Try.func138 F138_ok)
  · cases h; exact .inl (compF_sound Try.func139 F139_ok)
  · cases h; exact .inl (compF_sound Try.func140 F140_ok)
  · cases h; exact .inl (compF_sound Try.func141 F141_ok)
  · cases h; exact .inl (compF_sound Try.func142 F142_ok)
  · cases h; exact .inl (compF_sound Try.func143 F143_ok)
  · cases h; exact .inl (compF_sound Try.func144 F144_ok)
  · cases h; exact .inl (compF_sound Try.func145 F145_ok)
  · cases h; exact .inl (compF_sound Try.func146 F146_ok)
  · cases h; exact .inl (compF_sound Try.func147 F147_ok)
  · cases h; exact .inl (compF_sound Try.func148 F148_ok)
  · cases h; exact .inl (compF_sound Try.func149 F149_ok)
  · cases h; exact .inl (compF_sound Try.func150 F150_ok)
  · cases h; exact .inl (compF_sound Try.func151 F151_ok)
  · cases h; exact .inl (compF_sound Try.func152 F152_ok)
  · cases h; exact .inl (compF_sound Try.func153 F153_ok)
  · cases h; exact .inl (compF_sound Try.func154 F154_ok)
  · cases h; exact .inl (compF_sound Try.func155 F155_ok)
  · cases h; exact .inl (compF_sound Try.func156 F156_ok)
  · cases h; exact .inl (compF_sound Try.func157 F157_ok)
  · cases h; exact .inl (compF_sound Try.func158 F158_ok)
  · cases h; exact .inl (compF_sound Try.func159 F159_ok)
  · cases h; exact .inl (compF_sound Try.func160 F160_ok)
  · cases h; exact .inl (compF_sound Try.func161 F161_ok)
  · cases h; exact .inl (compF_sound Try.func162 F162_ok)
  · cases h; exact .inl (compF_sound Try.func163 F163_ok)
  · cases h; exact .inl (compF_sound Try.func164 F164_ok)
  · cases h; exact .inl (compF_sound Try.func165 F165_ok)
  · cases h; exact .inl (compF_sound Try.func166 F166_ok)
  · cases h; exact .inl (compF_sound Try.func168 F168_ok)
  · cases h; exact .inl (compF_sound Try.func169 F169_ok)
  · cases h; exact .inl (compF_sound Try.func170 F170_ok)
  · cases h; exact .inl (compF_sound Try.func171 F171_ok)
  · cases h; exact .inl (compF_sound Try.func172 F172_ok)
  · cases h; exact .inl (compF_sound Try.func173 F173_ok)
  · cases h; exact .inl (compF_sound Try.func174 F174_ok)
  · cases h; exact .inl (compF_sound Try.func175 F175_ok)
  · cases h; exact .inl (compF_sound Try.func176 F176_ok)
  · cases h; exact .inl (compF_sound Try.func177 F177_ok)
  · cases h; exact .inl (compF_sound Try.func179 F179_ok)
  · cases h; exact .inl (compF_sound Try.func180 F180_ok)
  · cases h; exact .inl (compF_sound Try.func181 F181_ok)
  · cases h; exact .inl (compF_sound Try.func186 F186_ok)
  · cases h; exact .inl (compF_sound Try.func189 F189_ok)
  · cases h; exact .inl (compF_sound Try.func190 F190_ok)
  · cases h
theorem mixed : Try.prog.follows .mixedOrders = true := by kernel_rfl
end Go.Proofs.Ytammndhoillliaa
