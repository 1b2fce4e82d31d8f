/-
  Functions of this seat as the small machine's code, written by a program of my own (gen.py); each is checked to be what the model's function is turned into. No condition.
-/
import Derived.Test.YtjpejkakodbchaaK3
import Derived.Test.YtjpejkakodbchaaKCode0
import Derived.Test.YtjpejkakodbchaaKCode1
set_option linter.unusedVariables false
set_option linter.unusedSimpArgs false
set_option linter.unusedSectionVars false
set_option maxRecDepth 100000
namespace Go.Proofs.Ytjpejkakodbchaa
open Go.Am
def T : Tab
 | 3 => some F3
 | 4 => some F4
 | 14 => some F14
 | 15 => some F15
 | 16 => some F16
 | 17 => some F17
 | 18 => some F18
 | 19 => some F19
 | 20 => some F20
 | 21 => some F21
 | 22 => some F22
 | 23 => some F23
 | 24 => some F24
 | 25 => some F25
 | 32 => some F32
 | 35 => some F35
 | 40 => some F40
 | 53 => some F53
 | 58 => some F58
 | 63 => some F63
 | 64 => some F64
 | 65 => some F65
 | 71 => some F71
 | 72 => some F72
 | 73 => some F73
 | 74 => some F74
 | 75 => some F75
 | 76 => some F76
 | 77 => some F77
 | 78 => some F78
 | 79 => some F79
 | 80 => some F80
 | 81 => some F81
 | 82 => some F82
 | 83 => some F83
 | 84 => some F84
 | 85 => some F85
 | 86 => some F86
 | 87 => some F87
 | 88 => some F88
 | 89 => some F89
 | 114 => some F114
 | 115 => some F115
 | 116 => some F116
 | 117 => some F117
 | 118 => some F118
 | 119 => some F119
 | 120 => some F120
 | 121 => some F121
 | 127 => some F127
 | 128 => some FDo
 | 129 => some F129
 | 130 => some F130
 | 131 => some F131
 | 132 => some F132
 | 133 => some F133
 | 134 => some F134
 | 135 => some F135
 | 136 => some F136
 | 137 => some F137
 | 138 => some F138
 | 139 => some F139
 | 148 => some F148
 | 149 => some F149
 | 150 => some F150
 | 151 => some F151
 | 154 => some F154
 | 155 => some F155
 | 156 => some F156
 | 157 => some F157
 | 169 => some F169
 | 177 => some F177
 | _ => none
theorem T3 : T 3 = some F3 := rfl
theorem T4 : T 4 = some F4 := rfl
theorem T14 : T 14 = some F14 := rfl
theorem T15 : T 15 = some F15 := rfl
theorem T16 : T 16 = some F16 := rfl
theorem T17 : T 17 = some F17 := rfl
theorem T18 : T 18 = some F18 := rfl
theorem T19 : T 19 = some F19 := rfl
theorem T20 : T 20 = some F20 := rfl
theorem T21 : T 21 = some F21 := rfl
theorem T22 : T 22 = some F22 := rfl
theorem T23 : T 23 = some F23 := rfl
theorem T24 : T 24 = some F24 := rfl
theorem T25 : T 25 = some F25 := rfl
theorem T32 : T 32 = some F32 := rfl
theorem T35 : T 35 = some F35 := rfl
theorem T40 : T 40 = some F40 := rfl
theorem T53 : T 53 = some F53 := rfl
theorem T58 : T 58 = some F58 := rfl
theorem T63 : T 63 = some F63 := rfl
theorem T64 : T 64 = some F64 := rfl
theorem T65 : T 65 = some F65 := rfl
theorem T71 : T 71 = some F71 := rfl
theorem T72 : T 72 = some F72 := rfl
theorem T73 : T 73 = some F73 := rfl
theorem T74 : T 74 = some F74 := rfl
theorem T75 : T 75 = some F75 := rfl
theorem T76 : T 76 = some F76 := rfl
theorem T77 : T 77 = some F77 := rfl
theorem T78 : T 78 = some F78 := rfl
theorem T79 : T 79 = some F79 := rfl
theorem T80 : T 80 = some F80 := rfl
theorem T81 : T 81 = some F81 := rfl
theorem T82 : T 82 = some F82 := rfl
theorem T83 : T 83 = some F83 := rfl
theorem T84 : T 84 = some F84 := rfl
theorem T85 : T 85 = some F85 := rfl
theorem T86 : T 86 = some F86 := rfl
theorem T87 : T 87 = some F87 := rfl
theorem T88 : T 88 = some F88 := rfl
theorem T89 : T 89 = some F89 := rfl
theorem T114 : T 114 = some F114 := rfl
theorem T115 : T 115 = some F115 := rfl
theorem T116 : T 116 = some F116 := rfl
theorem T117 : T 117 = some F117 := rfl
theorem T118 : T 118 = some F118 := rfl
theorem T119 : T 119 = some F119 := rfl
theorem T120 : T 120 = some F120 := rfl
theorem T121 : T 121 = some F121 := rfl
theorem T127 : T 127 = some F127 := rfl
theorem T129 : T 129 = some F129 := rfl
theorem T130 : T 130 = some F130 := rfl
theorem T131 : T 131 = some F131 := rfl
theorem T132 : T 132 = some F132 := rfl
theorem T133 : T 133 = some F133 := rfl
theorem T134 : T 134 = some F134 := rfl
theorem T135 : T 135 = some F135 := rfl
theorem T136 : T 136 = some F136 := rfl
theorem T137 : T 137 = some F137 := rfl
theorem T138 : T 138 = some F138 := rfl
theorem T139 : T 139 = some F139 := rfl
theorem T148 : T 148 = some F148 := rfl
theorem T149 : T 149 = some F149 := rfl
theorem T150 : T 150 = some F150 := rfl
theorem T151 : T 151 = some F151 := rfl
theorem T154 : T 154 = some F154 := rfl
theorem T155 : T 155 = some F155 := rfl
theorem T156 : T 156 = some F156 := rfl
theorem T157 : T 157 = some F157 := rfl
theorem T169 : T 169 = some F169 := rfl
theorem T177 : T 177 = some F177 := rfl
theorem T128 : T 128 = some FDo := rfl
theorem b41 : xp2 Try.prog T := by
 intro f F h
 unfold T at h
 split at h
 ·cases h; exact .inl (lh3 Try.func3 F3_ok)
 ·cases h; exact .inl (lh3 Try.func4 F4_ok)
 ·cases h; exact .inl (lh3 Try.func14 F14_ok)
 ·cases h; exact .inl (lh3 Try.func15 F15_ok)
 ·cases h; exact .inl (lh3 Try.func16 F16_ok)
 ·cases h; exact .inl (lh3 Try.func17 F17_ok)
 ·cases h; exact .inl (lh3 Try.func18 F18_ok)
 ·cases h; exact .inl (lh3 Try.func19 F19_ok)
 ·cases h; exact .inl (lh3 Try.func20 F20_ok)
 ·cases h; exact .inl (lh3 Try.func21 F21_ok)
 ·cases h; exact .inl (lh3 Try.func22 F22_ok)
 ·cases h; exact .inl (lh3 Try.func23 F23_ok)
 ·cases h; exact .inl (lh3 Try.func24 F24_ok)
 ·cases h; exact .inl (lh3 Try.func25 F25_ok)
 ·cases h; exact .inl (lh3 Try.func32 F32_ok)
 ·cases h; exact .inl (lh3 Try.func35 F35_ok)
 ·cases h; exact .inl (lh3 Try.func40 F40_ok)
 ·cases h; exact .inl (lh3 Try.func53 F53_ok)
 ·cases h; exact .inl (lh3 Try.func58 F58_ok)
 ·cases h; exact .inl (lh3 Try.func63 F63_ok)
 ·cases h; exact .inl (lh3 Try.func64 F64_ok)
 ·cases h; exact .inl (lh3 Try.func65 F65_ok)
 ·cases h; exact .inl (lh3 Try.func71 F71_ok)
 ·cases h; exact .inl (lh3 Try.func72 F72_ok)
 ·cases h; exact .inl (lh3 Try.func73 F73_ok)
 ·cases h; exact .inl (lh3 Try.func74 F74_ok)
 ·cases h; exact .inl (lh3 Try.func75 F75_ok)
 ·cases h; exact .inl (lh3 Try.func76 F76_ok)
 ·cases h; exact .inl (lh3 Try.func77 F77_ok)
 ·cases h; exact .inl (lh3 Try.func78 F78_ok)
 ·cases h; exact .inl (lh3 Try.func79 F79_ok)
 ·cases h; exact .inl (lh3 Try.func80 F80_ok)
 ·cases h; exact .inl (lh3 Try.func81 F81_ok)
 ·cases h; exact .inl (lh3 Try.func82 F82_ok)
 ·cases h; exact .inl (lh3 Try.func83 F83_ok)
 ·cases h; exact .inl (lh3 Try.func84 F84_ok)
 ·cases h; exact .inl (lh3 Try.func85 F85_ok)
 ·cases h; exact .inl (lh3 Try.func86 F86_ok)
 ·cases h; exact .inl (lh3 Try.func87 F87_ok)
 ·cases h; exact .inl (lh3 Try.func88 F88_ok)
 ·cases h; exact .inl (lh3 Try.func89 F89_ok)
 ·cases h; exact .inl (lh3 Try.func114 F114_ok)
 ·cases h; exact .inl (lh3 Try.func115 F115_ok)
 ·cases h; exact .inl (lh3 Try.func116 F116_ok)
 ·cases h; exact .inl (lh3 Try.func117 F117_ok)
 ·cases h; exact .inl (lh3 Try.func118 F118_ok)
 ·cases h; exact .inl (lh3 Try.func119 F119_ok)
 ·cases h; exact .inl (lh3 Try.func120 F120_ok)
 ·cases h; exact .inl (lh3 Try.func121 F121_ok)
 ·cases h; exact .inl (lh3 Try.func127 F127_ok)
 ·cases h; exact .inr (tr1 rfl)
 ·cases h; exact .inl (lh3 Try.func129 F129_ok)
 ·cases h; exact .inl (lh3 Try.func130 F130_ok)
 ·cases h; exact .inl (lh3 Try.func131 F131_ok)
 ·cases h; exact .inl (lh3 Try.func132 F132_ok)
 ·cases h; exact .inl (lh3 Try.func133 F133_ok)
 ·cases h; exact .inl (lh3 Try.func134 F134_ok)
 ·cases h; exact .inl (lh3 Try.func135 F135_ok)
 ·cases h; exact .inl (lh3 Try.func136 F136_ok)
 ·cases h; exact .inl (lh3 Try.func137 F137_ok)
 ·cases h; exact .inl (lh3 Try.func138 F138_ok)
 ·cases h; exact .inl (lh3 Try.func139 F139_ok)
 ·cases h; exact .inl (lh3 Try.func148 F148_ok)
 ·cases h; exact .inl (lh3 Try.func149 F149_ok)
 ·cases h; exact .inl (lh3 Try.func150 F150_ok)
 ·cases h; exact .inl (lh3 Try.func151 F151_ok)
 ·cases h; exact .inl (lh3 Try.func154 F154_ok)
 ·cases h; exact .inl (lh3 Try.func155 F155_ok)
 ·cases h; exact .inl (lh3 Try.func156 F156_ok)
 ·cases h; exact .inl (lh3 Try.func157 F157_ok)
 ·cases h; exact .inl (lh3 Try.func169 F169_ok)
 ·cases h; exact .inl (lh3 Try.func177 F177_ok)
 ·cases h
theorem mixed : Try.prog.follows .mixedOrders = true := by kernel_rfl
end Go.Proofs.Ytjpejkakodbchaa
