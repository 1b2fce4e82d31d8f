/-
  Functions of this seat as the small machine's code, written by a program of my own (gen.py); each is checked to be what the model's function is turned into. No condition.
-/
import Derived.Test.YtjpejkakodbchaaK3
import Derived.Test.YtjpejkakodbchaaKCode0
import Derived.Test.YtjpejkakodbchaaKCode1
set_option linter.unusedVariables false
set_option linter.unusedSimpArgs false
set_option linter.unusedSectionVars false
set_option maxRecDepth 100000
namespace Go.Proofs.Ytjpejkakodbchaa
open Go.Am
def T : Tab
  | 10 => some F10
  | 12 => some F12
  | 16 => some F16
  | 19 => some F19
  | 23 => some F23
  | 24 => some F24
  | 25 => some F25
  | 33 => some F33
  | 40 => some F40
  | 58 => some F58
  | 59 => some F59
  | 64 => some F64
  | 65 => some F65
  | 66 => some F66
  | 67 => some F67
  | 68 => some F68
  | 69 => some F69
  | 70 => some F70
  | 71 => some F71
  | 72 => some F72
  | 73 => some F73
  | 74 => some F74
  | 75 => some F75
  | 76 => some F76
  | 77 => some F77
  | 78 => some F78
  | 79 => some F79
  | 80 => some F80
  | 81 => some F81
  | 82 => some F82
  | 83 => some F83
  | 103 => some F103
  | 109 => some F109
  | 114 => some F114
  | 115 => some F115
  | 116 => some F116
  | 117 => some F117
  | 118 => some F118
  | 119 => some F119
  | 120 => some F120
  | 121 => some F121
  | 122 => some F122
  | 123 => some F123
  | 124 => some F124
  | 125 => some F125
  | 126 => some F126
  | 127 => some F127
  | 128 => some FDo
  | 129 => some F129
  | 130 => some F130
  | 131 => some F131
  | 145 => some F145
  | 149 => some F149
  | 150 => some F150
  | 151 => some F151
  | 154 => some F154
  | 155 => some F155
  | 156 => some F156
  | 169 => some F169
  | 177 => some F177
  | _ => none
theorem T10 : T 10 = some F10 := rfl
theorem T12 : T 12 = some F12 := rfl
theorem T16 : T 16 = some F16 := rfl
theorem T19 : T 19 = some F19 := rfl
theorem T23 : T 23 = some F23 := rfl
theorem T24 : T 24 = some F24 := rfl
theorem T25 : T 25 = some F25 := rfl
theorem T33 : T 33 = some F33 := rfl
theorem T40 : T 40 = some F40 := rfl
theorem T58 : T 58 = some F58 := rfl
theorem T59 : T 59 = some F59 := rfl
theorem T64 : T 64 = some F64 := rfl
theorem T65 : T 65 = some F65 := rfl
theorem T66 : T 66 = some F66 := rfl
theorem T67 : T 67 = some F67 := rfl
theorem T68 : T 68 = some F68 := rfl
theorem T69 : T 69 = some F69 := rfl
theorem T70 : T 70 = some F70 := rfl
theorem T71 : T 71 = some F71 := rfl
theorem T72 : T 72 = some F72 := rfl
theorem T73 : T 73 = some F73 := rfl
theorem T74 : T 74 = some F74 := rfl
theorem T75 : T 75 = some F75 := rfl
theorem T76 : T 76 = some F76 := rfl
theorem T77 : T 77 = some F77 := rfl
theorem T78 : T 78 = some F78 := rfl
theorem T79 : T 79 = some F79 := rfl
theorem T80 : T 80 = some F80 := rfl
theorem T81 : T 81 = some F81 := rfl
theorem T82 : T 82 = some F82 := rfl
theorem T83 : T 83 = some F83 := rfl
theorem T103 : T 103 = some F103 := rfl
theorem T109 : T 109 = some F109 := rfl
theorem T114 : T 114 = some F114 := rfl
theorem T115 : T 115 = some F115 := rfl
theorem T116 : T 116 = some F116 := rfl
theorem T117 : T 117 = some F117 := rfl
theorem T118 : T 118 = some F118 := rfl
theorem T119 : T 119 = some F119 := rfl
theorem T120 : T 120 = some F120 := rfl
theorem T121 : T 121 = some F121 := rfl
theorem T122 : T 122 = some F122 := rfl
theorem T123 : T 123 = some F123 := rfl
theorem T124 : T 124 = some F124 := rfl
theorem T125 : T 125 = some F125 := rfl
theorem T126 : T 126 = some F126 := rfl
theorem T127 : T 127 = some F127 := rfl
theorem T129 : T 129 = some F129 := rfl
theorem T130 : T 130 = some F130 := rfl
theorem T131 : T 131 = some F131 := rfl
theorem T145 : T 145 = some F145 := rfl
theorem T149 : T 149 = some F149 := rfl
theorem T150 : T 150 = some F150 := rfl
theorem T151 : T 151 = some F151 := rfl
theorem T154 : T 154 = some F154 := rfl
theorem T155 : T 155 = some F155 := rfl
theorem T156 : T 156 = some F156 := rfl
theorem T169 : T 169 = some F169 := rfl
theorem T177 : T 177 = some F177 := rfl
theorem T128 : T 128 = some FDo := rfl
theorem b41 : xp2 Try.prog T := by
  intro f F h
  unfold T at h
  split at h
  · cases h; exact .inl (lh3 Try.func10 F10_ok)
  · cases h; exact .inl (lh3 Try.func12 F12_ok)
  · cases h; exact .inl (lh3 Try.func16 F16_ok)
  · cases h; exact .inl (lh3 Try.func19 F19_ok)
  · cases h; exact .inl (lh3 Try.func23 F23_ok)
  · cases h; exact .inl (lh3 Try.func24 F24_ok)
  · cases h; exact .inl (lh3 Try.func25 F25_ok)
  · cases h; exact .inl (lh3 Try.func33 F33_ok)
  · cases h; exact .inl (lh3 Try.func40 F40_ok)
  · cases h; exact .inl (lh3 Try.func58 F58_ok)
  · cases h; exact .inl (lh3 Try.func59 F59_ok)
  · cases h; exact .inl (lh3 Try.func64 F64_ok)
  · cases h; exact .inl (lh3 Try.func65 F65_ok)
  · cases h; exact .inl (lh3 Try.func66 F66_ok)
  · cases h; exact .inl (lh3 Try.func67 F67_ok)
  · cases h; exact .inl (lh3 Try.func68 F68_ok)
  · cases h; exact .inl (lh3 Try.func69 F69_ok)
  · cases h; exact .inl (lh3 Try.func70 F70_ok)
  · cases h; exact .inl (lh3 Try.func71 F71_ok)
  · cases h; exact .inl (lh3 Try.func72 F72_ok)
  · cases h; exact .inl (lh3 Try.func73 F73_ok)
  · cases h; exact .inl (lh3 Try.func74 F74_ok)
  · cases h; exact .inl (lh3 Try.func75 F75_ok)
  · cases h; exact .inl (lh3 Try.func76 F76_ok)
  · cases h; exact .inl (lh3 Try.func77 F77_ok)
  · cases h; exact .inl (lh3 Try.func78 F78_ok)
  · cases h; exact .inl (lh3 Try.func79 F79_ok)
  · cases h; exact .inl (lh3 Try.func80 F80_ok)
  · cases h; exact .inl (lh3 Try.func81 F81_ok)
  · cases h; exact .inl (lh3 Try.func82 F82_ok)
  · cases h; exact .inl (lh3 Try.func83 F83_ok)
  · cases h; exact .inl (lh3 Try.func103 F103_ok)
  · cases h; exact .inl (lh3 Try.func109 F109_ok)
  · cases h; exact .inl (lh3 Try.func114 F114_ok)
  · cases h; exact .inl (lh3 Try.func115 F115_ok)
  · cases h; exact .inl (lh3 Try.func116 F116_ok)
  · cases h; exact .inl (lh3 Try.func117 F117_ok)
  · cases h; exact .inl (lh3 Try.func118 F118_ok)
  · cases h; exact .inl (lh3 Try.func119 F119_ok)
  · cases h; exact .inl (lh3 Try.func120 F120_ok)
  · cases h; exact .inl (lh3 Try.func121 F121_ok)
  · cases h; exact .inl (lh3 Try.func122 F122_ok)
  · cases h; exact .inl (lh3 Try.func123 F123_ok)
  · cases h; exact .inl (lh3 Try.func124 F124_ok)
  · cases h; exact .inl (lh3 Try.func125 F125_ok)
  · cases h; exact .inl (lh3 Try.func126 F126_ok)
  · cases h; exact .inl (lh3 Try.func127 F127_ok)
  · cases h; exact .inr (tr1 rfl)
  · cases h; exact .inl (lh3 Try.func129 F129_ok)
  · cases h; exact .inl (lh3 Try.func130 F130_ok)
  · cases h; exact .inl (lh3 Try.func131 F131_ok)
  · cases h; exact .inl (lh3 Try.func145 F145_ok)
  · cases h; exact .inl (lh3 Try.func149 F149_ok)
  · cases h; exact .inl (lh3 Try.func150 F150_ok)
  · cases h; exact .inl (lh3 Try.func151 F151_ok)
  · cases h; exact .inl (lh3 Try.func154 F154_ok)
  · cases h; exact .inl (lh3 Try.func155 F155_ok)
  · cases h; exact .inl (lh3 Try.func156 F156_ok)
  · cases h; exact .inl (lh3 Try.func169 F169_ok)
  · cases h; exact .inl (lh3 Try.func177 F177_ok)
  · cases h
theorem mixed : Try.prog.follows .mixedOrders = true := by kernel_rfl
end Go.Proofs.Ytjpejkakodbchaa
