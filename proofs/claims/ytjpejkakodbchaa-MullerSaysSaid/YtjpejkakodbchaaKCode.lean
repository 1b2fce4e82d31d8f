/-
  Functions of this seat as the small machine's code, written by a program of my own (gen.py); each is checked to be what the model's function is turned into. No condition.
-/
import Derived.Test.YtjpejkakodbchaaK3
import Derived.Test.YtjpejkakodbchaaKCode0
import Derived.Test.YtjpejkakodbchaaKCode1
set_option linter.unusedVariables false
set_option linter.unusedSimpArgs false
set_option linter.unusedSectionVars false
set_option maxRecDepth 100000
namespace Go.Proofs.Ytjpejkakodbchaa
open Go.Am
def T : Tab
  | 8 => some F8
  | 16 => some F16
  | 19 => some F19
  | 29 => some F29
  | 31 => some F31
  | 35 => some F35
  | 41 => some F41
  | 42 => some F42
  | 43 => some F43
  | 44 => some F44
  | 45 => some F45
  | 46 => some F46
  | 47 => some F47
  | 48 => some F48
  | 58 => some F58
  | 59 => some F59
  | 65 => some F65
  | 67 => some F67
  | 71 => some F71
  | 72 => some F72
  | 73 => some F73
  | 74 => some F74
  | 75 => some F75
  | 76 => some F76
  | 77 => some F77
  | 78 => some F78
  | 79 => some F79
  | 80 => some F80
  | 81 => some F81
  | 82 => some F82
  | 83 => some F83
  | 84 => some F84
  | 97 => some F97
  | 98 => some F98
  | 99 => some F99
  | 100 => some F100
  | 101 => some F101
  | 102 => some F102
  | 115 => some F115
  | 116 => some F116
  | 117 => some F117
  | 118 => some F118
  | 119 => some F119
  | 120 => some F120
  | 121 => some F121
  | 122 => some F122
  | 127 => some F127
  | 128 => some FDo
  | 129 => some F129
  | 130 => some F130
  | 131 => some F131
  | 132 => some F132
  | 133 => some F133
  | 134 => some F134
  | 136 => some F136
  | 141 => some F141
  | 148 => some F148
  | 150 => some F150
  | 151 => some F151
  | 154 => some F154
  | 155 => some F155
  | 156 => some F156
  | 159 => some F159
  | 169 => some F169
  | 177 => some F177
  | _ => none
theorem T8 : T 8 = some F8 := rfl
theorem T16 : T 16 = some F16 := rfl
theorem T19 : T 19 = some F19 := rfl
theorem T29 : T 29 = some F29 := rfl
theorem T31 : T 31 = some F31 := rfl
theorem T35 : T 35 = some F35 := rfl
theorem T41 : T 41 = some F41 := rfl
theorem T42 : T 42 = some F42 := rfl
theorem T43 : T 43 = some F43 := rfl
theorem T44 : T 44 = some F44 := rfl
theorem T45 : T 45 = some F45 := rfl
theorem T46 : T 46 = some F46 := rfl
theorem T47 : T 47 = some F47 := rfl
theorem T48 : T 48 = some F48 := rfl
theorem T58 : T 58 = some F58 := rfl
theorem T59 : T 59 = some F59 := rfl
theorem T65 : T 65 = some F65 := rfl
theorem T67 : T 67 = some F67 := rfl
theorem T71 : T 71 = some F71 := rfl
theorem T72 : T 72 = some F72 := rfl
theorem T73 : T 73 = some F73 := rfl
theorem T74 : T 74 = some F74 := rfl
theorem T75 : T 75 = some F75 := rfl
theorem T76 : T 76 = some F76 := rfl
theorem T77 : T 77 = some F77 := rfl
theorem T78 : T 78 = some F78 := rfl
theorem T79 : T 79 = some F79 := rfl
theorem T80 : T 80 = some F80 := rfl
theorem T81 : T 81 = some F81 := rfl
theorem T82 : T 82 = some F82 := rfl
theorem T83 : T 83 = some F83 := rfl
theorem T84 : T 84 = some F84 := rfl
theorem T97 : T 97 = some F97 := rfl
theorem T98 : T 98 = some F98 := rfl
theorem T99 : T 99 = some F99 := rfl
theorem T100 : T 100 = some F100 := rfl
theorem T101 : T 101 = some F101 := rfl
theorem T102 : T 102 = some F102 := rfl
theorem T115 : T 115 = some F115 := rfl
theorem T116 : T 116 = some F116 := rfl
theorem T117 : T 117 = some F117 := rfl
theorem T118 : T 118 = some F118 := rfl
theorem T119 : T 119 = some F119 := rfl
theorem T120 : T 120 = some F120 := rfl
theorem T121 : T 121 = some F121 := rfl
theorem T122 : T 122 = some F122 := rfl
theorem T127 : T 127 = some F127 := rfl
theorem T129 : T 129 = some F129 := rfl
theorem T130 : T 130 = some F130 := rfl
theorem T131 : T 131 = some F131 := rfl
theorem T132 : T 132 = some F132 := rfl
theorem T133 : T 133 = some F133 := rfl
theorem T134 : T 134 = some F134 := rfl
theorem T136 : T 136 = some F136 := rfl
theorem T141 : T 141 = some F141 := rfl
theorem T148 : T 148 = some F148 := rfl
theorem T150 : T 150 = some F150 := rfl
theorem T151 : T 151 = some F151 := rfl
theorem T154 : T 154 = some F154 := rfl
theorem T155 : T 155 = some F155 := rfl
theorem T156 : T 156 = some F156 := rfl
theorem T159 : T 159 = some F159 := rfl
theorem T169 : T 169 = some F169 := rfl
theorem T177 : T 177 = some F177 := rfl
theorem T128 : T 128 = some FDo := rfl
theorem b41 : xp2 Try.prog T := by
  intro f F h
  unfold T at h
  split at h
  · cases h; exact .inl (lh3 Try.func8 F8_ok)
  · cases h; exact .inl (lh3 Try.func16 F16_ok)
  · cases h; exact .inl (lh3 Try.func19 F19_ok)
  · cases h; exact .inl (lh3 Try.func29 F29_ok)
  · cases h; exact .inl (lh3 Try.func31 F31_ok)
  · cases h; exact .inl (lh3 Try.func35 F35_ok)
  · cases h; exact .inl (lh3 Try.func41 F41_ok)
  · cases h; exact .inl (lh3 Try.func42 F42_ok)
  · cases h; exact .inl (lh3 Try.func43 F43_ok)
  · cases h; exact .inl (lh3 Try.func44 F44_ok)
  · cases h; exact .inl (lh3 Try.func45 F45_ok)
  · cases h; exact .inl (lh3 Try.func46 F46_ok)
  · cases h; exact .inl (lh3 Try.func47 F47_ok)
  · cases h; exact .inl (lh3 Try.func48 F48_ok)
  · cases h; exact .inl (lh3 Try.func58 F58_ok)
  · cases h; exact .inl (lh3 Try.func59 F59_ok)
  · cases h; exact .inl (lh3 Try.func65 F65_ok)
  · cases h; exact .inl (lh3 Try.func67 F67_ok)
  · cases h; exact .inl (lh3 Try.func71 F71_ok)
  · cases h; exact .inl (lh3 Try.func72 F72_ok)
  · cases h; exact .inl (lh3 Try.func73 F73_ok)
  · cases h; exact .inl (lh3 Try.func74 F74_ok)
  · cases h; exact .inl (lh3 Try.func75 F75_ok)
  · cases h; exact .inl (lh3 Try.func76 F76_ok)
  · cases h; exact .inl (lh3 Try.func77 F77_ok)
  · cases h; exact .inl (lh3 Try.func78 F78_ok)
  · cases h; exact .inl (lh3 Try.func79 F79_ok)
  · cases h; exact .inl (lh3 Try.func80 F80_ok)
  · cases h; exact .inl (lh3 Try.func81 F81_ok)
  · cases h; exact .inl (lh3 Try.func82 F82_ok)
  · cases h; exact .inl (lh3 Try.func83 F83_ok)
  · cases h; exact .inl (lh3 Try.func84 F84_ok)
  · cases h; exact .inl (lh3 Try.func97 F97_ok)
  · cases h; exact .inl (lh3 Try.func98 F98_ok)
  · cases h; exact .inl (lh3 Try.func99 F99_ok)
  · cases h; exact .inl (lh3 Try.func100 F100_ok)
  · cases h; exact .inl (lh3 Try.func101 F101_ok)
  · cases h; exact .inl (lh3 Try.func102 F102_ok)
  · cases h; exact .inl (lh3 Try.func115 F115_ok)
  · cases h; exact .inl (lh3 Try.func116 F116_ok)
  · cases h; exact .inl (lh3 Try.func117 F117_ok)
  · cases h; exact .inl (lh3 Try.func118 F118_ok)
  · cases h; exact .inl (lh3 Try.func119 F119_ok)
  · cases h; exact .inl (lh3 Try.func120 F120_ok)
  · cases h; exact .inl (lh3 Try.func121 F121_ok)
  · cases h; exact .inl (lh3 Try.func122 F122_ok)
  · cases h; exact .inl (lh3 Try.func127 F127_ok)
  · cases h; exact .inr (tr1 rfl)
  · cases h; exact .inl (lh3 Try.func129 F129_ok)
  · cases h; exact .inl (lh3 Try.func130 F130_ok)
  · cases h; exact .inl (lh3 Try.func131 F131_ok)
  · cases h; exact .inl (lh3 Try.func132 F132_ok)
  · cases h; exact .inl (lh3 Try.func133 F133_ok)
  · cases h; exact .inl (lh3 Try.func134 F134_ok)
  · cases h; exact .inl (lh3 Try.func136 F136_ok)
  · cases h; exact .inl (lh3 Try.func141 F141_ok)
  · cases h; exact .inl (lh3 Try.func148 F148_ok)
  · cases h; exact .inl (lh3 Try.func150 F150_ok)
  · cases h; exact .inl (lh3 Try.func151 F151_ok)
  · cases h; exact .inl (lh3 Try.func154 F154_ok)
  · cases h; exact .inl (lh3 Try.func155 F155_ok)
  · cases h; exact .inl (lh3 Try.func156 F156_ok)
  · cases h; exact .inl (lh3 Try.func159 F159_ok)
  · cases h; exact .inl (lh3 Try.func169 F169_ok)
  · cases h; exact .inl (lh3 Try.func177 F177_ok)
  · cases h
theorem mixed : Try.prog.follows .mixedOrders = true := by kernel_rfl
end Go.Proofs.Ytjpejkakodbchaa
