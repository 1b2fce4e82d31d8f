/-
  Functions of this seat as the small machine's code, written by a program of my own (gen.py); each is checked to be what the model's function is turned into. No condition.
-/
import Derived.Test.YtoglhlonhmmieaaK4
import Derived.Test.YtoglhlonhmmieaaKCode0
import Derived.Test.YtoglhlonhmmieaaKCode1
set_option linter.unusedVariables false
set_option linter.unusedSimpArgs false
set_option linter.unusedSectionVars false
set_option maxRecDepth 100000
namespace Go.Proofs.Ytoglhlonhmmieaa
open Go.Am
def T:Tab
 |4=>some F4
 |9=>some F9
 |11=>some F11
 |13=>some F13
 |15=>some F15
 |16=>some F16
 |17=>some F17
 |18=>some F18
 |19=>some F19
 |20=>some F20
 |21=>some F21
 |22=>some F22
 |23=>some F23
 |24=>some F24
 |25=>some F25
 |45=>some F45
 |46=>some F46
 |48=>some F48
 |49=>some F49
 |50=>some F50
 |51=>some F51
 |52=>some F52
 |54=>some F54
 |55=>some F55
 |56=>some F56
 |57=>some F57
 |58=>some F58
 |59=>some F59
 |66=>some F66
 |80=>some F80
 |88=>some F88
 |90=>some F90
 |91=>some F91
 |92=>some F92
 |93=>some F93
 |94=>some F94
 |95=>some F95
 |96=>some F96
 |97=>some F97
 |98=>some F98
 |99=>some F99
 |100=>some FDo
 |101=>some F101
 |102=>some F102
 |105=>some F105
 |106=>some F106
 |108=>some F108
 |112=>some F112
 |116=>some F116
 |117=>some F117
 |120=>some F120
 |121=>some F121
 |122=>some F122
 |143=>some F143
 |155=>some F155
 |_=>none
theorem T4:T 4=some F4:=rfl
theorem T9:T 9=some F9:=rfl
theorem T11:T 11=some F11:=rfl
theorem T13:T 13=some F13:=rfl
theorem T15:T 15=some F15:=rfl
theorem T16:T 16=some F16:=rfl
theorem T17:T 17=some F17:=rfl
theorem T18:T 18=some F18:=rfl
theorem T19:T 19=some F19:=rfl
theorem T20:T 20=some F20:=rfl
theorem T21:T 21=some F21:=rfl
theorem T22:T 22=some F22:=rfl
theorem T23:T 23=some F23:=rfl
theorem T24:T 24=some F24:=rfl
theorem T25:T 25=some F25:=rfl
theorem T45:T 45=some F45:=rfl
theorem T46:T 46=some F46:=rfl
theorem T48:T 48=some F48:=rfl
theorem T49:T 49=some F49:=rfl
theorem T50:T 50=some F50:=rfl
theorem T51:T 51=some F51:=rfl
theorem T52:T 52=some F52:=rfl
theorem T54:T 54=some F54:=rfl
theorem T55:T 55=some F55:=rfl
theorem T56:T 56=some F56:=rfl
theorem T57:T 57=some F57:=rfl
theorem T58:T 58=some F58:=rfl
theorem T59:T 59=some F59:=rfl
theorem T66:T 66=some F66:=rfl
theorem T80:T 80=some F80:=rfl
theorem T88:T 88=some F88:=rfl
theorem T90:T 90=some F90:=rfl
theorem T91:T 91=some F91:=rfl
theorem T92:T 92=some F92:=rfl
theorem T93:T 93=some F93:=rfl
theorem T94:T 94=some F94:=rfl
theorem T95:T 95=some F95:=rfl
theorem T96:T 96=some F96:=rfl
theorem T97:T 97=some F97:=rfl
theorem T98:T 98=some F98:=rfl
theorem T99:T 99=some F99:=rfl
theorem T101:T 101=some F101:=rfl
theorem T102:T 102=some F102:=rfl
theorem T105:T 105=some F105:=rfl
theorem T106:T 106=some F106:=rfl
theorem T108:T 108=some F108:=rfl
theorem T112:T 112=some F112:=rfl
theorem T116:T 116=some F116:=rfl
theorem T117:T 117=some F117:=rfl
theorem T120:T 120=some F120:=rfl
theorem T121:T 121=some F121:=rfl
theorem T122:T 122=some F122:=rfl
theorem T143:T 143=some F143:=rfl
theorem T155:T 155=some F155:=rfl
theorem T100:T 100=some FDo:=rfl
theorem b41:xp2 Try.prog T:=by
 intro f F h
 unfold T at h
 split at h
 ·cases h;exact .inl (lh3 Try.func4 F4_ok)
 ·cases h;exact .inl (lh3 Try.func9 F9_ok)
 ·cases h;exact .inl (lh3 Try.func11 F11_ok)
 ·cases h;exact .inl (lh3 Try.func13 F13_ok)
 ·cases h;exact .inl (lh3 Try.func15 F15_ok)
 ·cases h;exact .inl (lh3 Try.func16 F16_ok)
 ·cases h;exact .inl (lh3 Try.func17 F17_ok)
 ·cases h;exact .inl (lh3 Try.func18 F18_ok)
 ·cases h;exact .inl (lh3 Try.func19 F19_ok)
 ·cases h;exact .inl (lh3 Try.func20 F20_ok)
 ·cases h;exact .inl (lh3 Try.func21 F21_ok)
 ·cases h;exact .inl (lh3 Try.func22 F22_ok)
 ·cases h;exact .inl (lh3 Try.func23 F23_ok)
 ·cases h;exact .inl (lh3 Try.func24 F24_ok)
 ·cases h;exact .inl (lh3 Try.func25 F25_ok)
 ·cases h;exact .inl (lh3 Try.func45 F45_ok)
 ·cases h;exact .inl (lh3 Try.func46 F46_ok)
 ·cases h;exact .inl (lh3 Try.func48 F48_ok)
 ·cases h;exact .inl (lh3 Try.func49 F49_ok)
 ·cases h;exact .inl (lh3 Try.func50 F50_ok)
 ·cases h;exact .inl (lh3 Try.func51 F51_ok)
 ·cases h;exact .inl (lh3 Try.func52 F52_ok)
 ·cases h;exact .inl (lh3 Try.func54 F54_ok)
 ·cases h;exact .inl (lh3 Try.func55 F55_ok)
 ·cases h;exact .inl (lh3 Try.func56 F56_ok)
 ·cases h;exact .inl (lh3 Try.func57 F57_ok)
 ·cases h;exact .inl (lh3 Try.func58 F58_ok)
 ·cases h;exact .inl (lh3 Try.func59 F59_ok)
 ·cases h;exact .inl (lh3 Try.func66 F66_ok)
 ·cases h;exact .inl (lh3 Try.func80 F80_ok)
 ·cases h;exact .inl (lh3 Try.func88 F88_ok)
 ·cases h;exact .inl (lh3 Try.func90 F90_ok)
 ·cases h;exact .inl (lh3 Try.func91 F91_ok)
 ·cases h;exact .inl (lh3 Try.func92 F92_ok)
 ·cases h;exact .inl (lh3 Try.func93 F93_ok)
 ·cases h;exact .inl (lh3 Try.func94 F94_ok)
 ·cases h;exact .inl (lh3 Try.func95 F95_ok)
 ·cases h;exact .inl (lh3 Try.func96 F96_ok)
 ·cases h;exact .inl (lh3 Try.func97 F97_ok)
 ·cases h;exact .inl (lh3 Try.func98 F98_ok)
 ·cases h;exact .inl (lh3 Try.func99 F99_ok)
 ·cases h;exact .inr (tr1 rfl)
 ·cases h;exact .inl (lh3 Try.func101 F101_ok)
 ·cases h;exact .inl (lh3 Try.func102 F102_ok)
 ·cases h;exact .inl (lh3 Try.func105 F105_ok)
 ·cases h;exact .inl (lh3 Try.func106 F106_ok)
 ·cases h;exact .inl (lh3 Try.func108 F108_ok)
 ·cases h;exact .inl (lh3 Try.func112 F112_ok)
 ·cases h;exact .inl (lh3 Try.func116 F116_ok)
 ·cases h;exact .inl (lh3 Try.func117 F117_ok)
 ·cases h;exact .inl (lh3 Try.func120 F120_ok)
 ·cases h;exact .inl (lh3 Try.func121 F121_ok)
 ·cases h;exact .inl (lh3 Try.func122 F122_ok)
 ·cases h;exact .inl (lh3 Try.func143 F143_ok)
 ·cases h;exact .inl (lh3 Try.func155 F155_ok)
 ·cases h
theorem mixed:Try.prog.follows .mixedOrders=true:=by kernel_rfl
end Go.Proofs.Ytoglhlonhmmieaa
