/-
  Functions of this seat as the small machine's code, written by a program of my own (gen.py); each is checked to be what the model's function is turned into. No condition.
-/
import Derived.Test.YtodbgomfeacdhaaK4
import Derived.Test.YtodbgomfeacdhaaKCode0
import Derived.Test.YtodbgomfeacdhaaKCode1
set_option linter.unusedVariables false
set_option linter.unusedSimpArgs false
set_option linter.unusedSectionVars false
set_option maxRecDepth 100000
namespace Go.Proofs.Ytodbgomfeacdhaa
open Go.Am
def T:Tab
 |12=>some F12
 |13=>some F13
 |20=>some F20
 |21=>some F21
 |28=>some F28
 |45=>some F45
 |46=>some F46
 |47=>some F47
 |59=>some F59
 |61=>some F61
 |62=>some F62
 |63=>some F63
 |64=>some F64
 |65=>some F65
 |66=>some F66
 |67=>some F67
 |68=>some F68
 |75=>some F75
 |76=>some F76
 |77=>some F77
 |92=>some F92
 |95=>some F95
 |112=>some F112
 |113=>some F113
 |114=>some F114
 |115=>some F115
 |116=>some F116
 |117=>some F117
 |118=>some F118
 |119=>some F119
 |120=>some F120
 |121=>some F121
 |122=>some F122
 |123=>some F123
 |124=>some F124
 |132=>some F132
 |133=>some F133
 |138=>some F138
 |141=>some F141
 |148=>some F148
 |149=>some F149
 |150=>some F150
 |151=>some F151
 |152=>some F152
 |153=>some F153
 |154=>some F154
 |155=>some F155
 |156=>some F156
 |157=>some F157
 |159=>some F159
 |165=>some F165
 |171=>some FDo
 |172=>some F172
 |173=>some F173
 |174=>some F174
 |175=>some F175
 |200=>some F200
 |201=>some F201
 |205=>some F205
 |208=>some F208
 |209=>some F209
 |210=>some F210
 |225=>some F225
 |234=>some F234
 |_=>none
theorem T12:T 12=some F12:=rfl
theorem T13:T 13=some F13:=rfl
theorem T20:T 20=some F20:=rfl
theorem T21:T 21=some F21:=rfl
theorem T28:T 28=some F28:=rfl
theorem T45:T 45=some F45:=rfl
theorem T46:T 46=some F46:=rfl
theorem T47:T 47=some F47:=rfl
theorem T59:T 59=some F59:=rfl
theorem T61:T 61=some F61:=rfl
theorem T62:T 62=some F62:=rfl
theorem T63:T 63=some F63:=rfl
theorem T64:T 64=some F64:=rfl
theorem T65:T 65=some F65:=rfl
theorem T66:T 66=some F66:=rfl
theorem T67:T 67=some F67:=rfl
theorem T68:T 68=some F68:=rfl
theorem T75:T 75=some F75:=rfl
theorem T76:T 76=some F76:=rfl
theorem T77:T 77=some F77:=rfl
theorem T92:T 92=some F92:=rfl
theorem T95:T 95=some F95:=rfl
theorem T112:T 112=some F112:=rfl
theorem T113:T 113=some F113:=rfl
theorem T114:T 114=some F114:=rfl
theorem T115:T 115=some F115:=rfl
theorem T116:T 116=some F116:=rfl
theorem T117:T 117=some F117:=rfl
theorem T118:T 118=some F118:=rfl
theorem T119:T 119=some F119:=rfl
theorem T120:T 120=some F120:=rfl
theorem T121:T 121=some F121:=rfl
theorem T122:T 122=some F122:=rfl
theorem T123:T 123=some F123:=rfl
theorem T124:T 124=some F124:=rfl
theorem T132:T 132=some F132:=rfl
theorem T133:T 133=some F133:=rfl
theorem T138:T 138=some F138:=rfl
theorem T141:T 141=some F141:=rfl
theorem T148:T 148=some F148:=rfl
theorem T149:T 149=some F149:=rfl
theorem T150:T 150=some F150:=rfl
theorem T151:T 151=some F151:=rfl
theorem T152:T 152=some F152:=rfl
theorem T153:T 153=some F153:=rfl
theorem T154:T 154=some F154:=rfl
theorem T155:T 155=some F155:=rfl
theorem T156:T 156=some F156:=rfl
theorem T157:T 157=some F157:=rfl
theorem T159:T 159=some F159:=rfl
theorem T165:T 165=some F165:=rfl
theorem T172:T 172=some F172:=rfl
theorem T173:T 173=some F173:=rfl
theorem T174:T 174=some F174:=rfl
theorem T175:T 175=some F175:=rfl
theorem T200:T 200=some F200:=rfl
theorem T201:T 201=some F201:=rfl
theorem T205:T 205=some F205:=rfl
theorem T208:T 208=some F208:=rfl
theorem T209:T 209=some F209:=rfl
theorem T210:T 210=some F210:=rfl
theorem T225:T 225=some F225:=rfl
theorem T234:T 234=some F234:=rfl
theorem T171:T 171=some FDo:=rfl
theorem b41:xp2 Try.prog T:=by
 intro f F h
 unfold T at h
 split at h
 ·cases h;exact .inl (lh3 Try.func12 F12_ok)
 ·cases h;exact .inl (lh3 Try.func13 F13_ok)
 ·cases h;exact .inl (lh3 Try.func20 F20_ok)
 ·cases h;exact .inl (lh3 Try.func21 F21_ok)
 ·cases h;exact .inl (lh3 Try.func28 F28_ok)
 ·cases h;exact .inl (lh3 Try.func45 F45_ok)
 ·cases h;exact .inl (lh3 Try.func46 F46_ok)
 ·cases h;exact .inl (lh3 Try.func47 F47_ok)
 ·cases h;exact .inl (lh3 Try.func59 F59_ok)
 ·cases h;exact .inl (lh3 Try.func61 F61_ok)
 ·cases h;exact .inl (lh3 Try.func62 F62_ok)
 ·cases h;exact .inl (lh3 Try.func63 F63_ok)
 ·cases h;exact .inl (lh3 Try.func64 F64_ok)
 ·cases h;exact .inl (lh3 Try.func65 F65_ok)
 ·cases h;exact .inl (lh3 Try.func66 F66_ok)
 ·cases h;exact .inl (lh3 Try.func67 F67_ok)
 ·cases h;exact .inl (lh3 Try.func68 F68_ok)
 ·cases h;exact .inl (lh3 Try.func75 F75_ok)
 ·cases h;exact .inl (lh3 Try.func76 F76_ok)
 ·cases h;exact .inl (lh3 Try.func77 F77_ok)
 ·cases h;exact .inl (lh3 Try.func92 F92_ok)
 ·cases h;exact .inl (lh3 Try.func95 F95_ok)
 ·cases h;exact .inl (lh3 Try.func112 F112_ok)
 ·cases h;exact .inl (lh3 Try.func113 F113_ok)
 ·cases h;exact .inl (lh3 Try.func114 F114_ok)
 ·cases h;exact .inl (lh3 Try.func115 F115_ok)
 ·cases h;exact .inl (lh3 Try.func116 F116_ok)
 ·cases h;exact .inl (lh3 Try.func117 F117_ok)
 ·cases h;exact .inl (lh3 Try.func118 F118_ok)
 ·cases h;exact .inl (lh3 Try.func119 F119_ok)
 ·cases h;exact .inl (lh3 Try.func120 F120_ok)
 ·cases h;exact .inl (lh3 Try.func121 F121_ok)
 ·cases h;exact .inl (lh3 Try.func122 F122_ok)
 ·cases h;exact .inl (lh3 Try.func123 F123_ok)
 ·cases h;exact .inl (lh3 Try.func124 F124_ok)
 ·cases h;exact .inl (lh3 Try.func132 F132_ok)
 ·cases h;exact .inl (lh3 Try.func133 F133_ok)
 ·cases h;exact .inl (lh3 Try.func138 F138_ok)
 ·cases h;exact .inl (lh3 Try.func141 F141_ok)
 ·cases h;exact .inl (lh3 Try.func148 F148_ok)
 ·cases h;exact .inl (lh3 Try.func149 F149_ok)
 ·cases h;exact .inl (lh3 Try.func150 F150_ok)
 ·cases h;exact .inl (lh3 Try.func151 F151_ok)
 ·cases h;exact .inl (lh3 Try.func152 F152_ok)
 ·cases h;exact .inl (lh3 Try.func153 F153_ok)
 ·cases h;exact .inl (lh3 Try.func154 F154_ok)
 ·cases h;exact .inl (lh3 Try.func155 F155_ok)
 ·cases h;exact .inl (lh3 Try.func156 F156_ok)
 ·cases h;exact .inl (lh3 Try.func157 F157_ok)
 ·cases h;exact .inl (lh3 Try.func159 F159_ok)
 ·cases h;exact .inl (lh3 Try.func165 F165_ok)
 ·cases h;exact .inr (tr1 rfl)
 ·cases h;exact .inl (lh3 Try.func172 F172_ok)
 ·cases h;exact .inl (lh3 Try.func173 F173_ok)
 ·cases h;exact .inl (lh3 Try.func174 F174_ok)
 ·cases h;exact .inl (lh3 Try.func175 F175_ok)
 ·cases h;exact .inl (lh3 Try.func200 F200_ok)
 ·cases h;exact .inl (lh3 Try.func201 F201_ok)
 ·cases h;exact .inl (lh3 Try.func205 F205_ok)
 ·cases h;exact .inl (lh3 Try.func208 F208_ok)
 ·cases h;exact .inl (lh3 Try.func209 F209_ok)
 ·cases h;exact .inl (lh3 Try.func210 F210_ok)
 ·cases h;exact .inl (lh3 Try.func225 F225_ok)
 ·cases h;exact .inl (lh3 Try.func234 F234_ok)
 ·cases h
theorem mixed:Try.prog.follows .mixedOrders=true:=by kernel_rfl
end Go.Proofs.Ytodbgomfeacdhaa
