/-
  Functions of this seat as the small machine's code, written by a program of my own (gen.py); each is checked to be what the model's function is turned into. No condition.
-/
import Derived.Test.YtodbgomfeacdhaaK4
import Derived.Test.YtodbgomfeacdhaaKCode0
import Derived.Test.YtodbgomfeacdhaaKCode1
set_option linter.unusedVariables false
set_option linter.unusedSimpArgs false
set_option linter.unusedSectionVars false
set_option maxRecDepth 100000
namespace Go.Proofs.Ytodbgomfeacdhaa
open Go.Am
def T:Tab
 |4=>some F4
 |17=>some F17
 |18=>some F18
 |19=>some F19
 |20=>some F20
 |21=>some F21
 |22=>some F22
 |23=>some F23
 |24=>some F24
 |25=>some F25
 |26=>some F26
 |27=>some F27
 |28=>some F28
 |47=>some F47
 |64=>some F64
 |67=>some F67
 |71=>some F71
 |72=>some F72
 |73=>some F73
 |74=>some F74
 |75=>some F75
 |76=>some F76
 |77=>some F77
 |78=>some F78
 |79=>some F79
 |80=>some F80
 |81=>some F81
 |88=>some F88
 |92=>some F92
 |95=>some F95
 |115=>some F115
 |118=>some F118
 |127=>some F127
 |128=>some F128
 |129=>some F129
 |130=>some F130
 |132=>some F132
 |133=>some F133
 |134=>some F134
 |135=>some F135
 |136=>some F136
 |137=>some F137
 |138=>some F138
 |141=>some F141
 |148=>some F148
 |150=>some F150
 |151=>some F151
 |152=>some F152
 |153=>some F153
 |154=>some F154
 |155=>some F155
 |156=>some F156
 |157=>some F157
 |165=>some F165
 |166=>some F166
 |167=>some F167
 |168=>some F168
 |169=>some F169
 |170=>some F170
 |171=>some FDo
 |172=>some F172
 |173=>some F173
 |174=>some F174
 |175=>some F175
 |201=>some F201
 |205=>some F205
 |208=>some F208
 |209=>some F209
 |210=>some F210
 |225=>some F225
 |234=>some F234
 |_=>none
theorem T4:T 4=some F4:=rfl
theorem T17:T 17=some F17:=rfl
theorem T18:T 18=some F18:=rfl
theorem T19:T 19=some F19:=rfl
theorem T20:T 20=some F20:=rfl
theorem T21:T 21=some F21:=rfl
theorem T22:T 22=some F22:=rfl
theorem T23:T 23=some F23:=rfl
theorem T24:T 24=some F24:=rfl
theorem T25:T 25=some F25:=rfl
theorem T26:T 26=some F26:=rfl
theorem T27:T 27=some F27:=rfl
theorem T28:T 28=some F28:=rfl
theorem T47:T 47=some F47:=rfl
theorem T64:T 64=some F64:=rfl
theorem T67:T 67=some F67:=rfl
theorem T71:T 71=some F71:=rfl
theorem T72:T 72=some F72:=rfl
theorem T73:T 73=some F73:=rfl
theorem T74:T 74=some F74:=rfl
theorem T75:T 75=some F75:=rfl
theorem T76:T 76=some F76:=rfl
theorem T77:T 77=some F77:=rfl
theorem T78:T 78=some F78:=rfl
theorem T79:T 79=some F79:=rfl
theorem T80:T 80=some F80:=rfl
theorem T81:T 81=some F81:=rfl
theorem T88:T 88=some F88:=rfl
theorem T92:T 92=some F92:=rfl
theorem T95:T 95=some F95:=rfl
theorem T115:T 115=some F115:=rfl
theorem T118:T 118=some F118:=rfl
theorem T127:T 127=some F127:=rfl
theorem T128:T 128=some F128:=rfl
theorem T129:T 129=some F129:=rfl
theorem T130:T 130=some F130:=rfl
theorem T132:T 132=some F132:=rfl
theorem T133:T 133=some F133:=rfl
theorem T134:T 134=some F134:=rfl
theorem T135:T 135=some F135:=rfl
theorem T136:T 136=some F136:=rfl
theorem T137:T 137=some F137:=rfl
theorem T138:T 138=some F138:=rfl
theorem T141:T 141=some F141:=rfl
theorem T148:T 148=some F148:=rfl
theorem T150:T 150=some F150:=rfl
theorem T151:T 151=some F151:=rfl
theorem T152:T 152=some F152:=rfl
theorem T153:T 153=some F153:=rfl
theorem T154:T 154=some F154:=rfl
theorem T155:T 155=some F155:=rfl
theorem T156:T 156=some F156:=rfl
theorem T157:T 157=some F157:=rfl
theorem T165:T 165=some F165:=rfl
theorem T166:T 166=some F166:=rfl
theorem T167:T 167=some F167:=rfl
theorem T168:T 168=some F168:=rfl
theorem T169:T 169=some F169:=rfl
theorem T170:T 170=some F170:=rfl
theorem T172:T 172=some F172:=rfl
theorem T173:T 173=some F173:=rfl
theorem T174:T 174=some F174:=rfl
theorem T175:T 175=some F175:=rfl
theorem T201:T 201=some F201:=rfl
theorem T205:T 205=some F205:=rfl
theorem T208:T 208=some F208:=rfl
theorem T209:T 209=some F209:=rfl
theorem T210:T 210=some F210:=rfl
theorem T225:T 225=some F225:=rfl
theorem T234:T 234=some F234:=rfl
theorem T171:T 171=some FDo:=rfl
theorem b41:xp2 Try.prog T:=by
 intro f F h
 unfold T at h
 split at h
 ·cases h;exact .inl (lh3 Try.func4 F4_ok)
 ·cases h;exact .inl (lh3 Try.func17 F17_ok)
 ·cases h;exact .inl (lh3 Try.func18 F18_ok)
 ·cases h;exact .inl (lh3 Try.func19 F19_ok)
 ·cases h;exact .inl (lh3 Try.func20 F20_ok)
 ·cases h;exact .inl (lh3 Try.func21 F21_ok)
 ·cases h;exact .inl (lh3 Try.func22 F22_ok)
 ·cases h;exact .inl (lh3 Try.func23 F23_ok)
 ·cases h;exact .inl (lh3 Try.func24 F24_ok)
 ·cases h;exact .inl (lh3 Try.func25 F25_ok)
 ·cases h;exact .inl (lh3 Try.func26 F26_ok)
 ·cases h;exact .inl (lh3 Try.func27 F27_ok)
 ·cases h;exact .inl (lh3 Try.func28 F28_ok)
 ·cases h;exact .inl (lh3 Try.func47 F47_ok)
 ·cases h;exact .inl (lh3 Try.func64 F64_ok)
 ·cases h;exact .inl (lh3 Try.func67 F67_ok)
 ·cases h;exact .inl (lh3 Try.func71 F71_ok)
 ·cases h;exact .inl (lh3 Try.func72 F72_ok)
 ·cases h;exact .inl (lh3 Try.func73 F73_ok)
 ·cases h;exact .inl (lh3 Try.func74 F74_ok)
 ·cases h;exact .inl (lh3 Try.func75 F75_ok)
 ·cases h;exact .inl (lh3 Try.func76 F76_ok)
 ·cases h;exact .inl (lh3 Try.func77 F77_ok)
 ·cases h;exact .inl (lh3 Try.func78 F78_ok)
 ·cases h;exact .inl (lh3 Try.func79 F79_ok)
 ·cases h;exact .inl (lh3 Try.func80 F80_ok)
 ·cases h;exact .inl (lh3 Try.func81 F81_ok)
 ·cases h;exact .inl (lh3 Try.func88 F88_ok)
 ·cases h;exact .inl (lh3 Try.func92 F92_ok)
 ·cases h;exact .inl (lh3 Try.func95 F95_ok)
 ·cases h;exact .inl (lh3 Try.func115 F115_ok)
 ·cases h;exact .inl (lh3 Try.func118 F118_ok)
 ·cases h;exact .inl (lh3 Try.func127 F127_ok)
 ·cases h;exact .inl (lh3 Try.func128 F128_ok)
 ·cases h;exact .inl (lh3 Try.func129 F129_ok)
 ·cases h;exact .inl (lh3 Try.func130 F130_ok)
 ·cases h;exact .inl (lh3 Try.func132 F132_ok)
 ·cases h;exact .inl (lh3 Try.func133 F133_ok)
 ·cases h;exact .inl (lh3 Try.func134 F134_ok)
 ·cases h;exact .inl (lh3 Try.func135 F135_ok)
 ·cases h;exact .inl (lh3 Try.func136 F136_ok)
 ·cases h;exact .inl (lh3 Try.func137 F137_ok)
 ·cases h;exact .inl (lh3 Try.func138 F138_ok)
 ·cases h;exact .inl (lh3 Try.func141 F141_ok)
 ·cases h;exact .inl (lh3 Try.func148 F148_ok)
 ·cases h;exact .inl (lh3 Try.func150 F150_ok)
 ·cases h;exact .inl (lh3 Try.func151 F151_ok)
 ·cases h;exact .inl (lh3 Try.func152 F152_ok)
 ·cases h;exact .inl (lh3 Try.func153 F153_ok)
 ·cases h;exact .inl (lh3 Try.func154 F154_ok)
 ·cases h;exact .inl (lh3 Try.func155 F155_ok)
 ·cases h;exact .inl (lh3 Try.func156 F156_ok)
 ·cases h;exact .inl (lh3 Try.func157 F157_ok)
 ·cases h;exact .inl (lh3 Try.func165 F165_ok)
 ·cases h;exact .inl (lh3 Try.func166 F166_ok)
 ·cases h;exact .inl (lh3 Try.func167 F167_ok)
 ·cases h;exact .inl (lh3 Try.func168 F168_ok)
 ·cases h;exact .inl (lh3 Try.func169 F169_ok)
 ·cases h;exact .inl (lh3 Try.func170 F170_ok)
 ·cases h;exact .inr (tr1 rfl)
 ·cases h;exact .inl (lh3 Try.func172 F172_ok)
 ·cases h;exact .inl (lh3 Try.func173 F173_ok)
 ·cases h;exact .inl (lh3 Try.func174 F174_ok)
 ·cases h;exact .inl (lh3 Try.func175 F175_ok)
 ·cases h;exact .inl (lh3 Try.func201 F201_ok)
 ·cases h;exact .inl (lh3 Try.func205 F205_ok)
 ·cases h;exact .inl (lh3 Try.func208 F208_ok)
 ·cases h;exact .inl (lh3 Try.func209 F209_ok)
 ·cases h;exact .inl (lh3 Try.func210 F210_ok)
 ·cases h;exact .inl (lh3 Try.func225 F225_ok)
 ·cases h;exact .inl (lh3 Try.func234 F234_ok)
 ·cases h
theorem mixed:Try.prog.follows .mixedOrders=true:=by kernel_rfl
end Go.Proofs.Ytodbgomfeacdhaa
