/-
  Functions of this seat as the small machine's code, written by a program of my own (gen.py); each is checked to be what the model's function is turned into. No condition.
-/
import Derived.Test.YtodbgomfeacdhaaK4
import Derived.Test.YtodbgomfeacdhaaKCode0
import Derived.Test.YtodbgomfeacdhaaKCode1
set_option linter.unusedVariables false
set_option linter.unusedSimpArgs false
set_option linter.unusedSectionVars false
set_option maxRecDepth 100000
namespace Go.Proofs.Ytodbgomfeacdhaa
open Go.Am
def T:Tab
 |3=>some F3
 |13=>some F13
 |14=>some F14
 |15=>some F15
 |16=>some F16
 |28=>some F28
 |47=>some F47
 |68=>some F68
 |69=>some F69
 |70=>some F70
 |72=>some F72
 |78=>some F78
 |79=>some F79
 |92=>some F92
 |95=>some F95
 |115=>some F115
 |118=>some F118
 |125=>some F125
 |126=>some F126
 |127=>some F127
 |129=>some F129
 |132=>some F132
 |134=>some F134
 |135=>some F135
 |136=>some F136
 |138=>some F138
 |141=>some F141
 |148=>some F148
 |150=>some F150
 |151=>some F151
 |152=>some F152
 |153=>some F153
 |154=>some F154
 |155=>some F155
 |156=>some F156
 |157=>some F157
 |160=>some F160
 |161=>some F161
 |162=>some F162
 |163=>some F163
 |164=>some F164
 |165=>some F165
 |166=>some F166
 |167=>some F167
 |168=>some F168
 |169=>some F169
 |170=>some F170
 |171=>some FDo
 |172=>some F172
 |173=>some F173
 |174=>some F174
 |175=>some F175
 |201=>some F201
 |202=>some F202
 |203=>some F203
 |204=>some F204
 |205=>some F205
 |208=>some F208
 |209=>some F209
 |210=>some F210
 |225=>some F225
 |234=>some F234
 |_=>none
theorem T3:T 3=some F3:=rfl
theorem T13:T 13=some F13:=rfl
theorem T14:T 14=some F14:=rfl
theorem T15:T 15=some F15:=rfl
theorem T16:T 16=some F16:=rfl
theorem T28:T 28=some F28:=rfl
theorem T47:T 47=some F47:=rfl
theorem T68:T 68=some F68:=rfl
theorem T69:T 69=some F69:=rfl
theorem T70:T 70=some F70:=rfl
theorem T72:T 72=some F72:=rfl
theorem T78:T 78=some F78:=rfl
theorem T79:T 79=some F79:=rfl
theorem T92:T 92=some F92:=rfl
theorem T95:T 95=some F95:=rfl
theorem T115:T 115=some F115:=rfl
theorem T118:T 118=some F118:=rfl
theorem T125:T 125=some F125:=rfl
theorem T126:T 126=some F126:=rfl
theorem T127:T 127=some F127:=rfl
theorem T129:T 129=some F129:=rfl
theorem T132:T 132=some F132:=rfl
theorem T134:T 134=some F134:=rfl
theorem T135:T 135=some F135:=rfl
theorem T136:T 136=some F136:=rfl
theorem T138:T 138=some F138:=rfl
theorem T141:T 141=some F141:=rfl
theorem T148:T 148=some F148:=rfl
theorem T150:T 150=some F150:=rfl
theorem T151:T 151=some F151:=rfl
theorem T152:T 152=some F152:=rfl
theorem T153:T 153=some F153:=rfl
theorem T154:T 154=some F154:=rfl
theorem T155:T 155=some F155:=rfl
theorem T156:T 156=some F156:=rfl
theorem T157:T 157=some F157:=rfl
theorem T160:T 160=some F160:=rfl
theorem T161:T 161=some F161:=rfl
theorem T162:T 162=some F162:=rfl
theorem T163:T 163=some F163:=rfl
theorem T164:T 164=some F164:=rfl
theorem T165:T 165=some F165:=rfl
theorem T166:T 166=some F166:=rfl
theorem T167:T 167=some F167:=rfl
theorem T168:T 168=some F168:=rfl
theorem T169:T 169=some F169:=rfl
theorem T170:T 170=some F170:=rfl
theorem T172:T 172=some F172:=rfl
theorem T173:T 173=some F173:=rfl
theorem T174:T 174=some F174:=rfl
theorem T175:T 175=some F175:=rfl
theorem T201:T 201=some F201:=rfl
theorem T202:T 202=some F202:=rfl
theorem T203:T 203=some F203:=rfl
theorem T204:T 204=some F204:=rfl
theorem T205:T 205=some F205:=rfl
theorem T208:T 208=some F208:=rfl
theorem T209:T 209=some F209:=rfl
theorem T210:T 210=some F210:=rfl
theorem T225:T 225=some F225:=rfl
theorem T234:T 234=some F234:=rfl
theorem T171:T 171=some FDo:=rfl
theorem b41:xp2 Try.prog T:=by
 intro f F h
 unfold T at h
 split at h
 ·cases h;exact .inl (lh3 Try.func3 F3_ok)
 ·cases h;exact .inl (lh3 Try.func13 F13_ok)
 ·cases h;exact .inl (lh3 Try.func14 F14_ok)
 ·cases h;exact .inl (lh3 Try.func15 F15_ok)
 ·cases h;exact .inl (lh3 Try.func16 F16_ok)
 ·cases h;exact .inl (lh3 Try.func28 F28_ok)
 ·cases h;exact .inl (lh3 Try.func47 F47_ok)
 ·cases h;exact .inl (lh3 Try.func68 F68_ok)
 ·cases h;exact .inl (lh3 Try.func69 F69_ok)
 ·cases h;exact .inl (lh3 Try.func70 F70_ok)
 ·cases h;exact .inl (lh3 Try.func72 F72_ok)
 ·cases h;exact .inl (lh3 Try.func78 F78_ok)
 ·cases h;exact .inl (lh3 Try.func79 F79_ok)
 ·cases h;exact .inl (lh3 Try.func92 F92_ok)
 ·cases h;exact .inl (lh3 Try.func95 F95_ok)
 ·cases h;exact .inl (lh3 Try.func115 F115_ok)
 ·cases h;exact .inl (lh3 Try.func118 F118_ok)
 ·cases h;exact .inl (lh3 Try.func125 F125_ok)
 ·cases h;exact .inl (lh3 Try.func126 F126_ok)
 ·cases h;exact .inl (lh3 Try.func127 F127_ok)
 ·cases h;exact .inl (lh3 Try.func129 F129_ok)
 ·cases h;exact .inl (lh3 Try.func132 F132_ok)
 ·cases h;exact .inl (lh3 Try.func134 F134_ok)
 ·cases h;exact .inl (lh3 Try.func135 F135_ok)
 ·cases h;exact .inl (lh3 Try.func136 F136_ok)
 ·cases h;exact .inl (lh3 Try.func138 F138_ok)
 ·cases h;exact .inl (lh3 Try.func141 F141_ok)
 ·cases h;exact .inl (lh3 Try.func148 F148_ok)
 ·cases h;exact .inl (lh3 Try.func150 F150_ok)
 ·cases h;exact .inl (lh3 Try.func151 F151_ok)
 ·cases h;exact .inl (lh3 Try.func152 F152_ok)
 ·cases h;exact .inl (lh3 Try.func153 F153_ok)
 ·cases h;exact .inl (lh3 Try.func154 F154_ok)
 ·cases h;exact .inl (lh3 Try.func155 F155_ok)
 ·cases h;exact .inl (lh3 Try.func156 F156_ok)
 ·cases h;exact .inl (lh3 Try.func157 F157_ok)
 ·cases h;exact .inl (lh3 Try.func160 F160_ok)
 ·cases h;exact .inl (lh3 Try.func161 F161_ok)
 ·cases h;exact .inl (lh3 Try.func162 F162_ok)
 ·cases h;exact .inl (lh3 Try.func163 F163_ok)
 ·cases h;exact .inl (lh3 Try.func164 F164_ok)
 ·cases h;exact .inl (lh3 Try.func165 F165_ok)
 ·cases h;exact .inl (lh3 Try.func166 F166_ok)
 ·cases h;exact .inl (lh3 Try.func167 F167_ok)
 ·cases h;exact .inl (lh3 Try.func168 F168_ok)
 ·cases h;exact .inl (lh3 Try.func169 F169_ok)
 ·cases h;exact .inl (lh3 Try.func170 F170_ok)
 ·cases h;exact .inr (tr1 rfl)
 ·cases h;exact .inl (lh3 Try.func172 F172_ok)
 ·cases h;exact .inl (lh3 Try.func173 F173_ok)
 ·cases h;exact .inl (lh3 Try.func174 F174_ok)
 ·cases h;exact .inl (lh3 Try.func175 F175_ok)
 ·cases h;exact .inl (lh3 Try.func201 F201_ok)
 ·cases h;exact .inl (lh3 Try.func202 F202_ok)
 ·cases h;exact .inl (lh3 Try.func203 F203_ok)
 ·cases h;exact .inl (lh3 Try.func204 F204_ok)
 ·cases h;exact .inl (lh3 Try.func205 F205_ok)
 ·cases h;exact .inl (lh3 Try.func208 F208_ok)
 ·cases h;exact .inl (lh3 Try.func209 F209_ok)
 ·cases h;exact .inl (lh3 Try.func210 F210_ok)
 ·cases h;exact .inl (lh3 Try.func225 F225_ok)
 ·cases h;exact .inl (lh3 Try.func234 F234_ok)
 ·cases h
theorem mixed:Try.prog.follows .mixedOrders=true:=by kernel_rfl
end Go.Proofs.Ytodbgomfeacdhaa
