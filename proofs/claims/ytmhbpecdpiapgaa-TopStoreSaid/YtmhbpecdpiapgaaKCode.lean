/-
  Functions of this seat as the small machine's code, written by a program of my own (gen.py); each is checked to be what the model's function is turned into. No condition.
-/
import Derived.Test.YtmhbpecdpiapgaaK4
import Derived.Test.YtmhbpecdpiapgaaKCode0
import Derived.Test.YtmhbpecdpiapgaaKCode1
set_option linter.unusedVariables false
set_option linter.unusedSimpArgs false
set_option linter.unusedSectionVars false
set_option maxRecDepth 100000
namespace Go.Proofs.Ytmhbpecdpiapgaa
open Go.Am
def T:Tab
 |3=>some F3
 |12=>some F12
 |13=>some F13
 |14=>some F14
 |15=>some F15
 |16=>some F16
 |17=>some F17
 |18=>some F18
 |19=>some F19
 |20=>some F20
 |21=>some F21
 |47=>some F47
 |76=>some F76
 |77=>some F77
 |78=>some F78
 |79=>some F79
 |80=>some F80
 |81=>some F81
 |82=>some F82
 |83=>some F83
 |84=>some F84
 |85=>some F85
 |86=>some F86
 |87=>some F87
 |113=>some F113
 |115=>some F115
 |119=>some F119
 |129=>some F129
 |158=>some FDo
 |159=>some F159
 |160=>some F160
 |161=>some F161
 |162=>some F162
 |163=>some F163
 |164=>some F164
 |165=>some F165
 |166=>some F166
 |167=>some F167
 |168=>some F168
 |169=>some F169
 |170=>some F170
 |185=>some F185
 |186=>some F186
 |198=>some F198
 |199=>some F199
 |204=>some F204
 |205=>some F205
 |206=>some F206
 |207=>some F207
 |208=>some F208
 |231=>some F231
 |233=>some F233
 |244=>some F244
 |_=>none
theorem T3:T 3=some F3:=rfl
theorem T12:T 12=some F12:=rfl
theorem T13:T 13=some F13:=rfl
theorem T14:T 14=some F14:=rfl
theorem T15:T 15=some F15:=rfl
theorem T16:T 16=some F16:=rfl
theorem T17:T 17=some F17:=rfl
theorem T18:T 18=some F18:=rfl
theorem T19:T 19=some F19:=rfl
theorem T20:T 20=some F20:=rfl
theorem T21:T 21=some F21:=rfl
theorem T47:T 47=some F47:=rfl
theorem T76:T 76=some F76:=rfl
theorem T77:T 77=some F77:=rfl
theorem T78:T 78=some F78:=rfl
theorem T79:T 79=some F79:=rfl
theorem T80:T 80=some F80:=rfl
theorem T81:T 81=some F81:=rfl
theorem T82:T 82=some F82:=rfl
theorem T83:T 83=some F83:=rfl
theorem T84:T 84=some F84:=rfl
theorem T85:T 85=some F85:=rfl
theorem T86:T 86=some F86:=rfl
theorem T87:T 87=some F87:=rfl
theorem T113:T 113=some F113:=rfl
theorem T115:T 115=some F115:=rfl
theorem T119:T 119=some F119:=rfl
theorem T129:T 129=some F129:=rfl
theorem T159:T 159=some F159:=rfl
theorem T160:T 160=some F160:=rfl
theorem T161:T 161=some F161:=rfl
theorem T162:T 162=some F162:=rfl
theorem T163:T 163=some F163:=rfl
theorem T164:T 164=some F164:=rfl
theorem T165:T 165=some F165:=rfl
theorem T166:T 166=some F166:=rfl
theorem T167:T 167=some F167:=rfl
theorem T168:T 168=some F168:=rfl
theorem T169:T 169=some F169:=rfl
theorem T170:T 170=some F170:=rfl
theorem T185:T 185=some F185:=rfl
theorem T186:T 186=some F186:=rfl
theorem T198:T 198=some F198:=rfl
theorem T199:T 199=some F199:=rfl
theorem T204:T 204=some F204:=rfl
theorem T205:T 205=some F205:=rfl
theorem T206:T 206=some F206:=rfl
theorem T207:T 207=some F207:=rfl
theorem T208:T 208=some F208:=rfl
theorem T231:T 231=some F231:=rfl
theorem T233:T 233=some F233:=rfl
theorem T244:T 244=some F244:=rfl
theorem T158:T 158=some FDo:=rfl
theorem b41:xp2 Try.prog T:=by
 intro f F h
 unfold T at h
 split at h
 ·cases h;exact .inl (lh3 Try.func3 F3_ok)
 ·cases h;exact .inl (lh3 Try.func12 F12_ok)
 ·cases h;exact .inl (lh3 Try.func13 F13_ok)
 ·cases h;exact .inl (lh3 Try.func14 F14_ok)
 ·cases h;exact .inl (lh3 Try.func15 F15_ok)
 ·cases h;exact .inl (lh3 Try.func16 F16_ok)
 ·cases h;exact .inl (lh3 Try.func17 F17_ok)
 ·cases h;exact .inl (lh3 Try.func18 F18_ok)
 ·cases h;exact .inl (lh3 Try.func19 F19_ok)
 ·cases h;exact .inl (lh3 Try.func20 F20_ok)
 ·cases h;exact .inl (lh3 Try.func21 F21_ok)
 ·cases h;exact .inl (lh3 Try.func47 F47_ok)
 ·cases h;exact .inl (lh3 Try.func76 F76_ok)
 ·cases h;exact .inl (lh3 Try.func77 F77_ok)
 ·cases h;exact .inl (lh3 Try.func78 F78_ok)
 ·cases h;exact .inl (lh3 Try.func79 F79_ok)
 ·cases h;exact .inl (lh3 Try.func80 F80_ok)
 ·cases h;exact .inl (lh3 Try.func81 F81_ok)
 ·cases h;exact .inl (lh3 Try.func82 F82_ok)
 ·cases h;exact .inl (lh3 Try.func83 F83_ok)
 ·cases h;exact .inl (lh3 Try.func84 F84_ok)
 ·cases h;exact .inl (lh3 Try.func85 F85_ok)
 ·cases h;exact .inl (lh3 Try.func86 F86_ok)
 ·cases h;exact .inl (lh3 Try.func87 F87_ok)
 ·cases h;exact .inl (lh3 Try.func113 F113_ok)
 ·cases h;exact .inl (lh3 Try.func115 F115_ok)
 ·cases h;exact .inl (lh3 Try.func119 F119_ok)
 ·cases h;exact .inl (lh3 Try.func129 F129_ok)
 ·cases h;exact .inr (tr1 rfl)
 ·cases h;exact .inl (lh3 Try.func159 F159_ok)
 ·cases h;exact .inl (lh3 Try.func160 F160_ok)
 ·cases h;exact .inl (lh3 Try.func161 F161_ok)
 ·cases h;exact .inl (lh3 Try.func162 F162_ok)
 ·cases h;exact .inl (lh3 Try.func163 F163_ok)
 ·cases h;exact .inl (lh3 Try.func164 F164_ok)
 ·cases h;exact .inl (lh3 Try.func165 F165_ok)
 ·cases h;exact .inl (lh3 Try.func166 F166_ok)
 ·cases h;exact .inl (lh3 Try.func167 F167_ok)
 ·cases h;exact .inl (lh3 Try.func168 F168_ok)
 ·cases h;exact .inl (lh3 Try.func169 F169_ok)
 ·cases h;exact .inl (lh3 Try.func170 F170_ok)
 ·cases h;exact .inl (lh3 Try.func185 F185_ok)
 ·cases h;exact .inl (lh3 Try.func186 F186_ok)
 ·cases h;exact .inl (lh3 Try.func198 F198_ok)
 ·cases h;exact .inl (lh3 Try.func199 F199_ok)
 ·cases h;exact .inl (lh3 Try.func204 F204_ok)
 ·cases h;exact .inl (lh3 Try.func205 F205_ok)
 ·cases h;exact .inl (lh3 Try.func206 F206_ok)
 ·cases h;exact .inl (lh3 Try.func207 F207_ok)
 ·cases h;exact .inl (lh3 Try.func208 F208_ok)
 ·cases h;exact .inl (lh3 Try.func231 F231_ok)
 ·cases h;exact .inl (lh3 Try.func233 F233_ok)
 ·cases h;exact .inl (lh3 Try.func244 F244_ok)
 ·cases h
theorem mixed:Try.prog.follows .mixedOrders=true:=by kernel_rfl
end Go.Proofs.Ytmhbpecdpiapgaa
