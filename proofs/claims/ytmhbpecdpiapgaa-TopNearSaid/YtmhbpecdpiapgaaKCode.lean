/-
  Functions of this seat as the small machine's code, written by a program of my own (gen.py); each is checked to be what the model's function is turned into. No condition.
-/
import Derived.Test.YtmhbpecdpiapgaaK4
import Derived.Test.YtmhbpecdpiapgaaKCode0
import Derived.Test.YtmhbpecdpiapgaaKCode1
set_option linter.unusedVariables false
set_option linter.unusedSimpArgs false
set_option linter.unusedSectionVars false
set_option maxRecDepth 100000
namespace Go.Proofs.Ytmhbpecdpiapgaa
open Go.Am
def T:Tab
 |7=>some F7
 |12=>some F12
 |14=>some F14
 |17=>some F17
 |19=>some F19
 |47=>some F47
 |50=>some F50
 |51=>some F51
 |52=>some F52
 |53=>some F53
 |54=>some F54
 |55=>some F55
 |76=>some F76
 |83=>some F83
 |85=>some F85
 |86=>some F86
 |112=>some F112
 |113=>some F113
 |115=>some F115
 |119=>some F119
 |123=>some F123
 |124=>some F124
 |125=>some F125
 |126=>some F126
 |127=>some F127
 |128=>some F128
 |129=>some F129
 |130=>some F130
 |131=>some F131
 |151=>some F151
 |158=>some FDo
 |159=>some F159
 |160=>some F160
 |162=>some F162
 |163=>some F163
 |165=>some F165
 |166=>some F166
 |168=>some F168
 |185=>some F185
 |186=>some F186
 |188=>some F188
 |189=>some F189
 |190=>some F190
 |191=>some F191
 |196=>some F196
 |197=>some F197
 |198=>some F198
 |199=>some F199
 |204=>some F204
 |205=>some F205
 |206=>some F206
 |207=>some F207
 |213=>some F213
 |231=>some F231
 |233=>some F233
 |244=>some F244
 |_=>none
theorem T7:T 7=some F7:=rfl
theorem T12:T 12=some F12:=rfl
theorem T14:T 14=some F14:=rfl
theorem T17:T 17=some F17:=rfl
theorem T19:T 19=some F19:=rfl
theorem T47:T 47=some F47:=rfl
theorem T50:T 50=some F50:=rfl
theorem T51:T 51=some F51:=rfl
theorem T52:T 52=some F52:=rfl
theorem T53:T 53=some F53:=rfl
theorem T54:T 54=some F54:=rfl
theorem T55:T 55=some F55:=rfl
theorem T76:T 76=some F76:=rfl
theorem T83:T 83=some F83:=rfl
theorem T85:T 85=some F85:=rfl
theorem T86:T 86=some F86:=rfl
theorem T112:T 112=some F112:=rfl
theorem T113:T 113=some F113:=rfl
theorem T115:T 115=some F115:=rfl
theorem T119:T 119=some F119:=rfl
theorem T123:T 123=some F123:=rfl
theorem T124:T 124=some F124:=rfl
theorem T125:T 125=some F125:=rfl
theorem T126:T 126=some F126:=rfl
theorem T127:T 127=some F127:=rfl
theorem T128:T 128=some F128:=rfl
theorem T129:T 129=some F129:=rfl
theorem T130:T 130=some F130:=rfl
theorem T131:T 131=some F131:=rfl
theorem T151:T 151=some F151:=rfl
theorem T159:T 159=some F159:=rfl
theorem T160:T 160=some F160:=rfl
theorem T162:T 162=some F162:=rfl
theorem T163:T 163=some F163:=rfl
theorem T165:T 165=some F165:=rfl
theorem T166:T 166=some F166:=rfl
theorem T168:T 168=some F168:=rfl
theorem T185:T 185=some F185:=rfl
theorem T186:T 186=some F186:=rfl
theorem T188:T 188=some F188:=rfl
theorem T189:T 189=some F189:=rfl
theorem T190:T 190=some F190:=rfl
theorem T191:T 191=some F191:=rfl
theorem T196:T 196=some F196:=rfl
theorem T197:T 197=some F197:=rfl
theorem T198:T 198=some F198:=rfl
theorem T199:T 199=some F199:=rfl
theorem T204:T 204=some F204:=rfl
theorem T205:T 205=some F205:=rfl
theorem T206:T 206=some F206:=rfl
theorem T207:T 207=some F207:=rfl
theorem T213:T 213=some F213:=rfl
theorem T231:T 231=some F231:=rfl
theorem T233:T 233=some F233:=rfl
theorem T244:T 244=some F244:=rfl
theorem T158:T 158=some FDo:=rfl
theorem b41:xp2 Try.prog T:=by
 intro f F h
 unfold T at h
 split at h
 ·cases h;exact .inl (lh3 Try.func7 F7_ok)
 ·cases h;exact .inl (lh3 Try.func12 F12_ok)
 ·cases h;exact .inl (lh3 Try.func14 F14_ok)
 ·cases h;exact .inl (lh3 Try.func17 F17_ok)
 ·cases h;exact .inl (lh3 Try.func19 F19_ok)
 ·cases h;exact .inl (lh3 Try.func47 F47_ok)
 ·cases h;exact .inl (lh3 Try.func50 F50_ok)
 ·cases h;exact .inl (lh3 Try.func51 F51_ok)
 ·cases h;exact .inl (lh3 Try.func52 F52_ok)
 ·cases h;exact .inl (lh3 Try.func53 F53_ok)
 ·cases h;exact .inl (lh3 Try.func54 F54_ok)
 ·cases h;exact .inl (lh3 Try.func55 F55_ok)
 ·cases h;exact .inl (lh3 Try.func76 F76_ok)
 ·cases h;exact .inl (lh3 Try.func83 F83_ok)
 ·cases h;exact .inl (lh3 Try.func85 F85_ok)
 ·cases h;exact .inl (lh3 Try.func86 F86_ok)
 ·cases h;exact .inl (lh3 Try.func112 F112_ok)
 ·cases h;exact .inl (lh3 Try.func113 F113_ok)
 ·cases h;exact .inl (lh3 Try.func115 F115_ok)
 ·cases h;exact .inl (lh3 Try.func119 F119_ok)
 ·cases h;exact .inl (lh3 Try.func123 F123_ok)
 ·cases h;exact .inl (lh3 Try.func124 F124_ok)
 ·cases h;exact .inl (lh3 Try.func125 F125_ok)
 ·cases h;exact .inl (lh3 Try.func126 F126_ok)
 ·cases h;exact .inl (lh3 Try.func127 F127_ok)
 ·cases h;exact .inl (lh3 Try.func128 F128_ok)
 ·cases h;exact .inl (lh3 Try.func129 F129_ok)
 ·cases h;exact .inl (lh3 Try.func130 F130_ok)
 ·cases h;exact .inl (lh3 Try.func131 F131_ok)
 ·cases h;exact .inl (lh3 Try.func151 F151_ok)
 ·cases h;exact .inr (tr1 rfl)
 ·cases h;exact .inl (lh3 Try.func159 F159_ok)
 ·cases h;exact .inl (lh3 Try.func160 F160_ok)
 ·cases h;exact .inl (lh3 Try.func162 F162_ok)
 ·cases h;exact .inl (lh3 Try.func163 F163_ok)
 ·cases h;exact .inl (lh3 Try.func165 F165_ok)
 ·cases h;exact .inl (lh3 Try.func166 F166_ok)
 ·cases h;exact .inl (lh3 Try.func168 F168_ok)
 ·cases h;exact .inl (lh3 Try.func185 F185_ok)
 ·cases h;exact .inl (lh3 Try.func186 F186_ok)
 ·cases h;exact .inl (lh3 Try.func188 F188_ok)
 ·cases h;exact .inl (lh3 Try.func189 F189_ok)
 ·cases h;exact .inl (lh3 Try.func190 F190_ok)
 ·cases h;exact .inl (lh3 Try.func191 F191_ok)
 ·cases h;exact .inl (lh3 Try.func196 F196_ok)
 ·cases h;exact .inl (lh3 Try.func197 F197_ok)
 ·cases h;exact .inl (lh3 Try.func198 F198_ok)
 ·cases h;exact .inl (lh3 Try.func199 F199_ok)
 ·cases h;exact .inl (lh3 Try.func204 F204_ok)
 ·cases h;exact .inl (lh3 Try.func205 F205_ok)
 ·cases h;exact .inl (lh3 Try.func206 F206_ok)
 ·cases h;exact .inl (lh3 Try.func207 F207_ok)
 ·cases h;exact .inl (lh3 Try.func213 F213_ok)
 ·cases h;exact .inl (lh3 Try.func231 F231_ok)
 ·cases h;exact .inl (lh3 Try.func233 F233_ok)
 ·cases h;exact .inl (lh3 Try.func244 F244_ok)
 ·cases h
theorem mixed:Try.prog.follows .mixedOrders=true:=by kernel_rfl
end Go.Proofs.Ytmhbpecdpiapgaa
