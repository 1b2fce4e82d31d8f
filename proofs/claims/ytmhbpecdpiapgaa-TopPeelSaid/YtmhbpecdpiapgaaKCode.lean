/-
  Functions of this seat as the small machine's code, written by a program of my own (gen.py); each is checked to be what the model's function is turned into. No condition.
-/
import Derived.Test.YtmhbpecdpiapgaaK2
import Derived.Test.YtmhbpecdpiapgaaKCode0
import Derived.Test.YtmhbpecdpiapgaaKCode1
set_option linter.unusedVariables false
set_option linter.unusedSimpArgs false
set_option linter.unusedSectionVars false
set_option maxRecDepth 100000
namespace Go.Proofs.Ytmhbpecdpiapgaa
open Go.Am
def T:Tab
 |6=>some F6
 |12=>some F12
 |19=>some F19
 |40=>some F40
 |41=>some F41
 |42=>some F42
 |43=>some F43
 |44=>some F44
 |45=>some F45
 |46=>some F46
 |47=>some F47
 |48=>some F48
 |49=>some F49
 |76=>some F76
 |83=>some F83
 |85=>some F85
 |86=>some F86
 |111=>some F111
 |112=>some F112
 |113=>some F113
 |114=>some F114
 |115=>some F115
 |116=>some F116
 |117=>some F117
 |118=>some F118
 |119=>some F119
 |120=>some F120
 |121=>some F121
 |151=>some F151
 |158=>some FDo
 |159=>some F159
 |160=>some F160
 |162=>some F162
 |163=>some F163
 |165=>some F165
 |166=>some F166
 |168=>some F168
 |184=>some F184
 |185=>some F185
 |186=>some F186
 |187=>some F187
 |196=>some F196
 |197=>some F197
 |198=>some F198
 |199=>some F199
 |204=>some F204
 |205=>some F205
 |206=>some F206
 |207=>some F207
 |231=>some F231
 |233=>some F233
 |244=>some F244
 |_=>none
theorem T6:T 6=some F6:=rfl
theorem T12:T 12=some F12:=rfl
theorem T19:T 19=some F19:=rfl
theorem T40:T 40=some F40:=rfl
theorem T41:T 41=some F41:=rfl
theorem T42:T 42=some F42:=rfl
theorem T43:T 43=some F43:=rfl
theorem T44:T 44=some F44:=rfl
theorem T45:T 45=some F45:=rfl
theorem T46:T 46=some F46:=rfl
theorem T47:T 47=some F47:=rfl
theorem T48:T 48=some F48:=rfl
theorem T49:T 49=some F49:=rfl
theorem T76:T 76=some F76:=rfl
theorem T83:T 83=some F83:=rfl
theorem T85:T 85=some F85:=rfl
theorem T86:T 86=some F86:=rfl
theorem T111:T 111=some F111:=rfl
theorem T112:T 112=some F112:=rfl
theorem T113:T 113=some F113:=rfl
theorem T114:T 114=some F114:=rfl
theorem T115:T 115=some F115:=rfl
theorem T116:T 116=some F116:=rfl
theorem T117:T 117=some F117:=rfl
theorem T118:T 118=some F118:=rfl
theorem T119:T 119=some F119:=rfl
theorem T120:T 120=some F120:=rfl
theorem T121:T 121=some F121:=rfl
theorem T151:T 151=some F151:=rfl
theorem T159:T 159=some F159:=rfl
theorem T160:T 160=some F160:=rfl
theorem T162:T 162=some F162:=rfl
theorem T163:T 163=some F163:=rfl
theorem T165:T 165=some F165:=rfl
theorem T166:T 166=some F166:=rfl
theorem T168:T 168=some F168:=rfl
theorem T184:T 184=some F184:=rfl
theorem T185:T 185=some F185:=rfl
theorem T186:T 186=some F186:=rfl
theorem T187:T 187=some F187:=rfl
theorem T196:T 196=some F196:=rfl
theorem T197:T 197=some F197:=rfl
theorem T198:T 198=some F198:=rfl
theorem T199:T 199=some F199:=rfl
theorem T204:T 204=some F204:=rfl
theorem T205:T 205=some F205:=rfl
theorem T206:T 206=some F206:=rfl
theorem T207:T 207=some F207:=rfl
theorem T231:T 231=some F231:=rfl
theorem T233:T 233=some F233:=rfl
theorem T244:T 244=some F244:=rfl
theorem T158:T 158=some FDo:=rfl
theorem b41:xp2 Try.prog T:=by
 intro f F h
 unfold T at h
 split at h
 ·cases h;exact .inl (lh3 Try.func6 F6_ok)
 ·cases h;exact .inl (lh3 Try.func12 F12_ok)
 ·cases h;exact .inl (lh3 Try.func19 F19_ok)
 ·cases h;exact .inl (lh3 Try.func40 F40_ok)
 ·cases h;exact .inl (lh3 Try.func41 F41_ok)
 ·cases h;exact .inl (lh3 Try.func42 F42_ok)
 ·cases h;exact .inl (lh3 Try.func43 F43_ok)
 ·cases h;exact .inl (lh3 Try.func44 F44_ok)
 ·cases h;exact .inl (lh3 Try.func45 F45_ok)
 ·cases h;exact .inl (lh3 Try.func46 F46_ok)
 ·cases h;exact .inl (lh3 Try.func47 F47_ok)
 ·cases h;exact .inl (lh3 Try.func48 F48_ok)
 ·cases h;exact .inl (lh3 Try.func49 F49_ok)
 ·cases h;exact .inl (lh3 Try.func76 F76_ok)
 ·cases h;exact .inl (lh3 Try.func83 F83_ok)
 ·cases h;exact .inl (lh3 Try.func85 F85_ok)
 ·cases h;exact .inl (lh3 Try.func86 F86_ok)
 ·cases h;exact .inl (lh3 Try.func111 F111_ok)
 ·cases h;exact .inl (lh3 Try.func112 F112_ok)
 ·cases h;exact .inl (lh3 Try.func113 F113_ok)
 ·cases h;exact .inl (lh3 Try.func114 F114_ok)
 ·cases h;exact .inl (lh3 Try.func115 F115_ok)
 ·cases h;exact .inl (lh3 Try.func116 F116_ok)
 ·cases h;exact .inl (lh3 Try.func117 F117_ok)
 ·cases h;exact .inl (lh3 Try.func118 F118_ok)
 ·cases h;exact .inl (lh3 Try.func119 F119_ok)
 ·cases h;exact .inl (lh3 Try.func120 F120_ok)
 ·cases h;exact .inl (lh3 Try.func121 F121_ok)
 ·cases h;exact .inl (lh3 Try.func151 F151_ok)
 ·cases h;exact .inr (tr1 rfl)
 ·cases h;exact .inl (lh3 Try.func159 F159_ok)
 ·cases h;exact .inl (lh3 Try.func160 F160_ok)
 ·cases h;exact .inl (lh3 Try.func162 F162_ok)
 ·cases h;exact .inl (lh3 Try.func163 F163_ok)
 ·cases h;exact .inl (lh3 Try.func165 F165_ok)
 ·cases h;exact .inl (lh3 Try.func166 F166_ok)
 ·cases h;exact .inl (lh3 Try.func168 F168_ok)
 ·cases h;exact .inl (lh3 Try.func184 F184_ok)
 ·cases h;exact .inl (lh3 Try.func185 F185_ok)
 ·cases h;exact .inl (lh3 Try.func186 F186_ok)
 ·cases h;exact .inl (lh3 Try.func187 F187_ok)
 ·cases h;exact .inl (lh3 Try.func196 F196_ok)
 ·cases h;exact .inl (lh3 Try.func197 F197_ok)
 ·cases h;exact .inl (lh3 Try.func198 F198_ok)
 ·cases h;exact .inl (lh3 Try.func199 F199_ok)
 ·cases h;exact .inl (lh3 Try.func204 F204_ok)
 ·cases h;exact .inl (lh3 Try.func205 F205_ok)
 ·cases h;exact .inl (lh3 Try.func206 F206_ok)
 ·cases h;exact .inl (lh3 Try.func207 F207_ok)
 ·cases h;exact .inl (lh3 Try.func231 F231_ok)
 ·cases h;exact .inl (lh3 Try.func233 F233_ok)
 ·cases h;exact .inl (lh3 Try.func244 F244_ok)
 ·cases h
theorem mixed:Try.prog.follows .mixedOrders=true:=by kernel_rfl
end Go.Proofs.Ytmhbpecdpiapgaa
