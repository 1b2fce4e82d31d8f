/-
  Functions of this seat as the small machine's code, written by a program of my own (gen.py); each is checked to be what the model's function is turned into. No condition.
-/
import Derived.Test.YtodbgomfeacdhaaKCode0
import Derived.Test.YtodbgomfeacdhaaKCode1
set_option linter.unusedVariables false
set_option linter.unusedSimpArgs false
set_option linter.unusedSectionVars false
set_option maxRecDepth 100000
namespace Go.Proofs.Ytodbgomfeacdhaa
open Go.Am
def T:Tab
 |9=>some F9
 |10=>some F10
 |11=>some F11
 |22=>some F22
 |28=>some F28
 |45=>some F45
 |46=>some F46
 |47=>some F47
 |48=>some F48
 |49=>some F49
 |50=>some F50
 |51=>some F51
 |52=>some F52
 |53=>some F53
 |54=>some F54
 |55=>some F55
 |56=>some F56
 |57=>some F57
 |58=>some F58
 |59=>some F59
 |60=>some F60
 |92=>some F92
 |95=>some F95
 |103=>some F103
 |104=>some F104
 |105=>some F105
 |106=>some F106
 |107=>some F107
 |108=>some F108
 |109=>some F109
 |110=>some F110
 |111=>some F111
 |141=>some F141
 |143=>some F143
 |145=>some F145
 |146=>some F146
 |147=>some F147
 |187=>some F187
 |188=>some F188
 |189=>some F189
 |190=>some F190
 |191=>some F191
 |192=>some F192
 |193=>some F193
 |194=>some F194
 |195=>some F195
 |196=>some F196
 |197=>some F197
 |198=>some F198
 |199=>some F199
 |213=>some F213
 |214=>some F214
 |217=>some F217
 |218=>some F218
 |219=>some F219
 |220=>some F220
 |228=>some F228
 |229=>some F229
 |_=>none
theorem T9:T 9=some F9:=rfl
theorem T10:T 10=some F10:=rfl
theorem T11:T 11=some F11:=rfl
theorem T22:T 22=some F22:=rfl
theorem T28:T 28=some F28:=rfl
theorem T45:T 45=some F45:=rfl
theorem T46:T 46=some F46:=rfl
theorem T47:T 47=some F47:=rfl
theorem T48:T 48=some F48:=rfl
theorem T49:T 49=some F49:=rfl
theorem T50:T 50=some F50:=rfl
theorem T51:T 51=some F51:=rfl
theorem T52:T 52=some F52:=rfl
theorem T53:T 53=some F53:=rfl
theorem T54:T 54=some F54:=rfl
theorem T55:T 55=some F55:=rfl
theorem T56:T 56=some F56:=rfl
theorem T57:T 57=some F57:=rfl
theorem T58:T 58=some F58:=rfl
theorem T59:T 59=some F59:=rfl
theorem T60:T 60=some F60:=rfl
theorem T92:T 92=some F92:=rfl
theorem T95:T 95=some F95:=rfl
theorem T103:T 103=some F103:=rfl
theorem T104:T 104=some F104:=rfl
theorem T105:T 105=some F105:=rfl
theorem T106:T 106=some F106:=rfl
theorem T107:T 107=some F107:=rfl
theorem T108:T 108=some F108:=rfl
theorem T109:T 109=some F109:=rfl
theorem T110:T 110=some F110:=rfl
theorem T111:T 111=some F111:=rfl
theorem T141:T 141=some F141:=rfl
theorem T143:T 143=some F143:=rfl
theorem T145:T 145=some F145:=rfl
theorem T146:T 146=some F146:=rfl
theorem T147:T 147=some F147:=rfl
theorem T187:T 187=some F187:=rfl
theorem T188:T 188=some F188:=rfl
theorem T189:T 189=some F189:=rfl
theorem T190:T 190=some F190:=rfl
theorem T191:T 191=some F191:=rfl
theorem T192:T 192=some F192:=rfl
theorem T193:T 193=some F193:=rfl
theorem T194:T 194=some F194:=rfl
theorem T195:T 195=some F195:=rfl
theorem T196:T 196=some F196:=rfl
theorem T197:T 197=some F197:=rfl
theorem T198:T 198=some F198:=rfl
theorem T199:T 199=some F199:=rfl
theorem T213:T 213=some F213:=rfl
theorem T214:T 214=some F214:=rfl
theorem T217:T 217=some F217:=rfl
theorem T218:T 218=some F218:=rfl
theorem T219:T 219=some F219:=rfl
theorem T220:T 220=some F220:=rfl
theorem T228:T 228=some F228:=rfl
theorem T229:T 229=some F229:=rfl
theorem b41:xp2 Try.prog T:=by
 intro f F h
 unfold T at h
 split at h
 ·cases h;exact .inl (lh3 Try.func9 F9_ok)
 ·cases h;exact .inl (lh3 Try.func10 F10_ok)
 ·cases h;exact .inl (lh3 Try.func11 F11_ok)
 ·cases h;exact .inl (lh3 Try.func22 F22_ok)
 ·cases h;exact .inl (lh3 Try.func28 F28_ok)
 ·cases h;exact .inl (lh3 Try.func45 F45_ok)
 ·cases h;exact .inl (lh3 Try.func46 F46_ok)
 ·cases h;exact .inl (lh3 Try.func47 F47_ok)
 ·cases h;exact .inl (lh3 Try.func48 F48_ok)
 ·cases h;exact .inl (lh3 Try.func49 F49_ok)
 ·cases h;exact .inl (lh3 Try.func50 F50_ok)
 ·cases h;exact .inl (lh3 Try.func51 F51_ok)
 ·cases h;exact .inl (lh3 Try.func52 F52_ok)
 ·cases h;exact .inl (lh3 Try.func53 F53_ok)
 ·cases h;exact .inl (lh3 Try.func54 F54_ok)
 ·cases h;exact .inl (lh3 Try.func55 F55_ok)
 ·cases h;exact .inl (lh3 Try.func56 F56_ok)
 ·cases h;exact .inl (lh3 Try.func57 F57_ok)
 ·cases h;exact .inl (lh3 Try.func58 F58_ok)
 ·cases h;exact .inl (lh3 Try.func59 F59_ok)
 ·cases h;exact .inl (lh3 Try.func60 F60_ok)
 ·cases h;exact .inl (lh3 Try.func92 F92_ok)
 ·cases h;exact .inl (lh3 Try.func95 F95_ok)
 ·cases h;exact .inl (lh3 Try.func103 F103_ok)
 ·cases h;exact .inl (lh3 Try.func104 F104_ok)
 ·cases h;exact .inl (lh3 Try.func105 F105_ok)
 ·cases h;exact .inl (lh3 Try.func106 F106_ok)
 ·cases h;exact .inl (lh3 Try.func107 F107_ok)
 ·cases h;exact .inl (lh3 Try.func108 F108_ok)
 ·cases h;exact .inl (lh3 Try.func109 F109_ok)
 ·cases h;exact .inl (lh3 Try.func110 F110_ok)
 ·cases h;exact .inl (lh3 Try.func111 F111_ok)
 ·cases h;exact .inl (lh3 Try.func141 F141_ok)
 ·cases h;exact .inl (lh3 Try.func143 F143_ok)
 ·cases h;exact .inl (lh3 Try.func145 F145_ok)
 ·cases h;exact .inl (lh3 Try.func146 F146_ok)
 ·cases h;exact .inl (lh3 Try.func147 F147_ok)
 ·cases h;exact .inl (lh3 Try.func187 F187_ok)
 ·cases h;exact .inl (lh3 Try.func188 F188_ok)
 ·cases h;exact .inl (lh3 Try.func189 F189_ok)
 ·cases h;exact .inl (lh3 Try.func190 F190_ok)
 ·cases h;exact .inl (lh3 Try.func191 F191_ok)
 ·cases h;exact .inl (lh3 Try.func192 F192_ok)
 ·cases h;exact .inl (lh3 Try.func193 F193_ok)
 ·cases h;exact .inl (lh3 Try.func194 F194_ok)
 ·cases h;exact .inl (lh3 Try.func195 F195_ok)
 ·cases h;exact .inl (lh3 Try.func196 F196_ok)
 ·cases h;exact .inl (lh3 Try.func197 F197_ok)
 ·cases h;exact .inl (lh3 Try.func198 F198_ok)
 ·cases h;exact .inl (lh3 Try.func199 F199_ok)
 ·cases h;exact .inl (lh3 Try.func213 F213_ok)
 ·cases h;exact .inl (lh3 Try.func214 F214_ok)
 ·cases h;exact .inl (lh3 Try.func217 F217_ok)
 ·cases h;exact .inl (lh3 Try.func218 F218_ok)
 ·cases h;exact .inl (lh3 Try.func219 F219_ok)
 ·cases h;exact .inl (lh3 Try.func220 F220_ok)
 ·cases h;exact .inl (lh3 Try.func228 F228_ok)
 ·cases h;exact .inl (lh3 Try.func229 F229_ok)
 ·cases h
theorem mixed:Try.prog.follows .mixedOrders=true:=by kernel_rfl
end Go.Proofs.Ytodbgomfeacdhaa
