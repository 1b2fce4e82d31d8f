/-
  Functions of this seat as the small machine's code, written by a program of my own (gen.py); each is checked to be what the model's function is turned into. No condition.
-/
import Derived.Test.YtmhbpecdpiapgaaK4
import Derived.Test.YtmhbpecdpiapgaaKCode0
import Derived.Test.YtmhbpecdpiapgaaKCode1
set_option linter.unusedVariables false
set_option linter.unusedSimpArgs false
set_option linter.unusedSectionVars false
set_option maxRecDepth 100000
namespace Go.Proofs.Ytmhbpecdpiapgaa
open Go.Am
def T:Tab
 |5=>some F5
 |19=>some F19
 |27=>some F27
 |28=>some F28
 |33=>some F33
 |34=>some F34
 |35=>some F35
 |36=>some F36
 |37=>some F37
 |38=>some F38
 |39=>some F39
 |76=>some F76
 |95=>some F95
 |96=>some F96
 |99=>some F99
 |100=>some F100
 |101=>some F101
 |102=>some F102
 |103=>some F103
 |104=>some F104
 |105=>some F105
 |106=>some F106
 |107=>some F107
 |108=>some F108
 |109=>some F109
 |110=>some F110
 |158=>some FDo
 |159=>some F159
 |160=>some F160
 |175=>some F175
 |176=>some F176
 |177=>some F177
 |179=>some F179
 |180=>some F180
 |181=>some F181
 |182=>some F182
 |183=>some F183
 |204=>some F204
 |205=>some F205
 |206=>some F206
 |211=>some F211
 |231=>some F231
 |233=>some F233
 |244=>some F244
 |_=>none
theorem T5:T 5=some F5:=rfl
theorem T19:T 19=some F19:=rfl
theorem T27:T 27=some F27:=rfl
theorem T28:T 28=some F28:=rfl
theorem T33:T 33=some F33:=rfl
theorem T34:T 34=some F34:=rfl
theorem T35:T 35=some F35:=rfl
theorem T36:T 36=some F36:=rfl
theorem T37:T 37=some F37:=rfl
theorem T38:T 38=some F38:=rfl
theorem T39:T 39=some F39:=rfl
theorem T76:T 76=some F76:=rfl
theorem T95:T 95=some F95:=rfl
theorem T96:T 96=some F96:=rfl
theorem T99:T 99=some F99:=rfl
theorem T100:T 100=some F100:=rfl
theorem T101:T 101=some F101:=rfl
theorem T102:T 102=some F102:=rfl
theorem T103:T 103=some F103:=rfl
theorem T104:T 104=some F104:=rfl
theorem T105:T 105=some F105:=rfl
theorem T106:T 106=some F106:=rfl
theorem T107:T 107=some F107:=rfl
theorem T108:T 108=some F108:=rfl
theorem T109:T 109=some F109:=rfl
theorem T110:T 110=some F110:=rfl
theorem T159:T 159=some F159:=rfl
theorem T160:T 160=some F160:=rfl
theorem T175:T 175=some F175:=rfl
theorem T176:T 176=some F176:=rfl
theorem T177:T 177=some F177:=rfl
theorem T179:T 179=some F179:=rfl
theorem T180:T 180=some F180:=rfl
theorem T181:T 181=some F181:=rfl
theorem T182:T 182=some F182:=rfl
theorem T183:T 183=some F183:=rfl
theorem T204:T 204=some F204:=rfl
theorem T205:T 205=some F205:=rfl
theorem T206:T 206=some F206:=rfl
theorem T211:T 211=some F211:=rfl
theorem T231:T 231=some F231:=rfl
theorem T233:T 233=some F233:=rfl
theorem T244:T 244=some F244:=rfl
theorem T158:T 158=some FDo:=rfl
theorem b41:xp2 Try.prog T:=by
 intro f F h
 unfold T at h
 split at h
 ·cases h;exact .inl (lh3 Try.func5 F5_ok)
 ·cases h;exact .inl (lh3 Try.func19 F19_ok)
 ·cases h;exact .inl (lh3 Try.func27 F27_ok)
 ·cases h;exact .inl (lh3 Try.func28 F28_ok)
 ·cases h;exact .inl (lh3 Try.func33 F33_ok)
 ·cases h;exact .inl (lh3 Try.func34 F34_ok)
 ·cases h;exact .inl (lh3 Try.func35 F35_ok)
 ·cases h;exact .inl (lh3 Try.func36 F36_ok)
 ·cases h;exact .inl (lh3 Try.func37 F37_ok)
 ·cases h;exact .inl (lh3 Try.func38 F38_ok)
 ·cases h;exact .inl (lh3 Try.func39 F39_ok)
 ·cases h;exact .inl (lh3 Try.func76 F76_ok)
 ·cases h;exact .inl (lh3 Try.func95 F95_ok)
 ·cases h;exact .inl (lh3 Try.func96 F96_ok)
 ·cases h;exact .inl (lh3 Try.func99 F99_ok)
 ·cases h;exact .inl (lh3 Try.func100 F100_ok)
 ·cases h;exact .inl (lh3 Try.func101 F101_ok)
 ·cases h;exact .inl (lh3 Try.func102 F102_ok)
 ·cases h;exact .inl (lh3 Try.func103 F103_ok)
 ·cases h;exact .inl (lh3 Try.func104 F104_ok)
 ·cases h;exact .inl (lh3 Try.func105 F105_ok)
 ·cases h;exact .inl (lh3 Try.func106 F106_ok)
 ·cases h;exact .inl (lh3 Try.func107 F107_ok)
 ·cases h;exact .inl (lh3 Try.func108 F108_ok)
 ·cases h;exact .inl (lh3 Try.func109 F109_ok)
 ·cases h;exact .inl (lh3 Try.func110 F110_ok)
 ·cases h;exact .inr (tr1 rfl)
 ·cases h;exact .inl (lh3 Try.func159 F159_ok)
 ·cases h;exact .inl (lh3 Try.func160 F160_ok)
 ·cases h;exact .inl (lh3 Try.func175 F175_ok)
 ·cases h;exact .inl (lh3 Try.func176 F176_ok)
 ·cases h;exact .inl (lh3 Try.func177 F177_ok)
 ·cases h;exact .inl (lh3 Try.func179 F179_ok)
 ·cases h;exact .inl (lh3 Try.func180 F180_ok)
 ·cases h;exact .inl (lh3 Try.func181 F181_ok)
 ·cases h;exact .inl (lh3 Try.func182 F182_ok)
 ·cases h;exact .inl (lh3 Try.func183 F183_ok)
 ·cases h;exact .inl (lh3 Try.func204 F204_ok)
 ·cases h;exact .inl (lh3 Try.func205 F205_ok)
 ·cases h;exact .inl (lh3 Try.func206 F206_ok)
 ·cases h;exact .inl (lh3 Try.func211 F211_ok)
 ·cases h;exact .inl (lh3 Try.func231 F231_ok)
 ·cases h;exact .inl (lh3 Try.func233 F233_ok)
 ·cases h;exact .inl (lh3 Try.func244 F244_ok)
 ·cases h
theorem mixed:Try.prog.follows .mixedOrders=true:=by kernel_rfl
end Go.Proofs.Ytmhbpecdpiapgaa
