/-
  Functions of this seat as the small machine's code, written by a program of my own (gen.py); each is checked to be what the model's function is turned into. No condition.
-/
import Derived.Test.YtlhmdmedagjmnaaGreatK4
import Derived.Test.YtlhmdmedagjmnaaGreatKCode0
import Derived.Test.YtlhmdmedagjmnaaGreatKCode1
set_option linter.unusedVariables false
set_option linter.unusedSimpArgs false
set_option linter.unusedSectionVars false
set_option maxRecDepth 100000
namespace Go.Proofs.YtlhmdmedagjmnaaGreat
open Go.Am
def T:Tab
 |9=>some F9
 |10=>some F10
 |14=>some F14
 |16=>some F16
 |33=>some F33
 |34=>some F34
 |35=>some F35
 |36=>some F36
 |38=>some F38
 |44=>some F44
 |45=>some F45
 |53=>some F53
 |58=>some F58
 |61=>some F61
 |65=>some F65
 |77=>some F77
 |78=>some F78
 |79=>some F79
 |80=>some F80
 |81=>some F81
 |82=>some F82
 |95=>some F95
 |96=>some F96
 |97=>some F97
 |98=>some F98
 |99=>some F99
 |100=>some F100
 |101=>some F101
 |102=>some F102
 |103=>some F103
 |104=>some F104
 |105=>some F105
 |116=>some F116
 |125=>some F125
 |126=>some F126
 |127=>some F127
 |128=>some F128
 |129=>some F129
 |130=>some F130
 |131=>some F131
 |132=>some F132
 |133=>some F133
 |137=>some F137
 |138=>some F138
 |139=>some F139
 |140=>some F140
 |141=>some F141
 |142=>some F142
 |143=>some F143
 |144=>some F144
 |145=>some F145
 |146=>some F146
 |147=>some F147
 |148=>some F148
 |149=>some FDo
 |150=>some F150
 |151=>some F151
 |152=>some F152
 |156=>some F156
 |157=>some F157
 |160=>some F160
 |166=>some F166
 |167=>some F167
 |168=>some F168
 |169=>some F169
 |171=>some F171
 |180=>some F180
 |185=>some F185
 |186=>some F186
 |187=>some F187
 |188=>some F188
 |189=>some F189
 |192=>some F192
 |193=>some F193
 |194=>some F194
 |196=>some F196
 |209=>some F209
 |215=>some F215
 |_=>none
theorem T9:T 9=some F9:=rfl
theorem T10:T 10=some F10:=rfl
theorem T14:T 14=some F14:=rfl
theorem T16:T 16=some F16:=rfl
theorem T33:T 33=some F33:=rfl
theorem T34:T 34=some F34:=rfl
theorem T35:T 35=some F35:=rfl
theorem T36:T 36=some F36:=rfl
theorem T38:T 38=some F38:=rfl
theorem T44:T 44=some F44:=rfl
theorem T45:T 45=some F45:=rfl
theorem T53:T 53=some F53:=rfl
theorem T58:T 58=some F58:=rfl
theorem T61:T 61=some F61:=rfl
theorem T65:T 65=some F65:=rfl
theorem T77:T 77=some F77:=rfl
theorem T78:T 78=some F78:=rfl
theorem T79:T 79=some F79:=rfl
theorem T80:T 80=some F80:=rfl
theorem T81:T 81=some F81:=rfl
theorem T82:T 82=some F82:=rfl
theorem T95:T 95=some F95:=rfl
theorem T96:T 96=some F96:=rfl
theorem T97:T 97=some F97:=rfl
theorem T98:T 98=some F98:=rfl
theorem T99:T 99=some F99:=rfl
theorem T100:T 100=some F100:=rfl
theorem T101:T 101=some F101:=rfl
theorem T102:T 102=some F102:=rfl
theorem T103:T 103=some F103:=rfl
theorem T104:T 104=some F104:=rfl
theorem T105:T 105=some F105:=rfl
theorem T116:T 116=some F116:=rfl
theorem T125:T 125=some F125:=rfl
theorem T126:T 126=some F126:=rfl
theorem T127:T 127=some F127:=rfl
theorem T128:T 128=some F128:=rfl
theorem T129:T 129=some F129:=rfl
theorem T130:T 130=some F130:=rfl
theorem T131:T 131=some F131:=rfl
theorem T132:T 132=some F132:=rfl
theorem T133:T 133=some F133:=rfl
theorem T137:T 137=some F137:=rfl
theorem T138:T 138=some F138:=rfl
theorem T139:T 139=some F139:=rfl
theorem T140:T 140=some F140:=rfl
theorem T141:T 141=some F141:=rfl
theorem T142:T 142=some F142:=rfl
theorem T143:T 143=some F143:=rfl
theorem T144:T 144=some F144:=rfl
theorem T145:T 145=some F145:=rfl
theorem T146:T 146=some F146:=rfl
theorem T147:T 147=some F147:=rfl
theorem T148:T 148=some F148:=rfl
theorem T150:T 150=some F150:=rfl
theorem T151:T 151=some F151:=rfl
theorem T152:T 152=some F152:=rfl
theorem T156:T 156=some F156:=rfl
theorem T157:T 157=some F157:=rfl
theorem T160:T 160=some F160:=rfl
theorem T166:T 166=some F166:=rfl
theorem T167:T 167=some F167:=rfl
theorem T168:T 168=some F168:=rfl
theorem T169:T 169=some F169:=rfl
theorem T171:T 171=some F171:=rfl
theorem T180:T 180=some F180:=rfl
theorem T185:T 185=some F185:=rfl
theorem T186:T 186=some F186:=rfl
theorem T187:T 187=some F187:=rfl
theorem T188:T 188=some F188:=rfl
theorem T189:T 189=some F189:=rfl
theorem T192:T 192=some F192:=rfl
theorem T193:T 193=some F193:=rfl
theorem T194:T 194=some F194:=rfl
theorem T196:T 196=some F196:=rfl
theorem T209:T 209=some F209:=rfl
theorem T215:T 215=some F215:=rfl
theorem T149:T 149=some FDo:=rfl
theorem b41:xp2 Tryz.prog T:=by
 intro f F h
 unfold T at h
 split at h
 ·cases h;exact .inl (lh3 Tryz.func9 F9_ok)
 ·cases h;exact .inl (lh3 Tryz.func10 F10_ok)
 ·cases h;exact .inl (lh3 Tryz.func14 F14_ok)
 ·cases h;exact .inl (lh3 Tryz.func16 F16_ok)
 ·cases h;exact .inl (lh3 Tryz.func33 F33_ok)
 ·cases h;exact .inl (lh3 Tryz.func34 F34_ok)
 ·cases h;exact .inl (lh3 Tryz.func35 F35_ok)
 ·cases h;exact .inl (lh3 Tryz.func36 F36_ok)
 ·cases h;exact .inl (lh3 Tryz.func38 F38_ok)
 ·cases h;exact .inl (lh3 Tryz.func44 F44_ok)
 ·cases h;exact .inl (lh3 Tryz.func45 F45_ok)
 ·cases h;exact .inl (lh3 Tryz.func53 F53_ok)
 ·cases h;exact .inl (lh3 Tryz.func58 F58_ok)
 ·cases h;exact .inl (lh3 Tryz.func61 F61_ok)
 ·cases h;exact .inl (lh3 Tryz.func65 F65_ok)
 ·cases h;exact .inl (lh3 Tryz.func77 F77_ok)
 ·cases h;exact .inl (lh3 Tryz.func78 F78_ok)
 ·cases h;exact .inl (lh3 Tryz.func79 F79_ok)
 ·cases h;exact .inl (lh3 Tryz.func80 F80_ok)
 ·cases h;exact .inl (lh3 Tryz.func81 F81_ok)
 ·cases h;exact .inl (lh3 Tryz.func82 F82_ok)
 ·cases h;exact .inl (lh3 Tryz.func95 F95_ok)
 ·cases h;exact .inl (lh3 Tryz.func96 F96_ok)
 ·cases h;exact .inl (lh3 Tryz.func97 F97_ok)
 ·cases h;exact .inl (lh3 Tryz.func98 F98_ok)
 ·cases h;exact .inl (lh3 Tryz.func99 F99_ok)
 ·cases h;exact .inl (lh3 Tryz.func100 F100_ok)
 ·cases h;exact .inl (lh3 Tryz.func101 F101_ok)
 ·cases h;exact .inl (lh3 Tryz.func102 F102_ok)
 ·cases h;exact .inl (lh3 Tryz.func103 F103_ok)
 ·cases h;exact .inl (lh3 Tryz.func104 F104_ok)
 ·cases h;exact .inl (lh3 Tryz.func105 F105_ok)
 ·cases h;exact .inl (lh3 Tryz.func116 F116_ok)
 ·cases h;exact .inl (lh3 Tryz.func125 F125_ok)
 ·cases h;exact .inl (lh3 Tryz.func126 F126_ok)
 ·cases h;exact .inl (lh3 Tryz.func127 F127_ok)
 ·cases h;exact .inl (lh3 Tryz.func128 F128_ok)
 ·cases h;exact .inl (lh3 Tryz.func129 F129_ok)
 ·cases h;exact .inl (lh3 Tryz.func130 F130_ok)
 ·cases h;exact .inl (lh3 Tryz.func131 F131_ok)
 ·cases h;exact .inl (lh3 Tryz.func132 F132_ok)
 ·cases h;exact .inl (lh3 Tryz.func133 F133_ok)
 ·cases h;exact .inl (lh3 Tryz.func137 F137_ok)
 ·cases h;exact .inl (lh3 Tryz.func138 F138_ok)
 ·cases h;exact .inl (lh3 Tryz.func139 F139_ok)
 ·cases h;exact .inl (lh3 Tryz.func140 F140_ok)
 ·cases h;exact .inl (lh3 Tryz.func141 F141_ok)
 ·cases h;exact .inl (lh3 Tryz.func142 F142_ok)
 ·cases h;exact .inl (lh3 Tryz.func143 F143_ok)
 ·cases h;exact .inl (lh3 Tryz.func144 F144_ok)
 ·cases h;exact .inl (lh3 Tryz.func145 F145_ok)
 ·cases h;exact .inl (lh3 Tryz.func146 F146_ok)
 ·cases h;exact .inl (lh3 Tryz.func147 F147_ok)
 ·cases h;exact .inl (lh3 Tryz.func148 F148_ok)
 ·cases h;exact .inr (tr1 rfl)
 ·cases h;exact .inl (lh3 Tryz.func150 F150_ok)
 ·cases h;exact .inl (lh3 Tryz.func151 F151_ok)
 ·cases h;exact .inl (lh3 Tryz.func152 F152_ok)
 ·cases h;exact .inl (lh3 Tryz.func156 F156_ok)
 ·cases h;exact .inl (lh3 Tryz.func157 F157_ok)
 ·cases h;exact .inl (lh3 Tryz.func160 F160_ok)
 ·cases h;exact .inl (lh3 Tryz.func166 F166_ok)
 ·cases h;exact .inl (lh3 Tryz.func167 F167_ok)
 ·cases h;exact .inl (lh3 Tryz.func168 F168_ok)
 ·cases h;exact .inl (lh3 Tryz.func169 F169_ok)
 ·cases h;exact .inl (lh3 Tryz.func171 F171_ok)
 ·cases h;exact .inl (lh3 Tryz.func180 F180_ok)
 ·cases h;exact .inl (lh3 Tryz.func185 F185_ok)
 ·cases h;exact .inl (lh3 Tryz.func186 F186_ok)
 ·cases h;exact .inl (lh3 Tryz.func187 F187_ok)
 ·cases h;exact .inl (lh3 Tryz.func188 F188_ok)
 ·cases h;exact .inl (lh3 Tryz.func189 F189_ok)
 ·cases h;exact .inl (lh3 Tryz.func192 F192_ok)
 ·cases h;exact .inl (lh3 Tryz.func193 F193_ok)
 ·cases h;exact .inl (lh3 Tryz.func194 F194_ok)
 ·cases h;exact .inl (lh3 Tryz.func196 F196_ok)
 ·cases h;exact .inl (lh3 Tryz.func209 F209_ok)
 ·cases h;exact .inl (lh3 Tryz.func215 F215_ok)
 ·cases h
theorem mixed:Tryz.prog.follows .mixedOrders=true:=by kernel_rfl
end Go.Proofs.YtlhmdmedagjmnaaGreat
