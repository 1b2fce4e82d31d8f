/-
  Functions of this seat as the small machine's code, written by a program of my own (gen.py); each is checked to be what the model's function is turned into. No condition.
-/
import Derived.Test.YtppbpgmdmiajcaaGreatK5
import Derived.Test.YtppbpgmdmiajcaaGreatKCode0
import Derived.Test.YtppbpgmdmiajcaaGreatKCode1
import Derived.Test.YtppbpgmdmiajcaaGreatKCode2
set_option linter.unusedVariables false
set_option linter.unusedSimpArgs false
set_option linter.unusedSectionVars false
set_option maxRecDepth 100000
namespace Go.Proofs.YtppbpgmdmiajcaaGreat
open Go.Am
def T:Tab
 |6=>some F6
 |10=>some F10
 |13=>some F13
 |16=>some F16
 |19=>some F19
 |21=>some F21
 |26=>some F26
 |28=>some F28
 |31=>some F31
 |32=>some F32
 |48=>some F48
 |49=>some F49
 |50=>some F50
 |53=>some F53
 |54=>some F54
 |55=>some F55
 |56=>some F56
 |57=>some F57
 |58=>some F58
 |59=>some F59
 |60=>some F60
 |67=>some F67
 |68=>some F68
 |71=>some F71
 |72=>some F72
 |73=>some F73
 |74=>some F74
 |81=>some F81
 |83=>some F83
 |84=>some F84
 |87=>some F87
 |92=>some F92
 |93=>some F93
 |94=>some F94
 |103=>some FDo
 |104=>some F104
 |105=>some F105
 |106=>some F106
 |107=>some F107
 |111=>some F111
 |112=>some F112
 |113=>some F113
 |114=>some F114
 |115=>some F115
 |116=>some F116
 |117=>some F117
 |120=>some F120
 |123=>some F123
 |124=>some F124
 |125=>some F125
 |126=>some F126
 |130=>some F130
 |133=>some F133
 |134=>some F134
 |146=>some F146
 |147=>some F147
 |148=>some F148
 |149=>some F149
 |150=>some F150
 |151=>some F151
 |152=>some F152
 |153=>some F153
 |154=>some F154
 |155=>some F155
 |156=>some F156
 |158=>some F158
 |159=>some F159
 |160=>some F160
 |161=>some F161
 |162=>some F162
 |163=>some F163
 |164=>some F164
 |165=>some F165
 |166=>some F166
 |167=>some F167
 |179=>some F179
 |180=>some F180
 |181=>some F181
 |182=>some F182
 |183=>some F183
 |184=>some F184
 |185=>some F185
 |186=>some F186
 |193=>some F193
 |194=>some F194
 |_=>none
theorem T6:T 6=some F6:=rfl
theorem T10:T 10=some F10:=rfl
theorem T13:T 13=some F13:=rfl
theorem T16:T 16=some F16:=rfl
theorem T19:T 19=some F19:=rfl
theorem T21:T 21=some F21:=rfl
theorem T26:T 26=some F26:=rfl
theorem T28:T 28=some F28:=rfl
theorem T31:T 31=some F31:=rfl
theorem T32:T 32=some F32:=rfl
theorem T48:T 48=some F48:=rfl
theorem T49:T 49=some F49:=rfl
theorem T50:T 50=some F50:=rfl
theorem T53:T 53=some F53:=rfl
theorem T54:T 54=some F54:=rfl
theorem T55:T 55=some F55:=rfl
theorem T56:T 56=some F56:=rfl
theorem T57:T 57=some F57:=rfl
theorem T58:T 58=some F58:=rfl
theorem T59:T 59=some F59:=rfl
theorem T60:T 60=some F60:=rfl
theorem T67:T 67=some F67:=rfl
theorem T68:T 68=some F68:=rfl
theorem T71:T 71=some F71:=rfl
theorem T72:T 72=some F72:=rfl
theorem T73:T 73=some F73:=rfl
theorem T74:T 74=some F74:=rfl
theorem T81:T 81=some F81:=rfl
theorem T83:T 83=some F83:=rfl
theorem T84:T 84=some F84:=rfl
theorem T87:T 87=some F87:=rfl
theorem T92:T 92=some F92:=rfl
theorem T93:T 93=some F93:=rfl
theorem T94:T 94=some F94:=rfl
theorem T104:T 104=some F104:=rfl
theorem T105:T 105=some F105:=rfl
theorem T106:T 106=some F106:=rfl
theorem T107:T 107=some F107:=rfl
theorem T111:T 111=some F111:=rfl
theorem T112:T 112=some F112:=rfl
theorem T113:T 113=some F113:=rfl
theorem T114:T 114=some F114:=rfl
theorem T115:T 115=some F115:=rfl
theorem T116:T 116=some F116:=rfl
theorem T117:T 117=some F117:=rfl
theorem T120:T 120=some F120:=rfl
theorem T123:T 123=some F123:=rfl
theorem T124:T 124=some F124:=rfl
theorem T125:T 125=some F125:=rfl
theorem T126:T 126=some F126:=rfl
theorem T130:T 130=some F130:=rfl
theorem T133:T 133=some F133:=rfl
theorem T134:T 134=some F134:=rfl
theorem T146:T 146=some F146:=rfl
theorem T147:T 147=some F147:=rfl
theorem T148:T 148=some F148:=rfl
theorem T149:T 149=some F149:=rfl
theorem T150:T 150=some F150:=rfl
theorem T151:T 151=some F151:=rfl
theorem T152:T 152=some F152:=rfl
theorem T153:T 153=some F153:=rfl
theorem T154:T 154=some F154:=rfl
theorem T155:T 155=some F155:=rfl
theorem T156:T 156=some F156:=rfl
theorem T158:T 158=some F158:=rfl
theorem T159:T 159=some F159:=rfl
theorem T160:T 160=some F160:=rfl
theorem T161:T 161=some F161:=rfl
theorem T162:T 162=some F162:=rfl
theorem T163:T 163=some F163:=rfl
theorem T164:T 164=some F164:=rfl
theorem T165:T 165=some F165:=rfl
theorem T166:T 166=some F166:=rfl
theorem T167:T 167=some F167:=rfl
theorem T179:T 179=some F179:=rfl
theorem T180:T 180=some F180:=rfl
theorem T181:T 181=some F181:=rfl
theorem T182:T 182=some F182:=rfl
theorem T183:T 183=some F183:=rfl
theorem T184:T 184=some F184:=rfl
theorem T185:T 185=some F185:=rfl
theorem T186:T 186=some F186:=rfl
theorem T193:T 193=some F193:=rfl
theorem T194:T 194=some F194:=rfl
theorem T103:T 103=some FDo:=rfl
theorem b41:xp2 Tryz.prog T:=by
 intro f F h
 unfold T at h
 split at h
 ·cases h;exact .inl (lh3 Tryz.func6 F6_ok)
 ·cases h;exact .inl (lh3 Tryz.func10 F10_ok)
 ·cases h;exact .inl (lh3 Tryz.func13 F13_ok)
 ·cases h;exact .inl (lh3 Tryz.func16 F16_ok)
 ·cases h;exact .inl (lh3 Tryz.func19 F19_ok)
 ·cases h;exact .inl (lh3 Tryz.func21 F21_ok)
 ·cases h;exact .inl (lh3 Tryz.func26 F26_ok)
 ·cases h;exact .inl (lh3 Tryz.func28 F28_ok)
 ·cases h;exact .inl (lh3 Tryz.func31 F31_ok)
 ·cases h;exact .inl (lh3 Tryz.func32 F32_ok)
 ·cases h;exact .inl (lh3 Tryz.func48 F48_ok)
 ·cases h;exact .inl (lh3 Tryz.func49 F49_ok)
 ·cases h;exact .inl (lh3 Tryz.func50 F50_ok)
 ·cases h;exact .inl (lh3 Tryz.func53 F53_ok)
 ·cases h;exact .inl (lh3 Tryz.func54 F54_ok)
 ·cases h;exact .inl (lh3 Tryz.func55 F55_ok)
 ·cases h;exact .inl (lh3 Tryz.func56 F56_ok)
 ·cases h;exact .inl (lh3 Tryz.func57 F57_ok)
 ·cases h;exact .inl (lh3 Tryz.func58 F58_ok)
 ·cases h;exact .inl (lh3 Tryz.func59 F59_ok)
 ·cases h;exact .inl (lh3 Tryz.func60 F60_ok)
 ·cases h;exact .inl (lh3 Tryz.func67 F67_ok)
 ·cases h;exact .inl (lh3 Tryz.func68 F68_ok)
 ·cases h;exact .inl (lh3 Tryz.func71 F71_ok)
 ·cases h;exact .inl (lh3 Tryz.func72 F72_ok)
 ·cases h;exact .inl (lh3 Tryz.func73 F73_ok)
 ·cases h;exact .inl (lh3 Tryz.func74 F74_ok)
 ·cases h;exact .inl (lh3 Tryz.func81 F81_ok)
 ·cases h;exact .inl (lh3 Tryz.func83 F83_ok)
 ·cases h;exact .inl (lh3 Tryz.func84 F84_ok)
 ·cases h;exact .inl (lh3 Tryz.func87 F87_ok)
 ·cases h;exact .inl (lh3 Tryz.func92 F92_ok)
 ·cases h;exact .inl (lh3 Tryz.func93 F93_ok)
 ·cases h;exact .inl (lh3 Tryz.func94 F94_ok)
 ·cases h;exact .inr (tr1 rfl)
 ·cases h;exact .inl (lh3 Tryz.func104 F104_ok)
 ·cases h;exact .inl (lh3 Tryz.func105 F105_ok)
 ·cases h;exact .inl (lh3 Tryz.func106 F106_ok)
 ·cases h;exact .inl (lh3 Tryz.func107 F107_ok)
 ·cases h;exact .inl (lh3 Tryz.func111 F111_ok)
 ·cases h;exact .inl (lh3 Tryz.func112 F112_ok)
 ·cases h;exact .inl (lh3 Tryz.func113 F113_ok)
 ·cases h;exact .inl (lh3 Tryz.func114 F114_ok)
 ·cases h;exact .inl (lh3 Tryz.func115 F115_ok)
 ·cases h;exact .inl (lh3 Tryz.func116 F116_ok)
 ·cases h;exact .inl (lh3 Tryz.func117 F117_ok)
 ·cases h;exact .inl (lh3 Tryz.func120 F120_ok)
 ·cases h;exact .inl (lh3 Tryz.func123 F123_ok)
 ·cases h;exact .inl (lh3 Tryz.func124 F124_ok)
 ·cases h;exact .inl (lh3 Tryz.func125 F125_ok)
 ·cases h;exact .inl (lh3 Tryz.func126 F126_ok)
 ·cases h;exact .inl (lh3 Tryz.func130 F130_ok)
 ·cases h;exact .inl (lh3 Tryz.func133 F133_ok)
 ·cases h;exact .inl (lh3 Tryz.func134 F134_ok)
 ·cases h;exact .inl (lh3 Tryz.func146 F146_ok)
 ·cases h;exact .inl (lh3 Tryz.func147 F147_ok)
 ·cases h;exact .inl (lh3 Tryz.func148 F148_ok)
 ·cases h;exact .inl (lh3 Tryz.func149 F149_ok)
 ·cases h;exact .inl (lh3 Tryz.func150 F150_ok)
 ·cases h;exact .inl (lh3 Tryz.func151 F151_ok)
 ·cases h;exact .inl (lh3 Tryz.func152 F152_ok)
 ·cases h;exact .inl (lh3 Tryz.func153 F153_ok)
 ·cases h;exact .inl (lh3 Tryz.func154 F154_ok)
 ·cases h;exact .inl (lh3 Tryz.func155 F155_ok)
 ·cases h;exact .inl (lh3 Tryz.func156 F156_ok)
 ·cases h;exact .inl (lh3 Tryz.func158 F158_ok)
 ·cases h;exact .inl (lh3 Tryz.func159 F159_ok)
 ·cases h;exact .inl (lh3 Tryz.func160 F160_ok)
 ·cases h;exact .inl (lh3 Tryz.func161 F161_ok)
 ·cases h;exact .inl (lh3 Tryz.func162 F162_ok)
 ·cases h;exact .inl (lh3 Tryz.func163 F163_ok)
 ·cases h;exact .inl (lh3 Tryz.func164 F164_ok)
 ·cases h;exact .inl (lh3 Tryz.func165 F165_ok)
 ·cases h;exact .inl (lh3 Tryz.func166 F166_ok)
 ·cases h;exact .inl (lh3 Tryz.func167 F167_ok)
 ·cases h;exact .inl (lh3 Tryz.func179 F179_ok)
 ·cases h;exact .inl (lh3 Tryz.func180 F180_ok)
 ·cases h;exact .inl (lh3 Tryz.func181 F181_ok)
 ·cases h;exact .inl (lh3 Tryz.func182 F182_ok)
 ·cases h;exact .inl (lh3 Tryz.func183 F183_ok)
 ·cases h;exact .inl (lh3 Tryz.func184 F184_ok)
 ·cases h;exact .inl (lh3 Tryz.func185 F185_ok)
 ·cases h;exact .inl (lh3 Tryz.func186 F186_ok)
 ·cases h;exact .inl (lh3 Tryz.func193 F193_ok)
 ·cases h;exact .inl (lh3 Tryz.func194 F194_ok)
 ·cases h
theorem mixed:Tryz.prog.follows .mixedOrders=true:=by kernel_rfl
end Go.Proofs.YtppbpgmdmiajcaaGreat
