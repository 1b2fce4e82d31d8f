/-
  Functions of this seat as the small machine's code, written by a program of my own (gen.py); each is checked to be what the model's function is turned into. No condition.
-/
import Derived.Test.YtlhmdmedagjmnaaGreatK4
import Derived.Test.YtlhmdmedagjmnaaGreatKCode0
import Derived.Test.YtlhmdmedagjmnaaGreatKCode1
set_option linter.unusedVariables false
set_option linter.unusedSimpArgs false
set_option linter.unusedSectionVars false
set_option maxRecDepth 100000
namespace Go.Proofs.YtlhmdmedagjmnaaGreat
open Go.Am
def T:Tab
 |3=>some F3
 |10=>some F10
 |11=>some F11
 |12=>some F12
 |13=>some F13
 |14=>some F14
 |15=>some F15
 |16=>some F16
 |17=>some F17
 |18=>some F18
 |21=>some F21
 |23=>some F23
 |25=>some F25
 |26=>some F26
 |27=>some F27
 |30=>some F30
 |38=>some F38
 |41=>some F41
 |59=>some F59
 |60=>some F60
 |61=>some F61
 |62=>some F62
 |63=>some F63
 |64=>some F64
 |65=>some F65
 |66=>some F66
 |67=>some F67
 |68=>some F68
 |69=>some F69
 |70=>some F70
 |71=>some F71
 |72=>some F72
 |73=>some F73
 |74=>some F74
 |77=>some F77
 |79=>some F79
 |81=>some F81
 |82=>some F82
 |83=>some F83
 |95=>some F95
 |97=>some F97
 |100=>some F100
 |101=>some F101
 |102=>some F102
 |116=>some F116
 |125=>some F125
 |126=>some F126
 |133=>some F133
 |135=>some F135
 |136=>some F136
 |138=>some F138
 |139=>some F139
 |140=>some F140
 |141=>some F141
 |142=>some F142
 |143=>some F143
 |144=>some F144
 |145=>some F145
 |146=>some F146
 |147=>some F147
 |148=>some F148
 |149=>some FDo
 |150=>some F150
 |151=>some F151
 |152=>some F152
 |156=>some F156
 |157=>some F157
 |160=>some F160
 |166=>some F166
 |185=>some F185
 |192=>some F192
 |193=>some F193
 |194=>some F194
 |209=>some F209
 |215=>some F215
 |_=>none
theorem T3:T 3=some F3:=rfl
theorem T10:T 10=some F10:=rfl
theorem T11:T 11=some F11:=rfl
theorem T12:T 12=some F12:=rfl
theorem T13:T 13=some F13:=rfl
theorem T14:T 14=some F14:=rfl
theorem T15:T 15=some F15:=rfl
theorem T16:T 16=some F16:=rfl
theorem T17:T 17=some F17:=rfl
theorem T18:T 18=some F18:=rfl
theorem T21:T 21=some F21:=rfl
theorem T23:T 23=some F23:=rfl
theorem T25:T 25=some F25:=rfl
theorem T26:T 26=some F26:=rfl
theorem T27:T 27=some F27:=rfl
theorem T30:T 30=some F30:=rfl
theorem T38:T 38=some F38:=rfl
theorem T41:T 41=some F41:=rfl
theorem T59:T 59=some F59:=rfl
theorem T60:T 60=some F60:=rfl
theorem T61:T 61=some F61:=rfl
theorem T62:T 62=some F62:=rfl
theorem T63:T 63=some F63:=rfl
theorem T64:T 64=some F64:=rfl
theorem T65:T 65=some F65:=rfl
theorem T66:T 66=some F66:=rfl
theorem T67:T 67=some F67:=rfl
theorem T68:T 68=some F68:=rfl
theorem T69:T 69=some F69:=rfl
theorem T70:T 70=some F70:=rfl
theorem T71:T 71=some F71:=rfl
theorem T72:T 72=some F72:=rfl
theorem T73:T 73=some F73:=rfl
theorem T74:T 74=some F74:=rfl
theorem T77:T 77=some F77:=rfl
theorem T79:T 79=some F79:=rfl
theorem T81:T 81=some F81:=rfl
theorem T82:T 82=some F82:=rfl
theorem T83:T 83=some F83:=rfl
theorem T95:T 95=some F95:=rfl
theorem T97:T 97=some F97:=rfl
theorem T100:T 100=some F100:=rfl
theorem T101:T 101=some F101:=rfl
theorem T102:T 102=some F102:=rfl
theorem T116:T 116=some F116:=rfl
theorem T125:T 125=some F125:=rfl
theorem T126:T 126=some F126:=rfl
theorem T133:T 133=some F133:=rfl
theorem T135:T 135=some F135:=rfl
theorem T136:T 136=some F136:=rfl
theorem T138:T 138=some F138:=rfl
theorem T139:T 139=some F139:=rfl
theorem T140:T 140=some F140:=rfl
theorem T141:T 141=some F141:=rfl
theorem T142:T 142=some F142:=rfl
theorem T143:T 143=some F143:=rfl
theorem T144:T 144=some F144:=rfl
theorem T145:T 145=some F145:=rfl
theorem T146:T 146=some F146:=rfl
theorem T147:T 147=some F147:=rfl
theorem T148:T 148=some F148:=rfl
theorem T150:T 150=some F150:=rfl
theorem T151:T 151=some F151:=rfl
theorem T152:T 152=some F152:=rfl
theorem T156:T 156=some F156:=rfl
theorem T157:T 157=some F157:=rfl
theorem T160:T 160=some F160:=rfl
theorem T166:T 166=some F166:=rfl
theorem T185:T 185=some F185:=rfl
theorem T192:T 192=some F192:=rfl
theorem T193:T 193=some F193:=rfl
theorem T194:T 194=some F194:=rfl
theorem T209:T 209=some F209:=rfl
theorem T215:T 215=some F215:=rfl
theorem T149:T 149=some FDo:=rfl
theorem b41:xp2 Tryz.prog T:=by
 intro f F h
 unfold T at h
 split at h
 ·cases h;exact .inl (lh3 Tryz.func3 F3_ok)
 ·cases h;exact .inl (lh3 Tryz.func10 F10_ok)
 ·cases h;exact .inl (lh3 Tryz.func11 F11_ok)
 ·cases h;exact .inl (lh3 Tryz.func12 F12_ok)
 ·cases h;exact .inl (lh3 Tryz.func13 F13_ok)
 ·cases h;exact .inl (lh3 Tryz.func14 F14_ok)
 ·cases h;exact .inl (lh3 Tryz.func15 F15_ok)
 ·cases h;exact .inl (lh3 Tryz.func16 F16_ok)
 ·cases h;exact .inl (lh3 Tryz.func17 F17_ok)
 ·cases h;exact .inl (lh3 Tryz.func18 F18_ok)
 ·cases h;exact .inl (lh3 Tryz.func21 F21_ok)
 ·cases h;exact .inl (lh3 Tryz.func23 F23_ok)
 ·cases h;exact .inl (lh3 Tryz.func25 F25_ok)
 ·cases h;exact .inl (lh3 Tryz.func26 F26_ok)
 ·cases h;exact .inl (lh3 Tryz.func27 F27_ok)
 ·cases h;exact .inl (lh3 Tryz.func30 F30_ok)
 ·cases h;exact .inl (lh3 Tryz.func38 F38_ok)
 ·cases h;exact .inl (lh3 Tryz.func41 F41_ok)
 ·cases h;exact .inl (lh3 Tryz.func59 F59_ok)
 ·cases h;exact .inl (lh3 Tryz.func60 F60_ok)
 ·cases h;exact .inl (lh3 Tryz.func61 F61_ok)
 ·cases h;exact .inl (lh3 Tryz.func62 F62_ok)
 ·cases h;exact .inl (lh3 Tryz.func63 F63_ok)
 ·cases h;exact .inl (lh3 Tryz.func64 F64_ok)
 ·cases h;exact .inl (lh3 Tryz.func65 F65_ok)
 ·cases h;exact .inl (lh3 Tryz.func66 F66_ok)
 ·cases h;exact .inl (lh3 Tryz.func67 F67_ok)
 ·cases h;exact .inl (lh3 Tryz.func68 F68_ok)
 ·cases h;exact .inl (lh3 Tryz.func69 F69_ok)
 ·cases h;exact .inl (lh3 Tryz.func70 F70_ok)
 ·cases h;exact .inl (lh3 Tryz.func71 F71_ok)
 ·cases h;exact .inl (lh3 Tryz.func72 F72_ok)
 ·cases h;exact .inl (lh3 Tryz.func73 F73_ok)
 ·cases h;exact .inl (lh3 Tryz.func74 F74_ok)
 ·cases h;exact .inl (lh3 Tryz.func77 F77_ok)
 ·cases h;exact .inl (lh3 Tryz.func79 F79_ok)
 ·cases h;exact .inl (lh3 Tryz.func81 F81_ok)
 ·cases h;exact .inl (lh3 Tryz.func82 F82_ok)
 ·cases h;exact .inl (lh3 Tryz.func83 F83_ok)
 ·cases h;exact .inl (lh3 Tryz.func95 F95_ok)
 ·cases h;exact .inl (lh3 Tryz.func97 F97_ok)
 ·cases h;exact .inl (lh3 Tryz.func100 F100_ok)
 ·cases h;exact .inl (lh3 Tryz.func101 F101_ok)
 ·cases h;exact .inl (lh3 Tryz.func102 F102_ok)
 ·cases h;exact .inl (lh3 Tryz.func116 F116_ok)
 ·cases h;exact .inl (lh3 Tryz.func125 F125_ok)
 ·cases h;exact .inl (lh3 Tryz.func126 F126_ok)
 ·cases h;exact .inl (lh3 Tryz.func133 F133_ok)
 ·cases h;exact .inl (lh3 Tryz.func135 F135_ok)
 ·cases h;exact .inl (lh3 Tryz.func136 F136_ok)
 ·cases h;exact .inl (lh3 Tryz.func138 F138_ok)
 ·cases h;exact .inl (lh3 Tryz.func139 F139_ok)
 ·cases h;exact .inl (lh3 Tryz.func140 F140_ok)
 ·cases h;exact .inl (lh3 Tryz.func141 F141_ok)
 ·cases h;exact .inl (lh3 Tryz.func142 F142_ok)
 ·cases h;exact .inl (lh3 Tryz.func143 F143_ok)
 ·cases h;exact .inl (lh3 Tryz.func144 F144_ok)
 ·cases h;exact .inl (lh3 Tryz.func145 F145_ok)
 ·cases h;exact .inl (lh3 Tryz.func146 F146_ok)
 ·cases h;exact .inl (lh3 Tryz.func147 F147_ok)
 ·cases h;exact .inl (lh3 Tryz.func148 F148_ok)
 ·cases h;exact .inr (tr1 rfl)
 ·cases h;exact .inl (lh3 Tryz.func150 F150_ok)
 ·cases h;exact .inl (lh3 Tryz.func151 F151_ok)
 ·cases h;exact .inl (lh3 Tryz.func152 F152_ok)
 ·cases h;exact .inl (lh3 Tryz.func156 F156_ok)
 ·cases h;exact .inl (lh3 Tryz.func157 F157_ok)
 ·cases h;exact .inl (lh3 Tryz.func160 F160_ok)
 ·cases h;exact .inl (lh3 Tryz.func166 F166_ok)
 ·cases h;exact .inl (lh3 Tryz.func185 F185_ok)
 ·cases h;exact .inl (lh3 Tryz.func192 F192_ok)
 ·cases h;exact .inl (lh3 Tryz.func193 F193_ok)
 ·cases h;exact .inl (lh3 Tryz.func194 F194_ok)
 ·cases h;exact .inl (lh3 Tryz.func209 F209_ok)
 ·cases h;exact .inl (lh3 Tryz.func215 F215_ok)
 ·cases h
theorem mixed:Tryz.prog.follows .mixedOrders=true:=by kernel_rfl
end Go.Proofs.YtlhmdmedagjmnaaGreat
