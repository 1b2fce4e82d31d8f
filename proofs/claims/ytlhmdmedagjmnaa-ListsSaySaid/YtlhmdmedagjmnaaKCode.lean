/-
  Functions of this seat as the small machine's code, written by a program of my own (gen.py); each is checked to be what the model's function is turned into. No condition.
-/
import Derived.Test.YtlhmdmedagjmnaaK4
import Derived.Test.YtlhmdmedagjmnaaKCode0
import Derived.Test.YtlhmdmedagjmnaaKCode1
set_option linter.unusedVariables false
set_option linter.unusedSimpArgs false
set_option linter.unusedSectionVars false
set_option maxRecDepth 100000
namespace Go.Proofs.Ytlhmdmedagjmnaa
open Go.Am
def T:Tab
 |6=>some F6
 |27=>some F27
 |30=>some F30
 |31=>some F31
 |32=>some F32
 |33=>some F33
 |34=>some F34
 |35=>some F35
 |36=>some F36
 |37=>some F37
 |45=>some F45
 |46=>some F46
 |49=>some F49
 |50=>some F50
 |51=>some F51
 |58=>some F58
 |60=>some F60
 |61=>some F61
 |63=>some F63
 |64=>some F64
 |65=>some F65
 |66=>some F66
 |67=>some F67
 |68=>some F68
 |69=>some F69
 |70=>some F70
 |71=>some F71
 |72=>some F72
 |73=>some F73
 |74=>some F74
 |75=>some F75
 |76=>some F76
 |77=>some F77
 |78=>some F78
 |79=>some F79
 |82=>some F82
 |83=>some F83
 |84=>some F84
 |85=>some F85
 |86=>some F86
 |87=>some F87
 |88=>some F88
 |89=>some F89
 |90=>some F90
 |91=>some F91
 |92=>some F92
 |93=>some FDo
 |94=>some F94
 |95=>some F95
 |96=>some F96
 |98=>some F98
 |100=>some F100
 |102=>some F102
 |105=>some F105
 |106=>some F106
 |107=>some F107
 |108=>some F108
 |109=>some F109
 |110=>some F110
 |111=>some F111
 |112=>some F112
 |115=>some F115
 |116=>some F116
 |117=>some F117
 |118=>some F118
 |120=>some F120
 |121=>some F121
 |122=>some F122
 |123=>some F123
 |124=>some F124
 |125=>some F125
 |130=>some F130
 |135=>some F135
 |_=>none
theorem T6:T 6=some F6:=rfl
theorem T27:T 27=some F27:=rfl
theorem T30:T 30=some F30:=rfl
theorem T31:T 31=some F31:=rfl
theorem T32:T 32=some F32:=rfl
theorem T33:T 33=some F33:=rfl
theorem T34:T 34=some F34:=rfl
theorem T35:T 35=some F35:=rfl
theorem T36:T 36=some F36:=rfl
theorem T37:T 37=some F37:=rfl
theorem T45:T 45=some F45:=rfl
theorem T46:T 46=some F46:=rfl
theorem T49:T 49=some F49:=rfl
theorem T50:T 50=some F50:=rfl
theorem T51:T 51=some F51:=rfl
theorem T58:T 58=some F58:=rfl
theorem T60:T 60=some F60:=rfl
theorem T61:T 61=some F61:=rfl
theorem T63:T 63=some F63:=rfl
theorem T64:T 64=some F64:=rfl
theorem T65:T 65=some F65:=rfl
theorem T66:T 66=some F66:=rfl
theorem T67:T 67=some F67:=rfl
theorem T68:T 68=some F68:=rfl
theorem T69:T 69=some F69:=rfl
theorem T70:T 70=some F70:=rfl
theorem T71:T 71=some F71:=rfl
theorem T72:T 72=some F72:=rfl
theorem T73:T 73=some F73:=rfl
theorem T74:T 74=some F74:=rfl
theorem T75:T 75=some F75:=rfl
theorem T76:T 76=some F76:=rfl
theorem T77:T 77=some F77:=rfl
theorem T78:T 78=some F78:=rfl
theorem T79:T 79=some F79:=rfl
theorem T82:T 82=some F82:=rfl
theorem T83:T 83=some F83:=rfl
theorem T84:T 84=some F84:=rfl
theorem T85:T 85=some F85:=rfl
theorem T86:T 86=some F86:=rfl
theorem T87:T 87=some F87:=rfl
theorem T88:T 88=some F88:=rfl
theorem T89:T 89=some F89:=rfl
theorem T90:T 90=some F90:=rfl
theorem T91:T 91=some F91:=rfl
theorem T92:T 92=some F92:=rfl
theorem T94:T 94=some F94:=rfl
theorem T95:T 95=some F95:=rfl
theorem T96:T 96=some F96:=rfl
theorem T98:T 98=some F98:=rfl
theorem T100:T 100=some F100:=rfl
theorem T102:T 102=some F102:=rfl
theorem T105:T 105=some F105:=rfl
theorem T106:T 106=some F106:=rfl
theorem T107:T 107=some F107:=rfl
theorem T108:T 108=some F108:=rfl
theorem T109:T 109=some F109:=rfl
theorem T110:T 110=some F110:=rfl
theorem T111:T 111=some F111:=rfl
theorem T112:T 112=some F112:=rfl
theorem T115:T 115=some F115:=rfl
theorem T116:T 116=some F116:=rfl
theorem T117:T 117=some F117:=rfl
theorem T118:T 118=some F118:=rfl
theorem T120:T 120=some F120:=rfl
theorem T121:T 121=some F121:=rfl
theorem T122:T 122=some F122:=rfl
theorem T123:T 123=some F123:=rfl
theorem T124:T 124=some F124:=rfl
theorem T125:T 125=some F125:=rfl
theorem T130:T 130=some F130:=rfl
theorem T135:T 135=some F135:=rfl
theorem T93:T 93=some FDo:=rfl
theorem b41:xp2 Try.prog T:=by
 intro f F h
 unfold T at h
 split at h
 ·cases h;exact .inl (lh3 Try.func6 F6_ok)
 ·cases h;exact .inl (lh3 Try.func27 F27_ok)
 ·cases h;exact .inl (lh3 Try.func30 F30_ok)
 ·cases h;exact .inl (lh3 Try.func31 F31_ok)
 ·cases h;exact .inl (lh3 Try.func32 F32_ok)
 ·cases h;exact .inl (lh3 Try.func33 F33_ok)
 ·cases h;exact .inl (lh3 Try.func34 F34_ok)
 ·cases h;exact .inl (lh3 Try.func35 F35_ok)
 ·cases h;exact .inl (lh3 Try.func36 F36_ok)
 ·cases h;exact .inl (lh3 Try.func37 F37_ok)
 ·cases h;exact .inl (lh3 Try.func45 F45_ok)
 ·cases h;exact .inl (lh3 Try.func46 F46_ok)
 ·cases h;exact .inl (lh3 Try.func49 F49_ok)
 ·cases h;exact .inl (lh3 Try.func50 F50_ok)
 ·cases h;exact .inl (lh3 Try.func51 F51_ok)
 ·cases h;exact .inl (lh3 Try.func58 F58_ok)
 ·cases h;exact .inl (lh3 Try.func60 F60_ok)
 ·cases h;exact .inl (lh3 Try.func61 F61_ok)
 ·cases h;exact .inl (lh3 Try.func63 F63_ok)
 ·cases h;exact .inl (lh3 Try.func64 F64_ok)
 ·cases h;exact .inl (lh3 Try.func65 F65_ok)
 ·cases h;exact .inl (lh3 Try.func66 F66_ok)
 ·cases h;exact .inl (lh3 Try.func67 F67_ok)
 ·cases h;exact .inl (lh3 Try.func68 F68_ok)
 ·cases h;exact .inl (lh3 Try.func69 F69_ok)
 ·cases h;exact .inl (lh3 Try.func70 F70_ok)
 ·cases h;exact .inl (lh3 Try.func71 F71_ok)
 ·cases h;exact .inl (lh3 Try.func72 F72_ok)
 ·cases h;exact .inl (lh3 Try.func73 F73_ok)
 ·cases h;exact .inl (lh3 Try.func74 F74_ok)
 ·cases h;exact .inl (lh3 Try.func75 F75_ok)
 ·cases h;exact .inl (lh3 Try.func76 F76_ok)
 ·cases h;exact .inl (lh3 Try.func77 F77_ok)
 ·cases h;exact .inl (lh3 Try.func78 F78_ok)
 ·cases h;exact .inl (lh3 Try.func79 F79_ok)
 ·cases h;exact .inl (lh3 Try.func82 F82_ok)
 ·cases h;exact .inl (lh3 Try.func83 F83_ok)
 ·cases h;exact .inl (lh3 Try.func84 F84_ok)
 ·cases h;exact .inl (lh3 Try.func85 F85_ok)
 ·cases h;exact .inl (lh3 Try.func86 F86_ok)
 ·cases h;exact .inl (lh3 Try.func87 F87_ok)
 ·cases h;exact .inl (lh3 Try.func88 F88_ok)
 ·cases h;exact .inl (lh3 Try.func89 F89_ok)
 ·cases h;exact .inl (lh3 Try.func90 F90_ok)
 ·cases h;exact .inl (lh3 Try.func91 F91_ok)
 ·cases h;exact .inl (lh3 Try.func92 F92_ok)
 ·cases h;exact .inr (tr1 rfl)
 ·cases h;exact .inl (lh3 Try.func94 F94_ok)
 ·cases h;exact .inl (lh3 Try.func95 F95_ok)
 ·cases h;exact .inl (lh3 Try.func96 F96_ok)
 ·cases h;exact .inl (lh3 Try.func98 F98_ok)
 ·cases h;exact .inl (lh3 Try.func100 F100_ok)
 ·cases h;exact .inl (lh3 Try.func102 F102_ok)
 ·cases h;exact .inl (lh3 Try.func105 F105_ok)
 ·cases h;exact .inl (lh3 Try.func106 F106_ok)
 ·cases h;exact .inl (lh3 Try.func107 F107_ok)
 ·cases h;exact .inl (lh3 Try.func108 F108_ok)
 ·cases h;exact .inl (lh3 Try.func109 F109_ok)
 ·cases h;exact .inl (lh3 Try.func110 F110_ok)
 ·cases h;exact .inl (lh3 Try.func111 F111_ok)
 ·cases h;exact .inl (lh3 Try.func112 F112_ok)
 ·cases h;exact .inl (lh3 Try.func115 F115_ok)
 ·cases h;exact .inl (lh3 Try.func116 F116_ok)
 ·cases h;exact .inl (lh3 Try.func117 F117_ok)
 ·cases h;exact .inl (lh3 Try.func118 F118_ok)
 ·cases h;exact .inl (lh3 Try.func120 F120_ok)
 ·cases h;exact .inl (lh3 Try.func121 F121_ok)
 ·cases h;exact .inl (lh3 Try.func122 F122_ok)
 ·cases h;exact .inl (lh3 Try.func123 F123_ok)
 ·cases h;exact .inl (lh3 Try.func124 F124_ok)
 ·cases h;exact .inl (lh3 Try.func125 F125_ok)
 ·cases h;exact .inl (lh3 Try.func130 F130_ok)
 ·cases h;exact .inl (lh3 Try.func135 F135_ok)
 ·cases h
theorem mixed:Try.prog.follows .mixedOrders=true:=by kernel_rfl
end Go.Proofs.Ytlhmdmedagjmnaa
