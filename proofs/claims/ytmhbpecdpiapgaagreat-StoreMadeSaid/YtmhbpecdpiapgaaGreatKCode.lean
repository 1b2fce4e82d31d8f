/-
  Functions of this seat as the small machine's code, written by a program of my own (gen.py); each is checked to be what the model's function is turned into. No condition.
-/
import Derived.Test.YtmhbpecdpiapgaaGreatK4
import Derived.Test.YtmhbpecdpiapgaaGreatKCode0
import Derived.Test.YtmhbpecdpiapgaaGreatKCode1
import Derived.Test.YtmhbpecdpiapgaaGreatKCode2
set_option linter.unusedVariables false
set_option linter.unusedSimpArgs false
set_option linter.unusedSectionVars false
set_option maxRecDepth 100000
namespace Go.Proofs.YtmhbpecdpiapgaaGreat
open Go.Am
def T:Tab
 |3=>some F3
 |4=>some F4
 |6=>some F6
 |7=>some F7
 |8=>some F8
 |9=>some F9
 |10=>some F10
 |11=>some F11
 |12=>some F12
 |13=>some F13
 |14=>some F14
 |15=>some F15
 |16=>some F16
 |17=>some F17
 |18=>some F18
 |19=>some F19
 |20=>some F20
 |21=>some F21
 |22=>some F22
 |23=>some F23
 |25=>some F25
 |36=>some F36
 |37=>some F37
 |38=>some F38
 |39=>some F39
 |40=>some F40
 |41=>some F41
 |42=>some F42
 |43=>some F43
 |44=>some F44
 |45=>some F45
 |46=>some F46
 |47=>some F47
 |48=>some F48
 |49=>some F49
 |50=>some F50
 |51=>some F51
 |52=>some F52
 |53=>some F53
 |54=>some F54
 |55=>some F55
 |56=>some F56
 |57=>some F57
 |58=>some F58
 |59=>some F59
 |60=>some F60
 |62=>some F62
 |66=>some F66
 |79=>some FDo
 |80=>some F80
 |81=>some F81
 |82=>some F82
 |83=>some F83
 |84=>some F84
 |85=>some F85
 |86=>some F86
 |87=>some F87
 |88=>some F88
 |89=>some F89
 |90=>some F90
 |91=>some F91
 |92=>some F92
 |93=>some F93
 |94=>some F94
 |95=>some F95
 |96=>some F96
 |97=>some F97
 |98=>some F98
 |99=>some F99
 |101=>some F101
 |103=>some F103
 |104=>some F104
 |105=>some F105
 |106=>some F106
 |107=>some F107
 |117=>some F117
 |119=>some F119
 |122=>some F122
 |123=>some F123
 |124=>some F124
 |125=>some F125
 |126=>some F126
 |127=>some F127
 |128=>some F128
 |129=>some F129
 |130=>some F130
 |136=>some F136
 |137=>some F137
 |142=>some F142
 |_=>none
theorem T3:T 3=some F3:=rfl
theorem T4:T 4=some F4:=rfl
theorem T6:T 6=some F6:=rfl
theorem T7:T 7=some F7:=rfl
theorem T8:T 8=some F8:=rfl
theorem T9:T 9=some F9:=rfl
theorem T10:T 10=some F10:=rfl
theorem T11:T 11=some F11:=rfl
theorem T12:T 12=some F12:=rfl
theorem T13:T 13=some F13:=rfl
theorem T14:T 14=some F14:=rfl
theorem T15:T 15=some F15:=rfl
theorem T16:T 16=some F16:=rfl
theorem T17:T 17=some F17:=rfl
theorem T18:T 18=some F18:=rfl
theorem T19:T 19=some F19:=rfl
theorem T20:T 20=some F20:=rfl
theorem T21:T 21=some F21:=rfl
theorem T22:T 22=some F22:=rfl
theorem T23:T 23=some F23:=rfl
theorem T25:T 25=some F25:=rfl
theorem T36:T 36=some F36:=rfl
theorem T37:T 37=some F37:=rfl
theorem T38:T 38=some F38:=rfl
theorem T39:T 39=some F39:=rfl
theorem T40:T 40=some F40:=rfl
theorem T41:T 41=some F41:=rfl
theorem T42:T 42=some F42:=rfl
theorem T43:T 43=some F43:=rfl
theorem T44:T 44=some F44:=rfl
theorem T45:T 45=some F45:=rfl
theorem T46:T 46=some F46:=rfl
theorem T47:T 47=some F47:=rfl
theorem T48:T 48=some F48:=rfl
theorem T49:T 49=some F49:=rfl
theorem T50:T 50=some F50:=rfl
theorem T51:T 51=some F51:=rfl
theorem T52:T 52=some F52:=rfl
theorem T53:T 53=some F53:=rfl
theorem T54:T 54=some F54:=rfl
theorem T55:T 55=some F55:=rfl
theorem T56:T 56=some F56:=rfl
theorem T57:T 57=some F57:=rfl
theorem T58:T 58=some F58:=rfl
theorem T59:T 59=some F59:=rfl
theorem T60:T 60=some F60:=rfl
theorem T62:T 62=some F62:=rfl
theorem T66:T 66=some F66:=rfl
theorem T80:T 80=some F80:=rfl
theorem T81:T 81=some F81:=rfl
theorem T82:T 82=some F82:=rfl
theorem T83:T 83=some F83:=rfl
theorem T84:T 84=some F84:=rfl
theorem T85:T 85=some F85:=rfl
theorem T86:T 86=some F86:=rfl
theorem T87:T 87=some F87:=rfl
theorem T88:T 88=some F88:=rfl
theorem T89:T 89=some F89:=rfl
theorem T90:T 90=some F90:=rfl
theorem T91:T 91=some F91:=rfl
theorem T92:T 92=some F92:=rfl
theorem T93:T 93=some F93:=rfl
theorem T94:T 94=some F94:=rfl
theorem T95:T 95=some F95:=rfl
theorem T96:T 96=some F96:=rfl
theorem T97:T 97=some F97:=rfl
theorem T98:T 98=some F98:=rfl
theorem T99:T 99=some F99:=rfl
theorem T101:T 101=some F101:=rfl
theorem T103:T 103=some F103:=rfl
theorem T104:T 104=some F104:=rfl
theorem T105:T 105=some F105:=rfl
theorem T106:T 106=some F106:=rfl
theorem T107:T 107=some F107:=rfl
theorem T117:T 117=some F117:=rfl
theorem T119:T 119=some F119:=rfl
theorem T122:T 122=some F122:=rfl
theorem T123:T 123=some F123:=rfl
theorem T124:T 124=some F124:=rfl
theorem T125:T 125=some F125:=rfl
theorem T126:T 126=some F126:=rfl
theorem T127:T 127=some F127:=rfl
theorem T128:T 128=some F128:=rfl
theorem T129:T 129=some F129:=rfl
theorem T130:T 130=some F130:=rfl
theorem T136:T 136=some F136:=rfl
theorem T137:T 137=some F137:=rfl
theorem T142:T 142=some F142:=rfl
theorem T79:T 79=some FDo:=rfl
theorem b41:xp2 Tryz.prog T:=by
 intro f F h
 unfold T at h
 split at h
 ·cases h;exact .inl (lh3 Tryz.func3 F3_ok)
 ·cases h;exact .inl (lh3 Tryz.func4 F4_ok)
 ·cases h;exact .inl (lh3 Tryz.func6 F6_ok)
 ·cases h;exact .inl (lh3 Tryz.func7 F7_ok)
 ·cases h;exact .inl (lh3 Tryz.func8 F8_ok)
 ·cases h;exact .inl (lh3 Tryz.func9 F9_ok)
 ·cases h;exact .inl (lh3 Tryz.func10 F10_ok)
 ·cases h;exact .inl (lh3 Tryz.func11 F11_ok)
 ·cases h;exact .inl (lh3 Tryz.func12 F12_ok)
 ·cases h;exact .inl (lh3 Tryz.func13 F13_ok)
 ·cases h;exact .inl (lh3 Tryz.func14 F14_ok)
 ·cases h;exact .inl (lh3 Tryz.func15 F15_ok)
 ·cases h;exact .inl (lh3 Tryz.func16 F16_ok)
 ·cases h;exact .inl (lh3 Tryz.func17 F17_ok)
 ·cases h;exact .inl (lh3 Tryz.func18 F18_ok)
 ·cases h;exact .inl (lh3 Tryz.func19 F19_ok)
 ·cases h;exact .inl (lh3 Tryz.func20 F20_ok)
 ·cases h;exact .inl (lh3 Tryz.func21 F21_ok)
 ·cases h;exact .inl (lh3 Tryz.func22 F22_ok)
 ·cases h;exact .inl (lh3 Tryz.func23 F23_ok)
 ·cases h;exact .inl (lh3 Tryz.func25 F25_ok)
 ·cases h;exact .inl (lh3 Tryz.func36 F36_ok)
 ·cases h;exact .inl (lh3 Tryz.func37 F37_ok)
 ·cases h;exact .inl (lh3 Tryz.func38 F38_ok)
 ·cases h;exact .inl (lh3 Tryz.func39 F39_ok)
 ·cases h;exact .inl (lh3 Tryz.func40 F40_ok)
 ·cases h;exact .inl (lh3 Tryz.func41 F41_ok)
 ·cases h;exact .inl (lh3 Tryz.func42 F42_ok)
 ·cases h;exact .inl (lh3 Tryz.func43 F43_ok)
 ·cases h;exact .inl (lh3 Tryz.func44 F44_ok)
 ·cases h;exact .inl (lh3 Tryz.func45 F45_ok)
 ·cases h;exact .inl (lh3 Tryz.func46 F46_ok)
 ·cases h;exact .inl (lh3 Tryz.func47 F47_ok)
 ·cases h;exact .inl (lh3 Tryz.func48 F48_ok)
 ·cases h;exact .inl (lh3 Tryz.func49 F49_ok)
 ·cases h;exact .inl (lh3 Tryz.func50 F50_ok)
 ·cases h;exact .inl (lh3 Tryz.func51 F51_ok)
 ·cases h;exact .inl (lh3 Tryz.func52 F52_ok)
 ·cases h;exact .inl (lh3 Tryz.func53 F53_ok)
 ·cases h;exact .inl (lh3 Tryz.func54 F54_ok)
 ·cases h;exact .inl (lh3 Tryz.func55 F55_ok)
 ·cases h;exact .inl (lh3 Tryz.func56 F56_ok)
 ·cases h;exact .inl (lh3 Tryz.func57 F57_ok)
 ·cases h;exact .inl (lh3 Tryz.func58 F58_ok)
 ·cases h;exact .inl (lh3 Tryz.func59 F59_ok)
 ·cases h;exact .inl (lh3 Tryz.func60 F60_ok)
 ·cases h;exact .inl (lh3 Tryz.func62 F62_ok)
 ·cases h;exact .inl (lh3 Tryz.func66 F66_ok)
 ·cases h;exact .inr (tr1 rfl)
 ·cases h;exact .inl (lh3 Tryz.func80 F80_ok)
 ·cases h;exact .inl (lh3 Tryz.func81 F81_ok)
 ·cases h;exact .inl (lh3 Tryz.func82 F82_ok)
 ·cases h;exact .inl (lh3 Tryz.func83 F83_ok)
 ·cases h;exact .inl (lh3 Tryz.func84 F84_ok)
 ·cases h;exact .inl (lh3 Tryz.func85 F85_ok)
 ·cases h;exact .inl (lh3 Tryz.func86 F86_ok)
 ·cases h;exact .inl (lh3 Tryz.func87 F87_ok)
 ·cases h;exact .inl (lh3 Tryz.func88 F88_ok)
 ·cases h;exact .inl (lh3 Tryz.func89 F89_ok)
 ·cases h;exact .inl (lh3 Tryz.func90 F90_ok)
 ·cases h;exact .inl (lh3 Tryz.func91 F91_ok)
 ·cases h;exact .inl (lh3 Tryz.func92 F92_ok)
 ·cases h;exact .inl (lh3 Tryz.func93 F93_ok)
 ·cases h;exact .inl (lh3 Tryz.func94 F94_ok)
 ·cases h;exact .inl (lh3 Tryz.func95 F95_ok)
 ·cases h;exact .inl (lh3 Tryz.func96 F96_ok)
 ·cases h;exact .inl (lh3 Tryz.func97 F97_ok)
 ·cases h;exact .inl (lh3 Tryz.func98 F98_ok)
 ·cases h;exact .inl (lh3 Tryz.func99 F99_ok)
 ·cases h;exact .inl (lh3 Tryz.func101 F101_ok)
 ·cases h;exact .inl (lh3 Tryz.func103 F103_ok)
 ·cases h;exact .inl (lh3 Tryz.func104 F104_ok)
 ·cases h;exact .inl (lh3 Tryz.func105 F105_ok)
 ·cases h;exact .inl (lh3 Tryz.func106 F106_ok)
 ·cases h;exact .inl (lh3 Tryz.func107 F107_ok)
 ·cases h;exact .inl (lh3 Tryz.func117 F117_ok)
 ·cases h;exact .inl (lh3 Tryz.func119 F119_ok)
 ·cases h;exact .inl (lh3 Tryz.func122 F122_ok)
 ·cases h;exact .inl (lh3 Tryz.func123 F123_ok)
 ·cases h;exact .inl (lh3 Tryz.func124 F124_ok)
 ·cases h;exact .inl (lh3 Tryz.func125 F125_ok)
 ·cases h;exact .inl (lh3 Tryz.func126 F126_ok)
 ·cases h;exact .inl (lh3 Tryz.func127 F127_ok)
 ·cases h;exact .inl (lh3 Tryz.func128 F128_ok)
 ·cases h;exact .inl (lh3 Tryz.func129 F129_ok)
 ·cases h;exact .inl (lh3 Tryz.func130 F130_ok)
 ·cases h;exact .inl (lh3 Tryz.func136 F136_ok)
 ·cases h;exact .inl (lh3 Tryz.func137 F137_ok)
 ·cases h;exact .inl (lh3 Tryz.func142 F142_ok)
 ·cases h
theorem mixed:Tryz.prog.follows .mixedOrders=true:=by kernel_rfl
end Go.Proofs.YtmhbpecdpiapgaaGreat
