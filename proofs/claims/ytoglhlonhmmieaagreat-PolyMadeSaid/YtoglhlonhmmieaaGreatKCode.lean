/-
  Functions of this seat as the small machine's code, written by a program of my own (gen.py); each is checked to be what the model's function is turned into. No condition.
-/
import Derived.Test.YtoglhlonhmmieaaGreatK4
import Derived.Test.YtoglhlonhmmieaaGreatKCode0
import Derived.Test.YtoglhlonhmmieaaGreatKCode1
import Derived.Test.YtoglhlonhmmieaaGreatKCode2
set_option linter.unusedVariables false
set_option linter.unusedSimpArgs false
set_option linter.unusedSectionVars false
set_option maxRecDepth 100000
namespace Go.Proofs.YtoglhlonhmmieaaGreat
open Go.Am
def T:Tab
 |3=>some F3
 |4=>some F4
 |5=>some F5
 |6=>some F6
 |7=>some F7
 |8=>some F8
 |9=>some F9
 |10=>some F10
 |11=>some F11
 |12=>some F12
 |13=>some F13
 |14=>some F14
 |15=>some F15
 |16=>some F16
 |17=>some F17
 |18=>some F18
 |19=>some F19
 |20=>some F20
 |21=>some F21
 |22=>some F22
 |23=>some F23
 |24=>some F24
 |25=>some F25
 |26=>some F26
 |27=>some F27
 |28=>some F28
 |29=>some F29
 |30=>some F30
 |31=>some F31
 |32=>some F32
 |33=>some F33
 |34=>some F34
 |35=>some F35
 |36=>some F36
 |37=>some F37
 |38=>some F38
 |39=>some F39
 |40=>some F40
 |41=>some F41
 |42=>some F42
 |43=>some F43
 |44=>some F44
 |45=>some F45
 |46=>some F46
 |47=>some F47
 |48=>some F48
 |49=>some F49
 |50=>some F50
 |51=>some F51
 |52=>some F52
 |53=>some F53
 |54=>some F54
 |55=>some F55
 |56=>some F56
 |57=>some F57
 |58=>some FDo
 |59=>some F59
 |60=>some F60
 |61=>some F61
 |62=>some F62
 |63=>some F63
 |64=>some F64
 |65=>some F65
 |66=>some F66
 |67=>some F67
 |68=>some F68
 |69=>some F69
 |70=>some F70
 |71=>some F71
 |72=>some F72
 |73=>some F73
 |74=>some F74
 |75=>some F75
 |76=>some F76
 |77=>some F77
 |78=>some F78
 |81=>some F81
 |82=>some F82
 |83=>some F83
 |84=>some F84
 |85=>some F85
 |86=>some F86
 |91=>some F91
 |93=>some F93
 |94=>some F94
 |95=>some F95
 |96=>some F96
 |101=>some F101
 |_=>none
theorem T3:T 3=some F3:=rfl
theorem T4:T 4=some F4:=rfl
theorem T5:T 5=some F5:=rfl
theorem T6:T 6=some F6:=rfl
theorem T7:T 7=some F7:=rfl
theorem T8:T 8=some F8:=rfl
theorem T9:T 9=some F9:=rfl
theorem T10:T 10=some F10:=rfl
theorem T11:T 11=some F11:=rfl
theorem T12:T 12=some F12:=rfl
theorem T13:T 13=some F13:=rfl
theorem T14:T 14=some F14:=rfl
theorem T15:T 15=some F15:=rfl
theorem T16:T 16=some F16:=rfl
theorem T17:T 17=some F17:=rfl
theorem T18:T 18=some F18:=rfl
theorem T19:T 19=some F19:=rfl
theorem T20:T 20=some F20:=rfl
theorem T21:T 21=some F21:=rfl
theorem T22:T 22=some F22:=rfl
theorem T23:T 23=some F23:=rfl
theorem T24:T 24=some F24:=rfl
theorem T25:T 25=some F25:=rfl
theorem T26:T 26=some F26:=rfl
theorem T27:T 27=some F27:=rfl
theorem T28:T 28=some F28:=rfl
theorem T29:T 29=some F29:=rfl
theorem T30:T 30=some F30:=rfl
theorem T31:T 31=some F31:=rfl
theorem T32:T 32=some F32:=rfl
theorem T33:T 33=some F33:=rfl
theorem T34:T 34=some F34:=rfl
theorem T35:T 35=some F35:=rfl
theorem T36:T 36=some F36:=rfl
theorem T37:T 37=some F37:=rfl
theorem T38:T 38=some F38:=rfl
theorem T39:T 39=some F39:=rfl
theorem T40:T 40=some F40:=rfl
theorem T41:T 41=some F41:=rfl
theorem T42:T 42=some F42:=rfl
theorem T43:T 43=some F43:=rfl
theorem T44:T 44=some F44:=rfl
theorem T45:T 45=some F45:=rfl
theorem T46:T 46=some F46:=rfl
theorem T47:T 47=some F47:=rfl
theorem T48:T 48=some F48:=rfl
theorem T49:T 49=some F49:=rfl
theorem T50:T 50=some F50:=rfl
theorem T51:T 51=some F51:=rfl
theorem T52:T 52=some F52:=rfl
theorem T53:T 53=some F53:=rfl
theorem T54:T 54=some F54:=rfl
theorem T55:T 55=some F55:=rfl
theorem T56:T 56=some F56:=rfl
theorem T57:T 57=some F57:=rfl
theorem T59:T 59=some F59:=rfl
theorem T60:T 60=some F60:=rfl
theorem T61:T 61=some F61:=rfl
theorem T62:T 62=some F62:=rfl
theorem T63:T 63=some F63:=rfl
theorem T64:T 64=some F64:=rfl
theorem T65:T 65=some F65:=rfl
theorem T66:T 66=some F66:=rfl
theorem T67:T 67=some F67:=rfl
theorem T68:T 68=some F68:=rfl
theorem T69:T 69=some F69:=rfl
theorem T70:T 70=some F70:=rfl
theorem T71:T 71=some F71:=rfl
theorem T72:T 72=some F72:=rfl
theorem T73:T 73=some F73:=rfl
theorem T74:T 74=some F74:=rfl
theorem T75:T 75=some F75:=rfl
theorem T76:T 76=some F76:=rfl
theorem T77:T 77=some F77:=rfl
theorem T78:T 78=some F78:=rfl
theorem T81:T 81=some F81:=rfl
theorem T82:T 82=some F82:=rfl
theorem T83:T 83=some F83:=rfl
theorem T84:T 84=some F84:=rfl
theorem T85:T 85=some F85:=rfl
theorem T86:T 86=some F86:=rfl
theorem T91:T 91=some F91:=rfl
theorem T93:T 93=some F93:=rfl
theorem T94:T 94=some F94:=rfl
theorem T95:T 95=some F95:=rfl
theorem T96:T 96=some F96:=rfl
theorem T101:T 101=some F101:=rfl
theorem T58:T 58=some FDo:=rfl
theorem b41:xp2 Tryz.prog T:=by
 intro f F h
 unfold T at h
 split at h
 ·cases h;exact .inl (lh3 Tryz.func3 F3_ok)
 ·cases h;exact .inl (lh3 Tryz.func4 F4_ok)
 ·cases h;exact .inl (lh3 Tryz.func5 F5_ok)
 ·cases h;exact .inl (lh3 Tryz.func6 F6_ok)
 ·cases h;exact .inl (lh3 Tryz.func7 F7_ok)
 ·cases h;exact .inl (lh3 Tryz.func8 F8_ok)
 ·cases h;exact .inl (lh3 Tryz.func9 F9_ok)
 ·cases h;exact .inl (lh3 Tryz.func10 F10_ok)
 ·cases h;exact .inl (lh3 Tryz.func11 F11_ok)
 ·cases h;exact .inl (lh3 Tryz.func12 F12_ok)
 ·cases h;exact .inl (lh3 Tryz.func13 F13_ok)
 ·cases h;exact .inl (lh3 Tryz.func14 F14_ok)
 ·cases h;exact .inl (lh3 Tryz.func15 F15_ok)
 ·cases h;exact .inl (lh3 Tryz.func16 F16_ok)
 ·cases h;exact .inl (lh3 Tryz.func17 F17_ok)
 ·cases h;exact .inl (lh3 Tryz.func18 F18_ok)
 ·cases h;exact .inl (lh3 Tryz.func19 F19_ok)
 ·cases h;exact .inl (lh3 Tryz.func20 F20_ok)
 ·cases h;exact .inl (lh3 Tryz.func21 F21_ok)
 ·cases h;exact .inl (lh3 Tryz.func22 F22_ok)
 ·cases h;exact .inl (lh3 Tryz.func23 F23_ok)
 ·cases h;exact .inl (lh3 Tryz.func24 F24_ok)
 ·cases h;exact .inl (lh3 Tryz.func25 F25_ok)
 ·cases h;exact .inl (lh3 Tryz.func26 F26_ok)
 ·cases h;exact .inl (lh3 Tryz.func27 F27_ok)
 ·cases h;exact .inl (lh3 Tryz.func28 F28_ok)
 ·cases h;exact .inl (lh3 Tryz.func29 F29_ok)
 ·cases h;exact .inl (lh3 Tryz.func30 F30_ok)
 ·cases h;exact .inl (lh3 Tryz.func31 F31_ok)
 ·cases h;exact .inl (lh3 Tryz.func32 F32_ok)
 ·cases h;exact .inl (lh3 Tryz.func33 F33_ok)
 ·cases h;exact .inl (lh3 Tryz.func34 F34_ok)
 ·cases h;exact .inl (lh3 Tryz.func35 F35_ok)
 ·cases h;exact .inl (lh3 Tryz.func36 F36_ok)
 ·cases h;exact .inl (lh3 Tryz.func37 F37_ok)
 ·cases h;exact .inl (lh3 Tryz.func38 F38_ok)
 ·cases h;exact .inl (lh3 Tryz.func39 F39_ok)
 ·cases h;exact .inl (lh3 Tryz.func40 F40_ok)
 ·cases h;exact .inl (lh3 Tryz.func41 F41_ok)
 ·cases h;exact .inl (lh3 Tryz.func42 F42_ok)
 ·cases h;exact .inl (lh3 Tryz.func43 F43_ok)
 ·cases h;exact .inl (lh3 Tryz.func44 F44_ok)
 ·cases h;exact .inl (lh3 Tryz.func45 F45_ok)
 ·cases h;exact .inl (lh3 Tryz.func46 F46_ok)
 ·cases h;exact .inl (lh3 Tryz.func47 F47_ok)
 ·cases h;exact .inl (lh3 Tryz.func48 F48_ok)
 ·cases h;exact .inl (lh3 Tryz.func49 F49_ok)
 ·cases h;exact .inl (lh3 Tryz.func50 F50_ok)
 ·cases h;exact .inl (lh3 Tryz.func51 F51_ok)
 ·cases h;exact .inl (lh3 Tryz.func52 F52_ok)
 ·cases h;exact .inl (lh3 Tryz.func53 F53_ok)
 ·cases h;exact .inl (lh3 Tryz.func54 F54_ok)
 ·cases h;exact .inl (lh3 Tryz.func55 F55_ok)
 ·cases h;exact .inl (lh3 Tryz.func56 F56_ok)
 ·cases h;exact .inl (lh3 Tryz.func57 F57_ok)
 ·cases h;exact .inr (tr1 rfl)
 ·cases h;exact .inl (lh3 Tryz.func59 F59_ok)
 ·cases h;exact .inl (lh3 Tryz.func60 F60_ok)
 ·cases h;exact .inl (lh3 Tryz.func61 F61_ok)
 ·cases h;exact .inl (lh3 Tryz.func62 F62_ok)
 ·cases h;exact .inl (lh3 Tryz.func63 F63_ok)
 ·cases h;exact .inl (lh3 Tryz.func64 F64_ok)
 ·cases h;exact .inl (lh3 Tryz.func65 F65_ok)
 ·cases h;exact .inl (lh3 Tryz.func66 F66_ok)
 ·cases h;exact .inl (lh3 Tryz.func67 F67_ok)
 ·cases h;exact .inl (lh3 Tryz.func68 F68_ok)
 ·cases h;exact .inl (lh3 Tryz.func69 F69_ok)
 ·cases h;exact .inl (lh3 Tryz.func70 F70_ok)
 ·cases h;exact .inl (lh3 Tryz.func71 F71_ok)
 ·cases h;exact .inl (lh3 Tryz.func72 F72_ok)
 ·cases h;exact .inl (lh3 Tryz.func73 F73_ok)
 ·cases h;exact .inl (lh3 Tryz.func74 F74_ok)
 ·cases h;exact .inl (lh3 Tryz.func75 F75_ok)
 ·cases h;exact .inl (lh3 Tryz.func76 F76_ok)
 ·cases h;exact .inl (lh3 Tryz.func77 F77_ok)
 ·cases h;exact .inl (lh3 Tryz.func78 F78_ok)
 ·cases h;exact .inl (lh3 Tryz.func81 F81_ok)
 ·cases h;exact .inl (lh3 Tryz.func82 F82_ok)
 ·cases h;exact .inl (lh3 Tryz.func83 F83_ok)
 ·cases h;exact .inl (lh3 Tryz.func84 F84_ok)
 ·cases h;exact .inl (lh3 Tryz.func85 F85_ok)
 ·cases h;exact .inl (lh3 Tryz.func86 F86_ok)
 ·cases h;exact .inl (lh3 Tryz.func91 F91_ok)
 ·cases h;exact .inl (lh3 Tryz.func93 F93_ok)
 ·cases h;exact .inl (lh3 Tryz.func94 F94_ok)
 ·cases h;exact .inl (lh3 Tryz.func95 F95_ok)
 ·cases h;exact .inl (lh3 Tryz.func96 F96_ok)
 ·cases h;exact .inl (lh3 Tryz.func101 F101_ok)
 ·cases h
theorem mixed:Tryz.prog.follows .mixedOrders=true:=by kernel_rfl
end Go.Proofs.YtoglhlonhmmieaaGreat
