/-
  Functions of this seat as the small machine's code, written by a program of my own (gen.py); each is checked to be what the model's function is turned into. No condition.
-/
import Derived.Test.YtppbpgmdmiajcaaK5
import Derived.Test.YtppbpgmdmiajcaaKCode0
import Derived.Test.YtppbpgmdmiajcaaKCode1
set_option linter.unusedVariables false
set_option linter.unusedSimpArgs false
set_option linter.unusedSectionVars false
set_option maxRecDepth 100000
namespace Go.Proofs.Ytppbpgmdmiajcaa
open Go.Am
def T:Tab
 |3=>some F3
 |4=>some F4
 |5=>some F5
 |6=>some F6
 |7=>some F7
 |8=>some F8
 |9=>some F9
 |10=>some F10
 |11=>some F11
 |12=>some F12
 |13=>some F13
 |14=>some F14
 |15=>some F15
 |16=>some F16
 |17=>some F17
 |18=>some F18
 |19=>some F19
 |20=>some F20
 |21=>some F21
 |22=>some F22
 |23=>some F23
 |24=>some F24
 |25=>some FDel
 |26=>some F26
 |27=>some F27
 |28=>some F28
 |29=>some F29
 |30=>some F30
 |31=>some F31
 |32=>some F32
 |33=>some F33
 |34=>some F34
 |35=>some F35
 |36=>some F36
 |37=>some F37
 |38=>some F38
 |39=>some F39
 |40=>some F40
 |41=>some F41
 |42=>some F42
 |43=>some F43
 |44=>some F44
 |45=>some FDo
 |46=>some F46
 |47=>some F47
 |48=>some F48
 |49=>some F49
 |50=>some F50
 |51=>some F51
 |53=>some F53
 |54=>some F54
 |55=>some F55
 |56=>some F56
 |57=>some F57
 |58=>some F58
 |59=>some F59
 |60=>some F60
 |61=>some F61
 |62=>some F62
 |63=>some F63
 |64=>some F64
 |65=>some F65
 |68=>some F68
 |69=>some F69
 |70=>some F70
 |71=>some F71
 |72=>some F72
 |73=>some F73
 |74=>some F74
 |79=>some F79
 |84=>some F84
 |_=>none
theorem T3:T 3=some F3:=rfl
theorem T4:T 4=some F4:=rfl
theorem T5:T 5=some F5:=rfl
theorem T6:T 6=some F6:=rfl
theorem T7:T 7=some F7:=rfl
theorem T8:T 8=some F8:=rfl
theorem T9:T 9=some F9:=rfl
theorem T10:T 10=some F10:=rfl
theorem T11:T 11=some F11:=rfl
theorem T12:T 12=some F12:=rfl
theorem T13:T 13=some F13:=rfl
theorem T14:T 14=some F14:=rfl
theorem T15:T 15=some F15:=rfl
theorem T16:T 16=some F16:=rfl
theorem T17:T 17=some F17:=rfl
theorem T18:T 18=some F18:=rfl
theorem T19:T 19=some F19:=rfl
theorem T20:T 20=some F20:=rfl
theorem T21:T 21=some F21:=rfl
theorem T22:T 22=some F22:=rfl
theorem T23:T 23=some F23:=rfl
theorem T24:T 24=some F24:=rfl
theorem T26:T 26=some F26:=rfl
theorem T27:T 27=some F27:=rfl
theorem T28:T 28=some F28:=rfl
theorem T29:T 29=some F29:=rfl
theorem T30:T 30=some F30:=rfl
theorem T31:T 31=some F31:=rfl
theorem T32:T 32=some F32:=rfl
theorem T33:T 33=some F33:=rfl
theorem T34:T 34=some F34:=rfl
theorem T35:T 35=some F35:=rfl
theorem T36:T 36=some F36:=rfl
theorem T37:T 37=some F37:=rfl
theorem T38:T 38=some F38:=rfl
theorem T39:T 39=some F39:=rfl
theorem T40:T 40=some F40:=rfl
theorem T41:T 41=some F41:=rfl
theorem T42:T 42=some F42:=rfl
theorem T43:T 43=some F43:=rfl
theorem T44:T 44=some F44:=rfl
theorem T46:T 46=some F46:=rfl
theorem T47:T 47=some F47:=rfl
theorem T48:T 48=some F48:=rfl
theorem T49:T 49=some F49:=rfl
theorem T50:T 50=some F50:=rfl
theorem T51:T 51=some F51:=rfl
theorem T53:T 53=some F53:=rfl
theorem T54:T 54=some F54:=rfl
theorem T55:T 55=some F55:=rfl
theorem T56:T 56=some F56:=rfl
theorem T57:T 57=some F57:=rfl
theorem T58:T 58=some F58:=rfl
theorem T59:T 59=some F59:=rfl
theorem T60:T 60=some F60:=rfl
theorem T61:T 61=some F61:=rfl
theorem T62:T 62=some F62:=rfl
theorem T63:T 63=some F63:=rfl
theorem T64:T 64=some F64:=rfl
theorem T65:T 65=some F65:=rfl
theorem T68:T 68=some F68:=rfl
theorem T69:T 69=some F69:=rfl
theorem T70:T 70=some F70:=rfl
theorem T71:T 71=some F71:=rfl
theorem T72:T 72=some F72:=rfl
theorem T73:T 73=some F73:=rfl
theorem T74:T 74=some F74:=rfl
theorem T79:T 79=some F79:=rfl
theorem T84:T 84=some F84:=rfl
theorem T45:T 45=some FDo:=rfl
theorem T25:T 25=some FDel:=rfl
theorem b41:xp2 Try.prog T:=by
 intro f F h
 unfold T at h
 split at h
 ·cases h;exact .inl (lh3 Try.func3 F3_ok)
 ·cases h;exact .inl (lh3 Try.func4 F4_ok)
 ·cases h;exact .inl (lh3 Try.func5 F5_ok)
 ·cases h;exact .inl (lh3 Try.func6 F6_ok)
 ·cases h;exact .inl (lh3 Try.func7 F7_ok)
 ·cases h;exact .inl (lh3 Try.func8 F8_ok)
 ·cases h;exact .inl (lh3 Try.func9 F9_ok)
 ·cases h;exact .inl (lh3 Try.func10 F10_ok)
 ·cases h;exact .inl (lh3 Try.func11 F11_ok)
 ·cases h;exact .inl (lh3 Try.func12 F12_ok)
 ·cases h;exact .inl (lh3 Try.func13 F13_ok)
 ·cases h;exact .inl (lh3 Try.func14 F14_ok)
 ·cases h;exact .inl (lh3 Try.func15 F15_ok)
 ·cases h;exact .inl (lh3 Try.func16 F16_ok)
 ·cases h;exact .inl (lh3 Try.func17 F17_ok)
 ·cases h;exact .inl (lh3 Try.func18 F18_ok)
 ·cases h;exact .inl (lh3 Try.func19 F19_ok)
 ·cases h;exact .inl (lh3 Try.func20 F20_ok)
 ·cases h;exact .inl (lh3 Try.func21 F21_ok)
 ·cases h;exact .inl (lh3 Try.func22 F22_ok)
 ·cases h;exact .inl (lh3 Try.func23 F23_ok)
 ·cases h;exact .inl (lh3 Try.func24 F24_ok)
 ·cases h;exact .inr (a86 rfl)
 ·cases h;exact .inl (lh3 Try.func26 F26_ok)
 ·cases h;exact .inl (lh3 Try.func27 F27_ok)
 ·cases h;exact .inl (lh3 Try.func28 F28_ok)
 ·cases h;exact .inl (lh3 Try.func29 F29_ok)
 ·cases h;exact .inl (lh3 Try.func30 F30_ok)
 ·cases h;exact .inl (lh3 Try.func31 F31_ok)
 ·cases h;exact .inl (lh3 Try.func32 F32_ok)
 ·cases h;exact .inl (lh3 Try.func33 F33_ok)
 ·cases h;exact .inl (lh3 Try.func34 F34_ok)
 ·cases h;exact .inl (lh3 Try.func35 F35_ok)
 ·cases h;exact .inl (lh3 Try.func36 F36_ok)
 ·cases h;exact .inl (lh3 Try.func37 F37_ok)
 ·cases h;exact .inl (lh3 Try.func38 F38_ok)
 ·cases h;exact .inl (lh3 Try.func39 F39_ok)
 ·cases h;exact .inl (lh3 Try.func40 F40_ok)
 ·cases h;exact .inl (lh3 Try.func41 F41_ok)
 ·cases h;exact .inl (lh3 Try.func42 F42_ok)
 ·cases h;exact .inl (lh3 Try.func43 F43_ok)
 ·cases h;exact .inl (lh3 Try.func44 F44_ok)
 ·cases h;exact .inr (tr1 rfl)
 ·cases h;exact .inl (lh3 Try.func46 F46_ok)
 ·cases h;exact .inl (lh3 Try.func47 F47_ok)
 ·cases h;exact .inl (lh3 Try.func48 F48_ok)
 ·cases h;exact .inl (lh3 Try.func49 F49_ok)
 ·cases h;exact .inl (lh3 Try.func50 F50_ok)
 ·cases h;exact .inl (lh3 Try.func51 F51_ok)
 ·cases h;exact .inl (lh3 Try.func53 F53_ok)
 ·cases h;exact .inl (lh3 Try.func54 F54_ok)
 ·cases h;exact .inl (lh3 Try.func55 F55_ok)
 ·cases h;exact .inl (lh3 Try.func56 F56_ok)
 ·cases h;exact .inl (lh3 Try.func57 F57_ok)
 ·cases h;exact .inl (lh3 Try.func58 F58_ok)
 ·cases h;exact .inl (lh3 Try.func59 F59_ok)
 ·cases h;exact .inl (lh3 Try.func60 F60_ok)
 ·cases h;exact .inl (lh3 Try.func61 F61_ok)
 ·cases h;exact .inl (lh3 Try.func62 F62_ok)
 ·cases h;exact .inl (lh3 Try.func63 F63_ok)
 ·cases h;exact .inl (lh3 Try.func64 F64_ok)
 ·cases h;exact .inl (lh3 Try.func65 F65_ok)
 ·cases h;exact .inl (lh3 Try.func68 F68_ok)
 ·cases h;exact .inl (lh3 Try.func69 F69_ok)
 ·cases h;exact .inl (lh3 Try.func70 F70_ok)
 ·cases h;exact .inl (lh3 Try.func71 F71_ok)
 ·cases h;exact .inl (lh3 Try.func72 F72_ok)
 ·cases h;exact .inl (lh3 Try.func73 F73_ok)
 ·cases h;exact .inl (lh3 Try.func74 F74_ok)
 ·cases h;exact .inl (lh3 Try.func79 F79_ok)
 ·cases h;exact .inl (lh3 Try.func84 F84_ok)
 ·cases h
theorem mixed:Try.prog.follows .mixedOrders=true:=by kernel_rfl
end Go.Proofs.Ytppbpgmdmiajcaa
