/-
  Functions of this seat as the small machine's code, written by a program of my own (gen.py); each is checked to be what the model's function is turned into. No condition.
-/
import Derived.Test.YtoglhlonhmmieaaK4
import Derived.Test.YtoglhlonhmmieaaKCode0
import Derived.Test.YtoglhlonhmmieaaKCode1
set_option linter.unusedVariables false
set_option linter.unusedSimpArgs false
set_option linter.unusedSectionVars false
set_option maxRecDepth 100000
namespace Go.Proofs.Ytoglhlonhmmieaa
open Go.Am
def T:Tab
 |5=>some F5
 |14=>some F14
 |22=>some F22
 |23=>some F23
 |25=>some F25
 |26=>some F26
 |27=>some F27
 |28=>some F28
 |58=>some F58
 |60=>some F60
 |61=>some F61
 |62=>some F62
 |63=>some F63
 |64=>some F64
 |65=>some F65
 |66=>some F66
 |67=>some F67
 |68=>some F68
 |69=>some F69
 |70=>some F70
 |88=>some F88
 |97=>some F97
 |100=>some FDo
 |101=>some F101
 |102=>some F102
 |103=>some F103
 |104=>some F104
 |105=>some F105
 |106=>some F106
 |107=>some F107
 |108=>some F108
 |109=>some F109
 |110=>some F110
 |116=>some F116
 |120=>some F120
 |121=>some F121
 |122=>some F122
 |124=>some F124
 |125=>some F125
 |126=>some F126
 |127=>some F127
 |143=>some F143
 |155=>some F155
 |_=>none
theorem T5:T 5=some F5:=rfl
theorem T14:T 14=some F14:=rfl
theorem T22:T 22=some F22:=rfl
theorem T23:T 23=some F23:=rfl
theorem T25:T 25=some F25:=rfl
theorem T26:T 26=some F26:=rfl
theorem T27:T 27=some F27:=rfl
theorem T28:T 28=some F28:=rfl
theorem T58:T 58=some F58:=rfl
theorem T60:T 60=some F60:=rfl
theorem T61:T 61=some F61:=rfl
theorem T62:T 62=some F62:=rfl
theorem T63:T 63=some F63:=rfl
theorem T64:T 64=some F64:=rfl
theorem T65:T 65=some F65:=rfl
theorem T66:T 66=some F66:=rfl
theorem T67:T 67=some F67:=rfl
theorem T68:T 68=some F68:=rfl
theorem T69:T 69=some F69:=rfl
theorem T70:T 70=some F70:=rfl
theorem T88:T 88=some F88:=rfl
theorem T97:T 97=some F97:=rfl
theorem T101:T 101=some F101:=rfl
theorem T102:T 102=some F102:=rfl
theorem T103:T 103=some F103:=rfl
theorem T104:T 104=some F104:=rfl
theorem T105:T 105=some F105:=rfl
theorem T106:T 106=some F106:=rfl
theorem T107:T 107=some F107:=rfl
theorem T108:T 108=some F108:=rfl
theorem T109:T 109=some F109:=rfl
theorem T110:T 110=some F110:=rfl
theorem T116:T 116=some F116:=rfl
theorem T120:T 120=some F120:=rfl
theorem T121:T 121=some F121:=rfl
theorem T122:T 122=some F122:=rfl
theorem T124:T 124=some F124:=rfl
theorem T125:T 125=some F125:=rfl
theorem T126:T 126=some F126:=rfl
theorem T127:T 127=some F127:=rfl
theorem T143:T 143=some F143:=rfl
theorem T155:T 155=some F155:=rfl
theorem T100:T 100=some FDo:=rfl
theorem b41:xp2 Try.prog T:=by
 intro f F h
 unfold T at h
 split at h
 ·cases h;exact .inl (lh3 Try.func5 F5_ok)
 ·cases h;exact .inl (lh3 Try.func14 F14_ok)
 ·cases h;exact .inl (lh3 Try.func22 F22_ok)
 ·cases h;exact .inl (lh3 Try.func23 F23_ok)
 ·cases h;exact .inl (lh3 Try.func25 F25_ok)
 ·cases h;exact .inl (lh3 Try.func26 F26_ok)
 ·cases h;exact .inl (lh3 Try.func27 F27_ok)
 ·cases h;exact .inl (lh3 Try.func28 F28_ok)
 ·cases h;exact .inl (lh3 Try.func58 F58_ok)
 ·cases h;exact .inl (lh3 Try.func60 F60_ok)
 ·cases h;exact .inl (lh3 Try.func61 F61_ok)
 ·cases h;exact .inl (lh3 Try.func62 F62_ok)
 ·cases h;exact .inl (lh3 Try.func63 F63_ok)
 ·cases h;exact .inl (lh3 Try.func64 F64_ok)
 ·cases h;exact .inl (lh3 Try.func65 F65_ok)
 ·cases h;exact .inl (lh3 Try.func66 F66_ok)
 ·cases h;exact .inl (lh3 Try.func67 F67_ok)
 ·cases h;exact .inl (lh3 Try.func68 F68_ok)
 ·cases h;exact .inl (lh3 Try.func69 F69_ok)
 ·cases h;exact .inl (lh3 Try.func70 F70_ok)
 ·cases h;exact .inl (lh3 Try.func88 F88_ok)
 ·cases h;exact .inl (lh3 Try.func97 F97_ok)
 ·cases h;exact .inr (tr1 rfl)
 ·cases h;exact .inl (lh3 Try.func101 F101_ok)
 ·cases h;exact .inl (lh3 Try.func102 F102_ok)
 ·cases h;exact .inl (lh3 Try.func103 F103_ok)
 ·cases h;exact .inl (lh3 Try.func104 F104_ok)
 ·cases h;exact .inl (lh3 Try.func105 F105_ok)
 ·cases h;exact .inl (lh3 Try.func106 F106_ok)
 ·cases h;exact .inl (lh3 Try.func107 F107_ok)
 ·cases h;exact .inl (lh3 Try.func108 F108_ok)
 ·cases h;exact .inl (lh3 Try.func109 F109_ok)
 ·cases h;exact .inl (lh3 Try.func110 F110_ok)
 ·cases h;exact .inl (lh3 Try.func116 F116_ok)
 ·cases h;exact .inl (lh3 Try.func120 F120_ok)
 ·cases h;exact .inl (lh3 Try.func121 F121_ok)
 ·cases h;exact .inl (lh3 Try.func122 F122_ok)
 ·cases h;exact .inl (lh3 Try.func124 F124_ok)
 ·cases h;exact .inl (lh3 Try.func125 F125_ok)
 ·cases h;exact .inl (lh3 Try.func126 F126_ok)
 ·cases h;exact .inl (lh3 Try.func127 F127_ok)
 ·cases h;exact .inl (lh3 Try.func143 F143_ok)
 ·cases h;exact .inl (lh3 Try.func155 F155_ok)
 ·cases h
theorem mixed:Try.prog.follows .mixedOrders=true:=by kernel_rfl
end Go.Proofs.Ytoglhlonhmmieaa
