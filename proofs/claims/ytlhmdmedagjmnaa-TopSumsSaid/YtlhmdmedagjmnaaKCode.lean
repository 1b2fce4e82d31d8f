/-
  Functions of this seat as the small machine's code, written by a program of my own (gen.py); each is checked to be what the model's function is turned into. No condition.
-/
import Derived.Test.YtlhmdmedagjmnaaK4
import Derived.Test.YtlhmdmedagjmnaaKCode0
set_option linter.unusedVariables false
set_option linter.unusedSimpArgs false
set_option linter.unusedSectionVars false
set_option maxRecDepth 100000
namespace Go.Proofs.Ytlhmdmedagjmnaa
open Go.Am
def T:Tab
 |4=>some F4
 |10=>some F10
 |11=>some F11
 |15=>some F15
 |16=>some F16
 |17=>some F17
 |18=>some F18
 |19=>some F19
 |20=>some F20
 |22=>some F22
 |27=>some F27
 |31=>some F31
 |40=>some F40
 |44=>some F44
 |45=>some F45
 |48=>some F48
 |49=>some F49
 |50=>some F50
 |51=>some F51
 |58=>some F58
 |60=>some F60
 |61=>some F61
 |74=>some F74
 |83=>some F83
 |84=>some F84
 |85=>some F85
 |86=>some F86
 |87=>some F87
 |88=>some F88
 |89=>some F89
 |92=>some F92
 |93=>some FDo
 |94=>some F94
 |95=>some F95
 |96=>some F96
 |98=>some F98
 |100=>some F100
 |102=>some F102
 |109=>some F109
 |111=>some F111
 |115=>some F115
 |116=>some F116
 |117=>some F117
 |118=>some F118
 |130=>some F130
 |135=>some F135
 |_=>none
theorem T4:T 4=some F4:=rfl
theorem T10:T 10=some F10:=rfl
theorem T11:T 11=some F11:=rfl
theorem T15:T 15=some F15:=rfl
theorem T16:T 16=some F16:=rfl
theorem T17:T 17=some F17:=rfl
theorem T18:T 18=some F18:=rfl
theorem T19:T 19=some F19:=rfl
theorem T20:T 20=some F20:=rfl
theorem T22:T 22=some F22:=rfl
theorem T27:T 27=some F27:=rfl
theorem T31:T 31=some F31:=rfl
theorem T40:T 40=some F40:=rfl
theorem T44:T 44=some F44:=rfl
theorem T45:T 45=some F45:=rfl
theorem T48:T 48=some F48:=rfl
theorem T49:T 49=some F49:=rfl
theorem T50:T 50=some F50:=rfl
theorem T51:T 51=some F51:=rfl
theorem T58:T 58=some F58:=rfl
theorem T60:T 60=some F60:=rfl
theorem T61:T 61=some F61:=rfl
theorem T74:T 74=some F74:=rfl
theorem T83:T 83=some F83:=rfl
theorem T84:T 84=some F84:=rfl
theorem T85:T 85=some F85:=rfl
theorem T86:T 86=some F86:=rfl
theorem T87:T 87=some F87:=rfl
theorem T88:T 88=some F88:=rfl
theorem T89:T 89=some F89:=rfl
theorem T92:T 92=some F92:=rfl
theorem T94:T 94=some F94:=rfl
theorem T95:T 95=some F95:=rfl
theorem T96:T 96=some F96:=rfl
theorem T98:T 98=some F98:=rfl
theorem T100:T 100=some F100:=rfl
theorem T102:T 102=some F102:=rfl
theorem T109:T 109=some F109:=rfl
theorem T111:T 111=some F111:=rfl
theorem T115:T 115=some F115:=rfl
theorem T116:T 116=some F116:=rfl
theorem T117:T 117=some F117:=rfl
theorem T118:T 118=some F118:=rfl
theorem T130:T 130=some F130:=rfl
theorem T135:T 135=some F135:=rfl
theorem T93:T 93=some FDo:=rfl
theorem b41:xp2 Try.prog T:=by
 intro f F h
 unfold T at h
 split at h
 ·cases h;exact .inl (lh3 Try.func4 F4_ok)
 ·cases h;exact .inl (lh3 Try.func10 F10_ok)
 ·cases h;exact .inl (lh3 Try.func11 F11_ok)
 ·cases h;exact .inl (lh3 Try.func15 F15_ok)
 ·cases h;exact .inl (lh3 Try.func16 F16_ok)
 ·cases h;exact .inl (lh3 Try.func17 F17_ok)
 ·cases h;exact .inl (lh3 Try.func18 F18_ok)
 ·cases h;exact .inl (lh3 Try.func19 F19_ok)
 ·cases h;exact .inl (lh3 Try.func20 F20_ok)
 ·cases h;exact .inl (lh3 Try.func22 F22_ok)
 ·cases h;exact .inl (lh3 Try.func27 F27_ok)
 ·cases h;exact .inl (lh3 Try.func31 F31_ok)
 ·cases h;exact .inl (lh3 Try.func40 F40_ok)
 ·cases h;exact .inl (lh3 Try.func44 F44_ok)
 ·cases h;exact .inl (lh3 Try.func45 F45_ok)
 ·cases h;exact .inl (lh3 Try.func48 F48_ok)
 ·cases h;exact .inl (lh3 Try.func49 F49_ok)
 ·cases h;exact .inl (lh3 Try.func50 F50_ok)
 ·cases h;exact .inl (lh3 Try.func51 F51_ok)
 ·cases h;exact .inl (lh3 Try.func58 F58_ok)
 ·cases h;exact .inl (lh3 Try.func60 F60_ok)
 ·cases h;exact .inl (lh3 Try.func61 F61_ok)
 ·cases h;exact .inl (lh3 Try.func74 F74_ok)
 ·cases h;exact .inl (lh3 Try.func83 F83_ok)
 ·cases h;exact .inl (lh3 Try.func84 F84_ok)
 ·cases h;exact .inl (lh3 Try.func85 F85_ok)
 ·cases h;exact .inl (lh3 Try.func86 F86_ok)
 ·cases h;exact .inl (lh3 Try.func87 F87_ok)
 ·cases h;exact .inl (lh3 Try.func88 F88_ok)
 ·cases h;exact .inl (lh3 Try.func89 F89_ok)
 ·cases h;exact .inl (lh3 Try.func92 F92_ok)
 ·cases h;exact .inr (tr1 rfl)
 ·cases h;exact .inl (lh3 Try.func94 F94_ok)
 ·cases h;exact .inl (lh3 Try.func95 F95_ok)
 ·cases h;exact .inl (lh3 Try.func96 F96_ok)
 ·cases h;exact .inl (lh3 Try.func98 F98_ok)
 ·cases h;exact .inl (lh3 Try.func100 F100_ok)
 ·cases h;exact .inl (lh3 Try.func102 F102_ok)
 ·cases h;exact .inl (lh3 Try.func109 F109_ok)
 ·cases h;exact .inl (lh3 Try.func111 F111_ok)
 ·cases h;exact .inl (lh3 Try.func115 F115_ok)
 ·cases h;exact .inl (lh3 Try.func116 F116_ok)
 ·cases h;exact .inl (lh3 Try.func117 F117_ok)
 ·cases h;exact .inl (lh3 Try.func118 F118_ok)
 ·cases h;exact .inl (lh3 Try.func130 F130_ok)
 ·cases h;exact .inl (lh3 Try.func135 F135_ok)
 ·cases h
theorem mixed:Try.prog.follows .mixedOrders=true:=by kernel_rfl
end Go.Proofs.Ytlhmdmedagjmnaa
