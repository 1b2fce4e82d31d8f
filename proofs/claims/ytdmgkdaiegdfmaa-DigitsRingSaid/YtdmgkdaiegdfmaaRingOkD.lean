/-
  Small rings, each reckoned out. No condition.
-/
import Derived.Test.YtdmgkdaiegdfmaaRingCase
import Derived.KernelRfl
namespace Go.Proofs.Ytdmgkdaiegdfmaa
set_option maxRecDepth 100000
theorem ok_2_2 : okRing 2 2 = true := by kernel_rfl
theorem ok_2_4 : okRing 2 4 = true := by kernel_rfl
theorem ok_2_5 : okRing 2 5 = true := by kernel_rfl
theorem ok_2_7 : okRing 2 7 = true := by kernel_rfl
theorem ok_4_1 : okRing 4 1 = true := by kernel_rfl
theorem ok_4_5 : okRing 4 5 = true := by kernel_rfl
theorem ok_6_3 : okRing 6 3 = true := by kernel_rfl
theorem ok_7_1 : okRing 7 1 = true := by kernel_rfl
theorem ok_8_2 : okRing 8 2 = true := by kernel_rfl
theorem ok_9_1 : okRing 9 1 = true := by kernel_rfl
theorem ok_9_3 : okRing 9 3 = true := by kernel_rfl
theorem ok_10_2 : okRing 10 2 = true := by kernel_rfl
end Go.Proofs.Ytdmgkdaiegdfmaa
