/-
  Small rings, each reckoned out. No condition.
-/
import Derived.Test.YtdmgkdaiegdfmaaRingCase
import Derived.KernelRfl
namespace Go.Proofs.Ytdmgkdaiegdfmaa
set_option maxRecDepth 100000
theorem ok_2_1 : okRing 2 1 = true := by kernel_rfl
theorem ok_2_3 : okRing 2 3 = true := by kernel_rfl
theorem ok_3_3 : okRing 3 3 = true := by kernel_rfl
theorem ok_3_6 : okRing 3 6 = true := by kernel_rfl
theorem ok_4_2 : okRing 4 2 = true := by kernel_rfl
theorem ok_4_3 : okRing 4 3 = true := by kernel_rfl
theorem ok_4_4 : okRing 4 4 = true := by kernel_rfl
theorem ok_6_1 : okRing 6 1 = true := by kernel_rfl
theorem ok_6_2 : okRing 6 2 = true := by kernel_rfl
theorem ok_8_3 : okRing 8 3 = true := by kernel_rfl
theorem ok_9_2 : okRing 9 2 = true := by kernel_rfl
end Go.Proofs.Ytdmgkdaiegdfmaa
