/-
  Small rings, each reckoned out. No condition.
-/
import Derived.Test.YtdmgkdaiegdfmaaRingCase
import Derived.KernelRfl
namespace Go.Proofs.Ytdmgkdaiegdfmaa
set_option maxRecDepth 100000
theorem ok_2_9 : okRing 2 9 = true := by kernel_rfl
theorem ok_3_1 : okRing 3 1 = true := by kernel_rfl
theorem ok_3_2 : okRing 3 2 = true := by kernel_rfl
theorem ok_3_5 : okRing 3 5 = true := by kernel_rfl
theorem ok_5_1 : okRing 5 1 = true := by kernel_rfl
theorem ok_5_2 : okRing 5 2 = true := by kernel_rfl
theorem ok_5_3 : okRing 5 3 = true := by kernel_rfl
theorem ok_5_4 : okRing 5 4 = true := by kernel_rfl
theorem ok_8_1 : okRing 8 1 = true := by kernel_rfl
theorem ok_10_1 : okRing 10 1 = true := by kernel_rfl
theorem ok_10_3 : okRing 10 3 = true := by kernel_rfl
end Go.Proofs.Ytdmgkdaiegdfmaa
