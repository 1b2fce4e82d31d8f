/-
  Small rings, each reckoned out. No condition.
-/
import Derived.Test.YtdmgkdaiegdfmaaRingCase
import Derived.KernelRfl
namespace Go.Proofs.Ytdmgkdaiegdfmaa
set_option maxRecDepth 100000
theorem ok_2_6 : okRing 2 6 = true := by kernel_rfl
theorem ok_2_8 : okRing 2 8 = true := by kernel_rfl
theorem ok_2_10 : okRing 2 10 = true := by kernel_rfl
theorem ok_3_4 : okRing 3 4 = true := by kernel_rfl
theorem ok_7_2 : okRing 7 2 = true := by kernel_rfl
theorem ok_7_3 : okRing 7 3 = true := by kernel_rfl
end Go.Proofs.Ytdmgkdaiegdfmaa
