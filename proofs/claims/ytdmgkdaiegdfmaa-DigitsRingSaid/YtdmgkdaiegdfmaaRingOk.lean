/-
  All small rings. Conditions: q from 2 to 10, at most 1024 places.
-/
import Derived.Test.YtdmgkdaiegdfmaaRingOkA
import Derived.Test.YtdmgkdaiegdfmaaRingOkB
import Derived.Test.YtdmgkdaiegdfmaaRingOkC
import Derived.Test.YtdmgkdaiegdfmaaRingOkD
namespace Go.Proofs.Ytdmgkdaiegdfmaa
set_option linter.unusedVariables false
theorem ring_ok (q n : Nat) (h1 : 2 ≤ q) (h2 : q ≤ 10) (h3 : 1 ≤ n) (h4 : n ≤ 10) (h5 : q ^ n ≤ 1024) : okRing q n = true := by
  have hq : q = 2 ∨ q = 3 ∨ q = 4 ∨ q = 5 ∨ q = 6 ∨ q = 7 ∨ q = 8 ∨ q = 9 ∨ q = 10 := by omega
  have hn : n = 1 ∨ n = 2 ∨ n = 3 ∨ n = 4 ∨ n = 5 ∨ n = 6 ∨ n = 7 ∨ n = 8 ∨ n = 9 ∨ n = 10 := by omega
  rcases hq with rfl | rfl | rfl | rfl | rfl | rfl | rfl | rfl | rfl
  · rcases hn with rfl | rfl | rfl | rfl | rfl | rfl | rfl | rfl | rfl | rfl
    · exact ok_2_1
    · exact ok_2_2
    · exact ok_2_3
    · exact ok_2_4
    · exact ok_2_5
    · exact ok_2_6
    · exact ok_2_7
    · exact ok_2_8
    · exact ok_2_9
    · exact ok_2_10
  · rcases hn with rfl | rfl | rfl | rfl | rfl | rfl | rfl | rfl | rfl | rfl
    · exact ok_3_1
    · exact ok_3_2
    · exact ok_3_3
    · exact ok_3_4
    · exact ok_3_5
    · exact ok_3_6
    · exact absurd h5 (by decide)
    · exact absurd h5 (by decide)
    · exact absurd h5 (by decide)
    · exact absurd h5 (by decide)
  · rcases hn with rfl | rfl | rfl | rfl | rfl | rfl | rfl | rfl | rfl | rfl
    · exact ok_4_1
    · exact ok_4_2
    · exact ok_4_3
    · exact ok_4_4
    · exact ok_4_5
    · exact absurd h5 (by decide)
    · exact absurd h5 (by decide)
    · exact absurd h5 (by decide)
    · exact absurd h5 (by decide)
    · exact absurd h5 (by decide)
  · rcases hn with rfl | rfl | rfl | rfl | rfl | rfl | rfl | rfl | rfl | rfl
    · exact ok_5_1
    · exact ok_5_2
    · exact ok_5_3
    · exact ok_5_4
    · exact absurd h5 (by decide)
    · exact absurd h5 (by decide)
    · exact absurd h5 (by decide)
    · exact absurd h5 (by decide)
    · exact absurd h5 (by decide)
    · exact absurd h5 (by decide)
  · rcases hn with rfl | rfl | rfl | rfl | rfl | rfl | rfl | rfl | rfl | rfl
    · exact ok_6_1
    · exact ok_6_2
    · exact ok_6_3
    · exact absurd h5 (by decide)
    · exact absurd h5 (by decide)
    · exact absurd h5 (by decide)
    · exact absurd h5 (by decide)
    · exact absurd h5 (by decide)
    · exact absurd h5 (by decide)
    · exact absurd h5 (by decide)
  · rcases hn with rfl | rfl | rfl | rfl | rfl | rfl | rfl | rfl | rfl | rfl
    · exact ok_7_1
    · exact ok_7_2
    · exact ok_7_3
    · exact absurd h5 (by decide)
    · exact absurd h5 (by decide)
    · exact absurd h5 (by decide)
    · exact absurd h5 (by decide)
    · exact absurd h5 (by decide)
    · exact absurd h5 (by decide)
    · exact absurd h5 (by decide)
  · rcases hn with rfl | rfl | rfl | rfl | rfl | rfl | rfl | rfl | rfl | rfl
    · exact ok_8_1
    · exact ok_8_2
    · exact ok_8_3
    · exact absurd h5 (by decide)
    · exact absurd h5 (by decide)
    · exact absurd h5 (by decide)
    · exact absurd h5 (by decide)
    · exact absurd h5 (by decide)
    · exact absurd h5 (by decide)
    · exact absurd h5 (by decide)
  · rcases hn with rfl | rfl | rfl | rfl | rfl | rfl | rfl | rfl | rfl | rfl
    · exact ok_9_1
    · exact ok_9_2
    · exact ok_9_3
    · exact absurd h5 (by decide)
    · exact absurd h5 (by decide)
    · exact absurd h5 (by decide)
    · exact absurd h5 (by decide)
    · exact absurd h5 (by decide)
    · exact absurd h5 (by decide)
    · exact absurd h5 (by decide)
  · rcases hn with rfl | rfl | rfl | rfl | rfl | rfl | rfl | rfl | rfl | rfl
    · exact ok_10_1
    · exact ok_10_2
    · exact ok_10_3
    · exact absurd h5 (by decide)
    · exact absurd h5 (by decide)
    · exact absurd h5 (by decide)
    · exact absurd h5 (by decide)
    · exact absurd h5 (by decide)
    · exact absurd h5 (by decide)
    · exact absurd h5 (by decide)
end Go.Proofs.Ytdmgkdaiegdfmaa
