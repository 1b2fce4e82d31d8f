/-
  Own rows of numbers: made, written, read. No condition.
-/
import Derived.Test.YtammndhoillliaaAm23
namespace Go.Am

theorem own_set {hF G : H} {o : Nat} {zs : List Int} (hp : hF <+: G) (ho : hF.length ≤ o) (hr : G.row o = some ⟨ints zs, 3, 1, true⟩) {i : Nat} (hi : i < zs.length) (v : Int) :
    ∃ G1 : H, G.sts o i [.int .i64 v] = some G1 ∧ hF <+: G1 ∧ G1.row o = some ⟨ints (zs.set i v), 3, 1, true⟩ ∧ (∀ o', o ≠ o' → G1.row o' = G.row o') ∧ G1.length = G.length := by
  have es := sts_int hr (i := (i : Int)) (v := v) (by omega) (by omega)
  rw [Int.toNat_natCast] at es
  exact ⟨_, es, pre_set hp ho, row_set_same (row_some_lt hr), fun o' hne => row_set_other hne, List.length_set⟩
theorem own_ld {G : H} {o : Nat} {zs : List Int} (hr : G.row o = some ⟨ints zs, 3, 1, true⟩) {i : Nat} (hi : i < zs.length) : G.ld1 o i = some (.int .i64 (gi zs i)) := by
  have l := ld1_int hr (i := (i : Int)) (by omega) (by omega)
  rwa [Int.toNat_natCast] at l
theorem own_mk (h : H) (n : Nat) (v : Int) : ∃ G1 : H, h ++ [.row ⟨rep [.int .i64 v] n, 3, 1, true⟩] = G1 ∧ h <+: G1 ∧ G1.row h.length = some ⟨ints (List.replicate n v), 3, 1, true⟩ ∧ G1.length = h.length + 1 := by
  refine ⟨_, rfl, List.prefix_append _ _, ?_, len_push⟩
  rw [rep_int]; exact row_push_new
theorem own_rd {G : H} {o n : Nat} {zs : List Int} (hr : G.row o = some ⟨ints zs, 3, 1, true⟩) (hn : zs.length = n) : RdI G (some ⟨o, 0, none⟩) n zs := by
  subst hn; exact RdI.ofRow hr rfl
end Go.Am
