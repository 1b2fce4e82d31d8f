/-
  TopMatrix answers true, in the second machine. Conditions: arguments as Go has them.
  A law's arguments in the second machine. No condition.
  TopMatrix answers true, in the first machine. Conditions: arguments as memory has them.
-/
import Derived.Test.YtjpejkakodbchaaK6
set_option linter.unusedVariables false
set_option linter.unusedSimpArgs false
set_option linter.unusedSectionVars false
set_option maxRecDepth 100000
namespace Go.Proofs.Ytjpejkakodbchaa
open Go.Am Go.Vm Go.Alg
theorem z36 {q : Int} {l : List (El q)} {i : Nat} {x : El q} (h : l[i]? = some x) : vs (l.take (i + 1)) = vs (l.take i) ++ [x.v] := by
  rw [List.take_add_one, h, gq8]; rfl
theorem we9 {α β : Type} (f : α → β) {l : List α} {i : Nat} {x : α} (h : l[i]? = some x) : (l.take (i + 1)).map f = (l.take i).map f ++ [f x] := by
  rw [List.take_add_one, h, List.map_append]; rfl
section
variable {q : Int} [IsFld q] {M : List (List (El q))} {n : Nat}
theorem ub3 (hr : ∀ r ∈ M, r.length = n) (hM : M.length ≤ 7) {k : Nat} (hk : k < n) (hn : n ≤ 7) {T : Tree} : ∀ (d i : Nat), i + d = M.length → ∀ ks,
    vgoL W ⟨h11, [.tmp 8], 0⟩ [1, 2, 3, 9, 10, 11, 12, 13] c11L0 (.blk 2 [1, 2, 3, 9, 10, 11, 12] :: ks) [(1, .x (.int .i64 q)), (2, .x (.int .i64 M.length)), (3, .x (.int .i64 n)), (9, .own 0 []), (10, .own 1 []), (11, .x (.int .i64 k)), (12, .own 2 []), (13, .x (.int .i64 i))] [.sl 1 23 1 (lls 2 (M.map vs)), T, .sl 1 3 1 (ivs (vs ((M.map fun r => wf r k).take i)))] =
      vgo W ⟨h11, [.tmp 8], 0⟩ ks (VFr.of [(1, .x (.int .i64 q)), (2, .x (.int .i64 M.length)), (3, .x (.int .i64 n)), (9, .own 0 []), (10, .own 1 []), (11, .x (.int .i64 k)), (12, .own 2 [])]) [.sl 1 23 1 (lls 2 (M.map vs)), T, .sl 1 3 1 (ivs (vs (M.map fun r => wf r k)))]
  | 0, i, hi, ks => by
    rw [List.take_of_length_le (by rw [List.length_map]; omega), sb5 c11L0.eq_def]
    simp (disch := first | omega | fail) only [push_cast, seval, ui5, lu7, y81, bj9, wrap64, dec_lt, cw6, nl2, qc6, mr8, nb8, if_pos, if_neg]
  | d + 1, i, hi, ks => by
    have ih := ub3 hr hM hk hn (T := T) d (i + 1) (by omega) ks
    obtain ⟨r, hri⟩ := ge6 (l := M) (i := i) (by omega)
    have h1 := mla (nl := 2) hri
    have hrl := hr r (List.mem_of_getElem? hri)
    have h2 := iva (l := r) (i := k) (by omega)
    rw [Int.natCast_add, Int.natCast_one, z36 (x := wf r k) (by rw [List.getElem?_map, hri]; rfl)] at ih
    rw [← ih, sb5 c11L0.eq_def]
    simp (disch := first | omega | fail) only [push_cast, seval, ui5, lu7, y81, bj9, wrap64, dec_lt, cw6, nl2, qc6, mr8, nb8, if_pos, if_neg, h1, h2, hrl, List.length_map, fi2]
theorem s68 (hr : ∀ r ∈ M, r.length = n) (hM : M.length ≤ 7) (hn : n ≤ 7) : ∀ (d k : Nat), k + d = n → ∀ ks,
    vgoL W ⟨h11, [.tmp 8], 0⟩ [1, 2, 3, 9, 10, 11] c11L1 (.blk 0 [1, 2, 3, 9, 10] :: ks) [(1, .x (.int .i64 q)), (2, .x (.int .i64 M.length)), (3, .x (.int .i64 n)), (9, .own 0 []), (10, .own 1 []), (11, .x (.int .i64 k))] [.sl 1 23 1 (lls 2 (M.map vs)), .sl 1 23 1 (lls 2 (((w89 n M).take k).map vs))] =
      vgo W ⟨h11, [.tmp 8], 0⟩ ks (VFr.of [(1, .x (.int .i64 q)), (2, .x (.int .i64 M.length)), (3, .x (.int .i64 n)), (9, .own 0 []), (10, .own 1 [])]) [.sl 1 23 1 (lls 2 (M.map vs)), .sl 1 23 1 (lls 2 ((w89 n M).map vs))]
  | 0, k, hk, ks => by
    rw [List.take_of_length_le (by rw [f08]; omega), sb5 c11L1.eq_def]
    simp (disch := first | omega | fail) only [push_cast, seval, ui5, lu7, y81, bj9, wrap64, dec_lt, cw6, nl2, qc6, mr8, nb8, if_pos, if_neg]
  | d + 1, k, hk, ks => by
    have ih := s68 hr hM hn d (k + 1) (by omega) ks
    have e := fun T ks => ub3 (q := q) hr hM (k := k) (by omega) hn (T := T) M.length 0 (by omega) ks
    simp only [Int.natCast_zero, List.take_zero, List.drop_zero, rp2, lz6, x25, List.map_nil, List.length_nil] at e
    have hl := f08 n M
    rw [Int.natCast_add, Int.natCast_one, we9 vs (m62 (M := M) (j := k) (by omega))] at ih
    rw [← ih, sb5 c11L1.eq_def]
    simp (disch := first | omega | fail) only [push_cast, seval, ui5, lu7, y81, bj9, wrap64, dec_lt, cw6, nl2, qc6, mr8, nb8, if_pos, if_neg]
    rw [e]
    simp (disch := first | omega | fail) only [push_cast, seval, ui5, lu7, y81, bj9, wrap64, dec_lt, cw6, nl2, qc6, mr8, nb8, if_pos, if_neg, hl]
end
theorem v87 {b : Bool} {nl : Nat} {raw : List Int} (hl : raw.length ≤ 9223372036854775807) {q m n : Int} (q1 : -9223372036854775808 ≤ q) (q2 : q ≤ 9223372036854775807) (m1 : -9223372036854775808 ≤ m) (m2 : m ≤ 9223372036854775807) (n1 : -9223372036854775808 ≤ n) (n2 : n ≤ 9223372036854775807) :
    o24 W 11 [.fz b (.sl nl 0 1 (ivs raw)), .x (.int .i64 q), .x (.int .i64 m), .x (.int .i64 n)] [] = some (.x (.bool true), [], []) := by
  by_cases h256 : 256 < raw.length
  · rw [o10 rfl T11 rfl]
    unfold F11 c11
    simp (disch := first | omega | fail) only [push_cast, seval, ui5, lu7, y81, bj9, wrap64, dec_lt, cw6, nl2, qc6, mr8, nb8, if_pos, if_neg]
  · obtain ⟨z, hz, e0⟩ := jx7 q q1 q2
    obtain ⟨z1, z2, hfz⟩ := x14 hz
    haveI := hfz
    have p1 := s88 (n := 7) m1 m2 (by omega)
    have p2 := s88 (n := 7) n1 n2 (by omega)
    obtain ⟨m', hm, hm6⟩ := o99 (h58 (a := m) (n := 7) (by omega)).1 (h58 (a := m) (n := 7) (by omega)).2
    obtain ⟨n', hn, hn6⟩ := o99 (h58 (a := n) (n := 7) (by omega)).1 (h58 (a := n) (n := 7) (by omega)).2
    rw [hm] at p1
    rw [hn] at p2
    have hr : raw.length ≤ 9223372036854775807 := hl
    have a1 := fun b nl => g25 (b := b) (nl := nl) hr (frm := 0) (q := z) (by omega) (by omega) (by omega) (n := n' + 1) (m := m' + 1) (by omega) (by omega)
    obtain ⟨M, hM, hMl, hMr⟩ := fw6 (raw := raw) (frm := 0) (q := z) (n := n' + 1) (by omega) (m' + 1)
    rw [hM] at a1
    have e := fun ks => s68 (q := z) hMr (by omega) (by omega) (n' + 1) 0 (by omega) ks
    rw [hMl] at e
    simp only [Int.natCast_zero, List.take_zero, List.drop_zero, rp2, lz6, x25, List.map_nil, List.length_nil] at e
    have e1 := fun b nl nr => u33 (b := b) (nl := nl) (nr := nr) (N := M) (by omega) (by omega) hMr (by omega) (by omega)
    have e2 := fun b nl nr => u33 (b := b) (nl := nl) (nr := nr) (N := w89 (n' + 1) M) (n := m' + 1) (by rw [f08]; omega) (by rw [f08]; omega) (fun r hr => by rw [kh3 r hr, hMl]) (by omega) (by omega)
    rw [rp1 hMr] at e2
    have e3 := fun b nl nr => ss9 (b := b) (nl := nl) (nr := nr) (N := M) (by omega) (by omega) hMr (by omega) (by omega)
    have e4 := fun b nl nr => lq3 (b := b) (nl := nl) (nr := nr) (N := M) (by omega) (by omega) hMr (by omega) (by omega)
    have l1 := nu3 (zt5 (n' + 1) M)
    have l2 := nu3 (redR M)
    have l3 := ga8 (redR M)
    have k1 := (sw1 hMr).2.2.2
    have k2 := ew4 hMr
    have k3 : ((redR M).length : Int) + ((zt5 (n' + 1) M).length : Int) = 1 + (n' : Int) := by omega
    have k4 : ((redR M).length : Int) ≤ 1 + (m' : Int) := by omega
    simp only [Int.natCast_add, Int.natCast_one, Int.add_comm _ (1 : Int)] at a1 e
    rw [o10 rfl T11 rfl]
    unfold F11 c11
    simp (disch := first | omega | fail) only [push_cast, seval, ui5, lu7, y81, bj9, wrap64, dec_lt, cw6, nl2, qc6, mr8, nb8, if_pos, if_neg, e0, p1, p2, a1]
    rw [e]
    simp (disch := first | omega | fail) only [push_cast, seval, ui5, lu7, y81, bj9, wrap64, dec_lt, cw6, nl2, qc6, mr8, nb8, if_pos, if_neg, e1, e2, e3, e4, l1, l2, l3, k3, k4]
end Go.Proofs.Ytjpejkakodbchaa
namespace Go.Proofs.Ytjpejkakodbchaa
open Go.Am Go.Vm Go.Alg
section
variable {h : H} {l : List AV} {ws : List Value}
theorem a23 : Vm.VRL h [] (allZ h) (allZ h) [] [] := by rw [Vm.VRL]
theorem dp0 (r : Vm.VRL h [] (allZ h) (allZ h) l ws) (v : Value) : Vm.VRL h [] (allZ h) (allZ h) (.x v :: l) (v :: ws) := by
  rw [Vm.VRL]; exact ⟨v, ws, rfl, by rw [Vm.VR], r⟩
theorem qj4 {sa : Option Addr} {c : Nat} {zs : List Int} (hr : RdI h sa c zs) : ∀ o, sa.map (·.block) = some o → allZ h o := fun o ho => by
  rcases hr with ⟨rfl, _⟩ | ⟨_, o2, off, r2, rfl, h1, _⟩
  · cases ho
  · cases ho; exact h42 h1
theorem sk6 (r : Vm.VRL h [] (allZ h) (allZ h) l ws) {sa : Option Addr} {c : Nat} {zs : List Int} (hr : RdI h sa c zs) : Vm.VRL h [] (allZ h) (allZ h) (.fz true (.sl 2 0 1 (ivs zs)) :: l) (.slice sa zs.length c :: ws) := by
  rw [Vm.VRL]; exact ⟨_, ws, rfl, by rw [Vm.VR]; exact pd9 hr (qj4 hr), r⟩
end
end Go.Proofs.Ytjpejkakodbchaa
namespace Go.Proofs.Ytjpejkakodbchaa
open Go.Am Go.Vm Go.Alg
theorem gz6 (h : H) (s0 : Option Addr) (c0 : Nat) (z0 : List Int) (r0 : RdI h s0 c0 z0) (_ : ss4 h 1 s0 = true) (_ : z0.length ≤ 9223372036854775807) (a1 : Int) (_ : -9223372036854775808 ≤ a1) (_ : a1 ≤ 9223372036854775807) (a2 : Int) (_ : -9223372036854775808 ≤ a2) (_ : a2 ≤ 9223372036854775807) (a3 : Int) (_ : -9223372036854775808 ≤ a3) (_ : a3 ≤ 9223372036854775807) :
    ∃ h', call T 11 [.slice s0 z0.length c0, .int .i64 a1, .int .i64 a2, .int .i64 a3] h = some (.bool true, h') :=
  vlaw lw2 (sk6 (dp0 (dp0 (dp0 a23 _) _) _) r0) (by apply v87 <;> assumption)
end Go.Proofs.Ytjpejkakodbchaa
