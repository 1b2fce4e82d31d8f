/-
  The document's Same, SameAll, Elements, the law's heavy, list, lists, num, in the second machine. Condition: lists that fit. Codes: words, messages, syndromes; two codes held together; in the second machine. Conditions: those of each theorem. Raw numbers turned to elements, lists and matrices; sizes of fields; in the second machine. Conditions: those of each theorem. Codes out of raw numbers; has  ..
-/
import Derived.Test.YtjpejkakodbchaaK6
set_option linter.unusedVariables false
set_option linter.unusedSimpArgs false
set_option linter.unusedSectionVars false
set_option maxRecDepth 100000
namespace Go.Proofs.Ytjpejkakodbchaa
open Go.Am Go.Vm Go.Alg
section
variable {b b' : Bool} {nl nl' nr nr' : Nat}
theorem ft0 {l k : List Int} (hl : l.length ≤ 9223372036854775806) (hk : k.length = l.length) : ∀ (d i : Nat), i + d = l.length → ∀ ks,
    vgoL W ⟨hNo, [.tmp 4], 0⟩ [0, 1, 5] c58L0 (.blk 0 [] :: ks) [(0, .fz b (.sl nl 0 1 (ivs l))), (1, .fz b' (.sl nl' 0 1 (ivs k))), (5, .x (.int .i64 i))] [] =
      if l.drop i = k.drop i then vgo W ⟨hNo, [.tmp 4], 0⟩ ks (VFr.of []) [] else some (.x (.bool false), [], [])
  | 0, i, hi, ks => by
    rw [oh9 (by omega), oh9 (by omega), if_pos rfl, sb5 c58L0.eq_def]
    simp (disch := first | omega | fail) only [push_cast, seval, ui5, lu7, y81, bj9, wrap64, dec_lt, cw6, nl3, qc6, mr8, nb8, if_pos, if_neg]
  | d + 1, i, hi, ks => by
    have ih := ft0 hl hk d (i + 1) (by omega) ks
    obtain ⟨a, ha⟩ := ge6 (l := l) (i := i) (by omega)
    obtain ⟨c, hc⟩ := ge6 (l := k) (i := i) (by omega)
    have h1 := iat ha
    have h2 := iat hc
    rw [ja1 ha, ja1 hc]
    rw [Int.natCast_add, Int.natCast_one] at ih
    by_cases h : a = c
    · have hiff : (a :: l.drop (i + 1) = c :: k.drop (i + 1)) = (l.drop (i + 1) = k.drop (i + 1)) := by rw [h]; simp
      simp only [hiff]
      rw [← ih, sb5 c58L0.eq_def]
      simp (disch := first | omega | fail) only [push_cast, seval, ui5, lu7, y81, bj9, wrap64, dec_lt, cw6, nl3, qc6, mr8, nb8, if_pos, if_neg, h1, h2, h]
    · rw [if_neg (by intro e; exact h (List.cons.inj e).1), sb5 c58L0.eq_def]
      simp (disch := first | omega | fail) only [push_cast, seval, ui5, lu7, y81, bj9, wrap64, dec_lt, cw6, nl3, qc6, mr8, nb8, if_pos, if_neg, h1, h2, nb8 h]
theorem nb2 {l k : List Int} (hl : l.length ≤ 9223372036854775806) : o24 W 58 [.fz b (.sl nl 0 1 (ivs l)), .fz b' (.sl nl' 0 1 (ivs k))] [] = some (.x (.bool (decide (l = k))), [], []) := by
  by_cases hk : k.length = l.length
  · have e := fun ks => ft0 (b := b) (b' := b') (nl := nl) (nl' := nl') hl hk l.length 0 (by omega) ks
    simp only [Int.natCast_zero, List.take_zero, List.drop_zero, rp2, lz6, x25, List.map_nil, List.length_nil] at e
    rw [o10 rfl T58 rfl]
    unfold F58 c58
    simp (disch := first | omega | fail) only [push_cast, seval, ui5, lu7, y81, bj9, wrap64, dec_lt, cw6, nl3, qc6, mr8, nb8, if_pos, if_neg, hk]
    rw [e]
    by_cases h : l = k
    · rw [if_pos h, decide_eq_true h]
      simp (disch := first | omega | fail) only [push_cast, seval, ui5, lu7, y81, bj9, wrap64, dec_lt, cw6, nl3, qc6, mr8, nb8, if_pos, if_neg]
    · rw [if_neg h, decide_eq_false h]
  · have h : ¬ l = k := fun e => hk (by rw [e])
    have h8 : ¬ (l.length : Int) = (k.length : Int) := by omega
    rw [decide_eq_false h, o10 rfl T58 rfl]
    unfold F58 c58
    simp (disch := first | omega | fail) only [push_cast, seval, ui5, lu7, y81, bj9, wrap64, dec_lt, cw6, nl3, qc6, mr8, nb8, if_pos, if_neg, nb8 h8]
theorem h39 {l k : List (List Int)} (hl : l.length ≤ 9223372036854775806) (he : ∀ r ∈ l, r.length ≤ 9223372036854775806) (hk : k.length = l.length) (hx : 83 = 83) : ∀ (d i : Nat), i + d = l.length → ∀ ks,
    vgoL W ⟨hNo, [.tmp 4], 0⟩ [0, 1, 5] c83L0 (.blk 0 [] :: ks) [(0, .fz b (.sl nl 0 1 (lvs nr l))), (1, .fz b' (.sl nl' 0 1 (lvs nr' k))), (5, .x (.int .i64 i))] [] =
      if l.drop i = k.drop i then vgo W ⟨hNo, [.tmp 4], 0⟩ ks (VFr.of []) [] else some (.x (.bool false), [], [])
  | 0, i, hi, ks => by
    rw [oh9 (by omega), oh9 (by omega), if_pos rfl, sb5 c83L0.eq_def]
    simp (disch := first | omega | fail) only [push_cast, seval, ui5, lu7, y81, bj9, wrap64, dec_lt, cw6, nl3, qc6, mr8, nb8, if_pos, if_neg]
  | d + 1, i, hi, ks => by
    have ih := h39 hl he hk hx d (i + 1) (by omega) ks
    obtain ⟨a, ha⟩ := ge6 (l := l) (i := i) (by omega)
    obtain ⟨c, hc⟩ := ge6 (l := k) (i := i) (by omega)
    have h1 := lat (nl := nr) ha
    have h2 := lat (nl := nr') hc
    have e := fun b b' nl nl' => nb2 (b := b) (b' := b') (nl := nl) (nl' := nl') (l := a) (k := c) (he a (List.mem_of_getElem? ha))
    rw [ja1 ha, ja1 hc]
    rw [Int.natCast_add, Int.natCast_one] at ih
    by_cases h : a = c
    · have hiff : (a :: l.drop (i + 1) = c :: k.drop (i + 1)) = (l.drop (i + 1) = k.drop (i + 1)) := by rw [h]; simp
      simp only [decide_eq_true h] at e
      simp only [hiff]
      rw [← ih, sb5 c83L0.eq_def]
      simp (disch := first | omega | fail) only [push_cast, seval, ui5, lu7, y81, bj9, wrap64, dec_lt, cw6, nl3, qc6, mr8, nb8, if_pos, if_neg, h1, h2, e]
    · simp only [decide_eq_false h] at e
      rw [if_neg (by intro e; exact h (List.cons.inj e).1), sb5 c83L0.eq_def]
      simp (disch := first | omega | fail) only [push_cast, seval, ui5, lu7, y81, bj9, wrap64, dec_lt, cw6, nl3, qc6, mr8, nb8, if_pos, if_neg, h1, h2, e]
theorem us3 {l k : List (List Int)} (hl : l.length ≤ 9223372036854775806) (he : ∀ r ∈ l, r.length ≤ 9223372036854775806) : o24 W 83 [.fz b (.sl nl 0 1 (lvs nr l)), .fz b' (.sl nl' 0 1 (lvs nr' k))] [] = some (.x (.bool (decide (l = k))), [], []) := by
  by_cases hk : k.length = l.length
  · have e := fun ks => h39 (b := b) (b' := b') (nl := nl) (nl' := nl') (nr := nr) (nr' := nr') hl he hk rfl l.length 0 (by omega) ks
    simp only [Int.natCast_zero, List.take_zero, List.drop_zero, rp2, lz6, x25, List.map_nil, List.length_nil] at e
    rw [o10 rfl T83 rfl]
    unfold F83 c83
    simp (disch := first | omega | fail) only [push_cast, seval, ui5, lu7, y81, bj9, wrap64, dec_lt, cw6, nl3, qc6, mr8, nb8, if_pos, if_neg, hk]
    rw [e]
    by_cases h : l = k
    · rw [if_pos h, decide_eq_true h]
      simp (disch := first | omega | fail) only [push_cast, seval, ui5, lu7, y81, bj9, wrap64, dec_lt, cw6, nl3, qc6, mr8, nb8, if_pos, if_neg]
    · rw [if_neg h, decide_eq_false h]
  · have h : ¬ l = k := fun e => hk (by rw [e])
    have h8 : ¬ (l.length : Int) = (k.length : Int) := by omega
    rw [decide_eq_false h, o10 rfl T83 rfl]
    unfold F83 c83
    simp (disch := first | omega | fail) only [push_cast, seval, ui5, lu7, y81, bj9, wrap64, dec_lt, cw6, nl3, qc6, mr8, nb8, if_pos, if_neg, nb8 h8]
section
variable {q : Int} [IsFld q]
end
end
end Go.Proofs.Ytjpejkakodbchaa
namespace Go.Proofs.Ytjpejkakodbchaa
open Go.Am Go.Vm Go.Alg
section
variable {q n q' n' e : Int} {nl nr nl' nr' : Nat} {M M' : List (List Int)}
theorem uh6 (hl : M.length ≤ 9223372036854775806) (hr : ∀ r ∈ M, r.length ≤ 9223372036854775806) :
    o24 W 59 [.agg [.x (.int .i64 q), .x (.int .i64 n), .fz true (.sl nl 0 1 (lvs nr M))], .agg [.x (.int .i64 q'), .x (.int .i64 n'), .fz true (.sl nl' 0 1 (lvs nr' M'))]] [] = some (.x (.bool (decide (q = q') && (decide (n = n') && decide (M = M')))), [], []) := by
  have e1 := fun b b' nl nl' nr nr' => us3 (b := b) (b' := b') (nl := nl) (nl' := nl') (nr := nr) (nr' := nr') (l := M) (k := M') hl hr
  rw [o10 rfl T59 rfl]
  unfold F59 c59
  by_cases h1 : q = q'
  · by_cases h2 : n = n'
    · rw [decide_eq_true h1, decide_eq_true h2, Bool.true_and, Bool.true_and]
      simp (disch := first | omega | fail) only [push_cast, seval, ui5, lu7, y81, bj9, wrap64, dec_lt, cw6, nl3, qc6, mr8, nb8, if_pos, if_neg, mr8 h1, mr8 h2, e1]
    · rw [decide_eq_true h1, decide_eq_false h2, Bool.true_and, Bool.false_and]
      simp (disch := first | omega | fail) only [push_cast, seval, ui5, lu7, y81, bj9, wrap64, dec_lt, cw6, nl3, qc6, mr8, nb8, if_pos, if_neg, mr8 h1, nb8 h2]
  · rw [decide_eq_false h1, Bool.false_and]
    simp (disch := first | omega | fail) only [push_cast, seval, ui5, lu7, y81, bj9, wrap64, dec_lt, cw6, nl3, qc6, mr8, nb8, if_pos, if_neg, nb8 h1]
end
section
variable {q : Int} [IsFld q] {k nl nr nl2 : Nat} {b : Bool} {N : List (List (El q))} {M : List (List Int)} {w : List Int}
def hk8 (q : Int) (k : Nat) (w : List Int) : Int := if w.length ≠ k then 6 else if (w.any fun v => !fok q v) = true then 2 else 0
theorem vf9 (a : List (El q)) : ((vs a).any fun v => !fok q v) = false := List.any_eq_false.2 fun z hz => by
  obtain ⟨x, _, rfl⟩ := List.mem_map.1 hz
  rw [x.ok]; decide
theorem op3 {a : List (El q)} (h : a.length = k) : hk8 q k (vs a) = 0 := by
  unfold hk8
  rw [fi2, if_neg (by simpa using h), vf9, if_neg (by decide)]
theorem vcwf {e : Nat} (v : Int) : o24 W 145 [.x (.int .i64 v), .fz b (.pt e [pF q])] [] = some (.x (.bool (!fok q v)), [], []) := by
  rw [o10 rfl T145 rfl]
  unfold F145 c145
  simp (disch := first | omega | fail) only [push_cast, seval, ui5, lu7, y81, bj9, wrap64, dec_lt, cw6, nl3, qc6, mr8, nb8, if_pos, if_neg]
theorem gd1 (hw : w.length ≤ 9223372036854775806) : o24 W 109 [.agg [.x (.int .i64 q), .x (.int .i64 k), .fz true (.sl nl 0 1 (lvs nr M))], .fz b (.sl nl2 0 1 (ivs w))] [] = some (.x (.int .i64 (hk8 q k w)), [], []) := by
  have hf := fun bl nl b e => eg0 (nl := nl) (l := w) (bl := bl) (k := 145) (b := b) (t := .pt e [pF q]) vcwf rfl hw
  unfold hk8
  rw [o10 rfl T109 rfl]
  unfold F109 c109
  by_cases h1 : w.length = k
  · rw [if_neg (by simpa using h1)]
    cases hany : (w.any fun v => !fok q v) with
    | true =>
      rw [hany] at hf
      rw [if_pos rfl]
      simp (disch := first | omega | fail) only [push_cast, seval, ui5, lu7, y81, bj9, wrap64, dec_lt, cw6, nl3, qc6, mr8, nb8, if_pos, if_neg, h1, hf]
    | false =>
      rw [hany] at hf
      rw [if_neg (by decide)]
      simp (disch := first | omega | fail) only [push_cast, seval, ui5, lu7, y81, bj9, wrap64, dec_lt, cw6, nl3, qc6, mr8, nb8, if_pos, if_neg, h1, hf]
  · rw [if_pos h1]
    have h2 : ¬ (w.length : Int) = (k : Int) := by omega
    simp (disch := first | omega | fail) only [push_cast, seval, ui5, lu7, y81, bj9, wrap64, dec_lt, cw6, nl3, qc6, mr8, nb8, if_pos, if_neg, nb8 h2]
def encL (k : Nat) (m : List (El q)) (R : List (List (El q))) : List (El q) := prow k m R 0 (List.replicate k 0)
theorem b87 (m : List (El q)) (R : List (List (El q))) : (encL k m R).length = k := by unfold encL; rw [kv3]; simp
theorem h23 {n : Int} {i : Nat} {m : List (El q)} {r : List (El q)} (hm : m.length ≤ 1000) (hr : r.length = k) (hk : k ≤ 1000) {T : Tree} : ∀ (d j : Nat) (x : List (El q)), j + d = k → x.length = k → ∀ ks,
    vgoL W ⟨hNo, [.tmp 6], 0⟩ [0, 4, 7, 9, 15, 16, 17, 26, 27, 28] c124L0 (.blk 2 [0, 4, 7, 15, 16, 17] :: ks) [(0, .fz true (pF q)), (4, .own 0 []), (7, .own 1 []), (9, .x (.int .i64 ((wf m i).v))), (15, .fz b (.sl nl2 0 1 (ivs (vs m)))), (16, .x (.int .i64 m.length)), (17, .x (.int .i64 i)), (26, .fz true (.sl nr 0 1 (ivs (vs r)))), (27, .x (.int .i64 k)), (28, .x (.int .i64 j))] [T, .sl 0 3 1 (ivs (vs x))] =
      vgo W ⟨hNo, [.tmp 6], 0⟩ ks (VFr.of [(0, .fz true (pF q)), (4, .own 0 []), (7, .own 1 []), (15, .fz b (.sl nl2 0 1 (ivs (vs m)))), (16, .x (.int .i64 m.length)), (17, .x (.int .i64 i))]) [T, .sl 0 3 1 (ivs (vs (mac (wf m i) r d j x)))]
  | 0, j, x, hj, hx, ks => by
    rw [mac, sb5 c124L0.eq_def]
    simp (disch := first | omega | fail) only [push_cast, seval, ui5, lu7, y81, bj9, wrap64, dec_lt, cw6, nl3, qc6, mr8, nb8, if_pos, if_neg]
  | d + 1, j, x, hj, hx, ks => by
    have ih := h23 (n := n) (i := i) (m := m) hm hr hk (T := T) d (j + 1) (x.set j (wf x j + wf m i * wf r j)) (by omega) (by rw [List.length_set]; exact hx) ks
    have h2 := iva (l := r) (i := j) (by omega)
    have h3 := iva (l := x) (i := j) (by omega)
    rw [Int.natCast_add, Int.natCast_one, ← g52, on0, ym6] at ih
    rw [mac, ← ih, sb5 c124L0.eq_def]
    simp (disch := first | omega | fail) only [push_cast, seval, ui5, lu7, y81, bj9, wrap64, dec_lt, cw6, nl3, qc6, mr8, nb8, if_pos, if_neg, h2, h3]
theorem ib4 {n : Int} {m : List (El q)} {R : List (List (El q))} (hm : m.length = R.length) (hmk : m.length ≤ 1000) (hR : ∀ r ∈ R, r.length = k) (hk : k ≤ 1000) : ∀ (d i : Nat) (x : List (El q)), i + d = m.length → x.length = k → ∀ ks,
    vgoL W ⟨hNo, [.tmp 6], 0⟩ [0, 4, 7, 15, 16, 17] c124L1 (.blk 0 [7] :: ks) [(0, .fz true (pF q)), (4, .own 0 []), (7, .own 1 []), (15, .fz b (.sl nl2 0 1 (ivs (vs m)))), (16, .x (.int .i64 m.length)), (17, .x (.int .i64 i))] [.pt 43 [.v (.int .i64 q), .v (.int .i64 n), .fz (.sl nl 0 1 (lvs nr (R.map vs)))], .sl 0 3 1 (ivs (vs x))] =
      vgo W ⟨hNo, [.tmp 6], 0⟩ ks (VFr.of [(7, .own 1 [])]) [.pt 43 [.v (.int .i64 q), .v (.int .i64 n), .fz (.sl nl 0 1 (lvs nr (R.map vs)))], .sl 0 3 1 (ivs (vs (prow k m (R.drop i) i x)))]
  | 0, i, x, hi, hx, ks => by
    rw [List.drop_eq_nil_of_le (by omega), prow, sb5 c124L1.eq_def]
    simp (disch := first | omega | fail) only [push_cast, seval, ui5, lu7, y81, bj9, wrap64, dec_lt, cw6, nl3, qc6, mr8, nb8, if_pos, if_neg]
  | d + 1, i, x, hi, hx, ks => by
    obtain ⟨r, hr⟩ := ge6 (l := R) (i := i) (by omega)
    have hrl := hR r (List.mem_of_getElem? hr)
    have ih := ib4 (n := n) hm hmk hR hk d (i + 1) (mac (wf m i) r k 0 x) (by omega) (by rw [ev4]; exact hx) ks
    have e := fun T ks => h23 (n := n) (b := b) (nr := nr) (nl2 := nl2) (i := i) (m := m) hmk hrl hk (T := T) k 0 x (by omega) hx ks
    simp only [Int.natCast_zero, List.take_zero, List.drop_zero, rp2, lz6, x25, List.map_nil, List.length_nil] at e
    have h1 := iva (l := m) (i := i) (by omega)
    have h2 := mva (nl := nr) hr
    rw [Int.natCast_add, Int.natCast_one] at ih
    rw [ja1 hr, prow, ← ih, sb5 c124L1.eq_def]
    simp (disch := first | omega | fail) only [push_cast, seval, ui5, lu7, y81, bj9, wrap64, dec_lt, cw6, nl3, qc6, mr8, nb8, if_pos, if_neg, h1, h2, hrl]
    rw [e]
    simp (disch := first | omega | fail) only [push_cast, seval, ui5, lu7, y81, bj9, wrap64, dec_lt, cw6, nl3, qc6, mr8, nb8, if_pos, if_neg]
theorem gm8 {m : List (El q)} {R : List (List (El q))} (hm : m.length = R.length) (hmk : m.length ≤ 1000) (hR : ∀ r ∈ R, r.length = k) (hk : k ≤ 1000) :
    o24 W 124 [.fz true (pF q), .agg [.x (.int .i64 q), .x (.int .i64 k), .fz true (.sl nl 0 1 (lvs nr (R.map vs)))], .fz b (.sl nl2 0 1 (ivs (vs m)))] [] = some (.own 0 [], [.sl 0 3 1 (ivs (vs (encL k m R)))], []) := by
  have e := fun ks => ib4 (q := q) (b := b) (nl := nl) (nr := nr) (nl2 := nl2) (n := k) hm hmk hR hk m.length 0 (List.replicate k 0) (by omega) (by simp) ks
  have hz : List.replicate k (0 : Int) = vs (List.replicate k (0 : El q)) := by rw [← qj2]; rfl
  simp only [Int.natCast_zero, List.take_zero, List.drop_zero, rp2, lz6, x25, List.map_nil, List.length_nil] at e
  unfold encL
  rw [o10 rfl T124 rfl]
  unfold F124 c124
  simp (disch := first | omega | fail) only [push_cast, seval, ui5, lu7, y81, bj9, wrap64, dec_lt, cw6, nl3, qc6, mr8, nb8, if_pos, if_neg, hz]
  rw [e]
  simp (disch := first | omega | fail) only [push_cast, seval, ui5, lu7, y81, bj9, wrap64, dec_lt, cw6, nl3, qc6, mr8, nb8, if_pos, if_neg]
theorem nn3 {e : Nat} (v : Int) : o24 W 123 [.x (.int .i64 v), .fz b (.pt e [pF q])] [] = some (.x (.bool (!fok q v)), [], []) := by
  rw [o10 rfl T123 rfl]
  unfold F123 c123
  simp (disch := first | omega | fail) only [push_cast, seval, ui5, lu7, y81, bj9, wrap64, dec_lt, cw6, nl3, qc6, mr8, nb8, if_pos, if_neg]
theorem wc4 (he : gi9 q k (N.map vs) = 0) (h0 : 0 < k) (hk : k ≤ 64) (hl : N.length ≤ 64) (hr : ∀ r ∈ N, r.length = k) {m : List (El q)} (hm : m.length = (redR N).length) :
    o24 W 69 [.agg [.x (.int .i64 q), .x (.int .i64 k), .fz true (.sl nl 0 1 (lvs nr (N.map vs)))], .fz b (.sl nl2 0 1 (ivs (vs m)))] [] = some (.tup [.own 0 [], .x (.int .i64 0)], [.sl 0 3 1 (ivs (vs (encL k m (p78 (redR N)))))], []) := by
  have e1 := fun nl nr => ob1 (nl := nl) (nr := nr) he h0 hk hl hr
  obtain ⟨r1, r2, _⟩ := bi2 hr
  have hle := ew4 hr
  have hf := fun bl nl b e => eg0 (nl := nl) (l := vs m) (bl := bl) (k := 123) (b := b) (t := .pt e [pF q]) nn3 rfl (by rw [fi2]; omega)
  simp only [vf9] at hf
  have e2 := fun b nl nr nl2 => gm8 (q := q) (b := b) (nl := nl) (nr := nr) (nl2 := nl2) (m := m) (R := p78 (redR N)) (by rw [gb2, hm]) (by omega) (zu4 r2) (by omega)
  rw [← lo1] at e2
  have h1 := nu3 (redR N)
  rw [o10 rfl T69 rfl]
  unfold F69 c69
  simp (disch := first | omega | fail) only [push_cast, seval, ui5, lu7, y81, bj9, wrap64, dec_lt, cw6, nl3, qc6, mr8, nb8, if_pos, if_neg, e1, h1, hm, hf, e2]
def synL (D : List (List (El q))) (w : List (El q)) : List (El q) := D.map fun r => sumN r.length fun j => wf r j * wf w j
theorem js8 (D : List (List (El q))) (w : List (El q)) : (synL D w).length = D.length := by simp [synL]
theorem ln6 {T10 : Tree} {n : Int} {D : List (List (El q))} {i : Nat} {r w : List (El q)} (hr : D[i]? = some r) (hrl : r.length = w.length) (hw : w.length ≤ 1000) (hD : D.length ≤ 1000) : ∀ (d j : Nat), j + d = r.length → ∀ ks,
    vgoL W ⟨h125, [.tmp 4, .tmp 5], 0⟩ [1, 8, 10, 13, 36, 37, 38, 42, 43, 44] c125L0 (.blk 2 [1, 8, 10, 13, 36, 37, 38] :: ks) [(1, .fz b (.sl nl2 0 1 (ivs (vs w)))), (8, .fz true (pF q)), (10, .own 0 []), (13, .x (.int .i64 ((sumN j fun j => wf r j * wf w j).v))), (36, .own 1 [2]), (37, .x (.int .i64 D.length)), (38, .x (.int .i64 i)), (42, .own 1 [2, i]), (43, .x (.int .i64 r.length)), (44, .x (.int .i64 j))] [T10, .pt 43 [.v (.int .i64 q), .v (.int .i64 n), .sl 2 23 1 (lls 2 (D.map vs))]] =
      vgo W ⟨h125, [.tmp 4, .tmp 5], 0⟩ ks (VFr.of [(1, .fz b (.sl nl2 0 1 (ivs (vs w)))), (8, .fz true (pF q)), (10, .own 0 []), (13, .x (.int .i64 ((sumN r.length fun j => wf r j * wf w j).v))), (36, .own 1 [2]), (37, .x (.int .i64 D.length)), (38, .x (.int .i64 i))]) [T10, .pt 43 [.v (.int .i64 q), .v (.int .i64 n), .sl 2 23 1 (lls 2 (D.map vs))]]
  | 0, j, hj, ks => by
    obtain rfl : j = r.length := by omega
    rw [sb5 c125L0.eq_def]
    simp (disch := first | omega | fail) only [push_cast, seval, ui5, lu7, y81, bj9, wrap64, dec_lt, cw6, nl3, qc6, mr8, nb8, if_pos, if_neg]
  | d + 1, j, hj, ks => by
    have ih := ln6 (T10 := T10) (n := n) hr hrl hw hD d (j + 1) (by omega) ks
    have h0 := mla (nl := 2) hr
    have h1 := iva (l := r) (i := j) (by omega)
    have h2 := iva (l := w) (i := j) (by omega)
    rw [Int.natCast_add, Int.natCast_one, cp9, on0, ym6] at ih
    rw [← ih, sb5 c125L0.eq_def]
    simp (disch := first | omega | fail) only [push_cast, seval, ui5, lu7, y81, bj9, wrap64, dec_lt, cw6, nl3, qc6, mr8, nb8, if_pos, if_neg, h0, h1, h2, hrl]
theorem mt1 {n : Int} {D : List (List (El q))} {w : List (El q)} (hD : ∀ r ∈ D, r.length = w.length) (hw : w.length ≤ 1000) (hDl : D.length ≤ 1000) : ∀ (d i : Nat), i + d = D.length → ∀ ks,
    vgoL W ⟨h125, [.tmp 4, .tmp 5], 0⟩ [1, 8, 10, 36, 37, 38] c125L1 (.blk 0 [10] :: ks) [(1, .fz b (.sl nl2 0 1 (ivs (vs w)))), (8, .fz true (pF q)), (10, .own 0 []), (36, .own 1 [2]), (37, .x (.int .i64 D.length)), (38, .x (.int .i64 i))] [.sl 1 3 1 (ivs (vs ((synL D w).take i))), .pt 43 [.v (.int .i64 q), .v (.int .i64 n), .sl 2 23 1 (lls 2 (D.map vs))]] =
      vgo W ⟨h125, [.tmp 4, .tmp 5], 0⟩ ks (VFr.of [(10, .own 0 [])]) [.sl 1 3 1 (ivs (vs (synL D w))), .pt 43 [.v (.int .i64 q), .v (.int .i64 n), .sl 2 23 1 (lls 2 (D.map vs))]]
  | 0, i, hi, ks => by
    rw [List.take_of_length_le (by rw [js8]; omega), sb5 c125L1.eq_def]
    simp (disch := first | omega | fail) only [push_cast, seval, ui5, lu7, y81, bj9, wrap64, dec_lt, cw6, nl3, qc6, mr8, nb8, if_pos, if_neg]
  | d + 1, i, hi, ks => by
    have ih := mt1 (n := n) hD hw hDl d (i + 1) (by omega) ks
    obtain ⟨r, hr⟩ := ge6 (l := D) (i := i) (by omega)
    have hrl := hD r (List.mem_of_getElem? hr)
    have h0 := mla (nl := 2) hr
    have hs := js8 D w
    have e := fun T10 ks => ln6 (b := b) (nl2 := nl2) (T10 := T10) (n := n) hr hrl hw hDl r.length 0 (by omega) ks
    rw [wr8, hc8] at e
    simp only [Int.natCast_zero, List.take_zero, List.drop_zero, rp2, lz6, x25, List.map_nil, List.length_nil] at e
    have hg : (synL D w)[i]? = some (sumN r.length fun j => wf r j * wf w j) := by unfold synL; rw [List.getElem?_map, hr]; rfl
    rw [Int.natCast_add, Int.natCast_one, List.take_add_one, hg, Option.toList_some, gq8, e55, rp2] at ih
    rw [← ih, sb5 c125L1.eq_def]
    simp (disch := first | omega | fail) only [push_cast, seval, ui5, lu7, y81, bj9, wrap64, dec_lt, cw6, nl3, qc6, mr8, nb8, if_pos, if_neg, h0]
    rw [e]
    simp (disch := first | omega | fail) only [push_cast, seval, ui5, lu7, y81, bj9, wrap64, dec_lt, cw6, nl3, qc6, mr8, nb8, if_pos, if_neg, hs]
theorem tq9 (he : gi9 q k (N.map vs) = 0) (h0 : 0 < k) (hk : k ≤ 64) (hl : N.length ≤ 64) (hr : ∀ r ∈ N, r.length = k) {w : List (El q)} (hw : w.length = k) :
    o24 W 125 [.agg [.x (.int .i64 q), .x (.int .i64 k), .fz true (.sl nl 0 1 (lvs nr (N.map vs)))], .fz b (.sl nl2 0 1 (ivs (vs w)))] [] = some (.tup [.own 0 [], .x (.int .i64 0)], [.sl 1 3 1 (ivs (vs (synL (p78 (zt5 k N)) w)))], []) := by
  have e1 := fun nl nr => x92 (nl := nl) (nr := nr) he h0 hk hl hr
  obtain ⟨n1, n2, _, n4⟩ := sw1 hr
  have e2 := fun nl nr b nl2 => gd1 (q := q) (k := k) (nl := nl) (nr := nr) (nl2 := nl2) (b := b) (M := N.map vs) (w := vs w) (by rw [fi2]; omega)
  simp only [op3 hw] at e2
  have e3 := fun ks => mt1 (q := q) (b := b) (nl2 := nl2) (n := k) (D := p78 (zt5 k N)) (w := w) (fun r hr => by rw [zu4 n2 r hr, hw]) (by omega) (by rw [gb2]; omega) (p78 (zt5 k N)).length 0 (by omega) ks
  rw [← lo1] at e3
  simp only [Int.natCast_zero, List.take_zero, List.drop_zero, rp2, lz6, x25, List.map_nil, List.length_nil] at e3
  have h1 := nu3 (zt5 k N)
  have h2 : (p78 (zt5 k N)).length = (zt5 k N).length := gb2
  rw [h2] at e3
  rw [o10 rfl T125 rfl]
  unfold F125 c125
  simp (disch := first | omega | fail) only [push_cast, seval, ui5, lu7, y81, bj9, wrap64, dec_lt, cw6, nl3, qc6, mr8, nb8, if_pos, if_neg, e1, e2, h1]
  rw [e3]
  simp (disch := first | omega | fail) only [push_cast, seval, ui5, lu7, y81, bj9, wrap64, dec_lt, cw6, nl3, qc6, mr8, nb8, if_pos, if_neg]
theorem aq6 (v : Int) : o24 W 126 [.x (.int .i64 v)] [] = some (.x (.bool (!decide (v = 0))), [], []) := by
  rw [o10 rfl T126 rfl]
  unfold F126 c126
  simp (disch := first | omega | fail) only [push_cast, seval, ui5, lu7, y81, bj9, wrap64, dec_lt, cw6, nl3, qc6, mr8, nb8, if_pos, if_neg]
end
end Go.Proofs.Ytjpejkakodbchaa
namespace Go.Proofs.Ytjpejkakodbchaa
open Go.Am Go.Vm Go.Alg
def pkI (a n : Int) : Int := (if a < 0 then -(a + 1) else a).tmod n
theorem h58 {a n : Int} (hn : 0 < n) : 0 ≤ pkI a n ∧ pkI a n < n := by
  unfold pkI
  split
  · exact ⟨Int.tmod_nonneg _ (by omega), Int.tmod_lt_of_pos _ hn⟩
  · exact ⟨Int.tmod_nonneg _ (by omega), Int.tmod_lt_of_pos _ hn⟩
def rwI (l : List Int) (i : Int) : Int := if l.length = 0 then i else IntKind.wrap .i64 (gi l (i.tmod l.length) + IntKind.wrap .i64 (IntKind.wrap .i64 (i.tdiv l.length) * 7919))
theorem ti9 (x : Int) : -9223372036854775808 ≤ IntKind.wrap .i64 x ∧ IntKind.wrap .i64 x ≤ 9223372036854775807 := by rw [IntKind.wrap_i64]; omega
theorem bd0 {l : List Int} {i : Int} (h0 : 0 ≤ i) (h1 : i ≤ 9223372036854775807) : -9223372036854775808 ≤ rwI l i ∧ rwI l i ≤ 9223372036854775807 := by
  unfold rwI
  split
  · omega
  · exact ti9 _
theorem cl0 {l : List Int} {i : Int} (h0 : 0 ≤ i) (h1 : i < l.length) : (ivs l)[i.toNat]? = some (.v (.int .i64 (gi l i))) := by
  have e : (ivs l)[i.toNat]? = some (.v (.int .i64 (gi l ((i.toNat : Nat) : Int)))) := ui5 (by omega)
  rwa [Int.toNat_of_nonneg h0] at e
theorem o99 {x : Int} (h0 : 0 ≤ x) {n : Int} (h : x < n) : ∃ k : Nat, x = (k : Int) ∧ (k : Int) < n := ⟨x.toNat, by omega, by omega⟩
section
variable {b : Bool} {nl : Nat} {raw : List Int}
theorem s88 {a n : Int} (h1 : -9223372036854775808 ≤ a) (h2 : a ≤ 9223372036854775807) (hn : 0 < n) : o24 W 23 [.x (.int .i64 a), .x (.int .i64 n)] [] = some (.x (.int .i64 (pkI a n)), [], []) := by
  have hz : ¬ n = 0 := by omega
  rw [o10 rfl T23 rfl]
  unfold F23 c23 pkI
  by_cases h0 : a < 0
  · rw [if_pos h0]
    simp (disch := first | omega | fail) only [push_cast, seval, ui5, lu7, y81, bj9, wrap64, dec_lt, cw6, nl3, qc6, mr8, nb8, if_pos, if_neg, nb8 hz, hz]
    rw [show (0 : Int) - (a + 1) = -(a + 1) by omega]
  · rw [if_neg h0]
    simp (disch := first | omega | fail) only [push_cast, seval, ui5, lu7, y81, bj9, wrap64, dec_lt, cw6, nl3, qc6, mr8, nb8, if_pos, if_neg, nb8 hz, hz]
theorem yc3 {i : Int} (hi : 0 ≤ i) (hl : raw.length ≤ 9223372036854775807) : o24 W 40 [.fz b (.sl nl 0 1 (ivs raw)), .x (.int .i64 i)] [] = some (.x (.int .i64 (rwI raw i)), [], []) := by
  rw [o10 rfl T40 rfl]
  unfold F40 c40 rwI
  by_cases h0 : raw.length = 0
  · rw [if_pos h0]
    have h0' : (raw.length : Int) = 0 := by omega
    simp (disch := first | omega | fail) only [push_cast, seval, ui5, lu7, y81, bj9, wrap64, dec_lt, cw6, nl3, qc6, mr8, nb8, if_pos, if_neg, h0']
  · rw [if_neg h0]
    have hz : ¬ (raw.length : Int) = 0 := by omega
    have b1 : 0 ≤ i.tmod raw.length := Int.tmod_nonneg _ hi
    have b2 : i.tmod raw.length < raw.length := Int.tmod_lt_of_pos _ (by omega)
    have e := cl0 b1 b2
    simp (disch := first | omega | fail) only [push_cast, seval, ui5, lu7, y81, bj9, wrap64, dec_lt, cw6, nl3, qc6, mr8, nb8, if_pos, if_neg, hz, nb8 hz, e]
def numV (raw : List Int) (frm q : Int) (k : Nat) : Int := pkI (rwI raw (frm + k)) q
def tv7 (raw : List Int) (frm q : Int) (n : Nat) : List Int := (List.range n).map (numV raw frm q)
theorem jd5 (raw : List Int) (frm q : Int) (n : Nat) : (tv7 raw frm q n).length = n := by simp [tv7]
theorem ce7 (raw : List Int) (frm q : Int) (n : Nat) : tv7 raw frm q (n + 1) = tv7 raw frm q n ++ [numV raw frm q n] := by unfold tv7; rw [List.range_succ, List.map_append]; rfl
theorem dm5 {raw : List Int} {frm q : Int} {n : Nat} (hq : 0 < q) : ∀ z ∈ tv7 raw frm q n, fok q z = true := fun z hz => by
  obtain ⟨k, _, rfl⟩ := List.mem_map.1 hz
  have := h58 (a := rwI raw (frm + k)) hq
  unfold numV fok
  rw [decide_eq_true this.1, decide_eq_true this.2]; rfl
theorem m61 {raw : List Int} {frm q : Int} {n : Nat} (hq : 0 < q) : ∃ l : List (El q), tv7 raw frm q n = vs l ∧ l.length = n := by
  obtain ⟨l, hl⟩ := n39 (dm5 (raw := raw) (frm := frm) (n := n) hq)
  exact ⟨l, hl, by rw [← fi2, ← hl, jd5]⟩
theorem yq2 (hrl : raw.length ≤ 9223372036854775807) {frm q : Int} (hf0 : 0 ≤ frm) (hf1 : frm ≤ 1000000000) (hq0 : 0 < q) {N : Nat} (hN : N ≤ 100000) : ∀ (d i : Nat), i + d = N → ∀ ks,
    vgoL W ⟨h25, [.tmp 8], 0⟩ [0, 1, 2, 3, 9, 10] c25L0 (.blk 0 [9] :: ks) [(0, .fz b (.sl nl 0 1 (ivs raw))), (1, .x (.int .i64 frm)), (2, .x (.int .i64 q)), (3, .x (.int .i64 N)), (9, .own 0 []), (10, .x (.int .i64 i))] [.sl 1 3 1 (ivs (tv7 raw frm q i))] =
      vgo W ⟨h25, [.tmp 8], 0⟩ ks (VFr.of [(9, .own 0 [])]) [.sl 1 3 1 (ivs (tv7 raw frm q N))]
  | 0, i, hi, ks => by
    obtain rfl : i = N := by omega
    rw [sb5 c25L0.eq_def]
    simp (disch := first | omega | fail) only [push_cast, seval, ui5, lu7, y81, bj9, wrap64, dec_lt, cw6, nl3, qc6, mr8, nb8, if_pos, if_neg]
  | d + 1, i, hi, ks => by
    have ih := yq2 hrl hf0 hf1 hq0 hN d (i + 1) (by omega) ks
    have e1 := fun b nl => yc3 (b := b) (nl := nl) (raw := raw) (i := frm + i) (by omega) hrl
    have hri := bd0 (l := raw) (i := frm + i) (by omega) (by omega)
    have e2 := s88 (n := q) hri.1 hri.2 hq0
    have hl := jd5 raw frm q i
    rw [Int.natCast_add, Int.natCast_one, ce7, numV] at ih
    rw [← ih, sb5 c25L0.eq_def]
    simp (disch := first | omega | fail) only [push_cast, seval, ui5, lu7, y81, bj9, wrap64, dec_lt, cw6, nl3, qc6, mr8, nb8, if_pos, if_neg, e1, e2, hl]
theorem vv4 (hrl : raw.length ≤ 9223372036854775807) {frm q : Int} (hf0 : 0 ≤ frm) (hf1 : frm ≤ 1000000000) (hq0 : 0 < q) {N : Nat} (hN : N ≤ 100000) : o24 W 25 [.fz b (.sl nl 0 1 (ivs raw)), .x (.int .i64 frm), .x (.int .i64 q), .x (.int .i64 N)] [] = some (.own 0 [], [.sl 1 3 1 (ivs (tv7 raw frm q N))], []) := by
  have e := fun ks => yq2 (b := b) (nl := nl) hrl hf0 hf1 hq0 hN N 0 (by omega) ks
  rw [show tv7 raw frm q 0 = [] from rfl] at e
  simp only [Int.natCast_zero, List.take_zero, List.drop_zero, rp2, lz6, x25, List.map_nil, List.length_nil] at e
  rw [o10 rfl T25 rfl]
  unfold F25 c25
  simp (disch := first | omega | fail) only [push_cast, seval, ui5, lu7, y81, bj9, wrap64, dec_lt, cw6, nl3, qc6, mr8, nb8, if_pos, if_neg]
  rw [e]
  simp (disch := first | omega | fail) only [push_cast, seval, ui5, lu7, y81, bj9, wrap64, dec_lt, cw6, nl3, qc6, mr8, nb8, if_pos, if_neg]
def ja8 (raw : List Int) (frm q : Int) (n m : Nat) : List (List Int) := (List.range m).map fun i : Nat => tv7 raw (frm + (i : Int) * (n : Int)) q n
theorem om4 (raw : List Int) (frm q : Int) (n m : Nat) : (ja8 raw frm q n m).length = m := by simp [ja8]
theorem ot3 (raw : List Int) (frm q : Int) (n m : Nat) : ja8 raw frm q n (m + 1) = ja8 raw frm q n m ++ [tv7 raw (frm + m * n) q n] := by unfold ja8; rw [List.range_succ, List.map_append]; rfl
theorem fw6 {raw : List Int} {frm q : Int} {n : Nat} (hq : 0 < q) : ∀ m, ∃ M : List (List (El q)), ja8 raw frm q n m = M.map vs ∧ M.length = m ∧ ∀ r ∈ M, r.length = n
  | 0 => ⟨[], rfl, rfl, fun r hr => by cases hr⟩
  | m + 1 => by
    obtain ⟨M, h1, h2, h3⟩ := fw6 (raw := raw) (frm := frm) (n := n) hq m
    obtain ⟨l, e1, e2⟩ := m61 (raw := raw) (frm := frm + m * n) (n := n) hq
    refine ⟨M ++ [l], by rw [ot3, h1, e1, List.map_append]; rfl, by rw [List.length_append, h2]; rfl, fun r hr => ?_⟩
    rcases List.mem_append.1 hr with h | h
    · exact h3 r h
    · rw [List.mem_singleton.1 h, e2]
theorem hy2 (hrl : raw.length ≤ 9223372036854775807) {frm q : Int} (hf0 : 0 ≤ frm) (hf1 : frm ≤ 1000000) (hq0 : 0 < q) {n m : Nat} (hn : n ≤ 200) (hm : m ≤ 200) : ∀ (d i : Nat), i + d = m → ∀ ks,
    vgoL W ⟨h24, [.tmp 10], 0⟩ [0, 1, 2, 3, 4, 11, 12] c24L0 (.blk 0 [11] :: ks) [(0, .fz b (.sl nl 0 1 (ivs raw))), (1, .x (.int .i64 frm)), (2, .x (.int .i64 q)), (3, .x (.int .i64 m)), (4, .x (.int .i64 n)), (11, .own 0 []), (12, .x (.int .i64 i))] [.sl 1 23 1 (lls 2 (ja8 raw frm q n i))] =
      vgo W ⟨h24, [.tmp 10], 0⟩ ks (VFr.of [(11, .own 0 [])]) [.sl 1 23 1 (lls 2 (ja8 raw frm q n m))]
  | 0, i, hi, ks => by
    obtain rfl : i = m := by omega
    rw [sb5 c24L0.eq_def]
    simp (disch := first | omega | fail) only [push_cast, seval, ui5, lu7, y81, bj9, wrap64, dec_lt, cw6, nl3, qc6, mr8, nb8, if_pos, if_neg]
  | d + 1, i, hi, ks => by
    have ih := hy2 hrl hf0 hf1 hq0 hn hm d (i + 1) (by omega) ks
    have hb : ((i * n : Nat) : Int) ≤ 40000 := by have := Nat.mul_le_mul (show i ≤ 200 by omega) hn; omega
    rw [Int.natCast_mul] at hb
    have hb0 : 0 ≤ (i : Int) * (n : Int) := Int.mul_nonneg (by omega) (by omega)
    have e1 := fun b nl => vv4 (b := b) (nl := nl) (frm := frm + i * n) (N := n) hrl (by omega) (by omega) hq0 (by omega)
    have hl := om4 raw frm q n i
    rw [Int.natCast_add, Int.natCast_one, ot3] at ih
    rw [← ih, sb5 c24L0.eq_def]
    simp (disch := first | omega | fail) only [push_cast, seval, ui5, lu7, y81, bj9, wrap64, dec_lt, cw6, nl3, qc6, mr8, nb8, if_pos, if_neg, e1, hl]
theorem g25 (hrl : raw.length ≤ 9223372036854775807) {frm q : Int} (hf0 : 0 ≤ frm) (hf1 : frm ≤ 1000000) (hq0 : 0 < q) {n m : Nat} (hn : n ≤ 200) (hm : m ≤ 200) : o24 W 24 [.fz b (.sl nl 0 1 (ivs raw)), .x (.int .i64 frm), .x (.int .i64 q), .x (.int .i64 m), .x (.int .i64 n)] [] = some (.own 0 [], [.sl 1 23 1 (lls 2 (ja8 raw frm q n m))], []) := by
  have e := fun ks => hy2 (b := b) (nl := nl) hrl hf0 hf1 hq0 hn hm m 0 (by omega) ks
  rw [show ja8 raw frm q n 0 = [] from rfl] at e
  simp only [Int.natCast_zero, List.take_zero, List.drop_zero, rp2, lz6, x25, List.map_nil, List.length_nil] at e
  rw [o10 rfl T24 rfl]
  unfold F24 c24
  simp (disch := first | omega | fail) only [push_cast, seval, ui5, lu7, y81, bj9, wrap64, dec_lt, cw6, nl3, qc6, mr8, nb8, if_pos, if_neg]
  rw [e]
  simp (disch := first | omega | fail) only [push_cast, seval, ui5, lu7, y81, bj9, wrap64, dec_lt, cw6, nl3, qc6, mr8, nb8, if_pos, if_neg]
end
def szN : Nat → Nat → List Int
  | 0, _ => []
  | n + 1, q => bif (fldN q).isSome then (q : Int) :: szN n (q + 1) else szN n (q + 1)
def szL : List Int := szN 63 2
theorem ho6 : (szL.all fun z => decide (2 ≤ z) && decide (z ≤ 64) && (fldN z.toNat).isSome) = true := by kernel_rfl
theorem x14 {z : Int} (hz : z ∈ szL) : 2 ≤ z ∧ z ≤ 64 ∧ IsFld z := by
  have := List.all_eq_true.1 ho6 z hz
  simp only [Bool.and_eq_true, decide_eq_true_eq] at this
  obtain ⟨⟨h1, h2⟩, h3⟩ := this
  obtain ⟨⟨p, m, g, mod⟩, hx⟩ := Option.isSome_iff_exists.1 h3
  exact ⟨h1, h2, ⟨p, m, g, mod, hx⟩⟩
end Go.Proofs.Ytjpejkakodbchaa
namespace Go.Proofs.Ytjpejkakodbchaa
open Go.Am Go.Vm Go.Alg
section
variable {k : FuncId} {p : Int → Bool} {l : List Int} {nl : Nat}
theorem ac4 (hk : ∀ v, o24 W k [.x (.int .i64 v)] [] = some (.x (.bool (p v)), [], [])) (hM : vM k = []) {bl : Bool} (hl : l.length ≤ 9223372036854775806) : ∀ (n i : Nat), i + n = l.length → ∀ ks,
    vgoL W ⟨hNo, [.tmp 4], 0⟩ [0, 1, 7, 8] c131L0 (.blk 0 [] :: ks) [(0, .fz bl (.sl nl 0 1 (ivs l))), (1, .fn k []), (7, .x (.int .i64 l.length)), (8, .x (.int .i64 i))] [] =
      if fidx p i (l.drop i) = -1 then vgo W ⟨hNo, [.tmp 4], 0⟩ ks (VFr.of []) [] else some (.x (.int .i64 (fidx p i (l.drop i))), [], [])
  | 0, i, hi, ks => by
    rw [oh9 (by omega), fidx, if_pos rfl, sb5 c131L0.eq_def]
    simp (disch := first | omega | fail) only [push_cast, seval, ui5, lu7, y81, bj9, wrap64, dec_lt, cw6, nl3, qc6, mr8, nb8, if_pos, if_neg]
  | n + 1, i, hi, ks => by
    have ih := ac4 hk hM (bl := bl) hl n (i + 1) (by omega) ks
    obtain ⟨a, ha⟩ := ge6 (l := l) (i := i) (by omega)
    have h1 := iat ha
    rw [ja1 ha, fidx]
    rw [Int.natCast_add, Int.natCast_one] at ih
    have hka := hk a
    cases hp : p a with
    | true =>
      rw [hp] at hka
      rw [if_pos rfl, if_neg (by omega), sb5 c131L0.eq_def]
      simp (disch := first | omega | fail) only [push_cast, seval, ui5, lu7, y81, bj9, wrap64, dec_lt, cw6, nl3, qc6, mr8, nb8, if_pos, if_neg, h1, hka, hM]
    | false =>
      rw [hp] at hka
      simp only [Bool.false_eq_true, if_false]
      rw [← ih, sb5 c131L0.eq_def]
      simp (disch := first | omega | fail) only [push_cast, seval, ui5, lu7, y81, bj9, wrap64, dec_lt, cw6, nl3, qc6, mr8, nb8, if_pos, if_neg, h1, hka, hM]
theorem rq1 (hk : ∀ v, o24 W k [.x (.int .i64 v)] [] = some (.x (.bool (p v)), [], [])) (hM : vM k = []) {bl : Bool} (hl : l.length ≤ 9223372036854775806) :
    o24 W 80 [.fz bl (.sl nl 0 1 (ivs l)), .fn k []] [] = some (.x (.bool (l.any p)), [], []) := by
  have e := fun nl ks => ac4 (nl := nl) hk hM (bl := bl) hl l.length 0 (by omega) ks
  simp only [Int.natCast_zero, List.take_zero, List.drop_zero, rp2, lz6, x25, List.map_nil, List.length_nil] at e
  have e2 : ∀ bl2 nl, bl2 = bl → o24 W 131 [.fz bl2 (.sl nl 0 1 (ivs l)), .fn k []] [] = some (.x (.int .i64 (fidx p 0 l)), [], []) := fun bl2 nl hb => by
    subst hb
    rw [o10 rfl T131 rfl]
    unfold F131 c131
    simp (disch := first | omega | fail) only [push_cast, seval, ui5, lu7, y81, bj9, wrap64, dec_lt, cw6, nl3, qc6, mr8, nb8, if_pos, if_neg]
    rw [e]
    by_cases h : fidx p 0 l = -1
    · rw [if_pos h, h]
      simp (disch := first | omega | fail) only [push_cast, seval, ui5, lu7, y81, bj9, wrap64, dec_lt, cw6, nl3, qc6, mr8, nb8, if_pos, if_neg]
    · rw [if_neg h]
  have e3 := fun nl => e2 bl nl rfl
  rw [o10 rfl T80 rfl]
  unfold F80 c80
  rw [← tl6 p 0 l]
  simp (disch := first | omega | fail) only [push_cast, seval, ui5, lu7, y81, bj9, wrap64, dec_lt, cw6, nl3, qc6, mr8, nb8, if_pos, if_neg, e3]
end
section
variable {q : Int} [IsFld q] {k nl nr nl2 : Nat} {b : Bool} {N : List (List (El q))}
theorem x79 (he : gi9 q k (N.map vs) = 0) (h0 : 0 < k) (hk : k ≤ 64) (hl : N.length ≤ 64) (hr : ∀ r ∈ N, r.length = k) {w : List (El q)} (hw : w.length = k) :
    o24 W 70 [.agg [.x (.int .i64 q), .x (.int .i64 k), .fz true (.sl nl 0 1 (lvs nr (N.map vs)))], .fz b (.sl nl2 0 1 (ivs (vs w)))] [] = some (.tup [.x (.bool (!((vs (synL (p78 (zt5 k N)) w)).any fun v => !decide (v = 0)))), .x (.int .i64 0)], [], []) := by
  have e1 := fun nl nr b nl2 => tq9 (nl := nl) (nr := nr) (b := b) (nl2 := nl2) he h0 hk hl hr hw
  obtain ⟨n1, n2, _, n4⟩ := sw1 hr
  have e2 := fun b nl => rq1 (nl := nl) (bl := b) (l := vs (synL (p78 (zt5 k N)) w)) (k := 126) aq6 rfl (by rw [fi2, js8, gb2]; omega)
  rw [o10 rfl T70 rfl]
  unfold F70 c70
  simp (disch := first | omega | fail) only [push_cast, seval, ui5, lu7, y81, bj9, wrap64, dec_lt, cw6, nl3, qc6, mr8, nb8, if_pos, if_neg, e1, e2]
end
def fewQ (q : Int) : Nat → Int → Bool
  | 0, _ => true
  | d + 1, n => if 4096 < n * q then false else fewQ q d (n * q)
theorem ev9 {q : Int} (h1 : 0 ≤ q) (h2 : q ≤ 64) {k : Nat} (hk : k ≤ 1000) : ∀ (d i : Nat) (n : Int), i + d = k → 0 ≤ n → n ≤ 4096 → ∀ ks,
    vgoL W ⟨hNo, [.tmp 4], 0⟩ [0, 1, 5, 6] c103L0 (.blk 0 [] :: ks) [(0, .x (.int .i64 q)), (1, .x (.int .i64 k)), (5, .x (.int .i64 n)), (6, .x (.int .i64 i))] [] = if fewQ q d n = true then vgo W ⟨hNo, [.tmp 4], 0⟩ ks (VFr.of []) [] else some (.x (.bool false), [], [])
  | 0, i, n, hi, hn, hn2, ks => by
    rw [fewQ, if_pos rfl, sb5 c103L0.eq_def]
    simp (disch := first | omega | fail) only [push_cast, seval, ui5, lu7, y81, bj9, wrap64, dec_lt, cw6, nl3, qc6, mr8, nb8, if_pos, if_neg]
  | d + 1, i, n, hi, hn, hn2, ks => by
    have hb0 : 0 ≤ n * q := Int.mul_nonneg hn h1
    have hb1 : n * q ≤ 4096 * 64 := Int.mul_le_mul hn2 h2 h1 (by decide)
    have hb2 : n * q ≤ 262144 := by omega
    rw [fewQ]
    by_cases h : 4096 < n * q
    · rw [if_pos h, if_neg (by decide), sb5 c103L0.eq_def]
      simp (disch := first | omega | fail) only [push_cast, seval, ui5, lu7, y81, bj9, wrap64, dec_lt, cw6, nl3, qc6, mr8, nb8, if_pos, if_neg, dec_lt h]
    · have ih := ev9 h1 h2 hk d (i + 1) (n * q) (by omega) hb0 (by omega) ks
      rw [Int.natCast_add, Int.natCast_one] at ih
      rw [if_neg h, ← ih, sb5 c103L0.eq_def]
      simp (disch := first | omega | fail) only [push_cast, seval, ui5, lu7, y81, bj9, wrap64, dec_lt, cw6, nl3, qc6, mr8, nb8, if_pos, if_neg, cw6 (Int.not_lt.1 h)]
theorem os1 {q : Int} (h1 : 0 ≤ q) (h2 : q ≤ 64) {k : Nat} (hk : k ≤ 1000) : o24 W 103 [.x (.int .i64 q), .x (.int .i64 k)] [] = some (.x (.bool (fewQ q k 1)), [], []) := by
  have e := fun ks => ev9 h1 h2 hk k 0 1 (by omega) (by decide) (by decide) ks
  simp only [Int.natCast_zero, List.take_zero, List.drop_zero, rp2, lz6, x25, List.map_nil, List.length_nil] at e
  rw [o10 rfl T103 rfl]
  unfold F103 c103
  simp (disch := first | omega | fail) only [push_cast, seval, ui5, lu7, y81, bj9, wrap64, dec_lt, cw6, nl3, qc6, mr8, nb8, if_pos, if_neg]
  rw [e]
  cases hz : fewQ q k 1 with
  | true =>
    rw [if_pos rfl]
    simp (disch := first | omega | fail) only [push_cast, seval, ui5, lu7, y81, bj9, wrap64, dec_lt, cw6, nl3, qc6, mr8, nb8, if_pos, if_neg]
  | false => rw [if_neg (by decide)]
theorem b49 {raw : List Int} {q n r : Int} (h1 : 0 ≤ q) (h2 : q ≤ 64) : ∀ (d m : Nat), m + d = 5 → ∃ m' : Nat, m' ≤ 5 ∧ ∀ (b : Bool) (nl : Nat) (T : Tree) ks,
    vgoL W ⟨hNo, [(.cell 8 true 3)], 0⟩ [0, 1, 2, 3, 8, 9] c66L0 (.blk 0 [0, 1, 2, 3, 8, 9] :: ks) [(0, .fz b (.sl nl 0 1 (ivs raw))), (1, .x (.int .i64 q)), (2, .x (.int .i64 n)), (3, .x (.int .i64 r)), (8, .own 0 []), (9, .x (.int .i64 m))] [T] = vgo W ⟨hNo, [(.cell 8 true 3)], 0⟩ ks (VFr.of [(0, .fz b (.sl nl 0 1 (ivs raw))), (1, .x (.int .i64 q)), (2, .x (.int .i64 n)), (3, .x (.int .i64 r)), (8, .own 0 []), (9, .x (.int .i64 m'))]) [T]
  | 0, m, hm => by
    have e1 := os1 h1 h2 (k := m + 1) (by omega)
    rw [Int.natCast_add, Int.natCast_one] at e1
    refine ⟨m, by omega, fun b nl T ks => ?_⟩
    obtain rfl : m = 5 := by omega
    rw [show ((5 : Nat) : Int) + 1 = 6 from rfl] at e1
    rw [sb5 c66L0.eq_def]
    cases hz : fewQ q (5 + 1) 1 with
    | true =>
      rw [hz] at e1
      simp (disch := first | omega | fail) only [push_cast, seval, ui5, lu7, y81, bj9, wrap64, dec_lt, cw6, nl3, qc6, mr8, nb8, if_pos, if_neg, e1]
    | false =>
      rw [hz] at e1
      simp (disch := first | omega | fail) only [push_cast, seval, ui5, lu7, y81, bj9, wrap64, dec_lt, cw6, nl3, qc6, mr8, nb8, if_pos, if_neg, e1]
  | d + 1, m, hm => by
    have e1 := os1 h1 h2 (k := m + 1) (by omega)
    rw [Int.natCast_add, Int.natCast_one] at e1
    obtain ⟨m', hm', ih⟩ := b49 (raw := raw) (n := n) (r := r) h1 h2 d (m + 1) (by omega)
    cases hz : fewQ q (m + 1) 1 with
    | true =>
      rw [hz] at e1
      refine ⟨m', hm', fun b nl T ks => ?_⟩
      have ih := ih b nl T ks
      rw [Int.natCast_add, Int.natCast_one] at ih
      rw [← ih, sb5 c66L0.eq_def]
      simp (disch := first | omega | fail) only [push_cast, seval, ui5, lu7, y81, bj9, wrap64, dec_lt, cw6, nl3, qc6, mr8, nb8, if_pos, if_neg, e1]
    | false =>
      rw [hz] at e1
      refine ⟨m, by omega, fun b nl T ks => ?_⟩
      rw [sb5 c66L0.eq_def]
      simp (disch := first | omega | fail) only [push_cast, seval, ui5, lu7, y81, bj9, wrap64, dec_lt, cw6, nl3, qc6, mr8, nb8, if_pos, if_neg, e1]
theorem u07 {z : Int} (h : szL.contains z = true) : z ∈ szL := by simpa using h
theorem ji4 {i : Int} (h0 : 0 ≤ i) (h1 : i < 6) : ∃ z, ([.v (.int .i64 2), .v (.int .i64 2), .v (.int .i64 3), .v (.int .i64 4), .v (.int .i64 5), .v (.int .i64 8)] : List Tree)[i.toNat]? = some (.v (.int .i64 z)) ∧ z ∈ szL := by
  have : i = 0 ∨ i = 1 ∨ i = 2 ∨ i = 3 ∨ i = 4 ∨ i = 5 := by omega
  rcases this with rfl | rfl | rfl | rfl | rfl | rfl
  · exact ⟨2, rfl, u07 (by kernel_rfl)⟩
  · exact ⟨2, rfl, u07 (by kernel_rfl)⟩
  · exact ⟨3, rfl, u07 (by kernel_rfl)⟩
  · exact ⟨4, rfl, u07 (by kernel_rfl)⟩
  · exact ⟨5, rfl, u07 (by kernel_rfl)⟩
  · exact ⟨8, rfl, u07 (by kernel_rfl)⟩
theorem lh4 {raw : List Int} (hrl : raw.length ≤ 9223372036854775807) {q n r : Int} (q1 : -9223372036854775808 ≤ q) (q2 : q ≤ 9223372036854775807) (n1 : -9223372036854775808 ≤ n) (n2 : n ≤ 9223372036854775807) (r1 : -9223372036854775808 ≤ r) (r2 : r ≤ 9223372036854775807) :
    ∃ (z : Int) (n' m' : Nat), z ∈ szL ∧ n' ≤ 11 ∧ m' ≤ 5 ∧ ∀ (b : Bool) (nl : Nat), o24 W 66 [.fz b (.sl nl 0 1 (ivs raw)), .x (.int .i64 q), .x (.int .i64 n), .x (.int .i64 r)] [] = some (.agg [.x (.int .i64 z), .x (.int .i64 ((n' + 1 : Nat) : Int)), .own 0 []], [.sl 2 23 1 (lls 2 (ja8 raw 0 z (n' + 1) m'))], []) := by
  have p1 := s88 (n := 6) q1 q2 (by omega)
  obtain ⟨z, hz, hzm⟩ := ji4 (h58 (a := q) (n := 6) (by omega)).1 (h58 (a := q) (n := 6) (by omega)).2
  have hq := h58 (a := q) (n := 6) (by omega)
  obtain ⟨z1, z2, hfz⟩ := x14 hzm
  have p2 := s88 (n := 12) n1 n2 (by omega)
  obtain ⟨n', hn, hn12⟩ := o99 (h58 (a := n) (n := 12) (by omega)).1 (h58 (a := n) (n := 12) (by omega)).2
  rw [hn] at p2
  obtain ⟨m, hm, e⟩ := b49 (raw := raw) (q := z) (n := 1 + (n' : Int)) (r := r) (by omega) (by omega) 5 0 rfl
  simp only [Int.natCast_zero] at e
  have p3 := s88 (n := (m : Int) + 1) r1 r2 (by omega)
  obtain ⟨m', hm', hm6⟩ := o99 (h58 (a := r) (n := (m : Int) + 1) (by omega)).1 (h58 (a := r) (n := (m : Int) + 1) (by omega)).2
  rw [hm'] at p3
  refine ⟨z, n', m', hzm, by omega, by omega, fun b nl => ?_⟩
  have a1 := fun b nl => g25 (b := b) (nl := nl) hrl (frm := 0) (q := z) (by omega) (by omega) (by omega) (n := n' + 1) (m := m') (by omega) (by omega)
  simp only [Int.natCast_add, Int.natCast_one, Int.add_comm _ (1 : Int)] at a1 p3
  rw [o10 rfl T66 rfl]
  unfold F66 c66
  simp (disch := first | omega | fail) only [push_cast, seval, ui5, lu7, y81, bj9, wrap64, dec_lt, cw6, nl3, qc6, mr8, nb8, if_pos, if_neg, p1, hz, p2]
  rw [e]
  simp (disch := first | omega | fail) only [push_cast, seval, ui5, lu7, y81, bj9, wrap64, dec_lt, cw6, nl3, qc6, mr8, nb8, if_pos, if_neg, p3, a1, Int.add_comm _ (1 : Int)]
end Go.Proofs.Ytjpejkakodbchaa
namespace Go.Proofs.Ytjpejkakodbchaa
open Go.Am Go.Vm Go.Alg
section
variable {K : Type} [FK K] {k : Nat}
theorem q35 (c : K) {w x : List K} (hw : w.length = k) (hx : x.length = k) : wf (mac c w k 0 x) = axp c (wf x) (wf w) := by
  funext i
  rw [ga7 _ _ _ _ _ _ (by omega)]
  show _ = wf x i + c * wf w i
  by_cases hi : i < k
  · rw [if_pos ⟨Nat.zero_le _, by omega⟩]
  · rw [if_neg (by omega), ez8 (l := w) (by omega), mul_zero, FK.add_zero]
theorem va8 {S : List (Nat → K)} {a : List K} : ∀ (Q : List (List K)) (i : Nat) (x : List K), x.length = k → (∀ r ∈ Q, r.length = k) → Span S (wf x) → (∀ r ∈ Q, Span S (wf r)) → Span S (wf (prow k a Q i x))
  | [], i, x, hx, _, h, _ => by rw [prow]; exact h
  | w :: Q, i, x, hx, hl, h, hr => by
    rw [prow]
    refine va8 Q (i + 1) _ (by rw [ev4]; exact hx) (fun r h => hl r (by simp [h])) ?_ fun r h => hr r (by simp [h])
    rw [q35 _ (hl w (by simp)) hx]
    exact h.axp (hr w (by simp)) _
theorem tj2 (n : Nat) : wf (List.replicate n (0 : K)) = fun _ => 0 := by
  funext i
  by_cases h : i < n
  · rw [jb3 (by simpa using h), List.getElem_replicate]
  · rw [ez8 (by simpa using h)]
end
section
variable {q : Int} [IsFld q] {k : Nat}
theorem wv8 {m : List (El q)} {R : List (List (El q))} (hR : ∀ r ∈ R, r.length = k) : Span (R.map wf) (wf (encL k m R)) := by
  unfold encL
  refine va8 R 0 _ (by simp) hR (by rw [tj2]; exact .zero) fun r hr => .mem (List.mem_map.2 ⟨r, hr, rfl⟩)
theorem ne0 {x y : List (El q)} (hx : x.length = k) : sumN x.length (fun j => wf x j * wf y j) = dotF k (wf x) (wf y) := by rw [hx]; rfl
end
theorem bj6 {raw ms : List Int} {b b' : Bool} {nl nl' : Nat} (hl : raw.length ≤ 9223372036854775807) (hl2 : ms.length ≤ 9223372036854775807) {q n r : Int} (q1 : -9223372036854775808 ≤ q) (q2 : q ≤ 9223372036854775807) (n1 : -9223372036854775808 ≤ n) (n2 : n ≤ 9223372036854775807) (r1 : -9223372036854775808 ≤ r) (r2 : r ≤ 9223372036854775807) :
    o24 W 12 [.fz b (.sl nl 0 1 (ivs raw)), .x (.int .i64 q), .x (.int .i64 n), .x (.int .i64 r), .fz b' (.sl nl' 0 1 (ivs ms))] [] = some (.x (.bool true), [], []) := by
  by_cases h256 : 256 < IntKind.wrap .i64 ((raw.length : Int) + (ms.length : Int))
  · rw [o10 rfl T12 rfl]
    unfold F12 c12
    simp (disch := first | omega | fail) only [push_cast, seval, ui5, lu7, y81, bj9, wrap64, dec_lt, cw6, nl3, qc6, mr8, nb8, if_pos, if_neg, dec_lt h256]
  · have h256' := cw6 (Int.not_lt.1 h256)
    obtain ⟨z, n', m', hz, hn, hm, e0⟩ := lh4 hl q1 q2 n1 n2 r1 r2
    obtain ⟨z1, z2, hfz⟩ := x14 hz
    haveI := hfz
    obtain ⟨M, hM, hMl, hMr⟩ := fw6 (raw := raw) (frm := 0) (q := z) (n := n' + 1) (by omega) m'
    rw [hM] at e0
    obtain ⟨k, hk⟩ : ∃ k, k = n' + 1 := ⟨_, rfl⟩
    rw [← hk] at e0 hMr
    have hcE := tc0 (q := z) (k := k) (by omega) (by omega) (by omega) hMr (sy6 (by omega) hMr (by omega) (by omega))
    obtain ⟨a1, a2, a3⟩ := bi2 hMr
    obtain ⟨b1, b2, b3, b4⟩ := sw1 hMr
    have hcD := tc0 (q := z) (k := k) (N := p78 (zt5 k M)) (by omega) (by omega) (by rw [gb2]; omega) (zu4 b2) (sy6 (by rw [gb2]; omega) (zu4 b2) (by omega) (by omega))
    have e1 := fun nl nr => ob1 (nl := nl) (nr := nr) hcE (by omega) (by omega) (by omega) hMr
    have e2 := fun nl nr => x92 (nl := nl) (nr := nr) hcE (by omega) (by omega) (by omega) hMr
    have e3 := fun nl nr => x92 (nl := nl) (nr := nr) hcD (by omega) (by omega) (by rw [gb2]; omega) (zu4 b2)
    rw [m63 hMr, ← lo1] at e3
    have hrk := ew4 hMr
    have e4 := fun nl nr nl' nr' => uh6 (q := z) (n := k) (q' := z) (n' := k) (M := pvR (redR M)) (M' := pvR (redR M)) (nl := nl) (nr := nr) (nl' := nl') (nr' := nr') (by rw [nu3]; omega) (fun r hr => by
      rw [lo1] at hr
      rw [ru4 (zu4 a2) r hr]; omega)
    simp only [decide_true, Bool.and_true] at e4
    have l1 := nu3 (redR M)
    have l2 := nu3 (zt5 k M)
    have hsum : ((redR M).length : Int) + ((zt5 k M).length : Int) = (k : Int) := by omega
    obtain ⟨u1, hu1, hu1l⟩ := m61 (raw := ms) (frm := 0) (q := z) (n := (redR M).length) (by omega)
    obtain ⟨u2, hu2, hu2l⟩ := m61 (raw := ms) (frm := 3) (q := z) (n := (zt5 k M).length) (by omega)
    have s1 := fun b nl => vv4 (b := b) (nl := nl) hl2 (frm := 0) (q := z) (by omega) (by omega) (by omega) (N := (redR M).length) (by omega)
    have s2 := fun b nl => vv4 (b := b) (nl := nl) hl2 (frm := 3) (q := z) (by omega) (by omega) (by omega) (N := (zt5 k M).length) (by omega)
    rw [hu1] at s1
    rw [hu2] at s2
    have e5 := fun nl nr b nl2 => wc4 (nl := nl) (nr := nr) (b := b) (nl2 := nl2) hcE (by omega) (by omega) (by omega) hMr hu1l
    have e6 := fun nl nr b nl2 => wc4 (nl := nl) (nr := nr) (b := b) (nl2 := nl2) (m := u2) hcD (by omega) (by omega) (by rw [gb2]; omega) (zu4 b2) (by rw [tq6 hMr, hu2l])
    rw [tq6 hMr, ← lo1] at e6
    have w1 := b87 (k := k) u1 (p78 (redR M))
    have w2 := b87 (k := k) u2 (p78 (zt5 k M))
    have p1 := wv8 (k := k) (m := u1) (zu4 a2)
    have p2 := wv8 (k := k) (m := u2) (zu4 b2)
    rw [z42] at p1 p2
    have e7 := fun nl nr b nl2 => x79 (nl := nl) (nr := nr) (b := b) (nl2 := nl2) hcE (by omega) (by omega) (by omega) hMr w1
    have hsyn : ((vs (synL (p78 (zt5 k M)) (encL k u1 (p78 (redR M))))).any fun v => !decide (v = 0)) = false := by
      refine List.any_eq_false.2 fun v hv => ?_
      obtain ⟨x, hx, rfl⟩ := List.mem_map.1 hv
      obtain ⟨r, hr, rfl⟩ := List.mem_map.1 hx
      obtain ⟨a, ha, rfl⟩ := List.mem_map.1 hr
      rw [ne0 (b2 a ha), sc2, ch2 hMr ((a3 _).1 p1) (.mem (he1.2 ⟨a, ha, rfl⟩)), hc8]
      decide
    rw [hsyn] at e7
    have e8 := fun b b' nl nl' => af6 (b := b) (b' := b') (nl := nl) (nl' := nl') (x := encL k u1 (p78 (redR M))) (o := encL k u2 (p78 (zt5 k M))) (by rw [w1, w2]) (by omega)
    rw [ne0 w1, ch2 hMr ((a3 _).1 p1) p2, hc8] at e8
    obtain ⟨p, m, g, t, u⟩ := k75 z
    have ht := u.n
    have ho := u.o
    have hfe := u.e
    rw [hfe] at e8
    rw [o10 rfl T12 rfl]
    unfold F12 c12
    simp (disch := first | omega | fail) only [push_cast, seval, ui5, lu7, y81, bj9, wrap64, dec_lt, cw6, nl3, qc6, mr8, nb8, if_pos, if_neg, h256', e0, e1, e2, e3, e4, e5, e6, e7, e8, s1, s2, l1, l2, hsum, w1, w2, hfe, ht, ho]
end Go.Proofs.Ytjpejkakodbchaa
namespace Go.Proofs.Ytjpejkakodbchaa
open Go.Am Go.Vm Go.Alg
section
variable {h : H} {l : List AV} {ws : List Value}
theorem a23 : Vm.VRL h [] (allZ h) (allZ h) [] [] := by rw [Vm.VRL]
theorem dp0 (r : Vm.VRL h [] (allZ h) (allZ h) l ws) (v : Value) : Vm.VRL h [] (allZ h) (allZ h) (.x v :: l) (v :: ws) := by
  rw [Vm.VRL]; exact ⟨v, ws, rfl, by rw [Vm.VR], r⟩
theorem qj4 {sa : Option Addr} {c : Nat} {zs : List Int} (hr : RdI h sa c zs) : ∀ o, sa.map (·.block) = some o → allZ h o := fun o ho => by
  rcases hr with ⟨rfl, _⟩ | ⟨_, o2, off, r2, rfl, h1, _⟩
  · cases ho
  · cases ho; exact h42 h1
theorem sk6 (r : Vm.VRL h [] (allZ h) (allZ h) l ws) {sa : Option Addr} {c : Nat} {zs : List Int} (hr : RdI h sa c zs) : Vm.VRL h [] (allZ h) (allZ h) (.fz true (.sl 2 0 1 (ivs zs)) :: l) (.slice sa zs.length c :: ws) := by
  rw [Vm.VRL]; exact ⟨_, ws, rfl, by rw [Vm.VR]; exact pd9 hr (qj4 hr), r⟩
end
end Go.Proofs.Ytjpejkakodbchaa
namespace Go.Proofs.Ytjpejkakodbchaa
open Go.Am Go.Vm Go.Alg
theorem l61 (h : H) (s0 : Option Addr) (c0 : Nat) (z0 : List Int) (r0 : RdI h s0 c0 z0) (_ : ss4 h 1 s0 = true) (_ : z0.length ≤ 9223372036854775807) (a1 : Int) (_ : -9223372036854775808 ≤ a1) (_ : a1 ≤ 9223372036854775807) (a2 : Int) (_ : -9223372036854775808 ≤ a2) (_ : a2 ≤ 9223372036854775807) (a3 : Int) (_ : -9223372036854775808 ≤ a3) (_ : a3 ≤ 9223372036854775807) (s4 : Option Addr) (c4 : Nat) (z4 : List Int) (r4 : RdI h s4 c4 z4) (_ : ss4 h 1 s4 = true) (_ : z4.length ≤ 9223372036854775807) :
    ∃ h', call T 12 [.slice s0 z0.length c0, .int .i64 a1, .int .i64 a2, .int .i64 a3, .slice s4 z4.length c4] h = some (.bool true, h') :=
  vlaw lw2 (sk6 (dp0 (dp0 (dp0 (sk6 a23 r4) _) _) _) r0) (by apply bj6 <;> assumption)
end Go.Proofs.Ytjpejkakodbchaa
