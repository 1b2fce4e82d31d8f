/-
  What Grays computes. Conditions: sizes from 2 to 10, at most 1024 lists.
-/
import Derived.Test.YtdmgkdaiegdfmaaGray
import Derived.Test.YtdmgkdaiegdfmaaAm21
namespace Go.Proofs.Ytdmgkdaiegdfmaa
open Go.Am
set_option linter.unusedVariables false
set_option linter.unusedSimpArgs false

def turned (L : List (List Int)) (v : Nat) : List (List Int) := if v % 2 = 1 then L.reverse else L
def layer (L : List (List Int)) (v : Nat) : List (List Int) := (turned L v).map ((v : Int) :: ·)
def layers (L : List (List Int)) : Nat → Nat → List (List Int)
  | _, 0 => []
  | v, j + 1 => layer L v ++ layers L (v + 1) j
def grays : List Int → List (List Int)
  | [] => [[]]
  | s :: r => layers (grays r) 0 s.toNat

theorem turned_len (L : List (List Int)) (v : Nat) : (turned L v).length = L.length := by unfold turned; split <;> simp
theorem layer_len (L : List (List Int)) (v : Nat) : (layer L v).length = L.length := by unfold layer; rw [List.length_map, turned_len]
theorem layers_len (L : List (List Int)) : ∀ (j v : Nat), (layers L v j).length = j * L.length
  | 0, v => by simp [layers]
  | j + 1, v => by rw [layers, List.length_append, layer_len, layers_len L j, Nat.succ_mul]; omega
theorem layer_mem {L : List (List Int)} {v : Nat} {l : List Int} (h : l ∈ layer L v) : ∃ l', l' ∈ L ∧ l = (v : Int) :: l' := by
  unfold layer at h
  obtain ⟨l', h1, rfl⟩ := List.mem_map.mp h
  refine ⟨l', ?_, rfl⟩
  unfold turned at h1
  split at h1
  · exact List.mem_reverse.mp h1
  · exact h1
theorem layers_mem {L : List (List Int)} {l : List Int} : ∀ {j v : Nat}, l ∈ layers L v j → ∃ (v' : Nat) (l' : List Int), l' ∈ L ∧ l = (v' : Int) :: l'
  | 0, v, h => by rw [layers] at h; cases h
  | j + 1, v, h => by
    rw [layers] at h
    rcases List.mem_append.mp h with h | h
    · obtain ⟨l', h1, h2⟩ := layer_mem h; exact ⟨v, l', h1, h2⟩
    · exact layers_mem h
theorem grays_mem : ∀ {zs : List Int} {l : List Int}, l ∈ grays zs → l.length = zs.length
  | [], l, h => by rw [grays] at h; rw [List.mem_singleton.mp h]
  | s :: r, l, h => by
    rw [grays] at h
    obtain ⟨v', l', h1, rfl⟩ := layers_mem h
    rw [List.length_cons, List.length_cons, grays_mem h1]
theorem grays_len : ∀ {zs : List Int}, OkS zs → ((grays zs).length : Int) = prodL zs
  | [], _ => rfl
  | s :: r, h => by
    have hh := h.head
    rw [grays, layers_len, prodL, Int.natCast_mul, grays_len h.tail, Int.toNat_of_nonneg (by omega)]

abbrev gs13 (sz sl : Value) (so : Option Addr) (n : Nat) (v : Int) : List (Nat × Value) := [(0, sz), (3, sl), (4, .slice so n n), (5, .int .i64 v)]

theorem grays_inner (h1 : H) (sl : Option Addr) (cl : Nat) (L : List (List Int)) (sz : Value) (vN : Nat) (hL : RdLL h1 sl cl L) (hm : L.length ≤ 2000) (hv : vN ≤ 1000) (hll : ∀ l ∈ L, l.length ≤ 1000) :
    ∀ (j : Nat) (i : Int) (iN : Nat) (ll : List (List Int)) (so : Option Addr) (g : H), i = (iN : Int) → iN + j = L.length → ll.length + j ≤ 100000 → h1 <+: g → GrownL 26 g so ll.length ll h1.length →
    ∃ (g' : H) (so' : Option Addr), h1 <+: g' ∧ GrownL 26 g' so' (ll ++ (layer L vN).drop iN).length (ll ++ (layer L vN).drop iN) h1.length ∧ ∀ ks, goL T [.tmp 2] [0, 3, 4, 5, 6] c13L0 (.blk 2 [0, 3, 4, 5] :: ks) (gs13 sz (.slice sl L.length cl) so ll.length vN ++ [(6, .int .i64 i)]) g =
      go T [.tmp 2] ks (Fr.of (gs13 sz (.slice sl L.length cl) so' (ll ++ (layer L vN).drop iN).length vN)) g'
  | 0, i, iN, ll, so, g, hi, hj, hb, hp, hg => by
    subst hi
    have hd : (layer L vN).drop iN = [] := List.drop_eq_nil_of_le (by rw [layer_len]; omega)
    rw [hd, List.append_nil]
    refine ⟨g, so, hp, hg, fun ks => ?_⟩
    unfold gs13
    rw [goL_at c13L0.eq_def]
    simp (disch := first | omega | (simp only [Go.Am.len_push, Go.Am.len_set, Go.Am.len_kill] <;> omega) | fail) only [push_cast, Nat.reduceBEq, Nat.reduceAdd, Nat.reduceMul, Nat.reduceSub, Nat.reduceLT, Nat.reduceLeDiff, Nat.reduceEqDiff, Int.reduceToNat, Int.reduceAdd, Int.reduceMul, Int.reduceSub, Int.reduceNeg, Int.reduceLT, Int.reduceLE, Int.reduceEq, Nat.zero_add, Nat.add_zero, Nat.mul_one, eq_self, ne_eq, not_true, not_false_iff, and_true, true_and, and_self, List.getElem?_cons_zero, List.getElem?_cons_succ, List.map_cons, List.map_nil, dec_nlt]
  | j + 1, i, iN, ll, so, g, hi, hj, hb, hp, hg => by
    subst hi
    have hil : iN < (layer L vN).length := by rw [layer_len]; omega
    obtain ⟨k, hk⟩ : ∃ k, k = if vN % 2 = 1 then L.length - 1 - iN else iN := ⟨_, rfl⟩
    have hkl : k < L.length := by rw [hk]; split <;> omega
    obtain ⟨lk, hlk⟩ : ∃ lk, L[k]? = some lk := ⟨_, List.getElem?_eq_getElem hkl⟩
    have hhead : (layer L vN)[iN]? = some ((vN : Int) :: lk) := by
      unfold layer turned
      rw [List.getElem?_map]
      by_cases ho : vN % 2 = 1
      · rw [if_pos ho] at hk ⊢
        rw [List.getElem?_reverse (by omega), ← hk, hlk]; rfl
      · rw [if_neg ho] at hk ⊢
        rw [← hk, hlk]; rfl
    have hdrop : (layer L vN).drop iN = ((vN : Int) :: lk) :: (layer L vN).drop (iN + 1) := by
      rw [List.drop_eq_getElem_cons hil]
      congr 1
      rw [List.getElem?_eq_getElem hil] at hhead
      exact Option.some.inj hhead
    have hlkl := hll lk (List.mem_of_getElem? hlk)
    obtain ⟨o, a, c', rfl, hld, hra⟩ := (hL.mono hp).at hlk
    have hol : o < g.length := by
      unfold H.ld1 at hld
      cases hr : g.row o with
      | none => rw [hr] at hld; cases hld
      | some r => exact row_some_lt hr
    have ha1 := app_front (e := 3) (v := (vN : Int)) hra (by omega)
    obtain ⟨G, hG⟩ : ∃ G : H, G = kill (g ++ [.row ⟨[.int .i64 vN], 3, 1, true⟩]) g.length ++ [.row ⟨ints ((vN : Int) :: lk), 3, 1, true⟩] := ⟨_, rfl⟩
    rw [← hG] at ha1
    have hGk : ∀ o, o < g.length → G[o]? = g[o]? := fun o ho => by rw [hG]; exact front_keep ho
    have hGl : G.length = g.length + 2 := by rw [hG]; exact front_len
    have hGr : RdI G (some ⟨g.length + 1, 0, none⟩) ((vN : Int) :: lk).length ((vN : Int) :: lk) := RdI.ofRow (by rw [hG]; exact front_row) rfl
    have hhl := hp.length_le
    obtain ⟨so1, g1, ha2, hg1, hgl1, hk1⟩ := (hg.keep hGk).app hGr (by simp) (by omega) (by omega)
    rw [show ((vN : Int) :: lk).length = 1 + lk.length by rw [List.length_cons]; omega] at ha2
    have hp1 : h1 <+: g1 := pre_of (by omega) fun o ho => by rw [hk1 o ho, hGk o (by omega)]; exact (pre_get' hp ho)
    obtain ⟨g', so', hp', hg', hgo⟩ := grays_inner h1 _ cl L sz vN hL hm hv hll j ((iN : Int) + 1) (iN + 1) (ll ++ [(vN : Int) :: lk]) so1 g1 (by omega) (by omega) (by rw [List.length_append]; simp only [List.length_cons, List.length_nil]; omega) hp1 (by rw [List.length_append]; exact hg1)
    have hassoc : ll ++ [(vN : Int) :: lk] ++ (layer L vN).drop (iN + 1) = ll ++ (layer L vN).drop iN := by rw [hdrop, List.append_assoc]; rfl
    rw [hassoc] at hg' hgo
    refine ⟨g', so', hp', hg', fun ks => ?_⟩
    have hgo := hgo ks
    unfold gs13 at hgo ⊢
    rw [show (ll ++ [(vN : Int) :: lk]).length = ll.length + 1 by simp] at hgo
    rw [goL_at c13L0.eq_def]
    have q1 : (vN : Int).tmod 2 = (vN : Int) % 2 := Int.tmod_eq_emod_of_nonneg (by omega)
    by_cases ho : vN % 2 = 1
    · rw [if_pos ho] at hk
      have hoI : (vN : Int) % 2 = 1 := by omega
      have hkI : (L.length : Int) - 1 - (iN : Int) = (k : Int) := by omega
      have hi1 : 0 ≤ (k : Int) ∧ (k : Int) < (L.length : Int) := by omega
      simp (disch := first | omega | (simp only [Go.Am.len_push, Go.Am.len_set, Go.Am.len_kill] <;> omega) | fail) only [push_cast, Nat.reduceBEq, Nat.reduceAdd, Nat.reduceMul, Nat.reduceSub, Nat.reduceLT, Nat.reduceLeDiff, Nat.reduceEqDiff, Int.reduceToNat, Int.reduceAdd, Int.reduceMul, Int.reduceSub, Int.reduceNeg, Int.reduceLT, Int.reduceLE, Int.reduceEq, Nat.zero_add, Nat.add_zero, Nat.mul_one, eq_self, ne_eq, not_true, not_false_iff, and_true, true_and, and_self, List.getElem?_cons_zero, List.getElem?_cons_succ, List.map_cons, List.map_nil, dec_lt, wrap64, q1, dec_eq hoI, hkI, hi1, Int.toNat_natCast, ld1_old, hld, ha1, ha2]
      exact hgo
    · rw [if_neg ho] at hk
      have hoI : ¬ (vN : Int) % 2 = 1 := by omega
      rw [hk] at hld
      have hi1 : 0 ≤ (iN : Int) ∧ (iN : Int) < (L.length : Int) := by omega
      simp (disch := first | omega | (simp only [Go.Am.len_push, Go.Am.len_set, Go.Am.len_kill] <;> omega) | fail) only [push_cast, Nat.reduceBEq, Nat.reduceAdd, Nat.reduceMul, Nat.reduceSub, Nat.reduceLT, Nat.reduceLeDiff, Nat.reduceEqDiff, Int.reduceToNat, Int.reduceAdd, Int.reduceMul, Int.reduceSub, Int.reduceNeg, Int.reduceLT, Int.reduceLE, Int.reduceEq, Nat.zero_add, Nat.add_zero, Nat.mul_one, eq_self, ne_eq, not_true, not_false_iff, and_true, true_and, and_self, List.getElem?_cons_zero, List.getElem?_cons_succ, List.map_cons, List.map_nil, dec_lt, wrap64, q1, dec_ne hoI, hi1, Int.toNat_natCast, ld1_old, hld, ha1, ha2]
      exact hgo

theorem grays_outer (h1 : H) (sa sl : Option Addr) (c cl : Nat) (s : Int) (zs : List Int) (L : List (List Int)) (hz : RdI h1 sa c zs) (hz0 : 0 < zs.length) (hzs : gi zs 0 = s) (hL : RdLL h1 sl cl L) (hm : L.length ≤ 2000) (hll : ∀ l ∈ L, l.length ≤ 1000) (hs : 0 ≤ s) (hs2 : s ≤ 10) :
    ∀ (j v : Nat) (ll : List (List Int)) (so : Option Addr) (g : H), v + j = s.toNat → ll.length + j * L.length ≤ 100000 → h1 <+: g → GrownL 26 g so ll.length ll h1.length →
    ∃ (g' : H) (so' : Option Addr), h1 <+: g' ∧ GrownL 26 g' so' (ll ++ layers L v j).length (ll ++ layers L v j) h1.length ∧ ∀ ks, goL T [.tmp 2] [0, 3, 4, 5] c13L1 (.blk 0 [4] :: ks) (gs13 (.slice sa zs.length c) (.slice sl L.length cl) so ll.length v) g =
      go T [.tmp 2] ks (Fr.of [(4, .slice so' (ll ++ layers L v j).length (ll ++ layers L v j).length)]) g'
  | 0, v, ll, so, g, hj, hb, hp, hg => by
    rw [layers, List.append_nil]
    obtain ⟨o, off, rfl, _, hld⟩ := (hz.mono hp).addr hz0
    have e1 := hld 0 (by omega) (by omega)
    have hi1 : (0 : Int) ≤ 0 ∧ 0 < (zs.length : Int) := ⟨by omega, by omega⟩
    rw [hzs, show off + Int.toNat 0 = off from rfl] at e1
    have hvs : (v : Int) = s := by omega
    refine ⟨g, so, hp, hg, fun ks => ?_⟩
    unfold gs13
    rw [goL_at c13L1.eq_def]
    simp (disch := first | omega | (simp only [Go.Am.len_push, Go.Am.len_set, Go.Am.len_kill] <;> omega) | fail) only [push_cast, Nat.reduceBEq, Nat.reduceAdd, Nat.reduceMul, Nat.reduceSub, Nat.reduceLT, Nat.reduceLeDiff, Nat.reduceEqDiff, Int.reduceToNat, Int.reduceAdd, Int.reduceMul, Int.reduceSub, Int.reduceNeg, Int.reduceLT, Int.reduceLE, Int.reduceEq, Nat.zero_add, Nat.add_zero, Nat.mul_one, eq_self, ne_eq, not_true, not_false_iff, and_true, true_and, and_self, List.getElem?_cons_zero, List.getElem?_cons_succ, List.map_cons, List.map_nil, hi1, e1, dec_nlt]
  | j + 1, v, ll, so, g, hj, hb, hp, hg => by
    rw [Nat.succ_mul] at hb
    obtain ⟨o, off, rfl, _, hld⟩ := (hz.mono hp).addr hz0
    have e1 := hld 0 (by omega) (by omega)
    have hi1 : (0 : Int) ≤ 0 ∧ 0 < (zs.length : Int) := ⟨by omega, by omega⟩
    rw [hzs, show off + Int.toNat 0 = off from rfl] at e1
    obtain ⟨g1, so1, hp1, hg1, hgo1⟩ := grays_inner h1 sl cl L (.slice (some ⟨o, off, none⟩) zs.length c) v hL hm (by omega) hll L.length 0 0 ll so g rfl (by omega) (by omega) hp hg
    rw [List.drop_zero] at hg1 hgo1
    have hl1 : (ll ++ layer L v).length = ll.length + L.length := by rw [List.length_append, layer_len]
    obtain ⟨g', so', hp', hg', hgo⟩ := grays_outer h1 _ sl c cl s zs L hz hz0 hzs hL hm hll hs hs2 j (v + 1) (ll ++ layer L v) so1 g1 (by omega) (by omega) hp1 hg1
    have hassoc : ll ++ layer L v ++ layers L (v + 1) j = ll ++ layers L v (j + 1) := by rw [layers, List.append_assoc]
    rw [hassoc] at hg' hgo
    refine ⟨g', so', hp', hg', fun ks => ?_⟩
    have hgo := hgo ks
    unfold gs13 at hgo hgo1 ⊢
    rw [goL_at c13L1.eq_def]
    have hvs : (v : Int) < s := by omega
    simp only [app_cons, app_nil] at hgo1
    simp (disch := first | omega | (simp only [Go.Am.len_push, Go.Am.len_set, Go.Am.len_kill] <;> omega) | fail) only [push_cast, Nat.reduceBEq, Nat.reduceAdd, Nat.reduceMul, Nat.reduceSub, Nat.reduceLT, Nat.reduceLeDiff, Nat.reduceEqDiff, Int.reduceToNat, Int.reduceAdd, Int.reduceMul, Int.reduceSub, Int.reduceNeg, Int.reduceLT, Int.reduceLE, Int.reduceEq, Nat.zero_add, Nat.add_zero, Nat.mul_one, eq_self, ne_eq, not_true, not_false_iff, and_true, true_and, and_self, List.getElem?_cons_zero, List.getElem?_cons_succ, List.map_cons, List.map_nil, hi1, e1, dec_lt, hgo1, wrap64]
    exact hgo

theorem grays_call : ∀ (zs : List Int) (sa : Option Addr) (c : Nat) (h : H), RdI h sa c zs → unitOk h 1 sa = true → OkS zs → prodL zs ≤ 1024 → zs.length ≤ 10 →
    ∃ (sl : Option Addr) (cl : Nat) (h' : H), call T 13 [.slice sa zs.length c] h = some (.slice sl (grays zs).length cl, h') ∧ h <+: h' ∧ RdLL h' sl cl (grays zs)
  | [], sa, c, h, hr, hu, hs, hp, hl => by
    refine ⟨some ⟨h.length, 0, none⟩, 1, h ++ [.row ⟨[.slice none 0 0], 26, 1, true⟩], ?_, List.prefix_append _ _, .inr ⟨h.length, _, rfl, Nat.le_refl _, row_push_new, rfl, ?_⟩⟩
    · rw [call_at T13 rfl]
      unfold F13 c13
      have hz : (([] : List Int).length : Int) = 0 := rfl
      have hz2 : (grays []).length = 1 := rfl
      simp (disch := first | omega | (simp only [Go.Am.len_push, Go.Am.len_set, Go.Am.len_kill] <;> omega) | fail) only [push_cast, Nat.reduceBEq, Nat.reduceAdd, Nat.reduceMul, Nat.reduceSub, Nat.reduceLT, Nat.reduceLeDiff, Nat.reduceEqDiff, Int.reduceToNat, Int.reduceAdd, Int.reduceMul, Int.reduceSub, Int.reduceNeg, Int.reduceLT, Int.reduceLE, Int.reduceEq, Nat.zero_add, Nat.add_zero, Nat.mul_one, eq_self, ne_eq, not_true, not_false_iff, and_true, true_and, and_self, List.getElem?_cons_zero, List.getElem?_cons_succ, List.map_cons, List.map_nil, hz2, dec_eq]
    · intro i l hl
      cases i with
      | zero => cases hl; exact ⟨none, 0, rfl, .inl ⟨rfl, rfl, rfl⟩⟩
      | succ i => cases hl
  | s :: r, sa, c, h, hr, hu, hs, hp, hl => by
    have hh := hs.head
    have hpp := prodL_pos hs.tail
    rw [prodL] at hp
    simp only [List.length_cons] at hl
    have hm1 : prodL r ≤ 1024 := by
      have : 1 * prodL r ≤ s * prodL r := Int.mul_le_mul_of_nonneg_right (by omega) (by omega)
      omega
    obtain ⟨o, off, rfl, hol, hld⟩ := hr.addr (by simp)
    have hrr := hr
    rcases hr with ⟨h0, _, _⟩ | ⟨hlc, o', off', row, hadr, hrow, hcell⟩
    · cases h0
    cases hadr
    simp only [List.length_cons] at hlc
    obtain ⟨sa', hsa'⟩ : ∃ sa' : Option Addr, sa' = if (c : Int) = 1 then some ⟨o, off, none⟩ else some ⟨o, off + 1, none⟩ := ⟨_, rfl⟩
    have hrt : RdI h sa' (c - 1) r := by
      by_cases hc1 : (c : Int) = 1
      · rw [hsa', if_pos hc1]
        have hr0 : r = [] := List.length_eq_zero_iff.mp (by omega)
        subst hr0
        exact .inr ⟨by simp, o, off, row, rfl, hrow, fun i h0 hi => by simp at hi; omega⟩
      · rw [hsa', if_neg hc1]
        refine .inr ⟨by omega, o, off + 1, row, rfl, hrow, fun i h0 hi => ?_⟩
        have := hcell (i + 1) (by omega) (by simp only [List.length_cons]; omega)
        rw [show off + 1 + i.toNat = off + (i + 1).toNat by omega, this]
        congr 2
        unfold gi
        rw [show (i + 1).toNat = i.toNat + 1 by omega]
        rfl
    have hut : unitOk h 1 sa' = true := by
      by_cases hc1 : (c : Int) = 1
      · rw [hsa', if_pos hc1]; exact hu
      · rw [hsa', if_neg hc1]; exact hu
    obtain ⟨sl, cl, h1, hcall, hp1, hL⟩ := grays_call r sa' (c - 1) h hrt hut hs.tail hm1 (by omega)
    have hgl := grays_len hs.tail
    have hj : s.toNat * (grays r).length ≤ 1024 := by
      have : ((s.toNat * (grays r).length : Nat) : Int) ≤ 1024 := by rw [Int.natCast_mul, hgl, Int.toNat_of_nonneg (by omega)]; exact hp
      omega
    obtain ⟨g', so', hp', hg', hgo⟩ := grays_outer h1 _ sl c cl s (s :: r) (grays r) (hrr.mono hp1) (by simp) rfl hL (by omega) (fun l hl' => by rw [grays_mem hl']; omega) (by omega) (by omega) s.toNat 0 [] none h1 (by omega) (by simp only [List.length_nil]; omega) (List.prefix_refl _) ⟨fun _ h => absurd h List.not_mem_nil, .inl ⟨rfl, rfl, rfl⟩⟩
    rw [List.nil_append] at hg' hgo
    refine ⟨so', (grays (s :: r)).length, g', ?_, hp1.trans hp', hg'.rd⟩
    rw [call_at T13 rfl]
    unfold F13 c13
    obtain ⟨n, hn⟩ : ∃ n, n = (s :: r).length := ⟨_, rfl⟩
    rw [← hn] at hgo ⊢
    simp only [List.length_cons] at hn
    have hn0 : ¬ (n : Int) = 0 := by omega
    have hsl : (0 : Int) ≤ 1 ∧ 1 ≤ (n : Int) ∧ (n : Int) ≤ (c : Int) ∧ unitOk h 1 (some ⟨o, off, none⟩) = true := ⟨by omega, by omega, by omega, hu⟩
    have z1 : ((n : Int) - 1).toNat = r.length := by omega
    have z2 : ((c : Int) - 1).toNat = c - 1 := by omega
    have z3 : Int.toNat 1 = 1 := rfl
    unfold gs13 at hgo
    rw [show ((0 : Nat) : Int) = 0 from rfl, show ([] : List (List Int)).length = 0 from rfl] at hgo
    rw [show grays (s :: r) = layers (grays r) 0 s.toNat from rfl]
    simp (disch := first | omega | (simp only [Go.Am.len_push, Go.Am.len_set, Go.Am.len_kill] <;> omega) | fail) only [push_cast, Nat.reduceBEq, Nat.reduceAdd, Nat.reduceMul, Nat.reduceSub, Nat.reduceLT, Nat.reduceLeDiff, Nat.reduceEqDiff, Int.reduceToNat, Int.reduceAdd, Int.reduceMul, Int.reduceSub, Int.reduceNeg, Int.reduceLT, Int.reduceLE, Int.reduceEq, Nat.zero_add, Nat.add_zero, Nat.mul_one, eq_self, ne_eq, not_true, not_false_iff, and_true, true_and, and_self, List.getElem?_cons_zero, List.getElem?_cons_succ, List.map_cons, List.map_nil, dec_ne hn0, hsl, z1, z2, z3, ← hsa', hcall, hgo]
end Go.Proofs.Ytdmgkdaiegdfmaa
