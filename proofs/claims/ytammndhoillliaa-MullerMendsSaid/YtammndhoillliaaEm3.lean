/-
  Two memories that are the same but for names: each operation other than a call. No condition.
-/
import Derived.Test.YtammndhoillliaaEm2
namespace Go.Am
set_option linter.unusedVariables false
set_option linter.unusedSimpArgs false

theorem abin_plain {op : BinOp} {a b v : Value} (h : abin op a b = some v) : plain a = true ∧ plain b = true ∧ plain v = true := by
  unfold abin at h
  split at h
  · refine ⟨rfl, rfl, ?_⟩
    split at h
    · unfold ashift at h; split at h <;> first | (cases h; done) | (cases h; rfl)
    · unfold ashift at h; split at h <;> first | (cases h; done) | (cases h; rfl)
    · split at h
      · unfold aint at h
        split at h <;> first | (cases h; done) | (cases h; rfl) | (split at h <;> first | (cases h; done) | (cases h; rfl))
      · cases h
  · refine ⟨rfl, rfl, ?_⟩
    unfold astr at h
    split at h <;> first | (cases h; done) | (cases h; rfl) | (split at h <;> first | (cases h; done) | (cases h; rfl))
  · cases h
theorem aun_plain {op : UnOp} {a v : Value} (h : aun op a = some v) : plain a = true ∧ plain v = true := by
  unfold aun at h
  split at h <;> first | (cases h; done) | (cases h; exact ⟨rfl, rfl⟩)
theorem anil_emb {ρ : Rel} {n k : Nat} {v v2 : Value} {b : Bool} (hv : E ρ n v v2) (h : anil k v = some b) : anil k v2 = some b := by
  unfold anil at h ⊢
  cases hv <;> (split at h <;> first | (cases h; done) | (simp_all; done) | (rename_i heq; cases heq; simpa using h) | (rename_i heq; obtain ⟨h1, h2, h3⟩ := heq; cases h1; simpa using h))
theorem aints_emb {ρ : Rel} {n : Nat} {k : IntKind} : ∀ {vs vs2 : List Value} {l : List Int}, LE ρ n vs vs2 → aints k vs = some l → vs2 = vs
  | [], vs2, l, hl, _ => List.length_eq_zero_iff.1 hl.1.symm
  | v :: vs, vs2, l, hl, h => by
    cases v <;> simp only [aints] at h <;> first | (cases h; done) | skip
    split at h
    · split at h
      · rename_i l' hl'
        cases vs2 with
        | nil => have := hl.1; simp at this
        | cons u us =>
          obtain ⟨u', h1, h2⟩ := hl.2 0 _ rfl
          simp at h1; subst h1
          have := aints_emb (vs := vs) (vs2 := us) ⟨by have := hl.1; simpa using this, fun i v hv => by simpa using hl.2 (i + 1) v (by simpa using hv)⟩ hl'
          rw [h2.int, this]
      · cases h
    · cases h
theorem sized_emb {ρ : Rel} {n size : Nat} : ∀ {vs vs2 : List Value}, LE ρ n vs vs2 → sized size vs2 = sized size vs ∧ LE ρ n (cat vs) (cat vs2)
  | [], vs2, hl => by rw [List.length_eq_zero_iff.1 hl.1.symm]; exact ⟨rfl, LE.nil⟩
  | v :: vs, [], hl => by have := hl.1; simp at this
  | v :: vs, u :: us, hl => by
    obtain ⟨u', h1, h2⟩ := hl.2 0 _ rfl
    simp at h1; subst h1
    obtain ⟨h3, h4⟩ := sized_emb (size := size) (vs := vs) (vs2 := us) ⟨by have := hl.1; simpa using this, fun i v hv => by simpa using hl.2 (i + 1) v (by simpa using hv)⟩
    exact ⟨by simp only [sized]; rw [h2.cells_size, h2.flat, h3], h2.cells.append h4⟩
theorem LE.self {ρ : Rel} {n : Nat} {l : List Value} (h : l.all closed1 = true) : LE ρ n l l := by
  rw [List.all_eq_true] at h
  exact ⟨rfl, fun i v hv => ⟨v, hv, closed1_E (h v (List.mem_of_getElem? hv))⟩⟩
theorem arr_extract {l : Array Value} {a b : Nat} : (l.extract a b) = ((l.toList.drop a).take (b - a)).toArray := by
  apply Array.toList_inj.1
  simp only [Array.toList_extract, List.extract_eq_take_drop]

section
variable {ρ : Rel} {h h2 h' h2' : H} {fr fr2 : Fr}
theorem unitOk_emb (hm : ME ρ h h2) {size l c : Nat} {a : Addr} {o2 : Nat} (hr : ρ a.block o2) (hu : unitOk h size (some a) = true) : unitOk h2 size (some ⟨o2, a.off, none⟩) = true := by
  unfold unitOk at hu ⊢
  simp only at hu ⊢
  split at hu
  · rename_i r hrow
    obtain ⟨r2, h1, _, h3, h4, _⟩ := hm.row hr hrow
    rw [h1]; simp only [h3, h4]; exact hu
  · cases hu
theorem aapp_emb (hm : ME ρ h h2) {elem : TypeId} {size bytes : Nat} {s x s2 x2 v : Value} (hs : E ρ h.length s s2) (hx : E ρ h.length x x2) (ha : aapp elem size bytes h s x = some (v, h')) :
    ∃ v2 h2', aapp elem size bytes h2 s2 x2 = some (v2, h2') ∧ E ρ h'.length v v2 ∧ Post ρ h h' h2 h2' := by
  unfold aapp at ha
  split at ha
  · rename_i sa n c b m d
    split at ha
    · rename_i news hnews
      obtain ⟨news2, k1, k2⟩ := hm.src hx hnews
      obtain ⟨b2, rfl⟩ : ∃ b2, x2 = .slice b2 m d := by
        cases b with
        | none => exact ⟨none, hx.pl rfl⟩
        | some b => obtain ⟨_, _, _, _, rfl⟩ := hx.sl_inv; exact ⟨_, rfl⟩
      split at ha
      · -- onto nothing
        have := hs.pl rfl
        subst this
        unfold aapp
        simp only [k1]
        split at ha
        · rename_i h0
          rw [if_pos h0]
          split at ha
          · cases ha; rw [if_pos ‹_›]
            exact ⟨_, _, rfl, .atom _ rfl, .refl hm⟩
          · rw [if_neg ‹_›]
            split at ha
            · cases ha
              rw [if_pos ‹_›]
              refine ⟨_, _, rfl, .sl _ _ _ _ _ ?_ (by simp), hm.push rfl rfl rfl k2⟩
              have := hm.new 0; simpa using this
            · cases ha
        · cases ha
      · -- onto a row
        rename_i a
        obtain ⟨o2, q1, q2, q3, rfl⟩ := hs.sl_inv
        unfold aapp
        simp only [k1]
        split at ha
        · rename_i r hr
          obtain ⟨r2, e1, e2, e3, e4, e5⟩ := hm.row q2 hr
          simp only [e1]
          split at ha
          · rename_i hc
            cases ha
            rw [if_pos (by rw [e2, e3, e4, ← e5.1]; simp only [q1] at hc; exact hc)]
            have hk := hm.kill q2
            have hp := hk.me.push (r := ⟨(r.cells.drop a.off).take (n * size) ++ news, elem, size, true⟩) (r2 := ⟨(r2.cells.drop a.off).take (n * size) ++ news2, elem, size, true⟩) rfl rfl rfl
              ((((e5.drop _).take _).append k2).up (by simp [kill]))
            refine ⟨_, _, rfl, .sl _ _ _ _ _ ?_ (by simp [kill]), hk.trans hp⟩
            have := hm.new 0; simpa using this
          · cases ha
        · cases ha
    · cases ha
  · cases ha
theorem acpy_emb (hm : ME ρ h h2) {size : Nat} {s x s2 x2 v : Value} (hs : E ρ h.length s s2) (hx : E ρ h.length x x2) (ha : acpy size h s x = some (v, h')) :
    ∃ v2 h2', acpy size h2 s2 x2 = some (v2, h2') ∧ E ρ h'.length v v2 ∧ Post ρ h h' h2 h2' := by
  unfold acpy at ha
  split at ha
  · rename_i da dl dc sa sl sc
    split at ha
    · rename_i cs hcs
      obtain ⟨cs2, k1, k2⟩ := hm.src hx hcs
      obtain ⟨b2, rfl⟩ : ∃ b2, x2 = .slice b2 sl sc := by
        cases sa with
        | none => exact ⟨none, hx.pl rfl⟩
        | some b => obtain ⟨_, _, _, _, rfl⟩ := hx.sl_inv; exact ⟨_, rfl⟩
      have hd : ∃ da2, s2 = .slice da2 dl dc := by
        cases da with
        | none => exact ⟨none, hs.pl rfl⟩
        | some b => obtain ⟨_, _, _, _, rfl⟩ := hs.sl_inv; exact ⟨_, rfl⟩
      split at ha
      · cases ha
        obtain ⟨da2, rfl⟩ := hd
        unfold acpy
        simp only [k1]
        rw [if_pos ‹_›]
        exact ⟨_, _, rfl, .atom _ rfl, .refl hm⟩
      · rename_i h0
        split at ha
        · rename_i a
          obtain ⟨o2, q1, q2, q3, rfl⟩ := hs.sl_inv
          unfold acpy
          simp only [k1]
          rw [if_neg h0]
          split at ha
          · split at ha
            · rename_i h3 hst
              cases ha
              obtain ⟨h2', e1, e2⟩ := hm.sts q2 k2 hst
              exact ⟨_, h2', by simp [e1], .atom _ rfl, e2⟩
            · cases ha
          · cases ha
        · cases ha
    · cases ha
  · cases ha

/-- what is made is made of values that name nothing -/
def AOp.good : AOp → Bool
  | .alloc _ zs | .build zs _ _ | .mks _ _ _ zs _ _ => zs.all closed1
  | _ => true
theorem aop_emb (hF : FE ρ h.length fr fr2) (hm : ME ρ h h2) {op : AOp} (hg : op.good = true) {v : Option Value} (ha : aop fr h op = some (v, h')) :
    ∃ v2 h2', aop fr2 h2 op = some (v2, h2') ∧ OVE ρ h'.length v v2 ∧ Post ρ h h' h2 h2' := by
  have pure : ∀ {u u2 : Value}, aop fr2 h2 op = some (some u2, h2) → E ρ h.length u u2 → ∃ v2 h2', aop fr2 h2 op = some (v2, h2') ∧ OVE ρ h.length (some u) v2 ∧ Post ρ h h h2 h2' :=
    fun h1 h2' => ⟨_, _, h1, h2', .refl hm⟩
  have new0 : ρ h.length h2.length := by have := hm.new 0; simpa using this
  cases op with
  | mv x =>
    simp only [aop] at ha
    split at ha
    · rename_i u hu
      cases ha
      obtain ⟨u2, e1, e2⟩ := ev_emb hF hu
      exact pure (by simp only [aop, e1]) e2
    · cases ha
  | pick c a b =>
    simp only [aop] at ha
    split at ha
    · rename_i t ht
      obtain ⟨c2, e1, e2⟩ := ev_emb hF ht
      rw [e2.bool] at e1
      split at ha
      · rename_i u hu
        cases ha
        obtain ⟨u2, e3, e4⟩ := ev_emb hF hu
        exact pure (by simp only [aop, e1, e3]) e4
      · cases ha
    · cases ha
  | bin o x y =>
    simp only [aop] at ha
    split at ha
    · rename_i a b h3 h4
      split at ha
      · rename_i u hu
        cases ha
        obtain ⟨p1, p2, p3⟩ := abin_plain hu
        obtain ⟨a2, e1, e2⟩ := ev_emb hF h3
        obtain ⟨b2, e3, e4⟩ := ev_emb hF h4
        rw [e2.pl p1] at e1
        rw [e4.pl p2] at e3
        exact pure (by simp only [aop, e1, e3, hu]) (.atom _ p3)
      · cases ha
    · cases ha
  | eqb neg x y =>
    simp only [aop] at ha
    split at ha
    · rename_i a b h3 h4
      cases ha
      obtain ⟨a2, e1, e2⟩ := ev_emb hF h3
      obtain ⟨b2, e3, e4⟩ := ev_emb hF h4
      rw [e2.bool] at e1
      rw [e4.bool] at e3
      exact pure (by simp only [aop, e1, e3]) (.atom _ rfl)
    · cases ha
  | eqn neg k x =>
    simp only [aop] at ha
    split at ha
    · rename_i a h3
      split at ha
      · rename_i b hb
        cases ha
        obtain ⟨a2, e1, e2⟩ := ev_emb hF h3
        exact pure (by simp only [aop, e1, anil_emb e2 hb]) (.atom _ rfl)
      · cases ha
    · cases ha
  | un o x =>
    simp only [aop] at ha
    split at ha
    · rename_i a h3
      split at ha
      · rename_i u hu
        cases ha
        obtain ⟨p1, p3⟩ := aun_plain hu
        obtain ⟨a2, e1, e2⟩ := ev_emb hF h3
        rw [e2.pl p1] at e1
        exact pure (by simp only [aop, e1, hu]) (.atom _ p3)
      · cases ha
    · cases ha
  | conv k x =>
    simp only [aop] at ha
    split at ha
    · rename_i h3
      cases ha
      obtain ⟨a2, e1, e2⟩ := ev_emb hF h3
      rw [e2.int] at e1
      exact pure (by simp only [aop, e1]) (.atom _ rfl)
    · cases ha
  | alloc elem zs =>
    simp only [aop] at ha
    cases ha
    exact ⟨some (.pointer (some ⟨h2.length, 0, none⟩)), h2 ++ [.row ⟨zs, elem, 0, true⟩], rfl, E.ptr _ _ _ new0 (by simp), hm.push' (LE.self (show zs.all closed1 = true from hg))⟩
  | box elem size x =>
    simp only [aop] at ha
    split at ha
    · rename_i u hu
      split at ha
      · rename_i hc
        cases ha
        obtain ⟨u2, e1, e2⟩ := ev_emb hF hu
        exact ⟨some (.pointer (some ⟨h2.length, 0, none⟩)), h2 ++ [.row ⟨u2.cells.toList, elem, 0, true⟩], by simp only [aop, e1]; rw [if_pos (by rw [e2.cells_size, e2.flat]; exact hc)], E.ptr _ _ _ new0 (by simp), hm.push' e2.cells⟩
      · cases ha
    · cases ha
  | build zs places parts =>
    simp only [aop] at ha
    split at ha
    · rename_i vs hvs
      split at ha
      · rename_i cs hcs
        cases ha
        obtain ⟨vs2, e1, e2⟩ := evp_emb hF hvs
        obtain ⟨cs2, e3, e4⟩ := afill_emb e2 (LE.self (show zs.all closed1 = true from hg)) hcs
        exact pure (by simp only [aop, e1, e3]) e4.agg
      · cases ha
    · cases ha
  | mkSl elem size len parts =>
    simp only [aop] at ha
    split at ha
    · rename_i vs hvs
      split at ha
      · rename_i hc
        cases ha
        obtain ⟨vs2, e1, e2⟩ := evs_emb hF hvs
        obtain ⟨e3, e4⟩ := sized_emb (size := size) e2
        exact ⟨some (.slice (some ⟨h2.length, 0, none⟩) len len), h2 ++ [.row ⟨cat vs2, elem, size, true⟩], by simp only [aop, e1]; rw [if_pos (by rw [e3, ← e2.1]; exact hc)], E.sl _ _ _ _ _ new0 (by simp), hm.push' e4⟩
      · cases ha
    · cases ha
  | ld agg n x =>
    simp only [aop] at ha
    split at ha
    · rename_i a h3
      obtain ⟨a2, e1, e2⟩ := ev_emb hF h3
      obtain ⟨o2, q1, q2, q3, rfl⟩ := e2.ptr_inv
      split at ha
      · cases ha
      · split at ha
        · split at ha
          · rename_i cs hcs
            cases ha
            obtain ⟨cs2, e3, e4⟩ := hm.lds q2 hcs
            exact pure (by simp [aop, e1, e3]) e4.agg
          · cases ha
        · split at ha
          · rename_i u hu
            cases ha
            obtain ⟨u2, e3, e4⟩ := hm.ld1 q2 hu
            exact pure (by simp [aop, e1, e3]) e4
          · cases ha
    · cases ha
  | st n x y =>
    simp only [aop] at ha
    split at ha
    · rename_i a u h3 h4
      obtain ⟨a2, e1, e2⟩ := ev_emb hF h3
      obtain ⟨u2, e3, e4⟩ := ev_emb hF h4
      obtain ⟨o2, q1, q2, q3, rfl⟩ := e2.ptr_inv
      split at ha
      · cases ha
      · rename_i hc
        split at ha
        · rename_i h3' hst
          cases ha
          obtain ⟨h2', k1, k2⟩ := hm.sts q2 e4.cells hst
          exact ⟨none, h2', by simp only [aop, e1, e3]; rw [if_neg (by rw [e4.cells_size, e4.flat]; rw [q1] at hc; exact hc)]; simp only [k1], trivial, k2⟩
        · cases ha
    · cases ha
  | nilck x =>
    simp only [aop] at ha
    split at ha
    · rename_i a h3
      cases ha
      obtain ⟨a2, e1, e2⟩ := ev_emb hF h3
      obtain ⟨o2, q1, q2, q3, rfl⟩ := e2.ptr_inv
      exact pure (by simp only [aop, e1]) e2
    · cases ha
  | mkf f cap =>
    simp only [aop] at ha
    split at ha
    · rename_i vs hvs
      cases ha
      obtain ⟨vs2, e1, e2⟩ := evs_emb hF hvs
      exact pure (by simp only [aop, e1]) (e2.func f)
    · cases ha
  | mks elem size bytes zs l c =>
    simp only [aop] at ha
    split at ha
    · rename_i kl l' kc c' h3 h4
      split at ha
      · rename_i hc
        cases ha
        obtain ⟨l2, e1, e2⟩ := ev_emb hF h3
        obtain ⟨c2, e3, e4⟩ := ev_emb hF h4
        rw [e2.int] at e1
        rw [e4.int] at e3
        exact ⟨some (.slice (some ⟨h2.length, 0, none⟩) l'.toNat c'.toNat), h2 ++ [.row ⟨rep zs c'.toNat, elem, size, true⟩], by simp only [aop, e1, e3]; rw [if_pos hc], E.sl _ _ _ _ _ new0 (by simp), hm.push' (LE.rep (LE.self (show zs.all closed1 = true from hg)) _)⟩
      · cases ha
    · cases ha
  | sl size x lo hi =>
    simp only [aop] at ha
    split at ha
    · rename_i a l c lo' hi' h3 h4 h5
      split at ha
      · rename_i hc
        cases ha
        obtain ⟨x2, e1, e2⟩ := ev_emb hF h3
        have e3 := evo_emb hF h4
        have e4 := evo_emb hF h5
        cases a with
        | none =>
          rw [e2.pl rfl] at e1
          exact pure (by simp only [aop, e1, e3, e4]; rw [if_pos ⟨hc.1, hc.2.1, hc.2.2.1, rfl⟩]) (.atom _ (by split <;> rfl))
        | some a =>
          obtain ⟨o2, q1, q2, q3, rfl⟩ := e2.sl_inv
          refine pure (by simp only [aop, e1, e3, e4]; rw [if_pos ⟨hc.1, hc.2.1, hc.2.2.1, unitOk_emb (l := l) (c := c) hm q2 hc.2.2.2⟩]) ?_
          have hsp : a = ⟨a.block, a.off, none⟩ := by rw [← q1]
          split
          · rw [hsp]; exact .sl _ _ _ _ _ q2 q3
          · exact .sl _ _ _ _ _ q2 q3
      · cases ha
    · cases ha
  | sls x lo hi =>
    simp only [aop] at ha
    split at ha
    · rename_i s lo' hi' h3 h4 h5
      split at ha
      · rename_i hc
        cases ha
        obtain ⟨x2, e1, e2⟩ := ev_emb hF h3
        rw [e2.str] at e1
        exact pure (by simp only [aop, e1, evo_emb hF h4, evo_emb hF h5]; rw [if_pos hc]) (.atom _ rfl)
      · cases ha
    · cases ha
  | faddr off x =>
    simp only [aop] at ha
    split at ha
    · rename_i a h3
      obtain ⟨a2, e1, e2⟩ := ev_emb hF h3
      obtain ⟨o2, q1, q2, q3, rfl⟩ := e2.ptr_inv
      split at ha
      · cases ha
      · cases ha
        exact pure (by simp [aop, e1]) (.ptr _ _ _ q2 q3)
    · cases ha
  | fld agg off n x =>
    simp only [aop] at ha
    split at ha
    · rename_i cs h3
      obtain ⟨x2, e1, e2⟩ := ev_emb hF h3
      obtain ⟨cs2, rfl, e3⟩ := e2.agg_inv
      split at ha
      · cases ha
        refine pure (by simp only [aop, e1]; rfl) ?_
        rw [arr_extract, arr_extract]
        exact ((e3.drop _).take _).agg
      · split at ha
        · rename_i u hu
          cases ha
          obtain ⟨u2, k1, k2⟩ := e3.2 off u (by simpa using hu)
          exact pure (by simp only [aop, e1]; rw [show cs2[off]? = some u2 by simpa using k1]) k2
        · cases ha
    · cases ha
  | iaddr size x i =>
    simp only [aop] at ha
    split at ha
    · rename_i a l c k j h3 h4
      obtain ⟨x2, e1, e2⟩ := ev_emb hF h3
      obtain ⟨i2, e3, e4⟩ := ev_emb hF h4
      rw [e4.int] at e3
      obtain ⟨o2, q1, q2, q3, rfl⟩ := e2.sl_inv
      split at ha
      · rename_i hc
        split at ha
        · cases ha
        · cases ha
          exact pure (by simp only [aop, e1, e3]; rw [if_pos hc]; rfl) (.ptr _ _ _ q2 q3)
      · cases ha
    · cases ha
  | iaddrA len size x i =>
    simp only [aop] at ha
    split at ha
    · rename_i a k j h3 h4
      obtain ⟨x2, e1, e2⟩ := ev_emb hF h3
      obtain ⟨i2, e3, e4⟩ := ev_emb hF h4
      rw [e4.int] at e3
      obtain ⟨o2, q1, q2, q3, rfl⟩ := e2.ptr_inv
      split at ha
      · rename_i hc
        split at ha
        · cases ha
        · cases ha
          exact pure (by simp only [aop, e1, e3]; rw [if_pos hc]; rfl) (.ptr _ _ _ q2 q3)
      · cases ha
    · cases ha
  | idxA len size agg x i =>
    simp only [aop] at ha
    split at ha
    · rename_i cs k j h3 h4
      obtain ⟨x2, e1, e2⟩ := ev_emb hF h3
      obtain ⟨i2, e3, e4⟩ := ev_emb hF h4
      rw [e4.int] at e3
      obtain ⟨cs2, rfl, e5⟩ := e2.agg_inv
      split at ha
      · rename_i hc
        split at ha
        · cases ha
          refine pure (by simp only [aop, e1, e3]; rw [if_pos hc]) ?_
          rw [arr_extract, arr_extract]
          exact ((e5.drop _).take _).agg
        · split at ha
          · rename_i u hu
            cases ha
            obtain ⟨u2, k1, k2⟩ := e5.2 _ u (by simpa using hu)
            exact pure (by simp only [aop, e1, e3]; rw [if_pos hc, show cs2[j.toNat * size]? = some u2 by simpa using k1]) k2
          · cases ha
      · cases ha
    · cases ha
  | idxS x i =>
    simp only [aop] at ha
    split at ha
    · rename_i s k j h3 h4
      obtain ⟨x2, e1, e2⟩ := ev_emb hF h3
      obtain ⟨i2, e3, e4⟩ := ev_emb hF h4
      rw [e4.int] at e3
      rw [e2.str] at e1
      split at ha
      · rename_i hc
        split at ha
        · rename_i b hb
          cases ha
          exact pure (by simp only [aop, e1, e3]; rw [if_pos hc, hb]) (.atom _ rfl)
        · cases ha
      · cases ha
    · cases ha
  | len x =>
    simp only [aop] at ha
    split at ha
    · rename_i a n c h3
      cases ha
      obtain ⟨x2, e1, e2⟩ := ev_emb hF h3
      cases a with
      | none => rw [e2.pl rfl] at e1; exact pure (by simp only [aop, e1]) (.atom _ rfl)
      | some a =>
        obtain ⟨o2, q1, q2, q3, rfl⟩ := e2.sl_inv
        exact pure (by simp only [aop, e1]) (.atom _ rfl)
    · cases ha
  | lenS x =>
    simp only [aop] at ha
    split at ha
    · rename_i s h3
      cases ha
      obtain ⟨x2, e1, e2⟩ := ev_emb hF h3
      rw [e2.str] at e1
      exact pure (by simp only [aop, e1]) (.atom _ rfl)
    · cases ha
  | lenK n =>
    simp only [aop] at ha
    cases ha
    exact pure (by simp only [aop]) (.atom _ rfl)
  | minmax mx xs =>
    simp only [aop] at ha
    split at ha
    · rename_i vs hvs
      obtain ⟨vs2, e1, e2⟩ := evs_emb hF hvs
      split at ha
      · rename_i k n r
        split at ha
        · rename_i l hl
          cases ha
          have hall : aints k (.int k n :: r) = some (n :: l) := by simp [aints, hl]
          have := aints_emb e2 hall
          subst this
          exact pure (by simp only [aop, e1, hl]) (.atom _ rfl)
        · cases ha
      · cases ha
    · cases ha
  | app elem size bytes s x =>
    simp only [aop] at ha
    split at ha
    · rename_i s' x' h3 h4
      obtain ⟨s2, e1, e2⟩ := ev_emb hF h3
      obtain ⟨x2, e3, e4⟩ := ev_emb hF h4
      split at ha
      · rename_i u h3' hap
        cases ha
        obtain ⟨v2, h2', k1, k2, k3⟩ := aapp_emb hm e2 e4 hap
        exact ⟨some v2, h2', by simp only [aop, e1, e3, k1], k2, k3⟩
      · cases ha
    · cases ha
  | cpy size s x =>
    simp only [aop] at ha
    split at ha
    · rename_i s' x' h3 h4
      obtain ⟨s2, e1, e2⟩ := ev_emb hF h3
      obtain ⟨x2, e3, e4⟩ := ev_emb hF h4
      split at ha
      · rename_i u h3' hap
        cases ha
        obtain ⟨v2, h2', k1, k2, k3⟩ := acpy_emb hm e2 e4 hap
        exact ⟨some v2, h2', by simp only [aop, e1, e3, k1], k2, k3⟩
      · cases ha
    · cases ha
  | ext i x =>
    simp only [aop] at ha
    split at ha
    · rename_i vs h3
      obtain ⟨x2, e1, e2⟩ := ev_emb hF h3
      obtain ⟨vs2, rfl, e3⟩ := e2.tuple_inv
      split at ha
      · rename_i u hu
        cases ha
        obtain ⟨u2, k1, k2⟩ := e3.2 i u (by simpa using hu)
        exact pure (by simp only [aop, e1]; rw [show vs2[i]? = some u2 by simpa using k1]) k2
      · cases ha
    · cases ha
  | call f args => cases ha
  | calld x args => cases ha
end
end Go.Am
