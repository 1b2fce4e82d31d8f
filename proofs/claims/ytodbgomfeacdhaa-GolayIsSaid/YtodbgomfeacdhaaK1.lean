/-
  Two memories of the small machine that are the same but for the names of their objects, and for objects that one of them has besides: values, frames and rows. No condition. Two memories that are the s ..
-/
import Derived.Test.YtodbgomfeacdhaaK0
import Derived.Orders
set_option linter.unusedVariables false
set_option linter.unusedSimpArgs false
set_option linter.unusedSectionVars false
set_option maxRecDepth 100000
namespace Go.Am
def plain:Value→Bool
 | .pointer (some _)| .slice (some _) _ _| .func .. | .agg _| .tuple _=>false
 |_=>true
abbrev Rel:=Nat→Nat→Prop
inductive E (ρ:Rel) (n:Nat):Value→Value→Prop
 |atom (v:Value):plain v=true→E ρ n v v
 |ptr (o o2 off:Nat):ρ o o2→o<n→E ρ n (.pointer (some ⟨o,off,none⟩)) (.pointer (some ⟨o2,off,none⟩))
 |sl (o o2 off l c:Nat):ρ o o2→o<n→E ρ n (.slice (some ⟨o,off,none⟩) l c) (.slice (some ⟨o2,off,none⟩) l c)
 |func (f:FuncId) (cs cs2:Array Value):cs.size=cs2.size→(∀i (h:i<cs.size) (h':i<cs2.size),E ρ n cs[i] cs2[i])→E ρ n (.func (.func f) #[] cs) (.func (.func f) #[] cs2)
 |agg (cs cs2:Array Value):cs.size=cs2.size→(∀i (h:i<cs.size) (h':i<cs2.size),E ρ n cs[i] cs2[i])→E ρ n (.agg cs) (.agg cs2)
 |tuple (cs cs2:Array Value):cs.size=cs2.size→(∀i (h:i<cs.size) (h':i<cs2.size),E ρ n cs[i] cs2[i])→E ρ n (.tuple cs) (.tuple cs2)
theorem E.mono{ρ ρ':Rel}{n n':Nat}{v v2:Value}(h:E ρ n v v2)(hr: ∀o o2,o<n→ρ o o2→ρ' o o2∧o<n'):E ρ' n' v v2:=by
 induction h with
 |atom v hp=>exact .atom v hp
 |ptr o o2 off h1 h2=>exact .ptr o o2 off (hr _ _ h2 h1).1 (hr _ _ h2 h1).2
 |sl o o2 off l c h1 h2=>exact .sl o o2 off l c (hr _ _ h2 h1).1 (hr _ _ h2 h1).2
 |func f cs cs2 hs _ ih=>exact .func f cs cs2 hs ih
 |agg cs cs2 hs _ ih=>exact .agg cs cs2 hs ih
 |tuple cs cs2 hs _ ih=>exact .tuple cs cs2 hs ih
theorem E.comp{ρ σ τ:Rel}{n m k:Nat}{v v2 v3:Value}(h:E ρ n v v2)(h2:E σ m v2 v3)(hr: ∀o o2 o3,ρ o o2→o<n→σ o2 o3→o2<m→τ o o3∧o<k):E τ k v v3:=by
 induction h generalizing v3 with
 |atom v hp=>
  cases h2 with
  |atom _ _=>exact .atom v hp
  |ptr=>cases hp
  |sl=>cases hp
  |func=>cases hp
  |agg=>cases hp
  |tuple=>cases hp
 |ptr o o2 off h1 hn=>cases h2 with
  |ptr _ o3 _ h3 hm=>exact .ptr _ _ _ (hr _ _ _ h1 hn h3 hm).1 (hr _ _ _ h1 hn h3 hm).2
  |atom _ hp=>cases hp
 |sl o o2 off l c h1 hn=>cases h2 with
  |sl _ o3 _ _ _ h3 hm=>exact .sl _ _ _ _ _ (hr _ _ _ h1 hn h3 hm).1 (hr _ _ _ h1 hn h3 hm).2
  |atom _ hp=>cases hp
 |func f cs cs2 hs _ ih=>cases h2 with
  |func _ _ cs3 hs2 h4=>exact .func _ _ _ (hs.trans hs2) fun i h h'=>ih i h (by omega) (h4 i (by omega) h')
  |atom _ hp=>cases hp
 |agg cs cs2 hs _ ih=>cases h2 with
  |agg _ cs3 hs2 h4=>exact .agg _ _ (hs.trans hs2) fun i h h'=>ih i h (by omega) (h4 i (by omega) h')
  |atom _ hp=>cases hp
 |tuple cs cs2 hs _ ih=>cases h2 with
  |tuple _ cs3 hs2 h4=>exact .tuple _ _ (hs.trans hs2) fun i h h'=>ih i h (by omega) (h4 i (by omega) h')
  |atom _ hp=>cases hp
theorem E.eq{n:Nat}{v v2:Value}(h:E Eq n v v2):v=v2:=by
 have arr: ∀{cs cs2:Array Value},cs.size=cs2.size→(∀i (h:i<cs.size) (h':i<cs2.size),cs[i]=cs2[i])→cs=cs2:=fun hs ih=>Array.ext hs ih
 induction h with
 |atom v hp=>rfl
 |ptr o o2 off h1 hn=>cases h1;rfl
 |sl o o2 off l c h1 hn=>cases h1;rfl
 |func f cs cs2 hs _ ih=>rw[arr hs ih]
 |agg cs cs2 hs _ ih=>rw[arr hs ih]
 |tuple cs cs2 hs _ ih=>rw[arr hs ih]
theorem E.symm{ρ:Rel}{n m:Nat}{v v2:Value}(h:E ρ n v v2)(hr: ∀o o2,ρ o o2→o<n→o2<m):E (fun a b=>ρ b a) m v2 v:=by
 induction h with
 |atom v hp=>exact .atom v hp
 |ptr o o2 off h1 h2=>exact .ptr _ _ _ h1 (hr _ _ h1 h2)
 |sl o o2 off l c h1 h2=>exact .sl _ _ _ _ _ h1 (hr _ _ h1 h2)
 |func f cs cs2 hs _ ih=>exact .func _ _ _ hs.symm fun i h h'=>ih i h' h
 |agg cs cs2 hs _ ih=>exact .agg _ _ hs.symm fun i h h'=>ih i h' h
 |tuple cs cs2 hs _ ih=>exact .tuple _ _ hs.symm fun i h h'=>ih i h' h
def LE(ρ:Rel)(n:Nat)(l l2:List Value):Prop:=l.length=l2.length∧ ∀(i:Nat) (v:Value),l[i]? =some v→ ∃v2,l2[i]? =some v2∧E ρ n v v2
section
variable {ρ:Rel} {n:Nat}
theorem LE.nil:LE ρ n [] []:=⟨rfl,fun i v h=>by simp at h⟩
theorem LE.cons{v v2:Value}{l l2:List Value}(hv:E ρ n v v2)(hl:LE ρ n l l2):LE ρ n (v::l) (v2::l2):=by
 refine⟨by simp[hl.1],fun i u h=> ?_⟩
 cases i with
 |zero=>simp at h;subst h;exact⟨v2,rfl,hv⟩
 |succ i=>simpa using hl.2 i u (by simpa using h)
theorem LE.mono{ρ':Rel}{n':Nat}{l l2:List Value}(h:LE ρ n l l2)(hr: ∀o o2,o<n→ρ o o2→ρ' o o2∧o<n'):LE ρ' n' l l2:=
 ⟨h.1,fun i v hv=>let⟨v2,h1,h2⟩:=h.2 i v hv;⟨v2,h1,h2.mono hr⟩⟩
theorem LE.up{n':Nat}{l l2:List Value}(h:LE ρ n l l2)(hn:n≤n'):LE ρ n' l l2:=h.mono fun o o2 h1 h2=>⟨h2,by omega⟩
theorem LE.append{a a2 b b2:List Value}(ha:LE ρ n a a2)(hb:LE ρ n b b2):LE ρ n (a++b) (a2++b2):=by
 refine⟨by simp[ha.1,hb.1],fun i v h=> ?_⟩
 by_cases hi:i<a.length
 ·rw[List.getElem?_append_left hi]at h
  rw[List.getElem?_append_left (by rw[←ha.1];exact hi)]
  exact ha.2 i v h
 ·rw[List.getElem?_append_right (by omega)]at h
  rw[List.getElem?_append_right (by rw[←ha.1];omega),←ha.1]
  exact hb.2 _ v h
theorem LE.take{a a2:List Value}(ha:LE ρ n a a2)(k:Nat):LE ρ n (a.take k) (a2.take k):=by
 refine⟨by simp[ha.1],fun i v h=> ?_⟩
 rw[List.getElem?_take]at h⊢
 split at h
 ·rw[if_pos ‹_›];exact ha.2 i v h
 ·cases h
theorem LE.drop{a a2:List Value}(ha:LE ρ n a a2)(k:Nat):LE ρ n (a.drop k) (a2.drop k):=by
 refine⟨by simp[ha.1],fun i v h=> ?_⟩
 rw[List.getElem?_drop]at h⊢
 exact ha.2 _ v h
theorem LE.hu1{a a2 b b2:List Value}(ha:LE ρ n a a2)(hb:LE ρ n b b2)(off:Nat):LE ρ n (hu1 a off b) (hu1 a2 off b2):=by
 unfold Am.hu1
 rw[hb.1]
 exact((ha.take off).append hb).append (ha.drop _)
theorem LE.of_arrays{cs cs2:Array Value}(hs:cs.size=cs2.size)(h: ∀i (h:i<cs.size) (h':i<cs2.size),E ρ n cs[i] cs2[i]):LE ρ n cs.toList cs2.toList:=by
 refine⟨by simpa using hs,fun i v hv=> ?_⟩
 rw[Array.getElem?_toList]at hv⊢
 obtain⟨hi,he⟩:=Array.getElem?_eq_some_iff.1 hv
 exact⟨cs2[i]'(by omega),by simp[hs▸hi],he▸h i hi (by omega)⟩
theorem LE.arrays{l l2:List Value}(h:LE ρ n l l2): ∀i (h:i<l.toArray.size) (h':i<l2.toArray.size),E ρ n l.toArray[i] l2.toArray[i]:=by
 intro i h1 h2
 obtain⟨v',h3,h4⟩:=h.2 i l[i] (by simp[List.getElem?_eq_getElem (show i<l.length by simpa using h1)])
 simp at h1 h2⊢
 rw[List.getElem?_eq_getElem h2]at h3
 simp at h3
 rw[h3];exact h4
theorem LE.agg{l l2:List Value}(h:LE ρ n l l2):E ρ n (.agg l.toArray) (.agg l2.toArray):= .agg _ _ (by simpa using h.1) h.arrays
theorem LE.tuple{l l2:List Value}(h:LE ρ n l l2):E ρ n (.tuple l.toArray) (.tuple l2.toArray):= .tuple _ _ (by simpa using h.1) h.arrays
theorem LE.func{l l2:List Value}(f:FuncId)(h:LE ρ n l l2):E ρ n (.func (.func f) #[] l.toArray) (.func (.func f) #[] l2.toArray):= .func _ _ _ (by simpa using h.1) h.arrays
theorem LE.none{l l2:List Value}(h:LE ρ n l l2){i:Nat}(hi:l[i]? =Option.none):l2[i]? =Option.none:=by
 rw[List.getElem?_eq_none_iff]at hi⊢;rw[←h.1];exact hi
theorem LE.comp{σ τ:Rel}{m k:Nat}{l l2 l3:List Value}(h:LE ρ n l l2)(h2:LE σ m l2 l3)(hr: ∀o o2 o3,ρ o o2→o<n→σ o2 o3→o2<m→τ o o3∧o<k):LE τ k l l3:=
 ⟨h.1.trans h2.1,fun i v hv=>let⟨v2,h3,h4⟩:=h.2 i v hv;let⟨v3,h5,h6⟩:=h2.2 i v2 h3;⟨v3,h5,h4.comp h6 hr⟩⟩
theorem LE.symm{m:Nat}{l l2:List Value}(h:LE ρ n l l2)(hr: ∀o o2,ρ o o2→o<n→o2<m):LE (fun a b=>ρ b a) m l2 l:=
 ⟨h.1.symm,fun i v hv=>by
   have hi:i<l.length:=by rw[h.1];exact(List.getElem?_eq_some_iff.1 hv).1
   obtain⟨v2,h1,h2⟩:=h.2 i l[i] (List.getElem?_eq_getElem hi)
   rw[hv]at h1;cases h1
   exact⟨_,List.getElem?_eq_getElem hi,h2.symm hr⟩⟩
theorem LE.eq{l l2:List Value}(h:LE Eq n l l2):l=l2:=by
 refine List.ext_getElem? fun i=> ?_
 cases hl:l[i]? with
 |none=>rw[h.none hl]
 |some v=>obtain⟨v2,h1,h2⟩:=h.2 i v hl;rw[h1,h2.eq]
theorem E.pl{v v2:Value}(h:E ρ n v v2)(hp:plain v=true):v2=v:=by
 cases h<;>first|rfl|cases hp
theorem E.int{k:IntKind}{i:Int}{v2:Value}(h:E ρ n (.int k i) v2):v2= .int k i:=h.pl rfl
theorem E.bool{b:Bool}{v2:Value}(h:E ρ n (.bool b) v2):v2= .bool b:=h.pl rfl
theorem E.str{b:ByteArray}{v2:Value}(h:E ρ n (.string b) v2):v2= .string b:=h.pl rfl
theorem E.bq1{a:Addr}{v2:Value}(h:E ρ n (.pointer (some a)) v2): ∃o2,a.spot=none∧ρ a.block o2∧a.block<n∧v2= .pointer (some ⟨o2,a.off,none⟩):=by
 cases h with
 |ptr o o2 off h1 h2=>exact⟨o2,rfl,h1,h2,rfl⟩
 |atom _ hp=>cases hp
theorem E.wy5{a:Addr}{l c:Nat}{v2:Value}(h:E ρ n (.slice (some a) l c) v2): ∃o2,a.spot=none∧ρ a.block o2∧a.block<n∧v2= .slice (some ⟨o2,a.off,none⟩) l c:=by
 cases h with
 |sl o o2 off l c h1 h2=>exact⟨o2,rfl,h1,h2,rfl⟩
 |atom _ hp=>cases hp
theorem E.lg1{cs:Array Value}{v2:Value}(h:E ρ n (.agg cs) v2): ∃cs2,v2= .agg cs2∧LE ρ n cs.toList cs2.toList:=by
 cases h with
 |agg _ cs2 hs hh=>exact⟨cs2,rfl,LE.of_arrays hs hh⟩
 |atom _ hp=>cases hp
theorem E.da1{cs:Array Value}{v2:Value}(h:E ρ n (.tuple cs) v2): ∃cs2,v2= .tuple cs2∧LE ρ n cs.toList cs2.toList:=by
 cases h with
 |tuple _ cs2 hs hh=>exact⟨cs2,rfl,LE.of_arrays hs hh⟩
 |atom _ hp=>cases hp
theorem E.func_inv{c:Fn}{first cs:Array Value}{v2:Value}(h:E ρ n (.func c first cs) v2): ∃f cs2,c= .func f∧first= #[]∧v2= .func (.func f) #[] cs2∧LE ρ n cs.toList cs2.toList:=by
 cases h with
 |func f _ cs2 hs hh=>exact⟨f,cs2,rfl,rfl,rfl,LE.of_arrays hs hh⟩
 |atom _ hp=>cases hp
theorem E.cells{v v2:Value}(h:E ρ n v v2):LE ρ n v.cells.toList v2.cells.toList:=by
 cases h with
 |agg cs cs2 hs hh=>exact LE.of_arrays hs hh
 |atom v hp=>
  cases v<;>first|(cases hp;done)|exact LE.cons (.atom _ hp) LE.nil
 |ptr o o2 off h1 h2=>exact LE.cons (.ptr _ _ _ h1 h2) LE.nil
 |sl o o2 off l c h1 h2=>exact LE.cons (.sl _ _ _ _ _ h1 h2) LE.nil
 |func f cs cs2 hs hh=>exact LE.cons (.func _ _ _ hs hh) LE.nil
 |tuple cs cs2 hs hh=>exact LE.cons (.tuple _ _ hs hh) LE.nil
theorem E.cells_size{v v2:Value}(h:E ρ n v v2):v2.cells.size=v.cells.size:=by have:=h.cells.1;simpa using this.symm
theorem E.flat{v v2:Value}(h:E ρ n v v2):flat v2=flat v:=by cases h<;>rfl
theorem gk5{v:Value}(h:tc5 v=true):E ρ n v v:=by
 unfold tc5 at h
 split at h<;>first|(cases h;done)|exact .atom _ rfl
theorem ni8{v:Value}(h:closed v=true):E ρ n v v:=by
 unfold closed at h
 split at h
 ·rename_i cs
  rw[Array.all_eq_true]at h
  exact .agg cs cs rfl fun i hi _=>gk5 (h i hi)
 ·rename_i cs
  rw[Array.all_eq_true]at h
  exact .tuple cs cs rfl fun i hi _=>gk5 (h i hi)
 ·exact gk5 h
theorem LE.rep{l l2:List Value}(h:LE ρ n l l2): ∀k,LE ρ n (rep l k) (rep l2 k)
 |0=>LE.nil
 |k+1=>h.append (LE.rep h k)
end
end Go.Am
namespace Go.Am
def OE(ρ:Rel)(n:Nat):Option Ob→Option Ob→Prop
 |none,none=>True
 |some .dead,some .dead=>True
 |some (.row r),some (.row r2)=>r.elem=r2.elem∧r.unit=r2.unit∧r.own=r2.own∧LE ρ n r.cells r2.cells
 |_,_=>False
theorem OE.mono{ρ ρ':Rel}{n n':Nat}{a b:Option Ob}(h:OE ρ n a b)(hr: ∀o o2,o<n→ρ o o2→ρ' o o2∧o<n'):OE ρ' n' a b:=by
 unfold OE at h⊢
 split at h
 ·trivial
 ·trivial
 ·exact⟨h.1,h.2.1,h.2.2.1,h.2.2.2.mono hr⟩
 ·cases h
theorem OE.comp{ρ σ τ:Rel}{n m k:Nat}{a b c:Option Ob}(h:OE ρ n a b)(h2:OE σ m b c)(hr: ∀o o2 o3,ρ o o2→o<n→σ o2 o3→o2<m→τ o o3∧o<k):OE τ k a c:=by
 unfold OE at h
 split at h
 ·cases c with
  |none=>trivial
  |some c=>cases c<;>cases h2
 ·cases c with
  |none=>cases h2
  |some c=>cases c with
   |dead=>trivial
   |row _=>cases h2
 ·cases c with
  |none=>cases h2
  |some c=>cases c with
   |dead=>cases h2
   |row _=>exact⟨h.1.trans h2.1,h.2.1.trans h2.2.1,h.2.2.1.trans h2.2.2.1,h.2.2.2.comp h2.2.2.2 hr⟩
 ·cases h
theorem OE.symm{ρ:Rel}{n m:Nat}{a b:Option Ob}(h:OE ρ n a b)(hr: ∀o o2,ρ o o2→o<n→o2<m):OE (fun x y=>ρ y x) m b a:=by
 unfold OE at h
 split at h
 ·trivial
 ·trivial
 ·exact⟨h.1.symm,h.2.1.symm,h.2.2.1.symm,h.2.2.2.symm hr⟩
 ·cases h
theorem OE.eq{n:Nat}{a b:Option Ob}(h:OE Eq n a b):a=b:=by
 unfold OE at h
 split at h
 ·rfl
 ·rfl
 ·rename_i r r2
  obtain⟨h1,h2,h3,h4⟩:=h
  have:=h4.eq
  cases r;cases r2;simp_all
 ·cases h
structure ME (ρ:Rel) (h h2:H):Prop where
 uni: ∀o o2 p p2,ρ o o2→ρ p p2→(o=p↔o2=p2)
 new: ∀j,ρ (h.length+j) (h2.length+j)
 get: ∀o o2,ρ o o2→OE ρ h.length h[o]? h2[o2]?
structure Post (ρ:Rel) (h h' h2 h2':H):Prop where
 me:ME ρ h' h2'
 more: ∃m,h'.length=h.length+m∧h2'.length=h2.length+m
 keep: ∀o,o<h.length→(∀o2,¬ρ o o2)→h'[o]? =h[o]?
 keep2: ∀o2,o2<h2.length→(∀o,¬ρ o o2)→h2'[o2]? =h2[o2]?
section
variable {ρ:Rel} {h h2 h' h2':H}
theorem ME.lt(hm:ME ρ h h2){o o2:Nat}(hr:ρ o o2)(ho:o<h.length):o2<h2.length:=by
 by_cases hlt:o2<h2.length
 ·exact hlt
 ·have:=(hm.uni _ _ _ _ hr (hm.new (o2-h2.length))).2 (by omega)
  omega
theorem ME.lt'(hm:ME ρ h h2){o o2:Nat}(hr:ρ o o2)(ho:o2<h2.length):o<h.length:=by
 by_cases hlt:o<h.length
 ·exact hlt
 ·have:=(hm.uni _ _ _ _ hr (hm.new (o-h.length))).1 (by omega)
  omega
theorem ME.row(hm:ME ρ h h2){o o2:Nat}(hr:ρ o o2){r:Row}(h1:h.row o=some r): ∃r2,h2.row o2=some r2∧r2.elem=r.elem∧r2.unit=r.unit∧r2.own=r.own∧LE ρ h.length r.cells r2.cells:=by
 have hg:=hm.get _ _ hr
 unfold H.row at h1
 split at h1
 ·rename_i r' he
  cases h1
  rw[he]at hg
  cases hh:h2[o2]? with
  |none=>rw[hh]at hg;cases hg
  |some b=>rw[hh]at hg;cases b with
   |dead=>cases hg
   |row r2=>exact⟨r2,by unfold H.row;rw[hh],hg.1.symm,hg.2.1.symm,hg.2.2.1.symm,hg.2.2.2⟩
 ·cases h1
theorem Post.refl(hm:ME ρ h h2):Post ρ h h h2 h2:=⟨hm,⟨0,rfl,rfl⟩,fun _ _ _=>rfl,fun _ _ _=>rfl⟩
theorem Post.trans{h'' h2'':H}(a:Post ρ h h' h2 h2')(b:Post ρ h' h'' h2' h2''):Post ρ h h'' h2 h2'':=by
 obtain⟨m,m1,m2⟩:=a.more
 obtain⟨k,k1,k2⟩:=b.more
 exact⟨b.me,⟨m+k,by omega,by omega⟩,fun o ho hn=>(b.keep o (by omega) hn).trans (a.keep o ho hn),fun o ho hn=>(b.keep2 o (by omega) hn).trans (a.keep2 o ho hn)⟩
theorem Post.len(a:Post ρ h h' h2 h2'):h.length≤h'.length:=by obtain⟨m,m1,_⟩:=a.more;omega
theorem Post.len2(a:Post ρ h h' h2 h2'):h2.length≤h2'.length:=by obtain⟨m,_,m1⟩:=a.more;omega
theorem Post.pre(hm:ME ρ h h2)(a:Post ρ h h' h2 h2')(hp:h<+:h'):h2<+:h2':=by
 rw[List.prefix_iff_getElem?]
 intro k hk
 have hl2:=a.len2
 by_cases hc: ∃o,ρ o k
 ·obtain⟨o,ho⟩:=hc
  have hol:=hm.lt' ho hk
  obtain⟨t,rfl⟩:=hp
  have g1:=hm.get _ _ ho
  have g2:=a.me.get _ _ ho
  rw[List.getElem?_append_left hol]at g2
  have hlt: ∀x y,ρ x y→x<h.length→y<h2.length:=fun x y h1 h2=>hm.lt h1 h2
  have:=(g1.symm (m:=h2.length) hlt).comp (τ:=Eq) (k:=h2.length) g2 (fun x y z h1 h3 h4 h5=>⟨(a.me.uni _ _ _ _ h1 h4).1 rfl,h3⟩)
  rw[←this.eq,List.getElem?_eq_getElem hk]
 ·rw[a.keep2 k hk (fun o ho=>hc ⟨o,ho⟩),List.getElem?_eq_getElem hk]
theorem ME.push(hm:ME ρ h h2){r r2:Row}(h1:r.elem=r2.elem)(h3:r.unit=r2.unit)(h4:r.own=r2.own)(hc:LE ρ h.length r.cells r2.cells):Post ρ h (h++[.row r]) h2 (h2++[.row r2]):=by
 refine⟨⟨hm.uni,fun j=> ?_,fun o o2 ho=> ?_⟩,⟨1,by simp,by simp⟩,fun o ho _=>List.getElem?_append_left ho,fun o ho _=>List.getElem?_append_left ho⟩
 ·have:=hm.new (j+1)
  simp only[List.length_append,List.length_cons,List.length_nil]
  rw[show h.length+(0+1)+j=h.length+(j+1) by omega,show h2.length+(0+1)+j=h2.length+(j+1) by omega]
  exact this
 ·have hup: ∀{a b},OE ρ h.length a b→OE ρ (h++[Ob.row r]).length a b:=fun h=>h.mono fun _ _ h1 h2=>⟨h2,by simp;omega⟩
  by_cases hol:o<h.length
  ·have:=hm.lt ho hol
   rw[List.getElem?_append_left hol,List.getElem?_append_left this]
   exact hup (hm.get _ _ ho)
  ·have he:=(hm.uni _ _ _ _ ho (hm.new (o-h.length))).1 (by omega)
   rw[he,List.getElem?_append_right (by omega),List.getElem?_append_right (by omega),Nat.add_sub_cancel_left]
   cases hk:o-h.length with
   |zero=>exact hup ⟨h1,h3,h4,hc⟩
   |succ k=>simp[OE]
theorem ME.push'(hm:ME ρ h h2){cs cs2:List Value}{e u:Nat}{o:Bool}(hc:LE ρ h.length cs cs2):Post ρ h (h++[.row ⟨cs,e,u,o⟩]) h2 (h2++[.row ⟨cs2,e,u,o⟩]):=hm.push rfl rfl rfl hc
theorem ME.set(hm:ME ρ h h2){o o2:Nat}(ho:ρ o o2){b b2:Ob}(hb:OE ρ h.length (some b) (some b2)):Post ρ h (h.set o b) h2 (h2.set o2 b2):=by
 refine⟨⟨hm.uni,fun j=>by simpa using hm.new j,fun p p2 hp=> ?_⟩,⟨0,by simp,by simp⟩,fun p hp hn=> ?_,fun p hp hn=> ?_⟩
 ·rw[List.length_set,List.getElem?_set,List.getElem?_set]
  by_cases he:o=p
  ·have he2:=(hm.uni _ _ _ _ ho hp).1 he
   subst he;subst he2
   by_cases hl:o<h.length
   ·have:=hm.lt ho hl
    simp only[hl,this,if_true];exact hb
   ·have: ¬o2<h2.length:=fun h=>hl (hm.lt' ho h)
    simp only[hl,this,if_true,if_false];trivial
  ·rw[if_neg he,if_neg fun e=>he ((hm.uni _ _ _ _ ho hp).2 e)]
   exact hm.get _ _ hp
 ·rw[List.getElem?_set_ne];rintro rfl;exact hn _ ho
 ·rw[List.getElem?_set_ne];rintro rfl;exact hn _ ho
theorem ME.kill(hm:ME ρ h h2){o o2:Nat}(ho:ρ o o2):Post ρ h (Go.Am.kill h o) h2 (Go.Am.kill h2 o2):=hm.set ho trivial
theorem ME.ld1(hm:ME ρ h h2){o o2 off:Nat}(ho:ρ o o2){v:Value}(hl:h.ld1 o off=some v): ∃v2,h2.ld1 o2 off=some v2∧E ρ h.length v v2:=by
 unfold H.ld1 at hl⊢
 split at hl
 ·rename_i r hr
  obtain⟨r2,h1,_,_,_,h5⟩:=hm.row ho hr
  rw[h1];exact h5.2 _ _ hl
 ·cases hl
theorem ME.lds(hm:ME ρ h h2){o o2 off n:Nat}(ho:ρ o o2){vs:List Value}(hl:h.lds o off n=some vs): ∃vs2,h2.lds o2 off n=some vs2∧LE ρ h.length vs vs2:=by
 unfold H.lds at hl⊢
 split at hl
 ·rename_i r hr
  obtain⟨r2,h1,_,_,_,h5⟩:=hm.row ho hr
  rw[h1]
  split at hl
  ·rename_i hn
   cases hl
   exact⟨_,if_pos (by rw[←h5.1];exact hn),(h5.drop _).take _⟩
  ·cases hl
 ·cases hl
theorem ME.sts(hm:ME ρ h h2){o o2 off:Nat}(ho:ρ o o2){vs vs2:List Value}(hv:LE ρ h.length vs vs2)(hs:h.sts o off vs=some h'): ∃h2',h2.sts o2 off vs2=some h2'∧Post ρ h h' h2 h2':=by
 unfold H.sts at hs⊢
 split at hs
 ·rename_i r hr
  obtain⟨r2,h1,h3,h4,h5,h6⟩:=hm.row ho hr
  rw[h1]
  split at hs
  ·rename_i hn
   cases hs
   refine⟨_,if_pos (by rw[←h6.1,←hv.1,h5];exact hn),hm.set ho ⟨h3.symm,h4.symm,h5.symm,h6.hu1 hv _⟩⟩
  ·cases hs
 ·cases hs
theorem ME.src(hm:ME ρ h h2){size n:Nat}{x x2:Value}(hx:E ρ h.length x x2){vs:List Value}(hs:b38 h size n x=some vs): ∃vs2,b38 h2 size n x2=some vs2∧LE ρ h.length vs vs2:=by
 unfold b38 at hs
 split at hs
 ·rename_i a l c
  cases a with
  |none=>
   rw[hx.pl rfl]
   unfold b38
   simp only at hs⊢
   split at hs
   ·cases hs;exact⟨[],by rw[if_pos ‹_›],LE.nil⟩
   ·split at hs<;>cases hs
  |some a=>
   obtain⟨o2,q1,q2,q3,rfl⟩:=hx.wy5
   unfold b38
   simp only at hs⊢
   split at hs
   ·cases hs;exact⟨[],by rw[if_pos ‹_›],LE.nil⟩
   ·rw[if_neg ‹_›]
    split at hs
    ·rw[if_pos ‹_›]
     split at hs
     ·obtain⟨vs2,k1,k2⟩:=hm.lds q2 hs
      exact⟨vs2,by simp[k1],k2⟩
     ·cases hs
    ·cases hs
 ·cases hs
def OVE(ρ:Rel)(n:Nat):Option Value→Option Value→Prop
 |none,none=>True
 |some v,some v2=>E ρ n v v2
 |_,_=>False
def FE(ρ:Rel)(n:Nat)(fr fr2:Fr):Prop:= ∀t v,fr t=some v→ ∃v2,fr2 t=some v2∧E ρ n v v2
variable {fr fr2:Fr}
theorem FE.mono{ρ':Rel}{n n':Nat}(hF:FE ρ n fr fr2)(hr: ∀o o2,o<n→ρ o o2→ρ' o o2∧o<n'):FE ρ' n' fr fr2:=fun t v hv=>let⟨v2,h1,h2⟩:=hF t v hv;⟨v2,h1,h2.mono hr⟩
theorem FE.up{n n':Nat}(hF:FE ρ n fr fr2)(hn:n≤n'):FE ρ n' fr fr2:=hF.mono fun _ _ h1 h2=>⟨h2,by omega⟩
theorem FE.put{n:Nat}(hF:FE ρ n fr fr2)(d:Option Nat){v v2:Option Value}(hv:OVE ρ n v v2):FE ρ n (fr.put d v) (fr2.put d v2):=by
 intro t u hu
 cases d with
 |none=>exact hF t u hu
 |some s=>
  cases v with
  |none=>
   cases v2 with
   |none=>
    simp only[Fr.put,Fr.del]at hu⊢
    cases hb:Nat.beq t s with
    |true=>rw[hb]at hu;cases hu
    |false=>rw[hb]at hu;exact hF t u hu
   |some _=>cases hv
  |some v=>
   cases v2 with
   |none=>cases hv
   |some v2=>
    simp only[Fr.put,Fr.set]at hu⊢
    cases hb:Nat.beq t s with
    |true=>rw[hb]at hu;cases hu;exact⟨v2,rfl,hv⟩
    |false=>rw[hb]at hu;exact hF t u hu
theorem sq7{n:Nat}(hF:FE ρ n fr fr2){x:Operand}{v:Value}(hx:ev fr x=some v): ∃v2,ev fr2 x=some v2∧E ρ n v v2:=by
 cases x with
 |tmp t=>exact hF t v hx
 |const c=>
  simp only[ev]at hx⊢
  split at hx
  ·rename_i hcl;cases hx;exact⟨v,by rw[if_pos hcl],ni8 hcl⟩
  ·cases hx
 |global g=>cases hx
 |func f=>cases hx;exact⟨_,rfl, .func f #[] #[] rfl (fun i h _=>by simp at h)⟩
theorem ce4{n:Nat}(hF:FE ρ n fr fr2): ∀{xs:List Operand} {vs:List Value},evs fr xs=some vs→ ∃vs2,evs fr2 xs=some vs2∧LE ρ n vs vs2
 | [],vs,hx=>by cases hx;exact⟨[],rfl,LE.nil⟩
 |x::xs,vs,hx=>by
  simp only[evs]at hx
  split at hx
  ·rename_i v vs' h1 h2
   cases hx
   obtain⟨v2,e1,e2⟩:=sq7 hF h1
   obtain⟨vs2,e3,e4⟩:=ce4 hF h2
   exact⟨v2::vs2,by simp[evs,e1,e3],LE.cons e2 e4⟩
  ·cases hx
theorem dp7{n:Nat}(hF:FE ρ n fr fr2){x:Option Operand}{r:Option Int}(hx:evo fr x=some r):evo fr2 x=some r:=by
 cases x with
 |none=>exact hx
 |some x=>
  simp only[evo]at hx⊢
  split at hx
  ·rename_i v hv
   obtain⟨v2,e1,e2⟩:=sq7 hF hv
   rw[e1]
   split at hx
   ·rename_i i hi
    cases hx
    cases v<;>first|(cases hi;done)|skip
    rw[e2.int];cases hi;rfl
   ·cases hx
  ·cases hx
def LPE(ρ:Rel)(n:Nat):List (Nat×Value)→List (Nat×Value)→Prop
 | [],[]=>True
 |(i,v)::l,(j,v2)::l2=>i=j∧E ρ n v v2∧LPE ρ n l l2
 |_,_=>False
theorem gg5{n:Nat}(hF:FE ρ n fr fr2): ∀{xs:List (Nat×Operand)} {vs:List (Nat×Value)},evp fr xs=some vs→ ∃vs2,evp fr2 xs=some vs2∧LPE ρ n vs vs2
 | [],vs,hx=>by cases hx;exact⟨[],rfl,trivial⟩
 |(i,x)::xs,vs,hx=>by
  simp only[evp]at hx
  split at hx
  ·rename_i v vs' h1 h2
   cases hx
   obtain⟨v2,e1,e2⟩:=sq7 hF h1
   obtain⟨vs2,e3,e4⟩:=gg5 hF h2
   exact⟨(i,v2)::vs2,by simp[evp,e1,e3],rfl,e2,e4⟩
  ·cases hx
theorem s94{n:Nat}{pl:Nat→Option (Nat×Nat)}: ∀{vs vs2:List (Nat×Value)} {cs cs2 out:List Value},LPE ρ n vs vs2→LE ρ n cs cs2→ah0 pl cs vs=some out→ ∃out2,ah0 pl cs2 vs2=some out2∧LE ρ n out out2
 | [],[],cs,cs2,out,_,hc,he=>by cases he;exact⟨cs2,rfl,hc⟩
 | [],_::_,_,_,_,hl,_,_=>by cases hl
 |_::_,[],_,_,_,hl,_,_=>by simp[LPE]at hl
 |(i,v)::vs,(j,v2)::vs2,cs,cs2,out,hl,hc,he=>by
  simp only[LPE]at hl
  obtain⟨rfl,h1,h2⟩:=hl
  simp only[ah0]at he⊢
  split at he
  ·cases he
  ·rename_i off size hp
   rw[h1.cells_size,h1.flat,←hc.1]
   split at he
   ·cases he
   ·rename_i hcond
    rw[if_neg hcond]
    exact s94 h2 (hc.hu1 h1.cells off) he
end
end Go.Am
namespace Go.Am
theorem xt8{op:BinOp}{a b v:Value}(h:abin op a b=some v):plain a=true∧plain b=true∧plain v=true:=by
 unfold abin at h
 split at h
 ·refine⟨rfl,rfl, ?_⟩
  split at h
  ·unfold th5 at h;split at h<;>first|(cases h;done)|(cases h;rfl)
  ·unfold th5 at h;split at h<;>first|(cases h;done)|(cases h;rfl)
  ·split at h
   ·unfold aint at h
    split at h<;>first|(cases h;done)|(cases h;rfl)|(split at h<;>first|(cases h;done)|(cases h;rfl))
   ·cases h
 ·refine⟨rfl,rfl, ?_⟩
  unfold astr at h
  split at h<;>first|(cases h;done)|(cases h;rfl)|(split at h<;>first|(cases h;done)|(cases h;rfl))
 ·cases h
theorem xf6{op:UnOp}{a v:Value}(h:aun op a=some v):plain a=true∧plain v=true:=by
 unfold aun at h
 split at h<;>first|(cases h;done)|(cases h;exact⟨rfl,rfl⟩)
theorem as8{ρ:Rel}{n k:Nat}{v v2:Value}{b:Bool}(hv:E ρ n v v2)(h:anil k v=some b):anil k v2=some b:=by
 unfold anil at h⊢
 cases hv<;>(split at h<;>first|(cases h;done)|(simp_all;done)|(rename_i heq;cases heq;simpa using h)|(rename_i heq;obtain⟨h1,h2,h3⟩:=heq;cases h1;simpa using h))
theorem y96{ρ:Rel}{n:Nat}{k:IntKind}: ∀{vs vs2:List Value} {l:List Int},LE ρ n vs vs2→ho3 k vs=some l→vs2=vs
 | [],vs2,l,hl,_=>List.length_eq_zero_iff.1 hl.1.symm
 |v::vs,vs2,l,hl,h=>by
  cases v<;>simp only[ho3]at h<;>first|(cases h;done)|skip
  split at h
  ·split at h
   ·rename_i l' hl'
    cases vs2 with
    |nil=>have:=hl.1;simp at this
    |cons u us=>
     obtain⟨u',h1,h2⟩:=hl.2 0 _ rfl
     simp at h1;subst h1
     have:=y96 (vs:=vs) (vs2:=us) ⟨by have:=hl.1;simpa using this,fun i v hv=>by simpa using hl.2 (i+1) v (by simpa using hv)⟩ hl'
     rw[h2.int,this]
   ·cases h
  ·cases h
theorem n41{ρ:Rel}{n size:Nat}: ∀{vs vs2:List Value},LE ρ n vs vs2→sized size vs2=sized size vs∧LE ρ n (cat vs) (cat vs2)
 | [],vs2,hl=>by rw[List.length_eq_zero_iff.1 hl.1.symm];exact⟨rfl,LE.nil⟩
 |v::vs,[],hl=>by have:=hl.1;simp at this
 |v::vs,u::us,hl=>by
  obtain⟨u',h1,h2⟩:=hl.2 0 _ rfl
  simp at h1;subst h1
  obtain⟨h3,h4⟩:=n41 (size:=size) (vs:=vs) (vs2:=us) ⟨by have:=hl.1;simpa using this,fun i v hv=>by simpa using hl.2 (i+1) v (by simpa using hv)⟩
  exact⟨by simp only[sized];rw[h2.cells_size,h2.flat,h3],h2.cells.append h4⟩
theorem LE.self{ρ:Rel}{n:Nat}{l:List Value}(h:l.all tc5=true):LE ρ n l l:=by
 rw[List.all_eq_true]at h
 exact⟨rfl,fun i v hv=>⟨v,hv,gk5 (h v (List.mem_of_getElem? hv))⟩⟩
theorem pn3{l:Array Value}{a b:Nat}:(l.extract a b)=((l.toList.drop a).take (b-a)).toArray:=by
 apply Array.toList_inj.1
 simp only[Array.toList_extract,List.extract_eq_take_drop]
section
variable {ρ:Rel} {h h2 h' h2':H} {fr fr2:Fr}
theorem lk4(hm:ME ρ h h2){size l c:Nat}{a:Addr}{o2:Nat}(hr:ρ a.block o2)(hu:ss4 h size (some a)=true):ss4 h2 size (some ⟨o2,a.off,none⟩)=true:=by
 unfold ss4 at hu⊢
 simp only at hu⊢
 split at hu
 ·rename_i r hrow
  obtain⟨r2,h1,_,h3,h4,_⟩:=hm.row hr hrow
  rw[h1];simp only[h3,h4];exact hu
 ·cases hu
theorem y95(hm:ME ρ h h2){elem:TypeId}{size bytes n c m:Nat}{sa:Option Addr}{news news2:List Value}{s2 v:Value}(hs:E ρ h.length (.slice sa n c) s2)(k2:LE ρ h.length news news2)(ha:aput elem size bytes h sa n c m news=some (v,h')):
 ∃sa2 v2 h2',s2= .slice sa2 n c∧aput elem size bytes h2 sa2 n c m news2=some (v2,h2')∧E ρ h'.length v v2∧Post ρ h h' h2 h2':=by
 unfold aput at ha
 split at ha
 ·--onto nothing
  have:=hs.pl rfl
  subst this
  unfold aput
  split at ha
  ·rename_i h0
   rw[if_pos h0]
   split at ha
   ·cases ha;rw[if_pos ‹_›]
    exact⟨_,_,_,rfl,rfl, .atom _ rfl, .refl hm⟩
   ·rw[if_neg ‹_›]
    split at ha
    ·cases ha
     rw[if_pos ‹_›]
     refine⟨_,_,_,rfl,rfl, .sl _ _ _ _ _ ?_ (by simp),hm.push rfl rfl rfl k2⟩
     have:=hm.new 0;simpa using this
    ·cases ha
  ·cases ha
 ·--onto a row
  rename_i a
  obtain⟨o2,q1,q2,q3,rfl⟩:=hs.wy5
  unfold aput
  split at ha
  ·rename_i r hr
   obtain⟨r2,e1,e2,e3,e4,e5⟩:=hm.row q2 hr
   split at ha
   ·rename_i hc
    cases ha
    have hk:=hm.kill q2
    have hp:=hk.me.push (r:=⟨(r.cells.drop a.off).take (n*size)++news,elem,size,true⟩) (r2:=⟨(r2.cells.drop a.off).take (n*size)++news2,elem,size,true⟩) rfl rfl rfl
     ((((e5.drop _).take _).append k2).up (by simp[kill]))
    refine⟨some ⟨o2,a.off,none⟩, .slice (some ⟨h2.length,0,none⟩) (n+m) (n+m),kill h2 o2++[.row ⟨(r2.cells.drop a.off).take (n*size)++news2,elem,size,true⟩],rfl, ?_, .sl _ _ _ _ _ ?_ (by simp[kill]),hk.trans hp⟩
    ·simp only[e1]
     rw[if_pos (by rw[e2,e3,e4,←e5.1];simp only[q1]at hc;exact hc)]
    have:=hm.new 0;simpa using this
   ·cases ha
  ·cases ha
theorem y28(hm:ME ρ h h2){elem:TypeId}{size bytes:Nat}{s x s2 x2 v:Value}(hs:E ρ h.length s s2)(hx:E ρ h.length x x2)(ha:aapp elem size bytes h s x=some (v,h')):
 ∃v2 h2',aapp elem size bytes h2 s2 x2=some (v2,h2')∧E ρ h'.length v v2∧Post ρ h h' h2 h2':=by
 unfold aapp at ha
 split at ha
 ·rename_i sa n c b m d
  split at ha
  ·rename_i news hnews
   obtain⟨news2,k1,k2⟩:=hm.src hx hnews
   obtain⟨b2,rfl⟩: ∃b2,x2= .slice b2 m d:=by
    cases b with
    |none=>exact⟨none,hx.pl rfl⟩
    |some b=>obtain⟨_,_,_,_,rfl⟩:=hx.wy5;exact⟨_,rfl⟩
   obtain⟨sa2,v2,h2',rfl,g1,g2,g3⟩:=y95 hm hs k2 ha
   exact⟨v2,h2',by unfold aapp;simp only[k1,g1],g2,g3⟩
  ·cases ha
 ·cases ha
theorem m31(hm:ME ρ h h2){size:Nat}{s x s2 x2 v:Value}(hs:E ρ h.length s s2)(hx:E ρ h.length x x2)(ha:acpy size h s x=some (v,h')):
 ∃v2 h2',acpy size h2 s2 x2=some (v2,h2')∧E ρ h'.length v v2∧Post ρ h h' h2 h2':=by
 unfold acpy at ha
 split at ha
 ·rename_i da dl dc sa sl sc
  split at ha
  ·rename_i cs hcs
   obtain⟨cs2,k1,k2⟩:=hm.src hx hcs
   obtain⟨b2,rfl⟩: ∃b2,x2= .slice b2 sl sc:=by
    cases sa with
    |none=>exact⟨none,hx.pl rfl⟩
    |some b=>obtain⟨_,_,_,_,rfl⟩:=hx.wy5;exact⟨_,rfl⟩
   have hd: ∃da2,s2= .slice da2 dl dc:=by
    cases da with
    |none=>exact⟨none,hs.pl rfl⟩
    |some b=>obtain⟨_,_,_,_,rfl⟩:=hs.wy5;exact⟨_,rfl⟩
   split at ha
   ·cases ha
    obtain⟨da2,rfl⟩:=hd
    unfold acpy
    simp only[k1]
    rw[if_pos ‹_›]
    exact⟨_,_,rfl, .atom _ rfl, .refl hm⟩
   ·rename_i h0
    split at ha
    ·rename_i a
     obtain⟨o2,q1,q2,q3,rfl⟩:=hs.wy5
     unfold acpy
     simp only[k1]
     rw[if_neg h0]
     split at ha
     ·split at ha
      ·rename_i h3 hst
       cases ha
       obtain⟨h2',e1,e2⟩:=hm.sts q2 k2 hst
       exact⟨_,h2',by simp[e1], .atom _ rfl,e2⟩
      ·cases ha
     ·cases ha
    ·cases ha
  ·cases ha
 ·cases ha
def AOp.good:AOp→Bool
 | .alloc _ zs| .build zs _ _| .mks _ _ _ zs _ _=>zs.all tc5
 |_=>true
theorem tv1(hF:FE ρ h.length fr fr2)(hm:ME ρ h h2){a:Operand}(hb:bx fr h a=true):bx fr2 h2 a=true:=by
 unfold bx at hb
 split at hb
 ·rename_i p hp
  obtain⟨v2,e1,e2⟩:=sq7 hF hp
  obtain⟨o2,q1,q2,q3,rfl⟩:=e2.bq1
  unfold bx
  rw[e1]
  unfold boxed at hb⊢
  split at hb
  ·rename_i r hr
   obtain⟨r2,k1,_,k3,_,_⟩:=hm.row q2 hr
   simp only[k1,k3];exact hb
  ·cases hb
 ·cases hb
theorem i01(hF:FE ρ h.length fr fr2)(hm:ME ρ h h2){agg:Bool}{n:Nat}{x:Operand}{v:Option Value}(ha:aop fr h (.ld agg n x)=some (v,h')):
 ∃v2 h2',aop fr2 h2 (.ld agg n x)=some (v2,h2')∧OVE ρ h'.length v v2∧Post ρ h h' h2 h2':=by
 have pure: ∀{u u2:Value},aop fr2 h2 (.ld agg n x)=some (some u2,h2)→E ρ h.length u u2→ ∃v2 h2',aop fr2 h2 (.ld agg n x)=some (v2,h2')∧OVE ρ h.length (some u) v2∧Post ρ h h h2 h2':=
  fun h1 h2'=>⟨_,_,h1,h2', .refl hm⟩
 simp only[aop]at ha
 split at ha
 ·rename_i a h3
  obtain⟨a2,e1,e2⟩:=sq7 hF h3
  obtain⟨o2,q1,q2,q3,rfl⟩:=e2.bq1
  split at ha
  ·cases ha
  ·split at ha
   ·split at ha
    ·rename_i cs hcs
     cases ha
     obtain⟨cs2,e3,e4⟩:=hm.lds q2 hcs
     exact pure (by simp[aop,e1,e3]) e4.agg
    ·cases ha
   ·split at ha
    ·rename_i u hu
     cases ha
     obtain⟨u2,e3,e4⟩:=hm.ld1 q2 hu
     exact pure (by simp[aop,e1,e3]) e4
    ·cases ha
 ·cases ha
theorem hn9(hF:FE ρ h.length fr fr2)(hm:ME ρ h h2){op:AOp}(hg:op.good=true){v:Option Value}(ha:aop fr h op=some (v,h')):
 ∃v2 h2',aop fr2 h2 op=some (v2,h2')∧OVE ρ h'.length v v2∧Post ρ h h' h2 h2':=by
 have pure: ∀{u u2:Value},aop fr2 h2 op=some (some u2,h2)→E ρ h.length u u2→ ∃v2 h2',aop fr2 h2 op=some (v2,h2')∧OVE ρ h.length (some u) v2∧Post ρ h h h2 h2':=
  fun h1 h2'=>⟨_,_,h1,h2', .refl hm⟩
 have new0:ρ h.length h2.length:=by have:=hm.new 0;simpa using this
 cases op with
 |mv x=>
  simp only[aop]at ha
  split at ha
  ·rename_i u hu
   cases ha
   obtain⟨u2,e1,e2⟩:=sq7 hF hu
   exact pure (by simp only[aop,e1]) e2
  ·cases ha
 |pick c a b=>
  simp only[aop]at ha
  split at ha
  ·rename_i t ht
   obtain⟨c2,e1,e2⟩:=sq7 hF ht
   rw[e2.bool]at e1
   split at ha
   ·rename_i u hu
    cases ha
    obtain⟨u2,e3,e4⟩:=sq7 hF hu
    exact pure (by simp only[aop,e1,e3]) e4
   ·cases ha
  ·cases ha
 |bin o x y=>
  simp only[aop]at ha
  split at ha
  ·rename_i a b h3 h4
   split at ha
   ·rename_i u hu
    cases ha
    obtain⟨p1,p2,p3⟩:=xt8 hu
    obtain⟨a2,e1,e2⟩:=sq7 hF h3
    obtain⟨b2,e3,e4⟩:=sq7 hF h4
    rw[e2.pl p1]at e1
    rw[e4.pl p2]at e3
    exact pure (by simp only[aop,e1,e3,hu]) (.atom _ p3)
   ·cases ha
  ·cases ha
 |eqb neg x y=>
  simp only[aop]at ha
  split at ha
  ·rename_i a b h3 h4
   cases ha
   obtain⟨a2,e1,e2⟩:=sq7 hF h3
   obtain⟨b2,e3,e4⟩:=sq7 hF h4
   rw[e2.bool]at e1
   rw[e4.bool]at e3
   exact pure (by simp only[aop,e1,e3]) (.atom _ rfl)
  ·cases ha
 |eqn neg k x=>
  simp only[aop]at ha
  split at ha
  ·rename_i a h3
   split at ha
   ·rename_i b hb
    cases ha
    obtain⟨a2,e1,e2⟩:=sq7 hF h3
    exact pure (by simp only[aop,e1,as8 e2 hb]) (.atom _ rfl)
   ·cases ha
  ·cases ha
 |un o x=>
  simp only[aop]at ha
  split at ha
  ·rename_i a h3
   split at ha
   ·rename_i u hu
    cases ha
    obtain⟨p1,p3⟩:=xf6 hu
    obtain⟨a2,e1,e2⟩:=sq7 hF h3
    rw[e2.pl p1]at e1
    exact pure (by simp only[aop,e1,hu]) (.atom _ p3)
   ·cases ha
  ·cases ha
 |conv k x=>
  simp only[aop]at ha
  split at ha
  ·rename_i h3
   cases ha
   obtain⟨a2,e1,e2⟩:=sq7 hF h3
   rw[e2.int]at e1
   exact pure (by simp only[aop,e1]) (.atom _ rfl)
  ·cases ha
 |alloc elem zs=>
  simp only[aop]at ha
  cases ha
  exact⟨some (.pointer (some ⟨h2.length,0,none⟩)),h2++[.row ⟨zs,elem,0,true⟩],rfl,E.ptr _ _ _ new0 (by simp),hm.push' (LE.self (show zs.all tc5=true from hg))⟩
 |box elem size x=>
  simp only[aop]at ha
  split at ha
  ·rename_i u hu
   split at ha
   ·rename_i hc
    cases ha
    obtain⟨u2,e1,e2⟩:=sq7 hF hu
    exact⟨some (.pointer (some ⟨h2.length,0,none⟩)),h2++[.row ⟨u2.cells.toList,elem,0,true⟩],by simp only[aop,e1];rw[if_pos (by rw[e2.cells_size,e2.flat];exact hc)],E.ptr _ _ _ new0 (by simp),hm.push' e2.cells⟩
   ·cases ha
  ·cases ha
 |build zs places parts=>
  simp only[aop]at ha
  split at ha
  ·rename_i vs hvs
   split at ha
   ·rename_i cs hcs
    cases ha
    obtain⟨vs2,e1,e2⟩:=gg5 hF hvs
    obtain⟨cs2,e3,e4⟩:=s94 e2 (LE.self (show zs.all tc5=true from hg)) hcs
    exact pure (by simp only[aop,e1,e3]) e4.agg
   ·cases ha
  ·cases ha
 |mkSl elem size len parts=>
  simp only[aop]at ha
  split at ha
  ·rename_i vs hvs
   split at ha
   ·rename_i hc
    cases ha
    obtain⟨vs2,e1,e2⟩:=ce4 hF hvs
    obtain⟨e3,e4⟩:=n41 (size:=size) e2
    exact⟨some (.slice (some ⟨h2.length,0,none⟩) len len),h2++[.row ⟨cat vs2,elem,size,true⟩],by simp only[aop,e1];rw[if_pos (by rw[e3,←e2.1];exact hc)],E.sl _ _ _ _ _ new0 (by simp),hm.push' e4⟩
   ·cases ha
  ·cases ha
 |ld agg n x=>exact i01 hF hm ha
 |ldb agg n x=>
  obtain⟨hb,ha⟩:=zx2 ha
  obtain⟨v2,h2',k1,k2,k3⟩:=i01 hF hm ha
  exact⟨v2,h2',by rw[fd7,if_pos (tv1 hF hm hb)];exact k1,k2,k3⟩
 |st n x y=>
  simp only[aop]at ha
  split at ha
  ·rename_i a u h3 h4
   obtain⟨a2,e1,e2⟩:=sq7 hF h3
   obtain⟨u2,e3,e4⟩:=sq7 hF h4
   obtain⟨o2,q1,q2,q3,rfl⟩:=e2.bq1
   split at ha
   ·cases ha
   ·rename_i hc
    split at ha
    ·rename_i h3' hst
     cases ha
     obtain⟨h2',k1,k2⟩:=hm.sts q2 e4.cells hst
     exact⟨none,h2',by simp only[aop,e1,e3];rw[if_neg (by rw[e4.cells_size,e4.flat];rw[q1]at hc;exact hc)];simp only[k1],trivial,k2⟩
    ·cases ha
  ·cases ha
 |nilck x=>
  simp only[aop]at ha
  split at ha
  ·rename_i a h3
   cases ha
   obtain⟨a2,e1,e2⟩:=sq7 hF h3
   obtain⟨o2,q1,q2,q3,rfl⟩:=e2.bq1
   exact pure (by simp only[aop,e1]) e2
  ·cases ha
 |mkf f cap=>
  simp only[aop]at ha
  split at ha
  ·rename_i vs hvs
   cases ha
   obtain⟨vs2,e1,e2⟩:=ce4 hF hvs
   exact pure (by simp only[aop,e1]) (e2.func f)
  ·cases ha
 |mks elem size bytes zs l c=>
  simp only[aop]at ha
  split at ha
  ·rename_i kl l' kc c' h3 h4
   split at ha
   ·rename_i hc
    cases ha
    obtain⟨l2,e1,e2⟩:=sq7 hF h3
    obtain⟨c2,e3,e4⟩:=sq7 hF h4
    rw[e2.int]at e1
    rw[e4.int]at e3
    exact⟨some (.slice (some ⟨h2.length,0,none⟩) l'.toNat c'.toNat),h2++[.row ⟨rep zs c'.toNat,elem,size,true⟩],by simp only[aop,e1,e3];rw[if_pos hc],E.sl _ _ _ _ _ new0 (by simp),hm.push' (LE.rep (LE.self (show zs.all tc5=true from hg)) _)⟩
   ·cases ha
  ·cases ha
 |sl size x lo hi=>
  simp only[aop]at ha
  split at ha
  ·rename_i a l c lo' hi' h3 h4 h5
   split at ha
   ·rename_i hc
    cases ha
    obtain⟨x2,e1,e2⟩:=sq7 hF h3
    have e3:=dp7 hF h4
    have e4:=dp7 hF h5
    cases a with
    |none=>
     rw[e2.pl rfl]at e1
     exact pure (by simp only[aop,e1,e3,e4];rw[if_pos ⟨hc.1,hc.2.1,hc.2.2.1,rfl⟩]) (.atom _ (by split<;>rfl))
    |some a=>
     obtain⟨o2,q1,q2,q3,rfl⟩:=e2.wy5
     refine pure (by simp only[aop,e1,e3,e4];rw[if_pos ⟨hc.1,hc.2.1,hc.2.2.1,lk4 (l:=l) (c:=c) hm q2 hc.2.2.2⟩]) ?_
     have hsp:a=⟨a.block,a.off,none⟩:=by rw[←q1]
     split
     ·rw[hsp];exact .sl _ _ _ _ _ q2 q3
     ·exact .sl _ _ _ _ _ q2 q3
   ·cases ha
  ·cases ha
 |sl3 x hi mx=>
  simp only[aop]at ha
  split at ha
  ·rename_i a l c k1 I k2 J h3 h4 h5
   split at ha
   ·rename_i hc
    cases ha
    obtain⟨x2,e1,e2⟩:=sq7 hF h3
    obtain⟨y2,e3,e4⟩:=sq7 hF h4
    obtain⟨z2,e5,e6⟩:=sq7 hF h5
    rw[e4.pl rfl]at e3
    rw[e6.pl rfl]at e5
    cases a with
    |none=>
     rw[e2.pl rfl]at e1
     exact pure (by simp only[aop,e1,e3,e5];rw[if_pos hc]) (.atom _ rfl)
    |some a=>
     obtain⟨o2,q1,q2,q3,rfl⟩:=e2.wy5
     refine pure (by simp only[aop,e1,e3,e5];rw[if_pos hc]) ?_
     have hsp:a=⟨a.block,a.off,none⟩:=by rw[←q1]
     rw[hsp];exact .sl _ _ _ _ _ q2 q3
   ·cases ha
  ·cases ha
 |sls x lo hi=>
  simp only[aop]at ha
  split at ha
  ·rename_i s lo' hi' h3 h4 h5
   split at ha
   ·rename_i hc
    cases ha
    obtain⟨x2,e1,e2⟩:=sq7 hF h3
    rw[e2.str]at e1
    exact pure (by simp only[aop,e1,dp7 hF h4,dp7 hF h5];rw[if_pos hc]) (.atom _ rfl)
   ·cases ha
  ·cases ha
 |faddr off x=>
  simp only[aop]at ha
  split at ha
  ·rename_i a h3
   obtain⟨a2,e1,e2⟩:=sq7 hF h3
   obtain⟨o2,q1,q2,q3,rfl⟩:=e2.bq1
   split at ha
   ·cases ha
   ·cases ha
    exact pure (by simp[aop,e1]) (.ptr _ _ _ q2 q3)
  ·cases ha
 |fld agg off n x=>
  simp only[aop]at ha
  split at ha
  ·rename_i cs h3
   obtain⟨x2,e1,e2⟩:=sq7 hF h3
   obtain⟨cs2,rfl,e3⟩:=e2.lg1
   split at ha
   ·cases ha
    refine pure (by simp only[aop,e1];rfl) ?_
    rw[pn3,pn3]
    exact((e3.drop _).take _).agg
   ·split at ha
    ·rename_i u hu
     cases ha
     obtain⟨u2,k1,k2⟩:=e3.2 off u (by simpa using hu)
     exact pure (by simp only[aop,e1];rw[show cs2[off]? =some u2 by simpa using k1]) k2
    ·cases ha
  ·cases ha
 |iaddr size x i=>
  simp only[aop]at ha
  split at ha
  ·rename_i a l c k j h3 h4
   obtain⟨x2,e1,e2⟩:=sq7 hF h3
   obtain⟨i2,e3,e4⟩:=sq7 hF h4
   rw[e4.int]at e3
   obtain⟨o2,q1,q2,q3,rfl⟩:=e2.wy5
   split at ha
   ·rename_i hc
    split at ha
    ·cases ha
    ·cases ha
     exact pure (by simp only[aop,e1,e3];rw[if_pos hc];rfl) (.ptr _ _ _ q2 q3)
   ·cases ha
  ·cases ha
 |iaddrA len size x i=>
  simp only[aop]at ha
  split at ha
  ·rename_i a k j h3 h4
   obtain⟨x2,e1,e2⟩:=sq7 hF h3
   obtain⟨i2,e3,e4⟩:=sq7 hF h4
   rw[e4.int]at e3
   obtain⟨o2,q1,q2,q3,rfl⟩:=e2.bq1
   split at ha
   ·rename_i hc
    split at ha
    ·cases ha
    ·cases ha
     exact pure (by simp only[aop,e1,e3];rw[if_pos hc];rfl) (.ptr _ _ _ q2 q3)
   ·cases ha
  ·cases ha
 |idxA len size agg x i=>
  simp only[aop]at ha
  split at ha
  ·rename_i cs k j h3 h4
   obtain⟨x2,e1,e2⟩:=sq7 hF h3
   obtain⟨i2,e3,e4⟩:=sq7 hF h4
   rw[e4.int]at e3
   obtain⟨cs2,rfl,e5⟩:=e2.lg1
   split at ha
   ·rename_i hc
    split at ha
    ·cases ha
     refine pure (by simp only[aop,e1,e3];rw[if_pos hc]) ?_
     rw[pn3,pn3]
     exact((e5.drop _).take _).agg
    ·split at ha
     ·rename_i u hu
      cases ha
      obtain⟨u2,k1,k2⟩:=e5.2 _ u (by simpa using hu)
      exact pure (by simp only[aop,e1,e3];rw[if_pos hc,show cs2[j.toNat*size]? =some u2 by simpa using k1]) k2
     ·cases ha
   ·cases ha
  ·cases ha
 |idxS x i=>
  simp only[aop]at ha
  split at ha
  ·rename_i s k j h3 h4
   obtain⟨x2,e1,e2⟩:=sq7 hF h3
   obtain⟨i2,e3,e4⟩:=sq7 hF h4
   rw[e4.int]at e3
   rw[e2.str]at e1
   split at ha
   ·rename_i hc
    split at ha
    ·rename_i b hb
     cases ha
     exact pure (by simp only[aop,e1,e3];rw[if_pos hc,hb]) (.atom _ rfl)
    ·cases ha
   ·cases ha
  ·cases ha
 |len x=>
  simp only[aop]at ha
  split at ha
  ·rename_i a n c h3
   cases ha
   obtain⟨x2,e1,e2⟩:=sq7 hF h3
   cases a with
   |none=>rw[e2.pl rfl]at e1;exact pure (by simp only[aop,e1]) (.atom _ rfl)
   |some a=>
    obtain⟨o2,q1,q2,q3,rfl⟩:=e2.wy5
    exact pure (by simp only[aop,e1]) (.atom _ rfl)
  ·cases ha
 |lenS x=>
  simp only[aop]at ha
  split at ha
  ·rename_i s h3
   cases ha
   obtain⟨x2,e1,e2⟩:=sq7 hF h3
   rw[e2.str]at e1
   exact pure (by simp only[aop,e1]) (.atom _ rfl)
  ·cases ha
 |lenK n=>
  simp only[aop]at ha
  cases ha
  exact pure (by simp only[aop]) (.atom _ rfl)
 |minmax mx xs=>
  simp only[aop]at ha
  split at ha
  ·rename_i vs hvs
   obtain⟨vs2,e1,e2⟩:=ce4 hF hvs
   split at ha
   ·rename_i k n r
    split at ha
    ·rename_i l hl
     cases ha
     have hall:ho3 k (.int k n::r)=some (n::l):=by simp[ho3,hl]
     have:=y96 e2 hall
     subst this
     exact pure (by simp only[aop,e1,hl]) (.atom _ rfl)
    ·cases ha
   ·cases ha
  ·cases ha
 |app elem size bytes s x=>
  simp only[aop]at ha
  split at ha
  ·rename_i s' x' h3 h4
   obtain⟨s2,e1,e2⟩:=sq7 hF h3
   obtain⟨x2,e3,e4⟩:=sq7 hF h4
   split at ha
   ·rename_i u h3' hap
    cases ha
    obtain⟨v2,h2',k1,k2,k3⟩:=y28 hm e2 e4 hap
    exact⟨some v2,h2',by simp only[aop,e1,e3,k1],k2,k3⟩
   ·cases ha
  ·cases ha
 |appz elem bytes s x=>
  simp only[aop]at ha
  split at ha
  ·rename_i sa n c m h3 h4
   obtain⟨s2,e1,e2⟩:=sq7 hF h3
   obtain⟨x2,e3,e4⟩:=sq7 hF h4
   have:=e4.pl rfl
   subst this
   split at ha
   ·rename_i hm0
    split at ha
    ·rename_i u h3' hap
     cases ha
     obtain⟨sa2,v2,h2',rfl,k1,k2,k3⟩:=y95 hm e2 (LE.self (by rw[List.all_eq_true];intro a ha;rw[List.eq_of_mem_replicate ha];rfl)) hap
     exact⟨some v2,h2',by simp only[aop,e1,e3,k1];rw[if_pos hm0],k2,k3⟩
    ·cases ha
   ·cases ha
  ·cases ha
 |cpy size s x=>
  simp only[aop]at ha
  split at ha
  ·rename_i s' x' h3 h4
   obtain⟨s2,e1,e2⟩:=sq7 hF h3
   obtain⟨x2,e3,e4⟩:=sq7 hF h4
   split at ha
   ·rename_i u h3' hap
    cases ha
    obtain⟨v2,h2',k1,k2,k3⟩:=m31 hm e2 e4 hap
    exact⟨some v2,h2',by simp only[aop,e1,e3,k1],k2,k3⟩
   ·cases ha
  ·cases ha
 |ext i x=>
  simp only[aop]at ha
  split at ha
  ·rename_i vs h3
   obtain⟨x2,e1,e2⟩:=sq7 hF h3
   obtain⟨vs2,rfl,e3⟩:=e2.da1
   split at ha
   ·rename_i u hu
    cases ha
    obtain⟨u2,k1,k2⟩:=e3.2 i u (by simpa using hu)
    exact pure (by simp only[aop,e1];rw[show vs2[i]? =some u2 by simpa using k1]) k2
   ·cases ha
  ·cases ha
 |call f args=>cases ha
 |calld x args=>cases ha
end
end Go.Am
namespace Go.Am
def ev3:ACode→Bool
 | .region l=>l.all fun o=>o.op.good
 | .seq a b| .cond _ a b=>ev3 a&&ev3 b
 | .block _ _ c| .loop _ c=>ev3 c
 |_=>true
def dl0:List It→Bool
 | []=>true
 | .code c::ks=>ev3 c&&dl0 ks
 | .blk .. ::ks=>dl0 ks
 | .lp _ c::ks=>ev3 c&&dl0 ks
def x28(T:Tab):Prop:= ∀f F,T f=some F→ev3 F.code=true
def EmbG(ρ:Rel)(g:List ARes→List It→Fr→H→Res):Prop:=
 ∀rs ks fr fr2 h h2 v h',dl0 ks=true→FE ρ h.length fr fr2→ME ρ h h2→g rs ks fr h=some (v,h')→ ∃v2 h2',g rs ks fr2 h2=some (v2,h2')∧E ρ h'.length v v2∧Post ρ h h' h2 h2'
section
variable {ρ:Rel} {h h2 h':H} {fr fr2:Fr} {T:Tab} {g:List ARes→List It→Fr→H→Res}
theorem wr0{n:Nat}(hF:FE ρ n fr fr2){x:Option (Nat×Bool)}{b:Bool}(hg:gd fr x=some b):gd fr2 x=some b:=by
 cases x with
 |none=>exact hg
 |some p=>
  obtain⟨s,want⟩:=p
  simp only[gd]at hg⊢
  split at hg
  ·rename_i b' hb
   obtain⟨v2,e1,e2⟩:=hF _ _ hb
   rw[e2.bool]at e1
   rw[e1];exact hg
  ·rename_i vs hb
   obtain⟨v2,e1,e2⟩:=hF _ _ hb
   obtain⟨cs2,rfl,_⟩:=e2.da1
   rw[e1];exact hg
  ·cases hg
theorem oo1{n:Nat}: ∀{vs vs2:List Value} (k:Nat),LE ρ n vs vs2→FE ρ n (Fr.args k vs) (Fr.args k vs2)
 | [],vs2,k,hl,t,v,hv=>by cases hv
 |u::vs,[],k,hl,t,v,hv=>by have:=hl.1;simp at this
 |u::vs,u2::vs2,k,hl,t,v,hv=>by
  obtain⟨u',h1,h2⟩:=hl.2 0 _ rfl
  simp at h1;subst h1
  simp only[Fr.args]at hv⊢
  cases hb:Nat.beq t k with
  |true=>rw[hb]at hv;cases hv;exact⟨u2,rfl,h2⟩
  |false=>
   rw[hb]at hv
   exact oo1 (k+1) (vs:=vs) (vs2:=vs2) ⟨by have:=hl.1;simpa using this,fun i v hv=>by simpa using hl.2 (i+1) v (by simpa using hv)⟩ t v hv
theorem kx4(hg:EmbG ρ g)(hT:x28 T)(hm:ME ρ h h2){f:FuncId}{vs vs2:List Value}(hl:LE ρ h.length vs vs2){v:Value}(he:enter T g f vs h=some (v,h')):
 ∃v2 h2',enter T g f vs2 h2=some (v2,h2')∧E ρ h'.length v v2∧Post ρ h h' h2 h2':=by
 unfold enter at he⊢
 split at he
 ·rename_i F hF
  split at he
  ·rename_i hn
   obtain⟨v2,h2',k1,k2⟩:=hg _ _ _ _ _ _ _ _ (by simp[dl0,hT f F hF]) (oo1 0 hl) hm he
   exact⟨v2,h2',by rw[if_pos (by rw[←hl.1];exact hn)];exact k1,k2⟩
  ·cases he
 ·cases he
theorem kb2{n n0 n02:Nat}(hF:FE ρ n fr fr2)(hold: ∀o o2,ρ o o2→o<n0→o2<n02){o:AOper}(ho:wb6 n0 fr o=true):wb6 n02 fr2 o=true:=by
 obtain⟨dst,op,guard,chk⟩:=o
 cases chk with
 |false=>cases op<;>rfl
 |true=>
  cases op<;>first|rfl|skip
  rename_i agg k a
  simp only[wb6]at ho⊢
  split at ho
  ·rename_i p hp
   obtain⟨v2,e1,e2⟩:=sq7 hF hp
   obtain⟨o2,q1,q2,q3,rfl⟩:=e2.bq1
   rw[e1]
   simp only[decide_eq_true_eq]at ho⊢
   exact hold _ _ q2 ho
  ·cases ho
theorem gk7{chk:Bool}(hm:ME ρ h h2){h2':H}(hp:Post ρ h h' h2 h2'){α:Type}{r:Option α}{x:α}(hb:behind chk h h' r=some x){β:Type}{r2:Option β}:behind chk h2 h2' r2=r2:=
 sn9 fun hc=>hp.pre hm ((ya3 hb).2 hc)
theorem w39(hg:EmbG ρ g)(hT:x28 T){n0 n02:Nat}(hold: ∀o o2,ρ o o2→o<n0→o2<n02){o:AOper}(ho:o.op.good=true)(hF:FE ρ h.length fr fr2)(hm:ME ρ h h2){v:Option Value}(hs:core T g n0 o fr h=some (v,h')):
 ∃v2 h2',core T g n02 o fr2 h2=some (v2,h2')∧OVE ρ h'.length v v2∧Post ρ h h' h2 h2':=by
 unfold core at hs
 split at hs
 ·rename_i hgd
  cases hs
  exact⟨some (.tuple #[]),h2,by unfold core;rw[wr0 hF hgd],E.tuple #[] #[] rfl (fun i hi=>absurd hi (by simp)), .refl hm⟩
 ·rename_i hgd
  split at hs
  ·rename_i f args hop
   split at hs
   ·rename_i vs hvs
    obtain⟨vs2,e1,e2⟩:=ce4 hF hvs
    split at hs
    ·rename_i u h3 he
     have hb:=(ya3 hs).1
     cases hb
     obtain⟨v2,h2',k1,k2,k3⟩:=kx4 hg hT hm e2 he
     exact⟨some v2,h2',by unfold core;simp only[wr0 hF hgd,hop,e1,k1];exact gk7 hm k3 hs,k2,k3⟩
    ·cases hs
   ·cases hs
  ·rename_i x args hop
   split at hs
   ·rename_i f first cap vs hx hvs
    obtain⟨x2,e1,e2⟩:=sq7 hF hx
    obtain⟨vs2,e3,e4⟩:=ce4 hF hvs
    obtain⟨f',cap2,q1,rfl,rfl,q3⟩:=e2.func_inv
    cases q1
    split at hs
    ·split at hs
     ·rename_i u h3 he
      have hb:=(ya3 hs).1
      cases hb
      obtain⟨v2,h2',k1,k2,k3⟩:=kx4 hg hT hm (e4.append q3) he
      exact⟨some v2,h2',by unfold core;simp only[wr0 hF hgd,hop,e1,e3];rw[if_pos (show(#[]:Array Value).isEmpty=true from rfl)];simp only[k1];exact gk7 hm k3 hs,k2,k3⟩
     ·cases hs
    ·cases hs
   ·cases hs
  ·rename_i hne1 hne2
   split at hs
   ·rename_i hol
    obtain⟨v2,h2',k1,k2,k3⟩:=hn9 hF hm ho hs
    refine⟨v2,h2', ?_,k2,k3⟩
    unfold core
    simp only[wr0 hF hgd]
    rw[if_pos (kb2 hF hold hol)];exact k1
   ·cases hs
 ·cases hs
theorem a52(hg:EmbG ρ g)(hT:x28 T){n0 n02:Nat}(hold: ∀o o2,ρ o o2→o<n0→o2<n02){o:AOper}(ho:o.op.good=true)(hF:FE ρ h.length fr fr2)(hm:ME ρ h h2){fr':Fr}(hs:km6 T g n0 o fr h=some (fr',h')):
 ∃fr2' h2',km6 T g n02 o fr2 h2=some (fr2',h2')∧FE ρ h'.length fr' fr2'∧Post ρ h h' h2 h2':=by
 unfold km6 at hs
 split at hs
 ·rename_i v h3 hc
  cases hs
  obtain⟨v2,h2',k1,k2,k3⟩:=w39 hg hT hold ho hF hm hc
  exact⟨_,h2',by unfold km6;rw[k1],(hF.up k3.len).put _ k2,k3⟩
 ·cases hs
theorem yh3(hg:EmbG ρ g)(hT:x28 T){n0 n02:Nat}(hold: ∀o o2,ρ o o2→o<n0→o2<n02): ∀{l:List AOper} {fr fr2:Fr} {h h2 h':H} {fr':Fr},(l.all fun o=>o.op.good)=true→FE ρ h.length fr fr2→ME ρ h h2→gf4 T g n0 l fr h=some (fr',h')→
 ∃fr2' h2',gf4 T g n02 l fr2 h2=some (fr2',h2')∧FE ρ h'.length fr' fr2'∧Post ρ h h' h2 h2'
 | [],fr,fr2,h,h2,h',fr',_,hF,hm,hs=>by cases hs;exact⟨fr2,h2,rfl,hF, .refl hm⟩
 |o::l,fr,fr2,h,h2,h',fr',ho,hF,hm,hs=>by
  simp only[List.all_cons,Bool.and_eq_true]at ho
  simp only[gf4]at hs
  split at hs
  ·rename_i fr1 h1 h3
   obtain⟨fr21,h21,k1,k2,k3⟩:=a52 hg hT hold ho.1 hF hm h3
   obtain⟨fr22,h22,k4,k5,k6⟩:=yh3 hg hT hold ho.2 k2 k3.me hs
   exact⟨fr22,h22,by simp only[gf4,k1];exact k4,k5,k3.trans k6⟩
  ·cases hs
theorem nq8{n:Nat}(hF:FE ρ n fr fr2)(ks:List Nat):FE ρ n (Fr.of (hy3 fr ks)) (Fr.of (hy3 fr2 ks)):=by
 have spec: ∀(fr:Fr) (ks:List Nat) (t:Nat),Fr.of (hy3 fr ks) t=if t∈ks then fr t else none:=by
  intro fr ks t
  induction ks with
  |nil=>rfl
  |cons k ks ih=>
   simp only[hy3]
   cases hk:fr k with
   |none=>
    simp only[ih,List.mem_cons]
    by_cases ht:t=k
    ·subst ht;simp[hk]
    ·simp[ht]
   |some v=>
    simp only[Fr.of,ih,List.mem_cons]
    cases hb:Nat.beq t k with
    |true=>obtain rfl:=Nat.eq_of_beq_eq_true hb;simp[hk]
    |false=>
     have:t≠k:=by rintro rfl;rw[Nat.beq_refl]at hb;cases hb
     simp[this]
 intro t v hv
 rw[spec]at hv⊢
 split at hv
 ·rw[if_pos ‹_›];exact hF t v hv
 ·cases hv
theorem o47(hF:FE ρ h.length fr fr2)(hm:ME ρ h h2): ∀{rs:List ARes} {vs:List Value},ress fr h rs=some vs→ ∃vs2,ress fr2 h2 rs=some vs2∧LE ρ h.length vs vs2
 | [],vs,hs=>by cases hs;exact⟨[],rfl,LE.nil⟩
 |r::rs,vs,hs=>by
  simp only[ress]at hs
  split at hs
  ·rename_i v vs' h3 h4
   cases hs
   obtain⟨vs2,k1,k2⟩:=o47 hF hm h4
   have: ∃v2,res1 fr2 h2 r=some v2∧E ρ h.length v v2:=by
    cases r with
    |tmp t=>exact hF t v h3
    |cell t agg n=>
     simp only[res1]at h3⊢
     split at h3
     ·rename_i a ha
      obtain⟨a2,e1,e2⟩:=hF t _ ha
      obtain⟨o2,q1,q2,q3,rfl⟩:=e2.bq1
      rw[e1]
      split at h3
      ·cases h3
      ·split at h3
       ·split at h3
        ·rename_i cs hcs
         cases h3
         obtain⟨cs2,e3,e4⟩:=hm.lds q2 hcs
         exact⟨_,by simp[e3],e4.agg⟩
        ·cases h3
       ·obtain⟨u2,e3,e4⟩:=hm.ld1 q2 h3
        exact⟨u2,by simp[e3],e4⟩
     ·cases h3
   obtain⟨v2,k3,k4⟩:=this
   exact⟨v2::vs2,by simp[ress,k1,k3],LE.cons k4 k2⟩
  ·cases hs
theorem ly4(hF:FE ρ h.length fr fr2)(hm:ME ρ h h2){rs:List ARes}{v:Value}(hs:retv rs fr h=some (v,h')): ∃v2 h2',retv rs fr2 h2=some (v2,h2')∧E ρ h'.length v v2∧Post ρ h h' h2 h2':=by
 unfold retv at hs
 split at hs
 ·rename_i u hu
  cases hs
  obtain⟨vs2,k1,k2⟩:=o47 hF hm hu
  obtain⟨u2,k3,k4⟩:=k2.2 0 _ rfl
  obtain rfl:vs2=[u2]:=by
   have hl:=k2.1
   match vs2,hl,k3 with
   | [x],_,k3=>simp at k3;rw[k3]
  exact⟨u2,h2,by unfold retv;rw[k1],k4, .refl hm⟩
 ·rename_i vs hne hu
  cases hs
  obtain⟨vs2,k1,k2⟩:=o47 hF hm hu
  refine⟨.tuple vs2.toArray,h2, ?_,k2.tuple, .refl hm⟩
  unfold retv
  rw[k1]
  split
  ·rename_i u he
   cases he
   have hl:=k2.1
   match vs,hl,hne with
   | [x],_,hne=>exact absurd rfl (hne x)
  ·rename_i he;cases he;rfl
  ·rename_i he;cases he
 ·cases hs
theorem wa1{id:Nat}: ∀{ks:List It} {ko:List Nat} {k:List It},dl0 ks=true→gc2 id ks=some (ko,k)→dl0 k=true
 | [],_,_,_,h=>by cases h
 | .code c::ks,_,_,hg,h=>by simp only[dl0,Bool.and_eq_true]at hg;exact wa1 hg.2 h
 | .lp _ c::ks,_,_,hg,h=>by simp only[dl0,Bool.and_eq_true]at hg;exact wa1 hg.2 h
 | .blk id' ko::ks,_,_,hg,h=>by
   simp only[gc2]at h
   simp only[dl0]at hg
   split at h
   ·cases h;exact hg
   ·exact wa1 hg h
theorem mf9(hg:EmbG ρ g)(hT:x28 T):EmbG ρ (gF T g):=by
 intro rs ks fr fr2 h h2 v h' hgood hF hm hs
 unfold gF at hs
 split at hs
 ·exact ly4 hF hm hs
 ·exact ly4 hF hm hs
 ·simp only[dl0,ev3,Bool.true_and]at hgood
  exact hg _ _ _ _ _ _ _ _ hgood hF hm hs
 ·cases hs
 ·simp only[dl0,ev3,Bool.and_eq_true]at hgood
  exact hg _ _ _ _ _ _ _ _ (by simp[dl0,hgood]) hF hm hs
 ·split at hs
  ·rename_i t ht
   obtain⟨c2,e1,e2⟩:=sq7 hF ht
   rw[e2.bool]at e1
   simp only[dl0,ev3,Bool.and_eq_true]at hgood
   obtain⟨v2,h2',k1,k2⟩:=hg _ _ _ _ _ _ _ _ (by cases t<;>simp[dl0,hgood]) hF hm hs
   exact⟨v2,h2',by unfold gF;simp only[e1];exact k1,k2⟩
  ·cases hs
 ·simp only[dl0,ev3,Bool.and_eq_true]at hgood
  exact hg _ _ _ _ _ _ _ _ (by simp[dl0,hgood]) hF hm hs
 ·simp only[dl0,ev3,Bool.and_eq_true]at hgood
  exact hg _ _ _ _ _ _ _ _ (by simp[dl0,hgood]) (nq8 hF _) hm hs
 ·split at hs
  ·rename_i ko k hp
   simp only[dl0,ev3,Bool.true_and]at hgood
   obtain⟨v2,h2',k1,k2⟩:=hg _ _ _ _ _ _ _ _ (wa1 hgood hp) (nq8 hF ko) hm hs
   exact⟨v2,h2',by unfold gF;simp only[hp];exact k1,k2⟩
  ·cases hs
 ·split at hs
  ·rename_i fr1 h1 hrun
   simp only[dl0,ev3,Bool.and_eq_true]at hgood
   obtain⟨fr21,h21,k1,k2,k3⟩:=yh3 hg hT (fun o o2 hr ho=>hm.lt hr ho) hgood.1 hF hm hrun
   obtain⟨v2,h2',k4,k5,k6⟩:=hg _ _ _ _ _ _ _ _ hgood.2 k2 k3.me hs
   exact⟨v2,h2',by unfold gF;simp only[k1];exact k4,k5,k3.trans k6⟩
  ·cases hs
 ·simp only[dl0]at hgood
  exact hg _ _ _ _ _ _ _ _ hgood (nq8 hF _) hm hs
 ·simp only[dl0,Bool.and_eq_true]at hgood
  exact hg _ _ _ _ _ _ _ _ (by simp[dl0,hgood]) (nq8 hF _) hm hs
theorem ab0(hT:x28 T): ∀n,EmbG ρ (goN T n)
 |0=>fun _ _ _ _ _ _ _ _ _ _ _ hs=>by cases hs
 |n+1=>mf9 (ab0 hT n) hT
end
end Go.Am
namespace Go.Am
structure WFs (fr:Fr) (h:H):Prop where
 fe:FE Eq h.length fr fr
 me:ME Eq h h
structure Eqv (n0:Nat) (fr:Fr) (h:H) (fr2:Fr) (h2:H):Prop where
 ex: ∃π:Rel,FE π h.length fr fr2∧ME π h h2∧h.length=h2.length∧(∀o,o<n0→π o o)∧(∀o,o<h.length→ ∃o2,π o o2)
theorem WFs.eqv{fr:Fr}{h:H}(hw:WFs fr h)(n0:Nat):Eqv n0 fr h fr h:=⟨Eq,hw.fe,hw.me,rfl,fun _ _=>rfl,fun o _=>⟨o,rfl⟩⟩
theorem ME.comp{ρ σ:Rel}{h h2 h3:H}(a:ME ρ h h2)(b:ME σ h2 h3):ME (fun o o3=> ∃o2,ρ o o2∧σ o2 o3) h h3:=by
 refine⟨fun o o3 p p3 ⟨o2,h1,h2⟩ ⟨p2,h3,h4⟩=>(a.uni _ _ _ _ h1 h3).trans (b.uni _ _ _ _ h2 h4),fun j=>⟨_,a.new j,b.new j⟩,fun o o3 ⟨o2,h1,h2⟩=> ?_⟩
 exact(a.get _ _ h1).comp (b.get _ _ h2) fun x y z h1 h2 h3 h4=>⟨⟨y,h1,h3⟩,h2⟩
theorem Eqv.trans{n0:Nat}{fr fr2 fr3:Fr}{h h2 h3:H}(a:Eqv n0 fr h fr2 h2)(b:Eqv n0 fr2 h2 fr3 h3):Eqv n0 fr h fr3 h3:=by
 obtain⟨π,a1,a2,a3,a4,a5⟩:=a.ex
 obtain⟨σ,b1,b2,b3,b4,b5⟩:=b.ex
 refine⟨_,fun t v hv=> ?_,a2.comp b2,a3.trans b3,fun o ho=>⟨o,a4 o ho,b4 o ho⟩,fun o ho=> ?_⟩
 ·obtain⟨v2,k1,k2⟩:=a1 t v hv
  obtain⟨v3,k3,k4⟩:=b1 t v2 k1
  exact⟨v3,k3,k2.comp k4 fun x y z h1 h2 h3 h4=>⟨⟨y,h1,h3⟩,h2⟩⟩
 ·obtain⟨o2,h1⟩:=a5 o ho
  obtain⟨o3,h2⟩:=b5 o2 (a2.lt h1 ho)
  exact⟨o3,o2,h1,h2⟩
section
variable {T:Tab} {g:List ARes→List It→Fr→H→Res} {n0:Nat}
theorem WFs.run(hg: ∀ρ,EmbG ρ g)(hT:x28 T){l:List AOper}(hl:(l.all fun o=>o.op.good)=true){fr fr':Fr}{h h':H}(hw:WFs fr h)(hs:gf4 T g n0 l fr h=some (fr',h')):WFs fr' h':=by
 obtain⟨fr2,h2,k1,k2,k3⟩:=yh3 (hg Eq) hT (n0:=n0) (n02:=n0) (fun o o2 h1 h2=>h1▸h2) hl hw.fe hw.me hs
 rw[hs]at k1
 cases k1
 exact⟨k2,k3.me⟩
theorem Eqv.run(hg: ∀ρ,EmbG ρ g)(hT:x28 T){l:List AOper}(hl:(l.all fun o=>o.op.good)=true){fr fr2 fr':Fr}{h h2 h':H}(hn:n0≤h.length)(he:Eqv n0 fr h fr2 h2)(hs:gf4 T g n0 l fr h=some (fr',h')):
 ∃fr2' h2',gf4 T g n0 l fr2 h2=some (fr2',h2')∧Eqv n0 fr' h' fr2' h2':=by
 obtain⟨π,a1,a2,a3,a4,a5⟩:=he.ex
 obtain⟨fr2',h2',k1,k2,k3⟩:=yh3 (hg π) hT (n0:=n0) (n02:=n0) (fun o o2 h1 h2=>by
  have:=(a2.uni _ _ _ _ h1 (a4 o h2)).1 rfl;omega) hl a1 a2 hs
 obtain⟨m,m1,m2⟩:=k3.more
 refine⟨fr2',h2',k1,π,k2,k3.me,by omega,a4,fun o ho=> ?_⟩
 by_cases hlt:o<h.length
 ·exact a5 o hlt
 ·exact⟨h2.length+(o-h.length),by have:=a2.new (o-h.length);rwa [show h.length+(o-h.length)=o by omega]at this⟩
def AOp.isNew:AOp→Bool
 | .alloc .. | .box .. | .mkSl .. | .mks .. =>true
 |_=>false
theorem gy5{op:AOp}(hn:op.isNew=true)(hgood:op.good=true){fr:Fr}{h h':H}{v:Option Value}(ha:aop fr h op=some (v,h')):
 ∃(mk:Nat→Value) (r:Row),(∀h2,aop fr h2 op=some (some (mk h2.length),h2++[.row r]))∧(∀(ρ:Rel) n o o2,ρ o o2→o<n→E ρ n (mk o) (mk o2))∧(∀n,FE Eq n fr fr→LE Eq n r.cells r.cells):=by
 cases op<;>first|(cases hn;done)|skip
 case alloc elem zs=>
  exact⟨fun o=> .pointer (some ⟨o,0,none⟩),⟨zs,elem,0,true⟩,fun h2=>rfl,fun ρ n o o2 h1 h2=> .ptr _ _ _ h1 h2,fun n _=>LE.self (show zs.all tc5=true from hgood)⟩
 case box elem size x=>
  simp only[aop]at ha
  split at ha
  ·rename_i u hu
   split at ha
   ·rename_i hc
    refine⟨fun o=> .pointer (some ⟨o,0,none⟩),⟨u.cells.toList,elem,0,true⟩,fun h2=>by simp only[aop,hu];rw[if_pos hc],fun ρ n o o2 h1 h2=> .ptr _ _ _ h1 h2,fun n hF=> ?_⟩
    obtain⟨u2,e1,e2⟩:=sq7 hF hu
    rw[hu]at e1;cases e1
    exact e2.cells
   ·cases ha
  ·cases ha
 case mkSl elem size len parts=>
  simp only[aop]at ha
  split at ha
  ·rename_i vs hvs
   split at ha
   ·rename_i hc
    refine⟨fun o=> .slice (some ⟨o,0,none⟩) len len,⟨cat vs,elem,size,true⟩,fun h2=>by simp only[aop,hvs];rw[if_pos hc],fun ρ n o o2 h1 h2=> .sl _ _ _ _ _ h1 h2,fun n hF=> ?_⟩
    obtain⟨vs2,e1,e2⟩:=ce4 hF hvs
    rw[hvs]at e1;cases e1
    exact(n41 (size:=size) e2).2
   ·cases ha
  ·cases ha
 case mks elem size bytes zs l c=>
  simp only[aop]at ha
  split at ha
  ·rename_i kl l' kc c' h3 h4
   split at ha
   ·rename_i hc
    exact⟨fun o=> .slice (some ⟨o,0,none⟩) l'.toNat c'.toNat,⟨rep zs c'.toNat,elem,size,true⟩,fun h2=>by simp only[aop,h3,h4];rw[if_pos hc],fun ρ n o o2 h1 h2=> .sl _ _ _ _ _ h1 h2,fun n hF=>LE.rep (LE.self (show zs.all tc5=true from hgood)) _⟩
   ·cases ha
  ·cases ha
theorem op1{o:AOper}(hn:o.op.isNew=true)(hgood:o.op.good=true){fr:Fr}{h h':H}{v:Option Value}(ha:core T g n0 o fr h=some (v,h')):
 (∀h2,core T g n0 o fr h2=some (v,h2))∨
 ∃(mk:Nat→Value) (r:Row),(∀h2,core T g n0 o fr h2=some (some (mk h2.length),h2++[.row r]))∧(∀(ρ:Rel) n o o2,ρ o o2→o<n→E ρ n (mk o) (mk o2))∧(∀n,FE Eq n fr fr→LE Eq n r.cells r.cells):=by
 unfold core at ha
 split at ha
 ·rename_i hgd
  cases ha
  exact .inl fun h2=>by unfold core;rw[hgd]
 ·rename_i hgd
  split at ha
  ·rename_i hop;rw[hop]at hn;cases hn
  ·rename_i hop;rw[hop]at hn;cases hn
  ·rename_i hne1 hne2
   split at ha
   ·rename_i hol
    obtain⟨mk,r,k1,k2,k3⟩:=gy5 hn hgood ha
    refine .inr ⟨mk,r,fun h2=> ?_,k2,k3⟩
    unfold core
    simp only[hgd]
    rw[if_pos hol]
    exact k1 h2
   ·cases ha
 ·cases ha
theorem sn7{o:AOper}(hc:o.op.cls=1){fr:Fr}{h hx:H}{n:Nat}(hF:FE Eq n fr fr)(hsub: ∀x r,x<n→H.row hx x=some r→h.row x=some r){v:Option Value}{h':H}(hs:core T g n0 o fr hx=some (v,h')):core T g n0 o fr h=some (v,h):=by
 have hx':=(sl5 hc hs).1
 simp only at hx'
 subst hx'
 unfold core at hs⊢
 split at hs
 ·cases hs;rfl
 ·split at hs
  ·rename_i hop;rw[hop]at hc;cases hc
  ·rename_i hop;rw[hop]at hc;cases hc
  ·rename_i hne1 hne2
   split at hs
   ·rename_i hold
    rw[if_pos hold]
    have key: ∀{agg:Bool} {k:Nat} {a:Operand},aop fr h' (.ld agg k a)=some (v,h')→aop fr h (.ld agg k a)=some (v,h):=by
     intro agg k a hs
     simp only[aop]at hs⊢
     split at hs
     ·rename_i ad had
      obtain⟨v2,e1,e2⟩:=sq7 hF had
      obtain⟨o2,q1,q2,q3,rfl⟩:=e2.bq1
      split at hs
      ·cases hs
      ·rename_i hsp
       rw[if_neg hsp]
       split at hs
       ·unfold H.lds at hs⊢
        split at hs
        ·rename_i cs hcs
         split at hcs
         ·rename_i r hr
          rw[hsub _ _ q3 hr]
          cases hs
          simp only[hcs]
         ·cases hcs
        ·cases hs
       ·unfold H.ld1 at hs⊢
        split at hs
        ·rename_i u hu
         split at hu
         ·rename_i r hr
          rw[hsub _ _ q3 hr]
          cases hs
          simp only[hu]
         ·cases hu
        ·cases hs
     ·cases hs
    have keyb: ∀{a:Operand},bx fr h' a=true→bx fr h a=true:=by
     intro a hb
     unfold bx at hb⊢
     cases hev:ev fr a with
     |none=>rw[hev]at hb;cases hb
     |some w=>
      rw[hev]at hb
      split at hb
      ·rename_i ad e
       cases e
       obtain⟨v2,e1,e2⟩:=sq7 hF hev
       obtain⟨o2,q1,q2,q3,rfl⟩:=e2.bq1
       unfold boxed at hb⊢
       split at hb
       ·rename_i r hr
        simp only[hsub _ _ q3 hr];exact hb
       ·cases hb
      ·cases hb
    cases hop:o.op<;>rw[hop]at hc<;>simp only[AOp.cls]at hc<;>first|(exfalso;revert hc;decide)|skip
    case ld agg k a=>rw[hop]at hs;exact key hs
    case ldb agg k a=>
     rw[hop]at hs
     obtain⟨hb,hs⟩:=zx2 hs
     show aop fr h (.ldb agg k a)=_
     rw[fd7,if_pos (keyb hb)];exact key hs
    case sl size x lo hi=>
     rw[hop]at hs
     simp only[aop]at hs⊢
     split at hs
     ·rename_i a l c lo' hi' h3 h4 h5
      split at hs
      ·rename_i hcond
       cases hs
       have hu:ss4 h size a=true:=by
        have hu:=hcond.2.2.2
        cases a with
        |none=>rfl
        |some a=>
         obtain⟨v2,e1,e2⟩:=sq7 hF h3
         obtain⟨o2,q1,q2,q3,rfl⟩:=e2.wy5
         unfold ss4 at hu⊢
         simp only at hu⊢
         split at hu
         ·rename_i r hr;rw[hsub _ _ q3 hr];exact hu
         ·cases hu
       rw[if_pos ⟨hcond.1,hcond.2.1,hcond.2.2.1,hu⟩]
      ·cases hs
     ·cases hs
   ·cases hs
 ·cases hs
def AOp.isApp:AOp→Bool
 | .app .. =>true
 |_=>false
theorem np7{h:H}{x y:Nat}{r:Row}(hx:x<h.length)(hr:H.row (kill h y) x=some r):h.row x=some r:=by
 unfold H.row kill at*
 by_cases he:y=x
 ·rw[he,List.getElem?_set_self hx]at hr;cases hr
 ·rw[List.getElem?_set_ne he]at hr;exact hr
theorem a27{o:AOper}(hc:o.op.isApp=true){fr:Fr}{h h':H}{v:Option Value}(hs:core T g n0 o fr h=some (v,h')): ∀x r,x<h.length→H.row h' x=some r→h.row x=some r:=by
 have happ: ∀{elem size bytes s x v h'},aapp elem size bytes h s x=some (v,h')→ ∀x r,x<h.length→H.row h' x=some r→h.row x=some r:=by
  intro elem size bytes s x v h' hap x r hx hr
  unfold aapp aput at hap
  split at hap<;>first|(cases hap;done)|skip
  split at hap<;>first|(cases hap;done)|skip
  split at hap
  ·split at hap<;>first|(cases hap;done)|skip
   split at hap
   ·cases hap;exact hr
   ·split at hap
    ·cases hap;rwa [n64 hx]at hr
    ·cases hap
  ·split at hap<;>first|(cases hap;done)|skip
   split at hap
   ·cases hap
    rw[n64 (by simp[kill];exact hx)]at hr
    exact np7 hx hr
   ·cases hap
 unfold core at hs
 split at hs
 ·cases hs;exact fun _ _ _ h=>h
 ·cases hop:o.op<;>rw[hop]at hc<;>first|(cases hc;done)|skip
  rw[hop]at hs
  simp only at hs
  split at hs
  ·simp only[aop]at hs
   split at hs
   ·split at hs
    ·rename_i hap
     cases hs
     exact happ hap
    ·cases hs
   ·cases hs
  ·cases hs
 ·cases hs
def adds(o:AOper):Bool:=Nat.ble o.op.cls 2&&(!o.op.isCall||o.chk)
theorem ga6{o:AOper}(ha:adds o=true){fr:Fr}{h:H}{p}(hs:core T g n0 o fr h=some p):h<+:p.2:=by
 simp only[adds,Bool.and_eq_true]at ha
 have h2:=Nat.le_of_ble_eq_true ha.1
 by_cases h0:o.op.cls=0
 ·rw[(rf7 h0 hs).1];exact List.prefix_refl _
 ·by_cases h1:o.op.cls=1
  ·rw[(sl5 h1 hs).1];exact List.prefix_refl _
  ·exact uh4 (by omega) ha.2 hs
def cut(N p:Nat):Rel:=fun o o2=>(o<N∧o2=o)∨(N+p≤o∧o2+p=o)
def ins(N p:Nat):Rel:=fun o o2=>(o<N∧o2=o)∨(N≤o∧o2=o+p)
def flip(N p q:Nat):Rel:=fun o o2=>(o<N∧o2=o)∨(N≤o∧o<N+p∧o2=o+q)∨(N+p≤o∧o<N+p+q∧o2+p=o)∨(N+p+q≤o∧o2=o)
theorem ii6{h h':H}{o:Nat}(hp:h<+:h')(ho:o<h.length):h'[o]? =h[o]? :=by
 obtain⟨t,rfl⟩:=hp
 exact List.getElem?_append_left ho
theorem OE.none{ρ:Rel}{n:Nat}{h h2:H}{o o2:Nat}(h1:h.length≤o)(h3:h2.length≤o2):OE ρ n h[o]? h2[o2]? :=by
 rw[List.getElem?_eq_none h1,List.getElem?_eq_none h3];trivial
theorem ME.cut{h h1:H}(hw:ME Eq h h)(hp:h<+:h1):ME (cut h.length (h1.length-h.length)) h1 h:=by
 have hl:=hp.length_le
 refine⟨fun o o2 p p2 h3 h4=>by unfold Am.cut at h3 h4;omega,fun j=>by unfold Am.cut;omega,fun o o2 ho=> ?_⟩
 unfold Am.cut at ho
 rcases ho with⟨h3,rfl⟩|⟨h3,h4⟩
 ·rw[ii6 hp h3]
  exact(hw.get _ _ rfl).mono fun x y h5 h6=>⟨.inl ⟨h5,h6.symm⟩,by omega⟩
 ·exact OE.none (by omega) (by omega)
theorem ME.ins{h h1:H}(hw:ME Eq h h)(hp:h<+:h1):ME (ins h.length (h1.length-h.length)) h h1:=by
 have hl:=hp.length_le
 refine⟨fun o o2 p p2 h3 h4=>by unfold Am.ins at h3 h4;omega,fun j=>by unfold Am.ins;omega,fun o o2 ho=> ?_⟩
 unfold Am.ins at ho
 rcases ho with⟨h3,rfl⟩|⟨h3,h4⟩
 ·rw[ii6 hp h3]
  exact(hw.get _ _ rfl).mono fun x y h5 h6=>⟨.inl ⟨h5,h6.symm⟩,by omega⟩
 ·exact OE.none (by omega) (by omega)
theorem FE.into{ρ:Rel}{n m:Nat}{fr:Fr}(hF:FE Eq n fr fr)(hr: ∀o,o<n→ρ o o)(hn:n≤m):FE ρ m fr fr:=hF.mono fun x y h5 h6=>⟨h6▸hr x h5,by omega⟩
def gw4(a b:AOper):Bool:=
 (match a.dst with|some d=> !b.looks.contains d&&b.dst !=some d|none=>true)&&(match b.dst with|some d=> !a.looks.contains d|none=>true)&&
 (a.op.isNew||b.op.isNew||(adds a&&adds b)||(a.op.isApp&&b.op.cls==1))
theorem OVE.mono{ρ ρ':Rel}{n n':Nat}{v v2:Option Value}(h:OVE ρ n v v2)(hr: ∀o o2,o<n→ρ o o2→ρ' o o2∧o<n'):OVE ρ' n' v v2:=by
 cases v<;>cases v2<;>first|exact h|exact E.mono h hr
theorem ia1{N p q:Nat}(hn:n0≤N){fr:Fr}{hc hs:H}(hF:FE Eq N fr fr)(lc:hc.length=N+p+q)(ls:hs.length=N+p+q)
 (g1: ∀o,o<N→OE (flip N p q) hc.length hc[o]? hs[o]?) (g2: ∀o,N≤o→o<N+p→OE (flip N p q) hc.length hc[o]? hs[o+q]?) (g3: ∀o,N≤o→o<N+q→OE (flip N p q) hc.length hc[o+p]? hs[o]?)
 {d1 d2:Option Nat} (hd: ∀s,d1=some s→d2≠some s) {v1 v2 u1 u2:Option Value} (hv1:OVE (flip N p q) hc.length v1 u1) (hv2:OVE (flip N p q) hc.length v2 u2):
 Eqv n0 ((fr.put d1 v1).put d2 v2) hc ((fr.put d2 u2).put d1 u1) hs:=by
 refine⟨flip N p q, ?_,⟨fun o o2 x x2 h3 h4=>by unfold flip at h3 h4;omega,fun j=>by unfold flip;omega,fun o o2 ho=> ?_⟩,by omega,fun o ho=>by unfold flip;omega,fun o ho=> ?_⟩
 ·rw[←put_comm hd]
  exact((hF.into (fun o ho=> .inl ⟨ho,rfl⟩) (by omega)).put _ hv1).put _ hv2
 ·unfold flip at ho
  rcases ho with⟨h1,rfl⟩|⟨h1,h2,rfl⟩|⟨h1,h2,h3⟩|⟨h1,rfl⟩
  ·exact g1 _ h1
  ·exact g2 _ h1 h2
  ·obtain rfl:o=o2+p:=h3.symm
   exact g3 o2 (by omega) (by omega)
  ·exact OE.none (by omega) (by omega)
 ·by_cases h1:o<N
  ·exact⟨o, .inl ⟨h1,rfl⟩⟩
  ·by_cases h2:o<N+p
   ·exact⟨o+q, .inr (.inl ⟨by omega,h2,rfl⟩)⟩
   ·exact⟨o-p, .inr (.inr (.inl ⟨by omega,by omega,by omega⟩))⟩
theorem eo3(hg: ∀ρ,EmbG ρ g)(hT:x28 T){o1 o2:AOper}(hs:gw4 o1 o2=true)(q1:o1.op.good=true)(q2:o2.op.good=true){fr fr1 fr2:Fr}{h h1 h2:H}(hn:n0≤h.length)(hw:WFs fr h)
 (s1:km6 T g n0 o1 fr h=some (fr1,h1)) (s2:km6 T g n0 o2 fr1 h1=some (fr2,h2)):
 ∃fr1' h1' fr2' h2',km6 T g n0 o2 fr h=some (fr1',h1')∧km6 T g n0 o1 fr1' h1'=some (fr2',h2')∧Eqv n0 fr2 h2 fr2' h2':=by
 have hwf:WFs fr2 h2:=WFs.run (n0:=n0) hg hT (l:=[o1,o2]) (by simp[q1,q2]) hw (by simp only[gf4,s1,s2])
 simp only[gw4,Bool.and_eq_true]at hs
 obtain⟨⟨ha,hb⟩,hcls⟩:=hs
 have d1: ∀d,o1.dst=some d→d∉o2.looks∧o2.dst≠some d:=by
  intro d hd
  rw[hd]at ha
  simpa using ha
 have d2: ∀d,o2.dst=some d→d∉o1.looks:=by
  intro d hd
  rw[hd]at hb
  simpa using hb
 have dd: ∀s,o1.dst=some s→o2.dst≠some s:=fun s hs=>(d1 s hs).2
 rw[sk9]at s1 s2
 cases c1:core T g n0 o1 fr h with
 |none=>rw[c1]at s1;cases s1
 |some p1=>
  obtain⟨v1,hx⟩:=p1
  rw[c1]at s1
  simp only[Option.map_some,Option.some.injEq,Prod.mk.injEq]at s1
  obtain⟨rfl,rfl⟩:=s1
  cases c2:core T g n0 o2 (fr.put o1.dst v1) hx with
  |none=>rw[c2]at s2;cases s2
  |some p2=>
   obtain⟨v2,hy⟩:=p2
   rw[c2]at s2
   simp only[Option.map_some,Option.some.injEq,Prod.mk.injEq]at s2
   obtain⟨rfl,rfl⟩:=s2
   have e2: ∀u h,core T g n0 o2 (fr.put o1.dst u) h=core T g n0 o2 fr h:=fun u h=>c43 fun t ht=>dd0 fun hd=>(d1 t hd).1 ht
   have e1: ∀u h,core T g n0 o1 (fr.put o2.dst u) h=core T g n0 o1 fr h:=fun u h=>c43 fun t ht=>dd0 fun hd=>d2 t hd ht
   rw[e2]at c2
   have fin: ∀{u2 hb u1 hs},core T g n0 o2 fr h=some (u2,hb)→core T g n0 o1 fr hb=some (u1,hs)→Eqv n0 ((fr.put o1.dst v1).put o2.dst v2) hy ((fr.put o2.dst u2).put o1.dst u1) hs→
    ∃fr1' h1' fr2' h2',km6 T g n0 o2 fr h=some (fr1',h1')∧km6 T g n0 o1 fr1' h1'=some (fr2',h2')∧Eqv n0 ((fr.put o1.dst v1).put o2.dst v2) hy fr2' h2':=by
    intro u2 hb u1 hs k1 k2 k3
    exact⟨fr.put o2.dst u2,hb,_,hs,by rw[sk9,k1];rfl,by rw[sk9,e1,k2];rfl,k3⟩
   have same:core T g n0 o2 fr h=some (v2,h)∧core T g n0 o1 fr h=some (v1,hy)∨(core T g n0 o2 fr h=some (v2,hy)∧core T g n0 o1 fr hy=some (v1,hy))→
    ∃fr1' h1' fr2' h2',km6 T g n0 o2 fr h=some (fr1',h1')∧km6 T g n0 o1 fr1' h1'=some (fr2',h2')∧Eqv n0 ((fr.put o1.dst v1).put o2.dst v2) hy fr2' h2':=by
    rintro(⟨k1,k2⟩|⟨k1,k2⟩)
    ·exact fin k1 k2 (by rw[←put_comm dd];exact hwf.eqv n0)
    ·exact fin k1 k2 (by rw[←put_comm dd];exact hwf.eqv n0)
   have cutS: ∀{k:Nat},h.length+k≤hx.length→h<+:hx→ ∃u2 hb,core T g n0 o2 fr h=some (u2,hb)∧OVE (cut h.length (hx.length-h.length)) hy.length v2 u2∧Post (cut h.length (hx.length-h.length)) hx hy h hb:=by
    intro k hk hp
    exact w39 (hg _) hT (n0:=n0) (n02:=n0) (fun o o2 h3 h4=>by unfold cut at h3;omega) q2 (hw.fe.into (fun o ho=> .inl ⟨ho,rfl⟩) hp.length_le) (hw.me.cut hp) c2
   have insS: ∀{hb:H},h<+:hb→ ∃u1 hs,core T g n0 o1 fr hb=some (u1,hs)∧OVE (ins h.length (hb.length-h.length)) hx.length v1 u1∧Post (ins h.length (hb.length-h.length)) h hx hb hs:=by
    intro hb hp
    exact w39 (hg _) hT (n0:=n0) (n02:=n0) (fun o o2 h3 h4=>by unfold ins at h3;omega) q1 (hw.fe.into (fun o ho=> .inl ⟨ho,rfl⟩) (Nat.le_refl _)) (hw.me.ins hp) c1
   simp only[Bool.or_eq_true,Bool.and_eq_true]at hcls
   rcases hcls with((h0|h0)|⟨h0,h0'⟩)|⟨h0,h0'⟩
   ·--the first makes one object
    rcases op1 h0 q1 c1 with k|⟨mk,r,k1,k2,k3⟩
    ·have:=k h
     rw[c1]at this;cases this
     exact same (.inr ⟨c2,k _⟩)
    ·have:=k1 h
     rw[c1]at this;cases this
     have hp:h<+:h++[Ob.row r]:=List.prefix_append _ _
     have hl:(h++[Ob.row r]).length-h.length=1:=by simp
     obtain⟨u2,hb,m1,m2,m3⟩:=cutS (k:=0) (by simp) hp
     rw[hl]at m2 m3
     obtain⟨m,l1,l2⟩:=m3.more
     simp only[List.length_append,List.length_cons,List.length_nil]at l1
     refine fin m1 (k1 hb) (ia1 (p:=1) (q:=m) hn hw.fe (by omega) (by simp;omega) (fun o ho=> ?_) (fun o ho1 ho2=> ?_) (fun o ho1 ho2=> ?_) dd ?_ (m2.mono ?_))
     ·rw[List.getElem?_append_left (by omega)]
      exact(m3.me.get o o (.inl ⟨ho,rfl⟩)).mono fun x y h5 h6=>⟨by unfold cut at h6;unfold flip;omega,h5⟩
     ·obtain rfl:o=h.length:=by omega
      rw[m3.keep _ (by simp) (fun o2 ho=>by unfold cut at ho;omega),show h.length+m=hb.length by omega]
      simp only[List.length_append,List.length_cons,List.length_nil,List.getElem?_append_right (Nat.le_refl _),Nat.sub_self,List.getElem?_cons_zero]
      exact⟨rfl,rfl,rfl,(k3 _ hw.fe).mono fun x y h5 h6=>⟨.inl ⟨h5,h6.symm⟩,by omega⟩⟩
     ·rw[List.getElem?_append_left (by omega)]
      exact(m3.me.get (o+1) o (.inr ⟨by omega,rfl⟩)).mono fun x y h5 h6=>⟨by unfold cut at h6;unfold flip;omega,h5⟩
     ·exact k2 _ _ _ _ (by unfold flip;omega) (by omega)
     ·exact fun x y h5 h6=>⟨by unfold cut at h6;unfold flip;omega,h5⟩
   ·--the second does
    rcases op1 h0 q2 c2 with k|⟨mk,r,k1,k2,k3⟩
    ·have:=k hx
     rw[c2]at this;cases this
     exact same (.inl ⟨k _,c1⟩)
    ·have:=k1 hx
     rw[c2]at this;cases this
     have hp:h<+:h++[Ob.row r]:=List.prefix_append _ _
     have hl:(h++[Ob.row r]).length-h.length=1:=by simp
     obtain⟨u1,hs,m1,m2,m3⟩:=insS hp
     rw[hl]at m2 m3
     obtain⟨m,l1,l2⟩:=m3.more
     simp only[List.length_append,List.length_cons,List.length_nil]at l2
     refine fin (k1 h) m1 (ia1 (p:=m) (q:=1) hn hw.fe (by simp;omega) (by omega) (fun o ho=> ?_) (fun o ho1 ho2=> ?_) (fun o ho1 ho2=> ?_) dd (m2.mono ?_) ?_)
     ·rw[List.getElem?_append_left (by omega)]
      exact(m3.me.get o o (.inl ⟨ho,rfl⟩)).mono fun x y h5 h6=>⟨by unfold ins at h6;unfold flip;omega,by simp;omega⟩
     ·rw[List.getElem?_append_left (by omega)]
      exact(m3.me.get o (o+1) (.inr ⟨by omega,rfl⟩)).mono fun x y h5 h6=>⟨by unfold ins at h6;unfold flip;omega,by simp;omega⟩
     ·obtain rfl:o=h.length:=by omega
      rw[m3.keep2 _ (by simp) (fun o2 ho=>by unfold ins at ho;omega),show h.length+m=hx.length by omega]
      simp only[List.getElem?_append_right (Nat.le_refl _),Nat.sub_self,List.getElem?_cons_zero]
      exact⟨rfl,rfl,rfl,(k3 _ hw.fe).mono fun x y h5 h6=>⟨.inl ⟨h5,h6.symm⟩,by simp;omega⟩⟩
     ·exact fun x y h5 h6=>⟨by unfold ins at h6;unfold flip;omega,by simp;omega⟩
     ·exact k2 _ _ _ _ (by unfold flip;omega) (by simp)
   ·--both only add
    have p1:=ga6 h0 c1
    have p2:=ga6 h0' c2
    simp only at p1 p2
    obtain⟨u2,hb,m1,m2,m3⟩:=cutS (k:=0) (by simpa using p1.length_le) p1
    have p3:=m3.pre (hw.me.cut p1) p2
    obtain⟨u1,hs,n1,n2,n3⟩:=insS p3
    have p4:=n3.pre (hw.me.ins p3) p1
    have L1:=p1.length_le
    have L2:=p2.length_le
    have L3:=p3.length_le
    obtain⟨a,a1,a2⟩:=m3.more
    obtain⟨b,b1,b2⟩:=n3.more
    refine fin m1 n1 (ia1 (p:=b) (q:=a) hn hw.fe (by omega) (by omega) (fun o ho=> ?_) (fun o ho1 ho2=> ?_) (fun o ho1 ho2=> ?_) dd (n2.mono ?_) (m2.mono ?_))
    ·rw[ii6 p2 (by omega),ii6 p1 ho,ii6 p4 (by omega),ii6 p3 ho]
     exact(hw.me.get o o rfl).mono fun x y h5 h6=>⟨.inl ⟨h5,h6.symm⟩,by omega⟩
    ·rw[ii6 p2 (by omega)]
     exact(n3.me.get o (o+a) (.inr ⟨by omega,by omega⟩)).mono fun x y h5 h6=>⟨by unfold ins at h6;unfold flip;omega,by omega⟩
    ·rw[ii6 p4 (by omega)]
     exact(m3.me.get (o+b) o (.inr ⟨by omega,by omega⟩)).mono fun x y h5 h6=>⟨by unfold cut at h6;unfold flip;omega,by omega⟩
    ·exact fun x y h5 h6=>⟨by unfold ins at h6;unfold flip;omega,by omega⟩
    ·exact fun x y h5 h6=>⟨by unfold cut at h6;unfold flip;omega,by omega⟩
   ·--an append,and a look at what is still there
    have h1:o2.op.cls=1:=by simpa using h0'
    have e:=(sl5 h1 c2).1
    simp only at e
    subst e
    exact same (.inl ⟨sn7 h1 hw.fe (a27 h0 c1) c2,c1⟩)
end
end Go.Am
namespace Go.Am
section
variable {T:Tab} {g:List ARes→List It→Fr→H→Res} {n0:Nat}
theorem df4: ∀{l1 l2:List AOper} {fr:Fr} {h:H} {r},gf4 T g n0 (l1++l2) fr h=some r↔ ∃fr1 h1,gf4 T g n0 l1 fr h=some (fr1,h1)∧gf4 T g n0 l2 fr1 h1=some r
 | [],l2,fr,h,r=>by
   constructor
   ·intro hr;exact⟨fr,h,rfl,hr⟩
   ·rintro⟨fr1,h1,he,hr⟩;cases he;exact hr
 |o::l1,l2,fr,h,r=>by
  simp only[List.cons_append,gf4]
  cases km6 T g n0 o fr h with
  |none=>simp
  |some p=>obtain⟨fr1,h1⟩:=p;simp only;exact df4
def es5(a b:AOper):Bool:=ts2 a b||gw4 a b
theorem ub2(hg: ∀rs ks fr h v h',g rs ks fr h=some (v,h')→h.length≤h'.length)(hE: ∀ρ,EmbG ρ g)(hT:x28 T){o1 o2:AOper}(hs:es5 o1 o2=true)(q1:o1.op.good=true)(q2:o2.op.good=true){fr fr1 fr2:Fr}{h h1 h2:H}(hn:n0≤h.length)(hw:WFs fr h)
 (s1:km6 T g n0 o1 fr h=some (fr1,h1)) (s2:km6 T g n0 o2 fr1 h1=some (fr2,h2)):
 ∃fr1' h1' fr2' h2',km6 T g n0 o2 fr h=some (fr1',h1')∧km6 T g n0 o1 fr1' h1'=some (fr2',h2')∧Eqv n0 fr2 h2 fr2' h2':=by
 simp only[es5,Bool.or_eq_true]at hs
 rcases hs with hs|hs
 ·obtain⟨fr1',h1',k1,k2⟩:=swap hs hn s1 s2
  have hwf:WFs fr2 h2:=WFs.run (n0:=n0) hE hT (l:=[o1,o2]) (by simp[q1,q2]) hw (by simp only[gf4,s1,s2])
  exact⟨fr1',h1',fr2,h2,k1,k2,hwf.eqv n0⟩
 ·exact eo3 hE hT hs q1 q2 hn hw s1 s2
theorem xi0(hg: ∀rs ks fr h v h',g rs ks fr h=some (v,h')→h.length≤h'.length)(hE: ∀ρ,EmbG ρ g)(hT:x28 T){o:AOper}(ho:o.op.good=true): ∀{l:List AOper} {fr fr':Fr} {h h':H},(l.all fun o=>o.op.good)=true→n0≤h.length→WFs fr h→(∀x∈l,es5 o x=true)→
 gf4 T g n0 (o::l) fr h=some (fr',h')→ ∃fr2 h2,gf4 T g n0 (l++[o]) fr h=some (fr2,h2)∧Eqv n0 fr' h' fr2 h2
 | [],fr,fr',h,h',_,hn,hw,_,hr=>⟨fr',h',hr,(WFs.run (n0:=n0) hE hT (l:=[o]) (by simp[ho]) hw hr).eqv n0⟩
 |x::l,fr,fr',h,h',hl,hn,hw,hs,hr=>by
  simp only[List.all_cons,Bool.and_eq_true]at hl
  simp only[gf4]at hr
  cases h1:km6 T g n0 o fr h with
  |none=>rw[h1]at hr;cases hr
  |some p1=>
   obtain⟨f1,g1⟩:=p1
   rw[h1]at hr
   simp only at hr
   cases h2:km6 T g n0 x f1 g1 with
   |none=>rw[h2]at hr;cases hr
   |some p2=>
    obtain⟨f2,g2⟩:=p2
    rw[h2]at hr
    simp only at hr
    obtain⟨f3,g3,f4,g4,k1,k2,k3⟩:=ub2 hg hE hT (hs x (by simp)) ho hl.1 hn hw h1 h2
    have l1:=lr9 hg h1
    have l2:=lr9 hg h2
    have l3:=lr9 hg k1
    have l4:=lr9 hg k2
    obtain⟨f5,g5,k4,k5⟩:=k3.run hE hT hl.2 (by omega) hr
    have hw3:WFs f3 g3:=WFs.run (n0:=n0) hE hT (l:=[x]) (by simp[hl.1]) hw (by simp only[gf4,k1])
    obtain⟨f6,g6,k6,k7⟩:=xi0 hg hE hT ho (l:=l) (fr:=f3) (h:=g3) hl.2 (by omega) hw3 (fun y hy=>hs y (by simp[hy])) (by simp only[gf4,k2];exact k4)
    exact⟨f6,g6,by simp only[List.cons_append,gf4,k1];exact k6,k5.trans k7⟩
theorem tv5(hg: ∀rs ks fr h v h',g rs ks fr h=some (v,h')→h.length≤h'.length)(hE: ∀ρ,EmbG ρ g)(hT:x28 T)(A:Nat→AOper)(hA: ∀i,(A i).op.good=true): ∀(S L:List Nat) {fr fr':Fr} {h h':H},n0≤h.length→WFs fr h→S.Pairwise (· < ·)→L.Perm S→
 (∀L1 x L2,L=L1++x::L2→ ∀i∈S,i<x→es5 (A i) (A x)=false→i∈L1)→
 gf4 T g n0 (S.map A) fr h=some (fr',h')→ ∃fr2 h2,gf4 T g n0 (L.map A) fr h=some (fr2,h2)∧Eqv n0 fr' h' fr2 h2
 | [],L,fr,fr',h,h',hn,hw,_,hp,_,hr=>by
   obtain rfl:=List.perm_nil.1 hp
   cases hr
   exact⟨fr,h,rfl,hw.eqv n0⟩
 |i::S,L,fr,fr',h,h',hn,hw,hsrt,hp,hord,hr=>by
  have hall: ∀M:List Nat,((M.map A).all fun o=>o.op.good)=true:=fun M=>by rw[List.all_eq_true];intro x hx;obtain⟨y,_,rfl⟩:=List.mem_map.1 hx;exact hA y
  have hnd:L.Nodup:=(hp.nodup_iff).2 (hsrt.imp fun h=>Nat.ne_of_lt h)
  have hi:i∈L:=hp.mem_iff.2 (by simp)
  obtain⟨L1,L2,rfl⟩:=List.append_of_mem hi
  have hp':(L1++L2).Perm S:=(List.Perm.cons_inv ((List.perm_middle.symm).trans hp))
  have hsrt':S.Pairwise (· < ·):=hsrt.of_cons
  have hmin: ∀x∈S,i<x:=fun x hx=>List.rel_of_pairwise_cons hsrt hx
  simp only[List.map_cons,gf4]at hr
  cases h1:km6 T g n0 (A i) fr h with
  |none=>rw[h1]at hr;cases hr
  |some p1=>
   obtain⟨f1,g1⟩:=p1
   rw[h1]at hr
   simp only at hr
   have hn1:n0≤g1.length:=Nat.le_trans hn (lr9 hg h1)
   have hw1:WFs f1 g1:=WFs.run (n0:=n0) hE hT (l:=[A i]) (by simp[hA]) hw (by simp only[gf4,h1])
   obtain⟨f2,g2,e2,ih⟩:=tv5 hg hE hT A hA S (L1++L2) (fr:=f1) (h:=g1) hn1 hw1 hsrt' hp' (fun M1 x M2 he k hk hkx hsw=>by
    have hki:k≠i:=fun e=>by have:=hmin k hk;omega
    rcases List.append_eq_append_iff.1 he with⟨a',e1,e2⟩|⟨c',e1,e2⟩
    ·--x lies in L2
     have:=hord (L1++i::a') x M2 (by rw[e2];simp) k (by simp[hk]) hkx hsw
     rw[e1]
     simp only[List.mem_append,List.mem_cons]at this⊢
     rcases this with h|h|h
     ·exact .inl h
     ·exact absurd h hki
     ·exact .inr h
    ·cases c' with
     |nil=>
      simp only[List.nil_append]at e2
      have:=hord (L1++[i]) x M2 (by rw[←e2];simp) k (by simp[hk]) hkx hsw
      simp only[List.append_nil]at e1
      rw[←e1]
      simp only[List.mem_append,List.mem_singleton]at this
      rcases this with h|h
      ·exact h
      ·exact absurd h hki
     |cons y c'=>
      simp only[List.cons_append,List.cons.injEq]at e2
      obtain⟨rfl,e2⟩:=e2
      exact hord M1 x (c'++i::L2) (by rw[e1];simp) k (by simp[hk]) hkx hsw) hr
   rw[List.map_append,df4]at e2
   obtain⟨fr2,h2,k1,k2⟩:=e2
   obtain⟨f3,g3,k3,k4⟩: ∃f3 g3,gf4 T g n0 (L1.map A++[A i]) fr h=some (f3,g3)∧Eqv n0 fr2 h2 f3 g3:=by
    refine xi0 hg hE hT (hA i) (hall L1) hn hw (fun x hx=> ?_) (by simp only[gf4,h1];exact k1)
    obtain⟨y,hy,rfl⟩:=List.mem_map.1 hx
    cases hsw:es5 (A i) (A y)with
    |true=>rfl
    |false=>
     obtain⟨M1,M2,e⟩:=List.append_of_mem hy
     have hyS:y∈S:=hp'.mem_iff.1 (by simp[hy])
     have:=hord M1 y (M2++i::L2) (by rw[e];simp) i (by simp) (hmin y hyS) hsw
     have hiL1:i∈L1:=by rw[e];simp[this]
     exact absurd rfl ((List.nodup_append.1 hnd).2.2 i hiL1 i (by simp))
   obtain⟨f4,g4,k5,k6⟩:=k4.run hE hT (hall L2) (Nat.le_trans hn1 (c18 hg k1)) k2
   refine⟨f4,g4, ?_,ih.trans k6⟩
   rw[show(L1++i::L2).map A=(L1.map A++[A i])++L2.map A by simp,df4]
   exact⟨f3,g3,k3,k5⟩
end
inductive Dep (ops:Array Oper):Nat→Nat→Prop
 |edge {i j:Nat} {o:Oper} {e:Edge}:ops[j]? =some o→e∈o.after→Region.binds .any e=true→e.on=i→Dep ops i j
 |trans {i k j:Nat}:Dep ops i k→Dep ops k j→Dep ops i j
def force{α:Sort _}:Nat→(Nat→α)→α
 |0,k=>k 0
 |n+1,k=>k (n+1)
theorem force_eq{α:Sort _}(n:Nat)(k:Nat→α):force n k=k n:=by cases n<;>rfl
def wn1(W acc:Nat):List Edge→Nat
 | []=>0
 |e::l=>if Region.binds .any e&&decide (e.on<W)then(2^e.on|||((acc>>>(W*e.on))%2^W))|||wn1 W acc l else wn1 W acc l
def befN(W:Nat):List Oper→Nat→Nat→Nat
 | [],_,acc=>acc
 |o::r,j,acc=>force (acc|||(wn1 W acc o.after.toList<<<(W*j))) fun a=>befN W r (j+1) a
theorem jv6{W acc k:Nat}: ∀{l:List Edge},(wn1 W acc l).testBit k=true→k<W∧ ∃e∈l,Region.binds .any e=true∧(k=e.on∨acc.testBit (W*e.on+k)=true)
 | [],h=>by simp[wn1]at h
 |e::l,h=>by
  simp only[wn1]at h
  split at h
  ·rename_i hb
   simp only[Bool.and_eq_true,decide_eq_true_eq]at hb
   simp only[Nat.testBit_or,Nat.testBit_two_pow,Nat.testBit_mod_two_pow,Nat.testBit_shiftRight,Bool.or_eq_true,Bool.and_eq_true,decide_eq_true_eq]at h
   rcases h with(h|h)|h
   ·exact⟨by omega,e,by simp,hb.1, .inl h.symm⟩
   ·exact⟨h.1,e,by simp,hb.1, .inr h.2⟩
   ·obtain⟨h1,e',h2,h3⟩:=jv6 h
    exact⟨h1,e',by simp[h2],h3⟩
  ·obtain⟨h1,e',h2,h3⟩:=jv6 h
   exact⟨h1,e',by simp[h2],h3⟩
theorem ea1(ops:Array Oper)(W:Nat): ∀(r:List Oper) (j acc:Nat),(∀k,r[k]? =ops[j+k]?)→(∀j' i,i<W→acc.testBit (W*j'+i)=true→Dep ops i j')→
 ∀j' i,i<W→(befN W r j acc).testBit (W*j'+i)=true→Dep ops i j'
 | [],j,acc,_,hacc=>hacc
 |o::r,j,acc,hr,hacc=>by
  simp only[befN,force_eq]
  refine ea1 ops W r (j+1) _ (fun k=> ?_) ?_
  ·have:=hr (k+1)
   rw[show j+1+k=j+(k+1) by omega,←this]
   rfl
  ·intro j' i hi h
   simp only[Nat.testBit_or,Nat.testBit_shiftLeft,Bool.or_eq_true,Bool.and_eq_true,decide_eq_true_eq]at h
   rcases h with h|⟨h1,h2⟩
   ·exact hacc j' i hi h
   ·obtain⟨h3,e,he,hb,h4⟩:=jv6 h2
    have ho:ops[j]? =some o:=by have:=hr 0;simpa using this.symm
    have q1:W*j<W*(j'+1):=by rw[Nat.mul_succ];omega
    have q2:W*j'<W*(j+1):=by rw[Nat.mul_succ];omega
    have r1:=Nat.lt_of_mul_lt_mul_left q1
    have r2:=Nat.lt_of_mul_lt_mul_left q2
    obtain rfl:j'=j:=by omega
    have hk:W*j'+i-W*j'=i:=by omega
    rw[hk]at h4
    rcases h4 with h4|h4
    ·exact .edge ho (by simpa using he) hb h4.symm
    ·exact .trans (hacc _ _ hi h4) (.edge ho (by simpa using he) hb rfl)
def bm0(ops:Array Oper):Bool:=ops.toList.zipIdx.all fun(o,j)=>o.after.toList.all fun e=> !Region.binds .any e||decide (e.on<j)
theorem r68{ops:Array Oper}(h:bm0 ops=true){j:Nat}{o:Oper}(ho:ops[j]? =some o){e:Edge}(he:e∈o.after)(hb:Region.binds .any e=true):e.on<j:=by
 unfold bm0 at h
 rw[List.all_eq_true]at h
 have hm:(o,j)∈ops.toList.zipIdx:=by
  rw[List.mem_zipIdx_iff_getElem?];simpa using ho
 have:=h (o,j) hm
 simp only[List.all_eq_true]at this
 have:=this e (by simpa using he)
 simpa [hb]using this
structure Topo (ops:Array Oper) (L:List Nat):Prop where
 perm:L.Perm (List.range ops.size)
 ahead: ∀L1 j L2,L=L1++j::L2→ ∀o,ops[j]? =some o→ ∀e∈o.after,Region.binds .any e=true→e.on∈L1
theorem Topo.dep{ops:Array Oper}{L:List Nat}(h:Topo ops L){i j:Nat}(hd:Dep ops i j): ∀L1 L2,L=L1++j::L2→i∈L1:=by
 induction hd with
 |edge ho he hb hi=>intro L1 L2 hl;rw[←hi];exact h.ahead L1 _ L2 hl _ ho _ he hb
 | @trans i k j hik hkj ih1 ih2=>
   intro L1 L2 hl
   have hk:=ih2 L1 L2 hl
   obtain⟨A,C,rfl⟩:=List.append_of_mem hk
   have:=ih1 A (C++j::L2) (by rw[hl];simp)
   simp[this]
theorem bo7(ops:Array Oper)(hdn:bm0 ops=true): ∀(fuel t:Nat) (listed:Array Bool) (D:List Nat),listed.size=ops.size→(∀i,i<ops.size→(listed.getD i true=true↔i∈D))→D.Nodup→(∀i∈D,i<ops.size)→
 D.length+fuel=ops.size→
 ∃L,Region.linearise.go .any ops fuel t listed []=L∧(D++L).Perm (List.range ops.size)∧
  ∀L1 j L2,L=L1++j::L2→ ∀o,ops[j]? =some o→ ∀e∈o.after,Region.binds .any e=true→e.on∈D∨e.on∈L1
 |0,t,listed,D,hs,hl,hnd,hlt,hlen=>by
  refine⟨[],rfl, ?_,fun L1 j L2 h=>by simp at h⟩
  rw[List.append_nil,List.perm_ext_iff_of_nodup hnd List.nodup_range]
  intro i
  constructor
  ·intro hi;exact List.mem_range.2 (hlt i hi)
  ·intro hi
   by_cases hD:i∈D
   ·exact hD
   ·have hc:(i::D).Nodup:=List.nodup_cons.2 ⟨hD,hnd⟩
    have:=hc.length_le_of_subset (l₂:=List.range ops.size) (fun x hx=>by
     rcases List.mem_cons.1 hx with rfl|hx
     ·exact hi
     ·exact List.mem_range.2 (hlt x hx))
    simp at this
    omega
 |fuel+1,t,listed,D,hs,hl,hnd,hlt,hlen=>by
  have hfalse: ∀i,i<ops.size→(listed.getD i false=true↔i∈D):=by
   intro i hi
   rw[←hl i hi]
   have:i<listed.size:=by omega
   simp[Array.getD_eq_getD_getElem?,this]
  have hne:Region.ready .any ops listed≠[]:=by
   intro hnil
   have hall: ∀k i,i<k→i<ops.size→i∈D:=by
    intro k
    induction k with
    |zero=>intro i hi;omega
    |succ k ih=>
     intro i hik hi
     cases hli:listed.getD i true with
     |true=>exact(hl i hi).1 hli
     |false=>
      exfalso
      have:i∈Region.ready .any ops listed:=by
       rw[mem_ready]
       refine⟨hli,ops[i],Array.getElem?_eq_getElem hi,fun e he hb=> ?_⟩
       have hdn':=r68 hdn (Array.getElem?_eq_getElem hi) he hb
       exact(hfalse _ (by omega)).2 (ih _ (by omega) (by omega))
      rw[hnil]at this
      cases this
   have hsub:List.range ops.size ⊆ D:=fun i hi=>hall ops.size i (List.mem_range.1 hi) (List.mem_range.1 hi)
   have:=(List.nodup_range (n:=ops.size)).length_le_of_subset hsub
   simp at this
   omega
  have hlen0:0<(Region.ready .any ops listed).length:=List.length_pos_iff.2 hne
  have hmod:t%(Region.ready .any ops listed).length<(Region.ready .any ops listed).length:=Nat.mod_lt _ hlen0
  have hget:(Region.ready .any ops listed)[t%(Region.ready .any ops listed).length]? =some ((Region.ready .any ops listed)[t%(Region.ready .any ops listed).length]):=List.getElem?_eq_getElem hmod
  generalize hi:(Region.ready .any ops listed)[t%(Region.ready .any ops listed).length]=i at hget
  have him:i∈Region.ready .any ops listed:=by rw[←hi];exact List.getElem_mem _
  obtain⟨h1,o,ho,hedges⟩:=mem_ready.1 him
  have hin:i<ops.size:=(Array.getElem?_eq_some_iff.1 ho).1
  have hiD:i∉D:=fun h=>by rw[(hl i hin).2 h]at h1;cases h1
  obtain⟨L,hL,hp,ha⟩:=bo7 ops hdn fuel (t/(Region.ready .any ops listed).length) (listed.setIfInBounds i true) (D++[i]) (by simpa using hs) (fun j hj=>by
   by_cases hij:i=j
   ·subst hij
    have:i<listed.size:=by omega
    simp[Array.getD_eq_getD_getElem?,this]
   ·rw[getD_set_ne true hij,hl j hj]
    simp[Ne.symm hij]) (by
   rw[List.nodup_append]
   exact⟨hnd,by simp,fun a ha b hb=>by simp at hb;subst hb;exact fun e=>hiD (e▸ha)⟩) (fun j hj=>by
   simp only[List.mem_append,List.mem_singleton]at hj
   rcases hj with hj|rfl
   ·exact hlt j hj
   ·exact hin) (by simp;omega)
  refine⟨i::L, ?_,by simpa using hp,fun L1 j L2 he o' ho' e hem hb=> ?_⟩
  ·simp only[Region.linearise.go]
   change (match(Region.ready .any ops listed)[t%(Region.ready .any ops listed).length]? with
    |some i=>Region.linearise.go .any ops fuel (t/(Region.ready .any ops listed).length) (listed.setIfInBounds i true) [i]
    |none=>[].reverse)=i::L
   rw[hget]
   simp only
   rw[linearise_go_acc,hL]
   rfl
  ·cases L1 with
   |nil=>
    simp only[List.nil_append,List.cons.injEq]at he
    obtain⟨rfl,_⟩:=he
    rw[ho]at ho'
    cases ho'
    have:=hedges e hem hb
    have hlt':e.on<ops.size:=by have:=r68 hdn ho hem hb;omega
    exact .inl ((hfalse _ hlt').1 this)
   |cons x L1=>
    simp only[List.cons_append,List.cons.injEq]at he
    obtain⟨rfl,he⟩:=he
    rcases ha L1 j L2 he o' ho' e hem hb with h|h
    ·simp only[List.mem_append,List.mem_singleton]at h
     rcases h with h|h
     ·exact .inl h
     ·exact .inr (by simp[h])
    ·exact .inr (by simp[h])
theorem vr2{ops:Array Oper}(hdn:bm0 ops=true)(t:Nat):Topo ops (Region.schedule true ops t):=by
 obtain⟨L,hL,hp,ha⟩:=bo7 ops hdn ops.size t (Array.replicate ops.size false) [] (by simp) (fun i hi=>by simp[hi]) (by simp) (by simp) (by simp)
 have e:Region.schedule true ops t=L:=by
  simp only[Region.schedule,Bool.true_or,if_true]
  exact hL
 rw[e]
 refine⟨by simpa using hp,fun L1 j L2 he o ho e hem hb=> ?_⟩
 rcases ha L1 j L2 he o ho e hem hb with h|h
 ·cases h
 ·exact h
def zz8(ops:List Oper)(l:List AOper):Bool:=
 force (befN ops.length ops 0 0) fun b=>
 l.zipIdx.all fun(x,j)=>(l.take j).zipIdx.all fun(y,i)=>(decide (i<ops.length)&&b.testBit (ops.length*j+i))||es5 y x
def m73(ops:List Oper)(l:List (AOper×Nat)):Bool:=
 force (befN ops.length ops 0 0) fun b=>
 l.zipIdx.all fun(x,j)=>(l.take j).all fun y=>(decide (y.2<ops.length)&&b.testBit (ops.length*x.2+y.2))||es5 y.1 x.1
theorem bm3{ops:Array Oper}{l:List (AOper×Nat)}(h:m73 ops.toList l=true){i j:Nat}(hij:i<j){x y:AOper×Nat}(hx:l[j]? =some x)(hy:l[i]? =some y):Dep ops y.2 x.2∨es5 y.1 x.1=true:=by
 unfold m73 at h
 rw[force_eq,List.all_eq_true]at h
 have h1:=h (x,j) (List.mem_zipIdx_iff_getElem?.2 hx)
 simp only[List.all_eq_true]at h1
 have h2:=h1 y (List.mem_of_getElem? (by rw[List.getElem?_take,if_pos hij];exact hy))
 simp only[Bool.or_eq_true,Bool.and_eq_true,decide_eq_true_eq]at h2
 rcases h2 with h2|h2
 ·exact .inl (ea1 ops _ ops.toList 0 0 (fun k=>by simp) (fun j' i hi h=>by simp at h) x.2 y.2 h2.1 h2.2)
 ·exact .inr h2
structure OrdOK (n:Nat) (π:List Nat):Prop where
 nd:π.Nodup
 lt: ∀i∈π,i<n
 len:π.length=n
theorem OrdOK.range(n:Nat):OrdOK n (List.range n):=⟨List.nodup_range,fun i h=>List.mem_range.1 h,List.length_range⟩
theorem OrdOK.mem{n:Nat}{π:List Nat}(h:OrdOK n π){i:Nat}(hi:i<n):i∈π:=by
 by_cases hD:i∈π
 ·exact hD
 ·have hc:(i::π).Nodup:=List.nodup_cons.2 ⟨hD,h.nd⟩
  have:=hc.length_le_of_subset (l₂:=List.range n) (fun x hx=>by
   rcases List.mem_cons.1 hx with rfl|hx
   ·exact List.mem_range.2 hi
   ·exact List.mem_range.2 (h.lt x hx))
  have hl:=h.len
  simp at this
  omega
theorem OrdOK.perm{n:Nat}{π:List Nat}(h:OrdOK n π):π.Perm (List.range n):=by
 rw[List.perm_ext_iff_of_nodup h.nd List.nodup_range]
 exact fun i=>⟨fun hi=>List.mem_range.2 (h.lt i hi),fun hi=>h.mem (List.mem_range.1 hi)⟩
theorem rt5{π:List Nat}{i:Nat}(hi:i∈π):π[π.idxOf i]? =some i:=by
 have hlt:=List.idxOf_lt_length_iff.2 hi
 rw[List.getElem?_eq_getElem hlt,List.getElem_idxOf hlt]
theorem x42{π:List Nat}(hn:π.Nodup){a i:Nat}(h:π[a]? =some i):π.idxOf i=a:=by
 obtain⟨h1,h2⟩:=List.getElem?_eq_some_iff.1 h
 have h3:=rt5 (List.mem_of_getElem? h)
 obtain⟨h4,h5⟩:=List.getElem?_eq_some_iff.1 h3
 rw[List.nodup_iff_pairwise_ne]at hn
 have hp:=List.pairwise_iff_getElem.1 hn
 rcases Nat.lt_trichotomy (π.idxOf i) a with h|h|h
 ·exact absurd (h5.trans h2.symm) (hp _ _ h4 h1 h)
 ·exact h
 ·exact absurd (h2.trans h5.symm) (hp _ _ h1 h4 h)
theorem l80{T:Tab}{g:List ARes→List It→Fr→H→Res}(hg: ∀rs ks fr h v h',g rs ks fr h=some (v,h')→h.length≤h'.length)(hE: ∀ρ,EmbG ρ g)(hT:x28 T){ops:Array Oper}{l:List AOper}(hlen:l.length=ops.size)(hgood:(l.all fun o=>o.op.good)=true)
 {π:List Nat} (ho:OrdOK ops.size π) (d:AOper) (hd:d.op.good=true)
 (hdn:bm0 ops=true) (hc:m73 ops.toList (π.map fun i=>(l.getD i d,i))=true) (t:Nat) {fr fr':Fr} {h h':H} (hw:WFs fr h) (hr:gf4 T g h.length (π.map fun i=>l.getD i d) fr h=some (fr',h')):
 ∃fr2 h2,gf4 T g h.length ((Region.schedule true ops t).map fun i=>l.getD i d) fr h=some (fr2,h2)∧Eqv h.length fr' h' fr2 h2:=by
 have ht:=vr2 hdn t
 have hgA: ∀i,(l.getD i d).op.good=true:=fun i=>by
  simp only[List.getD_eq_getElem?_getD]
  cases hi:l[i]? with
  |none=>exact hd
  |some o=>exact(List.all_eq_true.1 hgood) o (List.mem_of_getElem? hi)
 have hS:(List.range ops.size).map (fun a=>l.getD (π.getD a 0) d)=π.map fun i=>l.getD i d:=by
  apply List.ext_getElem?
  intro a
  by_cases ha:a<ops.size
  ·have ha':a<π.length:=by rw[ho.len];exact ha
   rw[List.getElem?_map,List.getElem?_range ha,List.getElem?_map,List.getElem?_eq_getElem ha']
   show some (l.getD (π.getD a 0) d)=some (l.getD π[a] d)
   rw[List.getD_eq_getElem?_getD (l:=π),List.getElem?_eq_getElem ha'];rfl
  ·rw[List.getElem?_eq_none (by simp;omega),List.getElem?_eq_none (by simp[ho.len];omega)]
 have hmem: ∀i∈Region.schedule true ops t,i∈π:=fun i hi=>ho.mem (List.mem_range.1 (ht.perm.mem_iff.1 hi))
 have hL:((Region.schedule true ops t).map fun i=>π.idxOf i).map (fun a=>l.getD (π.getD a 0) d)=(Region.schedule true ops t).map fun i=>l.getD i d:=by
  rw[List.map_map]
  refine List.map_congr_left fun i hi=> ?_
  show l.getD (π.getD (π.idxOf i) 0) d=_
  rw[List.getD_eq_getElem?_getD (l:=π),rt5 (hmem i hi)];rfl
 have hP:((Region.schedule true ops t).map fun i=>π.idxOf i).Perm (List.range ops.size):=by
  have h1:=(ht.perm.trans ho.perm.symm).map (fun i=>π.idxOf i)
  have h2:π.map (fun i=>π.idxOf i)=List.range ops.size:=by
   apply List.ext_getElem?
   intro a
   by_cases ha:a<ops.size
   ·have ha':a<π.length:=by rw[ho.len];exact ha
    rw[List.getElem?_map,List.getElem?_range ha,List.getElem?_eq_getElem ha']
    exact congrArg some (x42 ho.nd (List.getElem?_eq_getElem ha'))
   ·rw[List.getElem?_eq_none (by simp[ho.len];omega),List.getElem?_eq_none (by simp;omega)]
  rw[h2]at h1
  exact h1
 have key:=tv5 hg hE hT (n0:=h.length) (fun a=>l.getD (π.getD a 0) d) (fun i=>hgA _) (List.range ops.size) ((Region.schedule true ops t).map fun i=>π.idxOf i) (fr:=fr) (fr':=fr') (h:=h) (h':=h') (Nat.le_refl _) hw List.pairwise_lt_range hP
  (fun L1 x L2 he i hi hix hsw=>by
    obtain⟨M1,M2,e1,e2,e3⟩:=List.map_eq_append_iff.1 he
    obtain⟨y,M3,rfl,e4,e5⟩:=List.map_eq_cons_iff.1 e3
    have hi':=List.mem_range.1 hi
    have hy:y∈π:=hmem y (by rw[e1];simp)
    have hx1:π[x]? =some y:=by rw[←e4];exact rt5 hy
    have hil:i<π.length:=by rw[ho.len];exact hi'
    have hi1:π[i]? =some π[i]:=List.getElem?_eq_getElem hil
    rcases bm3 hc hix (x:=(l.getD y d,y)) (y:=(l.getD π[i] d,π[i])) (by rw[List.getElem?_map,hx1];rfl) (by rw[List.getElem?_map,hi1];rfl)with hd|hd
    ·have:=ht.dep hd M1 M3 e1
     rw[←e2]
     exact List.mem_map.2 ⟨_,this,x42 ho.nd hi1⟩
    ·have ha:l.getD (π.getD i 0) d=l.getD π[i] d:=by rw[List.getD_eq_getElem?_getD (l:=π),hi1];rfl
     have hb:l.getD (π.getD x 0) d=l.getD y d:=by rw[List.getD_eq_getElem?_getD (l:=π),hx1];rfl
     rw[ha,hb]at hsw
     exact absurd (hd.symm.trans hsw) (by decide)) (by rw[hS];exact hr)
 rw[hL]at key
 exact key
end Go.Am
namespace Go.Am
open Go.RowKit (Below)
structure CO1 (P:Program) (nt:Nat) (ops:Array Oper) (o:Oper) (ao:AOper):Prop where
 dst:ao.dst=o.dst
 lt: ∀d,o.dst=some d→d<nt
 op:sv3 P o=some ao.op
 gd:(o.guard=none∧ao.guard=none)∨ ∃j b s,o.guard=some (j,b)∧(ops[j]?).bind (·.dst)=some s∧ao.guard=some (s,b)
def AOper.inText(ao:AOper):AOper:={ao with op:=ao.op.inText}
abbrev CO(P:Program)(nt:Nat)(ops:Array Oper)(o:Oper)(ao:AOper):Prop:=CO1 P nt ops o ao.inText
def opNo:AOper:=⟨none, .lenK 0,none,false⟩
structure RegOK (P:Program) (nt:Nat) (ops:Array Oper) (draw:Bool) (l:List AOper) (π:List Nat):Prop where
 len:l.length=ops.size
 op: ∀(i:Nat) o,ops[i]? =some o→ ∃ao,l[i]? =some ao∧CO P nt ops o ao
 txt:draw=false→π=List.range ops.size
 ord:OrdOK ops.size π
 dr:draw=true→bm0 ops=true∧m73 ops.toList (π.map fun i=>(l.getD i opNo,i))=true
inductive CR (P:Program) (nt:Nat):Code→ACode→Prop
 |skip:CR P nt .skip .skip
 |region (id:Nat) (ops:Array Oper) (draw:Bool) (l:List AOper) (π:List Nat):RegOK P nt ops draw l π→CR P nt (.region id ops draw) (.region (π.map fun i=>l.getD i opNo))
 |seq {a b:Code} {a' b':ACode}:CR P nt a a'→CR P nt b b'→CR P nt (.seq a b) (.seq a' b')
 |cond {c:Operand} {a b:Code} {a' b':ACode}:CR P nt a a'→CR P nt b b'→CR P nt (.cond c a b) (.cond c a' b')
 |block {id:Nat} {ko:List Nat} {a:Code} {a':ACode}:CR P nt a a'→CR P nt (.block id a) (.block id ko a')
 |loop {kh:List Nat} {a:Code} {a':ACode}:CR P nt a a'→CR P nt (.loop a) (.loop kh a')
 |exit {id:Nat}:CR P nt (.exit id) (.exit id)
 |ret:CR P nt .ret .ret
 |stuck {c:Code}:CR P nt c .stuck
inductive IR (P:Program) (nt:Nat):List It→List Item→Prop
 |nil:IR P nt [] []
 |code {c:Code} {c':ACode} {ks k}:CR P nt c c'→IR P nt ks k→IR P nt (.code c'::ks) (.code c::k)
 |blk {id:Nat} {ko:List Nat} {ks k}:IR P nt ks k→IR P nt (.blk id ko::ks) (.inBlock id::k)
 |lp {kh:List Nat} {c:Code} {c':ACode} {ks k}:CR P nt c c'→IR P nt ks k→IR P nt (.lp kh c'::ks) (.inLoop c::k)
def RR(P:Program):List ResultVar→List ARes→Prop
 | [],[]=>True
 | .tmp t::r, .tmp t'::r'=>t=t'∧RR P r r'
 | .cell a t::r, .cell a' agg n::r'=>a=a'∧(∃d i,P.underlying t=some d∧P.info? t=some i∧agg=cw9 d∧n=i.size)∧RR P r r'
 |_,_=>False
structure FunOK (P:Program) (f:FuncId) (F:AFun):Prop where
 ok: ∃fn body,P.funcs[f]? =some fn∧fn.body=some body∧CR P F.ntmps body F.code∧fn.ntmps=F.ntmps∧RR P fn.results.toList F.results∧(fn.name== "runtime.NumGoroutine")=false
theorem rw2{P:Program}{o:Oper}{op:AOp}(h:sv3 P o=some op):op.good=true:=by
 have arr: ∀{cs:Array Value},cs.all tc5=true→cs.toList.all tc5=true:=fun h=>by simpa using h
 unfold sv3 at h
 split at h<;>first
  |(cases h;done)
  |(cases h;rfl)
  |((repeat' split at h)<;>first
     |(cases h;done)
     |(cases h;rfl)
     |(rename_i hz;cases h;exact arr hz)
     |(rename_i hz;cases h;simp only[Bool.and_eq_true]at hz;exact arr hz.1.1))
theorem u13{op:AOp}(h:op.inText.good=true):op.good=true:=by cases op<;>first|exact h|rfl
theorem RegOK.good{P:Program}{nt:Nat}{ops:Array Oper}{draw:Bool}{l:List AOper}{π:List Nat}(h:RegOK P nt ops draw l π):(l.all fun o=>o.op.good)=true:=by
 rw[List.all_eq_true]
 intro x hx
 obtain⟨i,hi,rfl⟩:=List.getElem_of_mem hx
 have hi':i<ops.size:=by rw[←h.len];exact hi
 obtain⟨ao,e1,e2⟩:=h.op i ops[i] (Array.getElem?_eq_getElem hi')
 rw[List.getElem?_eq_getElem hi]at e1
 cases e1
 exact u13 (rw2 e2.op)
theorem CR.good{P:Program}{nt:Nat}{c:Code}{c':ACode}(h:CR P nt c c'):ev3 c'=true:=by
 induction h with
 |region _ _ _ l π h=>
  show((π.map fun i=>l.getD i opNo).all fun o=>o.op.good)=true
  rw[List.all_eq_true]
  intro x hx
  obtain⟨i,_,rfl⟩:=List.mem_map.1 hx
  simp only[List.getD_eq_getElem?_getD]
  cases hi:l[i]? with
  |none=>rfl
  |some o=>exact(List.all_eq_true.1 h.good) o (List.mem_of_getElem? hi)
 |seq _ _ h1 h2=>simp[ev3,h1,h2]
 |cond _ _ h1 h2=>simp[ev3,h1,h2]
 |block _ h=>exact h
 |loop _ h=>exact h
 |_=>rfl
theorem bz6{P:Program}{nt:Nat}{id:Nat}{ko:List Nat}{ks':List It}: ∀{ks:List It} {k:List Item},IR P nt ks k→gc2 id ks=some (ko,ks')→ ∃k',exitTo id k=some k'∧IR P nt ks' k'
 |_,_, .nil,h=>by cases h
 |_,_, .code _ hk,h=>by simp only[gc2]at h;simp only[exitTo];exact bz6 hk h
 |_,_, .lp _ hk,h=>by simp only[gc2]at h;simp only[exitTo];exact bz6 hk h
 |_,_, .blk (id:=id') hk,h=>by
  simp only[gc2]at h
  simp only[exitTo]
  split at h
  ·rename_i he
   cases h
   exact⟨_,by rw[if_pos (by simpa using he)],hk⟩
  ·rename_i he
   rw[if_neg (by simpa using he)]
   exact bz6 hk h
section
variable {P:Program} {B:Nat}
def xj3(tmps:Array Value):ResultVar→Sem Value
 | .tmp t=>pure (tmps.getD t undef)
 | .cell a t=>do loadVar t (←asAddr (tmps.getD a undef))
theorem ax5(fn:Func)(tmps:Array Value):results fn tmps=(do
 let vs←fn.results.mapM (xj3 tmps)
 pure (if h:vs.size=1 then vs[0]else .tuple vs)):=by
 unfold results
 congr 1
theorem r44{φ:Ren}{nt:Nat}{fr:Fr}{h:H}{tmps:Array Value}{w:World}(hF:FR φ h.length nt fr tmps)(hH:HR φ B h w): ∀{rs:List ResultVar} {ars:List ARes} {vs:List Value},RR P rs ars→ress fr h ars=some vs→
 ∃vs',(rs.mapM (xj3 tmps)).run P w= .ok vs' w∧LR φ h.length vs vs'
 | [],[],vs,_,hs=>by cases hs;exact⟨[],by simp,LR.nil _ _⟩
 | [],_::_,_,hr,_=>by simp[RR]at hr
 | .tmp _::_,[],_,hr,_=>by simp[RR]at hr
 | .cell _ _::_,[],_,hr,_=>by simp[RR]at hr
 | .tmp t::rs, .cell _ _ _::ars,vs,hr,_=>by simp[RR]at hr
 | .cell _ _::rs, .tmp t::ars,vs,hr,_=>by simp[RR]at hr
 | .tmp t::rs, .tmp t'::ars,vs,hr,hs=>by
   simp only[RR]at hr
   obtain⟨rfl,hr⟩:=hr
   simp only[ress,res1]at hs
   split at hs
   ·rename_i v vs2 h1 h2
    cases hs
    obtain⟨v',e1,e2⟩:=hF.2 t v h1
    obtain⟨vs',e3,e4⟩:=r44 hF hH hr h2
    refine⟨v'::vs', ?_,LR.cons e2 e4⟩
    simp[List.mapM_cons,xj3,e1,e3]
   ·cases hs
 | .cell a t::rs, .cell a' agg n::ars,vs,hr,hs=>by
   simp only[RR]at hr
   obtain⟨rfl,⟨d,i,hd,hi,rfl,rfl⟩,hr⟩:=hr
   simp only[ress,res1]at hs
   split at hs
   ·rename_i v vs2 h1 h2
    cases hs
    obtain⟨vs',e3,e4⟩:=r44 hF hH hr h2
    split at h1
    ·rename_i p hp
     obtain⟨v',e1,e2⟩:=hF.2 a _ hp
     obtain⟨hsp,hlt,rfl⟩:=bq1 e2
     simp only[hsp,Option.isSome_none,Bool.false_eq_true,if_false]at h1
     have key: ∃u,(loadVar t ⟨(φ p.block).blk,(φ p.block).sh+p.off,none⟩).run P w= .ok u w∧VR φ h.length v u:=by
      split at h1
      ·rename_i hag
       split at h1
       ·rename_i cs hcs
        cases h1
        obtain⟨hlen,hone,cs',k1,k2⟩:=hH.cells hcs
        have hl:=run_loadCells_list (P:=P) w ⟨(φ p.block).blk,(φ p.block).sh+p.off,none⟩ cs' k2
        rw[←k1.1,hlen]at hl
        exact⟨_,by simp[loadVar,y71 hd,hag,run_sizeOf hi,hl],k1.agg hone⟩
       ·cases h1
      ·rename_i hag
       unfold H.ld1 at h1
       split at h1
       ·rename_i r hr2
        obtain⟨u,k1,k2⟩:=hH.cell hr2 h1
        exact⟨u,by simp[loadVar,y71 hd,hag,k1],k2⟩
       ·cases h1
     obtain⟨u,k1,k2⟩:=key
     refine⟨u::vs', ?_,LR.cons k2 e4⟩
     simp[List.mapM_cons,xj3,e1,asAddr,k1,e3]
    ·cases h1
   ·cases hs
theorem kl3{φ:Ren}{nt:Nat}{fr:Fr}{h h':H}{tmps:Array Value}{w:World}{fn:Func}{ars:List ARes}{v:Value}(hF:FR φ h.length nt fr tmps)(hH:HR φ B h w)(hr:RR P fn.results.toList ars)(hs:retv ars fr h=some (v,h')):
 h'=h∧ ∃v',(results fn tmps).run P w= .ok v' w∧VR φ h.length v v':=by
 unfold retv at hs
 have key: ∀vs,ress fr h ars=some vs→ ∃vs',(fn.results.mapM (xj3 tmps)).run P w= .ok vs'.toArray w∧LR φ h.length vs vs':=by
  intro vs hvs
  obtain⟨vs',h1,h2⟩:=r44 (P:=P) hF hH hr hvs
  exact⟨vs',by rw[Array.mapM_eq_mapM_toList];simp[h1],h2⟩
 split at hs
 ·rename_i v1 h1
  cases hs
  obtain⟨vs',h2,h3⟩:=key _ h1
  obtain⟨v',h4,h5⟩:=h3.2 0 v rfl
  have hl:vs'.length=1:=by rw[←h3.1];rfl
  obtain rfl:vs'=[v']:=by
   match vs',hl,h4 with
   | [x],_,h4=>simp at h4;rw[h4]
  refine⟨rfl,v', ?_,h5⟩
  rw[ax5]
  simp only[Sem.run_bind,h2]
  simp
 ·rename_i vs hne h1
  cases hs
  obtain⟨vs',h2,h3⟩:=key _ h1
  refine⟨rfl, .tuple vs'.toArray, ?_,h3.tuple⟩
  have hl:vs'.length≠1:=by
   intro hl
   rw[←h3.1]at hl
   match vs,hl,hne with
   | [x],_,hne=>exact hne x rfl
  rw[ax5]
  simp only[Sem.run_bind,h2]
  simp[hl]
 ·cases hs
def Sim(P:Program)(B:Nat)(T:Tab)(g:List ARes→List It→Fr→H→Res):Prop:=
 ∀rs ks fr h v h',g rs ks fr h=some (v,h')→ ∀(φ:Ren) (w:World) (a:Act) (b:Frame) (cs:List Frame) (k:List Item) (nt:Nat) (fn:Func),
  P.funcs[b.fn]? =some fn→RR P fn.results.toList rs→b.kind= .normal→IR P nt ks k→a.defers=[]→FR φ h.length nt fr a.tmps→HR φ B h w→
  ∃φ' w' v' fr',Steps P (lone (b.at a k) cs w) (lone fr' cs w')∧fr'.fn=b.fn∧fr'.leaving P w' (.returned v')∧VR φ' h'.length v v'∧HR φ' B h' w'∧Ext φ h.length φ'∧Below B w w'
variable {T:Tab} {g:List ARes→List It→Fr→H→Res}
def zb8(P:Program)(B:Nat)(T:Tab)(g:List ARes→List It→Fr→H→Res)(f:FuncId):Prop:=
 ∀vs vs' h h' v,enter T g f vs h=some (v,h')→ ∀(φ:Ren) (w:World),LR φ h.length vs vs'→HR φ B h w→
  Calls P f vs'.toArray w fun e w'=> ∃φ' v',e= .returned v'∧VR φ' h'.length v v'∧HR φ' B h' w'∧Ext φ h.length φ'∧Below B w w'
def ga0(P:Program)(f:FuncId):Prop:= ∃fn body,P.funcs[f]? =some fn∧fn.body=some body∧(fn.name== "runtime.NumGoroutine")=false
structure PrimOK (P:Program) (T:Tab) (f:FuncId):Prop where
 body:ga0 P f
 good: ∀F,T f=some F→ev3 F.code=true
 ok:(∀f F,T f=some F→ga0 P f)→ ∀B n,(∀m,m<n→ ∀f',zb8 P B T (goN T m) f')→zb8 P B T (goN T n) f
def xp2(P:Program)(T:Tab):Prop:= ∀f F,T f=some F→FunOK P f F∨PrimOK P T f
theorem xp2.body(hT:xp2 P T)(f:FuncId)(F:AFun)(hF:T f=some F):ga0 P f:=by
 rcases hT f F hF with h1|h1
 ·obtain⟨fn,body,h1,h2,_,_,_,h6⟩:=h1.ok
  exact⟨fn,body,h1,h2,h6⟩
 ·exact h1.body
theorem xp2.good(hT:xp2 P T):x28 T:=fun f F hF=>by
 rcases hT f F hF with h1|h1
 ·obtain⟨fn,body,_,_,h3,_⟩:=h1.ok;exact h3.good
 ·exact h1.good F hF
theorem js6{f:FuncId}{vs vs':List Value}{h h':H}{v:Value}(hT: ∀f F,T f=some F→ga0 P f)(he:enter T g f vs h=some (v,h'))(w:World):
 (callFunc f vs'.toArray).run P w= .ok (.enter f vs'.toArray) w:=by
 have key:ga0 P f:=by
  unfold enter at he
  split at he
  ·rename_i F hF
   exact hT f F hF
  ·cases he
 obtain⟨fn,body,h1,h2,h6⟩:=key
 have h7: ¬fn.name= "runtime.NumGoroutine" :=by simpa using h6
 simp[callFunc,h1,h7,h2]
theorem sf4(hS:Sim P B T g){f:FuncId}(hF: ∀F,T f=some F→FunOK P f F):zb8 P B T g f:=by
 intro vs vs' h h' v he φ w hv hH cs
 unfold enter at he
 split at he
 ·rename_i F hF'
  split at he
  ·rename_i hlen
   obtain⟨fn,body,h1,h2,h3,h4,h5,h6⟩:=(hF F hF').ok
   have henter:Frame.enter P f vs'.toArray .normal=
    ({(default:Frame)with fn:=f,kind:= .normal}:Frame).at {tmps:=vs'.toArray++Array.replicate (fn.ntmps-vs'.toArray.size) undef,defers:=[]} [.code body]:=by
    simp[Frame.enter,Frame.at,h1,h2]
   rw[henter]
   obtain⟨φ',w',v',fr',s1,s2,s3,s4,s5,s6,s7⟩:=hS _ _ _ _ _ _ he φ w {tmps:=vs'.toArray++Array.replicate (fn.ntmps-vs'.toArray.size) undef,defers:=[]} {(default:Frame)with fn:=f,kind:= .normal} cs [.code body] F.ntmps fn h1 h5 rfl (.code h3 .nil) rfl ⟨by simp;omega,fun t u hu=>by
    obtain⟨_,h7⟩:=ea0 vs 0 t u hu
    obtain⟨u',h8,h9⟩:=hv.2 t u h7
    have hlt:=(List.getElem?_eq_some_iff.1 h8).1
    refine⟨u', ?_,h9⟩
    rw[Array.getElem?_append_left (by simpa using hlt)]
    simpa using h8⟩ hH
   exact⟨.returned v',w',fr',⟨φ',v',rfl,s4,s5,s6,s7⟩,s1,s2,s3⟩
  ·cases he
 ·cases he
theorem ad4(hT:xp2 P T)(hC: ∀f,zb8 P B T g f)(hg: ∀rs ks fr h v h',g rs ks fr h=some (v,h')→h.length≤h'.length){nt:Nat}{ops:Array Oper}{i:Nat}{rest:List Nat}{o:Oper}{ao:AOper}(ho:ops[i]? =some o)(hc:CO1 P nt ops o ao){n0:Nat}{fr fr1:Fr}{h h1:H}
 (hs:km6 T g n0 ao fr h=some (fr1,h1)) {φ:Ren} {w:World} {a:Act} {b:Frame} {cs:List Frame} {k:List Item} (hF:FR φ h.length nt fr a.tmps) (hH:HR φ B h w):
 ∃φ' w' v',Steps P (lone (b.at a (.inRegion ops (i::rest)::k)) cs w) (lone (b.at (a.put o.dst v') (.inRegion ops rest::k)) cs w')∧FR φ' h1.length nt fr1 (a.put o.dst v').tmps∧HR φ' B h1 w'∧Ext φ h.length φ'∧h.length≤h1.length∧Below B w w':=by
 have hlen:=lr9 hg hs
 unfold km6 at hs
 split at hs
 ·rename_i v h2 hcore
  cases hs
  --the guard
  have hguard: ∀bb,gd fr ao.guard=some bb→Region.wanted o (yielded ops a.tmps)=bb:=by
   intro bb hb
   rcases hc.gd with⟨g1,g2⟩|⟨j,want,s,g1,g2,g3⟩
   ·rw[g2]at hb;cases hb;simp[Region.wanted,g1]
   ·rw[g3]at hb
    simp only[gd]at hb
    split at hb
    ·rename_i b' hb'
     cases hb
     obtain⟨v',e1,e2⟩:=hF.2 s _ hb'
     rw[xz4 e2]at e1
     have:yielded ops a.tmps j=some b':=by
      unfold yielded;rw[g2];simp[e1]
     simp[Region.wanted,g1,this]
    ·rename_i vs' hb'
     cases hb
     obtain⟨v',e1,e2⟩:=hF.2 s _ hb'
     have:yielded ops a.tmps j=none:=by
      unfold yielded;rw[g2];cases e2;simp[e1]
     simp[Region.wanted,g1,this]
    ·cases hb
  have hput: ∀{φ':Ren} {v':Value},FR φ' h1.length nt fr a.tmps→(∀u,v=some u→VR φ' h1.length u v')→FR φ' h1.length nt (fr.put ao.dst v) (a.put o.dst v').tmps:=by
   intro φ' v' q1 q3
   rw[hc.dst]
   exact q1.put o.dst hc.lt v v' q3
  have hfin: ∀v,(b.at a (.inRegion ops (i::rest)::k)).finish v=b.at (a.put o.dst v) (.inRegion ops rest::k):=by
   intro v;rw[Frame.finish_at,ho];rfl
  unfold core at hcore
  split at hcore
  ·rename_i hgd
   cases hcore
   have hw:=hguard false hgd
   have hst:=step_op_skip (P:=P) (b:=b) (a:=a) (k:=k) (cs:=cs) (w:=w) (ops:=ops) (i:=i) (rest:=rest) (by simp[ho,hw])
   rw[ho]at hst
   exact⟨φ,w,undef, .one hst,hput hF (fun u hu=>by cases hu;exact .tuple #[] #[] rfl (fun i hi=>absurd hi (by simp))),hH,Ext.refl _ _,Nat.le_refl _,Below.refl _ _⟩
  ·rename_i hgd
   have hw:=hguard true hgd
   have hG:=stepG_op (P:=P) (b:=b) (a:=a) (k:=k) (cs:=cs) (w:=w) (rest:=rest) ho hw
   have hcall: ∀{f:FuncId} {vs vs':List Value} {u:Value},enter T g f vs h=some (u,h1)→v=some u→LR φ h.length vs vs'→(execOp a.eval o).run P w=(callFunc f vs'.toArray).run P w→
    ∃φ' w' v',Steps P (lone (b.at a (.inRegion ops (i::rest)::k)) cs w) (lone (b.at (a.put o.dst v') (.inRegion ops rest::k)) cs w')∧FR φ' h1.length nt (fr.put ao.dst v) (a.put o.dst v').tmps∧HR φ' B h1 w'∧Ext φ h.length φ'∧h.length≤h1.length∧Below B w w':=by
    intro f vs vs' u he hvu hL hrun
    have e1:=js6 (vs':=vs') hT.body he w
    obtain⟨_,w',fr',⟨φ',v',rfl,e5,e6,e7,e8⟩,e2,e3,e4⟩:=hC f vs vs' h h1 u he φ w hL hH (b.at a (.inRegion ops (i::rest)::k)::cs)
    rw[e1]at hrun
    have henter:step P (lone (b.at a (.inRegion ops (i::rest)::k)) cs w)= .next (lone (Frame.enter P f vs'.toArray .normal) (b.at a (.inRegion ops (i::rest)::k)::cs) w):=
     step_lone_go (by rw[hG];simp[stepG.apply,hrun,Frame.at])
    refine⟨φ',w',v', .head henter (Steps.trans e2 (.one ?_)),hput (hF.mono e7 hlen) (fun x hx=> ?_),e6,e7,hlen,e8⟩
    ·rw[←hfin];exact step_leave_returned e4
    ·rw[hvu]at hx;cases hx;exact e5
   split at hcore
   ·--a call by name
    rename_i f args hop
    split at hcore
    ·rename_i vs hvs
     split at hcore
     ·rename_i u h3 he
      have hb:=(ya3 hcore).1
      cases hb
      have hL:=p23 hF hvs
      refine hcall he rfl hL ?_
      have hco:=hc.op
      rw[hop]at hco
      --read off the operation
      have hopc: ∃c:Call,o.op= .call c∧c.callee= .value (.func f)∧c.args.toList=args:=by
       unfold sv3 at hco
       split at hco<;>first
        |(cases hco;done)
        |((repeat' split at hco)<;>first|(cases hco;done)|skip)
       all_goals first
        |(cases hco;exact⟨_, ‹_›, ‹_›,rfl⟩)
      obtain⟨c,hc1,hc2,hc3⟩:=hopc
      have hev:c.args.map a.eval=(args.map a.eval).toArray:=by rw[←hc3];apply Array.toList_inj.1;simp
      simp[execOp,hc1,resolve,hc2,hev,Act.eval,Deferred.ofValue,invoke]
     ·cases hcore
    ·cases hcore
   ·rename_i x args hop
    split at hcore
    ·rename_i f first cap vs hx hvs
     split at hcore
     ·rename_i hemp
      split at hcore
      ·rename_i u h3 he
       have hb:=(ya3 hcore).1
       cases hb
       have hL:=p23 hF hvs
       have hxv:=az8 hF hx
       have hcap: ∃cap',a.eval x= .func (.func f) #[] cap'∧LR φ h.length cap.toList cap'.toList:=by
        generalize a.eval x=y at hxv
        cases hxv with
        |func _ _ cs' hsz hh=>exact⟨cs',rfl,LR.of_arrays hsz hh⟩
       obtain⟨cap',hx1,hx2⟩:=hcap
       refine hcall he rfl (hL.append hx2) ?_
       have hco:=hc.op
       rw[hop]at hco
       have hopc: ∃c:Call,o.op= .call c∧c.callee= .value x∧c.args.toList=args:=by
        unfold sv3 at hco
        split at hco<;>first
         |(cases hco;done)
         |((repeat' split at hco)<;>first|(cases hco;done)|skip)
        all_goals first
         |(cases hco;exact⟨_, ‹_›, ‹_›,rfl⟩)
       obtain⟨c,hc1,hc2,hc3⟩:=hopc
       have hev:c.args.map a.eval=(args.map a.eval).toArray:=by rw[←hc3];apply Array.toList_inj.1;simp
       have happ:((args.map a.eval).toArray++cap')=(args.map a.eval++cap'.toList).toArray:=by apply Array.toList_inj.1;simp
       simp[execOp,hc1,resolve,hc2,hev,hx1,Deferred.ofValue,invoke]
       rw[←happ]
      ·cases hcore
     ·cases hcore
    ·cases hcore
   ·split at hcore
    ·obtain⟨φ',v',w',r1,r2,r3,r4,r5,r6⟩:=e32 hc.op hF hH hcore
     cases v with
     |some u=>
      refine⟨φ',w',v', .one (step_lone_go ?_),hput (hF.mono r4 r5) r2,r3,r4,r5,r6⟩
      rw[hG,←hfin];simp[stepG.apply,r1]
     |none=>
      refine⟨φ',w',undef, .one (step_lone_go ?_),hput (hF.mono r4 r5) (fun u hu=>by cases hu),r3,r4,r5,r6⟩
      rw[hG,←hfin];simp[stepG.apply,r1]
    ·cases hcore
  ·cases hcore
 ·cases hs
theorem ib1{n0:Nat}{o:AOper}{fr:Fr}{h:H}{r:Fr×H}(hs:km6 T g n0 o fr h=some r):km6 T g n0 {o with op:=o.op.inText,chk:=o.chk&& !o.op.isLdb} fr h=some r:=by
 obtain⟨dst,op,gu,chk⟩:=o
 cases op with
 |ldb agg n a=>
  unfold km6 core at hs⊢
  simp only[AOp.inText,AOp.isLdb,Bool.not_true,Bool.and_false]
  split at hs
  ·rename_i v h2 hc
   cases hs
   split at hc
   ·rename_i hg;cases hc;simp only[hg]
   ·rename_i hg
    simp only[hg]
    have hc:(if wb6 n0 fr ⟨dst, .ldb agg n a,gu,chk⟩then aop fr h (.ldb agg n a)else none)=some (v,h2):=hc
    split at hc
    ·have h3:=(zx2 hc).2
     have ho:wb6 n0 fr ⟨dst, .ld agg n a,gu,false⟩=true:=rfl
     rw[if_pos ho,h3]
    ·cases hc
   ·cases hc
  ·cases hs
 |_=>simpa [AOp.inText,AOp.isLdb]using hs
theorem ic4(hT:xp2 P T)(hC: ∀f,zb8 P B T g f)(hg: ∀rs ks fr h v h',g rs ks fr h=some (v,h')→h.length≤h'.length){nt:Nat}{ops:Array Oper}{i:Nat}{rest:List Nat}{o:Oper}{ao:AOper}(ho:ops[i]? =some o)(hc:CO P nt ops o ao){n0:Nat}{fr fr1:Fr}{h h1:H}
 (hs:km6 T g n0 ao fr h=some (fr1,h1)) {φ:Ren} {w:World} {a:Act} {b:Frame} {cs:List Frame} {k:List Item} (hF:FR φ h.length nt fr a.tmps) (hH:HR φ B h w):
 ∃φ' w' v',Steps P (lone (b.at a (.inRegion ops (i::rest)::k)) cs w) (lone (b.at (a.put o.dst v') (.inRegion ops rest::k)) cs w')∧FR φ' h1.length nt fr1 (a.put o.dst v').tmps∧HR φ' B h1 w'∧Ext φ h.length φ'∧h.length≤h1.length∧Below B w w':=
 ad4 hT hC hg ho (ao:={ao with op:=ao.op.inText,chk:=ao.chk&& !ao.op.isLdb}) ⟨hc.dst,hc.lt,hc.op,hc.gd⟩ (ib1 hs) hF hH
theorem E.one{ρ:Rel}{n:Nat}{v v2:Value}(h:E ρ n v v2):v2.oneCell'=v.oneCell':=by cases h<;>rfl
open Classical in
noncomputable def Ren.by (φ:Ren) (π:Rel):Ren:=fun o=>if hx: ∃o2,π o o2 then φ (Classical.choose hx)else φ o
theorem Ren.by_eq{φ:Ren}{π:Rel}{h h2:H}(hm:ME π h h2){o o2:Nat}(hr:π o o2):φ.by π o=φ o2:=by
 unfold Ren.by
 have hx: ∃o2,π o o2:=⟨o2,hr⟩
 rw[dif_pos hx,(hm.uni _ _ _ _ (Classical.choose_spec hx) hr).1 rfl]
theorem VR.by{φ:Ren}{π:Rel}{h h2:H}(hm:ME π h h2){v v2 v':Value}(he:E π h.length v v2)(hv:VR φ h2.length v2 v'):VR (φ.by π) h.length v v':=by
 induction he generalizing v' with
 |atom v hp=>
  cases hv<;>first|(cases hp;done)|(constructor;done)
 |ptr o o2 off h1 h3=>
  cases hv with
  |ptr _ _ h4=>rw[←Ren.by_eq (φ:=φ) hm h1];exact .ptr _ _ h3
 |sl o o2 off l c h1 h3=>
  cases hv with
  |sl _ _ _ _ c' q h4 h5 h6 h7=>rw[←Ren.by_eq (φ:=φ) hm h1]at h6 h7⊢;exact .sl _ _ _ _ _ _ h3 h5 h6 h7
  |slz _ _ x h4 h5=>exact .slz _ _ _ h3 (by rw[Ren.by_eq (φ:=φ) hm h1];exact h5)
 |func f cs cs2 hs _ ih=>
  cases hv with
  |func _ _ cs' hs2 hh=>exact .func _ _ _ (hs.trans hs2) fun i h h'=>ih i h (by omega) (hh i (by omega) h')
 |agg cs cs2 hs h0 ih=>
  cases hv with
  |agg _ cs' hs2 h1 hh=>exact .agg _ _ (hs.trans hs2) (fun i h=>by rw[←(h0 i h (by omega)).one];exact h1 i (by omega)) fun i h h'=>ih i h (by omega) (hh i (by omega) h')
 |tuple cs cs2 hs _ ih=>
  cases hv with
  |tuple _ cs' hs2 hh=>exact .tuple _ _ (hs.trans hs2) fun i h h'=>ih i h (by omega) (hh i (by omega) h')
theorem VR.self{φ:Ren}{n:Nat}{v v':Value}(h:VR φ n v v'):E Eq n v v:=by
 induction h with
 |ptr o off ho=>exact .ptr _ _ _ rfl ho
 |sl o off l c c' q ho=>exact .sl _ _ _ _ _ rfl ho
 |slz o off x ho=>exact .sl _ _ _ _ _ rfl ho
 |func f cs cs' hs _ ih=>exact .func _ _ _ rfl fun i h h'=>ih i h (by omega)
 |agg cs cs' hs h1 _ ih=>exact .agg _ _ rfl fun i h h'=>ih i h (by omega)
 |tuple cs cs' hs _ ih=>exact .tuple _ _ rfl fun i h h'=>ih i h (by omega)
 |_=>exact .atom _ rfl
theorem WFs.of{φ:Ren}{nt:Nat}{fr:Fr}{tmps:Array Value}{h:H}{w:World}(hF:FR φ h.length nt fr tmps)(hH:HR φ B h w):WFs fr h:=by
 refine⟨fun t v hv=>let⟨v',_,h2⟩:=hF.2 t v hv;⟨v,hv,h2.self⟩,⟨fun o o2 p p2 h1 h2=>by subst h1;subst h2;rfl,fun j=>rfl,fun o o2 he=> ?_⟩⟩
 subst he
 cases ho:h[o]? with
 |none=>trivial
 |some b=>cases b with
  |dead=>trivial
  |row r=>
   have hr:h.row o=some r:=by unfold H.row;rw[ho]
   refine⟨rfl,rfl,rfl,rfl,fun i v hv=>⟨v,hv, ?_⟩⟩
   obtain⟨v',_,h2⟩:=hH.cell hr hv
   exact h2.self
theorem Eqv.model{n0 nt:Nat}{fr fr2:Fr}{h h2:H}{φ:Ren}{tmps:Array Value}{w:World}(he:Eqv n0 fr h fr2 h2)(hF:FR φ h2.length nt fr2 tmps)(hH:HR φ B h2 w):
 ∃φ':Ren,FR φ' h.length nt fr tmps∧HR φ' B h w∧ ∀o,o<n0→φ' o=φ o:=by
 obtain⟨π,a1,a2,a3,a4,a5⟩:=he.ex
 have hrow: ∀{o r},h.row o=some r→ ∃o2 r2,π o o2∧φ.by π o=φ o2∧h2.row o2=some r2∧r2.elem=r.elem∧r2.unit=r.unit∧r2.own=r.own∧LE π h.length r.cells r2.cells:=by
  intro o r hr
  obtain⟨o2,ho⟩:=a5 o (fz4 hr)
  obtain⟨r2,k1,k2,k3,k4,k5⟩:=a2.row ho hr
  exact⟨o2,r2,ho,Ren.by_eq a2 ho,k1,k2,k3,k4,k5⟩
 refine⟨φ.by π,⟨hF.1,fun t v hv=> ?_⟩,⟨fun o r hr ho=> ?_,fun o r hr ho=> ?_,fun o r hr c hc=> ?_,fun o o' r r' hr hr' ho ho' hb=> ?_,hH.size⟩,fun o ho=>Ren.by_eq a2 (a4 o ho)⟩
 ·obtain⟨v2,k1,k2⟩:=a1 t v hv
  obtain⟨v',k3,k4⟩:=hF.2 t v2 k1
  exact⟨v',k3,k4.by a2 k2⟩
 ·obtain⟨o2,r2,k1,k2,k3,k4,k5,k6,k7⟩:=hrow hr
  obtain⟨m1,m2,m3,cur,m4,m5,m6⟩:=hH.own o2 r2 k3 (k6.trans ho)
  rw[k2]
  refine⟨m1,m2.trans k5,m3,cur,by rw[m4,k4],m5,fun i c hc=> ?_⟩
  obtain⟨c2,n1,n2⟩:=k7.2 i c hc
  obtain⟨v,n3,n4⟩:=m6 i c2 n1
  exact⟨v,n3,n4.by a2 n2⟩
 ·obtain⟨o2,r2,k1,k2,k3,k4,k5,k6,k7⟩:=hrow hr
  obtain⟨m1,m2,m3⟩:=hH.ro o2 r2 k3 (k6.trans ho)
  rw[k2]
  refine⟨m1,m2,fun i c hc=> ?_⟩
  obtain⟨c2,n1,n2⟩:=k7.2 i c hc
  obtain⟨v,n3,n4⟩:=m3 i c2 n1
  exact⟨v,n3,n4.by a2 n2⟩
 ·obtain⟨o2,r2,k1,k2,k3,k4,k5,k6,k7⟩:=hrow hr
  obtain⟨i,hi,he⟩:=List.getElem_of_mem hc
  obtain⟨c2,n1,n2⟩:=k7.2 i c (by rw[List.getElem?_eq_getElem hi,he])
  rw[←n2.one]
  exact hH.one o2 r2 k3 c2 (List.mem_of_getElem? n1)
 ·obtain⟨o2,r2,k1,k2,k3,k4,k5,k6,k7⟩:=hrow hr
  obtain⟨p2,s2,l1,l2,l3,l4,l5,l6,l7⟩:=hrow hr'
  rw[k2,l2]at hb
  have:=hH.inj o2 p2 r2 s2 k3 l3 (k6.trans ho) (l6.trans ho') hb
  exact(a2.uni _ _ _ _ k1 l1).2 this
end
end Go.Am
namespace Go.Am
open Go.RowKit (Below)
section
variable {P:Program} {B:Nat} {T:Tab} {g:List ARes→List It→Fr→H→Res}
theorem x24(hT:xp2 P T)(hC: ∀f,zb8 P B T g f)(hg: ∀rs ks fr h v h',g rs ks fr h=some (v,h')→h.length≤h'.length){nt:Nat}{ops:Array Oper}{l:List AOper}{draw:Bool}{π:List Nat}(hr:RegOK P nt ops draw l π)(d:AOper){n0:Nat}:
 ∀(L:List Nat) {fr fr1:Fr} {h h1:H},(∀i∈L,i<ops.size)→gf4 T g n0 (L.map fun i=>l.getD i d) fr h=some (fr1,h1)→
 ∀{φ:Ren} {w:World} {a:Act} {b:Frame} {cs:List Frame} {k:List Item},a.defers=[]→FR φ h.length nt fr a.tmps→HR φ B h w→
 ∃φ' w' a',Steps P (lone (b.at a (.inRegion ops L::k)) cs w) (lone (b.at a' k) cs w')∧a'.defers=[]∧FR φ' h1.length nt fr1 a'.tmps∧HR φ' B h1 w'∧Ext φ h.length φ'∧h.length≤h1.length∧Below B w w'
 | [],fr,fr1,h,h1,_,hs,φ,w,a,b,cs,k,hd,hF,hH=>by
   cases hs
   exact⟨φ,w,a, .one step_region_end,hd,hF,hH,Ext.refl _ _,Nat.le_refl _,Below.refl _ _⟩
 |i::L,fr,fr1,h,h1,hL,hs,φ,w,a,b,cs,k,hd,hF,hH=>by
  have hi:=hL i (by simp)
  obtain⟨ao,e1,e2⟩:=hr.op i ops[i] (Array.getElem?_eq_getElem hi)
  simp only[List.map_cons,gf4]at hs
  have e3:l.getD i d=ao:=by rw[List.getD_eq_getElem?_getD,e1];rfl
  rw[e3]at hs
  split at hs
  ·rename_i fr2 h2 hst
   obtain⟨φ2,w2,v2,s1,s2,s3,s4,s5,s6⟩:=ic4 (b:=b) (cs:=cs) (k:=k) (rest:=L) hT hC hg (Array.getElem?_eq_getElem hi) e2 hst hF hH
   have hd2:(a.put ops[i].dst v2).defers=[]:=by cases ops[i].dst<;>exact hd
   obtain⟨φ3,w3,a3,t1,t2,t3,t4,t5,t6,t7⟩:=x24 hT hC hg hr d L (fun j hj=>hL j (by simp[hj])) hs (b:=b) (cs:=cs) (k:=k) hd2 s2 s3
   exact⟨φ3,w3,a3,s1.trans t1,t2,t3,t4,s4.trans t5 s5,Nat.le_trans s5 t6,s6.trans t7⟩
  ·cases hs
theorem HR.drawn{φ:Ren}{h:H}{w:World}(hH:HR φ B h w)(n:Nat):HR φ B h {w with drawn:=n}:=
 hH.same (Nat.le_refl _) (fun _ _=>rfl)
theorem yu7(hT:xp2 P T)(hm:P.follows .mixedOrders=true)(hS:Sim P B T g)(hC: ∀f,zb8 P B T g f)(hg: ∀rs ks fr h v h',g rs ks fr h=some (v,h')→h.length≤h'.length)(hE: ∀ρ,EmbG ρ g):Sim P B T (gF T g):=by
 intro rs ks fr h v h' hr φ w a b cs k nt fn hfn hrs hb hI hd hF hH
 have ret: ∀{k:List Item} {fr':Frame},retv rs fr h=some (v,h')→Steps P (lone (b.at a k) cs w) (lone fr' cs w)→fr'.fn=b.fn→fr'.mode= .returning→fr'.defers=[]→fr'.kind= .normal→fr'.tmps=a.tmps→
  ∃φ' w' v' fr',Steps P (lone (b.at a k) cs w) (lone fr' cs w')∧fr'.fn=b.fn∧fr'.leaving P w' (.returned v')∧VR φ' h'.length v v'∧HR φ' B h' w'∧Ext φ h.length φ'∧Below B w w':=by
  intro k fr' hr hst h1 h2 h3 h4 h5
  obtain⟨rfl,v',e1,e2⟩:=kl3 (P:=P) hF hH hrs hr
  exact⟨φ,w,v',fr',hst,h1,⟨h2,h3,h4,fn,by rw[h1];exact hfn,by rw[h5];exact e1⟩,e2,hH,Ext.refl _ _,Below.refl _ _⟩
 have next: ∀{ks':List It} {k':List Item} {fr2:Fr} {h2:H} {φ2:Ren} {w2:World} {a2:Act},g rs ks' fr2 h2=some (v,h')→Steps P (lone (b.at a k) cs w) (lone (b.at a2 k') cs w2)→IR P nt ks' k'→a2.defers=[]→FR φ2 h2.length nt fr2 a2.tmps→HR φ2 B h2 w2→
  Ext φ h.length φ2→h.length≤h2.length→Below B w w2→
  ∃φ' w' v' fr',Steps P (lone (b.at a k) cs w) (lone fr' cs w')∧fr'.fn=b.fn∧fr'.leaving P w' (.returned v')∧VR φ' h'.length v v'∧HR φ' B h' w'∧Ext φ h.length φ'∧Below B w w':=by
  intro ks' k' fr2 h2 φ2 w2 a2 hr hst hI hd hF hH he hl hbl
  obtain⟨φ3,w3,v3,fr3,t1,t2,t3,t4,t5,t6,t7⟩:=hS _ _ _ _ _ _ hr φ2 w2 a2 b cs k' nt fn hfn hrs hb hI hd hF hH
  exact⟨φ3,w3,v3,fr3,hst.trans t1,t2,t3,t4,t5,he.trans t6 hl,hbl.trans t7⟩
 have same: ∀{ks':List It} {k':List Item} {fr2:Fr},g rs ks' fr2 h=some (v,h')→step P (lone (b.at a k) cs w)= .next (lone (b.at a k') cs w)→IR P nt ks' k'→FR φ h.length nt fr2 a.tmps→
  ∃φ' w' v' fr',Steps P (lone (b.at a k) cs w) (lone fr' cs w')∧fr'.fn=b.fn∧fr'.leaving P w' (.returned v')∧VR φ' h'.length v v'∧HR φ' B h' w'∧Ext φ h.length φ'∧Below B w w':=by
  intro ks' k' fr2 hr hst hI hF2
  exact next hr (.one hst) hI hd hF2 hH (Ext.refl _ _) (Nat.le_refl _) (Below.refl _ _)
 cases hI with
 |nil=>
  simp only[gF]at hr
  exact ret hr (.one step_end) rfl rfl hd hb rfl
 |blk hk=>
  simp only[gF]at hr
  exact same hr step_inBlock hk (hF.keep _)
 |lp hc hk=>
  simp only[gF]at hr
  exact same hr step_inLoop (.code hc (.lp hc hk)) (hF.keep _)
 | @code _ _ ks2 k2 hc hk=>
   cases hc with
   |stuck=>simp only[gF]at hr;cases hr
   |skip=>
    simp only[gF]at hr
    exact same hr step_skip hk hF
   |ret=>
    simp only[gF]at hr
    exact ret hr (.one step_ret) rfl rfl hd hb rfl
   |seq h1 h2=>
    simp only[gF]at hr
    exact same hr step_seq (.code h1 (.code h2 hk)) hF
   |cond h1 h2=>
    simp only[gF]at hr
    split at hr
    ·rename_i t ht
     have e:=xz4 (az8 hF ht)
     refine same hr (step_cond e) ?_ hF
     cases t
     ·exact .code h2 hk
     ·exact .code h1 hk
    ·cases hr
   |block h1=>
    simp only[gF]at hr
    exact same hr step_block (.code h1 (.blk hk)) hF
   |exit=>
    simp only[gF]at hr
    split at hr
    ·rename_i ko k2 hp
     obtain⟨k',e1,e2⟩:=bz6 hk hp
     exact same hr (step_exit e1) e2 (hF.keep _)
    ·cases hr
   | @loop kh c c' h1=>
     simp only[gF]at hr
     exact same hr step_loop (.code h1 (.lp h1 hk)) (hF.keep _)
   |region id ops draw l π hro=>
    simp only[gF]at hr
    split at hr
    ·rename_i fr1 h1 hrun
     have hlen:=c18 hg hrun
     cases hdr:draw with
     |false=>
      subst hdr
      rw[hro.txt rfl]at hrun
      obtain⟨φ2,w2,a2,t1,t2,t3,t4,t5,t6,t7⟩:=x24 hT hC hg hro ⟨none, .lenK 0,none,false⟩ (List.range ops.size) (fun i hi=>List.mem_range.1 hi) hrun (b:=b) (cs:=cs) hd hF hH
      exact next hr (.head step_region t1) hk t2 t3 t4 t5 t6 t7
     |true=>
      subst hdr
      obtain⟨hdn,hco⟩:=hro.dr rfl
      have hst:=step_region_draw (P:=P) (b:=b) (a:=a) (k:=k2) (cs:=cs) (w:=w) (id:=id) (ops:=ops)
      rw[hm]at hst
      obtain⟨fr2,h2,hrun2,heqv⟩:=l80 hg hE hT.good hro.len hro.good hro.ord opNo rfl hdn hco (w.tape w.drawn (.order b.fn id)) (WFs.of hF hH) hrun
      have htopo:=vr2 hdn (w.tape w.drawn (.order b.fn id))
      obtain⟨φ2,w2,a2,t1,t2,t3,t4,t5,t6,t7⟩:=x24 hT hC hg hro ⟨none, .lenK 0,none,false⟩ _ (fun i hi=>List.mem_range.1 (htopo.perm.mem_iff.1 hi)) hrun2 (b:=b) (cs:=cs) hd hF (hH.drawn _)
      have h0:Below B w {w with drawn:=w.drawn+1}:=⟨rfl,rfl,rfl,Nat.le_refl _,fun _ _=>rfl⟩
      obtain⟨φ3,u1,u2,u3⟩:=heqv.model t3 t4
      exact next hr (.head hst t1) hk t2 u1 u2 (fun o ho=>(u3 o ho).trans (t5 o ho)) hlen (h0.trans t7)
    ·cases hr
theorem iy4(hT:xp2 P T){n:Nat}(hS:Sim P B T (goN T n))(hC: ∀m,m<n→ ∀f,zb8 P B T (goN T m) f)(f:FuncId):zb8 P B T (goN T n) f:=by
 cases hF:T f with
 |none=>intro vs vs' h h' v he;unfold enter at he;rw[hF]at he;cases he
 |some F=>
  rcases hT f F hF with h1|h1
  ·exact sf4 hS (fun F' hF'=>by rw[hF]at hF';cases hF';exact h1)
  ·exact h1.ok hT.body B n hC
theorem ec5(hT:xp2 P T)(hm:P.follows .mixedOrders=true): ∀n,Sim P B T (goN T n)∧ ∀m,m≤n→ ∀f,zb8 P B T (goN T m) f
 |0=>by
  have h0:Sim P B T (goN T 0):=fun _ _ _ _ _ _ hr=>by cases hr
  refine⟨h0,fun m hm f=> ?_⟩
  obtain rfl:m=0:=by omega
  exact iy4 hT h0 (fun m hm=>by omega) f
 |n+1=>by
  obtain⟨h1,h2⟩:=ec5 hT hm n
  have h3:=yu7 hT hm h1 (h2 n (Nat.le_refl _)) (oa1 n) (fun ρ=>ab0 hT.good n)
  refine⟨h3,fun m hm' f=> ?_⟩
  by_cases hmn:m≤n
  ·exact h2 m hmn f
  ·obtain rfl:m=n+1:=by omega
   exact iy4 hT h3 (fun m hm=>h2 m (by omega)) f
theorem vw9(hT:xp2 P T)(hm:P.follows .mixedOrders=true){f:FuncId}{vs vs':List Value}{h h':H}{v:Value}(hc:call T f vs h=some (v,h')){φ:Ren}{w:World}(hv:LR φ h.length vs vs')(hH:HR φ B h w):
 Calls P f vs'.toArray w fun e w'=> ∃φ' v',e= .returned v'∧VR φ' h'.length v v'∧HR φ' B h' w'∧Ext φ h.length φ'∧Below B w w':=by
 have: ∃n,enter T (goN T n) f vs h=some (v,h'):=by
  unfold call at hc
  unfold enter at hc⊢
  cases hF:T f with
  |none=>rw[hF]at hc;cases hc
  |some F=>
   rw[hF]at hc
   simp only at hc⊢
   split at hc
   ·rename_i hl
    obtain⟨n,hn⟩:=ge4.1 hc
    exact⟨n,by rw[if_pos hl];exact hn⟩
   ·cases hc
 obtain⟨n,hn⟩:=this
 exact(ec5 hT hm n).2 n (Nat.le_refl _) f _ _ _ _ _ hn φ w hv hH
theorem vp5(hT:xp2 P T)(hm:P.follows .mixedOrders=true){f:FuncId}{vs vs':List Value}{h h':H}{b:Bool}(hc:call T f vs h=some (.bool b,h')){φ:Ren}{w:World}(hv:LR φ h.length vs vs')(hH:HR φ w.heap.size h w):
 Calls P f vs'.toArray w fun e w'=>e= .returned (.bool b)∧Below w.heap.size w w':=
 (vw9 hT hm hc hv hH).mono fun e w' ⟨φ',v',he,hvr,_,_,hb⟩=>⟨by rw[he,xz4 hvr],hb⟩
end
#print axioms vp5
end Go.Am
namespace Go.Am
def gdC(ops:Array Oper):Option (Nat×Bool)→Option (Option (Nat×Bool))
 |none=>some none
 |some (j,b)=>match(ops[j]?).bind (·.dst)with
  |some s=>some (some (s,b))
  |none=>none
def u90(nt:Nat):Option Nat→Bool
 |none=>true
 |some d=>Nat.blt d nt
def sx7(P:Program)(nt:Nat)(ops:Array Oper)(o:Oper):Option AOper:=
 match sv3 P o,gdC ops o.guard with
 |some op,some g=>if u90 nt o.dst then some ⟨o.dst,op,g,false⟩else none
 |_,_=>none
def m57(P:Program)(nt:Nat)(ops:Array Oper):List Oper→Option (List AOper)
 | []=>some []
 |o::r=>match sx7 P nt ops o,m57 P nt ops r with
  |some a,some l=>some (a::l)
  |_,_=>none
def mark(W b:Nat)(l:List AOper):List AOper:=
 l.zipIdx.map fun(x,j)=>
  let apart (i:Nat):Bool:= !b.testBit (W*j+i)&& !b.testBit (W*i+j)
  {x with op:=if x.op.isLd&&l.zipIdx.any (fun(y,i)=>Nat.blt j i&&apart i&&y.op.isAppU)then x.op.inBox else x.op,chk:=(x.op.isCall&&l.zipIdx.any fun(y,i)=>i !=j&&apart i&&y.op.cls !=0)||(x.op.isLd&&(l.take j).zipIdx.any fun(y,i)=>apart i&&y.op.cls==2)}
def kk4(W b:Nat)(l:List AOper)(π:List Nat):List AOper:=
 l.zipIdx.map fun(x,j)=>
  let apart (i:Nat):Bool:= !b.testBit (W*j+i)&& !b.testBit (W*i+j)
  let pj:=π.idxOf j
  {x with op:=if x.op.isLd&&l.zipIdx.any (fun(y,i)=>Nat.blt pj (π.idxOf i)&&apart i&&y.op.isAppU)then x.op.inBox else x.op,chk:=(x.op.isCall&&l.zipIdx.any fun(y,i)=>i !=j&&apart i&&y.op.cls !=0)||(x.op.isLd&&l.zipIdx.any fun(y,i)=>Nat.blt (π.idxOf i) pj&&apart i&&y.op.cls==2)}
def boxy(l:List AOper)(x:AOper):Bool:=match x.op with
 | .ld _ _ (.tmp a)=>l.any fun y=>y.dst==some a&&(match y.op with
   | .faddr .. =>true
   |_=>false)
 | .faddr .. =>true
 |_=>false
def dz2(W b:Nat)(l:List AOper):Nat→Nat→List Nat→List Nat
 |0,_,_=>[]
 |n+1,done,left=>
  let r:=left.filter fun i=>((b>>>(W*i))%2^W)&&&done==(b>>>(W*i))%2^W
  match(match r.find? fun i=>(l.getD i opNo).op.cls==0 with
   |some i=>some i
   |none=>match(match r.find? fun i=>boxy l (l.getD i opNo)with
    |some i=>some i
    |none=>r.find? fun i=>(l.getD i opNo).op.cls !=1)with
    |some i=>some i
    |none=>match r.find? fun i=>l.zipIdx.any fun(y,j)=>y.op.cls==3&&b.testBit (W*j+i)with
     |some i=>some i
     |none=>r.head?)with
  |some i=>i::dz2 W b l n (done|||2^i) (left.erase i)
  |none=>[]
def late(l:List AOper):Bool:=l.zipIdx.any fun(x,i)=>match x.op with
 | .app _ _ _ (.tmp a) _=>(l.take i).any fun y=>y.dst==some a&&(match y.op with
   | .mv (.tmp s)=>(l.drop i).any fun z=>match z.op with
     | .mv (.tmp s')=>s'==s
     |_=>false
   |_=>false)
 |_=>false
def wd6(l:List AOper):Bool:=l.any fun x=>x.chk&&x.op.isLd&&boxy l x
def ordB(n:Nat)(π:List Nat):Bool:=decide π.Nodup&&π.all (fun i=>decide (i<n))&&decide (π.length=n)
theorem tx0{n:Nat}{π:List Nat}(h:ordB n π=true):OrdOK n π:=by
 simp only[ordB,Bool.and_eq_true,decide_eq_true_eq,List.all_eq_true]at h
 exact⟨h.1.1,h.1.2,h.2⟩
def ki6(π:List Nat)(l:List AOper):List AOper:=π.map fun i=>l.getD i opNo
def hf3(P:Program)(nt:Nat)(ops:Array Oper)(draw:Bool):Option (List AOper):=
 match m57 P nt ops ops.toList with
 |some l=>match draw with
  |false=>some l
  |true=>force (befN ops.size ops.toList 0 0) fun b=>let l':=mark ops.size b l
   let t:=bm0 ops&&zz8 ops.toList l'
   if t&& !late l'&& !wd6 l' then some l' else
    let π:=dz2 ops.size b l ops.size 0 (List.range ops.size)
    let l2:=kk4 ops.size b l π
    if bm0 ops&&ordB ops.size π&&m73 ops.toList (π.map fun i=>(l2.getD i opNo,i))then some (ki6 π l2)else if t then some l' else none
 |none=>none
def y29(P:Program)(nt:Nat)(kf:Nat→List Nat×List Nat):List Nat→Code→Option ACode
 |_, .skip=>some .skip
 |_, .ret=>some .ret
 |_, .exit id=>some (.exit id)
 |_, .region _ ops draw=>match hf3 P nt ops draw with
  |some l=>some (.region l)
  |none=>some .stuck
 |cur, .seq a b=>match y29 P nt kf cur a,y29 P nt kf cur b with
  |some a,some b=>some (.seq a b)
  |_,_=>none
 |cur, .cond c a b=>match y29 P nt kf cur a,y29 P nt kf cur b with
  |some a,some b=>some (.cond c a b)
  |_,_=>none
 |_, .block id a=>match y29 P nt kf (kf id).1 a with
  |some a=>some (.block id (kf id).2 a)
  |none=>none
 |cur, .loop a=>match y29 P nt kf cur a with
  |some a=>some (.loop cur a)
  |none=>none
 |_,_=>some .stuck
def ix0(P:Program):List ResultVar→Option (List ARes)
 | []=>some []
 | .tmp t::r=>match ix0 P r with
   |some l=>some (.tmp t::l)
   |none=>none
 | .cell a t::r=>match P.underlying t,P.info? t,ix0 P r with
   |some d,some i,some l=>some (.cell a (cw9 d) i.size::l)
   |_,_,_=>none
def kj8(P:Program)(kf:Nat→List Nat×List Nat)(fn:Func):Option AFun:=
 match fn.body with
 |some body=>match y29 P fn.ntmps kf [] body,ix0 P fn.results.toList with
  |some c,some r=>if(fn.name== "runtime.NumGoroutine")=false then some ⟨c,fn.params.size+fn.nfree,fn.ntmps,r⟩else none
  |_,_=>none
 |none=>none
section
variable {P:Program}
theorem wg4{o:Oper}{op:AOp}(h:sv3 P o=some op):op.inText=op:=by
 unfold sv3 at h
 split at h<;>first
  |(cases h;done)
  |(cases h;rfl)
  |((repeat' split at h)<;>first
     |(cases h;done)
     |(cases h;rfl))
theorem j40{op:AOp}:op.inBox.inText=op.inText:=by cases op<;>rfl
theorem xp6{nt:Nat}{ops:Array Oper}{o:Oper}{a:AOper}(h:sx7 P nt ops o=some a)(b:Bool)(c:Bool):CO P nt ops o {a with op:=if c then a.op.inBox else a.op,chk:=b}:=by
 unfold sx7 at h
 split at h
 ·rename_i op g h1 h2
  split at h
  ·rename_i hd
   cases h
   refine⟨rfl,fun d hd'=> ?_, ?_, ?_⟩
   ·rw[hd']at hd;exact Nat.le_of_ble_eq_true hd
   ·have:=wg4 h1
    cases c
    ·show _=some op.inText
     rw[this];exact h1
    ·show _=some op.inBox.inText
     rw[j40,this];exact h1
   ·unfold gdC at h2
    split at h2
    ·rename_i hg;cases h2;exact .inl ⟨hg,rfl⟩
    ·rename_i j bb hg
     split at h2
     ·rename_i s hs;cases h2;exact .inr ⟨j,bb,s,hg,hs,rfl⟩
     ·cases h2
  ·cases h
 ·cases h
theorem c84{nt:Nat}{ops:Array Oper}: ∀{os:List Oper} {l:List AOper},m57 P nt ops os=some l→l.length=os.length∧ ∀(i:Nat) o,os[i]? =some o→ ∃a,l[i]? =some a∧sx7 P nt ops o=some a
 | [],l,h=>by cases h;exact⟨rfl,fun i o h=>by simp at h⟩
 |o::os,l,h=>by
  simp only[m57]at h
  split at h
  ·rename_i a l' h1 h2
   cases h
   obtain⟨e1,e2⟩:=c84 h2
   refine⟨by simp[e1],fun i x hx=> ?_⟩
   cases i with
   |zero=>simp at hx;subst hx;exact⟨a,rfl,h1⟩
   |succ i=>simpa using e2 i x (by simpa using hx)
  ·cases h
theorem u15{l:List AOper}{n:Nat}(h:l.length=n):ki6 (List.range n) l=l:=by
 unfold ki6
 apply List.ext_getElem?
 intro i
 by_cases hi:i<n
 ·simp[hi,h,List.getD_eq_getElem?_getD]
 ·rw[List.getElem?_eq_none (by simp;omega),List.getElem?_eq_none (by omega)]
theorem od6{ops:Array Oper}{l:List AOper}(hl:l.length=ops.size)(h:zz8 ops.toList l=true):m73 ops.toList ((List.range ops.size).map fun i=>(l.getD i opNo,i))=true:=by
 unfold m73
 unfold zz8 at h
 rw[force_eq]at h⊢
 have he:((List.range ops.size).map fun i=>(l.getD i opNo,i))=l.zipIdx:=by
  apply List.ext_getElem?
  intro i
  by_cases hi:i<ops.size
  ·rw[List.getElem?_map,List.getElem?_range hi,List.getElem?_zipIdx,List.getElem?_eq_getElem (by omega)]
   simp[List.getD_eq_getElem?_getD,hl,hi]
  ·rw[List.getElem?_eq_none (by simp;omega),List.getElem?_eq_none (by simp;omega)]
 rw[he,List.all_eq_true]
 rintro⟨⟨x,j2⟩,j⟩ hx
 have hx1:=List.mem_zipIdx_iff_getElem?.1 hx
 simp only at hx1
 rw[List.getElem?_zipIdx]at hx1
 cases hlj:l[j]? with
 |none=>rw[hlj]at hx1;cases hx1
 |some x'=>
  rw[hlj]at hx1
  simp only[Option.map_some,Option.some.injEq,Prod.mk.injEq,Nat.zero_add]at hx1
  obtain⟨rfl,rfl⟩:=hx1
  rw[List.all_eq_true]at h
  have h1:=h (x',j) (List.mem_zipIdx_iff_getElem?.2 hlj)
  simp only[List.all_eq_true]at h1⊢
  rintro⟨y,i⟩ hy
  obtain⟨a,ha⟩:=List.getElem?_of_mem hy
  rw[List.getElem?_take]at ha
  split at ha
  ·rename_i haj
   rw[List.getElem?_zipIdx]at ha
   cases hla:l[a]? with
   |none=>rw[hla]at ha;cases ha
   |some y'=>
    rw[hla]at ha
    simp only[Option.map_some,Option.some.injEq,Prod.mk.injEq,Nat.zero_add]at ha
    obtain⟨rfl,rfl⟩:=ha
    exact h1 (y',a) (List.mem_zipIdx_iff_getElem?.2 (by simp only;rw[List.getElem?_take,if_pos haj];exact hla))
  ·cases ha
theorem q42{nt:Nat}{ops:Array Oper}{draw:Bool}{l:List AOper}(h:hf3 P nt ops draw=some l): ∃l' π,RegOK P nt ops draw l' π∧l=ki6 π l':=by
 unfold hf3 at h
 split at h
 ·rename_i l0 h0
  obtain⟨e1,e2⟩:=c84 h0
  have e1':l0.length=ops.size:=by simpa using e1
  split at h
  ·cases h
   refine⟨l,List.range ops.size,⟨e1',fun i o ho=> ?_,fun _=>rfl, .range _,fun hd=>by cases hd⟩,(u15 e1').symm⟩
   obtain⟨a,h1,h2⟩:=e2 i o (by simpa using ho)
   have:=xp6 h2 a.chk false
   exact⟨a,h1,this⟩
  ·simp only[force_eq]at h
   have hml:(mark ops.size (befN ops.size ops.toList 0 0) l0).length=ops.size:=by simp[mark,e1']
   have text:(bm0 ops&&zz8 ops.toList (mark ops.size (befN ops.size ops.toList 0 0) l0))=true→mark ops.size (befN ops.size ops.toList 0 0) l0=l→ ∃l' π,RegOK P nt ops true l' π∧l=ki6 π l':=by
    rintro hc rfl
    simp only[Bool.and_eq_true]at hc
    refine⟨_,List.range ops.size,⟨hml,fun i o ho=> ?_,fun hd=>(by cases hd), .range _,fun _=>⟨hc.1,od6 hml hc.2⟩⟩,(u15 hml).symm⟩
    obtain⟨a,h1,h2⟩:=e2 i o (by simpa using ho)
    unfold mark
    simp only[List.getElem?_map,List.getElem?_zipIdx,h1,Option.map_some]
    exact⟨_,rfl,xp6 h2 _ _⟩
   split at h
   ·rename_i hc
    simp only[Bool.and_eq_true]at hc
    exact text (by simp only[Bool.and_eq_true];exact hc.1.1) (Option.some.inj h)
   ·split at h
    ·rename_i hc
     cases h
     simp only[Bool.and_eq_true]at hc
     refine⟨_,_,⟨by simp[kk4,e1'],fun i o ho=> ?_,fun hd=>(by cases hd),tx0 hc.1.2,fun _=>⟨hc.1.1,hc.2⟩⟩,rfl⟩
     obtain⟨a,h1,h2⟩:=e2 i o (by simpa using ho)
     unfold kk4
     simp only[List.getElem?_map,List.getElem?_zipIdx,h1,Option.map_some]
     exact⟨_,rfl,xp6 h2 _ _⟩
    ·split at h
     ·exact text ‹_› (Option.some.inj h)
     ·cases h
 ·cases h
theorem bl4{nt:Nat}{kf:Nat→List Nat×List Nat}: ∀{c:Code} {cur:List Nat} {a:ACode},y29 P nt kf cur c=some a→CR P nt c a
 | .skip,cur,a,h=>by cases h;exact .skip
 | .ret,cur,a,h=>by cases h;exact .ret
 | .exit id,cur,a,h=>by cases h;exact .exit
 | .region id ops draw,cur,a,h=>by
   simp only[y29]at h
   split at h
   ·cases h
    obtain⟨l',π,h1,rfl⟩:=q42 ‹_›
    exact .region _ _ _ _ _ h1
   ·cases h;exact .stuck
 | .seq x y,cur,a,h=>by
   simp only[y29]at h
   split at h
   ·cases h;exact .seq (bl4 ‹_›) (bl4 ‹_›)
   ·cases h
 | .cond c x y,cur,a,h=>by
   simp only[y29]at h
   split at h
   ·cases h;exact .cond (bl4 ‹_›) (bl4 ‹_›)
   ·cases h
 | .block id x,cur,a,h=>by
   simp only[y29]at h
   split at h
   ·cases h;exact .block (bl4 ‹_›)
   ·cases h
 | .loop x,cur,a,h=>by
   simp only[y29]at h
   split at h
   ·cases h;exact .loop (bl4 ‹_›)
   ·cases h
 | .rangeFunc ..,cur,a,h=>by cases h;exact .stuck
 | .scope _,cur,a,h=>by cases h;exact .stuck
 | .label _,cur,a,h=>by cases h;exact .stuck
 | .goto _,cur,a,h=>by cases h;exact .stuck
 | .refuse _,cur,a,h=>by cases h;exact .stuck
theorem n73: ∀{rs:List ResultVar} {l:List ARes},ix0 P rs=some l→RR P rs l
 | [],l,h=>by cases h;trivial
 | .tmp t::rs,l,h=>by
   simp only[ix0]at h
   split at h
   ·cases h;exact⟨rfl,n73 ‹_›⟩
   ·cases h
 | .cell a t::rs,l,h=>by
   simp only[ix0]at h
   split at h
   ·cases h;exact⟨rfl,⟨_,_, ‹_›, ‹_›,rfl,rfl⟩,n73 ‹_›⟩
   ·cases h
theorem lh3{kf:Nat→List Nat×List Nat}{f:FuncId}{fn:Func}{F:AFun}(hf:P.funcs[f]? =some fn)(h:kj8 P kf fn=some F):FunOK P f F:=by
 unfold kj8 at h
 split at h
 ·rename_i body hb
  split at h
  ·rename_i c r h1 h2
   split at h
   ·cases h
    exact⟨fn,body,hf,hb,bl4 h1,rfl,n73 h2, ‹_›⟩
   ·cases h
  ·cases h
 ·cases h
end
end Go.Am
namespace Go.Am
variable {T:Tab} {rs:List ARes}
def AOp.l(s:Nat):AOp:= .ld false 1 (.tmp s)
def AOp.i(u a b:Nat):AOp:= .iaddr u (.tmp a) (.tmp b)
def AOp.b(o:BinOp)(x y:Nat):AOp:= .bin o (.tmp x) (.tmp y)
def AOp.c(o:BinOp)(x:Nat)(n:Int):AOp:= .bin o (.tmp x) (.const (.int .i64 n))
def AOp.f(k s:Nat):AOp:= .faddr k (.tmp s)
def AOp.n(s:Nat):AOp:= .len (.tmp s)
def AOp.e(i s:Nat):AOp:= .ext i (.tmp s)
def AOp.m(s:Nat):AOp:= .mv (.tmp s)
def AOp.q(f:FuncId)(l:List Nat):AOp:= .call f (l.map .tmp)
def AOper.o(d:Nat)(x:AOp):AOper:=⟨some d,x,none,false⟩
def AOper.n(x:AOp):AOper:=⟨none,x,none,false⟩
def AOper.g(d:Nat)(x:AOp)(c:Nat)(b:Bool):AOper:=⟨some d,x,some (c,b),false⟩
def AOper.m(d s:Nat):AOper:=⟨some d, .mv (.tmp s),none,false⟩
def AOper.k(d:Nat)(n:Int):AOper:=⟨some d, .mv (.const (.int .i64 n)),none,false⟩
attribute [push_cast] AOp.l AOp.i AOp.b AOp.c AOp.f AOp.n AOp.e AOp.m AOp.q AOper.o AOper.n AOper.g AOper.m AOper.k
noncomputable def goL (T:Tab) (rs:List ARes) (kh:List Nat) (c:ACode) (ks:List It) (l:List (Nat×Value)) (h:H):Res:=go T rs (.code c:: .lp kh c::ks) (Fr.of l) h
noncomputable def goO (T:Tab) (rs:List ARes) (n0:Nat) (l:List AOper) (ks:List It) (fr:Fr) (h:H):Res:=
 match gf4 T (go T) n0 l fr h with
 |some (fr',h')=>go T rs ks fr' h'
 |none=>none
noncomputable def goS (T:Tab) (rs:List ARes) (n0:Nat) (d:Option Nat) (l:List AOper) (ks:List It) (fr:Fr):Option (Option Value×H)→Res
 |some (v,h')=>goO T rs n0 l ks (fr.put d v) h'
 |none=>none
noncomputable def goC (T:Tab) (rs:List ARes) (a b:ACode) (ks:List It) (fr:Fr) (h:H):Bool→Res
 |true=>go T rs (.code a::ks) fr h
 |false=>go T rs (.code b::ks) fr h
noncomputable def goX (T:Tab) (rs:List ARes) (fr:Fr) (h:H):Option (List Nat×List It)→Res
 |some (ko,k)=>go T rs k (Fr.of (hy3 fr ko)) h
 |none=>none
section
variable {ks:List It} {fr:Fr} {h:H}
@[push_cast] theorem fq0:go T rs [] fr h=retv rs fr h:=by rw[go_eq];rfl
@[push_cast] theorem s84:go T rs (.code .ret::ks) fr h=retv rs fr h:=by rw[go_eq];rfl
@[push_cast] theorem xp8:go T rs (.code .skip::ks) fr h=go T rs ks fr h:=by rw[go_eq];rfl
@[push_cast] theorem n84{a b:ACode}:go T rs (.code (.seq a b)::ks) fr h=go T rs (.code a:: .code b::ks) fr h:=by rw[go_eq];rfl
@[push_cast] theorem k93{c:Operand}{a b:ACode}:go T rs (.code (.cond c a b)::ks) fr h=match ev fr c with
 |some (.bool t)=>goC T rs a b ks fr h t
 |_=>none:=by
 rw[go_eq]
 simp only[gF]
 cases ev fr c with
 |none=>rfl
 |some v=>cases v<;>first|rfl|(rename_i t;cases t<;>rfl)
@[push_cast] theorem ox6{a b:ACode}:goC T rs a b ks fr h true=go T rs (.code a::ks) fr h:=rfl
@[push_cast] theorem sr1{a b:ACode}:goC T rs a b ks fr h false=go T rs (.code b::ks) fr h:=rfl
@[push_cast] theorem aw5{id:Nat}{ko:List Nat}{c:ACode}:go T rs (.code (.block id ko c)::ks) fr h=go T rs (.code c:: .blk id ko::ks) fr h:=by rw[go_eq];rfl
@[push_cast] theorem de3{id:Nat}{ko:List Nat}:go T rs (.blk id ko::ks) fr h=go T rs ks (Fr.of (hy3 fr ko)) h:=by rw[go_eq];rfl
@[push_cast] theorem zv5{kh:List Nat}{c:ACode}:go T rs (.code (.loop kh c)::ks) fr h=goL T rs kh c ks (hy3 fr kh) h:=by rw[go_eq];rfl
@[push_cast] theorem g72{kh:List Nat}{c:ACode}:go T rs (.lp kh c::ks) fr h=goL T rs kh c ks (hy3 fr kh) h:=by rw[go_eq];rfl
theorem ur1{kh:List Nat}{c c':ACode}(hc:c=c'){l:List (Nat×Value)}:goL T rs kh c ks l h=go T rs (.code c':: .lp kh c::ks) (Fr.of l) h:=by subst hc;rfl
@[push_cast] theorem r03{id:Nat}:go T rs (.code (.exit id)::ks) fr h=goX T rs fr h (gc2 id ks):=by
 rw[go_eq];simp only[gF];unfold goX;split<;>split<;>simp_all
@[push_cast] theorem lv3{ko:List Nat}{k:List It}:goX T rs fr h (some (ko,k))=go T rs k (Fr.of (hy3 fr ko)) h:=rfl
@[push_cast] theorem ch3{l:List AOper}:go T rs (.code (.region l)::ks) fr h=goO T rs h.length l ks fr h:=by rw[go_eq];rfl
@[push_cast] theorem hi7{n0:Nat}:goO T rs n0 [] ks fr h=go T rs ks fr h:=rfl
@[push_cast] theorem fm7{n0:Nat}{o:AOper}{l:List AOper}:goO T rs n0 (o::l) ks fr h=goS T rs n0 o.dst l ks fr (core T (go T) n0 o fr h):=by
 unfold goO
 simp only[gf4]
 unfold km6 goS
 cases core T (go T) n0 o fr h<;>rfl
@[push_cast] theorem bi5{n0:Nat}{d:Option Nat}{l:List AOper}{v:Option Value}{h':H}:goS T rs n0 d l ks fr (some (v,h'))=goO T rs n0 l ks (fr.put d v) h':=rfl
end
@[push_cast] theorem ut4{id id':Nat}{ko:List Nat}{k:List It}:gc2 id (.blk id' ko::k)=bif Nat.beq id' id then some (ko,k)else gc2 id k:=by
 simp only[gc2]
 by_cases he:id'=id
 ·subst he;simp
 ·have:Nat.beq id' id=false:=by cases hb:Nat.beq id' id with
   |false=>rfl
   |true=>exact absurd (Nat.eq_of_beq_eq_true hb) he
  simp[he,this]
@[push_cast] theorem xa3{id:Nat}{c:ACode}{k:List It}:gc2 id (.code c::k)=gc2 id k:=rfl
@[push_cast] theorem w02{id:Nat}{kh:List Nat}{c:ACode}{k:List It}:gc2 id (.lp kh c::k)=gc2 id k:=rfl
@[push_cast] theorem ve7{f:FuncId}{vs:List Value}{h:H}:enter T (go T) f vs h=call T f vs h:=rfl
@[push_cast] theorem zi1{α:Type}{h h':H}{r:Option α}:behind false h h' r=r:=rfl
theorem zy6{α:Type}{h h':H}{r:Option α}(hp:h<+:h'):behind true h h' r=r:=by unfold behind;rw[if_pos hp]
@[push_cast] theorem v18{α:Type}{x y:α}:(bif true then x else y)=x:=rfl
@[push_cast] theorem ua1{α:Type}{x y:α}:(bif false then x else y)=y:=rfl
@[push_cast] theorem nbeq(a b:Nat):Nat.beq a b=(a==b):=by
 by_cases h:a=b
 ·subst h;simp
 ·have:Nat.beq a b=false:=by cases hb:Nat.beq a b with
   |false=>rfl
   |true=>exact absurd (Nat.eq_of_beq_eq_true hb) h
  simp[h,this]
@[push_cast] theorem lc3{fr:Fr}{s t:Nat}{v:Value}:Fr.set fr s v t=bif Nat.beq t s then some v else fr t:=rfl
@[push_cast] theorem ze1{fr:Fr}{s t:Nat}:Fr.del fr s t=bif Nat.beq t s then none else fr t:=rfl
@[push_cast] theorem of_nil{t:Nat}:Fr.of [] t=none:=rfl
@[push_cast] theorem of_cons{t k:Nat}{v:Value}{r:List (Nat×Value)}:Fr.of ((k,v)::r) t=bif Nat.beq t k then some v else Fr.of r t:=rfl
@[push_cast] theorem s19{n t:Nat}:Fr.args n [] t=none:=rfl
@[push_cast] theorem bk0{n t:Nat}{v:Value}{r:List Value}:Fr.args n (v::r) t=bif Nat.beq t n then some v else Fr.args (n+1) r t:=rfl
@[push_cast] theorem fp5{fr:Fr}{s:Nat}{v:Value}:Fr.put fr (some s) (some v)=fr.set s v:=rfl
@[push_cast] theorem zj6{fr:Fr}{s:Nat}:Fr.put fr (some s) none=fr.del s:=rfl
@[push_cast] theorem ur3{fr:Fr}{v:Option Value}:Fr.put fr none v=fr:=by cases v<;>rfl
attribute [push_cast] if_true if_false Bool.true_eq_false Bool.false_eq_true Bool.not_true Bool.not_false Bool.and_true Bool.true_and Bool.and_false Bool.false_and Bool.or_true Bool.true_or Bool.or_false Bool.false_or
@[push_cast] theorem h35:(true==true)=true:=rfl
@[push_cast] theorem ea2:(true==false)=false:=rfl
@[push_cast] theorem yn4:(false==true)=false:=rfl
@[push_cast] theorem kr1:(false==false)=true:=rfl
@[push_cast] theorem st5:(true !=true)=false:=rfl
@[push_cast] theorem li2:(true !=false)=true:=rfl
@[push_cast] theorem dj6:(false !=true)=true:=rfl
@[push_cast] theorem b29:(false !=false)=false:=rfl
@[push_cast] theorem cv9{α:Type}:(none:Option α).isNone=true:=rfl
@[push_cast] theorem ic6{α:Type}{x:α}:(some x).isNone=false:=rfl
@[push_cast] theorem h96{α:Type}:(none:Option α).isSome=false:=rfl
@[push_cast] theorem s52{α:Type}{x:α}:(some x).isSome=true:=rfl
attribute [push_cast] Nat.zero_add Nat.add_zero Nat.mul_one eq_self ne_eq not_true not_false_iff and_true true_and and_self List.getElem?_cons_zero List.getElem?_cons_succ List.map_cons List.map_nil
attribute [push_cast] core gd wb6 aop abin aint th5 astr aun anil ah0 bound cat sized evp evo ho3 mm ev evs closed tc5 hy3 retv ress res1 flat Value.cells decide_true decide_false
theorem wrap64{x:Int}(h1: -9223372036854775808≤x)(h2:x≤9223372036854775807):IntKind.wrap .i64 x=x:=by
 rw[IntKind.wrap_i64];omega
theorem dec_lt{a b:Int}(h:a<b):decide (a<b)=true:=by simpa using h
theorem cw6{a b:Int}(h:b≤a):decide (a<b)=false:=by simpa using h
theorem nl3{a b:Int}(h:a≤b):decide (a≤b)=true:=by simpa using h
theorem qc6{a b:Int}(h:b<a):decide (a≤b)=false:=by simpa using h
theorem mr8{a b:Int}(h:a=b):decide (a=b)=true:=by simpa using h
theorem nb8{a b:Int}(h: ¬a=b):decide (a=b)=false:=by simpa using h
theorem wn8{f:FuncId}{F:AFun}{vs:List Value}{h:H}(hT:T f=some F)(hl:vs.length=F.nargs):call T f vs h=go T F.results [.code F.code] (Fr.args 0 vs) h:=by
 unfold call enter;rw[hT];simp only;rw[if_pos hl]
end Go.Am
namespace Go.Am
def ints(zs:List Int):List Value:=zs.map (Value.int .i64)
def gi(zs:List Int)(i:Int):Int:=zs.getD i.toNat 0
theorem lr6{zs:List Int}{i:Int}(h0:0≤i)(h:i<zs.length):zs[i.toNat]? =some (gi zs i):=by
 unfold gi
 rw[List.getD_eq_getElem?_getD]
 have:i.toNat<zs.length:=by omega
 simp[List.getElem?_eq_getElem this]
theorem h04{zs:List Int}{i:Int}(h0:0≤i)(h:i<zs.length):gi zs i=zs[i.toNat]'(by omega):=by
 unfold gi;rw[List.getD_eq_getElem?_getD,List.getElem?_eq_getElem (by omega)];rfl
theorem k18{zs:List Int}{i:Int}(h0:0≤i)(h:i<zs.length):gi zs i∈zs:=by rw[h04 h0 h];exact List.getElem_mem _
theorem iq5(zs:List Int):(ints zs).length=zs.length:=by simp[ints]
theorem c17{zs:List Int}{i:Int}(h0:0≤i)(h:i<zs.length):(ints zs)[i.toNat]? =some (.int .i64 (gi zs i)):=by
 unfold ints;rw[List.getElem?_map,lr6 h0 h];rfl
def RdI(h:H)(sa:Option Addr)(c:Nat)(zs:List Int):Prop:=
 (sa=none∧c=0∧zs=[])∨(zs.length≤c∧ ∃o off r,sa=some ⟨o,off,none⟩∧h.row o=some r∧(r.own=true→r.unit=1)∧ ∀i:Int,0≤i→i<zs.length→r.cells[off+i.toNat]? =some (.int .i64 (gi zs i)))
theorem RdI.addr{h:H}{sa:Option Addr}{c:Nat}{zs:List Int}(hr:RdI h sa c zs)(hz:0<zs.length):
 ∃o off,sa=some ⟨o,off,none⟩∧o<h.length∧ ∀i:Int,0≤i→i<zs.length→h.ld1 o (off+i.toNat)=some (.int .i64 (gi zs i)):=by
 rcases hr with⟨_,_,rfl⟩|⟨_,o,off,r,h1,h2,h3⟩
 ·simp at hz
 ·exact⟨o,off,h1,h44 h2,fun i h0 hi=>by unfold H.ld1;rw[h2];exact h3.2 i h0 hi⟩
theorem RdI.mono{h h':H}{sa:Option Addr}{c:Nat}{zs:List Int}(hr:RdI h sa c zs)(hp:h<+:h'):RdI h' sa c zs:=by
 rcases hr with h1|⟨h1,o,off,r,h2,h3,h4⟩
 ·exact .inl h1
 ·exact .inr ⟨h1,o,off,r,h2,by rw[m20 hp (h44 h3)];exact h3,h4⟩
theorem RdI.ofRow{h:H}{o:Nat}{r:Row}{zs:List Int}(hr:h.row o=some r)(hc:r.cells=ints zs)(hu:r.own=true→r.unit=1:=by intro _;rfl):RdI h (some ⟨o,0,none⟩) zs.length zs:=
 .inr ⟨Nat.le_refl _,o,0,r,rfl,hr,hu,fun i h0 hi=>by rw[hc,Nat.zero_add];exact c17 h0 hi⟩
theorem z45{h:H}{b:Ob}{o:Nat}(ho:o<h.length):H.row (h++[b]) o=h.row o:=n64 ho
theorem cv8{h:H}{r:Row}:H.row (h++[.row r]) h.length=some r:=by unfold H.row;simp
theorem jl1{h:H}{o o':Nat}{b:Ob}(hne:o≠o'):H.row (h.set o b) o'=h.row o':=by
 unfold H.row;rw[List.getElem?_set_ne hne]
theorem tr3{h:H}{o:Nat}{r:Row}(ho:o<h.length):H.row (h.set o (.row r)) o=some r:=by
 unfold H.row;rw[List.getElem?_set_self ho]
theorem ym5{h h':H}{b:List Ob}(hp:h<+:h'):h<+:h'++b:=hp.trans (List.prefix_append _ _)
theorem wc3{h h':H}{o:Nat}{b:Ob}(hp:h<+:h')(ho:h.length≤o):h<+:h'.set o b:=by
 obtain⟨t,rfl⟩:=hp
 rw[List.set_append_right _ _ (by omega)]
 exact List.prefix_append _ _
theorem bt8{h h':H}(hp:h<+:h'):h.length≤h'.length:=hp.length_le
end Go.Am
namespace Go.Am
@[push_cast] theorem jc2{α:Type}(l:List α):(List.toArray l).toList=l:=rfl
@[push_cast] theorem y64{α:Type}(l:List α)(i:Nat):(List.toArray l)[i]? =l[i]? :=by simp
@[push_cast] theorem la5:(#[]:Array Value).isEmpty=true:=rfl
@[push_cast] theorem a38{α:Type}(l:List α):[]++l=l:=rfl
@[push_cast] theorem ni7{α:Type}(a:α)(l l':List α):(a::l)++l'=a::(l++l'):=rfl
@[push_cast] theorem getD_none{α:Type}(a:α):(none:Option α).getD a=a:=rfl
@[push_cast] theorem getD_some{α:Type}(a b:α):(some b:Option α).getD a=b:=rfl
@[push_cast] theorem oh7{α β:Type}(f:α→β)(b:α):(some b).map f=some (f b):=rfl
@[push_cast] theorem len_nil{α:Type}:([]:List α).length=0:=rfl
@[push_cast] theorem bm4{α:Type}(a:α)(l:List α):(a::l).length=l.length+1:=rfl
@[push_cast] theorem sv8{α:Type}(l:List α):(List.toArray l).size=l.length:=rfl
@[push_cast] theorem qc7(a:Nat):(a==a)=true:=beq_self_eq_true a
@[push_cast] theorem ra5(a:Nat):(a !=a)=false:=by simp
theorem ng1{h:H}{o:Nat}{r:Row}(hr:h.row o=some r)(off:Nat):h.ld1 o off=r.cells[off]? :=by unfold H.ld1;rw[hr]
theorem y56{h:H}{r:Row}{o off:Nat}(ho:o=h.length):H.ld1 (h++[.row r]) o off=r.cells[off]? :=by subst ho;unfold H.ld1;rw[cv8]
theorem rr6{h:H}{r:Row}{o:Nat}(ho:o=h.length):H.row (h++[.row r]) o=some r:=by subst ho;exact cv8
theorem m25{h:H}{o o' off:Nat}{b:Ob}(hne:o≠o'):H.ld1 (h.set o b) o' off=h.ld1 o' off:=by unfold H.ld1;rw[jl1 hne]
theorem wi2{h:H}{o:Nat}{b:Ob}:(h.set o b).length=h.length:=List.length_set
theorem rl9{h:H}{b:Ob}:(h++[b]).length=h.length+1:=by simp
theorem q89{h:H}{o:Nat}:(kill h o).length=h.length:=List.length_set
theorem zz6{h:H}{o o':Nat}(hne:o≠o'):H.row (kill h o) o'=h.row o':=jl1 hne
theorem uw3{h h':H}{o:Nat}(hp:h<+:h')(ho:h.length≤o):h<+:kill h' o:=wc3 hp ho
theorem ints_set{zs:List Int}{i:Nat}{v:Int}(hi:i<zs.length):hu1 (ints zs) i [.int .i64 v]=ints (zs.set i v):=by
 unfold hu1 ints
 have hl:i<(zs.map (Value.int .i64)).length:=by simpa using hi
 rw[List.map_set,List.set_eq_take_append_cons_drop,if_pos hl]
 simp
theorem l45{h:H}{o:Nat}{zs:List Int}{i v:Int}{e u:Nat}(hr:h.row o=some ⟨ints zs,e,u,true⟩)(h0:0≤i)(hi:i<zs.length):
 h.sts o i.toNat [.int .i64 v]=some (h.set o (.row ⟨ints (zs.set i.toNat v),e,u,true⟩)):=by
 unfold H.sts;rw[hr]
 simp only[Bool.true_and,List.length_cons,List.length_nil,iq5]
 rw[if_pos (by simp;omega),ints_set (by omega)]
theorem i59{h:H}{o:Nat}{zs:List Int}{i:Int}{e u:Nat}{b:Bool}(hr:h.row o=some ⟨ints zs,e,u,b⟩)(h0:0≤i)(hi:i<zs.length):
 h.ld1 o i.toNat=some (.int .i64 (gi zs i)):=by rw[ng1 hr];exact c17 h0 hi
theorem nz1{h:H}{o:Nat}{zs:List Int}{e u a n:Nat}{b:Bool}(hr:h.row o=some ⟨ints zs,e,u,b⟩)(hb:a+n≤zs.length):
 h.lds o a n=some (ints ((zs.drop a).take n)):=by
 unfold H.lds;rw[hr]
 simp only[iq5]
 rw[if_pos hb]
 unfold ints
 rw[List.map_take,List.map_drop]
theorem k78(n:Nat)(v:Int):rep [.int .i64 v] n=ints (List.replicate n v):=by
 induction n with
 |zero=>rfl
 |succ n ih=>simp[rep,ints,List.replicate_succ,ih]
theorem mz5(xs ys:List Int):ints xs++ints ys=ints (xs++ys):=by simp[ints]
def Grown(h:H)(sa:Option Addr)(c:Nat)(zs:List Int)(lo:Nat):Prop:=
 (sa=none∧c=0∧zs=[])∨ ∃o,sa=some ⟨o,0,none⟩∧lo≤o∧c=zs.length∧h.row o=some ⟨ints zs,3,1,true⟩
theorem Grown.app{h:H}{sa:Option Addr}{c lo:Nat}{zs ys:List Int}{x:Value}(hg:Grown h sa c zs lo)(hx: ∃a b d,x= .slice a b d∧b=ys.length)
 (hs:b38 h 1 ys.length x=some (ints ys)) (hy:ys≠[]) (hl:zs.length+ys.length≤1099511627776) (hlo:lo≤h.length):
 ∃sa' h',aapp 3 1 8 h (.slice sa zs.length c) x=some (.slice sa' (zs++ys).length (zs++ys).length,h')∧Grown h' sa' (zs++ys).length (zs++ys) lo∧h.length≤h'.length∧
  (∀o,o<lo→h'.row o=h.row o)∧(∀p:H,p.length≤lo→p<+:h→p<+:h'):=by
 obtain⟨a,b,d,rfl,rfl⟩:=hx
 have hyl:ys.length≠0:=fun e=>hy (List.length_eq_zero_iff.mp e)
 rcases hg with⟨rfl,rfl,rfl⟩|⟨o,rfl,ho,rfl,hr⟩
 ·refine⟨some ⟨h.length,0,none⟩,h++[.row ⟨ints ys,3,1,true⟩], ?_, .inr ⟨h.length,rfl,hlo,rfl, ?_⟩,by simp, ?_, ?_⟩
  ·unfold aapp aput;simp only[hs,List.length_nil,List.nil_append]
   rw[if_pos (by simp),if_neg hyl,if_pos (by simp[few]at*;omega)]
  ·simp only[List.nil_append];exact cv8
  ·intro o ho;exact z45 (by omega)
  ·intro p _ hp;exact ym5 hp
 ·have hol:=h44 hr
  refine⟨some ⟨h.length,0,none⟩,kill h o++[.row ⟨ints (zs++ys),3,1,true⟩], ?_, .inr ⟨h.length,rfl,by omega,rfl, ?_⟩,by simp[q89], ?_, ?_⟩
  ·unfold aapp aput;simp only[hs,hr]
   rw[if_pos (by simp[few,iq5]at*;omega)]
   simp only[List.drop_zero,Nat.mul_one,List.length_append]
   rw[List.take_of_length_le (by simp[iq5]),mz5]
  ·rw[show h.length=(kill h o).length from q89.symm];exact cv8
  ·intro o' ho';rw[z45 (by rw[q89];omega),zz6 (by omega)]
  ·intro p hpl hp;exact ym5 (uw3 hp (by omega))
theorem Grown.rd{h:H}{sa:Option Addr}{c lo:Nat}{zs:List Int}(hg:Grown h sa c zs lo):RdI h sa c zs:=by
 rcases hg with hn|⟨o,rfl,_,rfl,hr⟩
 ·exact .inl hn
 ·exact RdI.ofRow hr rfl
theorem Grown.carry{h h':H}{sa:Option Addr}{c lo:Nat}{zs:List Int}(hg:Grown h sa c zs lo)(hk: ∀o,lo≤o→o<h.length→h'.row o=h.row o):Grown h' sa c zs lo:=by
 rcases hg with hn|⟨o,h1,h2,h3,hr⟩
 ·exact .inl hn
 ·exact .inr ⟨o,h1,h2,h3,by rw[hk o h2 (h44 hr)];exact hr⟩
end Go.Am
