/-
  Two memories of the small machine that are the same but for the names of their objects, and for objects that one of them has besides: values, frames and rows. No condition. Two memories that are the s ..
-/
import Derived.Test.YtoglhlonhmmieaaK0
import Derived.Orders
import Derived.AtR
import Derived.RangeFuncRecord
set_option linter.unusedVariables false
set_option linter.unusedSimpArgs false
set_option linter.unusedSectionVars false
set_option maxRecDepth 100000
namespace Go.Am
def plain:Value→Bool
 | .pointer (some _)| .slice (some _) _ _| .func .. | .agg _| .tuple _=>false
 |_=>true
abbrev Rel:=Nat→Nat→Prop
inductive E (ρ:Rel) (n:Nat):Value→Value→Prop
 |atom (v:Value):plain v=true→E ρ n v v
 |ptr (o o2 off:Nat):ρ o o2→o<n→E ρ n (.pointer (some ⟨o,off,none⟩)) (.pointer (some ⟨o2,off,none⟩))
 |sl (o o2 off l c:Nat):ρ o o2→o<n→E ρ n (.slice (some ⟨o,off,none⟩) l c) (.slice (some ⟨o2,off,none⟩) l c)
 |func (f:FuncId) (cs cs2:Array Value):cs.size=cs2.size→(∀i (h:i<cs.size) (h':i<cs2.size),E ρ n cs[i] cs2[i])→E ρ n (.func (.func f) #[] cs) (.func (.func f) #[] cs2)
 |agg (cs cs2:Array Value):cs.size=cs2.size→(∀i (h:i<cs.size) (h':i<cs2.size),E ρ n cs[i] cs2[i])→E ρ n (.agg cs) (.agg cs2)
 |tuple (cs cs2:Array Value):cs.size=cs2.size→(∀i (h:i<cs.size) (h':i<cs2.size),E ρ n cs[i] cs2[i])→E ρ n (.tuple cs) (.tuple cs2)
theorem E.mono{ρ ρ':Rel}{n n':Nat}{v v2:Value}(h:E ρ n v v2)(hr: ∀o o2,o<n→ρ o o2→ρ' o o2∧o<n'):E ρ' n' v v2:=by
 induction h with
 |atom v hp=>exact .atom v hp
 |ptr o o2 off h1 h2=>exact .ptr o o2 off (hr _ _ h2 h1).1 (hr _ _ h2 h1).2
 |sl o o2 off l c h1 h2=>exact .sl o o2 off l c (hr _ _ h2 h1).1 (hr _ _ h2 h1).2
 |func f cs cs2 hs _ ih=>exact .func f cs cs2 hs ih
 |agg cs cs2 hs _ ih=>exact .agg cs cs2 hs ih
 |tuple cs cs2 hs _ ih=>exact .tuple cs cs2 hs ih
theorem E.comp{ρ σ τ:Rel}{n m k:Nat}{v v2 v3:Value}(h:E ρ n v v2)(h2:E σ m v2 v3)(hr: ∀o o2 o3,ρ o o2→o<n→σ o2 o3→o2<m→τ o o3∧o<k):E τ k v v3:=by
 induction h generalizing v3 with
 |atom v hp=>
  cases h2 with
  |atom _ _=>exact .atom v hp
  |ptr=>cases hp
  |sl=>cases hp
  |func=>cases hp
  |agg=>cases hp
  |tuple=>cases hp
 |ptr o o2 off h1 hn=>cases h2 with
  |ptr _ o3 _ h3 hm=>exact .ptr _ _ _ (hr _ _ _ h1 hn h3 hm).1 (hr _ _ _ h1 hn h3 hm).2
  |atom _ hp=>cases hp
 |sl o o2 off l c h1 hn=>cases h2 with
  |sl _ o3 _ _ _ h3 hm=>exact .sl _ _ _ _ _ (hr _ _ _ h1 hn h3 hm).1 (hr _ _ _ h1 hn h3 hm).2
  |atom _ hp=>cases hp
 |func f cs cs2 hs _ ih=>cases h2 with
  |func _ _ cs3 hs2 h4=>exact .func _ _ _ (hs.trans hs2) fun i h h'=>ih i h (by omega) (h4 i (by omega) h')
  |atom _ hp=>cases hp
 |agg cs cs2 hs _ ih=>cases h2 with
  |agg _ cs3 hs2 h4=>exact .agg _ _ (hs.trans hs2) fun i h h'=>ih i h (by omega) (h4 i (by omega) h')
  |atom _ hp=>cases hp
 |tuple cs cs2 hs _ ih=>cases h2 with
  |tuple _ cs3 hs2 h4=>exact .tuple _ _ (hs.trans hs2) fun i h h'=>ih i h (by omega) (h4 i (by omega) h')
  |atom _ hp=>cases hp
theorem E.eq{n:Nat}{v v2:Value}(h:E Eq n v v2):v=v2:=by
 have arr: ∀{cs cs2:Array Value},cs.size=cs2.size→(∀i (h:i<cs.size) (h':i<cs2.size),cs[i]=cs2[i])→cs=cs2:=fun hs ih=>Array.ext hs ih
 induction h with
 |atom v hp=>rfl
 |ptr o o2 off h1 hn=>cases h1;rfl
 |sl o o2 off l c h1 hn=>cases h1;rfl
 |func f cs cs2 hs _ ih=>rw[arr hs ih]
 |agg cs cs2 hs _ ih=>rw[arr hs ih]
 |tuple cs cs2 hs _ ih=>rw[arr hs ih]
theorem E.symm{ρ:Rel}{n m:Nat}{v v2:Value}(h:E ρ n v v2)(hr: ∀o o2,ρ o o2→o<n→o2<m):E (fun a b=>ρ b a) m v2 v:=by
 induction h with
 |atom v hp=>exact .atom v hp
 |ptr o o2 off h1 h2=>exact .ptr _ _ _ h1 (hr _ _ h1 h2)
 |sl o o2 off l c h1 h2=>exact .sl _ _ _ _ _ h1 (hr _ _ h1 h2)
 |func f cs cs2 hs _ ih=>exact .func _ _ _ hs.symm fun i h h'=>ih i h' h
 |agg cs cs2 hs _ ih=>exact .agg _ _ hs.symm fun i h h'=>ih i h' h
 |tuple cs cs2 hs _ ih=>exact .tuple _ _ hs.symm fun i h h'=>ih i h' h
def LE(ρ:Rel)(n:Nat)(l l2:List Value):Prop:=l.length=l2.length∧ ∀(i:Nat) (v:Value),l[i]? =some v→ ∃v2,l2[i]? =some v2∧E ρ n v v2
section
variable {ρ:Rel} {n:Nat}
theorem LE.nil:LE ρ n [] []:=⟨rfl,fun i v h=>by simp at h⟩
theorem LE.cons{v v2:Value}{l l2:List Value}(hv:E ρ n v v2)(hl:LE ρ n l l2):LE ρ n (v::l) (v2::l2):=by
 refine⟨by simp[hl.1],fun i u h=> ?_⟩
 cases i with
 |zero=>simp at h;subst h;exact⟨v2,rfl,hv⟩
 |succ i=>simpa using hl.2 i u (by simpa using h)
theorem LE.mono{ρ':Rel}{n':Nat}{l l2:List Value}(h:LE ρ n l l2)(hr: ∀o o2,o<n→ρ o o2→ρ' o o2∧o<n'):LE ρ' n' l l2:=
 ⟨h.1,fun i v hv=>let⟨v2,h1,h2⟩:=h.2 i v hv;⟨v2,h1,h2.mono hr⟩⟩
theorem LE.up{n':Nat}{l l2:List Value}(h:LE ρ n l l2)(hn:n≤n'):LE ρ n' l l2:=h.mono fun o o2 h1 h2=>⟨h2,by omega⟩
theorem LE.append{a a2 b b2:List Value}(ha:LE ρ n a a2)(hb:LE ρ n b b2):LE ρ n (a++b) (a2++b2):=by
 refine⟨by simp[ha.1,hb.1],fun i v h=> ?_⟩
 by_cases hi:i<a.length
 ·rw[List.getElem?_append_left hi]at h
  rw[List.getElem?_append_left (by rw[←ha.1];exact hi)]
  exact ha.2 i v h
 ·rw[List.getElem?_append_right (by omega)]at h
  rw[List.getElem?_append_right (by rw[←ha.1];omega),←ha.1]
  exact hb.2 _ v h
theorem LE.take{a a2:List Value}(ha:LE ρ n a a2)(k:Nat):LE ρ n (a.take k) (a2.take k):=by
 refine⟨by simp[ha.1],fun i v h=> ?_⟩
 rw[List.getElem?_take]at h⊢
 split at h
 ·rw[if_pos ‹_›];exact ha.2 i v h
 ·cases h
theorem LE.drop{a a2:List Value}(ha:LE ρ n a a2)(k:Nat):LE ρ n (a.drop k) (a2.drop k):=by
 refine⟨by simp[ha.1],fun i v h=> ?_⟩
 rw[List.getElem?_drop]at h⊢
 exact ha.2 _ v h
theorem LE.hu1{a a2 b b2:List Value}(ha:LE ρ n a a2)(hb:LE ρ n b b2)(off:Nat):LE ρ n (hu1 a off b) (hu1 a2 off b2):=by
 unfold Am.hu1
 rw[hb.1]
 exact((ha.take off).append hb).append (ha.drop _)
theorem LE.of_arrays{cs cs2:Array Value}(hs:cs.size=cs2.size)(h: ∀i (h:i<cs.size) (h':i<cs2.size),E ρ n cs[i] cs2[i]):LE ρ n cs.toList cs2.toList:=by
 refine⟨by simpa using hs,fun i v hv=> ?_⟩
 rw[Array.getElem?_toList]at hv⊢
 obtain⟨hi,he⟩:=Array.getElem?_eq_some_iff.1 hv
 exact⟨cs2[i]'(by omega),by simp[hs▸hi],he▸h i hi (by omega)⟩
theorem LE.arrays{l l2:List Value}(h:LE ρ n l l2): ∀i (h:i<l.toArray.size) (h':i<l2.toArray.size),E ρ n l.toArray[i] l2.toArray[i]:=by
 intro i h1 h2
 obtain⟨v',h3,h4⟩:=h.2 i l[i] (by simp[List.getElem?_eq_getElem (show i<l.length by simpa using h1)])
 simp at h1 h2⊢
 rw[List.getElem?_eq_getElem h2]at h3
 simp at h3
 rw[h3];exact h4
theorem LE.agg{l l2:List Value}(h:LE ρ n l l2):E ρ n (.agg l.toArray) (.agg l2.toArray):= .agg _ _ (by simpa using h.1) h.arrays
theorem LE.tuple{l l2:List Value}(h:LE ρ n l l2):E ρ n (.tuple l.toArray) (.tuple l2.toArray):= .tuple _ _ (by simpa using h.1) h.arrays
theorem LE.func{l l2:List Value}(f:FuncId)(h:LE ρ n l l2):E ρ n (.func (.func f) #[] l.toArray) (.func (.func f) #[] l2.toArray):= .func _ _ _ (by simpa using h.1) h.arrays
theorem LE.none{l l2:List Value}(h:LE ρ n l l2){i:Nat}(hi:l[i]? =Option.none):l2[i]? =Option.none:=by
 rw[List.getElem?_eq_none_iff]at hi⊢;rw[←h.1];exact hi
theorem LE.comp{σ τ:Rel}{m k:Nat}{l l2 l3:List Value}(h:LE ρ n l l2)(h2:LE σ m l2 l3)(hr: ∀o o2 o3,ρ o o2→o<n→σ o2 o3→o2<m→τ o o3∧o<k):LE τ k l l3:=
 ⟨h.1.trans h2.1,fun i v hv=>let⟨v2,h3,h4⟩:=h.2 i v hv;let⟨v3,h5,h6⟩:=h2.2 i v2 h3;⟨v3,h5,h4.comp h6 hr⟩⟩
theorem LE.symm{m:Nat}{l l2:List Value}(h:LE ρ n l l2)(hr: ∀o o2,ρ o o2→o<n→o2<m):LE (fun a b=>ρ b a) m l2 l:=
 ⟨h.1.symm,fun i v hv=>by
   have hi:i<l.length:=by rw[h.1];exact(List.getElem?_eq_some_iff.1 hv).1
   obtain⟨v2,h1,h2⟩:=h.2 i l[i] (List.getElem?_eq_getElem hi)
   rw[hv]at h1;cases h1
   exact⟨_,List.getElem?_eq_getElem hi,h2.symm hr⟩⟩
theorem LE.eq{l l2:List Value}(h:LE Eq n l l2):l=l2:=by
 refine List.ext_getElem? fun i=> ?_
 cases hl:l[i]? with
 |none=>rw[h.none hl]
 |some v=>obtain⟨v2,h1,h2⟩:=h.2 i v hl;rw[h1,h2.eq]
theorem E.pl{v v2:Value}(h:E ρ n v v2)(hp:plain v=true):v2=v:=by
 cases h<;>first|rfl|cases hp
theorem E.int{k:IntKind}{i:Int}{v2:Value}(h:E ρ n (.int k i) v2):v2= .int k i:=h.pl rfl
theorem E.bool{b:Bool}{v2:Value}(h:E ρ n (.bool b) v2):v2= .bool b:=h.pl rfl
theorem E.str{b:ByteArray}{v2:Value}(h:E ρ n (.string b) v2):v2= .string b:=h.pl rfl
theorem E.bq1{a:Addr}{v2:Value}(h:E ρ n (.pointer (some a)) v2): ∃o2,a.spot=none∧ρ a.block o2∧a.block<n∧v2= .pointer (some ⟨o2,a.off,none⟩):=by
 cases h with
 |ptr o o2 off h1 h2=>exact⟨o2,rfl,h1,h2,rfl⟩
 |atom _ hp=>cases hp
theorem E.wy5{a:Addr}{l c:Nat}{v2:Value}(h:E ρ n (.slice (some a) l c) v2): ∃o2,a.spot=none∧ρ a.block o2∧a.block<n∧v2= .slice (some ⟨o2,a.off,none⟩) l c:=by
 cases h with
 |sl o o2 off l c h1 h2=>exact⟨o2,rfl,h1,h2,rfl⟩
 |atom _ hp=>cases hp
theorem E.lg1{cs:Array Value}{v2:Value}(h:E ρ n (.agg cs) v2): ∃cs2,v2= .agg cs2∧LE ρ n cs.toList cs2.toList:=by
 cases h with
 |agg _ cs2 hs hh=>exact⟨cs2,rfl,LE.of_arrays hs hh⟩
 |atom _ hp=>cases hp
theorem E.da1{cs:Array Value}{v2:Value}(h:E ρ n (.tuple cs) v2): ∃cs2,v2= .tuple cs2∧LE ρ n cs.toList cs2.toList:=by
 cases h with
 |tuple _ cs2 hs hh=>exact⟨cs2,rfl,LE.of_arrays hs hh⟩
 |atom _ hp=>cases hp
theorem E.func_inv{c:Fn}{first cs:Array Value}{v2:Value}(h:E ρ n (.func c first cs) v2): ∃f cs2,c= .func f∧first= #[]∧v2= .func (.func f) #[] cs2∧LE ρ n cs.toList cs2.toList:=by
 cases h with
 |func f _ cs2 hs hh=>exact⟨f,cs2,rfl,rfl,rfl,LE.of_arrays hs hh⟩
 |atom _ hp=>cases hp
theorem E.cells{v v2:Value}(h:E ρ n v v2):LE ρ n v.cells.toList v2.cells.toList:=by
 cases h with
 |agg cs cs2 hs hh=>exact LE.of_arrays hs hh
 |atom v hp=>
  cases v<;>first|(cases hp;done)|exact LE.cons (.atom _ hp) LE.nil
 |ptr o o2 off h1 h2=>exact LE.cons (.ptr _ _ _ h1 h2) LE.nil
 |sl o o2 off l c h1 h2=>exact LE.cons (.sl _ _ _ _ _ h1 h2) LE.nil
 |func f cs cs2 hs hh=>exact LE.cons (.func _ _ _ hs hh) LE.nil
 |tuple cs cs2 hs hh=>exact LE.cons (.tuple _ _ hs hh) LE.nil
theorem E.cells_size{v v2:Value}(h:E ρ n v v2):v2.cells.size=v.cells.size:=by have:=h.cells.1;simpa using this.symm
theorem E.flat{v v2:Value}(h:E ρ n v v2):flat v2=flat v:=by cases h<;>rfl
theorem gk5{v:Value}(h:tc5 v=true):E ρ n v v:=by
 unfold tc5 at h
 split at h<;>first|(cases h;done)|exact .atom _ rfl
theorem ni8{v:Value}(h:closed v=true):E ρ n v v:=by
 unfold closed at h
 split at h
 ·rename_i cs
  rw[Array.all_eq_true]at h
  exact .agg cs cs rfl fun i hi _=>gk5 (h i hi)
 ·rename_i cs
  rw[Array.all_eq_true]at h
  exact .tuple cs cs rfl fun i hi _=>gk5 (h i hi)
 ·exact gk5 h
theorem LE.rep{l l2:List Value}(h:LE ρ n l l2): ∀k,LE ρ n (rep l k) (rep l2 k)
 |0=>LE.nil
 |k+1=>h.append (LE.rep h k)
end
end Go.Am
namespace Go.Am
def OE(ρ:Rel)(n:Nat):Option Ob→Option Ob→Prop
 |none,none=>True
 |some .dead,some .dead=>True
 |some (.row r),some (.row r2)=>r.elem=r2.elem∧r.unit=r2.unit∧r.own=r2.own∧LE ρ n r.cells r2.cells
 |_,_=>False
theorem OE.mono{ρ ρ':Rel}{n n':Nat}{a b:Option Ob}(h:OE ρ n a b)(hr: ∀o o2,o<n→ρ o o2→ρ' o o2∧o<n'):OE ρ' n' a b:=by
 unfold OE at h⊢
 split at h
 ·trivial
 ·trivial
 ·exact⟨h.1,h.2.1,h.2.2.1,h.2.2.2.mono hr⟩
 ·cases h
theorem OE.comp{ρ σ τ:Rel}{n m k:Nat}{a b c:Option Ob}(h:OE ρ n a b)(h2:OE σ m b c)(hr: ∀o o2 o3,ρ o o2→o<n→σ o2 o3→o2<m→τ o o3∧o<k):OE τ k a c:=by
 unfold OE at h
 split at h
 ·cases c with
  |none=>trivial
  |some c=>cases c<;>cases h2
 ·cases c with
  |none=>cases h2
  |some c=>cases c with
   |dead=>trivial
   |row _=>cases h2
 ·cases c with
  |none=>cases h2
  |some c=>cases c with
   |dead=>cases h2
   |row _=>exact⟨h.1.trans h2.1,h.2.1.trans h2.2.1,h.2.2.1.trans h2.2.2.1,h.2.2.2.comp h2.2.2.2 hr⟩
 ·cases h
theorem OE.symm{ρ:Rel}{n m:Nat}{a b:Option Ob}(h:OE ρ n a b)(hr: ∀o o2,ρ o o2→o<n→o2<m):OE (fun x y=>ρ y x) m b a:=by
 unfold OE at h
 split at h
 ·trivial
 ·trivial
 ·exact⟨h.1.symm,h.2.1.symm,h.2.2.1.symm,h.2.2.2.symm hr⟩
 ·cases h
theorem OE.eq{n:Nat}{a b:Option Ob}(h:OE Eq n a b):a=b:=by
 unfold OE at h
 split at h
 ·rfl
 ·rfl
 ·rename_i r r2
  obtain⟨h1,h2,h3,h4⟩:=h
  have:=h4.eq
  cases r;cases r2;simp_all
 ·cases h
structure ME (ρ:Rel) (h h2:H):Prop where
 uni: ∀o o2 p p2,ρ o o2→ρ p p2→(o=p↔o2=p2)
 new: ∀j,ρ (h.length+j) (h2.length+j)
 get: ∀o o2,ρ o o2→OE ρ h.length h[o]? h2[o2]?
structure Post (ρ:Rel) (h h' h2 h2':H):Prop where
 me:ME ρ h' h2'
 more: ∃m,h'.length=h.length+m∧h2'.length=h2.length+m
 keep: ∀o,o<h.length→(∀o2,¬ρ o o2)→h'[o]? =h[o]?
 keep2: ∀o2,o2<h2.length→(∀o,¬ρ o o2)→h2'[o2]? =h2[o2]?
section
variable {ρ:Rel} {h h2 h' h2':H}
theorem ME.lt(hm:ME ρ h h2){o o2:Nat}(hr:ρ o o2)(ho:o<h.length):o2<h2.length:=by
 by_cases hlt:o2<h2.length
 ·exact hlt
 ·have:=(hm.uni _ _ _ _ hr (hm.new (o2-h2.length))).2 (by omega)
  omega
theorem ME.lt'(hm:ME ρ h h2){o o2:Nat}(hr:ρ o o2)(ho:o2<h2.length):o<h.length:=by
 by_cases hlt:o<h.length
 ·exact hlt
 ·have:=(hm.uni _ _ _ _ hr (hm.new (o-h.length))).1 (by omega)
  omega
theorem ME.row(hm:ME ρ h h2){o o2:Nat}(hr:ρ o o2){r:Row}(h1:h.row o=some r): ∃r2,h2.row o2=some r2∧r2.elem=r.elem∧r2.unit=r.unit∧r2.own=r.own∧LE ρ h.length r.cells r2.cells:=by
 have hg:=hm.get _ _ hr
 unfold H.row at h1
 split at h1
 ·rename_i r' he
  cases h1
  rw[he]at hg
  cases hh:h2[o2]? with
  |none=>rw[hh]at hg;cases hg
  |some b=>rw[hh]at hg;cases b with
   |dead=>cases hg
   |row r2=>exact⟨r2,by unfold H.row;rw[hh],hg.1.symm,hg.2.1.symm,hg.2.2.1.symm,hg.2.2.2⟩
 ·cases h1
theorem Post.refl(hm:ME ρ h h2):Post ρ h h h2 h2:=⟨hm,⟨0,rfl,rfl⟩,fun _ _ _=>rfl,fun _ _ _=>rfl⟩
theorem Post.trans{h'' h2'':H}(a:Post ρ h h' h2 h2')(b:Post ρ h' h'' h2' h2''):Post ρ h h'' h2 h2'':=by
 obtain⟨m,m1,m2⟩:=a.more
 obtain⟨k,k1,k2⟩:=b.more
 exact⟨b.me,⟨m+k,by omega,by omega⟩,fun o ho hn=>(b.keep o (by omega) hn).trans (a.keep o ho hn),fun o ho hn=>(b.keep2 o (by omega) hn).trans (a.keep2 o ho hn)⟩
theorem Post.len(a:Post ρ h h' h2 h2'):h.length≤h'.length:=by obtain⟨m,m1,_⟩:=a.more;omega
theorem Post.len2(a:Post ρ h h' h2 h2'):h2.length≤h2'.length:=by obtain⟨m,_,m1⟩:=a.more;omega
theorem Post.pre(hm:ME ρ h h2)(a:Post ρ h h' h2 h2')(hp:h<+:h'):h2<+:h2':=by
 rw[List.prefix_iff_getElem?]
 intro k hk
 have hl2:=a.len2
 by_cases hc: ∃o,ρ o k
 ·obtain⟨o,ho⟩:=hc
  have hol:=hm.lt' ho hk
  obtain⟨t,rfl⟩:=hp
  have g1:=hm.get _ _ ho
  have g2:=a.me.get _ _ ho
  rw[List.getElem?_append_left hol]at g2
  have hlt: ∀x y,ρ x y→x<h.length→y<h2.length:=fun x y h1 h2=>hm.lt h1 h2
  have:=(g1.symm (m:=h2.length) hlt).comp (τ:=Eq) (k:=h2.length) g2 (fun x y z h1 h3 h4 h5=>⟨(a.me.uni _ _ _ _ h1 h4).1 rfl,h3⟩)
  rw[←this.eq,List.getElem?_eq_getElem hk]
 ·rw[a.keep2 k hk (fun o ho=>hc ⟨o,ho⟩),List.getElem?_eq_getElem hk]
theorem ME.push(hm:ME ρ h h2){r r2:Row}(h1:r.elem=r2.elem)(h3:r.unit=r2.unit)(h4:r.own=r2.own)(hc:LE ρ h.length r.cells r2.cells):Post ρ h (h++[.row r]) h2 (h2++[.row r2]):=by
 refine⟨⟨hm.uni,fun j=> ?_,fun o o2 ho=> ?_⟩,⟨1,by simp,by simp⟩,fun o ho _=>List.getElem?_append_left ho,fun o ho _=>List.getElem?_append_left ho⟩
 ·have:=hm.new (j+1)
  simp only[List.length_append,List.length_cons,List.length_nil]
  rw[show h.length+(0+1)+j=h.length+(j+1) by omega,show h2.length+(0+1)+j=h2.length+(j+1) by omega]
  exact this
 ·have hup: ∀{a b},OE ρ h.length a b→OE ρ (h++[Ob.row r]).length a b:=fun h=>h.mono fun _ _ h1 h2=>⟨h2,by simp;omega⟩
  by_cases hol:o<h.length
  ·have:=hm.lt ho hol
   rw[List.getElem?_append_left hol,List.getElem?_append_left this]
   exact hup (hm.get _ _ ho)
  ·have he:=(hm.uni _ _ _ _ ho (hm.new (o-h.length))).1 (by omega)
   rw[he,List.getElem?_append_right (by omega),List.getElem?_append_right (by omega),Nat.add_sub_cancel_left]
   cases hk:o-h.length with
   |zero=>exact hup ⟨h1,h3,h4,hc⟩
   |succ k=>simp[OE]
theorem ME.push'(hm:ME ρ h h2){cs cs2:List Value}{e u:Nat}{o:Bool}(hc:LE ρ h.length cs cs2):Post ρ h (h++[.row ⟨cs,e,u,o⟩]) h2 (h2++[.row ⟨cs2,e,u,o⟩]):=hm.push rfl rfl rfl hc
theorem ME.set(hm:ME ρ h h2){o o2:Nat}(ho:ρ o o2){b b2:Ob}(hb:OE ρ h.length (some b) (some b2)):Post ρ h (h.set o b) h2 (h2.set o2 b2):=by
 refine⟨⟨hm.uni,fun j=>by simpa using hm.new j,fun p p2 hp=> ?_⟩,⟨0,by simp,by simp⟩,fun p hp hn=> ?_,fun p hp hn=> ?_⟩
 ·rw[List.length_set,List.getElem?_set,List.getElem?_set]
  by_cases he:o=p
  ·have he2:=(hm.uni _ _ _ _ ho hp).1 he
   subst he;subst he2
   by_cases hl:o<h.length
   ·have:=hm.lt ho hl
    simp only[hl,this,if_true];exact hb
   ·have: ¬o2<h2.length:=fun h=>hl (hm.lt' ho h)
    simp only[hl,this,if_true,if_false];trivial
  ·rw[if_neg he,if_neg fun e=>he ((hm.uni _ _ _ _ ho hp).2 e)]
   exact hm.get _ _ hp
 ·rw[List.getElem?_set_ne];rintro rfl;exact hn _ ho
 ·rw[List.getElem?_set_ne];rintro rfl;exact hn _ ho
theorem ME.kill(hm:ME ρ h h2){o o2:Nat}(ho:ρ o o2):Post ρ h (Go.Am.kill h o) h2 (Go.Am.kill h2 o2):=hm.set ho trivial
theorem ME.ld1(hm:ME ρ h h2){o o2 off:Nat}(ho:ρ o o2){v:Value}(hl:h.ld1 o off=some v): ∃v2,h2.ld1 o2 off=some v2∧E ρ h.length v v2:=by
 unfold H.ld1 at hl⊢
 split at hl
 ·rename_i r hr
  obtain⟨r2,h1,_,_,_,h5⟩:=hm.row ho hr
  rw[h1];exact h5.2 _ _ hl
 ·cases hl
theorem ME.lds(hm:ME ρ h h2){o o2 off n:Nat}(ho:ρ o o2){vs:List Value}(hl:h.lds o off n=some vs): ∃vs2,h2.lds o2 off n=some vs2∧LE ρ h.length vs vs2:=by
 unfold H.lds at hl⊢
 split at hl
 ·rename_i r hr
  obtain⟨r2,h1,_,_,_,h5⟩:=hm.row ho hr
  rw[h1]
  split at hl
  ·rename_i hn
   cases hl
   exact⟨_,if_pos (by rw[←h5.1];exact hn),(h5.drop _).take _⟩
  ·cases hl
 ·cases hl
theorem ME.sts(hm:ME ρ h h2){o o2 off:Nat}(ho:ρ o o2){vs vs2:List Value}(hv:LE ρ h.length vs vs2)(hs:h.sts o off vs=some h'): ∃h2',h2.sts o2 off vs2=some h2'∧Post ρ h h' h2 h2':=by
 unfold H.sts at hs⊢
 split at hs
 ·rename_i r hr
  obtain⟨r2,h1,h3,h4,h5,h6⟩:=hm.row ho hr
  rw[h1]
  split at hs
  ·rename_i hn
   cases hs
   refine⟨_,if_pos (by rw[←h6.1,←hv.1,h5];exact hn),hm.set ho ⟨h3.symm,h4.symm,h5.symm,h6.hu1 hv _⟩⟩
  ·cases hs
 ·cases hs
theorem ME.src(hm:ME ρ h h2){size n:Nat}{x x2:Value}(hx:E ρ h.length x x2){vs:List Value}(hs:b38 h size n x=some vs): ∃vs2,b38 h2 size n x2=some vs2∧LE ρ h.length vs vs2:=by
 unfold b38 at hs
 split at hs
 ·rename_i a l c
  cases a with
  |none=>
   rw[hx.pl rfl]
   unfold b38
   simp only at hs⊢
   split at hs
   ·cases hs;exact⟨[],by rw[if_pos ‹_›],LE.nil⟩
   ·split at hs<;>cases hs
  |some a=>
   obtain⟨o2,q1,q2,q3,rfl⟩:=hx.wy5
   unfold b38
   simp only at hs⊢
   split at hs
   ·cases hs;exact⟨[],by rw[if_pos ‹_›],LE.nil⟩
   ·rw[if_neg ‹_›]
    split at hs
    ·rw[if_pos ‹_›]
     split at hs
     ·obtain⟨vs2,k1,k2⟩:=hm.lds q2 hs
      exact⟨vs2,by simp[k1],k2⟩
     ·cases hs
    ·cases hs
 ·cases hs
def OVE(ρ:Rel)(n:Nat):Option Value→Option Value→Prop
 |none,none=>True
 |some v,some v2=>E ρ n v v2
 |_,_=>False
def FE(ρ:Rel)(n:Nat)(fr fr2:Fr):Prop:= ∀t v,fr t=some v→ ∃v2,fr2 t=some v2∧E ρ n v v2
variable {fr fr2:Fr}
theorem FE.mono{ρ':Rel}{n n':Nat}(hF:FE ρ n fr fr2)(hr: ∀o o2,o<n→ρ o o2→ρ' o o2∧o<n'):FE ρ' n' fr fr2:=fun t v hv=>let⟨v2,h1,h2⟩:=hF t v hv;⟨v2,h1,h2.mono hr⟩
theorem FE.up{n n':Nat}(hF:FE ρ n fr fr2)(hn:n≤n'):FE ρ n' fr fr2:=hF.mono fun _ _ h1 h2=>⟨h2,by omega⟩
theorem FE.put{n:Nat}(hF:FE ρ n fr fr2)(d:Option Nat){v v2:Option Value}(hv:OVE ρ n v v2):FE ρ n (fr.put d v) (fr2.put d v2):=by
 intro t u hu
 cases d with
 |none=>exact hF t u hu
 |some s=>
  cases v with
  |none=>
   cases v2 with
   |none=>
    simp only[Fr.put,Fr.del]at hu⊢
    cases hb:Nat.beq t s with
    |true=>rw[hb]at hu;cases hu
    |false=>rw[hb]at hu;exact hF t u hu
   |some _=>cases hv
  |some v=>
   cases v2 with
   |none=>cases hv
   |some v2=>
    simp only[Fr.put,Fr.set]at hu⊢
    cases hb:Nat.beq t s with
    |true=>rw[hb]at hu;cases hu;exact⟨v2,rfl,hv⟩
    |false=>rw[hb]at hu;exact hF t u hu
theorem sq7{n:Nat}(hF:FE ρ n fr fr2){x:Operand}{v:Value}(hx:ev fr x=some v): ∃v2,ev fr2 x=some v2∧E ρ n v v2:=by
 cases x with
 |tmp t=>exact hF t v hx
 |const c=>
  simp only[ev]at hx⊢
  split at hx
  ·rename_i hcl;cases hx;exact⟨v,by rw[if_pos hcl],ni8 hcl⟩
  ·cases hx
 |global g=>cases hx
 |func f=>cases hx;exact⟨_,rfl, .func f #[] #[] rfl (fun i h _=>by simp at h)⟩
theorem ce4{n:Nat}(hF:FE ρ n fr fr2): ∀{xs:List Operand} {vs:List Value},evs fr xs=some vs→ ∃vs2,evs fr2 xs=some vs2∧LE ρ n vs vs2
 | [],vs,hx=>by cases hx;exact⟨[],rfl,LE.nil⟩
 |x::xs,vs,hx=>by
  simp only[evs]at hx
  split at hx
  ·rename_i v vs' h1 h2
   cases hx
   obtain⟨v2,e1,e2⟩:=sq7 hF h1
   obtain⟨vs2,e3,e4⟩:=ce4 hF h2
   exact⟨v2::vs2,by simp[evs,e1,e3],LE.cons e2 e4⟩
  ·cases hx
theorem dp7{n:Nat}(hF:FE ρ n fr fr2){x:Option Operand}{r:Option Int}(hx:evo fr x=some r):evo fr2 x=some r:=by
 cases x with
 |none=>exact hx
 |some x=>
  simp only[evo]at hx⊢
  split at hx
  ·rename_i v hv
   obtain⟨v2,e1,e2⟩:=sq7 hF hv
   rw[e1]
   split at hx
   ·rename_i i hi
    cases hx
    cases v<;>first|(cases hi;done)|skip
    rw[e2.int];cases hi;rfl
   ·cases hx
  ·cases hx
def LPE(ρ:Rel)(n:Nat):List (Nat×Value)→List (Nat×Value)→Prop
 | [],[]=>True
 |(i,v)::l,(j,v2)::l2=>i=j∧E ρ n v v2∧LPE ρ n l l2
 |_,_=>False
theorem gg5{n:Nat}(hF:FE ρ n fr fr2): ∀{xs:List (Nat×Operand)} {vs:List (Nat×Value)},evp fr xs=some vs→ ∃vs2,evp fr2 xs=some vs2∧LPE ρ n vs vs2
 | [],vs,hx=>by cases hx;exact⟨[],rfl,trivial⟩
 |(i,x)::xs,vs,hx=>by
  simp only[evp]at hx
  split at hx
  ·rename_i v vs' h1 h2
   cases hx
   obtain⟨v2,e1,e2⟩:=sq7 hF h1
   obtain⟨vs2,e3,e4⟩:=gg5 hF h2
   exact⟨(i,v2)::vs2,by simp[evp,e1,e3],rfl,e2,e4⟩
  ·cases hx
theorem s94{n:Nat}{pl:Nat→Option (Nat×Nat)}: ∀{vs vs2:List (Nat×Value)} {cs cs2 out:List Value},LPE ρ n vs vs2→LE ρ n cs cs2→ah0 pl cs vs=some out→ ∃out2,ah0 pl cs2 vs2=some out2∧LE ρ n out out2
 | [],[],cs,cs2,out,_,hc,he=>by cases he;exact⟨cs2,rfl,hc⟩
 | [],_::_,_,_,_,hl,_,_=>by cases hl
 |_::_,[],_,_,_,hl,_,_=>by simp[LPE]at hl
 |(i,v)::vs,(j,v2)::vs2,cs,cs2,out,hl,hc,he=>by
  simp only[LPE]at hl
  obtain⟨rfl,h1,h2⟩:=hl
  simp only[ah0]at he⊢
  split at he
  ·cases he
  ·rename_i off size hp
   rw[h1.cells_size,h1.flat,←hc.1]
   split at he
   ·cases he
   ·rename_i hcond
    rw[if_neg hcond]
    exact s94 h2 (hc.hu1 h1.cells off) he
end
end Go.Am
namespace Go.Am
theorem xt8{op:BinOp}{a b v:Value}(h:abin op a b=some v):plain a=true∧plain b=true∧plain v=true:=by
 unfold abin at h
 split at h
 ·refine⟨rfl,rfl, ?_⟩
  split at h
  ·unfold th5 at h;split at h<;>first|(cases h;done)|(cases h;rfl)
  ·unfold th5 at h;split at h<;>first|(cases h;done)|(cases h;rfl)
  ·split at h
   ·unfold aint at h
    split at h<;>first|(cases h;done)|(cases h;rfl)|(split at h<;>first|(cases h;done)|(cases h;rfl))
   ·cases h
 ·refine⟨rfl,rfl, ?_⟩
  unfold astr at h
  split at h<;>first|(cases h;done)|(cases h;rfl)|(split at h<;>first|(cases h;done)|(cases h;rfl))
 ·cases h
theorem xf6{op:UnOp}{a v:Value}(h:aun op a=some v):plain a=true∧plain v=true:=by
 unfold aun at h
 split at h<;>first|(cases h;done)|(cases h;exact⟨rfl,rfl⟩)
theorem as8{ρ:Rel}{n k:Nat}{v v2:Value}{b:Bool}(hv:E ρ n v v2)(h:anil k v=some b):anil k v2=some b:=by
 unfold anil at h⊢
 cases hv<;>(split at h<;>first|(cases h;done)|(simp_all;done)|(rename_i heq;cases heq;simpa using h)|(rename_i heq;obtain⟨h1,h2,h3⟩:=heq;cases h1;simpa using h))
theorem y96{ρ:Rel}{n:Nat}{k:IntKind}: ∀{vs vs2:List Value} {l:List Int},LE ρ n vs vs2→ho0 k vs=some l→vs2=vs
 | [],vs2,l,hl,_=>List.length_eq_zero_iff.1 hl.1.symm
 |v::vs,vs2,l,hl,h=>by
  cases v<;>simp only[ho0]at h<;>first|(cases h;done)|skip
  split at h
  ·split at h
   ·rename_i l' hl'
    cases vs2 with
    |nil=>have:=hl.1;simp at this
    |cons u us=>
     obtain⟨u',h1,h2⟩:=hl.2 0 _ rfl
     simp at h1;subst h1
     have:=y96 (vs:=vs) (vs2:=us) ⟨by have:=hl.1;simpa using this,fun i v hv=>by simpa using hl.2 (i+1) v (by simpa using hv)⟩ hl'
     rw[h2.int,this]
   ·cases h
  ·cases h
theorem n41{ρ:Rel}{n size:Nat}: ∀{vs vs2:List Value},LE ρ n vs vs2→sized size vs2=sized size vs∧LE ρ n (cat vs) (cat vs2)
 | [],vs2,hl=>by rw[List.length_eq_zero_iff.1 hl.1.symm];exact⟨rfl,LE.nil⟩
 |v::vs,[],hl=>by have:=hl.1;simp at this
 |v::vs,u::us,hl=>by
  obtain⟨u',h1,h2⟩:=hl.2 0 _ rfl
  simp at h1;subst h1
  obtain⟨h3,h4⟩:=n41 (size:=size) (vs:=vs) (vs2:=us) ⟨by have:=hl.1;simpa using this,fun i v hv=>by simpa using hl.2 (i+1) v (by simpa using hv)⟩
  exact⟨by simp only[sized];rw[h2.cells_size,h2.flat,h3],h2.cells.append h4⟩
theorem LE.self{ρ:Rel}{n:Nat}{l:List Value}(h:l.all tc5=true):LE ρ n l l:=by
 rw[List.all_eq_true]at h
 exact⟨rfl,fun i v hv=>⟨v,hv,gk5 (h v (List.mem_of_getElem? hv))⟩⟩
theorem pn3{l:Array Value}{a b:Nat}:(l.extract a b)=((l.toList.drop a).take (b-a)).toArray:=by
 apply Array.toList_inj.1
 simp only[Array.toList_extract,List.extract_eq_take_drop]
section
variable {ρ:Rel} {h h2 h' h2':H} {fr fr2:Fr}
theorem lk4(hm:ME ρ h h2){size l c:Nat}{a:Addr}{o2:Nat}(hr:ρ a.block o2)(hu:ss4 h size (some a)=true):ss4 h2 size (some ⟨o2,a.off,none⟩)=true:=by
 unfold ss4 at hu⊢
 simp only at hu⊢
 split at hu
 ·rename_i r hrow
  obtain⟨r2,h1,_,h3,h4,_⟩:=hm.row hr hrow
  rw[h1];simp only[h3,h4];exact hu
 ·cases hu
theorem y95(hm:ME ρ h h2){elem:TypeId}{size bytes n c m:Nat}{sa:Option Addr}{news news2:List Value}{s2 v:Value}(hs:E ρ h.length (.slice sa n c) s2)(k2:LE ρ h.length news news2)(ha:aput elem size bytes h sa n c m news=some (v,h')):
 ∃sa2 v2 h2',s2= .slice sa2 n c∧aput elem size bytes h2 sa2 n c m news2=some (v2,h2')∧E ρ h'.length v v2∧Post ρ h h' h2 h2':=by
 unfold aput at ha
 split at ha
 ·--onto nothing
  have:=hs.pl rfl
  subst this
  unfold aput
  split at ha
  ·rename_i h0
   rw[if_pos h0]
   split at ha
   ·cases ha;rw[if_pos ‹_›]
    exact⟨_,_,_,rfl,rfl, .atom _ rfl, .refl hm⟩
   ·rw[if_neg ‹_›]
    split at ha
    ·cases ha
     rw[if_pos ‹_›]
     refine⟨_,_,_,rfl,rfl, .sl _ _ _ _ _ ?_ (by simp),hm.push rfl rfl rfl k2⟩
     have:=hm.new 0;simpa using this
    ·cases ha
  ·cases ha
 ·--onto a row
  rename_i a
  obtain⟨o2,q1,q2,q3,rfl⟩:=hs.wy5
  unfold aput
  split at ha
  ·rename_i r hr
   obtain⟨r2,e1,e2,e3,e4,e5⟩:=hm.row q2 hr
   split at ha
   ·rename_i hc
    cases ha
    have hk:=hm.kill q2
    have hp:=hk.me.push (r:=⟨(r.cells.drop a.off).take (n*size)++news,elem,size,true⟩) (r2:=⟨(r2.cells.drop a.off).take (n*size)++news2,elem,size,true⟩) rfl rfl rfl
     ((((e5.drop _).take _).append k2).up (by simp[kill]))
    refine⟨some ⟨o2,a.off,none⟩, .slice (some ⟨h2.length,0,none⟩) (n+m) (n+m),kill h2 o2++[.row ⟨(r2.cells.drop a.off).take (n*size)++news2,elem,size,true⟩],rfl, ?_, .sl _ _ _ _ _ ?_ (by simp[kill]),hk.trans hp⟩
    ·simp only[e1]
     rw[if_pos (by rw[e2,e3,e4,←e5.1];simp only[q1]at hc;exact hc)]
    have:=hm.new 0;simpa using this
   ·cases ha
  ·cases ha
theorem y28(hm:ME ρ h h2){elem:TypeId}{size bytes:Nat}{s x s2 x2 v:Value}(hs:E ρ h.length s s2)(hx:E ρ h.length x x2)(ha:aapp elem size bytes h s x=some (v,h')):
 ∃v2 h2',aapp elem size bytes h2 s2 x2=some (v2,h2')∧E ρ h'.length v v2∧Post ρ h h' h2 h2':=by
 unfold aapp at ha
 split at ha
 ·rename_i sa n c b m d
  split at ha
  ·rename_i news hnews
   obtain⟨news2,k1,k2⟩:=hm.src hx hnews
   obtain⟨b2,rfl⟩: ∃b2,x2= .slice b2 m d:=by
    cases b with
    |none=>exact⟨none,hx.pl rfl⟩
    |some b=>obtain⟨_,_,_,_,rfl⟩:=hx.wy5;exact⟨_,rfl⟩
   obtain⟨sa2,v2,h2',rfl,g1,g2,g3⟩:=y95 hm hs k2 ha
   exact⟨v2,h2',by unfold aapp;simp only[k1,g1],g2,g3⟩
  ·cases ha
 ·cases ha
theorem m31(hm:ME ρ h h2){size:Nat}{s x s2 x2 v:Value}(hs:E ρ h.length s s2)(hx:E ρ h.length x x2)(ha:acpy size h s x=some (v,h')):
 ∃v2 h2',acpy size h2 s2 x2=some (v2,h2')∧E ρ h'.length v v2∧Post ρ h h' h2 h2':=by
 unfold acpy at ha
 split at ha
 ·rename_i da dl dc sa sl sc
  split at ha
  ·rename_i cs hcs
   obtain⟨cs2,k1,k2⟩:=hm.src hx hcs
   obtain⟨b2,rfl⟩: ∃b2,x2= .slice b2 sl sc:=by
    cases sa with
    |none=>exact⟨none,hx.pl rfl⟩
    |some b=>obtain⟨_,_,_,_,rfl⟩:=hx.wy5;exact⟨_,rfl⟩
   have hd: ∃da2,s2= .slice da2 dl dc:=by
    cases da with
    |none=>exact⟨none,hs.pl rfl⟩
    |some b=>obtain⟨_,_,_,_,rfl⟩:=hs.wy5;exact⟨_,rfl⟩
   split at ha
   ·cases ha
    obtain⟨da2,rfl⟩:=hd
    unfold acpy
    simp only[k1]
    rw[if_pos ‹_›]
    exact⟨_,_,rfl, .atom _ rfl, .refl hm⟩
   ·rename_i h0
    split at ha
    ·rename_i a
     obtain⟨o2,q1,q2,q3,rfl⟩:=hs.wy5
     unfold acpy
     simp only[k1]
     rw[if_neg h0]
     split at ha
     ·split at ha
      ·rename_i h3 hst
       cases ha
       obtain⟨h2',e1,e2⟩:=hm.sts q2 k2 hst
       exact⟨_,h2',by simp[e1], .atom _ rfl,e2⟩
      ·cases ha
     ·cases ha
    ·cases ha
  ·cases ha
 ·cases ha
def AOp.good:AOp→Bool
 | .alloc _ zs| .build zs _ _| .mks _ _ _ zs _ _=>zs.all tc5
 |_=>true
theorem tv1(hF:FE ρ h.length fr fr2)(hm:ME ρ h h2){a:Operand}(hb:bx fr h a=true):bx fr2 h2 a=true:=by
 unfold bx at hb
 split at hb
 ·rename_i p hp
  obtain⟨v2,e1,e2⟩:=sq7 hF hp
  obtain⟨o2,q1,q2,q3,rfl⟩:=e2.bq1
  unfold bx
  rw[e1]
  unfold boxed at hb⊢
  split at hb
  ·rename_i r hr
   obtain⟨r2,k1,_,k3,_,_⟩:=hm.row q2 hr
   simp only[k1,k3];exact hb
  ·cases hb
 ·cases hb
theorem i01(hF:FE ρ h.length fr fr2)(hm:ME ρ h h2){agg:Bool}{n:Nat}{x:Operand}{v:Option Value}(ha:aop fr h (.ld agg n x)=some (v,h')):
 ∃v2 h2',aop fr2 h2 (.ld agg n x)=some (v2,h2')∧OVE ρ h'.length v v2∧Post ρ h h' h2 h2':=by
 have pure: ∀{u u2:Value},aop fr2 h2 (.ld agg n x)=some (some u2,h2)→E ρ h.length u u2→ ∃v2 h2',aop fr2 h2 (.ld agg n x)=some (v2,h2')∧OVE ρ h.length (some u) v2∧Post ρ h h h2 h2':=
  fun h1 h2'=>⟨_,_,h1,h2', .refl hm⟩
 simp only[aop]at ha
 split at ha
 ·rename_i a h3
  obtain⟨a2,e1,e2⟩:=sq7 hF h3
  obtain⟨o2,q1,q2,q3,rfl⟩:=e2.bq1
  split at ha
  ·cases ha
  ·split at ha
   ·split at ha
    ·rename_i cs hcs
     cases ha
     obtain⟨cs2,e3,e4⟩:=hm.lds q2 hcs
     exact pure (by simp[aop,e1,e3]) e4.agg
    ·cases ha
   ·split at ha
    ·rename_i u hu
     cases ha
     obtain⟨u2,e3,e4⟩:=hm.ld1 q2 hu
     exact pure (by simp[aop,e1,e3]) e4
    ·cases ha
 ·cases ha
theorem hn9(hF:FE ρ h.length fr fr2)(hm:ME ρ h h2){op:AOp}(hg:op.good=true){v:Option Value}(ha:aop fr h op=some (v,h')):
 ∃v2 h2',aop fr2 h2 op=some (v2,h2')∧OVE ρ h'.length v v2∧Post ρ h h' h2 h2':=by
 have pure: ∀{u u2:Value},aop fr2 h2 op=some (some u2,h2)→E ρ h.length u u2→ ∃v2 h2',aop fr2 h2 op=some (v2,h2')∧OVE ρ h.length (some u) v2∧Post ρ h h h2 h2':=
  fun h1 h2'=>⟨_,_,h1,h2', .refl hm⟩
 have new0:ρ h.length h2.length:=by have:=hm.new 0;simpa using this
 cases op with
 |mv x=>
  simp only[aop]at ha
  split at ha
  ·rename_i u hu
   cases ha
   obtain⟨u2,e1,e2⟩:=sq7 hF hu
   exact pure (by simp only[aop,e1]) e2
  ·cases ha
 |pick c a b=>
  simp only[aop]at ha
  split at ha
  ·rename_i t ht
   obtain⟨c2,e1,e2⟩:=sq7 hF ht
   rw[e2.bool]at e1
   split at ha
   ·rename_i u hu
    cases ha
    obtain⟨u2,e3,e4⟩:=sq7 hF hu
    exact pure (by simp only[aop,e1,e3]) e4
   ·cases ha
  ·cases ha
 |bin o x y=>
  simp only[aop]at ha
  split at ha
  ·rename_i a b h3 h4
   split at ha
   ·rename_i u hu
    cases ha
    obtain⟨p1,p2,p3⟩:=xt8 hu
    obtain⟨a2,e1,e2⟩:=sq7 hF h3
    obtain⟨b2,e3,e4⟩:=sq7 hF h4
    rw[e2.pl p1]at e1
    rw[e4.pl p2]at e3
    exact pure (by simp only[aop,e1,e3,hu]) (.atom _ p3)
   ·cases ha
  ·cases ha
 |eqb neg x y=>
  simp only[aop]at ha
  split at ha
  ·rename_i a b h3 h4
   cases ha
   obtain⟨a2,e1,e2⟩:=sq7 hF h3
   obtain⟨b2,e3,e4⟩:=sq7 hF h4
   rw[e2.bool]at e1
   rw[e4.bool]at e3
   exact pure (by simp only[aop,e1,e3]) (.atom _ rfl)
  ·cases ha
 |eqn neg k x=>
  simp only[aop]at ha
  split at ha
  ·rename_i a h3
   split at ha
   ·rename_i b hb
    cases ha
    obtain⟨a2,e1,e2⟩:=sq7 hF h3
    exact pure (by simp only[aop,e1,as8 e2 hb]) (.atom _ rfl)
   ·cases ha
  ·cases ha
 |un o x=>
  simp only[aop]at ha
  split at ha
  ·rename_i a h3
   split at ha
   ·rename_i u hu
    cases ha
    obtain⟨p1,p3⟩:=xf6 hu
    obtain⟨a2,e1,e2⟩:=sq7 hF h3
    rw[e2.pl p1]at e1
    exact pure (by simp only[aop,e1,hu]) (.atom _ p3)
   ·cases ha
  ·cases ha
 |conv k x=>
  simp only[aop]at ha
  split at ha
  ·rename_i h3
   cases ha
   obtain⟨a2,e1,e2⟩:=sq7 hF h3
   rw[e2.int]at e1
   exact pure (by simp only[aop,e1]) (.atom _ rfl)
  ·cases ha
 |alloc elem zs=>
  simp only[aop]at ha
  cases ha
  exact⟨some (.pointer (some ⟨h2.length,0,none⟩)),h2++[.row ⟨zs,elem,0,true⟩],rfl,E.ptr _ _ _ new0 (by simp),hm.push' (LE.self (show zs.all tc5=true from hg))⟩
 |box elem size x=>
  simp only[aop]at ha
  split at ha
  ·rename_i u hu
   split at ha
   ·rename_i hc
    cases ha
    obtain⟨u2,e1,e2⟩:=sq7 hF hu
    exact⟨some (.pointer (some ⟨h2.length,0,none⟩)),h2++[.row ⟨u2.cells.toList,elem,0,true⟩],by simp only[aop,e1];rw[if_pos (by rw[e2.cells_size,e2.flat];exact hc)],E.ptr _ _ _ new0 (by simp),hm.push' e2.cells⟩
   ·cases ha
  ·cases ha
 |build zs places parts=>
  simp only[aop]at ha
  split at ha
  ·rename_i vs hvs
   split at ha
   ·rename_i cs hcs
    cases ha
    obtain⟨vs2,e1,e2⟩:=gg5 hF hvs
    obtain⟨cs2,e3,e4⟩:=s94 e2 (LE.self (show zs.all tc5=true from hg)) hcs
    exact pure (by simp only[aop,e1,e3]) e4.agg
   ·cases ha
  ·cases ha
 |mkSl elem size len parts=>
  simp only[aop]at ha
  split at ha
  ·rename_i vs hvs
   split at ha
   ·rename_i hc
    cases ha
    obtain⟨vs2,e1,e2⟩:=ce4 hF hvs
    obtain⟨e3,e4⟩:=n41 (size:=size) e2
    exact⟨some (.slice (some ⟨h2.length,0,none⟩) len len),h2++[.row ⟨cat vs2,elem,size,true⟩],by simp only[aop,e1];rw[if_pos (by rw[e3,←e2.1];exact hc)],E.sl _ _ _ _ _ new0 (by simp),hm.push' e4⟩
   ·cases ha
  ·cases ha
 |ld agg n x=>exact i01 hF hm ha
 |ldb agg n x=>
  obtain⟨hb,ha⟩:=zx2 ha
  obtain⟨v2,h2',k1,k2,k3⟩:=i01 hF hm ha
  exact⟨v2,h2',by rw[fd7,if_pos (tv1 hF hm hb)];exact k1,k2,k3⟩
 |st n x y=>
  simp only[aop]at ha
  split at ha
  ·rename_i a u h3 h4
   obtain⟨a2,e1,e2⟩:=sq7 hF h3
   obtain⟨u2,e3,e4⟩:=sq7 hF h4
   obtain⟨o2,q1,q2,q3,rfl⟩:=e2.bq1
   split at ha
   ·cases ha
   ·rename_i hc
    split at ha
    ·rename_i h3' hst
     cases ha
     obtain⟨h2',k1,k2⟩:=hm.sts q2 e4.cells hst
     exact⟨none,h2',by simp only[aop,e1,e3];rw[if_neg (by rw[e4.cells_size,e4.flat];rw[q1]at hc;exact hc)];simp only[k1],trivial,k2⟩
    ·cases ha
  ·cases ha
 |nilck x=>
  simp only[aop]at ha
  split at ha
  ·rename_i a h3
   cases ha
   obtain⟨a2,e1,e2⟩:=sq7 hF h3
   obtain⟨o2,q1,q2,q3,rfl⟩:=e2.bq1
   exact pure (by simp only[aop,e1]) e2
  ·cases ha
 |mkf f cap=>
  simp only[aop]at ha
  split at ha
  ·rename_i vs hvs
   cases ha
   obtain⟨vs2,e1,e2⟩:=ce4 hF hvs
   exact pure (by simp only[aop,e1]) (e2.func f)
  ·cases ha
 |mks elem size bytes zs l c=>
  simp only[aop]at ha
  split at ha
  ·rename_i kl l' kc c' h3 h4
   split at ha
   ·rename_i hc
    cases ha
    obtain⟨l2,e1,e2⟩:=sq7 hF h3
    obtain⟨c2,e3,e4⟩:=sq7 hF h4
    rw[e2.int]at e1
    rw[e4.int]at e3
    exact⟨some (.slice (some ⟨h2.length,0,none⟩) l'.toNat c'.toNat),h2++[.row ⟨rep zs c'.toNat,elem,size,true⟩],by simp only[aop,e1,e3];rw[if_pos hc],E.sl _ _ _ _ _ new0 (by simp),hm.push' (LE.rep (LE.self (show zs.all tc5=true from hg)) _)⟩
   ·cases ha
  ·cases ha
 |sl size x lo hi=>
  simp only[aop]at ha
  split at ha
  ·rename_i a l c lo' hi' h3 h4 h5
   split at ha
   ·rename_i hc
    cases ha
    obtain⟨x2,e1,e2⟩:=sq7 hF h3
    have e3:=dp7 hF h4
    have e4:=dp7 hF h5
    cases a with
    |none=>
     rw[e2.pl rfl]at e1
     exact pure (by simp only[aop,e1,e3,e4];rw[if_pos ⟨hc.1,hc.2.1,hc.2.2.1,rfl⟩]) (.atom _ (by split<;>rfl))
    |some a=>
     obtain⟨o2,q1,q2,q3,rfl⟩:=e2.wy5
     refine pure (by simp only[aop,e1,e3,e4];rw[if_pos ⟨hc.1,hc.2.1,hc.2.2.1,lk4 (l:=l) (c:=c) hm q2 hc.2.2.2⟩]) ?_
     have hsp:a=⟨a.block,a.off,none⟩:=by rw[←q1]
     split
     ·rw[hsp];exact .sl _ _ _ _ _ q2 q3
     ·exact .sl _ _ _ _ _ q2 q3
   ·cases ha
  ·cases ha
 |sl3 x hi mx=>
  simp only[aop]at ha
  split at ha
  ·rename_i a l c k1 I k2 J h3 h4 h5
   split at ha
   ·rename_i hc
    cases ha
    obtain⟨x2,e1,e2⟩:=sq7 hF h3
    obtain⟨y2,e3,e4⟩:=sq7 hF h4
    obtain⟨z2,e5,e6⟩:=sq7 hF h5
    rw[e4.pl rfl]at e3
    rw[e6.pl rfl]at e5
    cases a with
    |none=>
     rw[e2.pl rfl]at e1
     exact pure (by simp only[aop,e1,e3,e5];rw[if_pos hc]) (.atom _ rfl)
    |some a=>
     obtain⟨o2,q1,q2,q3,rfl⟩:=e2.wy5
     refine pure (by simp only[aop,e1,e3,e5];rw[if_pos hc]) ?_
     have hsp:a=⟨a.block,a.off,none⟩:=by rw[←q1]
     rw[hsp];exact .sl _ _ _ _ _ q2 q3
   ·cases ha
  ·cases ha
 |sls x lo hi=>
  simp only[aop]at ha
  split at ha
  ·rename_i s lo' hi' h3 h4 h5
   split at ha
   ·rename_i hc
    cases ha
    obtain⟨x2,e1,e2⟩:=sq7 hF h3
    rw[e2.str]at e1
    exact pure (by simp only[aop,e1,dp7 hF h4,dp7 hF h5];rw[if_pos hc]) (.atom _ rfl)
   ·cases ha
  ·cases ha
 |faddr off x=>
  simp only[aop]at ha
  split at ha
  ·rename_i a h3
   obtain⟨a2,e1,e2⟩:=sq7 hF h3
   obtain⟨o2,q1,q2,q3,rfl⟩:=e2.bq1
   split at ha
   ·cases ha
   ·cases ha
    exact pure (by simp[aop,e1]) (.ptr _ _ _ q2 q3)
  ·cases ha
 |fld agg off n x=>
  simp only[aop]at ha
  split at ha
  ·rename_i cs h3
   obtain⟨x2,e1,e2⟩:=sq7 hF h3
   obtain⟨cs2,rfl,e3⟩:=e2.lg1
   split at ha
   ·cases ha
    refine pure (by simp only[aop,e1];rfl) ?_
    rw[pn3,pn3]
    exact((e3.drop _).take _).agg
   ·split at ha
    ·rename_i u hu
     cases ha
     obtain⟨u2,k1,k2⟩:=e3.2 off u (by simpa using hu)
     exact pure (by simp only[aop,e1];rw[show cs2[off]? =some u2 by simpa using k1]) k2
    ·cases ha
  ·cases ha
 |iaddr size x i=>
  simp only[aop]at ha
  split at ha
  ·rename_i a l c k j h3 h4
   obtain⟨x2,e1,e2⟩:=sq7 hF h3
   obtain⟨i2,e3,e4⟩:=sq7 hF h4
   rw[e4.int]at e3
   obtain⟨o2,q1,q2,q3,rfl⟩:=e2.wy5
   split at ha
   ·rename_i hc
    split at ha
    ·cases ha
    ·cases ha
     exact pure (by simp only[aop,e1,e3];rw[if_pos hc];rfl) (.ptr _ _ _ q2 q3)
   ·cases ha
  ·cases ha
 |iaddrA len size x i=>
  simp only[aop]at ha
  split at ha
  ·rename_i a k j h3 h4
   obtain⟨x2,e1,e2⟩:=sq7 hF h3
   obtain⟨i2,e3,e4⟩:=sq7 hF h4
   rw[e4.int]at e3
   obtain⟨o2,q1,q2,q3,rfl⟩:=e2.bq1
   split at ha
   ·rename_i hc
    split at ha
    ·cases ha
    ·cases ha
     exact pure (by simp only[aop,e1,e3];rw[if_pos hc];rfl) (.ptr _ _ _ q2 q3)
   ·cases ha
  ·cases ha
 |idxA len size agg x i=>
  simp only[aop]at ha
  split at ha
  ·rename_i cs k j h3 h4
   obtain⟨x2,e1,e2⟩:=sq7 hF h3
   obtain⟨i2,e3,e4⟩:=sq7 hF h4
   rw[e4.int]at e3
   obtain⟨cs2,rfl,e5⟩:=e2.lg1
   split at ha
   ·rename_i hc
    split at ha
    ·cases ha
     refine pure (by simp only[aop,e1,e3];rw[if_pos hc]) ?_
     rw[pn3,pn3]
     exact((e5.drop _).take _).agg
    ·split at ha
     ·rename_i u hu
      cases ha
      obtain⟨u2,k1,k2⟩:=e5.2 _ u (by simpa using hu)
      exact pure (by simp only[aop,e1,e3];rw[if_pos hc,show cs2[j.toNat*size]? =some u2 by simpa using k1]) k2
     ·cases ha
   ·cases ha
  ·cases ha
 |idxS x i=>
  simp only[aop]at ha
  split at ha
  ·rename_i s k j h3 h4
   obtain⟨x2,e1,e2⟩:=sq7 hF h3
   obtain⟨i2,e3,e4⟩:=sq7 hF h4
   rw[e4.int]at e3
   rw[e2.str]at e1
   split at ha
   ·rename_i hc
    split at ha
    ·rename_i b hb
     cases ha
     exact pure (by simp only[aop,e1,e3];rw[if_pos hc,hb]) (.atom _ rfl)
    ·cases ha
   ·cases ha
  ·cases ha
 |len x=>
  simp only[aop]at ha
  split at ha
  ·rename_i a n c h3
   cases ha
   obtain⟨x2,e1,e2⟩:=sq7 hF h3
   cases a with
   |none=>rw[e2.pl rfl]at e1;exact pure (by simp only[aop,e1]) (.atom _ rfl)
   |some a=>
    obtain⟨o2,q1,q2,q3,rfl⟩:=e2.wy5
    exact pure (by simp only[aop,e1]) (.atom _ rfl)
  ·cases ha
 |lenS x=>
  simp only[aop]at ha
  split at ha
  ·rename_i s h3
   cases ha
   obtain⟨x2,e1,e2⟩:=sq7 hF h3
   rw[e2.str]at e1
   exact pure (by simp only[aop,e1]) (.atom _ rfl)
  ·cases ha
 |lenK n=>
  simp only[aop]at ha
  cases ha
  exact pure (by simp only[aop]) (.atom _ rfl)
 |minmax mx xs=>
  simp only[aop]at ha
  split at ha
  ·rename_i vs hvs
   obtain⟨vs2,e1,e2⟩:=ce4 hF hvs
   split at ha
   ·rename_i k n r
    split at ha
    ·rename_i l hl
     cases ha
     have hall:ho0 k (.int k n::r)=some (n::l):=by simp[ho0,hl]
     have:=y96 e2 hall
     subst this
     exact pure (by simp only[aop,e1,hl]) (.atom _ rfl)
    ·cases ha
   ·cases ha
  ·cases ha
 |app elem size bytes s x=>
  simp only[aop]at ha
  split at ha
  ·rename_i s' x' h3 h4
   obtain⟨s2,e1,e2⟩:=sq7 hF h3
   obtain⟨x2,e3,e4⟩:=sq7 hF h4
   split at ha
   ·rename_i u h3' hap
    cases ha
    obtain⟨v2,h2',k1,k2,k3⟩:=y28 hm e2 e4 hap
    exact⟨some v2,h2',by simp only[aop,e1,e3,k1],k2,k3⟩
   ·cases ha
  ·cases ha
 |appz elem bytes s x=>
  simp only[aop]at ha
  split at ha
  ·rename_i sa n c m h3 h4
   obtain⟨s2,e1,e2⟩:=sq7 hF h3
   obtain⟨x2,e3,e4⟩:=sq7 hF h4
   have:=e4.pl rfl
   subst this
   split at ha
   ·rename_i hm0
    split at ha
    ·rename_i u h3' hap
     cases ha
     obtain⟨sa2,v2,h2',rfl,k1,k2,k3⟩:=y95 hm e2 (LE.self (by rw[List.all_eq_true];intro a ha;rw[List.eq_of_mem_replicate ha];rfl)) hap
     exact⟨some v2,h2',by simp only[aop,e1,e3,k1];rw[if_pos hm0],k2,k3⟩
    ·cases ha
   ·cases ha
  ·cases ha
 |cpy size s x=>
  simp only[aop]at ha
  split at ha
  ·rename_i s' x' h3 h4
   obtain⟨s2,e1,e2⟩:=sq7 hF h3
   obtain⟨x2,e3,e4⟩:=sq7 hF h4
   split at ha
   ·rename_i u h3' hap
    cases ha
    obtain⟨v2,h2',k1,k2,k3⟩:=m31 hm e2 e4 hap
    exact⟨some v2,h2',by simp only[aop,e1,e3,k1],k2,k3⟩
   ·cases ha
  ·cases ha
 |ext i x=>
  simp only[aop]at ha
  split at ha
  ·rename_i vs h3
   obtain⟨x2,e1,e2⟩:=sq7 hF h3
   obtain⟨vs2,rfl,e3⟩:=e2.da1
   split at ha
   ·rename_i u hu
    cases ha
    obtain⟨u2,k1,k2⟩:=e3.2 i u (by simpa using hu)
    exact pure (by simp only[aop,e1];rw[show vs2[i]? =some u2 by simpa using k1]) k2
   ·cases ha
  ·cases ha
 |capt g n i x=>
  simp only[aop]at ha
  split at ha
  ·rename_i f first cs h3
   obtain⟨x2,e1,e2⟩:=sq7 hF h3
   obtain⟨f2,cs2,hf2,rfl,rfl,e3⟩:=e2.func_inv
   cases hf2
   split at ha
   ·rename_i hc
    split at ha
    ·rename_i u hu
     cases ha
     obtain⟨u2,k1,k2⟩:=e3.2 i u (by simpa using hu)
     exact pure (by simp only[aop,e1];rw[if_pos ⟨hc.1,by rw[←hc.2];simpa using e3.1.symm⟩,show cs2[i]? =some u2 by simpa using k1]) k2
    ·cases ha
   ·cases ha
  ·cases ha
 |call f args=>cases ha
 |calld x args=>cases ha
end
end Go.Am
namespace Go.Am
def ev3:ACode→Bool
 | .region l=>l.all fun o=>o.op.good
 | .seq a b| .cond _ a b=>ev3 a&&ev3 b
 | .block _ _ c| .loop _ c=>ev3 c
 |_=>true
def dl0:List It→Bool
 | []=>true
 | .code c::ks=>ev3 c&&dl0 ks
 | .blk .. ::ks=>dl0 ks
 | .lp _ c::ks=>ev3 c&&dl0 ks
def x28(T:Tab):Prop:= ∀f F,T f=some F→ev3 F.code=true
def EmbG(ρ:Rel)(g:List ARes→List It→Fr→H→Res):Prop:=
 ∀rs ks fr fr2 h h2 v h',dl0 ks=true→FE ρ h.length fr fr2→ME ρ h h2→g rs ks fr h=some (v,h')→ ∃v2 h2',g rs ks fr2 h2=some (v2,h2')∧E ρ h'.length v v2∧Post ρ h h' h2 h2'
section
variable {ρ:Rel} {h h2 h':H} {fr fr2:Fr} {T:Tab} {g:List ARes→List It→Fr→H→Res}
theorem wr0{n:Nat}(hF:FE ρ n fr fr2){x:Option (Nat×Bool)}{b:Bool}(hg:gd fr x=some b):gd fr2 x=some b:=by
 cases x with
 |none=>exact hg
 |some p=>
  obtain⟨s,want⟩:=p
  simp only[gd]at hg⊢
  split at hg
  ·rename_i b' hb
   obtain⟨v2,e1,e2⟩:=hF _ _ hb
   rw[e2.bool]at e1
   rw[e1];exact hg
  ·rename_i vs hb
   obtain⟨v2,e1,e2⟩:=hF _ _ hb
   obtain⟨cs2,rfl,_⟩:=e2.da1
   rw[e1];exact hg
  ·cases hg
theorem oo1{n:Nat}: ∀{vs vs2:List Value} (k:Nat),LE ρ n vs vs2→FE ρ n (Fr.args k vs) (Fr.args k vs2)
 | [],vs2,k,hl,t,v,hv=>by cases hv
 |u::vs,[],k,hl,t,v,hv=>by have:=hl.1;simp at this
 |u::vs,u2::vs2,k,hl,t,v,hv=>by
  obtain⟨u',h1,h2⟩:=hl.2 0 _ rfl
  simp at h1;subst h1
  simp only[Fr.args]at hv⊢
  cases hb:Nat.beq t k with
  |true=>rw[hb]at hv;cases hv;exact⟨u2,rfl,h2⟩
  |false=>
   rw[hb]at hv
   exact oo1 (k+1) (vs:=vs) (vs2:=vs2) ⟨by have:=hl.1;simpa using this,fun i v hv=>by simpa using hl.2 (i+1) v (by simpa using hv)⟩ t v hv
theorem kx4(hg:EmbG ρ g)(hT:x28 T)(hm:ME ρ h h2){f:FuncId}{vs vs2:List Value}(hl:LE ρ h.length vs vs2){v:Value}(he:enter T g f vs h=some (v,h')):
 ∃v2 h2',enter T g f vs2 h2=some (v2,h2')∧E ρ h'.length v v2∧Post ρ h h' h2 h2':=by
 unfold enter at he⊢
 split at he
 ·rename_i F hF
  split at he
  ·rename_i hn
   obtain⟨v2,h2',k1,k2⟩:=hg _ _ _ _ _ _ _ _ (by simp[dl0,hT f F hF]) (oo1 0 hl) hm he
   exact⟨v2,h2',by rw[if_pos (by rw[←hl.1];exact hn)];exact k1,k2⟩
  ·cases he
 ·cases he
theorem kb2{n n0 n02:Nat}(hF:FE ρ n fr fr2)(hold: ∀o o2,ρ o o2→o<n0→o2<n02){o:AOper}(ho:wb6 n0 fr o=true):wb6 n02 fr2 o=true:=by
 obtain⟨dst,op,guard,chk⟩:=o
 cases chk with
 |false=>cases op<;>rfl
 |true=>
  cases op<;>first|rfl|skip
  rename_i agg k a
  simp only[wb6]at ho⊢
  split at ho
  ·rename_i p hp
   obtain⟨v2,e1,e2⟩:=sq7 hF hp
   obtain⟨o2,q1,q2,q3,rfl⟩:=e2.bq1
   rw[e1]
   simp only[decide_eq_true_eq]at ho⊢
   exact hold _ _ q2 ho
  ·cases ho
theorem gk7{chk:Bool}(hm:ME ρ h h2){h2':H}(hp:Post ρ h h' h2 h2'){α:Type}{r:Option α}{x:α}(hb:behind chk h h' r=some x){β:Type}{r2:Option β}:behind chk h2 h2' r2=r2:=
 sn9 fun hc=>hp.pre hm ((ya3 hb).2 hc)
theorem w39(hg:EmbG ρ g)(hT:x28 T){n0 n02:Nat}(hold: ∀o o2,ρ o o2→o<n0→o2<n02){o:AOper}(ho:o.op.good=true)(hF:FE ρ h.length fr fr2)(hm:ME ρ h h2){v:Option Value}(hs:core T g n0 o fr h=some (v,h')):
 ∃v2 h2',core T g n02 o fr2 h2=some (v2,h2')∧OVE ρ h'.length v v2∧Post ρ h h' h2 h2':=by
 unfold core at hs
 split at hs
 ·rename_i hgd
  cases hs
  exact⟨some (.tuple #[]),h2,by unfold core;rw[wr0 hF hgd],E.tuple #[] #[] rfl (fun i hi=>absurd hi (by simp)), .refl hm⟩
 ·rename_i hgd
  split at hs
  ·rename_i f args hop
   split at hs
   ·rename_i vs hvs
    obtain⟨vs2,e1,e2⟩:=ce4 hF hvs
    split at hs
    ·rename_i u h3 he
     have hb:=(ya3 hs).1
     cases hb
     obtain⟨v2,h2',k1,k2,k3⟩:=kx4 hg hT hm e2 he
     exact⟨some v2,h2',by unfold core;simp only[wr0 hF hgd,hop,e1,k1];exact gk7 hm k3 hs,k2,k3⟩
    ·cases hs
   ·cases hs
  ·rename_i x args hop
   split at hs
   ·rename_i f first cap vs hx hvs
    obtain⟨x2,e1,e2⟩:=sq7 hF hx
    obtain⟨vs2,e3,e4⟩:=ce4 hF hvs
    obtain⟨f',cap2,q1,rfl,rfl,q3⟩:=e2.func_inv
    cases q1
    split at hs
    ·split at hs
     ·rename_i u h3 he
      have hb:=(ya3 hs).1
      cases hb
      obtain⟨v2,h2',k1,k2,k3⟩:=kx4 hg hT hm (e4.append q3) he
      exact⟨some v2,h2',by unfold core;simp only[wr0 hF hgd,hop,e1,e3];rw[if_pos (show(#[]:Array Value).isEmpty=true from rfl)];simp only[k1];exact gk7 hm k3 hs,k2,k3⟩
     ·cases hs
    ·cases hs
   ·cases hs
  ·rename_i hne1 hne2
   split at hs
   ·rename_i hol
    obtain⟨v2,h2',k1,k2,k3⟩:=hn9 hF hm ho hs
    refine⟨v2,h2', ?_,k2,k3⟩
    unfold core
    simp only[wr0 hF hgd]
    rw[if_pos (kb2 hF hold hol)];exact k1
   ·cases hs
 ·cases hs
theorem a52(hg:EmbG ρ g)(hT:x28 T){n0 n02:Nat}(hold: ∀o o2,ρ o o2→o<n0→o2<n02){o:AOper}(ho:o.op.good=true)(hF:FE ρ h.length fr fr2)(hm:ME ρ h h2){fr':Fr}(hs:km6 T g n0 o fr h=some (fr',h')):
 ∃fr2' h2',km6 T g n02 o fr2 h2=some (fr2',h2')∧FE ρ h'.length fr' fr2'∧Post ρ h h' h2 h2':=by
 unfold km6 at hs
 split at hs
 ·rename_i v h3 hc
  cases hs
  obtain⟨v2,h2',k1,k2,k3⟩:=w39 hg hT hold ho hF hm hc
  exact⟨_,h2',by unfold km6;rw[k1],(hF.up k3.len).put _ k2,k3⟩
 ·cases hs
theorem yh3(hg:EmbG ρ g)(hT:x28 T){n0 n02:Nat}(hold: ∀o o2,ρ o o2→o<n0→o2<n02): ∀{l:List AOper} {fr fr2:Fr} {h h2 h':H} {fr':Fr},(l.all fun o=>o.op.good)=true→FE ρ h.length fr fr2→ME ρ h h2→gf4 T g n0 l fr h=some (fr',h')→
 ∃fr2' h2',gf4 T g n02 l fr2 h2=some (fr2',h2')∧FE ρ h'.length fr' fr2'∧Post ρ h h' h2 h2'
 | [],fr,fr2,h,h2,h',fr',_,hF,hm,hs=>by cases hs;exact⟨fr2,h2,rfl,hF, .refl hm⟩
 |o::l,fr,fr2,h,h2,h',fr',ho,hF,hm,hs=>by
  simp only[List.all_cons,Bool.and_eq_true]at ho
  simp only[gf4]at hs
  split at hs
  ·rename_i fr1 h1 h3
   obtain⟨fr21,h21,k1,k2,k3⟩:=a52 hg hT hold ho.1 hF hm h3
   obtain⟨fr22,h22,k4,k5,k6⟩:=yh3 hg hT hold ho.2 k2 k3.me hs
   exact⟨fr22,h22,by simp only[gf4,k1];exact k4,k5,k3.trans k6⟩
  ·cases hs
theorem nq8{n:Nat}(hF:FE ρ n fr fr2)(ks:List Nat):FE ρ n (Fr.of (hy3 fr ks)) (Fr.of (hy3 fr2 ks)):=by
 have spec: ∀(fr:Fr) (ks:List Nat) (t:Nat),Fr.of (hy3 fr ks) t=if t∈ks then fr t else none:=by
  intro fr ks t
  induction ks with
  |nil=>rfl
  |cons k ks ih=>
   simp only[hy3]
   cases hk:fr k with
   |none=>
    simp only[ih,List.mem_cons]
    by_cases ht:t=k
    ·subst ht;simp[hk]
    ·simp[ht]
   |some v=>
    simp only[Fr.of,ih,List.mem_cons]
    cases hb:Nat.beq t k with
    |true=>obtain rfl:=Nat.eq_of_beq_eq_true hb;simp[hk]
    |false=>
     have:t≠k:=by rintro rfl;rw[Nat.beq_refl]at hb;cases hb
     simp[this]
 intro t v hv
 rw[spec]at hv⊢
 split at hv
 ·rw[if_pos ‹_›];exact hF t v hv
 ·cases hv
theorem o47(hF:FE ρ h.length fr fr2)(hm:ME ρ h h2): ∀{rs:List ARes} {vs:List Value},ress fr h rs=some vs→ ∃vs2,ress fr2 h2 rs=some vs2∧LE ρ h.length vs vs2
 | [],vs,hs=>by cases hs;exact⟨[],rfl,LE.nil⟩
 |r::rs,vs,hs=>by
  simp only[ress]at hs
  split at hs
  ·rename_i v vs' h3 h4
   cases hs
   obtain⟨vs2,k1,k2⟩:=o47 hF hm h4
   have: ∃v2,res1 fr2 h2 r=some v2∧E ρ h.length v v2:=by
    cases r with
    |tmp t=>exact hF t v h3
    |cell t agg n=>
     simp only[res1]at h3⊢
     split at h3
     ·rename_i a ha
      obtain⟨a2,e1,e2⟩:=hF t _ ha
      obtain⟨o2,q1,q2,q3,rfl⟩:=e2.bq1
      rw[e1]
      split at h3
      ·cases h3
      ·split at h3
       ·split at h3
        ·rename_i cs hcs
         cases h3
         obtain⟨cs2,e3,e4⟩:=hm.lds q2 hcs
         exact⟨_,by simp[e3],e4.agg⟩
        ·cases h3
       ·obtain⟨u2,e3,e4⟩:=hm.ld1 q2 h3
        exact⟨u2,by simp[e3],e4⟩
     ·cases h3
   obtain⟨v2,k3,k4⟩:=this
   exact⟨v2::vs2,by simp[ress,k1,k3],LE.cons k4 k2⟩
  ·cases hs
theorem ly4(hF:FE ρ h.length fr fr2)(hm:ME ρ h h2){rs:List ARes}{v:Value}(hs:retv rs fr h=some (v,h')): ∃v2 h2',retv rs fr2 h2=some (v2,h2')∧E ρ h'.length v v2∧Post ρ h h' h2 h2':=by
 unfold retv at hs
 split at hs
 ·rename_i u hu
  cases hs
  obtain⟨vs2,k1,k2⟩:=o47 hF hm hu
  obtain⟨u2,k3,k4⟩:=k2.2 0 _ rfl
  obtain rfl:vs2=[u2]:=by
   have hl:=k2.1
   match vs2,hl,k3 with
   | [x],_,k3=>simp at k3;rw[k3]
  exact⟨u2,h2,by unfold retv;rw[k1],k4, .refl hm⟩
 ·rename_i vs hne hu
  cases hs
  obtain⟨vs2,k1,k2⟩:=o47 hF hm hu
  refine⟨.tuple vs2.toArray,h2, ?_,k2.tuple, .refl hm⟩
  unfold retv
  rw[k1]
  split
  ·rename_i u he
   cases he
   have hl:=k2.1
   match vs,hl,hne with
   | [x],_,hne=>exact absurd rfl (hne x)
  ·rename_i he;cases he;rfl
  ·rename_i he;cases he
 ·cases hs
theorem wa1{id:Nat}: ∀{ks:List It} {ko:List Nat} {k:List It},dl0 ks=true→gc2 id ks=some (ko,k)→dl0 k=true
 | [],_,_,_,h=>by cases h
 | .code c::ks,_,_,hg,h=>by simp only[dl0,Bool.and_eq_true]at hg;exact wa1 hg.2 h
 | .lp _ c::ks,_,_,hg,h=>by simp only[dl0,Bool.and_eq_true]at hg;exact wa1 hg.2 h
 | .blk id' ko::ks,_,_,hg,h=>by
   simp only[gc2]at h
   simp only[dl0]at hg
   split at h
   ·cases h;exact hg
   ·exact wa1 hg h
theorem mf9(hg:EmbG ρ g)(hT:x28 T):EmbG ρ (gF T g):=by
 intro rs ks fr fr2 h h2 v h' hgood hF hm hs
 unfold gF at hs
 split at hs
 ·exact ly4 hF hm hs
 ·exact ly4 hF hm hs
 ·simp only[dl0,ev3,Bool.true_and]at hgood
  exact hg _ _ _ _ _ _ _ _ hgood hF hm hs
 ·cases hs
 ·simp only[dl0,ev3,Bool.and_eq_true]at hgood
  exact hg _ _ _ _ _ _ _ _ (by simp[dl0,hgood]) hF hm hs
 ·split at hs
  ·rename_i t ht
   obtain⟨c2,e1,e2⟩:=sq7 hF ht
   rw[e2.bool]at e1
   simp only[dl0,ev3,Bool.and_eq_true]at hgood
   obtain⟨v2,h2',k1,k2⟩:=hg _ _ _ _ _ _ _ _ (by cases t<;>simp[dl0,hgood]) hF hm hs
   exact⟨v2,h2',by unfold gF;simp only[e1];exact k1,k2⟩
  ·cases hs
 ·simp only[dl0,ev3,Bool.and_eq_true]at hgood
  exact hg _ _ _ _ _ _ _ _ (by simp[dl0,hgood]) hF hm hs
 ·simp only[dl0,ev3,Bool.and_eq_true]at hgood
  exact hg _ _ _ _ _ _ _ _ (by simp[dl0,hgood]) (nq8 hF _) hm hs
 ·split at hs
  ·rename_i ko k hp
   simp only[dl0,ev3,Bool.true_and]at hgood
   obtain⟨v2,h2',k1,k2⟩:=hg _ _ _ _ _ _ _ _ (wa1 hgood hp) (nq8 hF ko) hm hs
   exact⟨v2,h2',by unfold gF;simp only[hp];exact k1,k2⟩
  ·cases hs
 ·split at hs
  ·rename_i fr1 h1 hrun
   simp only[dl0,ev3,Bool.and_eq_true]at hgood
   obtain⟨fr21,h21,k1,k2,k3⟩:=yh3 hg hT (fun o o2 hr ho=>hm.lt hr ho) hgood.1 hF hm hrun
   obtain⟨v2,h2',k4,k5,k6⟩:=hg _ _ _ _ _ _ _ _ hgood.2 k2 k3.me hs
   exact⟨v2,h2',by unfold gF;simp only[k1];exact k4,k5,k3.trans k6⟩
  ·cases hs
 ·simp only[dl0]at hgood
  exact hg _ _ _ _ _ _ _ _ hgood (nq8 hF _) hm hs
 ·simp only[dl0,Bool.and_eq_true]at hgood
  exact hg _ _ _ _ _ _ _ _ (by simp[dl0,hgood]) (nq8 hF _) hm hs
theorem ab0(hT:x28 T): ∀n,EmbG ρ (goN T n)
 |0=>fun _ _ _ _ _ _ _ _ _ _ _ hs=>by cases hs
 |n+1=>mf9 (ab0 hT n) hT
end
end Go.Am
namespace Go.Am
structure WFs (fr:Fr) (h:H):Prop where
 fe:FE Eq h.length fr fr
 me:ME Eq h h
structure Eqv (n0:Nat) (fr:Fr) (h:H) (fr2:Fr) (h2:H):Prop where
 ex: ∃π:Rel,FE π h.length fr fr2∧ME π h h2∧h.length=h2.length∧(∀o,o<n0→π o o)∧(∀o,o<h.length→ ∃o2,π o o2)
theorem WFs.eqv{fr:Fr}{h:H}(hw:WFs fr h)(n0:Nat):Eqv n0 fr h fr h:=⟨Eq,hw.fe,hw.me,rfl,fun _ _=>rfl,fun o _=>⟨o,rfl⟩⟩
theorem ME.comp{ρ σ:Rel}{h h2 h3:H}(a:ME ρ h h2)(b:ME σ h2 h3):ME (fun o o3=> ∃o2,ρ o o2∧σ o2 o3) h h3:=by
 refine⟨fun o o3 p p3 ⟨o2,h1,h2⟩ ⟨p2,h3,h4⟩=>(a.uni _ _ _ _ h1 h3).trans (b.uni _ _ _ _ h2 h4),fun j=>⟨_,a.new j,b.new j⟩,fun o o3 ⟨o2,h1,h2⟩=> ?_⟩
 exact(a.get _ _ h1).comp (b.get _ _ h2) fun x y z h1 h2 h3 h4=>⟨⟨y,h1,h3⟩,h2⟩
theorem Eqv.trans{n0:Nat}{fr fr2 fr3:Fr}{h h2 h3:H}(a:Eqv n0 fr h fr2 h2)(b:Eqv n0 fr2 h2 fr3 h3):Eqv n0 fr h fr3 h3:=by
 obtain⟨π,a1,a2,a3,a4,a5⟩:=a.ex
 obtain⟨σ,b1,b2,b3,b4,b5⟩:=b.ex
 refine⟨_,fun t v hv=> ?_,a2.comp b2,a3.trans b3,fun o ho=>⟨o,a4 o ho,b4 o ho⟩,fun o ho=> ?_⟩
 ·obtain⟨v2,k1,k2⟩:=a1 t v hv
  obtain⟨v3,k3,k4⟩:=b1 t v2 k1
  exact⟨v3,k3,k2.comp k4 fun x y z h1 h2 h3 h4=>⟨⟨y,h1,h3⟩,h2⟩⟩
 ·obtain⟨o2,h1⟩:=a5 o ho
  obtain⟨o3,h2⟩:=b5 o2 (a2.lt h1 ho)
  exact⟨o3,o2,h1,h2⟩
section
variable {T:Tab} {g:List ARes→List It→Fr→H→Res} {n0:Nat}
theorem WFs.run(hg: ∀ρ,EmbG ρ g)(hT:x28 T){l:List AOper}(hl:(l.all fun o=>o.op.good)=true){fr fr':Fr}{h h':H}(hw:WFs fr h)(hs:gf4 T g n0 l fr h=some (fr',h')):WFs fr' h':=by
 obtain⟨fr2,h2,k1,k2,k3⟩:=yh3 (hg Eq) hT (n0:=n0) (n02:=n0) (fun o o2 h1 h2=>h1▸h2) hl hw.fe hw.me hs
 rw[hs]at k1
 cases k1
 exact⟨k2,k3.me⟩
theorem Eqv.run(hg: ∀ρ,EmbG ρ g)(hT:x28 T){l:List AOper}(hl:(l.all fun o=>o.op.good)=true){fr fr2 fr':Fr}{h h2 h':H}(hn:n0≤h.length)(he:Eqv n0 fr h fr2 h2)(hs:gf4 T g n0 l fr h=some (fr',h')):
 ∃fr2' h2',gf4 T g n0 l fr2 h2=some (fr2',h2')∧Eqv n0 fr' h' fr2' h2':=by
 obtain⟨π,a1,a2,a3,a4,a5⟩:=he.ex
 obtain⟨fr2',h2',k1,k2,k3⟩:=yh3 (hg π) hT (n0:=n0) (n02:=n0) (fun o o2 h1 h2=>by
  have:=(a2.uni _ _ _ _ h1 (a4 o h2)).1 rfl;omega) hl a1 a2 hs
 obtain⟨m,m1,m2⟩:=k3.more
 refine⟨fr2',h2',k1,π,k2,k3.me,by omega,a4,fun o ho=> ?_⟩
 by_cases hlt:o<h.length
 ·exact a5 o hlt
 ·exact⟨h2.length+(o-h.length),by have:=a2.new (o-h.length);rwa [show h.length+(o-h.length)=o by omega]at this⟩
def AOp.isNew:AOp→Bool
 | .alloc .. | .box .. | .mkSl .. | .mks .. =>true
 |_=>false
theorem gy5{op:AOp}(hn:op.isNew=true)(hgood:op.good=true){fr:Fr}{h h':H}{v:Option Value}(ha:aop fr h op=some (v,h')):
 ∃(mk:Nat→Value) (r:Row),(∀h2,aop fr h2 op=some (some (mk h2.length),h2++[.row r]))∧(∀(ρ:Rel) n o o2,ρ o o2→o<n→E ρ n (mk o) (mk o2))∧(∀n,FE Eq n fr fr→LE Eq n r.cells r.cells):=by
 cases op<;>first|(cases hn;done)|skip
 case alloc elem zs=>
  exact⟨fun o=> .pointer (some ⟨o,0,none⟩),⟨zs,elem,0,true⟩,fun h2=>rfl,fun ρ n o o2 h1 h2=> .ptr _ _ _ h1 h2,fun n _=>LE.self (show zs.all tc5=true from hgood)⟩
 case box elem size x=>
  simp only[aop]at ha
  split at ha
  ·rename_i u hu
   split at ha
   ·rename_i hc
    refine⟨fun o=> .pointer (some ⟨o,0,none⟩),⟨u.cells.toList,elem,0,true⟩,fun h2=>by simp only[aop,hu];rw[if_pos hc],fun ρ n o o2 h1 h2=> .ptr _ _ _ h1 h2,fun n hF=> ?_⟩
    obtain⟨u2,e1,e2⟩:=sq7 hF hu
    rw[hu]at e1;cases e1
    exact e2.cells
   ·cases ha
  ·cases ha
 case mkSl elem size len parts=>
  simp only[aop]at ha
  split at ha
  ·rename_i vs hvs
   split at ha
   ·rename_i hc
    refine⟨fun o=> .slice (some ⟨o,0,none⟩) len len,⟨cat vs,elem,size,true⟩,fun h2=>by simp only[aop,hvs];rw[if_pos hc],fun ρ n o o2 h1 h2=> .sl _ _ _ _ _ h1 h2,fun n hF=> ?_⟩
    obtain⟨vs2,e1,e2⟩:=ce4 hF hvs
    rw[hvs]at e1;cases e1
    exact(n41 (size:=size) e2).2
   ·cases ha
  ·cases ha
 case mks elem size bytes zs l c=>
  simp only[aop]at ha
  split at ha
  ·rename_i kl l' kc c' h3 h4
   split at ha
   ·rename_i hc
    exact⟨fun o=> .slice (some ⟨o,0,none⟩) l'.toNat c'.toNat,⟨rep zs c'.toNat,elem,size,true⟩,fun h2=>by simp only[aop,h3,h4];rw[if_pos hc],fun ρ n o o2 h1 h2=> .sl _ _ _ _ _ h1 h2,fun n hF=>LE.rep (LE.self (show zs.all tc5=true from hgood)) _⟩
   ·cases ha
  ·cases ha
theorem op1{o:AOper}(hn:o.op.isNew=true)(hgood:o.op.good=true){fr:Fr}{h h':H}{v:Option Value}(ha:core T g n0 o fr h=some (v,h')):
 (∀h2,core T g n0 o fr h2=some (v,h2))∨
 ∃(mk:Nat→Value) (r:Row),(∀h2,core T g n0 o fr h2=some (some (mk h2.length),h2++[.row r]))∧(∀(ρ:Rel) n o o2,ρ o o2→o<n→E ρ n (mk o) (mk o2))∧(∀n,FE Eq n fr fr→LE Eq n r.cells r.cells):=by
 unfold core at ha
 split at ha
 ·rename_i hgd
  cases ha
  exact .inl fun h2=>by unfold core;rw[hgd]
 ·rename_i hgd
  split at ha
  ·rename_i hop;rw[hop]at hn;cases hn
  ·rename_i hop;rw[hop]at hn;cases hn
  ·rename_i hne1 hne2
   split at ha
   ·rename_i hol
    obtain⟨mk,r,k1,k2,k3⟩:=gy5 hn hgood ha
    refine .inr ⟨mk,r,fun h2=> ?_,k2,k3⟩
    unfold core
    simp only[hgd]
    rw[if_pos hol]
    exact k1 h2
   ·cases ha
 ·cases ha
theorem sn7{o:AOper}(hc:o.op.cls=1){fr:Fr}{h hx:H}{n:Nat}(hF:FE Eq n fr fr)(hsub: ∀x r,x<n→H.row hx x=some r→h.row x=some r){v:Option Value}{h':H}(hs:core T g n0 o fr hx=some (v,h')):core T g n0 o fr h=some (v,h):=by
 have hx':=(sl5 hc hs).1
 simp only at hx'
 subst hx'
 unfold core at hs⊢
 split at hs
 ·cases hs;rfl
 ·split at hs
  ·rename_i hop;rw[hop]at hc;cases hc
  ·rename_i hop;rw[hop]at hc;cases hc
  ·rename_i hne1 hne2
   split at hs
   ·rename_i hold
    rw[if_pos hold]
    have key: ∀{agg:Bool} {k:Nat} {a:Operand},aop fr h' (.ld agg k a)=some (v,h')→aop fr h (.ld agg k a)=some (v,h):=by
     intro agg k a hs
     simp only[aop]at hs⊢
     split at hs
     ·rename_i ad had
      obtain⟨v2,e1,e2⟩:=sq7 hF had
      obtain⟨o2,q1,q2,q3,rfl⟩:=e2.bq1
      split at hs
      ·cases hs
      ·rename_i hsp
       rw[if_neg hsp]
       split at hs
       ·unfold H.lds at hs⊢
        split at hs
        ·rename_i cs hcs
         split at hcs
         ·rename_i r hr
          rw[hsub _ _ q3 hr]
          cases hs
          simp only[hcs]
         ·cases hcs
        ·cases hs
       ·unfold H.ld1 at hs⊢
        split at hs
        ·rename_i u hu
         split at hu
         ·rename_i r hr
          rw[hsub _ _ q3 hr]
          cases hs
          simp only[hu]
         ·cases hu
        ·cases hs
     ·cases hs
    have keyb: ∀{a:Operand},bx fr h' a=true→bx fr h a=true:=by
     intro a hb
     unfold bx at hb⊢
     cases hev:ev fr a with
     |none=>rw[hev]at hb;cases hb
     |some w=>
      rw[hev]at hb
      split at hb
      ·rename_i ad e
       cases e
       obtain⟨v2,e1,e2⟩:=sq7 hF hev
       obtain⟨o2,q1,q2,q3,rfl⟩:=e2.bq1
       unfold boxed at hb⊢
       split at hb
       ·rename_i r hr
        simp only[hsub _ _ q3 hr];exact hb
       ·cases hb
      ·cases hb
    cases hop:o.op<;>rw[hop]at hc<;>simp only[AOp.cls]at hc<;>first|(exfalso;revert hc;decide)|skip
    case ld agg k a=>rw[hop]at hs;exact key hs
    case ldb agg k a=>
     rw[hop]at hs
     obtain⟨hb,hs⟩:=zx2 hs
     show aop fr h (.ldb agg k a)=_
     rw[fd7,if_pos (keyb hb)];exact key hs
    case sl size x lo hi=>
     rw[hop]at hs
     simp only[aop]at hs⊢
     split at hs
     ·rename_i a l c lo' hi' h3 h4 h5
      split at hs
      ·rename_i hcond
       cases hs
       have hu:ss4 h size a=true:=by
        have hu:=hcond.2.2.2
        cases a with
        |none=>rfl
        |some a=>
         obtain⟨v2,e1,e2⟩:=sq7 hF h3
         obtain⟨o2,q1,q2,q3,rfl⟩:=e2.wy5
         unfold ss4 at hu⊢
         simp only at hu⊢
         split at hu
         ·rename_i r hr;rw[hsub _ _ q3 hr];exact hu
         ·cases hu
       rw[if_pos ⟨hcond.1,hcond.2.1,hcond.2.2.1,hu⟩]
      ·cases hs
     ·cases hs
   ·cases hs
 ·cases hs
def AOp.isApp:AOp→Bool
 | .app .. =>true
 |_=>false
theorem np7{h:H}{x y:Nat}{r:Row}(hx:x<h.length)(hr:H.row (kill h y) x=some r):h.row x=some r:=by
 unfold H.row kill at*
 by_cases he:y=x
 ·rw[he,List.getElem?_set_self hx]at hr;cases hr
 ·rw[List.getElem?_set_ne he]at hr;exact hr
theorem a27{o:AOper}(hc:o.op.isApp=true){fr:Fr}{h h':H}{v:Option Value}(hs:core T g n0 o fr h=some (v,h')): ∀x r,x<h.length→H.row h' x=some r→h.row x=some r:=by
 have happ: ∀{elem size bytes s x v h'},aapp elem size bytes h s x=some (v,h')→ ∀x r,x<h.length→H.row h' x=some r→h.row x=some r:=by
  intro elem size bytes s x v h' hap x r hx hr
  unfold aapp aput at hap
  split at hap<;>first|(cases hap;done)|skip
  split at hap<;>first|(cases hap;done)|skip
  split at hap
  ·split at hap<;>first|(cases hap;done)|skip
   split at hap
   ·cases hap;exact hr
   ·split at hap
    ·cases hap;rwa [n64 hx]at hr
    ·cases hap
  ·split at hap<;>first|(cases hap;done)|skip
   split at hap
   ·cases hap
    rw[n64 (by simp[kill];exact hx)]at hr
    exact np7 hx hr
   ·cases hap
 unfold core at hs
 split at hs
 ·cases hs;exact fun _ _ _ h=>h
 ·cases hop:o.op<;>rw[hop]at hc<;>first|(cases hc;done)|skip
  rw[hop]at hs
  simp only at hs
  split at hs
  ·simp only[aop]at hs
   split at hs
   ·split at hs
    ·rename_i hap
     cases hs
     exact happ hap
    ·cases hs
   ·cases hs
  ·cases hs
 ·cases hs
def adds(o:AOper):Bool:=Nat.ble o.op.cls 2&&(!o.op.isCall||o.chk)
theorem ga6{o:AOper}(ha:adds o=true){fr:Fr}{h:H}{p}(hs:core T g n0 o fr h=some p):h<+:p.2:=by
 simp only[adds,Bool.and_eq_true]at ha
 have h2:=Nat.le_of_ble_eq_true ha.1
 by_cases h0:o.op.cls=0
 ·rw[(rf7 h0 hs).1];exact List.prefix_refl _
 ·by_cases h1:o.op.cls=1
  ·rw[(sl5 h1 hs).1];exact List.prefix_refl _
  ·exact uh4 (by omega) ha.2 hs
def cut(N p:Nat):Rel:=fun o o2=>(o<N∧o2=o)∨(N+p≤o∧o2+p=o)
def ins(N p:Nat):Rel:=fun o o2=>(o<N∧o2=o)∨(N≤o∧o2=o+p)
def flip(N p q:Nat):Rel:=fun o o2=>(o<N∧o2=o)∨(N≤o∧o<N+p∧o2=o+q)∨(N+p≤o∧o<N+p+q∧o2+p=o)∨(N+p+q≤o∧o2=o)
theorem ii6{h h':H}{o:Nat}(hp:h<+:h')(ho:o<h.length):h'[o]? =h[o]? :=by
 obtain⟨t,rfl⟩:=hp
 exact List.getElem?_append_left ho
theorem OE.none{ρ:Rel}{n:Nat}{h h2:H}{o o2:Nat}(h1:h.length≤o)(h3:h2.length≤o2):OE ρ n h[o]? h2[o2]? :=by
 rw[List.getElem?_eq_none h1,List.getElem?_eq_none h3];trivial
theorem ME.cut{h h1:H}(hw:ME Eq h h)(hp:h<+:h1):ME (cut h.length (h1.length-h.length)) h1 h:=by
 have hl:=hp.length_le
 refine⟨fun o o2 p p2 h3 h4=>by unfold Am.cut at h3 h4;omega,fun j=>by unfold Am.cut;omega,fun o o2 ho=> ?_⟩
 unfold Am.cut at ho
 rcases ho with⟨h3,rfl⟩|⟨h3,h4⟩
 ·rw[ii6 hp h3]
  exact(hw.get _ _ rfl).mono fun x y h5 h6=>⟨.inl ⟨h5,h6.symm⟩,by omega⟩
 ·exact OE.none (by omega) (by omega)
theorem ME.ins{h h1:H}(hw:ME Eq h h)(hp:h<+:h1):ME (ins h.length (h1.length-h.length)) h h1:=by
 have hl:=hp.length_le
 refine⟨fun o o2 p p2 h3 h4=>by unfold Am.ins at h3 h4;omega,fun j=>by unfold Am.ins;omega,fun o o2 ho=> ?_⟩
 unfold Am.ins at ho
 rcases ho with⟨h3,rfl⟩|⟨h3,h4⟩
 ·rw[ii6 hp h3]
  exact(hw.get _ _ rfl).mono fun x y h5 h6=>⟨.inl ⟨h5,h6.symm⟩,by omega⟩
 ·exact OE.none (by omega) (by omega)
theorem FE.into{ρ:Rel}{n m:Nat}{fr:Fr}(hF:FE Eq n fr fr)(hr: ∀o,o<n→ρ o o)(hn:n≤m):FE ρ m fr fr:=hF.mono fun x y h5 h6=>⟨h6▸hr x h5,by omega⟩
def gw4(a b:AOper):Bool:=
 (match a.dst with|some d=> !b.looks.contains d&&b.dst !=some d|none=>true)&&(match b.dst with|some d=> !a.looks.contains d|none=>true)&&
 (a.op.isNew||b.op.isNew||(adds a&&adds b)||(a.op.isApp&&b.op.cls==1))
theorem OVE.mono{ρ ρ':Rel}{n n':Nat}{v v2:Option Value}(h:OVE ρ n v v2)(hr: ∀o o2,o<n→ρ o o2→ρ' o o2∧o<n'):OVE ρ' n' v v2:=by
 cases v<;>cases v2<;>first|exact h|exact E.mono h hr
theorem ia1{N p q:Nat}(hn:n0≤N){fr:Fr}{hc hs:H}(hF:FE Eq N fr fr)(lc:hc.length=N+p+q)(ls:hs.length=N+p+q)
 (g1: ∀o,o<N→OE (flip N p q) hc.length hc[o]? hs[o]?) (g2: ∀o,N≤o→o<N+p→OE (flip N p q) hc.length hc[o]? hs[o+q]?) (g3: ∀o,N≤o→o<N+q→OE (flip N p q) hc.length hc[o+p]? hs[o]?)
 {d1 d2:Option Nat} (hd: ∀s,d1=some s→d2≠some s) {v1 v2 u1 u2:Option Value} (hv1:OVE (flip N p q) hc.length v1 u1) (hv2:OVE (flip N p q) hc.length v2 u2):
 Eqv n0 ((fr.put d1 v1).put d2 v2) hc ((fr.put d2 u2).put d1 u1) hs:=by
 refine⟨flip N p q, ?_,⟨fun o o2 x x2 h3 h4=>by unfold flip at h3 h4;omega,fun j=>by unfold flip;omega,fun o o2 ho=> ?_⟩,by omega,fun o ho=>by unfold flip;omega,fun o ho=> ?_⟩
 ·rw[←put_comm hd]
  exact((hF.into (fun o ho=> .inl ⟨ho,rfl⟩) (by omega)).put _ hv1).put _ hv2
 ·unfold flip at ho
  rcases ho with⟨h1,rfl⟩|⟨h1,h2,rfl⟩|⟨h1,h2,h3⟩|⟨h1,rfl⟩
  ·exact g1 _ h1
  ·exact g2 _ h1 h2
  ·obtain rfl:o=o2+p:=h3.symm
   exact g3 o2 (by omega) (by omega)
  ·exact OE.none (by omega) (by omega)
 ·by_cases h1:o<N
  ·exact⟨o, .inl ⟨h1,rfl⟩⟩
  ·by_cases h2:o<N+p
   ·exact⟨o+q, .inr (.inl ⟨by omega,h2,rfl⟩)⟩
   ·exact⟨o-p, .inr (.inr (.inl ⟨by omega,by omega,by omega⟩))⟩
theorem eo3(hg: ∀ρ,EmbG ρ g)(hT:x28 T){o1 o2:AOper}(hs:gw4 o1 o2=true)(q1:o1.op.good=true)(q2:o2.op.good=true){fr fr1 fr2:Fr}{h h1 h2:H}(hn:n0≤h.length)(hw:WFs fr h)
 (s1:km6 T g n0 o1 fr h=some (fr1,h1)) (s2:km6 T g n0 o2 fr1 h1=some (fr2,h2)):
 ∃fr1' h1' fr2' h2',km6 T g n0 o2 fr h=some (fr1',h1')∧km6 T g n0 o1 fr1' h1'=some (fr2',h2')∧Eqv n0 fr2 h2 fr2' h2':=by
 have hwf:WFs fr2 h2:=WFs.run (n0:=n0) hg hT (l:=[o1,o2]) (by simp[q1,q2]) hw (by simp only[gf4,s1,s2])
 simp only[gw4,Bool.and_eq_true]at hs
 obtain⟨⟨ha,hb⟩,hcls⟩:=hs
 have d1: ∀d,o1.dst=some d→d∉o2.looks∧o2.dst≠some d:=by
  intro d hd
  rw[hd]at ha
  simpa using ha
 have d2: ∀d,o2.dst=some d→d∉o1.looks:=by
  intro d hd
  rw[hd]at hb
  simpa using hb
 have dd: ∀s,o1.dst=some s→o2.dst≠some s:=fun s hs=>(d1 s hs).2
 rw[sk9]at s1 s2
 cases c1:core T g n0 o1 fr h with
 |none=>rw[c1]at s1;cases s1
 |some p1=>
  obtain⟨v1,hx⟩:=p1
  rw[c1]at s1
  simp only[Option.map_some,Option.some.injEq,Prod.mk.injEq]at s1
  obtain⟨rfl,rfl⟩:=s1
  cases c2:core T g n0 o2 (fr.put o1.dst v1) hx with
  |none=>rw[c2]at s2;cases s2
  |some p2=>
   obtain⟨v2,hy⟩:=p2
   rw[c2]at s2
   simp only[Option.map_some,Option.some.injEq,Prod.mk.injEq]at s2
   obtain⟨rfl,rfl⟩:=s2
   have e2: ∀u h,core T g n0 o2 (fr.put o1.dst u) h=core T g n0 o2 fr h:=fun u h=>c43 fun t ht=>dd0 fun hd=>(d1 t hd).1 ht
   have e1: ∀u h,core T g n0 o1 (fr.put o2.dst u) h=core T g n0 o1 fr h:=fun u h=>c43 fun t ht=>dd0 fun hd=>d2 t hd ht
   rw[e2]at c2
   have fin: ∀{u2 hb u1 hs},core T g n0 o2 fr h=some (u2,hb)→core T g n0 o1 fr hb=some (u1,hs)→Eqv n0 ((fr.put o1.dst v1).put o2.dst v2) hy ((fr.put o2.dst u2).put o1.dst u1) hs→
    ∃fr1' h1' fr2' h2',km6 T g n0 o2 fr h=some (fr1',h1')∧km6 T g n0 o1 fr1' h1'=some (fr2',h2')∧Eqv n0 ((fr.put o1.dst v1).put o2.dst v2) hy fr2' h2':=by
    intro u2 hb u1 hs k1 k2 k3
    exact⟨fr.put o2.dst u2,hb,_,hs,by rw[sk9,k1];rfl,by rw[sk9,e1,k2];rfl,k3⟩
   have same:core T g n0 o2 fr h=some (v2,h)∧core T g n0 o1 fr h=some (v1,hy)∨(core T g n0 o2 fr h=some (v2,hy)∧core T g n0 o1 fr hy=some (v1,hy))→
    ∃fr1' h1' fr2' h2',km6 T g n0 o2 fr h=some (fr1',h1')∧km6 T g n0 o1 fr1' h1'=some (fr2',h2')∧Eqv n0 ((fr.put o1.dst v1).put o2.dst v2) hy fr2' h2':=by
    rintro(⟨k1,k2⟩|⟨k1,k2⟩)
    ·exact fin k1 k2 (by rw[←put_comm dd];exact hwf.eqv n0)
    ·exact fin k1 k2 (by rw[←put_comm dd];exact hwf.eqv n0)
   have cutS: ∀{k:Nat},h.length+k≤hx.length→h<+:hx→ ∃u2 hb,core T g n0 o2 fr h=some (u2,hb)∧OVE (cut h.length (hx.length-h.length)) hy.length v2 u2∧Post (cut h.length (hx.length-h.length)) hx hy h hb:=by
    intro k hk hp
    exact w39 (hg _) hT (n0:=n0) (n02:=n0) (fun o o2 h3 h4=>by unfold cut at h3;omega) q2 (hw.fe.into (fun o ho=> .inl ⟨ho,rfl⟩) hp.length_le) (hw.me.cut hp) c2
   have insS: ∀{hb:H},h<+:hb→ ∃u1 hs,core T g n0 o1 fr hb=some (u1,hs)∧OVE (ins h.length (hb.length-h.length)) hx.length v1 u1∧Post (ins h.length (hb.length-h.length)) h hx hb hs:=by
    intro hb hp
    exact w39 (hg _) hT (n0:=n0) (n02:=n0) (fun o o2 h3 h4=>by unfold ins at h3;omega) q1 (hw.fe.into (fun o ho=> .inl ⟨ho,rfl⟩) (Nat.le_refl _)) (hw.me.ins hp) c1
   simp only[Bool.or_eq_true,Bool.and_eq_true]at hcls
   rcases hcls with((h0|h0)|⟨h0,h0'⟩)|⟨h0,h0'⟩
   ·--the first makes one object
    rcases op1 h0 q1 c1 with k|⟨mk,r,k1,k2,k3⟩
    ·have:=k h
     rw[c1]at this;cases this
     exact same (.inr ⟨c2,k _⟩)
    ·have:=k1 h
     rw[c1]at this;cases this
     have hp:h<+:h++[Ob.row r]:=List.prefix_append _ _
     have hl:(h++[Ob.row r]).length-h.length=1:=by simp
     obtain⟨u2,hb,m1,m2,m3⟩:=cutS (k:=0) (by simp) hp
     rw[hl]at m2 m3
     obtain⟨m,l1,l2⟩:=m3.more
     simp only[List.length_append,List.length_cons,List.length_nil]at l1
     refine fin m1 (k1 hb) (ia1 (p:=1) (q:=m) hn hw.fe (by omega) (by simp;omega) (fun o ho=> ?_) (fun o ho1 ho2=> ?_) (fun o ho1 ho2=> ?_) dd ?_ (m2.mono ?_))
     ·rw[List.getElem?_append_left (by omega)]
      exact(m3.me.get o o (.inl ⟨ho,rfl⟩)).mono fun x y h5 h6=>⟨by unfold cut at h6;unfold flip;omega,h5⟩
     ·obtain rfl:o=h.length:=by omega
      rw[m3.keep _ (by simp) (fun o2 ho=>by unfold cut at ho;omega),show h.length+m=hb.length by omega]
      simp only[List.length_append,List.length_cons,List.length_nil,List.getElem?_append_right (Nat.le_refl _),Nat.sub_self,List.getElem?_cons_zero]
      exact⟨rfl,rfl,rfl,(k3 _ hw.fe).mono fun x y h5 h6=>⟨.inl ⟨h5,h6.symm⟩,by omega⟩⟩
     ·rw[List.getElem?_append_left (by omega)]
      exact(m3.me.get (o+1) o (.inr ⟨by omega,rfl⟩)).mono fun x y h5 h6=>⟨by unfold cut at h6;unfold flip;omega,h5⟩
     ·exact k2 _ _ _ _ (by unfold flip;omega) (by omega)
     ·exact fun x y h5 h6=>⟨by unfold cut at h6;unfold flip;omega,h5⟩
   ·--the second does
    rcases op1 h0 q2 c2 with k|⟨mk,r,k1,k2,k3⟩
    ·have:=k hx
     rw[c2]at this;cases this
     exact same (.inl ⟨k _,c1⟩)
    ·have:=k1 hx
     rw[c2]at this;cases this
     have hp:h<+:h++[Ob.row r]:=List.prefix_append _ _
     have hl:(h++[Ob.row r]).length-h.length=1:=by simp
     obtain⟨u1,hs,m1,m2,m3⟩:=insS hp
     rw[hl]at m2 m3
     obtain⟨m,l1,l2⟩:=m3.more
     simp only[List.length_append,List.length_cons,List.length_nil]at l2
     refine fin (k1 h) m1 (ia1 (p:=m) (q:=1) hn hw.fe (by simp;omega) (by omega) (fun o ho=> ?_) (fun o ho1 ho2=> ?_) (fun o ho1 ho2=> ?_) dd (m2.mono ?_) ?_)
     ·rw[List.getElem?_append_left (by omega)]
      exact(m3.me.get o o (.inl ⟨ho,rfl⟩)).mono fun x y h5 h6=>⟨by unfold ins at h6;unfold flip;omega,by simp;omega⟩
     ·rw[List.getElem?_append_left (by omega)]
      exact(m3.me.get o (o+1) (.inr ⟨by omega,rfl⟩)).mono fun x y h5 h6=>⟨by unfold ins at h6;unfold flip;omega,by simp;omega⟩
     ·obtain rfl:o=h.length:=by omega
      rw[m3.keep2 _ (by simp) (fun o2 ho=>by unfold ins at ho;omega),show h.length+m=hx.length by omega]
      simp only[List.getElem?_append_right (Nat.le_refl _),Nat.sub_self,List.getElem?_cons_zero]
      exact⟨rfl,rfl,rfl,(k3 _ hw.fe).mono fun x y h5 h6=>⟨.inl ⟨h5,h6.symm⟩,by simp;omega⟩⟩
     ·exact fun x y h5 h6=>⟨by unfold ins at h6;unfold flip;omega,by simp;omega⟩
     ·exact k2 _ _ _ _ (by unfold flip;omega) (by simp)
   ·--both only add
    have p1:=ga6 h0 c1
    have p2:=ga6 h0' c2
    simp only at p1 p2
    obtain⟨u2,hb,m1,m2,m3⟩:=cutS (k:=0) (by simpa using p1.length_le) p1
    have p3:=m3.pre (hw.me.cut p1) p2
    obtain⟨u1,hs,n1,n2,n3⟩:=insS p3
    have p4:=n3.pre (hw.me.ins p3) p1
    have L1:=p1.length_le
    have L2:=p2.length_le
    have L3:=p3.length_le
    obtain⟨a,a1,a2⟩:=m3.more
    obtain⟨b,b1,b2⟩:=n3.more
    refine fin m1 n1 (ia1 (p:=b) (q:=a) hn hw.fe (by omega) (by omega) (fun o ho=> ?_) (fun o ho1 ho2=> ?_) (fun o ho1 ho2=> ?_) dd (n2.mono ?_) (m2.mono ?_))
    ·rw[ii6 p2 (by omega),ii6 p1 ho,ii6 p4 (by omega),ii6 p3 ho]
     exact(hw.me.get o o rfl).mono fun x y h5 h6=>⟨.inl ⟨h5,h6.symm⟩,by omega⟩
    ·rw[ii6 p2 (by omega)]
     exact(n3.me.get o (o+a) (.inr ⟨by omega,by omega⟩)).mono fun x y h5 h6=>⟨by unfold ins at h6;unfold flip;omega,by omega⟩
    ·rw[ii6 p4 (by omega)]
     exact(m3.me.get (o+b) o (.inr ⟨by omega,by omega⟩)).mono fun x y h5 h6=>⟨by unfold cut at h6;unfold flip;omega,by omega⟩
    ·exact fun x y h5 h6=>⟨by unfold ins at h6;unfold flip;omega,by omega⟩
    ·exact fun x y h5 h6=>⟨by unfold cut at h6;unfold flip;omega,by omega⟩
   ·--an append,and a look at what is still there
    have h1:o2.op.cls=1:=by simpa using h0'
    have e:=(sl5 h1 c2).1
    simp only at e
    subst e
    exact same (.inl ⟨sn7 h1 hw.fe (a27 h0 c1) c2,c1⟩)
end
end Go.Am
namespace Go.Am
section
variable {T:Tab} {g:List ARes→List It→Fr→H→Res} {n0:Nat}
theorem df4: ∀{l1 l2:List AOper} {fr:Fr} {h:H} {r},gf4 T g n0 (l1++l2) fr h=some r↔ ∃fr1 h1,gf4 T g n0 l1 fr h=some (fr1,h1)∧gf4 T g n0 l2 fr1 h1=some r
 | [],l2,fr,h,r=>by
   constructor
   ·intro hr;exact⟨fr,h,rfl,hr⟩
   ·rintro⟨fr1,h1,he,hr⟩;cases he;exact hr
 |o::l1,l2,fr,h,r=>by
  simp only[List.cons_append,gf4]
  cases km6 T g n0 o fr h with
  |none=>simp
  |some p=>obtain⟨fr1,h1⟩:=p;simp only;exact df4
def es5(a b:AOper):Bool:=ts2 a b||gw4 a b
theorem ub2(hg: ∀rs ks fr h v h',g rs ks fr h=some (v,h')→h.length≤h'.length)(hE: ∀ρ,EmbG ρ g)(hT:x28 T){o1 o2:AOper}(hs:es5 o1 o2=true)(q1:o1.op.good=true)(q2:o2.op.good=true){fr fr1 fr2:Fr}{h h1 h2:H}(hn:n0≤h.length)(hw:WFs fr h)
 (s1:km6 T g n0 o1 fr h=some (fr1,h1)) (s2:km6 T g n0 o2 fr1 h1=some (fr2,h2)):
 ∃fr1' h1' fr2' h2',km6 T g n0 o2 fr h=some (fr1',h1')∧km6 T g n0 o1 fr1' h1'=some (fr2',h2')∧Eqv n0 fr2 h2 fr2' h2':=by
 simp only[es5,Bool.or_eq_true]at hs
 rcases hs with hs|hs
 ·obtain⟨fr1',h1',k1,k2⟩:=swap hs hn s1 s2
  have hwf:WFs fr2 h2:=WFs.run (n0:=n0) hE hT (l:=[o1,o2]) (by simp[q1,q2]) hw (by simp only[gf4,s1,s2])
  exact⟨fr1',h1',fr2,h2,k1,k2,hwf.eqv n0⟩
 ·exact eo3 hE hT hs q1 q2 hn hw s1 s2
theorem xi0(hg: ∀rs ks fr h v h',g rs ks fr h=some (v,h')→h.length≤h'.length)(hE: ∀ρ,EmbG ρ g)(hT:x28 T){o:AOper}(ho:o.op.good=true): ∀{l:List AOper} {fr fr':Fr} {h h':H},(l.all fun o=>o.op.good)=true→n0≤h.length→WFs fr h→(∀x∈l,es5 o x=true)→
 gf4 T g n0 (o::l) fr h=some (fr',h')→ ∃fr2 h2,gf4 T g n0 (l++[o]) fr h=some (fr2,h2)∧Eqv n0 fr' h' fr2 h2
 | [],fr,fr',h,h',_,hn,hw,_,hr=>⟨fr',h',hr,(WFs.run (n0:=n0) hE hT (l:=[o]) (by simp[ho]) hw hr).eqv n0⟩
 |x::l,fr,fr',h,h',hl,hn,hw,hs,hr=>by
  simp only[List.all_cons,Bool.and_eq_true]at hl
  simp only[gf4]at hr
  cases h1:km6 T g n0 o fr h with
  |none=>rw[h1]at hr;cases hr
  |some p1=>
   obtain⟨f1,g1⟩:=p1
   rw[h1]at hr
   simp only at hr
   cases h2:km6 T g n0 x f1 g1 with
   |none=>rw[h2]at hr;cases hr
   |some p2=>
    obtain⟨f2,g2⟩:=p2
    rw[h2]at hr
    simp only at hr
    obtain⟨f3,g3,f4,g4,k1,k2,k3⟩:=ub2 hg hE hT (hs x (by simp)) ho hl.1 hn hw h1 h2
    have l1:=lr9 hg h1
    have l2:=lr9 hg h2
    have l3:=lr9 hg k1
    have l4:=lr9 hg k2
    obtain⟨f5,g5,k4,k5⟩:=k3.run hE hT hl.2 (by omega) hr
    have hw3:WFs f3 g3:=WFs.run (n0:=n0) hE hT (l:=[x]) (by simp[hl.1]) hw (by simp only[gf4,k1])
    obtain⟨f6,g6,k6,k7⟩:=xi0 hg hE hT ho (l:=l) (fr:=f3) (h:=g3) hl.2 (by omega) hw3 (fun y hy=>hs y (by simp[hy])) (by simp only[gf4,k2];exact k4)
    exact⟨f6,g6,by simp only[List.cons_append,gf4,k1];exact k6,k5.trans k7⟩
theorem tv5(hg: ∀rs ks fr h v h',g rs ks fr h=some (v,h')→h.length≤h'.length)(hE: ∀ρ,EmbG ρ g)(hT:x28 T)(A:Nat→AOper)(hA: ∀i,(A i).op.good=true): ∀(S L:List Nat) {fr fr':Fr} {h h':H},n0≤h.length→WFs fr h→S.Pairwise (· < ·)→L.Perm S→
 (∀L1 x L2,L=L1++x::L2→ ∀i∈S,i<x→es5 (A i) (A x)=false→i∈L1)→
 gf4 T g n0 (S.map A) fr h=some (fr',h')→ ∃fr2 h2,gf4 T g n0 (L.map A) fr h=some (fr2,h2)∧Eqv n0 fr' h' fr2 h2
 | [],L,fr,fr',h,h',hn,hw,_,hp,_,hr=>by
   obtain rfl:=List.perm_nil.1 hp
   cases hr
   exact⟨fr,h,rfl,hw.eqv n0⟩
 |i::S,L,fr,fr',h,h',hn,hw,hsrt,hp,hord,hr=>by
  have hall: ∀M:List Nat,((M.map A).all fun o=>o.op.good)=true:=fun M=>by rw[List.all_eq_true];intro x hx;obtain⟨y,_,rfl⟩:=List.mem_map.1 hx;exact hA y
  have hnd:L.Nodup:=(hp.nodup_iff).2 (hsrt.imp fun h=>Nat.ne_of_lt h)
  have hi:i∈L:=hp.mem_iff.2 (by simp)
  obtain⟨L1,L2,rfl⟩:=List.append_of_mem hi
  have hp':(L1++L2).Perm S:=(List.Perm.cons_inv ((List.perm_middle.symm).trans hp))
  have hsrt':S.Pairwise (· < ·):=hsrt.of_cons
  have hmin: ∀x∈S,i<x:=fun x hx=>List.rel_of_pairwise_cons hsrt hx
  simp only[List.map_cons,gf4]at hr
  cases h1:km6 T g n0 (A i) fr h with
  |none=>rw[h1]at hr;cases hr
  |some p1=>
   obtain⟨f1,g1⟩:=p1
   rw[h1]at hr
   simp only at hr
   have hn1:n0≤g1.length:=Nat.le_trans hn (lr9 hg h1)
   have hw1:WFs f1 g1:=WFs.run (n0:=n0) hE hT (l:=[A i]) (by simp[hA]) hw (by simp only[gf4,h1])
   obtain⟨f2,g2,e2,ih⟩:=tv5 hg hE hT A hA S (L1++L2) (fr:=f1) (h:=g1) hn1 hw1 hsrt' hp' (fun M1 x M2 he k hk hkx hsw=>by
    have hki:k≠i:=fun e=>by have:=hmin k hk;omega
    rcases List.append_eq_append_iff.1 he with⟨a',e1,e2⟩|⟨c',e1,e2⟩
    ·--x lies in L2
     have:=hord (L1++i::a') x M2 (by rw[e2];simp) k (by simp[hk]) hkx hsw
     rw[e1]
     simp only[List.mem_append,List.mem_cons]at this⊢
     rcases this with h|h|h
     ·exact .inl h
     ·exact absurd h hki
     ·exact .inr h
    ·cases c' with
     |nil=>
      simp only[List.nil_append]at e2
      have:=hord (L1++[i]) x M2 (by rw[←e2];simp) k (by simp[hk]) hkx hsw
      simp only[List.append_nil]at e1
      rw[←e1]
      simp only[List.mem_append,List.mem_singleton]at this
      rcases this with h|h
      ·exact h
      ·exact absurd h hki
     |cons y c'=>
      simp only[List.cons_append,List.cons.injEq]at e2
      obtain⟨rfl,e2⟩:=e2
      exact hord M1 x (c'++i::L2) (by rw[e1];simp) k (by simp[hk]) hkx hsw) hr
   rw[List.map_append,df4]at e2
   obtain⟨fr2,h2,k1,k2⟩:=e2
   obtain⟨f3,g3,k3,k4⟩: ∃f3 g3,gf4 T g n0 (L1.map A++[A i]) fr h=some (f3,g3)∧Eqv n0 fr2 h2 f3 g3:=by
    refine xi0 hg hE hT (hA i) (hall L1) hn hw (fun x hx=> ?_) (by simp only[gf4,h1];exact k1)
    obtain⟨y,hy,rfl⟩:=List.mem_map.1 hx
    cases hsw:es5 (A i) (A y)with
    |true=>rfl
    |false=>
     obtain⟨M1,M2,e⟩:=List.append_of_mem hy
     have hyS:y∈S:=hp'.mem_iff.1 (by simp[hy])
     have:=hord M1 y (M2++i::L2) (by rw[e];simp) i (by simp) (hmin y hyS) hsw
     have hiL1:i∈L1:=by rw[e];simp[this]
     exact absurd rfl ((List.nodup_append.1 hnd).2.2 i hiL1 i (by simp))
   obtain⟨f4,g4,k5,k6⟩:=k4.run hE hT (hall L2) (Nat.le_trans hn1 (c16 hg k1)) k2
   refine⟨f4,g4, ?_,ih.trans k6⟩
   rw[show(L1++i::L2).map A=(L1.map A++[A i])++L2.map A by simp,df4]
   exact⟨f3,g3,k3,k5⟩
end
inductive Dep (ops:Array Oper):Nat→Nat→Prop
 |edge {i j:Nat} {o:Oper} {e:Edge}:ops[j]? =some o→e∈o.after→Region.binds .any e=true→e.on=i→Dep ops i j
 |trans {i k j:Nat}:Dep ops i k→Dep ops k j→Dep ops i j
def force{α:Sort _}:Nat→(Nat→α)→α
 |0,k=>k 0
 |n+1,k=>k (n+1)
theorem force_eq{α:Sort _}(n:Nat)(k:Nat→α):force n k=k n:=by cases n<;>rfl
def wn1(W acc:Nat):List Edge→Nat
 | []=>0
 |e::l=>if Region.binds .any e&&decide (e.on<W)then(2^e.on|||((acc>>>(W*e.on))%2^W))|||wn1 W acc l else wn1 W acc l
def befN(W:Nat):List Oper→Nat→Nat→Nat
 | [],_,acc=>acc
 |o::r,j,acc=>force (acc|||(wn1 W acc o.after.toList<<<(W*j))) fun a=>befN W r (j+1) a
theorem jv6{W acc k:Nat}: ∀{l:List Edge},(wn1 W acc l).testBit k=true→k<W∧ ∃e∈l,Region.binds .any e=true∧(k=e.on∨acc.testBit (W*e.on+k)=true)
 | [],h=>by simp[wn1]at h
 |e::l,h=>by
  simp only[wn1]at h
  split at h
  ·rename_i hb
   simp only[Bool.and_eq_true,decide_eq_true_eq]at hb
   simp only[Nat.testBit_or,Nat.testBit_two_pow,Nat.testBit_mod_two_pow,Nat.testBit_shiftRight,Bool.or_eq_true,Bool.and_eq_true,decide_eq_true_eq]at h
   rcases h with(h|h)|h
   ·exact⟨by omega,e,by simp,hb.1, .inl h.symm⟩
   ·exact⟨h.1,e,by simp,hb.1, .inr h.2⟩
   ·obtain⟨h1,e',h2,h3⟩:=jv6 h
    exact⟨h1,e',by simp[h2],h3⟩
  ·obtain⟨h1,e',h2,h3⟩:=jv6 h
   exact⟨h1,e',by simp[h2],h3⟩
theorem ea1(ops:Array Oper)(W:Nat): ∀(r:List Oper) (j acc:Nat),(∀k,r[k]? =ops[j+k]?)→(∀j' i,i<W→acc.testBit (W*j'+i)=true→Dep ops i j')→
 ∀j' i,i<W→(befN W r j acc).testBit (W*j'+i)=true→Dep ops i j'
 | [],j,acc,_,hacc=>hacc
 |o::r,j,acc,hr,hacc=>by
  simp only[befN,force_eq]
  refine ea1 ops W r (j+1) _ (fun k=> ?_) ?_
  ·have:=hr (k+1)
   rw[show j+1+k=j+(k+1) by omega,←this]
   rfl
  ·intro j' i hi h
   simp only[Nat.testBit_or,Nat.testBit_shiftLeft,Bool.or_eq_true,Bool.and_eq_true,decide_eq_true_eq]at h
   rcases h with h|⟨h1,h2⟩
   ·exact hacc j' i hi h
   ·obtain⟨h3,e,he,hb,h4⟩:=jv6 h2
    have ho:ops[j]? =some o:=by have:=hr 0;simpa using this.symm
    have q1:W*j<W*(j'+1):=by rw[Nat.mul_succ];omega
    have q2:W*j'<W*(j+1):=by rw[Nat.mul_succ];omega
    have r1:=Nat.lt_of_mul_lt_mul_left q1
    have r2:=Nat.lt_of_mul_lt_mul_left q2
    obtain rfl:j'=j:=by omega
    have hk:W*j'+i-W*j'=i:=by omega
    rw[hk]at h4
    rcases h4 with h4|h4
    ·exact .edge ho (by simpa using he) hb h4.symm
    ·exact .trans (hacc _ _ hi h4) (.edge ho (by simpa using he) hb rfl)
def bm0(ops:Array Oper):Bool:=ops.toList.zipIdx.all fun(o,j)=>o.after.toList.all fun e=> !Region.binds .any e||decide (e.on<j)
theorem r68{ops:Array Oper}(h:bm0 ops=true){j:Nat}{o:Oper}(ho:ops[j]? =some o){e:Edge}(he:e∈o.after)(hb:Region.binds .any e=true):e.on<j:=by
 unfold bm0 at h
 rw[List.all_eq_true]at h
 have hm:(o,j)∈ops.toList.zipIdx:=by
  rw[List.mem_zipIdx_iff_getElem?];simpa using ho
 have:=h (o,j) hm
 simp only[List.all_eq_true]at this
 have:=this e (by simpa using he)
 simpa [hb]using this
structure Topo (ops:Array Oper) (L:List Nat):Prop where
 perm:L.Perm (List.range ops.size)
 ahead: ∀L1 j L2,L=L1++j::L2→ ∀o,ops[j]? =some o→ ∀e∈o.after,Region.binds .any e=true→e.on∈L1
theorem Topo.dep{ops:Array Oper}{L:List Nat}(h:Topo ops L){i j:Nat}(hd:Dep ops i j): ∀L1 L2,L=L1++j::L2→i∈L1:=by
 induction hd with
 |edge ho he hb hi=>intro L1 L2 hl;rw[←hi];exact h.ahead L1 _ L2 hl _ ho _ he hb
 | @trans i k j hik hkj ih1 ih2=>
   intro L1 L2 hl
   have hk:=ih2 L1 L2 hl
   obtain⟨A,C,rfl⟩:=List.append_of_mem hk
   have:=ih1 A (C++j::L2) (by rw[hl];simp)
   simp[this]
theorem bo6(ops:Array Oper)(hdn:bm0 ops=true): ∀(fuel t:Nat) (listed:Array Bool) (D:List Nat),listed.size=ops.size→(∀i,i<ops.size→(listed.getD i true=true↔i∈D))→D.Nodup→(∀i∈D,i<ops.size)→
 D.length+fuel=ops.size→
 ∃L,Region.linearise.go .any ops fuel t listed []=L∧(D++L).Perm (List.range ops.size)∧
  ∀L1 j L2,L=L1++j::L2→ ∀o,ops[j]? =some o→ ∀e∈o.after,Region.binds .any e=true→e.on∈D∨e.on∈L1
 |0,t,listed,D,hs,hl,hnd,hlt,hlen=>by
  refine⟨[],rfl, ?_,fun L1 j L2 h=>by simp at h⟩
  rw[List.append_nil,List.perm_ext_iff_of_nodup hnd List.nodup_range]
  intro i
  constructor
  ·intro hi;exact List.mem_range.2 (hlt i hi)
  ·intro hi
   by_cases hD:i∈D
   ·exact hD
   ·have hc:(i::D).Nodup:=List.nodup_cons.2 ⟨hD,hnd⟩
    have:=hc.length_le_of_subset (l₂:=List.range ops.size) (fun x hx=>by
     rcases List.mem_cons.1 hx with rfl|hx
     ·exact hi
     ·exact List.mem_range.2 (hlt x hx))
    simp at this
    omega
 |fuel+1,t,listed,D,hs,hl,hnd,hlt,hlen=>by
  have hfalse: ∀i,i<ops.size→(listed.getD i false=true↔i∈D):=by
   intro i hi
   rw[←hl i hi]
   have:i<listed.size:=by omega
   simp[Array.getD_eq_getD_getElem?,this]
  have hne:Region.ready .any ops listed≠[]:=by
   intro hnil
   have hall: ∀k i,i<k→i<ops.size→i∈D:=by
    intro k
    induction k with
    |zero=>intro i hi;omega
    |succ k ih=>
     intro i hik hi
     cases hli:listed.getD i true with
     |true=>exact(hl i hi).1 hli
     |false=>
      exfalso
      have:i∈Region.ready .any ops listed:=by
       rw[mem_ready]
       refine⟨hli,ops[i],Array.getElem?_eq_getElem hi,fun e he hb=> ?_⟩
       have hdn':=r68 hdn (Array.getElem?_eq_getElem hi) he hb
       exact(hfalse _ (by omega)).2 (ih _ (by omega) (by omega))
      rw[hnil]at this
      cases this
   have hsub:List.range ops.size ⊆ D:=fun i hi=>hall ops.size i (List.mem_range.1 hi) (List.mem_range.1 hi)
   have:=(List.nodup_range (n:=ops.size)).length_le_of_subset hsub
   simp at this
   omega
  have hlen0:0<(Region.ready .any ops listed).length:=List.length_pos_iff.2 hne
  have hmod:t%(Region.ready .any ops listed).length<(Region.ready .any ops listed).length:=Nat.mod_lt _ hlen0
  have hget:(Region.ready .any ops listed)[t%(Region.ready .any ops listed).length]? =some ((Region.ready .any ops listed)[t%(Region.ready .any ops listed).length]):=List.getElem?_eq_getElem hmod
  generalize hi:(Region.ready .any ops listed)[t%(Region.ready .any ops listed).length]=i at hget
  have him:i∈Region.ready .any ops listed:=by rw[←hi];exact List.getElem_mem _
  obtain⟨h1,o,ho,hedges⟩:=mem_ready.1 him
  have hin:i<ops.size:=(Array.getElem?_eq_some_iff.1 ho).1
  have hiD:i∉D:=fun h=>by rw[(hl i hin).2 h]at h1;cases h1
  obtain⟨L,hL,hp,ha⟩:=bo6 ops hdn fuel (t/(Region.ready .any ops listed).length) (listed.setIfInBounds i true) (D++[i]) (by simpa using hs) (fun j hj=>by
   by_cases hij:i=j
   ·subst hij
    have:i<listed.size:=by omega
    simp[Array.getD_eq_getD_getElem?,this]
   ·rw[getD_set_ne true hij,hl j hj]
    simp[Ne.symm hij]) (by
   rw[List.nodup_append]
   exact⟨hnd,by simp,fun a ha b hb=>by simp at hb;subst hb;exact fun e=>hiD (e▸ha)⟩) (fun j hj=>by
   simp only[List.mem_append,List.mem_singleton]at hj
   rcases hj with hj|rfl
   ·exact hlt j hj
   ·exact hin) (by simp;omega)
  refine⟨i::L, ?_,by simpa using hp,fun L1 j L2 he o' ho' e hem hb=> ?_⟩
  ·simp only[Region.linearise.go]
   change (match(Region.ready .any ops listed)[t%(Region.ready .any ops listed).length]? with
    |some i=>Region.linearise.go .any ops fuel (t/(Region.ready .any ops listed).length) (listed.setIfInBounds i true) [i]
    |none=>[].reverse)=i::L
   rw[hget]
   simp only
   rw[linearise_go_acc,hL]
   rfl
  ·cases L1 with
   |nil=>
    simp only[List.nil_append,List.cons.injEq]at he
    obtain⟨rfl,_⟩:=he
    rw[ho]at ho'
    cases ho'
    have:=hedges e hem hb
    have hlt':e.on<ops.size:=by have:=r68 hdn ho hem hb;omega
    exact .inl ((hfalse _ hlt').1 this)
   |cons x L1=>
    simp only[List.cons_append,List.cons.injEq]at he
    obtain⟨rfl,he⟩:=he
    rcases ha L1 j L2 he o' ho' e hem hb with h|h
    ·simp only[List.mem_append,List.mem_singleton]at h
     rcases h with h|h
     ·exact .inl h
     ·exact .inr (by simp[h])
    ·exact .inr (by simp[h])
theorem vr2{ops:Array Oper}(hdn:bm0 ops=true)(t:Nat):Topo ops (Region.schedule true ops t):=by
 obtain⟨L,hL,hp,ha⟩:=bo6 ops hdn ops.size t (Array.replicate ops.size false) [] (by simp) (fun i hi=>by simp[hi]) (by simp) (by simp) (by simp)
 have e:Region.schedule true ops t=L:=by
  simp only[Region.schedule,Bool.true_or,if_true]
  exact hL
 rw[e]
 refine⟨by simpa using hp,fun L1 j L2 he o ho e hem hb=> ?_⟩
 rcases ha L1 j L2 he o ho e hem hb with h|h
 ·cases h
 ·exact h
def zz8(ops:List Oper)(l:List AOper):Bool:=
 force (befN ops.length ops 0 0) fun b=>
 l.zipIdx.all fun(x,j)=>(l.take j).zipIdx.all fun(y,i)=>(decide (i<ops.length)&&b.testBit (ops.length*j+i))||es5 y x
def m73(ops:List Oper)(l:List (AOper×Nat)):Bool:=
 force (befN ops.length ops 0 0) fun b=>
 l.zipIdx.all fun(x,j)=>(l.take j).all fun y=>(decide (y.2<ops.length)&&b.testBit (ops.length*x.2+y.2))||es5 y.1 x.1
theorem bm3{ops:Array Oper}{l:List (AOper×Nat)}(h:m73 ops.toList l=true){i j:Nat}(hij:i<j){x y:AOper×Nat}(hx:l[j]? =some x)(hy:l[i]? =some y):Dep ops y.2 x.2∨es5 y.1 x.1=true:=by
 unfold m73 at h
 rw[force_eq,List.all_eq_true]at h
 have h1:=h (x,j) (List.mem_zipIdx_iff_getElem?.2 hx)
 simp only[List.all_eq_true]at h1
 have h2:=h1 y (List.mem_of_getElem? (by rw[List.getElem?_take,if_pos hij];exact hy))
 simp only[Bool.or_eq_true,Bool.and_eq_true,decide_eq_true_eq]at h2
 rcases h2 with h2|h2
 ·exact .inl (ea1 ops _ ops.toList 0 0 (fun k=>by simp) (fun j' i hi h=>by simp at h) x.2 y.2 h2.1 h2.2)
 ·exact .inr h2
structure OrdOK (n:Nat) (π:List Nat):Prop where
 nd:π.Nodup
 lt: ∀i∈π,i<n
 len:π.length=n
theorem OrdOK.range(n:Nat):OrdOK n (List.range n):=⟨List.nodup_range,fun i h=>List.mem_range.1 h,List.length_range⟩
theorem OrdOK.mem{n:Nat}{π:List Nat}(h:OrdOK n π){i:Nat}(hi:i<n):i∈π:=by
 by_cases hD:i∈π
 ·exact hD
 ·have hc:(i::π).Nodup:=List.nodup_cons.2 ⟨hD,h.nd⟩
  have:=hc.length_le_of_subset (l₂:=List.range n) (fun x hx=>by
   rcases List.mem_cons.1 hx with rfl|hx
   ·exact List.mem_range.2 hi
   ·exact List.mem_range.2 (h.lt x hx))
  have hl:=h.len
  simp at this
  omega
theorem OrdOK.perm{n:Nat}{π:List Nat}(h:OrdOK n π):π.Perm (List.range n):=by
 rw[List.perm_ext_iff_of_nodup h.nd List.nodup_range]
 exact fun i=>⟨fun hi=>List.mem_range.2 (h.lt i hi),fun hi=>h.mem (List.mem_range.1 hi)⟩
theorem rt5{π:List Nat}{i:Nat}(hi:i∈π):π[π.idxOf i]? =some i:=by
 have hlt:=List.idxOf_lt_length_iff.2 hi
 rw[List.getElem?_eq_getElem hlt,List.getElem_idxOf hlt]
theorem x42{π:List Nat}(hn:π.Nodup){a i:Nat}(h:π[a]? =some i):π.idxOf i=a:=by
 obtain⟨h1,h2⟩:=List.getElem?_eq_some_iff.1 h
 have h3:=rt5 (List.mem_of_getElem? h)
 obtain⟨h4,h5⟩:=List.getElem?_eq_some_iff.1 h3
 rw[List.nodup_iff_pairwise_ne]at hn
 have hp:=List.pairwise_iff_getElem.1 hn
 rcases Nat.lt_trichotomy (π.idxOf i) a with h|h|h
 ·exact absurd (h5.trans h2.symm) (hp _ _ h4 h1 h)
 ·exact h
 ·exact absurd (h2.trans h5.symm) (hp _ _ h1 h4 h)
theorem l80{T:Tab}{g:List ARes→List It→Fr→H→Res}(hg: ∀rs ks fr h v h',g rs ks fr h=some (v,h')→h.length≤h'.length)(hE: ∀ρ,EmbG ρ g)(hT:x28 T){ops:Array Oper}{l:List AOper}(hlen:l.length=ops.size)(hgood:(l.all fun o=>o.op.good)=true)
 {π:List Nat} (ho:OrdOK ops.size π) (d:AOper) (hd:d.op.good=true)
 (hdn:bm0 ops=true) (hc:m73 ops.toList (π.map fun i=>(l.getD i d,i))=true) (t:Nat) {fr fr':Fr} {h h':H} (hw:WFs fr h) (hr:gf4 T g h.length (π.map fun i=>l.getD i d) fr h=some (fr',h')):
 ∃fr2 h2,gf4 T g h.length ((Region.schedule true ops t).map fun i=>l.getD i d) fr h=some (fr2,h2)∧Eqv h.length fr' h' fr2 h2:=by
 have ht:=vr2 hdn t
 have hgA: ∀i,(l.getD i d).op.good=true:=fun i=>by
  simp only[List.getD_eq_getElem?_getD]
  cases hi:l[i]? with
  |none=>exact hd
  |some o=>exact(List.all_eq_true.1 hgood) o (List.mem_of_getElem? hi)
 have hS:(List.range ops.size).map (fun a=>l.getD (π.getD a 0) d)=π.map fun i=>l.getD i d:=by
  apply List.ext_getElem?
  intro a
  by_cases ha:a<ops.size
  ·have ha':a<π.length:=by rw[ho.len];exact ha
   rw[List.getElem?_map,List.getElem?_range ha,List.getElem?_map,List.getElem?_eq_getElem ha']
   show some (l.getD (π.getD a 0) d)=some (l.getD π[a] d)
   rw[List.getD_eq_getElem?_getD (l:=π),List.getElem?_eq_getElem ha'];rfl
  ·rw[List.getElem?_eq_none (by simp;omega),List.getElem?_eq_none (by simp[ho.len];omega)]
 have hmem: ∀i∈Region.schedule true ops t,i∈π:=fun i hi=>ho.mem (List.mem_range.1 (ht.perm.mem_iff.1 hi))
 have hL:((Region.schedule true ops t).map fun i=>π.idxOf i).map (fun a=>l.getD (π.getD a 0) d)=(Region.schedule true ops t).map fun i=>l.getD i d:=by
  rw[List.map_map]
  refine List.map_congr_left fun i hi=> ?_
  show l.getD (π.getD (π.idxOf i) 0) d=_
  rw[List.getD_eq_getElem?_getD (l:=π),rt5 (hmem i hi)];rfl
 have hP:((Region.schedule true ops t).map fun i=>π.idxOf i).Perm (List.range ops.size):=by
  have h1:=(ht.perm.trans ho.perm.symm).map (fun i=>π.idxOf i)
  have h2:π.map (fun i=>π.idxOf i)=List.range ops.size:=by
   apply List.ext_getElem?
   intro a
   by_cases ha:a<ops.size
   ·have ha':a<π.length:=by rw[ho.len];exact ha
    rw[List.getElem?_map,List.getElem?_range ha,List.getElem?_eq_getElem ha']
    exact congrArg some (x42 ho.nd (List.getElem?_eq_getElem ha'))
   ·rw[List.getElem?_eq_none (by simp[ho.len];omega),List.getElem?_eq_none (by simp;omega)]
  rw[h2]at h1
  exact h1
 have key:=tv5 hg hE hT (n0:=h.length) (fun a=>l.getD (π.getD a 0) d) (fun i=>hgA _) (List.range ops.size) ((Region.schedule true ops t).map fun i=>π.idxOf i) (fr:=fr) (fr':=fr') (h:=h) (h':=h') (Nat.le_refl _) hw List.pairwise_lt_range hP
  (fun L1 x L2 he i hi hix hsw=>by
    obtain⟨M1,M2,e1,e2,e3⟩:=List.map_eq_append_iff.1 he
    obtain⟨y,M3,rfl,e4,e5⟩:=List.map_eq_cons_iff.1 e3
    have hi':=List.mem_range.1 hi
    have hy:y∈π:=hmem y (by rw[e1];simp)
    have hx1:π[x]? =some y:=by rw[←e4];exact rt5 hy
    have hil:i<π.length:=by rw[ho.len];exact hi'
    have hi1:π[i]? =some π[i]:=List.getElem?_eq_getElem hil
    rcases bm3 hc hix (x:=(l.getD y d,y)) (y:=(l.getD π[i] d,π[i])) (by rw[List.getElem?_map,hx1];rfl) (by rw[List.getElem?_map,hi1];rfl)with hd|hd
    ·have:=ht.dep hd M1 M3 e1
     rw[←e2]
     exact List.mem_map.2 ⟨_,this,x42 ho.nd hi1⟩
    ·have ha:l.getD (π.getD i 0) d=l.getD π[i] d:=by rw[List.getD_eq_getElem?_getD (l:=π),hi1];rfl
     have hb:l.getD (π.getD x 0) d=l.getD y d:=by rw[List.getD_eq_getElem?_getD (l:=π),hx1];rfl
     rw[ha,hb]at hsw
     exact absurd (hd.symm.trans hsw) (by decide)) (by rw[hS];exact hr)
 rw[hL]at key
 exact key
end Go.Am
namespace Go.Am
open Go.RowKit (Below)
structure CO1 (P:Program) (nt:Nat) (ops:Array Oper) (o:Oper) (ao:AOper):Prop where
 dst:ao.dst=o.dst
 lt: ∀d,o.dst=some d→d<nt
 op:sv3 P o=some ao.op
 gd:(o.guard=none∧ao.guard=none)∨ ∃j b s,o.guard=some (j,b)∧(ops[j]?).bind (·.dst)=some s∧ao.guard=some (s,b)
def AOper.inText(ao:AOper):AOper:={ao with op:=ao.op.inText}
abbrev CO(P:Program)(nt:Nat)(ops:Array Oper)(o:Oper)(ao:AOper):Prop:=CO1 P nt ops o ao.inText
def opNo:AOper:=⟨none, .lenK 0,none,false⟩
structure RegOK (P:Program) (nt:Nat) (ops:Array Oper) (draw:Bool) (l:List AOper) (π:List Nat):Prop where
 len:l.length=ops.size
 op: ∀(i:Nat) o,ops[i]? =some o→ ∃ao,l[i]? =some ao∧CO P nt ops o ao
 txt:draw=false→π=List.range ops.size
 ord:OrdOK ops.size π
 dr:draw=true→bm0 ops=true∧m73 ops.toList (π.map fun i=>(l.getD i opNo,i))=true
def shx(o:Nat):Operand→Operand
 | .tmp t=> .tmp (t+o)
 |x=>x
def AOp.sh(o:Nat):AOp→AOp
 | .mv x=> .mv (shx o x)
 | .pick c a b=> .pick (shx o c) (shx o a) (shx o b)
 | .bin op x y=> .bin op (shx o x) (shx o y)
 | .eqb n x y=> .eqb n (shx o x) (shx o y)
 | .eqn n k x=> .eqn n k (shx o x)
 | .un op x=> .un op (shx o x)
 | .conv k x=> .conv k (shx o x)
 | .alloc e zs=> .alloc e zs
 | .box e s x=> .box e s (shx o x)
 | .build zs pl ps=> .build zs pl (ps.map fun p=>(p.1,shx o p.2))
 | .mkSl e s l ps=> .mkSl e s l (ps.map (shx o))
 | .ld g n a=> .ld g n (shx o a)
 | .st n a x=> .st n (shx o a) (shx o x)
 | .nilck x=> .nilck (shx o x)
 | .mkf f c=> .mkf f (c.map (shx o))
 | .mks e s b zs l c=> .mks e s b zs (shx o l) (shx o c)
 | .sl s x lo hi=> .sl s (shx o x) (lo.map (shx o)) (hi.map (shx o))
 | .sls x lo hi=> .sls (shx o x) (lo.map (shx o)) (hi.map (shx o))
 | .sl3 x hi mx=> .sl3 (shx o x) (shx o hi) (shx o mx)
 | .faddr off x=> .faddr off (shx o x)
 | .fld g off n x=> .fld g off n (shx o x)
 | .iaddr s x i=> .iaddr s (shx o x) (shx o i)
 | .iaddrA l s x i=> .iaddrA l s (shx o x) (shx o i)
 | .idxA l s g x i=> .idxA l s g (shx o x) (shx o i)
 | .idxS x i=> .idxS (shx o x) (shx o i)
 | .len x=> .len (shx o x)
 | .lenS x=> .lenS (shx o x)
 | .lenK n=> .lenK n
 | .minmax m xs=> .minmax m (xs.map (shx o))
 | .app e s b x y=> .app e s b (shx o x) (shx o y)
 | .cpy s d x=> .cpy s (shx o d) (shx o x)
 | .ext i x=> .ext i (shx o x)
 | .call f xs=> .call f (xs.map (shx o))
 | .calld x xs=> .calld (shx o x) (xs.map (shx o))
 | .ldb g n a=> .ldb g n (shx o a)
 | .appz e b x y=> .appz e b (shx o x) (shx o y)
 | .capt f n i x=> .capt f n i (shx o x)
def AOper.sh(o:Nat)(x:AOper):AOper:=⟨x.dst.map (· +o),x.op.sh o,x.guard.map fun g=>(g.1+o,g.2),x.chk⟩
def Fr.win(fr:Fr)(o nt:Nat):Fr:=fun t=>bif Nat.blt t nt then fr (t+o)else none
theorem uf3{fr:Fr}{o nt t:Nat}(h:t<nt):fr.win o nt t=fr (t+o):=by
 unfold Fr.win
 cases hb:Nat.blt t nt with
 |true=>rfl
 |false=>exact absurd (Nat.ble_eq_true_of_le h) (by rw[show Nat.ble (t+1) nt=Nat.blt t nt from rfl,hb];decide)
theorem sz2{fr:Fr}{o nt t:Nat}(h: ¬t<nt):fr.win o nt t=none:=by
 unfold Fr.win
 cases hb:Nat.blt t nt with
 |true=>exact absurd (Nat.le_of_ble_eq_true hb) h
 |false=>rfl
def shF(fr:Fr)(o:Nat):Fr:=fun t=>fr (t+o)
theorem vk0{fr:Fr}{o:Nat}(x:Operand):ev fr (shx o x)=ev (shF fr o) x:=by cases x<;>rfl
theorem r14{fr:Fr}{o:Nat}: ∀xs:List Operand,evs fr (xs.map (shx o))=evs (shF fr o) xs
 | []=>rfl
 |x::xs=>by simp only[List.map_cons,evs,vk0,r14 xs]
theorem jg8{fr:Fr}{o:Nat}: ∀xs:List (Nat×Operand),evp fr (xs.map fun p=>(p.1,shx o p.2))=evp (shF fr o) xs
 | []=>rfl
 |(i,x)::xs=>by simp only[List.map_cons,evp,vk0,jg8 xs]
theorem l60{fr:Fr}{o:Nat}(x:Option Operand):evo fr (x.map (shx o))=evo (shF fr o) x:=by
 cases x with
 |none=>rfl
 |some x=>simp only[Option.map_some,evo,vk0]
theorem oq3{fr:Fr}{o:Nat}{h:H}(op:AOp):aop fr h (op.sh o)=aop (shF fr o) h op:=by
 cases op
 case pick c a b=>
  simp only[AOp.sh,aop,vk0]
  cases ev (shF fr o) c with
  |none=>rfl
  |some v=>
   cases v with
   |bool t=>cases t<;>simp only[Bool.false_eq_true,if_false,if_true,vk0]
   |_=>rfl
 case ldb agg n a=>
  have hbx:bx fr h (shx o a)=bx (shF fr o) h a:=by unfold bx;rw[vk0]
  simp only[AOp.sh,aop,vk0,hbx]
 all_goals simp only[AOp.sh,aop,vk0,r14,jg8,l60]
theorem dd6{fr:Fr}{o:Nat}(g:Option (Nat×Bool)):gd fr (g.map fun g=>(g.1+o,g.2))=gd (shF fr o) g:=by
 cases g with
 |none=>rfl
 |some g=>rfl
theorem tw1{fr:Fr}{o n0:Nat}(x:AOper):wb6 n0 fr (x.sh o)=wb6 n0 (shF fr o) x:=by
 obtain⟨d,op,g,c⟩:=x
 cases c with
 |false=>rfl
 |true=>cases op<;>first|rfl|(simp only[wb6,AOper.sh,AOp.sh,vk0])
theorem ifc{α:Type}{b c:Prop} [Decidable b] [Decidable c]{x y u v:α}(h:b↔c)(h1:x=u)(h2:y=v):(if b then x else y)=if c then u else v:=by
 subst h1 h2
 by_cases hc:c
 ·rw[if_pos hc,if_pos (h.2 hc)]
 ·rw[if_neg hc,if_neg (fun e=>hc (h.1 e))]
theorem y91{T:Tab}{g:List ARes→List It→Fr→H→Res}{n0 o:Nat}{fr:Fr}{h:H}(x:AOper):core T g n0 (x.sh o) fr h=core T g n0 x (shF fr o) h:=by
 have ho:=tw1 (fr:=fr) (o:=o) (n0:=n0) x
 obtain⟨d,op,gu,c⟩:=x
 unfold core
 simp only[AOper.sh]
 rw[dd6]
 cases gd (shF fr o) gu with
 |none=>rfl
 |some b=>
  cases b with
  |false=>rfl
  |true=>
   cases op with
   |call f xs=>simp only[AOp.sh,r14]
   |calld y xs=>simp only[AOp.sh,r14,vk0]
   |_=>
    exact ifc (Iff.of_eq (congrArg (· =true) ho)) (oq3 _) rfl
theorem pc9{fr:Fr}{d:Option Nat}{v:Option Value}{t:Nat}(h:d≠some t):fr.put d v t=fr t:=by
 cases d with
 |none=>rfl
 |some d=>
  have hb:Nat.beq t d=false:=by
   cases hb:Nat.beq t d with
   |false=>rfl
   |true=>exact absurd (by rw[beq_true hb]) h
  cases v with
  |none=>show(bif Nat.beq t d then none else fr t)=fr t;rw[hb];rfl
  |some v=>show(bif Nat.beq t d then some v else fr t)=fr t;rw[hb];rfl
theorem qd0{fr:Fr}{d:Nat}{v:Option Value}:fr.put (some d) v d=v:=by
 cases v with
 |none=>show(bif Nat.beq d d then none else fr d)=none;rw[Nat.beq_refl];rfl
 |some v=>show(bif Nat.beq d d then some v else fr d)=some v;rw[Nat.beq_refl];rfl
def q08(nt:Nat)(x:AOper):Prop:=(∀t∈x.looks,t<nt)∧ ∀d,x.dst=some d→d<nt
theorem p15{fr:Fr}{o nt:Nat}(d:Option Nat)(hd: ∀t,d=some t→t<nt)(v:Option Value):(fr.put (d.map (· +o)) v).win o nt=(fr.win o nt).put d v:=by
 funext t
 by_cases ht:t<nt
 ·rw[uf3 ht]
  by_cases he:d=some t
  ·subst he
   rw[Option.map_some,qd0,qd0]
  ·rw[pc9 (fun e=>he (by
    cases d with
    |none=>cases e
    |some d=>rw[Option.map_some]at e;have:=Option.some.inj e;rw[show d=t by omega])),pc9 he,uf3 ht]
 ·rw[sz2 ht,pc9 (fun e=>ht (hd t e)),sz2 ht]
theorem zd6{T:Tab}{g:List ARes→List It→Fr→H→Res}{n0 o nt:Nat}: ∀{l:List AOper} {fr fr1:Fr} {h h1:H},(∀x∈l,q08 nt x)→gf4 T g n0 (l.map (AOper.sh o)) fr h=some (fr1,h1)→
 gf4 T g n0 l (fr.win o nt) h=some (fr1.win o nt,h1)∧ ∀t,(∀x∈l,x.dst.map (· +o)≠some t)→fr1 t=fr t
 | [],fr,fr1,h,h1,_,hr=>by cases hr;exact⟨rfl,fun _ _=>rfl⟩
 |x::l,fr,fr1,h,h1,hl,hr=>by
  have hx:=hl x List.mem_cons_self
  have hcw:core T g n0 x (shF fr o) h=core T g n0 x (fr.win o nt) h:=c43 fun t ht=>by rw[uf3 (hx.1 t ht)];rfl
  simp only[List.map_cons,gf4,km6,y91,hcw]at hr⊢
  cases hc:core T g n0 x (fr.win o nt) h with
  |none=>rw[hc]at hr;cases hr
  |some p=>
   obtain⟨v,h2⟩:=p
   rw[hc]at hr
   simp only[]at hr⊢
   obtain⟨k1,k2⟩:=zd6 (fun y hy=>hl y (List.mem_cons_of_mem _ hy)) hr
   rw[show(AOper.sh o x).dst=x.dst.map (· +o)from rfl,p15 _ hx.2]at k1
   exact⟨k1,fun t ht=>(k2 t fun y hy=>ht y (List.mem_cons_of_mem _ hy)).trans (pc9 (ht x List.mem_cons_self))⟩
def cOK(nt:Nat):Operand→Prop
 | .tmp t=>t<nt
 |_=>True
theorem jr1{fr:Fr}{o nt:Nat}{c:Operand}(h:cOK nt c):ev fr (shx o c)=ev (fr.win o nt) c:=by
 cases c with
 |tmp t=>exact(uf3 h).symm
 |_=>rfl
theorem FR.sub{φ:Ren}{n nt:Nat}{fr fr2:Fr}{tmps:Array Value}(h:FR φ n nt fr tmps)(hs: ∀t v,fr2 t=some v→fr t=some v):FR φ n nt fr2 tmps:=
 ⟨h.1,fun t v hv=>h.2 t v (hs t v hv)⟩
theorem e79{fr:Fr}{o nt:Nat}{ks:List Nat}{t:Nat}{v:Value}(h:(Fr.of (hy3 fr ks)).win o nt t=some v):fr.win o nt t=some v:=by
 by_cases ht:t<nt
 ·rw[uf3 ht]at h⊢;exact lr7 fr ks _ _ h
 ·rw[sz2 ht]at h;cases h
inductive CRo (P:Program) (nt o:Nat) (Y:List Nat) (X:List Nat→Code→ACode→Prop):List Nat→Code→ACode→Prop
 |skip {S:List Nat}:CRo P nt o Y X S .skip .skip
 |region {S:List Nat} (id:Nat) (ops:Array Oper) (draw:Bool) (l:List AOper) (π:List Nat):RegOK P nt ops draw l π→(∀x∈l,q08 nt x)→(∀(i:Nat) x,ops[i]? =some x→ ∀d,x.dst=some d→d∉Y)→CRo P nt o Y X S (.region id ops draw) (.region ((π.map fun i=>l.getD i opNo).map (AOper.sh o)))
 |seq {S:List Nat} {a b:Code} {a' b':ACode}:CRo P nt o Y X S a a'→CRo P nt o Y X S b b'→CRo P nt o Y X S (.seq a b) (.seq a' b')
 |cond {S:List Nat} {c:Operand} {a b:Code} {a' b':ACode}:cOK nt c→CRo P nt o Y X S a a'→CRo P nt o Y X S b b'→CRo P nt o Y X S (.cond c a b) (.cond (shx o c) a' b')
 |block {S:List Nat} {id:Nat} {ko:List Nat} {a:Code} {a':ACode}:CRo P nt o Y X (id::S) a a'→CRo P nt o Y X S (.block id a) (.block id ko a')
 |loop {S:List Nat} {kh:List Nat} {a:Code} {a':ACode}:CRo P nt o Y X S a a'→CRo P nt o Y X S (.loop a) (.loop kh a')
 |exit {S:List Nat} {id:Nat}:id∈S→CRo P nt o Y X S (.exit id) (.exit id)
 |stuck {S:List Nat} {c:Code}:CRo P nt o Y X S c .stuck
 |extra {S:List Nat} {c:Code} {c':ACode}:X S c c'→CRo P nt o Y X S c c'
inductive IRo (P:Program) (nt o:Nat) (Y:List Nat) (X:List Nat→Code→ACode→Prop) (Z:List It→List Item→Prop):List Nat→List It→List Item→Prop
 |base {ks:List It} {k:List Item}:Z ks k→IRo P nt o Y X Z [] ks k
 |code {S:List Nat} {c:Code} {c':ACode} {ks k}:CRo P nt o Y X S c c'→IRo P nt o Y X Z S ks k→IRo P nt o Y X Z S (.code c'::ks) (.code c::k)
 |blk {S:List Nat} {id:Nat} {ko:List Nat} {ks k}:IRo P nt o Y X Z S ks k→IRo P nt o Y X Z (id::S) (.blk id ko::ks) (.inBlock id::k)
 |lp {S:List Nat} {kh:List Nat} {c:Code} {c':ACode} {ks k}:CRo P nt o Y X S c c'→IRo P nt o Y X Z S ks k→IRo P nt o Y X Z S (.lp kh c'::ks) (.inLoop c::k)
def RR(P:Program):List ResultVar→List ARes→Prop
 | [],[]=>True
 | .tmp t::r, .tmp t'::r'=>t=t'∧RR P r r'
 | .cell a t::r, .cell a' agg n::r'=>a=a'∧(∃d i,P.underlying t=some d∧P.info? t=some i∧agg=cw9 d∧n=i.size)∧RR P r r'
 |_,_=>False
inductive X3 (J M3:Nat):List Nat→Code→ACode→Prop
 |ret {S:List Nat}:M3∉S→X3 J M3 S .ret (.seq (.region [⟨some J, .mv (.const (.bool true)),none,false⟩]) (.exit M3))
structure RgD where
 nt1:Nat
 nt2:Nat
 M:Nat
 M3:Nat
 K3:List Nat
 Y:List Nat
 Kb:List Nat
 ps:List Nat
 cA:ACode
 cB:ACode
def RgD.o2(R:RgD):Nat:=R.nt1
def RgD.o3(R:RgD):Nat:=R.nt1+R.nt2
def RgD.J(R:RgD):Nat:=R.nt1+R.nt2+R.nt1
def RgD.moves(R:RgD)(args:List Operand):List AOper:=
 ⟨some R.J, .pick (.tmp R.J) (.tmp (R.J+1)) (.const (.bool false)),none,false⟩::(R.Kb.map fun t=>⟨some (t+R.o3), .mv (.tmp t),none,false⟩)++(R.ps.zip args).map fun p=>⟨some (p.1+R.o3), .mv (shx R.o2 p.2),none,false⟩
inductive PreOK (P:Program) (nt:Nat) (Y:List Nat) (ops:Array Oper):Nat→List (Option AOper)→Prop
 |nil {i:Nat}:PreOK P nt Y ops i []
 |op {i:Nat} {o:Oper} {ao:AOper} {l:List (Option AOper)}:ops[i]? =some o→CO P nt ops o ao→q08 nt ao→(∀d,o.dst=some d→d∉Y)→PreOK P nt Y ops (i+1) l→PreOK P nt Y ops i (some ao::l)
 |mv {i:Nat} {o:Oper} {d:Nat} {l:List (Option AOper)}:ops[i]? =some o→(o.op= .move (.tmp 0)∨o.op= .assign (.tmp 0))→o.guard=none→o.dst=some d→d≠0→d∈Y→PreOK P nt Y ops (i+1) l→PreOK P nt Y ops i (none::l)
inductive X2 (P:Program) (R:RgD):List Nat→Code→ACode→Prop
 |ret {S:List Nat}:R.M∉S→X2 P R S .ret (.exit R.M)
 |yield {S:List Nat} (id:Nat) (ops:Array Oper) (pre:List (Option AOper)) (post:List AOper) (y d:Nat) (o:Oper) (c:Call):
   PreOK P R.nt2 R.Y ops 0 pre→ops[pre.length]? =some o→o.op= .call c→c.callee= .value (.tmp y)→(y=0∨ ∃i x,i<pre.length∧pre[i]? =some none∧ops[i]? =some x∧x.dst=some y)→(∀x∈c.args.toList,cOK R.nt2 x)→c.args.size=R.ps.length→
   o.dst=some d→d<R.nt2→d∉R.Y→o.guard=none→PreOK P R.nt2 R.Y ops (pre.length+1) (post.map some)→pre.length+1+post.length=ops.size→
   X2 P R S (.region id ops false) (.seq (.region ((pre.filterMap fun x=>x).map (AOper.sh R.o2)++R.moves c.args.toList)) (.seq (.block R.M3 R.K3 (.seq R.cA R.cB)) (.region (⟨some (d+R.o2), .un .not (.tmp R.J),none,false⟩::post.map (AOper.sh R.o2)))))
def bp2(nt1:Nat)(kf nc f:Nat):List AOper:=(List.range nc).map fun i=>⟨some (nt1+1+i), .capt kf nc i (.tmp f),none,false⟩
structure RgOK (P:Program) (R:RgD) (f kf nc:Nat) (ps:Array Tmp) (assign body:Code) (K0 K1:List Nat) (cIt:ACode):Prop where
 fn: ∃fn2 body2,P.funcs[kf]? =some fn2∧fn2.body=some body2∧(fn2.name== "runtime.NumGoroutine")=false∧fn2.results= #[]∧fn2.ntmps=R.nt2∧CRo P R.nt2 R.o2 R.Y (X2 P R) [] body2 cIt
 asg:CRo P R.nt1 R.o3 [] (fun _ _ _=>False) [] assign R.cA
 bod:CRo P R.nt1 R.o3 [] (X3 R.J R.M3) [] body R.cB
 hf:f<R.nt1
 hnc:0<nc∧nc+1≤R.nt2
 hy:0∈R.Y∧ ∀y∈R.Y,y=0∨nc<y
 hylt: ∀y∈R.Y,y<R.nt2
 hK0: ∀t∈K0,t<R.nt1
 hK1: ∀t∈K1,t<R.nt1
 hKb: ∀t∈R.Kb,t<R.nt1∧t∉R.ps
 hps:ps.toList=R.ps∧R.ps.Nodup∧ ∀t∈R.ps,t<R.nt1
 hK3: ∀t∈R.K3,t<R.o3∨t=R.J
inductive XG (l L:Nat):List Nat→Code→ACode→Prop
 |goto {S:List Nat}:L∉S→XG l L S (.goto l) (.exit L)
structure ScOK (P:Program) (nt l L K:Nat) (a b:Code) (a' b':ACode):Prop where
 no:findLabel a l=none
 ne:L≠K
 fa:CRo P nt 0 [] (fun _ _ _=>False) [] a a'
 fb:CRo P nt 0 [] (XG l L) [] b b'
def scA(L K:Nat)(kL ko kh:List Nat)(b':ACode):ACode:= .block K ko (.loop kh (.block L kL (.seq b' (.exit K))))
inductive X1 (P:Program) (nt:Nat):List Nat→Code→ACode→Prop
 |ret {S:List Nat}:X1 P nt S .ret .ret
 |scope {S:List Nat} (l L K:Nat) (kL ko kh:List Nat) (a b:Code) (a' b':ACode):ScOK P nt l L K a b a' b'→X1 P nt S (.scope (.seq a (.seq (.label l) b))) (.seq a' (scA L K kL ko kh b'))
 |range {S:List Nat} (R:RgD) (f kf nc:Nat) (ps:Array Tmp) (assign body:Code) (K0 K1:List Nat) (cIt:ACode):R.nt1=nt→RgOK P R f kf nc ps assign body K0 K1 cIt→
   X1 P nt S (.rangeFunc (.tmp f) ps assign body) (.seq (.block 0 K0 .skip) (.seq (.region (⟨some R.J, .mv (.const (.bool false)),none,false⟩::bp2 R.nt1 kf nc f))
    (.seq (.block R.M (R.J::K1) cIt) (.cond (.tmp R.J) (.seq (.block 0 K1 .skip) .ret) (.block 0 K1 .skip)))))
abbrev CR(P:Program)(nt:Nat):List Nat→Code→ACode→Prop:=CRo P nt 0 [] (X1 P nt)
structure FunOK (P:Program) (f:FuncId) (F:AFun):Prop where
 nargs:F.nargs≤F.ntmps
 ok: ∃fn body,P.funcs[f]? =some fn∧fn.body=some body∧CR P F.ntmps [] body F.code∧fn.ntmps=F.ntmps∧RR P fn.results.toList F.results∧(fn.name== "runtime.NumGoroutine")=false
 good:ev3 F.code=true
theorem rw2{P:Program}{o:Oper}{op:AOp}(h:sv3 P o=some op):op.good=true:=by
 have arr: ∀{cs:Array Value},cs.all tc5=true→cs.toList.all tc5=true:=fun h=>by simpa using h
 unfold sv3 at h
 split at h<;>first
  |(cases h;done)
  |(cases h;rfl)
  |((repeat' split at h)<;>first
     |(cases h;done)
     |(cases h;rfl)
     |(rename_i hz;cases h;exact arr hz)
     |(rename_i hz;cases h;simp only[Bool.and_eq_true]at hz;exact arr hz.1.1))
theorem u13{op:AOp}(h:op.inText.good=true):op.good=true:=by cases op<;>first|exact h|rfl
theorem RegOK.good{P:Program}{nt:Nat}{ops:Array Oper}{draw:Bool}{l:List AOper}{π:List Nat}(h:RegOK P nt ops draw l π):(l.all fun o=>o.op.good)=true:=by
 rw[List.all_eq_true]
 intro x hx
 obtain⟨i,hi,rfl⟩:=List.getElem_of_mem hx
 have hi':i<ops.size:=by rw[←h.len];exact hi
 obtain⟨ao,e1,e2⟩:=h.op i ops[i] (Array.getElem?_eq_getElem hi')
 rw[List.getElem?_eq_getElem hi]at e1
 cases e1
 exact u13 (rw2 e2.op)
theorem bz6{P:Program}{nt o:Nat}{Y:List Nat}{X:List Nat→Code→ACode→Prop}{Z:List It→List Item→Prop}{id:Nat}: ∀{S:List Nat} {ks:List It} {k:List Item},IRo P nt o Y X Z S ks k→id∈S→ ∃ko ks' k' S',gc2 id ks=some (ko,ks')∧exitTo id k=some k'∧IRo P nt o Y X Z S' ks' k'
 |_,_,_, .base _,h=>by cases h
 |_,_,_, .code _ hk,h=>by simp only[gc2,exitTo];exact bz6 hk h
 |_,_,_, .lp _ hk,h=>by simp only[gc2,exitTo];exact bz6 hk h
 |_,_,_, .blk (id:=id') (ko:=ko) hk,h=>by
  simp only[gc2,exitTo]
  by_cases he:id'=id
  ·exact⟨ko,_,_,_,by rw[if_pos he],by rw[if_pos (by simpa using he)],hk⟩
  ·rw[if_neg he,if_neg (by simpa using he)]
   exact bz6 hk (by rcases List.mem_cons.1 h with e|e;exact absurd e.symm he;exact e)
theorem is1{P:Program}{nt o:Nat}{Y:List Nat}{X:List Nat→Code→ACode→Prop}{Z:List It→List Item→Prop}{id:Nat}: ∀{S:List Nat} {ks:List It} {k:List Item},IRo P nt o Y X Z S ks k→id∉S→ ∃ks0 k0,Z ks0 k0∧gc2 id ks=gc2 id ks0
 |_,_,_, .base hz,h=>⟨_,_,hz,rfl⟩
 |_,_,_, .code _ hk,h=>by obtain⟨a,b,h1,h2⟩:=is1 hk h;exact⟨a,b,h1,by simp only[gc2];exact h2⟩
 |_,_,_, .lp _ hk,h=>by obtain⟨a,b,h1,h2⟩:=is1 hk h;exact⟨a,b,h1,by simp only[gc2];exact h2⟩
 |_,_,_, .blk (id:=id') hk,h=>by
  obtain⟨a,b,h1,h2⟩:=is1 hk (fun e=>h (List.mem_cons_of_mem _ e))
  exact⟨a,b,h1,by simp only[gc2];rw[if_neg (fun e=>h (by rw[e];exact List.mem_cons_self))];exact h2⟩
section
variable {P:Program} {B:Nat→Prop}
def xj3(tmps:Array Value):ResultVar→Sem Value
 | .tmp t=>pure (tmps.getD t undef)
 | .cell a t=>do loadVar t (←asAddr (tmps.getD a undef))
theorem ax5(fn:Func)(tmps:Array Value):results fn tmps=(do
 let vs←fn.results.mapM (xj3 tmps)
 pure (if h:vs.size=1 then vs[0]else .tuple vs)):=by
 unfold results
 congr 1
theorem r44{φ:Ren}{nt:Nat}{fr:Fr}{h:H}{tmps:Array Value}{w:World}(hF:FR φ h.length nt fr tmps)(hH:HR φ B h w): ∀{rs:List ResultVar} {ars:List ARes} {vs:List Value},RR P rs ars→ress fr h ars=some vs→
 ∃vs',(rs.mapM (xj3 tmps)).run P w= .ok vs' w∧LR φ h.length vs vs'
 | [],[],vs,_,hs=>by cases hs;exact⟨[],by simp,LR.nil _ _⟩
 | [],_::_,_,hr,_=>by simp[RR]at hr
 | .tmp _::_,[],_,hr,_=>by simp[RR]at hr
 | .cell _ _::_,[],_,hr,_=>by simp[RR]at hr
 | .tmp t::rs, .cell _ _ _::ars,vs,hr,_=>by simp[RR]at hr
 | .cell _ _::rs, .tmp t::ars,vs,hr,_=>by simp[RR]at hr
 | .tmp t::rs, .tmp t'::ars,vs,hr,hs=>by
   simp only[RR]at hr
   obtain⟨rfl,hr⟩:=hr
   simp only[ress,res1]at hs
   split at hs
   ·rename_i v vs2 h1 h2
    cases hs
    obtain⟨v',e1,e2⟩:=hF.2 t v h1
    obtain⟨vs',e3,e4⟩:=r44 hF hH hr h2
    refine⟨v'::vs', ?_,LR.cons e2 e4⟩
    simp[List.mapM_cons,xj3,e1,e3]
   ·cases hs
 | .cell a t::rs, .cell a' agg n::ars,vs,hr,hs=>by
   simp only[RR]at hr
   obtain⟨rfl,⟨d,i,hd,hi,rfl,rfl⟩,hr⟩:=hr
   simp only[ress,res1]at hs
   split at hs
   ·rename_i v vs2 h1 h2
    cases hs
    obtain⟨vs',e3,e4⟩:=r44 hF hH hr h2
    split at h1
    ·rename_i p hp
     obtain⟨v',e1,e2⟩:=hF.2 a _ hp
     obtain⟨hsp,hlt,rfl⟩:=bq1 e2
     simp only[hsp,Option.isSome_none,Bool.false_eq_true,if_false]at h1
     have key: ∃u,(loadVar t ⟨(φ p.block).blk,(φ p.block).sh+p.off,none⟩).run P w= .ok u w∧VR φ h.length v u:=by
      split at h1
      ·rename_i hag
       split at h1
       ·rename_i cs hcs
        cases h1
        obtain⟨hlen,hone,cs',k1,k2⟩:=hH.cells hcs
        have hl:=run_loadCells_list (P:=P) w ⟨(φ p.block).blk,(φ p.block).sh+p.off,none⟩ cs' k2
        rw[←k1.1,hlen]at hl
        exact⟨_,by simp[loadVar,y71 hd,hag,run_sizeOf hi,hl],k1.agg hone⟩
       ·cases h1
      ·rename_i hag
       unfold H.ld1 at h1
       split at h1
       ·rename_i r hr2
        obtain⟨u,k1,k2⟩:=hH.cell hr2 h1
        exact⟨u,by simp[loadVar,y71 hd,hag,k1],k2⟩
       ·cases h1
     obtain⟨u,k1,k2⟩:=key
     refine⟨u::vs', ?_,LR.cons k2 e4⟩
     simp[List.mapM_cons,xj3,e1,asAddr,k1,e3]
    ·cases h1
   ·cases hs
theorem kl3{φ:Ren}{nt:Nat}{fr:Fr}{h h':H}{tmps:Array Value}{w:World}{fn:Func}{ars:List ARes}{v:Value}(hF:FR φ h.length nt fr tmps)(hH:HR φ B h w)(hr:RR P fn.results.toList ars)(hs:retv ars fr h=some (v,h')):
 h'=h∧ ∃v',(results fn tmps).run P w= .ok v' w∧VR φ h.length v v':=by
 unfold retv at hs
 have key: ∀vs,ress fr h ars=some vs→ ∃vs',(fn.results.mapM (xj3 tmps)).run P w= .ok vs'.toArray w∧LR φ h.length vs vs':=by
  intro vs hvs
  obtain⟨vs',h1,h2⟩:=r44 (P:=P) hF hH hr hvs
  exact⟨vs',by rw[Array.mapM_eq_mapM_toList];simp[h1],h2⟩
 split at hs
 ·rename_i v1 h1
  cases hs
  obtain⟨vs',h2,h3⟩:=key _ h1
  obtain⟨v',h4,h5⟩:=h3.2 0 v rfl
  have hl:vs'.length=1:=by rw[←h3.1];rfl
  obtain rfl:vs'=[v']:=by
   match vs',hl,h4 with
   | [x],_,h4=>simp at h4;rw[h4]
  refine⟨rfl,v', ?_,h5⟩
  rw[ax5]
  simp only[Sem.run_bind,h2]
  simp
 ·rename_i vs hne h1
  cases hs
  obtain⟨vs',h2,h3⟩:=key _ h1
  refine⟨rfl, .tuple vs'.toArray, ?_,h3.tuple⟩
  have hl:vs'.length≠1:=by
   intro hl
   rw[←h3.1]at hl
   match vs,hl,hne with
   | [x],_,hne=>exact hne x rfl
  rw[ax5]
  simp only[Sem.run_bind,h2]
  simp[hl]
 ·cases hs
variable {T:Tab} {g:List ARes→List It→Fr→H→Res}
def zb8(P:Program)(B:Nat→Prop)(T:Tab)(g:List ARes→List It→Fr→H→Res)(f:FuncId):Prop:=
 ∀vs vs' h h' v,enter T g f vs h=some (v,h')→ ∀(φ:Ren) (w:World),LR φ h.length vs vs'→HR φ B h w→
  Calls P f vs'.toArray w fun e w'=> ∃φ' v',e= .returned v'∧VR φ' h'.length v v'∧HR φ' B h' w'∧Ext φ h.length φ'∧Bel B w w'
def ga0(P:Program)(f:FuncId):Prop:= ∃fn body,P.funcs[f]? =some fn∧fn.body=some body∧(fn.name== "runtime.NumGoroutine")=false
structure PrimOK (P:Program) (T:Tab) (f:FuncId):Prop where
 body:ga0 P f
 good: ∀F,T f=some F→ev3 F.code=true
 ok:(∀f F,T f=some F→ga0 P f)→ ∀B n,(∀m,m<n→ ∀f',zb8 P B T (goN T m) f')→zb8 P B T (goN T n) f
def xp2(P:Program)(T:Tab):Prop:= ∀f F,T f=some F→FunOK P f F∨PrimOK P T f
theorem xp2.body(hT:xp2 P T)(f:FuncId)(F:AFun)(hF:T f=some F):ga0 P f:=by
 rcases hT f F hF with h1|h1
 ·obtain⟨fn,body,h1,h2,_,_,_,h6⟩:=h1.ok
  exact⟨fn,body,h1,h2,h6⟩
 ·exact h1.body
theorem xp2.good(hT:xp2 P T):x28 T:=fun f F hF=>by
 rcases hT f F hF with h1|h1
 ·exact h1.good
 ·exact h1.good F hF
theorem js6{f:FuncId}{vs vs':List Value}{h h':H}{v:Value}(hT: ∀f F,T f=some F→ga0 P f)(he:enter T g f vs h=some (v,h'))(w:World):
 (callFunc f vs'.toArray).run P w= .ok (.enter f vs'.toArray) w:=by
 have key:ga0 P f:=by
  unfold enter at he
  split at he
  ·rename_i F hF
   exact hT f F hF
  ·cases he
 obtain⟨fn,body,h1,h2,h6⟩:=key
 have h7: ¬fn.name= "runtime.NumGoroutine" :=by simpa using h6
 simp[callFunc,h1,h7,h2]
theorem ap9{P:Program}{o:Oper}{op:AOp}(h:sv3 P o=some op): ∀c,o.op≠ .defer c:=by
 intro c hc
 unfold sv3 at h
 rw[hc]at h
 simp at h
theorem ad4(hT:xp2 P T)(hC: ∀f,zb8 P B T g f)(hg: ∀rs ks fr h v h',g rs ks fr h=some (v,h')→h.length≤h'.length){nt:Nat}{ops:Array Oper}{i:Nat}{rest:List Nat}{o:Oper}{ao:AOper}(ho:ops[i]? =some o)(hc:CO1 P nt ops o ao){n0:Nat}{fr fr1:Fr}{h h1:H}
 (hs:km6 T g n0 ao fr h=some (fr1,h1)) {φ:Ren} {w:World} {a:Act} {b:Frame} {cs:List Frame} {k:List Item} (hF:FR φ h.length nt fr a.tmps) (hH:HR φ B h w):
 ∃φ' w' v',Steps P (lone (b.atR a (.inRegion ops (i::rest)::k)) cs w) (lone (b.atR (a.put o.dst v') (.inRegion ops rest::k)) cs w')∧FR φ' h1.length nt fr1 (a.put o.dst v').tmps∧HR φ' B h1 w'∧Ext φ h.length φ'∧h.length≤h1.length∧Bel B w w':=by
 have hlen:=lr9 hg hs
 unfold km6 at hs
 split at hs
 ·rename_i v h2 hcore
  cases hs
  --the guard
  have hguard: ∀bb,gd fr ao.guard=some bb→Region.wanted o (yielded ops a.tmps)=bb:=by
   intro bb hb
   rcases hc.gd with⟨g1,g2⟩|⟨j,want,s,g1,g2,g3⟩
   ·rw[g2]at hb;cases hb;simp[Region.wanted,g1]
   ·rw[g3]at hb
    simp only[gd]at hb
    split at hb
    ·rename_i b' hb'
     cases hb
     obtain⟨v',e1,e2⟩:=hF.2 s _ hb'
     rw[xz4 e2]at e1
     have:yielded ops a.tmps j=some b':=by
      unfold yielded;rw[g2];simp[e1]
     simp[Region.wanted,g1,this]
    ·rename_i vs' hb'
     cases hb
     obtain⟨v',e1,e2⟩:=hF.2 s _ hb'
     have:yielded ops a.tmps j=none:=by
      unfold yielded;rw[g2];cases e2;simp[e1]
     simp[Region.wanted,g1,this]
    ·cases hb
  have hput: ∀{φ':Ren} {v':Value},FR φ' h1.length nt fr a.tmps→(∀u,v=some u→VR φ' h1.length u v')→FR φ' h1.length nt (fr.put ao.dst v) (a.put o.dst v').tmps:=by
   intro φ' v' q1 q3
   rw[hc.dst]
   exact q1.put o.dst hc.lt v v' q3
  have hfin: ∀v,(b.atR a (.inRegion ops (i::rest)::k)).finish v=b.atR (a.put o.dst v) (.inRegion ops rest::k):=by
   intro v;rw[Frame.finish_atR,ho];rfl
  unfold core at hcore
  split at hcore
  ·rename_i hgd
   cases hcore
   have hw:=hguard false hgd
   have hst:=stepR_op_skip (P:=P) (b:=b) (a:=a) (k:=k) (cs:=cs) (w:=w) (ops:=ops) (i:=i) (rest:=rest) (by simp[ho,hw])
   rw[ho]at hst
   exact⟨φ,w,undef, .one hst,hput hF (fun u hu=>by cases hu;exact .tuple #[] #[] rfl (fun i hi=>absurd hi (by simp))),hH,Ext.refl _ _,Nat.le_refl _,Bel.refl _ _⟩
  ·rename_i hgd
   have hw:=hguard true hgd
   have hG:=stepGR_op (P:=P) (b:=b) (a:=a) (k:=k) (cs:=cs) (w:=w) (rest:=rest) ho hw
   rw[Oper.semAt_eq _ _ _ (ap9 hc.op)]at hG
   have hcall: ∀{f:FuncId} {vs vs':List Value} {u:Value},enter T g f vs h=some (u,h1)→v=some u→LR φ h.length vs vs'→(execOp a.eval o).run P w=(callFunc f vs'.toArray).run P w→
    ∃φ' w' v',Steps P (lone (b.atR a (.inRegion ops (i::rest)::k)) cs w) (lone (b.atR (a.put o.dst v') (.inRegion ops rest::k)) cs w')∧FR φ' h1.length nt (fr.put ao.dst v) (a.put o.dst v').tmps∧HR φ' B h1 w'∧Ext φ h.length φ'∧h.length≤h1.length∧Bel B w w':=by
    intro f vs vs' u he hvu hL hrun
    have e1:=js6 (vs':=vs') hT.body he w
    obtain⟨_,w',fr',⟨φ',v',rfl,e5,e6,e7,e8⟩,e2,e3,e4⟩:=hC f vs vs' h h1 u he φ w hL hH (b.atR a (.inRegion ops (i::rest)::k)::cs)
    rw[e1]at hrun
    have henter:step P (lone (b.atR a (.inRegion ops (i::rest)::k)) cs w)= .next (lone (Frame.enter P f vs'.toArray .normal) (b.atR a (.inRegion ops (i::rest)::k)::cs) w):=
     step_lone_go (by rw[hG];simp[stepG.apply,hrun,Frame.atR])
    refine⟨φ',w',v', .head henter (Steps.trans e2 (.one ?_)),hput (hF.mono e7 hlen) (fun x hx=> ?_),e6,e7,hlen,e8⟩
    ·rw[←hfin];exact step_leave_returned e4
    ·rw[hvu]at hx;cases hx;exact e5
   split at hcore
   ·--a call by name
    rename_i f args hop
    split at hcore
    ·rename_i vs hvs
     split at hcore
     ·rename_i u h3 he
      have hb:=(ya3 hcore).1
      cases hb
      have hL:=p23 hF hvs
      refine hcall he rfl hL ?_
      have hco:=hc.op
      rw[hop]at hco
      --read off the operation
      have hopc: ∃c:Call,o.op= .call c∧c.callee= .value (.func f)∧c.args.toList=args:=by
       unfold sv3 at hco
       split at hco<;>first
        |(cases hco;done)
        |((repeat' split at hco)<;>first|(cases hco;done)|skip)
       all_goals first
        |(cases hco;exact⟨_, ‹_›, ‹_›,rfl⟩)
      obtain⟨c,hc1,hc2,hc3⟩:=hopc
      have hev:c.args.map a.eval=(args.map a.eval).toArray:=by rw[←hc3];apply Array.toList_inj.1;simp
      simp[execOp,hc1,resolve,hc2,hev,Act.eval,Deferred.ofValue,invoke]
     ·cases hcore
    ·cases hcore
   ·rename_i x args hop
    split at hcore
    ·rename_i f first cap vs hx hvs
     split at hcore
     ·rename_i hemp
      split at hcore
      ·rename_i u h3 he
       have hb:=(ya3 hcore).1
       cases hb
       have hL:=p23 hF hvs
       have hxv:=az8 hF hx
       have hcap: ∃cap',a.eval x= .func (.func f) #[] cap'∧LR φ h.length cap.toList cap'.toList:=by
        generalize a.eval x=y at hxv
        cases hxv with
        |func _ _ cs' hsz hh=>exact⟨cs',rfl,LR.of_arrays hsz hh⟩
       obtain⟨cap',hx1,hx2⟩:=hcap
       refine hcall he rfl (hL.append hx2) ?_
       have hco:=hc.op
       rw[hop]at hco
       have hopc: ∃c:Call,o.op= .call c∧c.callee= .value x∧c.args.toList=args:=by
        unfold sv3 at hco
        split at hco<;>first
         |(cases hco;done)
         |((repeat' split at hco)<;>first|(cases hco;done)|skip)
        all_goals first
         |(cases hco;exact⟨_, ‹_›, ‹_›,rfl⟩)
       obtain⟨c,hc1,hc2,hc3⟩:=hopc
       have hev:c.args.map a.eval=(args.map a.eval).toArray:=by rw[←hc3];apply Array.toList_inj.1;simp
       have happ:((args.map a.eval).toArray++cap')=(args.map a.eval++cap'.toList).toArray:=by apply Array.toList_inj.1;simp
       simp[execOp,hc1,resolve,hc2,hev,hx1,Deferred.ofValue,invoke]
       rw[←happ]
      ·cases hcore
     ·cases hcore
    ·cases hcore
   ·split at hcore
    ·obtain⟨φ',v',w',r1,r2,r3,r4,r5,r6⟩:=e32 hc.op hF hH hcore
     cases v with
     |some u=>
      refine⟨φ',w',v', .one (step_lone_go ?_),hput (hF.mono r4 r5) r2,r3,r4,r5,r6⟩
      rw[hG,←hfin];simp[stepG.apply,r1]
     |none=>
      refine⟨φ',w',undef, .one (step_lone_go ?_),hput (hF.mono r4 r5) (fun u hu=>by cases hu),r3,r4,r5,r6⟩
      rw[hG,←hfin];simp[stepG.apply,r1]
    ·cases hcore
  ·cases hcore
 ·cases hs
theorem ib1{n0:Nat}{o:AOper}{fr:Fr}{h:H}{r:Fr×H}(hs:km6 T g n0 o fr h=some r):km6 T g n0 {o with op:=o.op.inText,chk:=o.chk&& !o.op.isLdb} fr h=some r:=by
 obtain⟨dst,op,gu,chk⟩:=o
 cases op with
 |ldb agg n a=>
  unfold km6 core at hs⊢
  simp only[AOp.inText,AOp.isLdb,Bool.not_true,Bool.and_false]
  split at hs
  ·rename_i v h2 hc
   cases hs
   split at hc
   ·rename_i hg;cases hc;simp only[hg]
   ·rename_i hg
    simp only[hg]
    have hc:(if wb6 n0 fr ⟨dst, .ldb agg n a,gu,chk⟩then aop fr h (.ldb agg n a)else none)=some (v,h2):=hc
    split at hc
    ·have h3:=(zx2 hc).2
     have ho:wb6 n0 fr ⟨dst, .ld agg n a,gu,false⟩=true:=rfl
     rw[if_pos ho,h3]
    ·cases hc
   ·cases hc
  ·cases hs
 |_=>simpa [AOp.inText,AOp.isLdb]using hs
theorem ic4(hT:xp2 P T)(hC: ∀f,zb8 P B T g f)(hg: ∀rs ks fr h v h',g rs ks fr h=some (v,h')→h.length≤h'.length){nt:Nat}{ops:Array Oper}{i:Nat}{rest:List Nat}{o:Oper}{ao:AOper}(ho:ops[i]? =some o)(hc:CO P nt ops o ao){n0:Nat}{fr fr1:Fr}{h h1:H}
 (hs:km6 T g n0 ao fr h=some (fr1,h1)) {φ:Ren} {w:World} {a:Act} {b:Frame} {cs:List Frame} {k:List Item} (hF:FR φ h.length nt fr a.tmps) (hH:HR φ B h w):
 ∃φ' w' v',Steps P (lone (b.atR a (.inRegion ops (i::rest)::k)) cs w) (lone (b.atR (a.put o.dst v') (.inRegion ops rest::k)) cs w')∧FR φ' h1.length nt fr1 (a.put o.dst v').tmps∧HR φ' B h1 w'∧Ext φ h.length φ'∧h.length≤h1.length∧Bel B w w':=
 ad4 hT hC hg ho (ao:={ao with op:=ao.op.inText,chk:=ao.chk&& !ao.op.isLdb}) ⟨hc.dst,hc.lt,hc.op,hc.gd⟩ (ib1 hs) hF hH
theorem E.one{ρ:Rel}{n:Nat}{v v2:Value}(h:E ρ n v v2):v2.oneCell'=v.oneCell':=by cases h<;>rfl
open Classical in
noncomputable def Ren.by (φ:Ren) (π:Rel):Ren:=fun o=>if hx: ∃o2,π o o2 then φ (Classical.choose hx)else φ o
theorem Ren.by_eq{φ:Ren}{π:Rel}{h h2:H}(hm:ME π h h2){o o2:Nat}(hr:π o o2):φ.by π o=φ o2:=by
 unfold Ren.by
 have hx: ∃o2,π o o2:=⟨o2,hr⟩
 rw[dif_pos hx,(hm.uni _ _ _ _ (Classical.choose_spec hx) hr).1 rfl]
theorem VR.by{φ:Ren}{π:Rel}{h h2:H}(hm:ME π h h2){v v2 v':Value}(he:E π h.length v v2)(hv:VR φ h2.length v2 v'):VR (φ.by π) h.length v v':=by
 induction he generalizing v' with
 |atom v hp=>
  cases hv<;>first|(cases hp;done)|(constructor;done)
 |ptr o o2 off h1 h3=>
  cases hv with
  |ptr _ _ h4=>rw[←Ren.by_eq (φ:=φ) hm h1];exact .ptr _ _ h3
 |sl o o2 off l c h1 h3=>
  cases hv with
  |sl _ _ _ _ c' q h4 h5 h6 h7=>rw[←Ren.by_eq (φ:=φ) hm h1]at h6 h7⊢;exact .sl _ _ _ _ _ _ h3 h5 h6 h7
  |slz _ _ x h4 h5=>exact .slz _ _ _ h3 (by rw[Ren.by_eq (φ:=φ) hm h1];exact h5)
 |func f cs cs2 hs _ ih=>
  cases hv with
  |func _ _ cs' hs2 hh=>exact .func _ _ _ (hs.trans hs2) fun i h h'=>ih i h (by omega) (hh i (by omega) h')
 |agg cs cs2 hs h0 ih=>
  cases hv with
  |agg _ cs' hs2 h1 hh=>exact .agg _ _ (hs.trans hs2) (fun i h=>by rw[←(h0 i h (by omega)).one];exact h1 i (by omega)) fun i h h'=>ih i h (by omega) (hh i (by omega) h')
 |tuple cs cs2 hs _ ih=>
  cases hv with
  |tuple _ cs' hs2 hh=>exact .tuple _ _ (hs.trans hs2) fun i h h'=>ih i h (by omega) (hh i (by omega) h')
theorem VR.self{φ:Ren}{n:Nat}{v v':Value}(h:VR φ n v v'):E Eq n v v:=by
 induction h with
 |ptr o off ho=>exact .ptr _ _ _ rfl ho
 |sl o off l c c' q ho=>exact .sl _ _ _ _ _ rfl ho
 |slz o off x ho=>exact .sl _ _ _ _ _ rfl ho
 |func f cs cs' hs _ ih=>exact .func _ _ _ rfl fun i h h'=>ih i h (by omega)
 |agg cs cs' hs h1 _ ih=>exact .agg _ _ rfl fun i h h'=>ih i h (by omega)
 |tuple cs cs' hs _ ih=>exact .tuple _ _ rfl fun i h h'=>ih i h (by omega)
 |_=>exact .atom _ rfl
theorem WFs.of{φ:Ren}{nt:Nat}{fr:Fr}{tmps:Array Value}{h:H}{w:World}(hF:FR φ h.length nt fr tmps)(hH:HR φ B h w):WFs fr h:=by
 refine⟨fun t v hv=>let⟨v',_,h2⟩:=hF.2 t v hv;⟨v,hv,h2.self⟩,⟨fun o o2 p p2 h1 h2=>by subst h1;subst h2;rfl,fun j=>rfl,fun o o2 he=> ?_⟩⟩
 subst he
 cases ho:h[o]? with
 |none=>trivial
 |some b=>cases b with
  |dead=>trivial
  |row r=>
   have hr:h.row o=some r:=by unfold H.row;rw[ho]
   refine⟨rfl,rfl,rfl,rfl,fun i v hv=>⟨v,hv, ?_⟩⟩
   obtain⟨v',_,h2⟩:=hH.cell hr hv
   exact h2.self
theorem Eqv.model{n0 nt:Nat}{fr fr2:Fr}{h h2:H}{φ:Ren}{tmps:Array Value}{w:World}(he:Eqv n0 fr h fr2 h2)(hF:FR φ h2.length nt fr2 tmps)(hH:HR φ B h2 w):
 ∃φ':Ren,FR φ' h.length nt fr tmps∧HR φ' B h w∧ ∀o,o<n0→φ' o=φ o:=by
 obtain⟨π,a1,a2,a3,a4,a5⟩:=he.ex
 have hrow: ∀{o r},h.row o=some r→ ∃o2 r2,π o o2∧φ.by π o=φ o2∧h2.row o2=some r2∧r2.elem=r.elem∧r2.unit=r.unit∧r2.own=r.own∧LE π h.length r.cells r2.cells:=by
  intro o r hr
  obtain⟨o2,ho⟩:=a5 o (fz4 hr)
  obtain⟨r2,k1,k2,k3,k4,k5⟩:=a2.row ho hr
  exact⟨o2,r2,ho,Ren.by_eq a2 ho,k1,k2,k3,k4,k5⟩
 refine⟨φ.by π,⟨hF.1,fun t v hv=> ?_⟩,⟨fun o r hr ho=> ?_,fun o r hr ho=> ?_,fun o r hr c hc=> ?_,fun o o' r r' hr hr' ho ho' hb=> ?_,hH.size⟩,fun o ho=>Ren.by_eq a2 (a4 o ho)⟩
 ·obtain⟨v2,k1,k2⟩:=a1 t v hv
  obtain⟨v',k3,k4⟩:=hF.2 t v2 k1
  exact⟨v',k3,k4.by a2 k2⟩
 ·obtain⟨o2,r2,k1,k2,k3,k4,k5,k6,k7⟩:=hrow hr
  obtain⟨m1,m2,m3,cur,m4,m5,m6⟩:=hH.own o2 r2 k3 (k6.trans ho)
  rw[k2]
  refine⟨m1,m2.trans k5,m3,cur,by rw[m4,k4],m5,fun i c hc=> ?_⟩
  obtain⟨c2,n1,n2⟩:=k7.2 i c hc
  obtain⟨v,n3,n4⟩:=m6 i c2 n1
  exact⟨v,n3,n4.by a2 n2⟩
 ·obtain⟨o2,r2,k1,k2,k3,k4,k5,k6,k7⟩:=hrow hr
  obtain⟨m1,m3⟩:=hH.ro o2 r2 k3 (k6.trans ho)
  rw[k2]
  refine⟨m1,fun i c hc=> ?_⟩
  obtain⟨c2,n1,n2⟩:=k7.2 i c hc
  obtain⟨m2,v,n3,n4⟩:=m3 i c2 n1
  exact⟨m2,v,n3,n4.by a2 n2⟩
 ·obtain⟨o2,r2,k1,k2,k3,k4,k5,k6,k7⟩:=hrow hr
  obtain⟨i,hi,he⟩:=List.getElem_of_mem hc
  obtain⟨c2,n1,n2⟩:=k7.2 i c (by rw[List.getElem?_eq_getElem hi,he])
  rw[←n2.one]
  exact hH.one o2 r2 k3 c2 (List.mem_of_getElem? n1)
 ·obtain⟨o2,r2,k1,k2,k3,k4,k5,k6,k7⟩:=hrow hr
  obtain⟨p2,s2,l1,l2,l3,l4,l5,l6,l7⟩:=hrow hr'
  rw[k2,l2]at hb
  have:=hH.inj o2 p2 r2 s2 k3 l3 (k6.trans ho) (l6.trans ho') hb
  exact(a2.uni _ _ _ _ k1 l1).2 this
end
end Go.Am
namespace Go.Am
open Go.RowKit (Below)
def isC:Obj→Bool
 | .cells .. =>true
 |_=>false
def NotC(w:World)(k:Nat):Prop:= ∃o,w.heap[k]? =some o∧isC o=false
theorem NotC.cell{w:World}{k:Nat}(h:NotC w k)(i:Nat):w.cell? ⟨k,i,none⟩=none:=by
 obtain⟨o,h1,h2⟩:=h
 unfold World.cell?
 simp only[h1]
 cases o<;>first|rfl|cases h2
theorem NotC.lt{w:World}{k:Nat}(h:NotC w k):k<w.heap.size:=by
 obtain⟨o,h1,_⟩:=h
 exact(Array.getElem?_eq_some_iff.1 h1).1
structure Up (B0 B:Nat→Prop) (w:World):Prop where
 sub: ∀k,B0 k→B k
 ob: ∀k,B k→ ¬B0 k→NotC w k
section
variable {B0 B:Nat→Prop} {φ:Ren} {h:H} {w w':World}
theorem Up.bel(u:Up B0 B w)(hb:Bel B w w'):Up B0 B w':=
 ⟨u.sub,fun k h1 h2=>by obtain⟨o,h3,h4⟩:=u.ob k h1 h2;exact⟨o,by rw[hb.block k h1];exact h3,h4⟩⟩
theorem HR.down(hH:HR φ B h w)(u:Up B0 B w):HR φ B0 h w:=by
 refine⟨fun o r hr ho=> ?_,fun o r hr ho=> ?_,hH.one,hH.inj,fun k hk=>hH.size k (u.sub k hk)⟩
 ·obtain⟨a,b,c,d⟩:=hH.own o r hr ho
  exact⟨a,b,fun e=>c (u.sub _ e),d⟩
 ·obtain⟨a,b⟩:=hH.ro o r hr ho
  refine⟨a,fun i c hc=> ?_⟩
  obtain⟨k,v,hv,hv2⟩:=b i c hc
  refine⟨Classical.byContradiction fun hn=> ?_,v,hv,hv2⟩
  rw[(u.ob _ k hn).cell]at hv
  cases hv
theorem HR.lift{B1:Nat→Prop}(hH:HR φ B h w)(hs: ∀k,B k→B1 k)(hn: ∀k,B1 k→B k∨NotC w k):HR φ B1 h w:=by
 refine⟨fun o r hr ho=> ?_,fun o r hr ho=> ?_,hH.one,hH.inj,fun k hk=>(hn k hk).elim (hH.size k) NotC.lt⟩
 ·obtain⟨a,b,c,cur,d,e⟩:=hH.own o r hr ho
  refine⟨a,b,fun hb=> ?_,cur,d,e⟩
  rcases hn _ hb with h1|⟨x,h1,h2⟩
  ·exact c h1
  ·rw[d]at h1;cases h1;cases h2
 ·obtain⟨a,b⟩:=hH.ro o r hr ho
  refine⟨a,fun i c hc=> ?_⟩
  obtain⟨k,v⟩:=b i c hc
  exact⟨hs _ k,v⟩
theorem HR.poke(hH:HR φ B h w){r:Nat}(o':Obj)(hr:NotC w r):HR φ B h (w.putObj r o'):=by
 have hsz:(w.putObj r o').heap.size=w.heap.size:=by simp[World.putObj]
 refine⟨fun o x hx ho=> ?_,fun o x hx ho=> ?_,hH.one,hH.inj,fun k hk=>by rw[hsz];exact hH.size k hk⟩
 ·obtain⟨a,b,c,cur,d,e⟩:=hH.own o x hx ho
  refine⟨a,b,c,cur, ?_,e⟩
  have hne:(φ o).blk≠r:=fun e=>by
   obtain⟨y,h1,h2⟩:=hr
   rw[e,h1]at d;cases d;cases h2
  rw[World.putObj_heap_other hne]
  exact d
 ·obtain⟨a,b⟩:=hH.ro o x hx ho
  refine⟨a,fun i c hc=> ?_⟩
  obtain⟨k,v,hv,hv2⟩:=b i c hc
  refine⟨k,v, ?_,hv2⟩
  rw[←hv]
  have hne:(φ o).blk≠r:=fun e=>by rw[e,hr.cell]at hv;cases hv
  exact World.cell?_of_block (World.putObj_heap_other hne)
theorem Bel.poke{r:Nat}(o':Obj)(hr: ¬B r):Bel B w (w.putObj r o'):=
 ⟨rfl,rfl,rfl,by simp[World.putObj],fun k hk=>World.putObj_heap_other (fun e=>hr (e▸hk))⟩
theorem NotC.poke{k r:Nat}{o':Obj}(h:NotC w k)(ho:isC o'=false):NotC (w.putObj r o') k:=by
 by_cases e:k=r
 ·subst e;exact⟨o',World.putObj_heap_same h.lt,ho⟩
 ·obtain⟨o,h1,h2⟩:=h
  exact⟨o,by rw[World.putObj_heap_other e];exact h1,h2⟩
theorem Up.poke(u:Up B0 B w){r:Nat}{o':Obj}(ho:isC o'=false):Up B0 B (w.putObj r o'):=⟨u.sub,fun k h1 h2=>(u.ob k h1 h2).poke ho⟩
def mkD(r:Nat):Deferred:={target:= .collected r,args:= #[]}
structure Mks (B0 B:Nat→Prop) (w:World) (rs:List Nat):Prop where
 nd:rs.Nodup
 at': ∀r∈rs,B r∧ ¬B0 r∧w.heap[r]? =some (.deferred (some []))
theorem Mks.bel{rs:List Nat}(m:Mks B0 B w rs)(hb:Bel B w w'):Mks B0 B w' rs:=⟨m.nd,fun r hr=>by obtain⟨a,b,c⟩:=m.at' r hr;exact⟨a,b,by rw[hb.block r a];exact c⟩⟩
theorem v08{P:Program}{cs:List Frame}: ∀(rs:List Nat) (fr:Frame) (w:World),fr.mode= .returning→fr.defers=rs.map mkD→Mks B0 B w rs→HR φ B h w→Up B0 B w→
 ∃w',Steps P (lone fr cs w) (lone {fr with defers:=[]} cs w')∧HR φ B h w'∧Up B0 B w'∧Bel B0 w w'
 | [],fr,w,hm,hd,_,hH,hu=>by
   have:{fr with defers:=[]}=fr:=by cases fr;simp at hd;subst hd;rfl
   rw[this]
   exact⟨w,Steps.refl _ _,hH,hu,Bel.refl _ _⟩
 |r::rs,fr,w,hm,hd,mk,hH,hu=>by
  obtain⟨a,b,c⟩:=mk.at' r List.mem_cons_self
  have hN:NotC w r:=⟨_,c,rfl⟩
  have hnd:=List.nodup_cons.1 mk.nd
  have h1:step P (lone fr cs w)= .next (lone {fr with defers:=[]++rs.map mkD} cs (w.putObj r (.deferred none))):=
   step_collected (by rw[hm];intro e;cases e) hd rfl (run_takeDeferred c)
  have mk2:Mks B0 B (w.putObj r (.deferred none)) rs:=⟨hnd.2,fun x hx=>by
   obtain⟨a2,b2,c2⟩:=mk.at' x (List.mem_cons_of_mem _ hx)
   have hne:x≠r:=fun e=>hnd.1 (by rw[←e];exact hx)
   exact⟨a2,b2,by rw[World.putObj_heap_other hne];exact c2⟩⟩
  obtain⟨w',k1,k2,k3,k4⟩:=v08 rs {fr with defers:=[]++rs.map mkD} (w.putObj r (.deferred none)) hm rfl mk2 (hH.poke _ hN) (hu.poke rfl)
  exact⟨w', .head h1 k1,k2,k3,(Bel.poke _ b).trans k4⟩
end
def Goal(P:Program)(B0:Nat→Prop)(cs0:List Frame)(f0:FuncId)(v:Value)(h':H)(cs:List Frame)(fr:Frame)(φ:Ren)(n:Nat)(w:World):Prop:=
 ∃φ' w' v' fr',Steps P (lone fr cs w) (lone fr' cs0 w')∧fr'.fn=f0∧fr'.leaving P w' (.returned v')∧VR φ' h'.length v v'∧HR φ' B0 h' w'∧Ext φ n φ'∧Bel B0 w w'
theorem Goal.back{P:Program}{B0:Nat→Prop}{cs0:List Frame}{f0:FuncId}{v:Value}{h':H}{cs cs1:List Frame}{fr fr1:Frame}{φ φ1:Ren}{n n1:Nat}{w w1:World}
 (hs:Steps P (lone fr cs w) (lone fr1 cs1 w1)) (hg:Goal P B0 cs0 f0 v h' cs1 fr1 φ1 n1 w1) (he:Ext φ n φ1) (hn:n≤n1) (hb:Bel B0 w w1):Goal P B0 cs0 f0 v h' cs fr φ n w:=by
 obtain⟨φ',w',v',fr',a1,a2,a3,a4,a5,a6,a7⟩:=hg
 exact⟨φ',w',v',fr',hs.trans a1,a2,a3,a4,a5,he.trans a6 hn,hb.trans a7⟩
section
variable {P:Program} {B:Nat→Prop} {T:Tab} {g:List ARes→List It→Fr→H→Res}
theorem x24(hT:xp2 P T)(hC: ∀f,zb8 P B T g f)(hg: ∀rs ks fr h v h',g rs ks fr h=some (v,h')→h.length≤h'.length){nt:Nat}{ops:Array Oper}{l:List AOper}{draw:Bool}{π:List Nat}(hr:RegOK P nt ops draw l π)(d:AOper){n0:Nat}{ds:List Deferred}:
 ∀(L:List Nat) {fr fr1:Fr} {h h1:H},(∀i∈L,i<ops.size)→gf4 T g n0 (L.map fun i=>l.getD i d) fr h=some (fr1,h1)→
 ∀{φ:Ren} {w:World} {a:Act} {b:Frame} {cs:List Frame} {k:List Item},a.defers=ds→FR φ h.length nt fr a.tmps→HR φ B h w→
 ∃φ' w' a',Steps P (lone (b.atR a (.inRegion ops L::k)) cs w) (lone (b.atR a' k) cs w')∧a'.defers=ds∧FR φ' h1.length nt fr1 a'.tmps∧HR φ' B h1 w'∧Ext φ h.length φ'∧h.length≤h1.length∧Bel B w w'∧
  ∀y,(∀(i:Nat) o,ops[i]? =some o→o.dst≠some y)→a'.tmps[y]? =a.tmps[y]?
 | [],fr,fr1,h,h1,_,hs,φ,w,a,b,cs,k,hd,hF,hH=>by
   cases hs
   exact⟨φ,w,a, .one stepR_region_end,hd,hF,hH,Ext.refl _ _,Nat.le_refl _,Bel.refl _ _,fun _ _=>rfl⟩
 |i::L,fr,fr1,h,h1,hL,hs,φ,w,a,b,cs,k,hd,hF,hH=>by
  have hi:=hL i (by simp)
  obtain⟨ao,e1,e2⟩:=hr.op i ops[i] (Array.getElem?_eq_getElem hi)
  simp only[List.map_cons,gf4]at hs
  have e3:l.getD i d=ao:=by rw[List.getD_eq_getElem?_getD,e1];rfl
  rw[e3]at hs
  split at hs
  ·rename_i fr2 h2 hst
   obtain⟨φ2,w2,v2,s1,s2,s3,s4,s5,s6⟩:=ic4 (b:=b) (cs:=cs) (k:=k) (rest:=L) hT hC hg (Array.getElem?_eq_getElem hi) e2 hst hF hH
   have hd2:(a.put ops[i].dst v2).defers=ds:=by cases ops[i].dst<;>exact hd
   obtain⟨φ3,w3,a3,t1,t2,t3,t4,t5,t6,t7,t8⟩:=x24 hT hC hg hr d L (fun j hj=>hL j (by simp[hj])) hs (b:=b) (cs:=cs) (k:=k) hd2 s2 s3
   refine⟨φ3,w3,a3,s1.trans t1,t2,t3,t4,s4.trans t5 s5,Nat.le_trans s5 t6,s6.trans t7,fun y hy=> ?_⟩
   rw[t8 y hy]
   have hne:=hy i ops[i] (Array.getElem?_eq_getElem hi)
   cases hdst:ops[i].dst with
   |none=>rfl
   |some e=>
    rw[hdst]at hne
    simp only[Act.put]
    exact Array.getElem?_setIfInBounds_ne (fun e2=>hne (by rw[e2]))
  ·cases hs
theorem HR.drawn{φ:Ren}{h:H}{w:World}(hH:HR φ B h w)(n:Nat):HR φ B h {w with drawn:=n}:=
 hH.same (Nat.le_refl _) (fun _ _=>rfl)
theorem pt1(hT:xp2 P T)(hm:P.follows .mixedOrders=true)(hC: ∀f,zb8 P B T g f)(hg: ∀rs ks fr h v h',g rs ks fr h=some (v,h')→h.length≤h'.length)(hE: ∀ρ,EmbG ρ g)
 {rs:List ARes} {v:Value} {h':H} {nt o:Nat} {Y:List Nat} {X:List Nat→Code→ACode→Prop} {Z:List It→List Item→Prop} {b:Frame} {cs:List Frame} {ds:List Deferred} {Fx:Fr→Array Value→Prop} {Wx:World→Prop} {G:Frame→Ren→Nat→World→Prop}
 (hback: ∀{fr fr1:Frame} {φ φ1:Ren} {n n1:Nat} {w w1:World},Steps P (lone fr cs w) (lone fr1 cs w1)→G fr1 φ1 n1 w1→Ext φ n φ1→n≤n1→Bel B w w1→G fr φ n w)
 (hFk: ∀{fr:Fr} {tm:Array Value} (ks:List Nat),Fx fr tm→Fx (Fr.of (hy3 fr ks)) tm)
 (hFr: ∀{fr fr1:Fr} {tm tm1:Array Value},Fx fr tm→(∀t,(t<o∨o+nt≤t)→fr1 t=fr t)→(∀y∈Y,fr1 (y+o)=fr (y+o)∧tm1[y]? =tm[y]?)→Fx fr1 tm1)
 (hW: ∀{w w':World},Wx w→Bel B w w'→Wx w')
 (hbase: ∀{ks:List It} {k:List Item} {fr:Fr} {h:H} {φ:Ren} {w:World} {a:Act},Z ks k→gF T g rs ks fr h=some (v,h')→Fx fr a.tmps→FR φ h.length nt (fr.win o nt) a.tmps→HR φ B h w→Wx w→a.defers=ds→G (b.atR a k) φ h.length w)
 (hextra: ∀{S:List Nat} {c:Code} {c':ACode} {ks:List It} {k:List Item} {fr:Fr} {h:H} {φ:Ren} {w:World} {a:Act},X S c c'→IRo P nt o Y X Z S ks k→gF T g rs (.code c'::ks) fr h=some (v,h')→Fx fr a.tmps→FR φ h.length nt (fr.win o nt) a.tmps→HR φ B h w→Wx w→a.defers=ds→G (b.atR a (.code c::k)) φ h.length w)
 (hnext: ∀{S:List Nat} {ks:List It} {k:List Item} {fr:Fr} {h:H} {φ:Ren} {w:World} {a:Act},IRo P nt o Y X Z S ks k→g rs ks fr h=some (v,h')→Fx fr a.tmps→FR φ h.length nt (fr.win o nt) a.tmps→HR φ B h w→Wx w→a.defers=ds→G (b.atR a k) φ h.length w)
 {S:List Nat} {ks:List It} {k:List Item} {fr:Fr} {h:H} {φ:Ren} {w:World} {a:Act} (hI:IRo P nt o Y X Z S ks k) (hr:gF T g rs ks fr h=some (v,h')) (hX:Fx fr a.tmps) (hF:FR φ h.length nt (fr.win o nt) a.tmps) (hH:HR φ B h w) (hw:Wx w) (hd:a.defers=ds):
 G (b.atR a k) φ h.length w:=by
 have same: ∀{S':List Nat} {ks':List It} {k':List Item} {fr2:Fr},g rs ks' fr2 h=some (v,h')→step P (lone (b.atR a k) cs w)= .next (lone (b.atR a k') cs w)→IRo P nt o Y X Z S' ks' k'→Fx fr2 a.tmps→FR φ h.length nt (fr2.win o nt) a.tmps→G (b.atR a k) φ h.length w:=
  fun hr hst hI hX2 hF2=>hback (.one hst) (hnext hI hr hX2 hF2 hH hw hd) (Ext.refl _ _) (Nat.le_refl _) (Bel.refl _ _)
 cases hI with
 |base hz=>exact hbase hz hr hX hF hH hw hd
 |blk hk=>
  simp only[gF]at hr
  exact same hr stepR_inBlock hk (hFk _ hX) (hF.sub fun t u hu=>e79 hu)
 |lp hc hk=>
  simp only[gF]at hr
  exact same hr stepR_inLoop (.code hc (.lp hc hk)) (hFk _ hX) (hF.sub fun t u hu=>e79 hu)
 | @code _ _ _ ks2 k2 hc hk=>
   cases hc with
   |stuck=>simp only[gF]at hr;cases hr
   |skip=>
    simp only[gF]at hr
    exact same hr stepR_skip hk hX hF
   |extra hx=>exact hextra hx hk hr hX hF hH hw hd
   |seq h1 h2=>
    simp only[gF]at hr
    exact same hr stepR_seq (.code h1 (.code h2 hk)) hX hF
   |cond hc h1 h2=>
    simp only[gF,jr1 hc]at hr
    split at hr
    ·rename_i t ht
     have e:=xz4 (az8 hF ht)
     refine same (S':=S) hr (stepR_cond e) ?_ hX hF
     cases t
     ·exact .code h2 hk
     ·exact .code h1 hk
    ·cases hr
   |block h1=>
    simp only[gF]at hr
    exact same hr stepR_block (.code h1 (.blk hk)) hX hF
   |exit hin=>
    simp only[gF]at hr
    obtain⟨ko,ks',k',S',e0,e1,e2⟩:=bz6 hk hin
    rw[e0]at hr
    exact same (S':=S') hr (stepR_exit e1) e2 (hFk _ hX) (hF.sub fun t u hu=>e79 hu)
   | @loop _ kh c c' h1=>
     simp only[gF]at hr
     exact same hr stepR_loop (.code h1 (.lp h1 hk)) (hFk _ hX) (hF.sub fun t u hu=>e79 hu)
   |region id ops draw l π hro hlk hY=>
    simp only[gF]at hr
    split at hr
    ·rename_i fr1 h1 hrun
     have hlk2: ∀x∈π.map (fun i=>l.getD i opNo),q08 nt x:=fun x hx=>by
      obtain⟨i,_,rfl⟩:=List.mem_map.1 hx
      simp only[List.getD_eq_getElem?_getD]
      cases hi:l[i]? with
      |none=>exact⟨fun t ht=>by simp[opNo,AOper.looks,AOp.opds,tmpsOf]at ht,fun d hd=>by cases hd⟩
      |some x=>exact hlk x (List.mem_of_getElem? hi)
     obtain⟨hrun,hoth⟩:=zd6 hlk2 hrun
     have hlen:=c16 hg hrun
     have hdst: ∀x∈π.map (fun i=>l.getD i opNo),∀d,x.dst=some d→d<nt∧d∉Y:=fun x hx d hd=>by
      refine⟨(hlk2 x hx).2 d hd, ?_⟩
      obtain⟨i,hi,rfl⟩:=List.mem_map.1 hx
      simp only[List.getD_eq_getElem?_getD]at hd
      cases hli:l[i]? with
      |none=>rw[hli]at hd;cases hd
      |some y=>
       rw[hli]at hd
       have hil:i<ops.size:=by rw[←hro.len];exact(List.getElem?_eq_some_iff.1 hli).1
       obtain⟨ao,q1,q2⟩:=hro.op i ops[i] (Array.getElem?_eq_getElem hil)
       rw[hli]at q1;cases q1
       exact hY i ops[i] (Array.getElem?_eq_getElem hil) d (by rw[←q2.dst];exact hd)
     have hout: ∀t,(t<o∨o+nt≤t)→fr1 t=fr t:=fun t ht=>hoth t fun x hx e=>by
      cases hd:x.dst with
      |none=>rw[hd]at e;cases e
      |some d=>
       rw[hd]at e
       have h5:=(hdst x hx d hd).1
       have e:d+o=t:=Option.some.inj e
       omega
     have hyk: ∀y∈Y,fr1 (y+o)=fr (y+o):=fun y hy=>hoth _ fun x hx e=>by
      cases hd:x.dst with
      |none=>rw[hd]at e;cases e
      |some d=>
       rw[hd]at e
       have e:d+o=y+o:=Option.some.inj e
       have:d=y:=by omega
       exact(hdst x hx d hd).2 (this▸hy)
     have hyt: ∀{a2:Act},(∀y,(∀(i:Nat) o,ops[i]? =some o→o.dst≠some y)→a2.tmps[y]? =a.tmps[y]?)→ ∀y∈Y,fr1 (y+o)=fr (y+o)∧a2.tmps[y]? =a.tmps[y]? :=fun h y hy=>⟨hyk y hy,h y fun i x hx e=>hY i x hx y e hy⟩
     cases hdr:draw with
     |false=>
      subst hdr
      rw[hro.txt rfl]at hrun
      obtain⟨φ2,w2,a2,t1,t2,t3,t4,t5,t6,t7,t8⟩:=x24 hT hC hg hro ⟨none, .lenK 0,none,false⟩ (List.range ops.size) (fun i hi=>List.mem_range.1 hi) hrun (b:=b) (cs:=cs) hd hF hH
      exact hback (.head stepR_region t1) (hnext hk hr (hFr hX hout (hyt t8)) t3 t4 (hW hw t7) t2) t5 t6 t7
     |true=>
      subst hdr
      obtain⟨hdn,hco⟩:=hro.dr rfl
      have hst:=stepR_region_draw (P:=P) (b:=b) (a:=a) (k:=k2) (cs:=cs) (w:=w) (id:=id) (ops:=ops)
      rw[hm]at hst
      have hgood: ∀(i:Nat) ao,l[i]? =some ao→True:=fun _ _ _=>trivial
      obtain⟨fr2,h2,hrun2,heqv⟩:=l80 hg hE hT.good hro.len hro.good hro.ord opNo rfl hdn hco (w.tape w.drawn (.order b.fn id)) (WFs.of hF hH) hrun
      have htopo:=vr2 hdn (w.tape w.drawn (.order b.fn id))
      obtain⟨φ2,w2,a2,t1,t2,t3,t4,t5,t6,t7,t8⟩:=x24 hT hC hg hro ⟨none, .lenK 0,none,false⟩ _ (fun i hi=>List.mem_range.1 (htopo.perm.mem_iff.1 hi)) hrun2 (b:=b) (cs:=cs) hd hF (hH.drawn _)
      have h0:Bel B w {w with drawn:=w.drawn+1}:=⟨rfl,rfl,rfl,Nat.le_refl _,fun _ _=>rfl⟩
      obtain⟨φ3,u1,u2,u3⟩:=heqv.model t3 t4
      exact hback (.head hst t1) (hnext hk hr (hFr hX hout (hyt t8)) u1 u2 (hW hw (h0.trans t7)) t2) (fun o ho=>(u3 o ho).trans (t5 o ho)) hlen (h0.trans t7)
    ·cases hr
end
end Go.Am
namespace Go.Am
open Go.RowKit (Below)
theorem lh0{fr:Fr}: ∀{ks:List Nat} {t:Nat} {v:Value},Fr.of (hy3 fr ks) t=some v→t∈ks∧fr t=some v:=by
 intro ks
 induction ks with
 |nil=>intro t v h;simp[hy3,Fr.of]at h
 |cons k ks ih=>
  intro t v h
  simp only[hy3]at h
  cases hk:fr k with
  |none=>rw[hk]at h;obtain⟨a,b⟩:=ih h;exact⟨List.mem_cons_of_mem _ a,b⟩
  |some u=>
   rw[hk]at h
   simp only[Fr.of]at h
   cases hb:Nat.beq t k with
   |true=>rw[hb]at h;obtain rfl:=beq_true hb;exact⟨List.mem_cons_self,by rw[hk];exact h⟩
   |false=>rw[hb]at h;obtain⟨a,b⟩:=ih h;exact⟨List.mem_cons_of_mem _ a,b⟩
theorem eu7{T:Tab}{g:List ARes→List It→Fr→H→Res}{n0:Nat}: ∀{l l2:List AOper} {fr fr1:Fr} {h h1:H},gf4 T g n0 (l++l2) fr h=some (fr1,h1)→ ∃fr2 h2,gf4 T g n0 l fr h=some (fr2,h2)∧gf4 T g n0 l2 fr2 h2=some (fr1,h1)
 | [],l2,fr,fr1,h,h1,hr=>⟨fr,h,rfl,hr⟩
 |x::l,l2,fr,fr1,h,h1,hr=>by
  simp only[List.cons_append,gf4]at hr⊢
  split at hr
  ·rename_i fr' h' hs
   obtain⟨fr2,h2,k1,k2⟩:=eu7 hr
   exact⟨fr2,h2,k1,k2⟩
  ·cases hr
theorem ae3{T:Tab}{g:List ARes→List It→Fr→H→Res}{n0:Nat}{d:Nat}{op:AOp}{l:List AOper}{fr fr1:Fr}{h h1:H}(hop:(∀f a,op≠ .call f a)∧ ∀x a,op≠ .calld x a)(hr:gf4 T g n0 (⟨some d,op,none,false⟩::l) fr h=some (fr1,h1)):
 ∃v h2,aop fr h op=some (v,h2)∧gf4 T g n0 l (fr.put (some d) v) h2=some (fr1,h1):=by
 simp only[gf4,km6]at hr
 split at hr
 ·rename_i fr' h' hs
  split at hs
  ·rename_i v h2 hc
   cases hs
   refine⟨v,_, ?_,hr⟩
   unfold core at hc
   simp only[gd]at hc
   cases op<;>simp_all [wb6]
  ·cases hs
 ·cases hr
theorem cf7{T:Tab}{g:List ARes→List It→Fr→H→Res}{n0 o3:Nat}: ∀(l:List (Nat×Operand)) {fr fr1:Fr} {h h1:H},(∀p∈l,o3≤p.1)→(∀p∈l,∀t,p.2= .tmp t→t<o3)→
 gf4 T g n0 (l.map fun p=>⟨some p.1, .mv p.2,none,false⟩) fr h=some (fr1,h1)→
 h1=h∧(∀t,(∀p∈l,p.1≠t)→fr1 t=fr t)∧ ∀t u,(∃p∈l,p.1=t)→fr1 t=some u→ ∃p∈l,p.1=t∧ev fr p.2=some u
 | [],fr,fr1,h,h1,_,_,hr=>by
   cases hr
   exact⟨rfl,fun _ _=>rfl,fun t u ⟨p,hp,_⟩=>by cases hp⟩
 |p::l,fr,fr1,h,h1,h2,h3,hr=>by
  obtain⟨v,h4,k1,k2⟩:=ae3 (by simp) hr
  simp only[aop]at k1
  split at k1
  ·rename_i u hu
   cases k1
   obtain⟨m1,m2,m3⟩:=cf7 l (fun q hq=>h2 q (List.mem_cons_of_mem _ hq)) (fun q hq=>h3 q (List.mem_cons_of_mem _ hq)) k2
   have hp2:=h2 p List.mem_cons_self
   have hev: ∀q∈l,ev (fr.put (some p.1) (some u)) q.2=ev fr q.2:=fun q hq=>by
    have hq3:=h3 q (List.mem_cons_of_mem _ hq)
    cases hq2:q.2 with
    |tmp t=>
     show fr.put (some p.1) (some u) t=fr t
     exact pc9 (fun e=>by have e2:p.1=t:=Option.some.inj e;exact absurd (hq3 t hq2) (Nat.not_lt.2 (by rw[←e2];exact hp2)))
    |_=>rfl
   refine⟨m1,fun t ht=> ?_,fun t w hex hw=> ?_⟩
   ·rw[m2 t fun q hq=>ht q (List.mem_cons_of_mem _ hq)]
    exact pc9 (fun e=>ht p List.mem_cons_self (Option.some.inj e))
   ·by_cases hl: ∃q∈l,q.1=t
    ·obtain⟨q,hq,h5,h6⟩:=m3 t w hl hw
     exact⟨q,List.mem_cons_of_mem _ hq,h5,by rw[←hev q hq];exact h6⟩
    ·rw[m2 t fun q hq e=>hl ⟨q,hq,e⟩]at hw
     obtain⟨q,hq,h5⟩:=hex
     rcases List.mem_cons.1 hq with rfl|hq
     ·rw[←h5,qd0]at hw
      exact⟨q,List.mem_cons_self,h5,by rw[hu,hw]⟩
     ·exact absurd ⟨q,hq,h5⟩ hl
  ·cases k1
section
variable {P:Program} {B:Nat→Prop} {T:Tab} {g:List ARes→List It→Fr→H→Res}
theorem tn1{ops:Array Oper}{i:Nat}{rest:List Nat}{o:Oper}{a:Act}{b:Frame}{cs:List Frame}{k:List Item}{w w':World}{v:Value}(ho:ops[i]? =some o)(hgd:o.guard=none)(hnd: ∀c,o.op≠ .defer c)(hrun:(execOp a.eval o).run P w= .ok (.value v) w'):
 step P (lone (b.atR a (.inRegion ops (i::rest)::k)) cs w)= .next (lone (b.atR (a.put o.dst v) (.inRegion ops rest::k)) cs w'):=by
 have hG:=stepGR_op (P:=P) (b:=b) (a:=a) (k:=k) (cs:=cs) (w:=w) (rest:=rest) ho (by simp[Region.wanted,hgd])
 rw[Oper.semAt_eq _ _ _ hnd]at hG
 have hfin:(b.atR a (.inRegion ops (i::rest)::k)).finish v=b.atR (a.put o.dst v) (.inRegion ops rest::k):=by rw[Frame.finish_atR,ho];rfl
 exact step_lone_go (by rw[hG,←hfin];simp[stepG.apply,hrun])
theorem rn7{ops:Array Oper}{i:Nat}{rest:List Nat}{o:Oper}{c:Call}{y l:Nat}{r:Loop}{a:Act}{b:Frame}{cs:List Frame}{k:List Item}{w:World}(ho:ops[i]? =some o)(hgd:o.guard=none)(hc:o.op= .call c)(hcal:c.callee= .value (.tmp y))
 (hy:a.tmps[y]? =some (.func (.yield l) #[] #[])) (hl:w.heap[l]? =some (.loop r)) (hsz:c.args.size=r.params.size):
 step P (lone (b.atR a (.inRegion ops (i::rest)::k)) cs w)= .next (lone (Frame.round l r.fn ((r.params.zip (c.args.map a.eval)).foldl (fun tmps (t,x)=>tmps.setIfInBounds t x) r.tmps) r.assign r.body .normal) (b.atR a (.inRegion ops (i::rest)::k)::cs) w):=by
 have hG:=stepGR_op (P:=P) (b:=b) (a:=a) (k:=k) (cs:=cs) (w:=w) (rest:=rest) ho (by simp[Region.wanted,hgd])
 rw[Oper.semAt_eq _ _ _ (fun d e=>by rw[hc]at e;cases e)]at hG
 have hev:a.eval (.tmp y)= .func (.yield l) #[] #[]:=by
  show a.tmps.getD y undef=_
  rw[Array.getD_eq_getD_getElem?,hy];rfl
 have hrun:(execOp a.eval o).run P w= .ok (.round l r.fn ((r.params.zip (c.args.map a.eval)).foldl (fun tmps (t,x)=>tmps.setIfInBounds t x) r.tmps) r.assign r.body) w:=by
  have:=run_yield (P:=P) (args:=c.args.map a.eval) hl (by simpa using hsz)
  simp only[execOp,hc,resolve,hcal,hev,Deferred.ofValue,invoke,Sem.run_bind,Sem.run_pure,Result.andThen]
  simpa using this
 exact step_lone_go (by rw[hG];simp[stepG.apply,hrun,Frame.atR])
theorem n48(hT:xp2 P T)(hC: ∀f,zb8 P B T g f)(hg: ∀rs ks fr h v h',g rs ks fr h=some (v,h')→h.length≤h'.length){nt:Nat}{Y:List Nat}{ops:Array Oper}{n0:Nat}{ds:List Deferred}{b:Frame}{cs:List Frame}{k:List Item}{yv:Value}(hYlt: ∀y∈Y,y<nt)(h0Y:0∈Y):
 ∀(l:List (Option AOper)) (i:Nat) {fr fr1:Fr} {h h1:H},PreOK P nt Y ops i l→gf4 T g n0 (l.filterMap fun x=>x) fr h=some (fr1,h1)→
 ∀{φ:Ren} {w:World} {a:Act} (rest:List Nat),a.defers=ds→FR φ h.length nt fr a.tmps→HR φ B h w→(∀y∈Y,fr y=none)→a.tmps[0]? =some yv→
 ∃φ' w' a',Steps P (lone (b.atR a (.inRegion ops (List.range' i l.length++rest)::k)) cs w) (lone (b.atR a' (.inRegion ops rest::k)) cs w')∧a'.defers=ds∧FR φ' h1.length nt fr1 a'.tmps∧HR φ' B h1 w'∧Ext φ h.length φ'∧h.length≤h1.length∧Bel B w w'∧
  (∀y∈Y,fr1 y=none)∧a'.tmps[0]? =some yv∧(∀y∈Y,a.tmps[y]? =some yv→a'.tmps[y]? =some yv)∧ ∀(j:Nat) x y,l[j]? =some none→ops[i+j]? =some x→x.dst=some y→a'.tmps[y]? =some yv
 | [],i,fr,fr1,h,h1,hp,hr,φ,w,a,rest,hd,hF,hH,hY,hy=>by
   cases hr
   exact⟨φ,w,a, .refl _ _,hd,hF,hH,Ext.refl _ _,Nat.le_refl _,Bel.refl _ _,hY,hy,fun _ _ h=>h,fun j x y h=>by simp at h⟩
 |some ao::l,i,fr,fr1,h,h1,hp,hr,φ,w,a,rest,hd,hF,hH,hY,hy=>by
  cases hp with
  | @op _ o _ _ ho hc hlk hdY hp=>
  simp only[List.filterMap_cons,gf4]at hr
  split at hr
  ·rename_i fr2 h2 hst
   rw[List.length_cons,List.range'_succ,List.cons_append]
   obtain⟨φ2,w2,v2,s1,s2,s3,s4,s5,s6⟩:=ic4 (b:=b) (cs:=cs) (k:=k) (rest:=List.range' (i+1) l.length++rest) hT hC hg ho hc hst hF hH
   have hd2:(a.put o.dst v2).defers=ds:=by cases o.dst<;>exact hd
   have hfr2: ∀y∈Y,fr2 y=fr y:=fun y hyY=>by
    unfold km6 at hst
    split at hst
    ·cases hst
     exact pc9 (fun e=>hdY y (by rw[←hc.dst];exact e) hyY)
    ·cases hst
   have htm: ∀y∈Y,(a.put o.dst v2).tmps[y]? =a.tmps[y]? :=fun y hyY=>by
    cases hod:o.dst with
    |none=>rfl
    |some e=>
     simp only[Act.put]
     exact Array.getElem?_setIfInBounds_ne (fun e2=>hdY e hod (by rw[e2];exact hyY))
   obtain⟨φ3,w3,a3,t1,t2,t3,t4,t5,t6,t7,t8,t9,t10,t11⟩:=n48 hT hC hg hYlt h0Y l (i+1) hp hr (b:=b) (cs:=cs) (k:=k) rest hd2 s2 s3 (fun y hyY=>by rw[hfr2 y hyY];exact hY y hyY) (by rw[htm 0 h0Y];exact hy)
   refine⟨φ3,w3,a3,s1.trans t1,t2,t3,t4,s4.trans t5 s5,Nat.le_trans s5 t6,s6.trans t7,t8,t9,fun y hyY h=>t10 y hyY (by rw[htm y hyY];exact h),fun j x y h1 h2 h3=> ?_⟩
   cases j with
   |zero=>simp at h1
   |succ j=>exact t11 j x y (by simpa using h1) (by rw[show i+1+j=i+(j+1) by omega];exact h2) h3
  ·cases hr
 |none::l,i,fr,fr1,h,h1,hp,hr,φ,w,a,rest,hd,hF,hH,hY,hy=>by
  cases hp with
  | @mv _ o d _ ho hop hgd hdst hd0 hdY hp=>
  have hr:gf4 T g n0 (l.filterMap fun x=>x) fr h=some (fr1,h1):=hr
  rw[List.length_cons,List.range'_succ,List.cons_append]
  have hev:a.eval (.tmp 0)=yv:=by
   show a.tmps.getD 0 undef=_
   rw[Array.getD_eq_getD_getElem?,hy];rfl
  have hrun:(execOp a.eval o).run P w= .ok (.value yv) w:=by
   rcases hop with e|e<;>simp[execOp,e,hev]
  have hst:=tn1 (P:=P) (b:=b) (cs:=cs) (k:=k) (rest:=List.range' (i+1) l.length++rest) ho hgd (fun c e=>by rcases hop with q|q<;>rw[q]at e<;>cases e) hrun
  rw[hdst]at hst
  have hsz:d<a.tmps.size:=Nat.lt_of_lt_of_le (hYlt d hdY) hF.1
  have hF2:FR φ h.length nt fr (a.put (some d) yv).tmps:=by
   refine⟨by simpa [Act.put]using hF.1,fun t u hu=> ?_⟩
   have hne:d≠t:=fun e=>by rw[←e,hY d hdY]at hu;cases hu
   simp only[Act.put]
   rw[Array.getElem?_setIfInBounds_ne hne]
   exact hF.2 t u hu
  have htm: ∀y:Nat,a.tmps[y]? =some yv→(a.put (some d) yv).tmps[y]? =some yv:=fun y h=>by
   show(a.tmps.setIfInBounds d yv)[y]? =some yv
   by_cases e:d=y
   ·subst e;simp[hsz]
   ·rw[Array.getElem?_setIfInBounds_ne e];exact h
  obtain⟨φ3,w3,a3,t1,t2,t3,t4,t5,t6,t7,t8,t9,t10,t11⟩:=n48 hT hC hg hYlt h0Y l (i+1) hp hr (b:=b) (cs:=cs) (k:=k) (a:=a.put (some d) yv) rest hd hF2 hH hY (htm 0 hy)
  refine⟨φ3,w3,a3, .head hst t1,t2,t3,t4,t5,t6,t7,t8,t9,fun y hyY h=>t10 y hyY (htm y h),fun j x y h1 h2 h3=> ?_⟩
  cases j with
  |zero=>
   rw[Nat.add_zero,ho]at h2
   cases h2
   rw[hdst]at h3
   cases h3
   exact t10 d hdY (by show(a.tmps.setIfInBounds d yv)[d]? =some yv;simp[hsz])
  |succ j=>exact t11 j x y (by simpa using h1) (by rw[show i+1+j=i+(j+1) by omega];exact h2) h3
end
end Go.Am
namespace Go.Am
def GX(P:Program)(B0:Nat→Prop)(cs0:List Frame)(f0:FuncId)(v:Value)(h':H)(φ0:Ren)(n0:Nat)(cs:List Frame)(fr:Frame)(φ:Ren)(n:Nat)(w:World):Prop:=
 Ext φ0 n0 φ→n0≤n→Goal P B0 cs0 f0 v h' cs fr φ n w
theorem GX.back{P:Program}{B0:Nat→Prop}{cs0:List Frame}{f0:FuncId}{v:Value}{h':H}{φ0:Ren}{n0:Nat}{cs cs1:List Frame}{fr fr1:Frame}{φ φ1:Ren}{n n1:Nat}{w w1:World}
 (hs:Steps P (lone fr cs w) (lone fr1 cs1 w1)) (hg:GX P B0 cs0 f0 v h' φ0 n0 cs1 fr1 φ1 n1 w1) (he:Ext φ n φ1) (hn:n≤n1) (hb:Bel B0 w w1):GX P B0 cs0 f0 v h' φ0 n0 cs fr φ n w:=
 fun h1 h2=>Goal.back hs (hg (h1.trans he h2) (Nat.le_trans h2 hn)) he hn hb
theorem gS{T:Tab}{n:Nat}{rs:List ARes}{ks:List It}{fr:Fr}{h:H}{r:Value×H}(hr:goN T n rs ks fr h=some r): ∃m,n=m+1∧gF T (goN T m) rs ks fr h=some r:=by
 cases n with
 |zero=>cases hr
 |succ m=>exact⟨m,rfl,hr⟩
theorem Bel.sub{B0 B:Nat→Prop}{w w':World}(hs: ∀k,B0 k→B k)(h:Bel B w w'):Bel B0 w w':=⟨h.os,h.tape,h.output,h.size,fun k hk=>h.block k (hs k hk)⟩
theorem c40(fr:Fr)(ks:List Nat)(t:Nat):Fr.of (hy3 fr ks) t=none∨Fr.of (hy3 fr ks) t=fr t:=by
 cases h:Fr.of (hy3 fr ks) t with
 |none=>exact .inl rfl
 |some v=>exact .inr (lr7 fr ks t v h).symm
def rcAt(rc:Loop)(jb:Bool):Loop:={rc with state:=if jb then .done else .ready,pending:=if jb then some .ret else none}
def Less(p:Nat→Prop)(fr0 fr:Fr):Prop:= ∀t,p t→fr t=none∨fr t=fr0 t
theorem Less.keep{p:Nat→Prop}{fr0 fr:Fr}(h:Less p fr0 fr)(ks:List Nat):Less p fr0 (Fr.of (hy3 fr ks)):=fun t ht=>by
 rcases c40 fr ks t with e|e
 ·exact .inl e
 ·rw[e];exact h t ht
theorem Less.same{p:Nat→Prop}{fr0 fr fr1:Fr}(h:Less p fr0 fr)(he: ∀t,p t→fr1 t=fr t):Less p fr0 fr1:=fun t ht=>by rw[he t ht];exact h t ht
section
variable {P:Program} {B0 B1:Nat→Prop} {T:Tab}
theorem c15(hT:xp2 P T)(hm:P.follows .mixedOrders=true){N:Nat}(hC: ∀m,m≤N→ ∀f,zb8 P B1 T (goN T m) f){rs:List ARes}{v:Value}{h':H}{R:RgD}{ksR:List It}{b:Frame}{c:Frame}{cs:List Frame}{l:Nat}{rc:Loop}{φ0:Ren}{n0:Nat}{cs0:List Frame}{f0:FuncId}
 (hsub: ∀k,B0 k→B1 k) (hl0: ¬B0 l) (hl1:B1 l) (hro:b.roundOf=some l) (hki:b.kind= .normal) {frE:Fr} {Wx:World→Prop} (hWb: ∀{w w'},Wx w→Bel B1 w w'→Wx w') (hWp: ∀{w} x,Wx w→Wx (w.putObj l (.loop x)))
 (hJ:frE R.J=some (.bool false))
 (hend: ∀m,m≤N→ ∀(jb:Bool) (fr:Fr) (h:H) (φ:Ren) (w:World),goN T m rs ksR (Fr.of (hy3 fr R.K3)) h=some (v,h')→Less (· <R.o3) frE fr→(fr R.J=none∨fr R.J=some (.bool jb))→HR φ B1 h w→Wx w→w.heap[l]? =some (.loop (rcAt rc jb))→GX P B0 cs0 f0 v h' φ0 n0 cs (c.finish (.bool !jb)) φ h.length w):
 ∀n,n≤N+1→ ∀{S:List Nat} {ks:List It} {k:List Item} {fr:Fr} {h:H} {φ:Ren} {w:World} {a:Act},IRo P R.nt1 R.o3 [] (X3 R.J R.M3) (fun ks k=>ks= .blk R.M3 R.K3::ksR∧k=[]) S ks k→goN T n rs ks fr h=some (v,h')→Less (fun t=>t<R.o3∨t=R.J) frE fr→
  FR φ h.length R.nt1 (fr.win R.o3 R.nt1) a.tmps→HR φ B1 h w→(Wx w∧w.heap[l]? =some (.loop {rc with state:= .busy}))→a.defers=[]→GX P B0 cs0 f0 v h' φ0 n0 (c::cs) (b.atR a k) φ h.length w:=by
 intro n
 induction n with
 |zero=>intro _ S ks k fr h φ w a _ hr;cases hr
 |succ n ih=>
  intro hn S ks k fr h φ w a hI hr hX hF hH hw hd
  --the round's end
  have fin: ∀(m:Nat) (jb:Bool) {k:List Item} {fr:Fr} {h:H} {φ:Ren} {w:World} {a:Act},m≤N→goN T m rs ksR (Fr.of (hy3 fr R.K3)) h=some (v,h')→Less (· <R.o3) frE fr→(fr R.J=none∨fr R.J=some (.bool jb))→HR φ B1 h w→(Wx w∧w.heap[l]? =some (.loop {rc with state:= .busy}))→
   step P (lone (b.atR a k) (c::cs) w)= .next (lone (c.finish (.bool !jb)) cs (w.putObj l (.loop (rcAt rc jb))))→GX P B0 cs0 f0 v h' φ0 n0 (c::cs) (b.atR a k) φ h.length w:=by
   intro m jb k fr h φ w a hm' hr hX hJ2 hH hw hst
   have hN:NotC w l:=⟨_,hw.2,rfl⟩
   exact GX.back (.one hst) (hend m hm' jb fr h φ _ hr hX hJ2 (hH.poke _ hN) (hWp _ hw.1) (World.putObj_heap_same hN.lt)) (Ext.refl _ _) (Nat.le_refl _) (Bel.poke _ hl0)
  refine pt1 (o:=R.o3) (Y:=[]) (cs:=c::cs) (ds:=[]) (Fx:=fun fr _=>Less (fun t=>t<R.o3∨t=R.J) frE fr) (Wx:=fun w=>Wx w∧w.heap[l]? =some (.loop {rc with state:= .busy})) (G:=GX P B0 cs0 f0 v h' φ0 n0 (c::cs))
   hT hm (hC n (by omega)) (oa1 n) (fun ρ=>ab0 hT.good n) (fun h1 h2 h3 h4 h5=>GX.back h1 h2 h3 h4 (h5.sub hsub)) (fun ks hx=>hx.keep ks) (fun hx h1 _=>hx.same fun t ht=>h1 t (by rcases ht with ht|rfl;exact .inl ht;exact .inr (Nat.le_refl _)))
   (fun hw hb=>⟨hWb hw.1 hb,by rw[hb.block l hl1];exact hw.2⟩) ?_ ?_ (fun hI hr hX hF hH hw hd=>ih (by omega) hI hr hX hF hH hw hd) hI hr hX hF hH hw hd
  ·--off its end
   rintro ks k fr h φ w a ⟨rfl,rfl⟩ hr hX hF hH hw hd
   simp only[gF]at hr
   exact fin n false (by omega) hr (fun t ht=>hX t (.inl ht)) (by rcases hX _ (.inr rfl)with e|e;exact .inl e;exact .inr (e.trans hJ)) hH hw (stepR_round_end hro hki (run_endRound (r:={rc with state:= .busy}) none hw.2))
  ·--the function is left
   rintro S c2 c' ks k fr h φ w a hx hk hr hX hF hH hw hd
   cases hx with
   |ret hS=>
    have hr1:goN T n rs (.code (.region [⟨some R.J, .mv (.const (.bool true)),none,false⟩]):: .code (.exit R.M3)::ks) fr h=some (v,h'):=hr
    clear hr
    obtain⟨m,rfl,hr2⟩:=gS hr1
    have hr3:goN T m rs (.code (.exit R.M3)::ks) (fr.put (some R.J) (some (.bool true))) h=some (v,h'):=hr2
    clear hr1 hr2
    obtain⟨m',rfl,hr4⟩:=gS hr3
    obtain⟨ks0,k0,⟨rfl,rfl⟩,hp⟩:=is1 hk hS
    have hp2:gc2 R.M3 ks=some (R.K3,ksR):=by rw[hp];simp[gc2]
    simp only[gF,hp2]at hr4
    refine fin m' true (by omega) hr4 (fun t ht=> ?_) (.inr qd0) hH hw (stepR_round_ret hro hki (run_endRound (r:={rc with state:= .busy}) _ hw.2))
    rw[pc9 (fun e=>by have e2:R.J=t:=Option.some.inj e;have:R.J=R.o3+R.nt1:=rfl;omega)]
    exact hX t (.inl ht)
theorem bl9(hT:xp2 P T)(hm:P.follows .mixedOrders=true){N:Nat}(hC: ∀m,m≤N→ ∀f,zb8 P B1 T (goN T m) f){rs:List ARes}{v:Value}{h':H}{R:RgD}{ksR:List It}{b:Frame}{c:Frame}{cs:List Frame}{l:Nat}{rc:Loop}{φ0:Ren}{n0:Nat}{cs0:List Frame}{f0:FuncId}
 (hsub: ∀k,B0 k→B1 k) (hl0: ¬B0 l) (hl1:B1 l) (hro:b.roundOf=some l) (hki:b.kind= .normal) {frE:Fr} {Wx:World→Prop} (hWb: ∀{w w'},Wx w→Bel B1 w w'→Wx w') (hWp: ∀{w} x,Wx w→Wx (w.putObj l (.loop x)))
 (hJ:frE R.J=some (.bool false)) (hst:rc.state= .ready) {body:Code} (hbod:CRo P R.nt1 R.o3 [] (X3 R.J R.M3) [] body R.cB)
 (hend: ∀m,m≤N→ ∀(jb:Bool) (fr:Fr) (h:H) (φ:Ren) (w:World),goN T m rs ksR (Fr.of (hy3 fr R.K3)) h=some (v,h')→Less (· <R.o3) frE fr→(fr R.J=none∨fr R.J=some (.bool jb))→HR φ B1 h w→Wx w→w.heap[l]? =some (.loop (rcAt rc jb))→GX P B0 cs0 f0 v h' φ0 n0 cs (c.finish (.bool !jb)) φ h.length w):
 ∀n,n≤N+1→ ∀{S:List Nat} {ks:List It} {k:List Item} {fr:Fr} {h:H} {φ:Ren} {w:World} {a:Act},IRo P R.nt1 R.o3 [] (fun _ _ _=>False) (fun ks k=>ks= .code R.cB:: .blk R.M3 R.K3::ksR∧k=[.beginRound, .code body]) S ks k→goN T n rs ks fr h=some (v,h')→Less (fun t=>t<R.o3∨t=R.J) frE fr→
  FR φ h.length R.nt1 (fr.win R.o3 R.nt1) a.tmps→HR φ B1 h w→(Wx w∧w.heap[l]? =some (.loop rc))→a.defers=[]→GX P B0 cs0 f0 v h' φ0 n0 (c::cs) (b.atR a k) φ h.length w:=by
 intro n
 induction n with
 |zero=>intro _ S ks k fr h φ w a _ hr;cases hr
 |succ n ih=>
  intro hn S ks k fr h φ w a hI hr hX hF hH hw hd
  refine pt1 (o:=R.o3) (Y:=[]) (cs:=c::cs) (ds:=[]) (Fx:=fun fr _=>Less (fun t=>t<R.o3∨t=R.J) frE fr) (Wx:=fun w=>Wx w∧w.heap[l]? =some (.loop rc)) (G:=GX P B0 cs0 f0 v h' φ0 n0 (c::cs))
   hT hm (hC n (by omega)) (oa1 n) (fun ρ=>ab0 hT.good n) (fun h1 h2 h3 h4 h5=>GX.back h1 h2 h3 h4 (h5.sub hsub)) (fun ks hx=>hx.keep ks) (fun hx h1 _=>hx.same fun t ht=>h1 t (by rcases ht with ht|rfl;exact .inl ht;exact .inr (Nat.le_refl _)))
   (fun hw hb=>⟨hWb hw.1 hb,by rw[hb.block l hl1];exact hw.2⟩) ?_ (fun hx=>hx.elim) (fun hI hr hX hF hH hw hd=>ih (by omega) hI hr hX hF hH hw hd) hI hr hX hF hH hw hd
  rintro ks k fr h φ w a ⟨rfl,rfl⟩ hr hX hF hH hw hd
  have hN:NotC w l:=⟨_,hw.2,rfl⟩
  exact GX.back (.one (stepR_beginRound hro (run_beginRound hw.2 hst))) (c15 hT hm hC hsub hl0 hl1 hro hki hWb hWp hJ hend (n+1) hn (.code hbod (.base ⟨rfl,rfl⟩)) hr hX hF (hH.poke _ hN) ⟨hWp _ hw.1,World.putObj_heap_same hN.lt⟩ hd) (Ext.refl _ _) (Nat.le_refl _) (Bel.poke _ hl0)
end
end Go.Am
