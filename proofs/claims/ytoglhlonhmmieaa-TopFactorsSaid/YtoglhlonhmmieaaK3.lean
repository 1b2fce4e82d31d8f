/-
  The second machine and the first: how all stands, how it goes on, what slots hold. No condition. The second machine and the first: operations that only look. No condition. The second machine and the f ..
-/
import Derived.Test.YtoglhlonhmmieaaK2
set_option linter.unusedVariables false
set_option linter.unusedSimpArgs false
set_option linter.unusedSectionVars false
set_option maxRecDepth 100000
namespace Go.Vm
open Go.Am
def aget(A:List AT)(r:Nat)(p:List Nat):Option AT:=match A[r]? with
 |some a=>a.get p
 |none=>none
def aset(A:List AT)(r:Nat)(p:List Nat)(s:AT):List AT:=match A[r]? with
 |some a=>A.set r (a.upd p s)
 |none=>A
theorem p00(A:List AT)(r:Nat)(p:List Nat):rget (A.map AT.era) r p=(aget A r p).map AT.era:=by
 unfold rget aget
 rw[List.getElem?_map]
 cases A[r]? with
 |none=>rfl
 |some a=>exact xt0 p a
theorem ao8(A:List AT)(r:Nat)(p:List Nat)(s:AT):rset (A.map AT.era) r p s.era=(aset A r p s).map AT.era:=by
 unfold rset aset
 rw[List.getElem?_map]
 cases A[r]? with
 |none=>rfl
 |some a=>
  simp only[Option.map_some]
  rw[List.map_set,mg2]
theorem mc9{A:List AT}{r:Nat}{p:List Nat}{t:Tree}(h:rget (A.map AT.era) r p=some t): ∃k,aget A r p=some k∧k.era=t:=by
 rw[p00]at h
 exact Option.map_eq_some_iff.1 h
theorem hl4(A:List AT)(r:Nat)(p:List Nat)(s:AT):(aset A r p s).length=A.length:=by
 unfold aset;split
 ·rw[List.length_set]
 ·rfl
theorem vs7{A:List AT}{r:Nat}{p:List Nat}{k:AT}(h:aget A r p=some k):r<A.length:=by
 unfold aget at h
 split at h
 ·rename_i h1;exact(List.getElem?_eq_some_iff.1 h1).1
 ·cases h
theorem z88(x:Nat){A:List AT}{r:Nat}{p:List Nat}{k s:AT}(h:aget A r p=some k):(fpL (aset A r p s)).count x+k.fp.count x=(fpL A).count x+s.fp.count x:=by
 unfold aget at h
 unfold aset
 cases ha:A[r]? with
 |none=>rw[ha]at h;cases h
 |some a=>
  rw[ha]at h
  simp only[]at h⊢
  have h1:=rh1 x (s:=s) h
  have h2:=ju4 x (s:=a.upd p s) ha
  omega
theorem bm6(x:Nat){A:List AT}{r:Nat}{p:List Nat}{k:AT}(h:aget A r p=some k):k.fp.count x≤(fpL A).count x:=by
 have:=z88 x (s:= .junk .nilFunc) h
 rw[show(AT.junk .nilFunc).fp=[]from by rw[AT.fp]<;>simp]at this
 simp at this;omega
theorem xv9(A B:List AT):fpL (A++B)=fpL A++fpL B:=by simp only[zq7,List.flatMap_append]
structure Inv (h:H) (A:List AT) (Z Zp:Nat→Prop):Prop where
 okA:okL h Zp A
 nd: ∀x,(fpL A).count x≤1
 lt: ∀o∈fpL A,o<h.length
 nz: ∀o∈fpL A,¬Z o
 zlt: ∀o,Z o→o<h.length
 zp: ∀o,Zp o→Z o
structure Ext (h:H) (A:List AT) (Zp:Nat→Prop) (h':H) (A':List AT) (Zp':Nat→Prop):Prop where
 len:h.length≤h'.length
 keep: ∀o,o<h.length→o∉fpL A→h'[o]? =h[o]?
 fp: ∀o∈fpL A',o∈fpL A∨h.length≤o
 zp: ∀o,Zp o→Zp' o
 zn: ∀o,Zp' o→Zp o∨o∈fpL A∨h.length≤o
theorem Ext.refl(h:H)(A:List AT)(Zp:Nat→Prop):Ext h A Zp h A Zp:=⟨Nat.le_refl _,fun _ _ _=>rfl,fun _ h=> .inl h,fun _ h=>h,fun _ h=> .inl h⟩
theorem Ext.trans{h h1 h2:H}{A A1 A2:List AT}{Z Z1 Z2:Nat→Prop}(a:Ext h A Z h1 A1 Z1)(b:Ext h1 A1 Z1 h2 A2 Z2):Ext h A Z h2 A2 Z2:=by
 have:=a.len
 have:=b.len
 refine⟨by omega,fun o ho hn=> ?_,fun o ho=> ?_,fun o ho=>b.zp o (a.zp o ho),fun o ho=> ?_⟩
 ·rw[b.keep o (by omega) fun hm=> ?_,a.keep o ho hn]
  rcases a.fp o hm with h|h
  ·exact hn h
  ·omega
 ·rcases b.fp o ho with h|h
  ·exact a.fp o h
  ·exact .inr (by omega)
 ·rcases b.zn o ho with h|h|h
  ·exact a.zn o h
  ·rcases a.fp o h with h|h
   ·exact .inr (.inl h)
   ·exact .inr (.inr h)
  ·exact .inr (.inr (by omega))
theorem Ext.same{h h':H}{A A':List AT}{Z Zp Zp':Nat→Prop}(e:Ext h A Zp h' A' Zp')(i:Inv h A Z Zp):Same h h' Z:=fun o ho=>by
 unfold H.row
 rw[e.keep o (i.zlt o ho) fun hm=>i.nz o hm ho]
structure Stab (A A':List AT) (ks:List Nat):Prop where
 len:A.length≤A'.length
 get: ∀(r:Nat) (p:List Nat) (b':AT),r<A.length→(r∈ks→p=[])→aget A' r p=some b'→b'.isV=false→ ∃b,aget A r p=some b∧b.isV=false∧b'.val=b.val
 pin: ∀(r:Nat) (a a':AT),A[r]? =some a→A'[r]? =some a'→a'.val=a.val∧(a.isV=false→a'.isV=false)
theorem Stab.refl(A:List AT)(ks:List Nat):Stab A A ks:=⟨Nat.le_refl _,fun r p b' _ _ h1 h2=>⟨b',h1,h2,rfl⟩,fun r a a' h1 h2=>by rw[h1]at h2;cases h2;exact⟨rfl,id⟩⟩
theorem gr7{A N:List AT}{r:Nat}(p:List Nat)(hr:r<A.length):aget (A++N) r p=aget A r p:=by
 unfold aget;rw[List.getElem?_append_left hr]
theorem Stab.app{A A':List AT}{ks:List Nat}(s:Stab A A' ks)(N:List AT):Stab A (A'++N) ks:=by
 refine⟨by rw[List.length_append];have:=s.len;omega,fun r p b' hr hk h1 h2=> ?_,fun r a a' h1 h2=> ?_⟩
 ·rw[gr7 p (by have:=s.len;omega)]at h1
  exact s.get r p b' hr hk h1 h2
 ·have:=(List.getElem?_eq_some_iff.1 h1).1
  rw[List.getElem?_append_left (by have:=s.len;omega)]at h2
  exact s.pin r a a' h1 h2
theorem Stab.trans{A B C:List AT}{ks:List Nat}(a:Stab A B ks)(b:Stab B C ks):Stab A C ks:=by
 refine⟨Nat.le_trans a.len b.len,fun r p b' hr hk h1 h2=> ?_,fun r x z h1 h2=> ?_⟩
 ·obtain⟨c,c1,c2,c3⟩:=b.get r p b' (by have:=a.len;omega) hk h1 h2
  obtain⟨d,d1,d2,d3⟩:=a.get r p c hr hk c1 c2
  exact⟨d,d1,d2,c3.trans d3⟩
 ·have hr:=(List.getElem?_eq_some_iff.1 h1).1
  have hrb:r<B.length:=by have:=a.len;omega
  have h3:B[r]? =some B[r]:=List.getElem?_eq_getElem hrb
  have p1:=b.pin r _ z h3 h2
  have p2:=a.pin r x _ h1 h3
  exact⟨p1.1.trans p2.1,fun hx=>p1.2 (p2.2 hx)⟩
theorem Stab.weak{A B:List AT}{ks ls:List Nat}(a:Stab A B ks)(h: ∀r∈ks,r∈ls):Stab A B ls:=⟨a.len,fun r p b' hr hk h1 h2=>a.get r p b' hr (fun hm=>hk (h r hm)) h1 h2,a.pin⟩
theorem oy0{s:AT}: ∀{p:List Nat} {a k:AT},a.get p=some k→s.isV=false→a.isV=false→(a.upd p s).isV=false
 | [],a,k,h1,h2,_=>h2
 |i::p,a,k,h1,h2,h3=>by
  simp only[AT.upd,AT.get]at h1⊢
  cases hk:a.kids with
  |none=>exact h3
  |some cs=>
   simp only[]
   cases hc:cs[i]? with
   |none=>exact h3
   |some b=>simp only[];rw[ua4];exact h3
def Sub(k s:AT):Prop:= ∀q b',s.get q=some b'→b'.isV=false→ ∃b,k.get q=some b∧b.isV=false∧b'.val=b.val
theorem Sub.leaf{k s:AT}(hs:s.kids=none)(hv:s.val=k.val)(hk:k.isV=false):Sub k s:=by
 intro q b' h1 h2
 cases q with
 |nil=>cases h1;exact⟨k,rfl,hk,hv⟩
 |cons i q=>simp only[AT.get,hs]at h1;cases h1
theorem ot1{s:AT}: ∀{p:List Nat} {a k:AT},a.get p=some k→s.val=k.val→k.isV=false→s.isV=false→ ∀{q:List Nat} {b':AT},(Sub k s∨q=[])→(a.upd p s).get q=some b'→b'.isV=false→ ∃b,a.get q=some b∧b.isV=false∧b'.val=b.val
 | [],a,k,h1,hv,hk,hsv,q,b',hS,h2,h3=>by
   cases h1
   rcases hS with hS|rfl
   ·exact hS q b' h2 h3
   ·cases h2;exact⟨a,rfl,hk,hv⟩
 |i::p,a,k,h1,hv,hk,hsv,q,b',hS,h2,h3=>by
  simp only[AT.get,AT.upd]at h1 h2
  cases hc:a.kids with
  |none=>rw[hc]at h1;cases h1
  |some cs=>
   rw[hc]at h1 h2
   simp only[]at h1 h2
   cases hi:cs[i]? with
   |none=>rw[hi]at h1;cases h1
   |some c=>
    rw[hi]at h1 h2
    simp only[]at h1 h2
    cases q with
    |nil=>
     cases h2
     rw[ua4]at h3
     exact⟨a,rfl,h3,df8 _ _⟩
    |cons j q=>
     have hkk:(a.setKids (cs.set i (c.upd p s))).kids=some (cs.set i (c.upd p s)):=by
      cases a with
      |sl=>rfl
      |pt=>rfl
      |nil=>cases hc;simp at hi
      |v=>cases hc
      |fn=>cases hc
      |fz=>cases hc
      |junk=>cases hc
     simp only[AT.get,hkk]at h2
     simp only[AT.get,hc]
     by_cases hij:i=j
     ·subst hij
      have hlt:=(List.getElem?_eq_some_iff.1 hi).1
      rw[List.getElem?_set_self hlt]at h2
      rw[hi]
      exact ot1 h1 hv hk hsv (hS.imp id fun e=>by cases e) h2 h3
     ·rw[List.getElem?_set_ne hij]at h2
      cases hj:cs[j]? with
      |none=>rw[hj]at h2;cases h2
      |some d=>rw[hj]at h2;exact⟨b',h2,h3,rfl⟩
theorem Stab.upd{A:List AT}{r:Nat}{p:List Nat}{k s:AT}(hk:aget A r p=some k)(hv:s.val=k.val)(h1:k.isV=false)(h2:s.isV=false){ks:List Nat}(hS:Sub k s∨r∈ks):Stab A (aset A r p s) ks:=by
 have hr:=vs7 hk
 unfold aget at hk
 have hA:A[r]? =some A[r]:=List.getElem?_eq_getElem hr
 rw[hA]at hk
 simp only[]at hk
 have hset:aset A r p s=A.set r (A[r].upd p s):=by unfold aset;rw[hA]
 refine⟨by rw[hl4];exact Nat.le_refl _,fun r' q b' hr' hkill h3 h4=> ?_,fun r' a a' h3 h4=> ?_⟩
 ·rw[hset]at h3
  unfold aget at h3⊢
  by_cases he:r=r'
  ·subst he
   rw[List.getElem?_set_self hr]at h3
   rw[hA]
   exact ot1 hk hv h1 h2 (hS.imp id fun hm=>hkill hm) h3 h4
  ·rw[List.getElem?_set_ne he]at h3
   exact⟨b',h3,h4,rfl⟩
 ·rw[hset]at h4
  by_cases he:r=r'
  ·subst he
   rw[List.getElem?_set_self hr]at h4
   rw[hA]at h3
   cases h3;cases h4
   exact⟨p33 hk hv,fun hx=>oy0 hk h2 hx⟩
  ·rw[List.getElem?_set_ne he,h3]at h4
   cases h4;exact⟨rfl,id⟩
theorem ca4{h:H}{Z:Nat→Prop}{A B:List AT}:okL h Z (A++B)↔okL h Z A∧okL h Z B:=by
 rw[ga5,ga5,ga5];simp only[List.mem_append]
 exact⟨fun k=>⟨fun a ha=>k a (.inl ha),fun a ha=>k a (.inr ha)⟩,fun k a ha=>ha.elim (k.1 a) (k.2 a)⟩
theorem Inv.new{h h':H}{A C N:List AT}{Z Zp Zx:Nat→Prop}(i:Inv h (A++C) Z Zp)(hlen:h.length≤h'.length)(hkeep: ∀o,o<h.length→h'[o]? =h[o]?)(hN:okL h' (fun o=>Zp o∨Zx o) N)(hc: ∀x,x<h.length→(fpL N).count x≤(fpL C).count x)(hd: ∀x,h.length≤x→(fpL N).count x≤1)(hb: ∀o∈fpL N,o<h'.length)
 (hx: ∀o,Zx o→(o∈fpL C∨h.length≤o)∧o<h'.length∧o∉fpL N):Inv h' (A++N) (fun o=>Z o∨Zx o) (fun o=>Zp o∨Zx o)∧Ext h (A++C) Zp h' (A++N) (fun o=>Zp o∨Zx o):=by
 have hrow: ∀o,o<h.length→h'.row o=h.row o:=fun o ho=>by unfold H.row;rw[hkeep o ho]
 have hac: ∀x,(fpL A).count x+(fpL C).count x≤1:=fun x=>by have:=i.nd x;rwa [xv9,List.count_append]at this
 have hA: ∀o,o∈fpL A→o<h.length∧ ¬Z o:=fun o ho=>⟨i.lt o (by rw[xv9];simp[ho]),i.nz o (by rw[xv9];simp[ho])⟩
 have hC: ∀o,o∈fpL C→o<h.length∧ ¬Z o:=fun o ho=>⟨i.lt o (by rw[xv9];simp[ho]),i.nz o (by rw[xv9];simp[ho])⟩
 have hNC: ∀o,o∈fpL N→o<h.length→o∈fpL C:=fun o ho hl=>ea8.2 (by have:=ea8.1 ho;have:=hc o hl;omega)
 refine⟨⟨ca4.2 ⟨okL.keep (fun o ho=> .inl ho) (fun o ho=>hrow o (i.zlt o (i.zp o ho))) (ca4.1 i.okA).1 fun o ho=>hrow o (hA o ho).1,hN⟩,fun x=> ?_,fun o ho=> ?_,fun o ho=> ?_,fun o ho=> ?_,fun o ho=> ?_⟩,hlen,fun o ho _=>hkeep o ho,fun o ho=> ?_,fun o ho=> .inl ho,fun o ho=> ?_⟩
 ·rw[xv9,List.count_append]
  have h1:=hac x
  by_cases hl:x<h.length
  ·have:=hc x hl;omega
  ·have:(fpL A).count x=0:=List.count_eq_zero.2 fun hm=>hl (hA x hm).1
   have:=hd x (by omega);omega
 ·rw[xv9]at ho
  rcases List.mem_append.1 ho with ho|ho
  ·have:=(hA o ho).1;omega
  ·exact hb o ho
 ·rw[xv9]at ho
  rcases List.mem_append.1 ho with ho|ho
  ·rintro(hz|hz)
   ·exact(hA o ho).2 hz
   ·rcases(hx o hz).1 with h1|h1
    ·have:=hac o;have:=ea8.1 ho;have:=ea8.1 h1;omega
    ·have:=(hA o ho).1;omega
  ·rintro(hz|hz)
   ·exact(hC o (hNC o ho (i.zlt o hz))).2 hz
   ·exact(hx o hz).2.2 ho
 ·rcases ho with ho|ho
  ·have:=i.zlt o ho;omega
  ·exact(hx o ho).2.1
 ·exact ho.imp (i.zp o) id
 ·rw[xv9]at ho
  rw[xv9]
  rcases List.mem_append.1 ho with ho|ho
  ·exact .inl (by simp[ho])
  ·by_cases hl:o<h.length
   ·exact .inl (by simp[hNC o ho hl])
   ·exact .inr (by omega)
 ·rcases ho with ho|ho
  ·exact .inl ho
  ·rw[xv9]
   rcases(hx o ho).1 with h1|h1
   ·exact .inr (.inl (by simp[h1]))
   ·exact .inr (.inr h1)
theorem Inv.upd{h h':H}{A C N:List AT}{Z Zp Zx:Nat→Prop}{r:Nat}{p:List Nat}{k s:AT}(i:Inv h (A++C) Z Zp)(hk:aget A r p=some k)(hlen:h.length≤h'.length)(hkeep: ∀o,o<h.length→o∉k.fp→h'[o]? =h[o]?)
 (hv:s.val=k.val) (hs:ok h' (fun o=>Zp o∨Zx o) s) (hN:okL h' (fun o=>Zp o∨Zx o) N) (hc: ∀x,x<h.length→s.fp.count x+(fpL N).count x≤k.fp.count x+(fpL C).count x) (hd: ∀x,h.length≤x→s.fp.count x+(fpL N).count x≤1) (hb: ∀o,o∈s.fp∨o∈fpL N→o<h'.length)
 (hx: ∀o,Zx o→(o∈k.fp∨o∈fpL C∨h.length≤o)∧o<h'.length∧o∉s.fp∧o∉fpL N):
 Inv h' (aset A r p s++N) (fun o=>Z o∨Zx o) (fun o=>Zp o∨Zx o)∧Ext h (A++C) Zp h' (aset A r p s++N) (fun o=>Zp o∨Zx o):=by
 have hac: ∀x,(fpL A).count x+(fpL C).count x≤1:=fun x=>by have:=i.nd x;rwa [xv9,List.count_append]at this
 have hA': ∀o,o∈fpL A→o<h.length∧ ¬Z o:=fun o ho=>⟨i.lt o (by rw[xv9];simp[ho]),i.nz o (by rw[xv9];simp[ho])⟩
 have hC: ∀o,o∈fpL C→o<h.length∧ ¬Z o:=fun o ho=>⟨i.lt o (by rw[xv9];simp[ho]),i.nz o (by rw[xv9];simp[ho])⟩
 have hkm: ∀o,o∈k.fp→o∈fpL A:=fun o ho=>ea8.2 (by have:=ea8.1 ho;have:=bm6 o hk;omega)
 have hrow: ∀o,o<h.length→o∉k.fp→h'.row o=h.row o:=fun o ho hn=>by unfold H.row;rw[hkeep o ho hn]
 have hzk: ∀o,Z o→o∉k.fp:=fun o ho hm=>(hA' o (hkm o hm)).2 ho
 have hsame:Same h h' Zp:=fun o ho=>hrow o (i.zlt o (i.zp o ho)) (hzk o (i.zp o ho))
 have hcnt: ∀x,(fpL (aset A r p s++N)).count x+k.fp.count x=(fpL A).count x+s.fp.count x+(fpL N).count x:=fun x=>by
  rw[xv9,List.count_append]
  have:=z88 x (s:=s) hk
  omega
 have hmem: ∀o,o∈fpL (aset A r p s++N)→(o∈fpL A∧o∉k.fp)∨o∈s.fp∨o∈fpL N:=fun o ho=>by
  have h1:=ea8.1 ho
  have h2:=hcnt o
  have h3:=hac o
  by_cases hm:o∈k.fp
  ·have h4:=ea8.1 hm
   by_cases h5:o∈s.fp
   ·exact .inr (.inl h5)
   ·refine .inr (.inr (ea8.2 ?_))
    have:s.fp.count o=0:=List.count_eq_zero.2 h5
    omega
  ·have h4:k.fp.count o=0:=List.count_eq_zero.2 hm
   by_cases h5:o∈s.fp
   ·exact .inr (.inl h5)
   ·by_cases h6:o∈fpL N
    ·exact .inr (.inr h6)
    ·have:s.fp.count o=0:=List.count_eq_zero.2 h5
     have:(fpL N).count o=0:=List.count_eq_zero.2 h6
     exact .inl ⟨ea8.2 (by omega),hm⟩
 have hold: ∀o,o<h.length→(o∈s.fp∨o∈fpL N)→o∈k.fp∨o∈fpL C:=fun o ho hm=>by
  have h1:=hc o ho
  by_cases h2:o∈k.fp
  ·exact .inl h2
  ·have:k.fp.count o=0:=List.count_eq_zero.2 h2
   refine .inr (ea8.2 ?_)
   rcases hm with hm|hm<;>have:=ea8.1 hm<;>omega
 refine⟨⟨ca4.2 ⟨ga5.2 fun a ha=> ?_,hN⟩,fun x=> ?_,fun o ho=> ?_,fun o ho=> ?_,fun o ho=> ?_,fun o ho=> ?_⟩,hlen,fun o ho hn=>hkeep o ho fun hm=>hn (by rw[xv9];simp[hkm o hm]),fun o ho=> ?_,fun o ho=> .inl ho,fun o ho=> ?_⟩
 ·--roots
  have hr:=vs7 hk
  have hA:A[r]? =some A[r]:=List.getElem?_eq_getElem hr
  have hset:aset A r p s=A.set r (A[r].upd p s):=by unfold aset;rw[hA]
  have hokA:=(ca4.1 i.okA).1
  unfold aget at hk
  rw[hA]at hk
  simp only[]at hk
  rw[hset]at ha
  obtain⟨j,hj,rfl⟩:=List.getElem_of_mem ha
  rw[List.length_set]at hj
  rw[List.getElem_set]
  have hAc: ∀x,A[r].fp.count x≤(fpL A).count x:=fun x=>bm6 x (A:=A) (r:=r) (p:=[]) (by unfold aget;rw[hA];rfl)
  split
  ·refine kr3 (fun o ho=> .inl ho) hsame hk (ga5.1 hokA _ (List.getElem_mem hr)) (fun x=>by have:=hAc x;have:=hac x;omega) hv hs fun o ho hn=>hrow o (hA' o (i85 hA ho)).1 hn
  ·rename_i hne
   have hAj:A[j]? =some A[j]:=List.getElem?_eq_getElem hj
   refine ok.keep (fun o ho=> .inl ho) hsame (ga5.1 hokA _ (List.getElem_mem hj)) fun o ho=>hrow o (hA' o (i85 hAj ho)).1 fun hm=> ?_
   have h5:=ju4 o (s:= .junk .nilFunc) hA
   rw[show(AT.junk .nilFunc).fp=[]from by rw[AT.fp]<;>simp]at h5
   have h6:o∈fpL (A.set r (.junk .nilFunc)):=i85 (i:=j) (k:=A[j]) (by rw[List.getElem?_set_ne hne];exact hAj) ho
   have:=ea8.1 h6
   have:=ea8.1 hm
   have:=un1 o hk
   have:=hac o
   simp at h5;omega
 ·have h1:=hcnt x
  have h2:=hac x
  by_cases hxl:x<h.length
  ·have:=hc x hxl;omega
  ·have h3:=hd x (by omega)
   have:(fpL A).count x=0:=List.count_eq_zero.2 fun hm=>hxl (hA' x hm).1
   omega
 ·rcases hmem o ho with⟨h1,_⟩|h1
  ·have:=(hA' o h1).1;omega
  ·exact hb o h1
 ·rintro(hz|hz)
  ·rcases hmem o ho with⟨h1,_⟩|h1
   ·exact(hA' o h1).2 hz
   ·rcases hold o (i.zlt o hz) h1 with h2|h2
    ·exact hzk o hz h2
    ·exact(hC o h2).2 hz
  ·obtain⟨h1,h2,h3,h4⟩:=hx o hz
   rcases hmem o ho with⟨h5,h6⟩|h5|h5
   ·rcases h1 with h1|h1|h1
    ·exact h6 h1
    ·have:=hac o;have:=ea8.1 h1;have:=ea8.1 h5;omega
    ·have:=(hA' o h5).1;omega
   ·exact h3 h5
   ·exact h4 h5
 ·rcases ho with ho|ho
  ·have:=i.zlt o ho;omega
  ·exact(hx o ho).2.1
 ·exact ho.imp (i.zp o) id
 ·rw[xv9 A C]
  by_cases hl:o<h.length
  ·rcases hmem o ho with⟨h1,_⟩|h1
   ·exact .inl (by simp[h1])
   ·rcases hold o hl h1 with h2|h2
    ·exact .inl (by simp[hkm o h2])
    ·exact .inl (by simp[h2])
  ·exact .inr (by omega)
 ·rw[xv9 A C]
  rcases ho with ho|ho
  ·exact .inl ho
  ·rcases(hx o ho).1 with h1|h1|h1
   ·exact .inr (.inl (by simp[hkm o h1]))
   ·exact .inr (.inl (by simp[h1]))
   ·exact .inr (.inr h1)
def pick(b:Bool)(Z Zp:Nat→Prop):Nat→Prop:=match b with
 |true=>Zp
 |false=>Z
mutual
def VR(h:H)(A:List AT)(Z Zp:Nat→Prop):AV→Value→Prop
 | .x v,w=>w=v
 | .fz b t,w=>Rd h (pick b Z Zp) t w
 | .fzc b cs i,w=> ∃o off r,w= .pointer (some ⟨o,off+i,none⟩)∧pick b Z Zp o∧h.row o=some r∧RdL h (pick b Z Zp) cs ((r.cells.drop off).take cs.length)
 | .own r p,w=>r<A.length∧ ∀b,aget A r p=some b→b.isV=false→b.val=w
 | .sub r p u lo n,w=>r<A.length∧ ∀b,aget A r p=some b→b.isV=false→match b.val with
   | .slice (some ⟨o,off,none⟩) _ _=> ∃lo' c',w= .slice (some ⟨o,off+lo'*u,none⟩) n c'∧n≤c'∧lo'≤lo∧(0<n→lo'=lo)
   | .slice none _ _=>n=0∧w= .slice none 0 0
   |_=>True
 | .cell r p i,w=>r<A.length∧ ∀b,aget A r p=some b→b.isV=false→match b.val with
   | .slice (some ⟨o,off,none⟩) _ _=>w= .pointer (some ⟨o,off+i,none⟩)
   | .pointer (some ⟨o,off,none⟩)=>w= .pointer (some ⟨o,off+i,none⟩)
   |_=>True
 | .agg l,w=> ∃ws,w= .agg (List.toArray ws)∧VRL h A Z Zp l ws
 | .tup l,w=> ∃ws,w= .tuple (List.toArray ws)∧VRL h A Z Zp l ws
 | .fn f l,w=> ∃ws,w= .func (.func f) #[] (List.toArray ws)∧VRL h A Z Zp l ws
def VRL(h:H)(A:List AT)(Z Zp:Nat→Prop):List AV→List Value→Prop
 | [],ws=>ws=[]
 |a::l,ws=> ∃w ws',ws=w::ws'∧VR h A Z Zp a w∧VRL h A Z Zp l ws'
end
section
variable {h:H} {A:List AT} {Z Zp:Nat→Prop}
theorem VRL.len: ∀{l:List AV} {ws:List Value},VRL h A Z Zp l ws→ws.length=l.length
 | [],ws,hr=>by rw[VRL]at hr;rw[hr];rfl
 |a::l,ws,hr=>by
  rw[VRL]at hr
  obtain⟨w,ws',rfl,_,hr⟩:=hr
  rw[List.length_cons,List.length_cons,hr.len]
theorem VRL.nil:VRL h A Z Zp [] []:=by rw[VRL]
theorem VRL.cons{a:AV}{l:List AV}{w:Value}{ws:List Value}(h1:VR h A Z Zp a w)(h2:VRL h A Z Zp l ws):VRL h A Z Zp (a::l) (w::ws):=by rw[VRL];exact⟨w,ws,rfl,h1,h2⟩
theorem VRL.at: ∀{l:List AV} {ws:List Value} {i:Nat} {a:AV},VRL h A Z Zp l ws→l[i]? =some a→ ∃w,ws[i]? =some w∧VR h A Z Zp a w
 | [],ws,i,a,hr,ha=>by simp at ha
 |b::l,ws,i,a,hr,ha=>by
  rw[VRL]at hr
  obtain⟨w,ws',rfl,h1,h2⟩:=hr
  cases i with
  |zero=>simp at ha;subst ha;exact⟨w,rfl,h1⟩
  |succ i=>exact h2.at (i:=i) (by simpa using ha)
theorem eo0: ∀{l:List AV} {ws:List Value},VRL h A Z Zp l ws↔ws.length=l.length∧ ∀(i:Nat) (a:AV) (w:Value),l[i]? =some a→ws[i]? =some w→VR h A Z Zp a w
 | [],ws=>by
   rw[VRL]
   exact⟨fun e=>by subst e;simp,fun⟨e,_⟩=>List.eq_nil_of_length_eq_zero e⟩
 |b::l,ws=>by
  rw[VRL]
  constructor
  ·rintro⟨w,l',rfl,h1,h2⟩
   obtain⟨e,k⟩:=eo0.1 h2
   refine⟨by rw[List.length_cons,List.length_cons,e],fun i t' w' h3 h4=> ?_⟩
   cases i with
   |zero=>simp at h3 h4;subst h3;subst h4;exact h1
   |succ i=>exact k i t' w' (by simpa using h3) (by simpa using h4)
  ·rintro⟨e,k⟩
   cases ws with
   |nil=>simp at e
   |cons w l'=>exact⟨w,l',rfl,k 0 b w rfl rfl,eo0.2 ⟨by simpa using e,fun i t' w' h3 h4=>k (i+1) t' w' (by simpa using h3) (by simpa using h4)⟩⟩
theorem VRL.app{l m:List AV}{ws us:List Value}(h1:VRL h A Z Zp l ws)(h2:VRL h A Z Zp m us):VRL h A Z Zp (l++m) (ws++us):=by
 induction l generalizing ws with
 |nil=>rw[VRL]at h1;subst h1;exact h2
 |cons a l ih=>
  rw[VRL]at h1
  obtain⟨w,ws',rfl,k1,k2⟩:=h1
  exact .cons k1 (ih k2)
theorem VRL.sub{l:List AV}{ws:List Value}(hr:VRL h A Z Zp l ws)(a b:Nat):VRL h A Z Zp ((l.drop a).take b) ((ws.drop a).take b):=by
 obtain⟨e,k⟩:=eo0.1 hr
 refine eo0.2 ⟨by simp only[List.length_take,List.length_drop,e],fun i t w h1 h2=> ?_⟩
 rw[List.getElem?_take]at h1 h2
 split at h1
 ·rw[if_pos ‹_›]at h2
  rw[List.getElem?_drop]at h1 h2
  exact k _ t w h1 h2
 ·cases h1
end
def je8(ks:List Nat)(a:AV):Bool:=ks.any fun r=>by8 r a
theorem mi7(ks:List Nat)(a:AV)(l:List AV)(h:(ks.any fun r=>dr4 r (a::l))=false):je8 ks a=false∧(ks.any fun r=>dr4 r l)=false:=by
 unfold je8
 rw[List.any_eq_false]at h
 refine⟨List.any_eq_false.2 fun r hr=> ?_,List.any_eq_false.2 fun r hr=> ?_⟩
 ·have:=h r hr
  rw[dr4]at this
  simp at this;simp[this.1]
 ·have:=h r hr
  rw[dr4]at this
  simp at this;simp[this.2]
theorem s60{ks:List Nat}{r:Nat}{p:List Nat}(h:(ks.any fun s=>(Nat.beq r s)&& !p.isEmpty)=false):r∈ks→p=[]:=by
 intro hm
 have:=List.any_eq_false.1 h r hm
 cases p with
 |nil=>rfl
 |cons i p=>simp at this
mutual
theorem VR.move{h h':H}{A A':List AT}{Z Z' Zp Zp':Nat→Prop}(hz: ∀o,Z o→Z' o)(hp: ∀o,Zp o→Zp' o)(hs:Same h h' Z)(hs2:Same h h' Zp){ks:List Nat}(st:Stab A A' ks): ∀{a:AV} {w:Value},VR h A Z Zp a w→je8 ks a=false→VR h' A' Z' Zp' a w
 | .x v,w,hr,_=>by rw[VR]at hr⊢;exact hr
 | .fz b t,w,hr,_=>by
   rw[VR]at hr⊢
   cases b with
   |true=>exact Rd.mono hp hs2 hr
   |false=>exact Rd.mono hz hs hr
 | .fzc b cs i,w,hr,_=>by
   rw[VR]at hr⊢
   obtain⟨o,off,r,h1,h2,h3,h4⟩:=hr
   cases b with
   |true=>exact⟨o,off,r,h1,hp o h2,by rw[hs2 o h2];exact h3,RdL.mono hp hs2 h4⟩
   |false=>exact⟨o,off,r,h1,hz o h2,by rw[hs o h2];exact h3,RdL.mono hz hs h4⟩
 | .own r p,w,hr,hk=>by
   rw[VR]at hr⊢
   unfold je8 at hk
   simp only[by8]at hk
   refine⟨by have:=st.len;omega,fun b' h1 h2=> ?_⟩
   obtain⟨b,h3,h4,h5⟩:=st.get r p b' hr.1 (s60 hk) h1 h2
   rw[h5];exact hr.2 b h3 h4
 | .sub r p u lo n,w,hr,hk=>by
   rw[VR]at hr⊢
   unfold je8 at hk
   simp only[by8]at hk
   refine⟨by have:=st.len;omega,fun b' h1 h2=> ?_⟩
   obtain⟨b,h3,h4,h5⟩:=st.get r p b' hr.1 (s60 hk) h1 h2
   rw[h5];exact hr.2 b h3 h4
 | .cell r p i,w,hr,hk=>by
   rw[VR]at hr⊢
   unfold je8 at hk
   simp only[by8]at hk
   refine⟨by have:=st.len;omega,fun b' h1 h2=> ?_⟩
   obtain⟨b,h3,h4,h5⟩:=st.get r p b' hr.1 (s60 hk) h1 h2
   rw[h5];exact hr.2 b h3 h4
 | .agg l,w,hr,hk=>by
   rw[VR]at hr⊢
   unfold je8 at hk
   simp only[by8]at hk
   obtain⟨ws,h1,h2⟩:=hr
   exact⟨ws,h1,VRL.move hz hp hs hs2 st h2 hk⟩
 | .tup l,w,hr,hk=>by
   rw[VR]at hr⊢
   unfold je8 at hk
   simp only[by8]at hk
   obtain⟨ws,h1,h2⟩:=hr
   exact⟨ws,h1,VRL.move hz hp hs hs2 st h2 hk⟩
 | .fn f l,w,hr,hk=>by
   rw[VR]at hr⊢
   unfold je8 at hk
   simp only[by8]at hk
   obtain⟨ws,h1,h2⟩:=hr
   exact⟨ws,h1,VRL.move hz hp hs hs2 st h2 hk⟩
theorem VRL.move{h h':H}{A A':List AT}{Z Z' Zp Zp':Nat→Prop}(hz: ∀o,Z o→Z' o)(hp: ∀o,Zp o→Zp' o)(hs:Same h h' Z)(hs2:Same h h' Zp){ks:List Nat}(st:Stab A A' ks): ∀{l:List AV} {ws:List Value},VRL h A Z Zp l ws→(ks.any fun r=>dr4 r l)=false→VRL h' A' Z' Zp' l ws
 | [],ws,hr,_=>by rw[VRL]at hr⊢;exact hr
 |a::l,ws,hr,hk=>by
  rw[VRL]at hr⊢
  obtain⟨w,ws',h1,h2,h3⟩:=hr
  obtain⟨k1,k2⟩:=mi7 ks a l hk
  exact⟨w,ws',h1,VR.move hz hp hs hs2 st h2 k1,VRL.move hz hp hs hs2 st h3 k2⟩
end
def FRV(h:H)(A:List AT)(Z Zp:Nat→Prop)(fr:VFr)(f:Fr):Prop:= ∀s a,fr s=some a→ ∃w,f s=some w∧VR h A Z Zp a w
end Go.Vm
namespace Go.Vm
open Go.Am
theorem ft8: ∀{p:List Nat} {a k c:AT} {cs:List AT} {i:Nat},a.get p=some k→k.kids=some cs→cs[i]? =some c→a.get (p++[i])=some c
 | [],a,k,c,cs,i,h1,h2,h3=>by cases h1;simp only[List.nil_append,AT.get,h2,h3]
 |j::p,a,k,c,cs,i,h1,h2,h3=>by
  simp only[List.cons_append,AT.get]at h1⊢
  cases hk:a.kids with
  |none=>rw[hk]at h1;cases h1
  |some ds=>
   rw[hk]at h1
   simp only[]at h1⊢
   cases hj:ds[j]? with
   |none=>rw[hj]at h1;cases h1
   |some d=>rw[hj]at h1;exact ft8 (p:=p) h1 h2 h3
theorem kq1{A:List AT}{r:Nat}{p:List Nat}{k c:AT}{cs:List AT}{i:Nat}(h1:aget A r p=some k)(h2:k.kids=some cs)(h3:cs[i]? =some c):aget A r (p++[i])=some c:=by
 unfold aget at h1⊢
 cases ha:A[r]? with
 |none=>rw[ha]at h1;cases h1
 |some a=>rw[ha]at h1;exact ft8 h1 h2 h3
theorem xb8{cs:List AT}{i:Nat}{t:Tree}(h:(eraL cs)[i]? =some t): ∃c,cs[i]? =some c∧c.era=t:=by
 rw[dk4,List.getElem?_map]at h
 exact Option.map_eq_some_iff.1 h
theorem i47(cs:List AT):(eraL cs).length=cs.length:=by rw[dk4];simp
def base:AT→Option (Nat×Nat)
 | .sl o off _ _ _ _ _ _=>some (o,off)
 | .pt o _ _=>some (o,0)
 |_=>none
section
variable {h:H} {A:List AT} {Z Zp:Nat→Prop} {fr:VFr} {f:Fr}
theorem lw8(i:Inv h A Z Zp){r:Nat}{p:List Nat}{k:AT}(hk:aget A r p=some k):ok h Zp k:=by
 unfold aget at hk
 cases ha:A[r]? with
 |none=>rw[ha]at hk;cases hk
 |some a=>rw[ha]at hk;exact xf2 hk (ga5.1 i.okA a (List.mem_of_getElem? ha))
theorem VRL.xs: ∀l:List Value,VRL h A Z Zp (l.map AV.x) l
 | []=> .nil
 |v::l=> .cons (by rw[VR]) (VRL.xs l)
theorem ah7{v:Value}(hc:closed v=true):ev f (.const v)=some v:=by
 simp only[ev];rw[if_pos hc]
theorem cj0(hf:FRV h A Z Zp fr f){o:Operand}{a:AV}(he:vev fr o=some a): ∃w,ev f o=some w∧VR h A Z Zp a w:=by
 cases o with
 |tmp t=>exact hf t a he
 |global n=>cases he
 |func g=>cases he;exact⟨_,rfl,by rw[VR];exact⟨[],rfl, .nil⟩⟩
 |const v=>
  cases v with
  |agg cs=>
   simp only[vev]at he
   split at he
   ·cases he
    refine⟨.agg cs,ah7 (v:= .agg cs) ‹_›, ?_⟩
    rw[VR]
    exact⟨cs.toList,by simp,VRL.xs _⟩
   ·cases he
  |tuple cs=>cases he
  |_=>
   simp only[vev]at he
   split at he
   ·cases he
    exact⟨_,ah7 ‹_›,by rw[VR]⟩
   ·cases he
theorem hv3(hf:FRV h A Z Zp fr f){o:Operand}{v:Value}(he:vx fr o=some v):ev f o=some v:=by
 unfold vx at he
 split at he
 ·rename_i h1
  cases he
  obtain⟨w,h2,h3⟩:=cj0 hf h1
  rw[VR]at h3
  rw[h2,h3]
 ·cases he
theorem c07(hf:FRV h A Z Zp fr f): ∀{os:List Operand} {vs:List Value},vxs fr os=some vs→evs f os=some vs
 | [],vs,he=>by cases he;rfl
 |o::os,vs,he=>by
  simp only[vxs]at he
  split at he
  ·rename_i h1 h2
   cases he
   simp only[evs,hv3 hf h1,c07 hf h2]
  ·cases he
theorem fk3(hf:FRV h A Z Zp fr f){o:Option Operand}{v:Option Int}(he:vxo fr o=some v):evo f o=some v:=by
 cases o with
 |none=>exact he
 |some o=>
  simp only[vxo]at he
  split at he
  ·rename_i h1
   simp only[evo,hv3 hf h1]
   exact he
  ·cases he
theorem ys0(hf:FRV h A Z Zp fr f): ∀{os:List Operand} {l:List AV},vevs fr os=some l→ ∃ws,evs f os=some ws∧VRL h A Z Zp l ws
 | [],l,he=>by cases he;exact⟨[],rfl, .nil⟩
 |o::os,l,he=>by
  simp only[vevs]at he
  split at he
  ·rename_i h1 h2
   cases he
   obtain⟨w,h3,h4⟩:=cj0 hf h1
   obtain⟨ws,h5,h6⟩:=ys0 hf h2
   exact⟨w::ws,by simp only[evs,h3,h5], .cons h4 h6⟩
  ·cases he
mutual
theorem g04{b:Bool}: ∀{t:Tree} {a:AV} {w:Value},ofz b t=some a→Rd h (pick b Z Zp) t w→VR h A Z Zp a w
 | .v x,a,w,he,hr=>by cases he;rw[Rd]at hr;rw[VR];exact hr
 | .sl nl e u cs,a,w,he,hr=>by cases he;rw[VR];exact hr
 | .pt e cs,a,w,he,hr=>by cases he;rw[VR];exact hr
 | .fn g cs,a,w,he,hr=>by
   rw[ofz]at he
   split at he
   ·cases he
    rw[Rd]at hr
    obtain⟨caps,h1,h2⟩:=hr
    rw[VR]
    exact⟨caps,h1,zi2 ‹_› h2⟩
   ·cases he
 | .fz t,a,w,he,hr=>by
   rw[ofz]at he
   rw[Rd]at hr
   exact g04 he hr
 | .junk,a,w,he,hr=>by cases he
 | .ex t,a,w,he,hr=>by
   cases t with
   |sl=>cases he;rw[VR];exact hr
   |pt=>cases he;rw[VR];exact hr
   |_=>cases he
theorem zi2{b:Bool}: ∀{ts:List Tree} {l:List AV} {ws:List Value},ofzL b ts=some l→RdL h (pick b Z Zp) ts ws→VRL h A Z Zp l ws
 | [],l,ws,he,hr=>by cases he;rw[RdL]at hr;rw[VRL];exact hr
 |t::ts,l,ws,he,hr=>by
  rw[ofzL]at he
  split at he
  ·cases he
   rw[RdL]at hr
   obtain⟨w,ws',h1,h2,h3⟩:=hr
   rw[VRL]
   exact⟨w,ws',h1,g04 ‹_› h2,zi2 ‹_› h3⟩
  ·cases he
end
theorem nm1(i:Inv h A Z Zp){r:Nat}{p:List Nat}{k:AT}{cs:List AT}(hk:aget A r p=some k)(hc:k.kids=some cs)(hne:cs≠[]):
 ∃o off row,base k=some (o,off)∧o∈k.fp∧h.row o=some row∧row.own=true∧(∀j c,cs[j]? =some c→row.cells[off+j]? =some c.val):=by
 have hok:=lw8 i hk
 cases k with
 |sl o off n c nl e u l=>
  cases hc
  rw[ok]at hok
  obtain⟨row,h1,h2,h3,h4,h5,h6,h7,h8,h9,h10⟩:=hok
  refine⟨o,off,row,rfl,by rw[AT.fp];simp,h1,h2,fun j c hj=> ?_⟩
  have hlt:=(List.getElem?_eq_some_iff.1 hj).1
  have h11:((row.cells.drop off).take cs.length)[j]? =some c.val:=by rw[h9,List.getElem?_map,hj];rfl
  rw[List.getElem?_take,if_pos hlt,List.getElem?_drop]at h11
  exact h11
 |pt o e l=>
  cases hc
  rw[ok]at hok
  obtain⟨row,h1,h2,h3,h4⟩:=hok
  refine⟨o,0,row,rfl,by rw[AT.fp];simp,h1,h2.1,fun j c hj=> ?_⟩
  rw[Nat.zero_add,h3,List.getElem?_map,hj];rfl
 |nil=>cases hc;exact absurd rfl hne
 |v=>cases hc
 |fn=>cases hc
 |fz=>cases hc
 |junk=>cases hc
theorem nm0{k:AT}{cs:List AT}(hc:k.kids=some cs):k.isV=false:=by
 cases k<;>first|rfl|cases hc
theorem a47{k:AT}{ts:List Tree}(h:k.era.kids=some ts): ∃cs,k.kids=some cs∧eraL cs=ts:=by
 rw[wb1]at h;exact Option.map_eq_some_iff.1 h
theorem wd1{r:Nat}{p:List Nat}{j:Nat}{w:Value}{k:AT}{o off:Nat}(hr:VR h A Z Zp (.cell r p j) w)(hk:aget A r p=some k)(hb:base k=some (o,off)):w= .pointer (some ⟨o,off+j,none⟩):=by
 rw[VR]at hr
 cases k with
 |sl o' off' n c nl e u l=>cases hb;exact hr.2 _ hk rfl
 |pt o' e l=>cases hb;exact hr.2 _ hk rfl
 |_=>cases hb
theorem ok8{b:Bool}{e:Nat}{cs:List Tree}{w:Value}(hr:Rd h (pick b Z Zp) (.pt e cs) w):VR h A Z Zp (.fzc b cs 0) w:=by
 rw[Rd]at hr
 obtain⟨o,row,h1,h2,h3,h4⟩:=hr
 rw[VR]
 refine⟨o,0,row,h1,h2,h3, ?_⟩
 rw[List.drop_zero,List.take_of_length_le (by rw[h4.len];exact Nat.le_refl _)]
 exact h4
theorem n52{k:AT}{t:Tree}(h:k.era= .fz t): ∃w,k= .fz w t:=by
 cases k<;>first|(cases h;done)|skip
 cases h;exact⟨_,rfl⟩
theorem pq5{k:AT}{e:Nat}{cs:List Tree}(h:k.era= .pt e cs): ∃o l,k= .pt o e l∧eraL l=cs:=by
 cases k<;>first|(cases h;done)|skip
 rw[AT.era]at h;cases h;exact⟨_,_,rfl,rfl⟩
theorem jg7{k:AT}{nl e u:Nat}{cs:List Tree}(h:k.era= .sl nl e u cs):(k= .nil nl e u∧cs=[])∨ ∃o off n c l,k= .sl o off n c nl e u l∧eraL l=cs:=by
 cases k<;>first|(cases h;done)|skip
 ·rw[AT.era]at h;cases h;exact .inr ⟨_,_,_,_,_,rfl,rfl⟩
 ·rw[AT.era]at h;cases h;exact .inl ⟨rfl,rfl⟩
theorem dm7(i:Inv h A Z Zp){a:AV}{pa:VP}{w:Value}(he:vptr (A.map AT.era) a=some pa)(hr:VR h A Z Zp a w):VR h A Z Zp pa.av w:=by
 cases a with
 |cell r p i=>cases he;exact hr
 |fzc b cs i=>cases he;exact hr
 |own r p=>
  simp only[vptr]at he
  rw[VR]at hr
  split at he
  ·rename_i h1
   cases he
   obtain⟨k,h2,h3⟩:=mc9 h1
   obtain⟨o,l,rfl,_⟩:=pq5 h3
   show VR h A Z Zp (.cell r p 0) w
   rw[VR]
   refine⟨hr.1,fun b hb hbv=> ?_⟩
   rw[h2]at hb;cases hb
   exact(hr.2 _ h2 rfl).symm
  ·rename_i h1
   cases he
   obtain⟨k,h2,h3⟩:=mc9 h1
   obtain⟨w',rfl⟩:=n52 h3
   have:=lw8 i h2
   rw[ok]at this
   have hw:w'=w:=hr.2 _ h2 rfl
   subst hw
   exact ok8 (b:=true) this
  ·cases he
 |fz b t=>
  cases t with
  |pt e cs=>
   cases he
   rw[VR]at hr
   exact ok8 hr
  |ex t=>
   cases t with
   |pt e cs=>
    cases he
    rw[VR,Rd]at hr
    exact ok8 hr.rd
   |_=>cases he
  |_=>cases he
 |_=>cases he
theorem hj6(i:Inv h A Z Zp){pa:VP}{a:AV}{w:Value}(he:vy4 (A.map AT.era) pa=some a)(hr:VR h A Z Zp pa.av w): ∃o off x,w= .pointer (some ⟨o,off,none⟩)∧h.ld1 o off=some x∧VR h A Z Zp a x:=by
 cases pa with
 |o r p j=>
  simp only[vy4]at he
  split at he
  ·rename_i s h1
   split at he
   ·rename_i ts h2
    split at he
    ·rename_i t h3
     obtain⟨k,h4,h5⟩:=mc9 h1
     subst h5
     obtain⟨cs,h6,h7⟩:=a47 h2
     subst h7
     obtain⟨c,h8,h9⟩:=xb8 h3
     subst h9
     obtain⟨o,off,row,b1,b2,b3,b4,b5⟩:=nm1 i h4 h6 (by intro e;subst e;simp at h8)
     have hw:=wd1 hr h4 b1
     have hld:h.ld1 o (off+j)=some c.val:=by rw[ng1 b3];exact b5 j c h8
     refine⟨o,off+j,c.val,hw,hld, ?_⟩
     have hsn:=kq1 h4 h6 h8
     cases c with
     |v x=>cases he;rw[VR];rfl
     |fn g=>cases he;rw[VR];exact⟨[],rfl, .nil⟩
     |junk=>cases he
     |fz w' t=>
      have:=lw8 i hsn
      rw[ok]at this
      exact g04 (b:=true) he this
     |sl o' off' n c nl e u l=>
      cases he
      rw[VR]
      exact⟨vs7 h4,fun b hb _=>by rw[hsn]at hb;cases hb;rfl⟩
     |nil nl e u=>
      cases he
      rw[VR]
      exact⟨vs7 h4,fun b hb _=>by rw[hsn]at hb;cases hb;rfl⟩
     |pt o' e l=>
      cases he
      rw[VR]
      exact⟨vs7 h4,fun b hb _=>by rw[hsn]at hb;cases hb;rfl⟩
    ·cases he
   ·cases he
  ·cases he
 |f b cs j=>
  simp only[vy4]at he
  split at he
  ·rename_i t h1
   have hr:VR h A Z Zp (.fzc b cs j) w:=hr
   rw[VR]at hr
   obtain⟨o,off,row,e1,e2,e3,e4⟩:=hr
   obtain⟨x,e5,e6⟩:=e4.at h1
   rw[List.getElem?_take]at e5
   split at e5
   ·rw[List.getElem?_drop]at e5
    exact⟨o,off+j,x,e1,by rw[ng1 e3];exact e5,g04 he e6⟩
   ·cases e5
  ·cases he
theorem kj4{pa:VP}{o off k:Nat}(hr:VR h A Z Zp pa.av (.pointer (some ⟨o,off,none⟩))):VR h A Z Zp (pa.off k).av (.pointer (some ⟨o,off+k,none⟩)):=by
 cases pa with
 |o r p j=>
  have hr:VR h A Z Zp (.cell r p j) _:=hr
  show VR h A Z Zp (.cell r p (j+k)) _
  rw[VR]at hr⊢
  refine⟨hr.1,fun b hb hv=> ?_⟩
  have:=hr.2 b hb hv
  split at this
  ·cases this;rw[Nat.add_assoc]
  ·cases this;rw[Nat.add_assoc]
  ·trivial
 |f b cs j=>
  have hr:VR h A Z Zp (.fzc b cs j) _:=hr
  show VR h A Z Zp (.fzc b cs (j+k)) _
  rw[VR]at hr⊢
  obtain⟨o',off',row,e1,e2⟩:=hr
  cases e1
  exact⟨o,off',row,by rw[Nat.add_assoc],e2⟩
theorem bj0{pa:VP}{w:Value}(i:Inv h A Z Zp)(hl:k12 (A.map AT.era) pa=true)(hr:VR h A Z Zp pa.av w): ∃o off,w= .pointer (some ⟨o,off,none⟩):=by
 cases pa with
 |o r p j=>
  simp only[k12]at hl
  split at hl
  ·rename_i h1
   obtain⟨k,h2,h3⟩:=mc9 h1
   obtain⟨o,l,rfl,_⟩:=pq5 h3
   exact⟨_,_,wd1 hr h2 rfl⟩
  ·rename_i h1
   obtain⟨k,h2,h3⟩:=mc9 h1
   rcases jg7 h3 with⟨rfl,rfl⟩|⟨o,off,n,c,l,rfl,_⟩
   ·simp at hl
   ·exact⟨_,_,wd1 hr h2 rfl⟩
  ·cases hl
 |f b cs j=>
  have hr:VR h A Z Zp (.fzc b cs j) w:=hr
  rw[VR]at hr
  obtain⟨o,off,row,e1,_⟩:=hr
  exact⟨_,_,e1⟩
theorem uy9{h:H}{o off n:Nat}{ws:List Value}{x:Value}(h1:n=0∧ws=[]∨h.lds o off n=some ws)(h2:h.ld1 o (off+n)=some x):h.lds o off (n+1)=some (ws++[x]):=by
 unfold H.ld1 at h2
 unfold H.lds at h1⊢
 cases hr:h.row o with
 |none=>rw[hr]at h2;cases h2
 |some r=>
  rw[hr]at h1 h2
  simp only[]at h1 h2⊢
  have hlt:=(List.getElem?_eq_some_iff.1 h2).1
  rw[if_pos (by omega)]
  have:(r.cells.drop off).take n=ws:=by
   rcases h1 with⟨rfl,rfl⟩|h1
   ·rfl
   ·rw[if_pos (by omega)]at h1;cases h1;rfl
  rw[List.take_add_one,this,List.getElem?_drop,h2];rfl
theorem es2(i:Inv h A Z Zp){pa:VP}{o off:Nat}(hr:VR h A Z Zp pa.av (.pointer (some ⟨o,off,none⟩))): ∀{n:Nat} {l:List AV},hq6 (A.map AT.era) pa n=some l→ ∃ws,(n=0∧ws=[]∨h.lds o off n=some ws)∧VRL h A Z Zp l ws
 |0,l,he=>by cases he;exact⟨[], .inl ⟨rfl,rfl⟩, .nil⟩
 |n+1,l,he=>by
  simp only[hq6]at he
  split at he
  ·rename_i l' x h1 h2
   cases he
   obtain⟨ws,h3,h4⟩:=es2 i hr h1
   obtain⟨o',off',y,e1,e2,e3⟩:=hj6 i h2 (kj4 hr)
   cases e1
   exact⟨ws++[y], .inr (uy9 h3 e2),h4.app (.cons e3 .nil)⟩
  ·cases he
theorem p03(i:Inv h A Z Zp){pa:VP}{w:Value}{n:Nat}{l:List AV}(hn:n≠0)(he:hq6 (A.map AT.era) pa n=some l)(hr:VR h A Z Zp pa.av w): ∃o off,w= .pointer (some ⟨o,off,none⟩):=by
 have h0: ∀(m:Nat) (l:List AV),hq6 (A.map AT.era) pa (m+1)=some l→ ∃x,vy4 (A.map AT.era) pa=some x:=by
  intro m
  induction m with
  |zero=>
   intro l he
   simp only[hq6]at he
   split at he
   ·rename_i x _ h2
    have:pa.off 0=pa:=by cases pa<;>rfl
    rw[this]at h2
    exact⟨_,h2⟩
   ·cases he
  |succ m ih=>
   intro l he
   rw[hq6]at he
   split at he
   ·rename_i h1 _;exact ih _ h1
   ·cases he
 obtain⟨m,rfl⟩: ∃m,n=m+1:=⟨n-1,by omega⟩
 obtain⟨x,hx⟩:=h0 m l he
 obtain⟨o,off,_,e,_⟩:=hj6 i hx hr
 exact⟨o,off,e⟩
def SR(h:H)(A:List AT)(Z Zp:Nat→Prop):VS→Value→Prop
 | .o r p nl e u cs lo n,w=> ∃k nl0,aget A r p=some k∧(nl=nl0∨nl=if nl0=0 then 0 else 2)∧(nl=1→lo=0∧n*u=cs.length)∧(lo+n)*u≤cs.length∧0<u∧((k= .nil nl0 e u∧cs=[]∧n=0∧lo=0∧nl0≠0∧w= .slice none 0 0)∨
    ∃o off n0 c0 l lo' c',k= .sl o off n0 c0 nl0 e u l∧eraL l=cs∧(nl0=1→cs≠[])∧w= .slice (some ⟨o,off+lo'*u,none⟩) n c'∧n≤c'∧lo'≤lo∧(0<n→lo'=lo))
 | .f b nl u cs,w=> ∃e,Rd h (pick b Z Zp) (.sl nl e u cs) w
 | .nil,w=>w= .slice none 0 0
theorem cd4(i:Inv h A Z Zp){a:AV}{S:VS}{w:Value}(he:vsl (A.map AT.era) a=some S)(hr:VR h A Z Zp a w):SR h A Z Zp S w:=by
 cases a with
 |own r p=>
  simp only[vsl]at he
  rw[VR]at hr
  split at he
  ·rename_i nl e u cs h1
   cases he
   obtain⟨k,h2,h3⟩:=mc9 h1
   have hok:=lw8 i h2
   rcases jg7 h3 with⟨rfl,rfl⟩|⟨o,off,n,c,l,rfl,rfl⟩
   ·rw[ok]at hok
    have hw:=hr.2 _ h2 rfl
    refine⟨_,nl,h2, .inl rfl,fun _=>⟨rfl,by simp⟩,by simp,hok.2, .inl ⟨rfl,rfl,by simp,rfl,hok.1,hw.symm⟩⟩
    all_goals simp
   ·rw[ok]at hok
    obtain⟨row,h4,h5,h6,h7,h8,h9,h10,h11,h12,h13⟩:=hok
    have hw:=hr.2 _ h2 rfl
    have hn:(eraL l).length/u=n:=by rw[i47,←h9,Nat.mul_div_cancel _ h8]
    rw[hn]
    refine⟨_,nl,h2, .inl rfl,fun _=>⟨rfl,by rw[i47];exact h9⟩,by rw[i47,Nat.zero_add,h9];exact Nat.le_refl _,h8, .inr ⟨o,off,n,c,l,0,c,rfl,rfl,fun e1 e2=>h11.1 e1 ?_,by rw[Nat.zero_mul,Nat.add_zero];exact hw.symm,h10,Nat.le_refl _,fun _=>rfl⟩⟩
    have:=congrArg List.length e2
    rw[i47]at this
    exact List.eq_nil_of_length_eq_zero this
  ·rename_i nl e u cs h1
   cases he
   obtain⟨k,h2,h3⟩:=mc9 h1
   obtain⟨w',rfl⟩:=n52 h3
   have:=lw8 i h2
   rw[ok]at this
   have hw:w'=w:=hr.2 _ h2 rfl
   subst hw
   exact⟨e,this⟩
  ·cases he
 |sub r p u0 lo n=>
  simp only[vsl]at he
  rw[VR]at hr
  split at he
  ·rename_i nl e u cs h1
   split at he
   ·rename_i hc
    obtain⟨hc,rfl⟩:=hc
    cases he
    obtain⟨k,h2,h3⟩:=mc9 h1
    have hok:=lw8 i h2
    have hnl1: ¬(if nl=0 then 0 else 2)=1:=by split<;>omega
    rcases jg7 h3 with⟨rfl,rfl⟩|⟨o,off,n',c,l,rfl,rfl⟩
    ·rw[ok]at hok
     obtain⟨e1,e2⟩:n=0∧w= .slice none 0 0:=hr.2 _ h2 rfl
     subst e1;subst e2
     have hlo:lo=0:=by
      have h0:=hok.2
      have h1:lo*u=0:=by simpa using hc
      rcases Nat.mul_eq_zero.1 h1 with h1|h1
      ·exact h1
      ·omega
     subst hlo
     exact⟨_,nl,h2, .inr rfl,fun e=>absurd e hnl1,by simp,hok.2, .inl ⟨rfl,rfl,rfl,rfl,hok.1,rfl⟩⟩
    ·rw[ok]at hok
     obtain⟨row,h4,h5,h6,h7,h8,h9,h10,h11,h12,h13⟩:=hok
     obtain⟨lo',c',e1,e2,e3,e4⟩:=hr.2 _ h2 rfl
     refine⟨_,nl,h2, .inr rfl,fun e=>absurd e hnl1,hc,h8, .inr ⟨o,off,n',c,l,lo',c',rfl,rfl,fun e1 e2=>h11.1 e1 ?_,e1,e2,e3,e4⟩⟩
     have:=congrArg List.length e2
     rw[i47]at this
     exact List.eq_nil_of_length_eq_zero this
   ·cases he
  ·cases he
 |fz b t=>
  cases t with
  |sl nl e u cs=>cases he;rw[VR]at hr;exact⟨e,hr⟩
  |ex t=>
   cases t with
   |sl nl e u cs=>cases he;rw[VR,Rd]at hr;exact⟨e,hr.rd⟩
   |_=>cases he
  |_=>cases he
 |x v=>
  simp only[vsl]at he
  split at he
  ·rename_i e;cases e
  ·rename_i e;cases e
  ·rename_i e;cases e
  ·rename_i e;cases e
  ·rename_i e;cases e;cases he;rw[VR]at hr;exact hr
  ·cases he
 |_=>cases he
end
end Go.Vm
namespace Go.Vm
open Go.Am
section
variable {h:H} {A:List AT} {Z Zp:Nat→Prop} {fr:VFr} {f:Fr}
theorem dz5(i:Inv h A Z Zp)(hf:FRV h A Z Zp fr f){op:AOp}(hnb: ∀agg n x,op≠ .ldb agg n x){a:AV}(he:lu1 fr (A.map AT.era) op=some a): ∃v,aop f h op=some (some v,h)∧VR h A Z Zp a v:=by
 cases op with
 |mv x=>
  simp only[lu1]at he
  obtain⟨w,h2,h3⟩:=cj0 hf he
  exact⟨w,by simp only[aop,h2],h3⟩
 |ld agg n x=>
  simp only[lu1]at he
  split at he
  ·rename_i b h1
   obtain⟨w,h2,h3⟩:=cj0 hf h1
   split at he
   ·rename_i pa h4
    have h5:=dm7 i h4 h3
    cases agg with
    |true=>
     simp only[]at he
     split at he
     ·cases he
     ·rename_i hn
      split at he
      ·rename_i l h6
       cases he
       obtain⟨o,off,rfl⟩:=p03 i hn h6 h5
       obtain⟨ws,h7,h8⟩:=es2 i h5 h6
       rcases h7 with⟨h7,_⟩|h7
       ·exact absurd h7 hn
       ·exact⟨.agg ws.toArray,by simp only[aop,h2];rw[if_neg (by simp)];simp only[h7],by rw[VR];exact⟨ws,rfl,h8⟩⟩
      ·cases he
    |false=>
     obtain⟨o,off,x,rfl,h6,h7⟩:=hj6 i he h5
     exact⟨x,by simp only[aop,h2];rw[if_neg (by simp)];simp only[h6],h7⟩
   ·cases he
  ·cases he
 |nilck x=>
  simp only[lu1]at he
  split at he
  ·rename_i b h1
   obtain⟨w,h2,h3⟩:=cj0 hf h1
   split at he
   ·rename_i pa h4
    split at he
    ·rename_i hl
     cases he
     obtain⟨o,off,rfl⟩:=bj0 i hl (dm7 i h4 h3)
     exact⟨_,by simp only[aop,h2],h3⟩
    ·cases he
   ·cases he
  ·cases he
 |faddr k x=>
  simp only[lu1]at he
  split at he
  ·rename_i b h1
   obtain⟨w,h2,h3⟩:=cj0 hf h1
   split at he
   ·rename_i pa h4
    split at he
    ·rename_i hl
     cases he
     have h5:=dm7 i h4 h3
     obtain⟨o,off,rfl⟩:=bj0 i hl h5
     exact⟨_,by simp only[aop,h2];rw[if_neg (by simp)],kj4 h5⟩
    ·cases he
   ·cases he
  ·cases he
 |fld agg off n x=>
  simp only[lu1]at he
  split at he
  ·rename_i cs h1
   obtain⟨w,h2,h3⟩:=cj0 hf h1
   rw[VR]at h3
   obtain⟨ws,rfl,h4⟩:=h3
   cases agg with
   |true=>
    cases he
    refine⟨.agg ((ws.drop off).take n).toArray, ?_,by rw[VR];exact⟨_,rfl,h4.sub off n⟩⟩
    simp only[aop,h2]
    congr 3
    simp[List.extract_eq_take_drop]
   |false=>
    simp only[]at he
    split at he
    ·rename_i b h5
     cases he
     obtain⟨v,h6,h7⟩:=h4.at h5
     exact⟨v,by simp only[aop,h2];rw[y64,h6],h7⟩
    ·cases he
  ·cases he
 |iaddr size x y=>
  simp only[lu1]at he
  split at he
  ·rename_i b k j h1 h1'
   obtain⟨w,h2,h3⟩:=cj0 hf h1
   have hj:=hv3 hf h1'
   split at he
   ·rename_i r p nl e u cs lo n h4
    split at he
    ·rename_i hc
     obtain⟨c1,c2,c3⟩:=hc
     cases he
     obtain⟨kk,nl0,q1,q2,q3,q4,q5,q6⟩:=cd4 i h4 h3
     rcases q6 with⟨_,_,e0,_⟩|⟨o,off,n0,c0,l,lo',c',rfl,rfl,q7,rfl,q8,q9',q9⟩
     ·omega
     ·have q10:=q9 (by omega)
      refine⟨_,by simp only[aop,h2,hj];rw[if_pos (by omega),if_neg (by simp)], ?_⟩
      rw[VR]
      refine⟨vs7 q1,fun b hb _=> ?_⟩
      rw[q1]at hb;cases hb
      show _=_
      rw[q10,c3,Nat.add_mul,Nat.add_assoc]
    ·cases he
   ·rename_i b' nl u cs h4
    split at he
    ·rename_i hc
     obtain⟨c1,c2,c3⟩:=hc
     cases he
     obtain⟨e,q⟩:=cd4 i h4 h3
     rw[Rd]at q
     rcases q with⟨rfl,_⟩|⟨o,off,n,c,row,rfl,q2,q3,q4,q5,q6,q7,q8,q9⟩
     ·simp at c2
     ·have:j.toNat<n:=by
       rw[←q6]at c2
       exact Nat.lt_of_mul_lt_mul_right c2
      refine⟨_,by simp only[aop,h2,hj];rw[if_pos (by omega),if_neg (by simp)], ?_⟩
      rw[VR]
      exact⟨o,off,row,by rw[c3],q2,q3,q9⟩
    ·cases he
   ·cases he
  ·cases he
 |iaddrA len size x y=>
  simp only[lu1]at he
  split at he
  ·rename_i b k j h1 h1'
   obtain⟨w,h2,h3⟩:=cj0 hf h1
   have hj:=hv3 hf h1'
   split at he
   ·rename_i pa h4
    split at he
    ·rename_i hc
     cases he
     have h5:=dm7 i h4 h3
     obtain⟨o,off,rfl⟩:=bj0 i hc.2.2 h5
     exact⟨_,by simp only[aop,h2,hj];rw[if_pos ⟨hc.1,hc.2.1⟩,if_neg (by simp)],kj4 h5⟩
    ·cases he
   ·cases he
  ·cases he
 |idxA len size agg x y=>
  simp only[lu1]at he
  split at he
  ·rename_i cs k j h1 h1'
   obtain⟨w,h2,h3⟩:=cj0 hf h1
   have hj:=hv3 hf h1'
   rw[VR]at h3
   obtain⟨ws,rfl,h4⟩:=h3
   split at he
   ·rename_i hc
    cases agg with
    |true=>
     cases he
     refine⟨.agg ((ws.drop (j.toNat*size)).take size).toArray, ?_,by rw[VR];exact⟨_,rfl,h4.sub _ _⟩⟩
     simp only[aop,h2,hj]
     rw[if_pos hc]
     congr 3
     simp[List.extract_eq_take_drop]
    |false=>
     simp only[]at he
     split at he
     ·rename_i b h5
      cases he
      obtain⟨v,h6,h7⟩:=h4.at h5
      exact⟨v,by simp only[aop,h2,hj];rw[if_pos hc,y64,h6],h7⟩
     ·cases he
   ·cases he
  ·cases he
 |ext k x=>
  simp only[lu1]at he
  split at he
  ·rename_i cs h1
   obtain⟨w,h2,h3⟩:=cj0 hf h1
   rw[VR]at h3
   obtain⟨ws,rfl,h4⟩:=h3
   split at he
   ·rename_i b h5
    cases he
    obtain⟨v,h6,h7⟩:=h4.at h5
    exact⟨v,by simp only[aop,h2];rw[y64,h6],h7⟩
   ·cases he
  ·cases he
 |capt g n k x=>
  simp only[lu1]at he
  split at he
  ·rename_i f cs h1
   obtain⟨w,h2,h3⟩:=cj0 hf h1
   rw[VR]at h3
   obtain⟨ws,rfl,h4⟩:=h3
   split at he
   ·rename_i hg
    split at he
    ·rename_i b h5
     cases he
     obtain⟨v,h6,h7⟩:=h4.at h5
     refine⟨v, ?_,h7⟩
     simp only[aop,h2]
     rw[if_pos ⟨hg.1,by rw[List.size_toArray,h4.len];exact hg.2⟩,y64,h6]
    ·cases he
   ·cases he
  ·cases he
 |ldb agg n x=>exact absurd rfl (hnb _ _ _)
 |_=>cases he
theorem rp0{R:Rts}{a:AV}{pa:VP}(h:vbx R a=some pa):vptr R a=some pa:=by
 unfold vbx at h
 split at h
 ·split at h
  ·rename_i h1
   simp only[vptr,h1];exact h
  ·cases h
 ·split at h
  ·exact h
  ·cases h
 ·cases h
theorem sc0{R:Rts}{agg:Bool}{n:Nat}{x:Operand}{a:AV}(he:lu1 fr R (.ldb agg n x)=some a):lu1 fr R (.ld agg n x)=some a∧ ∃b pa,vev fr x=some b∧vbx R b=some pa:=by
 simp only[lu1]at he⊢
 split at he
 ·rename_i b h1
  split at he
  ·rename_i pa h2
   rw[rp0 h2]
   exact⟨he,b,pa,h1,h2⟩
  ·cases he
 ·cases he
theorem pc3(i:Inv h A Z Zp){a:AV}{pa:VP}{w:Value}(he:vbx (A.map AT.era) a=some pa)(hr:VR h A Z Zp a w): ∃o off r,w= .pointer (some ⟨o,off,none⟩)∧h.row o=some r∧r.unit=0:=by
 unfold vbx at he
 split at he
 ·split at he
  ·rename_i r p e cs h1
   obtain⟨k,h2,h3⟩:=mc9 h1
   obtain⟨o,l,rfl,_⟩:=pq5 h3
   have:=lw8 i h2
   rw[ok]at this
   obtain⟨r,k1,k2,_⟩:=this
   rw[VR]at hr
   exact⟨o,0,r,(hr.2 _ h2 rfl).symm,k1,k2.2⟩
  ·cases he
 ·split at he
  ·rename_i r p j _ e cs h1
   obtain⟨k,h2,h3⟩:=mc9 h1
   obtain⟨o,l,rfl,_⟩:=pq5 h3
   have:=lw8 i h2
   rw[ok]at this
   obtain⟨r,k1,k2,_⟩:=this
   exact⟨o,0+j,r,wd1 hr h2 rfl,k1,k2.2⟩
  ·cases he
 ·cases he
theorem look_ok(i:Inv h A Z Zp)(hf:FRV h A Z Zp fr f){op:AOp}{a:AV}(he:lu1 fr (A.map AT.era) op=some a): ∃v,aop f h op=some (some v,h)∧VR h A Z Zp a v:=by
 cases hop:op with
 |ldb agg n x=>
  rw[hop]at he
  obtain⟨h1,b,pa,h2,h3⟩:=sc0 he
  obtain⟨v,k1,k2⟩:=dz5 i hf (fun _ _ _ h=>by cases h) h1
  obtain⟨w,k3,k4⟩:=cj0 hf h2
  obtain⟨o,off,r,rfl,k5,k6⟩:=pc3 i h3 k4
  refine⟨v, ?_,k2⟩
  rw[fd7,if_pos (by unfold bx boxed;simp only[k3,k5,k6];rfl)]
  exact k1
 |_=>rw[←hop];exact dz5 i hf (fun _ _ _ h=>by rw[hop]at h;cases h) he
theorem cz0{h h':H}(hp:h<+:h'){op:AOp}(hnb: ∀agg n x,op≠ .ldb agg n x){a:AV}{R:Rts}(hl:lu1 fr R op=some a){v:Value}(he:aop f h op=some (some v,h)):aop f h' op=some (some v,h'):=by
 have hrow: ∀{o:Nat} {r:Row},h.row o=some r→h'.row o=some r:=fun{o r} hr=>by rw[m20 hp (h42 hr)];exact hr
 cases op with
 |mv x=>
  simp only[aop]at he⊢
  split at he
  ·cases he;rfl
  ·cases he
 |ld agg n x=>
  simp only[aop]at he⊢
  split at he
  ·split at he
   ·cases he
   ·rw[if_neg ‹_›]
    split at he
    ·unfold H.lds at he⊢
     split at he
     ·rename_i h2
      split at h2
      ·rename_i r hr
       rw[hrow hr]
       simp only[h2]
       cases he;rfl
      ·cases h2
     ·cases he
    ·unfold H.ld1 at he⊢
     split at he
     ·rename_i h2
      split at h2
      ·rename_i r hr
       rw[hrow hr]
       simp only[h2]
       cases he;rfl
      ·cases h2
     ·cases he
  ·cases he
 |nilck x=>
  simp only[aop]at he⊢
  split at he
  ·cases he;rfl
  ·cases he
 |faddr k x=>
  simp only[aop]at he⊢
  split at he
  ·split at he
   ·cases he
   ·rw[if_neg ‹_›];cases he;rfl
  ·cases he
 |fld agg off n x=>
  simp only[aop]at he⊢
  split at he
  ·split at he
   ·cases he;rfl
   ·split at he
    ·cases he;rfl
    ·cases he
  ·cases he
 |iaddr size x y=>
  simp only[aop]at he⊢
  split at he
  ·split at he
   ·rw[if_pos ‹_›]
    split at he
    ·cases he
    ·rw[if_neg ‹_›];cases he;rfl
   ·cases he
  ·cases he
 |iaddrA len size x y=>
  simp only[aop]at he⊢
  split at he
  ·split at he
   ·rw[if_pos ‹_›]
    split at he
    ·cases he
    ·rw[if_neg ‹_›];cases he;rfl
   ·cases he
  ·cases he
 |idxA len size agg x y=>
  simp only[aop]at he⊢
  split at he
  ·split at he
   ·rw[if_pos ‹_›]
    split at he
    ·cases he;rfl
    ·split at he
     ·cases he;rfl
     ·cases he
   ·cases he
  ·cases he
 |ext k x=>
  simp only[aop]at he⊢
  split at he
  ·split at he
   ·cases he;rfl
   ·cases he
  ·cases he
 |capt g n k x=>
  simp only[aop]at he⊢
  split at he
  ·split at he
   ·rw[if_pos ‹_›]
    split at he
    ·cases he;rfl
    ·cases he
   ·cases he
  ·cases he
 |ldb agg n x=>exact absurd rfl (hnb _ _ _)
 |_=>cases hl
theorem z44{h h':H}(hp:h<+:h'){op:AOp}{a:AV}{R:Rts}(hl:lu1 fr R op=some a){v:Value}(he:aop f h op=some (some v,h)):aop f h' op=some (some v,h'):=by
 cases hop:op with
 |ldb agg n x=>
  rw[hop]at hl he
  obtain⟨h1,h2⟩:=zx2 he
  rw[fd7,if_pos (vd3 hp h1)]
  exact cz0 hp (fun _ _ _ h=>by cases h) (sc0 hl).1 h2
 |_=>rw[←hop];exact cz0 hp (fun _ _ _ h=>by rw[hop]at h;cases h) hl he
end
end Go.Vm
namespace Go.Vm
open Go.Am
theorem sx1{A C:List AT}{r:Nat}(p:List Nat)(s:AT)(hr:r<A.length):aset (A++C) r p s=aset A r p s++C:=by
 unfold aset
 rw[List.getElem?_append_left hr,List.getElem?_eq_getElem hr]
 simp only[]
 rw[List.set_append_left _ _ hr]
theorem op8(w:Value):(AT.junk w).fp=[]:=by rw[AT.fp]<;>simp
theorem v_fp(w:Value):(AT.v w).fp=[]:=by rw[AT.fp]<;>simp
theorem zq0(w:Value)(t:Tree):(AT.fz w t).fp=[]:=by rw[AT.fp]<;>simp
theorem g56(f:FuncId):(AT.fn f).fp=[]:=by rw[AT.fp]<;>simp
theorem uu7(nl e u:Nat):(AT.nil nl e u).fp=[]:=by rw[AT.fp]<;>simp
theorem zr4(a:AT):fpL [a]=a.fp:=by rw[fpL,fpL,List.append_nil]
theorem vd4{h:H}{Z:Nat→Prop}{a:AT}:okL h Z [a]↔ok h Z a:=by rw[okL,okL];simp
theorem l61{k:AT}(h:isNode k.era=true):k.isV=false:=by cases k<;>first|rfl|(simp[AT.era,isNode]at h)
section
variable {h:H} {A C:List AT} {Z Zp:Nat→Prop}
theorem gs6{Z':Nat→Prop}{t:Tree}{w:Value}(hn:isNode t=true)(hr:Rd h Z' t w):one w=true:=by
 cases t with
 |sl nl e u cs=>
  rw[Rd]at hr
  rcases hr with⟨_,_,_,rfl⟩|⟨o,off,n,c,r,rfl,_⟩<;>rfl
 |pt e cs=>
  rw[Rd]at hr
  obtain⟨o,r,rfl,_⟩:=hr
  rfl
 |ex t=>
  rw[Rd]at hr
  cases t with
  |sl nl e u cs=>
   rw[Ex]at hr
   obtain⟨o,n,r,rfl,_⟩:=hr
   rfl
  |pt e cs=>
   rw[Ex]at hr
   obtain⟨o,r,rfl,_⟩:=hr
   rfl
  |_=>cases hn
 |_=>cases hn
def nk6:AT→AT
 | .sl o off n c _ e u cs=> .sl o off n c 2 e u cs
 | .nil _ e u=> .nil 2 e u
 |t=>t
theorem gr2(k:AT):(nk6 k).era=dull k.era:=by cases k<;>rfl
theorem wd8(k:AT):(nk6 k).val=k.val:=by cases k<;>rfl
theorem qm8(k:AT):(nk6 k).fp=k.fp:=by cases k<;>first|rfl|(simp only[nk6,AT.fp])
theorem ub9{Z':Nat→Prop}{k:AT}(h1:ok h Z' k):ok h Z' (nk6 k):=by
 cases k with
 |sl o off n c nl e u cs=>
  rw[ok]at h1
  rw[nk6,ok]
  obtain⟨r,k1,k2,k3,k4,k5,k6,k7,k8,k9⟩:=h1
  exact⟨r,k1,k2,k3,k4,k5,k6,k7,⟨fun h=>(by cases h),k8.2⟩,k9⟩
 |nil nl e u=>
  rw[ok]at h1
  rw[nk6,ok]
  exact⟨by decide,h1.2⟩
 |_=>exact h1
theorem gi1{k:AT}(hn:isNode k.era=true):one k.val=true:=by cases k<;>first|rfl|(simp[AT.era,isNode]at hn)
theorem ho7{h:H}{Z:Nat→Prop}{k:AT}(hp: ¬plain k.era=true)(ho:ok h Z k):one k.val=true:=by cases k<;>first|rfl|(rw[ok]at ho;exact ho)|(simp[AT.era,plain]at hp)
theorem w93(i:Inv h (A++C) Z Zp){sh:Bool}{a:AV}{w:Value}{t:Tree}{R1:Rts}(he:vput sh (A.map AT.era) a=some (t,R1))(hr:VR h A Z Zp a w):
 ∃A1 c Z1 Zp1,R1=A1.map AT.era∧c.era=t∧c.val=w∧one w=true∧Inv h (A1++(C++[c])) Z1 Zp1∧Ext h (A++C) Zp h (A1++(C++[c])) Zp1∧Stab A A1 []∧(∀o,Z o→Z1 o)∧A1.length=A.length:=by
 --a new cell that owns nothing
 have lite: ∀(c:AT) (Zx:Nat→Prop),c.fp=[]→ok h (fun o=>Zp o∨False) c→ ∃Z1 Zp1,Inv h (A++(C++[c])) Z1 Zp1∧Ext h (A++C) Zp h (A++(C++[c])) Zp1∧(∀o,Z o→Z1 o):=fun c Zx hc hk=>by
  obtain⟨i1,e1⟩:=Inv.new (h':=h) (A:=A++C) (C:=[]) (N:=[c]) (Zx:=fun _=>False) (by rw[List.append_nil];exact i) (Nat.le_refl _) (fun _ _=>rfl) (vd4.2 hk) (fun x _=>by rw[zr4,hc];simp) (fun x _=>by rw[zr4,hc];simp) (fun o ho=>by rw[zr4,hc]at ho;cases ho) (fun o ho=>ho.elim)
  rw[List.append_nil]at e1
  rw[List.append_assoc]at i1 e1
  exact⟨_,_,i1,e1,fun o ho=> .inl ho⟩
 have hA:Inv h (A++C) Z Zp→ ∀{r p k},aget A r p=some k→ok h Zp k:=fun i r p k hk=>lw8 i (by rw[gr7 p (vs7 hk)];exact hk)
 cases a with
 |x v=>
  simp only[vput]at he
  split at he
  ·cases he
   rw[VR]at hr
   subst hr
   obtain⟨Z1,Zp1,i1,e1,e2⟩:=lite (.v w) (fun _=>False) (v_fp _) (by rw[ok];trivial)
   exact⟨A, .v w,Z1,Zp1,rfl,rfl,rfl, ‹_›,i1,e1,Stab.refl _ _,e2,rfl⟩
  ·cases he
 |fz b t'=>
  cases b with
  |false=>cases he
  |true=>
   simp only[vput]at he
   split at he
   ·rename_i hn
    cases he
    rw[VR]at hr
    obtain⟨Z1,Zp1,i1,e1,e2⟩:=lite (.fz w t') (fun _=>False) (zq0 _ _) (by rw[ok];exact Rd.mono (fun o ho=> .inl ho) (fun _ _=>rfl) hr)
    exact⟨A, .fz w t',Z1,Zp1,rfl,rfl,rfl,gs6 hn hr,i1,e1,Stab.refl _ _,e2,rfl⟩
   ·cases he
 |own r p=>
  simp only[vput]at he
  rw[VR]at hr
  split at he
  ·rename_i t' h1
   split at he
   ·rename_i hn
    cases he
    obtain⟨k,h2,h3⟩:=mc9 h1
    obtain⟨w',rfl⟩:=n52 h3
    have hk:=hA i h2
    rw[ok]at hk
    have hw:w'=w:=hr.2 _ h2 rfl
    subst hw
    obtain⟨Z1,Zp1,i1,e1,e2⟩:=lite (.fz w' t') (fun _=>False) (zq0 _ _) (by rw[ok];exact Rd.mono (fun o ho=> .inl ho) (fun _ _=>rfl) hk)
    exact⟨A, .fz w' t',Z1,Zp1,rfl,rfl,rfl,gs6 hn hk,i1,e1,Stab.refl _ _,e2,rfl⟩
   ·cases he
  ·rename_i h1
   cases he
   obtain⟨k,h2,h3⟩:=mc9 h1
   have hk:=hA i h2
   have hj: ∃w',k= .junk w':=by cases k<;>first|exact⟨_,rfl⟩|cases h3
   obtain⟨w',rfl⟩:=hj
   rw[ok]at hk
   have hw:w'=w:=hr.2 _ h2 rfl
   subst hw
   obtain⟨Z1,Zp1,i1,e1,e2⟩:=lite (.junk w') (fun _=>False) (op8 _) (by rw[ok];exact hk)
   exact⟨A, .junk w',Z1,Zp1,rfl,rfl,rfl,hk,i1,e1,Stab.refl _ _,e2,rfl⟩
  ·rename_i s hne hne2 h1
   split at he
   ·rename_i hn
    obtain⟨k,h2,rfl⟩:=mc9 h1
    have hlt:=vs7 h2
    have hkv:=l61 hn
    have hok:=hA i h2
    have hw:k.val=w:=hr.2 _ h2 hkv
    subst hw
    have hone:one k.val=true:=by cases k<;>first|rfl|(simp[AT.era,isNode]at hn)
    have hkm: ∀o,o∈k.fp→o<h.length:=fun o ho=>i.lt o (by rw[xv9];refine List.mem_append_left _ (ea8.2 ?_);have:=ea8.1 ho;have:=bm6 o h2;omega)
    have hnk: ∀x,h.length≤x→k.fp.count x=0:=fun x hx=>List.count_eq_zero.2 fun hm=>by have:=hkm x hm;omega
    have h2':aget (A++C) r p=some k:=by rw[gr7 p hlt];exact h2
    split at he
    ·cases he
     obtain⟨i1,e1⟩:=Inv.upd (h':=h) (A:=A++C) (C:=[]) (N:=[.fz k.val (strip k.era)]) (s:= .fz k.val (strip k.era)) (Zx:=fun o=>o∈k.fp) (by rw[List.append_nil];exact i) h2' (Nat.le_refl _) (fun _ _ _=>rfl) rfl
      (by rw[ok];exact ok.rd (fun o ho=> .inl ho) hok fun o ho=> .inr ho) (vd4.2 (by rw[ok];exact ok.rd (fun o ho=> .inl ho) hok fun o ho=> .inr ho)) (fun x _=>by rw[zr4,zq0];simp) (fun x _=>by rw[zr4,zq0];simp) (fun o ho=>by rw[zr4,zq0]at ho;simp at ho)
      (fun o ho=>⟨.inl ho,hkm o ho,by rw[zq0];simp,by rw[zr4,zq0];simp⟩)
     rw[List.append_nil]at e1
     rw[sx1 p _ hlt,List.append_assoc]at i1 e1
     exact⟨aset A r p (.fz k.val (strip k.era)), .fz k.val (strip k.era),_,_,(ao8 A r p (.fz k.val (strip k.era))),rfl,rfl,hone,i1,e1,Stab.upd (s:= .fz k.val (strip k.era)) h2 rfl hkv rfl (.inl (Sub.leaf rfl rfl hkv)),fun o ho=> .inl ho,hl4 _ _ _ _⟩
    ·cases he
     obtain⟨i1,e1⟩:=Inv.upd (h':=h) (A:=A++C) (C:=[]) (N:=[nk6 k]) (s:= .junk k.val) (Zx:=fun o=>False) (by rw[List.append_nil];exact i) h2' (Nat.le_refl _) (fun _ _ _=>rfl) rfl
      (by rw[ok];exact hone) (vd4.2 (ok.keep (fun o ho=> .inl ho) (fun _ _=>rfl) (ub9 hok) fun _ _=>rfl)) (fun x _=>by rw[zr4,op8,qm8];simp) (fun x hx=>by rw[zr4,op8,qm8,hnk x hx];simp) (fun o ho=>by rw[zr4,op8,qm8]at ho;simp at ho;exact hkm o ho)
      (fun o ho=>ho.elim)
     rw[List.append_nil]at e1
     rw[sx1 p _ hlt,List.append_assoc]at i1 e1
     exact⟨aset A r p (.junk k.val),nk6 k,_,_,(ao8 A r p (.junk k.val)),gr2 k,wd8 k,hone,i1,e1,Stab.upd (s:= .junk k.val) h2 rfl hkv rfl (.inl (Sub.leaf rfl rfl hkv)),fun o ho=> .inl ho,hl4 _ _ _ _⟩
   ·cases he
  ·cases he
 |fn g l=>
  cases l with
  |nil=>
   cases he
   rw[VR]at hr
   obtain⟨ws,rfl,h2⟩:=hr
   rw[VRL]at h2
   subst h2
   obtain⟨Z1,Zp1,i1,e1,e2⟩:=lite (.fn g) (fun _=>False) (g56 _) (by rw[ok];trivial)
   exact⟨A, .fn g,Z1,Zp1,rfl,rfl,rfl,rfl,i1,e1,Stab.refl _ _,e2,rfl⟩
  |cons=>cases he
 |_=>cases he
theorem p91{sh:Bool}: ∀{l:List AV} {A C:List AT} {Z Zp:Nat→Prop} {ws:List Value} {ts:List Tree} {R1:Rts} (i:Inv h (A++C) Z Zp) (he:az9 sh (A.map AT.era) l=some (ts,R1)) (hr:VRL h A Z Zp l ws),
 ∃A1 D Z1 Zp1,R1=A1.map AT.era∧eraL D=ts∧D.map AT.val=ws∧(∀w∈ws,one w=true)∧Inv h (A1++(C++D)) Z1 Zp1∧Ext h (A++C) Zp h (A1++(C++D)) Zp1∧Stab A A1 []∧(∀o,Z o→Z1 o)∧A1.length=A.length
 | [],A,C,Z,Zp,ws,ts,R1,i,he,hr=>by
   cases he
   rw[VRL]at hr;subst hr
   exact⟨A,[],Z,Zp,rfl,rfl,rfl,fun w hw=>(by cases hw),by rw[List.append_nil];exact i,by rw[List.append_nil];exact Ext.refl _ _ _,Stab.refl _ _,fun _ ho=>ho,rfl⟩
 |a::l,A,C,Z,Zp,ws,ts,R1,i,he,hr=>by
  simp only[az9]at he
  split at he
  ·rename_i t R2 h1
   split at he
   ·rename_i ts' R3 h2
    cases he
    rw[VRL]at hr
    obtain⟨w,ws',rfl,h3,h4⟩:=hr
    obtain⟨A1,c,Z1,Zp1,rfl,b2,b3,b4,i1,e1,s1,z1,l1⟩:=w93 i h1 h3
    have hsame:Same h h Z:=fun _ _=>rfl
    have h4':VRL h A1 Z1 Zp1 l ws':=VRL.move z1 e1.zp hsame (fun _ _=>rfl) s1 h4 rfl
    obtain⟨A2,D,Z2,Zp2,rfl,c2,c3,c4,i2,e2,s2,z2,l2⟩:=p91 (C:=C++[c]) i1 h2 h4'
    rw[List.append_assoc C [c] D]at i2 e2
    refine⟨A2,c::D,Z2,Zp2,rfl,by rw[eraL,b2,c2],by rw[List.map_cons,b3,c3],fun x hx=> ?_,i2,e1.trans e2,s1.trans s2,fun o ho=>z2 o (z1 o ho),by omega⟩
    rcases List.mem_cons.1 hx with rfl|hx
    ·exact b4
    ·exact c4 x hx
   ·cases he
  ·cases he
theorem nn8{w:Value}(h:one w=true):w.cells= #[w]∧flat w=true:=by
 cases w<;>first|exact⟨rfl,rfl⟩|cases h
theorem vr1{sh:Bool}{R R1:Rts}{ts:List Tree}{a:AV}{w:Value}(he:az9 sh R (cellsOf a)=some (ts,R1))(hr:VR h A Z Zp a w): ∃ws,VRL h A Z Zp (cellsOf a) ws∧((∀x∈ws,one x=true)→w.cells.toList=ws∧flat w=true):=by
 cases a with
 |agg l=>
  rw[VR]at hr
  obtain⟨ws,rfl,h1⟩:=hr
  exact⟨ws,h1,fun _=>⟨rfl,rfl⟩⟩
 |_=>
  refine⟨[w], .cons hr .nil,fun h1=> ?_⟩
  obtain⟨e1,e2⟩:=nn8 (h1 w (by simp))
  exact⟨by rw[e1],e2⟩
end
end Go.Vm
namespace Go.Vm
open Go.Am
structure Step (h:H) (A:List AT) (Z Zp:Nat→Prop) (r:Option AV×Rts×Option (List Nat)) (w:Option Value) (h':H) (A':List AT) (Z' Zp':Nat→Prop):Prop where
 R:r.2.1=A'.map AT.era
 inv:Inv h' A' Z' Zp'
 ext:Ext h A Zp h' A' Zp'
 st:Stab A A' (r.2.2.getD [])
 z: ∀o,Z o→Z' o
 v:match r.1,w with
  |some a,some w=>VR h' A' Z' Zp' a w
  |none,none=>True
  |_,_=>False
 clean:r.2.2=none→h<+:h'∧ ∃N,A'=A++N
section
variable {h:H} {A:List AT} {Z Zp:Nat→Prop} {fr:VFr} {f:Fr}
theorem Step.same(i:Inv h A Z Zp){a:AV}{w:Value}(hr:VR h A Z Zp a w):Step h A Z Zp (some a,A.map AT.era,none) (some w) h A Z Zp:=
 ⟨rfl,i,Ext.refl _ _ _,Stab.refl _ _,fun _ h=>h,hr,fun _=>⟨List.prefix_refl _,[],by simp⟩⟩
theorem zg5{ct:CT}{h:H}{Z:Nat→Prop}{e:Nat}: ∀(zs:List Value) (i:Nat),∃l:List AT,eraL l=r48 ct e i zs∧l.map AT.val=zs∧fpL l=[]∧okL h Z l
 | [],i=>⟨[],rfl,rfl,rfl,by rw[okL];trivial⟩
 |z::zs,i=>by
  obtain⟨l,h1,h2,h3,h4⟩:=zg5 (ct:=ct) (h:=h) (Z:=Z) (e:=e) zs (i+1)
  obtain⟨c,c1,c2,c3,c4⟩: ∃c:AT,c.era=ia9 (ct e i) z∧c.val=z∧c.fp=[]∧ok h Z c:=by
   unfold ia9
   split
   ·split
    ·exact⟨.v _,rfl,rfl,v_fp _,by rw[ok];trivial⟩
    ·exact⟨.nil 2 _ _,rfl,rfl,uu7 _ _ _,by rw[ok];exact⟨by decide,by omega⟩⟩
   ·exact⟨.v _,rfl,rfl,v_fp _,by rw[ok];trivial⟩
  refine⟨c::l,by rw[eraL,r48,c1,h1],by rw[List.map_cons,c2,h2],by rw[fpL,c3,h3];rfl,by rw[okL];exact⟨c4,h4⟩⟩
theorem gr6(zs:List Value): ∀n,(rep zs n).length=n*zs.length
 |0=>by simp[rep]
 |n+1=>by rw[rep,List.length_append,gr6 zs n,Nat.add_mul];omega
theorem x43{h:H}{Z:Nat→Prop}{l:List AT}(hf:fpL l=[])(hk:okL h Z l): ∀n,∃m:List AT,eraL m=repT (eraL l) n∧m.map AT.val=rep (l.map AT.val) n∧fpL m=[]∧okL h Z m
 |0=>⟨[],rfl,rfl,rfl,by rw[okL];trivial⟩
 |n+1=>by
  obtain⟨m,h1,h2,h3,h4⟩:=x43 hf hk n
  refine⟨l++m,by rw[repT,←h1];simp[dk4],by rw[rep,←h2];simp,by rw[xv9,hf,h3];rfl,ca4.2 ⟨hk,h4⟩⟩
theorem b95(zs:List Value): ∀(n m:Nat),n≤m→(rep zs m).take (n*zs.length)=rep zs n
 |0,m,_=>by simp[rep]
 |n+1,m,hm=>by
  obtain⟨k,rfl⟩: ∃k,m=k+1:=⟨m-1,by omega⟩
  rw[rep,rep,Nat.add_mul,Nat.one_mul,Nat.add_comm,List.take_append,List.take_of_length_le (by omega),Nat.add_sub_cancel_left,b95 zs n k (by omega)]
theorem j21(i:Inv h A Z Zp){a:AV}{w:Value}(hk:oa5 (A.map AT.era) a=true)(hr:VR h A Z Zp a w):one w=true:=by
 cases a with
 |x v=>rw[VR]at hr;subst hr;exact hk
 |fz b t=>rw[VR]at hr;exact gs6 hk hr
 |fzc b cs j=>rw[VR]at hr;obtain⟨o,off,r,rfl,_⟩:=hr;rfl
 |own r p=>
  rw[VR]at hr
  simp only[oa5]at hk
  split at hk
  ·rename_i h1
   obtain⟨k,h2,h3⟩:=mc9 h1
   obtain⟨w',rfl⟩:=n52 h3
   have:=lw8 i h2
   rw[ok]at this
   have hw:w'=w:=hr.2 _ h2 rfl
   subst hw
   exact gs6 hk this
  ·rename_i h1
   obtain⟨k,h2,rfl⟩:=mc9 h1
   rw[←hr.2 _ h2 (l61 hk)]
   cases k<;>first|rfl|(simp[AT.era,isNode]at hk)
  ·cases hk
 |cell r p j=>
  have hl:k12 (A.map AT.era) (.o r p j)=true:=hk
  obtain⟨o,off,rfl⟩:=bj0 i hl hr
  rfl
 |fn g l=>rw[VR]at hr;obtain⟨ws,rfl,_⟩:=hr;rfl
 |_=>cases hk
theorem ky5(i:Inv h A Z Zp){k:Nat}{a:AV}{b:Bool}{w:Value}(he:wb3 (A.map AT.era) k a=some b)(hr:VR h A Z Zp a w):anil k w=some b:=by
 have sl: ∀{o:Addr} {n c:Nat},anil 0 (.slice (some o) n c)=some false:=rfl
 unfold wb3 at he
 split at he
 ·rw[VR]at hr;subst hr;exact he
 ·split at he
  ·rename_i h1
   obtain⟨kk,nl0,q1,q2,q3,q4,q5,q6⟩:=cd4 i h1 hr
   cases he
   rcases q6 with⟨_,_,_,_,e1,_⟩|⟨o,off,n0,c0,l,lo',c',rfl,rfl,q7,rfl,q8,q9',q9⟩
   ·rcases q2 with q2|q2
    ·exact absurd q2.symm e1
    ·rw[if_neg e1]at q2;cases q2
   ·rfl
  ·rename_i h1
   obtain⟨kk,nl0,q1,q2,q3,q4,q5,q6⟩:=cd4 i h1 hr
   cases he
   rcases q6 with⟨_,rfl,_,_,e1,rfl⟩|⟨o,off,n0,c0,l,lo',c',rfl,rfl,q7,rfl,q8,q9',q9⟩
   ·rfl
   ·have:nl0=1:=by
     rcases q2 with q2|q2
     ·exact q2.symm
     ·split at q2<;>cases q2
    have h2:=q7 this
    show some false=_
    cases hl:eraL l with
    |nil=>exact absurd hl h2
    |cons=>rfl
  ·rename_i n h1
   obtain⟨kk,nl0,q1,q2,q3,q4,q5,q6⟩:=cd4 i h1 hr
   split at he
   ·cases he
   ·cases he
    rcases q6 with⟨_,_,e0,_⟩|⟨o,off,n0,c0,l,lo',c',rfl,rfl,q7,rfl,q8,q9',q9⟩
    ·omega
    ·rfl
  ·rename_i h1
   obtain⟨e,q⟩:=cd4 i h1 hr
   rw[Rd]at q
   cases he
   rcases q with⟨_,q,_⟩|⟨o,off,n,c,row,rfl,_⟩
   ·exact absurd rfl q
   ·rfl
  ·rename_i cs h1
   obtain⟨e,q⟩:=cd4 i h1 hr
   rw[Rd]at q
   cases he
   rcases q with⟨rfl,q,_,rfl⟩|⟨o,off,n,c,row,rfl,_,_,_,_,_,_,q,_⟩
   ·rfl
   ·have h2:=q rfl
    cases cs with
    |nil=>exact absurd rfl h2
    |cons=>rfl
  ·rename_i cs h1
   obtain⟨e,q⟩:=cd4 i h1 hr
   rw[Rd]at q
   split at he
   ·cases he
   ·rename_i hne
    cases he
    rcases q with⟨rfl,q,_,rfl⟩|⟨o,off,n,c,row,rfl,_⟩
    ·exact absurd rfl hne
    ·rfl
  ·rename_i h1
   have:=cd4 i h1 hr
   cases he
   rw[show w= .slice none 0 0 from this];rfl
  ·cases he
 ·split at he
  ·rename_i pa h1
   split at he
   ·rename_i hl
    cases he
    obtain⟨o,off,rfl⟩:=bj0 i hl (dm7 i h1 hr)
    rfl
   ·cases he
  ·cases he
 ·cases he
  rw[VR]at hr
  obtain⟨ws,rfl,_⟩:=hr
  rfl
 ·cases he
end
end Go.Vm
namespace Go.Vm
open Go.Am
section
variable {α β:Type}
theorem ij9: ∀(ts cs:List α) (i:Nat),(setL cs i ts).length=cs.length
 | [],cs,i=>rfl
 |t::ts,cs,i=>by rw[setL,ij9 ts,List.length_set]
theorem vo4: ∀(ts cs:List α) (i j:Nat),i+ts.length≤cs.length→(setL cs i ts)[j]? =if i≤j∧j<i+ts.length then ts[j-i]? else cs[j]?
 | [],cs,i,j,h=>by rw[setL,if_neg (by simp only[List.length_nil];omega)]
 |t::ts,cs,i,j,h=>by
  rw[List.length_cons]at h
  rw[setL,vo4 ts _ _ _ (by rw[List.length_set];omega),List.getElem?_set,List.length_cons]
  by_cases h1:i+1≤j∧j<i+1+ts.length
  ·rw[if_pos h1,if_pos (by omega),show j-i=j-(i+1)+1 by omega,List.getElem?_cons_succ]
  ·rw[if_neg h1]
   by_cases h2:i=j
   ·subst h2
    rw[if_pos rfl,if_pos (by omega),if_pos (by omega),Nat.sub_self];rfl
   ·rw[if_neg h2,if_neg (by omega)]
theorem yb7(g:α→β): ∀(ts cs:List α) (i:Nat),(setL cs i ts).map g=setL (cs.map g) i (ts.map g)
 | [],cs,i=>rfl
 |t::ts,cs,i=>by rw[setL,yb7 g ts,List.map_set];rfl
theorem g82{ts cs:List α}{i off:Nat}(h:off+i+ts.length≤cs.length):(setL cs (off+i) ts).drop off=setL (cs.drop off) i ts:=by
 refine List.ext_getElem? fun j=> ?_
 rw[List.getElem?_drop,vo4 _ _ _ _ h,vo4 _ _ _ _ (by rw[List.length_drop];omega),List.getElem?_drop]
 by_cases h1:i≤j∧j<i+ts.length
 ·rw[if_pos h1,if_pos (by omega),show off+j-(off+i)=j-i by omega]
 ·rw[if_neg h1,if_neg (by omega)]
theorem oh0{ts cs:List α}{i m:Nat}(h:i+ts.length≤m)(hm:m≤cs.length):(setL cs i ts).take m=setL (cs.take m) i ts:=by
 refine List.ext_getElem? fun j=> ?_
 rw[List.getElem?_take,vo4 _ _ _ _ (by omega),vo4 _ _ _ _ (by rw[List.length_take];omega),List.getElem?_take]
 by_cases h1:i≤j∧j<i+ts.length
 ·rw[if_pos h1,if_pos (by omega),if_pos h1]
 ·rw[if_neg h1,if_neg h1]
theorem dw1{l ws:List Value}{i:Nat}(h:i+ws.length≤l.length):hu1 l i ws=setL l i ws:=by
 refine List.ext_getElem? fun j=> ?_
 rw[vo4 _ _ _ _ h]
 unfold hu1
 have hl:(l.take i).length=i:=by rw[List.length_take];omega
 by_cases h1:j<i
 ·rw[if_neg (by omega),List.append_assoc,List.getElem?_append_left (by omega),List.getElem?_take,if_pos h1]
 ·by_cases h2:j<i+ws.length
  ·rw[if_pos (by omega),List.getElem?_append_left (by rw[List.length_append];omega),List.getElem?_append_right (by omega),hl]
  ·rw[if_neg (by omega),List.getElem?_append_right (by rw[List.length_append];omega),List.length_append,hl,List.getElem?_drop]
   congr 1;omega
end
theorem pf0(x:Nat): ∀(D cs:List AT) (i:Nat),(fpL (setL cs i D)).count x≤(fpL cs).count x+(fpL D).count x
 | [],cs,i=>by rw[setL];omega
 |d::D,cs,i=>by
  rw[setL]
  have h1:=pf0 x D (cs.set i d) (i+1)
  have h2:(fpL (cs.set i d)).count x≤(fpL cs).count x+d.fp.count x:=by
   cases hc:cs[i]? with
   |none=>rw[List.set_eq_of_length_le (by have:=List.getElem?_eq_none_iff.1 hc;omega)];omega
   |some k=>have:=ju4 x (s:=d) hc;omega
  rw[fpL,List.count_append]
  omega
theorem a71{k:AT}{cs cs':List AT}(hk:k.kids=some cs)(hl:cs'.length=cs.length):(k.setKids cs').kids=some cs':=by
 cases k with
 |sl=>rfl
 |pt=>rfl
 |nil=>cases hk;obtain rfl:cs'=[]:=List.eq_nil_of_length_eq_zero (by simpa using hl);rfl
 |v=>cases hk
 |fn=>cases hk
 |fz=>cases hk
 |junk=>cases hk
theorem ay2{k:AT}{cs cs':List AT}(hk:k.kids=some cs)(hl:cs'.length=cs.length)(x:Nat):(k.setKids cs').fp.count x+(fpL cs).count x=k.fp.count x+(fpL cs').count x:=by
 rcases vw2 hk with⟨e1,rfl⟩|⟨o,e1,e2⟩
 ·obtain rfl:cs'=[]:=List.eq_nil_of_length_eq_zero (by simpa using hl)
  cases k<;>first|(cases hk;done)|(simp only[AT.setKids])<;>(cases hk;rfl)
 ·rw[e1,e2,List.count_cons,List.count_cons];omega
theorem Sub.kids{k:AT}{cs cs':List AT}(hk:k.kids=some cs)(hl:cs'.length=cs.length)(hkv:k.isV=false)(hS: ∀(j:Nat) (c':AT),cs'[j]? =some c'→ ∃c:AT,cs[j]? =some c∧Sub c c'):Sub k (k.setKids cs'):=by
 intro q b' h1 h2
 cases q with
 |nil=>cases h1;exact⟨k,rfl,hkv,df8 _ _⟩
 |cons j q=>
  simp only[AT.get,a71 hk hl]at h1
  simp only[AT.get,hk]
  cases hc:cs'[j]? with
  |none=>rw[hc]at h1;cases h1
  |some c'=>
   rw[hc]at h1
   obtain⟨c,h3,h4⟩:=hS j c' hc
   rw[h3]
   exact h4 q b' h1 h2
theorem Sub.refl(k:AT):Sub k k:=fun q b' h1 h2=>⟨b',h1,h2,rfl⟩
theorem Sub.v{k:AT}(x:Value):Sub k (.v x):=by
 intro q b' h1 h2
 cases q with
 |nil=>cases h1;cases h2
 |cons j q=>simp only[AT.get]at h1;cases h1
theorem zv3{h:H}{o o':Nat}{b:Ob}(hne:o'≠o):(h.set o b)[o']? =h[o']? :=List.getElem?_set_ne fun e=>hne e.symm
section
variable {h:H} {A:List AT} {Z Zp:Nat→Prop} {fr:VFr} {f:Fr}
theorem dp1{A1 D:List AT}{Z1 Zp1:Nat→Prop}(i1:Inv h (A1++D) Z1 Zp1){ws:List Value}(hD:D.map AT.val=ws)(hne:D≠[]){r:Nat}{p:List Nat}{j:Nat}{w:Value}(hr:VR h A1 Z1 Zp1 (.cell r p j) w){R2:Rts}(he:z26 (A1.map AT.era) r p j (eraL D)=some R2):
 ∃o off h' A2,w= .pointer (some ⟨o,off,none⟩)∧h.sts o off ws=some h'∧R2=A2.map AT.era∧(∃Z2 Zp2,Inv h' A2 Z2 Zp2∧Ext h (A1++D) Zp1 h' A2 Zp2∧(∀o,Z1 o→Z2 o))∧Stab A1 A2 (if(eraL D).all isV then []else [r]):=by
 unfold z26 at he
 split at he
 ·rename_i s h1
  split at he
  ·rename_i ts h2
   split at he
   ·rename_i hlen
    cases he
    obtain⟨k,h3,h4⟩:=mc9 h1
    subst h4
    obtain⟨cs,h5,h6⟩:=a47 h2
    subst h6
    rw[i47,i47]at hlen
    have hDl:0<D.length:=List.length_pos_iff.2 hne
    have hcs:cs≠[]:=by intro e;subst e;rw[List.length_nil]at hlen;omega
    have hlt:=vs7 h3
    have h3':aget (A1++D) r p=some k:=by rw[gr7 p hlt];exact h3
    obtain⟨o,off,row,b1,b2,b3,b4,b5⟩:=nm1 i1 h3' h5 hcs
    have hw:=wd1 hr h3 b1
    have hok:=lw8 i1 h3'
    have hwl:ws.length=D.length:=by rw[←hD];simp
    have hrl:off+cs.length≤row.cells.length:=by
     have:=(List.getElem?_eq_some_iff.1 (b5 (cs.length-1) _ (List.getElem?_eq_getElem (by have:=List.length_pos_iff.2 hcs;omega)))).1
     have:=List.length_pos_iff.2 hcs
     omega
    have hsts:h.sts o (off+j) ws=some (h.set o (.row {row with cells:=hu1 row.cells (off+j) ws})):=by
     unfold H.sts
     rw[b3]
     simp only[]
     rw[if_pos (by rw[b4];simp;omega)]
    have hol:o<h.length:=h42 b3
    have hokA:(o∈fpL A1):=ea8.2 (by have:=ea8.1 b2;have:=bm6 o h3;omega)
    have hac: ∀x,(fpL A1).count x+(fpL D).count x≤1:=fun x=>by have:=i1.nd x;rwa [xv9,List.count_append]at this
    have hkn: ∀x,k.fp.count x≤1:=fun x=>by have:=bm6 x h3;have:=hac x;omega
    have hoD:o∉fpL D:=fun hm=>by have:=ea8.1 hm;have:=ea8.1 hokA;have:=hac o;omega
    have hocs:o∉fpL cs:=fun hm=>by
     rcases vw2 h5 with⟨_,e⟩|⟨o',e1,e2⟩
     ·exact hcs e
     ·have hk1:=hkn o
      rw[e1,List.count_cons]at hk1
      have hcsp:(fpL cs).count o≥1:=ea8.1 hm
      have hoo:o'=o:=by
       cases k with
       |sl=>cases h5;cases b1;rw[AT.fp]at e1;cases e1;rfl
       |pt=>cases h5;cases b1;rw[AT.fp]at e1;cases e1;rfl
       |_=>cases b1
      subst hoo
      rw[if_pos (by simp)]at hk1
      omega
    have hrow': ∀o',o'≠o→H.row (h.set o (.row {row with cells:=hu1 row.cells (off+j) ws})) o'=h.row o':=fun o' hne=>jl1 fun e=>hne e.symm
    have hokd:=ga5.1 i1.okA
    have hokc:=ga5.1 (by5 h5 hok)
    have hsl:(setL cs j D).length=cs.length:=ij9 _ _ _
    have hchild:okL (h.set o (.row {row with cells:=hu1 row.cells (off+j) ws})) (fun x=>Zp1 x∨False) (setL cs j D):=by
     refine ga5.2 fun c hc=> ?_
     obtain⟨m,hm⟩:=List.getElem?_of_mem hc
     rw[vo4 _ _ _ _ hlen]at hm
     have hz: ∀x,Zp1 x→x≠o:=fun x hx e=>i1.nz o (by rw[xv9];simp[hokA]) (e▸i1.zp x hx)
     split at hm
     ·have hcD:=List.mem_of_getElem? hm
      exact ok.keep (fun x hx=> .inl hx) (fun x hx=>hrow' x (hz x hx)) (hokd c (by simp[hcD])) fun x hx=>hrow' x fun e=>hoD (by rw[←e,zq7,List.mem_flatMap];exact⟨c,hcD,hx⟩)
     ·have hcc:=List.mem_of_getElem? hm
      exact ok.keep (fun x hx=> .inl hx) (fun x hx=>hrow' x (hz x hx)) (hokc c hcc) fun x hx=>hrow' x fun e=>hocs (by rw[←e,zq7,List.mem_flatMap];exact⟨c,hcc,hx⟩)
    have hsok:ok (h.set o (.row {row with cells:=hu1 row.cells (off+j) ws})) (fun x=>Zp1 x∨False) (k.setKids (setL cs j D)):=by
     have hspl:hu1 row.cells (off+j) ws=setL row.cells (off+j) ws:=dw1 (by omega)
     cases k with
     |sl o' off' n c nl e u l=>
      cases h5;cases b1
      rw[ok]at hok
      obtain⟨row',k1,k2,k3,k4,k5,k6,k7,k8,k9,k10⟩:=hok
      rw[b3]at k1;cases k1
      rw[AT.setKids,ok]
      refine⟨_,tr3 hol,k2,k3,k4,k5,by rw[hsl];exact k6,k7,⟨fun e1 e2=>k8.1 e1 (by rw[e2]at hsl;exact List.eq_nil_of_length_eq_zero hsl.symm), ?_⟩, ?_,hchild⟩
      ·show off+_≤(hu1 row.cells (off+j) ws).length
       rw[hspl,ij9,ij9];exact hrl
      show((hu1 row.cells (off+j) ws).drop off).take _=_
      rw[hsl,hspl,g82 (by omega),oh0 (by omega) (by rw[List.length_drop];omega),k9,yb7,hD]
     |pt o' e l=>
      cases h5;cases b1
      rw[ok]at hok
      obtain⟨row',k1,k2,k3,k4⟩:=hok
      rw[b3]at k1;cases k1
      rw[AT.setKids,ok]
      refine⟨_,tr3 hol,k2, ?_,hchild⟩
      show hu1 row.cells (0+j) ws=_
      rw[hspl,Nat.zero_add,k3,yb7,hD]
     |_=>cases b1
    have hsv:(k.setKids (setL cs j D)).isV=false:=by rw[ua4];exact nm0 h5
    obtain⟨i2,e2⟩:=Inv.upd (A:=A1) (C:=D) (N:=[]) (s:=k.setKids (setL cs j D)) (Zx:=fun _=>False) i1 h3 (h':=h.set o (.row {row with cells:=hu1 row.cells (off+j) ws})) (by rw[List.length_set];exact Nat.le_refl _)
     (fun x _ hx=>zv3 fun e=>hx (e▸b2)) (df8 _ _) hsok (by rw[okL];trivial) (fun x _=>by have:=ay2 h5 hsl x;have:=pf0 x D cs j;simp[fpL];omega)
     (fun x hx=>by
       have h1:=ay2 h5 hsl x
       have h2:=pf0 x D cs j
       have h3:=bm6 x h3
       have h4:=hac x
       simp[fpL];omega)
     (fun x hx=>by
       rw[List.length_set]
       have h1:=ay2 h5 hsl x
       have h2:=pf0 x D cs j
       have h3:=bm6 x h3
       rcases hx with hx|hx
       ·have h4:=ea8.1 hx
        refine i1.lt x (ea8.2 ?_)
        rw[xv9,List.count_append];omega
       ·simp[fpL]at hx)
     (fun x hx=>hx.elim)
    rw[List.append_nil]at i2 e2
    refine⟨o,off+j,_,aset A1 r p (k.setKids (setL cs j D)),hw,hsts, ?_,⟨_,_,i2,e2,fun x hx=> .inl hx⟩, ?_⟩
    ·rw[←ao8,vw3 h5 hsl,dk4 (setL cs j D),yb7,dk4,dk4]
    ·refine Stab.upd h3 (df8 _ _) (nm0 h5) hsv ?_
     by_cases hall:(eraL D).all isV=true
     ·rw[if_pos hall]
      refine .inl (Sub.kids h5 hsl (nm0 h5) fun m c' hm=> ?_)
      have hm0:=hm
      rw[vo4 _ _ _ _ hlen]at hm
      split at hm
      ·have hcD:=List.mem_of_getElem? hm
       have:isV c'.era=true:=List.all_eq_true.1 hall c'.era (by rw[dk4];exact List.mem_map.2 ⟨c',hcD,rfl⟩)
       have hml:m<cs.length:=by have:=(List.getElem?_eq_some_iff.1 hm0).1;omega
       refine⟨_,List.getElem?_eq_getElem hml, ?_⟩
       cases c' with
       |v x=>exact Sub.v x
       |_=>simp[AT.era,isV]at this
      ·exact⟨c',hm,Sub.refl _⟩
     ·rw[if_neg hall];exact .inr (by simp)
   ·cases he
  ·cases he
 ·cases he
end
end Go.Vm
namespace Go.Vm
open Go.Am
section
variable {α:Type}
theorem dn3{ts cs:List α}{i:Nat}(h:i+ts.length≤cs.length):setL cs i ts=cs.take i++ts++cs.drop (i+ts.length):=by
 refine List.ext_getElem? fun j=> ?_
 rw[vo4 _ _ _ _ h]
 have hl:(cs.take i).length=i:=by rw[List.length_take];omega
 by_cases h1:j<i
 ·rw[if_neg (by omega),List.append_assoc,List.getElem?_append_left (by omega),List.getElem?_take,if_pos h1]
 ·by_cases h2:j<i+ts.length
  ·rw[if_pos (by omega),List.getElem?_append_left (by rw[List.length_append];omega),List.getElem?_append_right (by omega),hl]
  ·rw[if_neg (by omega),List.getElem?_append_right (by rw[List.length_append];omega),List.length_append,hl,List.getElem?_drop]
   congr 1;omega
theorem xh6(l:List α){a b L:Nat}(h:a+b≤L):((l.take L).drop a).take b=(l.drop a).take b:=by
 refine List.ext_getElem? fun j=> ?_
 rw[List.getElem?_take,List.getElem?_take,List.getElem?_drop,List.getElem?_drop,List.getElem?_take]
 by_cases h1:j<b
 ·rw[if_pos h1,if_pos h1,if_pos (by omega)]
 ·rw[if_neg h1,if_neg h1]
theorem sx8{l:List α}{a b:Nat}(h:a+b≤l.length):((l.drop a).take b).length=b:=by rw[List.length_take,List.length_drop];omega
theorem ji8(l:List α)(a b:Nat):l.take a++(l.drop a).take b++l.drop (a+b)=l:=by
 rw[List.append_assoc,←List.drop_drop,List.take_append_drop,List.take_append_drop]
end
theorem lg5{c:AT}(h:plain c.era=true):c.fp=[]:=by
 cases c with
 |v x=>exact v_fp _
 |fz w t=>exact zq0 _ _
 |_=>simp[AT.era,plain]at h
def jkA(c:AT):AT:=if plain c.era then c else .junk c.val
theorem ke1(c:AT):(jkA c).era=jk c.era:=by
 unfold jkA jk;split
 ·rfl
 ·rfl
theorem p26(c:AT):(jkA c).val=c.val:=by
 unfold jkA;split<;>rfl
theorem y09(c:AT):(jkA c).fp=[]:=by
 unfold jkA;split
 ·exact lg5 ‹_›
 ·exact op8 _
theorem e68(c:AT):Sub c (jkA c):=by
 unfold jkA;split
 ·exact Sub.refl _
 ·rename_i hn
  refine Sub.leaf rfl rfl ?_
  cases c<;>first|rfl|(exfalso;exact hn rfl)
theorem mb9(l:List AT):fpL (l.map jkA)=[]:=by
 rw[zq7,List.flatMap_map]
 simp[y09]
theorem ot2{l:List AT}(h:(eraL l).all plain=true):fpL l=[]:=by
 rw[zq7,List.flatMap_eq_nil_iff]
 intro c hc
 exact lg5 (List.all_eq_true.1 h c.era (by rw[dk4];exact List.mem_map.2 ⟨c,hc,rfl⟩))
theorem gc1(l:List AT)(a b x:Nat):(fpL ((l.drop a).take b)).count x≤(fpL l).count x:=by
 rw[←ji8 l a b,xv9,xv9,List.count_append,List.count_append,ji8];omega
theorem xg5(l:List AT)(a b:Nat):eraL ((l.drop a).take b)=((eraL l).drop a).take b:=by
 rw[dk4,dk4,List.map_take,List.map_drop]
theorem nc9(l m:List AT):eraL (l++m)=eraL l++eraL m:=by simp only[dk4,List.map_append]
section
variable {h:H} {A:List AT} {Z Zp:Nat→Prop} {fr:VFr} {f:Fr}
theorem pd7{o off n c size:Nat}{row:Row}{vs:List Value}(hs:0<size)(hr:h.row o=some row)(hv:(row.cells.drop off).take (n*size)=vs)(hl:vs.length=n*size):b38 h size n (.slice (some ⟨o,off,none⟩) n c)=some vs:=by
 unfold b38
 simp only[]
 by_cases h0:n=0
 ·subst h0
  rw[if_pos rfl]
  rw[Nat.zero_mul]at hl
  rw[List.eq_nil_of_length_eq_zero hl]
 ·rw[if_neg h0,if_pos (Nat.le_refl _)]
  simp only[cv9,if_true]
  unfold H.lds
  rw[hr]
  simp only[]
  have h1:0<n*size:=Nat.mul_pos (by omega) hs
  have:off+n*size≤row.cells.length:=by
   rw[←hv,List.length_take,List.length_drop]at hl;omega
  rw[if_pos this,hv]
theorem jk2{o off n0 c0 nl e u:Nat}{l:List AT}(hk:ok h Zp (.sl o off n0 c0 nl e u l)){lo n lo':Nat}(hc:(lo+n)*u≤l.length)(h1:lo'≤lo)(h2:0<n→lo'=lo): ∃row,h.row o=some row∧row.own=true∧row.elem=e∧row.unit=u∧off+lo'*u+n*u≤row.cells.length∧(row.cells.drop (off+lo'*u)).take (n*u)=((l.drop (lo*u)).take (n*u)).map AT.val:=by
 rw[ok]at hk
 obtain⟨row,k1,k2,k3,k4,k5,k6,k7,k8,k9,k10⟩:=hk
 rw[Nat.add_mul]at hc
 have hlo:lo'*u≤lo*u:=Nat.mul_le_mul_right u h1
 refine⟨row,k1,k2,k3,k4, ?_, ?_⟩
 ·have:=k8.2
  by_cases hn:n=0
  ·subst hn;omega
  ·rw[h2 (by omega)];omega
 ·by_cases hn:n=0
  ·subst hn;simp
  ·rw[h2 (by omega),←List.drop_drop,←xh6 (row.cells.drop off) (L:=l.length) (by omega),k9,List.map_take,List.map_drop]
theorem gu0{Z':Nat→Prop}: ∀{cs:List Tree} {vs:List Value},RdL h Z' cs vs→ ∃D:List AT,eraL D=cs.map fzT∧fpL D=[]∧D.map AT.val=vs∧okL h Z' D
 | [],vs,hr=>by rw[RdL]at hr;subst hr;exact⟨[],rfl,rfl,rfl,by rw[okL];trivial⟩
 |t::cs,vs,hr=>by
  rw[RdL]at hr
  obtain⟨w,vs',rfl,h1,h2⟩:=hr
  obtain⟨D,d1,d2,d3,d4⟩:=gu0 h2
  obtain⟨c,c1,c2,c3,c4⟩: ∃c:AT,c.era=fzT t∧c.val=w∧c.fp=[]∧ok h Z' c:=by
   cases t with
   |v x=>rw[Rd]at h1;subst h1;exact⟨.v w,rfl,rfl,v_fp _,by rw[ok];trivial⟩
   |_=>exact⟨.fz w _,rfl,rfl,zq0 _ _,by rw[ok];exact h1⟩
  exact⟨c::D,by rw[eraL,c1,d1];rfl,by rw[fpL,c3,d2];rfl,by rw[List.map_cons,c2,d3],by rw[okL];exact⟨c4,d4⟩⟩
theorem ih3{Z' Z'':Nat→Prop}: ∀{cs:List Tree} {vs:List Value},cs.all isV=true→RdL h Z' cs vs→ ∃D:List AT,eraL D=cs∧fpL D=[]∧D.map AT.val=vs∧okL h Z'' D
 | [],vs,_,hr=>by rw[RdL]at hr;subst hr;exact⟨[],rfl,rfl,rfl,by rw[okL];trivial⟩
 |t::cs,vs,hv,hr=>by
  rw[RdL]at hr
  obtain⟨w,vs',rfl,h1,h2⟩:=hr
  rw[List.all_cons,Bool.and_eq_true]at hv
  obtain⟨D,d1,d2,d3,d4⟩:=ih3 (Z'':=Z'') hv.2 h2
  cases t with
  |v x=>rw[Rd]at h1;subst h1;exact⟨.v w::D,by rw[eraL,d1];rfl,by rw[fpL,v_fp,d2];rfl,by rw[List.map_cons,d3];rfl,by rw[okL];exact⟨by rw[ok];trivial,d4⟩⟩
  |_=>simp[isV]at hv
theorem yj8(i:Inv h A Z Zp){X:VS}{wx:Value}(hx:SR h A Z Zp X wx){size:Nat}{news:List Tree}{R1:Rts}(he:vsrc (A.map AT.era) size X=some (news,R1)):
 ∃A1 D Z1 Zp1 m b d,R1=A1.map AT.era∧eraL D=news∧wx= .slice b m d∧m*size=D.length∧b38 h size m wx=some (D.map AT.val)∧Inv h (A1++D) Z1 Zp1∧Ext h A Zp h (A1++D) Zp1∧Stab A A1 []∧(∀o,Z o→Z1 o)∧A1.length=A.length:=by
 have lite: ∀(D:List AT),fpL D=[]→okL h Zp D→ ∃Z1 Zp1,Inv h (A++D) Z1 Zp1∧Ext h A Zp h (A++D) Zp1∧(∀o,Z o→Z1 o):=fun D hD hk=>by
  obtain⟨i1,e1⟩:=Inv.new (h':=h) (A:=A) (C:=[]) (N:=D) (Zx:=fun _=>False) (by rw[List.append_nil];exact i) (Nat.le_refl _) (fun _ _=>rfl) (okL.keep (fun o ho=> .inl ho) (fun _ _=>rfl) hk fun _ _=>rfl) (fun x _=>by rw[hD];simp) (fun x _=>by rw[hD];simp) (fun o ho=>by rw[hD]at ho;cases ho) (fun o ho=>ho.elim)
  rw[List.append_nil]at e1
  exact⟨_,_,i1,e1,fun o ho=> .inl ho⟩
 cases X with
 |nil=>
  cases he
  cases hx
  exact⟨A,[],Z,Zp,0,none,0,rfl,rfl,rfl,by simp,rfl,by rw[List.append_nil];exact i,by rw[List.append_nil];exact Ext.refl _ _ _,Stab.refl _ _,fun _ ho=>ho,rfl⟩
 |f b nl u cs=>
  simp only[vsrc]at he
  split at he
  ·rename_i hu
   subst hu
   obtain⟨e,hx⟩:=hx
   rw[Rd]at hx
   have hD: ∃D:List AT,R1=A.map AT.era∧eraL D=news∧fpL D=[]∧cs.length=D.length∧ ∀vs,RdL h (pick b Z Zp) cs vs→ ∃D:List AT,eraL D=news∧fpL D=[]∧D.map AT.val=vs∧okL h Zp D:=by
    cases b with
    |true=>
     cases he
     refine⟨cs.map (fun t=>match t with| .v x=> .v x|t=> .fz .nilFunc t),rfl, ?_, ?_,by simp,fun vs hv=>gu0 hv⟩
     ·rw[dk4,List.map_map]
      refine List.map_congr_left fun t _=> ?_
      cases t<;>rfl
     ·rw[zq7,List.flatMap_map,List.flatMap_eq_nil_iff]
      intro t _
      cases t<;>first|exact v_fp _|exact zq0 _ _
    |false=>
     simp only[Bool.false_eq_true,if_false]at he
     split at he
     ·rename_i hv
      simp only[Option.some.injEq,Prod.mk.injEq]at he
      obtain⟨e1,e2⟩:=he
      subst e1;subst e2
      refine⟨cs.map (fun t=>match t with| .v x=> .v x|t=> .fz .nilFunc t),rfl, ?_, ?_,by simp,fun vs hv2=>ih3 hv hv2⟩
      ·rw[dk4,List.map_map]
       conv=>rhs;rw[←List.map_id cs]
       refine List.map_congr_left fun t ht=> ?_
       have:=List.all_eq_true.1 hv t ht
       cases t<;>first|rfl|(simp[isV]at this)
      ·rw[zq7,List.flatMap_map,List.flatMap_eq_nil_iff]
       intro t _
       cases t<;>first|exact v_fp _|exact zq0 _ _
     ·cases he
   obtain⟨D0,g1,g2,g3,g4,g5⟩:=hD
   rcases hx with⟨rfl,_,hu0,rfl⟩|⟨o,off,n,c,row,rfl,x2,x3,x4,x5,x6,x7,x8,x9⟩
   ·have:D0=[]:=List.eq_nil_of_length_eq_zero (by rw[←g4];rfl)
    subst this
    exact⟨A,[],Z,Zp,0,none,0,g1,g2,rfl,by simp,rfl,by rw[List.append_nil];exact i,by rw[List.append_nil];exact Ext.refl _ _ _,Stab.refl _ _,fun _ ho=>ho,rfl⟩
   ·obtain⟨D,d1,d2,d3,d4⟩:=g5 _ x9
    have hl:=congrArg List.length d3
    rw[List.length_map,x9.len]at hl
    obtain⟨Z1,Zp1,i1,e1,z1⟩:=lite D d2 d4
    refine⟨A,D,Z1,Zp1,n,_,c,g1,d1,rfl,by rw[hl];exact x6, ?_,i1,e1,Stab.refl _ _,z1,rfl⟩
    exact pd7 x5 x3 (by rw[x6,d3]) (by rw[List.length_map,hl];exact x6.symm)
  ·cases he
 |o r p nl e u cs lo n=>
  simp only[vsrc,jp2]at he
  split at he
  ·rename_i hu
   subst hu
   obtain⟨k,nl0,q1,q2,q3,q4,q5,q6⟩:=hx
   rcases q6 with⟨rfl,rfl,rfl,rfl,_,rfl⟩|⟨o,off,n0,c0,l,lo',c',rfl,rfl,q7,rfl,q8,q9',q9⟩
   ·simp at he
    obtain⟨rfl,rfl⟩:=he
    exact⟨A,[],Z,Zp,0,none,0,rfl,rfl,rfl,by simp,rfl,by rw[List.append_nil];exact i,by rw[List.append_nil];exact Ext.refl _ _ _,Stab.refl _ _,fun _ ho=>ho,rfl⟩
   ·have hok:=lw8 i q1
    rw[i47]at q4
    obtain⟨row,r1,r2,r3,r4,r5,r6⟩:=jk2 hok q4 q9' q9
    have hseg:lo*u+n*u≤l.length:=by rw[←Nat.add_mul];exact q4
    have hpl:((l.drop (lo*u)).take (n*u)).length=n*u:=sx8 hseg
    have hsrc:=pd7 (c:=c') q5 r1 r6 (by rw[List.length_map,hpl])
    rw[←xg5]at he
    have hokc:=ga5.1 (by5 rfl hok)
    have hpc: ∀c∈(l.drop (lo*u)).take (n*u),c∈l:=fun c hc=>List.mem_of_mem_drop (List.mem_of_mem_take hc)
    have hokp:okL h Zp ((l.drop (lo*u)).take (n*u)):=ga5.2 fun c hc=>hokc c (hpc c hc)
    split at he
    ·rename_i hpl2
     cases he
     obtain⟨Z1,Zp1,i1,e1,z1⟩:=lite _ (ot2 hpl2) hokp
     exact⟨A,_,Z1,Zp1,n,_,c',rfl,rfl,rfl,hpl.symm,hsrc,i1,e1,Stab.refl _ _,z1,rfl⟩
    ·rw[p00,q1]at he
     cases he
     have hl2:(setL l (lo*u) (((l.drop (lo*u)).take (n*u)).map jkA)).length=l.length:=ij9 _ _ _
     have hml:(((l.drop (lo*u)).take (n*u)).map jkA).length=n*u:=by rw[List.length_map,hpl]
     have hsp:=dn3 (ts:=((l.drop (lo*u)).take (n*u)).map jkA) (cs:=l) (i:=lo*u) (by rw[hml];exact hseg)
     rw[hml]at hsp
     have hcnt: ∀x,(fpL (setL l (lo*u) (((l.drop (lo*u)).take (n*u)).map jkA))).count x+(fpL ((l.drop (lo*u)).take (n*u))).count x=(fpL l).count x:=fun x=>by
      conv=>rhs;rw[←ji8 l (lo*u) (n*u)]
      rw[hsp,xv9,xv9,xv9,xv9,mb9]
      simp only[List.count_append,List.count_nil];omega
     have hvals:(setL l (lo*u) (((l.drop (lo*u)).take (n*u)).map jkA)).map AT.val=l.map AT.val:=by
      conv=>rhs;rw[←ji8 l (lo*u) (n*u)]
      rw[hsp]
      simp only[List.map_append,List.map_map]
      congr 2
      exact List.map_congr_left fun c _=>p26 c
     have hsok:okL h (fun x=>Zp x∨False) (setL l (lo*u) (((l.drop (lo*u)).take (n*u)).map jkA)):=by
      refine ga5.2 fun c hc=> ?_
      rw[hsp]at hc
      have key:c∈l→ok h (fun x=>Zp x∨False) c:=fun hm=>ok.keep (fun x hx=> .inl hx) (fun _ _=>rfl) (hokc c hm) fun _ _=>rfl
      rcases List.mem_append.1 hc with hc|hc
      ·rcases List.mem_append.1 hc with hc|hc
       ·exact key (List.mem_of_mem_take hc)
       ·obtain⟨c0,h0,rfl⟩:=List.mem_map.1 hc
        unfold jkA
        split
        ·exact ok.keep (fun x hx=> .inl hx) (fun _ _=>rfl) (hokp|>ga5.1|>fun f=>f c0 h0) fun _ _=>rfl
        ·rw[ok];exact ho7 ‹_› (ga5.1 hokp c0 h0)
      ·exact key (List.mem_of_mem_drop hc)
     have hkk:(AT.sl o off n0 c0 nl0 e u l).kids=some l:=rfl
     have hse:ok h (fun x=>Zp x∨False) ((AT.sl o off n0 c0 nl0 e u l).setKids (setL l (lo*u) (((l.drop (lo*u)).take (n*u)).map jkA))):=iu1 hkk hok hvals (fun _ _=>rfl) hsok
     obtain⟨i1,e1⟩:=Inv.upd (h':=h) (A:=A) (C:=[]) (N:=(l.drop (lo*u)).take (n*u)) (s:=(AT.sl o off n0 c0 nl0 e u l).setKids (setL l (lo*u) (((l.drop (lo*u)).take (n*u)).map jkA))) (Zx:=fun o=>False) (by rw[List.append_nil];exact i) q1 (Nat.le_refl _) (fun _ _ _=>rfl) rfl
      hse (okL.keep (fun x hx=> .inl hx) (fun _ _=>rfl) hokp fun _ _=>rfl) (fun x _=>by have h1:=ay2 hkk hl2 x;have h2:=hcnt x;omega) (fun x hx=>by
       have h1:=ay2 hkk hl2 x;have h2:=hcnt x;have h3:=bm6 x q1;have h4:=i.nd x;omega) (fun x hx=>by
       have h1:=ay2 hkk hl2 x;have h2:=hcnt x;have h3:=bm6 x q1
       refine i.lt x (ea8.2 ?_)
       rcases hx with hx|hx<;>have:=ea8.1 hx<;>omega) (fun o ho=>ho.elim)
     rw[List.append_nil]at e1
     refine⟨_,_,_,_,n,_,c', ?_,rfl,rfl,hpl.symm,hsrc,i1,e1,Stab.upd (s:=(AT.sl o off n0 c0 nl0 e u l).setKids (setL l (lo*u) (((l.drop (lo*u)).take (n*u)).map jkA))) q1 rfl rfl rfl (.inl (Sub.kids hkk hl2 rfl fun j c' hj=> ?_)),fun o ho=> .inl ho,hl4 _ _ _ _⟩
     ·rw[←ao8,vw3 hkk hl2,dk4 (setL _ _ _),yb7,List.map_map,←dk4]
      rw[show(List.map (AT.era∘jkA) ((l.drop (lo*u)).take (n*u)))=(eraL ((l.drop (lo*u)).take (n*u))).map jk from by rw[dk4,List.map_map];exact List.map_congr_left fun c _=>ke1 c]
      simp only[dk4]
     ·rw[vo4 _ _ _ _ (by rw[hml];exact hseg)]at hj
      split at hj
      ·rename_i hr
       rw[hml]at hr
       rw[List.getElem?_map]at hj
       obtain⟨c0,h0,rfl⟩:=Option.map_eq_some_iff.1 hj
       rw[List.getElem?_take]at h0
       split at h0
       ·rw[List.getElem?_drop]at h0
        refine⟨c0, ?_,e68 c0⟩
        rw[←h0];congr 1;omega
       ·cases h0
      ·exact⟨c',hj,Sub.refl _⟩
  ·cases he
end
end Go.Vm
namespace Go.Vm
open Go.Am
section
variable {h:H} {A:List AT} {Z Zp:Nat→Prop} {fr:VFr} {f:Fr}
theorem Inv.left{D:List AT}(i:Inv h (A++D) Z Zp):Inv h A Z Zp:=
 ⟨(ca4.1 i.okA).1,fun x=>by have:=i.nd x;rw[xv9,List.count_append]at this;omega,fun o ho=>i.lt o (by rw[xv9];simp[ho]),fun o ho=>i.nz o (by rw[xv9];simp[ho]),i.zlt,i.zp⟩
theorem Step.grow(i:Inv h A Z Zp){A1 D:List AT}{Z1 Zp1:Nat→Prop}(i1:Inv h (A1++D) Z1 Zp1)(e1:Ext h A Zp h (A1++D) Zp1)(s1:Stab A A1 [])(z1: ∀o,Z o→Z1 o){r:Nat}{p:List Nat}{k kn:AT}(hk:aget A1 r p=some k)(hkv:k.isV=false)(hone:one k.val=true){h':H}(hlen:h.length≤h'.length)
 (hkeep: ∀o,o<h.length→o∉k.fp→h'[o]? =h[o]?) (hok:ok h' (fun o=>Zp1 o∨False) kn) (hc: ∀x,x<h.length→kn.fp.count x≤k.fp.count x+(fpL D).count x) (hd: ∀x,h.length≤x→kn.fp.count x≤1) (hb: ∀o∈kn.fp,o<h'.length) (hknv:kn.isV=false):
 ∃A' Z2 Zp2,Step h A Z Zp (some (.own A1.length []),rset (A1.map AT.era) r p .junk++[kn.era],some []) (some kn.val) h' A' Z2 Zp2:=by
 obtain⟨i2,e2⟩:=Inv.upd (A:=A1) (C:=D) (N:=[kn]) (s:= .junk k.val) (Zx:=fun _=>False) i1 hk hlen hkeep rfl (by rw[ok];exact hone) (vd4.2 hok) (fun x hx=>by rw[op8,zr4];simpa using hc x hx) (fun x hx=>by rw[op8,zr4];simpa using hd x hx)
  (fun o ho=>by rw[op8,zr4]at ho;exact hb o (by simpa using ho)) (fun o ho=>ho.elim)
 refine⟨aset A1 r p (.junk k.val)++[kn],_,_, ?_,i2,e1.trans e2, ?_,fun o ho=> .inl (z1 o ho), ?_,fun hn=>by cases hn⟩
 ·show rset _ _ _ _++_=_
  rw[List.map_append,←ao8];rfl
 ·exact(s1.trans (Stab.upd (s:= .junk k.val) hk rfl hkv rfl (.inl (Sub.leaf rfl rfl hkv)))).app [kn]
 ·show VR _ _ _ _ (.own A1.length []) kn.val
  rw[VR]
  refine⟨by simp[hl4],fun b hb _=> ?_⟩
  unfold aget at hb
  rw[List.getElem?_append_right (by rw[hl4];exact Nat.le_refl _),hl4,Nat.sub_self]at hb
  cases hb
  rfl
theorem ga3{size m bytes n:Nat}{D:List AT}(hs:0<size)(hm:m*size=D.length){news:List Tree}(he:eraL D=news):news.length/size=m:=by
 rw[←he,i47,←hm,Nat.mul_div_cancel _ hs]
theorem nu6(i:Inv h A Z Zp){s:AV}{ws:Value}(hs:VR h A Z Zp s ws){A1 D:List AT}{Z1 Zp1:Nat→Prop}{m:Nat}{elem size bytes:Nat}{news:List Tree}(hD:eraL D=news)(hm:m*size=D.length)(i1:Inv h (A1++D) Z1 Zp1)(e1:Ext h A Zp h (A1++D) Zp1)(s1:Stab A A1 [])(z1: ∀o,Z o→Z1 o){r:Nat}{p:List Nat}{nl e u:Nat}{cs:List Tree}{lo n:Nat}(hS:vsl (A1.map AT.era) s=some (.o r p nl e u cs lo n))(he:e=elem)(hu:u=size)(hf:few (n+news.length/u) bytes=true):
 ∃sa n1 c1 v h' A' Z' Zp',ws= .slice sa n1 c1∧aput elem size bytes h sa n1 c1 m (D.map AT.val)=some (v,h')∧Step h A Z Zp (some (.own (A1.map AT.era).length []),rset (A1.map AT.era) r p .junk++[.sl nl e u ((cs.drop (lo*u)).take (n*u)++news)],some []) (some v) h' A' Z' Zp':=by
 subst he;subst hu
 have hs1:VR h A1 Z1 Zp1 s ws:=VR.move z1 e1.zp (fun _ _=>rfl) (fun _ _=>rfl) s1 hs rfl
 obtain⟨k,nl0,q1,q2,q3,q4,q5,q6⟩:=cd4 i1.left hS hs1
 have hlm:news.length/u=m:=ga3 (bytes:=bytes) (n:=n) q5 hm hD
 rw[hlm]at hf
 rw[List.length_map]
 have hDv:(D.map AT.val).length=m*u:=by rw[List.length_map,hm]
 have hD1: ∀x,(fpL D).count x≤1:=fun x=>by have:=i1.nd x;rw[xv9,List.count_append]at this;omega
 have hDlt: ∀o∈fpL D,o<h.length:=fun o ho=>i1.lt o (by rw[xv9];simp[ho])
 have hokD:=(ca4.1 i1.okA).2
 have hnl:nl≠0↔nl0≠0:=by
  rcases q2 with rfl|rfl
  ·exact Iff.rfl
  ·split<;>simp_all
 rcases q6 with⟨rfl,rfl,rfl,rfl,hn0,rfl⟩|⟨o,off,n0,c0,l,lo',c',rfl,rfl,q7,rfl,q8,q9',q9⟩
 ·rw[Nat.zero_add]at hf
  by_cases hm0:m=0
  ·subst hm0
   obtain rfl:D=[]:=List.eq_nil_of_length_eq_zero (by rw[←hm];simp)
   cases hD
   obtain⟨A',Z2,Zp2,st⟩:=Step.grow (kn:= .nil nl e u) (h':=h) i i1 e1 s1 z1 q1 rfl rfl (Nat.le_refl _) (fun _ _ _=>rfl) (by rw[ok];exact⟨hnl.2 hn0,q5⟩) (fun x _=>by rw[uu7];simp) (fun x _=>by rw[uu7];simp) (fun o ho=>by rw[uu7]at ho;cases ho) rfl
   refine⟨_,_,_,_,h,A',Z2,Zp2,rfl, ?_,by simpa [AT.era,eraL]using st⟩
   unfold aput
   simp
   rfl
  ·have hcn: ∀x,x<h.length→(AT.sl h.length 0 m m nl e u D).fp.count x≤(fpL D).count x:=fun x hx=>by
    rw[AT.fp,List.count_cons,if_neg (by simp;omega)];exact Nat.le_refl _
   obtain⟨A',Z2,Zp2,st⟩:=Step.grow (kn:= .sl h.length 0 m m nl e u D) (h':=h++[.row ⟨D.map AT.val,e,u,true⟩]) i i1 e1 s1 z1 q1 rfl rfl (by simp) (fun o ho _=>List.getElem?_append_left ho)
    (by
      rw[ok]
      refine⟨_,cv8,rfl,rfl,rfl,q5,hm,Nat.le_refl _,⟨fun _ e0=>hm0 ?_,by simp⟩,by rw[List.drop_zero,List.take_of_length_le (by simp)],okL.keep (fun o ho=> .inl ho) (fun o ho=>z45 (i1.zlt o (i1.zp o ho))) hokD fun o ho=>z45 (hDlt o ho)⟩
      rw[e0]at hm
      rcases Nat.mul_eq_zero.1 hm with h1|h1
      ·exact h1
      ·omega)
    (fun x hx=>by have:=hcn x hx;omega) (fun x hx=>by
      rw[AT.fp,List.count_cons]
      have:(fpL D).count x=0:=List.count_eq_zero.2 fun hm=>by have:=hDlt x hm;omega
      rw[this];split<;>omega) (fun o ho=>by
      rw[AT.fp]at ho
      rcases List.mem_cons.1 ho with rfl|ho
      ·simp
      ·have:=hDlt o ho;simp;omega) rfl
   refine⟨_,_,_,_,_,A',Z2,Zp2,rfl, ?_,by simpa [AT.era,hD]using st⟩
   unfold aput
   simp only[]
   rw[if_pos (by simp),if_neg hm0,if_pos hf];rfl
 ·have hok:=lw8 i1.left q1
  rw[i47]at q4
  obtain⟨row,r1,r2,r3,r4,r5,r6⟩:=jk2 hok q4 q9' q9
  have hseg:lo*u+n*u≤l.length:=by rw[←Nat.add_mul];exact q4
  have hpl:((l.drop (lo*u)).take (n*u)).length=n*u:=sx8 hseg
  have hol:o<h.length:=h42 r1
  have hokl:o∈(AT.sl o off n0 c0 nl0 e u l).fp:=by rw[AT.fp];simp
  have hkA: ∀x,(AT.sl o off n0 c0 nl0 e u l).fp.count x≤(fpL A1).count x:=fun x=>bm6 x q1
  have hac: ∀x,(fpL A1).count x+(fpL D).count x≤1:=fun x=>by have:=i1.nd x;rwa [xv9,List.count_append]at this
  have hkc: ∀x,(AT.sl o off n0 c0 nl0 e u l).fp.count x=(fpL l).count x+if(o==x)=true then 1 else 0:=fun x=>by rw[AT.fp,List.count_cons]
  have hoD:o∉fpL D:=fun hm=>by have:=ea8.1 hm;have:=ea8.1 hokl;have:=hkA o;have:=hac o;omega
  have hol':o∉fpL l:=fun hm=>by
   have h1:=ea8.1 hm;have h2:=hkc o;have h3:=hkA o;have h4:=hac o
   rw[if_pos (by simp)]at h2;omega
  have hlA: ∀x∈fpL l,x<h.length:=fun x hx=>i1.left.lt x (ea8.2 (by have:=ea8.1 hx;have:=hkA x;have:=hkc x;omega))
  have hrow: ∀x,x<h.length→x≠o→H.row (kill h o++[.row ⟨(row.cells.drop (off+lo'*u)).take (n*u)++D.map AT.val,e,u,true⟩]) x=h.row x:=fun x hx hne=>by
   rw[z45 (by rw[q89];exact hx),zz6 fun e=>hne e.symm]
  have hzo: ∀x,Zp1 x→x≠o:=fun x hx e=>i1.nz o (by rw[xv9];exact List.mem_append_left _ (ea8.2 (by have:=ea8.1 hokl;have:=hkA o;omega))) (e▸i1.zp x hx)
  have hkl:(kill h o).length=h.length:=q89
  obtain⟨A',Z2,Zp2,st⟩:=Step.grow (kn:= .sl h.length 0 (n+m) (n+m) nl e u ((l.drop (lo*u)).take (n*u)++D)) (h':=kill h o++[.row ⟨(row.cells.drop (off+lo'*u)).take (n*u)++D.map AT.val,e,u,true⟩]) i i1 e1 s1 z1 q1 rfl rfl (by simp[hkl])
   (fun x hx hn=>by
     rw[List.getElem?_append_left (by rw[hkl];exact hx)]
     exact zv3 fun e=>hn (e▸hokl))
   (by
     rw[ok]
     refine⟨_,rr6 hkl.symm,rfl,rfl,rfl,q5,by rw[List.length_append,hpl,←hm,Nat.add_mul],Nat.le_refl _,⟨fun e1' e0=> ?_,by show 0+_≤List.length (_++_);rw[List.length_append,hpl,List.length_append,r6,List.length_map,List.length_map,hpl];omega⟩, ?_,ca4.2 ⟨ga5.2 fun c hc=> ?_,okL.keep (fun o ho=> .inl ho) (fun x hx=>hrow x (i1.zlt x (i1.zp x hx)) (hzo x hx)) hokD fun x hx=>hrow x (hDlt x hx) fun e=>hoD (e▸hx)⟩⟩
     ·obtain⟨e2,e3⟩:=q3 e1'
      have:nl0=1:=by
       rcases q2 with q2|q2
       ·rw[←q2];exact e1'
       ·rw[q2]at e1';split at e1'<;>cases e1'
      have h5:=q7 this
      have h6:=congrArg List.length e0
      rw[List.length_append,hpl,e3,List.length_nil]at h6
      exact h5 (List.eq_nil_of_length_eq_zero (by omega))
     ·rw[List.drop_zero,r6,←List.map_append,List.take_of_length_le (by simp)]
     ·have hcl:c∈l:=List.mem_of_mem_drop (List.mem_of_mem_take hc)
      have hfl: ∀x∈c.fp,x∈fpL l:=fun x hx=>by rw[zq7,List.mem_flatMap];exact⟨c,hcl,hx⟩
      exact ok.keep (fun o ho=> .inl ho) (fun x hx=>hrow x (i1.zlt x (i1.zp x hx)) (hzo x hx)) (ga5.1 (by5 rfl hok) c hcl) fun x hx=>hrow x (hlA x (hfl x hx)) fun e=>hol' (e▸hfl x hx))
   (fun x hx=>by
     rw[AT.fp,List.count_cons,if_neg (by simp;omega),xv9,List.count_append,hkc]
     have:=gc1 l (lo*u) (n*u) x;omega)
   (fun x hx=>by
     rw[AT.fp,List.count_cons,xv9,List.count_append]
     have h1:(fpL D).count x=0:=List.count_eq_zero.2 fun hm=>by have:=hDlt x hm;omega
     have h2:(fpL l).count x=0:=List.count_eq_zero.2 fun hm=>by have:=hlA x hm;omega
     have:=gc1 l (lo*u) (n*u) x
     split<;>omega)
   (fun x hx=>by
     rw[AT.fp]at hx
     rw[rl9,hkl]
     rcases List.mem_cons.1 hx with rfl|hx
     ·omega
     ·rw[xv9]at hx
      rcases List.mem_append.1 hx with hx|hx
      ·have:=hlA x (ea8.2 (by have:=ea8.1 hx;have:=gc1 l (lo*u) (n*u) x;omega));omega
      ·have:=hDlt x hx;omega) rfl
  refine⟨_,_,_,_,_,A',Z2,Zp2,rfl, ?_,by simpa [AT.era,hD,nc9,xg5]using st⟩
  unfold aput
  simp only[r1]
  rw[if_pos (by simp[r2,r3,r4,q8,hf];exact r5)]
  rfl
theorem zk4(i:Inv h A Z Zp){s:AV}{ws wx:Value}(hs:VR h A Z Zp s ws){X:VS}(hX:SR h A Z Zp X wx){elem size bytes:Nat}{news:List Tree}{R1:Rts}(hsrc:vsrc (A.map AT.era) size X=some (news,R1)){r:Nat}{p:List Nat}{nl e u:Nat}{cs:List Tree}{lo n:Nat}(hS:vsl R1 s=some (.o r p nl e u cs lo n))(he:e=elem)(hu:u=size)(hf:few (n+news.length/u) bytes=true):
 ∃v h' A' Z' Zp',aapp elem size bytes h ws wx=some (v,h')∧Step h A Z Zp (some (.own R1.length []),rset R1 r p .junk++[.sl nl e u ((cs.drop (lo*u)).take (n*u)++news)],some []) (some v) h' A' Z' Zp':=by
 obtain⟨A1,D,Z1,Zp1,m,b,d,rfl,hD,rfl,hm,hsc,i1,e1,s1,z1,l1⟩:=yj8 i hX hsrc
 obtain⟨sa,n1,c1,v,h',A',Z',Zp',rfl,g1,g2⟩:=nu6 (elem:=elem) i hs hD hm i1 e1 s1 z1 hS he hu hf
 exact⟨v,h',A',Z',Zp',by unfold aapp;simp only[hsc,g1],g2⟩
theorem bb3(i:Inv h A Z Zp)(m:Nat): ∃D Z1 Zp1,eraL D=repT [.v (.int .i64 0)] m∧D.map AT.val=List.replicate m (.int .i64 0)∧m*1=D.length∧Inv h (A++D) Z1 Zp1∧Ext h A Zp h (A++D) Zp1∧(∀o,Z o→Z1 o):=by
 have hr: ∀m:Nat,eraL (List.replicate m (AT.v (.int .i64 0)))=repT [.v (.int .i64 0)] m:=by
  intro m
  induction m with
  |zero=>rfl
  |succ m ih=>rw[List.replicate_succ,repT,←ih];simp[dk4,AT.era]
 have hD:fpL (List.replicate m (AT.v (.int .i64 0)))=[]:=by
  rw[zq7,List.flatMap_eq_nil_iff]
  intro t ht
  rw[List.eq_of_mem_replicate ht];exact v_fp _
 have hk:okL h Zp (List.replicate m (AT.v (.int .i64 0))):=ga5.2 fun t ht=>by
  rw[List.eq_of_mem_replicate ht,ok];trivial
 obtain⟨i1,e1⟩:=Inv.new (h':=h) (A:=A) (C:=[]) (N:=List.replicate m (AT.v (.int .i64 0))) (Zx:=fun _=>False) (by rw[List.append_nil];exact i) (Nat.le_refl _) (fun _ _=>rfl) (okL.keep (fun o ho=> .inl ho) (fun _ _=>rfl) hk fun _ _=>rfl) (fun x _=>by rw[hD];simp) (fun x _=>by rw[hD];simp) (fun o ho=>by rw[hD]at ho;cases ho) (fun o ho=>ho.elim)
 rw[List.append_nil]at e1
 exact⟨_,_,_,hr m,by rw[List.map_replicate];rfl,by simp,i1,e1,fun o ho=> .inl ho⟩
theorem v74(t:Tree): ∀m,(repT [t] m).length=m
 |0=>rfl
 |m+1=>by rw[repT,List.length_append,v74 t m];simp;omega
theorem c39(i:Inv h A Z Zp){s:AV}{ws:Value}(hs:VR h A Z Zp s ws){elem bytes m:Nat}{r:Nat}{p:List Nat}{nl e u:Nat}{cs:List Tree}{lo n:Nat}(hS:vsl (A.map AT.era) s=some (.o r p nl e u cs lo n))(he:e=elem)(hu:u=1)(hf:few (n+m) bytes=true):
 ∃sa n1 c1 v h' A' Z' Zp',ws= .slice sa n1 c1∧aput elem 1 bytes h sa n1 c1 m (List.replicate m (.int .i64 0))=some (v,h')∧Step h A Z Zp (some (.own (A.map AT.era).length []),rset (A.map AT.era) r p .junk++[.sl nl e u ((cs.drop (lo*u)).take (n*u)++repT [.v (.int .i64 0)] m)],some []) (some v) h' A' Z' Zp':=by
 obtain⟨D,Z1,Zp1,hD,hv,hm,i1,e1,z1⟩:=bb3 i m
 rw[←hv]
 exact nu6 i hs hD hm i1 e1 (Stab.refl _ _) z1 hS he hu (by rw[hu,Nat.div_one,v74];exact hf)
end
end Go.Vm
namespace Go.Vm
open Go.Am
theorem cb1{h h':H}{o:Nat}(hp:h<+:h')(ho:o<h.length):h'[o]? =h[o]? :=by
 obtain⟨t,rfl⟩:=hp
 exact List.getElem?_append_left ho
theorem nv6(l:List Value):(l.map AT.v).map AT.val=l:=by
 rw[List.map_map]
 conv=>rhs;rw[←List.map_id l]
 rfl
section
variable {h:H} {A:List AT} {Z Zp:Nat→Prop} {fr:VFr} {f:Fr}
theorem Step.fresh(i:Inv h A Z Zp){A1 D:List AT}{Z1 Zp1:Nat→Prop}(i1:Inv h (A1++D) Z1 Zp1)(e1:Ext h A Zp h (A1++D) Zp1)(s1:Stab A A1 [])(z1: ∀o,Z o→Z1 o){kn:AT}{h':H}(hp:h<+:h')
 (hok:ok h' (fun o=>Zp1 o∨False) kn) (hc: ∀x,x<h.length→kn.fp.count x≤(fpL D).count x) (hd: ∀x,h.length≤x→kn.fp.count x≤1) (hb: ∀o∈kn.fp,o<h'.length) {ks:Option (List Nat)} (hks:ks=none→A1=A):
 ∃A' Z2 Zp2,Step h A Z Zp (some (.own A1.length []),A1.map AT.era++[kn.era],ks) (some kn.val) h' A' Z2 Zp2:=by
 obtain⟨i2,e2⟩:=Inv.new (A:=A1) (C:=D) (N:=[kn]) (Zx:=fun _=>False) i1 hp.length_le (fun o ho=>cb1 hp ho) (vd4.2 hok) (fun x hx=>by rw[zr4];exact hc x hx) (fun x hx=>by rw[zr4];exact hd x hx) (fun o ho=>by rw[zr4]at ho;exact hb o ho) (fun o ho=>ho.elim)
 refine⟨A1++[kn],_,_,by simp,i2,e1.trans e2,(s1.app [kn]).weak (fun r hr=>by cases hr),fun o ho=> .inl (z1 o ho), ?_,fun hn=>⟨hp,[kn],by rw[hks hn]⟩⟩
 show VR _ _ _ _ (.own A1.length []) kn.val
 rw[VR]
 refine⟨by simp,fun b hb _=> ?_⟩
 unfold aget at hb
 rw[List.getElem?_append_right (Nat.le_refl _),Nat.sub_self]at hb
 cases hb
 rfl
theorem e47(i:Inv h A Z Zp){A1 D:List AT}{Z1 Zp1:Nat→Prop}(i1:Inv h (A1++D) Z1 Zp1)(e1:Ext h A Zp h (A1++D) Zp1)(s1:Stab A A1 [])(z1: ∀o,Z o→Z1 o){kn:AT}{row:Row}(hfp:kn.fp=h.length::fpL D)
 (hok:okL (h++[.row row]) (fun o=>Zp1 o∨False) D→ok (h++[.row row]) (fun o=>Zp1 o∨False) kn) {ks:Option (List Nat)} (hks:ks=none→A1=A):
 ∃A' Z2 Zp2,Step h A Z Zp (some (.own A1.length []),A1.map AT.era++[kn.era],ks) (some kn.val) (h++[.row row]) A' Z2 Zp2:=by
 have hDlt: ∀o∈fpL D,o<h.length:=fun o ho=>i1.lt o (by rw[xv9];simp[ho])
 refine Step.fresh i i1 e1 s1 z1 (List.prefix_append _ _) (hok (okL.keep (fun o ho=> .inl ho) (fun o ho=>z45 (i1.zlt o (i1.zp o ho))) (ca4.1 i1.okA).2 fun o ho=>z45 (hDlt o ho))) (fun x hx=> ?_) (fun x hx=> ?_) (fun x hx=> ?_) hks
 ·rw[hfp,List.count_cons,if_neg (by simp;omega)];exact Nat.le_refl _
 ·have:(fpL D).count x=0:=List.count_eq_zero.2 fun hm=>by have:=hDlt x hm;omega
  rw[hfp,List.count_cons,this];split<;>omega
 ·rw[hfp]at hx
  rw[rl9]
  rcases List.mem_cons.1 hx with rfl|hx
  ·omega
  ·have:=hDlt x hx;omega
theorem qe2(i:Inv h A Z Zp){A1 D:List AT}{Z1 Zp1:Nat→Prop}{m:Nat}{elem size bytes:Nat}{news:List Tree}(hD:eraL D=news)(hm:m*size=D.length)(i1:Inv h (A1++D) Z1 Zp1)(e1:Ext h A Zp h (A1++D) Zp1)(s1:Stab A A1 [])(z1: ∀o,Z o→Z1 o)(hu:size≠0)(hf:few (news.length/size) bytes=true):
 ∃v h' A' Z' Zp',aput elem size bytes h none 0 0 m (D.map AT.val)=some (v,h')∧Step h A Z Zp (some (.own (A1.map AT.era).length []),A1.map AT.era++[.sl 1 elem size news],some []) (some v) h' A' Z' Zp':=by
 have hlm:news.length/size=m:=ga3 (bytes:=bytes) (n:=0) (by omega) hm hD
 rw[hlm]at hf
 rw[List.length_map]
 by_cases hm0:m=0
 ·subst hm0
  obtain rfl:D=[]:=List.eq_nil_of_length_eq_zero (by rw[←hm];simp)
  cases hD
  obtain⟨A',Z2,Zp2,st⟩:=Step.fresh (kn:= .nil 1 elem size) (h':=h) (ks:=some []) i i1 e1 s1 z1 (List.prefix_refl _) (by rw[ok];exact⟨by decide,by omega⟩) (fun x _=>by rw[uu7];simp) (fun x _=>by rw[uu7];simp) (fun o ho=>by rw[uu7]at ho;cases ho) (fun h=>by cases h)
  refine⟨_,h,A',Z2,Zp2, ?_,by simpa [AT.era,eraL]using st⟩
  unfold aput
  simp
  rfl
 ·obtain⟨A',Z2,Zp2,st⟩:=e47 (kn:= .sl h.length 0 m m 1 elem size D) (row:=⟨D.map AT.val,elem,size,true⟩) (ks:=some []) i i1 e1 s1 z1 (by rw[AT.fp]) (fun hk=>by
   rw[ok]
   refine⟨_,cv8,rfl,rfl,rfl,by omega,hm,Nat.le_refl _,⟨fun _ e0=>hm0 ?_,by simp⟩,by rw[List.drop_zero,List.take_of_length_le (by simp)],hk⟩
   rw[e0]at hm
   rcases Nat.mul_eq_zero.1 hm with h1|h1
   ·exact h1
   ·omega) (fun h=>by cases h)
  refine⟨_,_,A',Z2,Zp2, ?_,by simpa [AT.era,hD]using st⟩
  unfold aput
  simp only[]
  rw[if_pos (by simp),if_neg hm0,if_pos hf];rfl
theorem qk7(i:Inv h A Z Zp){wx:Value}{X:VS}(hX:SR h A Z Zp X wx){elem size bytes:Nat}{news:List Tree}{R1:Rts}(hsrc:vsrc (A.map AT.era) size X=some (news,R1))(hu:size≠0)(hf:few (news.length/size) bytes=true):
 ∃v h' A' Z' Zp',aapp elem size bytes h (.slice none 0 0) wx=some (v,h')∧Step h A Z Zp (some (.own R1.length []),R1++[.sl 1 elem size news],some []) (some v) h' A' Z' Zp':=by
 obtain⟨A1,D,Z1,Zp1,m,b,d,rfl,hD,rfl,hm,hsc,i1,e1,s1,z1,l1⟩:=yj8 i hX hsrc
 obtain⟨v,h',A',Z',Zp',g1,g2⟩:=qe2 (elem:=elem) (bytes:=bytes) i hD hm i1 e1 s1 z1 hu hf
 exact⟨v,h',A',Z',Zp',by unfold aapp;simp only[hsc,g1],g2⟩
theorem uk9(i:Inv h A Z Zp){elem bytes m:Nat}(hf:few m bytes=true):
 ∃v h' A' Z' Zp',aput elem 1 bytes h none 0 0 m (List.replicate m (.int .i64 0))=some (v,h')∧Step h A Z Zp (some (.own (A.map AT.era).length []),A.map AT.era++[.sl 1 elem 1 (repT [.v (.int .i64 0)] m)],some []) (some v) h' A' Z' Zp':=by
 obtain⟨D,Z1,Zp1,hD,hv,hm,i1,e1,z1⟩:=bb3 i m
 rw[←hv]
 exact qe2 i hD hm i1 e1 (Stab.refl _ _) z1 (by decide) (by rw[Nat.div_one,v74];exact hf)
theorem wd9: ∀{t:Tree} {cs:List Tree},t.kids=some cs→t.setKids cs=t
 | .sl _ _ _ _,cs,h=>by cases h;rfl
 | .pt _ _,cs,h=>by cases h;rfl
 | .v _,cs,h=>by cases h
 | .fn _ _,cs,h=>by cases h
 | .fz _,cs,h=>by cases h
 | .junk,cs,h=>by cases h
 | .ex _,cs,h=>by cases h
theorem e62: ∀{p:List Nat} {t s:Tree},t.get p=some s→t.upd p s=t
 | [],t,s,h=>by cases h;rfl
 |i::p,t,s,h=>by
  simp only[Tree.get,Tree.upd]at h⊢
  cases hk:t.kids with
  |none=>rfl
  |some cs=>
   rw[hk]at h
   simp only[]at h⊢
   cases hc:cs[i]? with
   |none=>rfl
   |some c=>
    rw[hc]at h
    simp only[]
    rw[e62 h]
    have:cs.set i c=cs:=by
     obtain⟨h1,h2⟩:=List.getElem?_eq_some_iff.1 hc
     rw[←h2];exact List.set_getElem_self h1
    rw[this,wd9 hk]
theorem by7{R:Rts}{r:Nat}{p:List Nat}{s:Tree}(h:rget R r p=some s):rset R r p s=R:=by
 unfold rget at h
 unfold rset
 cases hr:R[r]? with
 |none=>rfl
 |some t=>
  rw[hr]at h
  simp only[]at h⊢
  rw[e62 h]
  obtain⟨h1,h2⟩:=List.getElem?_eq_some_iff.1 hr
  rw[←h2];exact List.set_getElem_self h1
theorem qe9(i:Inv h A Z Zp){S:VS}{ws:Value}(hS:SR h A Z Zp S ws){size:Nat}(hu:S.unit size=size)(hs:size≠0)(hv:S.part.all isV=true): ∃vs b m d,ws= .slice b m d∧m*size=S.part.length∧S.part=vs.map Tree.v∧b38 h size m ws=some vs:=by
 have pure: ∀{ts:List Tree},ts.all isV=true→ ∃vs:List Value,ts=vs.map Tree.v:=fun{ts} hv=>by
  induction ts with
  |nil=>exact⟨[],rfl⟩
  |cons t ts ih=>
   rw[List.all_cons,Bool.and_eq_true]at hv
   obtain⟨vs,rfl⟩:=ih hv.2
   cases t with
   |v x=>exact⟨x::vs,rfl⟩
   |_=>simp[isV]at hv
 obtain⟨vs,hvs⟩:=pure hv
 cases S with
 |nil=>
  cases hS
  refine⟨[],none,0,0,rfl,by simp[VS.part,jp2],rfl,rfl⟩
 |f b nl u cs=>
  have hu:u=size:=hu
  subst hu
  obtain⟨e,hx⟩:=hS
  rw[Rd]at hx
  have hvs:cs=vs.map Tree.v:=hvs
  rcases hx with⟨rfl,_,hu0,rfl⟩|⟨o,off,n,c,row,rfl,x2,x3,x4,x5,x6,x7,x8,x9⟩
  ·exact⟨[],none,0,0,rfl,by simp[VS.part,jp2],rfl,rfl⟩
  ·have hd:(row.cells.drop off).take cs.length=vs:=by
    obtain⟨l1,l2⟩:=xo1.1 x9
    refine List.ext_getElem? fun j=> ?_
    by_cases hj:j<cs.length
    ·have hj2:j<vs.length:=by rw[hvs]at hj;simpa using hj
     have h1:cs[j]? =some (.v vs[j]):=by
      subst hvs
      rw[List.getElem?_map,List.getElem?_eq_getElem hj2];rfl
     have h2:((row.cells.drop off).take cs.length)[j]? =some (((row.cells.drop off).take cs.length)[j]'(by omega)):=List.getElem?_eq_getElem (by omega)
     have h3:=l2 j _ _ h1 h2
     rw[Rd]at h3
     rw[h2,h3]
     rw[List.getElem?_eq_getElem]
    ·rw[List.getElem?_eq_none (by omega),List.getElem?_eq_none (by rw[hvs]at hj;simpa using hj)]
   refine⟨vs,_,n,c,rfl,x6,hvs,pd7 x5 x3 (by rw[x6];exact hd) (by rw[x6,hvs];simp)⟩
 |o r p nl e u cs lo n=>
  have hu:u=size:=hu
  subst hu
  obtain⟨k,nl0,q1,q2,q3,q4,q5,q6⟩:=hS
  rcases q6 with⟨rfl,rfl,rfl,rfl,_,rfl⟩|⟨o,off,n0,c0,l,lo',c',rfl,rfl,q7,rfl,q8,q9',q9⟩
  ·exact⟨[],none,0,0,rfl,by simp[VS.part,jp2],by simp[VS.part,jp2],rfl⟩
  ·have hok:=lw8 i q1
   rw[i47]at q4
   obtain⟨row,r1,r2,r3,r4,r5,r6⟩:=jk2 hok q4 q9' q9
   have hseg:lo*u+n*u≤l.length:=by rw[←Nat.add_mul];exact q4
   have hpl:((l.drop (lo*u)).take (n*u)).length=n*u:=sx8 hseg
   have hvs':eraL ((l.drop (lo*u)).take (n*u))=vs.map Tree.v:=by rw[xg5];rw[←hvs];simp only[VS.part,jp2]
   have hval:((l.drop (lo*u)).take (n*u)).map AT.val=vs:=by
    generalize (l.drop (lo*u)).take (n*u)=D at hvs'
    clear hvs hpl r6
    induction D generalizing vs with
    |nil=>cases vs with
     |nil=>rfl
     |cons=>cases hvs'
    |cons c D ih=>cases vs with
     |nil=>cases hvs'
     |cons v vs=>
      rw[eraL,List.map_cons,List.cons.injEq]at hvs'
      rw[List.map_cons,ih vs hvs'.2]
      congr 1
      cases c<;>first|(cases hvs'.1;done)|skip
      have:=hvs'.1
      rw[AT.era]at this;cases this;rfl
   refine⟨vs,_,n,c',rfl,by rw[show(VS.o r p nl e u (eraL l) lo n).part=_ from rfl];simp only[VS.part,jp2];rw[←xg5,i47,hpl],hvs,pd7 q5 r1 (by rw[r6,hval]) (by rw[←hval,List.length_map,hpl])⟩
theorem wt9(i:Inv h A Z Zp){wd ws:Value}{r:Nat}{p:List Nat}{nl e u:Nat}{cs:List Tree}{lo n:Nat}(hD:SR h A Z Zp (.o r p nl e u cs lo n) wd){S:VS}(hS:SR h A Z Zp S ws){size:Nat}(hu:u=size)(hv:S.part.all isV=true)(hu2:S.unit size=size){t:Tree}(ht:rget (A.map AT.era) r p=some t):
 ∃v h' A' Z' Zp',acpy size h wd ws=some (v,h')∧Step h A Z Zp (some (.x (.int .i64 (min (S.part.length/size) n:Nat))),rset (A.map AT.era) r p (t.setKids (setL cs (lo*u) (S.part.take (n*u)))),some []) (some v) h' A' Z' Zp':=by
 subst hu
 obtain⟨k,nl0,q1,q2,q3,q4,q5,q6⟩:=hD
 obtain⟨vs,b,m,d,rfl,hm,hp,hsc⟩:=qe9 i hS hu2 (by omega) hv
 have hlm:S.part.length/u=m:=by rw[←hm,Nat.mul_div_cancel _ q5]
 rw[hlm]
 have hk2:t=k.era:=by rw[p00,q1]at ht;cases ht;rfl
 have hkk:t.kids=some cs:=by
  rw[hk2]
  rcases q6 with⟨rfl,rfl,_⟩|⟨o,off,n0,c0,l,lo',c',rfl,rfl,_⟩<;>rfl
 by_cases h0:min m n=0
 ·have hx:setL cs (lo*u) (S.part.take (n*u))=cs:=by
   have:S.part.take (n*u)=[]:=by
    rcases Nat.le_total m n with hmn|hmn
    ·have:m=0:=by omega
     have:S.part=[]:=List.eq_nil_of_length_eq_zero (by rw[←hm,this];simp)
     rw[this];simp
    ·have:n=0:=by omega
     rw[this];simp
   rw[this];rfl
  rw[hx,wd9 hkk,by7 ht,h0]
  refine⟨.int .i64 0,h,A,Z,Zp, ?_,⟨rfl,i,Ext.refl _ _ _,Stab.refl _ _,fun _ ho=>ho,by show VR _ _ _ _ (.x _) _;rw[VR];rfl,fun hn=>by cases hn⟩⟩
  have hsc0:b38 h u 0 (.slice b m d)=some []:=by unfold b38;simp
  rcases q6 with⟨_,_,_,_,_,rfl⟩|⟨o,off,n0,c0,l,lo',c',_,_,_,rfl,_⟩
  ·unfold acpy
   simp only[Nat.min_zero,hsc0];rfl
  ·unfold acpy
   simp only[h0,hsc0];rfl
 ·rcases q6 with⟨_,_,e0,_⟩|⟨o,off,n0,c0,l,lo',c',rfl,rfl,q7,rfl,q8,q9',q9⟩
  ·omega
  ·have hn0:0<n:=by omega
   have hlo:=q9 hn0
   subst hlo
   have hsc2:b38 h u (min m n) (.slice b m d)=some (vs.take (n*u)):=by
    unfold b38 at hsc⊢
    simp only[]at hsc⊢
    rw[if_neg (by omega),if_pos (by omega)]
    rw[if_neg (by omega),if_pos (Nat.le_refl _)]at hsc
    cases b with
    |none=>cases hsc
    |some b=>
     simp only[]at hsc⊢
     split at hsc
     ·rw[if_pos ‹_›]
      unfold H.lds at hsc⊢
      split at hsc
      ·split at hsc
       ·cases hsc
        have:min m n*u≤m*u:=Nat.mul_le_mul_right u (Nat.min_le_left _ _)
        rw[if_pos (by omega)]
        rw[List.take_take]
        congr 2
        rcases Nat.le_total m n with hmn|hmn
        ·rw[Nat.min_eq_left hmn]
         have:m*u≤n*u:=Nat.mul_le_mul_right u hmn
         omega
        ·rw[Nat.min_eq_right hmn]
         have:n*u≤m*u:=Nat.mul_le_mul_right u hmn
         omega
       ·cases hsc
      ·cases hsc
     ·cases hsc
   --the cells in hand
   have hDf:fpL ((vs.take (n*u)).map AT.v)=[]:=by rw[zq7,List.flatMap_map,List.flatMap_eq_nil_iff];intro v _;exact v_fp _
   have hDe:eraL ((vs.take (n*u)).map AT.v)=S.part.take (n*u):=by rw[dk4,List.map_map,hp,←List.map_take];rfl
   obtain⟨i1,e1⟩:=Inv.new (h':=h) (A:=A) (C:=[]) (N:=(vs.take (n*u)).map AT.v) (Zx:=fun _=>False) (by rw[List.append_nil];exact i) (Nat.le_refl _) (fun _ _=>rfl) (ga5.2 fun a ha=>by obtain⟨v,_,rfl⟩:=List.mem_map.1 ha;rw[ok];trivial) (fun x _=>by rw[hDf];simp) (fun x _=>by rw[hDf];simp) (fun o ho=>by rw[hDf]at ho;cases ho) (fun o ho=>ho.elim)
   rw[List.append_nil]at e1
   have hvl:vs.length=m*u:=by rw[hm,hp];simp
   have hne:(vs.take (n*u)).map AT.v≠[]:=by
    intro e
    have:=congrArg List.length e
    rw[List.length_map,List.length_take,hvl,List.length_nil]at this
    have h1:0<n*u:=Nat.mul_pos hn0 q5
    have h2:0<m*u:=Nat.mul_pos (by omega) q5
    omega
   rw[i47]at q4
   have hlen2:lo'*u+(S.part.take (n*u)).length≤(eraL l).length:=by
    rw[i47,List.length_take]
    rw[Nat.add_mul]at q4;omega
   have hw:z26 (A.map AT.era) r p (lo'*u) (eraL ((vs.take (n*u)).map AT.v))=some (rset (A.map AT.era) r p (t.setKids (setL (eraL l) (lo'*u) (S.part.take (n*u))))):=by
    unfold z26
    rw[ht]
    simp only[hkk]
    rw[hDe,if_pos hlen2]
   have hcell:VR h A (fun o=>Z o∨False) (fun o=>Zp o∨False) (.cell r p (lo'*u)) (.pointer (some ⟨o,off+lo'*u,none⟩)):=by
    rw[VR]
    exact⟨vs7 q1,fun b hb _=>by rw[q1]at hb;cases hb;rfl⟩
   obtain⟨o2,off2,h',A2,w1,w2,w3,⟨Z2,Zp2,i2,e2,z2⟩,w5⟩:=dp1 i1 (ws:=vs.take (n*u)) (nv6 _) hne hcell hw
   cases w1
   refine⟨.int .i64 (min m n:Nat),h',A2,Z2,Zp2, ?_,⟨w3,i2,e1.trans e2, ?_,fun o ho=>z2 o (.inl ho),by show VR _ _ _ _ (.x _) _;rw[VR],fun hn=>by cases hn⟩⟩
   ·unfold acpy
    simp only[hsc2]
    rw[if_neg h0]
    simp only[cv9,if_true,w2]
   ·rw[hDe,if_pos (List.all_eq_true.2 fun x hx=>List.all_eq_true.1 hv x (List.mem_of_mem_take hx))]at w5
    exact w5
end
end Go.Vm
namespace Go.Vm
open Go.Am
section
variable {h:H} {A:List AT} {Z Zp:Nat→Prop} {fr:VFr} {f:Fr}
theorem xi7{o off lo' u lo n0 c:Nat}{l1 h1:Int}(hc:n0≤c)(hl:lo'≤lo)(hl2:0<n0→lo'=lo)(h0:0≤l1)(h2:l1≤h1)(h3:h1≤n0):
 ∃lo2,(if(c:Int)=l1 then(some ⟨o,off+lo'*u,none⟩:Option Addr)else(some ⟨o,off+lo'*u,none⟩:Option Addr).map fun a=>⟨a.block,a.off+l1.toNat*u,none⟩)=some ⟨o,off+lo2*u,none⟩∧lo2≤lo+l1.toNat∧(0<(h1-l1).toNat→lo2=lo+l1.toNat):=by
 by_cases hcl:(c:Int)=l1
 ·rw[if_pos hcl]
  exact⟨lo',rfl,by omega,fun _=>by omega⟩
 ·rw[if_neg hcl]
  refine⟨lo'+l1.toNat,by simp[Nat.add_mul,Nat.add_assoc],by omega,fun hp=> ?_⟩
  rw[hl2 (by omega)]
theorem ec5{o:Nat}{off size:Nat}{row:Row}(hr:h.row o=some row)(hu:row.own=true→row.unit=size):ss4 h size (some ⟨o,off,none⟩)=true:=by
 unfold ss4
 simp only[hr]
 cases ho:row.own with
 |false=>rfl
 |true=>simp[hu ho]
theorem dw7(i:Inv h A Z Zp){r:Nat}{p:List Nat}{nl e u:Nat}{cs:List Tree}{lo0 n0:Nat}{w:Value}(hS:SR h A Z Zp (.o r p nl e u cs lo0 n0) w){l1 h1:Int}(h0:0≤l1)(h2:l1≤h1)(h3:h1≤n0):
 ∃a c,w= .slice a n0 c∧h1≤c∧ss4 h u a=true∧VR h A Z Zp (.sub r p u (lo0+l1.toNat) (h1-l1).toNat) (.slice (if(c:Int)=l1 then a else a.map fun a=>⟨a.block,a.off+l1.toNat*u,none⟩) (h1-l1).toNat (c-l1).toNat):=by
 obtain⟨k,nl0,q1,q2,q3,q4,q5,q6⟩:=hS
 rcases q6 with⟨rfl,rfl,rfl,rfl,_,rfl⟩|⟨o,off,n1,c0,l,lo',c',rfl,rfl,q7,rfl,q8,q9',q9⟩
 ·obtain rfl:l1=0:=by omega
  obtain rfl:h1=0:=by omega
  refine⟨none,0,rfl,by omega,rfl, ?_⟩
  rw[VR]
  refine⟨vs7 q1,fun b hb _=> ?_⟩
  rw[q1]at hb;cases hb
  exact⟨rfl,rfl⟩
 ·have hok:=lw8 i q1
  rw[ok]at hok
  obtain⟨row,k1,k2,k3,k4,k5,k6,k7,k8,k9,k10⟩:=hok
  obtain⟨lo2,g1,g2,g3⟩:=xi7 (o:=o) (off:=off) (u:=u) q8 q9' q9 h0 h2 h3
  refine⟨_,c',rfl,by omega,ec5 k1 fun _=>k4, ?_⟩
  rw[g1,VR]
  refine⟨vs7 q1,fun b hb _=> ?_⟩
  rw[q1]at hb;cases hb
  exact⟨lo2,_,rfl,by omega,g2,g3⟩
theorem uu3(i:Inv h A Z Zp){r:Nat}{p:List Nat}{nl e u:Nat}{cs:List Tree}{lo0 n0:Nat}{w:Value}(hS:SR h A Z Zp (.o r p nl e u cs lo0 n0) w){l1 h1:Int}(h0:0≤l1)(h2:l1≤h1)(h3:h1≤n0):
 ∃a c A' Z' Zp',w= .slice a n0 c∧h1≤c∧ss4 h u a=true∧Step h A Z Zp (some (.own (A.map AT.era).length []),rset (A.map AT.era) r p .junk++[.sl (if nl=0 then 0 else 2) e u ((cs.drop ((lo0+l1.toNat)*u)).take ((h1-l1).toNat*u))],some []) (some (.slice (if(c:Int)=l1 then a else a.map fun a=>⟨a.block,a.off+l1.toNat*u,none⟩) (h1-l1).toNat (c-l1).toNat)) h A' Z' Zp':=by
 have i':Inv h (A++[]) Z Zp:=by rw[List.append_nil];exact i
 have e':Ext h A Zp h (A++[]) Zp:=by rw[List.append_nil];exact Ext.refl _ _ _
 rw[List.length_map]
 obtain⟨k,nl0,q1,q2,q3,q4,q5,q6⟩:=hS
 rcases q6 with⟨rfl,rfl,rfl,rfl,hn0,rfl⟩|⟨o,off,n1,c0,l,lo',c',rfl,rfl,q7,rfl,q8,q9',q9⟩
 ·obtain rfl:l1=0:=by omega
  obtain rfl:h1=0:=by omega
  have hnl: ¬nl=0:=by
   rcases q2 with rfl|rfl
   ·exact hn0
   ·rw[if_neg hn0];decide
  obtain⟨A',Z2,Zp2,st⟩:=Step.grow (kn:= .nil 2 e u) (h':=h) i i' e' (Stab.refl _ _) (fun _ ho=>ho) q1 rfl rfl (Nat.le_refl _) (fun _ _ _=>rfl) (by rw[ok];exact⟨by decide,q5⟩) (fun x _=>by rw[uu7];simp) (fun x _=>by rw[uu7];simp) (fun o ho=>by rw[uu7]at ho;cases ho) rfl
  rw[if_neg hnl]
  exact⟨none,0,A',Z2,Zp2,rfl,by omega,rfl,by simpa [AT.era,AT.val]using st⟩
 ·have hok:=lw8 i q1
  have hok0:=hok
  rw[ok]at hok
  obtain⟨row,k1,k2,k3,k4,k5,k6,k7,k8,k9,k10⟩:=hok
  obtain⟨lo2,g1,g2,g3⟩:=xi7 (o:=o) (off:=off) (u:=u) q8 q9' q9 h0 h2 h3
  rw[i47]at q4
  have hle:(lo0+l1.toNat+(h1-l1).toNat)*u≤l.length:=Nat.le_trans (Nat.mul_le_mul_right u (by omega)) q4
  obtain⟨row',r1,r2,r3,r4,r5,r6⟩:=jk2 hok0 hle g2 g3
  rw[k1]at r1;cases r1
  have hseg:(lo0+l1.toNat)*u+(h1-l1).toNat*u≤l.length:=by rw[←Nat.add_mul];exact hle
  have hpl:=sx8 hseg
  have hkA: ∀x,(AT.sl o off n1 c0 nl0 e u l).fp.count x≤(fpL A).count x:=fun x=>bm6 x q1
  have hcnt: ∀x,(AT.sl o (off+lo2*u) (h1-l1).toNat (c'-l1).toNat (if nl=0 then 0 else 2) e u ((l.drop ((lo0+l1.toNat)*u)).take ((h1-l1).toNat*u))).fp.count x≤(AT.sl o off n1 c0 nl0 e u l).fp.count x:=fun x=>by
   rw[AT.fp,AT.fp,List.count_cons,List.count_cons]
   have:=gc1 l ((lo0+l1.toNat)*u) ((h1-l1).toNat*u) x
   omega
  obtain⟨A',Z2,Zp2,st⟩:=Step.grow (kn:= .sl o (off+lo2*u) (h1-l1).toNat (c'-l1).toNat (if nl=0 then 0 else 2) e u ((l.drop ((lo0+l1.toNat)*u)).take ((h1-l1).toNat*u))) (h':=h) i i' e' (Stab.refl _ _) (fun _ ho=>ho) q1 rfl rfl (Nat.le_refl _) (fun _ _ _=>rfl)
   (by
     rw[ok]
     refine⟨row,k1,r2,r3,r4,k5,hpl.symm,by omega,⟨fun e1=>(by split at e1<;>cases e1),by rw[hpl];exact r5⟩,by rw[hpl];exact r6,ga5.2 fun c hc=> ?_⟩
     exact ok.keep (fun o ho=> .inl ho) (fun _ _=>rfl) (ga5.1 k10 c (List.mem_of_mem_drop (List.mem_of_mem_take hc))) fun _ _=>rfl)
   (fun x _=>by have:=hcnt x;omega) (fun x _=>by have:=hcnt x;have:=hkA x;have:=i.nd x;omega) (fun x hx=>i.lt x (ea8.2 (by have:=ea8.1 hx;have:=hcnt x;have:=hkA x;omega))) rfl
  refine⟨_,c',A',Z2,Zp2,rfl,by omega,ec5 k1 fun _=>k4, ?_⟩
  rw[g1]
  simpa [AT.era,AT.val,xg5]using st
theorem n54(i:Inv h A Z Zp){r:Nat}{p:List Nat}{nl e u:Nat}{cs:List Tree}{lo0 n0:Nat}{w:Value}(hS:SR h A Z Zp (.o r p nl e u cs lo0 n0) w){m1 m2:Int}(h0:0≤m1)(h2:m1≤m2)(h3:m2≤n0):
 ∃a c A' Z' Zp',w= .slice a n0 c∧m2≤c∧Step h A Z Zp (some (.own (A.map AT.era).length []),rset (A.map AT.era) r p .junk++[.sl (if nl=0 then 0 else 2) e u ((cs.drop (lo0*u)).take (m1.toNat*u))],some []) (some (.slice a m1.toNat m2.toNat)) h A' Z' Zp':=by
 have i':Inv h (A++[]) Z Zp:=by rw[List.append_nil];exact i
 have e':Ext h A Zp h (A++[]) Zp:=by rw[List.append_nil];exact Ext.refl _ _ _
 rw[List.length_map]
 obtain⟨k,nl0,q1,q2,q3,q4,q5,q6⟩:=hS
 rcases q6 with⟨rfl,rfl,rfl,rfl,hn0,rfl⟩|⟨o,off,n1,c0,l,lo',c',rfl,rfl,q7,rfl,q8,q9',q9⟩
 ·obtain rfl:m1=0:=by omega
  obtain rfl:m2=0:=by omega
  have hnl: ¬nl=0:=by
   rcases q2 with rfl|rfl
   ·exact hn0
   ·rw[if_neg hn0];decide
  obtain⟨A',Z2,Zp2,st⟩:=Step.grow (kn:= .nil 2 e u) (h':=h) i i' e' (Stab.refl _ _) (fun _ ho=>ho) q1 rfl rfl (Nat.le_refl _) (fun _ _ _=>rfl) (by rw[ok];exact⟨by decide,q5⟩) (fun x _=>by rw[uu7];simp) (fun x _=>by rw[uu7];simp) (fun o ho=>by rw[uu7]at ho;cases ho) rfl
  rw[if_neg hnl]
  exact⟨none,0,A',Z2,Zp2,rfl,by omega,by simpa [AT.era,AT.val]using st⟩
 ·have hok:=lw8 i q1
  have hok0:=hok
  rw[ok]at hok
  obtain⟨row,k1,k2,k3,k4,k5,k6,k7,k8,k9,k10⟩:=hok
  rw[i47]at q4
  have hle:(lo0+m1.toNat)*u≤l.length:=Nat.le_trans (Nat.mul_le_mul_right u (by omega)) q4
  obtain⟨row',r1,r2,r3,r4,r5,r6⟩:=jk2 (lo:=lo0) (n:=m1.toNat) hok0 hle q9' (fun hp=>q9 (by omega))
  rw[k1]at r1;cases r1
  have hseg:lo0*u+m1.toNat*u≤l.length:=by rw[←Nat.add_mul];exact hle
  have hpl:=sx8 hseg
  have hkA: ∀x,(AT.sl o off n1 c0 nl0 e u l).fp.count x≤(fpL A).count x:=fun x=>bm6 x q1
  have hcnt: ∀x,(AT.sl o (off+lo'*u) m1.toNat m2.toNat (if nl=0 then 0 else 2) e u ((l.drop (lo0*u)).take (m1.toNat*u))).fp.count x≤(AT.sl o off n1 c0 nl0 e u l).fp.count x:=fun x=>by
   rw[AT.fp,AT.fp,List.count_cons,List.count_cons]
   have:=gc1 l (lo0*u) (m1.toNat*u) x
   omega
  obtain⟨A',Z2,Zp2,st⟩:=Step.grow (kn:= .sl o (off+lo'*u) m1.toNat m2.toNat (if nl=0 then 0 else 2) e u ((l.drop (lo0*u)).take (m1.toNat*u))) (h':=h) i i' e' (Stab.refl _ _) (fun _ ho=>ho) q1 rfl rfl (Nat.le_refl _) (fun _ _ _=>rfl)
   (by
     rw[ok]
     refine⟨row,k1,r2,r3,r4,k5,hpl.symm,by omega,⟨fun e1=>(by split at e1<;>cases e1),by rw[hpl];exact r5⟩,by rw[hpl];exact r6,ga5.2 fun c hc=> ?_⟩
     exact ok.keep (fun o ho=> .inl ho) (fun _ _=>rfl) (ga5.1 k10 c (List.mem_of_mem_drop (List.mem_of_mem_take hc))) fun _ _=>rfl)
   (fun x _=>by have:=hcnt x;omega) (fun x _=>by have:=hcnt x;have:=hkA x;have:=i.nd x;omega) (fun x hx=>i.lt x (ea8.2 (by have:=ea8.1 hx;have:=hcnt x;have:=hkA x;omega))) rfl
  refine⟨_,c',A',Z2,Zp2,rfl,by omega, ?_⟩
  simpa [AT.era,AT.val,xg5]using st
theorem r53{b:Bool}{nl u:Nat}{cs:List Tree}{w:Value}(hS:SR h A Z Zp (.f b nl u cs) w){l1 h1:Int}(h0:0≤l1)(h2:l1≤h1)(h3:h1≤(cs.length/u:Nat)):
 ∃a n c,w= .slice a n c∧n=cs.length/u∧h1≤c∧ss4 h u a=true∧VR h A Z Zp (.fz b (.sl (if nl=0 then 0 else 2) 0 u ((cs.drop (l1.toNat*u)).take ((h1-l1).toNat*u)))) (.slice (if(c:Int)=l1 then a else a.map fun a=>⟨a.block,a.off+l1.toNat*u,none⟩) (h1-l1).toNat (c-l1).toNat):=by
 obtain⟨e,hx⟩:=hS
 rw[Rd]at hx
 rcases hx with⟨rfl,hn0,hu0,rfl⟩|⟨o,off,n,c,row,rfl,x2,x3,x4,x5,x6,x7,x8,x9⟩
 ·obtain rfl:l1=0:=by simp at h3;omega
  obtain rfl:h1=0:=by simp at h3;omega
  refine⟨none,0,0,rfl,by simp,by omega,rfl, ?_⟩
  rw[VR,Rd]
  exact .inl ⟨by simp,by rw[if_neg hn0];decide,hu0,rfl⟩
 ·have hn:cs.length/u=n:=by rw[←x6,Nat.mul_div_cancel _ x5]
  rw[hn]at h3
  obtain⟨lo2,g1,g2,g3⟩:=xi7 (o:=o) (off:=off) (lo':=0) (lo:=0) (u:=u) x7 (Nat.le_refl _) (fun _=>rfl) h0 h2 h3
  rw[Nat.zero_mul,Nat.add_zero]at g1
  refine⟨_,n,c,rfl,hn.symm,by omega,ec5 x3 x4, ?_⟩
  rw[g1,VR,Rd]
  have hle:l1.toNat*u+(h1-l1).toNat*u≤cs.length:=by rw[←Nat.add_mul,←x6];exact Nat.mul_le_mul_right u (by omega)
  have hpl:=sx8 hle
  refine .inr ⟨o,off+lo2*u,_,_,row,rfl,x2,x3,x4,x5,hpl.symm,by omega,fun e1=>(by split at e1<;>cases e1), ?_⟩
  rw[hpl]
  have hs:=x9.sub (l1.toNat*u) ((h1-l1).toNat*u)
  by_cases hp:(h1-l1).toNat=0
  ·rw[hp,Nat.zero_mul,List.take_zero,List.take_zero,RdL]
  ·rw[g3 (by omega),Nat.zero_add]
   rwa [xh6 _ hle,List.drop_drop]at hs
theorem jg9(i:Inv h A Z Zp)(ct:CT)(elem size:Nat)(zs:List Value)(l c:Int)(h0:0≤l)(h1:l≤c)(hz:zs.length=size)(hs:size≠0):
 ∃A' Z' Zp',Step h A Z Zp (some (.own (A.map AT.era).length []),A.map AT.era++[.sl 0 elem size (repT (r48 ct elem 0 zs) l.toNat)],none) (some (.slice (some ⟨h.length,0,none⟩) l.toNat c.toNat)) (h++[.row ⟨rep zs c.toNat,elem,size,true⟩]) A' Z' Zp':=by
 have i':Inv h (A++[]) Z Zp:=by rw[List.append_nil];exact i
 have e':Ext h A Zp h (A++[]) Zp:=by rw[List.append_nil];exact Ext.refl _ _ _
 obtain⟨D0,d1,d2,d3,d4⟩:=zg5 (ct:=ct) (h:=h++[.row ⟨rep zs c.toNat,elem,size,true⟩]) (Z:=fun o=>Zp o∨False) (e:=elem) zs 0
 obtain⟨D,m1,m2,m3,m4⟩:=x43 d3 d4 l.toNat
 have hDl:D.length=l.toNat*size:=by
  have:=congrArg List.length m2
  rw[List.length_map,d2,gr6,hz]at this;exact this
 obtain⟨A',Z2,Zp2,st⟩:=e47 (D:=[]) (kn:= .sl h.length 0 l.toNat c.toNat 0 elem size D) (row:=⟨rep zs c.toNat,elem,size,true⟩) (ks:=none) i i' e' (Stab.refl _ _) (fun _ ho=>ho) (by rw[AT.fp,m3];rfl) (fun _=>by
  rw[ok]
  have hle:l.toNat*size≤c.toNat*size:=Nat.mul_le_mul_right _ (by omega)
  refine⟨_,cv8,rfl,rfl,rfl,by omega,hDl.symm,by omega,⟨fun h=>(by cases h), ?_⟩, ?_,m4⟩
  ·show 0+D.length≤(rep zs c.toNat).length
   rw[gr6,hz,hDl];omega
  ·rw[List.drop_zero,hDl,←hz,b95 zs _ _ (by omega),m2,d2]) (fun _=>rfl)
 rw[List.length_map]
 exact⟨A',Z2,Zp2,by simpa [AT.era,AT.val,m1,d1]using st⟩
theorem dx2(i:Inv h A Z Zp){r:Nat}{p:List Nat}{j:Nat}{w:Value}(hr:VR h A Z Zp (.cell r p j) w){a:AV}{R1:Rts}(he:ek8 (A.map AT.era) r p j=some (a,R1)): ∃o off x A' Z' Zp',w= .pointer (some ⟨o,off,none⟩)∧h.ld1 o off=some x∧Step h A Z Zp (some a,R1,some []) (some x) h A' Z' Zp':=by
 have i':Inv h (A++[]) Z Zp:=by rw[List.append_nil];exact i
 have e':Ext h A Zp h (A++[]) Zp:=by rw[List.append_nil];exact Ext.refl _ _ _
 unfold ek8 at he
 split at he
 ·rename_i s h1
  split at he
  ·rename_i ts h2
   split at he
   ·rename_i t h3
    split at he
    ·rename_i hn
     cases he
     obtain⟨k,h4,h5⟩:=mc9 h1
     subst h5
     obtain⟨cs,h6,h7⟩:=a47 h2
     subst h7
     obtain⟨c,h8,h9⟩:=xb8 h3
     subst h9
     obtain⟨o,off,row,b1,b2,b3,b4,b5⟩:=nm1 i h4 h6 (by intro e;subst e;simp at h8)
     have hw:=wd1 hr h4 b1
     have hsn:=kq1 h4 h6 h8
     have hcv:=l61 (k59 hn)
     obtain⟨A',Z2,Zp2,st⟩:=Step.grow (kn:=c) (h':=h) i i' e' (Stab.refl _ _) (fun _ ho=>ho) hsn hcv (by cases c<;>first|rfl|(simp_all [AT.era,hc9])) (Nat.le_refl _) (fun _ _ _=>rfl) (ok.keep (fun o ho=> .inl ho) (fun _ _=>rfl) (lw8 i hsn) fun _ _=>rfl) (fun x _=>by simp[fpL]) (fun x _=>by have:=bm6 x hsn;have:=i.nd x;omega) (fun x hx=>i.lt x (ea8.2 (by have:=ea8.1 hx;have:=bm6 x hsn;omega))) hcv
     rw[List.length_map]
     exact⟨o,off+j,c.val,A',Z2,Zp2,hw,by rw[ng1 b3];exact b5 j c h8,st⟩
    ·cases he
   ·cases he
  ·cases he
 ·cases he
theorem p22{size:Nat}: ∀{vs:List AV} {ws:List Value},VRL h A Z Zp vs ws→(∀a∈vs,(cellsOf a).length=size)→ ∃us,VRL h A Z Zp (vs.flatMap cellsOf) us∧((∀x∈us,one x=true)→cat ws=us∧sized size ws=true)
 | [],ws,hr,_=>by
   rw[VRL]at hr;subst hr
   exact⟨[], .nil,fun _=>⟨rfl,rfl⟩⟩
 |a::vs,ws,hr,hs=>by
  rw[VRL]at hr
  obtain⟨w,ws',rfl,h1,h2⟩:=hr
  obtain⟨us,u1,u2⟩:=p22 h2 fun b hb=>hs b (by simp[hb])
  have hsa:=hs a (by simp)
  have key: ∃ws0,VRL h A Z Zp (cellsOf a) ws0∧((∀x∈ws0,one x=true)→w.cells.toList=ws0∧flat w=true):=by
   cases a with
   |agg l=>
    rw[VR]at h1
    obtain⟨ws0,rfl,h1⟩:=h1
    exact⟨ws0,h1,fun _=>⟨rfl,rfl⟩⟩
   |_=>
    refine⟨[w], .cons h1 .nil,fun h1=> ?_⟩
    obtain⟨e1,e2⟩:=nn8 (h1 w (by simp))
    exact⟨by rw[e1],e2⟩
  obtain⟨ws0,k1,k2⟩:=key
  refine⟨ws0++us,by rw[List.flatMap_cons];exact k1.app u1,fun ho=> ?_⟩
  obtain⟨e1,e2⟩:=k2 fun x hx=>ho x (by simp[hx])
  obtain⟨e3,e4⟩:=u2 fun x hx=>ho x (by simp[hx])
  refine⟨by rw[cat,e1,e3], ?_⟩
  have:w.cells.size=size:=by
   have:=congrArg List.length e1
   rw[k1.len,hsa]at this
   simpa using this
  rw[sized,this,e2,e4];simp
theorem y47(i:Inv h A Z Zp){places:Nat→Option (Nat×Nat)}: ∀{parts:List (Nat×AV)} {ps:List (Nat×Value)} {cells out:List AV} {ws:List Value},p54 (A.map AT.era) places cells parts=some out→parts.length=ps.length→(∀(j:Nat) (x:Nat×AV),parts[j]? =some x→ ∃w,ps[j]? =some (x.1,w)∧VR h A Z Zp x.2 w)→VRL h A Z Zp cells ws→ ∃us,ah0 places ws ps=some us∧VRL h A Z Zp out us
 | [],ps,cells,out,ws,he,hl,hp,hr=>by
   cases he
   obtain rfl:ps=[]:=List.eq_nil_of_length_eq_zero hl.symm
   exact⟨ws,rfl,hr⟩
 |(j,a)::parts,ps,cells,out,ws,he,hl,hp,hr=>by
  cases ps with
  |nil=>simp at hl
  |cons q ps=>
   obtain⟨w,e1,hw⟩:=hp 0 (j,a) rfl
   cases e1
   simp only[p54]at he
   split at he
   ·cases he
   ·rename_i off size hpl
    split at he
    ·cases he
    ·rename_i hc
     simp only[ne_eq,Bool.or_eq_true,decide_eq_true_eq,Bool.not_eq_true',not_or,Bool.not_eq_false,Decidable.not_not]at hc
     obtain⟨⟨c1,c2⟩,c3⟩:=hc
     have hlen:=hr.len
     --the cells
     have hcell: ∃ws0,VRL h A Z Zp (cellsOf a) ws0∧w.cells.toList=ws0∧flat w=true:=by
      cases a with
      |agg l=>
       rw[VR]at hw
       obtain⟨ws0,rfl,h1⟩:=hw
       exact⟨ws0,h1,rfl,rfl⟩
      |_=>
       have h1:=j21 i (by simpa [cellsOf]using c2) hw
       obtain⟨e1,e2⟩:=nn8 h1
       exact⟨[w], .cons hw .nil,by rw[e1],e2⟩
     obtain⟨ws0,k1,k2,k3⟩:=hcell
     have hw0:ws0.length=size:=by rw[k1.len,c1]
     have hsz:w.cells.size=size:=by rw[←hw0,←k2];simp
     have hset:VRL h A Z Zp (setL cells off (cellsOf a)) (setL ws off ws0):=by
      obtain⟨l1,l2⟩:=eo0.1 hr
      obtain⟨m1,m2⟩:=eo0.1 k1
      refine eo0.2 ⟨by rw[ij9,ij9];exact l1,fun j b v h1 h2=> ?_⟩
      rw[vo4 _ _ _ _ (by omega)]at h1
      rw[vo4 _ _ _ _ (by omega)]at h2
      rw[m1]at h2
      split at h1
      ·rw[if_pos ‹_›]at h2;exact m2 _ b v h1 h2
      ·rw[if_neg ‹_›]at h2;exact l2 _ b v h1 h2
     obtain⟨us,g1,g2⟩:=y47 i he (by simpa using hl) (fun m x hx=>by
      obtain⟨v,v1,v2⟩:=hp (m+1) x (by simpa using hx)
      exact⟨v,by simpa using v1,v2⟩) hset
     refine⟨us, ?_,g2⟩
     simp only[ah0,hpl]
     rw[if_neg (by simp[hsz,k3];omega),k2,dw1 (by omega)]
     exact g1
theorem rn6(hf:FRV h A Z Zp fr f): ∀{ps:List (Nat×Operand)} {l:List (Nat×AV)},vevp fr ps=some l→ ∃ws,evp f ps=some ws∧l.length=ws.length∧ ∀(j:Nat) (x:Nat×AV),l[j]? =some x→ ∃w,ws[j]? =some (x.1,w)∧VR h A Z Zp x.2 w
 | [],l,he=>by cases he;exact⟨[],rfl,rfl,fun j x hx=>by simp at hx⟩
 |(n,o)::ps,l,he=>by
  simp only[vevp]at he
  split at he
  ·rename_i h1 h2
   cases he
   obtain⟨w,h3,h4⟩:=cj0 hf h1
   obtain⟨ws,h5,h6,h7⟩:=rn6 hf h2
   refine⟨(n,w)::ws,by simp only[evp,h3,h5],by simp[h6],fun j x hx=> ?_⟩
   cases j with
   |zero=>cases hx;exact⟨w,rfl,h4⟩
   |succ j=>simpa using h7 j x (by simpa using hx)
  ·cases he
end
end Go.Vm
namespace Go.Vm
open Go.Am
section
variable {h:H} {A:List AT} {Z Zp:Nat→Prop} {fr:VFr} {f:Fr}
theorem gv2(i:Inv h A Z Zp)(hn:Hint)(d:Option Nat){a:AV}{w:Value}(hr:VR h A Z Zp a w): ∃A' Z' Zp',Step h A Z Zp (some (vnil hn (A.map AT.era) d a).1,(vnil hn (A.map AT.era) d a).2,none) (some w) h A' Z' Zp':=by
 unfold vnil
 have same: ∃A' Z' Zp',Step h A Z Zp (some a,A.map AT.era,none) (some w) h A' Z' Zp':=⟨A,Z,Zp,Step.same i hr⟩
 split
 ·rw[VR]at hr
  subst hr
  split
  ·split
   ·rename_i e u _
    split
    ·exact same
    ·have i':Inv h (A++[]) Z Zp:=by rw[List.append_nil];exact i
     have e':Ext h A Zp h (A++[]) Zp:=by rw[List.append_nil];exact Ext.refl _ _ _
     obtain⟨A',Z2,Zp2,st⟩:=Step.fresh (kn:= .nil 1 e u) (h':=h) (ks:=none) i i' e' (Stab.refl _ _) (fun _ ho=>ho) (List.prefix_refl _) (by rw[ok];exact⟨by decide,by omega⟩) (fun x _=>by rw[uu7];simp) (fun x _=>by rw[uu7];simp) (fun o ho=>by rw[uu7]at ho;cases ho) (fun _=>rfl)
     refine⟨A',Z2,Zp2, ?_⟩
     simpa [AT.era,AT.val]using st
   ·exact same
  ·exact same
 ·exact same
theorem y69{W:VW}{hn:Hint}{d:Option Nat}(i:Inv h A Z Zp)(hf:FRV h A Z Zp fr f){op:AOp}{r:Option AV×Rts×Option (List Nat)}(he:vop W hn d fr (A.map AT.era) op=some r):
 ∃w h' A' Z' Zp',aop f h op=some (w,h')∧Step h A Z Zp r w h' A' Z' Zp':=by
 have i':Inv h (A++[]) Z Zp:=by rw[List.append_nil];exact i
 have e':Ext h A Zp h (A++[]) Zp:=by rw[List.append_nil];exact Ext.refl _ _ _
 have pure: ∀{v:Value},aop f h op=some (some v,h)→r=(some (.x v),A.map AT.era,none)→ ∃w h' A' Z' Zp',aop f h op=some (w,h')∧Step h A Z Zp r w h' A' Z' Zp':=fun{v} h1 h2=>⟨some v,h,A,Z,Zp,h1,by rw[h2];exact Step.same i (by rw[VR])⟩
 have look: ∀{a:AV},lu1 fr (A.map AT.era) op=some a→r=(some a,A.map AT.era,none)→ ∃w h' A' Z' Zp',aop f h op=some (w,h')∧Step h A Z Zp r w h' A' Z' Zp':=fun{a} h1 h2=>by
  obtain⟨v,h3,h4⟩:=look_ok i hf h1
  exact⟨some v,h,A,Z,Zp,h3,by rw[h2];exact Step.same i h4⟩
 cases op with
 |mv x=>
  simp only[vop]at he
  split at he
  ·rename_i a h1
   cases he
   obtain⟨w,h2,h3⟩:=cj0 hf h1
   obtain⟨A',Z',Zp',st⟩:=gv2 i hn d h3
   have hk:vmvd hn d a=none∨vmvd hn d a=some []:=by
    unfold vmvd
    split
    ·split
     ·split
      ·split
       ·exact .inl rfl
       ·exact .inr rfl
      ·exact .inl rfl
     ·exact .inl rfl
    ·exact .inl rfl
   rcases hk with hk|hk
   ·rw[hk];exact⟨some w,h,A',Z',Zp',by simp only[aop,h2],st⟩
   ·rw[hk];exact⟨some w,h,A',Z',Zp',by simp only[aop,h2],st.R,st.inv,st.ext,st.st,st.z,st.v,fun e=>by cases e⟩
  ·cases he
 |pick c a b=>
  simp only[vop]at he
  split at he
  ·rename_i t h1
   split at he
   ·rename_i v h2
    cases he
    obtain⟨w,h3,h4⟩:=cj0 hf h2
    exact⟨some w,h,A,Z,Zp,by simp only[aop,hv3 hf h1,h3],Step.same i h4⟩
   ·cases he
  ·cases he
 |bin op x y=>
  simp only[vop]at he
  split at he
  ·rename_i a b h1 h2
   split at he
   ·rename_i v h3
    cases he
    exact pure (by simp only[aop,hv3 hf h1,hv3 hf h2,h3]) rfl
   ·cases he
  ·cases he
 |eqb neg x y=>
  simp only[vop]at he
  split at he
  ·rename_i a b h1 h2
   cases he
   exact pure (by simp only[aop,hv3 hf h1,hv3 hf h2]) rfl
  ·cases he
 |eqn neg kind x=>
  simp only[vop]at he
  split at he
  ·rename_i a h1
   split at he
   ·rename_i b h2
    cases he
    obtain⟨w,h3,h4⟩:=cj0 hf h1
    exact pure (by simp only[aop,h3,ky5 i h2 h4]) rfl
   ·cases he
  ·cases he
 |un op x=>
  simp only[vop]at he
  split at he
  ·rename_i a h1
   split at he
   ·rename_i v h3
    cases he
    exact pure (by simp only[aop,hv3 hf h1,h3]) rfl
   ·cases he
  ·cases he
 |conv k x=>
  simp only[vop]at he
  split at he
  ·rename_i n h1
   cases he
   exact pure (by simp only[aop,hv3 hf h1]) rfl
  ·cases he
 |alloc elem zs=>
  cases he
  obtain⟨D,d1,d2,d3,d4⟩:=zg5 (ct:=zy6 W.ct (memO d hn.take)) (h:=h++[.row ⟨zs,elem,0,true⟩]) (Z:=fun o=>Zp o∨False) (e:=elem) zs 0
  obtain⟨A',Z2,Zp2,st⟩:=e47 (D:=[]) (kn:= .pt h.length elem D) (row:=⟨zs,elem,0,true⟩) (ks:=none) i i' e' (Stab.refl _ _) (fun _ ho=>ho) (by rw[AT.fp,d3];rfl) (fun _=>by
   rw[ok];exact⟨_,cv8,⟨rfl,rfl⟩,d2.symm,d4⟩) (fun _=>rfl)
  exact⟨_,_,A',Z2,Zp2,by simp only[aop];rfl,by rw[List.length_map];simpa [AT.era,AT.val,d1]using st⟩
 |box elem size x=>
  simp only[vop]at he
  split at he
  ·rename_i a h1
   split at he
   ·rename_i hs
    split at he
    ·rename_i ts R1 h2
     cases he
     obtain⟨w,h3,h4⟩:=cj0 hf h1
     obtain⟨ws,k1,k2⟩:=vr1 h2 h4
     obtain⟨A1,D,Z1,Zp1,rfl,b2,b3,b4,i1,e1,s1,z1,l1⟩:=p91 (C:=[]) i' h2 k1
     rw[List.nil_append]at i1
     have e1:=e'.trans e1
     rw[List.nil_append]at e1
     obtain⟨k3,k4⟩:=k2 b4
     obtain⟨A',Z2,Zp2,st⟩:=e47 (kn:= .pt h.length elem D) (row:=⟨w.cells.toList,elem,0,true⟩) (ks:=some []) i i1 e1 s1 z1 (by rw[AT.fp]) (fun hk=>by
      rw[ok];exact⟨_,cv8,⟨rfl,rfl⟩,by rw[b3];exact k3,hk⟩) (fun h=>by cases h)
     have hsz:w.cells.size=size:=by rw[←hs,←k1.len,←k3];simp
     refine⟨_,_,A',Z2,Zp2,by simp only[aop,h3];rw[if_pos ⟨hsz,k4⟩],by rw[List.length_map];simpa [AT.era,AT.val,b2]using st⟩
    ·cases he
   ·cases he
  ·cases he
 |build zs places parts=>
  simp only[vop]at he
  split at he
  ·rename_i vs h1
   split at he
   ·rename_i cs h2
    cases he
    obtain⟨ws,h3,h4,h5⟩:=rn6 hf h1
    obtain⟨us,h6,h7⟩:=y47 i h2 h4 h5 (VRL.xs zs)
    refine⟨some (.agg us.toArray),h,A,Z,Zp,by simp only[aop,h3,h6],Step.same i ?_⟩
    rw[VR];exact⟨us,rfl,h7⟩
   ·cases he
  ·cases he
 |mkSl elem size len parts=>
  simp only[vop]at he
  split at he
  ·rename_i vs h1
   split at he
   ·rename_i hc
    simp only[Bool.and_eq_true,List.all_eq_true,beq_iff_eq,bne_iff_ne,ne_eq]at hc
    obtain⟨⟨c1,c2⟩,c3⟩:=hc
    split at he
    ·rename_i ts R1 h2
     cases he
     obtain⟨ws,h3,h4⟩:=ys0 hf h1
     obtain⟨us,k1,k2⟩:=p22 h4 c1
     obtain⟨A1,D,Z1,Zp1,rfl,b2,b3,b4,i1,e1,s1,z1,l1⟩:=p91 (C:=[]) i' h2 k1
     rw[List.nil_append]at i1
     have e1:=e'.trans e1
     rw[List.nil_append]at e1
     obtain⟨k3,k4⟩:=k2 b4
     have hwl:ws.length=len:=by rw[h4.len,c2]
     have hDl:D.length=len*size:=by
      have h6: ∀l:List AV,(∀a∈l,(cellsOf a).length=size)→(l.flatMap cellsOf).length=l.length*size:=by
       intro l
       induction l with
       |nil=>intro _;simp
       |cons a l ih=>
        intro hh
        rw[List.flatMap_cons,List.length_append,ih fun b hb=>hh b (by simp[hb]),hh a (by simp),List.length_cons,Nat.add_mul];omega
      have:=k1.len
      rw[h6 vs c1,c2,←b3,List.length_map]at this
      exact this
     obtain⟨A',Z2,Zp2,st⟩:=e47 (kn:= .sl h.length 0 len len 0 elem size D) (row:=⟨cat ws,elem,size,true⟩) (ks:=some []) i i1 e1 s1 z1 (by rw[AT.fp]) (fun hk=>by
      rw[ok]
      refine⟨_,cv8,rfl,rfl,rfl,by omega,hDl.symm,Nat.le_refl _,⟨fun h=>(by cases h), ?_⟩, ?_,hk⟩
      ·show 0+D.length≤(cat ws).length
       rw[k3,←b3];simp
      ·show((cat ws).drop 0).take _=_
       rw[k3,←b3,List.drop_zero,List.take_of_length_le (by simp)]) (fun h=>by cases h)
     refine⟨_,_,A',Z2,Zp2,by simp only[aop,h3];rw[if_pos (by rw[k4,hwl];simp)],by rw[List.length_map];simpa [AT.era,AT.val,b2]using st⟩
    ·cases he
   ·cases he
  ·cases he
 |ld agg n x=>
  simp only[vop]at he
  split at he
  ·rename_i hc
   split at he
   ·rename_i a h1
    split at he
    ·rename_i r' p j h2
     split at he
     ·rename_i v R1 h3
      cases he
      obtain⟨w,h4,h5⟩:=cj0 hf h1
      obtain⟨o,off,y,A',Z',Zp',rfl,h7,st⟩:=dx2 i (dm7 i h2 h5) h3
      have hag:agg=false:=by cases agg<;>simp_all
      subst hag
      exact⟨some y,h,A',Z',Zp',by simp only[aop,h4];rw[if_neg (by simp)];simp only[h7],st⟩
     ·cases he
    ·cases he
   ·cases he
  ·split at he
   ·rename_i v h1
    cases he
    exact look h1 rfl
   ·cases he
 |st n a x=>
  simp only[vop]at he
  split at he
  ·rename_i pa v h1 h2
   split at he
   ·rename_i r' p j h3
    split at he
    ·rename_i hc
     obtain⟨c1,c2⟩:=hc
     split at he
     ·rename_i ts R1 h4
      split at he
      ·rename_i R2 h5
       cases he
       obtain⟨wa,e1,e2⟩:=cj0 hf h1
       obtain⟨wv,e3,e4⟩:=cj0 hf h2
       obtain⟨ws,k1,k2⟩:=vr1 h4 e4
       obtain⟨A1,D,Z1,Zp1,rfl,b2,b3,b4,i1,x1,s1,z1,l1⟩:=p91 (C:=[]) i' h4 k1
       rw[List.nil_append]at i1
       have x1:=e'.trans x1
       rw[List.nil_append]at x1
       obtain⟨k3,k4⟩:=k2 b4
       have hcell:=dm7 i h3 e2
       have hcell1:VR h A1 Z1 Zp1 (.cell r' p j) wa:=VR.move z1 x1.zp (fun _ _=>rfl) (fun _ _=>rfl) s1 hcell rfl
       have hwl:ws.length=n:=by rw[k1.len,c1]
       have hDl:D.length=n:=by rw[←hwl,←b3];simp
       rw[←b2]at h5
       obtain⟨o,off,h',A2,w1,w2,w3,⟨Z2,Zp2,i2,x2,z2⟩,w5⟩:=dp1 i1 b3 (by intro e;rw[e]at hDl;exact c2 hDl.symm) hcell1 h5
       subst w1
       rw[←k3]at hwl
       refine⟨none,h',A2,Z2,Zp2, ?_,⟨w3,i2,x1.trans x2, ?_,fun o ho=>z2 o (z1 o ho),trivial,fun hn=>by cases hn⟩⟩
       ·simp only[aop,e1,e3]
        rw[if_neg (by simp[k4];simpa using hwl),k3,w2]
       ·rw[←b2]
        refine(s1.weak (fun r hr=>by cases hr)).trans ?_
        exact w5
      ·cases he
     ·cases he
    ·cases he
   ·cases he
  ·cases he
 |mkf g cap=>
  simp only[vop]at he
  split at he
  ·rename_i vs h1
   cases he
   obtain⟨ws,h2,h3⟩:=ys0 hf h1
   exact⟨some (.func (.func g) #[] ws.toArray),h,A,Z,Zp,by simp only[aop,h2],Step.same i (by rw[VR];exact⟨ws,rfl,h3⟩)⟩
  ·cases he
 |mks elem size bytes zs l c=>
  simp only[vop]at he
  split at he
  ·rename_i k1 l k2 c h1 h2
   split at he
   ·rename_i hc
    cases he
    obtain⟨A',Z',Zp',st⟩:=jg9 i W.ct elem size zs l c hc.1 hc.2.1 hc.2.2.2.2.1 hc.2.2.2.2.2
    exact⟨_,_,A',Z',Zp',by simp only[aop,hv3 hf h1,hv3 hf h2];rw[if_pos ⟨hc.1,hc.2.1,hc.2.2.1,hc.2.2.2.1⟩],st⟩
   ·cases he
  ·cases he
 |sl size x lo hi=>
  simp only[vop]at he
  split at he
  ·rename_i a lo hi h1 h2 h3
   obtain⟨w,h4,h5⟩:=cj0 hf h1
   have hlo:=fk3 hf h2
   have hhi:=fk3 hf h3
   split at he
   ·rename_i r' p nl e u cs lo0 n0 h6
    split at he
    ·rename_i hc
     obtain⟨c1,c2,c3,c4⟩:=hc
     subst c4
     have hS:=cd4 i h6 h5
     split at he
     ·cases he
      obtain⟨b,c,A',Z',Zp',rfl,g1,g2,st⟩:=uu3 i hS c1 c2 c3
      exact⟨_,h,A',Z',Zp',by simp only[aop,h4,hlo,hhi];rw[if_pos ⟨c1,c2,g1,g2⟩],st⟩
     ·cases he
      obtain⟨b,c,rfl,g1,g2,g3⟩:=dw7 i hS c1 c2 c3
      exact⟨_,h,A,Z,Zp,by simp only[aop,h4,hlo,hhi];rw[if_pos ⟨c1,c2,g1,g2⟩],Step.same i g3⟩
    ·cases he
   ·rename_i b nl u cs h6
    split at he
    ·rename_i hc
     obtain⟨c1,c2,c3,c4⟩:=hc
     subst c4
     cases he
     obtain⟨b,n,c,rfl,rfl,g1,g2,g3⟩:=r53 (cd4 i h6 h5) c1 c2 c3
     exact⟨_,h,A,Z,Zp,by simp only[aop,h4,hlo,hhi];rw[if_pos ⟨c1,c2,g1,g2⟩],Step.same i g3⟩
    ·cases he
   ·rename_i h6
    split at he
    ·rename_i hc
     cases he
     have hS:w= .slice none 0 0:=cd4 i h6 h5
     subst hS
     refine pure (v:= .slice none 0 0) ?_ rfl
     simp only[aop,h4,hlo,hhi]
     have e1:lo.getD 0=0:=hc.1
     have e2:hi.getD ((0:Nat):Int)=0:=hc.2
     rw[if_pos ⟨by omega,by omega,by omega,rfl⟩,e1,e2]
     rfl
    ·cases he
   ·cases he
  ·cases he
 |sls x lo hi=>
  simp only[vop]at he
  split at he
  ·rename_i s lo hi h1 h2 h3
   split at he
   ·cases he
    exact pure (by simp only[aop,hv3 hf h1,fk3 hf h2,fk3 hf h3];rw[if_pos ‹_›]) rfl
   ·cases he
  ·cases he
 |sl3 x hi mx=>
  simp only[vop]at he
  split at he
  ·rename_i a k1 m1 k2 m2 h1 h2 h3
   obtain⟨w,h4,h5⟩:=cj0 hf h1
   have q2:=hv3 hf h2
   have q3:=hv3 hf h3
   split at he
   ·rename_i r' p nl e u cs lo0 n0 h6
    split at he
    ·rename_i hc
     obtain⟨c1,c2,c3⟩:=hc
     split at he
     ·cases he
      obtain⟨b,c,A',Z',Zp',rfl,g1,st⟩:=n54 i (cd4 i h6 h5) c1 c2 c3
      exact⟨_,h,A',Z',Zp',by simp only[aop,h4,q2,q3];rw[if_pos ⟨c1,c2,g1⟩],st⟩
     ·cases he
      obtain⟨k,nl0,q1,_,_,q4,q5,q6⟩:=cd4 i h6 h5
      rcases q6 with⟨rfl,rfl,rfl,rfl,_,rfl⟩|⟨o,off,n1,c0,l,lo',c',rfl,rfl,q7,rfl,q8,q9',q9⟩
      ·refine⟨_,h,A,Z,Zp,by simp only[aop,h4,q2,q3];rw[if_pos ⟨c1,c2,c3⟩],Step.same i ?_⟩
       rw[VR]
       refine⟨vs7 q1,fun b hb _=> ?_⟩
       rw[q1]at hb;cases hb
       show _∧_=_
       rw[show m1.toNat=0 by omega,show m2.toNat=0 by omega]
       exact⟨rfl,rfl⟩
      ·refine⟨_,h,A,Z,Zp,by simp only[aop,h4,q2,q3];rw[if_pos ⟨c1,c2,by omega⟩],Step.same i ?_⟩
       rw[VR]
       refine⟨vs7 q1,fun b hb _=> ?_⟩
       rw[q1]at hb;cases hb
       exact⟨lo',_,rfl,by omega,q9',fun _=>q9 (by omega)⟩
    ·cases he
   ·rename_i b nl u cs h6
    split at he
    ·rename_i hc
     obtain⟨c1,c2,c3⟩:=hc
     cases he
     obtain⟨e,hx⟩:=cd4 i h6 h5
     rw[Rd]at hx
     rcases hx with⟨rfl,hn0,hu0,rfl⟩|⟨o,off,n,c,row,rfl,x2,x3,x4,x5,x6,x7,x8,x9⟩
     ·simp at c3
      refine⟨_,h,A,Z,Zp,by simp only[aop,h4,q2,q3];rw[if_pos ⟨c1,c2,c3⟩],Step.same i ?_⟩
      rw[VR,Rd]
      exact .inl ⟨by simp,by rw[if_neg hn0];decide,hu0,by rw[show m1.toNat=0 by omega,show m2.toNat=0 by omega]⟩
     ·have hn:cs.length/u=n:=by rw[←x6,Nat.mul_div_cancel _ x5]
      rw[hn]at c3
      refine⟨_,h,A,Z,Zp,by simp only[aop,h4,q2,q3];rw[if_pos ⟨c1,c2,by omega⟩],Step.same i ?_⟩
      rw[VR,Rd]
      have hle:0+m1.toNat*u≤cs.length:=by rw[Nat.zero_add,←x6];exact Nat.mul_le_mul_right u (by omega)
      have hpl:=sx8 hle
      rw[List.drop_zero]at hpl
      refine .inr ⟨o,off,_,_,row,rfl,x2,x3,x4,x5,hpl.symm,by omega,fun e1=>(by split at e1<;>cases e1), ?_⟩
      rw[hpl]
      have hs:=x9.sub 0 (m1.toNat*u)
      rwa [xh6 _ hle,List.drop_zero,List.drop_zero]at hs
    ·cases he
   ·rename_i h6
    split at he
    ·rename_i hc
     cases he
     have hS:w= .slice none 0 0:=cd4 i h6 h5
     subst hS
     obtain⟨rfl,rfl⟩:=hc
     refine pure (v:= .slice none 0 0) ?_ rfl
     simp only[aop,h4,q2,q3]
     rw[if_pos ⟨by omega,by omega,by omega⟩]
     rfl
    ·cases he
   ·cases he
  ·cases he
 |idxS x y=>
  simp only[vop]at he
  split at he
  ·rename_i s k j h1 h2
   split at he
   ·rename_i hc
    split at he
    ·rename_i b h3
     cases he
     exact pure (by simp only[aop,hv3 hf h1,hv3 hf h2];rw[if_pos hc];simp only[h3]) rfl
    ·cases he
   ·cases he
  ·cases he
 |len x=>
  simp only[vop]at he
  split at he
  ·rename_i a h1
   obtain⟨w,h4,h5⟩:=cj0 hf h1
   split at he
   ·rename_i r' p nl e u cs lo0 n0 h6
    cases he
    obtain⟨k,nl0,q1,_,_,q4,q5,q6⟩:=cd4 i h6 h5
    rcases q6 with⟨_,_,rfl,_,_,rfl⟩|⟨o,off,n1,c0,l,lo',c',_,_,q7,rfl,_⟩
    ·exact pure (by simp only[aop,h4]) rfl
    ·exact pure (by simp only[aop,h4]) rfl
   ·rename_i b nl u cs h6
    cases he
    obtain⟨e,hx⟩:=cd4 i h6 h5
    rw[Rd]at hx
    rcases hx with⟨rfl,hn0,hu0,rfl⟩|⟨o,off,n,c,row,rfl,x2,x3,x4,x5,x6,x7,x8,x9⟩
    ·exact pure (by simp only[aop,h4];simp) rfl
    ·have hn:cs.length/u=n:=by rw[←x6,Nat.mul_div_cancel _ x5]
     exact pure (v:= .int .i64 n) (by simp only[aop,h4]) (by rw[hn])
   ·rename_i h6
    cases he
    have hS:w= .slice none 0 0:=cd4 i h6 h5
    subst hS
    exact pure (by simp only[aop,h4];rfl) rfl
   ·cases he
  ·cases he
 |lenS x=>
  simp only[vop]at he
  split at he
  ·rename_i s h1
   cases he
   exact pure (by simp only[aop,hv3 hf h1]) rfl
  ·cases he
 |lenK n=>cases he;exact pure rfl rfl
 |minmax mx xs=>
  simp only[vop]at he
  split at he
  ·rename_i vs h1
   split at he
   ·rename_i k n r'
    split at he
    ·rename_i l h2
     cases he
     exact pure (by simp only[aop,c07 hf h1,h2]) rfl
    ·cases he
   ·cases he
  ·cases he
 |app elem size bytes s x=>
  simp only[vop,jp2]at he
  split at he
  ·rename_i az ax h1 h2
   split at he
   ·rename_i X h3
    split at he
    ·rename_i news R1 h4
     obtain⟨w1,e1,e2⟩:=cj0 hf h1
     obtain⟨w2,e3,e4⟩:=cj0 hf h2
     have hX:=cd4 i h3 e4
     split at he
     ·rename_i r' p nl e u cs lo n h5
      split at he
      ·rename_i hc
       cases he
       obtain⟨v,h',A',Z',Zp',g1,g2⟩:=zk4 (elem:=elem) i e2 hX h4 h5 hc.1 hc.2.1 hc.2.2
       exact⟨some v,h',A',Z',Zp',by simp only[aop,e1,e3,g1],g2⟩
      ·cases he
     ·rename_i h5
      split at he
      ·rename_i hc
       cases he
       have hn:w1= .slice none 0 0:=by
        cases az with
        |x v=>
         rw[VR]at e2
         rw[e2]
         simp only[vsl]at h5
         split at h5
         ·rename_i e;cases e
         ·rename_i e;cases e
         ·rename_i e;cases e
         ·rename_i e;cases e
         ·rename_i e;cases e;rfl
         ·cases h5
        |own r p=>simp only[vsl]at h5;split at h5<;>cases h5
        |sub r p u lo n=>
         simp only[vsl]at h5
         split at h5
         ·split at h5<;>cases h5
         ·cases h5
        |fz b t=>
         cases t with
         |ex t=>cases t<;>cases h5
         |_=>cases h5
        |_=>cases h5
       subst hn
       obtain⟨v,h',A',Z',Zp',g1,g2⟩:=qk7 (elem:=elem) i hX h4 hc.1 hc.2
       exact⟨some v,h',A',Z',Zp',by simp only[aop,e1,e3,g1],g2⟩
      ·cases he
     ·cases he
    ·cases he
   ·cases he
  ·cases he
 |appz elem bytes s x=>
  simp only[vop,jp2]at he
  split at he
  ·rename_i az m h1 h2
   split at he
   ·rename_i hm0
    obtain⟨w1,e1,e2⟩:=cj0 hf h1
    have e3:=hv3 hf h2
    split at he
    ·rename_i r' p nl e u cs lo n h5
     split at he
     ·rename_i hc
      cases he
      obtain⟨sa,n1,c1,v,h',A',Z',Zp',rfl,g1,g2⟩:=c39 (elem:=elem) i e2 h5 hc.1 hc.2.1 hc.2.2
      exact⟨some v,h',A',Z',Zp',by simp only[aop,e1,e3];rw[if_pos hm0,g1],g2⟩
     ·cases he
    ·rename_i h5
     split at he
     ·rename_i hc
      cases he
      have hn:w1= .slice none 0 0:=by
       cases az with
       |x v=>
        rw[VR]at e2
        rw[e2]
        simp only[vsl]at h5
        split at h5
        ·rename_i e;cases e
        ·rename_i e;cases e
        ·rename_i e;cases e
        ·rename_i e;cases e
        ·rename_i e;cases e;rfl
        ·cases h5
       |own r p=>simp only[vsl]at h5;split at h5<;>cases h5
       |sub r p u lo n=>
        simp only[vsl]at h5
        split at h5
        ·split at h5<;>cases h5
        ·cases h5
       |fz b t=>
        cases t with
        |ex t=>cases t<;>cases h5
        |_=>cases h5
       |_=>cases h5
      subst hn
      obtain⟨v,h',A',Z',Zp',g1,g2⟩:=uk9 (elem:=elem) i hc
      exact⟨some v,h',A',Z',Zp',by simp only[aop,e1,e3];rw[if_pos hm0,g1],g2⟩
     ·cases he
    ·cases he
   ·cases he
  ·cases he
 |cpy size x y=>
  simp only[vop]at he
  split at he
  ·rename_i ad az h1 h2
   split at he
   ·rename_i r' p nl e u cs lo n S h3 h4
    split at he
    ·rename_i hc
     split at he
     ·rename_i t h5
      cases he
      obtain⟨w1,e1,e2⟩:=cj0 hf h1
      obtain⟨w2,e3,e4⟩:=cj0 hf h2
      obtain⟨v,h',A',Z',Zp',g1,g2⟩:=wt9 i (cd4 i h3 e2) (cd4 i h4 e4) hc.1 hc.2.1 hc.2.2 h5
      exact⟨some v,h',A',Z',Zp',by simp only[aop,e1,e3,g1],g2⟩
     ·cases he
    ·cases he
   ·cases he
  ·cases he
 |call g args=>cases he
 |calld x args=>cases he
 |_=>
  simp only[vop]at he
  split at he
  ·rename_i v h1
   cases he
   exact look h1 rfl
  ·cases he
end
end Go.Vm
namespace Go.Vm
open Go.Am
section
variable {h:H} {A Ac:List AT} {Z Zp:Nat→Prop}
def uq0(A:List AT)(Z:Nat→Prop):Nat→Prop:=fun o=>Z o∨o∈fpL A
theorem sx6{r:Nat}{p:List Nat}{k:AT}(hk:aget A r p=some k){o:Nat}(ho:o∈k.fp):o∈fpL A:=ea8.2 (by have:=ea8.1 ho;have:=bm6 o hk;omega)
mutual
theorem ib8(i:Inv h A Z Zp){u:Nat}: ∀{a a':AV} {w:Value},np8 (A.map AT.era) u a=some a'→VR h A Z Zp a w→VR h Ac (uq0 A Z) Zp a' w
 | .x v,a',w,he,hr=>by
   rw[VR]at hr
   subst hr
   unfold np8 at he
   split at he
   ·rename_i e
    cases e
    split at he
    ·cases he
    ·cases he
     rw[VR,Rd]
     exact .inl ⟨rfl,by decide,by omega,rfl⟩
   ·rename_i e;cases e;cases he;rw[VR]
   all_goals (rename_i e;cases e)
 | .fz b t,a',w,he,hr=>by
   cases he
   rw[VR]at hr⊢
   cases b with
   |true=>exact hr
   |false=>exact Rd.mono (fun o ho=> .inl ho) (fun _ _=>rfl) hr
 | .fzc b cs j,a',w,he,hr=>by
   cases he
   rw[VR]at hr⊢
   obtain⟨o,off,r,h1,h2,h3,h4⟩:=hr
   cases b with
   |true=>exact⟨o,off,r,h1,h2,h3,h4⟩
   |false=>exact⟨o,off,r,h1, .inl h2,h3,RdL.mono (fun o ho=> .inl ho) (fun _ _=>rfl) h4⟩
 | .own r p,a',w,he,hr=>by
   rw[VR]at hr
   simp only[np8]at he
   split at he
   ·rename_i t h1
    cases he
    obtain⟨k,h2,h3⟩:=mc9 h1
    obtain⟨w',rfl⟩:=n52 h3
    have hk:=lw8 i h2
    rw[ok]at hk
    have hw:w'=w:=hr.2 _ h2 rfl
    subst hw
    rw[VR];exact hk
   ·rename_i s hne h1
    split at he
    ·rename_i hn
     cases he
     obtain⟨k,h2,rfl⟩:=mc9 h1
     have hw:k.val=w:=hr.2 _ h2 (l61 hn)
     subst hw
     rw[VR]
     exact ok.rd (fun o ho=> .inl (i.zp o ho)) (lw8 i h2) fun o ho=> .inr (sx6 h2 ho)
    ·cases he
   ·cases he
 | .sub r p w0 lo n,a',w,he,hr=>by
   have hsl: ∀{S},vsl (A.map AT.era) (.sub r p w0 lo n)=some S→SR h A Z Zp S w:=fun hs=>cd4 i hs hr
   simp only[np8]at he
   split at he
   ·rename_i nl e u' cs h1
    split at he
    ·rename_i hc
     cases he
     obtain⟨k,nl0,q1,q2,q3,q4,q5,q6⟩:=hsl (S:= .o r p (if nl=0 then 0 else 2) e u' cs lo n) (by simp only[vsl,h1];rw[if_pos hc])
     rw[VR,Rd]
     rcases q6 with⟨rfl,rfl,rfl,rfl,hn0,rfl⟩|⟨o,off,n1,c0,l,lo',c',rfl,rfl,q7,rfl,q8,q9',q9⟩
     ·refine .inl ⟨by simp[jj5], ?_,q5,rfl⟩
      rcases q2 with q2|q2
      ·rw[q2];exact hn0
      ·rw[q2,if_neg hn0];decide
     ·have hok:=lw8 i q1
      rw[i47]at q4
      obtain⟨row,r1,r2,r3,r4,r5,r6⟩:=jk2 hok q4 q9' q9
      have hseg:lo*u'+n*u'≤l.length:=by rw[←Nat.add_mul];exact q4
      have hpl:=sx8 hseg
      have hl:(jj5 (((eraL l).drop (lo*u')).take (n*u'))).length=n*u':=by
       rw[gz0,List.length_map,←xg5,i47,hpl]
      refine .inr ⟨o,off+lo'*u',n,c',row,rfl, .inr (sx6 q1 (by rw[AT.fp];simp)),r1,fun _=>r4,q5,hl.symm,q8,fun e1=>(by split at e1<;>cases e1), ?_⟩
      rw[hl,r6,←xg5]
      refine okL.rd (fun o ho=> .inl (i.zp o ho)) (ga5.2 fun c hc=>ga5.1 (by5 rfl hok) c (List.mem_of_mem_drop (List.mem_of_mem_take hc))) fun x hx=> .inr (sx6 q1 ?_)
      rw[AT.fp]
      refine List.mem_cons_of_mem _ (ea8.2 ?_)
      have:=ea8.1 hx
      have:=gc1 l (lo*u') (n*u') x
      omega
    ·cases he
   ·cases he
 | .cell r p j,a',w,he,hr=>by
   simp only[np8]at he
   split at he
   ·rename_i hl
    split at he
    ·rename_i s h1
     split at he
     ·rename_i ts h2
      cases he
      obtain⟨k,h3,rfl⟩:=mc9 h1
      obtain⟨cs,h4,rfl⟩:=a47 h2
      have hok:=lw8 i h3
      rw[VR]
      have hz: ∀c∈cs,∀x∈c.fp,x∈k.fp:=fun c hc x hx=>by
       rcases vw2 h4 with⟨_,rfl⟩|⟨o,e1,_⟩
       ·cases hc
       ·rw[e1,zq7];exact List.mem_cons_of_mem _ (List.mem_flatMap.2 ⟨c,hc,hx⟩)
      have hrd:RdL h (uq0 A Z) (jj5 (eraL cs)) (cs.map AT.val):=okL.rd (fun o ho=> .inl (i.zp o ho)) (by5 h4 hok) fun x hx=>by
       rw[zq7]at hx
       obtain⟨c,hc,hx⟩:=List.mem_flatMap.1 hx
       exact .inr (sx6 h3 (hz c hc x hx))
      have hlen:(jj5 (eraL cs)).length=cs.length:=by rw[gz0,List.length_map,i47]
      cases k with
      |sl o off n c nl e u l=>
       cases h4
       rw[ok]at hok
       obtain⟨row,k1,k2,k3,k4,k5,k6,k7,k8,k9,k10⟩:=hok
       exact⟨o,off,row,wd1 hr h3 rfl, .inr (sx6 h3 (by rw[AT.fp];simp)),k1,by rw[hlen,k9];exact hrd⟩
      |pt o e l=>
       cases h4
       rw[ok]at hok
       obtain⟨row,k1,k2,k3,k4⟩:=hok
       refine⟨o,0,row,wd1 hr h3 rfl, .inr (sx6 h3 (by rw[AT.fp];simp)),k1, ?_⟩
       rw[hlen,List.drop_zero,k3,List.take_of_length_le (by simp)];exact hrd
      |nil nl e u=>simp only[k12,h1]at hl;simp[AT.era]at hl
      |v=>cases h4
      |fn=>cases h4
      |fz=>cases h4
      |junk=>cases h4
     ·cases he
    ·cases he
   ·cases he
 | .agg l,a',w,he,hr=>by
   rw[VR]at hr
   obtain⟨ws,rfl,h1⟩:=hr
   rw[np8]at he
   split at he
   ·cases he
    rw[VR]
    exact⟨ws,rfl,qb3 i ‹_› h1⟩
   ·cases he
 | .tup l,a',w,he,hr=>by rw[np8]at he;cases he
 | .fn f l,a',w,he,hr=>by
   rw[VR]at hr
   obtain⟨ws,rfl,h1⟩:=hr
   rw[np8]at he
   split at he
   ·cases he
    rw[VR]
    exact⟨ws,rfl,qb3 i ‹_› h1⟩
   ·cases he
theorem qb3(i:Inv h A Z Zp){u:Nat}: ∀{l l':List AV} {ws:List Value},re2 (A.map AT.era) u l=some l'→VRL h A Z Zp l ws→VRL h Ac (uq0 A Z) Zp l' ws
 | [],l',ws,he,hr=>by cases he;rw[VRL]at hr⊢;exact hr
 |a::l,l',ws,he,hr=>by
  rw[re2]at he
  split at he
  ·cases he
   rw[VRL]at hr⊢
   obtain⟨w,ws',h1,h2,h3⟩:=hr
   exact⟨w,ws',h1,ib8 i ‹_› h2,qb3 i ‹_› h3⟩
  ·cases he
end
theorem Inv.part(i:Inv h (A++Ac) Z Zp):Inv h Ac (uq0 A Z) Zp:=by
 have hac: ∀x,(fpL A).count x+(fpL Ac).count x≤1:=fun x=>by have:=i.nd x;rwa [xv9,List.count_append]at this
 refine⟨(ca4.1 i.okA).2,fun x=>by have:=hac x;omega,fun o ho=>i.lt o (by rw[xv9];simp[ho]),fun o ho hz=> ?_,fun o ho=> ?_,fun o ho=> .inl (i.zp o ho)⟩
 ·rcases hz with hz|hz
  ·exact i.nz o (by rw[xv9];simp[ho]) hz
  ·have:=hac o;have:=ea8.1 ho;have:=ea8.1 hz;omega
 ·rcases ho with ho|ho
  ·exact i.zlt o ho
  ·exact i.lt o (by rw[xv9];simp[ho])
theorem Inv.after(i:Inv h (A++Ac) Z Zp){h':H}{D:List AT}{Z' Zp':Nat→Prop}(i':Inv h' D Z' Zp')(e:Ext h Ac Zp h' D Zp'):Inv h' (A++D) (fun o=>Z o∨Zp' o) Zp'∧Ext h (A++Ac) Zp h' (A++D) Zp':=by
 have hac: ∀x,(fpL A).count x+(fpL Ac).count x≤1:=fun x=>by have:=i.nd x;rwa [xv9,List.count_append]at this
 have hA: ∀o,o∈fpL A→o<h.length∧ ¬Z o∧o∉fpL Ac:=fun o ho=>⟨i.lt o (by rw[xv9];simp[ho]),i.nz o (by rw[xv9];simp[ho]),fun hc=>by have:=hac o;have:=ea8.1 ho;have:=ea8.1 hc;omega⟩
 have hrow: ∀o,o<h.length→o∉fpL Ac→h'.row o=h.row o:=fun o h1 h2=>by unfold H.row;rw[e.keep o h1 h2]
 have hzc: ∀o,Z o→o∉fpL Ac:=fun o hz hc=>i.nz o (by rw[xv9];simp[hc]) hz
 have hD: ∀o,o∈fpL D→o∉fpL A∧ ¬Z o:=fun o ho=>by
  rcases e.fp o ho with h1|h1
  ·exact⟨fun hm=>(hA o hm).2.2 h1,fun hz=>hzc o hz h1⟩
  ·exact⟨fun hm=>by have:=(hA o hm).1;omega,fun hz=>by have:=i.zlt o hz;omega⟩
 have:=e.len
 refine⟨⟨ca4.2 ⟨okL.keep e.zp (fun o ho=>hrow o (i.zlt o (i.zp o ho)) (hzc o (i.zp o ho))) (ca4.1 i.okA).1 fun o ho=>hrow o (hA o ho).1 (hA o ho).2.2,i'.okA⟩,fun x=> ?_,fun o ho=> ?_,fun o ho=> ?_,fun o ho=> ?_,fun o ho=> .inr ho⟩,e.len,fun o h1 h2=>e.keep o h1 fun hc=>h2 (by rw[xv9];simp[hc]),fun o ho=> ?_,e.zp,fun o ho=> ?_⟩
 ·rw[xv9,List.count_append]
  by_cases hm:x∈fpL D
  ·rw[List.count_eq_zero.2 (hD x hm).1];have:=i'.nd x;omega
  ·rw[List.count_eq_zero.2 hm];have:=hac x;omega
 ·rw[xv9]at ho
  rcases List.mem_append.1 ho with ho|ho
  ·have:=(hA o ho).1;omega
  ·exact i'.lt o ho
 ·rw[xv9]at ho
  rcases List.mem_append.1 ho with ho|ho
  ·rintro(hz|hz)
   ·exact(hA o ho).2.1 hz
   ·rcases e.zn o hz with h1|h1|h1
    ·exact(hA o ho).2.1 (i.zp o h1)
    ·exact(hA o ho).2.2 h1
    ·have:=(hA o ho).1;omega
  ·rintro(hz|hz)
   ·exact(hD o ho).2 hz
   ·exact i'.nz o ho (i'.zp o hz)
 ·rcases ho with ho|ho
  ·have:=i.zlt o ho;omega
  ·exact i'.zlt o (i'.zp o ho)
 ·rw[xv9]at ho
  rw[xv9]
  rcases List.mem_append.1 ho with ho|ho
  ·exact .inl (by simp[ho])
  ·rcases e.fp o ho with h1|h1
   ·exact .inl (by simp[h1])
   ·exact .inr h1
 ·rw[xv9]
  rcases e.zn o ho with h1|h1|h1
  ·exact .inl h1
  ·exact .inr (.inl (by simp[h1]))
  ·exact .inr (.inr h1)
end
end Go.Vm
