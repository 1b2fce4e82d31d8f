/-
  The second machine is true to the first. No condition. The second machine's equations, as rules to reckon with. No condition. The second machine's tables of this seat, written by a program of my own ( ..
-/
import Derived.Test.YtmhbpecdpiapgaaK4
import Derived.Test.YtmhbpecdpiapgaaKCode
import Derived.Test.YtmhbpecdpiapgaaK3
import Derived.Deep.Matrix
set_option linter.unusedVariables false
set_option linter.unusedSimpArgs false
set_option linter.unusedSectionVars false
set_option maxRecDepth 100000
namespace Go.Vm
open Go.Am
theorem i87{r:Nat}: ∀{l:List Nat},memN r l=true↔r∈l
 | []=>by simp[memN]
 |a::l=>by
  rw[memN,List.mem_cons]
  cases hb:Nat.beq r a with
  |true=>simp[p67.1 hb]
  |false=>
   have:r≠a:=fun e=>by rw[p67.2 e]at hb;cases hb
   simp[i87 (l:=l),this]
def sel(A:List AT)(r:Nat):AT:=A[r]?.getD (.junk .nilFunc)
theorem nt5(A:List AT): ∀ids:List Nat,x53 (A.map AT.era) ids=(ids.map (sel A)).map AT.era
 | []=>rfl
 |r::ids=>by
  rw[x53,List.map_cons,List.map_cons,nt5 A ids,List.getElem?_map]
  unfold sel
  cases A[r]? <;>rfl
theorem rp9(x:Nat): ∀(ids:List Nat) (A:List AT),ids.Nodup→(fpL (ids.map (sel A))).count x≤(fpL A).count x
 | [],A,_=>by simp[fpL]
 |r::ids,A,hn=>by
  rw[List.nodup_cons]at hn
  rw[List.map_cons,fpL,List.count_append]
  have ih:=rp9 x ids (A.set r (.junk .nilFunc)) hn.2
  have he:ids.map (sel (A.set r (.junk .nilFunc)))=ids.map (sel A):=List.map_congr_left fun r' hr'=>by
   unfold sel
   have hne:r≠r':=fun e=>hn.1 (by rw[e];exact hr')
   rw[List.getElem?_set_ne hne]
  rw[he]at ih
  cases hA:A[r]? with
  |none=>
   have:sel A r= .junk .nilFunc:=by unfold sel;rw[hA];rfl
   rw[this,op8]
   rw[List.set_eq_of_length_le (by have:=List.getElem?_eq_none_iff.1 hA;omega)]at ih
   simp;omega
  |some a=>
   have h1:sel A r=a:=by unfold sel;rw[hA];rfl
   have h2:=ju4 x (s:= .junk .nilFunc) hA
   rw[op8]at h2
   rw[h1]
   simp at h2;omega
theorem os9{h:H}{A:List AT}{Z Zp:Nat→Prop}(i:Inv h A Z Zp){ids:List Nat}(hn:ids.Nodup):Inv h (ids.map (sel A)) Z Zp:=by
 have hc:=fun x=>rp9 x ids A hn
 refine⟨f52.2 fun a ha=> ?_,fun x=>Nat.le_trans (hc x) (i.nd x),fun o ho=>i.lt o (d34.2 (by have:=d34.1 ho;have:=hc o;omega)),fun o ho=>i.nz o (d34.2 (by have:=d34.1 ho;have:=hc o;omega)),i.zlt,i.zp⟩
 obtain⟨r,_,rfl⟩:=List.mem_map.1 ha
 unfold sel
 cases hA:A[r]? with
 |none=>show ok h Zp (.junk .nilFunc);rw[ok];rfl
 |some a=>exact f52.1 i.okA a (List.mem_of_getElem? hA)
theorem w21{r:Nat}{acc:List Nat}:(∀x∈acc,x∈(bif memN r acc then acc else acc++[r]))∧r∈(bif memN r acc then acc else acc++[r])∧(acc.Nodup→(bif memN r acc then acc else acc++[r]).Nodup)∧(acc<+:(bif memN r acc then acc else acc++[r])):=by
 cases hm:memN r acc with
 |true=>exact⟨fun x hx=>hx,i87.1 hm,fun h=>h,List.prefix_refl _⟩
 |false=>
  refine⟨fun x hx=>List.mem_append_left _ hx,by simp,fun h=> ?_,List.prefix_append _ _⟩
  show(acc++[r]).Nodup
  rw[List.nodup_append]
  refine⟨h,by simp,fun a ha b hb=> ?_⟩
  simp at hb;subst hb
  rintro rfl
  rw[i87.2 ha]at hm;cases hm
mutual
def e99(ids:List Nat):AV→Prop
 | .own r _=>r∈ids
 | .sub r _ _ _ _=>r∈ids
 | .cell r _ _=>r∈ids
 | .agg l=>kr2 ids l
 | .tup l=>kr2 ids l
 | .fn _ l=>kr2 ids l
 |_=>True
def kr2(ids:List Nat):List AV→Prop
 | []=>True
 |a::l=>e99 ids a∧kr2 ids l
end
mutual
theorem e99.mono{ids ids':List Nat}(h: ∀x∈ids,x∈ids'): ∀{a:AV},e99 ids a→e99 ids' a
 | .own r _,hc=>by rw[e99]at hc⊢;exact h r hc
 | .sub r _ _ _ _,hc=>by rw[e99]at hc⊢;exact h r hc
 | .cell r _ _,hc=>by rw[e99]at hc⊢;exact h r hc
 | .agg l,hc=>by rw[e99]at hc⊢;exact kr2.mono h hc
 | .tup l,hc=>by rw[e99]at hc⊢;exact kr2.mono h hc
 | .fn _ l,hc=>by rw[e99]at hc⊢;exact kr2.mono h hc
 | .x _,_=>by rw[e99]<;>simp
 | .fz _ _,_=>by rw[e99]<;>simp
 | .fzc _ _ _,_=>by rw[e99]<;>simp
theorem kr2.mono{ids ids':List Nat}(h: ∀x∈ids,x∈ids'): ∀{l:List AV},kr2 ids l→kr2 ids' l
 | [],_=>by rw[kr2];trivial
 |a::l,hc=>by rw[kr2]at hc⊢;exact⟨e99.mono h hc.1,kr2.mono h hc.2⟩
end
mutual
theorem at4: ∀(a:AV) (acc:List Nat),(acc<+:rts acc a)∧e99 (rts acc a) a∧(acc.Nodup→(rts acc a).Nodup)
 | .own r _,acc=>by rw[rts,e99];have:=w21 (r:=r) (acc:=acc);exact⟨this.2.2.2,this.2.1,this.2.2.1⟩
 | .sub r _ _ _ _,acc=>by rw[rts,e99];have:=w21 (r:=r) (acc:=acc);exact⟨this.2.2.2,this.2.1,this.2.2.1⟩
 | .cell r _ _,acc=>by rw[rts,e99];have:=w21 (r:=r) (acc:=acc);exact⟨this.2.2.2,this.2.1,this.2.2.1⟩
 | .agg l,acc=>by rw[rts,e99];exact tf6 l acc
 | .tup l,acc=>by rw[rts,e99];exact tf6 l acc
 | .fn _ l,acc=>by rw[rts,e99];exact tf6 l acc
 | .x _,acc=>by rw[rts,e99]<;>simp
 | .fz _ _,acc=>by rw[rts,e99]<;>simp
 | .fzc _ _ _,acc=>by rw[rts,e99]<;>simp
theorem tf6: ∀(l:List AV) (acc:List Nat),(acc<+:rtsL acc l)∧kr2 (rtsL acc l) l∧(acc.Nodup→(rtsL acc l).Nodup)
 | [],acc=>by rw[rtsL,kr2];exact⟨List.prefix_refl _,trivial,fun h=>h⟩
 |a::l,acc=>by
  rw[rtsL,kr2]
  obtain⟨h1,h2,h3⟩:=at4 a acc
  obtain⟨k1,k2,k3⟩:=tf6 l (rts acc a)
  exact⟨h1.trans k1,⟨e99.mono (fun x hx=>k1.subset hx) h2,k2⟩,fun h=>k3 (h3 h)⟩
end
theorem bq5: ∀(l:List (Nat×AV)) (acc:List Nat),(acc<+:rtsF acc l)∧(∀x∈l,e99 (rtsF acc l) x.2)∧(acc.Nodup→(rtsF acc l).Nodup)
 | [],acc=>⟨List.prefix_refl _,fun x hx=>(by cases hx),fun h=>h⟩
 |a::l,acc=>by
  rw[rtsF]
  obtain⟨h1,h2,h3⟩:=at4 a.2 acc
  obtain⟨k1,k2,k3⟩:=bq5 l (rts acc a.2)
  refine⟨h1.trans k1,fun x hx=> ?_,fun h=>k3 (h3 h)⟩
  rcases List.mem_cons.1 hx with rfl|hx
  ·exact e99.mono (fun y hy=>k1.subset hy) h2
  ·exact k2 x hx
theorem w03{r:Nat}: ∀{ids:List Nat},r∈ids→ids[place r ids]? =some r
 | [],h=>by cases h
 |a::ids,h=>by
  rw[place]
  cases hb:Nat.beq r a with
  |true=>rw[p67.1 hb];rfl
  |false=>
   have:r≠a:=fun e=>by rw[p67.2 e]at hb;cases hb
   rcases List.mem_cons.1 h with h|h
   ·exact absurd h this
   ·show(a::ids)[place r ids+1]? =_
    rw[List.getElem?_cons_succ];exact w03 h
theorem vn2{A:List AT}{ids:List Nat}{r:Nat}(hr:r<A.length)(hm:r∈ids)(p:List Nat):place r ids<(ids.map (sel A)).length∧aget (ids.map (sel A)) (place r ids) p=aget A r p:=by
 have h1:=w03 hm
 refine⟨by rw[List.length_map];exact(List.getElem?_eq_some_iff.1 h1).1, ?_⟩
 unfold aget
 rw[List.getElem?_map,h1]
 unfold sel
 simp only[Option.map_some]
 rw[List.getElem?_eq_getElem hr];rfl
mutual
theorem hy4{h:H}{A:List AT}{Z Zp:Nat→Prop}{ids:List Nat}: ∀{a:AV} {w:Value},VR h A Z Zp a w→e99 ids a→VR h (ids.map (sel A)) Z Zp (vren ids a) w
 | .x v,w,hr,_=>by rw[vren,VR];rw[VR]at hr;exact hr
 | .fz b t,w,hr,_=>by rw[vren,VR];rw[VR]at hr;exact hr
 | .fzc b cs j,w,hr,_=>by rw[vren,VR];rw[VR]at hr;exact hr
 | .own r p,w,hr,hc=>by
   rw[vren,VR];rw[VR]at hr;rw[e99]at hc
   obtain⟨h1,h2⟩:=vn2 hr.1 hc p
   exact⟨h1,fun b hb=>hr.2 b (by rw[←h2];exact hb)⟩
 | .sub r p u lo n,w,hr,hc=>by
   rw[vren,VR];rw[VR]at hr;rw[e99]at hc
   obtain⟨h1,h2⟩:=vn2 hr.1 hc p
   exact⟨h1,fun b hb=>hr.2 b (by rw[←h2];exact hb)⟩
 | .cell r p j,w,hr,hc=>by
   rw[vren,VR];rw[VR]at hr;rw[e99]at hc
   obtain⟨h1,h2⟩:=vn2 hr.1 hc p
   exact⟨h1,fun b hb=>hr.2 b (by rw[←h2];exact hb)⟩
 | .agg l,w,hr,hc=>by
   rw[vren,VR];rw[VR]at hr;rw[e99]at hc
   obtain⟨ws,h1,h2⟩:=hr
   exact⟨ws,h1,oa7 h2 hc⟩
 | .tup l,w,hr,hc=>by
   rw[vren,VR];rw[VR]at hr;rw[e99]at hc
   obtain⟨ws,h1,h2⟩:=hr
   exact⟨ws,h1,oa7 h2 hc⟩
 | .fn f l,w,hr,hc=>by
   rw[vren,VR];rw[VR]at hr;rw[e99]at hc
   obtain⟨ws,h1,h2⟩:=hr
   exact⟨ws,h1,oa7 h2 hc⟩
theorem oa7{h:H}{A:List AT}{Z Zp:Nat→Prop}{ids:List Nat}: ∀{l:List AV} {ws:List Value},VRL h A Z Zp l ws→kr2 ids l→VRL h (ids.map (sel A)) Z Zp (px1 ids l) ws
 | [],ws,hr,_=>by rw[px1];rw[VRL]at hr⊢;exact hr
 |a::l,ws,hr,hc=>by
  rw[VRL]at hr
  rw[kr2]at hc
  obtain⟨w,ws',rfl,h1,h2⟩:=hr
  rw[px1]
  exact .cons (hy4 h1 hc.1) (oa7 h2 hc.2)
end
theorem of6: ∀n,(hh2 n).length=n
 |0=>rfl
 |n+1=>by rw[hh2,List.length_append,of6 n];rfl
theorem m93: ∀{n i:Nat},i<n→(hh2 n)[i]? =some i
 |0,i,h=>by omega
 |n+1,i,h=>by
  rw[hh2]
  by_cases hi:i<n
  ·rw[List.getElem?_append_left (by rw[of6];exact hi)];exact m93 hi
  ·obtain rfl:i=n:=by omega
   rw[List.getElem?_append_right (by rw[of6];exact Nat.le_refl _),of6,Nat.sub_self];rfl
theorem y43: ∀n,(hh2 n).Nodup
 |0=>List.nodup_nil
 |n+1=>by
  rw[hh2,List.nodup_append]
  refine⟨y43 n,by simp,fun a ha b hb=> ?_⟩
  simp at hb;subst hb
  obtain⟨i,hi⟩:=List.getElem?_of_mem ha
  have hl:=(List.getElem?_eq_some_iff.1 hi).1
  rw[of6]at hl
  rw[m93 hl]at hi
  cases hi;omega
section
variable {h:H} {A:List AT} {Z Zp:Nat→Prop} {fr:VFr} {f:Fr}
theorem of9(hf:FRV h A Z Zp fr f): ∀{ks:List Nat},FRV h A Z Zp (VFr.of (fr.keep ks)) (Fr.of (hy3 f ks))
 | [],t,a,ha=>by cases ha
 |k::ks,t,a,ha=>by
  rw[VFr.keep]at ha
  cases hk:fr k with
  |none=>
   rw[hk]at ha
   obtain⟨w,h1,h2⟩:=of9 hf (ks:=ks) t a ha
   rw[hy3]
   cases hkf:f k with
   |none=>exact⟨w,h1,h2⟩
   |some v=>
    --a slot that is not known,but kept by the first machine
    by_cases htk:t=k
    ·subst htk
     exfalso
     have: ∀ks:List Nat,VFr.of (fr.keep ks) t=some a→fr t=some a:=by
      intro ks
      induction ks with
      |nil=>intro h;cases h
      |cons j ks ih=>
       intro h
       rw[VFr.keep]at h
       cases hj:fr j with
       |none=>rw[hj]at h;exact ih h
       |some b=>
        rw[hj]at h
        simp only[VFr.of]at h
        cases hb:Nat.beq t j with
        |true=>rw[hb]at h;cases h;rw[p67.1 hb];exact hj
        |false=>rw[hb]at h;exact ih h
     rw[this ks ha]at hk;cases hk
    ·refine⟨w, ?_,h2⟩
     simp only[Fr.of]
     have hb:Nat.beq t k=false:=by
      cases hb:Nat.beq t k with
      |true=>exact absurd (p67.1 hb) htk
      |false=>rfl
     rw[hb];exact h1
  |some b=>
   rw[hk]at ha
   simp only[VFr.of]at ha
   obtain⟨wb,h3,h4⟩:=hf k b hk
   rw[hy3,h3]
   cases hb:Nat.beq t k with
   |true=>
    rw[hb]at ha
    cases ha
    exact⟨wb,by simp only[Fr.of,hb];rfl,h4⟩
   |false=>
    rw[hb]at ha
    obtain⟨w,h1,h2⟩:=of9 hf (ks:=ks) t a ha
    exact⟨w,by simp only[Fr.of,hb];exact h1,h2⟩
theorem iw7{ids:List Nat}: ∀{l:List (Nat×AV)} {t:Nat} {a:AV},VFr.of (h09 ids l) t=some a→ ∃b,VFr.of l t=some b∧a=vren ids b∧ ∃x∈l,x.2=b
 | [],t,a,ha=>by cases ha
 |(s,b)::l,t,a,ha=>by
  rw[h09]at ha
  simp only[VFr.of]at ha⊢
  cases hb:Nat.beq t s with
  |true=>rw[hb]at ha;cases ha;exact⟨b,rfl,rfl,(s,b),by simp,rfl⟩
  |false=>
   rw[hb]at ha
   obtain⟨c,h1,h2,x,h3,h4⟩:=iw7 (l:=l) ha
   exact⟨c,h1,h2,x,by simp[h3],h4⟩
theorem m78(i:Inv h A Z Zp)(hf:FRV h A Z Zp fr f){c:Ctx}(hn:c.n≤A.length)(kh:List Nat): ∃A',(ja9 c (fr.keep kh) (A.map AT.era)).2=A'.map AT.era∧Inv h A' Z Zp∧FRV h A' Z Zp (VFr.of (ja9 c (fr.keep kh) (A.map AT.era)).1) (Fr.of (hy3 f kh))∧c.n≤A'.length∧(∀x,(fpL A').count x≤(fpL A).count x)∧ ∀j,j<c.n→A'[j]? =A[j]? :=by
 obtain⟨h1,h2,h3⟩:=bq5 (fr.keep kh) (hh2 c.n)
 have hnd:=h3 (y43 _)
 refine⟨(rtsF (hh2 c.n) (fr.keep kh)).map (sel A),nt5 A _,os9 i hnd,fun t a ha=> ?_, ?_,fun x=>rp9 x _ _ hnd,fun j hj=> ?_⟩
 ·obtain⟨b,k1,rfl,x,k3,k4⟩:=iw7 ha
  obtain⟨w,k5,k6⟩:=of9 hf t b k1
  exact⟨w,k5,hy4 k6 (by rw[←k4];exact h2 x k3)⟩
 ·rw[List.length_map]
  have:=h1.length_le
  rw[of6]at this;exact this
 ·obtain⟨t,ht⟩:=h1
  rw[List.getElem?_map,←ht,List.getElem?_append_left (by rw[of6];exact hj),m93 hj]
  simp only[Option.map_some,sel]
  rw[List.getElem?_eq_getElem (by omega)];rfl
end
def jp1(T:Tab)(g:VGo):Prop:= ∀(c:Ctx) (ks:List It) (fr:VFr) (R:Rts) (r:VRes),g c ks fr R=some r→ ∀(h:H) (A:List AT) (Z Zp:Nat→Prop) (f:Fr),R=A.map AT.era→Inv h A Z Zp→FRV h A Z Zp fr f→c.n≤A.length→
 ∃w h' K S Z' Zp',go T c.rs ks f h=some (w,h')∧Post h A Zp c.n r w h' K S Z' Zp'
theorem u62{h:H}{A:List AT}{Z Zp:Nat→Prop}: ∀{vs:List AV} {ws:List Value} {n:Nat},VRL h A Z Zp vs ws→FRV h A Z Zp (VFr.args n vs) (Fr.args n ws)
 | [],ws,n,hr,t,a,ha=>by cases ha
 |v::vs,ws,n,hr,t,a,ha=>by
  rw[VRL]at hr
  obtain⟨w,ws',rfl,h1,h2⟩:=hr
  simp only[VFr.args]at ha
  simp only[Fr.args]
  cases hb:Nat.beq t n with
  |true=>rw[hb]at ha;cases ha;exact⟨w,rfl,h1⟩
  |false=>rw[hb]at ha;exact u62 h2 t a ha
theorem z23{W:VW}(hP: ∀f p vs C r,W.P f=some p→p vs C=some r→VOK W.T f vs C r){g:VGo}(hg:jp1 W.T g)(f:FuncId)(vs:List AV)(C:Rts)(r:VRes)(he:s20 W g f vs C=some r):VOK W.T f vs C r:=by
 unfold s20 at he
 split at he
 ·exact hP f _ vs C r ‹_› he
 ·split at he
  ·rename_i F hF
   split at he
   ·rename_i hl
    intro h Ac Z Zp ws i hC hv hk
    obtain⟨w,h',K,S,Z',Zp',h1,h2⟩:=hg _ _ _ _ _ he h Ac Z Zp (Fr.args 0 ws) hC i (u62 hv) (by rw[hC];simp)
    rw[hC,List.length_map]at h2
    refine⟨w,h',K,S,Z',Zp', ?_,h2⟩
    rw[wn8 hF (by rw[hv.len,hl])]
    exact h1
   ·cases he
  ·cases he
theorem Post.after{h h1:H}{A A1:List AT}{Zp Zp1:Nat→Prop}{n:Nat}{r:VRes}{w:Value}{h':H}{K S:List AT}{Z' Zp':Nat→Prop}(P:Post h1 A1 Zp1 n r w h' K S Z' Zp')(e:Ext h A Zp h1 A1 Zp1)(hp: ∀(i:Nat) (a k:AT),i<n→A[i]? =some a→A1[i]? =some k→k.val=a.val∧(a.isV=false→k.isV=false))(hn:n≤A1.length):Post h A Zp n r w h' K S Z' Zp':=by
 refine⟨P.s,P.k,P.inv,e.trans P.ext,P.v,P.len,fun i a k h1 h2=> ?_⟩
 have hi:i<n:=by rw[←P.len];exact(List.getElem?_eq_some_iff.1 h2).1
 have hA1:=List.getElem?_eq_getElem (show i<A1.length by omega)
 obtain⟨p1,p2⟩:=hp i a _ hi h1 hA1
 obtain⟨q1,q2⟩:=P.pin i _ k hA1 h2
 exact⟨q1.trans p1,fun hx=>q2 (p2 hx)⟩
theorem fq6{W:VW}(hP: ∀f p vs C r,W.P f=some p→p vs C=some r→VOK W.T f vs C r){g:VGo}(hg:jp1 W.T g):jp1 W.T (vF W g):=by
 intro c ks fr R r he h A Z Zp f hR i hf hn
 subst hR
 have loop: ∀(kh:List Nat) (a:ACode) (ks:List It),g c (.code a:: .lp kh a::ks) (VFr.of (ja9 c (fr.keep kh) (A.map AT.era)).1) (ja9 c (fr.keep kh) (A.map AT.era)).2=some r→ ∃w h' K S Z' Zp',go W.T c.rs (.code a:: .lp kh a::ks) (Fr.of (hy3 f kh)) h=some (w,h')∧Post h A Zp c.n r w h' K S Z' Zp':=fun kh a ks he=>by
  obtain⟨A',k1,k2,k3,k4,k5,k6⟩:=m78 i hf hn kh
  obtain⟨w,h',K,S,Z',Zp',h1,h2⟩:=hg _ _ _ _ _ he h A' Z Zp _ k1 k2 k3 k4
  refine⟨w,h',K,S,Z',Zp',h1,h2.after ⟨Nat.le_refl _,fun _ _ _=>rfl,fun o ho=> .inl (d34.2 (by have:=d34.1 ho;have:=k5 o;omega)),fun _ h=>h,fun _ h=> .inl h⟩ (fun j a k hj e1 e2=> ?_) k4⟩
  rw[k6 j hj,e1]at e2
  cases e2;exact⟨rfl,id⟩
 unfold vF at he
 split at he
 ·obtain⟨w,K,S,Z',Zp',h1,h2⟩:=ac3 i hf hn he
  exact⟨w,h,K,S,Z',Zp',by rw[fq0];exact h1,h2⟩
 ·obtain⟨w,K,S,Z',Zp',h1,h2⟩:=ac3 i hf hn he
  exact⟨w,h,K,S,Z',Zp',by rw[s84];exact h1,h2⟩
 ·rw[xp8];exact hg _ _ _ _ _ he h A Z Zp f rfl i hf hn
 ·cases he
 ·rw[n84];exact hg _ _ _ _ _ he h A Z Zp f rfl i hf hn
 ·split at he
  ·rename_i t h1
   obtain⟨w,h2,h3⟩:=cj0 hf h1
   rw[VR]at h3
   subst h3
   rw[k93,h2]
   have:=hg _ _ _ _ _ he h A Z Zp f rfl i hf hn
   cases t<;>exact this
  ·cases he
 ·rw[aw5];exact hg _ _ _ _ _ he h A Z Zp f rfl i hf hn
 ·rw[zv5];exact loop _ _ _ he
 ·split at he
  ·rename_i ko k h1
   rw[r03,h1]
   exact hg _ _ _ _ _ he h A Z Zp _ rfl i (of9 hf) hn
  ·cases he
 ·split at he
  ·rename_i s h1
   obtain⟨f1,h1',A1,Z1,Zp1,k1,I⟩:=tf5 (hR:=h) (A0:=A) (Z0:=Z) (Zp0:=Zp) (z23 hP hg) i ⟨rfl,i,hf,Ext.refl _ _ _,fun j a k e1 e2=>by rw[e1]at e2;cases e2;exact⟨rfl,id⟩,Nat.le_refl _,fun t a _ ha hz=>(by obtain⟨w,k1,k2⟩:=hf t a ha;exact⟨w,k1,k2.wold hz⟩),fun _=>⟨List.prefix_refl _,⟨[],by simp⟩,fun t a _ ha=>hf t a ha⟩⟩ h1
   rw[ch3]
   have hn1:c.n≤A1.length:=Nat.le_trans hn I.len
   obtain⟨w,h',K,S,Z',Zp',k2,k3⟩:=hg _ _ _ _ _ he h1' A1 Z1 Zp1 f1 I.R I.inv I.fr hn1
   exact⟨w,h',K,S,Z',Zp',by unfold goO;rw[k1];exact k2,k3.after I.ext (fun j a k _ e1 e2=>I.pin j a k e1 e2) hn1⟩
  ·cases he
 ·rw[de3];exact hg _ _ _ _ _ he h A Z Zp _ rfl i (of9 hf) hn
 ·rw[g72];exact loop _ _ _ he
theorem c51{W:VW}(hP: ∀f p vs C r,W.P f=some p→p vs C=some r→VOK W.T f vs C r): ∀n,jp1 W.T (vN W n)
 |0=>fun c ks fr R r he=>by cases he
 |n+1=>fq6 hP (c51 hP n)
theorem x11{W:VW}(hP: ∀f p vs C r,W.P f=some p→p vs C=some r→VOK W.T f vs C r):jp1 W.T (vgo W):=fun c ks fr R r he=>by
 obtain⟨n,hn⟩:=yi2.1 he
 exact c51 hP n c ks fr R r hn
theorem lw9{W:VW}(hP: ∀f p vs C r,W.P f=some p→p vs C=some r→VOK W.T f vs C r){f:FuncId}{vs:List AV}{C:Rts}{r:VRes}(he:o24 W f vs C=some r):VOK W.T f vs C r:=z23 hP (x11 hP) f vs C r he
end Go.Vm
namespace Go.Vm
open Go.Am
section
variable {W:VW} {c:Ctx}
noncomputable def vgoL (W:VW) (c:Ctx) (kh:List Nat) (a:ACode) (ks:List It) (l:List (Nat×AV)) (R:Rts):Option VRes:=vgo W c (.code a:: .lp kh a::ks) (VFr.of l) R
noncomputable def vgoO (W:VW) (c:Ctx) (l:List AOper) (ks:List It) (s:VReg):Option VRes:=match x27 W (vgo W) c.h l s with
 |some s=>vgo W c ks s.fr s.R
 |none=>none
noncomputable def vgoT (W:VW) (c:Ctx) (o:AOper) (l:List AOper) (ks:List It) (s:VReg):Option (Option AV×Rts×Option (List Nat))→Option VRes
 |some r=>vgoO W c l ks (m63 o s r)
 |none=>none
noncomputable def vgoG (W:VW) (c:Ctx) (o:AOper) (l:List AOper) (ks:List It) (s:VReg):Option Bool→Option VRes
 |some true=>vgoT W c o l ks s (ej2 W (vgo W) c.h o s.fr s.R s.y s.dt)
 |some false=>vgoO W c l ks (pp0 o s)
 |none=>none
noncomputable def vgoC (W:VW) (c:Ctx) (a b:ACode) (ks:List It) (fr:VFr) (R:Rts):Bool→Option VRes
 |true=>vgo W c (.code a::ks) fr R
 |false=>vgo W c (.code b::ks) fr R
noncomputable def vgoX (W:VW) (c:Ctx) (fr:VFr) (R:Rts):Option (List Nat×List It)→Option VRes
 |some (ko,k)=>vgo W c k (VFr.of (fr.keep ko)) R
 |none=>none
variable {ks:List It} {fr:VFr} {R:Rts}
@[push_cast] theorem vy6:vgo W c [] fr R=vret c fr R:=by rw[y68];rfl
@[push_cast] theorem n38:vgo W c (.code .ret::ks) fr R=vret c fr R:=by rw[y68];rfl
@[push_cast] theorem cs1:vgo W c (.code .skip::ks) fr R=vgo W c ks fr R:=by rw[y68];rfl
@[push_cast] theorem b50{a b:ACode}:vgo W c (.code (.seq a b)::ks) fr R=vgo W c (.code a:: .code b::ks) fr R:=by rw[y68];rfl
@[push_cast] theorem hf4{x:Operand}{a b:ACode}:vgo W c (.code (.cond x a b)::ks) fr R=match vev fr x with
 |some (.x (.bool t))=>vgoC W c a b ks fr R t
 |_=>none:=by
 rw[y68]
 simp only[vF]
 cases vev fr x with
 |none=>rfl
 |some a=>
  cases a with
  |x v=>
   cases v with
   |bool t=>cases t<;>rfl
   |_=>rfl
  |_=>rfl
@[push_cast] theorem e94{a b:ACode}:vgoC W c a b ks fr R true=vgo W c (.code a::ks) fr R:=rfl
@[push_cast] theorem yf9{a b:ACode}:vgoC W c a b ks fr R false=vgo W c (.code b::ks) fr R:=rfl
@[push_cast] theorem pm4{id:Nat}{ko:List Nat}{a:ACode}:vgo W c (.code (.block id ko a)::ks) fr R=vgo W c (.code a:: .blk id ko::ks) fr R:=by rw[y68];rfl
@[push_cast] theorem en8{id:Nat}{ko:List Nat}:vgo W c (.blk id ko::ks) fr R=vgo W c ks (VFr.of (fr.keep ko)) R:=by rw[y68];rfl
@[push_cast] theorem n74{kh:List Nat}{a:ACode}:vgo W c (.code (.loop kh a)::ks) fr R=vgoL W c kh a ks (ja9 c (fr.keep kh) R).1 (ja9 c (fr.keep kh) R).2:=by rw[y68];rfl
@[push_cast] theorem uv2{kh:List Nat}{a:ACode}:vgo W c (.lp kh a::ks) fr R=vgoL W c kh a ks (ja9 c (fr.keep kh) R).1 (ja9 c (fr.keep kh) R).2:=by rw[y68];rfl
theorem sb5{kh:List Nat}{a a':ACode}(ha:a=a'){l:List (Nat×AV)}:vgoL W c kh a ks l R=vgo W c (.code a':: .lp kh a::ks) (VFr.of l) R:=by subst ha;rfl
@[push_cast] theorem id3{id:Nat}:vgo W c (.code (.exit id)::ks) fr R=vgoX W c fr R (gc2 id ks):=by
 rw[y68];simp only[vF];unfold vgoX;split<;>split<;>simp_all
@[push_cast] theorem j68{ko:List Nat}{k:List It}:vgoX W c fr R (some (ko,k))=vgo W c k (VFr.of (fr.keep ko)) R:=rfl
@[push_cast] theorem in8{l:List AOper}:vgo W c (.code (.region l)::ks) fr R=vgoO W c l ks ⟨fr,R,[],false⟩:=by rw[y68];rfl
@[push_cast] theorem zw6{s:VReg}:vgoO W c [] ks s=vgo W c ks s.fr s.R:=rfl
@[push_cast] theorem lv9{o:AOper}{l:List AOper}{s:VReg}:vgoO W c (o::l) ks s=vgoG W c o l ks s (vgd s.fr o.guard):=by
 unfold vgoO
 simp only[x27]
 unfold yi8 vgoG
 cases vgd s.fr o.guard with
 |none=>rfl
 |some b=>
  cases b with
  |false=>rfl
  |true=>
   simp only[]
   unfold vgoT
   cases ej2 W (vgo W) c.h o s.fr s.R s.y s.dt<;>rfl
@[push_cast] theorem fe9{o:AOper}{l:List AOper}{s:VReg}:vgoG W c o l ks s (some true)=vgoT W c o l ks s (ej2 W (vgo W) c.h o s.fr s.R s.y s.dt):=rfl
@[push_cast] theorem fl2{o:AOper}{l:List AOper}{s:VReg}:vgoG W c o l ks s (some false)=vgoO W c l ks (pp0 o s):=rfl
@[push_cast] theorem yn7{o:AOper}{l:List AOper}{s:VReg}{r:Option AV×Rts×Option (List Nat)}:vgoT W c o l ks s (some r)=vgoO W c l ks (m63 o s r):=rfl
@[push_cast] theorem z28{f:FuncId}{vs:List AV}{C:Rts}:s20 W (vgo W) f vs C=o24 W f vs C:=rfl
theorem o10{f:FuncId}{F:AFun}{vs:List AV}{C:Rts}(hP:W.P f=none)(hT:W.T f=some F)(hl:vs.length=F.nargs):o24 W f vs C=vgo W ⟨W.H f,F.results,C.length⟩ [.code F.code] (VFr.args 0 vs) C:=by
 unfold o24 s20;rw[hP,hT];simp only;rw[if_pos hl]
theorem xr5{f:FuncId}{p:List AV→Rts→Option VRes}{vs:List AV}{C:Rts}(hP:W.P f=some p):o24 W f vs C=p vs C:=by
 unfold o24 s20;rw[hP]
@[push_cast] theorem kb4{o:AOper}{s:VReg}{v:Option AV}{R:Rts}:m63 o s (v,R,none)=⟨s.fr.put o.dst v,R,qq0 s.fr s.y s.dt o,s.dt⟩:=rfl
@[push_cast] theorem oq3{o:AOper}{s:VReg}{v:Option AV}{R:Rts}{ks:List Nat}:m63 o s (v,R,some ks)=⟨(s.fr.inv ks).put o.dst v,R,(match o.dst with
 |none=>s.y
 |some d=>d::s.y),true⟩:=rfl
@[push_cast] theorem yn9{o:AOper}{s:VReg}:pp0 o s=⟨s.fr.put o.dst (some (.tup [])),s.R,match o.dst with
 |none=>s.y
 |some d=>d::s.y,s.dt⟩:=rfl
@[push_cast] theorem a58{s t:Nat}{v:AV}:VFr.set fr s v t=bif Nat.beq t s then some v else fr t:=rfl
@[push_cast] theorem ik3{s t:Nat}:VFr.del fr s t=bif Nat.beq t s then none else fr t:=rfl
@[push_cast] theorem r77{t:Nat}:VFr.of [] t=none:=rfl
@[push_cast] theorem o70{t k:Nat}{v:AV}{r:List (Nat×AV)}:VFr.of ((k,v)::r) t=bif Nat.beq t k then some v else VFr.of r t:=rfl
@[push_cast] theorem se0{n t:Nat}:VFr.args n [] t=none:=rfl
@[push_cast] theorem dp8{n t:Nat}{v:AV}{r:List AV}:VFr.args n (v::r) t=bif Nat.beq t n then some v else VFr.args (n+1) r t:=rfl
@[push_cast] theorem fb9{s:Nat}{v:AV}:VFr.put fr (some s) (some v)=fr.set s v:=rfl
@[push_cast] theorem a75{s:Nat}:VFr.put fr (some s) none=fr.del s:=rfl
@[push_cast] theorem g13{v:Option AV}:VFr.put fr none v=fr:=by cases v<;>rfl
@[push_cast] theorem l32:VFr.inv fr []=fr:=rfl
@[push_cast] theorem sk5{r:Nat}{l:List Nat}:VFr.inv fr (r::l)=(fr.inv1 r).inv l:=rfl
@[push_cast] theorem cc2{r t:Nat}:VFr.inv1 fr r t=match fr t with
 |some a=>bif by8 r a then none else some a
 |none=>none:=rfl
end
theorem wq9{lo n u:Nat}{cs:List Tree}:cut lo n u cs=if lo=0∧n*u=cs.length then cs else(cs.drop (lo*u)).take (n*u):=rfl
attribute [push_cast 100] wq9
attribute [push_cast] VFr.keep vgd ej2 gd0 qq0 vw0 vadr bt7 iv1 e26 memN jk4 memO g57 er6 vev vevs vx vxs vxo one cellsOf ofz ofzL az9 vptr vsl ia8 vbx vy4 ek8 VP.off k12 VP.av hq6 z22 VS.part VS.unit jk vsrc r48 repT p54 oa5 vevp lu1 vop vdo kj1 me2 ua3 cb9 h05 og4 sr7 so3 deep uc8 ei9 mk1 vout vx6 og6 zp6 vone vret rts rtsL rtsF place vren px1 h09 x53 hh2 by8 dr4 j61 ja9 rget rset Tree.kids Tree.setKids Tree.get Tree.upd strip jj5 setL re2
@[push_cast] theorem ec9{u:Nat}{k:IntKind}{n:Int}:vpx u (.int k n)= .x (.int k n):=rfl
@[push_cast] theorem xb6{u:Nat}{b:Bool}:vpx u (.bool b)= .x (.bool b):=rfl
@[push_cast] theorem da8{u:Nat}{b:ByteArray}:vpx u (.string b)= .x (.string b):=rfl
@[push_cast] theorem rs0{u:Nat}{p:Option Addr}:vpx u (.pointer p)= .x (.pointer p):=rfl
@[push_cast] theorem ec7{u:Nat}:vpx u (.slice none 0 0)=if u=0 then .x (.slice none 0 0)else .fz true (.sl 1 0 u []):=rfl
@[push_cast] theorem hi6{R:Rts}{u:Nat}{k:IntKind}{n:Int}:np8 R u (.x (.int k n))=some (.x (.int k n)):=by unfold np8;rfl
@[push_cast] theorem vs6{R:Rts}{u:Nat}{b:Bool}:np8 R u (.x (.bool b))=some (.x (.bool b)):=by unfold np8;rfl
@[push_cast] theorem ek7{R:Rts}{u:Nat}{b:ByteArray}:np8 R u (.x (.string b))=some (.x (.string b)):=by unfold np8;rfl
@[push_cast] theorem ox9{R:Rts}{u:Nat}:np8 R u (.x (.slice none 0 0))=if u=0 then none else some (.fz true (.sl 1 0 u [])):=by unfold np8;rfl
@[push_cast] theorem s95{R:Rts}{u:Nat}:np8 R u (.x (.pointer none))=some (.x (.pointer none)):=by unfold np8;rfl
@[push_cast] theorem lh2{R:Rts}{u:Nat}{b:Bool}{t:Tree}:np8 R u (.fz b t)=some (.fz b t):=by unfold np8;rfl
@[push_cast] theorem tg6{R:Rts}{u:Nat}{b:Bool}{cs:List Tree}{i:Nat}:np8 R u (.fzc b cs i)=some (.fzc b cs i):=by unfold np8;rfl
@[push_cast] theorem j46{R:Rts}{u r:Nat}{p:List Nat}:np8 R u (.own r p)=match rget R r p with
 |some (.fz t)=>some (.fz true t)
 |some s=>if isNode s then some (.fz false (strip s))else none
 |none=>none:=by unfold np8;rfl
@[push_cast] theorem td2{R:Rts}{u r:Nat}{p:List Nat}{u0 lo n:Nat}:np8 R u (.sub r p u0 lo n)=match rget R r p with
 |some (.sl nl e w cs)=>if(lo+n)*w≤cs.length∧w=u0 then some (.fz false (.sl (if nl=0 then 0 else 2) 0 w (jj5 ((cs.drop (lo*w)).take (n*w)))))else none
 |_=>none:=by unfold np8;rfl
@[push_cast] theorem dt6{R:Rts}{u:Nat}{l:List AV}:np8 R u (.agg l)=match re2 R u l with
 |some l=>some (.agg l)
 |none=>none:=by unfold np8;rfl
@[push_cast] theorem ho6{R:Rts}{u:Nat}{f:FuncId}{l:List AV}:np8 R u (.fn f l)=match re2 R u l with
 |some l=>some (.fn f l)
 |none=>none:=by unfold np8;rfl
section
variable {h:Hint} {R:Rts} {d:Option Nat}
@[push_cast] theorem we2{k:IntKind}{n:Int}:vnil h R d (.x (.int k n))=(.x (.int k n),R):=rfl
@[push_cast] theorem dg1{b:Bool}:vnil h R d (.x (.bool b))=(.x (.bool b),R):=rfl
@[push_cast] theorem fh9{b:ByteArray}:vnil h R d (.x (.string b))=(.x (.string b),R):=rfl
@[push_cast] theorem hd4{a:Option Addr}:vnil h R d (.x (.pointer a))=(.x (.pointer a),R):=rfl
@[push_cast] theorem jy6:vnil h R d (.x .nilFunc)=(.x .nilFunc,R):=rfl
@[push_cast] theorem q09{b:Bool}{t:Tree}:vnil h R d (.fz b t)=(.fz b t,R):=rfl
@[push_cast] theorem l53{b:Bool}{cs:List Tree}{i:Nat}:vnil h R d (.fzc b cs i)=(.fzc b cs i,R):=rfl
@[push_cast] theorem dg2{r:Nat}{p:List Nat}:vnil h R d (.own r p)=(.own r p,R):=rfl
@[push_cast] theorem zm2{r:Nat}{p:List Nat}{u lo n:Nat}:vnil h R d (.sub r p u lo n)=(.sub r p u lo n,R):=rfl
@[push_cast] theorem t43{r:Nat}{p:List Nat}{i:Nat}:vnil h R d (.cell r p i)=(.cell r p i,R):=rfl
@[push_cast] theorem kl1{l:List AV}:vnil h R d (.agg l)=(.agg l,R):=rfl
@[push_cast] theorem ob9{l:List AV}:vnil h R d (.tup l)=(.tup l,R):=rfl
@[push_cast] theorem i11{f:FuncId}{l:List AV}:vnil h R d (.fn f l)=(.fn f l,R):=rfl
@[push_cast] theorem we3{s:Nat}:vnil h R (some s) (.x (.slice none 0 0))=match jk4 s h.nil with
 |some (e,u)=>if u=0 then(.x (.slice none 0 0),R)else(.own R.length [],R++[.sl 1 e u []])
 |none=>(.x (.slice none 0 0),R):=rfl
@[push_cast] theorem hw5{k:IntKind}{n:Int}:vmvd h d (.x (.int k n))=none:=rfl
@[push_cast] theorem sh1{b:Bool}:vmvd h d (.x (.bool b))=none:=rfl
@[push_cast] theorem fw8{b:ByteArray}:vmvd h d (.x (.string b))=none:=rfl
@[push_cast] theorem c09{a:Option Addr}:vmvd h d (.x (.pointer a))=none:=rfl
@[push_cast] theorem sb9:vmvd h d (.x .nilFunc)=none:=rfl
@[push_cast] theorem he6{b:Bool}{t:Tree}:vmvd h d (.fz b t)=none:=rfl
@[push_cast] theorem op2{b:Bool}{cs:List Tree}{i:Nat}:vmvd h d (.fzc b cs i)=none:=rfl
@[push_cast] theorem ca1{r:Nat}{p:List Nat}:vmvd h d (.own r p)=none:=rfl
@[push_cast] theorem y21{r:Nat}{p:List Nat}{u lo n:Nat}:vmvd h d (.sub r p u lo n)=none:=rfl
@[push_cast] theorem eo4{r:Nat}{p:List Nat}{i:Nat}:vmvd h d (.cell r p i)=none:=rfl
@[push_cast] theorem al1{l:List AV}:vmvd h d (.agg l)=none:=rfl
@[push_cast] theorem tm4{l:List AV}:vmvd h d (.tup l)=none:=rfl
@[push_cast] theorem fc8{f:FuncId}{l:List AV}:vmvd h d (.fn f l)=none:=rfl
@[push_cast] theorem fq3{s:Nat}:vmvd h (some s) (.x (.slice none 0 0))=match jk4 s h.nil with
 |some (e,u)=>if u=0 then none else some []
 |none=>none:=rfl
@[push_cast] theorem dc1{sh:Bool}{k:IntKind}{n:Int}:vput sh R (.x (.int k n))=some (.v (.int k n),R):=rfl
@[push_cast] theorem jn7{sh:Bool}{b:Bool}:vput sh R (.x (.bool b))=some (.v (.bool b),R):=rfl
@[push_cast] theorem yz6{sh:Bool}{b:ByteArray}:vput sh R (.x (.string b))=some (.v (.string b),R):=rfl
@[push_cast] theorem r07{sh:Bool}{a:Option Addr}{n c:Nat}:vput sh R (.x (.slice a n c))=some (.v (.slice a n c),R):=rfl
@[push_cast] theorem ce1{sh:Bool}{a:Option Addr}:vput sh R (.x (.pointer a))=some (.v (.pointer a),R):=rfl
@[push_cast] theorem gw7{sh:Bool}{t:Tree}:vput sh R (.fz true t)=if isNode t then some (.fz t,R)else none:=rfl
@[push_cast] theorem j72{sh:Bool}{r:Nat}{p:List Nat}:vput sh R (.own r p)=match rget R r p with
 |some (.fz t)=>if isNode t then some (.fz t,R)else none
 |some .junk=>some (.junk,R)
 |some s=>if isNode s then if sh then some (.fz (strip s),rset R r p (.fz (strip s)))else some (dull s,rset R r p .junk)else none
 |none=>none:=rfl
@[push_cast] theorem g45{sh:Bool}{f:FuncId}:vput sh R (.fn f [])=some (.fn f [],R):=rfl
@[push_cast] theorem kv9{v:Value}:ia9 none v= .v v:=by unfold ia9;rfl
@[push_cast] theorem vz3{e u:Nat}:ia9 (some (e,u)) (.slice none 0 0)=if u=0 then .v (.slice none 0 0)else .sl 2 e u []:=rfl
@[push_cast] theorem yn8{k:Nat}{v:Value}:wb3 R k (.x v)=anil k v:=by unfold wb3;rfl
end
section
variable {nl e u:Nat} {cs:List Tree} {x:Value} {t:Tree} {f:FuncId}
@[push_cast] theorem t05:isNode (.sl nl e u cs)=true:=rfl
@[push_cast] theorem ta4:isNode (.pt e cs)=true:=rfl
@[push_cast] theorem fs5:isNode (.v x)=false:=rfl
@[push_cast] theorem az4:isNode (.fz t)=false:=rfl
@[push_cast] theorem ve8:isNode (.fn f cs)=false:=rfl
@[push_cast] theorem i22:isNode .junk=false:=rfl
@[push_cast] theorem m07:isNode (.ex (.sl nl e u cs))=true:=rfl
@[push_cast] theorem xx4:isNode (.ex (.pt e cs))=true:=rfl
@[push_cast] theorem xr1:hc9 (.sl nl e u cs)=true:=rfl
@[push_cast] theorem fd5:hc9 (.pt e cs)=true:=rfl
@[push_cast] theorem u43:plain (.v x)=true:=rfl
@[push_cast] theorem z66:plain (.fz t)=true:=rfl
@[push_cast] theorem e27:plain (.sl nl e u cs)=false:=rfl
@[push_cast] theorem eq4:plain (.pt e cs)=false:=rfl
@[push_cast] theorem hv8:plain .junk=false:=rfl
@[push_cast] theorem gx3:dull (.sl nl e u cs)= .sl 2 e u cs:=rfl
@[push_cast] theorem xw0:dull (.pt e cs)= .pt e cs:=rfl
@[push_cast] theorem kq2:isV (.v x)=true:=rfl
@[push_cast] theorem zx5:isV (.sl nl e u cs)=false:=rfl
@[push_cast] theorem te8:isV (.pt e cs)=false:=rfl
@[push_cast] theorem pi1:isV (.fz t)=false:=rfl
@[push_cast] theorem b74:isV .junk=false:=rfl
@[push_cast] theorem fq5:isV (.fn f cs)=false:=rfl
@[push_cast] theorem ka0:fzT (.v x)= .v x:=rfl
@[push_cast] theorem zu8:fzT (.sl nl e u cs)= .fz (.sl nl e u cs):=rfl
@[push_cast] theorem d20:fzT (.pt e cs)= .fz (.pt e cs):=rfl
end
def iv(z:Int):Tree:= .v (.int .i64 z)
def ivs(zs:List Int):List Tree:=zs.map iv
theorem gf1(zs:List Int):(ivs zs).length=zs.length:=by simp[ivs]
theorem ui5{zs:List Int}{i:Nat}(h:i<zs.length):(ivs zs)[i]? =some (.v (.int .i64 (gi zs (i:Int)))):=by
 unfold ivs gi
 rw[List.getElem?_map,Int.toNat_natCast,List.getD_eq_getElem?_getD,List.getElem?_eq_getElem h];rfl
theorem pl3(zs:List Int):(ivs zs).all isV=true:=by simp[ivs,iv,isV]
theorem l78(zs:List Int):(ivs zs).all plain=true:=by simp[ivs,iv,plain]
theorem ap3(zs:List Int):jj5 (ivs zs)=ivs zs:=by rw[gz0];simp[ivs,iv,strip]
theorem so0(zs:List Int):(ivs zs).map fzT=ivs zs:=by simp[ivs,iv,fzT]
theorem lu7(zs:List Int)(i:Nat)(x:Int):(ivs zs).set i (.v (.int .i64 x))=ivs (zs.set i x):=by unfold ivs;rw[List.map_set];rfl
theorem tl5(zs ys:List Int):ivs zs++ivs ys=ivs (zs++ys):=by unfold ivs;rw[List.map_append]
theorem bh4(x:Int):[Tree.v (.int .i64 x)]=ivs [x]:=rfl
theorem nc5(zs:List Int)(x:Int):ivs zs++[Tree.v (.int .i64 x)]=ivs (zs++[x]):=by rw[bh4,tl5]
theorem yp5(zs:List Int)(n:Nat):(ivs zs).drop n=ivs (zs.drop n):=by unfold ivs;rw[List.map_drop]
theorem u42(zs:List Int)(n:Nat):(ivs zs).take n=ivs (zs.take n):=by unfold ivs;rw[List.map_take]
theorem cs7(x:Int): ∀n:Nat,repT [.v (.int .i64 x)] n=ivs (List.replicate n x)
 |0=>rfl
 |n+1=>by rw[repT,cs7 x n,List.replicate_succ];rfl
theorem bj9{n b:Nat}(h:n≤1000000)(hb:b≤1000):few n b=true:=by
 have:n*b≤1000000*1000:=Nat.mul_le_mul h hb
 simp[few];omega
end Go.Vm
namespace Go.Proofs.Ytmhbpecdpiapgaa
open Go.Am Go.Vm
def ct:CT
 |22,0=>some (3,1)
 |30,0=>some (22,1)
 |41,2=>some (22,1)
 |42,2=>some (22,1)
 |120,4=>some (3,1)
 |121,4=>some (3,1)
 |138,0=>some (140,2)
 |172,3=>some (3,1)
 |172,5=>some (3,1)
 |172,6=>some (3,1)
 |173,3=>some (3,1)
 |173,5=>some (3,1)
 |173,6=>some (3,1)
 |202,0=>some (4,1)
 |_,_=>none
abbrev hNo:Hint:=⟨[],[],[],[]⟩
abbrev h3:Hint:=⟨[(18,22,1),(22,3,1)],[],[103],[]⟩
abbrev h6:Hint:=⟨[(25,3,1)],[],[],[]⟩
abbrev h8:Hint:=⟨[(18,22,1)],[],[],[]⟩
abbrev h14:Hint:=⟨[(8,3,1),(9,3,1)],[],[],[]⟩
abbrev h16:Hint:=⟨[(6,22,1)],[],[],[]⟩
abbrev h18:Hint:=⟨[(13,22,1),(14,3,1)],[],[],[]⟩
abbrev h21:Hint:=⟨[(11,22,1)],[],[],[]⟩
abbrev h40:Hint:=⟨[(6,22,1),(7,22,1),(9,3,1)],[],[],[]⟩
abbrev h43:Hint:=⟨[(8,3,1),(9,3,1)],[],[],[]⟩
abbrev h44:Hint:=⟨[(2,3,1)],[],[],[]⟩
abbrev h45:Hint:=⟨[(7,3,1)],[],[],[]⟩
abbrev h50:Hint:=⟨[(10,22,1),(13,22,1)],[],[],[]⟩
abbrev h51:Hint:=⟨[(6,3,1)],[],[],[]⟩
abbrev h54:Hint:=⟨[(10,22,1),(16,22,1),(19,3,1),(24,22,1)],[],[],[]⟩
abbrev h58:Hint:=⟨[(4,22,1),(6,22,1)],[],[],[]⟩
abbrev h59:Hint:=⟨[(4,22,1),(7,22,1)],[],[],[]⟩
abbrev h65:Hint:=⟨[(2,22,1),(3,22,1)],[],[],[]⟩
abbrev h67:Hint:=⟨[(5,22,1)],[],[],[]⟩
abbrev h68:Hint:=⟨[(5,22,1)],[],[],[]⟩
abbrev h72:Hint:=⟨[(7,22,1)],[],[],[]⟩
abbrev h78:Hint:=⟨[(6,3,1),(9,3,1)],[],[],[]⟩
abbrev h79:Hint:=⟨[(6,22,1),(11,22,1)],[],[],[]⟩
abbrev h84:Hint:=⟨[],[48],[],[]⟩
abbrev h90:Hint:=⟨[(2,22,1),(6,22,1)],[],[],[]⟩
abbrev h108:Hint:=⟨[(6,3,1),(9,3,1)],[],[],[]⟩
abbrev h111:Hint:=⟨[(27,22,1)],[],[],[]⟩
abbrev h112:Hint:=⟨[(4,22,1),(11,22,1)],[],[],[]⟩
abbrev h119:Hint:=⟨[(2,3,1)],[],[],[]⟩
abbrev h128:Hint:=⟨[(4,140,2),(5,140,2)],[],[],[]⟩
abbrev h130:Hint:=⟨[(6,3,1)],[],[],[]⟩
abbrev h131:Hint:=⟨[(6,3,1)],[],[],[]⟩
abbrev h139:Hint:=⟨[(6,3,1)],[],[],[]⟩
abbrev h141:Hint:=⟨[(4,3,1)],[],[],[]⟩
abbrev h148:Hint:=⟨[(4,3,1),(5,3,1)],[],[],[]⟩
abbrev h151:Hint:=⟨[(5,3,1)],[71],[],[]⟩
abbrev h170:Hint:=⟨[(13,3,1)],[83],[],[]⟩
abbrev h172:Hint:=⟨[(4,22,1),(5,3,1),(6,22,1),(7,3,1)],[],[],[]⟩
abbrev h177:Hint:=⟨[(6,3,1),(7,3,1)],[],[],[]⟩
abbrev h190:Hint:=⟨[(6,3,1)],[],[],[]⟩
abbrev h192:Hint:=⟨[(6,3,1)],[],[],[]⟩
abbrev h209:Hint:=⟨[(8,3,1),(9,3,1)],[],[],[]⟩
def vH:FuncId→Hint
 |3=>h3
 |6=>h6
 |8=>h8
 |14=>h14
 |16=>h16
 |18=>h18
 |21=>h21
 |40=>h40
 |43=>h43
 |44=>h44
 |45=>h45
 |50=>h50
 |51=>h51
 |54=>h54
 |58=>h58
 |59=>h59
 |65=>h65
 |67=>h67
 |68=>h68
 |72=>h72
 |78=>h78
 |79=>h79
 |84=>h84
 |90=>h90
 |108=>h108
 |111=>h111
 |112=>h112
 |119=>h119
 |128=>h128
 |130=>h130
 |131=>h131
 |139=>h139
 |141=>h141
 |148=>h148
 |151=>h151
 |170=>h170
 |172=>h172
 |177=>h177
 |190=>h190
 |192=>h192
 |209=>h209
 |_=>hNo
def vM:FuncId→List Go.Vm.Mode
 |4=>[.perm 1, .bor 1]
 |23=>[.perm 1]
 |24=>[.perm 1]
 |25=>[.perm 1]
 |26=>[.perm 1]
 |30=>[.perm 1, .bor 1]
 |31=>[.perm 1, .bor 1]
 |32=>[.perm 1, .bor 1]
 |41=>[.perm 1]
 |42=>[.perm 1, .bor 1]
 |71=>[.perm 1, .perm 1]
 |72=>[.perm 1, .perm 1]
 |84=>[.bor 0, .own 34 1, .own 3 1, .bor 0]
 |88=>[.perm 1]
 |89=>[.perm 1]
 |90=>[.perm 1]
 |92=>[.perm 1]
 |93=>[.perm 1]
 |97=>[.perm 1, .bor 1]
 |111=>[.perm 1]
 |116=>[.bor 0, .perm 1, .bor 1]
 |133=>[.own 3 1, .bor 0]
 |150=>[.perm 1, .perm 1]
 |154=>[.own 3 1, .bor 1]
 |173=>[.bor 1, .perm 1, .bor 1]
 |184=>[.perm 1]
 |198=>[.bor 0, .own 3 1, .bor 0]
 |199=>[.bor 0, .own 3 1, .bor 1, .bor 0]
 |_=>[]
@[push_cast] theorem vH6:vH 6=h6:=rfl
@[push_cast] theorem vM6:vM 6=[]:=rfl
@[push_cast] theorem vH12:vH 12=hNo:=rfl
@[push_cast] theorem vM12:vM 12=[]:=rfl
@[push_cast] theorem vH19:vH 19=hNo:=rfl
@[push_cast] theorem vM19:vM 19=[]:=rfl
@[push_cast] theorem vH40:vH 40=h40:=rfl
@[push_cast] theorem vM40:vM 40=[]:=rfl
@[push_cast] theorem vH41:vH 41=hNo:=rfl
@[push_cast] theorem vM41:vM 41=[.perm 1]:=rfl
@[push_cast] theorem vH42:vH 42=hNo:=rfl
@[push_cast] theorem vM42:vM 42=[.perm 1, .bor 1]:=rfl
@[push_cast] theorem vH43:vH 43=h43:=rfl
@[push_cast] theorem vM43:vM 43=[]:=rfl
@[push_cast] theorem vH44:vH 44=h44:=rfl
@[push_cast] theorem vM44:vM 44=[]:=rfl
@[push_cast] theorem vH45:vH 45=h45:=rfl
@[push_cast] theorem vM45:vM 45=[]:=rfl
@[push_cast] theorem vH46:vH 46=hNo:=rfl
@[push_cast] theorem vM46:vM 46=[]:=rfl
@[push_cast] theorem vH47:vH 47=hNo:=rfl
@[push_cast] theorem vM47:vM 47=[]:=rfl
@[push_cast] theorem vH48:vH 48=hNo:=rfl
@[push_cast] theorem vM48:vM 48=[]:=rfl
@[push_cast] theorem vH49:vH 49=hNo:=rfl
@[push_cast] theorem vM49:vM 49=[]:=rfl
@[push_cast] theorem vH76:vH 76=hNo:=rfl
@[push_cast] theorem vM76:vM 76=[]:=rfl
@[push_cast] theorem vH83:vH 83=hNo:=rfl
@[push_cast] theorem vM83:vM 83=[]:=rfl
@[push_cast] theorem vH85:vH 85=hNo:=rfl
@[push_cast] theorem vM85:vM 85=[]:=rfl
@[push_cast] theorem vH86:vH 86=hNo:=rfl
@[push_cast] theorem vM86:vM 86=[]:=rfl
@[push_cast] theorem wc1:vH 111=h111:=rfl
@[push_cast] theorem f13:vM 111=[.perm 1]:=rfl
@[push_cast] theorem nt8:vH 112=h112:=rfl
@[push_cast] theorem xh7:vM 112=[]:=rfl
@[push_cast] theorem dy7:vH 113=hNo:=rfl
@[push_cast] theorem nc0:vM 113=[]:=rfl
@[push_cast] theorem nu9:vH 114=hNo:=rfl
@[push_cast] theorem r06:vM 114=[]:=rfl
@[push_cast] theorem fa0:vH 115=hNo:=rfl
@[push_cast] theorem qz8:vM 115=[]:=rfl
@[push_cast] theorem h27:vH 116=hNo:=rfl
@[push_cast] theorem ob8:vM 116=[.bor 0, .perm 1, .bor 1]:=rfl
@[push_cast] theorem zc1:vH 117=hNo:=rfl
@[push_cast] theorem fj5:vM 117=[]:=rfl
@[push_cast] theorem mx4:vH 118=hNo:=rfl
@[push_cast] theorem gt5:vM 118=[]:=rfl
@[push_cast] theorem nb7:vH 119=h119:=rfl
@[push_cast] theorem bf4:vM 119=[]:=rfl
@[push_cast] theorem k28:vH 120=hNo:=rfl
@[push_cast] theorem sl4:vM 120=[]:=rfl
@[push_cast] theorem t79:vH 121=hNo:=rfl
@[push_cast] theorem nz6:vM 121=[]:=rfl
@[push_cast] theorem j03:vH 151=h151:=rfl
@[push_cast] theorem z37:vM 151=[]:=rfl
@[push_cast] theorem it3:vH 159=hNo:=rfl
@[push_cast] theorem ba1:vM 159=[]:=rfl
@[push_cast] theorem tq8:vH 160=hNo:=rfl
@[push_cast] theorem a79:vM 160=[]:=rfl
@[push_cast] theorem vd9:vH 162=hNo:=rfl
@[push_cast] theorem q31:vM 162=[]:=rfl
@[push_cast] theorem wc4:vH 163=hNo:=rfl
@[push_cast] theorem qh2:vM 163=[]:=rfl
@[push_cast] theorem ju6:vH 165=hNo:=rfl
@[push_cast] theorem tj9:vM 165=[]:=rfl
@[push_cast] theorem cy2:vH 166=hNo:=rfl
@[push_cast] theorem jg1:vM 166=[]:=rfl
@[push_cast] theorem cx0:vH 168=hNo:=rfl
@[push_cast] theorem nx9:vM 168=[]:=rfl
@[push_cast] theorem ni6:vH 184=hNo:=rfl
@[push_cast] theorem no3:vM 184=[.perm 1]:=rfl
@[push_cast] theorem mj0:vH 185=hNo:=rfl
@[push_cast] theorem fw7:vM 185=[]:=rfl
@[push_cast] theorem m87:vH 186=hNo:=rfl
@[push_cast] theorem sd2:vM 186=[]:=rfl
@[push_cast] theorem aq0:vH 187=hNo:=rfl
@[push_cast] theorem q20:vM 187=[]:=rfl
@[push_cast] theorem ny6:vH 196=hNo:=rfl
@[push_cast] theorem fy5:vM 196=[]:=rfl
@[push_cast] theorem nt6:vH 197=hNo:=rfl
@[push_cast] theorem ai5:vM 197=[]:=rfl
@[push_cast] theorem u60:vH 198=hNo:=rfl
@[push_cast] theorem n30:vM 198=[.bor 0, .own 3 1, .bor 0]:=rfl
@[push_cast] theorem ap8:vH 199=hNo:=rfl
@[push_cast] theorem c20:vM 199=[.bor 0, .own 3 1, .bor 1, .bor 0]:=rfl
@[push_cast] theorem ep6:vH 204=hNo:=rfl
@[push_cast] theorem u63:vM 204=[]:=rfl
@[push_cast] theorem j50:vH 205=hNo:=rfl
@[push_cast] theorem e81:vM 205=[]:=rfl
@[push_cast] theorem ig9:vH 206=hNo:=rfl
@[push_cast] theorem c17:vM 206=[]:=rfl
@[push_cast] theorem xc1:vH 207=hNo:=rfl
@[push_cast] theorem zl1:vM 207=[]:=rfl
@[push_cast] theorem wj3:vH 231=hNo:=rfl
@[push_cast] theorem ut6:vM 231=[]:=rfl
@[push_cast] theorem ey9:vH 233=hNo:=rfl
@[push_cast] theorem qj0:vM 233=[]:=rfl
@[push_cast] theorem ru5:vH 244=hNo:=rfl
@[push_cast] theorem he3:vM 244=[]:=rfl
attribute [push_cast] ct
end Go.Proofs.Ytmhbpecdpiapgaa
namespace Go.Proofs.Ytmhbpecdpiapgaa
open Go.Am
def digs(p:Int):Nat→Int→List Int
 |0,_=>[]
 |n+1,a=>(a%p)::digs p n (a/p)
theorem hn5(p:Int): ∀(n:Nat) (a:Int),(digs p n a).length=n
 |0,_=>rfl
 |n+1,a=>by simp[digs,hn5 p n]
def numb(p:Int):List Int→Int
 | []=>0
 |d::r=>numb p r*p+d
theorem w96(p:Int)(zs:List Int)(o off c:Nat)(h:H)(hr:RdI h (some ⟨o,off,none⟩) c zs)(hp:0≤p)(hp2:p≤64)(hz: ∀z∈zs,0≤z∧z≤64)(hl2:zs.length≤1000): ∀(k:Nat) (a i:Int),i+1=(k:Int)→k≤zs.length→a=numb p (zs.drop k)→(∀j,j≤zs.length→0≤numb p (zs.drop j)∧numb p (zs.drop j)≤1000000)→
 ∀ks,goL T [.tmp 4] [0,1,5,6] c233L0 (.blk 0 [5]::ks) [(0, .slice (some ⟨o,off,none⟩) zs.length c),(1, .int .i64 p),(5, .int .i64 a),(6, .int .i64 i)] h=
   go T [.tmp 4] ks (Fr.of [(5, .int .i64 (numb p zs))]) h
 |0,a,i,hi,hk,ha,hb=>fun ks=>by
  rw[ur1 c233L0.eq_def]
  have:i= -1:=by omega
  subst this ha
  rw[List.drop_zero]
  simp(disch:=first|omega|(simp only[rl9,wi2,q89]<;>omega)|fail) only[push_cast,seval,qc6]
 |k+1,a,i,hi,hk,ha,hb=>fun ks=>by
  obtain rfl:i=(k:Int):=by omega
  have e1:=hr.ld (i:=(k:Int)) (by omega) (by omega)
  have hi1:0≤(k:Int)∧(k:Int)<(zs.length:Int):=by omega
  have hd:zs.drop k=gi zs k::zs.drop (k+1):=by
   rw[List.drop_eq_getElem_cons (by omega)]
   congr 1
   rw[h04 (by omega) (by omega)]
   simp
  have hgm:=hz _ (k18 hi1.1 hi1.2)
  have hb1:=hb (k+1) hk
  have hb2:=hb k (by omega)
  rw[←ha]at hb1
  have hn:numb p (zs.drop k)=a*p+gi zs k:=by rw[hd,numb,←ha]
  rw[hn]at hb2
  have hm:0≤a*p:=Int.mul_nonneg hb1.1 hp
  rw[←w96 p zs o off c h hr hp hp2 hz hl2 k (a*p+gi zs k) ((k:Int)-1) (by omega) (by omega) hn.symm hb ks]
  rw[ur1 c233L0.eq_def]
  simp(disch:=first|omega|(simp only[rl9,wi2,q89]<;>omega)|fail) only[push_cast,seval,nl3,wrap64,hi1,e1]
theorem f51(p:Int)(zs:List Int)(sa:Option Addr)(c:Nat)(h:H)(hr:RdI h sa c zs)(hp:0≤p)(hp2:p≤64)(hz: ∀z∈zs,0≤z∧z≤64)(hl:1≤zs.length)(hl2:zs.length≤1000)
 (hb: ∀j,j≤zs.length→0≤numb p (zs.drop j)∧numb p (zs.drop j)≤1000000):
 call T 233 [.slice sa zs.length c, .int .i64 p] h=some (.int .i64 (numb p zs),h):=by
 obtain⟨o,off,rfl,_,_⟩:=hr.addr (by omega)
 rw[wn8 T233 rfl]
 unfold F233 c233
 simp(disch:=first|omega|(simp only[rl9,wi2,q89]<;>omega)|fail) only[push_cast,seval,wrap64]
 rw[w96 p zs o off c h hr hp hp2 hz hl2 zs.length 0 ((zs.length:Int)-1) (by omega) (Nat.le_refl _) (by rw[List.drop_length];rfl) hb]
 simp(disch:=first|omega|(simp only[rl9,wi2,q89]<;>omega)|fail) only[push_cast,seval]
def axpy(p c:Int):List Int→List Int→List Int
 |a::l,y::ys=>((a+c*y)%p)::axpy p c l ys
 |l,_=>l
def conv(p:Int)(ys:List Int):List Int→List Int→List Int
 | [],l=>l
 |x::xs,l=>match axpy p x l ys with
  | []=>[]
  |a::r=>a::conv p ys xs r
def red(p:Int)(nm:List Int)(m:Nat):Nat→List Int→List Int
 |0,l=>l
 |n+1,l=>red p nm m n (l.take n++axpy p (gi l (n+m:Nat)) ((l.take (n+m)).drop n) nm)
def mulP(p:Int)(m:Nat)(mod:List Int)(a b:Int):Int:=numb p (red p ((mod.take m).map fun d=>p-d) m m (conv p (digs p m b) (digs p m a) (List.replicate (2*m) 0)))
def mulR(q p:Int)(m:Nat)(mod:List Int)(a b:Int):Int:=
 if 0≤a∧a<q then if 0≤b∧b<q then if m=1 then a*b%p else mulP p m mod a b else-1 else-1
theorem ly3(p c:Int): ∀(l ys:List Int),(axpy p c l ys).length=l.length
 | [],ys=>by cases ys<;>rfl
 |a::l,[]=>rfl
 |a::l,y::ys=>by simp[axpy,ly3 p c l ys]
def Dig(p:Int)(l:List Int):Prop:= ∀z∈l,0≤z∧z<p
theorem Dig.axpy{p c:Int}(hp:0<p): ∀{l:List Int} (ys:List Int),Dig p l→Dig p (axpy p c l ys)
 | [],ys,h=>by cases ys<;>exact h
 |a::l,[],h=>h
 |a::l,y::ys,h=>by
  intro z hz
  rw[Go.Proofs.Ytmhbpecdpiapgaa.axpy,List.mem_cons]at hz
  rcases hz with rfl|hz
  ·exact⟨Int.emod_nonneg _ (by omega),Int.emod_lt_of_pos _ hp⟩
  ·exact Dig.axpy hp ys (fun z hz=>h z (List.mem_cons_of_mem _ hz)) z hz
theorem Dig.digs{p:Int}(hp:0<p): ∀(n:Nat) (a:Int),Dig p (digs p n a)
 |0,a=>fun z hz=>absurd hz (List.not_mem_nil)
 |n+1,a=>by
  intro z hz
  rw[Go.Proofs.Ytmhbpecdpiapgaa.digs,List.mem_cons]at hz
  rcases hz with rfl|hz
  ·exact⟨Int.emod_nonneg _ (by omega),Int.emod_lt_of_pos _ hp⟩
  ·exact Dig.digs hp n _ z hz
theorem v51{p:Int}(hp:0<p): ∀{l:List Int},Dig p l→0≤numb p l∧numb p l<p^l.length
 | [],_=>by simp[numb]
 |d::r,h=>by
  have h1:=v51 hp (l:=r) (fun z hz=>h z (List.mem_cons_of_mem _ hz))
  have h2:=h d (List.mem_cons_self ..)
  rw[numb,List.length_cons,Int.pow_succ]
  have h3:0≤numb p r*p:=Int.mul_nonneg h1.1 (by omega)
  have h4:(numb p r+1)*p≤p^r.length*p:=Int.mul_le_mul_of_nonneg_right (by omega) (by omega)
  rw[Int.add_mul]at h4
  omega
theorem x04{p:Int}{l:List Int}(hp:0<p)(hd:Dig p l)(i:Int):0≤gi l i∧gi l i<p:=by
 unfold gi
 rw[List.getD_eq_getElem?_getD]
 cases h:l[i.toNat]? with
 |none=>simp;omega
 |some v=>exact hd v (List.mem_of_getElem? h)
theorem pc9{pre r:List Int}{a v:Int}{i:Nat}(hi:i=pre.length):(pre++a::r).set i v=pre++v::r:=by
 subst hi;rw[List.set_append_right _ _ (Nat.le_refl _)];simp
theorem z41{pre r:List Int}{a:Int}{i:Nat}(hi:i=pre.length):gi (pre++a::r) i=a:=by
 subst hi;unfold gi;simp[List.getD_eq_getElem?_getD]
theorem ty5{l:List Int}(h:0<l.length): ∃a r,l=a::r:=by
 cases l with
 |nil=>simp at h
 |cons a r=>exact⟨a,r,rfl⟩
theorem gx6{zs:List Int}{i:Nat}(hi:i<zs.length):zs.drop i=gi zs i::zs.drop (i+1):=by
 rw[List.drop_eq_getElem_cons hi]
 congr 1
 rw[h04 (by omega) (by omega)]
 simp
section
variable {q p g0:Int} {m:Nat} {ms:Value} {h1:H} {B:Nat}
end
section
variable {q p g0:Int} {m:Nat} {om fm cm:Nat} {h1:H} {B:Nat} {mod:List Int}
end
theorem tv0{p:Int}(hp:1≤p){a b:Nat}(h:a≤b):p^a≤p^b:=by
 have hpos: ∀n:Nat,0≤p^n:=fun n=>by
  induction n with
  |zero=>simp
  |succ n ih=>rw[Int.pow_succ];exact Int.mul_nonneg ih (by omega)
 induction h with
 |refl=>exact Int.le_refl _
 |step h ih=>
  rw[Nat.succ_eq_add_one,Int.pow_succ]
  rename_i k
  have h2:=Int.mul_le_mul_of_nonneg_left hp (hpos k)
  omega
structure FOk (q p:Int) (m:Nat) (mod:List Int):Prop where
 q2:2≤q
 q64:q≤64
 p2:2≤p
 p64:p≤64
 m1:1≤m
 m10:m≤10
 pm:p^m=q
 ml:mod.length=m+1
 dig:Dig p mod
def wj0(q p:Int)(m:Nat)(mod:List Int)(g:Int):Nat→Int→Nat→Bool
 |0,_,_=>true
 |n+1,a,s=>bif (a==0)||s.testBit a.toNat then false else wj0 q p m mod g n (mulR q p m mod a g) (s|||1<<<a.toNat)
def dvdN:Nat→Int→Int→Int→Option (Int×Int)
 |0,_,_,_=>none
 |n+1,q,p,m=>bif q%p==0 then dvdN n (q/p) p (m+1)else some (q,m)
def outN:Nat→Int→Int→Option (Int×Int)
 |0,_,_=>none
 |n+1,q,p=>bif decide (q<p)then none else bif q%p==0 then match dvdN 64 q p 0 with
   |some (q',m)=>some (bif q'==1 then(p,m)else(0,0))
   |none=>none
  else outN n q (p+1)
theorem ym3{h:H}{o off:Nat}{l l':List Value}{v:Value}{e u:Nat}(hr:h.row o=some ⟨l,e,u,true⟩)(hl:off<l.length)(he:l.set off v=l'):h.sts o off [v]=some (h.set o (.row ⟨l',e,u,true⟩)):=by
 unfold H.sts;rw[hr]
 simp only[Bool.true_and,List.length_cons,List.length_nil,Nat.zero_add]
 rw[if_pos (by simp;omega)]
 congr 3
 unfold hu1
 rw[←he,List.set_eq_take_append_cons_drop,if_pos hl]
 simp
def fldN:Nat→Option (Int×Nat×Int×List Int)
 |2=>some (2,1,1,[0,1])
 |3=>some (3,1,2,[0,1])
 |4=>some (2,2,2,[1,1,1])
 |5=>some (5,1,2,[0,1])
 |7=>some (7,1,3,[0,1])
 |8=>some (2,3,2,[1,1,0,1])
 |9=>some (3,2,3,[2,1,1])
 |11=>some (11,1,2,[0,1])
 |13=>some (13,1,2,[0,1])
 |16=>some (2,4,2,[1,1,0,0,1])
 |17=>some (17,1,3,[0,1])
 |19=>some (19,1,2,[0,1])
 |23=>some (23,1,5,[0,1])
 |25=>some (5,2,5,[2,1,1])
 |27=>some (3,3,3,[1,2,0,1])
 |29=>some (29,1,2,[0,1])
 |31=>some (31,1,3,[0,1])
 |32=>some (2,5,2,[1,0,1,0,0,1])
 |37=>some (37,1,2,[0,1])
 |41=>some (41,1,6,[0,1])
 |43=>some (43,1,3,[0,1])
 |47=>some (47,1,5,[0,1])
 |49=>some (7,2,7,[3,1,1])
 |53=>some (53,1,2,[0,1])
 |59=>some (59,1,2,[0,1])
 |61=>some (61,1,2,[0,1])
 |64=>some (2,6,2,[1,1,0,0,0,0,1])
 |_=>none
def genN(q p:Int):Nat→Int→Option Int
 |0,_=>none
 |n+1,g=>bif wj0 q p 1 [0,1] g (q-1).toNat 1 0 then some g else genN q p n (g+1)
def lowN(q p:Int)(m:Nat):Nat→Int→Option (List Int)
 |0,_=>none
 |n+1,low=>bif wj0 q p m (digs p m low++[1]) p (q-1).toNat 1 0 then some (digs p m low++[1])else lowN q p m n (low+1)
def o66(n:Nat):Bool:=
 match fldN n with
 |none=>decide (outN 64 n 2=some (0,0))
 |some (p,m,g,mod)=>decide (outN 64 n 2=some (p,(m:Int)))&&(bif decide (m=1)then decide (genN n p (n-1) 1=some g)&&decide (mod=[0,1])else decide (lowN n p m n 0=some mod)&&decide (g=p))&&
   decide (p^m=(n:Int))&&decide (mod.length=m+1)&&(mod.all fun d=>decide (0≤d)&&decide (d<p))&&decide (2≤p)&&decide (p≤64)&&decide (1≤m)&&decide (m≤10)&&decide (1≤g)&&decide (g<n)
theorem wb4:((List.range 63).all fun n=>o66 (n+2))=true:=by kernel_rfl
theorem dp6{n:Nat}(h2:2≤n)(h64:n≤64):o66 n=true:=by
 have h:=List.all_eq_true.1 wb4 (n-2) (List.mem_range.2 (by omega))
 rw[show n-2+2=n by omega]at h
 exact h
theorem wd5{n:Nat}(h2:2≤n)(h64:n≤64)(hn:fldN n=none):outN 64 n 2=some (0,0):=by
 have h:=dp6 h2 h64
 unfold o66 at h
 rw[hn]at h
 simpa using h
theorem ug0{n:Nat}{x}(h:fldN n=some x):2≤n∧n≤64:=by
 unfold fldN at h
 split at h<;>first|(cases h;done)|omega
theorem hi9{n:Nat}{p g:Int}{m:Nat}{mod:List Int}(hn:fldN n=some (p,m,g,mod)):FOk n p m mod∧outN 64 n 2=some (p,(m:Int))∧1≤g∧g<n∧
 (if m=1 then genN n p (n-1) 1=some g∧mod=[0,1]else lowN n p m n 0=some mod∧g=p):=by
 obtain⟨h2,h64⟩:=ug0 hn
 have h:=dp6 h2 h64
 unfold o66 at h
 rw[hn]at h
 simp only[Bool.and_eq_true,decide_eq_true_eq,List.all_eq_true]at h
 obtain⟨⟨⟨⟨⟨⟨⟨⟨⟨⟨a1,a2⟩,a3⟩,a4⟩,a5⟩,a6⟩,a7⟩,a8⟩,a9⟩,a10⟩,a11⟩:=h
 refine⟨⟨by omega,by omega,a6,a7,a8,a9,a3,a4,fun z hz=>a5 z hz⟩,a1,a10,a11, ?_⟩
 by_cases hm:m=1
 ·rw[if_pos hm]
  rw[decide_eq_true hm,cond_true]at a2
  simpa using a2
 ·rw[if_neg hm]
  rw[decide_eq_false hm,cond_false]at a2
  simpa using a2
theorem kw2(vs:List Value)(h:H):call T 244 vs h=call T 233 vs h:=by
 first
  |(unfold call enter;rw[T244,T233];rfl)
  |rfl
def n94:Nat→Int→Int→Option Int
 |0,_,_=>none
 |n+1,q,p=>bif q%p==0 then some p else n94 n q (p+1)
def prP(q:Int):Option (Int×Int):=match n94 64 q 2 with
 |some p=>match dvdN 64 q p 0 with
  |some (q',m)=>some (bif q'==1 then(p,m)else(0,0))
  |none=>none
 |none=>none
theorem o08:((List.range 63).all fun n=>decide (prP ((n+2:Nat):Int)=outN 64 ((n+2:Nat):Int) 2))=true:=by kernel_rfl
theorem oh8{q:Int}(hq:2≤q∧q≤64):prP q=outN 64 q 2:=by
 have h:=List.all_eq_true.1 o08 (q.toNat-2) (List.mem_range.2 (by omega))
 rw[show q.toNat-2+2=q.toNat by omega,decide_eq_true_eq]at h
 rw[show((q.toNat:Nat):Int)=q by omega]at h
 exact h
theorem su4(p:Int)(hp:2≤p∧p≤64)(h:H): ∀(n:Nat) (q m q' m':Int),1≤q→q≤64→0≤m→m+n≤100→dvdN n q p m=some (q',m')→
 ∀ks,goL T [.tmp 2, .tmp 3] [0,2,3] c204L1 (.blk 2 [0,2,3]::ks) [(0, .int .i64 q),(2, .int .i64 p),(3, .int .i64 m)] h=go T [.tmp 2, .tmp 3] ks (Fr.of [(0, .int .i64 q'),(2, .int .i64 p),(3, .int .i64 m')]) h
 |0,q,m,q',m',h1,h2,h3,h4,he=>by cases he
 |n+1,q,m,q',m',h1,h2,h3,h4,he=>by
  rw[dvdN]at he
  have hp0: ¬p=0:=by omega
  have q1:q.tmod p=q%p:=Int.tmod_eq_emod_of_nonneg (by omega)
  have q2:q.tdiv p=q/p:=Int.tdiv_eq_ediv_of_nonneg (by omega)
  by_cases hz:q%p=0
  ·rw[show(q%p==0)=true by simpa using hz,cond_true]at he
   have hd:1≤q/p:=by
    have:=Int.mul_ediv_add_emod q p
    rw[hz,Int.add_zero]at this
    by_cases h0:q/p≤0
    ·have:p*(q/p)≤p*0:=Int.mul_le_mul_of_nonneg_left h0 (by omega)
     omega
    ·omega
   have hd2:q/p≤q:=Int.ediv_le_self _ (by omega)
   have ih:=su4 p hp h n (q/p) (m+1) q' m' hd (by omega) (by omega) (by omega) he
   intro ks
   rw[←ih ks,ur1 c204L1.eq_def]
   simp(disch:=first|omega|(simp only[rl9,wi2,q89]<;>omega)|fail) only[push_cast,seval,hp0,q1,q2,mr8 hz,wrap64]
  ·rw[show(q%p==0)=false by simpa using hz,cond_false]at he
   cases he
   intro ks
   rw[ur1 c204L1.eq_def]
   simp(disch:=first|omega|(simp only[rl9,wi2,q89]<;>omega)|fail) only[push_cast,seval,hp0,q1,nb8 hz]
theorem gi8(q:Int)(hq:2≤q∧q≤64)(h:H): ∀(n:Nat) (p r:Int),2≤p→p≤1000→n94 n q p=some r→p+n≤1000→(2≤r∧q%r=0)∧
 ∀ks,goL T [.tmp 2, .tmp 3] [0,2,3] c204L0 (.blk 0 [0,2,3]::ks) [(0, .int .i64 q),(2, .int .i64 p),(3, .int .i64 0)] h=go T [.tmp 2, .tmp 3] ks (Fr.of [(0, .int .i64 q),(2, .int .i64 r),(3, .int .i64 0)]) h
 |0,p,r,h1,h2,he,h3=>by cases he
 |n+1,p,r,h1,h2,he,h3=>by
  rw[n94]at he
  have hp0: ¬p=0:=by omega
  have q1:q.tmod p=q%p:=Int.tmod_eq_emod_of_nonneg (by omega)
  by_cases hz:q%p=0
  ·rw[show(q%p==0)=true by simpa using hz,cond_true]at he
   cases he
   refine⟨⟨h1,hz⟩,fun ks=> ?_⟩
   rw[ur1 c204L0.eq_def]
   simp(disch:=first|omega|(simp only[rl9,wi2,q89]<;>omega)|fail) only[push_cast,seval,hp0,q1,mr8 hz]
  ·rw[show(q%p==0)=false by simpa using hz,cond_false]at he
   obtain⟨hr,ih⟩:=gi8 q hq h n (p+1) r (by omega) (by omega) he (by omega)
   refine⟨hr,fun ks=> ?_⟩
   rw[←ih ks,ur1 c204L0.eq_def]
   simp(disch:=first|omega|(simp only[rl9,wi2,q89]<;>omega)|fail) only[push_cast,seval,hp0,q1,nb8 hz,wrap64]
theorem e46(q:Int)(hq:2≤q∧q≤64)(h:H)(r:Int×Int)(he:outN 64 q 2=some r):call T 204 [.int .i64 q] h=some (.tuple #[.int .i64 r.1, .int .i64 r.2],h):=by
 rw[←oh8 hq]at he
 unfold prP at he
 cases hf:n94 64 q 2 with
 |none=>rw[hf]at he;cases he
 |some p=>
  rw[hf]at he
  simp only at he
  cases hd:dvdN 64 q p 0 with
  |none=>rw[hd]at he;cases he
  |some x=>
   obtain⟨q',m'⟩:=x
   rw[hd]at he
   simp only[Option.some.injEq]at he
   obtain⟨⟨hp2,hpd⟩,f1⟩:=gi8 q hq h 64 2 p (by omega) (by omega) hf (by omega)
   have hp64:p≤64:=by
    by_cases hl:q<p
    ·rw[Int.emod_eq_of_lt (by omega) hl]at hpd;omega
    ·omega
   have f2:=su4 p ⟨hp2,hp64⟩ h 64 q 0 q' m' (by omega) (by omega) (by omega) (by omega) hd
   rw[wn8 T204 rfl]
   unfold F204 c204
   simp(disch:=first|omega|(simp only[rl9,wi2,q89]<;>omega)|fail) only[push_cast,seval]
   rw[f1]
   simp(disch:=first|omega|(simp only[rl9,wi2,q89]<;>omega)|fail) only[push_cast,seval]
   rw[f2]
   by_cases ho:q'=1
   ·rw[show(q'==1)=true by simpa using ho,cond_true]at he
    rw[←he]
    simp(disch:=first|omega|(simp only[rl9,wi2,q89]<;>omega)|fail) only[push_cast,seval,mr8 ho]
   ·rw[show(q'==1)=false by simpa using ho,cond_false]at he
    rw[←he]
    simp(disch:=first|omega|(simp only[rl9,wi2,q89]<;>omega)|fail) only[push_cast,seval,nb8 ho]
theorem set_push{h:H}{x y:Ob}:(h++[x]).set h.length y=h++[y]:=by rw[List.set_append_right _ _ (Nat.le_refl _)];simp
theorem i56(p:Int)(m:Nat)(h:H)(hp:1≤p)(hm:m≤1000): ∀(k:Nat) (a i:Int) (done:List Int),i=(done.length:Int)→done.length+k=m→0≤a→a≤1000000→
 ∀ks,goL T [.tmp 6] [0,1,7,12,13] c206L0 (.blk 0 [7]::ks) [(0, .int .i64 a),(1, .int .i64 p),(7, .slice (some ⟨h.length,0,none⟩) m m),(12, .int .i64 m),(13, .int .i64 i)] (h++[.row ⟨ints (done++List.replicate k 0),3,1,true⟩])=
  go T [.tmp 6] ks (Fr.of [(7, .slice (some ⟨h.length,0,none⟩) m m)]) (h++[.row ⟨ints (done++digs p k a),3,1,true⟩])
 |0,a,i,done,hi,hk,ha,ha2=>fun ks=>by
  subst hi
  rw[ur1 c206L0.eq_def]
  have:(done.length:Int)=(m:Int):=by omega
  simp(disch:=first|omega|(simp only[rl9,wi2,q89]<;>omega)|fail) only[push_cast,seval,cw6,digs,List.replicate]
 |k+1,a,i,done,hi,hk,ha,ha2=>fun ks=>by
  subst hi
  have hr:H.row (h++[.row ⟨ints (done++List.replicate (k+1) 0),3,1,true⟩]) h.length=some ⟨ints (done++List.replicate (k+1) 0),3,1,true⟩:=cv8
  have es:=l45 hr (i:=(done.length:Int)) (v:=a%p) (by omega) (by simp;omega)
  have hset:(done++List.replicate (k+1) 0).set ((done.length:Int)).toNat (a%p)=done++[a%p]++List.replicate k 0:=by
   rw[List.replicate_succ,pc9 (by omega)];simp
  rw[hset,set_push]at es
  have hd1:0≤a/p:=Int.ediv_nonneg ha (by omega)
  have hd2:a/p≤a:=Int.ediv_le_self _ ha
  have ih:=i56 p m h hp hm k (a/p) ((done.length:Int)+1) (done++[a%p]) (by simp) (by simp;omega) hd1 (by omega) ks
  have he:done++digs p (k+1) a=done++[a%p]++digs p k (a/p):=by simp[digs]
  have hp0: ¬p=0:=by omega
  have q1:a.tmod p=a%p:=Int.tmod_eq_emod_of_nonneg ha
  have q2:a.tdiv p=a/p:=Int.tdiv_eq_ediv_of_nonneg ha
  have hi1:0≤(done.length:Int)∧(done.length:Int)<(m:Int):=by omega
  rw[he,←ih,ur1 c206L0.eq_def]
  simp(disch:=first|omega|(simp only[rl9,wi2,q89]<;>omega)|fail) only[push_cast,seval,dec_lt,wrap64,hp0,q1,q2,hi1,es]
theorem xy9(a p:Int)(m:Nat)(h:H)(hp:1≤p)(hm:m≤1000)(ha:0≤a)(ha2:a≤1000000):
 call T 206 [.int .i64 a, .int .i64 p, .int .i64 m] h=some (.slice (some ⟨h.length,0,none⟩) m m,h++[.row ⟨ints (digs p m a),3,1,true⟩]):=by
 rw[wn8 T206 rfl]
 unfold F206 c206
 have c1:0≤(m:Int)∧(m:Int)≤(m:Int)∧(m:Int)≤1099511627776∧(m:Int)*8≤140737488355328:=by omega
 have ih:=i56 p m h hp hm m a 0 [] rfl (by simp) ha ha2
 simp only[List.nil_append]at ih
 simp(disch:=first|omega|(simp only[rl9,wi2,q89]<;>omega)|fail) only[push_cast,seval,c1,k78,Int.toNat_natCast]
 rw[ih]
 simp(disch:=first|omega|(simp only[rl9,wi2,q89]<;>omega)|fail) only[push_cast,seval]
abbrev pfL(q p m:Int)(ms:Value)(g:Int)(es ls:Value):List Value:=[.int .i64 q, .int .i64 p, .int .i64 m,ms, .int .i64 g,es,ls]
abbrev pfR(q p m:Int)(ms:Value)(g:Int)(es ls:Value):Row:=⟨pfL q p m ms g es ls,173,0,true⟩
def negm(p:Int)(m:Nat)(mod:List Int):List Int:=(mod.take m).map fun d=>p-d
def vl3(p:Int)(m:Nat)(g:Int)(mod:List Int)(a:Int):Int:=
 if m=1 then a*g%p else numb p (axpy p (gi (digs p m a) (m-1:Nat)) (0::(digs p m a).take (m-1)) (negm p m mod))
section
variable {q p g:Int} {m:Nat} {mod:List Int} {om fm cm F:Nat} {es ls:Value} {h1:H}
theorem iv0(hf:FOk q p m mod)(hF:h1.row F=some (pfR q p m (.slice (some ⟨om,fm,none⟩) mod.length cm) g es ls))(hM:RdI h1 (some ⟨om,fm,none⟩) cm mod)(top:Int)(ht:0≤top∧top<p):
 ∀(n:Nat) (k:Int) (pre rest:List Int) (G:H),k=(pre.length:Int)→pre.length+n=m→rest.length=n→Dig p (pre++rest)→h1<+:G→G.row h1.length=some ⟨ints (pre++rest),3,1,true⟩→
 ∃G':H,h1<+:G'∧G'.row h1.length=some ⟨ints (pre++axpy p top rest ((negm p m mod).drop pre.length)),3,1,true⟩∧Dig p (pre++axpy p top rest ((negm p m mod).drop pre.length))∧
  ∀ks,goL T [.tmp 4] [0,5,6,55,56] c231L0 (.blk 0 [0,5]::ks) [(0, .pointer (some ⟨F,0,none⟩)),(5, .slice (some ⟨h1.length,0,none⟩) m m),(6, .int .i64 top),(55, .int .i64 m),(56, .int .i64 k)] G=
   go T [.tmp 4] ks (Fr.of [(0, .pointer (some ⟨F,0,none⟩)),(5, .slice (some ⟨h1.length,0,none⟩) m m)]) G'
 |0,k,pre,rest,G,hk,hn,hl,hd,hp1,hr=>by
  subst hk
  obtain rfl:=List.eq_nil_of_length_eq_zero hl
  have e2: ∀l,axpy p top [] l=[]:=fun l=>by cases l<;>rfl
  refine⟨G,hp1,by rw[e2];exact hr,by rw[e2];exact hd,fun ks=> ?_⟩
  rw[ur1 c231L0.eq_def]
  simp(disch:=first|omega|(simp only[rl9,wi2,q89]<;>omega)|fail) only[push_cast,seval,cw6]
 |n+1,k,pre,rest,G,hk,hn,hl,hd,hp1,hr=>by
  subst hk
  have hp:=hf.p2
  have hp64:=hf.p64
  have hm10:=hf.m10
  have hml:=hf.ml
  obtain⟨a,r,rfl⟩: ∃a r,rest=a::r:=ty5 (by omega)
  have b1:G.ld1 F 1=some (.int .i64 p):=s18 (cp5 hF hp1) rfl
  have b3:G.ld1 F 3=some (.slice (some ⟨om,fm,none⟩) mod.length cm):=s18 (cp5 hF hp1) rfl
  have em:=(hM.mono hp1).ld (i:=(pre.length:Int)) (by omega) (by omega)
  have ge:gi (pre++a::r) (pre.length:Int)=a:=z41 rfl
  have el:=i59 hr (i:=(pre.length:Int)) (by omega) (by simp;omega)
  rw[ge]at el
  have hlt:=h42 hr
  have hi2:0≤(pre.length:Int)∧(pre.length:Int)<(m:Int)+1:=by omega
  have hi3:0≤(pre.length:Int)∧(pre.length:Int)<(m:Int):=by omega
  have hmk:=x04 (p:=p) (by omega) hf.dig (pre.length:Int)
  have hxy:0≤top*(p-gi mod (pre.length:Int))∧top*(p-gi mod (pre.length:Int))≤4096:=by
   have:top*(p-gi mod (pre.length:Int))≤64*64:=Int.mul_le_mul (by omega) (by omega) (by omega) (by omega)
   exact⟨Int.mul_nonneg ht.1 (by omega),this⟩
  have ha:=hd a (by simp)
  obtain⟨v,hv⟩: ∃v,v=(a+top*(p-gi mod (pre.length:Int)))%p:=⟨_,rfl⟩
  have es':=l45 hr (i:=(pre.length:Int)) (v:=v) (by omega) (by simp;omega)
  have hset:(pre++a::r).set ((pre.length:Int)).toNat v=pre++[v]++r:=by rw[pc9 (by omega)];simp
  have q1:(a+top*(p-gi mod (pre.length:Int))).tmod p=v:=by rw[hv];exact Int.tmod_eq_emod_of_nonneg (by omega)
  have hvd:0≤v∧v<p:=by rw[hv];exact⟨Int.emod_nonneg _ (by omega),Int.emod_lt_of_pos _ (by omega)⟩
  have hd':Dig p (pre++[v]++r):=by
   intro z hz
   simp only[List.append_assoc,List.mem_append,List.mem_cons,List.not_mem_nil,or_false]at hz
   rcases hz with hz|rfl|hz
   ·exact hd z (by simp[hz])
   ·exact hvd
   ·exact hd z (by simp[hz])
  have hrow':H.row (G.set h1.length (.row ⟨ints (pre++[v]++r),3,1,true⟩)) h1.length=some ⟨ints (pre++[v]++r),3,1,true⟩:=tr3 hlt
  obtain⟨G',p',r',d',ih⟩:=iv0 hf hF hM top ht n ((pre.length:Int)+1) (pre++[v]) r _ (by simp) (by simp;omega) (by simpa using hl) hd' (wc3 hp1 (Nat.le_refl _)) hrow'
  have hkl:pre.length<(negm p m mod).length:=by unfold negm;simp;omega
  have hgk:gi (negm p m mod) pre.length=p-gi mod (pre.length:Int):=by
   unfold gi negm
   rw[List.getD_eq_getElem?_getD,List.getD_eq_getElem?_getD,List.getElem?_map,List.getElem?_take,if_pos (by omega),List.getElem?_eq_getElem (show((pre.length:Int)).toNat<mod.length by omega)]
   rfl
  have hpl:(pre++[v]).length=pre.length+1:=by simp
  have he:pre++axpy p top (a::r) ((negm p m mod).drop pre.length)=pre++[v]++axpy p top r ((negm p m mod).drop (pre++[v]).length):=by
   rw[gx6 hkl,hgk,axpy,hpl,hv];simp
  refine⟨G',p',by rw[he];exact r',by rw[he];exact d',fun ks=> ?_⟩
  rw[hset]at es'
  rw[←ih ks,ur1 c231L0.eq_def]
  have hp0: ¬p=0:=by omega
  rw[hml]at b3
  simp(disch:=first|omega|(simp only[rl9,wi2,q89]<;>omega)|fail) only[push_cast,seval,dec_lt,wrap64,b1,b3,em,el,hi2,hi3,hp0,q1,es']
theorem xr3(hf:FOk q p m mod)(h:H)(hF:h.row F=some (pfR q p m (.slice (some ⟨om,fm,none⟩) mod.length cm) g es ls))(hM:RdI h (some ⟨om,fm,none⟩) cm mod)(hg:0≤g∧g<q)(a:Int)(ha:0≤a∧a<q):
 ∃h':H,h<+:h'∧call T 231 [.pointer (some ⟨F,0,none⟩), .int .i64 a] h=some (.int .i64 (vl3 p m g mod a),h'):=by
 have hp:=hf.p2
 have hp64:=hf.p64
 have hq64:=hf.q64
 have hm1:=hf.m1
 have hm10:=hf.m10
 have hp0: ¬p=0:=by omega
 have b2:h.ld1 F 2=some (.int .i64 m):=s18 hF rfl
 have b1:h.ld1 F 1=some (.int .i64 p):=s18 hF rfl
 have b4:h.ld1 F 4=some (.int .i64 g):=s18 hF rfl
 by_cases hm:m=1
 ·refine⟨h,List.prefix_refl _, ?_⟩
  have hmi:(m:Int)=1:=by omega
  have hab:a*g≤64*64:=Int.mul_le_mul (by omega) (by omega) (by omega) (by omega)
  have hab0:=Int.mul_nonneg ha.1 hg.1
  have q1:(a*g).tmod p=a*g%p:=Int.tmod_eq_emod_of_nonneg hab0
  rw[vl3,if_pos hm,wn8 T231 rfl]
  unfold F231 c231
  simp(disch:=first|omega|(simp only[rl9,wi2,q89]<;>omega)|fail) only[push_cast,seval,b1,b2,b4,mr8 hmi,wrap64,hp0,q1]
 have hmi: ¬(m:Int)=1:=by omega
 obtain⟨ds,hds⟩: ∃ds,ds=digs p m a:=⟨_,rfl⟩
 have hdl:ds.length=m:=by rw[hds];exact hn5 _ _ _
 have hdd:Dig p ds:=by rw[hds];exact Dig.digs (by omega) _ _
 have ed:=xy9 a p m h (by omega) (by omega) ha.1 (by omega)
 rw[←hds]at ed
 obtain⟨h1,eh1⟩: ∃h1:H,h1=h++[.row ⟨ints ds,3,1,true⟩]:=⟨_,rfl⟩
 rw[←eh1]at ed
 have r1:h1.row h.length=some ⟨ints ds,3,1,true⟩:=by rw[eh1];exact cv8
 have p1:h<+:h1:=by rw[eh1];exact List.prefix_append _ _
 have b21:=ix6 b2 p1
 have b11:=ix6 b1 p1
 obtain⟨top,htop⟩: ∃t,t=gi ds (m-1:Nat):=⟨_,rfl⟩
 have ht:=x04 (p:=p) (by omega) hdd (m-1:Nat)
 rw[←htop]at ht
 have e1:=i59 r1 (i:=(m:Int)-1) (by omega) (by omega)
 have e1':gi ds ((m:Int)-1)=top:=by rw[htop,show((m-1:Nat):Int)=(m:Int)-1 by omega]
 rw[e1']at e1
 have hi1:0≤(m:Int)-1∧(m:Int)-1<(m:Int):=by omega
 --the copy
 obtain⟨d0,dr,hd0⟩: ∃d0 dr,ds=d0::dr:=ty5 (by omega)
 have hcp:acpy 1 h1 (.slice (some ⟨h.length,1,none⟩) (m-1) (m-1)) (.slice (some ⟨h.length,0,none⟩) (m-1) m)=some (.int .i64 ((m-1:Nat):Int),h++[.row ⟨ints (d0::ds.take (m-1)),3,1,true⟩]):=by
  unfold acpy b38
  simp only[Nat.min_self]
  rw[if_neg (by omega),if_pos (Nat.le_refl _)]
  simp only[cv9,if_true,Nat.mul_one]
  rw[nz1 r1 (by omega),List.drop_zero]
  dsimp only
  rw[if_neg (by omega)]
  unfold H.sts
  rw[r1]
  simp only[Bool.true_and,iq5]
  rw[if_pos (by simp;omega),eh1,set_push]
  dsimp only
  congr 5
  unfold hu1 ints
  rw[hd0]
  simp only[List.map_cons,List.take_succ_cons,List.take_zero,List.cons_append,List.nil_append,List.length_map,List.length_take,List.length_cons]
  rw[hd0,List.length_cons]at hdl
  rw[List.drop_eq_nil_of_le (by simp;omega)]
  simp
 obtain⟨h2,eh2⟩: ∃h2:H,h2=h++[.row ⟨ints (d0::ds.take (m-1)),3,1,true⟩]:=⟨_,rfl⟩
 rw[←eh2]at hcp
 have r2:h2.row h.length=some ⟨ints (d0::ds.take (m-1)),3,1,true⟩:=by rw[eh2];exact cv8
 have s2:=l45 r2 (i:=0) (v:=0) (by omega) (by simp only[List.length_cons];omega)
 rw[show(d0::ds.take (m-1)).set (0:Int).toNat 0=0::ds.take (m-1)from rfl,eh2,set_push,←eh2,show(0:Int).toNat=0 from rfl]at s2
 obtain⟨h3,eh3⟩: ∃h3:H,h3=h++[.row ⟨ints (0::ds.take (m-1)),3,1,true⟩]:=⟨_,rfl⟩
 rw[←eh3]at s2
 have r3:h3.row h.length=some ⟨ints ([]++(0::ds.take (m-1))),3,1,true⟩:=by rw[eh3];exact cv8
 have p3:h<+:h3:=by rw[eh3];exact List.prefix_append _ _
 have hd3:Dig p ([]++(0::ds.take (m-1))):=by
  intro z hz
  rw[List.nil_append,List.mem_cons]at hz
  rcases hz with rfl|hz
  ·omega
  ·exact hdd z (List.mem_of_mem_take hz)
 obtain⟨h4,p4,r4,d4,tl⟩:=iv0 hf hF hM top ht m 0 [] (0::ds.take (m-1)) h3 rfl (by simp) (by simp;omega) hd3 p3 r3
 simp only[List.nil_append,List.length_nil,List.drop_zero]at r4 d4
 obtain⟨z,hz⟩: ∃z,z=axpy p top (0::ds.take (m-1)) (negm p m mod):=⟨_,rfl⟩
 rw[←hz]at r4 d4
 have hzl:z.length=m:=by rw[hz,ly3];simp;omega
 have rz:RdI h4 (some ⟨h.length,0,none⟩) m z:=by have:=RdI.ofRow r4 rfl;rw[hzl]at this;exact this
 have hb: ∀j,j≤z.length→0≤numb p (z.drop j)∧numb p (z.drop j)≤1000000:=by
  intro j hj
  have h1:=v51 (p:=p) (by omega) (l:=z.drop j) (fun x hx=>d4 x (List.mem_of_mem_drop hx))
  have h2:p^(z.drop j).length≤p^m:=tv0 (by omega) (by rw[List.length_drop];omega)
  rw[hf.pm]at h2
  omega
 have hnum:=f51 p z (some ⟨h.length,0,none⟩) m h4 rz (by omega) hp64 (fun x hx=>by have:=d4 x hx;omega) (by omega) (by omega) hb
 rw[hzl,←kw2]at hnum
 have b14:=ix6 b1 p4
 have hu:ss4 h1 1 (some ⟨h.length,0,none⟩)=true:=by unfold ss4;simp only[r1];rfl
 have c1:0≤(1:Int)∧(1:Int)≤(m:Int)∧(m:Int)≤(m:Int):=by omega
 have c2:0≤(0:Int)∧0≤(m:Int)-1∧(m:Int)-1≤(m:Int):=by omega
 have c3:((m:Int)-1).toNat=m-1:=by omega
 rw[c3]at e1
 have c4:0≤(0:Int)∧(0:Int)<(m:Int):=by omega
 refine⟨h4,p4, ?_⟩
 rw[vl3,if_neg hm,←hds,←htop,←hz,wn8 T231 rfl]
 unfold F231 c231
 simp(disch:=first|omega|(simp only[rl9,wi2,q89]<;>omega)|fail) only[push_cast,seval,b1,b2,nb8 hmi,ed,b21,b11,wrap64,hi1,e1,hu,c1,c2,c3,Int.sub_zero,Int.toNat_natCast,ite_self,hmi,hcp,c4.2,s2]
 rw[tl]
 simp(disch:=first|omega|(simp only[rl9,wi2,q89]<;>omega)|fail) only[push_cast,seval,b14,hnum]
end
theorem RdI.at{h h':H}{o off c:Nat}{zs:List Int}(hr:RdI h (some ⟨o,off,none⟩) c zs)(he:h'.row o=h.row o):RdI h' (some ⟨o,off,none⟩) c zs:=by
 rcases hr with⟨h1,_⟩|⟨h1,o',off',r,h2,h3,h4⟩
 ·cases h1
 ·cases h2
  exact .inr ⟨h1,o,off,r,rfl,by rw[he];exact h3,h4⟩
theorem sg3{h:H}{o o':Nat}{b:Ob}(hne:o≠o'):(h.set o b)[o']? =h[o']? :=List.getElem?_set_ne hne
theorem ax8{q p g:Int}{m:Nat}{mod:List Int}(hf:FOk q p m mod)(a:Int):0≤vl3 p m g mod a∧vl3 p m g mod a<q:=by
 have hp:=hf.p2
 have hm1:=hf.m1
 unfold vl3
 by_cases h1:m=1
 ·rw[if_pos h1]
  have:=hf.pm
  rw[h1,Int.pow_succ,Int.pow_zero,Int.one_mul]at this
  rw[this]
  have:=hf.q2
  exact⟨Int.emod_nonneg _ (by omega),Int.emod_lt_of_pos _ (by omega)⟩
 ·rw[if_neg h1,←hf.pm]
  have hd:Dig p (0::(digs p m a).take (m-1)):=by
   intro z hz
   rw[List.mem_cons]at hz
   rcases hz with rfl|hz
   ·omega
   ·exact Dig.digs (by omega) m a z (List.mem_of_mem_take hz)
  have h2:=v51 (p:=p) (by omega) (Dig.axpy (c:=gi (digs p m a) (m-1:Nat)) (by omega) (negm p m mod) hd)
  have hl:(axpy p (gi (digs p m a) (m-1:Nat)) (0::(digs p m a).take (m-1)) (negm p m mod)).length=m:=by
   rw[ly3,List.length_cons,List.length_take,hn5];omega
  rw[hl]at h2
  exact h2
def ql6(p:Int)(m:Nat)(g:Int)(mod:List Int):Nat→Int→Int→List Int→List Int→Option (List Int×List Int×Int)
 |0,_,a,e,l=>some (e,l,a)
 |n+1,k,a,e,l=>bif (a==0)||decide (0≤gi l a)then none else ql6 p m g mod n (k+1) (vl3 p m g mod a) (e.set k.toNat a) (l.set a.toNat k)
section
variable {q p g:Int} {m:Nat} {mod:List Int} {om fm cm F n0:Nat} {h3:H}
theorem ze4(hq:2≤q∧q≤64)(pf:List Value)(hpf:pf[6]? =some (.slice (some ⟨n0+1,0,none⟩) q.toNat q.toNat))(hF:h3.row F=some ⟨pf,173,0,true⟩)(hFl:F<n0):
 ∀(n:Nat) (i:Int) (iN:Nat) (G:H),i=(iN:Int)→iN+n=q.toNat→(∀o,o≤n0→G[o]? =h3[o]?)→G.row (n0+1)=some ⟨ints (List.replicate iN (-1)++List.replicate n 0),3,1,true⟩→
 ∃G':H,(∀o,o≤n0→G'[o]? =h3[o]?)∧G'.row (n0+1)=some ⟨ints (List.replicate q.toNat (-1)),3,1,true⟩∧
  ∀ks,goL T [.tmp 2] [0,27,28] c205L0 (.blk 0 [0]::ks) [(0, .pointer (some ⟨F,0,none⟩)),(27, .int .i64 q),(28, .int .i64 i)] G=go T [.tmp 2] ks (Fr.of [(0, .pointer (some ⟨F,0,none⟩))]) G'
 |0,i,iN,G,hi,hn,hk,hr=>by
  subst hi
  refine⟨G,hk,by rw[hr,show iN=q.toNat by omega];simp,fun ks=> ?_⟩
  rw[ur1 c205L0.eq_def]
  simp(disch:=first|omega|(simp only[rl9,wi2,q89]<;>omega)|fail) only[push_cast,seval,cw6]
 |n+1,i,iN,G,hi,hn,hk,hr=>by
  subst hi
  have b6:G.ld1 F 6=some (.slice (some ⟨n0+1,0,none⟩) q.toNat q.toNat):=s18 (by rw[cp7 (hk F (by omega))];exact hF) hpf
  have es:=l45 hr (i:=(iN:Int)) (v:= -1) (by omega) (by simp;omega)
  have hset:(List.replicate iN (-1)++List.replicate (n+1) 0).set ((iN:Int)).toNat (-1:Int)=List.replicate (iN+1) (-1)++List.replicate n 0:=by
   rw[List.replicate_succ,pc9 (by simp),List.replicate_succ' (n:=iN)];simp
  rw[hset]at es
  obtain⟨G1,eG1⟩: ∃G1:H,G1=G.set (n0+1) (.row ⟨ints (List.replicate (iN+1) (-1)++List.replicate n 0),3,1,true⟩):=⟨_,rfl⟩
  rw[←eG1]at es
  have r1:G1.row (n0+1)=some ⟨ints (List.replicate (iN+1) (-1)++List.replicate n 0),3,1,true⟩:=by rw[eG1];exact tr3 (h42 hr)
  obtain⟨G',k',r',ih⟩:=ze4 hq pf hpf hF hFl n ((iN:Int)+1) (iN+1) G1 (by omega) (by omega) (fun o ho=>by rw[eG1,sg3 (by omega)];exact hk o ho) r1
  refine⟨G',k',r',fun ks=> ?_⟩
  have hi1:0≤(iN:Int)∧(iN:Int)<((q.toNat:Nat):Int):=by omega
  have hi2:(iN:Int)<max q 0:=by omega
  rw[←ih ks,ur1 c205L0.eq_def]
  simp(disch:=first|omega|(simp only[rl9,wi2,q89]<;>omega)|fail) only[push_cast,seval,dec_lt,b6,hi1,hi2,es,wrap64]
theorem ok1(hf:FOk q p m mod)(hg:0≤g∧g<q)(hF:h3.row F=some (pfR q p m (.slice (some ⟨om,fm,none⟩) mod.length cm) g (.slice (some ⟨n0,0,none⟩) (q-1).toNat (q-1).toNat) (.slice (some ⟨n0+1,0,none⟩) q.toNat q.toNat)))(hFl:F<n0)
 (hM:RdI h3 (some ⟨om,fm,none⟩) cm mod) (hom:om<n0):
 ∀(n:Nat) (k a:Int) (e l:List Int) (G:H),k+n=q-1→0≤k→0≤a∧a<q→e.length=(q-1).toNat→l.length=q.toNat→(∀o,o<n0→G[o]? =h3[o]?)→n0+2≤G.length→G.row n0=some ⟨ints e,3,1,true⟩→G.row (n0+1)=some ⟨ints l,3,1,true⟩→
 ∃G':H,(∀o,o<n0→G'[o]? =h3[o]?)∧n0+2≤G'.length∧(∀e' l' a',ql6 p m g mod n k a e l=some (e',l',a')→G'.row n0=some ⟨ints e',3,1,true⟩∧G'.row (n0+1)=some ⟨ints l',3,1,true⟩∧e'.length=(q-1).toNat∧l'.length=q.toNat)∧
  ∀ks,goL T [.tmp 2] [0,4,42,43] c205L1 (.blk 2 [4]::ks) [(0, .pointer (some ⟨F,0,none⟩)),(4, .int .i64 a),(42, .int .i64 (q-1)),(43, .int .i64 k)] G=
   match ql6 p m g mod n k a e l with
   |none=>some (.bool false,G')
   |some (_,_,a')=>go T [.tmp 2] ks (Fr.of [(4, .int .i64 a')]) G'
 |0,k,a,e,l,G,hk,hk0,ha,hel,hll,hK,hGl,hrE,hrL=>by
  refine⟨G,hK,hGl,fun e' l' a' he=>by rw[ql6]at he;cases he;exact⟨hrE,hrL,hel,hll⟩,fun ks=> ?_⟩
  rw[ur1 c205L1.eq_def,ql6]
  simp(disch:=first|omega|(simp only[rl9,wi2,q89]<;>omega)|fail) only[push_cast,seval,cw6]
 |n+1,k,a,e,l,G,hk,hk0,ha,hel,hll,hK,hGl,hrE,hrL=>by
  have hq2:=hf.q2
  have hq64:=hf.q64
  have hkl:k<q-1:=by omega
  have rF:=(cp7 (hK F (by omega))).trans hF
  have b5:G.ld1 F 5=some (.slice (some ⟨n0,0,none⟩) (q-1).toNat (q-1).toNat):=s18 rF rfl
  have b6:G.ld1 F 6=some (.slice (some ⟨n0+1,0,none⟩) q.toNat q.toNat):=s18 rF rfl
  by_cases hz:a=0
  ·refine⟨G,hK,hGl,fun e' l' a' he=>(by rw[ql6,show(a==0)=true by simpa using hz,Bool.true_or,cond_true]at he;cases he),fun ks=> ?_⟩
   rw[ur1 c205L1.eq_def,ql6,show(a==0)=true by simpa using hz,Bool.true_or,cond_true]
   simp(disch:=first|omega|(simp only[rl9,wi2,q89]<;>omega)|fail) only[push_cast,seval,dec_lt,mr8 hz]
  have hzb:(a==0)=false:=by simpa using hz
  have hi1:0≤a∧a<((q.toNat:Nat):Int):=by omega
  have hi2:a<max q 0:=by omega
  have el:=i59 hrL (i:=a) (by omega) (by omega)
  by_cases hlg:0≤gi l a
  ·refine⟨G,hK,hGl,fun e' l' a' he=>(by rw[ql6,hzb,Bool.false_or,decide_eq_true hlg,cond_true]at he;cases he),fun ks=> ?_⟩
   rw[ur1 c205L1.eq_def,ql6,hzb,Bool.false_or,decide_eq_true hlg,cond_true]
   simp(disch:=first|omega|(simp only[rl9,wi2,q89]<;>omega)|fail) only[push_cast,seval,dec_lt,nb8 hz,b6,hi1,hi2,el,nl3 hlg]
  have hi3:0≤k∧k<(((q-1).toNat:Nat):Int):=by omega
  have hi4:k<max (q-1) 0:=by omega
  have s1:=l45 hrE (i:=k) (v:=a) (by omega) (by omega)
  obtain⟨G1,eG1⟩: ∃G1:H,G1=G.set n0 (.row ⟨ints (e.set k.toNat a),3,1,true⟩):=⟨_,rfl⟩
  rw[←eG1]at s1
  have r1L:G1.row (n0+1)=some ⟨ints l,3,1,true⟩:=by rw[eG1,jl1 (by omega)];exact hrL
  have r1E:G1.row n0=some ⟨ints (e.set k.toNat a),3,1,true⟩:=by rw[eG1];exact tr3 (h42 hrE)
  have s2:=l45 r1L (i:=a) (v:=k) (by omega) (by omega)
  obtain⟨G2,eG2⟩: ∃G2:H,G2=G1.set (n0+1) (.row ⟨ints (l.set a.toNat k),3,1,true⟩):=⟨_,rfl⟩
  rw[←eG2]at s2
  have r2E:G2.row n0=some ⟨ints (e.set k.toNat a),3,1,true⟩:=by rw[eG2,jl1 (by omega)];exact r1E
  have r2L:G2.row (n0+1)=some ⟨ints (l.set a.toNat k),3,1,true⟩:=by rw[eG2];exact tr3 (h42 r1L)
  have K2: ∀o,o<n0→G2[o]? =h3[o]? :=fun o ho=>by rw[eG2,sg3 (by omega),eG1,sg3 (by omega)];exact hK o ho
  have l2:G2.length=G.length:=by rw[eG2,eG1];simp
  obtain⟨G3,p3,et⟩:=xr3 hf G2 ((cp7 (K2 F (by omega))).trans hF) (RdI.at hM (cp7 (K2 om hom))) hg a ha
  have K3: ∀o,o<n0→G3[o]? =h3[o]? :=fun o ho=>by rw[ym2 p3 (by omega)];exact K2 o ho
  obtain⟨G4,K4,l4,R4,ih⟩:=ok1 hf hg hF hFl hM hom n (k+1) (vl3 p m g mod a) (e.set k.toNat a) (l.set a.toNat k) G3 (by omega) (by omega) (ax8 hf a) (by simpa using hel) (by simpa using hll) K3 (by have:=bt8 p3;omega) (cp5 r2E p3) (cp5 r2L p3)
  have hfe:ql6 p m g mod (n+1) k a e l=ql6 p m g mod n (k+1) (vl3 p m g mod a) (e.set k.toNat a) (l.set a.toNat k):=by
   rw[ql6,hzb,Bool.false_or,decide_eq_false hlg,cond_false]
  refine⟨G4,K4,l4,by rw[hfe];exact R4,fun ks=> ?_⟩
  rw[hfe,←ih ks,ur1 c205L1.eq_def]
  simp(disch:=first|omega|(simp only[rl9,wi2,q89]<;>omega)|fail) only[push_cast,seval,dec_lt,nb8 hz,b5,b6,hi1,hi2,hi3,hi4,el,qc6 (Int.not_le.1 hlg),s1,s2,et,wrap64]
end
structure But (F:Nat) (h h':H):Prop where
 len:h.length≤h'.length
 get: ∀o,o<h.length→o≠F→h'[o]? =h[o]?
theorem But.trans{F:Nat}{h h' h'':H}(a:But F h h')(b:But F h' h''):But F h h'':=
 ⟨Nat.le_trans a.len b.len,fun o ho hne=>by rw[b.get o (by have:=a.len;omega) hne,a.get o ho hne]⟩
theorem But.ofPre{F:Nat}{h h':H}(p:h<+:h'):But F h h':=⟨bt8 p,fun o ho _=>ym2 p ho⟩
theorem But.set{F:Nat}{h:H}{x:Ob}:But F h (h.set F x):=⟨by simp,fun o ho hne=>sg3 (fun e=>hne e.symm)⟩
theorem But.pre{F:Nat}{h h' b:H}(a:But F h h')(hb:b<+:h)(hl:b.length≤F):b<+:h':=
 w09 (by have:=bt8 hb;have:=a.len;omega) (fun o ho=>by rw[a.get o (by have:=bt8 hb;omega) (by omega)];exact ym2 hb ho)
def a98(q p:Int)(m:Nat)(g:Int)(mod:List Int):Option (List Int×List Int×Int):=ql6 p m g mod (q-1).toNat 0 1 (List.replicate (q-1).toNat 0) (List.replicate q.toNat (-1))
def xe1(q p:Int)(m:Nat)(g:Int)(mod:List Int):Bool:=match a98 q p m g mod with
 |some (_,_,a)=>decide (a=1)
 |none=>false
structure PTab (h:H) (F:Nat) (q p:Int) (m:Nat) (ms:Value) (g:Int) (e l:List Int):Prop where
 ok: ∃E L,F<E∧F<L∧h.row F=some (pfR q p m ms g (.slice (some ⟨E,0,none⟩) (q-1).toNat (q-1).toNat) (.slice (some ⟨L,0,none⟩) q.toNat q.toNat))∧
  h.row E=some ⟨ints e,3,1,true⟩∧h.row L=some ⟨ints l,3,1,true⟩∧e.length=(q-1).toNat∧l.length=q.toNat
section
variable {q p g:Int} {m:Nat} {mod:List Int} {om fm cm F:Nat}
theorem yh6(hf:FOk q p m mod)(hg:0≤g∧g<q)(h:H){es ls:Value}(hF:h.row F=some (pfR q p m (.slice (some ⟨om,fm,none⟩) mod.length cm) g es ls))(hM:RdI h (some ⟨om,fm,none⟩) cm mod)(hom:om≠F):
 ∃h':H,But F h h'∧(∃es' ls',h'.row F=some (pfR q p m (.slice (some ⟨om,fm,none⟩) mod.length cm) g es' ls'))∧
  (∀e l a,a98 q p m g mod=some (e,l,a)→PTab h' F q p m (.slice (some ⟨om,fm,none⟩) mod.length cm) g e l)∧
  call T 205 [.pointer (some ⟨F,0,none⟩)] h=some (.bool (xe1 q p m g mod),h'):=by
 have hq2:=hf.q2
 have hq64:=hf.q64
 have hml:=hf.ml
 obtain⟨ms,hms⟩: ∃ms,ms=Value.slice (some ⟨om,fm,none⟩) mod.length cm:=⟨_,rfl⟩
 rw[←hms]at hF⊢
 have hFl:=h42 hF
 have hol:om<h.length:=by
  obtain⟨_,_,e,h1,_⟩:=hM.addr (by omega)
  cases e;exact h1
 have b0:h.ld1 F 0=some (.int .i64 q):=s18 hF rfl
 --exp
 obtain⟨h1,eh1⟩: ∃h1:H,h1=h++[.row ⟨ints (List.replicate (q-1).toNat 0),3,1,true⟩]:=⟨_,rfl⟩
 have p1:h<+:h1:=by rw[eh1];exact List.prefix_append _ _
 have r1:h1.row h.length=some ⟨ints (List.replicate (q-1).toNat 0),3,1,true⟩:=by rw[eh1];exact cv8
 have l1:h1.length=h.length+1:=by rw[eh1];simp
 obtain⟨xs,hxs⟩: ∃x,x=Value.slice (some ⟨h.length,0,none⟩) (q-1).toNat (q-1).toNat:=⟨_,rfl⟩
 have s1:=ym3 (off:=5) (v:=xs) (cp5 hF p1) (by simp) (l':=pfL q p m ms g xs ls) rfl
 obtain⟨h2,eh2⟩: ∃h2:H,h2=h1.set F (.row (pfR q p m ms g xs ls)):=⟨_,rfl⟩
 rw[←eh2]at s1
 have r2F:h2.row F=some (pfR q p m ms g xs ls):=by rw[eh2];exact tr3 (by omega)
 have l2:h2.length=h.length+1:=by rw[eh2];simp[l1]
 have b02:h2.ld1 F 0=some (.int .i64 q):=s18 r2F rfl
 --log
 obtain⟨h3,eh3⟩: ∃h3:H,h3=h2++[.row ⟨ints (List.replicate q.toNat 0),3,1,true⟩]:=⟨_,rfl⟩
 have p3:h2<+:h3:=by rw[eh3];exact List.prefix_append _ _
 have r3:h3.row (h.length+1)=some ⟨ints (List.replicate q.toNat 0),3,1,true⟩:=by rw[eh3,←l2];exact cv8
 obtain⟨ys,hys⟩: ∃y,y=Value.slice (some ⟨h.length+1,0,none⟩) q.toNat q.toNat:=⟨_,rfl⟩
 have s3:=ym3 (off:=6) (v:=ys) (cp5 r2F p3) (by simp) (l':=pfL q p m ms g xs ys) rfl
 obtain⟨h4,eh4⟩: ∃h4:H,h4=h3.set F (.row (pfR q p m ms g xs ys)):=⟨_,rfl⟩
 rw[←eh4]at s3
 have l3:h3.length=h.length+2:=by rw[eh3];simp[l2]
 have l4:h4.length=h.length+2:=by rw[eh4];simp[l3]
 have r4F:h4.row F=some (pfR q p m ms g xs ys):=by rw[eh4];exact tr3 (by omega)
 have r4E:h4.row h.length=some ⟨ints (List.replicate (q-1).toNat 0),3,1,true⟩:=by
  rw[eh4,jl1 (by omega)]
  refine cp5 ?_ p3
  rw[eh2,jl1 (by omega)];exact r1
 have r4L:h4.row (h.length+1)=some ⟨ints (List.replicate 0 (-1)++List.replicate q.toNat 0),3,1,true⟩:=by rw[eh4,jl1 (by omega)];exact r3
 have bt:But F h h4:=((But.ofPre p1).trans (by rw[eh2];exact But.set)).trans ((But.ofPre p3).trans (by rw[eh4];exact But.set))
 have b64:h4.ld1 F 6=some ys:=s18 r4F rfl
 obtain⟨h5,k5,r5L,lo⟩:=ze4 (n0:=h.length) (h3:=h4) (q:=q) ⟨hq2,hq64⟩ (pfL q p m ms g xs ys) (by rw[hys];rfl) r4F hFl q.toNat 0 0 h4 rfl (by omega) (fun _ _=>rfl) r4L
 have r5F:h5.row F=some (pfR q p m ms g xs ys):=(cp7 (k5 F (by omega))).trans r4F
 have r5E:h5.row h.length=some ⟨ints (List.replicate (q-1).toNat 0),3,1,true⟩:=(cp7 (k5 h.length (by omega))).trans r4E
 have b05:h5.ld1 F 0=some (.int .i64 q):=s18 r5F rfl
 have l5:h.length+2≤h5.length:=by have:=h42 r5L;omega
 have hM5:RdI h5 (some ⟨om,fm,none⟩) cm mod:=RdI.at hM ((cp7 (k5 om (by omega))).trans (cp7 (bt.get om hol hom)))
 rw[hxs,hys,hms]at r5F
 obtain⟨h6,k6,l6,R6,fo⟩:=ok1 (n0:=h.length) hf hg r5F hFl hM5 hol (q-1).toNat 0 1 (List.replicate (q-1).toNat 0) (List.replicate q.toNat (-1)) h5 (by omega) (by omega) (by omega) (by simp) (by simp) (fun _ _=>rfl) l5 r5E r5L
 have r6F:h6.row F=some (pfR q p m ms g xs ys):=by rw[cp7 (k6 F (by omega)),hxs,hys,hms];exact r5F
 refine⟨h6,⟨by omega,fun o ho hne=>by rw[k6 o ho,k5 o (by omega),bt.get o ho hne]⟩,⟨xs,ys,r6F⟩,fun e l a he=> ?_, ?_⟩
 ·obtain⟨q1,q2,q3,q4⟩:=R6 e l a he
  exact⟨h.length,h.length+1,by omega,by omega,by rw[r6F,hxs,hys],q1,q2,q3,q4⟩
 rw[wn8 T205 rfl]
 unfold F205 c205
 have c1:0≤q-1∧q-1≤q-1∧q-1≤1099511627776∧(q-1)*8≤140737488355328:=by omega
 have c2:0≤q∧q≤q∧q≤1099511627776∧q*8≤140737488355328:=by omega
 have c3:max q 0=q:=by omega
 subst hxs hys
 simp(disch:=first|omega|(simp only[rl9,wi2,q89]<;>omega)|fail) only[push_cast,seval,b0,wrap64,c1,k78,←eh1,s1,b02,c2,←eh3,l2,s3,b64,c3]
 rw[show((q.toNat:Nat):Int)=q by omega,lo]
 simp(disch:=first|omega|(simp only[rl9,wi2,q89]<;>omega)|fail) only[push_cast,seval,b05,wrap64]
 rw[fo]
 unfold xe1 a98
 cases hx:ql6 p m g mod (q-1).toNat 0 1 (List.replicate (q-1).toNat 0) (List.replicate q.toNat (-1))with
 |none=>rfl
 |some x=>
  obtain⟨e,l,a⟩:=x
  simp(disch:=first|omega|(simp only[rl9,wi2,q89]<;>omega)|fail) only[push_cast,seval]
end
def genB(q p:Int):Nat→Int→Option Int
 |0,_=>none
 |n+1,g=>bif xe1 q p 1 g [0,1]then some g else genB q p n (g+1)
def lowB(q p:Int)(m:Nat):Nat→Int→Option (List Int)
 |0,_=>none
 |n+1,low=>bif xe1 q p m p (digs p m low++[1])then some (digs p m low++[1])else lowB q p m n (low+1)
def v68(n:Nat):Bool:=
 match fldN n with
 |none=>true
 |some (p,m,g,mod)=>(bif decide (m=1)then decide (genB n p (n-1) 1=some g)else decide (lowB n p m n 0=some mod))&&xe1 n p m g mod
theorem tw0:((List.range 63).all fun n=>v68 (n+2))=true:=by kernel_rfl
theorem za4{n:Nat}(h2:2≤n)(h64:n≤64):v68 n=true:=by
 have h:=List.all_eq_true.1 tw0 (n-2) (List.mem_range.2 (by omega))
 rw[show n-2+2=n by omega]at h
 exact h
def tabs(n:Nat):List Int×List Int:=match fldN n with
 |some (p,m,g,mod)=>match a98 n p m g mod with
  |some (e,l,_)=>(e,l)
  |none=>([],[])
 |none=>([],[])
section
variable {q p:Int}
theorem bg3(hf:FOk q p 1 [0,1]){om fm cm F:Nat}(hom:om≠F): ∀(n:Nat) (g gen:Int) (G:H) (es ls:Value),1≤g→g+n≤q→genB q p n g=some gen→
 G.row F=some (pfR q p 1 (.slice (some ⟨om,fm,none⟩) 2 cm) g es ls)→RdI G (some ⟨om,fm,none⟩) cm [0,1]→
 ∃G':H,But F G G'∧(∀e l a,a98 q p 1 gen [0,1]=some (e,l,a)→PTab G' F q p 1 (.slice (some ⟨om,fm,none⟩) 2 cm) gen e l)∧
  ∀ks,goL T [.tmp 2] [5] c160L0 (.blk 0 [5]::ks) [(5, .pointer (some ⟨F,0,none⟩))] G=go T [.tmp 2] ks (Fr.of [(5, .pointer (some ⟨F,0,none⟩))]) G'
 |0,g,gen,G,es,ls,h1,h2,he,hr,hM=>by cases he
 |n+1,g,gen,G,es,ls,h1,h2,he,hr,hM=>by
  rw[genB]at he
  have hq64:=hf.q64
  obtain⟨G1,b1,⟨es1,ls1,r1⟩,T1,ef⟩:=yh6 hf (g:=g) (by omega) G hr hM hom
  rw[show((1:Nat):Int)=1 from rfl]at r1
  cases hx:xe1 q p 1 g [0,1]with
  |true=>
   rw[hx,cond_true]at he
   cases he
   rw[hx]at ef
   refine⟨G1,b1,T1,fun ks=> ?_⟩
   rw[ur1 c160L0.eq_def]
   simp(disch:=first|omega|(simp only[rl9,wi2,q89]<;>omega)|fail) only[push_cast,seval,ef]
  |false=>
   rw[hx,cond_false]at he
   rw[hx]at ef
   have b4:G1.ld1 F 4=some (.int .i64 g):=s18 r1 rfl
   have s1:=ym3 (off:=4) (v:= .int .i64 (g+1)) r1 (by simp) (l':=pfL q p 1 (.slice (some ⟨om,fm,none⟩) 2 cm) (g+1) es1 ls1) rfl
   obtain⟨G2,eG2⟩: ∃G2:H,G2=G1.set F (.row (pfR q p 1 (.slice (some ⟨om,fm,none⟩) 2 cm) (g+1) es1 ls1)):=⟨_,rfl⟩
   rw[←eG2]at s1
   have r2:G2.row F=some (pfR q p 1 (.slice (some ⟨om,fm,none⟩) 2 cm) (g+1) es1 ls1):=by rw[eG2];exact tr3 (h42 r1)
   have b2:But F G G2:=b1.trans (by rw[eG2];exact But.set)
   have hol:om<G.length:=by
    obtain⟨_,_,e,h1,_⟩:=hM.addr (by simp)
    cases e;exact h1
   obtain⟨G3,b3,T3,ih⟩:=bg3 hf hom n (g+1) gen G2 es1 ls1 (by omega) (by omega) he r2 (RdI.at hM (cp7 (b2.get om hol hom)))
   refine⟨G3,b2.trans b3,T3,fun ks=> ?_⟩
   rw[←ih ks,ur1 c160L0.eq_def]
   simp(disch:=first|omega|(simp only[rl9,wi2,q89]<;>omega)|fail) only[push_cast,seval,ef,b4,wrap64,s1]
theorem vm2{m:Nat}(hpq:0≤p∧p<q)(hf: ∀low,0≤low→FOk q p m (digs p m low++[1])){F:Nat}:
 ∀(n:Nat) (low:Int) (mod:List Int) (ms es ls:Value) (G:H),0≤low→low+n≤q→lowB q p m n low=some mod→G.row F=some (pfR q p m ms p es ls)→
 ∃(G':H) (om:Nat),But F G G'∧F<om∧RdI G' (some ⟨om,0,none⟩) (m+1) mod∧(∀e l a,a98 q p m p mod=some (e,l,a)→PTab G' F q p m (.slice (some ⟨om,0,none⟩) mod.length (m+1)) p e l)∧
  ∀ks,goL T [.tmp 2] [3,4,5,43,44] c160L1 (.blk 2 []::ks) [(3, .int .i64 p),(4, .int .i64 m),(5, .pointer (some ⟨F,0,none⟩)),(43, .int .i64 q),(44, .int .i64 low)] G=some (.pointer (some ⟨F,0,none⟩),G')
 |0,low,mod,ms,es,ls,G,h1,h2,he,hr=>by cases he
 |n+1,low,mod,ms,es,ls,G,h1,h2,he,hr=>by
  rw[lowB]at he
  have hfl:=hf low h1
  have hq64:=hfl.q64
  have hm10:=hfl.m10
  have hp2:=hfl.p2
  have hm1:=hfl.m1
  have hFl:=h42 hr
  have ed:=xy9 low p m G (by omega) (by omega) h1 (by omega)
  obtain⟨G1,eG1⟩: ∃G1:H,G1=G++[.row ⟨ints (digs p m low),3,1,true⟩]:=⟨_,rfl⟩
  rw[←eG1]at ed
  have l1:G1.length=G.length+1:=by rw[eG1];simp
  have gd:Grown G1 (some ⟨G.length,0,none⟩) m (digs p m low) G.length:= .inr ⟨G.length,rfl,Nat.le_refl _,(hn5 _ _ _).symm,by rw[eG1];exact cv8⟩
  obtain⟨sb,G2,ea,gb,hl2,hk2,hpp2⟩:=gd.one (y:=1) (by rw[hn5];omega) (by omega)
  rw[hn5]at ea gb
  have p2:G<+:G2:=hpp2 G (Nat.le_refl _) (by rw[eG1];exact List.prefix_append _ _)
  obtain⟨mo,hmo⟩: ∃mo,mo=digs p m low++[1]:=⟨_,rfl⟩
  have hml:mo.length=m+1:=by rw[hmo];simp[hn5]
  rw[←hmo]at gb he hfl
  have r2F:=cp5 hr p2
  have s1:=ym3 (off:=3) (v:= .slice sb (m+1) (m+1)) r2F (by simp) (l':=pfL q p m (.slice sb (m+1) (m+1)) p es ls) rfl
  obtain⟨G3,eG3⟩: ∃G3:H,G3=G2.set F (.row (pfR q p m (.slice sb (m+1) (m+1)) p es ls)):=⟨_,rfl⟩
  rw[←eG3]at s1
  have r3F:G3.row F=some (pfR q p m (.slice sb (m+1) (m+1)) p es ls):=by rw[eG3];exact tr3 (h42 r2F)
  have g3:Grown G3 sb (m+1) mo G.length:=gb.carry (fun o ho _=>by rw[eG3,jl1 (by omega)])
  have b3:But F G G3:=(But.ofPre p2).trans (by rw[eG3];exact But.set)
  obtain⟨om,rfl,hom,_,r3o⟩: ∃o,sb=some ⟨o,0,none⟩∧G.length≤o∧m+1=mo.length∧G3.row o=some ⟨ints mo,3,1,true⟩:=by
   rcases g3 with⟨_,h0,_⟩|h0
   ·omega
   ·exact h0
  have rm:RdI G3 (some ⟨om,0,none⟩) (m+1) mo:=g3.rd
  rw[←hml]at r3F
  obtain⟨G4,b4,⟨es4,ls4,r4⟩,T4,ef⟩:=yh6 hfl hpq G3 (cm:=mo.length) r3F (by rw[hml];exact rm) (by omega)
  have rm4:RdI G4 (some ⟨om,0,none⟩) (m+1) mo:=RdI.at rm (cp7 (b4.get om (h42 r3o) (by omega)))
  cases hx:xe1 q p m p mo with
  |true=>
   rw[hx,cond_true]at he
   have he':mo=mod:=Option.some.inj he
   rw[hx]at ef
   rw[←he']
   refine⟨G4,om,b3.trans b4,by omega,rm4,by rw[hml]at T4⊢;exact T4,fun ks=> ?_⟩
   rw[ur1 c160L1.eq_def]
   simp(disch:=first|omega|(simp only[rl9,wi2,q89]<;>omega)|fail) only[push_cast,seval,dec_lt,ed,ea,s1,ef]
  |false=>
   rw[hx,cond_false]at he
   rw[hx]at ef
   obtain⟨G5,om5,b5,ho5,rm5,T5,ih⟩:=vm2 hpq hf n (low+1) mod _ es4 ls4 G4 (by omega) (by omega) he r4
   refine⟨G5,om5,(b3.trans b4).trans b5,ho5,rm5,T5,fun ks=> ?_⟩
   rw[←ih ks,ur1 c160L1.eq_def]
   simp(disch:=first|omega|(simp only[rl9,wi2,q89]<;>omega)|fail) only[push_cast,seval,dec_lt,ed,ea,s1,ef,wrap64]
end
structure PFld (h:H) (F:Nat) (q p:Int) (m:Nat) (g:Int) (mod:List Int):Prop where
 ok: ∃om fm cm,F<om∧RdI h (some ⟨om,fm,none⟩) cm mod∧PTab h F q p m (.slice (some ⟨om,fm,none⟩) mod.length cm) g (tabs q.toNat).1 (tabs q.toNat).2
theorem PFld.keep{h h':H}{F:Nat}{q p:Int}{m:Nat}{g:Int}{mod:List Int}(hp:PFld h F q p m g mod)(hk: ∀o,F≤o→o<h.length→h'.row o=h.row o):PFld h' F q p m g mod:=by
 obtain⟨om,fm,cm,ho,hM,⟨E,L,h1,h2,h3,h4,h5,h6,h7⟩⟩:=hp.ok
 refine⟨om,fm,cm,ho, ?_,⟨E,L,h1,h2, ?_, ?_, ?_,h6,h7⟩⟩
 ·rcases hM with⟨hx,_⟩|⟨q1,o',off',r,q2,q3,q4⟩
  ·cases hx
  ·cases q2;exact .inr ⟨q1,om,fm,r,rfl,by rw[hk om (by omega) (h42 q3)];exact q3,q4⟩
 ·rw[hk F (Nat.le_refl _) (h42 h3)];exact h3
 ·rw[hk E (by omega) (h42 h4)];exact h4
 ·rw[hk L (by omega) (h42 h5)];exact h5
theorem sq0(a b c d e f g x:Value):hu1 [a,b,c,d,e,f,g] 0 [x]=[x,b,c,d,e,f,g]:=rfl
theorem sq1(a b c d e f g x:Value):hu1 [a,b,c,d,e,f,g] 1 [x]=[a,x,c,d,e,f,g]:=rfl
theorem sq2(a b c d e f g x:Value):hu1 [a,b,c,d,e,f,g] 2 [x]=[a,b,x,d,e,f,g]:=rfl
theorem w69(q:Int)(hq:2≤q∧q≤64)(hn:fldN q.toNat=none)(h:H):call T 160 [.int .i64 q] h=some (.pointer none,h):=by
 have ho:=wd5 (n:=q.toNat) (by omega) (by omega) hn
 rw[show((q.toNat:Nat):Int)=q by omega]at ho
 have hp:=e46 q hq h _ ho
 rw[wn8 T160 rfl]
 unfold F160 c160
 simp(disch:=first|omega|(simp only[rl9,wi2,q89]<;>omega)|fail) only[push_cast,seval,hp]
theorem ak2(q:Int){p g:Int}{m:Nat}{mod:List Int}(hn:fldN q.toNat=some (p,m,g,mod))(h:H): ∃(h':H) (F:Nat),h<+:h'∧h.length≤F∧PFld h' F q p m g mod∧
 call T 160 [.int .i64 q] h=some (.pointer (some ⟨F,0,none⟩),h'):=by
 obtain⟨hq2,hq64⟩:=ug0 hn
 have hqq:((q.toNat:Nat):Int)=q:=by omega
 obtain⟨hf,ho,hg1,hg2,_⟩:=hi9 hn
 have hb:=za4 hq2 hq64
 unfold v68 at hb
 rw[hn]at hb
 simp only[Bool.and_eq_true]at hb
 obtain⟨hb1,hb2⟩:=hb
 rw[hqq]at hf ho hg2 hb1 hb2
 have hp:=e46 q (by omega) h _ ho
 have hp2:=hf.p2
 have hp0: ¬p=0:=by omega
 --the tables
 obtain⟨e,l,a,het⟩: ∃e l a,a98 q p m g mod=some (e,l,a):=by
  unfold xe1 at hb2
  cases hx:a98 q p m g mod with
  |none=>rw[hx]at hb2;cases hb2
  |some x=>exact⟨x.1,x.2.1,x.2.2,rfl⟩
 have htab:tabs q.toNat=(e,l):=by
  unfold tabs
  rw[hn]
  simp only
  rw[hqq,het]
 obtain⟨h1,eh1⟩: ∃h1:H,h1=h++[.row (pfR q p m (.slice none 0 0) 0 (.slice none 0 0) (.slice none 0 0))]:=⟨_,rfl⟩
 have r1:h1.row h.length=some (pfR q p m (.slice none 0 0) 0 (.slice none 0 0) (.slice none 0 0)):=by rw[eh1];exact cv8
 have p1:h<+:h1:=by rw[eh1];exact List.prefix_append _ _
 have l1:h1.length=h.length+1:=by rw[eh1];simp
 by_cases hm:m=1
 ·subst hm
  rw[show((1:Nat):Int)=1 from rfl]at hp r1 eh1
  simp only[decide_true,cond_true,decide_eq_true_eq]at hb1
  have hmod:mod=[0,1]:=by
   have:=(hi9 hn).2.2.2.2
   rw[if_pos rfl]at this
   exact this.2
  subst hmod
  obtain⟨h2,eh2⟩: ∃h2:H,h2=h1++[.row ⟨[.int .i64 0, .int .i64 1],3,1,true⟩]:=⟨_,rfl⟩
  have r2:h2.row h1.length=some ⟨ints [0,1],3,1,true⟩:=by rw[eh2];exact cv8
  have p2:h1<+:h2:=by rw[eh2];exact List.prefix_append _ _
  have s2:=ym3 (off:=3) (v:= .slice (some ⟨h1.length,0,none⟩) 2 2) (cp5 r1 p2) (by simp) (l':=pfL q p 1 (.slice (some ⟨h1.length,0,none⟩) 2 2) 0 (.slice none 0 0) (.slice none 0 0)) rfl
  obtain⟨h3,eh3⟩: ∃h3:H,h3=h2.set h.length (.row (pfR q p 1 (.slice (some ⟨h1.length,0,none⟩) 2 2) 0 (.slice none 0 0) (.slice none 0 0))):=⟨_,rfl⟩
  rw[←eh3]at s2
  have r3:h3.row h.length=some (pfR q p 1 (.slice (some ⟨h1.length,0,none⟩) 2 2) 0 (.slice none 0 0) (.slice none 0 0)):=by rw[eh3];exact tr3 (h42 (cp5 r1 p2))
  have s3:=ym3 (off:=4) (v:= .int .i64 1) r3 (by simp) (l':=pfL q p 1 (.slice (some ⟨h1.length,0,none⟩) 2 2) 1 (.slice none 0 0) (.slice none 0 0)) rfl
  obtain⟨h4,eh4⟩: ∃h4:H,h4=h3.set h.length (.row (pfR q p 1 (.slice (some ⟨h1.length,0,none⟩) 2 2) 1 (.slice none 0 0) (.slice none 0 0))):=⟨_,rfl⟩
  rw[←eh4]at s3
  have r4:h4.row h.length=some (pfR q p 1 (.slice (some ⟨h1.length,0,none⟩) 2 2) 1 (.slice none 0 0) (.slice none 0 0)):=by rw[eh4];exact tr3 (h42 r3)
  have r4o:h4.row h1.length=some ⟨ints [0,1],3,1,true⟩:=by rw[eh4,jl1 (by omega),eh3,jl1 (by omega)];exact r2
  have bt:But h.length h h4:=(But.ofPre (p1.trans p2)).trans (by rw[eh4];exact(But.trans (by rw[eh3];exact But.set) But.set))
  have hM:RdI h4 (some ⟨h1.length,0,none⟩) 2 [0,1]:=RdI.ofRow r4o rfl
  obtain⟨h5,b5,T5,gl⟩:=bg3 hf (om:=h1.length) (F:=h.length) (by omega) (q.toNat-1) 1 g h4 _ _ (by omega) (by omega) hb1 r4 hM
  have hT:=T5 e l a het
  refine⟨h5,h.length,(bt.trans b5).pre (List.prefix_refl _) (Nat.le_refl _),Nat.le_refl _,⟨h1.length,0,2,by omega,RdI.at hM (cp7 (b5.get _ (h42 r4o) (by omega))),by rw[htab];exact hT⟩, ?_⟩
  rw[wn8 T160 rfl]
  unfold F160 c160
  simp(disch:=first|omega|(simp only[rl9,wi2,q89]<;>omega)|fail) only[push_cast,seval,hp,nb8 hp0,sq0,sq1,sq2,←eh1,←eh2,s2,s3]
  rw[gl]
  simp(disch:=first|omega|(simp only[rl9,wi2,q89]<;>omega)|fail) only[push_cast,seval]
 ·rw[decide_eq_false hm,cond_false,decide_eq_true_eq]at hb1
  have hgp:g=p:=by
   have:=(hi9 hn).2.2.2.2
   rw[if_neg hm]at this
   exact this.2
  subst hgp
  have hmi: ¬((m:Int)=1):=by omega
  have s2:=ym3 (off:=4) (v:= .int .i64 g) r1 (by simp) (l':=pfL q g m (.slice none 0 0) g (.slice none 0 0) (.slice none 0 0)) rfl
  obtain⟨h3,eh3⟩: ∃h3:H,h3=h1.set h.length (.row (pfR q g m (.slice none 0 0) g (.slice none 0 0) (.slice none 0 0))):=⟨_,rfl⟩
  rw[←eh3]at s2
  have r3:h3.row h.length=some (pfR q g m (.slice none 0 0) g (.slice none 0 0) (.slice none 0 0)):=by rw[eh3];exact tr3 (h42 r1)
  have hff: ∀low,0≤low→FOk q g m (digs g m low++[1]):=fun low h0=>⟨hf.q2,hf.q64,hf.p2,hf.p64,hf.m1,hf.m10,hf.pm,by simp[hn5],fun z hz=>by
   rw[List.mem_append]at hz
   rcases hz with hz|hz
   ·exact Dig.digs (by omega) _ _ z hz
   ·simp at hz;omega⟩
  have bt:But h.length h h3:=(But.ofPre p1).trans (by rw[eh3];exact But.set)
  obtain⟨h4,om,b4,ho4,rm4,T4,gl⟩:=vm2 ⟨by omega,by omega⟩ hff q.toNat 0 mod _ _ _ h3 (by omega) (by omega) hb1 r3
  refine⟨h4,h.length,(bt.trans b4).pre (List.prefix_refl _) (Nat.le_refl _),Nat.le_refl _,⟨om,0,m+1,ho4,rm4,by rw[htab];exact T4 e l a het⟩, ?_⟩
  rw[wn8 T160 rfl]
  unfold F160 c160
  simp(disch:=first|omega|(simp only[rl9,wi2,q89]<;>omega)|fail) only[push_cast,seval,hp,nb8 hp0,nb8 hmi,sq0,sq1,sq2,←eh1,s2]
  rw[gl]
theorem y03(a b c:Value)(r:List Value): ∀(n i:Nat),i<n→(rep [a,b,c] n++r)[i*3]? =some a∧(rep [a,b,c] n++r)[i*3+1]? =some b
 |0,i,h=>by omega
 |n+1,0,h=>⟨rfl,rfl⟩
 |n+1,i+1,h=>by
  have:=y03 a b c r n i (by omega)
  have e1:(i+1)*3=i*3+1+1+1:=by omega
  rw[e1]
  exact this
theorem gr6(a b c:Value): ∀n:Nat,(rep [a,b,c] n).length=n*3
 |0=>rfl
 |n+1=>by rw[rep,List.length_append,gr6 a b c n];simp;omega
theorem z_eq:zk5=rep [.int .u32 0, .int .i32 0, .int .u32 0] 65++List.replicate 65 (.pointer none):=by kernel_rfl
theorem no1(n:Nat)(hn:n<65):zk5[n*3]? =some (.int .u32 0)∧zk5[n*3+1]? =some (.int .i32 0)∧zk5.length=260:=by
 rw[z_eq]
 obtain⟨h1,h2⟩:=y03 (.int .u32 0) (.int .i32 0) (.int .u32 0) (List.replicate 65 (.pointer none)) 65 n hn
 exact⟨h1,h2,by rw[List.length_append,gr6,List.length_replicate]⟩
theorem ye6{h:H}{o off:Nat}{l:List Value}{e u:Nat}{v:Value}(hr:h.row o=some ⟨l,e,u,true⟩)(hv:l[off]? =some v):h.ld1 o off=some v:=s18 hr hv
theorem yr0(q:Int)(hq:2≤q∧q≤64)(h2:H)(B S:Nat)(hBS:B≠S)(hB:h2.row B=some ⟨[.int .i64 q],3,0,true⟩)(hS:h2.row S=some ⟨zk5,169,0,true⟩):
 ∃h3:H,h3=h2.set S (.row ⟨zk5.set (q.toNat*3+1) (.int .i32 1),169,0,true⟩)∧ ∀(h4:H) (x:Option Addr),h3<+:h4→call T 160 [.int .i64 q] h3=some (.pointer x,h4)→
  ∃(h7:H) (Z:List Value),call T 158 [.pointer (some ⟨S,q.toNat*3,none⟩), .func (.func 159) #[] #[.pointer (some ⟨B,0,none⟩), .pointer (some ⟨S,0,none⟩)]] h2=some (.tuple #[],h7)∧
   h7.length=h4.length∧(∀o,o≠S→h7[o]? =h4[o]?)∧h7.row S=some ⟨Z,169,0,true⟩∧Z[195+q.toNat]? =some (.pointer x):=by
 obtain⟨z0,z1,zl⟩:=no1 q.toNat (by omega)
 generalize hz:zk5=z at*
 clear hz
 refine⟨_,rfl,fun h4 x p4 eb=> ?_⟩
 have l0:=ye6 hS z0
 have l1:=ye6 hS z1
 have s1:=ym3 (off:=q.toNat*3+1) (v:= .int .i32 1) hS (by omega) rfl
 obtain⟨h3,eh3⟩: ∃h3:H,h3=h2.set S (.row ⟨z.set (q.toNat*3+1) (.int .i32 1),169,0,true⟩):=⟨_,rfl⟩
 rw[←eh3]at s1 eb p4
 have hSl:=h42 hS
 have r3S:h3.row S=some ⟨z.set (q.toNat*3+1) (.int .i32 1),169,0,true⟩:=by rw[eh3];exact tr3 hSl
 have r3B:h3.row B=some ⟨[.int .i64 q],3,0,true⟩:=by rw[eh3,jl1 (fun e=>hBS e.symm)];exact hB
 have b3:h3.ld1 B 0=some (.int .i64 q):=ye6 r3B rfl
 have s2:=ym3 (off:=195+q.toNat) (v:= .pointer x) (cp5 r3S p4) (by simp;omega) rfl
 obtain⟨z2,hz2⟩: ∃z2,z2=(z.set (q.toNat*3+1) (.int .i32 1)).set (195+q.toNat) (.pointer x):=⟨_,rfl⟩
 rw[←hz2]at s2
 have z2l:z2.length=260:=by rw[hz2];simp[zl]
 obtain⟨h5,eh5⟩: ∃h5:H,h5=h4.set S (.row ⟨z2,169,0,true⟩):=⟨_,rfl⟩
 rw[←eh5]at s2
 have r5S:h5.row S=some ⟨z2,169,0,true⟩:=by rw[eh5];exact tr3 (h42 (cp5 r3S p4))
 have z20:z2[q.toNat*3]? =some (.int .u32 0):=by
  rw[hz2,List.getElem?_set_ne (by omega),List.getElem?_set_ne (by omega)];exact z0
 have z21:z2[q.toNat*3+1]? =some (.int .i32 1):=by
  rw[hz2,List.getElem?_set_ne (by omega),List.getElem?_set_self (by omega)]
 have z2x:z2[195+q.toNat]? =some (.pointer x):=by
  rw[hz2,List.getElem?_set_self (by simp;omega)]
 have l50:=ye6 r5S z20
 have l51:=ye6 r5S z21
 have s3:=ym3 (off:=q.toNat*3) (v:= .int .u32 1) r5S (by omega) rfl
 obtain⟨h6,eh6⟩: ∃h6:H,h6=h5.set S (.row ⟨z2.set (q.toNat*3) (.int .u32 1),169,0,true⟩):=⟨_,rfl⟩
 rw[←eh6]at s3
 have r6S:h6.row S=some ⟨z2.set (q.toNat*3) (.int .u32 1),169,0,true⟩:=by rw[eh6];exact tr3 (h42 r5S)
 have s4:=ym3 (off:=q.toNat*3+1) (v:= .int .i32 0) r6S (by simp;omega) rfl
 obtain⟨h7,eh7⟩: ∃h7:H,h7=h6.set S (.row ⟨(z2.set (q.toNat*3) (.int .u32 1)).set (q.toNat*3+1) (.int .i32 0),169,0,true⟩):=⟨_,rfl⟩
 rw[←eh7]at s4
 have hi1:0≤q∧q<((65:Nat):Int):=by omega
 have hi2:0≤q∧q<65:=by omega
 --the closure
 have ec:call T 159 [.pointer (some ⟨B,0,none⟩), .pointer (some ⟨S,0,none⟩)] h3=some (.tuple #[],h5):=by
  rw[wn8 T159 rfl]
  unfold F159 c159
  simp(disch:=first|omega|(simp only[rl9,wi2,q89]<;>omega)|fail) only[push_cast,seval,b3,eb,zy6 p4,hi2,s2]
 refine⟨h7,_, ?_,by rw[eh7,eh6,eh5];simp,fun o ho=> ?_,by rw[eh7];exact tr3 (h42 r6S), ?_⟩
 ·rw[wn8 T158 rfl]
  unfold FDo cDo
  simp(disch:=first|omega|(simp only[rl9,wi2,q89]<;>omega)|fail) only[push_cast,seval,l0,l1,s1,ec,l50,l51,s3,s4]
 ·rw[eh7,sg3 (fun e=>ho e.symm),eh6,sg3 (fun e=>ho e.symm),eh5,sg3 (fun e=>ho e.symm)]
 ·rw[List.getElem?_set_ne (by omega),List.getElem?_set_ne (by omega)];exact z2x
theorem e84(q:Int)(hn:fldN q.toNat=none)(h:H): ∃h':H,h<+:h'∧call T 76 [.int .i64 q] h=some (.tuple #[.pointer none, .int .i64 1],h'):=by
 obtain⟨h1,eh1⟩: ∃h1:H,h1=h++[.row ⟨[.int .i64 q],3,0,true⟩]:=⟨_,rfl⟩
 have r1:h1.row h.length=some ⟨[.int .i64 q],3,0,true⟩:=by rw[eh1];exact cv8
 have p1:h<+:h1:=by rw[eh1];exact List.prefix_append _ _
 have b1:=ye6 (off:=0) (v:= .int .i64 q) r1 rfl
 by_cases hq1:q<2
 ·refine⟨h1,p1, ?_⟩
  rw[wn8 T76 rfl]
  unfold F76 c76
  simp(disch:=first|omega|(simp only[rl9,wi2,q89]<;>omega)|fail) only[push_cast,seval,←eh1,b1,dec_lt hq1]
 by_cases hq2:64<q
 ·refine⟨h1,p1, ?_⟩
  rw[wn8 T76 rfl]
  unfold F76 c76
  simp(disch:=first|omega|(simp only[rl9,wi2,q89]<;>omega)|fail) only[push_cast,seval,←eh1,b1,cw6 (Int.not_lt.1 hq1),dec_lt hq2]
 have hq:2≤q∧q≤64:=by omega
 obtain⟨h2,eh2⟩: ∃h2:H,h2=h1++[.row ⟨zk5,169,0,true⟩]:=⟨_,rfl⟩
 have p2:h1<+:h2:=by rw[eh2];exact List.prefix_append _ _
 have r2:h2.row h1.length=some ⟨zk5,169,0,true⟩:=by rw[eh2];exact cv8
 have l1:h1.length=h.length+1:=by rw[eh1];simp
 obtain⟨h3,eh3,hrun⟩:=yr0 q hq h2 h.length h1.length (by omega) (cp5 r1 p2) r2
 obtain⟨h7,Z,ed,len7,k7,r7,z7⟩:=hrun h3 none (List.prefix_refl _) (w69 q hq hn h3)
 have k7': ∀o,o<h1.length→h7[o]? =h1[o]? :=fun o ho=>by rw[k7 o (by omega),eh3,sg3 (by omega)];exact ym2 p2 ho
 have b2:=ix6 b1 p2
 have b7:h7.ld1 h.length 0=some (.int .i64 q):=ye6 (by rw[cp7 (k7' h.length (by omega))];exact r1) rfl
 have b7z:=ye6 r7 z7
 have hi2:0≤q∧q<65:=by omega
 have hl7:h1.length≤h7.length:=by rw[len7,eh3];simp;exact bt8 p2
 refine⟨h7,p1.trans (w09 hl7 k7'), ?_⟩
 rw[wn8 T76 rfl]
 unfold F76 c76
 simp(disch:=first|omega|(simp only[rl9,wi2,q89]<;>omega)|fail) only[push_cast,seval,←eh1,b1,cw6,←eh2,b2,hi2,ed,b7,b7z]
theorem e24(q:Int){p g:Int}{m:Nat}{mod:List Int}(hn:fldN q.toNat=some (p,m,g,mod))(h:H): ∃(h':H) (F:Nat),h<+:h'∧h.length≤F∧PFld h' F q p m g mod∧
 call T 76 [.int .i64 q] h=some (.tuple #[.pointer (some ⟨F,0,none⟩), .int .i64 0],h'):=by
 obtain⟨hq2,hq64⟩:=ug0 hn
 have hq:2≤q∧q≤64:=by omega
 obtain⟨h1,eh1⟩: ∃h1:H,h1=h++[.row ⟨[.int .i64 q],3,0,true⟩]:=⟨_,rfl⟩
 have r1:h1.row h.length=some ⟨[.int .i64 q],3,0,true⟩:=by rw[eh1];exact cv8
 have p1:h<+:h1:=by rw[eh1];exact List.prefix_append _ _
 have b1:=ye6 (off:=0) (v:= .int .i64 q) r1 rfl
 obtain⟨h2,eh2⟩: ∃h2:H,h2=h1++[.row ⟨zk5,169,0,true⟩]:=⟨_,rfl⟩
 have p2:h1<+:h2:=by rw[eh2];exact List.prefix_append _ _
 have r2:h2.row h1.length=some ⟨zk5,169,0,true⟩:=by rw[eh2];exact cv8
 have l1:h1.length=h.length+1:=by rw[eh1];simp
 obtain⟨h3,eh3,hrun⟩:=yr0 q hq h2 h.length h1.length (by omega) (cp5 r1 p2) r2
 obtain⟨h4,F,p4,hFl,hPF,eb⟩:=ak2 q hn h3
 obtain⟨h7,Z,ed,len7,k7,r7,z7⟩:=hrun h4 (some ⟨F,0,none⟩) p4 eb
 have l2:h2.length=h.length+2:=by rw[eh2];simp[l1]
 have l3:h3.length=h.length+2:=by rw[eh3];simp[l2]
 have k7': ∀o,o<h1.length→h7[o]? =h1[o]? :=fun o ho=>by
  rw[k7 o (by omega),ym2 p4 (by omega),eh3,sg3 (by omega)];exact ym2 p2 ho
 have b2:=ix6 b1 p2
 have b7:h7.ld1 h.length 0=some (.int .i64 q):=ye6 (by rw[cp7 (k7' h.length (by omega))];exact r1) rfl
 have b7z:=ye6 r7 z7
 have hi2:0≤q∧q<65:=by omega
 have hl7:h1.length≤h7.length:=by have:=bt8 p4;omega
 refine⟨h7,F,p1.trans (w09 hl7 k7'),by omega,hPF.keep (fun o ho hl=>cp7 (k7 o (by omega))), ?_⟩
 rw[wn8 T76 rfl]
 unfold F76 c76
 simp(disch:=first|omega|(simp only[rl9,wi2,q89]<;>omega)|fail) only[push_cast,seval,←eh1,b1,cw6,←eh2,b2,hi2,ed,b7,b7z]
def fE:Nat→Nat
 |2=>1
 |3=>129
 |4=>12417
 |5=>802945
 |7=>5437399233
 |8=>351215042689
 |9=>17942261559489
 |11=>108962231611310209
 |13=>528130703586913960065
 |16=>178086203705216420255121537
 |17=>7469972054853685843465900225
 |19=>51117137118817732502590154883201
 |23=>1207086427916563790381117712048146882881
 |25=>4296679298253731530926350344465262988325185
 |27=>27683632007463149621854882158786133120173510849
 |29=>89715812243899246029419422853925757204734979096705
 |31=>505605221232691293432177678203438885605117352412483777
 |32=>27808724541577916742700289517998963655941875844624957569
 |37=>31990165230988380045508509409514329167903399549472002670636056705
 |41=>196803355916697640844645143911777462269678895904315453181343275630346625
 |43=>3321900807795576089098097549222868942314588541243702741999572762779355746497
 |47=>37014835288415908718419972056108441944857760468399085769595186018324491242840101185
 |49=>128530077453093768876085316672720063505956351673680030674482110111078127274219255030209
 |53=>3602121195588004432410006517885224262510220814523301142795360849256216185153407993945964691585
 |59=>270951711388824705647634718687622551811723107360332763645300551177870649566628900357333032853137826791553
 |61=>1164162530822367343872202323236078872099065783920682470882800940302953240449962669651654715119434672229073025
 |64=>324948975432320371080866489111452917039159851672880359415289456819899054707732937472241880484391502374330200768641
 |_=>0
def fL:Nat→Nat
 |2=>0
 |3=>4096
 |4=>528384
 |5=>34344960
 |7=>211594518528
 |8=>22271587258368
 |9=>853571180707840
 |11=>5873569748152750080
 |13=>28862381954672620474368
 |16=>15072009285927600738305839104
 |17=>641428296504441872472814706688
 |19=>2971703673908048670609566042689536
 |23=>61002575878740797758556052345228196061184
 |25=>112218846857214744237616359444941385037799424
 |27=>1770301908688390524519687444532503270070340079616
 |29=>5327470521109204196063143671878030373354884279046144
 |31=>23208944618439905287274454518441023752193352319812075520
 |32=>1508315803883406269205986702105420928032254965126544232448
 |37=>1927099591673215374311082307204349858495420952548674591831439708160
 |41=>35517896703273586666149877416896236316072493915779626231776876054160711680
 |43=>152695369836916395283030424145595212849165003026280530570040278169659573121024
 |47=>2871650009675154084637761202718277526292298413880696712693369280921573131467963310080
 |49=>3753548570383623801084175760024803199156836227648943951560852271794289555882576632152064
 |53=>220544676043655077866277337447867632841115249763151128083848210675118928441550703987060033982464
 |59=>16899643013032953793008289850397817256633102912925032377747267387615061072757643228449870777890379802349568
 |61=>71614788332382989993668620795082232958302001517929830336684845480626721184788401132204757971703161274437734400
 |64=>36265302912251042761276606936058182247505748789568104052998051136038197467810438868035313606317156396572587524100096
 |_=>0
def fexp(q i:Int):Int:=((fE q.toNat>>>(6*i.toNat))%64:Nat)
def flog(q a:Int):Int:=bif a==0 then-1 else((fL q.toNat>>>(6*a.toNat))%64:Nat)
def t34(n:Nat):Bool:=match fldN n with
 |none=>true
 |some (p,m,g,mod)=>decide (tabs n=((List.range (n-1)).map fun i:Nat=>fexp n i,(List.range n).map fun a:Nat=>flog n a))&&
  ((List.range (n-1)).all fun i=>decide (1≤fexp n i)&&decide (fexp n i<n)&&decide (flog n (fexp n i)=i))&&
  ((List.range (n-1)).all fun a=>decide (0≤flog n (a+1:Nat))&&decide (flog n (a+1:Nat)<n-1)&&decide (fexp n (flog n (a+1:Nat))=(a+1:Nat)))&&decide (flog n g=1%((n:Int)-1))&&decide (fexp n 0=1)
theorem fe1:((List.range 63).all fun n=>t34 (n+2))=true:=by kernel_rfl
structure Tabs (q g:Int):Prop where
 tab:tabs q.toNat=((List.range (q-1).toNat).map fun i:Nat=>fexp q i,(List.range q.toNat).map fun a:Nat=>flog q a)
 er: ∀i,0≤i→i<q-1→1≤fexp q i∧fexp q i<q∧flog q (fexp q i)=i
 lr: ∀a,1≤a→a<q→0≤flog q a∧flog q a<q-1∧fexp q (flog q a)=a
 lg:flog q g=1%(q-1)
 e0:fexp q 0=1
theorem cb4{q p g:Int}{m:Nat}{mod:List Int}(hn:fldN q.toNat=some (p,m,g,mod)):Tabs q g:=by
 obtain⟨h2,h64⟩:=ug0 hn
 have h:=List.all_eq_true.1 fe1 (q.toNat-2) (List.mem_range.2 (by omega))
 rw[show q.toNat-2+2=q.toNat by omega]at h
 unfold t34 at h
 rw[hn]at h
 simp only[Bool.and_eq_true,decide_eq_true_eq,List.all_eq_true,List.mem_range]at h
 rw[show((q.toNat:Nat):Int)=q by omega]at h
 obtain⟨⟨⟨⟨h1,h2⟩,h3⟩,h4⟩,h5⟩:=h
 refine⟨by rw[h1,show q.toNat-1=(q-1).toNat by omega],fun i h0 hi=> ?_,fun a h0 ha=> ?_,h4,h5⟩
 ·have:=h2 i.toNat (by omega)
  rw[show((i.toNat:Nat):Int)=i by omega]at this
  exact⟨this.1.1,this.1.2,this.2⟩
 ·have:=h3 (a.toNat-1) (by omega)
  rw[show((a.toNat-1+1:Nat):Int)=a by omega]at this
  exact⟨this.1.1,this.1.2,this.2⟩
def fok(q a:Int):Bool:=decide (0≤a)&&decide (a<q)
def addN(p:Int):Nat→Int→Int→Int
 |0,_,_=>0
 |n+1,a,b=>(a%p+b%p)%p+p*addN p n (a/p) (b/p)
def negN(p:Int):Nat→Int→Int
 |0,_=>0
 |n+1,a=>(p-a%p)%p+p*negN p n (a/p)
def fch(q:Int):Int:=match fldN q.toNat with
 |some (p,_,_,_)=>p
 |none=>0
def fdg(q:Int):Nat:=match fldN q.toNat with
 |some (_,m,_,_)=>m
 |none=>0
def fadd(q a b:Int):Int:=bif fok q a&&fok q b then addN (fch q) (fdg q) a b else-1
def fneg(q a:Int):Int:=bif fok q a then negN (fch q) (fdg q) a else-1
def fsub(q a b:Int):Int:=fadd q a (fneg q b)
def fmul(q a b:Int):Int:=bif fok q a&&fok q b then bif (a==0)||(b==0)then 0 else fexp q ((flog q a+flog q b)%(q-1))else-1
def finv(q a:Int):Int:=bif fok q a&& !(a==0)then fexp q ((q-1-flog q a)%(q-1))else-1
structure PUse (h:H) (F:Nat) (q p:Int) (m:Nat) (g:Int) (mod:List Int) (E L om fm cm:Nat):Prop where
 q2:2≤q
 q64:q≤64
 f0:h.ld1 F 0=some (.int .i64 q)
 f1:h.ld1 F 1=some (.int .i64 p)
 f2:h.ld1 F 2=some (.int .i64 m)
 f3:h.ld1 F 3=some (.slice (some ⟨om,fm,none⟩) mod.length cm)
 f4:h.ld1 F 4=some (.int .i64 g)
 f5:h.ld1 F 5=some (.slice (some ⟨E,0,none⟩) (q-1).toNat (q-1).toNat)
 f6:h.ld1 F 6=some (.slice (some ⟨L,0,none⟩) q.toNat q.toNat)
 le: ∀i,0≤i→i<q-1→h.ld1 E i.toNat=some (.int .i64 (fexp q i))
 ll: ∀a,0≤a→a<q→h.ld1 L a.toNat=some (.int .i64 (flog q a))
 rm:RdI h (some ⟨om,fm,none⟩) cm mod
theorem gc0{q a:Int}:fok q a=true↔0≤a∧a<q:=by unfold fok;simp
theorem iy2{q a:Int}(h:0≤a∧a<q):fok q a=true:=gc0.2 h
theorem pj4(q a:Int):(fok q a=true∧0≤a∧a<q)∨fok q a=false:=by
 cases hx:fok q a with
 |false=>exact .inr rfl
 |true=>exact .inl ⟨rfl,gc0.1 hx⟩
section
variable {h:H} {F:Nat} {q p:Int} {m:Nat} {g:Int} {mod:List Int} {E L om fm cm:Nat}
theorem qy4(u:PUse h F q p m g mod E L om fm cm)(a:Int):call T 115 [.pointer (some ⟨F,0,none⟩), .int .i64 a] h=some (.bool (fok q a),h):=by
 have f0:=u.f0
 rw[wn8 T115 rfl]
 unfold F115 c115 fok
 by_cases h0:0≤a
 ·simp(disch:=first|omega|(simp only[rl9,wi2,q89]<;>omega)|fail) only[push_cast,seval,nl3 h0,f0]
 ·simp(disch:=first|omega|(simp only[rl9,wi2,q89]<;>omega)|fail) only[push_cast,seval,qc6 (Int.lt_of_not_ge h0)]
theorem lb9(hn:fldN q.toNat=some (p,m,g,mod))(u:PUse h F q p m g mod E L om fm cm)(a b:Int):call T 85 [.pointer (some ⟨F,0,none⟩), .int .i64 a, .int .i64 b] h=some (.int .i64 (fmul q a b),h):=by
 have f0:=u.f0
 have f5:=u.f5
 have f6:=u.f6
 have q2:=u.q2
 have q64:=u.q64
 have eh:=qy4 u a
 have ehb:=qy4 u b
 rw[wn8 T85 rfl,fmul]
 unfold F85 c85
 rcases pj4 q a with⟨ho,h0,h1⟩|ho
 rotate_left
 ·rw[ho]at eh⊢
  simp(disch:=first|omega|(simp only[rl9,wi2,q89]<;>omega)|fail) only[push_cast,seval,eh]
 rw[ho]at eh⊢
 rcases pj4 q b with⟨hob,h0b,h1b⟩|hob
 rotate_left
 ·rw[hob]at ehb⊢
  simp(disch:=first|omega|(simp only[rl9,wi2,q89]<;>omega)|fail) only[push_cast,seval,eh,ehb]
 rw[hob]at ehb⊢
 by_cases ha:a=0
 ·rw[show(a==0)=true by simpa using ha]
  simp(disch:=first|omega|(simp only[rl9,wi2,q89]<;>omega)|fail) only[push_cast,seval,eh,ehb,mr8 ha]
 rw[show(a==0)=false by simpa using ha]
 by_cases hb:b=0
 ·rw[show(b==0)=true by simpa using hb]
  simp(disch:=first|omega|(simp only[rl9,wi2,q89]<;>omega)|fail) only[push_cast,seval,eh,ehb,nb8 ha,mr8 hb]
 rw[show(b==0)=false by simpa using hb]
 have e1:=u.ll a h0 h1
 have e2:=u.ll b h0b h1b
 have t:=cb4 hn
 have l1:=t.lr a (by omega) h1
 have l2:=t.lr b (by omega) h1b
 obtain⟨k,hk⟩: ∃k,k=(flog q a+flog q b)%(q-1):=⟨_,rfl⟩
 have hk0:0≤k:=by rw[hk];exact Int.emod_nonneg _ (by omega)
 have hk1:k<q-1:=by rw[hk];exact Int.emod_lt_of_pos _ (by omega)
 have e3:=u.le k hk0 hk1
 have q1:(flog q a+flog q b).tmod (q-1)=k:=by rw[hk];exact Int.tmod_eq_emod_of_nonneg (by omega)
 have hi1:0≤a∧a<((q.toNat:Nat):Int):=by omega
 have hi2:a<max q 0:=by omega
 have hi1b:0≤b∧b<((q.toNat:Nat):Int):=by omega
 have hi2b:b<max q 0:=by omega
 have hi3:0≤k∧k<(((q-1).toNat:Nat):Int):=by omega
 have hi4:k<max (q-1) 0:=by omega
 have hq0: ¬q-1=0:=by omega
 rw[←hk]
 simp(disch:=first|omega|(simp only[rl9,wi2,q89]<;>omega)|fail) only[push_cast,seval,eh,ehb,nb8 ha,nb8 hb,f0,f5,f6,hi1,hi2,hi1b,hi2b,e1,e2,wrap64,hq0,q1,hi3,hi4,e3]
theorem im8(hn:fldN q.toNat=some (p,m,g,mod))(u:PUse h F q p m g mod E L om fm cm)(a:Int):call T 165 [.pointer (some ⟨F,0,none⟩), .int .i64 a] h=some (.int .i64 (finv q a),h):=by
 have f0:=u.f0
 have f5:=u.f5
 have f6:=u.f6
 have q2:=u.q2
 have q64:=u.q64
 have eh:=qy4 u a
 rw[wn8 T165 rfl,finv]
 unfold F165 c165
 rcases pj4 q a with⟨ho,h0,h1⟩|ho
 rotate_left
 ·rw[ho]at eh⊢
  simp(disch:=first|omega|(simp only[rl9,wi2,q89]<;>omega)|fail) only[push_cast,seval,eh]
 rw[ho]at eh⊢
 by_cases ha:a=0
 ·rw[show(a==0)=true by simpa using ha]
  simp(disch:=first|omega|(simp only[rl9,wi2,q89]<;>omega)|fail) only[push_cast,seval,eh,mr8 ha]
 rw[show(a==0)=false by simpa using ha]
 have e1:=u.ll a h0 h1
 have t:=cb4 hn
 have l1:=t.lr a (by omega) h1
 obtain⟨k,hk⟩: ∃k,k=(q-1-flog q a)%(q-1):=⟨_,rfl⟩
 have hk0:0≤k:=by rw[hk];exact Int.emod_nonneg _ (by omega)
 have hk1:k<q-1:=by rw[hk];exact Int.emod_lt_of_pos _ (by omega)
 have e3:=u.le k hk0 hk1
 have q1:(q-1-flog q a).tmod (q-1)=k:=by rw[hk];exact Int.tmod_eq_emod_of_nonneg (by omega)
 have hi1:0≤a∧a<((q.toNat:Nat):Int):=by omega
 have hi2:a<max q 0:=by omega
 have hi3:0≤k∧k<(((q-1).toNat:Nat):Int):=by omega
 have hi4:k<max (q-1) 0:=by omega
 have hq0: ¬q-1=0:=by omega
 rw[←hk]
 simp(disch:=first|omega|(simp only[rl9,wi2,q89]<;>omega)|fail) only[push_cast,seval,eh,nb8 ha,f0,f5,f6,hi1,hi2,e1,wrap64,hq0,q1,hi3,hi4,e3]
end
theorem y65{q p g:Int}{m:Nat}{mod:List Int}(hn:fldN q.toNat=some (p,m,g,mod)):fch q=p∧fdg q=m:=by
 unfold fch fdg;rw[hn];exact⟨rfl,rfl⟩
section
variable {h:H} {F:Nat} {q p:Int} {m:Nat} {g:Int} {mod:List Int} {E L om fm cm:Nat}
theorem kq3{p:Int}(hp:0<p): ∀(n:Nat) (a b:Int),0≤addN p n a b∧addN p n a b<p^n
 |0,a,b=>by simp[addN]
 |n+1,a,b=>by
  have h1:=kq3 hp n (a/p) (b/p)
  have h2:=Int.emod_nonneg (a%p+b%p) (show p≠0 by omega)
  have h3:=Int.emod_lt_of_pos (a%p+b%p) hp
  have h4:0≤p*addN p n (a/p) (b/p):=Int.mul_nonneg (by omega) h1.1
  have h5:p*(addN p n (a/p) (b/p)+1)≤p*p^n:=Int.mul_le_mul_of_nonneg_left (by omega) (by omega)
  rw[addN,Int.pow_succ,Int.mul_comm (p^n) p]
  rw[Int.mul_add,Int.mul_one]at h5
  omega
theorem ul1{p:Int}(hp:0<p): ∀(n:Nat) (a:Int),0≤negN p n a∧negN p n a<p^n
 |0,a=>by simp[negN]
 |n+1,a=>by
  have h1:=ul1 hp n (a/p)
  have h2:=Int.emod_nonneg (p-a%p) (show p≠0 by omega)
  have h3:=Int.emod_lt_of_pos (p-a%p) hp
  have h4:0≤p*negN p n (a/p):=Int.mul_nonneg (by omega) h1.1
  have h5:p*(negN p n (a/p)+1)≤p*p^n:=Int.mul_le_mul_of_nonneg_left (by omega) (by omega)
  rw[negN,Int.pow_succ,Int.mul_comm (p^n) p]
  rw[Int.mul_add,Int.mul_one]at h5
  omega
theorem bv8(u:PUse h F q p m g mod E L om fm cm)(hf:FOk q p m mod): ∀(n:Nat) (a b s w i:Int),i+n=m→0≤i→0≤a→a≤64→0≤b→b≤64→0≤s→s+4096*n≤100000→1≤w→w*p^n≤64→
 ∀ks,goL T [.tmp 6] [0,1,2,7,8,22,23] c83L0 (.blk 0 [7]::ks) [(0, .pointer (some ⟨F,0,none⟩)),(1, .int .i64 a),(2, .int .i64 b),(7, .int .i64 s),(8, .int .i64 w),(22, .int .i64 m),(23, .int .i64 i)] h=
  go T [.tmp 6] ks (Fr.of [(7, .int .i64 (s+w*addN p n a b))]) h
 |0,a,b,s,w,i,hi,hi0,ha,ha2,hb,hb2,hs,hs2,hw,hw2=>fun ks=>by
  rw[ur1 c83L0.eq_def]
  simp(disch:=first|omega|(simp only[rl9,wi2,q89]<;>omega)|fail) only[push_cast,seval,cw6,addN,Int.mul_zero,Int.add_zero]
 |n+1,a,b,s,w,i,hi,hi0,ha,ha2,hb,hb2,hs,hs2,hw,hw2=>fun ks=>by
  have f1:=u.f1
  have hp:=hf.p2
  have hp64:=hf.p64
  have hm:=hf.m10
  have hp0: ¬p=0:=by omega
  have a1:=Int.emod_nonneg a hp0
  have a2:=Int.emod_lt_of_pos a (show 0<p by omega)
  have b1:=Int.emod_nonneg b hp0
  have b2:=Int.emod_lt_of_pos b (show 0<p by omega)
  have a3:0≤a/p:=Int.ediv_nonneg ha (by omega)
  have a4:a/p≤a:=Int.ediv_le_self _ ha
  have b3:0≤b/p:=Int.ediv_nonneg hb (by omega)
  have b4:b/p≤b:=Int.ediv_le_self _ hb
  obtain⟨d,hd⟩: ∃d,d=(a%p+b%p)%p:=⟨_,rfl⟩
  have d1:0≤d:=by rw[hd];exact Int.emod_nonneg _ hp0
  have d2:d<p:=by rw[hd];exact Int.emod_lt_of_pos _ (by omega)
  have q1:a.tmod p=a%p:=Int.tmod_eq_emod_of_nonneg ha
  have q2:b.tmod p=b%p:=Int.tmod_eq_emod_of_nonneg hb
  have q3:(a%p+b%p).tmod p=d:=by rw[hd];exact Int.tmod_eq_emod_of_nonneg (by omega)
  have q4:a.tdiv p=a/p:=Int.tdiv_eq_ediv_of_nonneg ha
  have q5:b.tdiv p=b/p:=Int.tdiv_eq_ediv_of_nonneg hb
  have hpn:1≤p^n:=by have:=tv0 (p:=p) (by omega) (Nat.zero_le n);simpa using this
  have w1:w*p*p^n≤64:=by rw[Int.pow_succ]at hw2;rw[Int.mul_assoc,Int.mul_comm p];exact hw2
  have hwp:0≤w*p:=Int.mul_nonneg (by omega) (by omega)
  have w2:w*p*1≤w*p*p^n:=Int.mul_le_mul_of_nonneg_left hpn hwp
  have w3:1*1≤w*p:=Int.mul_le_mul hw (by omega) (by omega) (by omega)
  have w4:w*1≤w*p:=Int.mul_le_mul_of_nonneg_left (by omega) (by omega)
  have dw:d*w≤64*64:=Int.mul_le_mul (by omega) (by omega) (by omega) (by omega)
  have dw0:0≤d*w:=Int.mul_nonneg d1 (by omega)
  have e1:s+w*addN p (n+1) a b=s+d*w+w*p*addN p n (a/p) (b/p):=by
   rw[addN,←hd,Int.mul_add,Int.mul_comm w d,Int.mul_assoc];omega
  have ih:=bv8 u hf n (a/p) (b/p) (s+d*w) (w*p) (i+1) (by omega) (by omega) a3 (by omega) b3 (by omega) (by omega) (by omega) (by omega) w1 ks
  rw[e1,←ih,ur1 c83L0.eq_def]
  simp(disch:=first|omega|(simp only[rl9,wi2,q89]<;>omega)|fail) only[push_cast,seval,dec_lt,f1,hp0,q1,q2,q3,q4,q5,wrap64]
theorem gl5(hn:fldN q.toNat=some (p,m,g,mod))(u:PUse h F q p m g mod E L om fm cm)(hf:FOk q p m mod)(a b:Int):call T 83 [.pointer (some ⟨F,0,none⟩), .int .i64 a, .int .i64 b] h=some (.int .i64 (fadd q a b),h):=by
 have f2:=u.f2
 have q64:=u.q64
 have hm:=hf.m10
 have eh:=qy4 u a
 have ehb:=qy4 u b
 obtain⟨hc,hd⟩:=y65 hn
 rw[wn8 T83 rfl,fadd,hc,hd]
 unfold F83 c83
 rcases pj4 q a with⟨ho,h0,h1⟩|ho
 rotate_left
 ·rw[ho]at eh⊢
  simp(disch:=first|omega|(simp only[rl9,wi2,q89]<;>omega)|fail) only[push_cast,seval,eh]
 rw[ho]at eh⊢
 rcases pj4 q b with⟨hob,h0b,h1b⟩|hob
 rotate_left
 ·rw[hob]at ehb⊢
  simp(disch:=first|omega|(simp only[rl9,wi2,q89]<;>omega)|fail) only[push_cast,seval,eh,ehb]
 rw[hob]at ehb⊢
 have lo:=bv8 u hf m a b 0 1 0 (by omega) (by omega) h0 (by omega) h0b (by omega) (by omega) (by omega) (by omega) (by rw[Int.one_mul,hf.pm];exact q64)
 rw[Int.zero_add,Int.one_mul]at lo
 simp(disch:=first|omega|(simp only[rl9,wi2,q89]<;>omega)|fail) only[push_cast,seval,eh,ehb,f2]
 rw[lo]
 simp(disch:=first|omega|(simp only[rl9,wi2,q89]<;>omega)|fail) only[push_cast,seval]
theorem d78(u:PUse h F q p m g mod E L om fm cm)(hf:FOk q p m mod): ∀(n:Nat) (a s w i:Int),i+n=m→0≤i→0≤a→a≤64→0≤s→s+4096*n≤100000→1≤w→w*p^n≤64→
 ∀ks,goL T [.tmp 4] [0,1,5,6,14,15] c185L0 (.blk 0 [5]::ks) [(0, .pointer (some ⟨F,0,none⟩)),(1, .int .i64 a),(5, .int .i64 s),(6, .int .i64 w),(14, .int .i64 m),(15, .int .i64 i)] h=
  go T [.tmp 4] ks (Fr.of [(5, .int .i64 (s+w*negN p n a))]) h
 |0,a,s,w,i,hi,hi0,ha,ha2,hs,hs2,hw,hw2=>fun ks=>by
  rw[ur1 c185L0.eq_def]
  simp(disch:=first|omega|(simp only[rl9,wi2,q89]<;>omega)|fail) only[push_cast,seval,cw6,negN,Int.mul_zero,Int.add_zero]
 |n+1,a,s,w,i,hi,hi0,ha,ha2,hs,hs2,hw,hw2=>fun ks=>by
  have f1:=u.f1
  have hp:=hf.p2
  have hp64:=hf.p64
  have hm:=hf.m10
  have hp0: ¬p=0:=by omega
  have a1:=Int.emod_nonneg a hp0
  have a2:=Int.emod_lt_of_pos a (show 0<p by omega)
  have a3:0≤a/p:=Int.ediv_nonneg ha (by omega)
  have a4:a/p≤a:=Int.ediv_le_self _ ha
  obtain⟨d,hd⟩: ∃d,d=(p-a%p)%p:=⟨_,rfl⟩
  have d1:0≤d:=by rw[hd];exact Int.emod_nonneg _ hp0
  have d2:d<p:=by rw[hd];exact Int.emod_lt_of_pos _ (by omega)
  have q1:a.tmod p=a%p:=Int.tmod_eq_emod_of_nonneg ha
  have q3:(p-a%p).tmod p=d:=by rw[hd];exact Int.tmod_eq_emod_of_nonneg (by omega)
  have q4:a.tdiv p=a/p:=Int.tdiv_eq_ediv_of_nonneg ha
  have hpn:1≤p^n:=by have:=tv0 (p:=p) (by omega) (Nat.zero_le n);simpa using this
  have w1:w*p*p^n≤64:=by rw[Int.pow_succ]at hw2;rw[Int.mul_assoc,Int.mul_comm p];exact hw2
  have hwp:0≤w*p:=Int.mul_nonneg (by omega) (by omega)
  have w2:w*p*1≤w*p*p^n:=Int.mul_le_mul_of_nonneg_left hpn hwp
  have w3:1*1≤w*p:=Int.mul_le_mul hw (by omega) (by omega) (by omega)
  have w4:w*1≤w*p:=Int.mul_le_mul_of_nonneg_left (by omega) (by omega)
  have dw:d*w≤64*64:=Int.mul_le_mul (by omega) (by omega) (by omega) (by omega)
  have dw0:0≤d*w:=Int.mul_nonneg d1 (by omega)
  have e1:s+w*negN p (n+1) a=s+d*w+w*p*negN p n (a/p):=by
   rw[negN,←hd,Int.mul_add,Int.mul_comm w d,Int.mul_assoc];omega
  have ih:=d78 u hf n (a/p) (s+d*w) (w*p) (i+1) (by omega) (by omega) a3 (by omega) (by omega) (by omega) (by omega) w1 ks
  rw[e1,←ih,ur1 c185L0.eq_def]
  simp(disch:=first|omega|(simp only[rl9,wi2,q89]<;>omega)|fail) only[push_cast,seval,dec_lt,f1,hp0,q1,q3,q4,wrap64]
theorem kb1(hn:fldN q.toNat=some (p,m,g,mod))(u:PUse h F q p m g mod E L om fm cm)(hf:FOk q p m mod)(a:Int):call T 185 [.pointer (some ⟨F,0,none⟩), .int .i64 a] h=some (.int .i64 (fneg q a),h):=by
 have f2:=u.f2
 have q64:=u.q64
 have hm:=hf.m10
 have eh:=qy4 u a
 obtain⟨hc,hd⟩:=y65 hn
 rw[wn8 T185 rfl,fneg,hc,hd]
 unfold F185 c185
 rcases pj4 q a with⟨ho,h0,h1⟩|ho
 rotate_left
 ·rw[ho]at eh⊢
  simp(disch:=first|omega|(simp only[rl9,wi2,q89]<;>omega)|fail) only[push_cast,seval,eh]
 rw[ho]at eh⊢
 have lo:=d78 u hf m a 0 1 0 (by omega) (by omega) h0 (by omega) (by omega) (by omega) (by omega) (by rw[Int.one_mul,hf.pm];exact q64)
 rw[Int.zero_add,Int.one_mul]at lo
 simp(disch:=first|omega|(simp only[rl9,wi2,q89]<;>omega)|fail) only[push_cast,seval,eh,f2]
 rw[lo]
 simp(disch:=first|omega|(simp only[rl9,wi2,q89]<;>omega)|fail) only[push_cast,seval]
theorem eb1(hn:fldN q.toNat=some (p,m,g,mod))(u:PUse h F q p m g mod E L om fm cm)(hf:FOk q p m mod)(a b:Int):call T 166 [.pointer (some ⟨F,0,none⟩), .int .i64 a, .int .i64 b] h=some (.int .i64 (fsub q a b),h):=by
 have e1:=kb1 hn u hf b
 have e2:=gl5 hn u hf a (fneg q b)
 rw[wn8 T166 rfl,fsub]
 unfold F166 c166
 simp(disch:=first|omega|(simp only[rl9,wi2,q89]<;>omega)|fail) only[push_cast,seval,e1,e2]
end
section
variable {h:H} {F:Nat} {q p:Int} {m:Nat} {g:Int} {mod:List Int} {E L om fm cm:Nat}
end
section
variable {h:H} {F:Nat} {q p:Int} {m:Nat} {g:Int} {mod:List Int} {E L om fm cm:Nat}
end
end Go.Proofs.Ytmhbpecdpiapgaa
namespace Go.Am
open Go.RowKit (Below)
def RoIn(w:World)(A:Option Addr)(C:Nat)(l:List Int):Prop:=
 (A=none∧l=[]∧C=0)∨ ∃a,A=some a∧l.length≤C∧(C=0∨(a.spot=none∧a.block<w.heap.size∧ ∃Z:List Int,Z.length=C∧l=Z.take l.length∧ ∀c,c<C→w.cell? (a.add c)=some (.int .i64 (Z.getD c 0))))
def RoL(w:World)(a:Option Addr)(len cap:Nat)(ll:List (List Int)):Prop:=
 ll.length=len∧((a=none∧len=0∧cap=0)∨ ∃x,a=some x∧x.spot=none∧x.block<w.heap.size∧len≤cap∧ ∀(r:Nat) (l:List Int),ll[r]? =some l→ ∃A C,w.cell? (x.add r)=some (.slice A l.length C)∧RoIn w A C l)
section
variable {φ:Ren} {B:Nat} {h:H} {w:World}
end
end Go.Am
namespace Go.Am
end Go.Am
namespace Go.Am
inductive Tr where
 |v (x:Value)
 |sl (e u:Nat) (cs:List Tr)
 |pt (e:Nat) (cs:List Tr)
section
variable {hF G G':H} {L M:List (Value×Tr)}
end
end Go.Am
namespace Go.Am
def il(zs:List Int):Tr:= .sl 3 1 (zs.map fun z=> .v (.int .i64 z))
section
variable {hF G G':H} {L M:List (Value×Tr)}
end
section
variable {hF G G':H} {L M:List (Value×Tr)}
def ll(e:Nat)(m:List (List Int)):Tr:= .sl e 1 (m.map il)
end
end Go.Am
namespace Go.Am
section
variable {hF G G':H} {L M:List (Value×Tr)}
end
end Go.Am
namespace Go.Am
section
variable {hF G G':H} {L M:List (Value×Tr)}
end
end Go.Am
namespace Go.Proofs.Ytmhbpecdpiapgaa
open Go.Am Go.Vm
def nlT{α:Type}:List α→Nat
 | []=>2
 |_::_=>0
theorem b99{α β:Type}(f:α→β): ∀l:List α,nlT (l.map f)=nlT l
 | []=>rfl
 |_::_=>rfl
section
variable {h:H} {sa:Option Addr} {c:Nat} {l:List Int}
theorem v84(hr:RdI h sa c l)(hl:l.length≤1000000): ∃(s':Option Addr) (c':Nat) (h':H),h<+:h'∧Grown h' s' c' l h.length∧call T 119 [.slice sa l.length c] h=some (.slice s' l.length c',h'):=by
 cases sa with
 |none=>
  have hl0:l=[]∧c=0:=by
   rcases hr with⟨_,h1,h2⟩|⟨_,o,off,r,h1,_⟩
   ·exact⟨h2,h1⟩
   ·cases h1
  obtain⟨rfl,rfl⟩:=hl0
  refine⟨none,0,h,List.prefix_refl _, .nil, ?_⟩
  rw[wn8 T119 rfl]
  unfold F119 c119
  simp(disch:=first|omega|(simp only[rl9,wi2,q89]<;>omega)|fail) only[push_cast,seval]
 |some x=>
  obtain⟨o,off,rfl⟩: ∃o off,x=⟨o,off,none⟩:=by
   rcases hr with⟨h1,_⟩|⟨_,o,off,r,h1,_⟩
   ·cases h1
   ·cases h1;exact⟨o,off,rfl⟩
  have hs:=(hr.mono (List.prefix_append h [.row ⟨[],3,1,true⟩])).src
  have e:aapp 3 1 8 (h++[.row ⟨[],3,1,true⟩]) (.slice (some ⟨h.length,0,none⟩) 0 0) (.slice (some ⟨o,off,none⟩) l.length c)=some (.slice (some ⟨h.length+1,0,none⟩) l.length l.length,kill (h++[.row ⟨[],3,1,true⟩]) h.length++[.row ⟨ints l,3,1,true⟩]):=by
   unfold aapp aput
   simp only[hs,cv8]
   rw[if_pos (by simp[few];omega),rl9,Nat.zero_add]
   rfl
  refine⟨some ⟨h.length+1,0,none⟩,l.length,kill (h++[.row ⟨[],3,1,true⟩]) h.length++[.row ⟨ints l,3,1,true⟩],ym5 (uw3 (List.prefix_append _ _) (Nat.le_refl _)), .inr ⟨h.length+1,rfl,by omega,rfl,wq4⟩, ?_⟩
  rw[wn8 T119 rfl]
  unfold F119 c119
  simp(disch:=first|omega|(simp only[rl9,wi2,q89]<;>omega)|fail) only[push_cast,seval,e]
end
theorem da9{h:H}{Z:Nat→Prop}: ∀{zs:List Int} {l:List Value},RdL h Z (ivs zs) l→l=ints zs
 | [],l,hr=>by rw[show ivs []=[]from rfl,RdL]at hr;exact hr
 |z::zs,l,hr=>by
  rw[show ivs (z::zs)= .v (.int .i64 z)::ivs zs from rfl,RdL]at hr
  obtain⟨w,l',rfl,h1,h2⟩:=hr
  rw[Rd]at h1
  rw[h1,da9 h2];rfl
theorem nl4{h:H}{Z:Nat→Prop}{nl e:Nat}{zs:List Int}{w:Value}(hr:Rd h Z (.sl nl e 1 (ivs zs)) w): ∃sa c,w= .slice sa zs.length c∧RdI h sa c zs:=by
 rw[Rd]at hr
 rcases hr with⟨h0,_,_,rfl⟩|⟨o,off,n,c,r,rfl,h1,h2,h3,h4,h5,h6,h7,h8⟩
 ·have:zs=[]:=by cases zs with
   |nil=>rfl
   |cons=>cases h0
  subst this
  exact⟨none,0,rfl, .nil⟩
 ·rw[gf1,Nat.mul_one]at h5
  subst h5
  have h9:=da9 h8
  rw[gf1]at h9
  refine⟨_,c,rfl, .inr ⟨h6,o,off,r,rfl,h2,h3,fun i h0 hi=> ?_⟩⟩
  have h10:=c13 h0 hi
  rw[←h9,List.getElem?_take,if_pos (by omega),List.getElem?_drop]at h10
  exact h10
theorem p27: ∀zs:List Int,eraL (zs.map fun z=>AT.v (.int .i64 z))=ivs zs
 | []=>rfl
 |z::zs=>by rw[List.map_cons,eraL,p27 zs,AT.era];rfl
theorem we9: ∀zs:List Int,fpL (zs.map fun z=>AT.v (.int .i64 z))=[]
 | []=>rfl
 |z::zs=>by rw[List.map_cons,fpL,we9 zs,v_fp];rfl
theorem fs7{h:H}{Z:Nat→Prop}: ∀zs:List Int,okL h Z (zs.map fun z=>AT.v (.int .i64 z))
 | []=>by rw[List.map_nil,okL];trivial
 |z::zs=>by rw[List.map_cons,okL,ok];exact⟨trivial,fs7 zs⟩
theorem pr1{h:H}{Z:Nat→Prop}{sa:Option Addr}{c lo:Nat}{zs:List Int}(g:Grown h sa c zs lo): ∃a:AT,a.val= .slice sa zs.length c∧a.era= .sl (nlT zs) 3 1 (ivs zs)∧(a.fp=[]∨ ∃o,a.fp=[o]∧lo≤o∧o<h.length)∧ok h Z a:=by
 rcases g with⟨rfl,rfl,rfl⟩|⟨o,rfl,h1,rfl,h2⟩
 ·exact⟨.nil 2 3 1,rfl,rfl, .inl (uu7 _ _ _),by rw[ok];exact⟨by decide,by decide⟩⟩
 ·refine⟨.sl o 0 zs.length zs.length (nlT zs) 3 1 (zs.map fun z=>AT.v (.int .i64 z)),rfl,by rw[AT.era,p27], .inr ⟨o,by rw[AT.fp,we9],h1,h42 h2⟩, ?_⟩
  rw[ok]
  refine⟨_,h2,rfl,rfl,rfl,by decide,by simp,Nat.le_refl _,⟨fun hn=> ?_, ?_⟩, ?_,fs7 zs⟩
  ·cases zs<;>cases hn
  ·simp[ints]
  ·show((ints zs).drop 0).take _=_
   rw[List.drop_zero,List.take_of_length_le (by simp[ints]),List.map_map]
   rfl
open Classical in
noncomputable def h91:List AV→Rts→Option VRes
 | [.fz b (.sl nl 0 1 cs)],[]=>if∃zs:List Int,cs=ivs zs∧zs.length≤1000000 then some (.own 0 [],[.sl (nlT cs) 3 1 cs],[])else none
 |_,_=>none
theorem ol3{b:Bool}{nl:Nat}{zs:List Int}(hz:zs.length≤1000000):h91 [.fz b (.sl nl 0 1 (ivs zs))] []=some (.own 0 [],[.sl (nlT zs) 3 1 (ivs zs)],[]):=by
 unfold h91
 simp only[]
 rw[if_pos ⟨zs,rfl,hz⟩]
 unfold ivs
 rw[b99]
theorem x66{xs0:List AV}{C:Rts}{r:VRes}(he:h91 xs0 C=some r):VOK T 119 xs0 C r:=by
 unfold h91 at he
 split at he
 ·rename_i b nl cs
  split at he
  ·rename_i hz
   obtain⟨zs,rfl,hz⟩:=hz
   cases he
   intro h Ac Z Zp ws i hC hv hk
   obtain rfl:Ac=[]:=by cases Ac with
    |nil=>rfl
    |cons=>cases hC
   rw[Vm.VRL]at hv
   obtain⟨w,ws',rfl,h1,h2⟩:=hv
   rw[Vm.VRL]at h2
   subst h2
   rw[Vm.VR]at h1
   obtain⟨sa,c,rfl,hr⟩:=nl4 h1
   obtain⟨s',c',h',p,g,e⟩:=v84 hr hz
   obtain⟨a,a1,a2,a3,a4⟩:=pr1 (Z:=Zp) g
   have hnew: ∀o∈a.fp,h.length≤o∧o<h'.length:=fun o ho=>by
    rcases a3 with a3|⟨x,a3,a5⟩
    ·rw[a3]at ho;cases ho
    ·rw[a3]at ho
     rw[List.mem_singleton.1 ho];exact a5
   have hfp:fpL ([]++[a])=a.fp:=by simp[fpL]
   refine⟨_,h',[],[a],Z,Zp,e,⟨?_,rfl,⟨by rw[List.nil_append,okL,okL];exact⟨a4,trivial⟩,fun x=> ?_,fun o ho=> ?_,fun o ho hz=> ?_,fun o ho=> ?_,i.zp⟩,⟨p.length_le,fun o ho _=>cb1 p ho,fun o ho=> .inr ?_,fun o ho=>ho,fun o ho=> .inl ho⟩, ?_,rfl,fun i a k h1=>by simp at h1⟩⟩
   ·rw[List.map_cons,List.map_nil,a2]
    unfold ivs
    rw[b99]
   ·rw[hfp]
    rcases a3 with a3|⟨x,a3,a5⟩
    ·rw[a3];simp
    ·rw[a3,List.count_singleton];split<;>omega
   ·rw[hfp]at ho;exact(hnew o ho).2
   ·rw[hfp]at ho;have:=i.zlt o hz;have:=hnew o ho;omega
   ·have:=i.zlt o ho;have:=p.length_le;omega
   ·rw[hfp]at ho;exact(hnew o ho).1
   ·rw[Vm.VR]
    refine⟨by simp,fun b hb _=> ?_⟩
    have hb:some a=some b:=hb
    cases hb
    exact a1
  ·cases he
 ·cases he
end Go.Proofs.Ytmhbpecdpiapgaa
