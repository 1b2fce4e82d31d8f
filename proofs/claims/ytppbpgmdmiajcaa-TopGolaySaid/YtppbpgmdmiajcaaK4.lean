/-
  The second machine and the first: cuts; all operations. No condition. The second machine and the first: an operation's step. No condition. The second machine and the first: what goes to a call and com ..
-/
import Derived.Test.YtppbpgmdmiajcaaK0
import Derived.Test.YtppbpgmdmiajcaaK3
import Derived.Test.YtppbpgmdmiajcaaK2
set_option linter.unusedVariables false
set_option linter.unusedSimpArgs false
set_option linter.unusedSectionVars false
set_option maxRecDepth 100000
namespace Go.Vm
open Go.Am
section
variable {h:H} {A:List AT} {Z Zp:Nat→Prop} {fr:VFr} {f:Fr}
theorem xi7{o off lo' u lo n0 c:Nat}{l1 h1:Int}(hc:n0≤c)(hl:lo'≤lo)(hl2:0<n0→lo'=lo)(h0:0≤l1)(h2:l1≤h1)(h3:h1≤n0):
 ∃lo2,(if(c:Int)=l1 then(some ⟨o,off+lo'*u,none⟩:Option Addr)else(some ⟨o,off+lo'*u,none⟩:Option Addr).map fun a=>⟨a.block,a.off+l1.toNat*u,none⟩)=some ⟨o,off+lo2*u,none⟩∧lo2≤lo+l1.toNat∧(0<(h1-l1).toNat→lo2=lo+l1.toNat):=by
 by_cases hcl:(c:Int)=l1
 ·rw[if_pos hcl]
  exact⟨lo',rfl,by omega,fun _=>by omega⟩
 ·rw[if_neg hcl]
  refine⟨lo'+l1.toNat,by simp[ur9,q61],by omega,fun hp=> ?_⟩
  rw[hl2 (by omega)]
theorem ec5{o:Nat}{off size:Nat}{row:Row}(hr:h.row o=some row)(hu:row.own=true→row.unit=size):ss4 h size (some ⟨o,off,none⟩)=true:=by
 unfold ss4
 simp only[hr]
 cases ho:row.own with
 |false=>rfl
 |true=>simp[hu ho]
theorem dw7(i:Inv h A Z Zp){r:Nat}{p:List Nat}{nl e u:Nat}{cs:List Tree}{lo0 n0:Nat}{w:Value}(hS:SR h A Z Zp (.o r p nl e u cs lo0 n0) w){l1 h1:Int}(h0:0≤l1)(h2:l1≤h1)(h3:h1≤n0):
 ∃a c,w= .slice a n0 c∧h1≤c∧ss4 h u a=true∧VR h A Z Zp (.sub r p u (lo0+l1.toNat) (h1-l1).toNat) (.slice (if(c:Int)=l1 then a else a.map fun a=>⟨a.block,a.off+l1.toNat*u,none⟩) (h1-l1).toNat (c-l1).toNat):=by
 obtain⟨k,nl0,q1,q2,q3,q4,q5,q6⟩:=hS
 rcases q6 with⟨rfl,rfl,rfl,rfl,_,rfl⟩|⟨o,off,n1,c0,l,lo',c',rfl,rfl,q7,rfl,q8,q9',q9⟩
 ·obtain rfl:l1=0:=by omega
  obtain rfl:h1=0:=by omega
  refine⟨none,0,rfl,by omega,rfl, ?_⟩
  rw[VR]
  refine⟨vs7 q1,fun b hb _=> ?_⟩
  rw[q1]at hb;cases hb
  exact⟨rfl,rfl⟩
 ·have hok:=lw8 i q1
  rw[ok]at hok
  obtain⟨row,k1,k2,k3,k4,k5,k6,k7,k8,k9,k10⟩:=hok
  obtain⟨lo2,g1,g2,g3⟩:=xi7 (o:=o) (off:=off) (u:=u) q8 q9' q9 h0 h2 h3
  refine⟨_,c',rfl,by omega,ec5 k1 fun _=>k4, ?_⟩
  rw[g1,VR]
  refine⟨vs7 q1,fun b hb _=> ?_⟩
  rw[q1]at hb;cases hb
  exact⟨lo2,_,rfl,by omega,g2,g3⟩
theorem uu3(i:Inv h A Z Zp){r:Nat}{p:List Nat}{nl e u:Nat}{cs:List Tree}{lo0 n0:Nat}{w:Value}(hS:SR h A Z Zp (.o r p nl e u cs lo0 n0) w){l1 h1:Int}(h0:0≤l1)(h2:l1≤h1)(h3:h1≤n0):
 ∃a c A' Z' Zp',w= .slice a n0 c∧h1≤c∧ss4 h u a=true∧Step h A Z Zp (some (.own (A.map AT.era).length []),rset (A.map AT.era) r p .junk++[.sl (if nl=0 then 0 else 2) e u ((cs.drop ((lo0+l1.toNat)*u)).take ((h1-l1).toNat*u))],some []) (some (.slice (if(c:Int)=l1 then a else a.map fun a=>⟨a.block,a.off+l1.toNat*u,none⟩) (h1-l1).toNat (c-l1).toNat)) h A' Z' Zp':=by
 have i':Inv h (A++[]) Z Zp:=by rw[nw0];exact i
 have e':Ext h A Zp h (A++[]) Zp:=by rw[nw0];exact Ext.refl _ _ _
 rw[q11]
 obtain⟨k,nl0,q1,q2,q3,q4,q5,q6⟩:=hS
 rcases q6 with⟨rfl,rfl,rfl,rfl,hn0,rfl⟩|⟨o,off,n1,c0,l,lo',c',rfl,rfl,q7,rfl,q8,q9',q9⟩
 ·obtain rfl:l1=0:=by omega
  obtain rfl:h1=0:=by omega
  have hnl: ¬nl=0:=by
   rcases q2 with rfl|rfl
   ·exact hn0
   ·rw[if_neg hn0];decide
  obtain⟨A',Z2,Zp2,st⟩:=Step.grow (kn:= .nil 2 e u) (h':=h) i i' e' (Stab.refl _ _) (fun _ ho=>ho) q1 rfl rfl (jj6 _) (fun _ _ _=>rfl) (by rw[ok];exact⟨by decide,q5⟩) (fun x _=>by rw[uu7];simp) (fun x _=>by rw[uu7];simp) (fun o ho=>by rw[uu7]at ho;cases ho) rfl
  rw[if_neg hnl]
  exact⟨none,0,A',Z2,Zp2,rfl,by omega,rfl,by simpa [AT.era,AT.val]using st⟩
 ·have hok:=lw8 i q1
  have hok0:=hok
  rw[ok]at hok
  obtain⟨row,k1,k2,k3,k4,k5,k6,k7,k8,k9,k10⟩:=hok
  obtain⟨lo2,g1,g2,g3⟩:=xi7 (o:=o) (off:=off) (u:=u) q8 q9' q9 h0 h2 h3
  rw[i47]at q4
  have hle:(lo0+l1.toNat+(h1-l1).toNat)*u≤l.length:=md7 (wg6 u (by omega)) q4
  obtain⟨row',r1,r2,r3,r4,r5,r6⟩:=jk2 hok0 hle g2 g3
  rw[k1]at r1;cases r1
  have hseg:(lo0+l1.toNat)*u+(h1-l1).toNat*u≤l.length:=by rw[←ur9];exact hle
  have hpl:=sx8 hseg
  have hkA: ∀x,(AT.sl o off n1 c0 nl0 e u l).fp.count x≤(fpL A).count x:=fun x=>bm6 x q1
  have hcnt: ∀x,(AT.sl o (off+lo2*u) (h1-l1).toNat (c'-l1).toNat (if nl=0 then 0 else 2) e u ((l.drop ((lo0+l1.toNat)*u)).take ((h1-l1).toNat*u))).fp.count x≤(AT.sl o off n1 c0 nl0 e u l).fp.count x:=fun x=>by
   rw[AT.fp,AT.fp,xi6,xi6]
   have:=gc1 l ((lo0+l1.toNat)*u) ((h1-l1).toNat*u) x
   omega
  obtain⟨A',Z2,Zp2,st⟩:=Step.grow (kn:= .sl o (off+lo2*u) (h1-l1).toNat (c'-l1).toNat (if nl=0 then 0 else 2) e u ((l.drop ((lo0+l1.toNat)*u)).take ((h1-l1).toNat*u))) (h':=h) i i' e' (Stab.refl _ _) (fun _ ho=>ho) q1 rfl rfl (jj6 _) (fun _ _ _=>rfl)
   (by
     rw[ok]
     refine⟨row,k1,r2,r3,r4,k5,hpl.symm,by omega,⟨fun e1=>(by split at e1<;>cases e1),by rw[hpl];exact r5⟩,by rw[hpl];exact r6,ga5.2 fun c hc=> ?_⟩
     exact ok.keep (fun o ho=> .inl ho) (fun _ _=>rfl) (ga5.1 k10 c (lq8 (tn5 hc))) fun _ _=>rfl)
   (fun x _=>by have:=hcnt x;omega) (fun x _=>by have:=hcnt x;have:=hkA x;have:=i.nd x;omega) (fun x hx=>i.lt x (ea9.2 (by have:=ea9.1 hx;have:=hcnt x;have:=hkA x;omega))) rfl
  refine⟨_,c',A',Z2,Zp2,rfl,by omega,ec5 k1 fun _=>k4, ?_⟩
  rw[g1]
  simpa [AT.era,AT.val,xg5]using st
theorem n54(i:Inv h A Z Zp){r:Nat}{p:List Nat}{nl e u:Nat}{cs:List Tree}{lo0 n0:Nat}{w:Value}(hS:SR h A Z Zp (.o r p nl e u cs lo0 n0) w){m1 m2:Int}(h0:0≤m1)(h2:m1≤m2)(h3:m2≤n0):
 ∃a c A' Z' Zp',w= .slice a n0 c∧m2≤c∧Step h A Z Zp (some (.own (A.map AT.era).length []),rset (A.map AT.era) r p .junk++[.sl (if nl=0 then 0 else 2) e u ((cs.drop (lo0*u)).take (m1.toNat*u))],some []) (some (.slice a m1.toNat m2.toNat)) h A' Z' Zp':=by
 have i':Inv h (A++[]) Z Zp:=by rw[nw0];exact i
 have e':Ext h A Zp h (A++[]) Zp:=by rw[nw0];exact Ext.refl _ _ _
 rw[q11]
 obtain⟨k,nl0,q1,q2,q3,q4,q5,q6⟩:=hS
 rcases q6 with⟨rfl,rfl,rfl,rfl,hn0,rfl⟩|⟨o,off,n1,c0,l,lo',c',rfl,rfl,q7,rfl,q8,q9',q9⟩
 ·obtain rfl:m1=0:=by omega
  obtain rfl:m2=0:=by omega
  have hnl: ¬nl=0:=by
   rcases q2 with rfl|rfl
   ·exact hn0
   ·rw[if_neg hn0];decide
  obtain⟨A',Z2,Zp2,st⟩:=Step.grow (kn:= .nil 2 e u) (h':=h) i i' e' (Stab.refl _ _) (fun _ ho=>ho) q1 rfl rfl (jj6 _) (fun _ _ _=>rfl) (by rw[ok];exact⟨by decide,q5⟩) (fun x _=>by rw[uu7];simp) (fun x _=>by rw[uu7];simp) (fun o ho=>by rw[uu7]at ho;cases ho) rfl
  rw[if_neg hnl]
  exact⟨none,0,A',Z2,Zp2,rfl,by omega,by simpa [AT.era,AT.val]using st⟩
 ·have hok:=lw8 i q1
  have hok0:=hok
  rw[ok]at hok
  obtain⟨row,k1,k2,k3,k4,k5,k6,k7,k8,k9,k10⟩:=hok
  rw[i47]at q4
  have hle:(lo0+m1.toNat)*u≤l.length:=md7 (wg6 u (by omega)) q4
  obtain⟨row',r1,r2,r3,r4,r5,r6⟩:=jk2 (lo:=lo0) (n:=m1.toNat) hok0 hle q9' (fun hp=>q9 (by omega))
  rw[k1]at r1;cases r1
  have hseg:lo0*u+m1.toNat*u≤l.length:=by rw[←ur9];exact hle
  have hpl:=sx8 hseg
  have hkA: ∀x,(AT.sl o off n1 c0 nl0 e u l).fp.count x≤(fpL A).count x:=fun x=>bm6 x q1
  have hcnt: ∀x,(AT.sl o (off+lo'*u) m1.toNat m2.toNat (if nl=0 then 0 else 2) e u ((l.drop (lo0*u)).take (m1.toNat*u))).fp.count x≤(AT.sl o off n1 c0 nl0 e u l).fp.count x:=fun x=>by
   rw[AT.fp,AT.fp,xi6,xi6]
   have:=gc1 l (lo0*u) (m1.toNat*u) x
   omega
  obtain⟨A',Z2,Zp2,st⟩:=Step.grow (kn:= .sl o (off+lo'*u) m1.toNat m2.toNat (if nl=0 then 0 else 2) e u ((l.drop (lo0*u)).take (m1.toNat*u))) (h':=h) i i' e' (Stab.refl _ _) (fun _ ho=>ho) q1 rfl rfl (jj6 _) (fun _ _ _=>rfl)
   (by
     rw[ok]
     refine⟨row,k1,r2,r3,r4,k5,hpl.symm,by omega,⟨fun e1=>(by split at e1<;>cases e1),by rw[hpl];exact r5⟩,by rw[hpl];exact r6,ga5.2 fun c hc=> ?_⟩
     exact ok.keep (fun o ho=> .inl ho) (fun _ _=>rfl) (ga5.1 k10 c (lq8 (tn5 hc))) fun _ _=>rfl)
   (fun x _=>by have:=hcnt x;omega) (fun x _=>by have:=hcnt x;have:=hkA x;have:=i.nd x;omega) (fun x hx=>i.lt x (ea9.2 (by have:=ea9.1 hx;have:=hcnt x;have:=hkA x;omega))) rfl
  refine⟨_,c',A',Z2,Zp2,rfl,by omega, ?_⟩
  simpa [AT.era,AT.val,xg5]using st
theorem r53{b:Bool}{nl u:Nat}{cs:List Tree}{w:Value}(hS:SR h A Z Zp (.f b nl u cs) w){l1 h1:Int}(h0:0≤l1)(h2:l1≤h1)(h3:h1≤(cs.length/u:Nat)):
 ∃a n c,w= .slice a n c∧n=cs.length/u∧h1≤c∧ss4 h u a=true∧VR h A Z Zp (.fz b (.sl (if nl=0 then 0 else 2) 0 u ((cs.drop (l1.toNat*u)).take ((h1-l1).toNat*u)))) (.slice (if(c:Int)=l1 then a else a.map fun a=>⟨a.block,a.off+l1.toNat*u,none⟩) (h1-l1).toNat (c-l1).toNat):=by
 obtain⟨e,hx⟩:=hS
 rw[Rd]at hx
 rcases hx with⟨rfl,hn0,hu0,rfl⟩|⟨o,off,n,c,row,rfl,x2,x3,x4,x5,x6,x7,x8,x9⟩
 ·obtain rfl:l1=0:=by simp at h3;omega
  obtain rfl:h1=0:=by simp at h3;omega
  refine⟨none,0,0,rfl,by simp,by omega,rfl, ?_⟩
  rw[VR,Rd]
  exact .inl ⟨by simp,by rw[if_neg hn0];decide,hu0,rfl⟩
 ·have hn:cs.length/u=n:=by rw[←x6,jw5 _ x5]
  rw[hn]at h3
  obtain⟨lo2,g1,g2,g3⟩:=xi7 (o:=o) (off:=off) (lo':=0) (lo:=0) (u:=u) x7 (jj6 _) (fun _=>rfl) h0 h2 h3
  rw[v88,zy9]at g1
  refine⟨_,n,c,rfl,hn.symm,by omega,ec5 x3 x4, ?_⟩
  rw[g1,VR,Rd]
  have hle:l1.toNat*u+(h1-l1).toNat*u≤cs.length:=by rw[←ur9,←x6];exact wg6 u (by omega)
  have hpl:=sx8 hle
  refine .inr ⟨o,off+lo2*u,_,_,row,rfl,x2,x3,x4,x5,hpl.symm,by omega,fun e1=>(by split at e1<;>cases e1), ?_⟩
  rw[hpl]
  have hs:=x9.sub (l1.toNat*u) ((h1-l1).toNat*u)
  by_cases hp:(h1-l1).toNat=0
  ·rw[hp,v88,si3,si3,RdL]
  ·rw[g3 (by omega),e03]
   rwa [xh6 _ hle,pb3]at hs
theorem jg9(i:Inv h A Z Zp)(ct:CT)(elem size:Nat)(zs:List Value)(l c:Int)(h0:0≤l)(h1:l≤c)(hz:zs.length=size)(hs:size≠0):
 ∃A' Z' Zp',Step h A Z Zp (some (.own (A.map AT.era).length []),A.map AT.era++[.sl 0 elem size (repT (r48 ct elem 0 zs) l.toNat)],none) (some (.slice (some ⟨h.length,0,none⟩) l.toNat c.toNat)) (h++[.row ⟨rep zs c.toNat,elem,size,true⟩]) A' Z' Zp':=by
 have i':Inv h (A++[]) Z Zp:=by rw[nw0];exact i
 have e':Ext h A Zp h (A++[]) Zp:=by rw[nw0];exact Ext.refl _ _ _
 obtain⟨D0,d1,d2,d3,d4⟩:=zg5 (ct:=ct) (h:=h++[.row ⟨rep zs c.toNat,elem,size,true⟩]) (Z:=fun o=>Zp o∨False) (e:=elem) zs 0
 obtain⟨D,m1,m2,m3,m4⟩:=x43 d3 d4 l.toNat
 have hDl:D.length=l.toNat*size:=by
  have:=congrArg List.length m2
  rw[q11,d2,gr6,hz]at this;exact this
 obtain⟨A',Z2,Zp2,st⟩:=e47 (D:=[]) (kn:= .sl h.length 0 l.toNat c.toNat 0 elem size D) (row:=⟨rep zs c.toNat,elem,size,true⟩) (ks:=none) i i' e' (Stab.refl _ _) (fun _ ho=>ho) (by rw[AT.fp,m3];rfl) (fun _=>by
  rw[ok]
  have hle:l.toNat*size≤c.toNat*size:=wg6 _ (by omega)
  refine⟨_,cv8,rfl,rfl,rfl,by omega,hDl.symm,by omega,⟨fun h=>(by cases h), ?_⟩, ?_,m4⟩
  ·show 0+D.length≤(rep zs c.toNat).length
   rw[gr6,hz,hDl];omega
  ·rw[sv4,hDl,←hz,b95 zs _ _ (by omega),m2,d2]) (fun _=>rfl)
 rw[q11]
 exact⟨A',Z2,Zp2,by simpa [AT.era,AT.val,m1,d1]using st⟩
theorem dx2(i:Inv h A Z Zp){r:Nat}{p:List Nat}{j:Nat}{w:Value}(hr:VR h A Z Zp (.cell r p j) w){a:AV}{R1:Rts}(he:ek8 (A.map AT.era) r p j=some (a,R1)): ∃o off x A' Z' Zp',w= .pointer (some ⟨o,off,none⟩)∧h.ld1 o off=some x∧Step h A Z Zp (some a,R1,some []) (some x) h A' Z' Zp':=by
 have i':Inv h (A++[]) Z Zp:=by rw[nw0];exact i
 have e':Ext h A Zp h (A++[]) Zp:=by rw[nw0];exact Ext.refl _ _ _
 unfold ek8 at he
 split at he
 ·rename_i s h1
  split at he
  ·rename_i ts h2
   split at he
   ·rename_i t h3
    split at he
    ·rename_i hn
     cases he
     obtain⟨k,h4,h5⟩:=mc9 h1
     subst h5
     obtain⟨cs,h6,h7⟩:=a47 h2
     subst h7
     obtain⟨c,h8,h9⟩:=xb8 h3
     subst h9
     obtain⟨o,off,row,b1,b2,b3,b4,b5⟩:=nm1 i h4 h6 (by intro e;subst e;simp at h8)
     have hw:=wd1 hr h4 b1
     have hsn:=kq1 h4 h6 h8
     have hcv:=l61 (k60 hn)
     obtain⟨A',Z2,Zp2,st⟩:=Step.grow (kn:=c) (h':=h) i i' e' (Stab.refl _ _) (fun _ ho=>ho) hsn hcv (by cases c<;>first|rfl|(simp_all [AT.era,hc9])) (jj6 _) (fun _ _ _=>rfl) (ok.keep (fun o ho=> .inl ho) (fun _ _=>rfl) (lw8 i hsn) fun _ _=>rfl) (fun x _=>by simp[fpL]) (fun x _=>by have:=bm6 x hsn;have:=i.nd x;omega) (fun x hx=>i.lt x (ea9.2 (by have:=ea9.1 hx;have:=bm6 x hsn;omega))) hcv
     rw[q11]
     exact⟨o,off+j,c.val,A',Z2,Zp2,hw,by rw[ng1 b3];exact b5 j c h8,st⟩
    ·cases he
   ·cases he
  ·cases he
 ·cases he
theorem p22{size:Nat}: ∀{vs:List AV} {ws:List Value},VRL h A Z Zp vs ws→(∀a∈vs,(cellsOf a).length=size)→ ∃us,VRL h A Z Zp (vs.flatMap cellsOf) us∧((∀x∈us,one x=true)→cat ws=us∧sized size ws=true)
 | [],ws,hr,_=>by
   rw[VRL]at hr;subst hr
   exact⟨[], .nil,fun _=>⟨rfl,rfl⟩⟩
 |a::vs,ws,hr,hs=>by
  rw[VRL]at hr
  obtain⟨w,ws',rfl,h1,h2⟩:=hr
  obtain⟨us,u1,u2⟩:=p22 h2 fun b hb=>hs b (by simp[hb])
  have hsa:=hs a (by simp)
  have key: ∃ws0,VRL h A Z Zp (cellsOf a) ws0∧((∀x∈ws0,one x=true)→w.cells.toList=ws0∧flat w=true):=by
   cases a with
   |agg l=>
    rw[VR]at h1
    obtain⟨ws0,rfl,h1⟩:=h1
    exact⟨ws0,h1,fun _=>⟨rfl,rfl⟩⟩
   |_=>
    refine⟨[w], .cons h1 .nil,fun h1=> ?_⟩
    obtain⟨e1,e2⟩:=nn8 (h1 w (by simp))
    exact⟨by rw[e1],e2⟩
  obtain⟨ws0,k1,k2⟩:=key
  refine⟨ws0++us,by rw[List.flatMap_cons];exact k1.app u1,fun ho=> ?_⟩
  obtain⟨e1,e2⟩:=k2 fun x hx=>ho x (by simp[hx])
  obtain⟨e3,e4⟩:=u2 fun x hx=>ho x (by simp[hx])
  refine⟨by rw[cat,e1,e3], ?_⟩
  have:w.cells.size=size:=by
   have:=congrArg List.length e1
   rw[k1.len,hsa]at this
   simpa using this
  rw[sized,this,e2,e4];simp
theorem y47(i:Inv h A Z Zp){places:Nat→Option (Nat×Nat)}: ∀{parts:List (Nat×AV)} {ps:List (Nat×Value)} {cells out:List AV} {ws:List Value},p54 (A.map AT.era) places cells parts=some out→parts.length=ps.length→(∀(j:Nat) (x:Nat×AV),parts[j]? =some x→ ∃w,ps[j]? =some (x.1,w)∧VR h A Z Zp x.2 w)→VRL h A Z Zp cells ws→ ∃us,ah0 places ws ps=some us∧VRL h A Z Zp out us
 | [],ps,cells,out,ws,he,hl,hp,hr=>by
   cases he
   obtain rfl:ps=[]:=js1 hl.symm
   exact⟨ws,rfl,hr⟩
 |(j,a)::parts,ps,cells,out,ws,he,hl,hp,hr=>by
  cases ps with
  |nil=>simp at hl
  |cons q ps=>
   obtain⟨w,e1,hw⟩:=hp 0 (j,a) rfl
   cases e1
   simp only[p54]at he
   split at he
   ·cases he
   ·rename_i off size hpl
    split at he
    ·cases he
    ·rename_i hc
     simp only[ne_eq,ey6,jn8,rd4,not_or,Bool.not_eq_false,Decidable.not_not]at hc
     obtain⟨⟨c1,c2⟩,c3⟩:=hc
     have hlen:=hr.len
     --the cells
     have hcell: ∃ws0,VRL h A Z Zp (cellsOf a) ws0∧w.cells.toList=ws0∧flat w=true:=by
      cases a with
      |agg l=>
       rw[VR]at hw
       obtain⟨ws0,rfl,h1⟩:=hw
       exact⟨ws0,h1,rfl,rfl⟩
      |_=>
       have h1:=j21 i (by simpa [cellsOf]using c2) hw
       obtain⟨e1,e2⟩:=nn8 h1
       exact⟨[w], .cons hw .nil,by rw[e1],e2⟩
     obtain⟨ws0,k1,k2,k3⟩:=hcell
     have hw0:ws0.length=size:=by rw[k1.len,c1]
     have hsz:w.cells.size=size:=by rw[←hw0,←k2];simp
     have hset:VRL h A Z Zp (setL cells off (cellsOf a)) (setL ws off ws0):=by
      obtain⟨l1,l2⟩:=eo0.1 hr
      obtain⟨m1,m2⟩:=eo0.1 k1
      refine eo0.2 ⟨by rw[ij9,ij9];exact l1,fun j b v h1 h2=> ?_⟩
      rw[vo4 _ _ _ _ (by omega)]at h1
      rw[vo4 _ _ _ _ (by omega)]at h2
      rw[m1]at h2
      split at h1
      ·rw[if_pos ‹_›]at h2;exact m2 _ b v h1 h2
      ·rw[if_neg ‹_›]at h2;exact l2 _ b v h1 h2
     obtain⟨us,g1,g2⟩:=y47 i he (by simpa using hl) (fun m x hx=>by
      obtain⟨v,v1,v2⟩:=hp (m+1) x (by simpa using hx)
      exact⟨v,by simpa using v1,v2⟩) hset
     refine⟨us, ?_,g2⟩
     simp only[ah0,hpl]
     rw[if_neg (by simp[hsz,k3];omega),k2,dw1 (by omega)]
     exact g1
theorem rn6(hf:FRV h A Z Zp fr f): ∀{ps:List (Nat×Operand)} {l:List (Nat×AV)},vevp fr ps=some l→ ∃ws,evp f ps=some ws∧l.length=ws.length∧ ∀(j:Nat) (x:Nat×AV),l[j]? =some x→ ∃w,ws[j]? =some (x.1,w)∧VR h A Z Zp x.2 w
 | [],l,he=>by cases he;exact⟨[],rfl,rfl,fun j x hx=>by simp at hx⟩
 |(n,o)::ps,l,he=>by
  simp only[vevp]at he
  split at he
  ·rename_i h1 h2
   cases he
   obtain⟨w,h3,h4⟩:=cj0 hf h1
   obtain⟨ws,h5,h6,h7⟩:=rn6 hf h2
   refine⟨(n,w)::ws,by simp only[evp,h3,h5],by simp[h6],fun j x hx=> ?_⟩
   cases j with
   |zero=>cases hx;exact⟨w,rfl,h4⟩
   |succ j=>simpa using h7 j x (by simpa using hx)
  ·cases he
end
end Go.Vm
namespace Go.Vm
open Go.Am
section
variable {h:H} {A:List AT} {Z Zp:Nat→Prop} {fr:VFr} {f:Fr}
theorem gv2(i:Inv h A Z Zp)(hn:Hint)(d:Option Nat){a:AV}{w:Value}(hr:VR h A Z Zp a w): ∃A' Z' Zp',Step h A Z Zp (some (vnil hn (A.map AT.era) d a).1,(vnil hn (A.map AT.era) d a).2,none) (some w) h A' Z' Zp':=by
 unfold vnil
 have same: ∃A' Z' Zp',Step h A Z Zp (some a,A.map AT.era,none) (some w) h A' Z' Zp':=⟨A,Z,Zp,Step.same i hr⟩
 split
 ·rw[VR]at hr
  subst hr
  split
  ·split
   ·rename_i e u _
    split
    ·exact same
    ·have i':Inv h (A++[]) Z Zp:=by rw[nw0];exact i
     have e':Ext h A Zp h (A++[]) Zp:=by rw[nw0];exact Ext.refl _ _ _
     obtain⟨A',Z2,Zp2,st⟩:=Step.fresh (kn:= .nil 1 e u) (h':=h) (ks:=none) i i' e' (Stab.refl _ _) (fun _ ho=>ho) (je0 _) (by rw[ok];exact⟨by decide,by omega⟩) (fun x _=>by rw[uu7];simp) (fun x _=>by rw[uu7];simp) (fun o ho=>by rw[uu7]at ho;cases ho) (fun _=>rfl)
     refine⟨A',Z2,Zp2, ?_⟩
     simpa [AT.era,AT.val]using st
   ·exact same
  ·exact same
 ·exact same
theorem vp6{A1 D:List AT}{Z1 Zp1:Nat→Prop}(i1:Inv h (A1++D) Z1 Zp1){r o e:Nat}{p:List Nat}{cs:List AT}(h3:aget A1 r p=some (.mp o e cs)){cs':List AT}(hmem: ∀c∈cs',c∈cs∨c∈D∨ ∃v,c= .v v)
 (hcnt: ∀x,(fpL cs').count x≤(fpL cs).count x+(fpL D).count x) {row:Row} (b3:h.row o=some row) (hro:row.own=true∧row.unit=0):
 ∃Z2 Zp2,Inv (h.set o (.row {row with cells:=cs'.map AT.val})) (aset A1 r p (.mp o e cs')) Z2 Zp2∧Ext h (A1++D) Zp1 (h.set o (.row {row with cells:=cs'.map AT.val})) (aset A1 r p (.mp o e cs')) Zp2∧(∀x,Z1 x→Z2 x)∧Stab A1 (aset A1 r p (.mp o e cs')) [r]:=by
 have hlt:=vs7 h3
 have h3':aget (A1++D) r p=some (.mp o e cs):=by rw[gr7 p hlt];exact h3
 have hok:=lw8 i1 h3'
 have hol:o<h.length:=h42 b3
 have b2:o∈(AT.mp o e cs).fp:=by rw[AT.fp];simp
 have hokA:o∈fpL A1:=ea9.2 (by have:=ea9.1 b2;have:=bm6 o h3;omega)
 have hac: ∀x,(fpL A1).count x+(fpL D).count x≤1:=fun x=>by have:=i1.nd x;rwa [xv9,m34]at this
 have hkn: ∀x,(AT.mp o e cs).fp.count x≤1:=fun x=>by have:=bm6 x h3;have:=hac x;omega
 have hoD:o∉fpL D:=fun hm=>by have:=ea9.1 hm;have:=ea9.1 hokA;have:=hac o;omega
 have hocs:o∉fpL cs:=fun hm=>by
  have h1:=hkn o
  rw[AT.fp,List.count_cons_self]at h1
  have:=ea9.1 hm
  omega
 have hrow': ∀o',o'≠o→H.row (h.set o (.row {row with cells:=cs'.map AT.val})) o'=h.row o':=fun o' hne=>jl1 fun e=>hne e.symm
 have hokd:=ga5.1 i1.okA
 have hokc:=ga5.1 (by5 (cs:=cs) rfl hok)
 have hz: ∀x,Zp1 x→x≠o:=fun x hx e=>i1.nz o (by rw[xv9];simp[hokA]) (e▸i1.zp x hx)
 have hchild:okL (h.set o (.row {row with cells:=cs'.map AT.val})) (fun x=>Zp1 x∨False) cs':=by
  refine ga5.2 fun c hc=> ?_
  rcases hmem c hc with hcc|hcD|⟨v,rfl⟩
  ·exact ok.keep (fun x hx=> .inl hx) (fun x hx=>hrow' x (hz x hx)) (hokc c hcc) fun x hx=>hrow' x fun e=>hocs (by rw[←e,zq7,c90];exact⟨c,hcc,hx⟩)
  ·exact ok.keep (fun x hx=> .inl hx) (fun x hx=>hrow' x (hz x hx)) (hokd c (by simp[hcD])) fun x hx=>hrow' x fun e=>hoD (by rw[←e,zq7,c90];exact⟨c,hcD,hx⟩)
  ·rw[ok];trivial
 have hsok:ok (h.set o (.row {row with cells:=cs'.map AT.val})) (fun x=>Zp1 x∨False) (.mp o e cs'):=by
  rw[ok]
  exact⟨_,tr3 hol,hro,rfl,hchild⟩
 have hc2: ∀x,(AT.mp o e cs').fp.count x≤(AT.mp o e cs).fp.count x+(fpL D).count x:=fun x=>by
  have:=hcnt x
  rw[AT.fp,AT.fp,xi6,xi6];omega
 obtain⟨i2,e2⟩:=Inv.upd (A:=A1) (C:=D) (N:=[]) (s:= .mp o e cs') (Zx:=fun _=>False) i1 h3 (h':=h.set o (.row {row with cells:=cs'.map AT.val})) (by rw[kb7];exact jj6 _)
  (fun x _ hx=>zv3 fun e=>hx (e▸b2)) rfl hsok (by rw[okL];trivial) (fun x _=>by have:=hc2 x;simp[fpL];omega)
  (fun x hx=>by
    have h1:=hc2 x
    have h2:=bm6 x h3
    have h4:=hac x
    simp[fpL];omega)
  (fun x hx=>by
    rw[kb7]
    rcases hx with hx|hx
    ·have h4:=ea9.1 hx
     have h1:=hc2 x
     have h2:=bm6 x h3
     refine i1.lt x (ea9.2 ?_)
     rw[xv9,m34];omega
    ·simp[fpL]at hx)
  (fun x hx=>hx.elim)
 rw[nw0]at i2 e2
 exact⟨_,_,i2,e2,fun x hx=> .inl hx,Stab.upd (s:= .mp o e cs') h3 rfl rfl rfl (.inr (q05.2 rfl))⟩
theorem ub4{kd:IntKind}{k:Int}{x:AT}: ∀{l:List AT} {cs2:List Tree},pr0 kd k x.era (eraL l)=some cs2→
 ∃l',eraL l'=cs2∧mset kd k x.val (l.map AT.val)=some (l'.map AT.val)∧(∀c∈l',c∈l∨c∈[x]∨ ∃v,c= .v v)∧ ∀y,(fpL l').count y≤(fpL l).count y+(fpL [x]).count y
 | [],cs2,h=>by
   cases h
   refine⟨[.v (.int kd k),x],rfl,rfl,fun c hc=> ?_,fun y=> ?_⟩
   ·rcases r04.1 hc with rfl|hc
    ·exact .inr (.inr ⟨_,rfl⟩)
    ·exact .inr (.inl hc)
   ·simp[fpL,AT.fp]
 | [a],cs2,h=>by
   cases a<;>first|(cases h;done)|skip
   rename_i v
   cases v<;>cases h
 |a::b::l,cs2,h=>by
  have ih:=fun cs2 (h:pr0 kd k x.era (eraL l)=some cs2)=>ub4 h
  cases a<;>try (cases h;done)
  rename_i v
  cases v<;>try (cases h;done)
  rename_i kd' j
  simp only[eraL,AT.era,pr0]at h
  rw[nf9,nf9,show AT.val (.v (.int kd' j))=Value.int kd' j from rfl]
  simp only[mset]
  split at h
  ·rename_i hk
   rw[if_pos hk]
   split at h
   ·rename_i hj
    cases h
    rw[if_pos hj]
    refine⟨.v (.int kd' j)::x::l,rfl,rfl,fun c hc=> ?_,fun y=> ?_⟩
    ·rcases r04.1 hc with rfl|hc
     ·exact .inr (.inr ⟨_,rfl⟩)
     ·rcases r04.1 hc with rfl|hc
      ·exact .inr (.inl (by simp))
      ·exact .inl (by simp[hc])
    ·simp only[fpL,AT.fp,m34,List.count_nil];omega
   ·rename_i hj
    rw[if_neg hj]
    split at h
    ·rename_i l2 hl
     cases h
     obtain⟨l',q1,q2,q3,q4⟩:=ih _ hl
     rw[q2]
     refine⟨.v (.int kd' j)::b::l',by rw[eraL,eraL,q1];rfl,rfl,fun c hc=> ?_,fun y=> ?_⟩
     ·rcases r04.1 hc with rfl|hc
      ·exact .inr (.inr ⟨_,rfl⟩)
      ·rcases r04.1 hc with rfl|hc
       ·exact .inl (by simp)
       ·rcases q3 c hc with h1|h1
        ·exact .inl (by simp[h1])
        ·exact .inr h1
     ·have:=q4 y
      simp only[fpL,AT.fp,m34,List.count_nil]at this⊢;omega
    ·cases h
  ·cases h
theorem y69{W:VW}{hn:Hint}{d:Option Nat}(i:Inv h A Z Zp)(hf:FRV h A Z Zp fr f){op:AOp}{r:Option AV×Rts×Option (List Nat)}(he:vop W hn d fr (A.map AT.era) op=some r):
 ∃w h' A' Z' Zp',aop f h op=some (w,h')∧Step h A Z Zp r w h' A' Z' Zp':=by
 have i':Inv h (A++[]) Z Zp:=by rw[nw0];exact i
 have e':Ext h A Zp h (A++[]) Zp:=by rw[nw0];exact Ext.refl _ _ _
 have pure: ∀{v:Value},aop f h op=some (some v,h)→r=(some (.x v),A.map AT.era,none)→ ∃w h' A' Z' Zp',aop f h op=some (w,h')∧Step h A Z Zp r w h' A' Z' Zp':=fun{v} h1 h2=>⟨some v,h,A,Z,Zp,h1,by rw[h2];exact Step.same i (by rw[VR])⟩
 have look: ∀{a:AV},lu1 fr (A.map AT.era) op=some a→r=(some a,A.map AT.era,none)→ ∃w h' A' Z' Zp',aop f h op=some (w,h')∧Step h A Z Zp r w h' A' Z' Zp':=fun{a} h1 h2=>by
  obtain⟨v,h3,h4⟩:=look_ok i hf h1
  exact⟨some v,h,A,Z,Zp,h3,by rw[h2];exact Step.same i h4⟩
 cases op with
 |mv x=>
  simp only[vop]at he
  split at he
  ·rename_i a h1
   cases he
   obtain⟨w,h2,h3⟩:=cj0 hf h1
   obtain⟨A',Z',Zp',st⟩:=gv2 i hn d h3
   have hk:vmvd hn d a=none∨vmvd hn d a=some []:=by
    unfold vmvd
    split
    ·split
     ·split
      ·split
       ·exact .inl rfl
       ·exact .inr rfl
      ·exact .inl rfl
     ·exact .inl rfl
    ·exact .inl rfl
   rcases hk with hk|hk
   ·rw[hk];exact⟨some w,h,A',Z',Zp',by simp only[aop,h2],st⟩
   ·rw[hk];exact⟨some w,h,A',Z',Zp',by simp only[aop,h2],st.R,st.inv,st.ext,st.st,st.z,st.v,fun e=>by cases e⟩
  ·cases he
 |pick c a b=>
  simp only[vop]at he
  split at he
  ·rename_i t h1
   split at he
   ·rename_i v h2
    cases he
    obtain⟨w,h3,h4⟩:=cj0 hf h2
    exact⟨some w,h,A,Z,Zp,by simp only[aop,hv3 hf h1,h3],Step.same i h4⟩
   ·cases he
  ·cases he
 |bin op x y=>
  simp only[vop]at he
  split at he
  ·rename_i a b h1 h2
   split at he
   ·rename_i v h3
    cases he
    exact pure (by simp only[aop,hv3 hf h1,hv3 hf h2,h3]) rfl
   ·cases he
  ·cases he
 |eqb neg x y=>
  simp only[vop]at he
  split at he
  ·rename_i a b h1 h2
   cases he
   exact pure (by simp only[aop,hv3 hf h1,hv3 hf h2]) rfl
  ·cases he
 |eqn neg kind x=>
  simp only[vop]at he
  split at he
  ·rename_i a h1
   split at he
   ·rename_i b h2
    cases he
    obtain⟨w,h3,h4⟩:=cj0 hf h1
    exact pure (by simp only[aop,h3,ky5 i h2 h4]) rfl
   ·cases he
  ·cases he
 |un op x=>
  simp only[vop]at he
  split at he
  ·rename_i a h1
   split at he
   ·rename_i v h3
    cases he
    exact pure (by simp only[aop,hv3 hf h1,h3]) rfl
   ·cases he
  ·cases he
 |conv k x=>
  simp only[vop]at he
  split at he
  ·rename_i n h1
   cases he
   exact pure (by simp only[aop,hv3 hf h1]) rfl
  ·cases he
 |alloc elem zs=>
  cases he
  obtain⟨D,d1,d2,d3,d4⟩:=zg5 (ct:=zy6 W.ct (memO d hn.take)) (h:=h++[.row ⟨zs,elem,0,true⟩]) (Z:=fun o=>Zp o∨False) (e:=elem) zs 0
  obtain⟨A',Z2,Zp2,st⟩:=e47 (D:=[]) (kn:= .pt h.length elem D) (row:=⟨zs,elem,0,true⟩) (ks:=none) i i' e' (Stab.refl _ _) (fun _ ho=>ho) (by rw[AT.fp,d3];rfl) (fun _=>by
   rw[ok];exact⟨_,cv8,⟨rfl,rfl⟩,d2.symm,d4⟩) (fun _=>rfl)
  exact⟨_,_,A',Z2,Zp2,by simp only[aop];rfl,by rw[q11];simpa [AT.era,AT.val,d1]using st⟩
 |mmk elem=>
  cases he
  obtain⟨A',Z2,Zp2,st⟩:=e47 (D:=[]) (kn:= .mp h.length elem []) (row:=⟨[],elem,0,true⟩) (ks:=none) i i' e' (Stab.refl _ _) (fun _ ho=>ho) (by rw[AT.fp]) (fun _=>by
   rw[ok];exact⟨_,cv8,⟨rfl,rfl⟩,rfl,by rw[okL];trivial⟩) (fun _=>rfl)
  exact⟨_,_,A',Z2,Zp2,by simp only[aop];rfl,by rw[q11];simpa [AT.era,AT.val,eraL]using st⟩
 |mput kd m k x=>
  simp only[vop]at he
  split at he
  ·rename_i r' p kd' j v h1 h2 h0
   split at he
   ·rename_i hk
    subst hk
    split at he
    ·rename_i t R1 h4
     split at he
     ·rename_i e cs h5
      split at he
      ·rename_i cs' h6
       cases he
       obtain⟨wa,e1,e2⟩:=cj0 hf h1
       obtain⟨wv,e3,e4⟩:=cj0 hf h0
       have k4:=hv3 hf h2
       have h4':az9 (g57 hn.share x) (A.map AT.era) [v]=some ([t],R1):=by simp only[az9,h4]
       obtain⟨A1,D,Z1,Zp1,rfl,b2,b3,b4,i1,x1,s1,z1,l1⟩:=p91 (C:=[]) (ws:=[wv]) i' h4' (.cons e4 .nil)
       rw[m51]at i1
       have x1:=e'.trans x1
       rw[m51]at x1
       obtain⟨d,rfl⟩: ∃d,D=[d]:=by
        cases D with
        |nil=>cases b2
        |cons d D=>cases D with
         |nil=>exact⟨d,rfl⟩
         |cons d2 D=>cases b2
       rw[eraL,eraL]at b2
       cases b2
       have hdv:d.val=wv:=by simpa using b3
       obtain⟨kk,g1,g2⟩:=mc9 h5
       obtain⟨o,l,rfl,rfl⟩:=yi5 g2
       obtain⟨l',q1,q2,q3,q4⟩:=ub4 h6
       have g1':aget (A1++[d]) r' p=some (.mp o e l):=by rw[gr7 p (vs7 g1)];exact g1
       have hok:=lw8 i1 g1'
       rw[ok]at hok
       obtain⟨row,m1,m2,m3,m4⟩:=hok
       have hown1:VR h A1 Z1 Zp1 (.own r' p) wa:=VR.move z1 x1.zp (fun _ _=>rfl) (fun _ _=>rfl) s1 e2 rfl
       rw[VR]at hown1
       have hw:(AT.mp o e l).val=wa:=hown1.2 _ g1 rfl
       subst hw
       obtain⟨Z2,Zp2,i2,x2,z2,st2⟩:=vp6 i1 g1 q3 q4 m1 m2
       have hone:=b4 wv (by simp)
       refine⟨none,_,aset A1 r' p (.mp o e l'),Z2,Zp2,si8.2 ⟨o,j,wv,row,l'.map AT.val,e1,k4,e3, ?_,m1,m2.1,by rw[m3,←hdv];exact q2,rfl⟩,⟨?_,i2,x1.trans x2, ?_,fun o ho=>z2 o (z1 o ho),trivial,fun hn=>by cases hn⟩⟩
       ·exact hone
       ·rw[←ao8,AT.era,q1]
       ·exact(s1.weak (fun r hr=>by cases hr)).trans st2
      ·cases he
     ·cases he
    ·cases he
   ·cases he
  ·cases he
 |box elem size x=>
  simp only[vop]at he
  split at he
  ·rename_i a h1
   split at he
   ·rename_i hs
    split at he
    ·rename_i ts R1 h2
     cases he
     obtain⟨w,h3,h4⟩:=cj0 hf h1
     obtain⟨ws,k1,k2⟩:=vr1 h2 h4
     obtain⟨A1,D,Z1,Zp1,rfl,b2,b3,b4,i1,e1,s1,z1,l1⟩:=p91 (C:=[]) i' h2 k1
     rw[m51]at i1
     have e1:=e'.trans e1
     rw[m51]at e1
     obtain⟨k3,k4⟩:=k2 b4
     obtain⟨A',Z2,Zp2,st⟩:=e47 (kn:= .pt h.length elem D) (row:=⟨w.cells.toList,elem,0,true⟩) (ks:=some []) i i1 e1 s1 z1 (by rw[AT.fp]) (fun hk=>by
      rw[ok];exact⟨_,cv8,⟨rfl,rfl⟩,by rw[b3];exact k3,hk⟩) (fun h=>by cases h)
     have hsz:w.cells.size=size:=by rw[←hs,←k1.len,←k3];simp
     refine⟨_,_,A',Z2,Zp2,by simp only[aop,h3];rw[if_pos ⟨hsz,k4⟩],by rw[q11];simpa [AT.era,AT.val,b2]using st⟩
    ·cases he
   ·cases he
  ·cases he
 |build zs places parts=>
  simp only[vop]at he
  split at he
  ·rename_i vs h1
   split at he
   ·rename_i cs h2
    cases he
    obtain⟨ws,h3,h4,h5⟩:=rn6 hf h1
    obtain⟨us,h6,h7⟩:=y47 i h2 h4 h5 (VRL.xs zs)
    refine⟨some (.agg us.toArray),h,A,Z,Zp,by simp only[aop,h3,h6],Step.same i ?_⟩
    rw[VR];exact⟨us,rfl,h7⟩
   ·cases he
  ·cases he
 |mkSl elem size len parts=>
  simp only[vop]at he
  split at he
  ·rename_i vs h1
   split at he
   ·rename_i hc
    simp only[b83,p92,ui3,bne_iff_ne,ne_eq]at hc
    obtain⟨⟨c1,c2⟩,c3⟩:=hc
    split at he
    ·rename_i ts R1 h2
     cases he
     obtain⟨ws,h3,h4⟩:=ys0 hf h1
     obtain⟨us,k1,k2⟩:=p22 h4 c1
     obtain⟨A1,D,Z1,Zp1,rfl,b2,b3,b4,i1,e1,s1,z1,l1⟩:=p91 (C:=[]) i' h2 k1
     rw[m51]at i1
     have e1:=e'.trans e1
     rw[m51]at e1
     obtain⟨k3,k4⟩:=k2 b4
     have hwl:ws.length=len:=by rw[h4.len,c2]
     have hDl:D.length=len*size:=by
      have h6: ∀l:List AV,(∀a∈l,(cellsOf a).length=size)→(l.flatMap cellsOf).length=l.length*size:=by
       intro l
       induction l with
       |nil=>intro _;simp
       |cons a l ih=>
        intro hh
        rw[List.flatMap_cons,j82,ih fun b hb=>hh b (by simp[hb]),hh a (by simp),q90,ur9];omega
      have:=k1.len
      rw[h6 vs c1,c2,←b3,q11]at this
      exact this
     obtain⟨A',Z2,Zp2,st⟩:=e47 (kn:= .sl h.length 0 len len 0 elem size D) (row:=⟨cat ws,elem,size,true⟩) (ks:=some []) i i1 e1 s1 z1 (by rw[AT.fp]) (fun hk=>by
      rw[ok]
      refine⟨_,cv8,rfl,rfl,rfl,by omega,hDl.symm,jj6 _,⟨fun h=>(by cases h), ?_⟩, ?_,hk⟩
      ·show 0+D.length≤(cat ws).length
       rw[k3,←b3];simp
      ·show((cat ws).drop 0).take _=_
       rw[k3,←b3,sv4,sp3 (by simp)]) (fun h=>by cases h)
     refine⟨_,_,A',Z2,Zp2,by simp only[aop,h3];rw[if_pos (by rw[k4,hwl];simp)],by rw[q11];simpa [AT.era,AT.val,b2]using st⟩
    ·cases he
   ·cases he
  ·cases he
 |ld agg n x=>
  simp only[vop]at he
  split at he
  ·rename_i hc
   split at he
   ·rename_i a h1
    split at he
    ·rename_i r' p j h2
     split at he
     ·rename_i v R1 h3
      cases he
      obtain⟨w,h4,h5⟩:=cj0 hf h1
      obtain⟨o,off,y,A',Z',Zp',rfl,h7,st⟩:=dx2 i (dm7 i h2 h5) h3
      have hag:agg=false:=by cases agg<;>simp_all
      subst hag
      exact⟨some y,h,A',Z',Zp',by simp only[aop,h4];rw[if_neg (by simp)];simp only[h7],st⟩
     ·cases he
    ·cases he
   ·cases he
  ·split at he
   ·rename_i v h1
    cases he
    exact look h1 rfl
   ·cases he
 |st n a x=>
  simp only[vop]at he
  split at he
  ·rename_i pa v h1 h2
   split at he
   ·rename_i r' p j h3
    split at he
    ·rename_i hc
     obtain⟨c1,c2⟩:=hc
     split at he
     ·rename_i ts R1 h4
      split at he
      ·rename_i R2 h5
       cases he
       obtain⟨wa,e1,e2⟩:=cj0 hf h1
       obtain⟨wv,e3,e4⟩:=cj0 hf h2
       obtain⟨ws,k1,k2⟩:=vr1 h4 e4
       obtain⟨A1,D,Z1,Zp1,rfl,b2,b3,b4,i1,x1,s1,z1,l1⟩:=p91 (C:=[]) i' h4 k1
       rw[m51]at i1
       have x1:=e'.trans x1
       rw[m51]at x1
       obtain⟨k3,k4⟩:=k2 b4
       have hcell:=dm7 i h3 e2
       have hcell1:VR h A1 Z1 Zp1 (.cell r' p j) wa:=VR.move z1 x1.zp (fun _ _=>rfl) (fun _ _=>rfl) s1 hcell rfl
       have hwl:ws.length=n:=by rw[k1.len,c1]
       have hDl:D.length=n:=by rw[←hwl,←b3];simp
       rw[←b2]at h5
       obtain⟨o,off,h',A2,w1,w2,w3,⟨Z2,Zp2,i2,x2,z2⟩,w5⟩:=dp1 i1 b3 (by intro e;rw[e]at hDl;exact c2 hDl.symm) hcell1 h5
       subst w1
       rw[←k3]at hwl
       refine⟨none,h',A2,Z2,Zp2, ?_,⟨w3,i2,x1.trans x2, ?_,fun o ho=>z2 o (z1 o ho),trivial,fun hn=>by cases hn⟩⟩
       ·simp only[aop,e1,e3]
        rw[if_neg (by simp[k4];simpa using hwl),k3,w2]
       ·rw[←b2]
        refine(s1.weak (fun r hr=>by cases hr)).trans ?_
        exact w5
      ·cases he
     ·cases he
    ·cases he
   ·cases he
  ·cases he
 |mkf g cap=>
  simp only[vop]at he
  split at he
  ·rename_i vs h1
   cases he
   obtain⟨ws,h2,h3⟩:=ys0 hf h1
   exact⟨some (.func (.func g) #[] ws.toArray),h,A,Z,Zp,by simp only[aop,h2],Step.same i (by rw[VR];exact⟨ws,rfl,h3⟩)⟩
  ·cases he
 |mks elem size bytes zs l c=>
  simp only[vop]at he
  split at he
  ·rename_i k1 l k2 c h1 h2
   split at he
   ·rename_i hc
    cases he
    obtain⟨A',Z',Zp',st⟩:=jg9 i W.ct elem size zs l c hc.1 hc.2.1 hc.2.2.2.2.1 hc.2.2.2.2.2
    exact⟨_,_,A',Z',Zp',by simp only[aop,hv3 hf h1,hv3 hf h2];rw[if_pos ⟨hc.1,hc.2.1,hc.2.2.1,hc.2.2.2.1⟩],st⟩
   ·cases he
  ·cases he
 |sl size x lo hi=>
  simp only[vop]at he
  split at he
  ·rename_i a lo hi h1 h2 h3
   obtain⟨w,h4,h5⟩:=cj0 hf h1
   have hlo:=fk3 hf h2
   have hhi:=fk3 hf h3
   split at he
   ·rename_i r' p nl e u cs lo0 n0 h6
    split at he
    ·rename_i hc
     obtain⟨c1,c2,c3,c4⟩:=hc
     subst c4
     have hS:=cd4 i h6 h5
     split at he
     ·cases he
      obtain⟨b,c,A',Z',Zp',rfl,g1,g2,st⟩:=uu3 i hS c1 c2 c3
      exact⟨_,h,A',Z',Zp',by simp only[aop,h4,hlo,hhi];rw[if_pos ⟨c1,c2,g1,g2⟩],st⟩
     ·cases he
      obtain⟨b,c,rfl,g1,g2,g3⟩:=dw7 i hS c1 c2 c3
      exact⟨_,h,A,Z,Zp,by simp only[aop,h4,hlo,hhi];rw[if_pos ⟨c1,c2,g1,g2⟩],Step.same i g3⟩
    ·cases he
   ·rename_i b nl u cs h6
    split at he
    ·rename_i hc
     obtain⟨c1,c2,c3,c4⟩:=hc
     subst c4
     cases he
     obtain⟨b,n,c,rfl,rfl,g1,g2,g3⟩:=r53 (cd4 i h6 h5) c1 c2 c3
     exact⟨_,h,A,Z,Zp,by simp only[aop,h4,hlo,hhi];rw[if_pos ⟨c1,c2,g1,g2⟩],Step.same i g3⟩
    ·cases he
   ·rename_i h6
    split at he
    ·rename_i hc
     cases he
     have hS:w= .slice none 0 0:=cd4 i h6 h5
     subst hS
     refine pure (v:= .slice none 0 0) ?_ rfl
     simp only[aop,h4,hlo,hhi]
     have e1:lo.getD 0=0:=hc.1
     have e2:hi.getD ((0:Nat):Int)=0:=hc.2
     rw[if_pos ⟨by omega,by omega,by omega,rfl⟩,e1,e2]
     rfl
    ·cases he
   ·cases he
  ·cases he
 |sls x lo hi=>
  simp only[vop]at he
  split at he
  ·rename_i s lo hi h1 h2 h3
   split at he
   ·cases he
    exact pure (by simp only[aop,hv3 hf h1,fk3 hf h2,fk3 hf h3];rw[if_pos ‹_›]) rfl
   ·cases he
  ·cases he
 |sl3 x hi mx=>
  simp only[vop]at he
  split at he
  ·rename_i a k1 m1 k2 m2 h1 h2 h3
   obtain⟨w,h4,h5⟩:=cj0 hf h1
   have q2:=hv3 hf h2
   have q3:=hv3 hf h3
   split at he
   ·rename_i r' p nl e u cs lo0 n0 h6
    split at he
    ·rename_i hc
     obtain⟨c1,c2,c3⟩:=hc
     split at he
     ·cases he
      obtain⟨b,c,A',Z',Zp',rfl,g1,st⟩:=n54 i (cd4 i h6 h5) c1 c2 c3
      exact⟨_,h,A',Z',Zp',by simp only[aop,h4,q2,q3];rw[if_pos ⟨c1,c2,g1⟩],st⟩
     ·cases he
      obtain⟨k,nl0,q1,_,_,q4,q5,q6⟩:=cd4 i h6 h5
      rcases q6 with⟨rfl,rfl,rfl,rfl,_,rfl⟩|⟨o,off,n1,c0,l,lo',c',rfl,rfl,q7,rfl,q8,q9',q9⟩
      ·refine⟨_,h,A,Z,Zp,by simp only[aop,h4,q2,q3];rw[if_pos ⟨c1,c2,c3⟩],Step.same i ?_⟩
       rw[VR]
       refine⟨vs7 q1,fun b hb _=> ?_⟩
       rw[q1]at hb;cases hb
       show _∧_=_
       rw[show m1.toNat=0 by omega,show m2.toNat=0 by omega]
       exact⟨rfl,rfl⟩
      ·refine⟨_,h,A,Z,Zp,by simp only[aop,h4,q2,q3];rw[if_pos ⟨c1,c2,by omega⟩],Step.same i ?_⟩
       rw[VR]
       refine⟨vs7 q1,fun b hb _=> ?_⟩
       rw[q1]at hb;cases hb
       exact⟨lo',_,rfl,by omega,q9',fun _=>q9 (by omega)⟩
    ·cases he
   ·rename_i b nl u cs h6
    split at he
    ·rename_i hc
     obtain⟨c1,c2,c3⟩:=hc
     cases he
     obtain⟨e,hx⟩:=cd4 i h6 h5
     rw[Rd]at hx
     rcases hx with⟨rfl,hn0,hu0,rfl⟩|⟨o,off,n,c,row,rfl,x2,x3,x4,x5,x6,x7,x8,x9⟩
     ·simp at c3
      refine⟨_,h,A,Z,Zp,by simp only[aop,h4,q2,q3];rw[if_pos ⟨c1,c2,c3⟩],Step.same i ?_⟩
      rw[VR,Rd]
      exact .inl ⟨by simp,by rw[if_neg hn0];decide,hu0,by rw[show m1.toNat=0 by omega,show m2.toNat=0 by omega]⟩
     ·have hn:cs.length/u=n:=by rw[←x6,jw5 _ x5]
      rw[hn]at c3
      refine⟨_,h,A,Z,Zp,by simp only[aop,h4,q2,q3];rw[if_pos ⟨c1,c2,by omega⟩],Step.same i ?_⟩
      rw[VR,Rd]
      have hle:0+m1.toNat*u≤cs.length:=by rw[e03,←x6];exact wg6 u (by omega)
      have hpl:=sx8 hle
      rw[sv4]at hpl
      refine .inr ⟨o,off,_,_,row,rfl,x2,x3,x4,x5,hpl.symm,by omega,fun e1=>(by split at e1<;>cases e1), ?_⟩
      rw[hpl]
      have hs:=x9.sub 0 (m1.toNat*u)
      rwa [xh6 _ hle,sv4,sv4]at hs
    ·cases he
   ·rename_i h6
    split at he
    ·rename_i hc
     cases he
     have hS:w= .slice none 0 0:=cd4 i h6 h5
     subst hS
     obtain⟨rfl,rfl⟩:=hc
     refine pure (v:= .slice none 0 0) ?_ rfl
     simp only[aop,h4,q2,q3]
     rw[if_pos ⟨by omega,by omega,by omega⟩]
     rfl
    ·cases he
   ·cases he
  ·cases he
 |idxS x y=>
  simp only[vop]at he
  split at he
  ·rename_i s k j h1 h2
   split at he
   ·rename_i hc
    split at he
    ·rename_i b h3
     cases he
     exact pure (by simp only[aop,hv3 hf h1,hv3 hf h2];rw[if_pos hc];simp only[h3]) rfl
    ·cases he
   ·cases he
  ·cases he
 |len x=>
  simp only[vop]at he
  split at he
  ·rename_i a h1
   obtain⟨w,h4,h5⟩:=cj0 hf h1
   split at he
   ·rename_i r' p nl e u cs lo0 n0 h6
    cases he
    obtain⟨k,nl0,q1,_,_,q4,q5,q6⟩:=cd4 i h6 h5
    rcases q6 with⟨_,_,rfl,_,_,rfl⟩|⟨o,off,n1,c0,l,lo',c',_,_,q7,rfl,_⟩
    ·exact pure (by simp only[aop,h4]) rfl
    ·exact pure (by simp only[aop,h4]) rfl
   ·rename_i b nl u cs h6
    cases he
    obtain⟨e,hx⟩:=cd4 i h6 h5
    rw[Rd]at hx
    rcases hx with⟨rfl,hn0,hu0,rfl⟩|⟨o,off,n,c,row,rfl,x2,x3,x4,x5,x6,x7,x8,x9⟩
    ·exact pure (by simp only[aop,h4];simp) rfl
    ·have hn:cs.length/u=n:=by rw[←x6,jw5 _ x5]
     exact pure (v:= .int .i64 n) (by simp only[aop,h4]) (by rw[hn])
   ·rename_i h6
    cases he
    have hS:w= .slice none 0 0:=cd4 i h6 h5
    subst hS
    exact pure (by simp only[aop,h4];rfl) rfl
   ·cases he
  ·cases he
 |lenS x=>
  simp only[vop]at he
  split at he
  ·rename_i s h1
   cases he
   exact pure (by simp only[aop,hv3 hf h1]) rfl
  ·cases he
 |lenK n=>cases he;exact pure rfl rfl
 |minmax mx xs=>
  simp only[vop]at he
  split at he
  ·rename_i vs h1
   split at he
   ·rename_i k n r'
    split at he
    ·rename_i l h2
     cases he
     exact pure (by simp only[aop,c07 hf h1,h2]) rfl
    ·cases he
   ·cases he
  ·cases he
 |app elem size bytes s x=>
  simp only[vop,jp2]at he
  split at he
  ·rename_i az ax h1 h2
   split at he
   ·rename_i X h3
    split at he
    ·rename_i news R1 h4
     obtain⟨w1,e1,e2⟩:=cj0 hf h1
     obtain⟨w2,e3,e4⟩:=cj0 hf h2
     have hX:=cd4 i h3 e4
     split at he
     ·rename_i r' p nl e u cs lo n h5
      split at he
      ·rename_i hc
       cases he
       obtain⟨v,h',A',Z',Zp',g1,g2⟩:=zk4 (elem:=elem) i e2 hX h4 h5 hc.1 hc.2.1 hc.2.2
       exact⟨some v,h',A',Z',Zp',by simp only[aop,e1,e3,g1],g2⟩
      ·cases he
     ·rename_i h5
      split at he
      ·rename_i hc
       cases he
       have hn:w1= .slice none 0 0:=by
        cases az with
        |x v=>
         rw[VR]at e2
         rw[e2]
         simp only[vsl]at h5
         split at h5
         ·rename_i e;cases e
         ·rename_i e;cases e
         ·rename_i e;cases e
         ·rename_i e;cases e
         ·rename_i e;cases e;rfl
         ·cases h5
        |own r p=>simp only[vsl]at h5;split at h5<;>cases h5
        |sub r p u lo n=>
         simp only[vsl]at h5
         split at h5
         ·split at h5<;>cases h5
         ·cases h5
        |fz b t=>
         cases t with
         |ex t=>cases t<;>cases h5
         |_=>cases h5
        |_=>cases h5
       subst hn
       obtain⟨v,h',A',Z',Zp',g1,g2⟩:=qk7 (elem:=elem) i hX h4 hc.1 hc.2
       exact⟨some v,h',A',Z',Zp',by simp only[aop,e1,e3,g1],g2⟩
      ·cases he
     ·cases he
    ·cases he
   ·cases he
  ·cases he
 |appz elem bytes s x=>
  simp only[vop,jp2]at he
  split at he
  ·rename_i az m h1 h2
   split at he
   ·rename_i hm0
    obtain⟨w1,e1,e2⟩:=cj0 hf h1
    have e3:=hv3 hf h2
    split at he
    ·rename_i r' p nl e u cs lo n h5
     split at he
     ·rename_i hc
      cases he
      obtain⟨sa,n1,c1,v,h',A',Z',Zp',rfl,g1,g2⟩:=c45 (elem:=elem) i e2 h5 hc.1 hc.2.1 hc.2.2
      exact⟨some v,h',A',Z',Zp',by simp only[aop,e1,e3];rw[if_pos hm0,g1],g2⟩
     ·cases he
    ·rename_i h5
     split at he
     ·rename_i hc
      cases he
      have hn:w1= .slice none 0 0:=by
       cases az with
       |x v=>
        rw[VR]at e2
        rw[e2]
        simp only[vsl]at h5
        split at h5
        ·rename_i e;cases e
        ·rename_i e;cases e
        ·rename_i e;cases e
        ·rename_i e;cases e
        ·rename_i e;cases e;rfl
        ·cases h5
       |own r p=>simp only[vsl]at h5;split at h5<;>cases h5
       |sub r p u lo n=>
        simp only[vsl]at h5
        split at h5
        ·split at h5<;>cases h5
        ·cases h5
       |fz b t=>
        cases t with
        |ex t=>cases t<;>cases h5
        |_=>cases h5
       |_=>cases h5
      subst hn
      obtain⟨v,h',A',Z',Zp',g1,g2⟩:=uk9 (elem:=elem) i hc
      exact⟨some v,h',A',Z',Zp',by simp only[aop,e1,e3];rw[if_pos hm0,g1],g2⟩
     ·cases he
    ·cases he
   ·cases he
  ·cases he
 |cpy size x y=>
  simp only[vop]at he
  split at he
  ·rename_i ad az h1 h2
   split at he
   ·rename_i r' p nl e u cs lo n S h3 h4
    split at he
    ·rename_i hc
     split at he
     ·rename_i t h5
      cases he
      obtain⟨w1,e1,e2⟩:=cj0 hf h1
      obtain⟨w2,e3,e4⟩:=cj0 hf h2
      obtain⟨v,h',A',Z',Zp',g1,g2⟩:=wt9 i (cd4 i h3 e2) (cd4 i h4 e4) hc.1 hc.2.1 hc.2.2 h5
      exact⟨some v,h',A',Z',Zp',by simp only[aop,e1,e3,g1],g2⟩
     ·cases he
    ·cases he
   ·cases he
  ·cases he
 |call g args=>cases he
 |calld x args=>cases he
 |_=>
  simp only[vop]at he
  split at he
  ·rename_i v h1
   cases he
   exact look h1 rfl
  ·cases he
end
end Go.Vm
namespace Go.Vm
open Go.Am
section
variable {h:H} {A Ac:List AT} {Z Zp:Nat→Prop}
def uq0(A:List AT)(Z:Nat→Prop):Nat→Prop:=fun o=>Z o∨o∈fpL A
theorem sx6{r:Nat}{p:List Nat}{k:AT}(hk:aget A r p=some k){o:Nat}(ho:o∈k.fp):o∈fpL A:=ea9.2 (by have:=ea9.1 ho;have:=bm6 o hk;omega)
mutual
theorem ib8(i:Inv h A Z Zp){u:Nat}: ∀{a a':AV} {w:Value},np8 (A.map AT.era) u a=some a'→VR h A Z Zp a w→VR h Ac (uq0 A Z) Zp a' w
 | .x v,a',w,he,hr=>by
   rw[VR]at hr
   subst hr
   unfold np8 at he
   split at he
   ·rename_i e
    cases e
    split at he
    ·cases he
    ·cases he
     rw[VR,Rd]
     exact .inl ⟨rfl,by decide,by omega,rfl⟩
   ·rename_i e;cases e;cases he;rw[VR]
   all_goals (rename_i e;cases e)
 | .fz b t,a',w,he,hr=>by
   cases he
   rw[VR]at hr⊢
   cases b with
   |true=>exact hr
   |false=>exact Rd.mono (fun o ho=> .inl ho) (fun _ _=>rfl) hr
 | .fzc b cs j,a',w,he,hr=>by
   cases he
   rw[VR]at hr⊢
   obtain⟨o,off,r,h1,h2,h3,h4⟩:=hr
   cases b with
   |true=>exact⟨o,off,r,h1,h2,h3,h4⟩
   |false=>exact⟨o,off,r,h1, .inl h2,h3,RdL.mono (fun o ho=> .inl ho) (fun _ _=>rfl) h4⟩
 | .own r p,a',w,he,hr=>by
   rw[VR]at hr
   simp only[np8]at he
   split at he
   ·rename_i t h1
    cases he
    obtain⟨k,h2,h3⟩:=mc9 h1
    obtain⟨w',rfl⟩:=n52 h3
    have hk:=lw8 i h2
    rw[ok]at hk
    have hw:w'=w:=hr.2 _ h2 rfl
    subst hw
    rw[VR];exact hk
   ·rename_i s hne h1
    split at he
    ·rename_i hn
     cases he
     obtain⟨k,h2,rfl⟩:=mc9 h1
     have hw:k.val=w:=hr.2 _ h2 (l61 hn)
     subst hw
     rw[VR]
     exact ok.rd (fun o ho=> .inl (i.zp o ho)) (lw8 i h2) fun o ho=> .inr (sx6 h2 ho)
    ·cases he
   ·cases he
 | .sub r p w0 lo n,a',w,he,hr=>by
   have hsl: ∀{S},vsl (A.map AT.era) (.sub r p w0 lo n)=some S→SR h A Z Zp S w:=fun hs=>cd4 i hs hr
   simp only[np8]at he
   split at he
   ·rename_i nl e u' cs h1
    split at he
    ·rename_i hc
     cases he
     obtain⟨k,nl0,q1,q2,q3,q4,q5,q6⟩:=hsl (S:= .o r p (if nl=0 then 0 else 2) e u' cs lo n) (by simp only[vsl,h1];rw[if_pos hc])
     rw[VR,Rd]
     rcases q6 with⟨rfl,rfl,rfl,rfl,hn0,rfl⟩|⟨o,off,n1,c0,l,lo',c',rfl,rfl,q7,rfl,q8,q9',q9⟩
     ·refine .inl ⟨by simp[jj5], ?_,q5,rfl⟩
      rcases q2 with q2|q2
      ·rw[q2];exact hn0
      ·rw[q2,if_neg hn0];decide
     ·have hok:=lw8 i q1
      rw[i47]at q4
      obtain⟨row,r1,r2,r3,r4,r5,r6⟩:=jk2 hok q4 q9' q9
      have hseg:lo*u'+n*u'≤l.length:=by rw[←ur9];exact q4
      have hpl:=sx8 hseg
      have hl:(jj5 (((eraL l).drop (lo*u')).take (n*u'))).length=n*u':=by
       rw[gz0,q11,←xg5,i47,hpl]
      refine .inr ⟨o,off+lo'*u',n,c',row,rfl, .inr (sx6 q1 (by rw[AT.fp];simp)),r1,fun _=>r4,q5,hl.symm,q8,fun e1=>(by split at e1<;>cases e1), ?_⟩
      rw[hl,r6,←xg5]
      refine okL.rd (fun o ho=> .inl (i.zp o ho)) (ga5.2 fun c hc=>ga5.1 (by5 rfl hok) c (lq8 (tn5 hc))) fun x hx=> .inr (sx6 q1 ?_)
      rw[AT.fp]
      refine iz7 _ (ea9.2 ?_)
      have:=ea9.1 hx
      have:=gc1 l (lo*u') (n*u') x
      omega
    ·cases he
   ·cases he
 | .cell r p j,a',w,he,hr=>by
   simp only[np8]at he
   split at he
   ·rename_i hl
    split at he
    ·rename_i s h1
     split at he
     ·rename_i ts h2
      cases he
      obtain⟨k,h3,rfl⟩:=mc9 h1
      obtain⟨cs,h4,rfl⟩:=a47 h2
      have hok:=lw8 i h3
      rw[VR]
      have hz: ∀c∈cs,∀x∈c.fp,x∈k.fp:=fun c hc x hx=>by
       rcases vw2 h4 with⟨_,rfl⟩|⟨o,e1,_⟩
       ·cases hc
       ·rw[e1,zq7];exact iz7 _ (c90.2 ⟨c,hc,hx⟩)
      have hrd:RdL h (uq0 A Z) (jj5 (eraL cs)) (cs.map AT.val):=okL.rd (fun o ho=> .inl (i.zp o ho)) (by5 h4 hok) fun x hx=>by
       rw[zq7]at hx
       obtain⟨c,hc,hx⟩:=c90.1 hx
       exact .inr (sx6 h3 (hz c hc x hx))
      have hlen:(jj5 (eraL cs)).length=cs.length:=by rw[gz0,q11,i47]
      cases k with
      |sl o off n c nl e u l=>
       cases h4
       rw[ok]at hok
       obtain⟨row,k1,k2,k3,k4,k5,k6,k7,k8,k9,k10⟩:=hok
       exact⟨o,off,row,wd1 hr h3 rfl, .inr (sx6 h3 (by rw[AT.fp];simp)),k1,by rw[hlen,k9];exact hrd⟩
      |pt o e l=>
       cases h4
       rw[ok]at hok
       obtain⟨row,k1,k2,k3,k4⟩:=hok
       refine⟨o,0,row,wd1 hr h3 rfl, .inr (sx6 h3 (by rw[AT.fp];simp)),k1, ?_⟩
       rw[hlen,sv4,k3,sp3 (by simp)];exact hrd
      |mp o e l=>
       cases h4
       rw[ok]at hok
       obtain⟨row,k1,k2,k3,k4⟩:=hok
       refine⟨o,0,row,wd1 hr h3 rfl, .inr (sx6 h3 (by rw[AT.fp];simp)),k1, ?_⟩
       rw[hlen,sv4,k3,sp3 (by simp)];exact hrd
      |nil nl e u=>simp only[k12,h1]at hl;simp[AT.era]at hl
      |v=>cases h4
      |fn=>cases h4
      |fz=>cases h4
      |junk=>cases h4
     ·cases he
    ·cases he
   ·cases he
 | .agg l,a',w,he,hr=>by
   rw[VR]at hr
   obtain⟨ws,rfl,h1⟩:=hr
   rw[np8]at he
   split at he
   ·cases he
    rw[VR]
    exact⟨ws,rfl,qb3 i ‹_› h1⟩
   ·cases he
 | .tup l,a',w,he,hr=>by rw[np8]at he;cases he
 | .fn f l,a',w,he,hr=>by
   rw[VR]at hr
   obtain⟨ws,rfl,h1⟩:=hr
   rw[np8]at he
   split at he
   ·cases he
    rw[VR]
    exact⟨ws,rfl,qb3 i ‹_› h1⟩
   ·cases he
theorem qb3(i:Inv h A Z Zp){u:Nat}: ∀{l l':List AV} {ws:List Value},re2 (A.map AT.era) u l=some l'→VRL h A Z Zp l ws→VRL h Ac (uq0 A Z) Zp l' ws
 | [],l',ws,he,hr=>by cases he;rw[VRL]at hr⊢;exact hr
 |a::l,l',ws,he,hr=>by
  rw[re2]at he
  split at he
  ·cases he
   rw[VRL]at hr⊢
   obtain⟨w,ws',h1,h2,h3⟩:=hr
   exact⟨w,ws',h1,ib8 i ‹_› h2,qb3 i ‹_› h3⟩
  ·cases he
end
theorem Inv.part(i:Inv h (A++Ac) Z Zp):Inv h Ac (uq0 A Z) Zp:=by
 have hac: ∀x,(fpL A).count x+(fpL Ac).count x≤1:=fun x=>by have:=i.nd x;rwa [xv9,m34]at this
 refine⟨(ca4.1 i.okA).2,fun x=>by have:=hac x;omega,fun o ho=>i.lt o (by rw[xv9];simp[ho]),fun o ho hz=> ?_,fun o ho=> ?_,fun o ho=> .inl (i.zp o ho)⟩
 ·rcases hz with hz|hz
  ·exact i.nz o (by rw[xv9];simp[ho]) hz
  ·have:=hac o;have:=ea9.1 ho;have:=ea9.1 hz;omega
 ·rcases ho with ho|ho
  ·exact i.zlt o ho
  ·exact i.lt o (by rw[xv9];simp[ho])
theorem Inv.after(i:Inv h (A++Ac) Z Zp){h':H}{D:List AT}{Z' Zp':Nat→Prop}(i':Inv h' D Z' Zp')(e:Ext h Ac Zp h' D Zp'):Inv h' (A++D) (fun o=>Z o∨Zp' o) Zp'∧Ext h (A++Ac) Zp h' (A++D) Zp':=by
 have hac: ∀x,(fpL A).count x+(fpL Ac).count x≤1:=fun x=>by have:=i.nd x;rwa [xv9,m34]at this
 have hA: ∀o,o∈fpL A→o<h.length∧ ¬Z o∧o∉fpL Ac:=fun o ho=>⟨i.lt o (by rw[xv9];simp[ho]),i.nz o (by rw[xv9];simp[ho]),fun hc=>by have:=hac o;have:=ea9.1 ho;have:=ea9.1 hc;omega⟩
 have hrow: ∀o,o<h.length→o∉fpL Ac→h'.row o=h.row o:=fun o h1 h2=>by unfold H.row;rw[e.keep o h1 h2]
 have hzc: ∀o,Z o→o∉fpL Ac:=fun o hz hc=>i.nz o (by rw[xv9];simp[hc]) hz
 have hD: ∀o,o∈fpL D→o∉fpL A∧ ¬Z o:=fun o ho=>by
  rcases e.fp o ho with h1|h1
  ·exact⟨fun hm=>(hA o hm).2.2 h1,fun hz=>hzc o hz h1⟩
  ·exact⟨fun hm=>by have:=(hA o hm).1;omega,fun hz=>by have:=i.zlt o hz;omega⟩
 have:=e.len
 refine⟨⟨ca4.2 ⟨okL.keep e.zp (fun o ho=>hrow o (i.zlt o (i.zp o ho)) (hzc o (i.zp o ho))) (ca4.1 i.okA).1 fun o ho=>hrow o (hA o ho).1 (hA o ho).2.2,i'.okA⟩,fun x=> ?_,fun o ho=> ?_,fun o ho=> ?_,fun o ho=> ?_,fun o ho=> .inr ho⟩,e.len,fun o h1 h2=>e.keep o h1 fun hc=>h2 (by rw[xv9];simp[hc]),fun o ho=> ?_,e.zp,fun o ho=> ?_⟩
 ·rw[xv9,m34]
  by_cases hm:x∈fpL D
  ·rw[xe3.2 (hD x hm).1];have:=i'.nd x;omega
  ·rw[xe3.2 hm];have:=hac x;omega
 ·rw[xv9]at ho
  rcases bk2.1 ho with ho|ho
  ·have:=(hA o ho).1;omega
  ·exact i'.lt o ho
 ·rw[xv9]at ho
  rcases bk2.1 ho with ho|ho
  ·rintro(hz|hz)
   ·exact(hA o ho).2.1 hz
   ·rcases e.zn o hz with h1|h1|h1
    ·exact(hA o ho).2.1 (i.zp o h1)
    ·exact(hA o ho).2.2 h1
    ·have:=(hA o ho).1;omega
  ·rintro(hz|hz)
   ·exact(hD o ho).2 hz
   ·exact i'.nz o ho (i'.zp o hz)
 ·rcases ho with ho|ho
  ·have:=i.zlt o ho;omega
  ·exact i'.zlt o (i'.zp o ho)
 ·rw[xv9]at ho
  rw[xv9]
  rcases bk2.1 ho with ho|ho
  ·exact .inl (by simp[ho])
  ·rcases e.fp o ho with h1|h1
   ·exact .inl (by simp[h1])
   ·exact .inr h1
 ·rw[xv9]
  rcases e.zn o ho with h1|h1|h1
  ·exact .inl h1
  ·exact .inr (.inl (by simp[h1]))
  ·exact .inr (.inr h1)
end
end Go.Vm
namespace Go.Vm
open Go.Am
section
variable {h:H}
theorem ga8{A Ac:List AT}{Z Zp:Nat→Prop}(i:Inv h (A++Ac) Z Zp){r:Nat}{p:List Nat}{k:AT}(h2:aget A r p=some k)(hn:isNode k.era=true):
 ∃Z1 Zp1,Inv h (aset A r p (.fz k.val (strip k.era))++Ac) Z1 Zp1∧Ext h (A++Ac) Zp h (aset A r p (.fz k.val (strip k.era))++Ac) Zp1∧Stab A (aset A r p (.fz k.val (strip k.era))) []∧(∀o,Z o→Z1 o)∧Rd h Zp1 (strip k.era) k.val:=by
 have hlt:=vs7 h2
 have hkv:=l61 hn
 have hok:ok h Zp k:=lw8 i.left h2
 have hkm: ∀o,o∈k.fp→o<h.length:=fun o ho=>i.left.lt o (sx6 h2 ho)
 have hac: ∀x,(fpL A).count x+(fpL Ac).count x≤1:=fun x=>by have:=i.nd x;rwa [xv9,m34]at this
 have hd: ∀x,x∈k.fp→x∉fpL Ac:=fun x hx hc=>by have:=hac x;have:=ea9.1 hc;have:=ea9.1 (sx6 h2 hx);omega
 obtain⟨i1,e1⟩:=Inv.upd (h':=h) (A:=A) (C:=Ac) (N:=Ac) (s:= .fz k.val (strip k.era)) (Zx:=fun o=>o∈k.fp) i h2 (jj6 _) (fun _ _ _=>rfl) rfl
  (by rw[ok];exact ok.rd (fun o ho=> .inl ho) hok fun o ho=> .inr ho) (okL.keep (fun o ho=> .inl ho) (fun _ _=>rfl) (ca4.1 i.okA).2 fun _ _=>rfl) (fun x _=>by rw[zq0];simp) (fun x _=>by rw[zq0];have:=hac x;simp;omega) (fun o ho=>by rw[zq0]at ho;simp at ho;exact i.lt o (by rw[xv9];simp[ho]))
  (fun o ho=>⟨.inl ho,hkm o ho,by rw[zq0];simp,hd o ho⟩)
 exact⟨_,_,i1,e1,Stab.upd (s:= .fz k.val (strip k.era)) h2 rfl hkv rfl (.inl (Sub.leaf rfl rfl hkv)),fun o ho=> .inl ho,ok.rd (fun o ho=> .inl ho) hok fun o ho=> .inr ho⟩
theorem x30{u:Nat}{B:List AT}{Y Zp:Nat→Prop}{v:Value}:VR h B Y Zp (vpx u v) v:=by
 unfold vpx
 split
 ·split
  ·rw[VR]
  ·rw[VR,Rd];exact .inl ⟨rfl,by decide,by omega,rfl⟩
 ·rw[VR]
mutual
theorem hm9{u:Nat}: ∀{a a':AV} {A Ac B:List AT} {Z Zp:Nat→Prop} {w:Value} {R1:Rts} (i:Inv h (A++Ac) Z Zp),h05 u (A.map AT.era) a=some (a',R1)→VR h A Z Zp a w→
 ∃A1 Z1 Zp1,R1=A1.map AT.era∧Inv h (A1++Ac) Z1 Zp1∧Ext h (A++Ac) Zp h (A1++Ac) Zp1∧Stab A A1 []∧(∀o,Z o→Z1 o)∧ ∀Y,VR h B Y Zp1 a' w
 | .x v,a',A,Ac,B,Z,Zp,w,R1,i,he,hr=>by
   rw[h05]at he
   cases he
   rw[VR]at hr
   subst hr
   exact⟨A,Z,Zp,rfl,i,Ext.refl _ _ _,Stab.refl _ _,fun _ h=>h,fun Y=>x30⟩
 | .fz b t,a',A,Ac,B,Z,Zp,w,R1,i,he,hr=>by
   cases b with
   |false=>cases he
   |true=>
    cases he
    rw[VR]at hr
    exact⟨A,Z,Zp,rfl,i,Ext.refl _ _ _,Stab.refl _ _,fun _ h=>h,fun Y=>by rw[VR];exact hr⟩
 | .fzc b cs j,a',A,Ac,B,Z,Zp,w,R1,i,he,hr=>by
   cases b with
   |false=>cases he
   |true=>
    cases he
    rw[VR]at hr
    exact⟨A,Z,Zp,rfl,i,Ext.refl _ _ _,Stab.refl _ _,fun _ h=>h,fun Y=>by rw[VR];exact hr⟩
 | .own r p,a',A,Ac,B,Z,Zp,w,R1,i,he,hr=>by
   rw[VR]at hr
   simp only[h05]at he
   split at he
   ·rename_i t h1
    cases he
    obtain⟨k,h2,h3⟩:=mc9 h1
    obtain⟨w',rfl⟩:=n52 h3
    have hk:=lw8 i.left h2
    rw[ok]at hk
    have hw:w'=w:=hr.2 _ h2 rfl
    subst hw
    exact⟨A,Z,Zp,rfl,i,Ext.refl _ _ _,Stab.refl _ _,fun _ h=>h,fun Y=>by rw[VR];exact hk⟩
   ·rename_i s hne h1
    split at he
    ·rename_i hn
     cases he
     obtain⟨k,h2,rfl⟩:=mc9 h1
     have hw:k.val=w:=hr.2 _ h2 (l61 hn)
     subst hw
     obtain⟨Z1,Zp1,i1,e1,s1,z1,hrd⟩:=ga8 i h2 hn
     exact⟨_,Z1,Zp1,ao8 A r p (.fz k.val (strip k.era)),i1,e1,s1,z1,fun Y=>by rw[VR];exact hrd⟩
    ·cases he
   ·cases he
 | .agg l,a',A,Ac,B,Z,Zp,w,R1,i,he,hr=>by
   rw[VR]at hr
   obtain⟨ws,rfl,h1⟩:=hr
   rw[h05]at he
   split at he
   ·cases he
    obtain⟨A1,Z1,Zp1,g1,g2,g3,g4,g5,g6⟩:=yt9 (B:=B) i ‹_› h1
    exact⟨A1,Z1,Zp1,g1,g2,g3,g4,g5,fun Y=>by rw[VR];exact⟨ws,rfl,g6 Y⟩⟩
   ·cases he
 | .sub ..,_,_,_,_,_,_,_,_,_,he,_=>by cases he
 | .cell ..,_,_,_,_,_,_,_,_,_,he,_=>by cases he
 | .tup _,_,_,_,_,_,_,_,_,_,he,_=>by cases he
 | .fn ..,_,_,_,_,_,_,_,_,_,he,_=>by cases he
theorem yt9{u:Nat}: ∀{l l':List AV} {A Ac B:List AT} {Z Zp:Nat→Prop} {ws:List Value} {R1:Rts} (i:Inv h (A++Ac) Z Zp),og4 u (A.map AT.era) l=some (l',R1)→VRL h A Z Zp l ws→
 ∃A1 Z1 Zp1,R1=A1.map AT.era∧Inv h (A1++Ac) Z1 Zp1∧Ext h (A++Ac) Zp h (A1++Ac) Zp1∧Stab A A1 []∧(∀o,Z o→Z1 o)∧ ∀Y,VRL h B Y Zp1 l' ws
 | [],l',A,Ac,B,Z,Zp,ws,R1,i,he,hr=>by
   cases he
   rw[VRL]at hr;subst hr
   exact⟨A,Z,Zp,rfl,i,Ext.refl _ _ _,Stab.refl _ _,fun _ h=>h,fun Y=> .nil⟩
 |a::l,l',A,Ac,B,Z,Zp,ws,R1,i,he,hr=>by
  rw[og4]at he
  split at he
  ·rename_i a' R2 h1
   split at he
   ·rename_i l'' R3 h2
    cases he
    rw[VRL]at hr
    obtain⟨w,ws',rfl,h3,h4⟩:=hr
    obtain⟨A1,Z1,Zp1,rfl,i1,e1,s1,z1,g1⟩:=hm9 (B:=B) i h1 h3
    have h4':VRL h A1 Z1 Zp1 l ws':=VRL.move z1 e1.zp (fun _ _=>rfl) (fun _ _=>rfl) s1 h4 (by simp)
    obtain⟨A2,Z2,Zp2,rfl,i2,e2,s2,z2,g2⟩:=yt9 (B:=B) i1 h2 h4'
    exact⟨A2,Z2,Zp2,rfl,i2,e1.trans e2,s1.trans s2,fun o ho=>z2 o (z1 o ho),fun Y=> .cons (VR.move (fun _ h=>h) e2.zp (fun _ _=>rfl) (fun _ _=>rfl) (Stab.refl B []) (g1 Y) rfl) (g2 Y)⟩
   ·cases he
  ·cases he
end
def Bok(A Ac:List AT)(B:List (Nat×List Nat)):Prop:=
 B.length=Ac.length∧B.Nodup∧(∀(n:Nat) (b:Nat×List Nat) (k:AT),B[n]? =some b→Ac[n]? =some k→aget A b.1 b.2=some (.junk k.val))∧ ∀k∈Ac,k.isV=false
theorem n40{s:AT}: ∀{p q:List Nat} {a k:AT} {w:Value},a.get p=some k→k.kids=none→a.get q=some (.junk w)→p≠q→(a.upd p s).get q=some (.junk w)
 | [],q,a,k,w,h1,h2,h3,hne=>by
   cases h1
   cases q with
   |nil=>exact absurd rfl hne
   |cons j q=>simp only[AT.get,h2]at h3;cases h3
 |i::p,q,a,k,w,h1,h2,h3,hne=>by
  simp only[AT.get,AT.upd]at h1⊢
  cases hc:a.kids with
  |none=>rw[hc]at h1;cases h1
  |some cs=>
   rw[hc]at h1
   simp only[]at h1⊢
   cases hi:cs[i]? with
   |none=>rw[hi]at h1;cases h1
   |some c=>
    rw[hi]at h1
    simp only[]at h1⊢
    cases q with
    |nil=>cases h3;cases hc
    |cons j q=>
     have hlt:=(ck5.1 hi).1
     simp only[AT.get,hc]at h3
     simp only[AT.get,a71 hc (kb7)]
     by_cases hij:i=j
     ·subst hij
      rw[hi]at h3
      rw[j13 hlt]
      exact n40 h1 h2 h3 fun e=>hne (by rw[e])
     ·rw[b17 hij]
      exact h3
theorem wf8{A:List AT}{s k:AT}{r r':Nat}{p q:List Nat}{w:Value}(h1:aget A r p=some k)(h2:k.kids=none)(h3:aget A r' q=some (.junk w))(hne:(r,p)≠(r',q)):aget (aset A r p s) r' q=some (.junk w):=by
 have hr:=vs7 h1
 unfold aget at h1 h3
 have hA:A[r]? =some A[r]:=wu3 hr
 unfold aset aget
 rw[hA]at h1⊢
 simp only[]at h1⊢
 by_cases he:r=r'
 ·subst he
  rw[j13 hr]
  rw[hA]at h3
  exact n40 h1 h2 h3 fun e=>hne (by rw[e])
 ·rw[b17 he];exact h3
theorem qs0{s:AT}: ∀{p q:List Nat} {a k:AT} {w:Value},a.get p=some k→s.kids=none→a.get q=some (.junk w)→p≠q→(∀t,q≠p++t)→(a.upd p s).get q=some (.junk w)
 | [],q,a,k,w,h1,h2,h3,hne,hx=>absurd (m51 q).symm (hx q)
 |i::p,q,a,k,w,h1,h2,h3,hne,hx=>by
  simp only[AT.get,AT.upd]at h1⊢
  cases hc:a.kids with
  |none=>rw[hc]at h1;cases h1
  |some cs=>
   rw[hc]at h1
   simp only[]at h1⊢
   cases hi:cs[i]? with
   |none=>rw[hi]at h1;cases h1
   |some c=>
    rw[hi]at h1
    simp only[]at h1⊢
    cases q with
    |nil=>cases h3;cases hc
    |cons j q=>
     have hlt:=(ck5.1 hi).1
     simp only[AT.get,hc]at h3
     simp only[AT.get,a71 hc (kb7)]
     by_cases hij:i=j
     ·subst hij
      rw[hi]at h3
      rw[j13 hlt]
      exact qs0 h1 h2 h3 (fun e=>hne (by rw[e])) fun t e=>hx t (by rw[e];rfl)
     ·rw[b17 hij]
      exact h3
end
end Go.Vm
namespace Go.Vm
open Go.Am
section
variable {h:H}
theorem Stab.grow(A N:List AT)(ks:List Nat):Stab A (A++N) ks:=(Stab.refl A ks).app N
theorem db0{A Ac:List AT}{B:List (Nat×List Nat)}{Z Zp:Nat→Prop}(i:Inv h (A++Ac) Z Zp)(hB:Bok A Ac B){e u:Nat}{a a':AV}{w:Value}{s1:Lent}(he:cb9 ⟨A.map AT.era,Ac.map AT.era,B⟩ e u a=some (a',s1))(hr:VR h A Z Zp a w):
 ∃A1 N Z1 Zp1,s1.R=A1.map AT.era∧s1.C=(Ac++N).map AT.era∧Inv h (A1++(Ac++N)) Z1 Zp1∧Ext h (A++Ac) Zp h (A1++(Ac++N)) Zp1∧Stab A A1 []∧(∀o,Z o→Z1 o)∧Bok A1 (Ac++N) s1.B∧ ∀Y,VR h (Ac++N) Y Zp1 a' w:=by
 obtain⟨b1,b2,b3,b4⟩:=hB
 cases a with
 |own r p=>
  rw[VR]at hr
  simp only[cb9]at he
  split at he
  ·rename_i t h1
   split at he
   ·rename_i hc
    simp only[b83]at hc
    obtain⟨hn,hpre⟩:=hc
    cases he
    obtain⟨k,h2,rfl⟩:=mc9 h1
    have hkv:=l61 hn
    have hw:k.val=w:=hr.2 _ h2 hkv
    subst hw
    have hac: ∀x,(fpL A).count x+(fpL Ac).count x≤1:=fun x=>by have:=i.nd x;rwa [xv9,m34]at this
    have hkA: ∀x,k.fp.count x≤(fpL A).count x:=fun x=>bm6 x h2
    have hlt: ∀o,o∈fpL (A++Ac)→o<h.length:=i.lt
    have hpp: ∀t,p.isPrefixOf (p++t)=true:=fun t=>List.isPrefixOf_iff_prefix.2 (w63 p t)
    obtain⟨i1,e1⟩:=Inv.upd (h':=h) (A:=A) (C:=Ac) (N:=Ac++[k]) (s:= .junk k.val) (Zx:=fun _=>False) i h2 (jj6 _) (fun _ _ _=>rfl) rfl (by rw[ok];exact gi1 hn)
     (ca4.2 ⟨okL.keep (fun o ho=> .inl ho) (fun _ _=>rfl) (ca4.1 i.okA).2 fun _ _=>rfl,vd4.2 (ok.keep (fun o ho=> .inl ho) (fun _ _=>rfl) (lw8 i.left h2) fun _ _=>rfl)⟩)
     (fun x _=>by rw[op8,xv9,zr4,m34];simp;omega) (fun x _=>by rw[op8,xv9,zr4,m34];have:=hac x;have:=hkA x;simp;omega)
     (fun o ho=>by
       rw[op8,xv9,zr4]at ho
       simp at ho
       rcases ho with ho|ho
       ·exact hlt o (by rw[xv9];simp[ho])
       ·exact hlt o (by rw[xv9];simp[sx6 h2 ho])) (fun o ho=>ho.elim)
    refine⟨aset A r p (.junk k.val),[k],_,_,ao8 A r p (.junk k.val),by simp,i1,e1,Stab.upd (s:= .junk k.val) h2 rfl hkv rfl (.inl (Sub.leaf rfl rfl hkv)),fun o ho=> .inl ho,⟨by simp[b1], ?_,fun n b k' hb hk=> ?_,fun k' hk'=> ?_⟩,fun Y=> ?_⟩
    ·show(B++[(r,p)]).Nodup
     rw[m71]
     refine⟨b2,by simp,fun x hx y hy=> ?_⟩
     simp at hy;subst hy
     rintro rfl
     have h5:=p92.1 hpre _ hx
     have h6:=hpp []
     rw[nw0]at h6
     simp[h6]at h5
    ·have hb:(B++[(r,p)])[n]? =some b:=hb
     by_cases hnB:n<B.length
     ·rw[bu4 hnB]at hb
      rw[bu4 (by omega)]at hk
      have h5:=b3 n b k' hb hk
      have hne: ¬(b.1=r∧ ∃t,b.2=p++t):=fun hx=>by
       have h5:=p92.1 hpre _ (vf6 hb)
       obtain⟨e1,t,e2⟩:=hx
       rw[e1,e2]at h5
       simp[hpp t]at h5
      unfold aget at h2 h5⊢
      unfold aset
      by_cases her:r=b.1
      ·subst her
       cases hA:A[b.1]? with
       |none=>rw[hA]at h2;cases h2
       |some a0=>
        rw[hA]at h2 h5
        simp only[]at h2 h5⊢
        rw[j13 (ck5.1 hA).1]
        exact qs0 h2 rfl h5 (fun e=>hne ⟨rfl,[],by rw[e];simp⟩) fun t e=>hne ⟨rfl,t,e⟩
      ·cases hA:A[r]? with
       |none=>rw[hA]at h2;cases h2
       |some a0=>
        simp only[]
        rw[b17 her]
        exact h5
     ·have hnl:n<(B++[(r,p)]).length:=(ck5.1 hb).1
      have:n=B.length:=by rw[j82,mj8]at hnl;omega
      subst this
      rw[lp1 (jj6 _),ob6]at hb
      rw[lp1 (by omega),b1,ob6]at hk
      cases hb;cases hk
      unfold aget at h2⊢
      unfold aset
      cases hA:A[r]? with
      |none=>rw[hA]at h2;cases h2
      |some a0=>
       rw[hA]at h2
       simp only[]at h2⊢
       rw[j13 (ck5.1 hA).1]
       have key: ∀{q:List Nat} {c k0 s:AT},c.get q=some k0→(c.upd q s).get q=some s:=by
        intro q
        induction q with
        |nil=>intro c k0 s _;rfl
        |cons j q ih=>
         intro c k0 s hq
         simp only[AT.get,AT.upd]at hq⊢
         cases hc:c.kids with
         |none=>rw[hc]at hq;cases hq
         |some cs=>
          rw[hc]at hq
          simp only[]at hq⊢
          cases hj:cs[j]? with
          |none=>rw[hj]at hq;cases hq
          |some d=>
           rw[hj]at hq
           simp only[]at hq⊢
           rw[a71 hc kb7]
           simp only[]
           rw[j13 (ck5.1 hj).1]
           exact ih hq
       exact key h2
    ·rcases bk2.1 hk' with hk'|hk'
     ·exact b4 k' hk'
     ·rw[q05.1 hk'];exact hkv
    ·rw[q11,VR]
     refine⟨by simp,fun b hb _=> ?_⟩
     unfold aget at hb
     rw[lp1 (jj6 _),ob6]at hb
     cases hb;rfl
   ·cases he
  ·cases he
 |x v=>
  simp only[cb9]at he
  split at he
  ·rename_i e1;cases e1
  ·rename_i e1
   cases e1
   split at he
   ·cases he
   ·rename_i hu
    cases he
    rw[VR]at hr
    subst hr
    have hfp:fpL ([AT.junk (.slice none 0 0)]++(Ac++[.nil 1 e u]))=fpL Ac:=by rw[xv9,xv9,zr4,zr4,op8,uu7];simp
    obtain⟨i1,e1⟩:=Inv.new (h':=h) (A:=A) (C:=Ac) (N:=[AT.junk (.slice none 0 0)]++(Ac++[.nil 1 e u])) (Zx:=fun _=>False) i (jj6 _) (fun _ _=>rfl)
     (ca4.2 ⟨vd4.2 (by rw[ok];trivial),ca4.2 ⟨okL.keep (fun o ho=> .inl ho) (fun _ _=>rfl) (ca4.1 i.okA).2 fun _ _=>rfl,vd4.2 (by rw[ok];exact⟨by decide,by omega⟩)⟩⟩)
     (fun x _=>by rw[hfp];exact jj6 _) (fun x _=>by rw[hfp];have:=i.nd x;rw[xv9,m34]at this;omega) (fun o ho=>by rw[hfp]at ho;exact i.lt o (by rw[xv9];simp[ho])) (fun o ho=>ho.elim)
    rw[←eh9 A]at i1 e1
    refine⟨A++[.junk (.slice none 0 0)],[.nil 1 e u],_,_,by simp[AT.era],by simp[AT.era],i1,e1,Stab.grow _ _ _,fun o ho=> .inl ho,⟨by simp[b1], ?_,fun n b k' hb hk=> ?_,fun k' hk'=> ?_⟩,fun Y=> ?_⟩
    ·show(B++[((A.map AT.era).length,[])]).Nodup
     rw[m71]
     refine⟨b2,by simp,fun x hx y hy=> ?_⟩
     simp at hy;subst hy
     rintro rfl
     obtain⟨n,hn⟩:=es9 hx
     have hl:=(ck5.1 hn).1
     have:=vs7 (b3 n _ _ hn (wu3 (by omega)))
     simp at this
    ·have hb:(B++[((A.map AT.era).length,[])])[n]? =some b:=hb
     by_cases hnB:n<B.length
     ·rw[bu4 hnB]at hb
      rw[bu4 (by omega)]at hk
      have h5:=b3 n b k' hb hk
      rw[gr7 _ (vs7 h5)];exact h5
     ·have hnl:n<(B++[((A.map AT.era).length,([]:List Nat))]).length:=(ck5.1 hb).1
      have:n=B.length:=by rw[j82,mj8]at hnl;omega
      subst this
      rw[lp1 (jj6 _),ob6]at hb
      rw[lp1 (by omega),b1,ob6]at hk
      cases hb;cases hk
      unfold aget
      rw[q11,lp1 (jj6 _),ob6]
      rfl
    ·rcases bk2.1 hk' with hk'|hk'
     ·exact b4 k' hk'
     ·rw[q05.1 hk'];rfl
    ·rw[q11,VR]
     refine⟨by simp,fun b hb _=> ?_⟩
     unfold aget at hb
     rw[lp1 (jj6 _),ob6]at hb
     cases hb;rfl
  ·cases he
 |_=>cases he
theorem dk5{A Ac:List AT}{B:List (Nat×List Nat)}{Z Zp:Nat→Prop}(i:Inv h (A++Ac) Z Zp)(hB:Bok A Ac B){u:Nat}{a a':AV}{w:Value}{R1:Rts}(he:dl9 u ⟨A.map AT.era,Ac.map AT.era,B⟩ a=some (a',R1))(hr:VR h A Z Zp a w):
 ∃A1 Z1 Zp1,R1=A1.map AT.era∧Inv h (A1++Ac) Z1 Zp1∧Ext h (A++Ac) Zp h (A1++Ac) Zp1∧Stab A A1 []∧(∀o,Z o→Z1 o)∧Bok A1 Ac B∧ ∀Y C,VR h C Y Zp1 a' w:=by
 cases a with
 |own r p=>
  simp only[dl9]at he
  split at he
  ·rename_i hpre
   rw[VR]at hr
   simp only[h05]at he
   split at he
   ·rename_i t h1
    cases he
    obtain⟨k,h2,h3⟩:=mc9 h1
    obtain⟨w',rfl⟩:=n52 h3
    have hk:=lw8 i.left h2
    rw[ok]at hk
    have hw:w'=w:=hr.2 _ h2 rfl
    subst hw
    exact⟨A,Z,Zp,rfl,i,Ext.refl _ _ _,Stab.refl _ _,fun _ h=>h,hB,fun Y C=>by rw[VR];exact hk⟩
   ·rename_i s hne h1
    split at he
    ·rename_i hn
     cases he
     obtain⟨k,h2,rfl⟩:=mc9 h1
     have hw:k.val=w:=hr.2 _ h2 (l61 hn)
     subst hw
     obtain⟨Z1,Zp1,i1,e1,s1,z1,hrd⟩:=ga8 i h2 hn
     obtain⟨b1,b2,b3,b4⟩:=hB
     refine⟨_,Z1,Zp1,ao8 A r p (.fz k.val (strip k.era)),i1,e1,s1,z1,⟨b1,b2,fun n b k' hb hk=> ?_,b4⟩,fun Y C=>by rw[VR];exact hrd⟩
     have hpp: ∀t,p.isPrefixOf (p++t)=true:=fun t=>List.isPrefixOf_iff_prefix.2 (w63 p t)
     have h5:=b3 n b k' hb hk
     have hne: ¬(b.1=r∧ ∃t,b.2=p++t):=fun hx=>by
      have h5:=p92.1 hpre _ (vf6 hb)
      obtain⟨e1,t,e2⟩:=hx
      rw[e1,e2]at h5
      simp[hpp t]at h5
     unfold aget at h2 h5⊢
     unfold aset
     by_cases her:r=b.1
     ·subst her
      cases hA:A[b.1]? with
      |none=>rw[hA]at h2;cases h2
      |some a0=>
       rw[hA]at h2 h5
       simp only[]at h2 h5⊢
       rw[j13 (ck5.1 hA).1]
       exact qs0 h2 rfl h5 (fun e=>hne ⟨rfl,[],by rw[e];simp⟩) fun t e=>hne ⟨rfl,t,e⟩
     ·cases hA:A[r]? with
      |none=>rw[hA]at h2;cases h2
      |some a0=>
       simp only[]
       rw[b17 her]
       exact h5
    ·cases he
   ·cases he
  ·cases he
 |fz b t=>
  cases b with
  |false=>cases he
  |true=>
   cases he
   rw[VR]at hr
   exact⟨A,Z,Zp,rfl,i,Ext.refl _ _ _,Stab.refl _ _,fun _ h=>h,hB,fun Y C=>by rw[VR];exact hr⟩
 |_=>cases he
theorem gb3: ∀{ms:List Mode} {l:List AV} {A Ac:List AT} {B:List (Nat×List Nat)} {Z Zp:Nat→Prop} {ws:List Value} {bs:List (Option AV)} {s1:Lent} (i:Inv h (A++Ac) Z Zp) (hB:Bok A Ac B) (he:me2 ms ⟨A.map AT.era,Ac.map AT.era,B⟩ l=some (bs,s1)) (hr:VRL h A Z Zp l ws),
 ∃A1 N Z1 Zp1,s1.R=A1.map AT.era∧s1.C=(Ac++N).map AT.era∧Inv h (A1++(Ac++N)) Z1 Zp1∧Ext h (A++Ac) Zp h (A1++(Ac++N)) Zp1∧Stab A A1 []∧(∀o,Z o→Z1 o)∧Bok A1 (Ac++N) s1.B∧VRL h A1 Z1 Zp1 l ws∧ ∀(j:Nat) (a:AV) (w:Value),bs[j]? =some (some a)→ws[j]? =some w→ ∀Y,VR h (Ac++N) Y Zp1 a w
 | [],l,A,Ac,B,Z,Zp,ws,bs,s1,i,hB,he,hr=>by
   simp only[me2]at he
   cases he
   refine⟨A,[],Z,Zp,rfl,by simp,by rw[nw0];exact i,by rw[nw0];exact Ext.refl _ _ _,Stab.refl _ _,fun _ h=>h,by rw[nw0];exact hB,hr,fun j a w hj=> ?_⟩
   rw[us5]at hj
   cases hl:l[j]? with
   |none=>rw[hl]at hj;cases hj
   |some x=>rw[hl]at hj;cases hj
 |m::ms,[],A,Ac,B,Z,Zp,ws,bs,s1,i,hB,he,hr=>by
  simp only[me2]at he
  cases he
  exact⟨A,[],Z,Zp,rfl,by simp,by rw[nw0];exact i,by rw[nw0];exact Ext.refl _ _ _,Stab.refl _ _,fun _ h=>h,by rw[nw0];exact hB,hr,fun j a w hj=>by simp at hj⟩
 |m::ms,a::l,A,Ac,B,Z,Zp,ws,bs,s1,i,hB,he,hr=>by
  rw[VRL]at hr
  obtain⟨w,ws',rfl,hr1,hr2⟩:=hr
  simp only[me2]at he
  cases m with
  |bor u=>
   simp only[]at he
   split at he
   ·rename_i l' s' h1
    cases he
    obtain⟨A1,N,Z1,Zp1,g1,g2,g3,g4,g5,g6,g7,g8,g9⟩:=gb3 i hB h1 hr2
    refine⟨A1,N,Z1,Zp1,g1,g2,g3,g4,g5,g6,g7, .cons (VR.move g6 g4.zp (fun _ _=>rfl) (fun _ _=>rfl) g5 hr1 rfl) g8,fun j a w hj hw=> ?_⟩
    cases j with
    |zero=>cases hj
    |succ j=>exact g9 j a w (by simpa using hj) (by simpa using hw)
   ·cases he
  |own e u=>
   simp only[]at he
   split at he
   ·rename_i a' s' h1
    split at he
    ·rename_i l' s'' h2
     cases he
     obtain⟨A1,N,Z1,Zp1,g1,g2,g3,g4,g5,g6,g7,g8⟩:=db0 i hB h1 hr1
     obtain⟨R',C',B'⟩:=s'
     simp only at g1 g2 g7
     subst g1;subst g2
     obtain⟨A2,N2,Z2,Zp2,k1,k2,k3,k4,k5,k6,k7,k8,k9⟩:=gb3 g3 g7 h2 (VRL.move g6 g4.zp (fun _ _=>rfl) (fun _ _=>rfl) g5 hr2 (by simp))
     rw[eh9]at k2 k3 k4 k7 k9
     refine⟨A2,N++N2,Z2,Zp2,k1,k2,k3,g4.trans k4,g5.trans k5,fun o ho=>k6 o (g6 o ho),k7, .cons (VR.move (fun o ho=>k6 o (g6 o ho)) (fun o ho=>k4.zp o (g4.zp o ho)) (fun _ _=>rfl) (fun _ _=>rfl) (g5.trans k5) hr1 rfl) k8,fun j a w hj hw Y=> ?_⟩
     cases j with
     |zero=>
      cases hj;cases hw
      rw[←eh9]
      exact VR.move (fun _ h=>h) k4.zp (fun _ _=>rfl) (fun _ _=>rfl) (Stab.grow (Ac++N) N2 []) (g8 Y) rfl
     |succ j=>exact k9 j a w (by simpa using hj) (by simpa using hw) Y
    ·cases he
   ·cases he
  |perm u=>
   simp only[]at he
   split at he
   ·rename_i a' R' h1
    split at h1
    ·rename_i hBe
     split at he
     ·rename_i l' s'' h2
      cases he
      obtain rfl:B=[]:=List.isEmpty_iff.1 hBe
      obtain rfl:Ac=[]:=js1 hB.1.symm
      obtain⟨A1,Z1,Zp1,rfl,g3,g4,g5,g6,g8⟩:=hm9 (B:=[]) i h1 hr1
      obtain⟨A2,N2,Z2,Zp2,k1,k2,k3,k4,k5,k6,k7,k8,k9⟩:=gb3 (Ac:=[]) (B:=[]) g3 ⟨rfl,by simp,fun n b k hb=>by simp at hb,fun k hk=>by cases hk⟩ h2 (VRL.move g6 g4.zp (fun _ _=>rfl) (fun _ _=>rfl) g5 hr2 (by simp))
      refine⟨A2,N2,Z2,Zp2,k1,k2,k3,g4.trans k4,g5.trans k5,fun o ho=>k6 o (g6 o ho),k7, .cons (VR.move (fun o ho=>k6 o (g6 o ho)) (fun o ho=>k4.zp o (g4.zp o ho)) (fun _ _=>rfl) (fun _ _=>rfl) (g5.trans k5) hr1 rfl) k8,fun j a w hj hw Y=> ?_⟩
      cases j with
      |zero=>
       cases hj;cases hw
       exact VR.move (fun _ h=>h) k4.zp (fun _ _=>rfl) (fun _ _=>rfl) (Stab.grow [] N2 []) (g8 Y) rfl
      |succ j=>exact k9 j a w (by simpa using hj) (by simpa using hw) Y
     ·cases he
    ·split at he
     ·rename_i l' s'' h2
      cases he
      obtain⟨A1,Z1,Zp1,rfl,g3,g4,g5,g6,g7,g8⟩:=dk5 i hB h1 hr1
      obtain⟨A2,N2,Z2,Zp2,k1,k2,k3,k4,k5,k6,k7,k8,k9⟩:=gb3 g3 g7 h2 (VRL.move g6 g4.zp (fun _ _=>rfl) (fun _ _=>rfl) g5 hr2 (by simp))
      refine⟨A2,N2,Z2,Zp2,k1,k2,k3,g4.trans k4,g5.trans k5,fun o ho=>k6 o (g6 o ho),k7, .cons (VR.move (fun o ho=>k6 o (g6 o ho)) (fun o ho=>k4.zp o (g4.zp o ho)) (fun _ _=>rfl) (fun _ _=>rfl) (g5.trans k5) hr1 rfl) k8,fun j a w hj hw Y=> ?_⟩
      cases j with
      |zero=>
       cases hj;cases hw
       exact VR.move (fun _ h=>h) k4.zp (fun _ _=>rfl) (fun _ _=>rfl) (Stab.grow Ac N2 []) (g8 Y Ac) rfl
      |succ j=>exact k9 j a w (by simpa using hj) (by simpa using hw) Y
     ·cases he
   ·cases he
theorem tz3{A Ac:List AT}{Z Zp:Nat→Prop}(i:Inv h A Z Zp): ∀{ms:List Mode} {l l':List AV} {bs:List (Option AV)} {ws:List Value} (he:ub3 (A.map AT.era) ms l bs=some l') (hr:VRL h A Z Zp l ws) (hb: ∀(j:Nat) (a:AV) (w:Value),bs[j]? =some (some a)→ws[j]? =some w→ ∀Y,VR h Ac Y Zp a w),VRL h Ac (uq0 A Z) Zp l' ws
 |ms,[],l',bs,ws,he,hr,hb=>by
  cases bs<;>(simp only[ub3]at he;cases he;rw[VRL]at hr⊢;exact hr)
 |ms,a::l,l',[],ws,he,hr,hb=>by simp only[ub3]at he;cases he
 |ms,a::l,l',some b::bs,ws,he,hr,hb=>by
  simp only[ub3]at he
  split at he
  ·cases he
   rw[VRL]at hr
   obtain⟨w,ws',rfl,h1,h2⟩:=hr
   exact .cons (hb 0 b w rfl rfl _) (tz3 i ‹_› h2 fun j a w hj hw=>hb (j+1) a w (by simpa using hj) (by simpa using hw))
  ·cases he
 |ms,a::l,l',none::bs,ws,he,hr,hb=>by
  simp only[ub3]at he
  split at he
  ·cases he
   rw[VRL]at hr
   obtain⟨w,ws',rfl,h1,h2⟩:=hr
   exact .cons (ib8 i ‹_› h1) (tz3 i ‹_› h2 fun j a w hj hw=>hb (j+1) a w (by simpa using hj) (by simpa using hw))
  ·cases he
theorem k63{ms:List Mode}{l l':List AV}{A:List AT}{Z Zp:Nat→Prop}{ws:List Value}{s:Lent}(i:Inv h A Z Zp)(he:kj1 ms (A.map AT.era) l=some (l',s))(hr:VRL h A Z Zp l ws):
 ∃A1 Ac Z1 Zp1,s.R=A1.map AT.era∧s.C=Ac.map AT.era∧Inv h (A1++Ac) Z1 Zp1∧Ext h A Zp h (A1++Ac) Zp1∧Stab A A1 []∧(∀o,Z o→Z1 o)∧Bok A1 Ac s.B∧VRL h Ac (uq0 A1 Z1) Zp1 l' ws∧(ms=[]→A1=A∧Ac=[]):=by
 unfold kj1 at he
 split at he
 ·split at he
  ·cases he
   exact⟨A,[],Z,Zp,rfl,rfl,by rw[nw0];exact i,by rw[nw0];exact Ext.refl _ _ _,Stab.refl _ _,fun _ h=>h,⟨rfl,by simp,fun n b k hb=>by simp at hb,fun k hk=>by cases hk⟩,qb3 i ‹_› hr,fun _=>⟨rfl,rfl⟩⟩
  ·cases he
 ·rename_i hms
  split at he
  ·rename_i bs s' h1
   split at he
   ·rename_i l'' h2
    cases he
    obtain⟨A1,N,Z1,Zp1,g1,g2,g3,g4,g5,g6,g7,g8,g9⟩:=gb3 (Ac:=[]) (B:=[]) (by rw[nw0];exact i) ⟨rfl,by simp,fun n b k hb=>by simp at hb,fun k hk=>by cases hk⟩ h1 hr
    rw[m51]at g2 g3 g4 g7 g9
    rw[nw0]at g4
    rw[g1]at h2
    exact⟨A1,N,Z1,Zp1,g1,g2,g3,g4,g5,g6,g7,tz3 g3.left h2 g8 g9,fun e=>absurd e (by simpa using hms)⟩
   ·cases he
  ·cases he
theorem ya4: ∀{B:List (Nat×List Nat)} {A K S:List AT} {Z Zp:Nat→Prop} (i:Inv h (A++(K++S)) Z Zp),B.length=K.length→B.Nodup→(∀(n:Nat) (b:Nat×List Nat) (k:AT),B[n]? =some b→K[n]? =some k→aget A b.1 b.2=some (.junk k.val))→(∀k∈K,k.isV=false)→
 ∃A1 Z1 Zp1,so3 (A.map AT.era) B (K.map AT.era)=A1.map AT.era∧Inv h (A1++S) Z1 Zp1∧Ext h (A++(K++S)) Zp h (A1++S) Zp1∧Stab A A1 (uc8 B (K.map AT.era))∧(∀o,Z o→Z1 o)∧A1.length=A.length
 | [],A,K,S,Z,Zp,i,hl,hn,hb,hk=>by
   obtain rfl:K=[]:=js1 hl.symm
   exact⟨A,Z,Zp,rfl,i,Ext.refl _ _ _,Stab.refl _ _,fun _ h=>h,rfl⟩
 |b::B,A,[],S,Z,Zp,i,hl,hn,hb,hk=>by simp at hl
 |(r,p)::B,A,k::K,S,Z,Zp,i,hl,hn,hb,hk=>by
  have h1:=hb 0 (r,p) k rfl rfl
  have hkv:=hk k (by simp)
  have hac: ∀x,(fpL A).count x+(fpL (k::(K++S))).count x≤1:=fun x=>by have:=i.nd x;rwa [xv9,m34]at this
  have hks: ∀x,(fpL (k::(K++S))).count x=k.fp.count x+(fpL (K++S)).count x:=fun x=>by rw[fpL,m34]
  have hok:=(ca4.1 i.okA).2
  rw[rs6,okL]at hok
  obtain⟨i1,e1⟩:=Inv.upd (h':=h) (A:=A) (C:=k::(K++S)) (N:=K++S) (s:=k) (Zx:=fun _=>False) i h1 (jj6 _) (fun _ _ _=>rfl) rfl (ok.keep (fun o ho=> .inl ho) (fun _ _=>rfl) hok.1 fun _ _=>rfl) (okL.keep (fun o ho=> .inl ho) (fun _ _=>rfl) hok.2 fun _ _=>rfl)
   (fun x _=>by rw[hks];omega) (fun x _=>by have:=hac x;rw[hks]at this;omega) (fun o ho=>i.lt o (by
     rw[xv9]
     refine List.mem_append_right _ ?_
     rw[rs6,fpL]
     rcases ho with ho|ho
     ·exact zk7 _ ho
     ·exact List.mem_append_right _ ho)) (fun o ho=>ho.elim)
  have s1:Stab A (aset A r p k) (if deep k.era then [r]else []):=by
   refine Stab.upd (s:=k) h1 rfl rfl hkv ?_
   by_cases hd:deep k.era=true
   ·rw[if_pos hd];exact .inr (by simp)
   ·rw[if_neg hd]
    refine .inl fun q b' h2 h3=> ?_
    cases q with
    |nil=>cases h2;exact⟨_,rfl,rfl,rfl⟩
    |cons j q=>
     simp only[AT.get]at h2
     cases hc:k.kids with
     |none=>rw[hc]at h2;cases h2
     |some cs=>
      rw[hc]at h2
      simp only[]at h2
      cases hj:cs[j]? with
      |none=>rw[hj]at h2;cases h2
      |some c=>
       rw[hj]at h2
       unfold deep at hd
       rw[wb1,hc]at hd
       simp only[eb5,Bool.not_eq_true,Bool.not_eq_false']at hd
       have:=p92.1 hd c.era (by rw[dk4];exact vf1.2 ⟨c,vf6 hj,rfl⟩)
       cases c with
       |v x=>
        cases q with
        |nil=>cases h2;cases h3
        |cons m q=>simp only[AT.get]at h2;cases h2
       |_=>simp[AT.era,isV]at this
  rw[y50]at hn
  obtain⟨A2,Z2,Zp2,g1,g2,g3,g4,g5,g6⟩:=ya4 (B:=B) (A:=aset A r p k) (K:=K) (S:=S) i1 (by simpa using hl) hn.2 (fun n b' k' hb' hk'=>by
   have:=hb (n+1) b' k' (by simpa using hb') (by simpa using hk')
   exact wf8 h1 rfl this fun e=>hn.1 (by rw[e];exact vf6 hb')) fun k' hk'=>hk k' (by simp[hk'])
  refine⟨A2,Z2,Zp2, ?_,g2,e1.trans g3, ?_,fun o ho=>g5 o (.inl ho),by rw[g6,hl4]⟩
  ·rw[nf9,so3,ao8];exact g1
  ·rw[nf9,uc8]
   by_cases hd:deep k.era=true
   ·rw[if_pos hd]at s1⊢
    exact(s1.weak (fun x hx=>by simp at hx;simp[hx])).trans (g4.weak fun x hx=>by simp[hx])
   ·rw[if_neg hd]at s1⊢
    exact(s1.weak (fun x hx=>by cases hx)).trans g4
end
end Go.Vm
namespace Go.Am
theorem cp7{h h':H}{o:Nat}(he:h'[o]? =h[o]?):h'.row o=h.row o:=by unfold H.row;rw[he]
theorem w09{h h':H}(hl:h.length≤h'.length)(hk: ∀o,o<h.length→h'[o]? =h[o]?):h<+:h':=by
 rw[List.prefix_iff_eq_take]
 refine v63 fun o=> ?_
 by_cases ho:o<h.length
 ·rw[td4,if_pos ho,hk o ho]
 ·rw[pb5 (by omega),pb5 (by simp;omega)]
end Go.Am
namespace Go.Vm
open Go.Am
structure Post (h:H) (A:List AT) (Zp:Nat→Prop) (n:Nat) (r:VRes) (w:Value) (h':H) (K S:List AT) (Z' Zp':Nat→Prop):Prop where
 s:r.2.1=S.map AT.era
 k:r.2.2=K.map AT.era
 inv:Inv h' (K++S) Z' Zp'
 ext:Ext h A Zp h' (K++S) Zp'
 v:VR h' S Zp' Zp' r.1 w
 len:K.length=n
 pin: ∀(i:Nat) (a k:AT),A[i]? =some a→K[i]? =some k→k.val=a.val∧(a.isV=false→k.isV=false)
def VOK(T:Tab)(f:FuncId)(vs:List AV)(C:Rts)(r:VRes):Prop:=
 ∀(h:H) (Ac:List AT) (Z Zp:Nat→Prop) (ws:List Value),Inv h Ac Z Zp→C=Ac.map AT.era→VRL h Ac Z Zp vs ws→(∀k∈Ac,k.isV=false)→
  ∃w h' K S Z' Zp',call T f ws h=some (w,h')∧Post h Ac Zp Ac.length r w h' K S Z' Zp'
section
variable {h:H}
theorem rg2{A:List AT}{Z Zp:Nat→Prop}(i:Inv h A Z Zp){r:Nat}{p:List Nat}{nl e u:Nat}{cs:List Tree}{lo n:Nat}{w:Value}(hS:SR h A Z Zp (.o r p nl e u cs lo n) w):
 ∃k kn:AT,aget A r p=some k∧k.isV=false∧kn.val=w∧kn.era= .sl (if nl=0 then 0 else 2) e u ((cs.drop (lo*u)).take (n*u))∧ok h Zp kn∧kn.isV=false∧ ∀x,kn.fp.count x≤k.fp.count x:=by
 obtain⟨k,nl0,q1,q2,q3,q4,q5,q6⟩:=hS
 rcases q6 with⟨rfl,rfl,rfl,rfl,hn0,rfl⟩|⟨o,off,n1,c0,l,lo',c',rfl,rfl,q7,rfl,q8,q9',q9⟩
 ·have hnl: ¬nl=0:=by
   rcases q2 with rfl|rfl
   ·exact hn0
   ·rw[if_neg hn0];decide
  exact⟨_, .nil 2 e u,q1,rfl,rfl,by rw[if_neg hnl];simp[AT.era],by rw[ok];exact⟨by decide,q5⟩,rfl,fun x=>by rw[uu7];simp⟩
 ·have hok:=lw8 i q1
  rw[i47]at q4
  obtain⟨row,r1,r2,r3,r4,r5,r6⟩:=jk2 hok q4 q9' q9
  have hseg:lo*u+n*u≤l.length:=by rw[←ur9];exact q4
  have hpl:=sx8 hseg
  refine⟨_, .sl o (off+lo'*u) n c' (if nl=0 then 0 else 2) e u ((l.drop (lo*u)).take (n*u)),q1,rfl,rfl,by rw[AT.era,xg5], ?_,rfl,fun x=> ?_⟩
  ·have hk:=by5 (a:= .sl o off n1 c0 nl0 e u l) rfl hok
   rw[ok]
   exact⟨row,r1,r2,r3,r4,q5,hpl.symm,q8,⟨fun e1=>(by split at e1<;>cases e1),by rw[hpl];exact r5⟩,by rw[hpl];exact r6,ga5.2 fun c hc=>ga5.1 hk c (lq8 (tn5 hc))⟩
  ·rw[AT.fp,AT.fp,xi6,xi6]
   have:=gc1 l (lo*u) (n*u) x
   omega
theorem loose{A C:List AT}{Z Zp:Nat→Prop}(i:Inv h (A++C) Z Zp){r:Nat}{p:List Nat}{k kn:AT}(hk:aget A r p=some k)(hkv:k.isV=false)(hone:one k.val=true)(hok:ok h Zp kn)(hc: ∀x,kn.fp.count x≤k.fp.count x):
 ∃Z1 Zp1,Inv h (aset A r p (.junk k.val)++(C++[kn])) Z1 Zp1∧Ext h (A++C) Zp h (aset A r p (.junk k.val)++(C++[kn])) Zp1∧Stab A (aset A r p (.junk k.val)) []∧(∀o,Z o→Z1 o):=by
 have hac: ∀x,(fpL A).count x+(fpL C).count x≤1:=fun x=>by have:=i.nd x;rwa [xv9,m34]at this
 have hkA: ∀x,k.fp.count x≤(fpL A).count x:=fun x=>bm6 x hk
 obtain⟨i1,e1⟩:=Inv.upd (h':=h) (A:=A) (C:=C) (N:=C++[kn]) (s:= .junk k.val) (Zx:=fun _=>False) i hk (jj6 _) (fun _ _ _=>rfl) rfl (by rw[ok];exact hone)
  (ca4.2 ⟨okL.keep (fun o ho=> .inl ho) (fun _ _=>rfl) (ca4.1 i.okA).2 fun _ _=>rfl,vd4.2 (ok.keep (fun o ho=> .inl ho) (fun _ _=>rfl) hok fun _ _=>rfl)⟩)
  (fun x _=>by rw[op8,xv9,zr4,m34];have:=hc x;simp;omega) (fun x _=>by rw[op8,xv9,zr4,m34];have:=hac x;have:=hkA x;have:=hc x;simp;omega)
  (fun o ho=>by
    rw[op8,xv9,zr4]at ho
    simp at ho
    rcases ho with ho|ho
    ·exact i.lt o (by rw[xv9];simp[ho])
    ·exact i.lt o (by rw[xv9];exact zk7 _ (ea9.2 (by have:=ea9.1 ho;have:=hc o;have:=hkA o;omega)))) (fun o ho=>ho.elim)
 exact⟨_,_,i1,e1,Stab.upd (s:= .junk k.val) hk rfl hkv rfl (.inl (Sub.leaf rfl rfl hkv)),fun o ho=> .inl ho⟩
theorem hz5{C:List AT}{kn:AT}{Z Zp:Nat→Prop}:VR h (C++[kn]) Z Zp (.own C.length []) kn.val:=by
 rw[VR]
 refine⟨by simp,fun b hb _=> ?_⟩
 unfold aget at hb
 rw[lp1 (jj6 _),ob6]at hb
 cases hb;rfl
mutual
theorem wb2: ∀{a a':AV} {A C:List AT} {Z Zp:Nat→Prop} {w:Value} {R1 S:Rts} (i:Inv h (A++C) Z Zp),vout (A.map AT.era) C.length a=some (a',R1,S)→VR h A Z Zp a w→
 ∃A1 N Z1 Zp1,R1=A1.map AT.era∧S=N.map AT.era∧Inv h (A1++(C++N)) Z1 Zp1∧Ext h (A++C) Zp h (A1++(C++N)) Zp1∧Stab A A1 []∧(∀o,Z o→Z1 o)∧A1.length=A.length∧VR h (C++N) Zp1 Zp1 a' w
 | .x v,a',A,C,Z,Zp,w,R1,S,i,he,hr=>by
   cases he
   rw[VR]at hr
   exact⟨A,[],Z,Zp,rfl,rfl,by rw[nw0];exact i,by rw[nw0];exact Ext.refl _ _ _,Stab.refl _ _,fun _ h=>h,rfl,by rw[VR];exact hr⟩
 | .fz b t,a',A,C,Z,Zp,w,R1,S,i,he,hr=>by
   cases b with
   |false=>cases he
   |true=>
    cases he
    rw[VR]at hr
    exact⟨A,[],Z,Zp,rfl,rfl,by rw[nw0];exact i,by rw[nw0];exact Ext.refl _ _ _,Stab.refl _ _,fun _ h=>h,rfl,by rw[VR];exact hr⟩
 | .fzc b cs j,a',A,C,Z,Zp,w,R1,S,i,he,hr=>by
   cases b with
   |false=>cases he
   |true=>
    cases he
    rw[VR]at hr
    exact⟨A,[],Z,Zp,rfl,rfl,by rw[nw0];exact i,by rw[nw0];exact Ext.refl _ _ _,Stab.refl _ _,fun _ h=>h,rfl,by rw[VR];exact hr⟩
 | .own r p,a',A,C,Z,Zp,w,R1,S,i,he,hr=>by
   rw[VR]at hr
   simp only[vout]at he
   split at he
   ·rename_i t h1
    cases he
    obtain⟨k,h2,h3⟩:=mc9 h1
    obtain⟨w',rfl⟩:=n52 h3
    have hk:=lw8 i.left h2
    rw[ok]at hk
    have hw:w'=w:=hr.2 _ h2 rfl
    subst hw
    exact⟨A,[],Z,Zp,rfl,rfl,by rw[nw0];exact i,by rw[nw0];exact Ext.refl _ _ _,Stab.refl _ _,fun _ h=>h,rfl,by rw[VR];exact hk⟩
   ·rename_i s hne h1
    split at he
    ·rename_i hn
     cases he
     obtain⟨k,h2,rfl⟩:=mc9 h1
     have hkv:=l61 hn
     have hw:k.val=w:=hr.2 _ h2 hkv
     subst hw
     obtain⟨Z1,Zp1,i1,e1,s1,z1⟩:=loose i h2 hkv (gi1 ‹_›) (lw8 i.left h2) fun x=>jj6 _
     exact⟨_,[k],Z1,Zp1,ao8 A r p (.junk k.val),rfl,i1,e1,s1,z1,hl4 _ _ _ _,hz5⟩
    ·cases he
   ·cases he
 | .sub r p w0 lo n,a',A,C,Z,Zp,w,R1,S,i,he,hr=>by
   have hsl: ∀{S},vsl (A.map AT.era) (.sub r p w0 lo n)=some S→SR h A Z Zp S w:=fun hs=>cd4 i.left hs hr
   simp only[vout]at he
   split at he
   ·rename_i nl e u' cs h1
    split at he
    ·rename_i hc
     cases he
     obtain⟨k,kn,k1,k2,k3,k4,k5,k6,k7⟩:=rg2 i.left (hsl (S:= .o r p (if nl=0 then 0 else 2) e u' cs lo n) (by simp only[vsl,h1];rw[if_pos hc]))
     subst k3
     obtain⟨Z1,Zp1,i1,e1,s1,z1⟩:=loose i k1 k2 (gi1 (by have h2:=p00 A r p;rw[h1,k1]at h2;have h3:=pk4 h2;show isNode k.era=true;rw[←h3];rfl)) k5 k7
     refine⟨_,[kn],Z1,Zp1,ao8 A r p (.junk k.val), ?_,i1,e1,s1,z1,hl4 _ _ _ _,hz5⟩
     rw[List.map_singleton,k4]
     congr 2
     by_cases hnl:nl=0
     ·rw[if_pos hnl];rfl
     ·rw[if_neg hnl];rfl
    ·cases he
   ·cases he
 | .cell ..,_,_,_,_,_,_,_,_,_,he,_=>by cases he
 | .agg l,a',A,C,Z,Zp,w,R1,S,i,he,hr=>by
   rw[VR]at hr
   obtain⟨ws,rfl,h1⟩:=hr
   rw[vout]at he
   split at he
   ·cases he
    obtain⟨A1,N,Z1,Zp1,g1,g2,g3,g4,g5,g6,g7,g8⟩:=ze6 i ‹_› h1
    exact⟨A1,N,Z1,Zp1,g1,g2,g3,g4,g5,g6,g7,by rw[VR];exact⟨ws,rfl,g8⟩⟩
   ·cases he
 | .tup l,a',A,C,Z,Zp,w,R1,S,i,he,hr=>by
   rw[VR]at hr
   obtain⟨ws,rfl,h1⟩:=hr
   rw[vout]at he
   split at he
   ·cases he
    obtain⟨A1,N,Z1,Zp1,g1,g2,g3,g4,g5,g6,g7,g8⟩:=ze6 i ‹_› h1
    exact⟨A1,N,Z1,Zp1,g1,g2,g3,g4,g5,g6,g7,by rw[VR];exact⟨ws,rfl,g8⟩⟩
   ·cases he
 | .fn f l,a',A,C,Z,Zp,w,R1,S,i,he,hr=>by
   rw[VR]at hr
   obtain⟨ws,rfl,h1⟩:=hr
   rw[vout]at he
   split at he
   ·cases he
    obtain⟨A1,N,Z1,Zp1,g1,g2,g3,g4,g5,g6,g7,g8⟩:=ze6 i ‹_› h1
    exact⟨A1,N,Z1,Zp1,g1,g2,g3,g4,g5,g6,g7,by rw[VR];exact⟨ws,rfl,g8⟩⟩
   ·cases he
theorem ze6: ∀{l l':List AV} {A C:List AT} {Z Zp:Nat→Prop} {ws:List Value} {R1 S:Rts} (i:Inv h (A++C) Z Zp),vx6 (A.map AT.era) C.length l=some (l',R1,S)→VRL h A Z Zp l ws→
 ∃A1 N Z1 Zp1,R1=A1.map AT.era∧S=N.map AT.era∧Inv h (A1++(C++N)) Z1 Zp1∧Ext h (A++C) Zp h (A1++(C++N)) Zp1∧Stab A A1 []∧(∀o,Z o→Z1 o)∧A1.length=A.length∧VRL h (C++N) Zp1 Zp1 l' ws
 | [],l',A,C,Z,Zp,ws,R1,S,i,he,hr=>by
   cases he
   rw[VRL]at hr;subst hr
   exact⟨A,[],Z,Zp,rfl,rfl,by rw[nw0];exact i,by rw[nw0];exact Ext.refl _ _ _,Stab.refl _ _,fun _ h=>h,rfl, .nil⟩
 |a::l,l',A,C,Z,Zp,ws,R1,S,i,he,hr=>by
  rw[vx6]at he
  split at he
  ·rename_i a' R2 S1 h1
   split at he
   ·rename_i l'' R3 S2 h2
    cases he
    rw[VRL]at hr
    obtain⟨w,ws',rfl,h3,h4⟩:=hr
    obtain⟨A1,N1,Z1,Zp1,rfl,rfl,i1,e1,s1,z1,l1,g1⟩:=wb2 i h1 h3
    have h4':VRL h A1 Z1 Zp1 l ws':=VRL.move z1 e1.zp (fun _ _=>rfl) (fun _ _=>rfl) s1 h4 (by simp)
    have hcl:C.length+(N1.map AT.era).length=(C++N1).length:=by simp
    rw[hcl]at h2
    obtain⟨A2,N2,Z2,Zp2,rfl,rfl,i2,e2,s2,z2,l2,g2⟩:=ze6 i1 h2 h4'
    rw[eh9]at i2 e2 g2
    refine⟨A2,N1++N2,Z2,Zp2,rfl,by simp,i2,e1.trans e2,s1.trans s2,fun o ho=>z2 o (z1 o ho),by omega, .cons ?_ g2⟩
    rw[←eh9]
    exact VR.move e2.zp e2.zp (fun _ _=>rfl) (fun _ _=>rfl) (Stab.grow (C++N1) N2 []) g1 rfl
   ·cases he
  ·cases he
end
theorem Inv.sub{A A':List AT}{Z Zp:Nat→Prop}(i:Inv h A Z Zp)(hk: ∀a∈A',a∈A)(hc: ∀x,(fpL A').count x≤(fpL A).count x):Inv h A' Z Zp:=
 ⟨ga5.2 fun a ha=>ga5.1 i.okA a (hk a ha),fun x=>by have:=hc x;have:=i.nd x;omega,fun o ho=>i.lt o (ea9.2 (by have:=ea9.1 ho;have:=hc o;omega)),fun o ho=>i.nz o (ea9.2 (by have:=ea9.1 ho;have:=hc o;omega)),i.zlt,i.zp⟩
theorem Ext.sub{h':H}{A D D':List AT}{Zp Zp':Nat→Prop}(e:Ext h A Zp h' D Zp')(hc: ∀x,(fpL D').count x≤(fpL D).count x):Ext h A Zp h' D' Zp':=
 ⟨e.len,e.keep,fun o ho=>e.fp o (ea9.2 (by have:=ea9.1 ho;have:=hc o;omega)),e.zp,e.zn⟩
theorem sg7(A:List AT)(n x:Nat):(fpL (A.take n)).count x≤(fpL A).count x:=by
 conv=>rhs;rw[←qr5 n A]
 rw[xv9,m34];omega
theorem jx2{A:List AT}{Z Zp:Nat→Prop}(i:Inv h A Z Zp){fr:VFr}{f:Fr}(hf:FRV h A Z Zp fr f){r:ARes}{a:AV}(he:og6 (A.map AT.era) fr r=some a): ∃w,res1 f h r=some w∧VR h A Z Zp a w:=by
 cases r with
 |tmp t=>exact hf t a he
 |cell t agg n=>
  simp only[og6]at he
  split at he
  ·rename_i b h1
   obtain⟨w,h2,h3⟩:=hf t b h1
   split at he
   ·rename_i pa h4
    have h5:=dm7 i h4 h3
    cases agg with
    |true=>
     simp only[]at he
     split at he
     ·cases he
     ·rename_i hn
      split at he
      ·rename_i l h6
       cases he
       obtain⟨o,off,rfl⟩:=p03 i hn h6 h5
       obtain⟨ws,h7,h8⟩:=es2 i h5 h6
       rcases h7 with⟨h7,_⟩|h7
       ·exact absurd h7 hn
       ·exact⟨.agg ws.toArray,by simp only[res1,h2];rw[if_neg (by simp)];simp only[h7],by rw[VR];exact⟨ws,rfl,h8⟩⟩
      ·cases he
    |false=>
     obtain⟨o,off,x,rfl,h6,h7⟩:=hj6 i he h5
     exact⟨x,by simp only[res1,h2];rw[if_neg (by simp)];simp only[h6],h7⟩
   ·cases he
  ·cases he
theorem nx9{A:List AT}{Z Zp:Nat→Prop}(i:Inv h A Z Zp){fr:VFr}{f:Fr}(hf:FRV h A Z Zp fr f): ∀{rs:List ARes} {l:List AV},zp6 (A.map AT.era) fr rs=some l→ ∃ws,ress f h rs=some ws∧VRL h A Z Zp l ws
 | [],l,he=>by cases he;exact⟨[],rfl, .nil⟩
 |r::rs,l,he=>by
  simp only[zp6]at he
  split at he
  ·rename_i h1 h2
   cases he
   obtain⟨w,h3,h4⟩:=jx2 i hf h1
   obtain⟨ws,h5,h6⟩:=nx9 i hf h2
   exact⟨w::ws,by simp only[ress,h3,h5], .cons h4 h6⟩
  ·cases he
theorem ac3{c:Ctx}{A:List AT}{Z Zp:Nat→Prop}(i:Inv h A Z Zp){fr:VFr}{f:Fr}(hf:FRV h A Z Zp fr f)(hn:c.n≤A.length){r:VRes}(he:vret c fr (A.map AT.era)=some r): ∃w K S Z' Zp',retv c.rs f h=some (w,h)∧Post h A Zp c.n r w h K S Z' Zp':=by
 simp only[vret]at he
 split at he
 ·rename_i l h1
  obtain⟨ws,h2,h3⟩:=nx9 i hf h1
  have key: ∃w,retv c.rs f h=some (w,h)∧VR h A Z Zp (vone l) w:=by
   unfold retv
   rw[h2]
   match l,ws,h3 with
   | [],ws,h3=>rw[VRL]at h3;subst h3;exact⟨_,rfl,by unfold vone;rw[VR];exact⟨[],rfl, .nil⟩⟩
   | [a],ws,h3=>
     rw[VRL]at h3
     obtain⟨w,ws',rfl,k1,k2⟩:=h3
     rw[VRL]at k2;subst k2
     exact⟨w,rfl,k1⟩
   |a::b::l,ws,h3=>
    have hl:=h3.len
    match ws,hl with
    |x::y::ws,_=>exact⟨_,rfl,by unfold vone;rw[VR];exact⟨_,rfl,h3⟩⟩
  obtain⟨w,h4,h5⟩:=key
  split at he
  ·rename_i v R1 S h6
   cases he
   obtain⟨A1,N,Z1,Zp1,rfl,rfl,i1,e1,s1,z1,l1,g1⟩:=wb2 (C:=[]) (by rw[nw0];exact i) h6 h5
   rw[m51]at i1 e1 g1
   rw[nw0]at e1
   have hcnt: ∀x,(fpL (A1.take c.n++N)).count x≤(fpL (A1++N)).count x:=fun x=>by
    rw[xv9,xv9,m34,m34]
    have:=sg7 A1 c.n x;omega
   refine⟨w,A1.take c.n,N,Z1,Zp1,h4,rfl,by rw[iw6],i1.sub (fun a ha=> ?_) hcnt,e1.sub hcnt,g1,by rw[vb8];omega,fun j a k h7 h8=> ?_⟩
   ·rcases bk2.1 ha with ha|ha
    ·exact zk7 _ (tn5 ha)
    ·exact List.mem_append_right _ ha
   ·rw[td4]at h8
    split at h8
    ·exact s1.pin j a k h7 h8
    ·cases h8
  ·cases he
 ·cases he
mutual
theorem rb6{S:List AT}{Z Zp:Nat→Prop}(A:List AT): ∀{a:AV} {w:Value},VR h S Z Zp a w→VR h (A++S) Z Zp (ei9 A.length a) w
 | .x v,w,hr=>by rw[ei9,VR];rw[VR]at hr;exact hr
 | .fz b t,w,hr=>by rw[ei9,VR];rw[VR]at hr;exact hr
 | .fzc b cs j,w,hr=>by rw[ei9,VR];rw[VR]at hr;exact hr
 | .own r p,w,hr=>by
   rw[ei9,VR];rw[VR]at hr
   refine⟨by simp;omega,fun b hb hv=>hr.2 b ?_ hv⟩
   unfold aget at hb⊢
   rwa [lp1 (by omega),Nat.add_sub_cancel]at hb
 | .sub r p u lo n,w,hr=>by
   rw[ei9,VR];rw[VR]at hr
   refine⟨by simp;omega,fun b hb hv=>hr.2 b ?_ hv⟩
   unfold aget at hb⊢
   rwa [lp1 (by omega),Nat.add_sub_cancel]at hb
 | .cell r p j,w,hr=>by
   rw[ei9,VR];rw[VR]at hr
   refine⟨by simp;omega,fun b hb hv=>hr.2 b ?_ hv⟩
   unfold aget at hb⊢
   rwa [lp1 (by omega),Nat.add_sub_cancel]at hb
 | .agg l,w,hr=>by
   rw[ei9,VR];rw[VR]at hr
   obtain⟨ws,h1,h2⟩:=hr
   exact⟨ws,h1,zx7 A h2⟩
 | .tup l,w,hr=>by
   rw[ei9,VR];rw[VR]at hr
   obtain⟨ws,h1,h2⟩:=hr
   exact⟨ws,h1,zx7 A h2⟩
 | .fn f l,w,hr=>by
   rw[ei9,VR];rw[VR]at hr
   obtain⟨ws,h1,h2⟩:=hr
   exact⟨ws,h1,zx7 A h2⟩
theorem zx7{S:List AT}{Z Zp:Nat→Prop}(A:List AT): ∀{l:List AV} {ws:List Value},VRL h S Z Zp l ws→VRL h (A++S) Z Zp (mk1 A.length l) ws
 | [],ws,hr=>by rw[mk1];exact hr
 |a::l,ws,hr=>by
  rw[VRL]at hr
  obtain⟨w,ws',rfl,h1,h2⟩:=hr
  rw[mk1]
  exact .cons (rb6 A h1) (zx7 A h2)
end
theorem eb3{W:VW}{T:Tab}{g:VGo}(hg: ∀f vs C r,s21 W g f vs C=some r→VOK T f vs C r){A:List AT}{Z Zp:Nat→Prop}(i:Inv h A Z Zp){chk:Bool}{f:FuncId}{vs:List AV}{ws:List Value}(hr:VRL h A Z Zp vs ws){res:Option AV×Rts×Option (List Nat)}(he:vdo W g (A.map AT.era) chk f vs=some res):
 ∃w h' A' Z' Zp',call T f ws h=some (w,h')∧Step h A Z Zp res (some w) h' A' Z' Zp'∧(chk=true→h<+:h'):=by
 simp only[vdo]at he
 split at he
 ·rename_i vs' s h1
  split at he
  ·cases he
  ·rename_i hchk
   split at he
   ·rename_i r h2
    cases he
    obtain⟨A1,Ac,Z1,Zp1,g1,g2,i1,e1,s1,z1,hB,hvs,hms⟩:=k63 i h1 hr
    obtain⟨w,h',K,S,Z',Zp',hc,P⟩:=hg f vs' s.C r h2 h Ac _ Zp1 ws i1.part g2 hvs hB.2.2.2
    obtain⟨i2,e2⟩:=Inv.after i1 P.inv P.ext
    have e3:=e1.trans e2
    have hpre:Ac=[]→h<+:h':=fun hA=>by
     refine w09 P.ext.len fun o ho=>P.ext.keep o ho ?_
     rw[hA,fpL];simp
    obtain⟨v,S',K'⟩:=r
    have hS:S'=S.map AT.era:=P.s
    have hK:K'=K.map AT.era:=P.k
    subst hS;subst hK
    have hchk':chk=true→h<+:h':=fun hct=>hpre (by
     rw[hct]at hchk
     simp at hchk
     exact js1 (by rw[←hB.1,hchk];rfl))
    have hsame:Same h h' Z:=e3.same i
    by_cases hm:W.M f=[]
    ·obtain⟨rfl,rfl⟩:=hms hm
     have hB0:s.B=[]:=js1 hB.1
     have hK0:K=[]:=js1 P.len
     subst hK0
     rw[m51]at i2 e3
     refine⟨w,h',A1++S,_,Zp',hc,⟨?_,i2,e3, ?_,fun o ho=> .inl (z1 o ho), ?_,fun _=>⟨hpre rfl,S,rfl⟩⟩,hchk'⟩
     ·simp only[j61,hB0,so3,g1,hm3]
     ·exact Stab.grow _ _ _
     ·show VR _ _ _ _ (ei9 (so3 s.R s.B ([].map AT.era)).length v) w
      rw[hB0,g1]
      simp only[so3,q11]
      exact VR.move (fun o ho=> .inr ho) (fun _ h=>h) (fun _ _=>rfl) (fun _ _=>rfl) (Stab.refl _ []) (rb6 A1 P.v) rfl
    ·obtain⟨A2,Z2,Zp2,k1,k2,k3,k4,k5,k6⟩:=ya4 (B:=s.B) i2 (by rw[hB.1,P.len]) hB.2.1 (fun n b k hb hk=>by
      have hn:n<Ac.length:=by rw[←P.len];exact(ck5.1 hk).1
      rw[(P.pin n Ac[n] k (wu3 hn) hk).1]
      exact hB.2.2.1 n b Ac[n] hb (wu3 hn)) (fun k hk=>by
      obtain⟨n,hn⟩:=es9 hk
      have hl:n<Ac.length:=by rw[←P.len];exact(ck5.1 hn).1
      exact(P.pin n Ac[n] k (wu3 hl) hn).2 (hB.2.2.2 _ (ws6 hl)))
     have e4:=e3.trans k3
     have hmm: ∀{x:Option (List Nat)} {y:Option (List Nat)},(match W.M f with
      | []=>x
      |_=>y)=y:=fun{x y}=>by
      cases hq:W.M f with
      |nil=>exact absurd hq hm
      |cons=>rfl
     refine⟨w,h',A2++S,Z2,Zp2,hc,⟨?_,k2,e4, ?_,fun o ho=>k5 o (.inl (z1 o ho)), ?_,fun hn=> ?_⟩,hchk'⟩
     ·show so3 s.R s.B (K.map AT.era)++S.map AT.era=_
      rw[g1,k1,hm3]
     ·simp only[j61,hmm,ns4]
      exact((s1.weak fun x hx=>by cases hx).trans k4).app S
     ·show VR _ _ _ _ (ei9 (so3 s.R s.B (K.map AT.era)).length v) w
      rw[g1,k1,q11]
      refine rb6 A2 ?_
      exact VR.move (fun o ho=>k5 o (.inr ho)) k3.zp (fun _ _=>rfl) (fun _ _=>rfl) (Stab.refl S []) P.v rfl
     ·simp only[j61,hmm]at hn
      cases hn
   ·cases he
 ·cases he
end
end Go.Vm
namespace Go.Vm
open Go.Am
section
variable {hR h:H} {A0 N:List AT} {Z0 Zp0:Nat→Prop} {fr:VFr} {f:Fr}
theorem x44{r:Nat}(p:List Nat)(hr:r<A0.length):rget ((A0++N).map AT.era) r p=rget (A0.map AT.era) r p:=by
 rw[p00,p00,gr7 p hr]
def inA(n:Nat):AV→Prop
 | .own r _=>r<n
 | .sub r _ _ _ _=>r<n
 | .cell r _ _=>r<n
 |_=>True
theorem VR.inA{a:AV}{w:Value}(hr:VR hR A0 Z0 Zp0 a w):inA A0.length a:=by
 cases a<;>first|trivial|(rw[VR]at hr;exact hr.1)
theorem p79{a:AV}(ha:inA A0.length a):vptr ((A0++N).map AT.era) a=vptr (A0.map AT.era) a:=by
 cases a with
 |own r p=>simp only[vptr];rw[x44 p ha]
 |fz b t=>cases t<;>first|rfl|(rename_i t;cases t<;>rfl)
 |_=>rfl
theorem nf1{a:AV}{pa:VP}{R:Rts}(ha:inA A0.length a)(he:vptr R a=some pa):inA A0.length pa.av:=by
 cases a with
 |cell r p i=>cases he;exact ha
 |fzc b cs i=>cases he;trivial
 |own r p=>
  simp only[vptr]at he
  split at he
  ·cases he;exact ha
  ·cases he;trivial
  ·cases he
 |fz b t=>cases t<;>first|(cases he;done)|(cases he;trivial)|(rename_i t;cases t<;>first|(cases he;done)|(cases he;trivial))
 |_=>cases he
theorem hs3{pa:VP}(ha:inA A0.length pa.av):vy4 ((A0++N).map AT.era) pa=vy4 (A0.map AT.era) pa:=by
 cases pa with
 |o r p i=>simp only[vy4];rw[x44 p ha]
 |f=>rfl
theorem lg4{pa:VP}{k:Nat}(ha:inA A0.length pa.av):inA A0.length (pa.off k).av:=by
 cases pa<;>exact ha
theorem ld5{pa:VP}(ha:inA A0.length pa.av): ∀n,hq6 ((A0++N).map AT.era) pa n=hq6 (A0.map AT.era) pa n
 |0=>rfl
 |n+1=>by simp only[hq6];rw[ld5 ha n,hs3 (lg4 ha)]
theorem ko8{pa:VP}(ha:inA A0.length pa.av):k12 ((A0++N).map AT.era) pa=k12 (A0.map AT.era) pa:=by
 cases pa with
 |o r p i=>simp only[k12];rw[x44 p ha]
 |f=>rfl
theorem eb4{a:AV}(ha:inA A0.length a):vsl ((A0++N).map AT.era) a=vsl (A0.map AT.era) a:=by
 cases a with
 |own r p=>simp only[vsl];rw[x44 p ha]
 |sub r p u lo n=>simp only[vsl];rw[x44 p ha]
 |fz b t=>cases t<;>first|rfl|(rename_i t;cases t<;>rfl)
 |x v=>
  cases v<;>first|rfl|skip
  rename_i a n c
  cases a<;>cases n<;>cases c<;>rfl
 |_=>rfl
def ai0(y:List Nat)(fr:VFr):VFr:=fun t=>if memN t y=true then(match fr t with
 |some (.x v)=>some (.x v)
 |_=>none)else fr t
theorem dy3{y:List Nat}{o:Operand}(h:e26 y o=false):vev (ai0 y fr) o=vev fr o:=by
 cases o with
 |tmp t=>
  have:memN t y=false:=h
  simp only[vev,ai0]
  rw[if_neg (by rw[this];simp)]
 |const v=>cases v<;>rfl
 |_=>rfl
theorem bo8{t:Nat}{v:Value}(h:vx fr (.tmp t)=some v):fr t=some (.x v):=by
 unfold vx at h
 simp only[vev]at h
 split at h
 ·rename_i h1;cases h;exact h1
 ·cases h
theorem xn8{y:List Nat}{o:Operand}{v:Value}(h:vx fr o=some v):vx (ai0 y fr) o=some v:=by
 cases o with
 |tmp t=>
  have h1:=bo8 h
  have h2:ai0 y fr t=some (.x v):=by
   unfold ai0
   split
   ·rw[h1]
   ·exact h1
  unfold vx
  simp only[vev,h2]
 |const v=>cases v<;>exact h
 |_=>exact h
theorem zy8{y:List Nat}(hold: ∀t a,memN t y=false→fr t=some a→ ∃w,f t=some w∧VR hR A0 Z0 Zp0 a w)(hx: ∀t v,fr t=some (.x v)→f t=some v):FRV hR A0 Z0 Zp0 (ai0 y fr) f:=by
 intro t a ha
 unfold ai0 at ha
 split at ha
 ·split at ha
  ·rename_i h1
   cases ha
   exact⟨_,hx t _ h1,by rw[VR]⟩
  ·cases ha
 ·rename_i h1
  exact hold t a (by simpa using h1) ha
theorem uc6{y:List Nat}(hf:FRV hR A0 Z0 Zp0 (ai0 y fr) f){o:Operand}{a:AV}(h:e26 y o=false)(he:vev fr o=some a):inA A0.length a:=by
 rw[←dy3 h]at he
 obtain⟨w,_,h2⟩:=cj0 hf he
 exact h2.inA
theorem gw6{y:List Nat}(hf:FRV hR A0 Z0 Zp0 (ai0 y fr) f){op:AOp}{a:AV}(hp:vw0 y op=true)(he:lu1 fr ((A0++N).map AT.era) op=some a):lu1 (ai0 y fr) (A0.map AT.era) op=some a:=by
 cases op with
 |mv x=>
  have hx:e26 y x=false:=by simpa [vw0]using hp
  simp only[lu1]at he⊢
  rw[dy3 hx]
  exact he
 |ld agg n x=>
  have hx:e26 y x=false:=by simpa [vw0]using hp
  simp only[lu1]at he⊢
  rw[dy3 hx]
  split at he
  ·rename_i b h1
   have hb:=uc6 hf hx h1
   rw[p79 hb]at he
   split at he
   ·rename_i pa h2
    have hpa:=nf1 (A0:=A0) hb h2
    rw[ld5 hpa,hs3 hpa]at he
    exact he
   ·cases he
  ·cases he
 |nilck x=>
  have hx:e26 y x=false:=by simpa [vw0]using hp
  simp only[lu1]at he⊢
  rw[dy3 hx]
  split at he
  ·rename_i b h1
   have hb:=uc6 hf hx h1
   rw[p79 hb]at he
   split at he
   ·rename_i pa h2
    rw[ko8 (nf1 (A0:=A0) hb h2)]at he
    exact he
   ·cases he
  ·cases he
 |faddr k x=>
  have hx:e26 y x=false:=by simpa [vw0]using hp
  simp only[lu1]at he⊢
  rw[dy3 hx]
  split at he
  ·rename_i b h1
   have hb:=uc6 hf hx h1
   rw[p79 hb]at he
   split at he
   ·rename_i pa h2
    rw[ko8 (nf1 (A0:=A0) hb h2)]at he
    exact he
   ·cases he
  ·cases he
 |fld agg off n x=>
  have hx:e26 y x=false:=by simpa [vw0]using hp
  simp only[lu1]at he⊢
  rw[dy3 hx]
  exact he
 |iaddr size x z=>
  have hx:e26 y x=false:=by simpa [vw0]using hp
  simp only[lu1]at he⊢
  rw[dy3 hx]
  split at he
  ·rename_i b k j h1 h1'
   have hb:=uc6 hf hx h1
   rw[eb4 hb]at he
   simp only[h1,xn8 h1']
   exact he
  ·cases he
 |iaddrA len size x z=>
  have hx:e26 y x=false:=by simpa [vw0]using hp
  simp only[lu1]at he⊢
  rw[dy3 hx]
  split at he
  ·rename_i b k j h1 h1'
   have hb:=uc6 hf hx h1
   rw[p79 hb]at he
   simp only[h1,xn8 h1']
   split at he
   ·rename_i pa h2
    rw[ko8 (nf1 (A0:=A0) hb h2)]at he
    exact he
   ·cases he
  ·cases he
 |idxA len size agg x z=>
  have hx:e26 y x=false:=by simpa [vw0]using hp
  simp only[lu1]at he⊢
  rw[dy3 hx]
  split at he
  ·rename_i cs k j h1 h1'
   simp only[h1,xn8 h1']
   exact he
  ·cases he
 |ext k x=>
  have hx:e26 y x=false:=by simpa [vw0]using hp
  simp only[lu1]at he⊢
  rw[dy3 hx]
  exact he
 |_=>cases hp
end
def wold(n:Nat):Value→Prop
 | .pointer (some p)=>p.block<n
 | .slice (some p) _ _=>p.block<n
 |_=>True
theorem VR.wold{hR:H}{A0:List AT}{Z0 Zp0:Nat→Prop}{a:AV}{w:Value}(hr:VR hR A0 Z0 Zp0 a w)(h:bt7 (some a)=true):Vm.wold hR.length w:=by
 cases a with
 |fz b t=>
  rw[VR]at hr
  cases t with
  |sl nl e u cs=>
   rw[Rd]at hr
   rcases hr with⟨_,_,_,rfl⟩|⟨o,off,n,c,r,rfl,_,h2,_⟩
   ·trivial
   ·exact h42 h2
  |pt e cs=>
   rw[Rd]at hr
   obtain⟨o,r,rfl,_,h2,_⟩:=hr
   exact h42 h2
  |mp e cs=>
   rw[Rd]at hr
   obtain⟨o,r,rfl,_,h2,_⟩:=hr
   trivial
  |ex t=>
   rw[Rd]at hr
   cases t with
   |sl nl e u cs=>
    rw[Ex]at hr
    obtain⟨o,n,r,rfl,_,h2,_⟩:=hr
    exact h42 h2
   |pt e cs=>
    rw[Ex]at hr
    obtain⟨o,r,rfl,_,h2,_⟩:=hr
    exact h42 h2
   |mp e cs=>rw[Ex]at hr;exact hr.elim;all_goals simp
   |_=>cases h
  |_=>cases h
 |fzc b cs i=>
  rw[VR]at hr
  obtain⟨o,off,r,rfl,_,h2,_⟩:=hr
  exact h42 h2
 |_=>cases h
theorem rz1{fr:VFr}{x:Operand}(h2:bt7 (vev fr x)=true): ∃t,x= .tmp t:=by
 cases x with
 |tmp t=>exact⟨t,rfl⟩
 |const c=>
  exfalso
  unfold vev at h2
  split at h2<;>first|(cases h2;done)|(split at h2<;>first|(cases h2;done)|skip)|skip
  all_goals first|(cases h2;done)|(rename_i hh;cases hh)|skip
 |global g=>cases h2
 |func g=>cases h2
theorem ff3{h:H}{fr:VFr}{f:Fr}{n:Nat}{y:List Nat}(hadr: ∀t a,memN t y=false→fr t=some a→bt7 (some a)=true→ ∃w,f t=some w∧Vm.wold n w){op:AOp}(hv:vadr fr y op=true){v:Value}(he:aop f h op=some (some v,h))(hmv: ∀x,op= .mv x→bt7 (vev fr x)=true):Vm.wold n v:=by
 have key: ∀x,e26 y x=false→bt7 (vev fr x)=true→ ∃w,ev f x=some w∧Vm.wold n w:=fun x h1 h2=>by
  obtain⟨t,rfl⟩:=rz1 h2
  simp only[vev]at h2
  cases ht:fr t with
  |none=>rw[ht]at h2;cases h2
  |some a=>rw[ht]at h2;exact hadr t a h1 ht h2
 cases op with
 |mv x=>
  have h1:e26 y x=false:=by simpa [vadr]using hv
  obtain⟨w,k1,k2⟩:=key x h1 (hmv x rfl)
  simp only[aop,k1]at he
  cases he;exact k2
 |nilck x=>
  simp only[vadr,b83,rd4]at hv
  obtain⟨w,k1,k2⟩:=key x hv.1 hv.2
  simp only[aop,k1]at he
  split at he
  ·rename_i h1;cases h1;cases he;exact k2
  ·cases he
 |faddr off x=>
  simp only[vadr,b83,rd4]at hv
  obtain⟨w,k1,k2⟩:=key x hv.1 hv.2
  simp only[aop,k1]at he
  split at he
  ·rename_i h1;cases h1
   split at he
   ·cases he
   ·cases he;exact k2
  ·cases he
 |iaddr size x i=>
  simp only[vadr,b83,rd4]at hv
  obtain⟨w,k1,k2⟩:=key x hv.1 hv.2
  simp only[aop,k1]at he
  split at he
  ·rename_i h1 _;cases h1
   split at he
   ·split at he
    ·cases he
    ·cases he;exact k2
   ·cases he
  ·cases he
 |iaddrA len size x i=>
  simp only[vadr,b83,rd4]at hv
  obtain⟨w,k1,k2⟩:=key x hv.1 hv.2
  simp only[aop,k1]at he
  split at he
  ·rename_i h1 _;cases h1
   split at he
   ·split at he
    ·cases he
    ·cases he;exact k2
   ·cases he
  ·cases he
 |_=>cases hv
structure RI (hR:H) (A0:List AT) (Z0 Zp0:Nat→Prop) (s:VReg) (f:Fr) (h:H) (A:List AT) (Z Zp:Nat→Prop):Prop where
 R:s.R=A.map AT.era
 inv:Inv h A Z Zp
 fr:FRV h A Z Zp s.fr f
 ext:Ext hR A0 Zp0 h A Zp
 pin: ∀(i:Nat) (a k:AT),A0[i]? =some a→A[i]? =some k→k.val=a.val∧(a.isV=false→k.isV=false)
 len:A0.length≤A.length
 adr: ∀t a,memN t s.y=false→s.fr t=some a→bt7 (some a)=true→ ∃w,f t=some w∧wold hR.length w
 old:s.dt=false→hR<+:h∧(∃N,A=A0++N)∧ ∀t a,memN t s.y=false→s.fr t=some a→ ∃w,f t=some w∧VR hR A0 Z0 Zp0 a w
theorem g25: ∀{ks:List Nat} {fr:VFr} {t:Nat} {a:AV},(fr.inv ks) t=some a→fr t=some a∧je7 ks a=false
 | [],fr,t,a,h=>⟨h,rfl⟩
 |r::ks,fr,t,a,h=>by
  obtain⟨h1,h2⟩:=g25 (ks:=ks) (fr:=fr.inv1 r) h
  unfold VFr.inv1 at h1
  cases hft:fr t with
  |none=>rw[hft]at h1;cases h1
  |some b=>
   rw[hft]at h1
   simp only[]at h1
   cases hs:by8 r b with
   |true=>rw[hs]at h1;cases h1
   |false=>
    rw[hs]at h1
    cases h1
    refine⟨rfl, ?_⟩
    unfold je7 at h2⊢
    rw[List.any_cons,hs,h2];rfl
theorem p67{a b:Nat}:(Nat.beq a b=true)↔a=b:=⟨bg4,fun h=>by subst h;exact b55 _⟩
theorem ep1{t d:Nat}{y:List Nat}(h:memN t (d::y)=false):t≠d∧memN t y=false:=by
 rw[memN]at h
 cases hb:Nat.beq t d with
 |true=>rw[hb]at h;cases h
 |false=>
  rw[hb]at h
  exact⟨fun e=>(by rw[p67.2 e]at hb;cases hb),h⟩
theorem nd0{t d:Nat}: ∀{y:List Nat},memN t (iv1 d y)=false→t=d∨memN t y=false
 | [],h=> .inr h
 |a::y,h=>by
  rw[iv1]at h
  cases hb:Nat.beq a d with
  |true=>
   rw[hb]at h
   rcases nd0 (y:=y) h with h1|h1
   ·exact .inl h1
   ·by_cases ht:t=d
    ·exact .inl ht
    ·refine .inr ?_
     rw[memN]
     have:a=d:=p67.1 hb
     subst this
     cases hb2:Nat.beq t a with
     |true=>exact absurd (p67.1 hb2) ht
     |false=>exact h1
  |false=>
   rw[hb]at h
   obtain⟨h1,h2⟩:=ep1 h
   rcases nd0 (y:=y) h2 with h3|h3
   ·exact .inl h3
   ·refine .inr ?_
    rw[memN]
    cases hb2:Nat.beq t a with
    |true=>exact absurd (p67.1 hb2) h1
    |false=>exact h3
theorem dd0{fr:VFr}{d:Option Nat}{v:Option AV}{t:Nat}{a:AV}(h:(fr.put d v) t=some a):(d=some t∧v=some a)∨(d≠some t∧fr t=some a):=by
 cases d with
 |none=>exact .inr ⟨by simp,by cases v<;>exact h⟩
 |some s=>
  cases v with
  |none=>
   simp only[VFr.put,VFr.del]at h
   cases hb:Nat.beq t s with
   |true=>rw[hb]at h;cases h
   |false=>
    rw[hb]at h
    exact .inr ⟨fun e=>(by cases e;rw[b55]at hb;cases hb),h⟩
  |some v=>
   simp only[VFr.put,VFr.set]at h
   cases hb:Nat.beq t s with
   |true=>rw[hb]at h;cases h;exact .inl ⟨by rw[p67.1 hb],rfl⟩
   |false=>
    rw[hb]at h
    exact .inr ⟨fun e=>(by cases e;rw[b55]at hb;cases hb),h⟩
theorem bb2{f:Fr}{t:Nat}{w:Value}:(f.put (some t) (some w)) t=some w:=by
 simp only[Fr.put,Fr.set,b55];rfl
theorem lr5{f:Fr}{d:Option Nat}{v:Option Value}{t:Nat}(h:d≠some t):(f.put d v) t=f t:=by
 cases d with
 |none=>cases v<;>rfl
 |some s=>
  have hb:Nat.beq t s=false:=by
   cases hb:Nat.beq t s with
   |true=>exact absurd (by rw[p67.1 hb]) h
   |false=>rfl
  cases v<;>simp only[Fr.put,Fr.set,Fr.del,hb]<;>rfl
section
variable {hR h h':H} {A0 A A':List AT} {Z0 Zp0 Z Zp Z' Zp':Nat→Prop} {s:VReg} {f:Fr}
theorem RI.next(I:RI hR A0 Z0 Zp0 s f h A Z Zp){o:AOper}{r:Option AV×Rts×Option (List Nat)}{w:Option Value}(st:Step h A Z Zp r w h' A' Z' Zp')
 (hold:s.dt=false→r.2.2=none→vw0 s.y o.op=true→ ∀a v,r.1=some a→w=some v→VR hR A0 Z0 Zp0 a v)
 (hadr:r.2.2=none→vadr s.fr s.y o.op=true→ ∀a v,r.1=some a→w=some v→bt7 (some a)=true→wold hR.length v):RI hR A0 Z0 Zp0 (m63 o s r) (f.put o.dst w) h' A' Z' Zp':=by
 have hsame:=st.ext.same I.inv
 have hsame2:Same h h' Zp:=fun x hx=>hsame x (I.inv.zp x hx)
 have hfr: ∀ks,r.2.2.getD []=ks→FRV h' A' Z' Zp' ((s.fr.inv ks).put o.dst r.1) (f.put o.dst w):=fun ks hks t a ha=>by
  rcases dd0 ha with⟨h1,h2⟩|⟨h1,h2⟩
  ·have hv:=st.v
   rw[h2]at hv
   cases w with
   |none=>exact hv.elim
   |some w=>exact⟨w,by rw[h1];exact bb2,hv⟩
  ·obtain⟨h3,h4⟩:=g25 h2
   obtain⟨w',h5,h6⟩:=I.fr t a h3
   exact⟨w',by rw[lr5 h1];exact h5,VR.move st.z st.ext.zp hsame hsame2 (by rw[←hks];exact st.st) h6 h4⟩
 have hpin: ∀(i:Nat) (a k:AT),A0[i]? =some a→A'[i]? =some k→k.val=a.val∧(a.isV=false→k.isV=false):=fun i a k h1 h2=>by
  have hi:=(ck5.1 h1).1
  have hiA:i<A.length:=by have:=I.len;omega
  obtain⟨p1,p2⟩:=I.pin i a A[i] h1 (wu3 hiA)
  obtain⟨q1,q2⟩:=st.st.pin i A[i] k (wu3 hiA) h2
  exact⟨q1.trans p1,fun hx=>q2 (p2 hx)⟩
 have hlen:A0.length≤A'.length:=md7 I.len st.st.len
 obtain⟨v,R',ks⟩:=r
 cases ks with
 |some ks=>
  refine⟨st.R,st.inv,hfr ks rfl,I.ext.trans st.ext,hpin,hlen,fun t a ht ha hz=> ?_,fun h=>by cases h⟩
  have ht:memN t (match o.dst with|none=>s.y|some d=>d::s.y)=false:=ht
  rcases dd0 ha with⟨h1,h2⟩|⟨h1,h2⟩
  ·rw[h1]at ht
   exact absurd rfl (ep1 ht).1
  ·have hy:memN t s.y=false:=by
    cases hd:o.dst with
    |none=>rw[hd]at ht;exact ht
    |some d=>rw[hd]at ht;exact(ep1 ht).2
   obtain⟨w',h5,h6⟩:=I.adr t a hy (g25 h2).1 hz
   exact⟨w',by rw[lr5 h1];exact h5,h6⟩
 |none=>
  have hyo: ∀t,o.dst≠some t→memN t (qq0 s.fr s.y s.dt o)=false→memN t s.y=false:=fun t h1 ht=>by
   unfold qq0 at ht
   cases hd:o.dst with
   |none=>rw[hd]at ht;exact ht
   |some d=>
    rw[hd]at ht
    simp only[]at ht
    split at ht
    ·split at ht
     ·rcases nd0 ht with h3|h3
      ·exact absurd (by rw[hd,h3]) h1
      ·exact h3
     ·exact(ep1 ht).2
    ·split at ht
     ·rcases nd0 ht with h3|h3
      ·exact absurd (by rw[hd,h3]) h1
      ·exact h3
     ·exact(ep1 ht).2
  refine⟨st.R,st.inv,hfr [] rfl,I.ext.trans st.ext,hpin,hlen,fun t a ht ha hz=> ?_,fun hdt=> ?_⟩
  ·have ht:memN t (qq0 s.fr s.y s.dt o)=false:=ht
   rcases dd0 ha with⟨h1,h2⟩|⟨h1,h2⟩
   ·have hv:=st.v
    rw[h2]at hv
    cases w with
    |none=>exact hv.elim
    |some w=>
     refine⟨w,by rw[h1];exact bb2, ?_⟩
     unfold qq0 at ht
     rw[h1]at ht
     simp only[]at ht
     split at ht
     ·rename_i hdt
      split at ht
      ·rename_i hp
       exact(hold hdt rfl hp a w h2 rfl).wold hz
      ·exact absurd rfl (ep1 ht).1
     ·split at ht
      ·rename_i hp
       exact hadr rfl hp a w h2 rfl hz
      ·exact absurd rfl (ep1 ht).1
   ·obtain⟨w',h5,h6⟩:=I.adr t a (hyo t h1 ht) h2 hz
    exact⟨w',by rw[lr5 h1];exact h5,h6⟩
  have hdt:s.dt=false:=hdt
  obtain⟨o1,⟨N,o2⟩,o3⟩:=I.old hdt
  obtain⟨c1,M,c2⟩:=st.clean rfl
  refine⟨o1.trans c1,⟨N++M,by rw[c2,o2,eh9]⟩,fun t a ht ha=> ?_⟩
  have ht:memN t (qq0 s.fr s.y s.dt o)=false:=ht
  rcases dd0 ha with⟨h1,h2⟩|⟨h1,h2⟩
  ·unfold qq0 at ht
   rw[h1,hdt]at ht
   simp only[]at ht
   split at ht
   ·rename_i hc
    have hv:=st.v
    rw[h2]at hv
    cases w with
    |none=>exact hv.elim
    |some w=>exact⟨w,by rw[h1];exact bb2,hold hdt rfl hc a w h2 rfl⟩
   ·exact absurd rfl (ep1 ht).1
  ·have hy:=hyo t h1 ht
   obtain⟨w',h5,h6⟩:=o3 t a hy h2
   exact⟨w',by rw[lr5 h1];exact h5,h6⟩
theorem xn0{W:VW}{hn:Hint}{d:Option Nat}{fr:VFr}{R:Rts}{y:List Nat}{op:AOp}{v:Option AV}{R':Rts}(he:vop W hn d fr R op=some (v,R',none))(hp:vw0 y op=true): ∃a,v=some a∧lu1 fr R op=some a:=by
 cases op with
 |ld agg n x=>
  simp only[vop]at he
  split at he
  ·split at he
   ·split at he
    ·split at he
     ·cases he
     ·cases he
    ·cases he
   ·cases he
  ·split at he
   ·cases he;exact⟨_,rfl, ‹_›⟩
   ·cases he
 |mv x=>
  simp only[vop]at he
  split at he
  ·rename_i a h1
   simp only[hx3,br6]at he
   obtain⟨rfl,rfl,h2⟩:=he
   refine⟨_,rfl, ?_⟩
   have:(vnil hn R d a).1=a:=by
    unfold vmvd at h2
    unfold vnil
    split at h2
    ·split at h2
     ·split at h2
      ·split at h2
       ·rename_i hl hu
        simp only[hl,if_pos hu]
       ·cases h2
      ·rename_i hl
       simp only[hl]
     ·rfl
    ·rfl
   simp only[lu1]
   rw[this,h1]
  ·cases he
 |nilck=>simp only[vop]at he;split at he<;>first|(cases he;exact⟨_,rfl, ‹_›⟩)|cases he
 |faddr=>simp only[vop]at he;split at he<;>first|(cases he;exact⟨_,rfl, ‹_›⟩)|cases he
 |fld=>simp only[vop]at he;split at he<;>first|(cases he;exact⟨_,rfl, ‹_›⟩)|cases he
 |iaddr=>simp only[vop]at he;split at he<;>first|(cases he;exact⟨_,rfl, ‹_›⟩)|cases he
 |iaddrA=>simp only[vop]at he;split at he<;>first|(cases he;exact⟨_,rfl, ‹_›⟩)|cases he
 |idxA=>simp only[vop]at he;split at he<;>first|(cases he;exact⟨_,rfl, ‹_›⟩)|cases he
 |ext=>simp only[vop]at he;split at he<;>first|(cases he;exact⟨_,rfl, ‹_›⟩)|cases he
 |_=>cases hp
theorem fp9{A:List AT}{Z Zp:Nat→Prop}{fr:VFr}(hf:FRV h A Z Zp fr f){g:Option (Nat×Bool)}{b:Bool}(he:vgd fr g=some b):gd f g=some b:=by
 cases g with
 |none=>exact he
 |some p=>
  obtain⟨t,want⟩:=p
  simp only[vgd]at he
  split at he
  ·rename_i h1
   obtain⟨w,h2,h3⟩:=hf t _ h1
   rw[VR]at h3
   simp only[gd,h2,h3];exact he
  ·rename_i h1
   obtain⟨w,h2,h3⟩:=hf t _ h1
   rw[VR]at h3
   obtain⟨ws,rfl,_⟩:=h3
   simp only[gd,h2];exact he
  ·cases he
variable {W:VW} {T:Tab} {g:VGo}
theorem ez4(hg: ∀f vs C r,s21 W g f vs C=some r→VOK T f vs C r)(i0:Inv hR A0 Z0 Zp0)(I:RI hR A0 Z0 Zp0 s f h A Z Zp){hn:Hint}{o:AOper}{s':VReg}(he:yi8 W g hn o s=some s'):
 ∃f' h' A' Z' Zp',km6 T (go T) hR.length o f h=some (f',h')∧RI hR A0 Z0 Zp0 s' f' h' A' Z' Zp':=by
 unfold yi8 at he
 split at he
 ·rename_i hgd
  cases he
  refine⟨f.put o.dst (some (.tuple #[])),h,A,Z,Zp,by unfold km6 core;rw[fp9 I.fr hgd],⟨I.R,I.inv,fun t a ha=> ?_,I.ext,I.pin,I.len,fun t a ht ha hz=> ?_,fun hdt=> ?_⟩⟩
  ·rcases dd0 ha with⟨h1,h2⟩|⟨h1,h2⟩
   ·cases h2
    exact⟨_,by rw[h1];exact bb2,by rw[VR];exact⟨[],rfl, .nil⟩⟩
   ·obtain⟨w',h5,h6⟩:=I.fr t a h2
    exact⟨w',by rw[lr5 h1];exact h5,h6⟩
  ·rcases dd0 ha with⟨h1,h2⟩|⟨h1,h2⟩
   ·cases h2;cases hz
   ·have hy:memN t s.y=false:=by
     have ht:memN t (match o.dst with|none=>s.y|some d=>d::s.y)=false:=ht
     cases hd:o.dst with
     |none=>rw[hd]at ht;exact ht
     |some d=>rw[hd]at ht;exact(ep1 ht).2
    obtain⟨w',h5,h6⟩:=I.adr t a hy h2 hz
    exact⟨w',by rw[lr5 h1];exact h5,h6⟩
  ·obtain⟨o1,o2,o3⟩:=I.old hdt
   refine⟨o1,o2,fun t a ht ha=> ?_⟩
   rcases dd0 ha with⟨h1,h2⟩|⟨h1,h2⟩
   ·have ht:memN t (match o.dst with|none=>s.y|some d=>d::s.y)=false:=ht
    rw[h1]at ht
    exact absurd rfl (ep1 ht).1
   ·have hy:memN t s.y=false:=by
     have ht:memN t (match o.dst with|none=>s.y|some d=>d::s.y)=false:=ht
     cases hd:o.dst with
     |none=>rw[hd]at ht;exact ht
     |some d=>rw[hd]at ht;exact(ep1 ht).2
    obtain⟨w',h5,h6⟩:=o3 t a hy h2
    exact⟨w',by rw[lr5 h1];exact h5,h6⟩
 ·rename_i hgd
  split at he
  ·rename_i r hc
   cases he
   have hgd':=fp9 I.fr hgd
   have hcall: ∀(fn:FuncId) (vs:List AV) (ws:List Value),VRL h A Z Zp vs ws→vdo W g s.R o.chk fn vs=some r→(vw0 s.y o.op=false∧vadr s.fr s.y o.op=false)→(∀w h',call T fn ws h=some (w,h')→(o.chk=true→h<+:h')→core T (go T) hR.length o f h=some (some w,h'))→ ∃f' h' A' Z' Zp',km6 T (go T) hR.length o f h=some (f',h')∧RI hR A0 Z0 Zp0 (m63 o s r) f' h' A' Z' Zp':=fun fn vs ws hv hd hnp hcore=>by
    rw[I.R]at hd
    obtain⟨w,h',A',Z',Zp',c1,st,c2⟩:=eb3 hg I.inv hv hd
    refine⟨f.put o.dst (some w),h',A',Z',Zp',by unfold km6;rw[hcore w h' c1 c2],I.next st (fun _ _ hp=> ?_) fun _ hp=> ?_⟩
    ·rw[hnp.1]at hp;cases hp
    ·rw[hnp.2]at hp;cases hp
   have hbeh: ∀{α:Type} {h1:H} {x:Option α},(o.chk=true→h<+:h1)→behind o.chk h h1 x=x:=fun{α h1 x} hb=>by
    cases hck:o.chk with
    |false=>rfl
    |true=>exact zy7 (hb hck)
   unfold ej2 at hc
   split at hc
   ·rename_i fn args hop
    split at hc
    ·rename_i vs h1
     obtain⟨ws,h2,h3⟩:=ys0 I.fr h1
     refine hcall fn vs ws h3 hc (by rw[hop];exact⟨rfl,rfl⟩) fun w h' c1 c2=> ?_
     unfold core
     rw[hgd',hop]
     simp only[h2,ve7,c1]
     exact hbeh c2
    ·cases hc
   ·rename_i x args hop
    split at hc
    ·rename_i fn cap vs h1 h1'
     obtain⟨wf,h2,h3⟩:=cj0 I.fr h1
     obtain⟨ws,h4,h5⟩:=ys0 I.fr h1'
     rw[VR]at h3
     obtain⟨cs,rfl,h6⟩:=h3
     refine hcall fn (vs++cap) (ws++cs) (h5.app h6) hc (by rw[hop];exact⟨rfl,rfl⟩) fun w h' c1 c2=> ?_
     unfold core
     rw[hgd',hop]
     simp only[h2,h4,ve7]
     simp only[show(#[]:Array Value).isEmpty=true from rfl,oo9,c1]
     exact hbeh c2
    ·cases hc
   ·rename_i hnc1 hnc2
    split at hc
    ·rename_i hold
     rw[I.R]at hc
     obtain⟨w,h',A',Z',Zp',c1,st⟩:=y69 I.inv I.fr hc
     --what is old
     have hfx: ∀t v,s.fr t=some (.x v)→f t=some v:=fun t v ht=>by
      obtain⟨w',k1,k2⟩:=I.fr t _ ht
      rw[VR]at k2
      rw[k1,k2]
     have hlk:s.dt=false→vw0 s.y o.op=true→ ∀a,lu1 s.fr (A.map AT.era) o.op=some a→ ∃v,aop f hR o.op=some (some v,hR)∧VR hR A0 Z0 Zp0 a v∧aop f h o.op=some (some v,h):=fun hdt hp a hl=>by
      obtain⟨o1,⟨N,o2⟩,o3⟩:=I.old hdt
      have hfo:=zy8 (f:=f) o3 hfx
      rw[o2]at hl
      have hl0:=gw6 hfo hp hl
      obtain⟨v,k1,k2⟩:=look_ok i0 hfo hl0
      exact⟨v,k1,k2,z44 o1 hl0 k1⟩
     have hcore:core T (go T) hR.length o f h=some (w,h'):=by
      have holder:wb6 hR.length f o=true:=by
       unfold wb6
       split
       ·rename_i agg n x hck hop
        unfold gd0 at hold
        rw[hck,hop]at hold
        simp only[b83,rd4]at hold
        cases hdt:s.dt with
        |true=>
         rw[hdt]at hold
         have hz:=hold.2
         rw[hop]at c1
         simp only[aop]at c1
         split at c1
         ·rename_i ad hev
          obtain⟨t,rfl⟩:=rz1 hz
          simp only[vev]at hz
          cases ht:s.fr t with
          |none=>rw[ht]at hz;cases hz
          |some a=>
           rw[ht]at hz
           obtain⟨w1,k1,k2⟩:=I.adr t a hold.1 ht hz
           have hev:f t=some (.pointer (some ad)):=hev
           rw[k1]at hev
           cases hev
           exact ce5 k2
         ·cases c1
        |false=>
        have hp:vw0 s.y o.op=true:=by rw[hop];simp[vw0,hold.1]
        have hlk0: ∃a,lu1 s.fr (A.map AT.era) o.op=some a:=by
         rw[hop]at hc⊢
         simp only[vop]at hc
         split at hc
         ·--taken out:it is looked at all the same
          rename_i htk
          split at hc
          ·rename_i b h1
           split at hc
           ·rename_i r' p j h2
            split at hc
            ·rename_i v R1 h3
             have hag:agg=false:=by cases agg<;>simp_all
             subst hag
             unfold ek8 at h3
             simp only[lu1,h1,h2,vy4]
             split at h3
             ·rename_i s0 q1
              split at h3
              ·rename_i cs0 q2
               split at h3
               ·rename_i k q3
                split at h3
                ·rename_i hn
                 cases k with
                 |sl=>exact⟨_,rfl⟩
                 |pt=>exact⟨_,rfl⟩
                 |mp=>exact⟨_,rfl⟩
                 |_=>simp[hc9]at hn
                ·cases h3
               ·cases h3
              ·cases h3
             ·cases h3
            ·cases hc
           ·cases hc
          ·cases hc
         ·split at hc
          ·exact⟨_, ‹_›⟩
          ·cases hc
        obtain⟨a,ha⟩:=hlk0
        obtain⟨v,k1,k2,k3⟩:=hlk hdt hp a ha
        rw[hop]at k1
        simp only[aop]at k1
        split at k1
        ·rename_i ad hev
         refine ce5 ?_
         split at k1
         ·cases k1
         ·split at k1
          ·split at k1
           ·rename_i hl
            unfold H.lds at hl
            split at hl
            ·rename_i hr;exact h42 hr
            ·cases hl
           ·cases k1
          ·split at k1
           ·rename_i hl
            unfold H.ld1 at hl
            split at hl
            ·rename_i hr;exact h42 hr
            ·cases hl
           ·cases k1
        ·cases k1
       ·rfl
      unfold core
      rw[hgd']
      cases hop:o.op with
      |call fn args=>exact absurd hop (hnc1 _ _)
      |calld x args=>exact absurd hop (hnc2 _ _)
      |_=>simp only[];rw[if_pos holder,←hop];exact c1
     refine⟨f.put o.dst w,h',A',Z',Zp',by unfold km6;rw[hcore],I.next st (fun hdt hks hp a v ha hw=> ?_) fun hks hp a v ha hw hz=> ?_⟩
     rotate_left
     ·obtain⟨v',R',ks⟩:=r
      have hks:ks=none:=hks
      subst hks
      have ha:v'=some a:=ha
      subst ha hw
      have hpp:vw0 s.y o.op=true:=by
       cases hop:o.op with
       |mv x=>rw[hop]at hp;exact hp
       |nilck x=>rw[hop]at hp;simp only[vadr,b83]at hp;exact hp.1
       |faddr k x=>rw[hop]at hp;simp only[vadr,b83]at hp;exact hp.1
       |iaddr k x i=>rw[hop]at hp;simp only[vadr,b83]at hp;exact hp.1
       |iaddrA k l x i=>rw[hop]at hp;simp only[vadr,b83]at hp;exact hp.1
       |_=>rw[hop]at hp;cases hp
      obtain⟨a',e1,e2⟩:=xn0 hc hpp
      cases e1
      obtain⟨v3,m1,m2⟩:=look_ok I.inv I.fr e2
      rw[c1]at m1
      cases m1
      refine ff3 I.adr hp c1 fun x hx=> ?_
      rw[hx]at e2
      have e2:vev s.fr x=some a:=e2
      rw[e2];exact hz
     obtain⟨v',R',ks⟩:=r
     have hks:ks=none:=hks
     subst hks
     obtain⟨a',e1,e2⟩:=xn0 hc hp
     have ha:v'=some a:=ha
     rw[ha]at e1;cases e1
     obtain⟨v2,k1,k2,k3⟩:=hlk hdt hp a e2
     rw[c1]at k3
     rw[hw]at k3
     cases k3
     exact k2
    ·cases hc
  ·cases he
 ·cases he
theorem tf5(hg: ∀f vs C r,s21 W g f vs C=some r→VOK T f vs C r)(i0:Inv hR A0 Z0 Zp0){hn:Hint}: ∀{l:List AOper} {s s':VReg} {f:Fr} {h:H} {A:List AT} {Z Zp:Nat→Prop},RI hR A0 Z0 Zp0 s f h A Z Zp→x27 W g hn l s=some s'→
 ∃f' h' A' Z' Zp',gf4 T (go T) hR.length l f h=some (f',h')∧RI hR A0 Z0 Zp0 s' f' h' A' Z' Zp'
 | [],s,s',f,h,A,Z,Zp,I,he=>by cases he;exact⟨f,h,A,Z,Zp,rfl,I⟩
 |o::l,s,s',f,h,A,Z,Zp,I,he=>by
  simp only[x27]at he
  split at he
  ·rename_i s1 h1
   obtain⟨f1,h1',A1,Z1,Zp1,k1,I1⟩:=ez4 hg i0 I h1
   obtain⟨f2,h2,A2,Z2,Zp2,k2,I2⟩:=tf5 hg i0 I1 he
   exact⟨f2,h2,A2,Z2,Zp2,by simp only[gf4,k1];exact k2,I2⟩
  ·cases he
end
end Go.Vm
namespace Go.Vm
open Go.Am
theorem i87{r:Nat}: ∀{l:List Nat},memN r l=true↔r∈l
 | []=>by simp[memN]
 |a::l=>by
  rw[memN,r04]
  cases hb:Nat.beq r a with
  |true=>simp[p67.1 hb]
  |false=>
   have:r≠a:=fun e=>by rw[p67.2 e]at hb;cases hb
   simp[i87 (l:=l),this]
def sel(A:List AT)(r:Nat):AT:=A[r]?.getD (.junk .nilFunc)
theorem nt5(A:List AT): ∀ids:List Nat,x53 (A.map AT.era) ids=(ids.map (sel A)).map AT.era
 | []=>rfl
 |r::ids=>by
  rw[x53,nf9,nf9,nt5 A ids,us5]
  unfold sel
  cases A[r]? <;>rfl
theorem rp9(x:Nat): ∀(ids:List Nat) (A:List AT),ids.Nodup→(fpL (ids.map (sel A))).count x≤(fpL A).count x
 | [],A,_=>by simp[fpL]
 |r::ids,A,hn=>by
  rw[y50]at hn
  rw[nf9,fpL,m34]
  have ih:=rp9 x ids (A.set r (.junk .nilFunc)) hn.2
  have he:ids.map (sel (A.set r (.junk .nilFunc)))=ids.map (sel A):=ny8 fun r' hr'=>by
   unfold sel
   have hne:r≠r':=fun e=>hn.1 (by rw[e];exact hr')
   rw[b17 hne]
  rw[he]at ih
  cases hA:A[r]? with
  |none=>
   have:sel A r= .junk .nilFunc:=by unfold sel;rw[hA];rfl
   rw[this,op8]
   rw[List.set_eq_of_length_le (by have:=fu5.1 hA;omega)]at ih
   simp;omega
  |some a=>
   have h1:sel A r=a:=by unfold sel;rw[hA];rfl
   have h2:=ju4 x (s:= .junk .nilFunc) hA
   rw[op8]at h2
   rw[h1]
   simp at h2;omega
theorem os9{h:H}{A:List AT}{Z Zp:Nat→Prop}(i:Inv h A Z Zp){ids:List Nat}(hn:ids.Nodup):Inv h (ids.map (sel A)) Z Zp:=by
 have hc:=fun x=>rp9 x ids A hn
 refine⟨ga5.2 fun a ha=> ?_,fun x=>md7 (hc x) (i.nd x),fun o ho=>i.lt o (ea9.2 (by have:=ea9.1 ho;have:=hc o;omega)),fun o ho=>i.nz o (ea9.2 (by have:=ea9.1 ho;have:=hc o;omega)),i.zlt,i.zp⟩
 obtain⟨r,_,rfl⟩:=vf1.1 ha
 unfold sel
 cases hA:A[r]? with
 |none=>show ok h Zp (.junk .nilFunc);rw[ok];rfl
 |some a=>exact ga5.1 i.okA a (vf6 hA)
theorem w21{r:Nat}{acc:List Nat}:(∀x∈acc,x∈(bif memN r acc then acc else acc++[r]))∧r∈(bif memN r acc then acc else acc++[r])∧(acc.Nodup→(bif memN r acc then acc else acc++[r]).Nodup)∧(acc<+:(bif memN r acc then acc else acc++[r])):=by
 cases hm:memN r acc with
 |true=>exact⟨fun x hx=>hx,i87.1 hm,fun h=>h,je0 _⟩
 |false=>
  refine⟨fun x hx=>zk7 _ hx,by simp,fun h=> ?_,w63 _ _⟩
  show(acc++[r]).Nodup
  rw[m71]
  refine⟨h,by simp,fun a ha b hb=> ?_⟩
  simp at hb;subst hb
  rintro rfl
  rw[i87.2 ha]at hm;cases hm
mutual
def e99(ids:List Nat):AV→Prop
 | .own r _=>r∈ids
 | .sub r _ _ _ _=>r∈ids
 | .cell r _ _=>r∈ids
 | .agg l=>kr2 ids l
 | .tup l=>kr2 ids l
 | .fn _ l=>kr2 ids l
 |_=>True
def kr2(ids:List Nat):List AV→Prop
 | []=>True
 |a::l=>e99 ids a∧kr2 ids l
end
mutual
theorem e99.mono{ids ids':List Nat}(h: ∀x∈ids,x∈ids'): ∀{a:AV},e99 ids a→e99 ids' a
 | .own r _,hc=>by rw[e99]at hc⊢;exact h r hc
 | .sub r _ _ _ _,hc=>by rw[e99]at hc⊢;exact h r hc
 | .cell r _ _,hc=>by rw[e99]at hc⊢;exact h r hc
 | .agg l,hc=>by rw[e99]at hc⊢;exact kr2.mono h hc
 | .tup l,hc=>by rw[e99]at hc⊢;exact kr2.mono h hc
 | .fn _ l,hc=>by rw[e99]at hc⊢;exact kr2.mono h hc
 | .x _,_=>by rw[e99]<;>simp
 | .fz _ _,_=>by rw[e99]<;>simp
 | .fzc _ _ _,_=>by rw[e99]<;>simp
theorem kr2.mono{ids ids':List Nat}(h: ∀x∈ids,x∈ids'): ∀{l:List AV},kr2 ids l→kr2 ids' l
 | [],_=>by rw[kr2];trivial
 |a::l,hc=>by rw[kr2]at hc⊢;exact⟨e99.mono h hc.1,kr2.mono h hc.2⟩
end
mutual
theorem at4: ∀(a:AV) (acc:List Nat),(acc<+:rts acc a)∧e99 (rts acc a) a∧(acc.Nodup→(rts acc a).Nodup)
 | .own r _,acc=>by rw[rts,e99];have:=w21 (r:=r) (acc:=acc);exact⟨this.2.2.2,this.2.1,this.2.2.1⟩
 | .sub r _ _ _ _,acc=>by rw[rts,e99];have:=w21 (r:=r) (acc:=acc);exact⟨this.2.2.2,this.2.1,this.2.2.1⟩
 | .cell r _ _,acc=>by rw[rts,e99];have:=w21 (r:=r) (acc:=acc);exact⟨this.2.2.2,this.2.1,this.2.2.1⟩
 | .agg l,acc=>by rw[rts,e99];exact tf6 l acc
 | .tup l,acc=>by rw[rts,e99];exact tf6 l acc
 | .fn _ l,acc=>by rw[rts,e99];exact tf6 l acc
 | .x _,acc=>by rw[rts,e99]<;>simp
 | .fz _ _,acc=>by rw[rts,e99]<;>simp
 | .fzc _ _ _,acc=>by rw[rts,e99]<;>simp
theorem tf6: ∀(l:List AV) (acc:List Nat),(acc<+:rtsL acc l)∧kr2 (rtsL acc l) l∧(acc.Nodup→(rtsL acc l).Nodup)
 | [],acc=>by rw[rtsL,kr2];exact⟨je0 _,trivial,fun h=>h⟩
 |a::l,acc=>by
  rw[rtsL,kr2]
  obtain⟨h1,h2,h3⟩:=at4 a acc
  obtain⟨k1,k2,k3⟩:=tf6 l (rts acc a)
  exact⟨h1.trans k1,⟨e99.mono (fun x hx=>k1.subset hx) h2,k2⟩,fun h=>k3 (h3 h)⟩
end
theorem bq5: ∀(l:List (Nat×AV)) (acc:List Nat),(acc<+:rtsF acc l)∧(∀x∈l,e99 (rtsF acc l) x.2)∧(acc.Nodup→(rtsF acc l).Nodup)
 | [],acc=>⟨je0 _,fun x hx=>(by cases hx),fun h=>h⟩
 |a::l,acc=>by
  rw[rtsF]
  obtain⟨h1,h2,h3⟩:=at4 a.2 acc
  obtain⟨k1,k2,k3⟩:=bq5 l (rts acc a.2)
  refine⟨h1.trans k1,fun x hx=> ?_,fun h=>k3 (h3 h)⟩
  rcases r04.1 hx with rfl|hx
  ·exact e99.mono (fun y hy=>k1.subset hy) h2
  ·exact k2 x hx
theorem w03{r:Nat}: ∀{ids:List Nat},r∈ids→ids[place r ids]? =some r
 | [],h=>by cases h
 |a::ids,h=>by
  rw[place]
  cases hb:Nat.beq r a with
  |true=>rw[p67.1 hb];rfl
  |false=>
   have:r≠a:=fun e=>by rw[p67.2 e]at hb;cases hb
   rcases r04.1 h with h|h
   ·exact absurd h this
   ·show(a::ids)[place r ids+1]? =_
    rw[ok0];exact w03 h
theorem vn2{A:List AT}{ids:List Nat}{r:Nat}(hr:r<A.length)(hm:r∈ids)(p:List Nat):place r ids<(ids.map (sel A)).length∧aget (ids.map (sel A)) (place r ids) p=aget A r p:=by
 have h1:=w03 hm
 refine⟨by rw[q11];exact(ck5.1 h1).1, ?_⟩
 unfold aget
 rw[us5,h1]
 unfold sel
 simp only[eb5]
 rw[wu3 hr];rfl
mutual
theorem hy4{h:H}{A:List AT}{Z Zp:Nat→Prop}{ids:List Nat}: ∀{a:AV} {w:Value},VR h A Z Zp a w→e99 ids a→VR h (ids.map (sel A)) Z Zp (vren ids a) w
 | .x v,w,hr,_=>by rw[vren,VR];rw[VR]at hr;exact hr
 | .fz b t,w,hr,_=>by rw[vren,VR];rw[VR]at hr;exact hr
 | .fzc b cs j,w,hr,_=>by rw[vren,VR];rw[VR]at hr;exact hr
 | .own r p,w,hr,hc=>by
   rw[vren,VR];rw[VR]at hr;rw[e99]at hc
   obtain⟨h1,h2⟩:=vn2 hr.1 hc p
   exact⟨h1,fun b hb=>hr.2 b (by rw[←h2];exact hb)⟩
 | .sub r p u lo n,w,hr,hc=>by
   rw[vren,VR];rw[VR]at hr;rw[e99]at hc
   obtain⟨h1,h2⟩:=vn2 hr.1 hc p
   exact⟨h1,fun b hb=>hr.2 b (by rw[←h2];exact hb)⟩
 | .cell r p j,w,hr,hc=>by
   rw[vren,VR];rw[VR]at hr;rw[e99]at hc
   obtain⟨h1,h2⟩:=vn2 hr.1 hc p
   exact⟨h1,fun b hb=>hr.2 b (by rw[←h2];exact hb)⟩
 | .agg l,w,hr,hc=>by
   rw[vren,VR];rw[VR]at hr;rw[e99]at hc
   obtain⟨ws,h1,h2⟩:=hr
   exact⟨ws,h1,oa7 h2 hc⟩
 | .tup l,w,hr,hc=>by
   rw[vren,VR];rw[VR]at hr;rw[e99]at hc
   obtain⟨ws,h1,h2⟩:=hr
   exact⟨ws,h1,oa7 h2 hc⟩
 | .fn f l,w,hr,hc=>by
   rw[vren,VR];rw[VR]at hr;rw[e99]at hc
   obtain⟨ws,h1,h2⟩:=hr
   exact⟨ws,h1,oa7 h2 hc⟩
theorem oa7{h:H}{A:List AT}{Z Zp:Nat→Prop}{ids:List Nat}: ∀{l:List AV} {ws:List Value},VRL h A Z Zp l ws→kr2 ids l→VRL h (ids.map (sel A)) Z Zp (px1 ids l) ws
 | [],ws,hr,_=>by rw[px1];rw[VRL]at hr⊢;exact hr
 |a::l,ws,hr,hc=>by
  rw[VRL]at hr
  rw[kr2]at hc
  obtain⟨w,ws',rfl,h1,h2⟩:=hr
  rw[px1]
  exact .cons (hy4 h1 hc.1) (oa7 h2 hc.2)
end
theorem of6: ∀n,(hh3 n).length=n
 |0=>rfl
 |n+1=>by rw[hh3,j82,of6 n];rfl
theorem m93: ∀{n i:Nat},i<n→(hh3 n)[i]? =some i
 |0,i,h=>by omega
 |n+1,i,h=>by
  rw[hh3]
  by_cases hi:i<n
  ·rw[bu4 (by rw[of6];exact hi)];exact m93 hi
  ·obtain rfl:i=n:=by omega
   rw[lp1 (by rw[of6];exact jj6 _),of6,ob6];rfl
theorem y43: ∀n,(hh3 n).Nodup
 |0=>List.nodup_nil
 |n+1=>by
  rw[hh3,m71]
  refine⟨y43 n,by simp,fun a ha b hb=> ?_⟩
  simp at hb;subst hb
  obtain⟨i,hi⟩:=es9 ha
  have hl:=(ck5.1 hi).1
  rw[of6]at hl
  rw[m93 hl]at hi
  cases hi;omega
section
variable {h:H} {A:List AT} {Z Zp:Nat→Prop} {fr:VFr} {f:Fr}
theorem of9(hf:FRV h A Z Zp fr f): ∀{ks:List Nat},FRV h A Z Zp (VFr.of (fr.keep ks)) (Fr.of (hy3 f ks))
 | [],t,a,ha=>by cases ha
 |k::ks,t,a,ha=>by
  rw[VFr.keep]at ha
  cases hk:fr k with
  |none=>
   rw[hk]at ha
   obtain⟨w,h1,h2⟩:=of9 hf (ks:=ks) t a ha
   rw[hy3]
   cases hkf:f k with
   |none=>exact⟨w,h1,h2⟩
   |some v=>
    --a slot that is not known,but kept by the first machine
    by_cases htk:t=k
    ·subst htk
     exfalso
     have: ∀ks:List Nat,VFr.of (fr.keep ks) t=some a→fr t=some a:=by
      intro ks
      induction ks with
      |nil=>intro h;cases h
      |cons j ks ih=>
       intro h
       rw[VFr.keep]at h
       cases hj:fr j with
       |none=>rw[hj]at h;exact ih h
       |some b=>
        rw[hj]at h
        simp only[VFr.of]at h
        cases hb:Nat.beq t j with
        |true=>rw[hb]at h;cases h;rw[p67.1 hb];exact hj
        |false=>rw[hb]at h;exact ih h
     rw[this ks ha]at hk;cases hk
    ·refine⟨w, ?_,h2⟩
     simp only[Fr.of]
     have hb:Nat.beq t k=false:=by
      cases hb:Nat.beq t k with
      |true=>exact absurd (p67.1 hb) htk
      |false=>rfl
     rw[hb];exact h1
  |some b=>
   rw[hk]at ha
   simp only[VFr.of]at ha
   obtain⟨wb,h3,h4⟩:=hf k b hk
   rw[hy3,h3]
   cases hb:Nat.beq t k with
   |true=>
    rw[hb]at ha
    cases ha
    exact⟨wb,by simp only[Fr.of,hb];rfl,h4⟩
   |false=>
    rw[hb]at ha
    obtain⟨w,h1,h2⟩:=of9 hf (ks:=ks) t a ha
    exact⟨w,by simp only[Fr.of,hb];exact h1,h2⟩
theorem iw7{ids:List Nat}: ∀{l:List (Nat×AV)} {t:Nat} {a:AV},VFr.of (h09 ids l) t=some a→ ∃b,VFr.of l t=some b∧a=vren ids b∧ ∃x∈l,x.2=b
 | [],t,a,ha=>by cases ha
 |(s,b)::l,t,a,ha=>by
  rw[h09]at ha
  simp only[VFr.of]at ha⊢
  cases hb:Nat.beq t s with
  |true=>rw[hb]at ha;cases ha;exact⟨b,rfl,rfl,(s,b),by simp,rfl⟩
  |false=>
   rw[hb]at ha
   obtain⟨c,h1,h2,x,h3,h4⟩:=iw7 (l:=l) ha
   exact⟨c,h1,h2,x,by simp[h3],h4⟩
theorem m78(i:Inv h A Z Zp)(hf:FRV h A Z Zp fr f){c:Ctx}(hn:c.n≤A.length)(kh:List Nat): ∃A',(ja9 c (fr.keep kh) (A.map AT.era)).2=A'.map AT.era∧Inv h A' Z Zp∧FRV h A' Z Zp (VFr.of (ja9 c (fr.keep kh) (A.map AT.era)).1) (Fr.of (hy3 f kh))∧c.n≤A'.length∧(∀x,(fpL A').count x≤(fpL A).count x)∧ ∀j,j<c.n→A'[j]? =A[j]? :=by
 obtain⟨h1,h2,h3⟩:=bq5 (fr.keep kh) (hh3 c.n)
 have hnd:=h3 (y43 _)
 refine⟨(rtsF (hh3 c.n) (fr.keep kh)).map (sel A),nt5 A _,os9 i hnd,fun t a ha=> ?_, ?_,fun x=>rp9 x _ _ hnd,fun j hj=> ?_⟩
 ·obtain⟨b,k1,rfl,x,k3,k4⟩:=iw7 ha
  obtain⟨w,k5,k6⟩:=of9 hf t b k1
  exact⟨w,k5,hy4 k6 (by rw[←k4];exact h2 x k3)⟩
 ·rw[q11]
  have:=h1.length_le
  rw[of6]at this;exact this
 ·obtain⟨t,ht⟩:=h1
  rw[us5,←ht,bu4 (by rw[of6];exact hj),m93 hj]
  simp only[eb5,sel]
  rw[wu3 (by omega)];rfl
end
def jp1(T:Tab)(g:VGo):Prop:= ∀(c:Ctx) (ks:List It) (fr:VFr) (R:Rts) (r:VRes),g c ks fr R=some r→ ∀(h:H) (A:List AT) (Z Zp:Nat→Prop) (f:Fr),R=A.map AT.era→Inv h A Z Zp→FRV h A Z Zp fr f→c.n≤A.length→
 ∃w h' K S Z' Zp',go T c.rs ks f h=some (w,h')∧Post h A Zp c.n r w h' K S Z' Zp'
theorem u62{h:H}{A:List AT}{Z Zp:Nat→Prop}: ∀{vs:List AV} {ws:List Value} {n:Nat},VRL h A Z Zp vs ws→FRV h A Z Zp (VFr.args n vs) (Fr.args n ws)
 | [],ws,n,hr,t,a,ha=>by cases ha
 |v::vs,ws,n,hr,t,a,ha=>by
  rw[VRL]at hr
  obtain⟨w,ws',rfl,h1,h2⟩:=hr
  simp only[VFr.args]at ha
  simp only[Fr.args]
  cases hb:Nat.beq t n with
  |true=>rw[hb]at ha;cases ha;exact⟨w,rfl,h1⟩
  |false=>rw[hb]at ha;exact u62 h2 t a ha
theorem z23{W:VW}(hP: ∀f p vs C r,W.P f=some p→p vs C=some r→VOK W.T f vs C r){g:VGo}(hg:jp1 W.T g)(f:FuncId)(vs:List AV)(C:Rts)(r:VRes)(he:s21 W g f vs C=some r):VOK W.T f vs C r:=by
 unfold s21 at he
 split at he
 ·exact hP f _ vs C r ‹_› he
 ·split at he
  ·rename_i F hF
   split at he
   ·rename_i hl
    intro h Ac Z Zp ws i hC hv hk
    obtain⟨w,h',K,S,Z',Zp',h1,h2⟩:=hg _ _ _ _ _ he h Ac Z Zp (Fr.args 0 ws) hC i (u62 hv) (by rw[hC];simp)
    rw[hC,q11]at h2
    refine⟨w,h',K,S,Z',Zp', ?_,h2⟩
    rw[wn8 hF (by rw[hv.len,hl])]
    exact h1
   ·cases he
  ·cases he
theorem Post.after{h h1:H}{A A1:List AT}{Zp Zp1:Nat→Prop}{n:Nat}{r:VRes}{w:Value}{h':H}{K S:List AT}{Z' Zp':Nat→Prop}(P:Post h1 A1 Zp1 n r w h' K S Z' Zp')(e:Ext h A Zp h1 A1 Zp1)(hp: ∀(i:Nat) (a k:AT),i<n→A[i]? =some a→A1[i]? =some k→k.val=a.val∧(a.isV=false→k.isV=false))(hn:n≤A1.length):Post h A Zp n r w h' K S Z' Zp':=by
 refine⟨P.s,P.k,P.inv,e.trans P.ext,P.v,P.len,fun i a k h1 h2=> ?_⟩
 have hi:i<n:=by rw[←P.len];exact(ck5.1 h2).1
 have hA1:=wu3 (show i<A1.length by omega)
 obtain⟨p1,p2⟩:=hp i a _ hi h1 hA1
 obtain⟨q1,q2⟩:=P.pin i _ k hA1 h2
 exact⟨q1.trans p1,fun hx=>q2 (p2 hx)⟩
theorem fq6{W:VW}(hP: ∀f p vs C r,W.P f=some p→p vs C=some r→VOK W.T f vs C r){g:VGo}(hg:jp1 W.T g):jp1 W.T (vF W g):=by
 intro c ks fr R r he h A Z Zp f hR i hf hn
 subst hR
 have loop: ∀(kh:List Nat) (a:ACode) (ks:List It),g c (.code a:: .lp kh a::ks) (VFr.of (ja9 c (fr.keep kh) (A.map AT.era)).1) (ja9 c (fr.keep kh) (A.map AT.era)).2=some r→ ∃w h' K S Z' Zp',go W.T c.rs (.code a:: .lp kh a::ks) (Fr.of (hy3 f kh)) h=some (w,h')∧Post h A Zp c.n r w h' K S Z' Zp':=fun kh a ks he=>by
  obtain⟨A',k1,k2,k3,k4,k5,k6⟩:=m78 i hf hn kh
  obtain⟨w,h',K,S,Z',Zp',h1,h2⟩:=hg _ _ _ _ _ he h A' Z Zp _ k1 k2 k3 k4
  refine⟨w,h',K,S,Z',Zp',h1,h2.after ⟨jj6 _,fun _ _ _=>rfl,fun o ho=> .inl (ea9.2 (by have:=ea9.1 ho;have:=k5 o;omega)),fun _ h=>h,fun _ h=> .inl h⟩ (fun j a k hj e1 e2=> ?_) k4⟩
  rw[k6 j hj,e1]at e2
  cases e2;exact⟨rfl,id⟩
 unfold vF at he
 split at he
 ·obtain⟨w,K,S,Z',Zp',h1,h2⟩:=ac3 i hf hn he
  exact⟨w,h,K,S,Z',Zp',by rw[fq0];exact h1,h2⟩
 ·obtain⟨w,K,S,Z',Zp',h1,h2⟩:=ac3 i hf hn he
  exact⟨w,h,K,S,Z',Zp',by rw[s84];exact h1,h2⟩
 ·rw[xp8];exact hg _ _ _ _ _ he h A Z Zp f rfl i hf hn
 ·cases he
 ·rw[n84];exact hg _ _ _ _ _ he h A Z Zp f rfl i hf hn
 ·split at he
  ·rename_i t h1
   obtain⟨w,h2,h3⟩:=cj0 hf h1
   rw[VR]at h3
   subst h3
   rw[k93,h2]
   have:=hg _ _ _ _ _ he h A Z Zp f rfl i hf hn
   cases t<;>exact this
  ·cases he
 ·rw[aw5];exact hg _ _ _ _ _ he h A Z Zp f rfl i hf hn
 ·rw[zv5];exact loop _ _ _ he
 ·split at he
  ·rename_i ko k h1
   rw[r03,h1]
   exact hg _ _ _ _ _ he h A Z Zp _ rfl i (of9 hf) hn
  ·cases he
 ·split at he
  ·rename_i s h1
   obtain⟨f1,h1',A1,Z1,Zp1,k1,I⟩:=tf5 (hR:=h) (A0:=A) (Z0:=Z) (Zp0:=Zp) (z23 hP hg) i ⟨rfl,i,hf,Ext.refl _ _ _,fun j a k e1 e2=>by rw[e1]at e2;cases e2;exact⟨rfl,id⟩,jj6 _,fun t a _ ha hz=>(by obtain⟨w,k1,k2⟩:=hf t a ha;exact⟨w,k1,k2.wold hz⟩),fun _=>⟨je0 _,⟨[],by simp⟩,fun t a _ ha=>hf t a ha⟩⟩ h1
   rw[ch3]
   have hn1:c.n≤A1.length:=md7 hn I.len
   obtain⟨w,h',K,S,Z',Zp',k2,k3⟩:=hg _ _ _ _ _ he h1' A1 Z1 Zp1 f1 I.R I.inv I.fr hn1
   exact⟨w,h',K,S,Z',Zp',by unfold goO;rw[k1];exact k2,k3.after I.ext (fun j a k _ e1 e2=>I.pin j a k e1 e2) hn1⟩
  ·cases he
 ·rw[de3];exact hg _ _ _ _ _ he h A Z Zp _ rfl i (of9 hf) hn
 ·rw[g72];exact loop _ _ _ he
theorem c83{W:VW}(hP: ∀f p vs C r,W.P f=some p→p vs C=some r→VOK W.T f vs C r): ∀n,jp1 W.T (vN W n)
 |0=>fun c ks fr R r he=>by cases he
 |n+1=>fq6 hP (c83 hP n)
theorem x11{W:VW}(hP: ∀f p vs C r,W.P f=some p→p vs C=some r→VOK W.T f vs C r):jp1 W.T (vgo W):=fun c ks fr R r he=>by
 obtain⟨n,hn⟩:=yi2.1 he
 exact c83 hP n c ks fr R r hn
theorem lw9{W:VW}(hP: ∀f p vs C r,W.P f=some p→p vs C=some r→VOK W.T f vs C r){f:FuncId}{vs:List AV}{C:Rts}{r:VRes}(he:o24 W f vs C=some r):VOK W.T f vs C r:=z23 hP (x11 hP) f vs C r he
end Go.Vm
namespace Go.Vm
open Go.Am
section
variable {W:VW} {c:Ctx}
noncomputable def vgoL (W:VW) (c:Ctx) (kh:List Nat) (a:ACode) (ks:List It) (l:List (Nat×AV)) (R:Rts):Option VRes:=vgo W c (.code a:: .lp kh a::ks) (VFr.of l) R
noncomputable def vgoO (W:VW) (c:Ctx) (l:List AOper) (ks:List It) (s:VReg):Option VRes:=match x27 W (vgo W) c.h l s with
 |some s=>vgo W c ks s.fr s.R
 |none=>none
noncomputable def vgoT (W:VW) (c:Ctx) (o:AOper) (l:List AOper) (ks:List It) (s:VReg):Option (Option AV×Rts×Option (List Nat))→Option VRes
 |some r=>vgoO W c l ks (m63 o s r)
 |none=>none
noncomputable def vgoG (W:VW) (c:Ctx) (o:AOper) (l:List AOper) (ks:List It) (s:VReg):Option Bool→Option VRes
 |some true=>vgoT W c o l ks s (ej2 W (vgo W) c.h o s.fr s.R s.y s.dt)
 |some false=>vgoO W c l ks (pp0 o s)
 |none=>none
noncomputable def vgoC (W:VW) (c:Ctx) (a b:ACode) (ks:List It) (fr:VFr) (R:Rts):Bool→Option VRes
 |true=>vgo W c (.code a::ks) fr R
 |false=>vgo W c (.code b::ks) fr R
noncomputable def vgoX (W:VW) (c:Ctx) (fr:VFr) (R:Rts):Option (List Nat×List It)→Option VRes
 |some (ko,k)=>vgo W c k (VFr.of (fr.keep ko)) R
 |none=>none
variable {ks:List It} {fr:VFr} {R:Rts}
@[push_cast] theorem vy6:vgo W c [] fr R=vret c fr R:=by rw[y68];rfl
@[push_cast] theorem n42:vgo W c (.code .ret::ks) fr R=vret c fr R:=by rw[y68];rfl
@[push_cast] theorem cs4:vgo W c (.code .skip::ks) fr R=vgo W c ks fr R:=by rw[y68];rfl
@[push_cast] theorem b50{a b:ACode}:vgo W c (.code (.seq a b)::ks) fr R=vgo W c (.code a:: .code b::ks) fr R:=by rw[y68];rfl
@[push_cast] theorem hf4{x:Operand}{a b:ACode}:vgo W c (.code (.cond x a b)::ks) fr R=match vev fr x with
 |some (.x (.bool t))=>vgoC W c a b ks fr R t
 |_=>none:=by
 rw[y68]
 simp only[vF]
 cases vev fr x with
 |none=>rfl
 |some a=>
  cases a with
  |x v=>
   cases v with
   |bool t=>cases t<;>rfl
   |_=>rfl
  |_=>rfl
@[push_cast] theorem e94{a b:ACode}:vgoC W c a b ks fr R true=vgo W c (.code a::ks) fr R:=rfl
@[push_cast] theorem yf9{a b:ACode}:vgoC W c a b ks fr R false=vgo W c (.code b::ks) fr R:=rfl
@[push_cast] theorem pm4{id:Nat}{ko:List Nat}{a:ACode}:vgo W c (.code (.block id ko a)::ks) fr R=vgo W c (.code a:: .blk id ko::ks) fr R:=by rw[y68];rfl
@[push_cast] theorem en8{id:Nat}{ko:List Nat}:vgo W c (.blk id ko::ks) fr R=vgo W c ks (VFr.of (fr.keep ko)) R:=by rw[y68];rfl
@[push_cast] theorem n74{kh:List Nat}{a:ACode}:vgo W c (.code (.loop kh a)::ks) fr R=vgoL W c kh a ks (ja9 c (fr.keep kh) R).1 (ja9 c (fr.keep kh) R).2:=by rw[y68];rfl
@[push_cast] theorem uv2{kh:List Nat}{a:ACode}:vgo W c (.lp kh a::ks) fr R=vgoL W c kh a ks (ja9 c (fr.keep kh) R).1 (ja9 c (fr.keep kh) R).2:=by rw[y68];rfl
theorem sb5{kh:List Nat}{a a':ACode}(ha:a=a'){l:List (Nat×AV)}:vgoL W c kh a ks l R=vgo W c (.code a':: .lp kh a::ks) (VFr.of l) R:=by subst ha;rfl
@[push_cast] theorem id3{id:Nat}:vgo W c (.code (.exit id)::ks) fr R=vgoX W c fr R (gc2 id ks):=by
 rw[y68];simp only[vF];unfold vgoX;split<;>split<;>simp_all
@[push_cast] theorem j68{ko:List Nat}{k:List It}:vgoX W c fr R (some (ko,k))=vgo W c k (VFr.of (fr.keep ko)) R:=rfl
@[push_cast] theorem in8{l:List AOper}:vgo W c (.code (.region l)::ks) fr R=vgoO W c l ks ⟨fr,R,[],false⟩:=by rw[y68];rfl
@[push_cast] theorem zw6{s:VReg}:vgoO W c [] ks s=vgo W c ks s.fr s.R:=rfl
@[push_cast] theorem lv9{o:AOper}{l:List AOper}{s:VReg}:vgoO W c (o::l) ks s=vgoG W c o l ks s (vgd s.fr o.guard):=by
 unfold vgoO
 simp only[x27]
 unfold yi8 vgoG
 cases vgd s.fr o.guard with
 |none=>rfl
 |some b=>
  cases b with
  |false=>rfl
  |true=>
   simp only[]
   unfold vgoT
   cases ej2 W (vgo W) c.h o s.fr s.R s.y s.dt<;>rfl
@[push_cast] theorem fe9{o:AOper}{l:List AOper}{s:VReg}:vgoG W c o l ks s (some true)=vgoT W c o l ks s (ej2 W (vgo W) c.h o s.fr s.R s.y s.dt):=rfl
@[push_cast] theorem fl2{o:AOper}{l:List AOper}{s:VReg}:vgoG W c o l ks s (some false)=vgoO W c l ks (pp0 o s):=rfl
@[push_cast] theorem yn7{o:AOper}{l:List AOper}{s:VReg}{r:Option AV×Rts×Option (List Nat)}:vgoT W c o l ks s (some r)=vgoO W c l ks (m63 o s r):=rfl
@[push_cast] theorem z29{f:FuncId}{vs:List AV}{C:Rts}:s21 W (vgo W) f vs C=o24 W f vs C:=rfl
theorem o10{f:FuncId}{F:AFun}{vs:List AV}{C:Rts}(hP:W.P f=none)(hT:W.T f=some F)(hl:vs.length=F.nargs):o24 W f vs C=vgo W ⟨W.H f,F.results,C.length⟩ [.code F.code] (VFr.args 0 vs) C:=by
 unfold o24 s21;rw[hP,hT];simp only;rw[if_pos hl]
theorem xr5{f:FuncId}{p:List AV→Rts→Option VRes}{vs:List AV}{C:Rts}(hP:W.P f=some p):o24 W f vs C=p vs C:=by
 unfold o24 s21;rw[hP]
@[push_cast] theorem kb4{o:AOper}{s:VReg}{v:Option AV}{R:Rts}:m63 o s (v,R,none)=⟨s.fr.put o.dst v,R,qq0 s.fr s.y s.dt o,s.dt⟩:=rfl
@[push_cast] theorem oq4{o:AOper}{s:VReg}{v:Option AV}{R:Rts}{ks:List Nat}:m63 o s (v,R,some ks)=⟨(s.fr.inv ks).put o.dst v,R,(match o.dst with
 |none=>s.y
 |some d=>d::s.y),true⟩:=rfl
@[push_cast] theorem yn9{o:AOper}{s:VReg}:pp0 o s=⟨s.fr.put o.dst (some (.tup [])),s.R,match o.dst with
 |none=>s.y
 |some d=>d::s.y,s.dt⟩:=rfl
@[push_cast] theorem a58{s t:Nat}{v:AV}:VFr.set fr s v t=bif Nat.beq t s then some v else fr t:=rfl
@[push_cast] theorem ik3{s t:Nat}:VFr.del fr s t=bif Nat.beq t s then none else fr t:=rfl
@[push_cast] theorem r77{t:Nat}:VFr.of [] t=none:=rfl
@[push_cast] theorem o70{t k:Nat}{v:AV}{r:List (Nat×AV)}:VFr.of ((k,v)::r) t=bif Nat.beq t k then some v else VFr.of r t:=rfl
@[push_cast] theorem se0{n t:Nat}:VFr.args n [] t=none:=rfl
@[push_cast] theorem dp8{n t:Nat}{v:AV}{r:List AV}:VFr.args n (v::r) t=bif Nat.beq t n then some v else VFr.args (n+1) r t:=rfl
@[push_cast] theorem fb9{s:Nat}{v:AV}:VFr.put fr (some s) (some v)=fr.set s v:=rfl
@[push_cast] theorem a77{s:Nat}:VFr.put fr (some s) none=fr.del s:=rfl
@[push_cast] theorem g27{v:Option AV}:VFr.put fr none v=fr:=by cases v<;>rfl
@[push_cast] theorem l32:VFr.inv fr []=fr:=rfl
@[push_cast] theorem sk5{r:Nat}{l:List Nat}:VFr.inv fr (r::l)=(fr.inv1 r).inv l:=rfl
@[push_cast] theorem cc2{r t:Nat}:VFr.inv1 fr r t=match fr t with
 |some a=>bif by8 r a then none else some a
 |none=>none:=rfl
end
theorem wq9{lo n u:Nat}{cs:List Tree}:cut lo n u cs=if lo=0∧n*u=cs.length then cs else(cs.drop (lo*u)).take (n*u):=rfl
attribute [push_cast 100] wq9
attribute [push_cast] VFr.keep vgd ej2 gd0 qq0 vw0 vadr bt7 iv1 e26 memN jk4 memO g57 er6 vev vevs vx vxs vxo one cellsOf ofz ofzL az9 vptr vsl ia8 vbx vy4 ek8 VP.off k12 VP.av hq6 z26 VS.part VS.unit jk vsrc r48 repT p54 oa5 vevp lu1 vop vdo kj1 me2 ub3 cb9 h05 dl9 og4 sr7 so3 deep uc8 ei9 mk1 vout vx6 og6 zp6 vone vret rts rtsL rtsF place vren px1 h09 x53 hh3 by8 dr4 j61 ja9 rget rset Tree.kids Tree.setKids Tree.get Tree.upd strip jj5 setL re2
@[push_cast] theorem ec9{u:Nat}{k:IntKind}{n:Int}:vpx u (.int k n)= .x (.int k n):=rfl
@[push_cast] theorem xb6{u:Nat}{b:Bool}:vpx u (.bool b)= .x (.bool b):=rfl
@[push_cast] theorem da8{u:Nat}{b:ByteArray}:vpx u (.string b)= .x (.string b):=rfl
@[push_cast] theorem rs0{u:Nat}{p:Option Addr}:vpx u (.pointer p)= .x (.pointer p):=rfl
@[push_cast] theorem ec6{u:Nat}:vpx u (.slice none 0 0)=if u=0 then .x (.slice none 0 0)else .fz true (.sl 1 0 u []):=rfl
@[push_cast] theorem hi6{R:Rts}{u:Nat}{k:IntKind}{n:Int}:np8 R u (.x (.int k n))=some (.x (.int k n)):=by unfold np8;rfl
@[push_cast] theorem vs4{R:Rts}{u:Nat}{b:Bool}:np8 R u (.x (.bool b))=some (.x (.bool b)):=by unfold np8;rfl
@[push_cast] theorem ek7{R:Rts}{u:Nat}{b:ByteArray}:np8 R u (.x (.string b))=some (.x (.string b)):=by unfold np8;rfl
@[push_cast] theorem ox9{R:Rts}{u:Nat}:np8 R u (.x (.slice none 0 0))=if u=0 then none else some (.fz true (.sl 1 0 u [])):=by unfold np8;rfl
@[push_cast] theorem s95{R:Rts}{u:Nat}:np8 R u (.x (.pointer none))=some (.x (.pointer none)):=by unfold np8;rfl
@[push_cast] theorem lh2{R:Rts}{u:Nat}{b:Bool}{t:Tree}:np8 R u (.fz b t)=some (.fz b t):=by unfold np8;rfl
@[push_cast] theorem tg6{R:Rts}{u:Nat}{b:Bool}{cs:List Tree}{i:Nat}:np8 R u (.fzc b cs i)=some (.fzc b cs i):=by unfold np8;rfl
@[push_cast] theorem j46{R:Rts}{u r:Nat}{p:List Nat}:np8 R u (.own r p)=match rget R r p with
 |some (.fz t)=>some (.fz true t)
 |some s=>if isNode s then some (.fz false (strip s))else none
 |none=>none:=by unfold np8;rfl
@[push_cast] theorem td2{R:Rts}{u r:Nat}{p:List Nat}{u0 lo n:Nat}:np8 R u (.sub r p u0 lo n)=match rget R r p with
 |some (.sl nl e w cs)=>if(lo+n)*w≤cs.length∧w=u0 then some (.fz false (.sl (if nl=0 then 0 else 2) 0 w (jj5 ((cs.drop (lo*w)).take (n*w)))))else none
 |_=>none:=by unfold np8;rfl
@[push_cast] theorem dt6{R:Rts}{u:Nat}{l:List AV}:np8 R u (.agg l)=match re2 R u l with
 |some l=>some (.agg l)
 |none=>none:=by unfold np8;rfl
@[push_cast] theorem ho7{R:Rts}{u:Nat}{f:FuncId}{l:List AV}:np8 R u (.fn f l)=match re2 R u l with
 |some l=>some (.fn f l)
 |none=>none:=by unfold np8;rfl
section
variable {h:Hint} {R:Rts} {d:Option Nat}
@[push_cast] theorem we2{k:IntKind}{n:Int}:vnil h R d (.x (.int k n))=(.x (.int k n),R):=rfl
@[push_cast] theorem dg1{b:Bool}:vnil h R d (.x (.bool b))=(.x (.bool b),R):=rfl
@[push_cast] theorem fh9{b:ByteArray}:vnil h R d (.x (.string b))=(.x (.string b),R):=rfl
@[push_cast] theorem hd4{a:Option Addr}:vnil h R d (.x (.pointer a))=(.x (.pointer a),R):=rfl
@[push_cast] theorem jy7:vnil h R d (.x .nilFunc)=(.x .nilFunc,R):=rfl
@[push_cast] theorem q09{b:Bool}{t:Tree}:vnil h R d (.fz b t)=(.fz b t,R):=rfl
@[push_cast] theorem l53{b:Bool}{cs:List Tree}{i:Nat}:vnil h R d (.fzc b cs i)=(.fzc b cs i,R):=rfl
@[push_cast] theorem dg2{r:Nat}{p:List Nat}:vnil h R d (.own r p)=(.own r p,R):=rfl
@[push_cast] theorem zm2{r:Nat}{p:List Nat}{u lo n:Nat}:vnil h R d (.sub r p u lo n)=(.sub r p u lo n,R):=rfl
@[push_cast] theorem ub1{r:Nat}{p:List Nat}{i:Nat}:vnil h R d (.cell r p i)=(.cell r p i,R):=rfl
@[push_cast] theorem kl1{l:List AV}:vnil h R d (.agg l)=(.agg l,R):=rfl
@[push_cast] theorem ob8{l:List AV}:vnil h R d (.tup l)=(.tup l,R):=rfl
@[push_cast] theorem i11{f:FuncId}{l:List AV}:vnil h R d (.fn f l)=(.fn f l,R):=rfl
@[push_cast] theorem we3{s:Nat}:vnil h R (some s) (.x (.slice none 0 0))=match jk4 s h.nil with
 |some (e,u)=>if u=0 then(.x (.slice none 0 0),R)else(.own R.length [],R++[.sl 1 e u []])
 |none=>(.x (.slice none 0 0),R):=rfl
@[push_cast] theorem hw5{k:IntKind}{n:Int}:vmvd h d (.x (.int k n))=none:=rfl
@[push_cast] theorem sh1{b:Bool}:vmvd h d (.x (.bool b))=none:=rfl
@[push_cast] theorem fw8{b:ByteArray}:vmvd h d (.x (.string b))=none:=rfl
@[push_cast] theorem c09{a:Option Addr}:vmvd h d (.x (.pointer a))=none:=rfl
@[push_cast] theorem sb9:vmvd h d (.x .nilFunc)=none:=rfl
@[push_cast] theorem he6{b:Bool}{t:Tree}:vmvd h d (.fz b t)=none:=rfl
@[push_cast] theorem op3{b:Bool}{cs:List Tree}{i:Nat}:vmvd h d (.fzc b cs i)=none:=rfl
@[push_cast] theorem ca1{r:Nat}{p:List Nat}:vmvd h d (.own r p)=none:=rfl
@[push_cast] theorem y21{r:Nat}{p:List Nat}{u lo n:Nat}:vmvd h d (.sub r p u lo n)=none:=rfl
@[push_cast] theorem eo4{r:Nat}{p:List Nat}{i:Nat}:vmvd h d (.cell r p i)=none:=rfl
@[push_cast] theorem al1{l:List AV}:vmvd h d (.agg l)=none:=rfl
@[push_cast] theorem tm4{l:List AV}:vmvd h d (.tup l)=none:=rfl
@[push_cast] theorem fc8{f:FuncId}{l:List AV}:vmvd h d (.fn f l)=none:=rfl
@[push_cast] theorem fq4{s:Nat}:vmvd h (some s) (.x (.slice none 0 0))=match jk4 s h.nil with
 |some (e,u)=>if u=0 then none else some []
 |none=>none:=rfl
@[push_cast] theorem dc1{sh:Bool}{k:IntKind}{n:Int}:vput sh R (.x (.int k n))=some (.v (.int k n),R):=rfl
@[push_cast] theorem jn7{sh:Bool}{b:Bool}:vput sh R (.x (.bool b))=some (.v (.bool b),R):=rfl
@[push_cast] theorem yz6{sh:Bool}{b:ByteArray}:vput sh R (.x (.string b))=some (.v (.string b),R):=rfl
@[push_cast] theorem r07{sh:Bool}{a:Option Addr}{n c:Nat}:vput sh R (.x (.slice a n c))=some (.v (.slice a n c),R):=rfl
@[push_cast] theorem ce1{sh:Bool}{a:Option Addr}:vput sh R (.x (.pointer a))=some (.v (.pointer a),R):=rfl
@[push_cast] theorem gw7{sh:Bool}{t:Tree}:vput sh R (.fz true t)=if isNode t then some (.fz t,R)else none:=rfl
@[push_cast] theorem j72{sh:Bool}{r:Nat}{p:List Nat}:vput sh R (.own r p)=match rget R r p with
 |some (.fz t)=>if isNode t then some (.fz t,R)else none
 |some .junk=>some (.junk,R)
 |some s=>if isNode s then if sh then some (.fz (strip s),rset R r p (.fz (strip s)))else some (dull s,rset R r p .junk)else none
 |none=>none:=rfl
@[push_cast] theorem g45{sh:Bool}{f:FuncId}:vput sh R (.fn f [])=some (.fn f [],R):=rfl
@[push_cast] theorem b72{ct:CT}{a b:Nat}:zy6 ct true a b=none:=rfl
@[push_cast] theorem v38{ct:CT}:zy6 ct false=ct:=rfl
@[push_cast] theorem kv9{v:Value}:ia9 none v= .v v:=by unfold ia9;rfl
@[push_cast] theorem vz3{e u:Nat}:ia9 (some (e,u)) (.slice none 0 0)=if u=0 then .v (.slice none 0 0)else .sl 2 e u []:=rfl
@[push_cast] theorem yn8{k:Nat}{v:Value}:wb3 R k (.x v)=anil k v:=by unfold wb3;rfl
end
section
variable {nl e u:Nat} {cs:List Tree} {x:Value} {t:Tree} {f:FuncId}
@[push_cast] theorem t05:isNode (.sl nl e u cs)=true:=rfl
@[push_cast] theorem ta4:isNode (.pt e cs)=true:=rfl
@[push_cast] theorem x75:isNode (.mp e cs)=true:=rfl
@[push_cast] theorem fs5:isNode (.v x)=false:=rfl
@[push_cast] theorem az4:isNode (.fz t)=false:=rfl
@[push_cast] theorem ve8:isNode (.fn f cs)=false:=rfl
@[push_cast] theorem i22:isNode .junk=false:=rfl
@[push_cast] theorem m07:isNode (.ex (.sl nl e u cs))=true:=rfl
@[push_cast] theorem xx4:isNode (.ex (.pt e cs))=true:=rfl
@[push_cast] theorem xr1:hc9 (.sl nl e u cs)=true:=rfl
@[push_cast] theorem fd5:hc9 (.pt e cs)=true:=rfl
@[push_cast] theorem v19:hc9 (.mp e cs)=true:=rfl
@[push_cast] theorem u43:plain (.v x)=true:=rfl
@[push_cast] theorem z66:plain (.fz t)=true:=rfl
@[push_cast] theorem e27:plain (.sl nl e u cs)=false:=rfl
@[push_cast] theorem eq4:plain (.pt e cs)=false:=rfl
@[push_cast] theorem nf7:plain (.mp e cs)=false:=rfl
@[push_cast] theorem hv8:plain .junk=false:=rfl
@[push_cast] theorem gx3:dull (.sl nl e u cs)= .sl 2 e u cs:=rfl
@[push_cast] theorem xw0:dull (.pt e cs)= .pt e cs:=rfl
@[push_cast] theorem i99:dull (.mp e cs)= .mp e cs:=rfl
@[push_cast] theorem kq2:isV (.v x)=true:=rfl
@[push_cast] theorem zx5:isV (.sl nl e u cs)=false:=rfl
@[push_cast] theorem te8:isV (.pt e cs)=false:=rfl
@[push_cast] theorem yz1:isV (.mp e cs)=false:=rfl
@[push_cast] theorem pi1:isV (.fz t)=false:=rfl
@[push_cast] theorem b74:isV .junk=false:=rfl
@[push_cast] theorem fq5:isV (.fn f cs)=false:=rfl
@[push_cast] theorem ka0:fzT (.v x)= .v x:=rfl
@[push_cast] theorem zu8:fzT (.sl nl e u cs)= .fz (.sl nl e u cs):=rfl
@[push_cast] theorem ea6:fzT (.pt e cs)= .fz (.pt e cs):=rfl
@[push_cast] theorem l48:fzT (.mp e cs)= .fz (.mp e cs):=rfl
end
def iv(z:Int):Tree:= .v (.int .i64 z)
def ivs(zs:List Int):List Tree:=zs.map iv
theorem gf1(zs:List Int):(ivs zs).length=zs.length:=by simp[ivs]
theorem ui5{zs:List Int}{i:Nat}(h:i<zs.length):(ivs zs)[i]? =some (.v (.int .i64 (gi zs (i:Int)))):=by
 unfold ivs gi
 rw[us5,ao0,os6,wu3 h];rfl
theorem pl3(zs:List Int):(ivs zs).all isV=true:=by simp[ivs,iv,isV]
theorem l78(zs:List Int):(ivs zs).all plain=true:=by simp[ivs,iv,plain]
theorem ap3(zs:List Int):jj5 (ivs zs)=ivs zs:=by rw[gz0];simp[ivs,iv,strip]
theorem so0(zs:List Int):(ivs zs).map fzT=ivs zs:=by simp[ivs,iv,fzT]
theorem lu7(zs:List Int)(i:Nat)(x:Int):(ivs zs).set i (.v (.int .i64 x))=ivs (zs.set i x):=by unfold ivs;rw[fx9];rfl
theorem tl5(zs ys:List Int):ivs zs++ivs ys=ivs (zs++ys):=by unfold ivs;rw[hm3]
theorem bh4(x:Int):[Tree.v (.int .i64 x)]=ivs [x]:=rfl
theorem nc5(zs:List Int)(x:Int):ivs zs++[Tree.v (.int .i64 x)]=ivs (zs++[x]):=by rw[bh4,tl5]
theorem yp5(zs:List Int)(n:Nat):(ivs zs).drop n=ivs (zs.drop n):=by unfold ivs;rw[gd3]
theorem u42(zs:List Int)(n:Nat):(ivs zs).take n=ivs (zs.take n):=by unfold ivs;rw[iw6]
theorem cs7(x:Int): ∀n:Nat,repT [.v (.int .i64 x)] n=ivs (List.replicate n x)
 |0=>rfl
 |n+1=>by rw[repT,cs7 x n,lg2];rfl
theorem bj9{n b:Nat}(h:n≤1000000)(hb:b≤1000):few n b=true:=by
 have:n*b≤1000000*1000:=Nat.mul_le_mul h hb
 simp[few];omega
end Go.Vm
