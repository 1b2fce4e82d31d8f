/-
  Cosets: the program's call, and the document's way, in the second machine. Conditions: those of each theorem. Cosets, the document's way, in the second machine. Conditions: those of each theorem. All  ..
-/
import Derived.Test.YtppbpgmdmiajcaaGreatK0
import Derived.Test.YtppbpgmdmiajcaaGreatK9
import Derived.Test.YtppbpgmdmiajcaaGreatK8
import Derived.Test.YtppbpgmdmiajcaaGreatK7
set_option linter.unusedVariables false
set_option linter.unusedSimpArgs false
set_option linter.unusedSectionVars false
set_option maxRecDepth 100000
namespace Go.Proofs.YtppbpgmdmiajcaaGreat
open Go.Am Go.Vm Go.Alg
def h78(m:Nat):Bool:=match fldN m with
 |none=>true
 |some (p,_,_,_)=>(List.range 64).all fun n=>bif Nat.beq ((n+1)%p.toNat) 0 then true else Nat.beq (Nat.gcd p.toNat (n+1)) 1
theorem ns5:((List.range 63).all fun n=>h78 (n+2))=true:=by kernel_rfl
section
variable {q:Int} [hF:IsFld q]
theorem fm8{n:Nat}(h0:0<n)(hn:n≤64)(h:n%chN q≠0):Nat.Coprime n q.toNat:=by
 obtain⟨p,m,g,mod,hf⟩:=hF.ok
 obtain⟨h2,h64⟩:=ug0 hf
 have hc:=p92.1 ns5 (q.toNat-2) (l16.2 (by omega))
 rw[show q.toNat-2+2=q.toNat by omega]at hc
 unfold h78 at hc
 rw[hf]at hc
 have hc:=p92.1 hc (n-1) (l16.2 (by omega))
 rw[show n-1+1=n by omega]at hc
 have hp:chN q=p.toNat:=by unfold chN;rw[(y65 hf).1]
 rw[←hp]at hc
 have hb:Nat.beq (n%chN q) 0=false:=by
  cases hb:Nat.beq (n%chN q) 0 with
  |true=>exact absurd (bg5 hb) h
  |false=>rfl
 rw[hb]at hc
 have hg:Nat.gcd (chN q) n=1:=bg5 hc
 have:Nat.Coprime (chN q^fdg q) n:=Nat.Coprime.pow_left _ hg
 rw[pv2.1]at this
 exact this.symm
theorem nt3(n:Nat):((n:Int)).tmod (fch q)=((n%chN q:Nat):Int):=by
 rw[←(ag7 (q:=q)).2,dl5 (cw7 _)];rfl
end
def cycE(q n:Int):Int:=match fldN q.toNat with
 |none=>1
 |some _=>if n<1∨64<n then 4 else if n.toNat%chN q=0 then 3 else 0
theorem vh7{q n:Int}(h:cycE q n=0):IsFld q∧ ∃N:Nat,n=(N:Int)∧0<N∧N≤64∧N%chN q≠0:=by
 unfold cycE at h
 split at h
 ·cases h
 ·rename_i x hx
  obtain⟨p,m,g,mod⟩:=x
  split at h
  ·cases h
  ·rename_i h1
   split at h
   ·cases h
   ·rename_i h2
    exact⟨⟨⟨p,m,g,mod,hx⟩⟩,n.toNat,by omega,by omega,by omega,h2⟩
theorem m34{q n:Nat}(hc:Nat.Coprime n q)(hn:n≤64):(cosA q n).length≤64:=by
 obtain⟨⟨a,b,c⟩,d⟩:=cq7 hc hn
 rw[m51]at a
 have h1:(cosA q n).length≤(cosA q n).flatten.length:=by
  have: ∀L:List (List Nat),(∀c∈L,c≠[])→L.length≤L.flatten.length:=fun L=>by
   induction L with
   |nil=>intro _;exact jj6 _
   |cons x L ih=>
    intro hx
    have h1:=py7.2 (hx x rn8)
    have h2:=ih fun c hc=>hx c (iz7 _ hc)
    rw[wf4,j82,q90]
    omega
  exact this _ fun c' hc'=>(c c' hc').2.2
 have h2:=a.length_le_of_subset (l₂:=List.range n) fun x hx=>l16.2 (b x hx)
 rw[w64]at h2
 omega
section
variable {q:Int} [IsFld q]
theorem d23{N:Nat}(h0:0<N)(hN:N≤64)(h:N%chN q≠0):o25 W 10 [.x (.int .i64 q), .x (.int .i64 N)] []=some (.tup [.own 0 [], .x (.int .i64 0)],[.sl 1 22 1 (lls 2 (cosR q.toNat N))],[]):=by
 have h2:=aw0 (q:=q)
 have hi:=q_hi (q:=q)
 have hq:((q.toNat:Nat):Int)=q:=by omega
 obtain⟨X,e1⟩:=tm4 (q:=q.toNat) (n:=N) (by omega) hN (fm8 h0 hN h) N 0 [] [] (by omega) (ci4 _ _) (by simp;omega) 1000000075
 rw[hq,show lls 2 []=[]from rfl,show mvs []=[]from rfl,m51,show(cosL q.toNat N N 0 []).map (rowN N)=cosR q.toNat N from rfl]at e1
 simp only[vx9]at e1
 have e2:=nt3 (q:=q) N
 have e3: ¬((N%chN q:Nat):Int)=0:=by omega
 have e4: ¬fch q=0:=by have:=ag7 (q:=q);omega
 rw[o10 rfl T10 rfl]
 unfold F10 c10
 generalize N%chN q=r at*
 simp(disch:=first|omega|fail) only[push_cast,seval,vrl,if_pos,if_neg,e2,nb8 e3,nb8 e4]
 rw[e1]
 generalize cosR q.toNat N=L at*
 simp(disch:=first|omega|fail) only[push_cast,seval,vrl,if_pos,if_neg]
end
def btv(n:Nat)(f:Nat→Bool):List Tree:=(List.range n).map fun x=>Tree.v (.bool (f x))
theorem n74(n:Nat)(f:Nat→Bool):(btv n f).length=n:=by simp[btv]
attribute [push_cast 50] n74
theorem xn4(i:Nat)(f:Nat→Bool):((List.range i).filter f).length≤i:=by
 have:=List.length_filter_le f (List.range i)
 rwa [w64]at this
section
variable {q:Int} [IsFld q]
end
theorem cp8{n:Nat}{c:List Nat}(h:c.Nodup)(hl: ∀x∈c,x<n):(setC n c).Perm c:=
 (ym7 (gv7 n c) h).2 fun a=>by rw[ro7];exact⟨fun h=>h.2,fun h=>⟨hl a h,h⟩⟩
theorem pu9{n:Nat}{l l':List Nat}(h: ∀x,x∈l↔x∈l'):setC n l=setC n l':=by
 unfold setC
 refine List.filter_congr fun x _=> ?_
 rw[zv8];exact h x
theorem tz4{c c':List Nat}(h:c.Perm c')(z:Nat→Bool):c.any z=c'.any z:=by
 rw[Bool.eq_iff_iff,gd7,gd7]
 exact⟨fun⟨x,h1,h2⟩=>⟨x,h.mem_iff.1 h1,h2⟩,fun⟨x,h1,h2⟩=>⟨x,h.mem_iff.2 h1,h2⟩⟩
theorem wp0{n:Nat}(z:Nat→Bool): ∀{L:List (List Nat)},(∀c∈L,c.Nodup∧ ∀x∈c,x<n)→((L.map (setC n)).filter fun c=>c.any z).flatten.Perm (L.filter fun c=>c.any z).flatten
 | [],_=>List.Perm.refl _
 |c::L,h=>by
  have ih:=wp0 z (n:=n) (L:=L) fun c hc=>h c (iz7 _ hc)
  have hp:=cp8 (h c rn8).1 (h c rn8).2
  rw[nf9,p68,p68,tz4 hp]
  split
  ·rw[wf4,wf4]
   exact hp.append ih
  ·exact ih
def cosS(q n:Nat):List (List Nat):=(cosA q n).map (setC n)
theorem l78(q n:Nat):cosR q n=(cosS q n).map nvs:=by unfold cosR cosS rowN;rw[uk6];rfl
theorem nz0{q n:Nat}(hc:Nat.Coprime n q)(hn:n≤64): ∀c∈cosA q n,c.Nodup∧ ∀x∈c,x<n:=fun c h=>by
 obtain⟨⟨a,b,e⟩,d⟩:=cq7 hc hn
 exact⟨(e c h).1,fun x hx=>b x (bs1.2 ⟨c,h,hx⟩)⟩
theorem wi3{q n:Nat}(hc:Nat.Coprime n q)(hn:n≤64)(z:Nat→Bool):(nvs ((cosS q n).filter fun c=>c.any z).flatten).mergeSort (fun x y=>decide (x≤y))=nvs (zerN q n z):=by
 have hp:=wp0 z (n:=n) (nz0 hc hn)
 obtain⟨⟨a,b,c⟩,d⟩:=cq7 hc hn
 have hnd:(((cosA q n).filter fun c=>c.any z).flatten).Nodup:=n47 (by simpa using a)
 have hlt: ∀x∈((cosA q n).filter fun c=>c.any z).flatten,x<n:=fun x h=>by
  obtain⟨c',h1,h2⟩:=bs1.1 h
  exact b x (bs1.2 ⟨c',(ma5.1 h1).1,h2⟩)
 have:=vt7 (hp.nodup_iff.2 hnd) (n:=n) fun x hx=>hlt x (hp.mem_iff.1 hx)
 unfold nvs
 unfold cosS
 rw[this]
 congr 1
 exact pu9 fun x=>hp.mem_iff
def badZ(n:Int)(v:Int):Bool:=decide (v<0)||decide (n≤v)
def inZ(zs:List Int)(k:Nat):Bool:=zs.any fun y=>decide ((k:Int)=y)
theorem ne7(p:Int→Bool)(c:List Nat):(nvs c).any p=c.any fun k=>p (k:Int):=by unfold nvs;rw[List.any_map];rfl
theorem qu9{n:Int}{e:Nat}{b:Bool}(v:Int):o25 W 111 [.x (.int .i64 v), .fz b (.pt e [.v (.int .i64 n)])] []=some (.x (.bool (badZ n v)),[],[]):=by
 rw[o10 rfl T111 rfl]
 unfold F111 c111 badZ
 by_cases h:v<0
 ·rw[ce5 h]
  simp(disch:=first|omega|fail) only[push_cast,seval,vrl,if_pos,if_neg,dec_lt h]
 ·rw[lx1 h]
  simp(disch:=first|omega|fail) only[push_cast,seval,vrl,if_pos,if_neg,cw6 (vk3.1 h)]
theorem xn1{zs:List Int}(hz:zs.length≤9223372036854775807){e nl:Nat}{b:Bool}(v:Int):o25 W 112 [.x (.int .i64 v), .fz b (.pt e [.sl nl 0 1 (ivs zs)])] []=some (.x (.bool (zs.any fun y=>decide (v=y))),[],[]):=by
 have e1:=fun b nl=>o94 (b:=b) (nl:=nl) (x:=v) hz
 rw[o10 rfl T112 rfl]
 unfold F112 c112
 simp(disch:=first|omega|fail) only[push_cast,seval,vrl,if_pos,if_neg,e1]
theorem e37{zs:List Int}(hz:zs.length≤64){nl:Nat}{L:List (List Nat)}(hL:L.length≤64)(hl: ∀c∈L,c.length≤64): ∀(d i:Nat) (out:List Int),i+d=L.length→out.length≤64*i→ ∀ks,
 vgoL W ⟨h53,[.tmp 6, .tmp 7],0⟩ [5,10,28,29,30] c53L0 (.blk 0 [10]::ks) [(5, .own 0 []),(10, .own 1 []),(28, .own 2 []),(29, .x (.int .i64 L.length)),(30, .x (.int .i64 i))] [.pt 22 [.fz (.sl nl 0 1 (ivs zs))], .sl 1 3 1 (ivs out), .sl 1 22 1 (lls 2 (L.map nvs))]=
  vgo W ⟨h53,[.tmp 6, .tmp 7],0⟩ ks (VFr.of [(10, .own 1 [])]) [.pt 22 [.fz (.sl nl 0 1 (ivs zs))], .sl 1 3 1 (ivs (out++nvs ((L.drop i).filter fun c=>c.any (inZ zs)).flatten)), .sl 1 22 1 (lls 2 (L.map nvs))]
 |0,i,out,hi,ho,ks=>by
  rw[show L.drop i=[]from jx3 (by omega),show((([]:List (List Nat)).filter fun c=>c.any (inZ zs)).flatten)=[]from rfl,show nvs []=[]from rfl,nw0,sb5 c53L0.eq_def]
  simp(disch:=first|omega|fail) only[push_cast,seval,vrl,if_pos,if_neg]
 |d+1,i,out,hi,ho,ks=>by
  obtain⟨c,hc⟩:=ge6 (l:=L) (i:=i) (by omega)
  have h1:(lls 2 (L.map nvs))[i]? =some (.sl 2 3 1 (ivs (nvs c))):=th8 (by rw[us5,hc];rfl)
  have hcl:=hl c (vf6 hc)
  have l3:(L.map nvs).length=L.length:=q11 _
  have hnl:=sd2 c
  have hf:=fun bl nl2 e b=>eg0 (nl:=nl2) (l:=nvs c) (bl:=bl) (k:=112) (b:=b) (t:= .pt e [.sl nl 0 1 (ivs zs)]) (xn1 (by omega)) rfl (by omega)
  rw[ne7,show(fun k:Nat=>zs.any fun y=>decide ((k:Int)=y))=inZ zs from rfl]at hf
  rw[show L.drop i=c::L.drop (i+1)from i62 hc,p68]
  cases hz2:c.any (inZ zs)with
  |true=>
   have ih:=e37 hz (nl:=nl) hL hl d (i+1) (out++nvs c) (by omega) (by rw[j82];omega) ks
   rw[e96,g71,eh9,show∀a b,nvs a++nvs b=nvs (a++b)from fun a b=>by unfold nvs;rw[hm3]]at ih
   rw[hz2]at hf
   rw[if_pos rfl,wf4,←ih,sb5 c53L0.eq_def]
   generalize nvs c=z1 at*
   generalize L.map nvs=R at*
   simp(disch:=first|omega|fail) only[push_cast,seval,vrl,if_pos,if_neg,h1,hf,l3,Go.Vm.tl5]
  |false=>
   have ih:=e37 hz (nl:=nl) hL hl d (i+1) out (by omega) (by omega) ks
   rw[e96,g71]at ih
   rw[hz2]at hf
   rw[if_neg (by decide),←ih,sb5 c53L0.eq_def]
   generalize nvs c=z1 at*
   generalize L.map nvs=R at*
   simp(disch:=first|omega|fail) only[push_cast,seval,vrl,if_pos,if_neg,h1,hf,l3]
theorem ar7{q n:Nat}(hc:Nat.Coprime n q)(hn:n≤64):(cosS q n).length≤64:=by unfold cosS;rw[q11];exact m34 hc hn
theorem fx6{q n:Nat}: ∀c∈cosS q n,c.length≤n:=fun c h=>by
 obtain⟨c0,_,rfl⟩:=vf1.1 h
 exact xn4 _ _
theorem pl9(q n:Nat)(z:Nat→Bool):(zerN q n z).length≤n:=xn4 _ _
section
variable {q:Int} [IsFld q] {zs:List Int} {nl:Nat}
theorem m13{N:Nat}(h0:0<N)(hN:N≤64)(h:N%chN q≠0)(hz:zs.length≤64)(hb:zs.any (badZ N)=false):
 o25 W 53 [.x (.int .i64 q), .x (.int .i64 N), .fz true (.sl nl 0 1 (ivs zs))] []=some (.tup [.own 0 [], .x (.int .i64 0)],[.sl 1 3 1 (ivs (nvs (zerN q.toNat N (inZ zs))))],[]):=by
 have hc:=fm8 h0 hN h
 have e1:=d23 (q:=q) h0 hN h
 have hf:=fun bl nl2 e b=>eg0 (nl:=nl2) (l:=zs) (bl:=bl) (k:=111) (b:=b) (t:= .pt e [.v (.int .i64 (N:Int))]) qu9 rfl (by omega)
 rw[hb]at hf
 have e2:=fun ks=>e37 hz (nl:=nl) (ar7 hc hN) (fun c hc=>by have:=fx6 c hc;omega) (cosS q.toNat N).length 0 [] (by omega) (by simp) ks
 rw[sv4,m51,show ivs []=[]from rfl]at e2
 simp only[vx9]at e2
 have l1:(nvs ((cosS q.toNat N).filter fun c=>c.any (inZ zs)).flatten).length≤60000:=by
  rw[sd2]
  have hp:=wp0 (inZ zs) (n:=N) (nz0 hc hN)
  obtain⟨⟨a,b,c⟩,d⟩:=cq7 hc hN
  have hnd:(((cosA q.toNat N).filter fun c=>c.any (inZ zs)).flatten).Nodup:=n47 (by simpa using a)
  have:=(hp.nodup_iff.2 hnd).length_le_of_subset (l₂:=List.range N) fun x hx=>l16.2 (b x (by
   obtain⟨c',h1,h2⟩:=bs1.1 (hp.mem_iff.1 hx)
   exact bs1.2 ⟨c',(ma5.1 h1).1,h2⟩))
  rw[w64]at this
  unfold cosS
  omega
 have e3:=fun nl=>m81 (nl:=nl) l1
 rw[wi3 hc hN]at e3
 rw[l78]at e1
 have l2:=ar7 hc hN
 have l3:((cosS q.toNat N).map nvs).length=(cosS q.toNat N).length:=q11 _
 rw[o10 rfl T53 rfl]
 unfold F53 c53
 generalize nvs ((cosS q.toNat N).filter fun c=>c.any (inZ zs)).flatten=z1 at*
 generalize nvs (zerN q.toNat N (inZ zs))=z2 at*
 generalize (cosS q.toNat N).map nvs=R at*
 generalize (cosS q.toNat N).length=nR at*
 simp(disch:=first|omega|fail) only[push_cast,seval,vrl,if_pos,if_neg,e1,hf,l3]
 rw[e2]
 simp(disch:=first|omega|fail) only[push_cast,seval,vrl,if_pos,if_neg,e3]
end
section
variable {N:Nat} {zs:List Int} {bz:Bool} {nl:Nat} {L:List (List Nat)}
end
section
variable {q:Int} [IsFld q] {zs:List Int} {nl:Nat} {bz:Bool}
end
end Go.Proofs.YtppbpgmdmiajcaaGreat
namespace Go.Proofs.YtppbpgmdmiajcaaGreat
open Go.Am Go.Alg
def nx3(n s:Nat)(g:Int)(w l:List Int)(e:Int):Bool:=
 bif w.length==0 then decide (e=3)else decide (e=0)&&decide (w.length=s)&&decide (l.length=s)&&decide (gi l 0=0)&&decide (gi l 1=1)&&
  ((List.range s).all fun c:Nat=>fok n (gi l c)&&decide (fpow n (gi l c) s=gi l c)&&decide (gi l (fadd s c 1)=fadd n (gi l c) 1)&&decide (gi l (fmul s g c)=fmul n (gi l g) (gi l c)))
def t35(n s:Nat):Bool:=match fldN n,fldN s with
 |some _,some (_,_,g,_)=>nx3 n s g (kg5 n s) (embP s n).2 (embP s n).1
 |_,_=>true
theorem k11:((List.range 63).all fun n=>(List.range 63).all fun s=>t35 (n+2) (s+2))=true:=by kernel_rfl
theorem nt8(q s:Int): ∀(n a x:Nat),a≤x→x<a+n→fpow q x s=x→(x:Int)∈iq0 q s n a
 |0,a,x,h1,h2,_=>by omega
 |n+1,a,x,h1,h2,h3=>by
  rw[iq0]
  by_cases he:x=a
  ·subst he
   rw[ce5 h3,nj1]
   exact rn8
  ·have ih:=nt8 q s n (a+1) x (by omega) (by omega) h3
   cases decide (fpow q (a:Int) s=(a:Int))with
   |true=>rw[nj1];exact iz7 _ ih
   |false=>rw[ey2];exact ih
theorem sa4{z s:Int}(hne:kg5 z s≠[])(c:El z)(h:fpow z c.v s=c.v):c.v∈kg5 z s:=by
 unfold kg5 at hne⊢
 split at hne
 ·rename_i p m g mod hs
  cases hb:(decide (p=fch z)&&decide (fdg z%m=0))with
  |false=>rw[hb]at hne;exact absurd rfl hne
  |true=>
   rw[nj1]
   have hlo:=c.lo
   have hhi:=c.hi
   have:=nt8 z s z.toNat 0 c.v.toNat (by omega) (by omega) (by rw[show((c.v.toNat:Nat):Int)=c.v by omega];exact h)
   rw[show((c.v.toNat:Nat):Int)=c.v by omega]at this
   exact this
 ·exact absurd rfl hne
section
variable {z s:Int} [hz:IsFld z] [hs:IsFld s]
structure Emb (z s:Int) [IsFld z] [IsFld s] (l:List Int) (E:El s→El z):Prop where
 at': ∀c,gi l c.v=(E c).v
 fix: ∀c,fpow z (E c).v s=(E c).v
 add: ∀a b,E (a+b)=E a+E b
 mul: ∀a b,E (a*b)=E a*E b
 inj: ∀a b,E a=E b→a=b
theorem ed4:(kg5 z s=[]∧(embP s z).1=3)∨((embP s z).1=0∧kg5 z s≠[]∧(kg5 z s).length=s.toNat∧(embP s z).2.length=s.toNat∧ ∃E,Emb z s (embP s z).2 E):=by
 obtain⟨p,m,g,mod,hn⟩:=hz.ok
 obtain⟨p',m',g',mod',hn'⟩:=hs.ok
 obtain⟨a2,a64⟩:=ug0 hn
 obtain⟨b2,b64⟩:=ug0 hn'
 have hzq:((z.toNat:Nat):Int)=z:=by omega
 have hsq:((s.toNat:Nat):Int)=s:=by omega
 have hc:=p92.1 (p92.1 k11 (z.toNat-2) (l16.2 (by omega))) (s.toNat-2) (l16.2 (by omega))
 rw[show z.toNat-2+2=z.toNat by omega,show s.toNat-2+2=s.toNat by omega]at hc
 unfold t35 at hc
 rw[hn,hn']at hc
 simp only[hzq,hsq]at hc
 unfold nx3 at hc
 by_cases h0:kg5 z s=[]
 ·left
  rw[h0]at hc
  exact⟨h0,by simpa using hc⟩
 ·right
  have hl:(kg5 z s).length≠0:=fun e=>h0 (js1 e)
  rw[show((kg5 z s).length==0)=false by simpa using h0,ey2]at hc
  simp only[b83,jn8,p92,l16]at hc
  obtain⟨⟨⟨⟨⟨c1,c2⟩,c3⟩,c4⟩,c5⟩,c6⟩:=hc
  rw[hzq]at c6
  generalize (embP s z).2=l at c3 c4 c5 c6⊢
  obtain⟨hf',t',g1,g2⟩:=jj8 hn'
  have key: ∀c:El s,(fok z (gi l c.v)=true∧fpow z (gi l c.v) s=gi l c.v∧gi l (fadd s c.v 1)=fadd z (gi l c.v) 1)∧gi l (fmul s g' c.v)=fmul z (gi l g') (gi l c.v):=fun c=>by
   have:=c6 c.v.toNat (by have:=c.lo;have:=c.hi;omega)
   rw[show((c.v.toNat:Nat):Int)=c.v by have:=c.lo;omega,hsq]at this
   exact⟨⟨this.1.1.1,this.1.1.2,this.1.2⟩,this.2⟩
  have hok: ∀c:El s,0≤gi l c.v∧gi l c.v<z:=fun c=>gc0.1 (key c).1.1
  obtain⟨E,hE⟩: ∃E:El s→El z,∀c,gi l c.v=(E c).v:=⟨fun c=>⟨gi l c.v,(hok c).1,(hok c).2⟩,fun c=>rfl⟩
  have E0:E 0=0:=El.ext' (by rw[←hE];exact c4)
  have E1:E 1=1:=El.ext' (by rw[←hE];exact c5)
  have Es: ∀c,E (c+1)=E c+1:=fun c=>El.ext' (by
   rw[←hE,on0,on0,wh3,wh3,←hE];exact(key c).1.2.2)
  obtain⟨G,hGv⟩: ∃G:El s,G.v=g':=⟨⟨g',by omega,g2⟩,rfl⟩
  have Eg: ∀c,E (G*c)=E G*E c:=fun c=>El.ext' (by
   rw[←hE,ym6,ym6,←hE,←hE,hGv];exact(key c).2)
  have hgen: ∀c:El s,c≠0→ ∃k,c=pw G k:=fun c hc=>by
   have h00:c.v≠0:=fun e=>hc (El.ext' e)
   have l1:=t'.lr c.v (by have:=c.lo;omega) c.hi
   refine⟨(flog s c.v).toNat,El.ext' ?_⟩
   rw[pw_v,hGv,mv9 t' hf'.q2 ⟨g1,g2⟩,t'.lg,show(((flog s c.v).toNat:Nat):Int)=flog s c.v by omega]
   have e:1%(s-1)*flog s c.v%(s-1)=flog s c.v:=by
    rw[mw3,Int.emod_emod,←mw3,vq0,b16 l1.1 l1.2.1]
   rw[e,l1.2.2]
  have Ep: ∀(k:Nat) (x:El s),E (pw G k*x)=pw (E G) k*E x:=fun k=>by
   induction k with
   |zero=>intro x;rw[pw,pw,one_mul,one_mul]
   |succ k ih=>intro x;rw[pw,pw,FK.mul_assoc,ih,Eg,FK.mul_assoc]
  have Em: ∀a b,E (a*b)=E a*E b:=fun a b=>by
   by_cases ha:a=0
   ·rw[ha,zero_mul,E0,zero_mul]
   ·obtain⟨k,rfl⟩:=hgen a ha
    have h1:=Ep k 1
    rw[FK.mul_one,E1,FK.mul_one]at h1
    rw[Ep,h1]
  have Ea: ∀a b,E (a+b)=E a+E b:=fun a b=>by
   by_cases hb:b=0
   ·rw[hb,FK.add_zero,E0,FK.add_zero]
   ·have e:a+b=b*(FK.inv b*a+1):=by rw[FK.mul_add,←FK.mul_assoc,FK.mul_inv b hb,one_mul,FK.mul_one]
    rw[e,Em,Es,FK.mul_add,FK.mul_one,←Em,←FK.mul_assoc,FK.mul_inv b hb,one_mul]
  have Ei: ∀a b,E a=E b→a=b:=fun a b hab=>by
   refine ly5 fun hne=> ?_
   have hd:a+ -b≠0:=fun e=>hne (by
    have:a+ -b+b=0+b:=by rw[e]
    rw[FK.add_assoc,neg_add,FK.add_zero,zero_add]at this
    exact this)
   have h1:E (a+ -b)+E b=E a:=by rw[←Ea,FK.add_assoc,neg_add,FK.add_zero]
   rw[hab]at h1
   have h2:E (a+ -b)=0:=gb2 (a:=E b) (by rw[h1,zero_add])
   have h3:=Em (a+ -b) (FK.inv (a+ -b))
   rw[FK.mul_inv _ hd,h2,zero_mul,E1]at h3
   exact ki7 h3
  exact⟨c1,h0,by omega,by omega,E,⟨hE,fun c=>by rw[←hE];exact(key c).1.2.1,Ea,Em,Ei⟩⟩
end
end Go.Proofs.YtppbpgmdmiajcaaGreat
namespace Go.Proofs.YtppbpgmdmiajcaaGreat
open Go.Am Go.Vm Go.Alg
section
variable {z:Int} [IsFld z]
theorem jn0(x y:El z)(L:List (El z)):mulK [-x,1] (mulK [-y,1] L)=mulK [-y,1] (mulK [-x,1] L):=by
 rw[←w11,w46 [-x,1] [-y,1],w11]
theorem yo0{l l':List (El z)}(h:l.Perm l'):loc l=loc l':=by
 induction h with
 |nil=>rfl
 |cons x _ ih=>rw[loc,loc,ih]
 |swap x y l=>rw[loc,loc,loc,loc,jn0]
 |trans _ _ h1 h2=>exact h1.trans h2
theorem ll1(l:List (El z))(x:El z):loc (l++[x])=mulK (loc l) [-x,1]:=by
 rw[yo0 (List.perm_append_comm (l₁:=l) (l₂:=[x])),w46];rfl
end
section
variable {z s:Int} [IsFld z] [IsFld s]
structure HomE (f:El s→El z):Prop where
 zero:f 0=0
 one:f 1=1
 add: ∀a b,f (a+b)=f a+f b
 mul: ∀a b,f (a*b)=f a*f b
 ker: ∀a,f a=0→a=0
theorem HomE.neg{f:El s→El z}(h:HomE f)(a:El s):f (-a)= -f a:=by
 have e:f (-a)+f a=0:=by rw[←h.add,neg_add,h.zero]
 have e2:f (-a)+f a+ -f a=0+ -f a:=by rw[e]
 rwa [FK.add_assoc,FK.add_neg,FK.add_zero,zero_add]at e2
theorem HomE.wf{f:El s→El z}(h:HomE f)(a:List (El s))(k:Nat):Alg.wf (a.map f) k=f (Alg.wf a k):=by
 rcases nh9 k a.length with hk|hk
 ·rw[i67 (by simpa using hk),i67 hk,List.getElem_map]
 ·rw[e00 (by simpa using hk),e00 hk,h.zero]
theorem HomE.sum{f:El s→El z}(h:HomE f)(g:Nat→El s): ∀n,f (sumN n g)=sumN n fun i=>f (g i)
 |0=>h.zero
 |n+1=>by rw[cp9,cp9,h.add,h.sum g n]
theorem HomE.disc{f:El s→El z}(h:HomE f)(g k:Nat→El s)(i:Nat):f (Alg.disc g k i)=Alg.disc (fun i=>f (g i)) (fun i=>f (k i)) i:=by
 unfold Alg.disc
 rw[h.sum]
 exact rc1 fun a _=>h.mul _ _
theorem HomE.trm{f:El s→El z}(h:HomE f){a:List (El s)}(ha:Trm a):Trm (a.map f):=fun hl=>by
 rw[q11]at hl⊢
 rw[h.wf]
 exact fun e=>ha hl (h.ker _ e)
theorem HomE.mulK{f:El s→El z}(h:HomE f)(a b:List (El s)):(Alg.mulK a b).map f=Alg.mulK (a.map f) (b.map f):=by
 refine lz5 (h.trm (ho6 _ _)) (ho6 _ _) (funext fun k=> ?_)
 rw[h.wf,zu9,zu9,h.disc]
 congr 1
 ·exact funext fun i=>(h.wf a i).symm
 ·exact funext fun i=>(h.wf b i).symm
theorem HomE.loc{f:El s→El z}(h:HomE f): ∀l:List (El s),(Alg.loc l).map f=Alg.loc (l.map f)
 | []=>by show [f 1]=[1];rw[h.one]
 |x::l=>by rw[Alg.loc,h.mulK,h.loc l];show Alg.mulK [f (-x),f 1] _=Alg.mulK [-(f x),1] _;rw[h.neg,h.one]
end
section
variable {z s:Int} [IsFld z] [IsFld s]
theorem q21{a:El z}(h:a*a=a)(h0:a≠0):a=1:=by
 have e:FK.inv a*(a*a)=FK.inv a*a:=by rw[h]
 rw[←FK.mul_assoc,FK.mul_comm (FK.inv a) a,FK.mul_inv a h0,one_mul]at e
 exact e
theorem ie4{a:El z}(h:a=a+a):a=0:=by
 have e:a+ -a=a+a+ -a:=by rw[←h]
 rw[FK.add_assoc,FK.add_neg,FK.add_zero]at e
 exact e.symm
theorem Emb.hom{l:List Int}{E:El s→El z}(h:Emb z s l E):HomE E:=by
 have h0:E 0=0:=ie4 (by rw[←h.add,FK.add_zero])
 have hk: ∀a,E a=0→a=0:=fun a e=>h.inj a 0 (e.trans h0.symm)
 exact⟨h0,q21 (by rw[←h.mul,FK.mul_one]) fun e=>FK.zero_ne (hk 1 e).symm,h.add,h.mul,hk⟩
theorem gk0{a:El z}: ∀{n:Nat},pw a n=0→n≠0→a=0
 |0,h,h0=>absurd rfl h0
 |n+1,h,_=>by
  by_cases ha:a=0
  ·exact ha
  ·by_cases hn:n=0
   ·subst hn
    rw[pw,pw,one_mul]at h
    exact h
   ·refine gk0 (n:=n) ?_ hn
    have e:pw a n*a*FK.inv a=0*FK.inv a:=by rw[←h];rfl
    rwa [FK.mul_assoc,FK.mul_inv a ha,FK.mul_one,zero_mul]at e
theorem v19(hc:chN z=chN s):HomE (fun a:El z=>pw a s.toNat):=by
 have hq:=pv2 (q:=s)
 have h2:=aw0 (q:=s)
 refine⟨ii7 (by omega),se5 _,fun a b=> ?_,fun a b=>wp4 a b _,fun a h=>gk0 h (by omega)⟩
 rw[←hq.1,←hc]
 exact zw2 a b _
def lsE(s:Int) [IsFld s]:List (El s):=(List.range s.toNat).map fun i:Nat=>elE s (i:Int)
theorem v39:(lsE s).Nodup:=ma3 s08 fun a ha b hb e=>by
 have ha:=l16.1 ha
 have hb:=l16.1 hb
 have:=congrArg El.v e
 rw[sx0 (by omega),sx0 (by omega)]at this
 omega
theorem go4{l:List Int}{E:El s→El z}(h:Emb z s l E)(hw:kg5 z s≠[])(hl:(kg5 z s).length=s.toNat){c:El z}(hc:pw c s.toNat=c): ∃d,E d=c:=by
 have h2:=aw0 (q:=s)
 have hs:((s.toNat:Nat):Int)=s:=by omega
 have hfix: ∀x:El z,pw x s.toNat=x→x.v∈kg5 z s:=fun x hx=>sa4 hw x (by rw[←hs,n00,hx])
 obtain⟨L,hL1,hL2⟩: ∃L:List (El s),L.Nodup∧L.length=s.toNat:=⟨lsE s,v39,by simp[lsE]⟩
 have himg:((L.map E).map (·.v)).Nodup:=ma3 (ma3 hL1 fun a _ b _ e=>h.inj a b e) fun a _ b _ e=>El.ext' e
 by_cases hm:c.v∈(L.map E).map (·.v)
 ·obtain⟨y,hy,e⟩:=vf1.1 hm
  obtain⟨d,_,rfl⟩:=vf1.1 hy
  exact⟨d,El.ext' e⟩
 ·have:=(y50.2 ⟨hm,himg⟩).length_le_of_subset (l₂:=kg5 z s) fun v hv=>by
   rcases r04.1 hv with rfl|hv
   ·exact hfix c hc
   ·obtain⟨y,hy,rfl⟩:=vf1.1 hv
    obtain⟨d,_,rfl⟩:=vf1.1 hy
    exact hfix _ (by have:=h.fix d;rw[←hs,n00]at this;exact El.ext' this)
  rw[q90,q11,q11,hL2,hl]at this
  omega
theorem lift_map{E:El s→El z}: ∀{l:List (El z)},(∀c∈l,∃d,E d=c)→ ∃g:List (El s),g.map E=l
 | [],_=>⟨[],rfl⟩
 |c::l,h=>by
  obtain⟨d,rfl⟩:=h c rn8
  obtain⟨g,rfl⟩:=lift_map (E:=E) fun c' hc=>h c' (iz7 _ hc)
  exact⟨d::g,rfl⟩
theorem i95{l:List Int}{E:El s→El z}(h:Emb z s l E)(hw:kg5 z s≠[])(hl:(kg5 z s).length=s.toNat)(hc:chN z=chN s){R:List (El z)}(hR:(R.map fun a=>pw a s.toNat).Perm R): ∃g:List (El s),g.map E=loc R:=by
 refine lift_map fun c hm=>go4 h hw hl ?_
 have e:(loc R).map (fun a=>pw a s.toNat)=loc R:=by rw[(v19 hc).loc,yo0 hR]
 obtain⟨i,hi,rfl⟩:=zd4 hm
 have:=congrArg (fun L=>L[i]?) e
 simp only[us5,wu3 hi]at this
 simpa using this
end
section
variable {z:Int} [IsFld z]
theorem rn5(b:El z)(m:Nat): ∀n,pw b (m+n)=pw b m*pw b n
 |0=>by rw[pw,FK.mul_one];rfl
 |n+1=>by rw[←q61,pw,pw,rn5 b m n,FK.mul_assoc]
theorem bt9{b:El z}{n:Nat}(h:pw b n=1)(k:Nat):pw b (k%n)=pw b k:=by
 have:=Nat.div_add_mod k n
 conv=>rhs;rw[←this,rn5,←b33,h,se5,one_mul]
theorem rf8{s:Int} [IsFld s]{b:El z}{n:Nat}(hb:pw b n=1)(hc:Nat.Coprime n s.toNat){Z:List Nat}(hZ:Z.Nodup)(hl: ∀x∈Z,x<n)(hcl: ∀x,x<n→(x*s.toNat%n∈Z↔x∈Z)):
 ((Z.map fun k=>pw b k).map fun a=>pw a s.toNat).Perm (Z.map fun k=>pw b k):=by
 have e:((Z.map fun k=>pw b k).map fun a=>pw a s.toNat)=(Z.map fun k=>k*s.toNat%n).map fun k=>pw b k:=by
  rw[uk6,uk6]
  refine ny8 fun k hk=> ?_
  show pw (pw b k) s.toNat=pw b (k*s.toNat%n)
  rw[bt9 hb,b33]
 rw[e]
 refine List.Perm.map _ ?_
 have h2:(Z.map fun k=>k*s.toNat%n).Nodup:=ma3 hZ fun a ha b hb e=>w94 hc (hl a ha) (hl b hb) e
 refine(ym7 h2 hZ).2 fun a=> ?_
 constructor
 ·intro h
  obtain⟨k,hk,rfl⟩:=vf1.1 h
  exact(hcl k (hl k hk)).2 hk
 ·intro h
  exact yk7 h2 (fun y hy=>by
   obtain⟨k,hk,rfl⟩:=vf1.1 hy
   exact(hcl k (hl k hk)).2 hk) (by simp) hZ a h
end
def homS(q n:Nat):Nat→Nat→Option Nat
 |0,_=>none
 |m+1,s=>if 64<s then none else if(s-1)%n=0 then some s else homS q n m (s*q)
def bi7(q n:Nat):Bool:=match fldN q with
 |none=>true
 |some (p,m,_,_)=>match homS q n 7 q with
  |none=>true
  |some s=>match fldN s with
   |none=>false
   |some (p',m',_,_)=>decide (p'=p)&&Nat.beq (m'%m) 0&&Nat.beq ((s-1)%n) 0&&Nat.ble s 64
theorem ug6:((List.range 63).all fun q=>(List.range 64).all fun n=>bi7 (q+2) (n+1))=true:=by kernel_rfl
def homZ(q:Int)(n:Nat):Option Nat:=homS q.toNat n 7 q.toNat
structure HomF (q:Int) [IsFld q] (n s:Nat):Prop where
 fld:IsFld (s:Int)
 ch:fch (s:Int)=fch q
 deg:fdg (s:Int)%fdg q=0
 dv:(s-1)%n=0
 le:s≤64
theorem jg9{q:Int} [hF:IsFld q]{n s:Nat}(h0:0<n)(hn:n≤64)(h:homZ q n=some s):HomF q n s:=by
 obtain⟨p,m,g,mod,hf⟩:=hF.ok
 obtain⟨h2,h64⟩:=ug0 hf
 have hc:=p92.1 (p92.1 ug6 (q.toNat-2) (l16.2 (by omega))) (n-1) (l16.2 (by omega))
 rw[show q.toNat-2+2=q.toNat by omega,show n-1+1=n by omega]at hc
 unfold homZ at h
 unfold bi7 at hc
 rw[hf,h]at hc
 simp only at hc
 cases hs:fldN s with
 |none=>rw[hs]at hc;cases hc
 |some x=>
  obtain⟨p',m',g',mod'⟩:=x
  rw[hs]at hc
  simp only[b83,jn8]at hc
  obtain⟨⟨⟨a,b⟩,c⟩,d⟩:=hc
  have hs':fldN ((s:Int)).toNat=some (p',m',g',mod'):=by rw[ao0];exact hs
  exact⟨⟨⟨p',m',g',mod',hs'⟩⟩,by rw[(y65 hs').1,(y65 hf).1,a],by rw[(y65 hs').2,(y65 hf).2];exact bg5 b,bg5 c,fy2 d⟩
theorem i71(s n:Nat)(h:1≤s):((s:Int)-1).tdiv (n:Int)=(((s-1)/n:Nat):Int):=by
 rw[show(s:Int)-1=((s-1:Nat):Int) by omega,zj0 (cw7 _)];rfl
theorem fo3(s n:Nat)(h:1≤s):((s:Int)-1).tmod (n:Int)=(((s-1)%n:Nat):Int):=by
 rw[show(s:Int)-1=((s-1:Nat):Int) by omega,dl5 (cw7 _)];rfl
def vs3(s n:Nat):Int:=fpow (s:Int) (fgn (s:Int)) (((s-1)/n:Nat):Int)
section
variable {q n:Nat}
theorem ye9(hq:2≤q)(hq2:q≤64)(h0:0<n)(hn:n≤64){s':Nat} [IsFld (s':Int)]: ∀(m s:Nat),1≤s→homS q n m s=some s'→ ∀ks,
 vgoL W ⟨hNo,[.tmp 4, .tmp 5, .tmp 6],0⟩ [0,1,9] c54L0 (.blk 0 []::ks) [(0, .x (.int .i64 q)),(1, .x (.int .i64 n)),(9, .x (.int .i64 s))] []=some (.tup [.fz true (pF (s':Int)), .x (.int .i64 (vs3 s' n)), .x (.int .i64 0)],[],[])
 |0,s,hs,h,ks=>by cases h
 |m+1,s,hs,h,ks=>by
  rw[homS]at h
  by_cases h1:64<s
  ·rw[if_pos h1]at h;cases h
  ·rw[if_neg h1]at h
   have r1:=fo3 s n hs
   have r2:=i71 s n hs
   have hn0: ¬(n:Int)=0:=by omega
   by_cases h2:(s-1)%n=0
   ·rw[if_pos h2]at h
    obtain rfl:s=s':=pk4 h
    rw[h2]at r1
    have he:(s-1)/n≤s-1:=Nat.div_le_self _ _
    unfold vs3
    rw[sb5 c54L0.eq_def]
    generalize (s-1)/n=e at*
    simp(disch:=first|omega|fail) only[push_cast,seval,vrl,if_pos,if_neg,r1,r2,nb8 hn0]
   ·rw[if_neg h2]at h
    have h3: ¬(((s-1)%n:Nat):Int)=0:=by omega
    have hb:s*q≤64*64:=Nat.mul_le_mul (by omega) hq2
    have hb2:(s:Int)*(q:Int)≤4096:=by rw[←id0];omega
    have hb3:0≤(s:Int)*(q:Int):=by rw[←id0];omega
    have ih:=ye9 hq hq2 h0 hn m (s*q) (Nat.mul_pos hs (by omega)) h ks
    rw[id0]at ih
    rw[←ih,sb5 c54L0.eq_def]
    generalize (s-1)%n=r at*
    simp(disch:=first|omega|fail) only[push_cast,seval,vrl,if_pos,if_neg,r1,nb8 h3,nb8 hn0]
end
section
variable {q:Int} [IsFld q]
theorem hy6{N s:Nat}(h0:0<N)(hN:N≤64)(h:N%chN q≠0)(hs:homZ q N=some s) [IsFld (s:Int)]:
 o25 W 54 [.x (.int .i64 q), .x (.int .i64 N)] []=some (.tup [.fz true (pF (s:Int)), .x (.int .i64 (vs3 s N)), .x (.int .i64 0)],[],[]):=by
 have h2:=aw0 (q:=q)
 have hi:=q_hi (q:=q)
 have hq:((q.toNat:Nat):Int)=q:=by omega
 have e1:=fun ks=>ye9 (q:=q.toNat) (n:=N) (by omega) (by omega) h0 hN (s':=s) 7 q.toNat (by omega) hs ks
 rw[hq]at e1
 have e2:=nt3 (q:=q) N
 have e3: ¬((N%chN q:Nat):Int)=0:=by omega
 have e4: ¬fch q=0:=by have:=ag7 (q:=q);omega
 rw[o10 rfl T54 rfl]
 unfold F54 c54
 generalize N%chN q=r at*
 simp(disch:=first|omega|fail) only[push_cast,seval,vrl,if_pos,if_neg,e2,nb8 e3,nb8 e4]
 rw[e1]
end
section
variable {z:Int} [hz:IsFld z]
theorem s18: ∃G:El z,G.v=fgn z∧pw G (z.toNat-1)=1∧ ∀i j,i<z.toNat-1→j<z.toNat-1→pw G i=pw G j→i=j:=by
 obtain⟨p,m,g,mod,hn⟩:=hz.ok
 obtain⟨hf,t,g1,g2⟩:=jj8 hn
 have h2:=hf.q2
 have hg:fgn z=g:=by unfold fgn;rw[hn]
 have hG:(⟨g,by omega,g2⟩:El z)≠0:=fun e=>by
  have e2:g=0:=congrArg El.v e
  omega
 refine⟨⟨g,by omega,g2⟩,hg.symm, ?_,fun i j hi hj e=> ?_⟩
 ·have e:=pw_q (⟨g,by omega,g2⟩:El z)
  rw[show z.toNat=(z.toNat-1)+1 by omega,pw]at e
  have e2:=congrArg (· *FK.inv (⟨g,by omega,g2⟩:El z)) e
  simp only at e2
  rw[FK.mul_assoc,FK.mul_inv _ hG,FK.mul_one]at e2
  exact e2
 ·have key: ∀k:Nat,k<z.toNat-1→flog z (pw (⟨g,by omega,g2⟩:El z) k).v=(k:Int):=fun k hk=>by
   rw[pw_v]
   show flog z (powI z g k)=_
   rw[mv9 t h2 ⟨g1,g2⟩,t.lg]
   have e:1%(z-1)*(k:Int)%(z-1)=(k:Int):=by
    rw[mw3,Int.emod_emod,←mw3,vq0,b16 (by omega) (by omega)]
   rw[e]
   exact(t.er (k:Int) (by omega) (by omega)).2.2
  have:=key i hi
  rw[e,key j hj]at this
  omega
end
structure RootF (q:Int) [IsFld q] (n s:Nat) [IsFld (s:Int)] (b:El (s:Int)):Prop where
 v:b.v=vs3 s n
 one:pw b n=1
 ord: ∀i j,i<n→j<n→pw b i=pw b j→i=j
theorem jx5{q:Int} [IsFld q]{n s:Nat}(h0:0<n)(h:HomF q n s) [IsFld (s:Int)]: ∃b:El (s:Int),RootF q n s b:=by
 obtain⟨G,g1,g2,g3⟩:=s18 (z:=(s:Int))
 have h2:=aw0 (q:=(s:Int))
 have hd:(s-1)/n*n=s-1:=by
  have:=Nat.div_add_mod (s-1) n
  rw[h.dv,zy9,f52]at this
  exact this
 rw[ao0]at g2 g3
 refine⟨pw G ((s-1)/n), ?_,by rw[b33,hd,g2],fun i j hi hj e=> ?_⟩
 ·unfold vs3
  rw[←g1,n00]
 ·rw[b33,b33]at e
  have hpos:0<(s-1)/n:=by
   rcases cb2 ((s-1)/n)with e0|e0
   ·rw[e0]at hd;omega
   ·exact e0
  have lt: ∀k,k<n→(s-1)/n*k<s-1:=fun k hk=>by
   have:(s-1)/n*k<(s-1)/n*n:=Nat.mul_lt_mul_of_pos_left hk hpos
   omega
  exact Nat.eq_of_mul_eq_mul_left hpos (g3 _ _ (lt i hi) (lt j hj) e)
theorem od8{q:Int} [IsFld q]{n s:Nat}(h:HomF q n s):chN (s:Int)=chN q:=by unfold chN;rw[h.ch]
theorem g58{q:Int} [hF:IsFld q]{n s:Nat}(h:HomF q n s) [hz:IsFld (s:Int)]:kg5 (s:Int) q≠[]∧(kg5 (s:Int) q).length=q.toNat∧(embP q (s:Int)).1=0∧(embP q (s:Int)).2.length=q.toNat∧ ∃E,Emb (s:Int) q (embP q (s:Int)).2 E:=by
 have hne:kg5 (s:Int) q≠[]:=by
  obtain⟨p,m,g,mod,hn⟩:=hF.ok
  have h1:=h.ch
  have h2:=h.deg
  rw[(y65 hn).1]at h1
  rw[(y65 hn).2]at h2
  have hs:=aw0 (q:=(s:Int))
  have hq:=aw0 (q:=q)
  have h0:fpow (s:Int) ((0:Nat):Int) q=((0:Nat):Int):=by
   have e:=n00 (q:=(s:Int)) (0:El (s:Int)) q.toNat
   rw[ii7 (by omega),show((q.toNat:Nat):Int)=q by omega]at e
   exact e
  have:=nt8 (s:Int) q (s:Int).toNat 0 0 (jj6 _) (by omega) h0
  unfold kg5
  rw[hn]
  simp only
  rw[ce5 h1.symm,ce5 h2]
  intro e
  rw[Bool.and_true,nj1]at e
  rw[e]at this
  cases this
 rcases ed4 (z:=(s:Int)) (s:=q)with⟨a,_⟩|⟨a,b,c,d,e⟩
 ·exact absurd a hne
 ·exact⟨hne,c,a,d,e⟩
theorem re5{z s:Int} [IsFld z] [IsFld s]{l:List Int}{E:El s→El z}(h:Emb z s l E)(hl:l.length=s.toNat)(d:El s):fidx (fun y=>decide ((E d).v=y)) 0 l=d.v:=by
 have hd:=d.lo
 have hd2:=d.hi
 have hat: ∀c:El s,l[c.v.toNat]? =some (E c).v:=fun c=>by
  have:=h.at' c
  unfold gi at this
  rw[os6,wu3 (by have:=c.hi;have:=c.lo;omega)]at this
  rw[wu3 (by have:=c.hi;have:=c.lo;omega)]
  exact congrArg some this
 rcases nu4 (fun y=>decide ((E d).v=y)) 0 l with⟨h1,h2⟩|⟨j,x,h1,h2,h3⟩
 ·have:=h2 _ (vf6 (hat d))
  simp at this
 ·have hj:=(ck5.1 h2).1
  have h4:(E d).v=x:=of_decide_eq_true h3
  have h5:=hat ⟨(j:Int),by omega,by omega⟩
  rw[ao0,h2]at h5
  have h6:E d=E ⟨(j:Int),by omega,by omega⟩:=El.ext' (by rw[h4];exact pk4 h5)
  rw[h1,e02]
  exact(congrArg El.v (h.inj _ _ h6)).symm
structure GenG (q:Int) [IsFld q] (N:Nat) (Z:List Nat) (s:Nat) [IsFld (s:Int)] (b:El (s:Int)) (E:El q→El (s:Int)) (g:List (El q)):Prop where
 root:RootF q N s b
 emb: ∃l,Emb (s:Int) q l E
 is:g.map E=loc (Z.map fun k=>pw b k)
section
variable {q:Int} [IsFld q] {N s:Nat} {Z:List Nat} [IsFld (s:Int)] {b:El (s:Int)} {E:El q→El (s:Int)} {g:List (El q)}
theorem GenG.hom(h:GenG q N Z s b E g):HomE E:=by
 obtain⟨l,hl⟩:=h.emb
 exact hl.hom
theorem GenG.len(h:GenG q N Z s b E g):g.length=Z.length+1:=by
 have:=congrArg List.length h.is
 rwa [q11,ru2,q11]at this
theorem GenG.ne(h:GenG q N Z s b E g):g≠[]:=fun e=>by
 have:=h.len
 rw[e]at this
 cases this
theorem GenG.trm(h:GenG q N Z s b E g):Trm g:=fun hl e=>by
 have h1:=h42 (Z.map fun k=>pw b k)
 rw[←h.is]at h1
 refine h1 (by rw[q11];exact hl) ?_
 rw[q11,h.hom.wf,e,h.hom.zero]
theorem GenG.zero(h:GenG q N Z s b E g){k:Nat}(hk:k∈Z):ev (g.map E) (pw b k)=0:=by
 rw[h.is]
 exact zb6 (vf1.2 ⟨k,hk,rfl⟩)
theorem GenG.mg_zero(h:GenG q N Z s b E g){w:List (El q)}(hw:Mg (wf g) (wf w)){k:Nat}(hk:k∈Z):ev (w.map E) (pw b k)=0:=by
 obtain⟨c,L,h1,h2⟩:=hw
 have hc:wf (ofF L c)=c:=ot8 h1
 have e:wf (w.map E)=wf (mulK ((ofF L c).map E) (g.map E)):=by
  rw[←h.hom.mulK]
  funext j
  rw[h.hom.wf,h.hom.wf,zu9,hc,h2]
 rw[ma4 e,jo3,h.zero hk,mul_zero]
theorem g25{n:Nat}(h0:0<n){K:Int} [IsFld K](x:El K):ev (oneL n) x=pw x n+ -1:=by
 rw[tf2 _ x (n+1) (by rw[vc9];exact jj6 _)]
 have e:(fun i=>wf (oneL n:List (El K)) i*pw x i)=fun i=>xk n 1 i*pw x i+xk 0 (-1) i*pw x i:=funext fun i=>by rw[to6 h0,add_mul]
 rw[e,pv3,xq2 (s:=n) (by omega) fun a _ ha=>by unfold xk;rw[if_neg ha,zero_mul],xq2 (s:=0) (by omega) fun a _ ha=>by unfold xk;rw[if_neg ha,zero_mul]]
 unfold xk
 rw[if_pos rfl,if_pos rfl,one_mul]
 show _+ -1*1=_
 rw[FK.mul_one]
theorem GenG.one_map(h:GenG q N Z s b E g):(oneL N:List (El q)).map E=(oneL N:List (El (s:Int))):=by
 unfold oneL
 rw[fx9,fx9,List.map_replicate,h.hom.zero,h.hom.one,h.hom.neg,h.hom.one]
theorem GenG.rem(h:GenG q N Z s b E g)(h0:0<N)(hZ:Z.Nodup)(hl: ∀x∈Z,x<N):remP (xa5 (oneL N:List (El q))) g=[]:=by
 have hd:=h79 (a:=xa5 (oneL N:List (El q))) h.trm h.ne
 obtain⟨Q,hQ⟩: ∃Q,Q=quoP (xa5 (oneL N:List (El q))) g:=⟨_,rfl⟩
 obtain⟨R,hR⟩: ∃R,R=remP (xa5 (oneL N:List (El q))) g:=⟨_,rfl⟩
 rw[←hQ,←hR]at hd
 rw[←hR]
 have hxs:(Z.map fun k=>pw b k).Nodup:=ma3 hZ fun x hx y hy e=>h.root.ord x y (hl x hx) (hl y hy) e
 have hz:=roots (Z.map fun k=>pw b k) (R.map E) hxs (by
  have:=hd.lt
  rw[h.len]at this
  simp only[q11]
  omega) fun x hx=>by
  obtain⟨k,hk,rfl⟩:=vf1.1 hx
  have e:wf ((oneL N:List (El q)).map E)=wf (addK (mulK (Q.map E) (g.map E)) (R.map E)):=by
   funext j
   rw[w62,←h.hom.mulK,h.hom.wf]
   show E (wf (oneL N) j)=wf ((mulK Q g).map E) j+wf (R.map E) j
   rw[h.hom.wf,h.hom.wf,←h.hom.add,zu9]
   have:=hd.eq j
   rw[vb5]at this
   rw[this]
  have e2:=ma4 e (pw b k)
  rw[h.one_map,g25 h0,k99,jo3,h.zero hk,mul_zero,zero_add,b33,f52,←b33,h.root.one,se5,FK.add_neg]at e2
  exact e2.symm
 refine ly5 fun hne=> ?_
 have hp:=py7.2 hne
 refine hd.r (by omega) ?_
 have hm:E (R[R.length-1]'(by omega))=0:=hz _ (vf1.2 ⟨_,ws6 _,rfl⟩)
 rw[i67 (by omega)]
 exact h.hom.ker _ hm
end
section
variable {q:Int} [IsFld q] {n:Nat} {g:List (El q)}
end
theorem e48: ∀(b a:Nat),a≤100→b≤100→ ∀ks,
 vgoL W ⟨hNo,[.tmp 4],0⟩ [0,1] c67L0 (.blk 0 [0]::ks) [(0, .x (.int .i64 a)),(1, .x (.int .i64 b))] []=vgo W ⟨hNo,[.tmp 4],0⟩ ks (VFr.of [(0, .x (.int .i64 (Nat.gcd a b)))]) []:=by
 intro b
 induction b using Nat.strongRecOn with
 |_ b ih=>
  intro a ha hb ks
  by_cases h0:b=0
  ·subst h0
   rw[Nat.gcd_zero_right,sb5 c67L0.eq_def]
   simp(disch:=first|omega|fail) only[push_cast,seval,vrl,if_pos,if_neg]
  ·have hlt:a%b<b:=gn6 _ (by omega)
   have h:=ih (a%b) hlt b hb (by omega) ks
   have hg:Nat.gcd a b=Nat.gcd b (a%b):=by rw[Nat.gcd_comm a b,Nat.gcd_rec b a,Nat.gcd_comm]
   have hr:((a:Int)).tmod (b:Int)=((a%b:Nat):Int):=by rw[dl5 (cw7 _)];rfl
   have h1: ¬(b:Int)=0:=by omega
   rw[hg,←h,sb5 c67L0.eq_def]
   generalize a%b=r at*
   simp(disch:=first|omega|fail) only[push_cast,seval,vrl,if_pos,if_neg,hr,nb8 h1]
theorem dg1{a b:Nat}(ha:a≤100)(hb:b≤100):o25 W 67 [.x (.int .i64 a), .x (.int .i64 b)] []=some (.x (.bool (decide (Nat.gcd a b=1))),[],[]):=by
 have e:=fun ks=>e48 b a ha hb ks
 have hd:decide (((Nat.gcd a b:Nat):Int)=1)=decide (Nat.gcd a b=1):=by rw[zv8];omega
 rw[o10 rfl T67 rfl]
 unfold F67 c67
 rw[←hd]
 clear hd
 generalize Nat.gcd a b=G at*
 simp(disch:=first|omega|fail) only[push_cast,seval,vrl,if_pos,if_neg]
 rw[e]
 simp(disch:=first|omega|fail) only[push_cast,seval,vrl,if_pos,if_neg]
def rnK(Z:List Nat)(n fr st:Nat):Nat→Nat→Nat
 |0,k=>k
 |m+1,k=>if(fr+k*st)%n∈Z then rnK Z n fr st m (k+1)else k
theorem xj4(Z:List Nat)(n fr st:Nat): ∀m k,rnK Z n fr st m k≤k+m
 |0,k=>jj6 _
 |m+1,k=>by
  rw[rnK]
  split
  ·have:=xj4 Z n fr st m (k+1);omega
  ·omega
def frB(Z:List Nat)(n st:Nat):Nat→Nat→Nat→Nat
 |0,_,best=>best
 |m+1,fr,best=>frB Z n st m (fr+1) (max best (rnK Z n fr st n 0))
theorem m72(Z:List Nat)(n st:Nat): ∀m fr best,best≤n→frB Z n st m fr best≤n
 |0,fr,best,h=>h
 |m+1,fr,best,h=>by
  rw[frB]
  have:=xj4 Z n fr st n 0
  exact m72 Z n st m (fr+1) _ (by omega)
def stB(Z:List Nat)(n:Nat):Nat→Nat→Nat→Nat
 |0,_,best=>best
 |m+1,st,best=>stB Z n m (st+1) (if Nat.gcd st n=1 then frB Z n st n 0 best else best)
theorem tl7(Z:List Nat)(n:Nat): ∀m st best,best≤n→stB Z n m st best≤n
 |0,st,best,h=>h
 |m+1,st,best,h=>by
  rw[stB]
  refine tl7 Z n m (st+1) _ ?_
  split
  ·exact m72 Z n st n 0 best h
  ·exact h
theorem hs4{Z:List Nat}(x:Nat):((nvs Z).any fun y=>decide ((x:Int)=y))=decide (x∈Z):=by
 rw[ne7,Bool.eq_iff_iff,gd7]
 simp only[jn8]
 constructor
 ·rintro⟨k,h1,h2⟩
  have:x=k:=by omega
  rw[this];exact h1
 ·intro h;exact⟨x,h,rfl⟩
theorem z49(fr k st n:Nat):((fr:Int)+(k:Int)*(st:Int)).tmod (n:Int)=(((fr+k*st)%n:Nat):Int):=by
 rw[←id0,←e96,dl5 (cw7 _)];rfl
theorem fy9(a c:Int):List.foldl (mm true) a [c]=max a c:=by
 show mm true a c=max a c
 unfold mm
 rw[if_pos rfl]
 split<;>omega
section
variable {Z:List Nat} {n:Nat}
theorem cd1(hZ:Z.length≤64)(hn:n≤64)(h0:0<n){fr st best:Nat}(hf:fr≤64)(hst:st≤64){T:Tree}{nl:Nat}: ∀(m k:Nat),k+m=n→ ∀ks,
 vgoL W ⟨hNo,[.tmp 6, .tmp 7],0⟩ [1,8,10,11,12,13,33,34] c16L0 (.blk 4 [1,8,10,11,13,33,34]::ks) [(1, .x (.int .i64 n)),(8, .own 0 []),(10, .x (.int .i64 best)),(11, .x (.int .i64 st)),(12, .x (.int .i64 fr)),(13, .x (.int .i64 k)),(33, .x (.int .i64 n)),(34, .x (.int .i64 fr))] [.sl nl 3 1 (ivs (nvs Z))]=
  vgo W ⟨hNo,[.tmp 6, .tmp 7],0⟩ ks (VFr.of [(1, .x (.int .i64 n)),(8, .own 0 []),(10, .x (.int .i64 best)),(11, .x (.int .i64 st)),(13, .x (.int .i64 (rnK Z n fr st m k))),(33, .x (.int .i64 n)),(34, .x (.int .i64 fr))]) [.sl nl 3 1 (ivs (nvs Z))]
 |0,k,hk,ks=>by
  obtain rfl:k=n:=by omega
  rw[rnK,sb5 c16L0.eq_def]
  generalize nvs Z=zz at*
  simp(disch:=first|omega|fail) only[push_cast,seval,vrl,if_pos,if_neg]
 |m+1,k,hk,ks=>by
  have hkn:(k:Int)<(n:Int):=by omega
  have hn0: ¬(n:Int)=0:=by omega
  have r1:=z49 fr k st n
  have hb:k*st≤64*64:=Nat.mul_le_mul (by omega) hst
  have hb2:(k:Int)*(st:Int)≤4096:=by rw[←id0];omega
  have hb3:0≤(k:Int)*(st:Int):=by rw[←id0];omega
  have hnl:=sd2 Z
  have e1:=fun b nl=>o94 (b:=b) (nl:=nl) (l:=nvs Z) (x:=(((fr+k*st)%n:Nat):Int)) (by omega)
  rw[hs4]at e1
  have ih:=cd1 hZ hn h0 (best:=best) hf hst (T:=T) (nl:=nl) m (k+1) (by omega) ks
  rw[e96,g71]at ih
  rw[rnK]
  by_cases h:(fr+k*st)%n∈Z
  ·rw[ce5 h]at e1
   rw[if_pos h,←ih,sb5 c16L0.eq_def]
   generalize nvs Z=zz at*
   generalize (fr+k*st)%n=r at*
   simp(disch:=first|omega|fail) only[push_cast,seval,vrl,if_pos,if_neg,dec_lt hkn,nb8 hn0,r1,e1]
  ·rw[lx1 h]at e1
   rw[if_neg h,sb5 c16L0.eq_def]
   generalize nvs Z=zz at*
   generalize (fr+k*st)%n=r at*
   simp(disch:=first|omega|fail) only[push_cast,seval,vrl,if_pos,if_neg,dec_lt hkn,nb8 hn0,r1,e1]
theorem pl7(hZ:Z.length≤64)(hn:n≤64)(h0:0<n){st:Nat}(hst:st≤64){nl:Nat}: ∀(m fr best:Nat),fr+m=n→best≤n→ ∀ks,
 vgoL W ⟨hNo,[.tmp 6, .tmp 7],0⟩ [1,8,10,11,33,34] c16L1 (.blk 2 [1,8,10,11]::ks) [(1, .x (.int .i64 n)),(8, .own 0 []),(10, .x (.int .i64 best)),(11, .x (.int .i64 st)),(33, .x (.int .i64 n)),(34, .x (.int .i64 fr))] [.sl nl 3 1 (ivs (nvs Z))]=
  vgo W ⟨hNo,[.tmp 6, .tmp 7],0⟩ ks (VFr.of [(1, .x (.int .i64 n)),(8, .own 0 []),(10, .x (.int .i64 (frB Z n st m fr best))),(11, .x (.int .i64 st))]) [.sl nl 3 1 (ivs (nvs Z))]
 |0,fr,best,hf,hb,ks=>by
  obtain rfl:fr=n:=by omega
  rw[frB,sb5 c16L1.eq_def]
  generalize nvs Z=zz at*
  simp(disch:=first|omega|fail) only[push_cast,seval,vrl,if_pos,if_neg]
 |m+1,fr,best,hf,hb,ks=>by
  have hr:=xj4 Z n fr st n 0
  have e1:=fun ks=>cd1 (fr:=fr) (best:=best) hZ hn h0 (by omega) hst (T:= .junk) (nl:=nl) n 0 (by omega) ks
  simp only[vx9]at e1
  have ih:=pl7 hZ hn h0 hst (nl:=nl) m (fr+1) (max best (rnK Z n fr st n 0)) (by omega) (by omega) ks
  have hm:max (best:Int) ((rnK Z n fr st n 0:Nat):Int)=((max best (rnK Z n fr st n 0):Nat):Int):=by omega
  have hfn:(fr:Int)<(n:Int):=by omega
  have hmm: ∀a c:Int,List.foldl (mm true) a [c]=max a c:=fun a c=>fy9 a c
  rw[e96,g71]at ih
  rw[frB,←ih,←hm,sb5 c16L1.eq_def]
  generalize nvs Z=zz at*
  generalize rnK Z n fr st n 0=r at*
  simp(disch:=first|omega|fail) only[push_cast,seval,vrl,if_pos,if_neg,dec_lt hfn]
  rw[e1]
  simp(disch:=first|omega|fail) only[push_cast,seval,vrl,if_pos,if_neg,hmm]
theorem f62(hZ:Z.length≤64)(hn:n≤64)(h0:0<n){nl:Nat}: ∀(m st best:Nat),st+m=n+1→0<st→best≤n→ ∀ks,
 vgoL W ⟨hNo,[.tmp 6, .tmp 7],0⟩ [1,8,10,11] c16L2 (.blk 0 [10]::ks) [(1, .x (.int .i64 n)),(8, .own 0 []),(10, .x (.int .i64 best)),(11, .x (.int .i64 st))] [.sl nl 3 1 (ivs (nvs Z))]=
  vgo W ⟨hNo,[.tmp 6, .tmp 7],0⟩ ks (VFr.of [(10, .x (.int .i64 (stB Z n m st best)))]) [.sl nl 3 1 (ivs (nvs Z))]
 |0,st,best,hs,hs0,hb,ks=>by
  have hsn:(n:Int)<(st:Int):=by omega
  rw[stB,sb5 c16L2.eq_def]
  generalize nvs Z=zz at*
  simp(disch:=first|omega|fail) only[push_cast,seval,vrl,if_pos,if_neg]
 |m+1,st,best,hs,hs0,hb,ks=>by
  have e1:=dg1 (a:=st) (b:=n) (by omega) (by omega)
  have e2:=fun ks=>pl7 hZ hn h0 (st:=st) (by omega) (nl:=nl) n 0 best (by omega) hb ks
  simp only[vx9]at e2
  have hsn:(st:Int)≤(n:Int):=by omega
  have hfb:=m72 Z n st n 0 best hb
  rw[stB]
  by_cases h:Nat.gcd st n=1
  ·have ih:=f62 hZ hn h0 (nl:=nl) m (st+1) (frB Z n st n 0 best) (by omega) (by omega) hfb ks
   rw[e96,g71]at ih
   rw[ce5 h]at e1
   rw[if_pos h,←ih,sb5 c16L2.eq_def]
   generalize nvs Z=zz at*
   generalize frB Z n st n 0 best=r at*
   simp(disch:=first|omega|fail) only[push_cast,seval,vrl,if_pos,if_neg,nl3 hsn,e1]
   rw[e2]
   simp(disch:=first|omega|fail) only[push_cast,seval,vrl,if_pos,if_neg]
  ·have ih:=f62 hZ hn h0 (nl:=nl) m (st+1) best (by omega) (by omega) hb ks
   rw[e96,g71]at ih
   rw[lx1 h]at e1
   rw[if_neg h,←ih,sb5 c16L2.eq_def]
   generalize nvs Z=zz at*
   simp(disch:=first|omega|fail) only[push_cast,seval,vrl,if_pos,if_neg,nl3 hsn,e1]
end
def bndN(Z:List Nat)(n:Nat):Nat:=stB Z n n 1 0+1
section
variable {q:Int} [IsFld q] {zs:List Int} {nl:Nat}
theorem mg8{N:Nat}(h0:0<N)(hN:N≤64)(h:N%chN q≠0)(hz:zs.length≤64)(hb:zs.any (badZ N)=false):
 o25 W 16 [.x (.int .i64 q), .x (.int .i64 N), .fz true (.sl nl 0 1 (ivs zs))] []=some (.tup [.x (.int .i64 (bndN (zerN q.toNat N (inZ zs)) N)), .x (.int .i64 0)],[],[]):=by
 have e1:=m13 (nl:=nl) h0 hN h hz hb
 have hZ:=pl9 q.toNat N (inZ zs)
 have e2:=fun nl ks=>f62 (Z:=zerN q.toNat N (inZ zs)) (by omega) hN h0 (nl:=nl) N 1 0 (by omega) (by omega) (by omega) ks
 simp only[vx9,g71]at e2
 have hle:=tl7 (zerN q.toNat N (inZ zs)) N N 1 0 (by omega)
 unfold bndN
 rw[o10 rfl T16 rfl]
 unfold F16 c16
 generalize stB (zerN q.toNat N (inZ zs)) N N 1 0=r at*
 generalize nvs (zerN q.toNat N (inZ zs))=zz at*
 simp(disch:=first|omega|fail) only[push_cast,seval,vrl,if_pos,if_neg,e1]
 rw[e2]
 simp(disch:=first|omega|fail) only[push_cast,seval,vrl,if_pos,if_neg]
end
section
variable {q:Int} [IsFld q] {k nl nr:Nat} {b:Bool} {N:List (List (El q))} {a:Nat}
end
section
variable {q n:Int} {nl nr nl2:Nat} {M:List (List Int)} {b:Bool} {w:List Int}
end
section
variable {q:Int} [IsFld q] {k nl nr nl2:Nat} {b:Bool} {N:List (List (El q))} {w:List Int}
end
section
variable {q n:Int} {nl nr:Nat} {M:List (List Int)}
end
section
variable {q:Int} [IsFld q] {k nl nr:Nat} {N:List (List (El q))}
theorem kh1(h1:0≤q)(h2:q≤64){M:List (List Int)}{K:Nat}(hK:K≤1000): ∀(d i:Nat) (n:Int),i+d=K→0≤n→n≤4096→ ∃n':Int,∀ks,
 vgoL W ⟨hNo,[(.cell 2 true 3), .tmp 3],0⟩ [1,2,5,17,18] c133L0 (.blk 0 [1,2]::ks) [(1, .own 0 []),(2, .own 1 []),(5, .x (.int .i64 n)),(17, .x (.int .i64 K)),(18, .x (.int .i64 i))] [.pt 35 [.v (.int .i64 q), .v (.int .i64 k), .sl 2 22 1 (lls 2 M)], .pt 35 [.v (.int .i64 0), .v (.int .i64 0), .sl 2 22 1 []]]=
  if fewQ q d n=true then vgo W ⟨hNo,[(.cell 2 true 3), .tmp 3],0⟩ ks (VFr.of [(1, .own 0 []),(2, .own 1 [])]) [.pt 35 [.v (.int .i64 q), .v (.int .i64 k), .sl 2 22 1 (lls 2 M)], .pt 35 [.v (.int .i64 0), .v (.int .i64 0), .sl 2 22 1 []]]
  else some (.tup [.agg [.x (.int .i64 0), .x (.int .i64 0), .x (.slice none 0 0)], .x (.int .i64 4)],[],[])
 |0,i,n,hi,h0,hn=>by
  refine⟨n,fun ks=> ?_⟩
  rw[fewQ,if_pos rfl,sb5 c133L0.eq_def]
  simp(disch:=first|omega|fail) only[push_cast,seval,vrl,if_pos,if_neg]
 |d+1,i,n,hi,hn,hn2=>by
  have hb0:0≤n*q:=qc0 hn h1
  have hb1:n*q≤4096*64:=ij6 hn2 h2 h1 (by decide)
  have hb2:n*q≤262144:=by omega
  rw[fewQ]
  by_cases h:4096<n*q
  ·rw[if_pos h]
   refine⟨n,fun ks=> ?_⟩
   rw[if_neg (by decide),sb5 c133L0.eq_def]
   simp(disch:=first|omega|fail) only[push_cast,seval,vrl,if_pos,if_neg,dec_lt h]
  ·obtain⟨n',ih⟩:=kh1 h1 h2 (M:=M) hK d (i+1) (n*q) (by omega) hb0 (by omega)
   refine⟨n',fun ks=> ?_⟩
   have ih:=ih ks
   rw[e96,g71]at ih
   rw[if_neg h,←ih,sb5 c133L0.eq_def]
   simp(disch:=first|omega|fail) only[push_cast,seval,vrl,if_pos,if_neg,cw6 (vk3.1 h)]
theorem lw9(he:gi9 q k (N.map vs)=0)(h0:0<k)(hk:k≤64)(hl:N.length≤64)(hr: ∀r∈N,r.length=k):
 o25 W 133 [.agg [.x (.int .i64 q), .x (.int .i64 k), .fz true (.sl nl 0 1 (lvs nr (N.map vs)))]] []=if fewQ q (redR N).length 1=true then some (.tup [.agg [.x (.int .i64 q), .x (.int .i64 k), .own 0 []], .x (.int .i64 0)],[.sl 2 22 1 (lls 2 (pvR (redR N)))],[])
  else some (.tup [.agg [.x (.int .i64 0), .x (.int .i64 0), .x (.slice none 0 0)], .x (.int .i64 4)],[],[]):=by
 have e1:=fun nl nr=>ob1 (nl:=nl) (nr:=nr) he h0 hk hl hr
 have hle:=ew4 hr
 have hq:=aw0 (q:=q)
 obtain⟨n',e⟩:=kh1 (q:=q) (k:=k) (M:=pvR (redR N)) (by omega) q_hi (K:=(redR N).length) (by omega) (redR N).length 0 1 (by omega) (by omega) (by omega)
 simp only[vx9,si3,sv4,rp2,lz6,x25,gw5,fo5]at e
 have h1:=nu3 (redR N)
 rw[o10 rfl T133 rfl]
 unfold F133 c133
 simp(disch:=first|omega|fail) only[push_cast,seval,vrl,if_pos,if_neg,e1,h1]
 rw[e]
 cases fewQ q (redR N).length 1 with
 |true=>
  rw[if_pos rfl,if_pos rfl]
  simp(disch:=first|omega|fail) only[push_cast,seval,vrl,if_pos,if_neg]
 |false=>rw[if_neg (by decide),if_neg (by decide)]
theorem q96{M:List (List Int)}:o25 W 134 [.agg [.x (.int .i64 q), .x (.int .i64 k), .fz true (.sl nl 0 1 (lvs nr M))]] []=some (.fn 170 [.own 0 []],[.pt 35 [.v (.int .i64 q), .v (.int .i64 k), .fz (.sl nl 0 1 (lvs nr M))]],[]):=by
 rw[o10 rfl T134 rfl]
 unfold F134 c134
 simp(disch:=first|omega|fail) only[push_cast,seval,vrl,if_pos,if_neg]
end
section
variable {q:Int} [IsFld q] {k nl nr nl2 nlo:Nat} {b:Bool} {R:List (List (El q))}
def wdL(k:Nat)(R:List (List (El q))):Nat→List (El q)→List (List (El q))
 |0,z=>[encL k z R]
 |n+1,z=>encL k z R::wdL k R n (yv5 z)
def inc1(o:List Int)(w:List (El q)):List Int:=o.set (wtW (vs w)) (o.getD (wtW (vs w)) 0+1)
theorem c40(o:List Int)(w:List (El q)):(inc1 o w).length=o.length:=by unfold inc1;rw[kb8]
structure CntOK (k m:Nat) (o:List Int):Prop where
 len:o.length=k+1
 lo: ∀x∈o,0≤x∧x≤(m:Int)
theorem CntOK.next{m:Nat}{o:List Int}(h:CntOK k m o){w:List (El q)}(hw:w.length=k):CntOK k (m+1) (inc1 o w):=by
 refine⟨by rw[c40,h.len],fun x hx=> ?_⟩
 unfold inc1 at hx
 have hwt:=p55 (vs w)
 rw[fi2]at hwt
 rcases List.mem_or_eq_of_mem_set hx with hx|hx
 ·have:=h.lo x hx;omega
 ·have hm:o.getD (wtW (vs w)) 0∈o:=by
   rw[os6,wu3 (by rw[h.len];omega),Option.getD_some]
   exact ws6 _
  have:=h.lo _ hm
  omega
theorem CntOK.at'{m:Nat}{o:List Int}(h:CntOK k m o){w:List (El q)}(hw:w.length=k):o[wtW (vs w)]? =some (o.getD (wtW (vs w)) 0)∧0≤o.getD (wtW (vs w)) 0∧o.getD (wtW (vs w)) 0≤(m:Int)∧wtW (vs w)<o.length:=by
 have hwt:=p55 (vs w)
 rw[fi2]at hwt
 have hlt:wtW (vs w)<o.length:=by rw[h.len];omega
 have e:o[wtW (vs w)]? =some (o.getD (wtW (vs w)) 0):=by rw[os6,wu3 hlt,Option.getD_some]
 exact⟨e,(h.lo _ (vf6 e)).1,(h.lo _ (vf6 e)).2,hlt⟩
def v66:Nat→List (El q)→List (El q)
 |0,z=>yv5 z
 |n+1,z=>v66 n (yv5 z)
theorem le0(hq:q≤1000000){T:Tree}: ∀(i:Nat) (p s s':List Int),p.length=i→(p++s).length≤1000000→(∀a∈p,0≤a∧a<q)→qr3 q s=(s',false)→ ∃j:Int,(0≤j↔(qr3 q (p++s)).2=true)∧ ∀ks,
 vgoL W ⟨hNo,[.tmp 2, .tmp 3],0⟩ [5,33,35,37,38,113] c87L0 (.blk 2 [5,33,35,37,38,113]::ks) [(5, .own 0 []),(33, .own 1 []),(35, .fz true (pF q)),(37, .own 2 []),(38, .x (.int .i64 ((i:Int)-1))),(113, .x (.bool false))] [T, .pt 35 [.v (.int .i64 q), .v (.int .i64 k), .fz (.sl nl 0 1 (lvs nr (R.map vs)))], .sl nl2 3 1 (ivs (p++s'))]=
  vgo W ⟨hNo,[.tmp 2, .tmp 3],0⟩ ks (VFr.of [(5, .own 0 []),(33, .own 1 []),(35, .fz true (pF q)),(37, .own 2 []),(38, .x (.int .i64 j)),(113, .x (.bool false))]) [T, .pt 35 [.v (.int .i64 q), .v (.int .i64 k), .fz (.sl nl 0 1 (lvs nr (R.map vs)))], .sl nl2 3 1 (ivs (qr3 q (p++s)).1)]
 |0,p,s,s',hi,hn,hd,hs=>by
  obtain rfl:p=[]:=js1 hi
  rw[m51,m51,hs]
  refine⟨-1,by simp,fun ks=> ?_⟩
  rw[sb5 c87L0.eq_def]
  simp(disch:=first|omega|fail) only[push_cast,seval,vrl,if_pos,if_neg]
 |i+1,p,s,s',hi,hn,hd,hs=>by
  obtain⟨p',a,rfl⟩: ∃p' a,p=p'++[a]:=⟨p.dropLast,p.getLast (by intro h;subst h;simp at hi),(List.dropLast_concat_getLast _).symm⟩
  have hp'l:p'.length=i:=by simpa using hi
  have ha:=hd a (by simp)
  rw[eh9,List.singleton_append]at hn⊢
  rw[eh9,List.singleton_append]
  have hsl:s'.length=s.length:=by have:=pd1 q s;rw[hs]at this;exact this
  have hlen:(p'++a::s').length≤1000000:=by simp[hsl]at hn⊢;omega
  have hi2:i<(p'++a::s').length:=by simp;omega
  have l1:=qe6 (s:=s') (a:=a) hp'l
  have l2:=qe6 (s:=s') (a:=a+1) hp'l
  have t1:=ri5 (s:=s') (a:=a) (b:=a+1) hp'l
  have t2:=ri5 (s:=s') (a:=a+1) (b:=0) hp'l
  have e2:(p'++(a+1)::s').length=(p'++a::s').length:=by simp
  have hw:((i+1:Nat):Int)-1=(i:Int):=by omega
  rw[hw]
  by_cases hlt:a+1<q
  ·have hnx:qr3 q (a::s)=((a+1)::s',true):=by rw[qr3,hs];simp only;rw[if_pos hlt]
   rw[vq6 hnx p']
   refine⟨i,⟨fun _=>rfl,fun _=>by omega⟩,fun ks=> ?_⟩
   rw[sb5 c87L0.eq_def]
   simp(disch:=first|omega|fail) only[push_cast,seval,vrl,if_pos,if_neg,l1,l2,t1,e2,dec_lt hlt]
  ·have hnx:qr3 q (a::s)=(0::s',false):=by rw[qr3,hs];simp only;rw[if_neg hlt]
   obtain⟨j,j1,j2⟩:=le0 hq (T:=T) i p' (a::s) (0::s') hp'l hn (fun c hc=>hd c (by simp[hc])) hnx
   refine⟨j,j1,fun ks=> ?_⟩
   rw[←j2 ks,sb5 c87L0.eq_def]
   simp(disch:=first|omega|fail) only[push_cast,seval,vrl,if_pos,if_neg,l1,l2,t1,t2,e2,cw6 (vk3.1 hlt)]
theorem ie9(hm:R.length≤64)(hR: ∀r∈R,r.length=k)(hk:k≤64){pp:Nat}: ∀(n m:Nat) (z:List (El q)) (o:List Int),Left q pp n z→z.length=R.length→CntOK k m o→m+n≤100000→ ∀ks kz,ks= .blk 1000 [113,5]::kz→
 vgoL W ⟨hNo,[.tmp 2, .tmp 3],0⟩ [5,33,35,37,113] c87L1 (.blk 0 [5,113]::ks) [(5, .own 0 []),(33, .own 1 []),(35, .fz true (pF q)),(37, .own 2 []),(113, .x (.bool false))] [.pt 22 [.sl nlo 3 1 (ivs o)], .pt 35 [.v (.int .i64 q), .v (.int .i64 k), .fz (.sl nl 0 1 (lvs nr (R.map vs)))], .sl 0 3 1 (ivs (vs z))]=
  vgo W ⟨hNo,[.tmp 2, .tmp 3],0⟩ kz (VFr.of [(113, .x (.bool false)),(5, .own 0 [])]) [.pt 22 [.sl nlo 3 1 (ivs ((wdL k R n z).foldl inc1 o))], .pt 35 [.v (.int .i64 q), .v (.int .i64 k), .fz (.sl nl 0 1 (lvs nr (R.map vs)))], .sl 0 3 1 (ivs (vs (v66 n z)))]:=by
 have hqh:=q_hi (q:=q)
 have turn: ∀(m:Nat) (z:List (El q)) (o:List Int),z.length=R.length→CntOK k m o→m≤100000→ ∃j:Int,(0≤j↔(qr3 q (vs z)).2=true)∧ ∀ks kz,ks= .blk 1000 [113,5]::kz→
  (0≤j→vgoL W ⟨hNo,[.tmp 2, .tmp 3],0⟩ [5,33,35,37,113] c87L1 (.blk 0 [5,113]::ks) [(5, .own 0 []),(33, .own 1 []),(35, .fz true (pF q)),(37, .own 2 []),(113, .x (.bool false))] [.pt 22 [.sl nlo 3 1 (ivs o)], .pt 35 [.v (.int .i64 q), .v (.int .i64 k), .fz (.sl nl 0 1 (lvs nr (R.map vs)))], .sl 0 3 1 (ivs (vs z))]=
    vgoL W ⟨hNo,[.tmp 2, .tmp 3],0⟩ [5,33,35,37,113] c87L1 (.blk 0 [5,113]::ks) [(5, .own 0 []),(33, .own 1 []),(35, .fz true (pF q)),(37, .own 2 []),(113, .x (.bool false))] [.pt 22 [.sl nlo 3 1 (ivs (inc1 o (encL k z R)))], .pt 35 [.v (.int .i64 q), .v (.int .i64 k), .fz (.sl nl 0 1 (lvs nr (R.map vs)))], .sl 0 3 1 (ivs (vs (yv5 z)))])∧
  (j<0→vgoL W ⟨hNo,[.tmp 2, .tmp 3],0⟩ [5,33,35,37,113] c87L1 (.blk 0 [5,113]::ks) [(5, .own 0 []),(33, .own 1 []),(35, .fz true (pF q)),(37, .own 2 []),(113, .x (.bool false))] [.pt 22 [.sl nlo 3 1 (ivs o)], .pt 35 [.v (.int .i64 q), .v (.int .i64 k), .fz (.sl nl 0 1 (lvs nr (R.map vs)))], .sl 0 3 1 (ivs (vs z))]=
    vgo W ⟨hNo,[.tmp 2, .tmp 3],0⟩ kz (VFr.of [(113, .x (.bool false)),(5, .own 0 [])]) [.pt 22 [.sl nlo 3 1 (ivs (inc1 o (encL k z R)))], .pt 35 [.v (.int .i64 q), .v (.int .i64 k), .fz (.sl nl 0 1 (lvs nr (R.map vs)))], .sl 0 3 1 (ivs (vs (yv5 z)))]):=by
  intro m z o hz ho hm'
  obtain⟨j,j1,j2⟩:=le0 (q:=q) (k:=k) (nl:=nl) (nr:=nr) (R:=R) (nl2:=0) (by omega) (T:= .pt 22 [.sl nlo 3 1 (ivs (inc1 o (encL k z R)))]) z.length (vs z) [] [] (by rw[fi2]) (by rw[nw0,fi2];omega) (fun a ha=>oa6 z a ha) rfl
  rw[nw0]at j1
  simp only[nw0]at j2
  rw[←mw7]at j2
  have e1:=fun b nl nr nl2=>gm8 (q:=q) (k:=k) (b:=b) (nl:=nl) (nr:=nr) (nl2:=nl2) (m:=z) (R:=R) hz (by omega) hR (by omega)
  have e2:=fun b nl=>fd2 (b:=b) (nl:=nl) (a:=vs (encL k z R)) (by rw[fi2,b87];omega)
  obtain⟨o1,o2,o3,o4⟩:=ho.at' (w:=encL k z R) (b87 z R)
  have h1:=iat o1
  have hzl:(vs z).length=z.length:=fi2 z
  refine⟨j,j1,fun ks kz hks=>⟨fun hj=> ?_,fun hj=> ?_⟩⟩
  ·rw[hks,sb5 c87L1.eq_def]
   simp(disch:=first|omega|fail) only[push_cast,seval,vrl,if_pos,if_neg,e1,e2,h1,hzl]
   rw[show o.set (wtW (vs (encL k z R))) (o.getD (wtW (vs (encL k z R))) 0+1)=inc1 o (encL k z R)from rfl,j2]
   simp(disch:=first|omega|fail) only[push_cast,seval,vrl,if_pos,if_neg,cw6 hj]
  ·rw[hks,sb5 c87L1.eq_def]
   simp(disch:=first|omega|fail) only[push_cast,seval,vrl,if_pos,if_neg,e1,e2,h1,hzl]
   rw[show o.set (wtW (vs (encL k z R))) (o.getD (wtW (vs (encL k z R))) 0+1)=inc1 o (encL k z R)from rfl,j2]
   simp(disch:=first|omega|fail) only[push_cast,seval,vrl,if_pos,if_neg,dec_lt hj]
 intro n
 induction n with
 |zero=>
  intro m z o hl hz ho hm' ks kz hks
  obtain⟨j,j1,j2⟩:=turn m z o hz ho (by omega)
  have hlast:=hl.last
  rw[hlast]at j1
  rw[((j2 ks kz hks).2 (by by_cases h:0≤j;exact absurd (j1.1 h) (by decide);omega)),wdL,h08,List.foldl_nil,v66]
 |succ n ih=>
  intro m z o hl hz ho hm' ks kz hks
  obtain⟨j,j1,j2⟩:=turn m z o hz ho (by omega)
  obtain⟨l1,l2⟩:=hl.more
  rw[(j2 ks kz hks).1 (j1.2 l1),wdL,h08,v66]
  exact ih (m+1) (yv5 z) (inc1 o (encL k z R)) l2 (by rw[l71,hz]) (ho.next (b87 z R)) (by omega) ks kz hks
def allW(k:Nat)(R:List (List (El q))):List (List (El q)):=wdL k R (q.toNat^R.length-1) (List.replicate R.length 0)
def wgt(k:Nat)(R:List (List (El q))):List Int:=(allW k R).foldl inc1 (List.replicate (k+1) 0)
theorem kp0:CntOK k 0 (List.replicate (k+1) 0):=⟨by simp,fun x hx=>by rw[(List.mem_replicate.1 hx).2];omega⟩
theorem i28(h:fewQ q R.length 1=true):q.toNat^R.length≤4096:=by
 have hq:=aw0 (q:=q)
 have:=nc8 (p:=q.toNat) R.length 1 (by rw[Int.toNat_of_nonneg (by omega)];exact h) (by omega)
 omega
theorem ir7{N:List (List (El q))}(he:gi9 q k (N.map vs)=0)(h0:0<k)(hk:k≤64)(hl:N.length≤64)(hr: ∀r∈N,r.length=k)(hf:fewQ q (redR N).length 1=true):
 o25 W 87 [.agg [.x (.int .i64 q), .x (.int .i64 k), .fz true (.sl nl 0 1 (lvs nr (N.map vs)))]] []=some (.tup [.own 0 [], .x (.int .i64 0)],[.sl 2 3 1 (ivs (wgt k (p78 (redR N))))],[]):=by
 have e1:=fun nl nr=>lw9 (nl:=nl) (nr:=nr) he h0 hk hl hr
 simp only[hf,oo9]at e1
 obtain⟨r1,r2,_⟩:=bi2 hr
 have hle:=ew4 hr
 have hq:=aw0 (q:=q)
 have hrl:(p78 (redR N)).length=(redR N).length:=ga9
 have hpw:=i28 (q:=q) (R:=p78 (redR N)) (by rw[hrl];exact hf)
 have e2:=fun nl nr=>q96 (q:=q) (k:=k) (nl:=nl) (nr:=nr) (M:=pvR (redR N))
 have e3:=fun nlo nl nr ks kz hks=>ie9 (q:=q) (k:=k) (nlo:=nlo) (nl:=nl) (nr:=nr) (R:=p78 (redR N)) (by omega) (zu4 r2) hk (pp:=q.toNat) (q.toNat^(p78 (redR N)).length-1) 0 (List.replicate (p78 (redR N)).length 0) (List.replicate (k+1) 0) (Left.start (by omega) _) (by simp) kp0 (by omega) ks kz hks
 rw[←lo1]at e3
 have h1:=nu3 (redR N)
 have hz:List.replicate (redR N).length (0:Int)=vs (List.replicate (p78 (redR N)).length (0:El q)):=by rw[hrl,←qj2];rfl
 obtain⟨K,hK⟩: ∃K,K=k+1:=⟨_,rfl⟩
 unfold wgt allW
 rw[←hK]at e3⊢
 rw[o10 rfl T87 rfl]
 unfold F87 c87
 have hk1:((k:Int)+1).toNat=K:=by omega
 simp(disch:=first|omega|fail) only[push_cast,seval,vrl,if_pos,if_neg,e1,e2,h1,hz,hk1]
 rw[e3 _ _ _ _ _ rfl]
 simp(disch:=first|omega|fail) only[push_cast,seval,vrl,if_pos,if_neg]
end
section
variable {q n:Int} {nl nr:Nat} {M:List (List Int)}
end
section
variable {q:Int} [IsFld q] {k nl nr nl2:Nat} {b:Bool} {R:List (List (El q))}
end
def yv0:Nat→List Int→Int
 |_,[]=>0
 |i,x::l=>if 0<x then(i:Int)else yv0 (i+1) l
section
variable {b:Bool} {nl:Nat} {l:List Int}
def jq9(l:List Int):Int:=yv0 1 (l.drop 1)
theorem bi6(hl:l.length≤9223372036854775807): ∀(d i:Nat),i+d=l.length→1≤i→ ∀ks,
 vgoL W ⟨hNo,[.tmp 2, .tmp 3],0⟩ [4,6] c32L0 (.blk 0 []::ks) [(4, .own 0 []),(6, .x (.int .i64 i))] [.sl nl 3 1 (ivs l)]=if yv0 i (l.drop i)=0 then vgo W ⟨hNo,[.tmp 2, .tmp 3],0⟩ ks (VFr.of []) [.sl nl 3 1 (ivs l)]else some (.tup [.x (.int .i64 (yv0 i (l.drop i))), .x (.int .i64 0)],[],[])
 |0,i,hi,h1,ks=>by
  rw[oh9 (by omega),yv0,if_pos rfl,sb5 c32L0.eq_def]
  simp(disch:=first|omega|fail) only[push_cast,seval,vrl,if_pos,if_neg]
 |d+1,i,hi,hi1,ks=>by
  obtain⟨x,hx⟩:=ge6 (l:=l) (i:=i) (by omega)
  have h1:=iat hx
  have ih:=bi6 hl d (i+1) (by omega) (by omega) ks
  rw[e96,g71]at ih
  rw[i62 hx,yv0]
  by_cases h:0<x
  ·rw[if_pos h,if_neg (by omega),sb5 c32L0.eq_def]
   simp(disch:=first|omega|fail) only[push_cast,seval,vrl,if_pos,if_neg,h1,dec_lt h]
  ·rw[if_neg h,←ih,sb5 c32L0.eq_def]
   simp(disch:=first|omega|fail) only[push_cast,seval,vrl,if_pos,if_neg,h1,cw6 (vk3.1 h)]
theorem ia2{q n:Int}{nl nr nl':Nat}{M:List (List Int)}(hl:l.length≤9223372036854775807)(hl1:1≤l.length)(h: ∀nl nr,o25 W 87 [.agg [.x (.int .i64 q), .x (.int .i64 n), .fz true (.sl nl 0 1 (lvs nr M))]] []=some (.tup [.own 0 [], .x (.int .i64 0)],[.sl nl' 3 1 (ivs l)],[])):
 o25 W 32 [.agg [.x (.int .i64 q), .x (.int .i64 n), .fz true (.sl nl 0 1 (lvs nr M))]] []=some (.tup [.x (.int .i64 (jq9 l)), .x (.int .i64 0)],[],[]):=by
 have e:=fun nl ks=>bi6 (nl:=nl) hl (l.length-1) 1 (by omega) (by omega) ks
 simp only[g71]at e
 unfold jq9
 rw[o10 rfl T32 rfl]
 unfold F32 c32
 simp(disch:=first|omega|fail) only[push_cast,seval,vrl,if_pos,if_neg,h]
 rw[e]
 by_cases h:yv0 1 (l.drop 1)=0
 ·rw[if_pos h,h]
  simp(disch:=first|omega|fail) only[push_cast,seval,vrl,if_pos,if_neg]
 ·rw[if_neg h]
end
section
variable {q:Int} [IsFld q] {k nl nr:Nat} {N:List (List (El q))}
theorem rc0(R:List (List (El q))):(wgt k R).length=k+1:=by
 unfold wgt
 have: ∀(l:List (List (El q))) (o:List Int),(l.foldl inc1 o).length=o.length:=by
  intro l
  induction l with
  |nil=>intro o;rfl
  |cons a l ih=>intro o;rw[h08,ih,c40]
 rw[this];simp
end
section
variable {q:Int} [IsFld q] {k:Nat}
theorem mg6(o:List Int)(w:List (El q)){d:Nat}(hd:d<o.length):(inc1 o w).getD d 0=o.getD d 0+if wtW (vs w)=d then 1 else 0:=by
 unfold inc1
 simp only[os6,gy2]
 by_cases h:wtW (vs w)=d
 ·rw[if_pos h,if_pos h,if_pos (by rw[h];exact hd),h,Option.getD_some,wu3 hd]
 ·rw[if_neg h,if_neg h,Int.add_zero]
theorem xm0(d:Nat): ∀(L:List (List (El q))) (o:List Int),d<o.length→(L.foldl inc1 o).getD d 0=o.getD d 0+((L.filter fun w=>decide (wtW (vs w)=d)).length:Int)
 | [],o,hd=>by simp
 |w::L,o,hd=>by
  rw[h08,xm0 d L (inc1 o w) (by rw[c40];exact hd),mg6 o w hd,p68]
  by_cases h:wtW (vs w)=d
  ·rw[if_pos h,if_pos (by simpa using h),q90];omega
  ·rw[if_neg h,if_neg (by simpa using h)];omega
theorem hu3{R:List (List (El q))}{d:Nat}(hd:d≤k):(wgt k R).getD d 0=(((allW k R).filter fun w=>decide (wtW (vs w)=d)).length:Int):=by
 unfold wgt
 rw[xm0 d _ _ (by simp;omega)]
 have:(List.replicate (k+1) (0:Int)).getD d 0=0:=by rw[os6,List.getElem?_replicate];split<;>rfl
 rw[this,Int.zero_add]
end
theorem eq7: ∀(l:List Int) (i D:Nat),D<l.length→(∀d,d<D→l.getD d 0≤0)→0<l.getD D 0→yv0 i l=((i+D:Nat):Int)
 | [],i,D,h,_,_=>by simp at h
 |x::l,i,0,h,h1,h2=>by
  have h2:0<x:=by simpa using h2
  rw[yv0,if_pos h2];simp
 |x::l,i,D+1,h,h1,h2=>by
  have h3:x≤0:=by simpa using h1 0 (by omega)
  rw[yv0,if_neg (by omega),eq7 l (i+1) D (by simpa using h) (fun d hd=>by simpa using h1 (d+1) (by omega)) (by simpa using h2)]
  omega
theorem jf2{l:List Int}{D:Nat}(h0:1≤D)(hD:D<l.length)(h1: ∀d,1≤d→d<D→l.getD d 0≤0)(h2:0<l.getD D 0):jq9 l=(D:Int):=by
 have hg: ∀d,(l.drop 1).getD d 0=l.getD (d+1) 0:=fun d=>by
  rw[os6,os6,s96,Nat.add_comm]
 unfold jq9
 rw[eq7 (l.drop 1) 1 (D-1) (by simp;omega) (fun d hd=>by rw[hg];exact h1 _ (by omega) (by omega)) (by rw[hg,show D-1+1=D by omega];exact h2)]
 omega
theorem f45{q:Int} [IsFld q]{k:Nat}{R:List (List (El q))}{D:Nat}(h0:1≤D)(hD:D≤k)(h1: ∀w∈allW k R,wtW (vs w)=0∨D≤wtW (vs w))(h2: ∃w∈allW k R,wtW (vs w)=D):jq9 (wgt k R)=(D:Int):=by
 refine jf2 h0 (by rw[rc0];omega) (fun d hd1 hd2=> ?_) ?_
 ·rw[hu3 (by omega),be3.2 (List.filter_eq_nil_iff.2 fun w hw=> ?_)]
  ·exact Int.le_refl _
  ·rcases h1 w hw with h|h
   ·simp;omega
   ·simp;omega
 ·rw[hu3 hD]
  obtain⟨w,hw,h⟩:=h2
  have:=List.length_pos_of_mem (ma5 (p:=fun w:List (El q)=>decide (wtW (vs w)=D)).2 ⟨hw,ce5 h⟩)
  omega
theorem id6{p:Nat}: ∀{l l':List Int},digS p l→digS p l'→l.length=l'.length→valS p l=valS p l'→l=l'
 | [],[],_,_,_,_=>rfl
 |a::l,b::l',h,h',hl,hv=>by
  have hl':l.length=l'.length:=by simpa using hl
  have h1:=uc1 (l:=l) fun c hc=>h c (by simp[hc])
  have h2:=uc1 (l:=l') fun c hc=>h' c (by simp[hc])
  have h3:=h a (by simp)
  have h4:=h' b (by simp)
  rw[valS,valS,←hl']at hv
  rw[←hl']at h2
  generalize p^l.length=M at*
  have e:a.toNat=b.toNat:=by
   rcases Nat.lt_trichotomy a.toNat b.toNat with h5|h5|h5
   ·have h6:(a.toNat+1)*M≤b.toNat*M:=wg6 _ h5
    rw[ur9]at h6;omega
   ·exact h5
   ·have h6:(b.toNat+1)*M≤a.toNat*M:=wg6 _ h5
    rw[ur9]at h6;omega
  rw[e]at hv
  rw[id6 (fun c hc=>h c (by simp[hc])) (fun c hc=>h' c (by simp[hc])) hl' (by omega),show a=b by omega]
section
variable {q:Int} [IsFld q] {p k:Nat} {R:List (List (El q))}
theorem gu8{n:Nat}{z:List (El q)}(h:Left q p (n+1) z):valS p (vs (yv5 z))=valS p (vs z)+1:=by
 have h2:=h.more.2.h
 have h1:=h.h
 rw[l71]at h2
 omega
theorem p70: ∀(n:Nat) (z z0:List (El q)),Left q p n z→z0.length=z.length→valS p (vs z)≤valS p (vs z0)→encL k z0 R∈wdL k R n z
 |n,z,z0,hl,hlen,hv=>by
  by_cases he:valS p (vs z)=valS p (vs z0)
  ·have hz:z0=z:=qa5 (id6 (p:=p) (by rw[←hl.e];exact oa6 z0) (by rw[←hl.e];exact oa6 z) (by rw[fi2,fi2,hlen]) he.symm)
   rw[hz]
   cases n with
   |zero=>rw[wdL];exact q05.2 rfl
   |succ n=>rw[wdL];exact rn8
  ·cases n with
   |zero=>
    have h1:=hl.h
    have h2:=uc1 (q:=p) (l:=vs z0) (by rw[←hl.e];exact oa6 z0)
    rw[fi2,hlen]at h2
    omega
   |succ n=>
    rw[wdL]
    have h3:=gu8 hl
    exact iz7 _ (p70 n (yv5 z) z0 hl.more.2 (by rw[l71,hlen]) (by omega))
theorem oi3(z:List (El q))(hz:z.length=R.length):encL k z R∈allW k R:=by
 have hq:=aw0 (q:=q)
 have hl:=Left.start (q:=q) (p:=q.toNat) (by omega) R.length
 refine p70 _ _ z hl (by simp[hz]) ?_
 have h1:=hl.h
 rw[jv4]at h1
 have h2:0<q.toNat^R.length:=Nat.pow_pos (by omega)
 omega
theorem sx3: ∀(n:Nat) (z:List (El q)),∀w∈wdL k R n z,∃y:List (El q),y.length=z.length∧w=encL k y R
 |0,z,w,h=>by rw[wdL,q05]at h;exact⟨z,rfl,h⟩
 |n+1,z,w,h=>by
  rw[wdL]at h
  rcases r04.1 h with h|h
  ·exact⟨z,rfl,h⟩
  ·obtain⟨y,h1,h2⟩:=sx3 n _ w h
   exact⟨y,by rw[h1,l71],h2⟩
theorem wf9(w:List (El q)):w∈allW k R↔ ∃z:List (El q),z.length=R.length∧w=encL k z R:=by
 constructor
 ·intro h
  obtain⟨y,h1,h2⟩:=sx3 _ _ w h
  exact⟨y,by rw[h1];simp,h2⟩
 ·rintro⟨z,hz,rfl⟩
  exact oi3 z hz
end
section
variable {z:Int} [IsFld z]
theorem nk1{a b:El z}(ha:a≠0)(hb:b≠0):a*b≠0:=fun e=>by
 have e2:a*b*FK.inv b=0*FK.inv b:=by rw[e]
 rw[FK.mul_assoc,FK.mul_inv b hb,FK.mul_one,zero_mul]at e2
 exact ha e2
def supp(W:List (El z)):List Nat:=(List.range W.length).filter fun i=>decide (wf W i≠0)
theorem wh6: ∀W:List (El z),(supp W).length=wtW (vs W)
 | []=>rfl
 |a::W=>by
  have ih:=wh6 W
  unfold supp at ih⊢
  rw[q90,List.range_succ_eq_map,p68,List.filter_map,e55,wtW,←ih]
  have e:((fun i=>decide (wf (a::W) i≠0))∘Nat.succ)=fun i=>decide (wf W i≠0):=funext fun i=>by show decide (wf (a::W) (i+1)≠0)=_;rw[rw8]
  rw[e,qa6]
  by_cases h:a=0
  ·rw[if_neg (by simp[h]),q11,if_pos (by rw[h];rfl),e02]
  ·rw[if_pos (by simpa using h),q90,q11,if_neg (show¬a.v=0 from fun e=>h (El.ext' e)),Nat.add_comm]
theorem n88{b:El z}{n:Nat}(hone:pw b n=1)(hord: ∀i j,i<n→j<n→pw b i=pw b j→i=j)(h0:0<n){W:List (El z)}(hW:W.length=n){fr st r:Nat}(hst:Nat.gcd st n=1)
 (hz: ∀m,m<r→ev W (pw b (fr+m*st))=0):supp W=[]∨r+1≤(supp W).length:=by
 have hbz:b≠0:=fun e=>by
  rw[e,ii7 (by omega)]at hone
  exact FK.zero_ne hone
 have hpz: ∀j,pw b j≠0:=fun j e=>by
  rcases cb2 j with e0|e0
  ·rw[e0]at e;exact FK.zero_ne (show(0:El z)=1 from e.symm)
  ·exact hbz (gk0 e (by omega))
 have hc:Nat.Coprime n st:=Nat.Coprime.symm hst
 have hdist: ∀i j,i<n→j<n→pw b (i*st)=pw b (j*st)→i=j:=fun i j hi hj e=>by
  rw[←bt9 hone (i*st),←bt9 hone (j*st)]at e
  exact w94 hc hi hj (hord _ _ (gn6 _ h0) (gn6 _ h0) e)
 have hnd:(supp W).Nodup:=List.Pairwise.filter _ s08
 have hmem: ∀i,i∈supp W↔i<n∧wf W i≠0:=fun i=>by unfold supp;rw[ma5,l16,hW];simp
 cases hs:supp W with
 |nil=>exact .inl rfl
 |cons i0 I=>
  refine .inr ?_
  refine ly5 fun hlt=> ?_
  rw[hs]at hnd
  have hnd':=y50.1 hnd
  have hi0:=(hmem i0).1 (by rw[hs];exact rn8)
  have hIn: ∀i∈I,i<n:=fun i hi=>((hmem i).1 (by rw[hs];exact iz7 _ hi)).1
  obtain⟨L,hL⟩: ∃L,L=loc (I.map fun i=>pw b (i*st)):=⟨_,rfl⟩
  have hLl:L.length=I.length+1:=by rw[hL,ru2,q11]
  rw[q90]at hlt
  have hzero: ∀i,i<n→i≠i0→wf W i*pw b (fr*i)*ev L (pw b (i*st))=0:=fun i hi hne=>by
   by_cases hw:wf W i=0
   ·rw[hw,zero_mul,zero_mul]
   ·have hm:i∈I:=by
     have:=(hmem i).2 ⟨hi,hw⟩
     rw[hs]at this
     exact(r04.1 this).resolve_left hne
    rw[hL,zb6 (vf1.2 ⟨i,hm,rfl⟩),mul_zero]
  have hne:ev L (pw b (i0*st))≠0:=by
   rw[hL]
   refine bl2 fun hm=> ?_
   obtain⟨i,hi,e⟩:=vf1.1 hm
   have:=hdist i i0 (hIn i hi) hi0.1 e
   rw[this]at hi
   exact hnd'.1 hi
  have hsum:sumN L.length (fun m=>wf L m*ev W (pw b (fr+m*st)))=0:=ja4 fun m hm=>by rw[hz m (by omega),mul_zero]
  have hsw:sumN L.length (fun m=>wf L m*ev W (pw b (fr+m*st)))=sumN n fun i=>wf W i*pw b (fr*i)*ev L (pw b (i*st)):=by
   have e1:(fun m=>wf L m*ev W (pw b (fr+m*st)))=fun m=>sumN n fun i=>wf L m*(wf W i*pw b (fr*i)*pw (pw b (i*st)) m):=funext fun m=>by
    rw[tf2 W _ n (by omega),x18]
    congr 1
    refine rc1 fun i _=> ?_
    rw[b33,b33,ur9,rn5,←FK.mul_assoc,show m*st*i=i*st*m by rw[f52 m st,Nat.mul_assoc,f52 m i,←Nat.mul_assoc,f52 st i]]
   rw[e1]
   unfold sumN
   rw[j53]
   refine ox7 fun i hi=> ?_
   rw[tf2 L _ L.length (jj6 _)]
   unfold sumN
   rw[←ro9]
   refine ox7 fun m _=> ?_
   rw[←FK.mul_assoc (wf L m),FK.mul_comm (wf L m),FK.mul_assoc]
  rw[hsw,xq2 (s:=i0) hi0.1 fun i hi hne=>hzero i hi hne]at hsum
  exact nk1 (nk1 hi0.2 (hpz _)) hne hsum
end
theorem z13{Z:List Nat}{n fr st:Nat}: ∀(f k:Nat),(∀m,m<k→(fr+m*st)%n∈Z)→ ∀m,m<rnK Z n fr st f k→(fr+m*st)%n∈Z
 |0,k,h,m,hm=>h m hm
 |f+1,k,h,m,hm=>by
  rw[rnK]at hm
  split at hm
  ·rename_i hk
   refine z13 f (k+1) (fun m' hm'=> ?_) m hm
   rcases nh9 m' k with h1|h1
   ·exact h m' h1
   ·obtain rfl:m'=k:=by omega
    exact hk
  ·exact h m hm
theorem e86(Z:List Nat)(n fr st:Nat): ∀f k,k≤rnK Z n fr st f k
 |0,k=>jj6 _
 |f+1,k=>by
  rw[rnK]
  split
  ·have:=e86 Z n fr st f (k+1);omega
  ·exact jj6 _
theorem dd4{Z:List Nat}{n fr st M:Nat}: ∀(f k:Nat),(∀m,m<M→(fr+m*st)%n∈Z)→M≤k+f→M≤rnK Z n fr st f k∨M≤k
 |0,k,h,hM=> .inr hM
 |f+1,k,h,hM=>by
  rw[rnK]
  rcases nh9 k M with hk|hk
  ·rw[if_pos (h k hk)]
   rcases dd4 f (k+1) h (by omega)with h1|h1
   ·exact .inl h1
   ·refine .inl ?_
    have:=e86 Z n fr st f (k+1)
    omega
  ·exact .inr hk
theorem xv4{Z:List Nat}{n st:Nat}{P:Nat→Prop}(hm: ∀a b,P a→P b→P (max a b))(hr: ∀fr,P (rnK Z n fr st n 0)): ∀m fr best,P best→P (frB Z n st m fr best)
 |0,fr,best,h=>h
 |m+1,fr,best,h=>by rw[frB];exact xv4 hm hr m (fr+1) _ (hm _ _ h (hr fr))
theorem q60{Z:List Nat}{n:Nat}{P:Nat→Prop}(hm: ∀a b,P a→P b→P (max a b))(hr: ∀fr st,Nat.gcd st n=1→P (rnK Z n fr st n 0)): ∀m st best,P best→P (stB Z n m st best)
 |0,st,best,h=>h
 |m+1,st,best,h=>by
  rw[stB]
  refine q60 hm hr m (st+1) _ ?_
  split
  ·rename_i hg
   exact xv4 hm (fun fr=>hr fr st hg) n 0 best h
  ·exact h
theorem c45{Z:List Nat}{n st:Nat}: ∀m fr best,best≤frB Z n st m fr best∧ ∀f,fr≤f→f<fr+m→rnK Z n f st n 0≤frB Z n st m fr best
 |0,fr,best=>⟨jj6 _,fun f h1 h2=>by omega⟩
 |m+1,fr,best=>by
  rw[frB]
  obtain⟨a,b⟩:=c45 (Z:=Z) (n:=n) (st:=st) m (fr+1) (max best (rnK Z n fr st n 0))
  refine⟨by omega,fun f h1 h2=> ?_⟩
  rcases nh9 fr f with h|h
  ·exact b f h (by omega)
  ·obtain rfl:f=fr:=by omega
   omega
theorem vb3{Z:List Nat}{n:Nat}: ∀m st best,best≤stB Z n m st best
 |0,st,best=>jj6 _
 |m+1,st,best=>by
  rw[stB]
  have h1:=vb3 (Z:=Z) (n:=n) m (st+1) (if Nat.gcd st n=1 then frB Z n st n 0 best else best)
  have h2:=(c45 (Z:=Z) (n:=n) (st:=st) n 0 best).1
  have h3:best≤if Nat.gcd st n=1 then frB Z n st n 0 best else best:=by split<;>omega
  exact md7 h3 h1
theorem ms2{Z:List Nat}{n fr M:Nat}(h0:0<n)(hf:fr<n)(hM:M<n)(h: ∀m,m<M→(fr+m)%n∈Z):M<bndN Z n:=by
 unfold bndN
 obtain⟨m,rfl⟩: ∃m,n=m+1:=⟨n-1,by omega⟩
 rw[stB,if_pos (Nat.gcd_one_left _)]
 have h1:=vb3 (Z:=Z) (n:=m+1) m (1+1) (frB Z (m+1) 1 (m+1) 0 0)
 have h2:=(c45 (Z:=Z) (n:=m+1) (st:=1) (m+1) 0 0).2 fr (ms7 _) (by omega)
 rcases dd4 (Z:=Z) (n:=m+1) (fr:=fr) (st:=1) (M:=M) (m+1) 0 (fun k hk=>by rw[mp4];exact h k hk) (by omega)with h3|h3
 ·omega
 ·omega
section
variable {q:Int} [IsFld q] {N s:Nat} {Z:List Nat} [IsFld (s:Int)] {b:El (s:Int)} {E:El q→El (s:Int)} {g:List (El q)}
theorem cv3(h:GenG q N Z s b E g)(h0:0<N){w:List (El q)}(hw:w.length=N)(hm:Mg (wf g) (wf w)):wtW (vs w)=0∨bndN Z N≤wtW (vs w):=by
 have hsup:supp (w.map E)=supp w:=by
  unfold supp
  rw[q11]
  refine List.filter_congr fun i _=> ?_
  rw[h.hom.wf,zv8]
  exact⟨fun a e=>a (by rw[e,h.hom.zero]),fun a e=>a (h.hom.ker _ e)⟩
 have hp: ∀r,(∃fr st,Nat.gcd st N=1∧r=rnK Z N fr st N 0)→wtW (vs w)=0∨r+1≤wtW (vs w):=fun r ⟨fr,st,hg,hr⟩=>by
  have:=n88 h.root.one h.root.ord h0 (W:=w.map E) (by rw[q11,hw]) (fr:=fr) (r:=r) hg fun m hm'=>by
   have h1:=z13 (Z:=Z) (n:=N) (fr:=fr) (st:=st) N 0 (fun m hm=>by omega) m (by rw[←hr];exact hm')
   have h2:=h.mg_zero hm h1
   rwa [bt9 h.root.one]at h2
  rw[hsup]at this
  rcases this with e|e
  ·left;rw[←wh6,e];rfl
  ·right;rw[←wh6];exact e
 unfold bndN
 exact q60 (Z:=Z) (n:=N) (P:=fun r=>wtW (vs w)=0∨r+1≤wtW (vs w)) (fun a b ha hb=>by rcases ha with ha|ha<;>rcases hb with hb|hb<;>omega) (fun fr st hg=>hp _ ⟨fr,st,hg,rfl⟩) N 1 0 (by omega)
theorem b78: ∀l:List Int,wtW l≤l.length
 | []=>jj6 _
 |x::l=>by rw[wtW,q90];have:=b78 l;split<;>omega
theorem j48: ∀{w:List (El q)},wtW (vs w)=0→ ∀i,wf w i=0
 | [],_,i=>rfl
 |a::w,h,i=>by
  rw[e55,wtW]at h
  split at h
  ·rename_i ha
   cases i with
   |zero=>rw[qa6];exact El.ext' ha
   |succ i=>rw[rw8];exact j48 (w:=w) (by omega) i
  ·omega
theorem sd4{k B:Nat}{R:List (List (El q))}(hall: ∀w∈allW k R,wtW (vs w)=0∨B≤wtW (vs w))(hlen: ∀w∈allW k R,w.length=k)(hex: ∃w∈allW k R,wtW (vs w)≠0):(B:Int)≤jq9 (wgt k R):=by
 have key: ∀v:Nat,(∃w∈allW k R,wtW (vs w)≠0∧wtW (vs w)≤v)→ ∃D:Nat,1≤D∧(∃w∈allW k R,wtW (vs w)=D)∧ ∀w∈allW k R,wtW (vs w)=0∨D≤wtW (vs w):=by
  intro v
  induction v with
  |zero=>rintro⟨w,h1,h2,h3⟩;omega
  |succ v ih=>
   rintro⟨w,h1,h2,h3⟩
   by_cases h4: ∃w∈allW k R,wtW (vs w)≠0∧wtW (vs w)≤v
   ·exact ih h4
   ·have hge: ∀w∈allW k R,wtW (vs w)=0∨v+1≤wtW (vs w):=fun w' hw'=>by
     by_cases h5:wtW (vs w')=0
     ·exact .inl h5
     ·exact .inr (ly5 fun h6=>h4 ⟨w',hw',h5,by omega⟩)
    have:=hge w h1
    exact⟨wtW (vs w),by omega,⟨w,h1,rfl⟩,fun w' hw'=>by have:=hge w' hw';omega⟩
 obtain⟨w0,a1,a2⟩:=hex
 obtain⟨D,h1,⟨w,h2,h3⟩,h4⟩:=key _ ⟨w0,a1,a2,jj6 _⟩
 have hD:D≤k:=by
  have:=b78 (vs w)
  rw[fi2,hlen w h2]at this
  omega
 rw[f45 h1 hD h4 ⟨w,h2,h3⟩]
 have:=hall w h2
 omega
end
section
variable {z:Int} [IsFld z]
theorem hl5{a:List (El z)}(h:a.length≤100)(x:El z): ¬ca3 a [x,1]:=fun⟨h1,h2,h3⟩=>by
 have l1:=tb1 a
 have l2:=tb1 [x,1]
 have:([x,1]:List (El z)).length=2:=rfl
 omega
theorem dv1(b:El z)(k:Nat):fneg z (fpow z b.v (k:Int))=(-(pw b k)).v:=by rw[n00,tg5]
def mixL(A B:List Int)(i:Nat):List Int:=A.take i++B.drop i
theorem bg4(A B:List Int):mixL A B 0=B:=by unfold mixL;rw[si3,sv4,m51]
theorem xo2{A B:List Int}(h:A.length=B.length){i:Nat}(hi:i≤B.length):(mixL A B i).length=B.length:=by
 unfold mixL;rw[j82,vb8,h51];omega
theorem by1{A B:List Int}(h:A.length=B.length):mixL A B B.length=A:=by
 unfold mixL;rw[List.drop_length,nw0,sp3 (by omega)]
theorem no1{A B:List Int}(h:A.length=B.length){i:Nat}{x:Int}(hx:B[i]? =some x):(mixL A B i)[i]? =some x:=by
 have hi:=(ck5.1 hx).1
 have hl:(A.take i).length=i:=by rw[vb8];omega
 unfold mixL
 rw[lp1 (by omega),hl,ob6,i62 hx];rfl
theorem pe6{A B:List Int}(h:A.length=B.length){i:Nat}{x y:Int}(hx:B[i]? =some x)(hy:A[i]? =some y):(mixL A B i).set i y=mixL A B (i+1):=by
 have hi:=(ck5.1 hx).1
 have hl:(A.take i).length=i:=by rw[vb8];omega
 unfold mixL
 rw[v62 _ _ (by omega),hl,ob6,i62 hx,kv0,da3,hy]
 simp
end
section
variable {q:Int} [IsFld q] {s:Nat} [IsFld (s:Int)] {b:El (s:Int)}
theorem hq4{Z:List Nat}(hZ:Z.length≤64): ∀(d i nl:Nat),i+d=Z.length→ ∃nl',∀ks,
 vgoL W ⟨hNo,[.tmp 6, .tmp 7],0⟩ [0,10,11,12,40,41,42] c13L0 (.blk 0 [0,10,12]::ks) [(0, .x (.int .i64 q)),(10, .fz true (pF (s:Int))),(11, .x (.int .i64 b.v)),(12, .own 0 []),(40, .own 1 []),(41, .x (.int .i64 Z.length)),(42, .x (.int .i64 i))] [.sl nl 3 1 (ivs (vs (loc ((Z.take i).map fun k=>pw b k)))), .sl 1 3 1 (ivs (nvs Z))]=
  vgo W ⟨hNo,[.tmp 6, .tmp 7],0⟩ ks (VFr.of [(0, .x (.int .i64 q)),(10, .fz true (pF (s:Int))),(12, .own 0 [])]) [.sl nl' 3 1 (ivs (vs (loc (Z.map fun k=>pw b k)))), .sl 1 3 1 (ivs (nvs Z))]
 |0,i,nl,hi=>by
  refine⟨nl,fun ks=> ?_⟩
  rw[sp3 (by omega),sb5 c13L0.eq_def]
  generalize (loc (Z.map fun k=>pw b k))=A at*
  simp(disch:=first|omega|fail) only[push_cast,seval,vrl,if_pos,if_neg]
 |d+1,i,nl,hi=>by
  obtain⟨k,hk⟩:=ge6 (l:=Z) (i:=i) (by omega)
  have h1:(ivs (nvs Z))[i]? =some (.v (.int .i64 (k:Int))):=iat (by unfold nvs;rw[us5,hk];rfl)
  have hnl:=sd2 Z
  have hl:=ru2 ((Z.take i).map fun k=>pw b k)
  rw[q11,vb8]at hl
  obtain⟨n1,e1⟩:=h84 (b:=false) (nl:=nl) (b':=false) (nl':=0) (a:=loc ((Z.take i).map fun k=>pw b k)) (c:=[-(pw b k),1]) (by omega) (by show 2≤128;omega) (hl5 (by omega) _)
  obtain⟨nl',ih⟩:=hq4 hZ d (i+1) n1 (by omega)
  refine⟨nl',fun ks=> ?_⟩
  have ih:=ih ks
  rw[da3,hk,Option.toList_some,hm3,List.map_singleton,ll1,e96,g71]at ih
  rw[show ivs (vs [-(pw b k),1])=[.v (.int .i64 (-(pw b k)).v), .v (.int .i64 1)]from rfl]at e1
  have hx:=dv1 b k
  rw[←ih,sb5 c13L0.eq_def]
  generalize mulK (loc ((Z.take i).map fun k=>pw b k)) [-(pw b k),1]=A2 at*
  generalize loc ((Z.take i).map fun k=>pw b k)=A at*
  generalize nvs Z=zz at*
  simp(disch:=first|omega|fail) only[push_cast,seval,vrl,if_pos,if_neg,h1,hnl,hx,e1]
theorem i35{l:List Int}{E:El q→El (s:Int)}(hE:Emb (s:Int) q l E)(hl:l.length=q.toNat){g:List (El q)}(hg:g.length≤100){nl n1:Nat}: ∀(d i:Nat),i+d=g.length→ ∀ks,
 vgoL W ⟨hNo,[.tmp 6, .tmp 7],0⟩ [12,15,68,69,70] c13L1 (.blk 2 [12]::ks) [(12, .own 0 []),(15, .own 1 []),(68, .own 0 []),(69, .x (.int .i64 g.length)),(70, .x (.int .i64 i))] [.sl nl 3 1 (ivs (mixL (vs g) (vs (g.map E)) i)), .sl n1 3 1 (ivs l)]=
  vgo W ⟨hNo,[.tmp 6, .tmp 7],0⟩ ks (VFr.of [(12, .own 0 [])]) [.sl nl 3 1 (ivs (vs g)), .sl n1 3 1 (ivs l)]
 |0,i,hi,ks=>by
  have hlen:(vs g).length=(vs (g.map E)).length:=by rw[fi2,fi2,q11]
  have hi2:i=(vs (g.map E)).length:=by rw[fi2,q11];omega
  rw[hi2,by1 hlen,←hi2,sb5 c13L1.eq_def]
  generalize vs g=A at*
  simp(disch:=first|omega|fail) only[push_cast,seval,vrl,if_pos,if_neg]
 |d+1,i,hi,ks=>by
  have hlen:(vs g).length=(vs (g.map E)).length:=by rw[fi2,fi2,q11]
  have hlen2:(vs (g.map E)).length=g.length:=by rw[fi2,q11]
  obtain⟨c,hc⟩:=ge6 (l:=g) (i:=i) (by omega)
  have hA:(vs g)[i]? =some c.v:=by unfold vs;rw[us5,hc];rfl
  have hB:(vs (g.map E))[i]? =some (E c).v:=by unfold vs;rw[us5,us5,hc];rfl
  have h1:=iat (no1 hlen hB)
  have h2:(ivs (mixL (vs g) (vs (g.map E)) i)).set i (.v (.int .i64 c.v))=ivs (mixL (vs g) (vs (g.map E)) (i+1)):=by rw[←pe6 hlen hB hA];unfold ivs;rw[fx9];rfl
  have h3:=xo2 hlen (i:=i) (by omega)
  rw[hlen2]at h3
  have hq2:=aw0 (q:=q)
  have hq3:=q_hi (q:=q)
  have e1:=fun b nl=>bd9 (b:=b) (nl:=nl) (l:=l) (x:=(E c).v) (by omega)
  rw[re5 hE hl c]at e1
  have ih:=i35 hE hl hg (nl:=nl) (n1:=n1) d (i+1) (by omega) ks
  rw[e96,g71]at ih
  rw[←ih,sb5 c13L1.eq_def]
  generalize mixL (vs g) (vs (g.map E)) (i+1)=A2 at*
  generalize mixL (vs g) (vs (g.map E)) i=A1 at*
  simp(disch:=first|omega|fail) only[push_cast,seval,vrl,if_pos,if_neg,h1,h2,h3,e1]
theorem lh2{N:Nat}{zs:List Int}{nl:Nat}(h0:0<N)(hN:N≤64)(h:N%chN q≠0)(hz:zs.length≤64)(hb:zs.any (badZ N)=false)(hs:homZ q N=some s)(hv:b.v=vs3 s N)(he0:(embP q (s:Int)).1=0)
 {E:El q→El (s:Int)} (hE:Emb (s:Int) q (embP q (s:Int)).2 E) (hl:(embP q (s:Int)).2.length=q.toNat) {g:List (El q)} (hg:g.map E=loc ((zerN q.toNat N (inZ zs)).map fun k=>pw b k)):
 ∃nl',o25 W 13 [.x (.int .i64 q), .x (.int .i64 N), .fz true (.sl nl 0 1 (ivs zs))] []=some (.tup [.own 0 [], .x (.int .i64 0)],[.sl nl' 3 1 (ivs (vs g))],[]):=by
 have e1:=m13 (nl:=nl) h0 hN h hz hb
 have e2:=hy6 h0 hN h hs
 have hZ:=pl9 q.toNat N (inZ zs)
 obtain⟨n1,e3⟩:=hq4 (q:=q) (b:=b) (Z:=zerN q.toNat N (inZ zs)) (by omega) (zerN q.toNat N (inZ zs)).length 0 0 (by omega)
 have hgl:g.length=(zerN q.toNat N (inZ zs)).length+1:=by
  have:=congrArg List.length hg
  rwa [q11,ru2,q11]at this
 have e4:=fun ks=>i35 hE hl (g:=g) (by omega) (nl:=n1) (n1:=nlT (embP q (s:Int)).2) g.length 0 (by omega) ks
 rw[bg4,hg]at e4
 rw[show ivs (vs (loc (((zerN q.toNat N (inZ zs)).take 0).map fun k=>pw b k)))=[.v (.int .i64 1)]from rfl]at e3
 have e5:=lh5 (q:=q) (s:=(s:Int))
 rw[he0]at e5
 have hpl:(vs (loc ((zerN q.toNat N (inZ zs)).map fun k=>pw b k))).length=g.length:=by rw[fi2,←hg,q11]
 have hnl:=sd2 (zerN q.toNat N (inZ zs))
 rw[hv]at e3
 refine⟨n1, ?_⟩
 simp only[vx9]at e3 e4
 rw[o10 rfl T13 rfl]
 unfold F13 c13
 generalize vs (loc ((zerN q.toNat N (inZ zs)).map fun k=>pw b k))=P at*
 generalize (zerN q.toNat N (inZ zs)).length=nZ at*
 generalize nvs (zerN q.toNat N (inZ zs))=zz at*
 simp(disch:=first|omega|fail) only[push_cast,seval,vrl,if_pos,if_neg,e1,e2,hnl]
 rw[e3]
 simp(disch:=first|omega|fail) only[push_cast,seval,vrl,if_pos,if_neg,e5,hpl]
 rw[e4]
 simp(disch:=first|omega|fail) only[push_cast,seval,vrl,if_pos,if_neg]
end
set_option maxHeartbeats 2000000
section
variable {q:Int} [IsFld q]
variable {b b':Bool} {nl nl':Nat} {P:List (El q×El q)}
end
section
variable {q:Int} {b b':Bool} {nl nl':Nat}
end
section
variable {K:Type} [FK K]
end
section
variable {q p m g:Int} [IsFld q] {t:Tree} {b b':Bool} {nl nl':Nat} {a c:List (El q)}
end
section
variable {q:Int} [IsFld q] {d v:Nat} {a0 z:List (El q)}
end
set_option maxHeartbeats 4000000
section
variable {b b':Bool} {nl nl':Nat} {x y:List Int}
end
section
variable {l:List (Nat×List Int)}
end
set_option maxHeartbeats 4000000
section
variable {l:List (Nat×List Int)}
end
set_option maxHeartbeats 2000000
section
variable {q:Int} [IsFld q]
end
set_option maxHeartbeats 2000000
section
variable {q:Int} [IsFld q] {b:Bool} {nl:Nat}
end
section
variable {q:Int} {b:Bool} {nl:Nat}
end
section
variable {q:Int}
end
set_option maxHeartbeats 2000000
section
variable {q p m g:Int} [IsFld q] {t:Tree} {d:Nat} {a0:List (El q)}
end
set_option maxHeartbeats 2000000
section
variable {b b':Bool} {nl nl':Nat} {x y:List Int}
end
section
variable {no:Nat} {l:List (List Int)}
end
section
variable {q:Int} [IsFld q] {b:Bool} {nl:Nat}
end
set_option maxHeartbeats 4000000
section
variable {q:Int} {b b':Bool} {nl nl':Nat}
end
section
variable {q:Int} [IsFld q] {b b':Bool} {nl nl':Nat}
end
set_option maxHeartbeats 4000000
section
variable {q:Int} {b:Bool} {nl:Nat} {l:List Int}
end
section
variable {q:Int} [IsFld q] {b:Bool} {nl:Nat}
end
set_option maxHeartbeats 4000000
section
variable {q p m g:Int} [IsFld q] {t:Tree} {b b':Bool} {nl nl':Nat}
end
section
variable {q:Int} {b b':Bool} {nl nl':Nat} {l k:List Int} {x:Int}
end
section
variable {q:Int} [IsFld q] {b b':Bool} {nl nl':Nat} {x:Int}
end
section
variable {q n:Int} {a:List Int} {b:Bool} {nl:Nat}
end
section
variable {q:Int} [IsFld q] {n:Nat} {a:List (El q)} {b:Bool} {nl:Nat}
theorem um9(n:Nat):(Tree.v (.int .i64 (fneg q 1))::ivs (List.replicate n 0)).set n (.v (.int .i64 1))=ivs (vs (oneL n:List (El q))):=by
 rw[←qp8];unfold ivs;rw[fx9];rfl
theorem ka9{g:List (El q)}(h:g≠[]):nlT g=0:=by cases g with
 |nil=>exact absurd rfl h
 |cons x g=>rfl
theorem m35(ha:a.length≤128)(h0:0<n)(hn:n≤64)(ht:xa5 a≠[])(hr:remP (xa5 (oneL n:List (El q))) (xa5 a)=[]):
 o25 W 19 [.x (.int .i64 q), .x (.int .i64 n), .fz b (.sl nl 0 1 (ivs (vs a)))] []=some (.tup [.agg [.x (.int .i64 q), .x (.int .i64 n), .own 0 []], .x (.int .i64 0)],[.sl 2 22 1 (lls 2 (pvR (redR (cycM n (xa5 a)))))],[]):=by
 have e1:=fun b nl=>bw7 (q:=q) (b:=b) (nl:=nl) (l:=vs a) (by rw[fi2];omega)
 simp only[i31 (q:=q) (a:=a) ha]at e1
 have ho:=vc9 (q:=q) n
 have hone:=um9 (q:=q) n
 obtain⟨m,e2⟩:=pl2 (q:=q) (b:=false) (b':=b) (nl:=0) (nl':=nl) (a:=oneL n) (c:=a) (by omega) ha ht
 rw[hr]at e2
 have e3:=fun b nl b' nl'=>wa2 (q:=q) (b:=b) (nl:=nl) (b':=b') (nl':=nl') (a:=a) (c:=[]) ha (ms7 _)
 have hadd:addK a []=xa5 a:=by
  refine(lz5 (y42 _ _) (t12 _) ?_)
  rw[w62,vb5]
  funext i
  rw[e00 (l:=([]:List (El q))) (ms7 _),FK.add_zero]
 simp only[hadd,ka9 ht,rp2,lz6]at e3
 have hlen:=hn3 h0 (t12 a) ht (v31 (t12 a) ht hr)
 have hv:=fi2 (xa5 a)
 by_cases hg:(xa5 a).length≤n
 ·have hgp:=py7.2 ht
  have hC:=tc0 (q:=q) (k:=n) (N:=cycM n (xa5 a)) h0 hn (by rw[nc3];omega) (td5 hg) (sy6 (by rw[nc3];omega) (td5 hg) h0 hn)
  have e4:=fun nl nr=>ob1 (nl:=nl) (nr:=nr) hC h0 hn (by rw[nc3];have:=py7.2 ht;omega) (td5 hg)
  have e:=fun T1 ng ks=>v78 (q:=q) (g:=xa5 a) (n:=n) ht hg hn (T1:=T1) (ng:=ng) ks
  rw[o10 rfl T19 rfl]
  unfold F19 c19
  generalize xa5 a=G at*
  simp(disch:=first|omega|fail) only[push_cast,seval,vrl,if_pos,if_neg,e1,show((n:Int)+1).toNat=n+1 by omega,hone,e2,e3]
  rw[e]
  simp(disch:=first|omega|fail) only[push_cast,seval,vrl,if_pos,if_neg,e4]
 ·have hc:cycM n (xa5 a)=[]:=by unfold cycM;rw[show n+1-(xa5 a).length=0 by omega];rfl
  have hC:=tc0 (q:=q) (k:=n) (N:=[]) h0 hn (ms7 _) (fun r hr=>by cases hr) (sy6 (n:=n) (ms7 _) (fun r hr=>by cases hr) h0 hn)
  have e4:=fun nl=>ob1 (nl:=nl) (nr:=0) hC h0 hn (ms7 _) (fun r hr=>by cases hr)
  rw[gw5]at e4
  simp only[em1]at e4
  have hgl:(n:Int)<((xa5 a).length:Int):=by omega
  have hex: ∀T1 ng ks,vgoL W ⟨hNo,[(.cell 6 true 3), .tmp 7],0⟩ [1,2,6,15,16] c19L0 (.blk 0 [6,15]::ks) [(1, .x (.int .i64 n)),(2, .own 0 []),(6, .own 1 []),(15, .own 2 []),(16, .x (.int .i64 0))] [.sl ng 3 1 (ivs (vs (xa5 a))),T1, .pt 35 [.v (.int .i64 q), .v (.int .i64 n), .v (.slice none 0 0)]]=
   vgo W ⟨hNo,[(.cell 6 true 3), .tmp 7],0⟩ ks (VFr.of [(6, .own 1 []),(15, .own 2 [])]) [.sl ng 3 1 (ivs (vs (xa5 a))),T1, .pt 35 [.v (.int .i64 q), .v (.int .i64 n), .v (.slice none 0 0)]]:=fun T1 ng ks=>by
   rw[sb5 c19L0.eq_def]
   generalize xa5 a=G at*
   simp(disch:=first|omega|fail) only[push_cast,seval,vrl,if_pos,if_neg,hv,qc6 hgl]
  rw[hc,o10 rfl T19 rfl]
  unfold F19 c19
  generalize xa5 a=G at*
  simp(disch:=first|omega|fail) only[push_cast,seval,vrl,if_pos,if_neg,e1,show((n:Int)+1).toNat=n+1 by omega,hone,e2,e3]
  rw[hex]
  simp(disch:=first|omega|fail) only[push_cast,seval,vrl,if_pos,if_neg,e4]
end
set_option maxHeartbeats 4000000
section
variable {K:Type} [FK K] {k:Nat}
theorem wq0(c:K){w x:List K}(hw:w.length=k)(hx:x.length=k):wf (mac c w k 0 x)=axp c (wf x) (wf w):=by
 funext i
 rw[ga7 _ _ _ _ _ _ (by omega)]
 show _=wf x i+c*wf w i
 by_cases hi:i<k
 ·rw[if_pos ⟨ms7 _,by omega⟩]
 ·rw[if_neg (by omega),e00 (l:=w) (by omega),mul_zero,FK.add_zero]
theorem ld7{S:List (Nat→K)}{a:List K}: ∀(Q:List (List K)) (i:Nat) (x:List K),x.length=k→(∀r∈Q,r.length=k)→Span S (wf x)→(∀r∈Q,Span S (wf r))→Span S (wf (prow k a Q i x))
 | [],i,x,hx,_,h,_=>by rw[prow];exact h
 |w::Q,i,x,hx,hl,h,hr=>by
  rw[prow]
  refine ld7 Q (i+1) _ (by rw[ev4];exact hx) (fun r h=>hl r (by simp[h])) ?_ fun r h=>hr r (by simp[h])
  rw[wq0 _ (hl w (by simp)) hx]
  exact h.axp (hr w (by simp)) _
theorem so3(n:Nat):wf (List.replicate n (0:K))=fun _=>0:=rb9 n
end
section
variable {q:Int} [IsFld q] {k:Nat}
theorem a19{m:List (El q)}{R:List (List (El q))}(hR: ∀r∈R,r.length=k):Span (R.map wf) (wf (encL k m R)):=by
 unfold encL
 refine ld7 R 0 _ (by simp) hR (by rw[so3];exact .zero) fun r hr=> .mem (vf1.2 ⟨r,hr,rfl⟩)
end
def gf0(q n:Int):Bool:=decide (cycE q n=0)&&(homZ q n.toNat).isSome&&decide (2≤n)&&decide (n≤64)
def md5:List (Int×Int):=[(2,3),(2,5),(2,7),(2,9),(2,15),(2,21),(3,4),(3,8),(3,13),(4,3),(4,5),(4,15),(5,4),(5,6),(7,6),(8,7),(8,9),(9,8)]
theorem nu7:(md5.all fun p=>gf0 p.1 p.2)=true:=by kernel_rfl
theorem xv6{i:Int}(h0:0≤i)(h1:i<18): ∃q n:Int,([.sl 2 3 1 [.v (.int .i64 2), .v (.int .i64 3)], .sl 2 3 1 [.v (.int .i64 2), .v (.int .i64 5)], .sl 2 3 1 [.v (.int .i64 2), .v (.int .i64 7)], .sl 2 3 1 [.v (.int .i64 2), .v (.int .i64 9)], .sl 2 3 1 [.v (.int .i64 2), .v (.int .i64 15)], .sl 2 3 1 [.v (.int .i64 2), .v (.int .i64 21)], .sl 2 3 1 [.v (.int .i64 3), .v (.int .i64 4)], .sl 2 3 1 [.v (.int .i64 3), .v (.int .i64 8)], .sl 2 3 1 [.v (.int .i64 3), .v (.int .i64 13)], .sl 2 3 1 [.v (.int .i64 4), .v (.int .i64 3)], .sl 2 3 1 [.v (.int .i64 4), .v (.int .i64 5)], .sl 2 3 1 [.v (.int .i64 4), .v (.int .i64 15)], .sl 2 3 1 [.v (.int .i64 5), .v (.int .i64 4)], .sl 2 3 1 [.v (.int .i64 5), .v (.int .i64 6)], .sl 2 3 1 [.v (.int .i64 7), .v (.int .i64 6)], .sl 2 3 1 [.v (.int .i64 8), .v (.int .i64 7)], .sl 2 3 1 [.v (.int .i64 8), .v (.int .i64 9)], .sl 2 3 1 [.v (.int .i64 9), .v (.int .i64 8)]]:List Tree)[i.toNat]? =some (.sl 2 3 1 [.v (.int .i64 q), .v (.int .i64 n)])∧gf0 q n=true:=by
 have key: ∀k:Nat,k<18→ ∃q n:Int,(md5.map fun p=>Tree.sl 2 3 1 [.v (.int .i64 p.1), .v (.int .i64 p.2)])[k]? =some (.sl 2 3 1 [.v (.int .i64 q), .v (.int .i64 n)])∧gf0 q n=true:=fun k hk=>by
  have hlt:k<md5.length:=hk
  refine⟨md5[k].1,md5[k].2,by rw[us5,wu3 hlt];rfl,p92.1 nu7 _ (ws6 hlt)⟩
 exact key i.toNat (by omega)
theorem qb7{wh:Int}(w1: -9223372036854775808≤wh)(w2:wh≤9223372036854775807): ∃q n:Int,gf0 q n=true∧o25 W 28 [.x (.int .i64 wh)] []=some (.tup [.x (.int .i64 q), .x (.int .i64 n)],[],[]):=by
 have p1:=s88 (n:=18) w1 w2 (by omega)
 have k1:=h58 (a:=wh) (n:=18) (by omega)
 obtain⟨q,n,hat,hgood⟩:=xv6 k1.1 k1.2
 refine⟨q,n,hgood, ?_⟩
 generalize pkI wh 18=i at*
 rw[o10 rfl T28 rfl]
 unfold F28 c28
 simp(disch:=first|omega|fail) only[push_cast,seval,vrl,if_pos,if_neg,p1,hat]
theorem c82{q:Int} [IsFld q]{N s:Nat}{zs:List Int}(h0:0<N)(hN:N≤64)(h:N%chN q≠0)(hh:HomF q N s) [IsFld (s:Int)]:(embP q (s:Int)).1=0∧(embP q (s:Int)).2.length=q.toNat∧ ∃(b:El (s:Int)) (E:El q→El (s:Int)) (g:List (El q)),b.v=vs3 s N∧Emb (s:Int) q (embP q (s:Int)).2 E∧GenG q N (zerN q.toNat N (inZ zs)) s b E g:=by
 obtain⟨b,hb⟩:=jx5 h0 hh
 obtain⟨w1,w2,w3,w4,E,hE⟩:=g58 hh
 have hc:=fm8 h0 hN h
 obtain⟨g,hg⟩:=i95 hE w1 w2 (od8 hh) (rf8 (s:=q) hb.one hc (Z:=zerN q.toNat N (inZ zs)) (gv7 _ _) (fun x hx=>(ro7.1 hx).1) (qn9 hc hN (inZ zs)))
 exact⟨w3,w4,b,E,g,hb.v,hE,hb,⟨_,hE⟩,hg⟩
section
variable {q n:Nat} {T:Tree} {nl:Nat}
end
section
variable {Q:Int} [IsFld Q] {s:Nat} [IsFld (s:Int)] {b:El (s:Int)} {p m g:Int} {t:Tree}
end
section
variable {q:Int} [IsFld q] {s:Nat} [IsFld (s:Int)] {b:El (s:Int)}
end
section
variable {q:Int} [IsFld q] {n:Nat} {G:List (El q)} {p m g:Int} {t:Tree}
theorem z31(i k n:Nat):((i:Int)+(k:Int)).tmod (n:Int)=(((i+k)%n:Nat):Int):=by
 rw[←e96,dl5 (cw7 _)];rfl
end
section
variable {q:Int} [IsFld q] {n:Nat} {a:List (El q)} {b:Bool} {nl:Nat}
end
def rowZ(N fr:Nat)(m:Nat):List Int:=(List.range m).map fun k=>(((fr+k)%N:Nat):Int)
theorem dv0(N fr m:Nat):(rowZ N fr m).length=m:=by simp[rowZ]
theorem lw3(N fr m:Nat):rowZ N fr (m+1)=rowZ N fr m++[(((fr+m)%N:Nat):Int)]:=by unfold rowZ;rw[List.range_succ,hm3];rfl
theorem mr7{q:Int}{N fr m:Nat}(n0:0<N)(hN:N≤64)(hf:fr<N)(hm:m<N){T:Tree}: ∀(d k:Nat),k+d=m→ ∀ks,
 vgoL W ⟨h21,[(.cell 8 true 3), .tmp 9],0⟩ [0,1,2,8,12,42,43] c21L0 (.blk 0 [0,1,8,12]::ks) [(0, .x (.int .i64 q)),(1, .x (.int .i64 N)),(2, .x (.int .i64 fr)),(8, .own 0 []),(12, .own 1 []),(42, .x (.int .i64 m)),(43, .x (.int .i64 k))] [T, .sl 1 3 1 (ivs (rowZ N fr k))]=
  vgo W ⟨h21,[(.cell 8 true 3), .tmp 9],0⟩ ks (VFr.of [(0, .x (.int .i64 q)),(1, .x (.int .i64 N)),(8, .own 0 []),(12, .own 1 [])]) [T, .sl 1 3 1 (ivs (rowZ N fr m))]
 |0,k,hk,ks=>by
  obtain rfl:k=m:=by omega
  rw[sb5 c21L0.eq_def]
  simp(disch:=first|omega|fail) only[push_cast,seval,vrl,if_pos,if_neg]
 |d+1,k,hk,ks=>by
  have hl:=dv0 N fr k
  have hr:=z31 fr k N
  have hn0: ¬(N:Int)=0:=by omega
  have hlt:(k:Int)<(m:Int):=by omega
  have ih:=mr7 (q:=q) n0 hN hf hm (T:=T) d (k+1) (by omega) ks
  rw[lw3,e96,g71]at ih
  rw[←ih,sb5 c21L0.eq_def]
  generalize rowZ N fr k=R at*
  generalize (fr+k)%N=r at*
  simp(disch:=first|omega|fail) only[push_cast,seval,vrl,if_pos,if_neg,hr,nb8 hn0,dec_lt hlt]
set_option maxHeartbeats 4000000
section
variable {K:Type} [FK K]
theorem hk7(N:Nat)(a:List K): ∀(Q:List (List K)) (k:Nat) (x:List K) (i:Nat),x.length=N→i<N→wf (prow N a Q k x) i=wf x i+sumN Q.length fun j=>wf a (k+j)*wf (nth Q j) i
 | [],k,x,i,hx,hi=>by rw[prow];show _=wf x i+sumN 0 _;rw[wr8,FK.add_zero]
 |w::Q,k,x,i,hx,hi=>by
  rw[prow,hk7 N a Q (k+1) _ i (by rw[ev4];exact hx) hi,ga7 _ _ _ _ _ _ (by omega),if_pos (by omega),q90,c66,FK.add_assoc]
  congr 2
  exact rc1 fun j _=>by rw[show k+1+j=k+(j+1) by omega];rfl
end
section
variable {q:Int} [IsFld q] {k:Nat} {R:List (List (El q))}
theorem bh5(z:List (El q)){i:Nat}(hi:i<k):wf (encL k z R) i=sumN R.length fun j=>wf z j*wf (nth R j) i:=by
 unfold encL
 rw[hk7 k z R 0 _ i (by simp) hi,i67 (by simpa using hi),List.getElem_replicate,zero_add]
 refine ox7 fun j _=> ?_
 rw[e02]
theorem u25{f:Nat→El q}(h:Span (R.map wf) f): ∃z:List (El q),z.length=R.length∧ ∀i,i<k→wf (encL k z R) i=f i:=by
 obtain⟨c,rfl⟩:=tw3 h
 refine⟨(List.range R.length).map c,by simp,fun i hi=> ?_⟩
 rw[bh5 _ hi]
 show _=sumN (R.map wf).length _
 rw[q11]
 refine ox7 fun j hj=> ?_
 have hj:=l16.1 hj
 rw[i67 (by simpa using hj),List.getElem_map,List.getElem_range,os6,us5]
 unfold nth
 rw[os6]
 cases hr:R[j]? with
 |none=>rw[fu5]at hr;omega
 |some r=>rfl
end
section
variable {q:Int} [IsFld q] {N f m:Nat}
theorem sq3(n0:0<N): ∀z∈rowZ N f m,0≤z∧z<(N:Int):=fun z hz=>by
 obtain⟨k,_,rfl⟩:=vf1.1 hz
 have:=gn6 (f+k) n0
 omega
theorem jj2(n0:0<N):(rowZ N f m).any (badZ N)=false:=qb8.2 fun z hz=>by
 obtain⟨a,b⟩:=sq3 n0 z hz
 unfold badZ
 rw[lx1 (by omega),lx1 (by omega)]
 decide
theorem j70(n0:0<N)(n64:N≤64)(hm:N%chN q≠0){k:Nat}(hk:k<m):(f+k)%N∈zerN q.toNat N (inZ (rowZ N f m)):=by
 refine zh5 (fm8 n0 n64 hm) n64 _ (gn6 _ n0) ?_
 unfold inZ rowZ
 exact gd7.2 ⟨_,vf1.2 ⟨k,l16.2 hk,rfl⟩,ce5 rfl⟩
theorem m22{s:Nat} [IsFld (s:Int)]{rb:El (s:Int)}{E:El q→El (s:Int)}{g:List (El q)}(n0:0<N)(n64:N≤64)(hm:N%chN q≠0)(hf:f<N)(hmm:m<N)(hs:homZ q N=some s)(hb:rb.v=vs3 s N)(w3:(embP q (s:Int)).1=0)
 (hE:Emb (s:Int) q (embP q (s:Int)).2 E) (w4:(embP q (s:Int)).2.length=q.toNat) (hG:GenG q N (zerN q.toNat N (inZ (rowZ N f m))) s rb E g):
 o25 W 21 [.x (.int .i64 q), .x (.int .i64 N), .x (.int .i64 f), .x (.int .i64 m)] []=some (.tup [.agg [.x (.int .i64 q), .x (.int .i64 N), .own 0 []], .x (.int .i64 0)],[.sl 2 22 1 (lls 2 (pvR (redR (cycM N g))))],[]):=by
 have e1:=d23 (q:=q) n0 n64 hm
 have e3:=fun T ks=>mr7 (q:=q) n0 n64 (fr:=f) (m:=m) hf hmm (T:=T) m 0 (by omega) ks
 rw[show ivs (rowZ N f 0)=[]from rfl]at e3
 simp only[vx9]at e3
 have hzl:=dv0 N f m
 obtain⟨gn,e2⟩:=lh2 (nl:=1) n0 n64 hm (by omega) (jj2 n0) hs hb w3 hE w4 hG.is
 have htr:xa5 g=g:=ou7 hG.trm
 have hrem:=hG.rem n0 (gv7 _ _) fun x hx=>(ro7.1 hx).1
 have hgl:=hG.len
 have hZn:=pl9 q.toNat N (inZ (rowZ N f m))
 have e4:=fun b nl=>m35 (b:=b) (nl:=nl) (a:=g) (by omega) n0 n64 (by rw[htr];exact hG.ne) (by rw[htr];exact hrem)
 rw[htr]at e4
 generalize cosR q.toNat N=R at*
 generalize rowZ N f m=Z at*
 rw[o10 rfl T21 rfl]
 unfold F21 c21
 simp(disch:=first|omega|fail) only[push_cast,seval,vrl,if_pos,if_neg,e1]
 rw[e3]
 simp(disch:=first|omega|fail) only[push_cast,seval,vrl,if_pos,if_neg,e2,e4]
theorem yj0(n0:0<N)(hN:N≤64)(hf:f<N)(hm:m<N){T:Tree}: ∀(d k:Nat),k+d=m→ ∀ks,
 vgoL W ⟨h6,[.tmp 6],0⟩ [1,2,7,8,9,11,12] c6L0 (.blk 0 [2,7,8,9,11]::ks) [(1, .x (.int .i64 f)),(2, .x (.int .i64 m)),(7, .x (.int .i64 q)),(8, .x (.int .i64 N)),(9, .own 0 []),(11, .own 1 []),(12, .x (.int .i64 k))] [T, .sl 1 3 1 (ivs (rowZ N f k))]=
  vgo W ⟨h6,[.tmp 6],0⟩ ks (VFr.of [(2, .x (.int .i64 m)),(7, .x (.int .i64 q)),(8, .x (.int .i64 N)),(9, .own 0 []),(11, .own 1 [])]) [T, .sl 1 3 1 (ivs (rowZ N f m))]
 |0,k,hk,ks=>by
  obtain rfl:k=m:=by omega
  rw[sb5 c6L0.eq_def]
  simp(disch:=first|omega|fail) only[push_cast,seval,vrl,if_pos,if_neg]
 |d+1,k,hk,ks=>by
  have hl:=dv0 N f k
  have hr:=z31 f k N
  have hn0: ¬(N:Int)=0:=by omega
  have hlt:(k:Int)<(m:Int):=by omega
  have ih:=yj0 n0 hN hf hm (T:=T) d (k+1) (by omega) ks
  rw[lw3,e96,g71]at ih
  rw[←ih,sb5 c6L0.eq_def]
  generalize rowZ N f k=R at*
  generalize (f+k)%N=r at*
  simp(disch:=first|omega|fail) only[push_cast,seval,vrl,if_pos,if_neg,hr,nb8 hn0,dec_lt hlt]
theorem hx5{s:Nat} [IsFld (s:Int)]{Z:List Nat}{rb:El (s:Int)}{E:El q→El (s:Int)}{g:List (El q)}(n0:0<N)(hG:GenG q N Z s rb E g)(hZ:Z.Nodup)(hZl: ∀x∈Z,x<N)(hne:p78 (redR (cycM N g))≠[]):
 ((bndN Z N:Nat):Int)≤jq9 (wgt N (p78 (redR (cycM N g)))):=by
 have hrem:=hG.rem n0 hZ hZl
 have hM: ∀r∈cycM N g,r.length=N:=fun r hr=>by
  obtain⟨j,h5,rfl⟩:=vf1.1 hr
  have:=l16.1 h5
  have:=py7.2 hG.ne
  exact l93 (by omega)
 obtain⟨r1,r2,r3⟩:=bi2 hM
 have hRr: ∀r∈p78 (redR (cycM N g)),r.length=N:=zu4 r2
 have hRsp: ∀w,Span ((p78 (redR (cycM N g))).map wf) w↔Span ((cycM N g).map wf) w:=fun w=>by rw[←r3 w,z42]
 have hw: ∀w∈allW N (p78 (redR (cycM N g))),w.length=N∧Mg (wf g) (wf w):=fun w h=>by
  obtain⟨z,_,rfl⟩:=(wf9 w).1 h
  exact⟨b87 _ _,((dc6 hG.trm hG.ne).1 ((hRsp _).1 (a19 hRr))).1⟩
 refine sd4 (fun w h=>cv3 hG n0 (hw w h).1 (hw w h).2) (fun w h=>(hw w h).1) ?_
 obtain⟨r,hr⟩:=List.exists_mem_of_ne_nil _ hne
 obtain⟨a,ha,rfl⟩:=vf1.1 hr
 obtain⟨z,hz,hzr⟩:=u25 (k:=N) (R:=p78 (redR (cycM N g))) (f:=wf a.2) (.mem (vf1.2 ⟨_,hr,rfl⟩))
 refine⟨_,oi3 z hz,fun e=> ?_⟩
 have hm2:(a.1,wf a.2)∈toF (redR (cycM N g)):=vf1.2 ⟨a,ha,rfl⟩
 have h1:=r1.one _ hm2
 have h2:=r1.lt _ hm2
 have h3:=j48 e a.1
 rw[hzr a.1 h2]at h3
 exact FK.zero_ne (h3.symm.trans h1)
end
theorem tm2{wh fr mn:Int}(w1: -9223372036854775808≤wh)(w2:wh≤9223372036854775807)(f1: -9223372036854775808≤fr)(f2:fr≤9223372036854775807)(m1: -9223372036854775808≤mn)(m2:mn≤9223372036854775807):
 o25 W 6 [.x (.int .i64 wh), .x (.int .i64 fr), .x (.int .i64 mn)] []=some (.x (.bool true),[],[]):=by
 obtain⟨q,n,hgood,s1⟩:=qb7 w1 w2
 unfold gf0 at hgood
 simp only[b83,jn8]at hgood
 obtain⟨⟨⟨h1,h2⟩,h3⟩,h4⟩:=hgood
 obtain⟨hF,N,rfl,n0,n64,hm⟩:=vh7 h1
 rw[ao0]at h2
 have q2:=aw0 (q:=q)
 have qh:=q_hi (q:=q)
 have p1:=s88 (n:=(N:Int)) f1 f2 (by omega)
 have p2:=s88 (n:=(N:Int)) m1 m2 (by omega)
 obtain⟨f,hf,hfN⟩:=o99 (h58 (a:=fr) (n:=(N:Int)) (by omega)).1 (h58 (a:=fr) (n:=(N:Int)) (by omega)).2
 obtain⟨m,hmm,hmN⟩:=o99 (h58 (a:=mn) (n:=(N:Int)) (by omega)).1 (h58 (a:=mn) (n:=(N:Int)) (by omega)).2
 rw[hf]at p1
 rw[hmm]at p2
 cases hs:homZ q N with
 |none=>rw[hs]at h2;cases h2
 |some s=>
  have hh:=jg9 n0 n64 hs
  haveI:=hh.fld
  obtain⟨w3,w4,rb,E,g,hb,hE,hG⟩:=c82 (zs:=rowZ N f m) n0 n64 hm hh
  have e1:=m22 n0 n64 hm (by omega) (by omega) hs hb w3 hE w4 hG
  have e2:=fun T ks=>yj0 (q:=q) (f:=f) (m:=m) n0 n64 (by omega) (by omega) (T:=T) m 0 (by omega) ks
  rw[show ivs (rowZ N f 0)=[]from rfl]at e2
  simp only[vx9]at e2
  have hzl:=dv0 N f m
  have e3:=mg8 (nl:=1) (zs:=rowZ N f m) n0 n64 hm (by omega) (jj2 n0)
  have hmany:m<bndN (zerN q.toNat N (inZ (rowZ N f m))) N:=ms2 n0 (by omega) (by omega) fun k hk=>j70 n0 n64 hm hk
  have hM: ∀r∈cycM N g,r.length=N:=fun r hr=>by
   obtain⟨j,h5,rfl⟩:=vf1.1 hr
   have:=l16.1 h5
   have:=py7.2 hG.ne
   exact l93 (by omega)
  obtain⟨r1,r2,r3⟩:=bi2 hM
  have hlst:=hx5 n0 hG (gv7 _ _) (fun x hx=>(ro7.1 hx).1)
  obtain⟨R,hR⟩: ∃R,R=p78 (redR (cycM N g)):=⟨_,rfl⟩
  have hRr: ∀r∈R,r.length=N:=by rw[hR];exact zu4 r2
  have hgl:=hG.len
  have hZn:=pl9 q.toNat N (inZ (rowZ N f m))
  have hrk:=ew4 hM
  rw[nc3]at hrk
  have hRl:R.length≤64:=by rw[hR,ol1];omega
  have hRR:p78 (redR R)=R:=by rw[hR,jr2 r1 r2]
  rw[lo1,←hR]at e1
  rw[←hR]at hlst
  have hC:=tc0 (q:=q) (k:=N) (N:=R) n0 n64 hRl hRr (sy6 hRl hRr n0 n64)
  have hmv:(R.map vs).length=R.length:=q11 _
  have hRR2:(redR R).length=R.length:=by rw[←ol1 (redR R),hRR]
  have e4:=os1 (q:=q) (k:=R.length) (by omega) qh (by omega)
  have hwl:=rc0 (k:=N) R
  have hnm: ¬((bndN (zerN q.toNat N (inZ (rowZ N f m))) N:Nat):Int)≤(m:Int):=by omega
  have hfin:fewQ q R.length 1=true→ ∀nl nr,o25 W 32 [.agg [.x (.int .i64 q), .x (.int .i64 N), .fz true (.sl nl 0 1 (lvs nr (R.map vs)))]] []=some (.tup [.x (.int .i64 (jq9 (wgt N R))), .x (.int .i64 0)],[],[]):=fun hfw nl nr=>
   ia2 (q:=q) (n:=(N:Int)) (nl:=nl) (nr:=nr) (l:=wgt N R) (by omega) (by omega) fun nl nr=>by
    have:=ir7 (nl:=nl) (nr:=nr) hC n0 n64 hRl hRr (by rw[hRR2];exact hfw)
    rwa [hRR]at this
  have hRne: ¬R.length=0→R≠[]:=fun h e=>h (by rw[e];rfl)
  have hbg:=fun h=>hlst (hRne h)
  generalize bndN (zerN q.toNat N (inZ (rowZ N f m))) N=B at*
  generalize jq9 (wgt N R)=D at*
  generalize rowZ N f m=Zs at*
  generalize hml:R.length=nR at*
  generalize R.map vs=Mv at*
  rw[o10 rfl T6 rfl]
  unfold F6 c6
  simp(disch:=first|omega|fail) only[push_cast,seval,vrl,if_pos,if_neg,s1,p1,p2,e1]
  rw[e2]
  by_cases hz:nR=0
  ·simp(disch:=first|omega|fail) only[push_cast,seval,vrl,if_pos,if_neg,e3,qc6 (Int.not_le.1 hnm),hmv,hz]
  ·have hz': ¬(nR:Int)=0:=by omega
   have hD:=hbg hz
   cases hfw:fewQ q nR 1 with
   |false=>
    rw[hfw]at e4
    simp(disch:=first|omega|fail) only[push_cast,seval,vrl,if_pos,if_neg,e3,qc6 (Int.not_le.1 hnm),hmv,nb8 hz',e4]
   |true=>
    rw[hfw]at e4
    have e5:=hfin hfw
    simp(disch:=first|omega|fail) only[push_cast,seval,vrl,if_pos,if_neg,e3,qc6 (Int.not_le.1 hnm),hmv,nb8 hz',e4,e5,nl3 hD]
section
variable {h:H} {l:List AV} {ws:List Value}
theorem a23:Vm.VRL h [] (allZ h) (allZ h) [] []:=by rw[Vm.VRL]
theorem dp0(r:Vm.VRL h [] (allZ h) (allZ h) l ws)(v:Value):Vm.VRL h [] (allZ h) (allZ h) (.x v::l) (v::ws):=by
 rw[Vm.VRL];exact⟨v,ws,rfl,by rw[Vm.VR],r⟩
end
theorem p44(h:H)(a0:Int)(_: -9223372036854775808≤a0)(_:a0≤9223372036854775807)(a1:Int)(_: -9223372036854775808≤a1)(_:a1≤9223372036854775807)(a2:Int)(_: -9223372036854775808≤a2)(_:a2≤9223372036854775807):
 ∃h',call T 6 [.int .i64 a0, .int .i64 a1, .int .i64 a2] h=some (.bool true,h'):=
 vlaw lw2 (dp0 (dp0 (dp0 a23 _) _) _) (by apply tm2<;>assumption)
end Go.Proofs.YtppbpgmdmiajcaaGreat
