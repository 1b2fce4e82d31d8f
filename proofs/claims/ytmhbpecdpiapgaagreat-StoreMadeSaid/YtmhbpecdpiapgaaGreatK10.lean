/-
  Plans of stores, plain: what the document makes of nodes is what Read finds. No condition. What is left of a row of commands. No condition. Plans of stores, the document's side: powers, the file as a  ..
-/
import Derived.Test.YtmhbpecdpiapgaaGreatK9
import Derived.Test.YtmhbpecdpiapgaaGreatK0
import Derived.Test.YtmhbpecdpiapgaaGreatK8
set_option linter.unusedVariables false
set_option linter.unusedSimpArgs false
set_option linter.unusedSectionVars false
set_option maxRecDepth 100000
namespace Go.Proofs.YtmhbpecdpiapgaaGreat
open Go.Am Go.Vm Go.Alg
section
variable {K:Type} [FK K]
theorem bl7: ∀(R A:List (K×K)) (out all:List K),ThrI A R out all→((A++R).map Prod.fst).Nodup→ ∃out':List K,out'.length≤(A++R).length∧ ∀p∈A++R,ev out' p.1=p.2
 | [],A,out,all,h,hn=>⟨out,by rw[List.append_nil];exact h.lo,fun p hp=>h.ok p (by simpa using hp)⟩
 |p::R,A,out,all,h,hn=>by
  have hn2:=hn
  rw[List.map_append,List.map_cons]at hn2
  have hs:=h.step (fun r hr e=>(List.nodup_cons.1 (List.nodup_append.1 hn2).2.1).1 (by rw[←e];exact List.mem_map.2 ⟨r,hr,rfl⟩))
  have e:A++[p]++R=A++p::R:=by rw[List.append_assoc];rfl
  obtain⟨o,h1,h2⟩:=bl7 R (A++[p]) _ _ hs (by rw[e];exact hn)
  rw[e]at h1 h2
  exact⟨o,h1,h2⟩
theorem fp0{P:List (K×K)}(hn:(P.map Prod.fst).Nodup): ∃out:List K,out.length≤P.length∧ ∀p∈P,ev out p.1=p.2:=bl7 P [] [] [1] (ThrI.start P) hn
def triG(k:Nat)(c:Nat→Nat→K):Nat→List K
 |0=>[]
 |i+1=>triG k c i++ofF (k-i) fun t=>c i (i+t)
def farG(k m:Nat)(c:Nat→Nat→K):Nat→List K
 |0=>[]
 |i+1=>farG k m c i++ofF m fun t=>c i (k+t)
def o37(k d:Nat)(c:Nat→Nat→K):List K:=triG k c k++farG k (d-k) c k
theorem mw6(k:Nat)(c:Nat→Nat→K): ∀n,(triG k c n).length=triS k n
 |0=>rfl
 |n+1=>by rw[triG,List.length_append,mw6 k c n,gh0];rfl
theorem yr2(k m:Nat)(c:Nat→Nat→K): ∀n,(farG k m c n).length=n*m
 |0=>by simp[farG]
 |n+1=>by rw[farG,List.length_append,yr2 k m c n,gh0,Nat.add_mul,Nat.one_mul]
theorem ko7(k:Nat){i:Nat}: ∀n,i<n→triS k i+(k-i)≤triS k n
 |0,h=>by omega
 |n+1,h=>by
  by_cases hi:i=n
  ·subst hi;exact Nat.le_refl _
  ·have:=ko7 k n (by omega:i<n)
   rw[triS];omega
theorem or1(k:Nat)(c:Nat→Nat→K){i t:Nat}(ht:t<k-i): ∀n,i<n→wf (triG k c n) (triS k i+t)=c i (i+t)
 |0,h=>by omega
 |n+1,h=>by
  rw[triG,nz0,mw6]
  by_cases hi:i=n
  ·subst hi
   rw[if_neg (by omega),Nat.add_sub_cancel_left,b43,if_pos ht]
  ·have:=ko7 k n (by omega:i<n)
   rw[if_pos (by omega),or1 k c ht n (by omega)]
theorem jv5(k m:Nat)(c:Nat→Nat→K){i t:Nat}(ht:t<m): ∀n,i<n→wf (farG k m c n) (i*m+t)=c i (k+t)
 |0,h=>by omega
 |n+1,h=>by
  rw[farG,nz0,yr2]
  by_cases hi:i=n
  ·subst hi
   rw[if_neg (by omega),Nat.add_sub_cancel_left,b43,if_pos ht]
  ·have h1:i*m+m≤n*m:=by rw[←Nat.succ_mul];exact Nat.mul_le_mul_right m (by omega)
   rw[if_pos (by omega),jv5 k m c ht n (by omega)]
theorem p84(k:Nat):triS k k=k*(k+1)/2:=by
 have ht:=tt3 k k (Nat.le_refl k)
 have hk2:k*(k+1)=k*k+k:=by rw[Nat.mul_add,Nat.mul_one]
 omega
theorem xo7{k d:Nat}(c:Nat→Nat→K):(o37 k d c).length=h61 k d:=by
 unfold o37 h61
 rw[List.length_append,mw6,yr2,p84]
theorem ov7{k d i j:Nat}(hij:i≤j)(hj:j<k):bu7 k d i j=((triS k i+(j-i):Nat):Int):=by
 have hi:=tt3 k i (by omega)
 unfold bu7
 rw[Nat.min_eq_left hij,Nat.max_eq_right hij,if_neg (by omega),if_pos hj]
 have e3:i*(i-1)+i=i*i:=by
  cases i with
  |zero=>rfl
  |succ i=>rw[Nat.add_sub_cancel,Nat.mul_add (i+1) i 1];omega
 have e4:i*(i-1)/2*2=i*(i-1):=by
  have:2*triS k i+i*i=2*(i*k)+i:=hi
  omega
 have e5:i*i≤i*k:=Nat.mul_le_mul_left i (by omega)
 congr 1
 omega
theorem qp1{k d i j:Nat}(hi:i<k)(hj:k≤j):bu7 k d i j=((triS k k+(i*(d-k)+(j-k)):Nat):Int):=by
 unfold bu7
 rw[Nat.min_eq_left (by omega),Nat.max_eq_right (by omega),if_neg (by omega),if_neg (by omega),p84]
 congr 1
 omega
theorem x41{k d:Nat}(c:Nat→Nat→K){i j:Nat}(hi:i<k)(hij:i≤j)(hj:j<d): ∃p:Nat,bu7 k d i j=(p:Int)∧wf (o37 k d c) p=c i j:=by
 by_cases hjk:j<k
 ·refine⟨_,ov7 hij hjk, ?_⟩
  have:=ko7 k k hi
  unfold o37
  rw[nz0,mw6,if_pos (by omega),or1 k c (by omega) k hi]
  congr 1;omega
 ·refine⟨_,qp1 hi (by omega), ?_⟩
  unfold o37
  rw[nz0,mw6,if_neg (by omega),Nat.add_sub_cancel_left,jv5 k (d-k) c (by omega) k hi]
  congr 1;omega
end
section
variable {q:Int} [IsFld q] {k d N:Nat} {l:List Int} {H:List (List (El q))}
theorem zu6(hkd:k≤d){X:List (El q)}(hX:X.length=h61 k d)(c:Nat→Nat→El q)(h: ∀i j,i<k→j<d→c i j=gg5 X k d i j):o37 k d c=X:=by
 refine ou8 (by rw[xo7,hX]) ?_
 funext s
 by_cases hs:s<h61 k d
 ·have key: ∀i j,i<k→i≤j→j<d→bu7 k d i j=(s:Nat)→wf (o37 k d c) s=wf X s:=fun i j hi hij hj hp=>by
   obtain⟨p,h1,h2⟩:=x41 c hi hij hj
   rw[hp]at h1
   obtain rfl:s=p:=by omega
   rw[h2,h i j hi hj]
   unfold gg5
   rw[hp,if_neg (by omega),Int.toNat_natCast]
  obtain⟨i,j,hi,hj,hp⟩:=jj0 hkd hs
  by_cases hij:i≤j
  ·exact key i j hi hij hj hp
  ·exact key j i (by omega) (by omega) (by omega) (by rw[ms5];exact hp)
 ·rw[ez8 (by rw[xo7];omega),ez8 (by omega)]
theorem ha4(hn:l.Nodup)(hlk:l.length=k)(hl: ∀v∈l,0≤v∧v<q){b:List (El q)}(hb:b.length=k): ∃y,solR k (psiL q l k) b=some y∧y.length=k∧ ∀(i:Nat) (v:Int),l[i]? =some v→ev y (ndE q v)=wf b i:=by
 have hfst:((l.map (ndE q)).zip b).map Prod.fst=l.map (ndE q):=List.map_fst_zip (by rw[List.length_map];omega)
 obtain⟨out,h1,h2⟩:=fp0 (P:=(l.map (ndE q)).zip b) (by rw[hfst];exact wz4 hn hl)
 rw[List.length_zip,List.length_map,hlk,hb,Nat.min_self]at h1
 have hpl:(psiL q l k).length=k:=by unfold psiL;rw[List.length_map,hlk]
 have hev: ∀i v,l[i]? =some v→ev out (ndE q v)=wf b i:=fun i v hv=>by
  have hil:i<l.length:=(List.getElem?_eq_some_iff.1 hv).1
  have hm:(ndE q v,wf b i)∈(l.map (ndE q)).zip b:=by
   refine List.mem_of_getElem? (i:=i) ?_
   rw[List.getElem?_zip_eq_some]
   exact⟨by rw[List.getElem?_map,hv];rfl,t16 (by omega)⟩
  exact h2 _ hm
 obtain⟨y,hy⟩:=qc1 (n:=k) (M:=psiL q l k) (b:=b) (x:=out) od8 (by rw[hpl,hb]) (fun i hi=>by
  obtain⟨v,hv⟩:=ge6 (l:=l) (i:=i) (by omega)
  rw[n18 hv _ h1,hev i v hv])
 obtain⟨y1,y2⟩:=l11 od8 (by rw[hpl,hb]) hy
 refine⟨y,hy,y1,fun i v hv=> ?_⟩
 have hil:i<l.length:=(List.getElem?_eq_some_iff.1 hv).1
 have:=y2 i (by omega)
 rwa [n18 hv _ (by omega)]at this
theorem ni3(hn:l.Nodup)(hlk:l.length=k)(hl: ∀v∈l,0≤v∧v<q){y:List (El q)}{f:Nat→El q}(hy:y.length=k)(h: ∀(i:Nat) (v:Int),l[i]? =some v→ev y (ndE q v)=sumN k fun t=>pw (ndE q v) t*f t): ∀t,t<k→wf y t=f t:=fun t ht=>by
 have:wf y=wf (ofF k f):=by
  refine yn1 (wz4 hn hl) (fun j hj=>ez8 (by rw[List.length_map]at hj;omega)) (fun j hj=>ez8 (by rw[List.length_map]at hj;rw[gh0];omega)) fun x hx=> ?_
  obtain⟨v,hv,rfl⟩:=List.mem_map.1 hx
  obtain⟨i,hi⟩:=List.getElem?_of_mem hv
  rw[h i v hi,uo7]
  exact rc1 fun j _=>FK.mul_comm _ _
 rw[this,dv2 ht]
def colS(q:Int) [IsFld q](l:List Int)(k:Nat)(b:List (El q)):List (El q):=(solR k (psiL q l k) b).getD []
def ndL(q:Int) [IsFld q](l:List Int)(t:Nat):El q:=ndE q (l.getD t 0)
theorem rd4{i:Nat}{v:Int}(h:l[i]? =some v):ndL q l i=ndE q v:=by unfold ndL;rw[List.getD_eq_getElem?_getD,h];rfl
def farB(k:Nat)(H:List (List (El q)))(j:Nat):List (El q):=ofF k fun t=>wf (nth H t) j
def farS(l:List Int)(k:Nat)(H:List (List (El q)))(j:Nat):List (El q):=colS q l k (farB k H j)
def midV(l:List Int)(k:Nat)(H:List (List (El q)))(j t:Nat):Nat→El q
 |0=>wf (nth H t) j
 |c+1=>midV l k H j t c-pw (ndL q l t) (k+c)*wf (farS l k H (k+c)) j
def midB(l:List Int)(k d:Nat)(H:List (List (El q)))(j:Nat):List (El q):=ofF k fun t=>midV l k H j t (d-k)
def midS(l:List Int)(k d:Nat)(H:List (List (El q)))(j:Nat):List (El q):=colS q l k (midB l k d H j)
def cS(l:List Int)(k d:Nat)(H:List (List (El q)))(i j:Nat):El q:=if k≤j then wf (farS l k H j) i else wf (midS l k d H j) i
def n04(l:List Int)(k d:Nat)(H:List (List (El q))):List (El q):=o37 k d (cS l k d H)
theorem gd4(hn:l.Nodup)(hlk:l.length=k)(hl: ∀v∈l,0≤v∧v<q){b:List (El q)}(hb:b.length=k):solR k (psiL q l k) b=some (colS q l k b)∧(colS q l k b).length=k∧ ∀(i:Nat) (v:Int),l[i]? =some v→ev (colS q l k b) (ndE q v)=wf b i:=by
 obtain⟨y,h1,h2,h3⟩:=ha4 hn hlk hl hb
 have:colS q l k b=y:=by unfold colS;rw[h1];rfl
 rw[this]
 exact⟨h1,h2,h3⟩
theorem gk6(X:List (El q))(hf: ∀c,k+c<d→ ∀j,j<k→wf (farS l k H (k+c)) j=gg5 X k d j (k+c)){j t:Nat}(hj:j<k): ∀c,k+c≤d→midV l k H j t c+(sumN c fun c=>pw (ndL q l t) (k+c)*gg5 X k d (k+c) j)=wf (nth H t) j
 |0,_=>by rw[midV,wr8,FK.add_zero]
 |c+1,hc=>by
  have ih:=gk6 X hf hj (t:=t) c (by omega)
  rw[midV,cp9,hf c (by omega) j hj,eb3 X j (k+c),FK.add_comm (sumN c _),←FK.add_assoc,fj9,ih]
theorem py3(h:PlanOK q N k d)(hn:l.Nodup)(hlk:l.length=k)(hl: ∀v∈l,0≤v∧v<N){X:List (El q)}(hH:H=l.map fun v=>rowA X N k d v.toNat): ∀i j,i<k→j<d→cS l k d H i j=gg5 X k d i j:=by
 have hnq:=h.nq
 have hkd:=h.kd
 have hl': ∀v∈l,0≤v∧v<q:=fun v hv=>by have:=hl v hv;omega
 have hat: ∀i v,l[i]? =some v→ ∀j,j<d→wf (nth H i) j=sumN d fun t=>pw (ndE q v) t*gg5 X k d t j:=fun i v hv j hj=>by
  obtain⟨h0,h1⟩:=hl v (List.mem_of_getElem? hv)
  obtain⟨V,rfl⟩: ∃V:Nat,v=V:=⟨v.toNat,by omega⟩
  have:nth H i=rowA X N k d V:=by
   refine xr8 ?_
   rw[hH,List.getElem?_map,hv];rfl
  rw[this,ux4 (by omega) hj]
 have far: ∀j,k≤j→j<d→ ∀i,i<k→wf (farS l k H j) i=gg5 X k d i j:=fun j hj hjd=>by
  obtain⟨h1,h2,h3⟩:=gd4 (q:=q) hn hlk hl' (b:=farB k H j) (gh0 ..)
  refine ni3 hn hlk hl' h2 fun i v hv=> ?_
  have hil:i<l.length:=(List.getElem?_eq_some_iff.1 hv).1
  unfold farS
  rw[h3 i v hv]
  unfold farB
  rw[dv2 (by omega),hat i v hv j hjd,jq8 hkd fun t h1 h2=>by rw[v81 h1 hj,mul_zero]]
 intro i j hi hj
 unfold cS
 by_cases hjk:k≤j
 ·rw[if_pos hjk];exact far j hjk hj i hi
 ·rw[if_neg hjk]
  obtain⟨h1,h2,h3⟩:=gd4 (q:=q) hn hlk hl' (b:=midB l k d H j) (gh0 ..)
  refine ni3 (f:=fun t=>gg5 X k d t j) hn hlk hl' h2 (fun t v hv=> ?_) i hi
  have htl:t<l.length:=(List.getElem?_eq_some_iff.1 hv).1
  rw[h3 t v hv]
  unfold midB
  rw[dv2 (by omega)]
  have hm:=gk6 (l:=l) (H:=H) X (fun c hc j hj=>far (k+c) (by omega) hc j hj) (j:=j) (t:=t) (by omega) (d-k) (by omega)
  have ha:=hat t v hv j hj
  rw[rd4 hv]at hm
  obtain⟨m,hm'⟩: ∃m,d=k+m:=⟨d-k,by omega⟩
  rw[show d-k=m by omega]at hm
  rw[ha,congrArg (fun z=>sumN z fun t=>pw (ndE q v) t*gg5 X k d t j) hm',d17]at hm
  rw[show d-k=m by omega]
  have:=congrArg (fun z=>z+ -(sumN m fun c=>pw (ndE q v) (k+c)*gg5 X k d (k+c) j)) hm
  simp only[FK.add_assoc,FK.add_neg,FK.add_zero]at this
  exact this
def tg1(l:List Int)(N k d:Nat)(H:List (List (El q))):Prop:=H=l.map fun v=>rowA (n04 l k d H) N k d v.toNat
theorem oo6:(n04 l k d H).length=h61 k d:=xo7 _
theorem jf8(h:PlanOK q N k d)(hn:l.Nodup)(hlk:l.length=k)(hl: ∀v∈l,0≤v∧v<N)(hok:tg1 l N k d H):solR (h61 k d) (rdM q k d l) H.flatten=some (n04 l k d H):=by
 have:=gk8 (F:=n04 l k d H) h hn hlk hl oo6
 unfold tg1 at hok
 rwa [←hok]at this
theorem z95{α:Type}{d:Nat}: ∀A B:List (List α),A.length=B.length→(∀r∈A,r.length=d)→(∀r∈B,r.length=d)→A.flatten=B.flatten→A=B
 | [],[],_,_,_,_=>rfl
 |a::A,b::B,hl,ha,hb,h=>by
  rw[List.flatten_cons,List.flatten_cons]at h
  obtain⟨e1,e2⟩:=List.append_inj h (by rw[ha a (by simp),hb b (by simp)])
  rw[e1,z95 A B (by simpa using hl) (fun r hr=>ha r (by simp[hr])) (fun r hr=>hb r (by simp[hr])) e2]
theorem k65(h:PlanOK q N k d)(hn:l.Nodup)(hlk:l.length=k)(hl: ∀v∈l,0≤v∧v<N)(hHl:H.length=k)(hr: ∀r∈H,r.length=d)(hno: ¬tg1 l N k d H):solR (h61 k d) (rdM q k d l) H.flatten=none:=by
 cases hs:solR (h61 k d) (rdM q k d l) H.flatten with
 |none=>rfl
 |some X=>
  exfalso
  have hlen:H.flatten.length=(rdM q k d l).length:=by rw[nf0 hr,dn4,hHl,hlk]
  obtain⟨y1,y2⟩:=l11 kp3 hlen hs
  have hm:=qb9 (F:=X) h l hl
  have hfl:H.flatten=(rdM q k d l).map fun m=>sumN (h61 k d) fun s=>wf m s*wf X s:=by
   refine List.ext_getElem? fun i=> ?_
   rw[List.getElem?_map]
   by_cases hi:i<(rdM q k d l).length
   ·have e1:=y2 i hi
    have hg:(rdM q k d l).getD i []=(rdM q k d l)[i]:=by rw[List.getD_eq_getElem?_getD,List.getElem?_eq_getElem hi];rfl
    rw[hg]at e1
    rw[t16 (by omega),List.getElem?_eq_getElem hi,←e1];rfl
   ·rw[List.getElem?_eq_none (by omega),List.getElem?_eq_none (by omega)];rfl
  rw[hm]at hfl
  have hH:H=l.map fun v=>rowA X N k d v.toNat:=z95 _ _ (by rw[List.length_map];omega) hr (fun r hr'=>by
   obtain⟨v,hv,rfl⟩:=List.mem_map.1 hr'
   have:=hl v hv
   exact xh8 (by omega)) hfl
  have hX:n04 l k d H=X:=zu6 h.kd y1 _ (py3 h hn hlk hl hH)
  refine hno ?_
  unfold tg1
  rw[hX];exact hH
end
end Go.Proofs.YtmhbpecdpiapgaaGreat
namespace Go.Proofs.YtmhbpecdpiapgaaGreat
open Go.Am
def seqR:Nat→ACode→ACode
 |n+1, .seq _ b=>seqR n b
 |_,c=>c
end Go.Proofs.YtmhbpecdpiapgaaGreat
namespace Go.Proofs.YtmhbpecdpiapgaaGreat
open Go.Am Go.Vm Go.Alg
section
variable {K:Type} [FK K]
theorem eo8{A B:List (List K)}{d e:Nat}(hA:A.length=d)(hB:B.length=d)(rA: ∀r∈A,r.length=e)(rB: ∀r∈B,r.length=e)(h: ∀a b,a<d→b<e→wf (nth A a) b=wf (nth B a) b):A=B:=by
 refine List.ext_getElem? fun a=> ?_
 by_cases ha:a<d
 ·rw[gu3 (by omega),gu3 (by omega)]
  congr 1
  have l1:=rA (nth A a) (by rw[t70 (by omega)];exact List.getElem_mem _)
  have l2:=rB (nth B a) (by rw[t70 (by omega)];exact List.getElem_mem _)
  refine ou8 (by omega) ?_
  funext b
  by_cases hb:b<e
  ·exact h a b ha hb
  ·rw[ez8 (by omega),ez8 (by omega)]
 ·rw[List.getElem?_eq_none (by omega),List.getElem?_eq_none (by omega)]
theorem de5{k d i j a b:Nat}(hi:i<k)(ha:a<k)(hij:i≤j)(hab:a≤b)(hj:j<d)(hb:b<d)(h:bu7 k d i j=bu7 k d a b):i=a∧j=b:=by
 have tri: ∀{i j a b:Nat},i≤j→j<k→a≤b→b<k→triS k i+(j-i)=triS k a+(b-a)→i<a→False:=fun{i j a b} h1 h2 h3 h4 h5 h6=>by
  have:=ko7 k a h6;omega
 have far: ∀{i j a b:Nat},k≤j→j<d→k≤b→b<d→i*(d-k)+(j-k)=a*(d-k)+(b-k)→i<a→False:=fun{i j a b} h1 h2 h3 h4 h5 h6=>by
  have h7:i*(d-k)+(d-k)≤a*(d-k):=by rw[←Nat.succ_mul];exact Nat.mul_le_mul_right _ h6
  omega
 have mix: ∀{i j a b:Nat},i<k→i≤j→j<k→triS k i+(j-i)=triS k k+(a*(d-k)+(b-k))→False:=fun{i j a b} h1 h2 h3 h4=>by
  have:=ko7 k k h1;omega
 by_cases hjk:j<k
 ·rw[ov7 hij hjk]at h
  by_cases hbk:b<k
  ·rw[ov7 hab hbk]at h
   have h:triS k i+(j-i)=triS k a+(b-a):=by omega
   by_cases e1:i<a
   ·exact(tri hij hjk hab hbk h e1).elim
   by_cases e2:a<i
   ·exact(tri hab hbk hij hjk h.symm e2).elim
   obtain rfl:i=a:=by omega
   omega
  ·rw[qp1 ha (by omega)]at h
   exact(mix (a:=a) (b:=b) hi hij hjk (by omega)).elim
 ·rw[qp1 hi (by omega)]at h
  by_cases hbk:b<k
  ·rw[ov7 hab hbk]at h
   exact(mix (a:=i) (b:=j) ha hab hbk (by omega)).elim
  ·rw[qp1 ha (by omega)]at h
   have h:i*(d-k)+(j-k)=a*(d-k)+(b-k):=by omega
   by_cases e1:i<a
   ·exact(far (by omega) hj (by omega) hb h e1).elim
   by_cases e2:a<i
   ·exact(far (by omega) hb (by omega) hj h.symm e2).elim
   obtain rfl:i=a:=by omega
   omega
theorem p19{k d a b:Nat}(h:0≤bu7 k d a b):min a b<k:=by
 unfold bu7 at h
 by_cases hk:k≤min a b
 ·rw[if_pos hk]at h;omega
 ·omega
theorem o69{k d i j a b:Nat}(hi:i<k)(hij:i≤j)(hj:j<d)(ha:a<d)(hb:b<d)(h:bu7 k d a b=bu7 k d i j)(h0:0≤bu7 k d i j):(a=i∧b=j)∨(a=j∧b=i):=by
 have hm:=p19 (h▸h0:0≤bu7 k d a b)
 by_cases hab:a≤b
 ·obtain⟨e1,e2⟩:=de5 (show a<k by omega) hi hab hij hb hj h
  exact .inl ⟨e1,e2⟩
 ·rw[show bu7 k d a b=bu7 k d b a by unfold bu7;rw[Nat.min_comm,Nat.max_comm]]at h
  obtain⟨e1,e2⟩:=de5 (show b<k by omega) hi (by omega) hij ha hj h
  exact .inr ⟨e2,e1⟩
end
section
variable {q:Int} [IsFld q] {k d:Nat}
def sqN(F:List (El q))(k d n:Nat):List (List (El q)):=ofL d fun a=>ofF d fun b=>if 0≤bu7 k d a b∧bu7 k d a b<(n:Nat)then gg5 F k d a b else 0
theorem ax9(F:List (El q))(n:Nat):(sqN F k d n).length=d:=u35 ..
theorem za6(F:List (El q))(n:Nat): ∀r∈sqN F k d n,r.length=d:=fun r hr=>by
 unfold sqN ofL at hr
 obtain⟨i,_,rfl⟩:=List.mem_map.1 hr
 exact gh0 ..
theorem bx5(F:List (El q))(n:Nat){a b:Nat}(ha:a<d)(hb:b<d):wf (nth (sqN F k d n) a) b=if 0≤bu7 k d a b∧bu7 k d a b<(n:Nat)then gg5 F k d a b else 0:=by
 unfold sqN;rw[wi3 ha,dv2 hb]
def put2(M:List (List (El q)))(i j:Nat)(c:El q):List (List (El q)):=(M.set i ((nth M i).set j c)).set j ((nth (M.set i ((nth M i).set j c)) j).set i c)
theorem zy7{M:List (List (El q))}{d a:Nat}(hM:M.length=d)(hr: ∀r∈M,r.length=d)(ha:a<d):(nth M a).length=d:=hr _ (by rw[t70 (by omega)];exact List.getElem_mem _)
theorem wm2{M:List (List (El q))}{d i:Nat}{r:List (El q)}(hr: ∀r∈M,r.length=d)(h:r.length=d): ∀x∈M.set i r,x.length=d:=fun x hx=>by
 rcases List.mem_or_eq_of_mem_set hx with hx|rfl
 ·exact hr x hx
 ·exact h
theorem th2(F:List (El q)){n i j:Nat}(hi:i<k)(hij:i≤j)(hj:j<d)(hp:bu7 k d i j=(n:Nat)):put2 (sqN F k d n) i j (wf F n)=sqN F k d (n+1):=by
 have hid:i<d:=by omega
 have l1:=ax9 (k:=k) (d:=d) F n
 have r1:=za6 (k:=k) (d:=d) F n
 have l2:=zy7 l1 r1 hid
 have r2:=wm2 (i:=i) r1 (show((nth (sqN F k d n) i).set j (wf F n)).length=d by rw[List.length_set,l2])
 have l3:((sqN F k d n).set i ((nth (sqN F k d n) i).set j (wf F n))).length=d:=by rw[List.length_set,l1]
 have l4:=zy7 l3 r2 hj
 unfold put2
 refine eo8 (by rw[List.length_set,l3]) (ax9 F (n+1)) (wm2 r2 (by rw[List.length_set,l4])) (za6 F (n+1)) fun a b ha hb=> ?_
 have hc: ∀a b,bu7 k d a b=(n:Nat)→gg5 F k d a b=wf F n:=fun a b h=>by unfold gg5;rw[h,if_neg (by omega),Int.toNat_natCast]
 rw[bx5 F (n+1) ha hb,mg6 (by omega)]
 have inner:wf (nth ((sqN F k d n).set i ((nth (sqN F k d n) i).set j (wf F n))) a) b=if a=i∧b=j then wf F n else wf (nth (sqN F k d n) a) b:=by
  rw[mg6 (by omega)]
  by_cases e1:a=i
  ·rw[if_pos e1,wf_set (by omega)]
   by_cases e2:b=j
   ·rw[if_pos e2,if_pos ⟨e1,e2⟩]
   ·rw[if_neg e2,if_neg (fun h=>e2 h.2),e1]
  ·rw[if_neg e1,if_neg (fun h=>e1 h.1)]
 have outer:wf (if a=j then(nth ((sqN F k d n).set i ((nth (sqN F k d n) i).set j (wf F n))) j).set i (wf F n)else nth ((sqN F k d n).set i ((nth (sqN F k d n) i).set j (wf F n))) a) b=if(a=i∧b=j)∨(a=j∧b=i)then wf F n else wf (nth (sqN F k d n) a) b:=by
  by_cases e1:a=j
  ·subst e1
   rw[if_pos rfl,wf_set (by omega)]
   by_cases e2:b=i
   ·rw[if_pos e2,if_pos (.inr ⟨rfl,e2⟩)]
   ·rw[if_neg e2,inner]
    by_cases e3:a=i∧b=a
    ·rw[if_pos e3,if_pos (.inl e3)]
    ·rw[if_neg e3,if_neg (fun h=>h.elim (fun h=>e3 h) fun h=>e2 h.2)]
  ·rw[if_neg e1,inner]
   by_cases e3:a=i∧b=j
   ·rw[if_pos e3,if_pos (.inl e3)]
   ·rw[if_neg e3,if_neg (fun h=>h.elim (fun h=>e3 h) fun h=>e1 h.1)]
 rw[outer,bx5 F n ha hb]
 by_cases e:(a=i∧b=j)∨(a=j∧b=i)
 ·have hpl:bu7 k d a b=(n:Nat):=by
   rcases e with⟨rfl,rfl⟩|⟨rfl,rfl⟩
   ·exact hp
   ·rw[ms5];exact hp
  rw[if_pos e,if_pos ⟨by omega,by omega⟩,hc a b hpl]
 ·rw[if_neg e]
  have hne:bu7 k d a b≠(n:Nat):=fun h=>e (o69 hi hij hj ha hb (h.trans hp.symm) (by omega))
  by_cases h1:0≤bu7 k d a b∧bu7 k d a b<(n:Nat)
  ·rw[if_pos h1,if_pos ⟨h1.1,by omega⟩]
  ·rw[if_neg h1,if_neg (fun h=>h1 ⟨h.1,by omega⟩)]
theorem cb2(F:List (El q)):sqN F k d 0=List.replicate d (List.replicate d 0):=by
 refine eo8 (ax9 F 0) List.length_replicate (za6 F 0) (fun r hr=>by rw[(List.mem_replicate.1 hr).2,List.length_replicate]) fun a b ha hb=> ?_
 rw[bx5 F 0 ha hb,if_neg (by omega)]
 have:nth (List.replicate d (List.replicate d (0:El q))) a=List.replicate d 0:=by
  unfold nth;rw[List.getD_eq_getElem?_getD,List.getElem?_replicate,if_pos ha];rfl
 rw[this,m13]
theorem y58{Q:Int}{N:Nat}(h:PlanOK Q N k d)(F:List (El q)):sqN F k d (h61 k d)=sqF F k d:=by
 refine eo8 (ax9 F _) (u35 ..) (za6 F _) hm3 fun a b ha hb=> ?_
 rw[bx5 F _ ha hb]
 unfold sqF
 rw[wi3 ha,dv2 hb]
 have:=yi8 h ha hb
 by_cases h0:0≤bu7 k d a b
 ·rw[if_pos ⟨h0,this⟩]
 ·rw[if_neg (fun h=>h0 h.1)]
  unfold gg5
  rw[if_pos (by omega)]
end
section
variable {q:Int} [IsFld q] {p m g:Int} {t:Tree} {b:Bool} {nl:Nat}
theorem gg0(u:RFo q p m g t){x:El q}{n:Nat}(hn:n≤1000): ∀(c i:Nat),i+c=n→ ∀ks,
 vgoL W ⟨h22,[.tmp 6],0⟩ [1,2,3,7,8,9] c22L0 (.blk 0 [7]::ks) [(1, .x (.int .i64 x.v)),(2, .x (.int .i64 n)),(3, .own 0 []),(7, .own 1 []),(8, .x (.int .i64 (pw x i).v)),(9, .x (.int .i64 i))] [.pt 31 [.v (.int .i64 q), .v (.int .i64 p), .v (.int .i64 m), .v (.int .i64 g), .fz t], .sl 1 3 1 (ivs (vs (pwL x i)))]=
  vgo W ⟨h22,[.tmp 6],0⟩ ks (VFr.of [(7, .own 1 [])]) [.pt 31 [.v (.int .i64 q), .v (.int .i64 p), .v (.int .i64 m), .v (.int .i64 g), .fz t], .sl 1 3 1 (ivs (vs (pwL x n)))]
 |0,i,hi,ks=>by
  obtain rfl:i=n:=by omega
  rw[sb5 c22L0.eq_def]
  simp(disch:=first|omega|fail) only[push_cast,seval,vrl,if_pos,if_neg]
 |c+1,i,hi,ks=>by
  have ih:=gg0 u (x:=x) hn c (i+1) (by omega) ks
  have e1:vs (pwL x (i+1))=vs (pwL x i)++[(pw x i).v]:=by unfold pwL;rw[xe7,gq8];rfl
  have hl:(pwL x i).length=i:=gh0 ..
  have ht:=u.n
  have ho:=u.o
  have vmul:=fun x y:Int=>n06 (q:=q) (x:=x) (y:=y)
  rw[u.e]at vmul
  rw[e1,Int.natCast_add,Int.natCast_one,pw,ym6]at ih
  rw[←ih,sb5 c22L0.eq_def]
  generalize pwL x i=Z at*
  generalize pw x i=y at*
  simp(disch:=first|omega|fail) only[push_cast,seval,vrl,if_pos,if_neg,vmul,ht,ho,hl]
theorem iy8{x:El q}{n:Nat}(hn:n≤1000):
 o24 W 22 [.agg (rFs q), .x (.int .i64 x.v), .x (.int .i64 n)] []=some (.own 0 [],[.sl 1 3 1 (ivs (vs (pwL x n)))],[]):=by
 obtain⟨p,m,g,t,u⟩:=k75 q
 have e:=fun ks=>gg0 u (x:=x) hn n 0 (by omega) ks
 rw[show(pw x 0).v=1 from rfl,show pwL x 0=[]from rfl]at e
 simp only[Int.natCast_zero,List.take_zero,List.drop_zero,rp2,lz6,x25,List.map_nil,List.length_nil]at e
 have ht:=u.n
 rw[o10 rfl T22 rfl,u.e]
 unfold F22 c22
 simp(disch:=first|omega|fail) only[push_cast,seval,vrl,if_pos,if_neg,ht]
 rw[e]
 simp(disch:=first|omega|fail) only[push_cast,seval,vrl,if_pos,if_neg]
variable {k d:Nat}
theorem le3(M:List (List (El q)))(i j:Nat)(c:El q)(r:List (El q)):(M.map vs).set i ((vs r).set j c.v)=(M.set i (r.set j c)).map vs:=by rw[g52,List.map_set]
theorem rq8{F:List (El q)}(hF:F.length=h61 k d)(hkd:k≤d)(hd:d≤100)(hS:h61 k d≤1000){i:Nat}(hi:i<k): ∀(c j:Nat),j+c=k→i≤j→ ∀ks,
 vgoL W ⟨h41,[.tmp 6],0⟩ [0,1,2,7,9,10,11] c41L1 (.blk 4 [0,1,2,7,9,10]::ks) [(0, .x (.int .i64 k)),(1, .x (.int .i64 d)),(2, .fz b (.sl nl 0 1 (ivs (vs F)))),(7, .own 0 []),(9, .x (.int .i64 ((triS k i+(j-i):Nat):Int))),(10, .x (.int .i64 i)),(11, .x (.int .i64 j))] [.sl 1 22 1 (lls 2 ((sqN F k d (triS k i+(j-i))).map vs))]=
  vgo W ⟨h41,[.tmp 6],0⟩ ks (VFr.of [(0, .x (.int .i64 k)),(1, .x (.int .i64 d)),(2, .fz b (.sl nl 0 1 (ivs (vs F)))),(7, .own 0 []),(9, .x (.int .i64 ((triS k (i+1):Nat):Int))),(10, .x (.int .i64 i))]) [.sl 1 22 1 (lls 2 ((sqN F k d (triS k (i+1))).map vs))]
 |0,j,hj,hij,ks=>by
  obtain rfl:j=k:=by omega
  rw[show triS j i+(j-i)=triS j (i+1)from rfl,sb5 c41L1.eq_def]
  simp(disch:=first|omega|fail) only[push_cast,seval,vrl,if_pos,if_neg]
 |c+1,j,hj,hij,ks=>by
  have ih:=rq8 hF hkd hd hS hi c (j+1) (by omega) (by omega) ks
  obtain⟨n,hn⟩: ∃n,triS k i+(j-i)=n:=⟨_,rfl⟩
  have hp:bu7 k d i j=(n:Nat):=by rw[←hn];exact ov7 hij (by omega)
  have hmono:=ko7 k k hi
  have hkk:=p84 k
  have hnS:n<h61 k d:=by unfold h61;omega
  have hst:=th2 F hi hij (by omega) hp
  unfold put2 at hst
  rw[show triS k i+(j+1-i)=n+1 by omega,←hst]at ih
  rw[hn]
  have l1:=ax9 (k:=k) (d:=d) F n
  have r1:=za6 (k:=k) (d:=d) F n
  have l2:=zy7 l1 r1 (show i<d by omega)
  have r2:=wm2 (i:=i) r1 (show((nth (sqN F k d n) i).set j (wf F n)).length=d by rw[List.length_set,l2])
  have l3:((sqN F k d n).set i ((nth (sqN F k d n) i).set j (wf F n))).length=d:=by rw[List.length_set,l1]
  have l4:=zy7 l3 r2 (show j<d by omega)
  have s1:=gu3 (show i<(sqN F k d n).length by omega)
  have s2:=gu3 (show j<((sqN F k d n).set i ((nth (sqN F k d n) i).set j (wf F n))).length by omega)
  have e1:=mla (nl:=2) s1
  have e2:=mla (nl:=2) s2
  have e3:=iva (l:=F) (i:=n) (by omega)
  generalize (sqN F k d n)=M at*
  generalize nth M i=r at*
  generalize hM1:M.set i (r.set j (wf F n))=M1 at*
  generalize nth M1 j=r' at*
  have h1:=le3 M i j (wf F n) r
  rw[hM1]at h1
  have h2:=le3 M1 j i (wf F n) r'
  have l5:(M.map vs).length=d:=by rw[List.length_map,l1]
  have l6:(M1.map vs).length=d:=by rw[List.length_map,l3]
  have l7:(vs r).length=d:=by rw[fi2,l2]
  have l8:(vs r').length=d:=by rw[fi2,l4]
  rw[Int.natCast_add,Int.natCast_one,Int.natCast_add,Int.natCast_one]at ih
  rw[←ih,sb5 c41L1.eq_def]
  simp(disch:=first|omega|fail) only[push_cast,seval,vrl,if_pos,if_neg,e1,e2,e3,h1,h2,l1,l2,l3,l4,hF]
theorem fo9{F:List (El q)}(hF:F.length=h61 k d)(hkd:k≤d)(hd:d≤100)(hS:h61 k d≤1000): ∀(c i:Nat),i+c=k→ ∀ks,
 vgoL W ⟨h41,[.tmp 6],0⟩ [0,1,2,7,9,10] c41L2 (.blk 2 [0,1,2,7,9]::ks) [(0, .x (.int .i64 k)),(1, .x (.int .i64 d)),(2, .fz b (.sl nl 0 1 (ivs (vs F)))),(7, .own 0 []),(9, .x (.int .i64 ((triS k i:Nat):Int))),(10, .x (.int .i64 i))] [.sl 1 22 1 (lls 2 ((sqN F k d (triS k i)).map vs))]=
  vgo W ⟨h41,[.tmp 6],0⟩ ks (VFr.of [(0, .x (.int .i64 k)),(1, .x (.int .i64 d)),(2, .fz b (.sl nl 0 1 (ivs (vs F)))),(7, .own 0 []),(9, .x (.int .i64 ((triS k k:Nat):Int)))]) [.sl 1 22 1 (lls 2 ((sqN F k d (triS k k)).map vs))]
 |0,i,hi,ks=>by
  obtain rfl:i=k:=by omega
  rw[sb5 c41L2.eq_def]
  simp(disch:=first|omega|fail) only[push_cast,seval,vrl,if_pos,if_neg]
 |c+1,i,hi,ks=>by
  have ih:=fo9 hF hkd hd hS c (i+1) (by omega) ks
  have e:=fun ks=>rq8 (b:=b) (nl:=nl) hF hkd hd hS (show i<k by omega) (k-i) i (by omega) (Nat.le_refl i) ks
  simp only[Nat.sub_self,Nat.add_zero]at e
  rw[Int.natCast_add,Int.natCast_one]at ih
  rw[←ih,sb5 c41L2.eq_def]
  simp(disch:=first|omega|fail) only[push_cast,seval,vrl,if_pos,if_neg]
  rw[e]
  simp(disch:=first|omega|fail) only[push_cast,seval,vrl,if_pos,if_neg]
theorem j19{F:List (El q)}(hF:F.length=h61 k d)(hkd:k≤d)(hd:d≤100)(hS:h61 k d≤1000){i:Nat}(hi:i<k): ∀(c j:Nat),j+c=d→k≤j→ ∀ks,
 vgoL W ⟨h41,[.tmp 6],0⟩ [0,1,2,7,9,12,13] c41L3 (.blk 8 [0,1,2,7,9,12]::ks) [(0, .x (.int .i64 k)),(1, .x (.int .i64 d)),(2, .fz b (.sl nl 0 1 (ivs (vs F)))),(7, .own 0 []),(9, .x (.int .i64 ((triS k k+(i*(d-k)+(j-k)):Nat):Int))),(12, .x (.int .i64 i)),(13, .x (.int .i64 j))] [.sl 1 22 1 (lls 2 ((sqN F k d (triS k k+(i*(d-k)+(j-k)))).map vs))]=
  vgo W ⟨h41,[.tmp 6],0⟩ ks (VFr.of [(0, .x (.int .i64 k)),(1, .x (.int .i64 d)),(2, .fz b (.sl nl 0 1 (ivs (vs F)))),(7, .own 0 []),(9, .x (.int .i64 ((triS k k+(i+1)*(d-k):Nat):Int))),(12, .x (.int .i64 i))]) [.sl 1 22 1 (lls 2 ((sqN F k d (triS k k+(i+1)*(d-k))).map vs))]
 |0,j,hj,hij,ks=>by
  obtain rfl:j=d:=by omega
  rw[show triS k k+(i*(j-k)+(j-k))=triS k k+(i+1)*(j-k) by rw[Nat.add_mul,Nat.one_mul],sb5 c41L3.eq_def]
  simp(disch:=first|omega|fail) only[push_cast,seval,vrl,if_pos,if_neg]
 |c+1,j,hj,hij,ks=>by
  have ih:=j19 hF hkd hd hS hi c (j+1) (by omega) (by omega) ks
  obtain⟨n,hn⟩: ∃n,triS k k+(i*(d-k)+(j-k))=n:=⟨_,rfl⟩
  have hp:bu7 k d i j=(n:Nat):=by rw[←hn];exact qp1 hi hij
  have hkk:=p84 k
  have hmul:i*(d-k)+(d-k)≤k*(d-k):=by rw[←Nat.succ_mul];exact Nat.mul_le_mul_right _ hi
  have hnS:n<h61 k d:=by unfold h61;omega
  have hst:=th2 F hi (show i≤j by omega) (by omega) hp
  unfold put2 at hst
  rw[show triS k k+(i*(d-k)+(j+1-k))=n+1 by omega,←hst]at ih
  rw[hn]
  have l1:=ax9 (k:=k) (d:=d) F n
  have r1:=za6 (k:=k) (d:=d) F n
  have l2:=zy7 l1 r1 (show i<d by omega)
  have r2:=wm2 (i:=i) r1 (show((nth (sqN F k d n) i).set j (wf F n)).length=d by rw[List.length_set,l2])
  have l3:((sqN F k d n).set i ((nth (sqN F k d n) i).set j (wf F n))).length=d:=by rw[List.length_set,l1]
  have l4:=zy7 l3 r2 (show j<d by omega)
  have s1:=gu3 (show i<(sqN F k d n).length by omega)
  have s2:=gu3 (show j<((sqN F k d n).set i ((nth (sqN F k d n) i).set j (wf F n))).length by omega)
  have e1:=mla (nl:=2) s1
  have e2:=mla (nl:=2) s2
  have e3:=iva (l:=F) (i:=n) (by omega)
  clear hst hn
  generalize (sqN F k d n)=M at*
  generalize nth M i=r at*
  generalize hM1:M.set i (r.set j (wf F n))=M1 at*
  generalize nth M1 j=r' at*
  have h1:=le3 M i j (wf F n) r
  rw[hM1]at h1
  have h2:=le3 M1 j i (wf F n) r'
  have hid:i<d:=by omega
  rw[Int.natCast_add,Int.natCast_one,Int.natCast_add,Int.natCast_one]at ih
  rw[←ih,sb5 c41L3.eq_def]
  simp(disch:=first|omega|fail) only[push_cast,seval,vrl,if_pos,if_neg,e1,e2,e3,h1,h2,l1,l2,l3,l4,hF]
theorem nk7{F:List (El q)}(hF:F.length=h61 k d)(hkd:k≤d)(hd:d≤100)(hS:h61 k d≤1000): ∀(c i:Nat),i+c=k→ ∀ks,
 vgoL W ⟨h41,[.tmp 6],0⟩ [0,1,2,7,9,12] c41L4 (.blk 6 [7]::ks) [(0, .x (.int .i64 k)),(1, .x (.int .i64 d)),(2, .fz b (.sl nl 0 1 (ivs (vs F)))),(7, .own 0 []),(9, .x (.int .i64 ((triS k k+i*(d-k):Nat):Int))),(12, .x (.int .i64 i))] [.sl 1 22 1 (lls 2 ((sqN F k d (triS k k+i*(d-k))).map vs))]=
  vgo W ⟨h41,[.tmp 6],0⟩ ks (VFr.of [(7, .own 0 [])]) [.sl 1 22 1 (lls 2 ((sqN F k d (triS k k+k*(d-k))).map vs))]
 |0,i,hi,ks=>by
  obtain rfl:i=k:=by omega
  rw[sb5 c41L4.eq_def]
  simp(disch:=first|omega|fail) only[push_cast,seval,vrl,if_pos,if_neg]
 |c+1,i,hi,ks=>by
  have ih:=nk7 hF hkd hd hS c (i+1) (by omega) ks
  have e:=fun ks=>j19 (b:=b) (nl:=nl) hF hkd hd hS (show i<k by omega) (d-k) k (by omega) (Nat.le_refl k) ks
  simp only[Nat.sub_self,Nat.add_zero]at e
  rw[show((i+1:Nat):Int)=(i:Int)+1 from rfl]at ih
  rw[←ih,sb5 c41L4.eq_def]
  generalize triS k k+(i+1)*(d-k)=n1 at*
  generalize triS k k+i*(d-k)=n0 at*
  simp(disch:=first|omega|fail) only[push_cast,seval,vrl,if_pos,if_neg]
  rw[e]
  simp(disch:=first|omega|fail) only[push_cast,seval,vrl,if_pos,if_neg]
theorem lk2(hd:d≤100){F:List (El q)}: ∀(c i:Nat),i+c=d→ ∀ks,
 vgoL W ⟨h41,[.tmp 6],0⟩ [0,1,2,7,8] c41L0 (.blk 0 [0,1,2,7]::ks) [(0, .x (.int .i64 k)),(1, .x (.int .i64 d)),(2, .fz b (.sl nl 0 1 (ivs (vs F)))),(7, .own 0 []),(8, .x (.int .i64 i))] [.sl 1 22 1 (lls 2 (List.replicate i (List.replicate d 0)))]=
  vgo W ⟨h41,[.tmp 6],0⟩ ks (VFr.of [(0, .x (.int .i64 k)),(1, .x (.int .i64 d)),(2, .fz b (.sl nl 0 1 (ivs (vs F)))),(7, .own 0 [])]) [.sl 1 22 1 (lls 2 (List.replicate d (List.replicate d 0)))]
 |0,i,hi,ks=>by
  obtain rfl:i=d:=by omega
  rw[sb5 c41L0.eq_def]
  simp(disch:=first|omega|fail) only[push_cast,seval,vrl,if_pos,if_neg]
 |c+1,i,hi,ks=>by
  have ih:=lk2 hd (F:=F) c (i+1) (by omega) ks
  have e:=ng3 2 (List.replicate i (List.replicate d (0:Int))) (List.replicate d (0:Int))
  rw[List.replicate_succ',Int.natCast_add,Int.natCast_one,←e]at ih
  rw[←ih,sb5 c41L0.eq_def]
  simp(disch:=first|omega|fail) only[push_cast,seval,vrl,if_pos,if_neg,cs7]
theorem h31{F:List (El q)}(hF:F.length=h61 k d)(hk0:1≤k)(hkd:k≤d)(hd:d≤100)(hS:h61 k d≤1000){Q:Int}{N:Nat}(hP:PlanOK Q N k d):
 o24 W 41 [.x (.int .i64 k), .x (.int .i64 d), .fz b (.sl nl 0 1 (ivs (vs F)))] []=some (.own 0 [],[.sl 1 22 1 (lls 2 ((sqF F k d).map vs))],[]):=by
 have e1:=fun ks=>lk2 (b:=b) (nl:=nl) (k:=k) (d:=d) hd (F:=F) d 0 (by omega) ks
 have hz:List.replicate d (List.replicate d (0:Int))=(sqN F k d 0).map vs:=by
  rw[cb2,List.map_replicate]
  unfold vs
  rw[List.map_replicate];rfl
 rw[hz]at e1
 have e2:=fun ks=>fo9 (b:=b) (nl:=nl) hF hkd hd hS k 0 (by omega) ks
 have e3:=fun ks=>nk7 (b:=b) (nl:=nl) hF hkd hd hS k 0 (by omega) ks
 rw[Nat.zero_mul,Nat.add_zero]at e3
 have hall:triS k k+k*(d-k)=h61 k d:=by rw[p84];rfl
 rw[hall,y58 hP]at e3
 simp only[Int.natCast_zero,show triS k 0=0 from rfl,List.replicate_zero,x25]at e1 e2 e3
 rw[o10 rfl T41 rfl]
 unfold F41 c41
 simp(disch:=first|omega|fail) only[push_cast,seval,vrl,if_pos,if_neg]
 rw[e1]
 simp(disch:=first|omega|fail) only[push_cast,seval,vrl,if_pos,if_neg]
 rw[e2]
 simp(disch:=first|omega|fail) only[push_cast,seval,vrl,if_pos,if_neg]
 rw[e3]
 simp(disch:=first|omega|fail) only[push_cast,seval,vrl,if_pos,if_neg]
theorem gg3(u:RFo q p m g t){n:Nat}(hn:(n:Int)≤q)(hn2:n≤100)(hd:d≤100){T:Tree}: ∀(c i:Nat),i+c=n→ ∀ks,
 vgoL W ⟨h13,[.tmp 10],0⟩ [1,3,5,11,12,13] c13L0 (.blk 0 [5,11,12]::ks) [(1, .x (.int .i64 n)),(3, .x (.int .i64 d)),(5, .own 0 []),(11, .own 1 []),(12, .own 2 []),(13, .x (.int .i64 i))] [.pt 31 [.v (.int .i64 q), .v (.int .i64 p), .v (.int .i64 m), .v (.int .i64 g), .fz t],T, .sl 1 22 1 (lls 2 ((psiF q i d).map vs))]=
  vgo W ⟨h13,[.tmp 10],0⟩ ks (VFr.of [(5, .own 0 []),(11, .own 1 []),(12, .own 2 [])]) [.pt 31 [.v (.int .i64 q), .v (.int .i64 p), .v (.int .i64 m), .v (.int .i64 g), .fz t],T, .sl 1 22 1 (lls 2 ((psiF q n d).map vs))]
 |0,i,hi,ks=>by
  obtain rfl:i=n:=by omega
  rw[sb5 c13L0.eq_def]
  simp(disch:=first|omega|fail) only[push_cast,seval,vrl,if_pos,if_neg]
 |c+1,i,hi,ks=>by
  have ih:=gg3 u hn hn2 hd (T:=T) c (i+1) (by omega) ks
  have hv:=ol8 (q:=q) (a:=(i:Int)) (by omega)
  have e1:=iy8 (q:=q) (x:=ndE q (i:Int)) (n:=d) (by omega)
  rw[hv,u.e]at e1
  have ht:=u.n
  have ho:=u.o
  have e2:psiF q (i+1) d=psiF q i d++[pwL (ndE q (i:Int)) d]:=by unfold psiF;rw[ap4]
  have e3:=ng3 2 ((psiF q i d).map vs) (vs (pwL (ndE q (i:Int)) d))
  have hl:((psiF q i d).map vs).length=i:=by rw[List.length_map];exact u35 ..
  rw[e2,List.map_append,List.map_cons,List.map_nil,←e3,Int.natCast_add,Int.natCast_one]at ih
  rw[←ih,sb5 c13L0.eq_def]
  generalize vs (pwL (ndE q (i:Int)) d)=Y at*
  generalize (psiF q i d).map vs=Z at*
  simp(disch:=first|omega|fail) only[push_cast,seval,vrl,if_pos,if_neg,e1,ht,ho,hl]
theorem ta9{N:Nat}(h:PlanOK q N k d){F:List (El q)}(hF:F.length=h61 k d):
 o24 W 13 [.agg (rFs q), .x (.int .i64 N), .x (.int .i64 k), .x (.int .i64 d), .fz b (.sl nl 0 1 (ivs (vs F)))] []=some (.own 0 [],[.sl 1 22 1 (lls 2 ((allF F N k d).map vs))],[]):=by
 obtain⟨p,m,g,t,u⟩:=k75 q
 have h1:=h.n16
 have h2:=h.kd
 have h3:=h.dn
 have h4:=h.k1
 have h5:=h.nq
 have e1:=fun b nl=>h31 (b:=b) (nl:=nl) hF h4 h2 (by omega) (size_le h) h
 have e2:=fun T ks=>gg3 u (n:=N) h5 (by omega) (show d≤100 by omega) (T:=T) N 0 (by omega) ks
 simp only[Int.natCast_zero,show(psiF q 0 d).map vs=[]from rfl,x25]at e2
 have hpl:(psiF q N d).length=N:=u35 ..
 have hql:(sqF F k d).length=d:=u35 ..
 have e3:=fun b nl nr b' nl' nr'=>h27 (q:=q) (b:=b) (nl:=nl) (nr:=nr) (b':=b') (nl':=nl') (nr':=nr') (P:=psiF q N d) (Q:=sqF F k d) (N:=d) (by rw[hql];exact ij9) hm3 (by omega) (by omega) (by omega) (by omega)
 rw[u.e]at e3
 have ht:=u.n
 have ho:=u.o
 unfold allF
 generalize (em6 d (psiF q N d) (sqF F k d)).map vs=R at*
 generalize (psiF q N d).map vs=Ps at*
 generalize (sqF F k d).map vs=Sq at*
 rw[o10 rfl T13 rfl,u.e]
 unfold F13 c13
 simp(disch:=first|omega|fail) only[push_cast,seval,vrl,if_pos,if_neg,ht,e1]
 rw[e2]
 simp(disch:=first|omega|fail) only[push_cast,seval,vrl,if_pos,if_neg,e3,ht,ho]
end
section
variable {K:Type} [FK K]
def grM(S:Nat→Nat→K)(k c i:Nat):List (List K):=ofL k fun r=>ofF (if r<i then c+1 else c) fun t=>S r t
theorem ap5(S:Nat→Nat→K)(k c i:Nat):(grM S k c i).length=k:=u35 ..
theorem oc7(S:Nat→Nat→K){k c i r:Nat}(hr:r<k):(grM S k c i)[r]? =some (ofF (if r<i then c+1 else c) fun t=>S r t):=by
 unfold grM ofL;rw[List.getElem?_map,List.getElem?_range hr];rfl
theorem rx4(S:Nat→Nat→K){k c i:Nat}(hi:i<k):(grM S k c i).set i (ofF c (fun t=>S i t)++[S i c])=grM S k c (i+1):=by
 refine List.ext_getElem? fun r=> ?_
 rw[List.getElem?_set]
 by_cases hr:i=r
 ·subst hr
  rw[if_pos rfl,if_pos (by rw[ap5];exact hi),oc7 S hi,if_pos (by omega),xe7]
 ·rw[if_neg hr]
  by_cases hk:r<k
  ·rw[oc7 S hk,oc7 S hk]
   by_cases h1:r<i
   ·rw[if_pos h1,if_pos (by omega)]
   ·rw[if_neg h1,if_neg (by omega)]
  ·rw[List.getElem?_eq_none (by rw[ap5];omega),List.getElem?_eq_none (by rw[ap5];omega)]
theorem tq9(S:Nat→Nat→K)(k c:Nat):grM S k c k=grM S k (c+1) 0:=by
 refine List.ext_getElem? fun r=> ?_
 by_cases hk:r<k
 ·rw[oc7 S hk,oc7 S hk,if_pos hk,if_neg (by omega)]
 ·rw[List.getElem?_eq_none (by rw[ap5];omega),List.getElem?_eq_none (by rw[ap5];omega)]
theorem ai8(S:Nat→Nat→K)(k:Nat):grM S k 0 0=List.replicate k []:=by
 refine List.ext_getElem? fun r=> ?_
 rw[List.getElem?_replicate]
 by_cases hk:r<k
 ·rw[oc7 S hk,if_neg (by omega),if_pos hk];rfl
 ·rw[List.getElem?_eq_none (by rw[ap5];omega),if_neg hk]
end
section
variable {q:Int} [IsFld q] {p m g:Int} {t:Tree} {b b':Bool} {nl nl' nr k d N:Nat} {l:List Int} {H:List (List (El q))}
theorem at5(u:RFo q p m g t)(hl:l.length≤100)(hl2: ∀v∈l,0≤v∧v<q)(hk:k≤100): ∀(c i:Nat),i+c=l.length→ ∀ks,
 vgoL W ⟨h50,[.tmp 12, .tmp 13],0⟩ [1,2,3,4,5,6,14,15] c50L0 (.blk 0 [1,2,3,4,5,6,14]::ks) [(1, .x (.int .i64 N)),(2, .x (.int .i64 k)),(3, .x (.int .i64 d)),(4, .fz b (.sl nl 0 1 (ivs l))),(5, .fz b' (.sl nl' 0 1 (lvs nr (H.map vs)))),(6, .own 0 []),(14, .own 1 []),(15, .x (.int .i64 i))] [.pt 31 [.v (.int .i64 q), .v (.int .i64 p), .v (.int .i64 m), .v (.int .i64 g), .fz t], .sl 1 22 1 (lls 2 ((psiL q (l.take i) k).map vs))]=
  vgo W ⟨h50,[.tmp 12, .tmp 13],0⟩ ks (VFr.of [(1, .x (.int .i64 N)),(2, .x (.int .i64 k)),(3, .x (.int .i64 d)),(4, .fz b (.sl nl 0 1 (ivs l))),(5, .fz b' (.sl nl' 0 1 (lvs nr (H.map vs)))),(6, .own 0 []),(14, .own 1 [])]) [.pt 31 [.v (.int .i64 q), .v (.int .i64 p), .v (.int .i64 m), .v (.int .i64 g), .fz t], .sl 1 22 1 (lls 2 ((psiL q l k).map vs))]
 |0,i,hi,ks=>by
  rw[List.take_of_length_le (by omega),sb5 c50L0.eq_def]
  simp(disch:=first|omega|fail) only[push_cast,seval,vrl,if_pos,if_neg]
 |c+1,i,hi,ks=>by
  have ih:=at5 u hl hl2 hk c (i+1) (by omega) ks
  obtain⟨v,hv⟩:=ge6 (l:=l) (i:=i) (by omega)
  have hvv:=ol8 (q:=q) (a:=v) (hl2 v (List.mem_of_getElem? hv))
  have e0:=iat hv
  have e1:=iy8 (q:=q) (x:=ndE q v) (n:=k) (by omega)
  rw[hvv,u.e]at e1
  have ht:=u.n
  have ho:=u.o
  have hll:((psiL q (l.take i) k).map vs).length≤100:=by unfold psiL;rw[List.length_map,List.length_map,List.length_take];omega
  have hsn:=ng3 2 ((psiL q (l.take i) k).map vs) (vs (pwL (ndE q v) k))
  have hss:(psiL q (l.take (i+1)) k).map vs=(psiL q (l.take i) k).map vs++[vs (pwL (ndE q v) k)]:=by unfold psiL;rw[List.take_add_one,hv,List.map_append,List.map_append];rfl
  rw[hss,Int.natCast_add,Int.natCast_one]at ih
  rw[←ih,sb5 c50L0.eq_def]
  generalize (psiL q (l.take i) k).map vs=Z at*
  generalize vs (pwL (ndE q v) k)=Y at*
  simp(disch:=first|omega|fail) only[push_cast,seval,vrl,if_pos,if_neg,e0,e1,ht,ho,hsn]
theorem z02{T14 T16:Tree}(u:RFo q p m g t)(hl:l.length=k)(hHl:H.length=k)(hk:k≤100)(hr: ∀r∈H,r.length=d)(hd:d≤100){j:Nat}(hj:j<d): ∀(c i:Nat),i+c=k→ ∀ks,
 vgoL W ⟨h50,[.tmp 12, .tmp 13],0⟩ [1,2,3,4,5,6,14,16,17,18,19] c50L1 (.blk 4 [1,2,3,4,5,6,14,16,17,18]::ks) [(1, .x (.int .i64 N)),(2, .x (.int .i64 k)),(3, .x (.int .i64 d)),(4, .fz b (.sl nl 0 1 (ivs l))),(5, .fz b' (.sl nl' 0 1 (lvs nr (H.map vs)))),(6, .own 0 []),(14, .own 1 []),(16, .own 2 []),(17, .x (.int .i64 j)),(18, .own 3 []),(19, .x (.int .i64 i))] [.pt 31 [.v (.int .i64 q), .v (.int .i64 p), .v (.int .i64 m), .v (.int .i64 g), .fz t],T14,T16, .sl 1 3 1 (ivs (vs (ofF i fun t=>wf (nth H t) j)))]=
  vgo W ⟨h50,[.tmp 12, .tmp 13],0⟩ ks (VFr.of [(1, .x (.int .i64 N)),(2, .x (.int .i64 k)),(3, .x (.int .i64 d)),(4, .fz b (.sl nl 0 1 (ivs l))),(5, .fz b' (.sl nl' 0 1 (lvs nr (H.map vs)))),(6, .own 0 []),(14, .own 1 []),(16, .own 2 []),(17, .x (.int .i64 j)),(18, .own 3 [])]) [.pt 31 [.v (.int .i64 q), .v (.int .i64 p), .v (.int .i64 m), .v (.int .i64 g), .fz t],T14,T16, .sl 1 3 1 (ivs (vs (farB k H j)))]
 |0,i,hi,ks=>by
  obtain rfl:i=k:=by omega
  unfold farB
  rw[sb5 c50L1.eq_def]
  simp(disch:=first|omega|fail) only[push_cast,seval,vrl,if_pos,if_neg,hl]
 |c+1,i,hi,ks=>by
  have ih:=z02 u hl hHl hk hr hd hj (T14:=T14) (T16:=T16) c (i+1) (by omega) ks
  obtain⟨r,hri⟩:=ge6 (l:=H) (i:=i) (by omega)
  have hrl:=hr r (List.mem_of_getElem? hri)
  have e1:=mva (nl:=nr) hri
  have e2:=iva (l:=r) (i:=j) (by omega)
  have hn:=xr8 hri
  have hlen:(ofF i fun t=>wf (nth H t) j).length=i:=gh0 ..
  have hHl2:(H.map vs).length=k:=by rw[List.length_map,hHl]
  have hx:vs ((ofF i fun t=>wf (nth H t) j)++[wf r j])=vs (ofF i fun t=>wf (nth H t) j)++[(wf r j).v]:=by rw[gq8];rfl
  rw[xe7,hn,hx,Int.natCast_add,Int.natCast_one]at ih
  rw[←ih,sb5 c50L1.eq_def]
  generalize (ofF i fun t=>wf (nth H t) j)=Z at*
  simp(disch:=first|omega|fail) only[push_cast,seval,vrl,if_pos,if_neg,hl,hHl,hHl2,e1,e2,hrl,hlen]
theorem dj8{T14:Tree}(hk:k≤100){x:List (El q)}(hx:x.length=k){S:Nat→Nat→El q}{j cc:Nat}(hcc:cc≤100)(hS: ∀i,i<k→S i cc=wf x i): ∀(c i:Nat),i+c=k→ ∀ks,
 vgoL W ⟨h50,[.tmp 12, .tmp 13],0⟩ [1,2,3,4,5,6,14,16,17,20,22] c50L2 (.blk 6 [1,2,3,4,5,6,14,16,17]::ks) [(1, .x (.int .i64 N)),(2, .x (.int .i64 k)),(3, .x (.int .i64 d)),(4, .fz b (.sl nl 0 1 (ivs l))),(5, .fz b' (.sl nl' 0 1 (lvs nr (H.map vs)))),(6, .own 0 []),(14, .own 1 []),(16, .own 2 []),(17, .x (.int .i64 j)),(20, .own 3 []),(22, .x (.int .i64 i))] [.pt 31 [.v (.int .i64 q), .v (.int .i64 p), .v (.int .i64 m), .v (.int .i64 g), .fz t],T14, .sl 0 22 1 (lls 2 ((grM S k cc i).map vs)), .sl 0 3 1 (ivs (vs x))]=
  vgo W ⟨h50,[.tmp 12, .tmp 13],0⟩ ks (VFr.of [(1, .x (.int .i64 N)),(2, .x (.int .i64 k)),(3, .x (.int .i64 d)),(4, .fz b (.sl nl 0 1 (ivs l))),(5, .fz b' (.sl nl' 0 1 (lvs nr (H.map vs)))),(6, .own 0 []),(14, .own 1 []),(16, .own 2 []),(17, .x (.int .i64 j))]) [.pt 31 [.v (.int .i64 q), .v (.int .i64 p), .v (.int .i64 m), .v (.int .i64 g), .fz t],T14, .sl 0 22 1 (lls 2 ((grM S k (cc+1) 0).map vs)), .sl 0 3 1 (ivs (vs x))]
 |0,i,hi,ks=>by
  obtain rfl:i=k:=by omega
  rw[tq9,sb5 c50L2.eq_def]
  simp(disch:=first|omega|fail) only[push_cast,seval,vrl,if_pos,if_neg]
 |c+1,i,hi,ks=>by
  have ih:=dj8 (T14:=T14) hk hx (j:=j) hcc hS c (i+1) (by omega) ks
  have hik:i<k:=by omega
  have e1:=oc7 S (c:=cc) (i:=i) hik
  rw[if_neg (by omega)]at e1
  have e2:=mla (nl:=2) e1
  have e3:=iva (l:=x) (i:=i) (by omega)
  have hl1:=ap5 S k cc i
  have hl2:((grM S k cc i).map vs).length=k:=by rw[List.length_map,hl1]
  have hl3:(ofF cc fun t=>S i t).length=cc:=gh0 ..
  have hs:((grM S k cc i).map vs).set i (vs (ofF cc fun t=>S i t)++[(wf x i).v])=(grM S k cc (i+1)).map vs:=by
   rw[←rx4 S hik,List.map_set,gq8,hS i hik];rfl
  rw[←hs,Int.natCast_add,Int.natCast_one]at ih
  rw[←ih,sb5 c50L2.eq_def]
  generalize grM S k cc i=Z at*
  generalize (ofF cc fun t=>S i t)=Y at*
  simp(disch:=first|omega|fail) only[push_cast,seval,vrl,if_pos,if_neg,e2,e3,hl1,hl2,hl3,hx,List.set_set]
def farC(l:List Int)(k:Nat)(H:List (List (El q)))(i t:Nat):El q:=wf (farS l k H (k+t)) i
def midC(l:List Int)(k d:Nat)(H:List (List (El q)))(i t:Nat):El q:=wf (midS l k d H t) i
theorem mo2:(psiL q l k).length=l.length:=by unfold psiL;rw[List.length_map]
theorem cs4(u:RFo q p m g t)(hn:l.Nodup)(hl:l.length=k)(hl2: ∀v∈l,0≤v∧v<q)(hHl:H.length=k)(hk0:1≤k)(hk:k≤100)(hr: ∀r∈H,r.length=d)(hd:d≤100): ∀(c j:Nat),j+c=d→k≤j→ ∀ks,
 vgoL W ⟨h50,[.tmp 12, .tmp 13],0⟩ [1,2,3,4,5,6,14,16,17] c50L3 (.blk 2 [1,2,3,4,5,6,14,16]::ks) [(1, .x (.int .i64 N)),(2, .x (.int .i64 k)),(3, .x (.int .i64 d)),(4, .fz b (.sl nl 0 1 (ivs l))),(5, .fz b' (.sl nl' 0 1 (lvs nr (H.map vs)))),(6, .own 0 []),(14, .own 1 []),(16, .own 2 []),(17, .x (.int .i64 j))] [.pt 31 [.v (.int .i64 q), .v (.int .i64 p), .v (.int .i64 m), .v (.int .i64 g), .fz t], .sl 1 22 1 (lls 2 ((psiL q l k).map vs)), .sl 0 22 1 (lls 2 ((grM (farC l k H) k (j-k) 0).map vs))]=
  vgo W ⟨h50,[.tmp 12, .tmp 13],0⟩ ks (VFr.of [(1, .x (.int .i64 N)),(2, .x (.int .i64 k)),(3, .x (.int .i64 d)),(4, .fz b (.sl nl 0 1 (ivs l))),(5, .fz b' (.sl nl' 0 1 (lvs nr (H.map vs)))),(6, .own 0 []),(14, .own 1 []),(16, .own 2 [])]) [.pt 31 [.v (.int .i64 q), .v (.int .i64 p), .v (.int .i64 m), .v (.int .i64 g), .fz t], .sl 1 22 1 (lls 2 ((psiL q l k).map vs)), .sl 0 22 1 (lls 2 ((grM (farC l k H) k (d-k) 0).map vs))]
 |0,j,hj,hkj,ks=>by
  obtain rfl:j=d:=by omega
  rw[sb5 c50L3.eq_def]
  simp(disch:=first|omega|fail) only[push_cast,seval,vrl,if_pos,if_neg]
 |c+1,j,hj,hkj,ks=>by
  have ih:=cs4 u hn hl hl2 hHl hk0 hk hr hd c (j+1) (by omega) (by omega) ks
  have e1:=fun T14 T16 ks=>z02 (b:=b) (b':=b') (nl:=nl) (nl':=nl') (nr:=nr) (N:=N) (T14:=T14) (T16:=T16) u hl hHl hk hr hd (j:=j) (by omega) k 0 (by omega) ks
  simp only[Int.natCast_zero,show(ofF 0 fun t=>wf (nth H t) j)=[]from rfl,rp2,lz6]at e1
  obtain⟨s1,s2,s3⟩:=gd4 (q:=q) hn hl hl2 (b:=farB k H j) (gh0 ..)
  have hfl:(farB k H j).length=k:=gh0 ..
  have e2:=fun b nl b' nl' nr=>x97 (q:=q) (b:=b) (nl:=nl) (b':=b') (nl':=nl') (nr:=nr) (M:=psiL q l k) (y:=farB k H j) (N:=k) (by rw[hfl,mo2,hl]) od8 (by rw[mo2];omega) (by rw[mo2];omega) (by omega)
  simp only[s1,u.e]at e2
  have hS: ∀i,i<k→farC l k H i (j-k)=wf (colS q l k (farB k H j)) i:=fun i hi=>by unfold farC farS;rw[show k+(j-k)=j by omega]
  have e3:=fun T14 ks=>dj8 (q:=q) (p:=p) (m:=m) (g:=g) (t:=t) (b:=b) (b':=b') (nl:=nl) (nl':=nl') (nr:=nr) (N:=N) (d:=d) (l:=l) (H:=H) (T14:=T14) hk s2 (S:=farC l k H) (j:=j) (cc:=j-k) (by omega) hS k 0 (by omega) ks
  simp only[Int.natCast_zero]at e3
  have ht:=u.n
  have ho:=u.o
  rw[show j+1-k=j-k+1 by omega,Int.natCast_add,Int.natCast_one]at ih
  rw[←ih,sb5 c50L3.eq_def]
  generalize (psiL q l k).map vs=Ps at*
  generalize (grM (farC l k H) k (j-k+1) 0).map vs=G1 at*
  generalize (grM (farC l k H) k (j-k) 0).map vs=G0 at*
  generalize colS q l k (farB k H j)=X at*
  generalize farB k H j=Y at*
  simp(disch:=first|omega|fail) only[push_cast,seval,vrl,if_pos,if_neg]
  rw[e1]
  simp(disch:=first|omega|fail) only[push_cast,seval,vrl,if_pos,if_neg,e2,ht,ho]
  rw[e3]
  simp(disch:=first|omega|fail) only[push_cast,seval,vrl,if_pos,if_neg]
theorem jj1{T14 T23 T25:Tree}(u:RFo q p m g t)(hk:k≤d)(hd:d≤100){i j:Nat}(hj:j<k){v:Int}(hv:l[i]? =some v): ∀(c e:Nat),e+c=d→k≤e→ ∀ks,
 vgoL W ⟨h50,[.tmp 12, .tmp 13],0⟩ [1,2,3,4,5,6,14,16,23,24,25,26,27,28,29] c50L4 (.blk 12 [1,2,3,4,5,6,14,16,23,24,25,26,28]::ks) [(1, .x (.int .i64 N)),(2, .x (.int .i64 k)),(3, .x (.int .i64 d)),(4, .fz b (.sl nl 0 1 (ivs l))),(5, .fz b' (.sl nl' 0 1 (lvs nr (H.map vs)))),(6, .own 0 []),(14, .own 1 []),(16, .own 2 []),(23, .own 3 []),(24, .x (.int .i64 j)),(25, .own 4 []),(26, .x (.int .i64 i)),(27, .own 5 []),(28, .x (.int .i64 (midV l k H j i (e-k)).v)),(29, .x (.int .i64 e))] [.pt 31 [.v (.int .i64 q), .v (.int .i64 p), .v (.int .i64 m), .v (.int .i64 g), .fz t],T14, .sl 0 22 1 (lls 2 ((grM (farC l k H) k (d-k) 0).map vs)),T23,T25, .sl 1 3 1 (ivs (vs (pwL (ndE q v) d)))]=
  vgo W ⟨h50,[.tmp 12, .tmp 13],0⟩ ks (VFr.of [(1, .x (.int .i64 N)),(2, .x (.int .i64 k)),(3, .x (.int .i64 d)),(4, .fz b (.sl nl 0 1 (ivs l))),(5, .fz b' (.sl nl' 0 1 (lvs nr (H.map vs)))),(6, .own 0 []),(14, .own 1 []),(16, .own 2 []),(23, .own 3 []),(24, .x (.int .i64 j)),(25, .own 4 []),(26, .x (.int .i64 i)),(28, .x (.int .i64 (midV l k H j i (d-k)).v))]) [.pt 31 [.v (.int .i64 q), .v (.int .i64 p), .v (.int .i64 m), .v (.int .i64 g), .fz t],T14, .sl 0 22 1 (lls 2 ((grM (farC l k H) k (d-k) 0).map vs)),T23,T25, .sl 1 3 1 (ivs (vs (pwL (ndE q v) d)))]
 |0,e,he,hke,ks=>by
  obtain rfl:e=d:=by omega
  rw[sb5 c50L4.eq_def]
  simp(disch:=first|omega|fail) only[push_cast,seval,vrl,if_pos,if_neg]
 |c+1,e,he,hke,ks=>by
  have ih:=jj1 (T14:=T14) (T23:=T23) (T25:=T25) u hk hd hj hv c (e+1) (by omega) (by omega) ks
  have e1:(ivs (vs (pwL (ndE q v) d)))[e]? =some (.v (.int .i64 (pw (ndE q v) e).v)):=iat (show(vs (pwL (ndE q v) d))[e]? =some (pw (ndE q v) e).v by unfold vs;rw[List.getElem?_map,hn3 (by omega)];rfl)
  have e2:=oc7 (farC l k H) (k:=k) (c:=d-k) (i:=0) hj
  rw[if_neg (by omega)]at e2
  have e3:=mla (nl:=2) e2
  have hl1:(vs (pwL (ndE q v) d)).length=d:=by rw[fi2];exact gh0 ..
  have hl2:(vs (ofF (d-k) fun t=>farC l k H j t)).length=d-k:=by rw[fi2];exact gh0 ..
  have hl3:=ap5 (farC l k H) k (d-k) 0
  have e4:=iva (l:=ofF (d-k) fun t=>farC l k H j t) (i:=e-k) (by rw[gh0];omega)
  rw[dv2 (by omega)]at e4
  have e5:midV l k H j i (e+1-k)=midV l k H j i (e-k)-pw (ndE q v) e*farC l k H j (e-k):=by
   rw[show e+1-k=(e-k)+1 by omega,midV,rd4 hv,show k+(e-k)=e by omega]
   unfold farC;rw[show k+(e-k)=e by omega]
  have ht:=u.n
  have ho:=u.o
  have vmul:=fun x y:Int=>n06 (q:=q) (x:=x) (y:=y)
  rw[u.e]at vmul
  have vsub:=fun x y:Int=>br1 (q:=q) (x:=x) (y:=y)
  rw[u.e]at vsub
  have hsub:((e:Int)-(k:Int)).toNat=e-k:=by omega
  rw[e5,bq9,ym6,Int.natCast_add,Int.natCast_one]at ih
  rw[←ih,sb5 c50L4.eq_def]
  generalize vs (pwL (ndE q v) d)=P1 at*
  generalize grM (farC l k H) k (d-k) 0=G0 at*
  generalize vs (ofF (d-k) fun t=>farC l k H j t)=R0 at*
  generalize midV l k H j i (e-k)=V0 at*
  simp(disch:=first|omega|fail) only[push_cast,seval,vrl,if_pos,if_neg,e1,e3,hsub,e4,vmul,vsub,ht,ho,hl1,hl2,hl3]
end
section
variable {q:Int} [IsFld q] {p m g:Int} {t:Tree} {b b':Bool} {nl nl' nr k d N:Nat} {l:List Int} {H:List (List (El q))}
theorem ig2{T14 T23:Tree}(u:RFo q p m g t)(hl:l.length=k)(hl2: ∀v∈l,0≤v∧v<q)(hHl:H.length=k)(hr: ∀r∈H,r.length=d)(hk:k≤d)(hd:d≤100){j:Nat}(hj:j<k): ∀(c i:Nat),i+c=k→ ∀ks,
 vgoL W ⟨h50,[.tmp 12, .tmp 13],0⟩ [1,2,3,4,5,6,14,16,23,24,25,26] c50L5 (.blk 10 [1,2,3,4,5,6,14,16,23,24,25]::ks) [(1, .x (.int .i64 N)),(2, .x (.int .i64 k)),(3, .x (.int .i64 d)),(4, .fz b (.sl nl 0 1 (ivs l))),(5, .fz b' (.sl nl' 0 1 (lvs nr (H.map vs)))),(6, .own 0 []),(14, .own 1 []),(16, .own 2 []),(23, .own 3 []),(24, .x (.int .i64 j)),(25, .own 4 []),(26, .x (.int .i64 i))] [.pt 31 [.v (.int .i64 q), .v (.int .i64 p), .v (.int .i64 m), .v (.int .i64 g), .fz t],T14, .sl 0 22 1 (lls 2 ((grM (farC l k H) k (d-k) 0).map vs)),T23, .sl 1 3 1 (ivs (vs (ofF i fun t=>midV l k H j t (d-k))))]=
  vgo W ⟨h50,[.tmp 12, .tmp 13],0⟩ ks (VFr.of [(1, .x (.int .i64 N)),(2, .x (.int .i64 k)),(3, .x (.int .i64 d)),(4, .fz b (.sl nl 0 1 (ivs l))),(5, .fz b' (.sl nl' 0 1 (lvs nr (H.map vs)))),(6, .own 0 []),(14, .own 1 []),(16, .own 2 []),(23, .own 3 []),(24, .x (.int .i64 j)),(25, .own 4 [])]) [.pt 31 [.v (.int .i64 q), .v (.int .i64 p), .v (.int .i64 m), .v (.int .i64 g), .fz t],T14, .sl 0 22 1 (lls 2 ((grM (farC l k H) k (d-k) 0).map vs)),T23, .sl 1 3 1 (ivs (vs (midB l k d H j)))]
 |0,i,hi,ks=>by
  obtain rfl:i=k:=by omega
  unfold midB
  rw[sb5 c50L5.eq_def]
  simp(disch:=first|omega|fail) only[push_cast,seval,vrl,if_pos,if_neg,hl]
 |c+1,i,hi,ks=>by
  have ih:=ig2 (T14:=T14) (T23:=T23) u hl hl2 hHl hr hk hd hj c (i+1) (by omega) ks
  obtain⟨v,hv⟩:=ge6 (l:=l) (i:=i) (by omega)
  have hvv:=ol8 (q:=q) (a:=v) (hl2 v (List.mem_of_getElem? hv))
  have e0:=iat hv
  have e1:=iy8 (q:=q) (x:=ndE q v) (n:=d) (by omega)
  rw[hvv,u.e]at e1
  obtain⟨r,hri⟩:=ge6 (l:=H) (i:=i) (by omega)
  have hrl:=hr r (List.mem_of_getElem? hri)
  have e2:=mva (nl:=nr) hri
  have e3:=iva (l:=r) (i:=j) (by omega)
  have hn:=xr8 hri
  have hm0:midV l k H j i (k-k)=wf r j:=by rw[Nat.sub_self,midV,hn]
  have e4:=fun T25 ks=>jj1 (b:=b) (b':=b') (nl:=nl) (nl':=nl') (nr:=nr) (N:=N) (T14:=T14) (T23:=T23) (T25:=T25) (H:=H) u hk hd hj hv (d-k) k (by omega) (Nat.le_refl k) ks
  rw[hm0]at e4
  have ht:=u.n
  have ho:=u.o
  have hlen:(ofF i fun t=>midV l k H j t (d-k)).length=i:=gh0 ..
  have hHl2:(H.map vs).length=k:=by rw[List.length_map,hHl]
  have hx:vs ((ofF i fun t=>midV l k H j t (d-k))++[midV l k H j i (d-k)])=vs (ofF i fun t=>midV l k H j t (d-k))++[(midV l k H j i (d-k)).v]:=by rw[gq8];rfl
  rw[xe7,hx,Int.natCast_add,Int.natCast_one]at ih
  rw[←ih,sb5 c50L5.eq_def]
  generalize vs (pwL (ndE q v) d)=P1 at*
  generalize (grM (farC l k H) k (d-k) 0).map vs=G0 at*
  generalize (ofF i fun t=>midV l k H j t (d-k))=Y at*
  simp(disch:=first|omega|fail) only[push_cast,seval,vrl,if_pos,if_neg,hl,hHl,hHl2,e0,e1,e2,e3,hrl,ht,ho]
  rw[e4]
  simp(disch:=first|omega|fail) only[push_cast,seval,vrl,if_pos,if_neg,hlen]
theorem qw9{T14 T16:Tree}(hk:k≤100){x:List (El q)}(hx:x.length=k){S:Nat→Nat→El q}{j cc:Nat}(hcc:cc≤100)(hS: ∀i,i<k→S i cc=wf x i): ∀(c i:Nat),i+c=k→ ∀ks,
 vgoL W ⟨h50,[.tmp 12, .tmp 13],0⟩ [1,2,3,4,5,6,14,16,23,24,30,32] c50L6 (.blk 14 [1,2,3,4,5,6,14,16,23,24]::ks) [(1, .x (.int .i64 N)),(2, .x (.int .i64 k)),(3, .x (.int .i64 d)),(4, .fz b (.sl nl 0 1 (ivs l))),(5, .fz b' (.sl nl' 0 1 (lvs nr (H.map vs)))),(6, .own 0 []),(14, .own 1 []),(16, .own 2 []),(23, .own 3 []),(24, .x (.int .i64 j)),(30, .own 4 []),(32, .x (.int .i64 i))] [.pt 31 [.v (.int .i64 q), .v (.int .i64 p), .v (.int .i64 m), .v (.int .i64 g), .fz t],T14,T16, .sl 0 22 1 (lls 2 ((grM S k cc i).map vs)), .sl 0 3 1 (ivs (vs x))]=
  vgo W ⟨h50,[.tmp 12, .tmp 13],0⟩ ks (VFr.of [(1, .x (.int .i64 N)),(2, .x (.int .i64 k)),(3, .x (.int .i64 d)),(4, .fz b (.sl nl 0 1 (ivs l))),(5, .fz b' (.sl nl' 0 1 (lvs nr (H.map vs)))),(6, .own 0 []),(14, .own 1 []),(16, .own 2 []),(23, .own 3 []),(24, .x (.int .i64 j))]) [.pt 31 [.v (.int .i64 q), .v (.int .i64 p), .v (.int .i64 m), .v (.int .i64 g), .fz t],T14,T16, .sl 0 22 1 (lls 2 ((grM S k (cc+1) 0).map vs)), .sl 0 3 1 (ivs (vs x))]
 |0,i,hi,ks=>by
  obtain rfl:i=k:=by omega
  rw[tq9,sb5 c50L6.eq_def]
  simp(disch:=first|omega|fail) only[push_cast,seval,vrl,if_pos,if_neg]
 |c+1,i,hi,ks=>by
  have ih:=qw9 (T14:=T14) (T16:=T16) hk hx (j:=j) hcc hS c (i+1) (by omega) ks
  have hik:i<k:=by omega
  have e1:=oc7 S (c:=cc) (i:=i) hik
  rw[if_neg (by omega)]at e1
  have e2:=mla (nl:=2) e1
  have e3:=iva (l:=x) (i:=i) (by omega)
  have hl1:=ap5 S k cc i
  have hl2:((grM S k cc i).map vs).length=k:=by rw[List.length_map,hl1]
  have hl3:(ofF cc fun t=>S i t).length=cc:=gh0 ..
  have hs:((grM S k cc i).map vs).set i (vs (ofF cc fun t=>S i t)++[(wf x i).v])=(grM S k cc (i+1)).map vs:=by
   rw[←rx4 S hik,List.map_set,gq8,hS i hik];rfl
  rw[←hs,Int.natCast_add,Int.natCast_one]at ih
  rw[←ih,sb5 c50L6.eq_def]
  generalize grM S k cc i=Z at*
  generalize (ofF cc fun t=>S i t)=Y at*
  simp(disch:=first|omega|fail) only[push_cast,seval,vrl,if_pos,if_neg,e2,e3,hl1,hl2,hl3,hx,List.set_set]
theorem l85(u:RFo q p m g t)(hn:l.Nodup)(hl:l.length=k)(hl2: ∀v∈l,0≤v∧v<q)(hHl:H.length=k)(hk0:1≤k)(hk:k≤d)(hr: ∀r∈H,r.length=d)(hd:d≤100): ∀(c j:Nat),j+c=k→ ∀ks,
 vgoL W ⟨h50,[.tmp 12, .tmp 13],0⟩ [1,2,3,4,5,6,14,16,23,24] c50L7 (.blk 8 [1,2,3,4,5,6,16,23]::ks) [(1, .x (.int .i64 N)),(2, .x (.int .i64 k)),(3, .x (.int .i64 d)),(4, .fz b (.sl nl 0 1 (ivs l))),(5, .fz b' (.sl nl' 0 1 (lvs nr (H.map vs)))),(6, .own 0 []),(14, .own 1 []),(16, .own 2 []),(23, .own 3 []),(24, .x (.int .i64 j))] [.pt 31 [.v (.int .i64 q), .v (.int .i64 p), .v (.int .i64 m), .v (.int .i64 g), .fz t], .sl 1 22 1 (lls 2 ((psiL q l k).map vs)), .sl 0 22 1 (lls 2 ((grM (farC l k H) k (d-k) 0).map vs)), .sl 0 22 1 (lls 2 ((grM (midC l k d H) k j 0).map vs))]=
  vgo W ⟨h50,[.tmp 12, .tmp 13],0⟩ ks (VFr.of [(1, .x (.int .i64 N)),(2, .x (.int .i64 k)),(3, .x (.int .i64 d)),(4, .fz b (.sl nl 0 1 (ivs l))),(5, .fz b' (.sl nl' 0 1 (lvs nr (H.map vs)))),(6, .own 0 []),(16, .own 2 []),(23, .own 3 [])]) [.pt 31 [.v (.int .i64 q), .v (.int .i64 p), .v (.int .i64 m), .v (.int .i64 g), .fz t], .sl 1 22 1 (lls 2 ((psiL q l k).map vs)), .sl 0 22 1 (lls 2 ((grM (farC l k H) k (d-k) 0).map vs)), .sl 0 22 1 (lls 2 ((grM (midC l k d H) k k 0).map vs))]
 |0,j,hj,ks=>by
  obtain rfl:j=k:=by omega
  rw[sb5 c50L7.eq_def]
  simp(disch:=first|omega|fail) only[push_cast,seval,vrl,if_pos,if_neg]
 |c+1,j,hj,ks=>by
  have ih:=l85 u hn hl hl2 hHl hk0 hk hr hd c (j+1) (by omega) ks
  have e1:=fun T14 T23 ks=>ig2 (b:=b) (b':=b') (nl:=nl) (nl':=nl') (nr:=nr) (N:=N) (T14:=T14) (T23:=T23) u hl hl2 hHl hr hk hd (j:=j) (by omega) k 0 (by omega) ks
  simp only[Int.natCast_zero,show(ofF 0 fun t=>midV l k H j t (d-k))=[]from rfl,rp2,lz6]at e1
  obtain⟨s1,s2,s3⟩:=gd4 (q:=q) hn hl hl2 (b:=midB l k d H j) (gh0 ..)
  have hfl:(midB l k d H j).length=k:=gh0 ..
  have e2:=fun b nl b' nl' nr=>x97 (q:=q) (b:=b) (nl:=nl) (b':=b') (nl':=nl') (nr:=nr) (M:=psiL q l k) (y:=midB l k d H j) (N:=k) (by rw[hfl,mo2,hl]) od8 (by rw[mo2];omega) (by rw[mo2];omega) (by omega)
  simp only[s1,u.e]at e2
  have hS: ∀i,i<k→midC l k d H i j=wf (colS q l k (midB l k d H j)) i:=fun i hi=>rfl
  have e3:=fun T14 T16 ks=>qw9 (q:=q) (p:=p) (m:=m) (g:=g) (t:=t) (b:=b) (b':=b') (nl:=nl) (nl':=nl') (nr:=nr) (N:=N) (d:=d) (l:=l) (H:=H) (T14:=T14) (T16:=T16) (show k≤100 by omega) s2 (S:=midC l k d H) (j:=j) (cc:=j) (by omega) hS k 0 (by omega) ks
  simp only[Int.natCast_zero]at e3
  have ht:=u.n
  have ho:=u.o
  rw[Int.natCast_add,Int.natCast_one]at ih
  rw[←ih,sb5 c50L7.eq_def]
  generalize (psiL q l k).map vs=Ps at*
  generalize (grM (farC l k H) k (d-k) 0).map vs=G2 at*
  generalize (grM (midC l k d H) k (j+1) 0).map vs=G1 at*
  generalize (grM (midC l k d H) k j 0).map vs=G0 at*
  generalize colS q l k (midB l k d H j)=X at*
  generalize midB l k d H j=Y at*
  simp(disch:=first|omega|fail) only[push_cast,seval,vrl,if_pos,if_neg]
  rw[e1]
  simp(disch:=first|omega|fail) only[push_cast,seval,vrl,if_pos,if_neg,e2,ht,ho]
  rw[e3]
  simp(disch:=first|omega|fail) only[push_cast,seval,vrl,if_pos,if_neg]
theorem dh4(k:Nat): ∀i,i≤k→triS k i≤k*k
 |0,_=>Nat.zero_le _
 |i+1,h=>by
  have:=tt3 k (i+1) h
  have h2:(i+1)*k≤k*k:=Nat.mul_le_mul_right k h
  have h3:i+1≤(i+1)*(i+1):=Nat.le_mul_of_pos_left _ (by omega)
  omega
theorem vu7{T16:Tree}(hk:k≤100){i:Nat}(hi:i<k): ∀(c j:Nat),j+c=k→i≤j→ ∀ks,
 vgoL W ⟨h50,[.tmp 12, .tmp 13],0⟩ [1,2,3,4,5,6,16,23,33,34,35] c50L8 (.blk 18 [1,2,3,4,5,6,16,23,33,34]::ks) [(1, .x (.int .i64 N)),(2, .x (.int .i64 k)),(3, .x (.int .i64 d)),(4, .fz b (.sl nl 0 1 (ivs l))),(5, .fz b' (.sl nl' 0 1 (lvs nr (H.map vs)))),(6, .own 0 []),(16, .own 1 []),(23, .own 2 []),(33, .own 3 []),(34, .x (.int .i64 i)),(35, .x (.int .i64 j))] [.pt 31 [.v (.int .i64 q), .v (.int .i64 p), .v (.int .i64 m), .v (.int .i64 g), .fz t],T16, .sl 0 22 1 (lls 2 ((grM (midC l k d H) k k 0).map vs)), .sl 1 3 1 (ivs (vs (triG k (midC l k d H) i++ofF (j-i) fun t=>midC l k d H i (i+t))))]=
  vgo W ⟨h50,[.tmp 12, .tmp 13],0⟩ ks (VFr.of [(1, .x (.int .i64 N)),(2, .x (.int .i64 k)),(3, .x (.int .i64 d)),(4, .fz b (.sl nl 0 1 (ivs l))),(5, .fz b' (.sl nl' 0 1 (lvs nr (H.map vs)))),(6, .own 0 []),(16, .own 1 []),(23, .own 2 []),(33, .own 3 []),(34, .x (.int .i64 i))]) [.pt 31 [.v (.int .i64 q), .v (.int .i64 p), .v (.int .i64 m), .v (.int .i64 g), .fz t],T16, .sl 0 22 1 (lls 2 ((grM (midC l k d H) k k 0).map vs)), .sl 1 3 1 (ivs (vs (triG k (midC l k d H) (i+1))))]
 |0,j,hj,hij,ks=>by
  obtain rfl:j=k:=by omega
  rw[triG,sb5 c50L8.eq_def]
  simp(disch:=first|omega|fail) only[push_cast,seval,vrl,if_pos,if_neg]
 |c+1,j,hj,hij,ks=>by
  have ih:=vu7 (T16:=T16) hk hi c (j+1) (by omega) (by omega) ks
  have e1:=oc7 (midC l k d H) (k:=k) (c:=k) (i:=0) hi
  rw[if_neg (by omega)]at e1
  have e2:=mla (nl:=2) e1
  have hl1:(ofF k fun t=>midC l k d H i t).length=k:=gh0 ..
  have hl2:=ap5 (midC l k d H) k k 0
  have e3:=iva (l:=ofF k fun t=>midC l k d H i t) (i:=j) (by omega)
  rw[dv2 (by omega)]at e3
  have hts:=dh4 k i (by omega)
  have hkk:k*k≤100*100:=Nat.mul_le_mul hk hk
  have hl3:(triG k (midC l k d H) i++ofF (j-i) fun t=>midC l k d H i (i+t)).length≤20000:=by rw[List.length_append,mw6,gh0];omega
  have hx:vs (triG k (midC l k d H) i++ofF (j+1-i) fun t=>midC l k d H i (i+t))=vs (triG k (midC l k d H) i++ofF (j-i) fun t=>midC l k d H i (i+t))++[(midC l k d H i j).v]:=by
   rw[show j+1-i=(j-i)+1 by omega,xe7,←List.append_assoc,gq8,show i+(j-i)=j by omega];rfl
  rw[hx,Int.natCast_add,Int.natCast_one]at ih
  rw[←ih,sb5 c50L8.eq_def]
  generalize (triG k (midC l k d H) i++ofF (j-i) fun t=>midC l k d H i (i+t))=Y at*
  generalize grM (midC l k d H) k k 0=G0 at*
  generalize (ofF k fun t=>midC l k d H i t)=R0 at*
  simp(disch:=first|omega|fail) only[push_cast,seval,vrl,if_pos,if_neg,e2,e3,hl1,hl2,hl3]
theorem m80{T16:Tree}(hk:k≤100): ∀(c i:Nat),i+c=k→ ∀ks,
 vgoL W ⟨h50,[.tmp 12, .tmp 13],0⟩ [1,2,3,4,5,6,16,23,33,34] c50L9 (.blk 16 [1,2,3,4,5,6,16,33]::ks) [(1, .x (.int .i64 N)),(2, .x (.int .i64 k)),(3, .x (.int .i64 d)),(4, .fz b (.sl nl 0 1 (ivs l))),(5, .fz b' (.sl nl' 0 1 (lvs nr (H.map vs)))),(6, .own 0 []),(16, .own 1 []),(23, .own 2 []),(33, .own 3 []),(34, .x (.int .i64 i))] [.pt 31 [.v (.int .i64 q), .v (.int .i64 p), .v (.int .i64 m), .v (.int .i64 g), .fz t],T16, .sl 0 22 1 (lls 2 ((grM (midC l k d H) k k 0).map vs)), .sl 1 3 1 (ivs (vs (triG k (midC l k d H) i)))]=
  vgo W ⟨h50,[.tmp 12, .tmp 13],0⟩ ks (VFr.of [(1, .x (.int .i64 N)),(2, .x (.int .i64 k)),(3, .x (.int .i64 d)),(4, .fz b (.sl nl 0 1 (ivs l))),(5, .fz b' (.sl nl' 0 1 (lvs nr (H.map vs)))),(6, .own 0 []),(16, .own 1 []),(33, .own 3 [])]) [.pt 31 [.v (.int .i64 q), .v (.int .i64 p), .v (.int .i64 m), .v (.int .i64 g), .fz t],T16, .sl 0 22 1 (lls 2 ((grM (midC l k d H) k k 0).map vs)), .sl 1 3 1 (ivs (vs (triG k (midC l k d H) k)))]
 |0,i,hi,ks=>by
  obtain rfl:i=k:=by omega
  rw[sb5 c50L9.eq_def]
  simp(disch:=first|omega|fail) only[push_cast,seval,vrl,if_pos,if_neg]
 |c+1,i,hi,ks=>by
  have ih:=m80 (T16:=T16) hk c (i+1) (by omega) ks
  have e:=fun ks=>vu7 (q:=q) (p:=p) (m:=m) (g:=g) (t:=t) (b:=b) (b':=b') (nl:=nl) (nl':=nl') (nr:=nr) (N:=N) (d:=d) (l:=l) (H:=H) (T16:=T16) hk (show i<k by omega) (k-i) i (by omega) (Nat.le_refl i) ks
  simp only[Nat.sub_self,show(ofF 0 fun t=>midC l k d H i (i+t))=[]from rfl,List.append_nil]at e
  rw[Int.natCast_add,Int.natCast_one]at ih
  rw[←ih,sb5 c50L9.eq_def]
  generalize (grM (midC l k d H) k k 0).map vs=G0 at*
  generalize triG k (midC l k d H) (i+1)=Y1 at*
  generalize triG k (midC l k d H) i=Y0 at*
  simp(disch:=first|omega|fail) only[push_cast,seval,vrl,if_pos,if_neg]
  rw[e]
  simp(disch:=first|omega|fail) only[push_cast,seval,vrl,if_pos,if_neg]
theorem qg2(hk:k≤d)(hd:d≤100){A:List (El q)}(hA:A.length≤20000): ∀(c i:Nat),i+c=k→ ∀ks,
 vgoL W ⟨h50,[.tmp 12, .tmp 13],0⟩ [1,2,3,4,5,6,16,33,36] c50L10 (.blk 20 [1,2,3,4,5,6,33]::ks) [(1, .x (.int .i64 N)),(2, .x (.int .i64 k)),(3, .x (.int .i64 d)),(4, .fz b (.sl nl 0 1 (ivs l))),(5, .fz b' (.sl nl' 0 1 (lvs nr (H.map vs)))),(6, .own 0 []),(16, .own 1 []),(33, .own 2 []),(36, .x (.int .i64 i))] [.pt 31 [.v (.int .i64 q), .v (.int .i64 p), .v (.int .i64 m), .v (.int .i64 g), .fz t], .sl 0 22 1 (lls 2 ((grM (farC l k H) k (d-k) 0).map vs)), .sl 1 3 1 (ivs (vs (A++farG k (d-k) (fun i t=>farC l k H i (t-k)) i)))]=
  vgo W ⟨h50,[.tmp 12, .tmp 13],0⟩ ks (VFr.of [(1, .x (.int .i64 N)),(2, .x (.int .i64 k)),(3, .x (.int .i64 d)),(4, .fz b (.sl nl 0 1 (ivs l))),(5, .fz b' (.sl nl' 0 1 (lvs nr (H.map vs)))),(6, .own 0 []),(33, .own 2 [])]) [.pt 31 [.v (.int .i64 q), .v (.int .i64 p), .v (.int .i64 m), .v (.int .i64 g), .fz t], .sl 0 22 1 (lls 2 ((grM (farC l k H) k (d-k) 0).map vs)), .sl 1 3 1 (ivs (vs (A++farG k (d-k) (fun i t=>farC l k H i (t-k)) k)))]
 |0,i,hi,ks=>by
  obtain rfl:i=k:=by omega
  rw[sb5 c50L10.eq_def]
  simp(disch:=first|omega|fail) only[push_cast,seval,vrl,if_pos,if_neg]
 |c+1,i,hi,ks=>by
  have ih:=qg2 hk hd hA c (i+1) (by omega) ks
  have e1:=oc7 (farC l k H) (k:=k) (c:=d-k) (i:=0) (show i<k by omega)
  rw[if_neg (by omega)]at e1
  have e2:=mla (nl:=2) e1
  have hl1:(ofF (d-k) fun t=>farC l k H i t).length=d-k:=gh0 ..
  have hl2:=ap5 (farC l k H) k (d-k) 0
  have hmul:i*(d-k)≤100*100:=Nat.mul_le_mul (by omega) (by omega)
  have hl3:(A++farG k (d-k) (fun i t=>farC l k H i (t-k)) i).length≤40000:=by rw[List.length_append,yr2];omega
  have hx:A++farG k (d-k) (fun i t=>farC l k H i (t-k)) (i+1)=(A++farG k (d-k) (fun i t=>farC l k H i (t-k)) i)++ofF (d-k) fun t=>farC l k H i t:=by
   rw[farG,←List.append_assoc]
   congr 2
   funext t
   rw[Nat.add_sub_cancel_left]
  rw[hx,gq8,Int.natCast_add,Int.natCast_one]at ih
  rw[←ih,sb5 c50L10.eq_def]
  generalize (A++farG k (d-k) (fun i t=>farC l k H i (t-k)) i)=Y at*
  generalize grM (farC l k H) k (d-k) 0=G0 at*
  generalize (ofF (d-k) fun t=>farC l k H i t)=R0 at*
  simp(disch:=first|omega|fail) only[push_cast,seval,vrl,if_pos,if_neg,e2,hl1,hl2,hl3,Vm.tl5]
theorem xa0{F:List (El q)}{V:Nat}(hV:V<N):(allF F N k d)[V]? =some (rowA F N k d V):=by
 have hl:(allF F N k d).length=N:=by unfold allF em6;rw[List.length_map];exact u35 ..
 exact gu3 (by omega)
theorem li6{G:List (El q)}(hl:l.length=k)(hl2: ∀v∈l,0≤v∧v<N)(hHl:H.length=k)(hk:k≤100)(hr: ∀r∈H,r.length=d)(hd:d≤100)(hN:N≤100): ∀(c i:Nat),i+c=k→ ∀ks,
 vgoL W ⟨h50,[.tmp 12, .tmp 13],0⟩ [4,5,33,37,38] c50L11 (.blk 22 [33]::ks) [(4, .fz b (.sl nl 0 1 (ivs l))),(5, .fz b' (.sl nl' 0 1 (lvs nr (H.map vs)))),(33, .own 0 []),(37, .own 1 []),(38, .x (.int .i64 i))] [.sl 1 3 1 (ivs (vs G)), .sl 1 22 1 (lls 2 ((allF G N k d).map vs))]=
  if((l.map fun v=>rowA G N k d v.toNat).drop i)=H.drop i then vgo W ⟨h50,[.tmp 12, .tmp 13],0⟩ ks (VFr.of [(33, .own 0 [])]) [.sl 1 3 1 (ivs (vs G)), .sl 1 22 1 (lls 2 ((allF G N k d).map vs))]else some (.tup [.own 0 [], .x (.bool false)],[.sl 1 3 1 []],[])
 |0,i,hi,ks=>by
  obtain rfl:i=k:=by omega
  rw[oh9 (by rw[List.length_map];omega),oh9 (by omega),if_pos rfl,sb5 c50L11.eq_def]
  simp(disch:=first|omega|fail) only[push_cast,seval,vrl,if_pos,if_neg,hl]
 |c+1,i,hi,ks=>by
  have ih:=li6 (G:=G) hl hl2 hHl hk hr hd hN c (i+1) (by omega) ks
  obtain⟨v,hv⟩:=ge6 (l:=l) (i:=i) (by omega)
  obtain⟨h0,h1⟩:=hl2 v (List.mem_of_getElem? hv)
  obtain⟨V,rfl⟩: ∃V:Nat,v=V:=⟨v.toNat,by omega⟩
  obtain⟨r,hri⟩:=ge6 (l:=H) (i:=i) (by omega)
  have e0:=iat hv
  have e1:=mva (nl:=nr) hri
  have hal:=xa0 (F:=G) (k:=k) (d:=d) (show V<N by omega)
  have e2:=mla (nl:=2) hal
  have hal2:=(List.getElem?_eq_some_iff.1 hal).1
  have hm:(l.map fun v=>rowA G N k d v.toNat)[i]? =some (rowA G N k d V):=by rw[List.getElem?_map,hv];rfl
  have hrl:=xh8 (F:=G) (k:=k) (d:=d) (show V<N by omega)
  have e3:=fun b nl b' nl'=>nb2 (b:=b) (nl:=nl) (b':=b') (nl':=nl') (l:=vs (rowA G N k d V)) (k:=vs r) (by rw[fi2,hrl];omega)
  have hHl2:(H.map vs).length=k:=by rw[List.length_map,hHl]
  have hll:(allF G N k d).length=N:=by unfold allF em6;rw[List.length_map];exact u35 ..
  rw[i62 hm,i62 hri]
  rw[Int.natCast_add,Int.natCast_one]at ih
  generalize hRW:rowA G N k d V=RW at*
  by_cases h:RW=r
  ·have hiff:(RW::(l.map fun v=>rowA G N k d v.toNat).drop (i+1)=r::H.drop (i+1))=((l.map fun v=>rowA G N k d v.toNat).drop (i+1)=H.drop (i+1)):=by rw[h];simp
   simp only[hiff]
   have hd1:decide (vs RW=vs r)=true:=decide_eq_true (by rw[h])
   rw[hd1]at e3
   rw[←ih,sb5 c50L11.eq_def]
   generalize allF G N k d=AA at*
   simp(disch:=first|omega|fail) only[push_cast,seval,vrl,if_pos,if_neg,hl,hHl,hHl2,e0,e1,e2,e3,hll,Bool.not_true]
  ·rw[if_neg (by intro e;exact h (List.cons.inj e).1),sb5 c50L11.eq_def]
   have hd1:decide (vs RW=vs r)=false:=decide_eq_false (fun e=>h (qa5 e))
   rw[hd1]at e3
   generalize allF G N k d=AA at*
   simp(disch:=first|omega|fail) only[push_cast,seval,vrl,if_pos,if_neg,hl,hHl,hHl2,e0,e1,e2,e3,hll,Bool.not_false]
theorem f08:n04 l k d H=triG k (midC l k d H) k++farG k (d-k) (fun i t=>farC l k H i (t-k)) k:=by
 have h1: ∀n,n≤k→triG k (cS l k d H) n=triG k (midC l k d H) n:=by
  intro n
  induction n with
  |zero=>intro _;rfl
  |succ n ih=>
   intro hn
   rw[triG,triG,ih (by omega)]
   congr 1
   unfold ofF
   refine List.map_congr_left fun t ht=> ?_
   have:=List.mem_range.1 ht
   unfold cS midC
   rw[if_neg (by omega)]
 have h2: ∀n,n≤k→farG k (d-k) (cS l k d H) n=farG k (d-k) (fun i t=>farC l k H i (t-k)) n:=by
  intro n
  induction n with
  |zero=>intro _;rfl
  |succ n ih=>
   intro hn
   rw[farG,farG,ih (by omega)]
   congr 1
   unfold ofF
   refine List.map_congr_left fun t ht=> ?_
   unfold cS farC
   rw[if_pos (by omega),show k+(k+t-k)=k+t by omega]
 unfold n04 o37
 rw[h1 k (Nat.le_refl k),h2 k (Nat.le_refl k)]
open Classical in
theorem sm9(h:PlanOK q N k d)(hn:l.Nodup)(hl:l.length=k)(hl2: ∀v∈l,0≤v∧v<N)(hHl:H.length=k)(hr: ∀r∈H,r.length=d):
 o24 W 50 [.agg (rFs q), .x (.int .i64 N), .x (.int .i64 k), .x (.int .i64 d), .fz b (.sl nl 0 1 (ivs l)), .fz b' (.sl nl' 0 1 (lvs nr (H.map vs)))] []=
  if tg1 l N k d H then some (.tup [.own 0 [], .x (.bool true)],[.sl 1 3 1 (ivs (vs (n04 l k d H)))],[])else some (.tup [.own 0 [], .x (.bool false)],[.sl 1 3 1 []],[]):=by
 obtain⟨p,m,g,t,u⟩:=k75 q
 have h1:=h.n16
 have h2:=h.kd
 have h3:=h.dn
 have h4:=h.k1
 have h5:=h.nq
 have hlq: ∀v∈l,0≤v∧v<q:=fun v hv=>by have:=hl2 v hv;omega
 have e0:=fun ks=>at5 (b:=b) (b':=b') (nl:=nl) (nl':=nl') (nr:=nr) (N:=N) (d:=d) (H:=H) u (by omega) hlq (show k≤100 by omega) l.length 0 (by omega) ks
 simp only[Int.natCast_zero,List.take_zero,show(psiL q [] k).map vs=[]from rfl,x25]at e0
 have e1:=fun ks=>cs4 (b:=b) (b':=b') (nl:=nl) (nl':=nl') (nr:=nr) (N:=N) u hn hl hlq hHl h4 (by omega) hr (by omega) (d-k) k (by omega) (Nat.le_refl k) ks
 have hz1:(grM (farC l k H) k (k-k) 0).map vs=List.replicate k []:=by rw[Nat.sub_self,ai8,List.map_replicate];rfl
 have hz2:(grM (midC l k d H) k 0 0).map vs=List.replicate k []:=by rw[ai8,List.map_replicate];rfl
 have hz3:lls 2 (List.replicate k [])=List.replicate k (.sl 2 3 1 []):=by unfold lls;rw[List.map_replicate];rfl
 rw[hz1,hz3]at e1
 have e2:=fun ks=>l85 (b:=b) (b':=b') (nl:=nl) (nl':=nl') (nr:=nr) (N:=N) u hn hl hlq hHl h4 h2 hr (by omega) k 0 (by omega) ks
 rw[hz2,hz3]at e2
 have e3:=fun T16 ks=>m80 (q:=q) (p:=p) (m:=m) (g:=g) (t:=t) (b:=b) (b':=b') (nl:=nl) (nl':=nl') (nr:=nr) (N:=N) (d:=d) (l:=l) (H:=H) (T16:=T16) (show k≤100 by omega) k 0 (by omega) ks
 simp only[Int.natCast_zero,show triG k (midC l k d H) 0=[]from rfl,rp2,lz6]at e2 e3
 have hkk:k*k≤100*100:=Nat.mul_le_mul (by omega) (by omega)
 have hts:=dh4 k k (Nat.le_refl k)
 have e4:=fun ks=>qg2 (p:=p) (m:=m) (g:=g) (t:=t) (b:=b) (b':=b') (nl:=nl) (nl':=nl') (nr:=nr) (N:=N) (l:=l) (H:=H) h2 (show d≤100 by omega) (A:=triG k (midC l k d H) k) (by rw[mw6];omega) k 0 (by omega) ks
 simp only[Int.natCast_zero,show farG k (d-k) (fun i t=>farC l k H i (t-k)) 0=[]from rfl,List.append_nil]at e4
 rw[←f08]at e4
 have e5:=fun b nl=>ta9 (b:=b) (nl:=nl) h (F:=n04 l k d H) oo6
 rw[u.e]at e5
 have e6:=fun ks=>li6 (b:=b) (b':=b') (nl:=nl) (nl':=nl') (nr:=nr) (G:=n04 l k d H) hl hl2 hHl (by omega) hr (by omega) (by omega) k 0 (by omega) ks
 simp only[Int.natCast_zero,List.drop_zero]at e6
 have hiff:(l.map (fun v=>rowA (n04 l k d H) N k d v.toNat)=H)=tg1 l N k d H:=propext ⟨fun e=>e.symm,fun e=>e.symm⟩
 simp only[hiff]at e6
 have ht:=u.n
 have ho:=u.o
 have hrp:repT [Tree.sl 2 3 1 []] k=List.replicate k (.sl 2 3 1 []):=repN _ k
 generalize (psiL q l k).map vs=Ps at*
 generalize (grM (farC l k H) k (d-k) 0).map vs=G2 at*
 generalize (grM (midC l k d H) k k 0).map vs=G1 at*
 generalize triG k (midC l k d H) k=Y0 at*
 rw[o10 rfl T50 rfl,u.e]
 unfold F50 c50
 simp(disch:=first|omega|fail) only[push_cast,seval,vrl,if_pos,if_neg,ht]
 rw[e0]
 simp(disch:=first|omega|fail) only[push_cast,seval,vrl,if_pos,if_neg,hrp]
 rw[e1]
 simp(disch:=first|omega|fail) only[push_cast,seval,vrl,if_pos,if_neg,hrp]
 rw[e2]
 simp(disch:=first|omega|fail) only[push_cast,seval,vrl,if_pos,if_neg]
 rw[e3]
 simp(disch:=first|omega|fail) only[push_cast,seval,vrl,if_pos,if_neg]
 rw[e4]
 simp(disch:=first|omega|fail) only[push_cast,seval,vrl,if_pos,if_neg,e5,ht,ho]
 rw[e6]
 by_cases hok:tg1 l N k d H
 ·rw[if_pos hok,if_pos hok]
  simp(disch:=first|omega|fail) only[push_cast,seval,vrl,if_pos,if_neg]
 ·rw[if_neg hok,if_neg hok]
end
theorem z44(x:Int)(l:List Int):(l.any fun y=>decide (y=x))=l.any fun y=>decide (x=y):=by
 congr 1
 funext y
 rw[decide_eq_decide]
 exact eq_comm
theorem dr0{n:Int}: ∀(l seen:List Int),aq0 n seen l=0→(∀v∈l,0≤v∧v<n)∧l.Nodup∧ ∀v∈l,v∉seen
 | [],seen,_=>⟨fun v hv=>(by cases hv),List.nodup_nil,fun v hv=>(by cases hv)⟩
 |v::l,seen,h=>by
  rw[aq0]at h
  by_cases h1:v<0∨n≤v
  ·rw[if_pos h1]at h;cases h
  ·rw[if_neg h1]at h
   by_cases h2:seen.any (fun x=>decide (v=x))=true
   ·rw[if_pos h2]at h;cases h
   ·rw[if_neg h2]at h
    obtain⟨a1,a2,a3⟩:=dr0 l _ h
    have hs:v∉seen:=fun hm=>h2 (List.any_eq_true.2 ⟨v,hm,by simp⟩)
    refine⟨fun w hw=> ?_,List.nodup_cons.2 ⟨fun hm=>a3 v hm (by simp),a2⟩,fun w hw=> ?_⟩
    ·rcases List.mem_cons.1 hw with rfl|hw
     ·omega
     ·exact a1 w hw
    ·rcases List.mem_cons.1 hw with rfl|hw
     ·exact hs
     ·exact fun hm=>a3 w hw (List.mem_append_left _ hm)
def nodE(N k:Int)(l:List Int):Int:=if(l.length:Int)=k then aq0 N [] l else 6
def havE(q:Int)(d:Nat):List (List Int)→Int
 | []=>0
 |r::M=>if r.length=d then(if(r.any fun v=> !fok q v)=true then 2 else havE q d M)else 6
theorem b06{q:Int}{d:Nat}: ∀{M:List (List Int)},havE q d M=0→ ∃H:List (List (El q)),M=H.map vs∧ ∀r∈H,r.length=d
 | [],_=>⟨[],rfl,fun r hr=>(by cases hr)⟩
 |r::M,h=>by
  rw[havE]at h
  by_cases h1:r.length=d
  ·rw[if_pos h1]at h
   by_cases h2:(r.any fun v=> !fok q v)=true
   ·rw[if_pos h2]at h;cases h
   ·rw[if_neg h2]at h
    obtain⟨H,h3,h4⟩:=b06 h
    obtain⟨a,rfl⟩:=n39 (q:=q) (l:=r) fun z hz=>by
     refine Classical.byContradiction fun hb=>h2 (List.any_eq_true.2 ⟨z,hz, ?_⟩)
     rw[Bool.not_eq_true]at hb
     rw[hb];rfl
    refine⟨a::H,by rw[h3];rfl,fun x hx=> ?_⟩
    rcases List.mem_cons.1 hx with rfl|hx
    ·rw[fi2]at h1;exact h1
    ·exact h4 x hx
  ·rw[if_neg h1]at h;cases h
section
variable {q n:Int} {p m g:Int} {t:Tree} {b b' b2:Bool} {nl nl' nl2 nr e:Nat} {k d N:Nat} {l:List Int} {M:List (List Int)}
theorem rw4(hl:l.length≤1000): ∀(c i:Nat),i+c=l.length→ ∀ks,
 vgoL W ⟨hNo,[.tmp 6],0⟩ [0,1,7] c48L0 (.blk 0 []::ks) [(0, .fz b (.sl nl 0 1 (ivs l))),(1, .x (.int .i64 n)),(7, .x (.int .i64 i))] []=
  if aq0 n (l.take i) (l.drop i)=0 then vgo W ⟨hNo,[.tmp 6],0⟩ ks (VFr.of []) []else some (.x (.int .i64 (aq0 n (l.take i) (l.drop i))),[],[])
 |0,i,hi,ks=>by
  rw[List.drop_eq_nil_of_le (by omega),show aq0 n (l.take i) []=0 from rfl,if_pos rfl,sb5 c48L0.eq_def]
  simp(disch:=first|omega|fail) only[push_cast,seval,vrl,if_pos,if_neg]
 |c+1,i,hi,ks=>by
  have ih:=rw4 hl c (i+1) (by omega) ks
  obtain⟨v,hv⟩:=ge6 (l:=l) (i:=i) (by omega)
  have e0:=iat hv
  have htk:l.take (i+1)=l.take i++[v]:=by rw[List.take_add_one,hv];rfl
  have e1:=fun b nl=>cr7 (b:=b) (nl:=nl) (x:=v) (l:=l.take i) (by rw[List.length_take];omega)
  simp only[z44]at e1
  have gi:((i:Int)-0).toNat=i:=by omega
  rw[i62 hv,aq0]
  rw[htk,Int.natCast_add,Int.natCast_one]at ih
  rw[sb5 c48L0.eq_def]
  by_cases h1:v<0
  ·rw[if_pos (show v<0∨n≤v from .inl h1),if_neg (show¬(10:Int)=0 by decide)]
   simp(disch:=first|omega|fail) only[push_cast,seval,vrl,if_pos,if_neg,e0,dec_lt h1]
  ·by_cases h2:n≤v
   ·rw[if_pos (show v<0∨n≤v from .inr h2),if_neg (show¬(10:Int)=0 by decide)]
    simp(disch:=first|omega|fail) only[push_cast,seval,vrl,if_pos,if_neg,e0,cw6 (Int.not_lt.1 h1),nl4 h2]
   ·rw[if_neg (show¬(v<0∨n≤v) by omega)]
    cases h3:(l.take i).any (fun x=>decide (v=x))with
    |true=>
     rw[h3]at e1
     rw[if_pos (show true=true from rfl),if_neg (show¬(7:Int)=0 by decide)]
     simp(disch:=first|omega|fail) only[push_cast,seval,vrl,if_pos,if_neg,e0,cw6 (Int.not_lt.1 h1),qc6 (Int.not_le.1 h2),gi,e1]
    |false=>
     rw[h3]at e1
     rw[if_neg Bool.false_ne_true,←ih]
     simp(disch:=first|omega|fail) only[push_cast,seval,vrl,if_pos,if_neg,e0,cw6 (Int.not_lt.1 h1),qc6 (Int.not_le.1 h2),gi,e1]
theorem iu8{kk:Int}(hl:l.length≤9223372036854775807)(hkk:kk≤1000):o24 W 48 [.fz b (.sl nl 0 1 (ivs l)), .x (.int .i64 n), .x (.int .i64 kk)] []=some (.x (.int .i64 (nodE n kk l)),[],[]):=by
 unfold nodE
 rw[o10 rfl T48 rfl]
 unfold F48 c48
 by_cases h:(l.length:Int)=kk
 ·have e1:=fun ks=>rw4 (n:=n) (b:=b) (nl:=nl) (l:=l) (by omega) l.length 0 (by omega) ks
  simp only[Int.natCast_zero,List.take_zero,List.drop_zero]at e1
  rw[if_pos h]
  simp(disch:=first|omega|fail) only[push_cast,seval,vrl,if_pos,if_neg,h]
  rw[e1]
  by_cases hz:aq0 n [] l=0
  ·rw[if_pos hz,hz]
   simp(disch:=first|omega|fail) only[push_cast,seval,vrl,if_pos,if_neg]
  ·rw[if_neg hz]
 ·rw[if_neg h]
  simp(disch:=first|omega|fail) only[push_cast,seval,vrl,if_pos,if_neg,nb8 h]
theorem dx4{m:Nat} [IsFld q](hl:l.length≤9223372036854775807)(hm:m≤1000):
 o24 W 91 [.fz b (plT e q n k d), .fz b' (.sl nl 0 1 (ivs l)), .x (.int .i64 m)] []=some (.x (.int .i64 (if l.length=m then aq0 n [] l else 6)),[],[]):=by
 by_cases h:l.length=m
 ·exact y15 (by omega)
 ·have h': ¬(l.length:Int)=(m:Int):=by omega
  rw[if_neg h]
  unfold plT
  rw[o10 rfl T91 rfl]
  unfold F91 c91
  simp(disch:=first|omega|fail) only[push_cast,seval,vrl,if_pos,if_neg,nb8 h']
variable [IsFld q]
theorem z47(u:RFo q p m g t)(hM:M.length≤9223372036854775807)(hMl: ∀r∈M,r.length≤9223372036854775807): ∀(c i:Nat),i+c=M.length→ ∀ks,
 vgoL W ⟨hNo,[.tmp 8],0⟩ [2,3,4,9] c49L0 (.blk 0 []::ks) [(2, .fz b (.sl nl 0 1 (lvs nr M))),(3, .x (.int .i64 d)),(4, .own 0 []),(9, .x (.int .i64 i))] [.pt 31 [.v (.int .i64 q), .v (.int .i64 p), .v (.int .i64 m), .v (.int .i64 g), .fz t]]=
  if havE q d (M.drop i)=0 then vgo W ⟨hNo,[.tmp 8],0⟩ ks (VFr.of []) [.pt 31 [.v (.int .i64 q), .v (.int .i64 p), .v (.int .i64 m), .v (.int .i64 g), .fz t]]else some (.x (.int .i64 (havE q d (M.drop i))),[],[])
 |0,i,hi,ks=>by
  rw[List.drop_eq_nil_of_le (by omega),show havE q d []=0 from rfl,if_pos rfl,sb5 c49L0.eq_def]
  simp(disch:=first|omega|fail) only[push_cast,seval,vrl,if_pos,if_neg]
 |c+1,i,hi,ks=>by
  have ih:=z47 u hM hMl c (i+1) (by omega) ks
  obtain⟨r,hr⟩:=ge6 (l:=M) (i:=i) (by omega)
  have hrl:=hMl r (List.mem_of_getElem? hr)
  have e0:=lat (nl:=nr) hr
  have hiM:i<M.length:=by omega
  have e1:=fun b nl=>q18 (q:=q) (b:=b) (nl:=nl) (l:=r) hrl
  rw[u.e]at e1
  have ht:=u.n
  have ho:=u.o
  rw[i62 hr,havE]
  rw[Int.natCast_add,Int.natCast_one]at ih
  rw[sb5 c49L0.eq_def]
  by_cases h1:r.length=d
  ·rw[if_pos h1]
   cases h2:r.any (fun v=> !fok q v)with
   |true=>
    rw[h2]at e1
    rw[if_pos (show true=true from rfl),if_neg (show¬(2:Int)=0 by decide)]
    simp(disch:=first|omega|fail) only[push_cast,seval,vrl,if_pos,if_neg,e0,h1,hiM,e1,ht,ho,Bool.not_true,Bool.not_false]
   |false=>
    rw[h2]at e1
    rw[if_neg Bool.false_ne_true,←ih]
    simp(disch:=first|omega|fail) only[push_cast,seval,vrl,if_pos,if_neg,e0,h1,hiM,e1,ht,ho,Bool.not_true,Bool.not_false]
  ·have h1': ¬(r.length:Int)=(d:Int):=by omega
   rw[if_neg h1,if_neg (show¬(6:Int)=0 by decide)]
   simp(disch:=first|omega|fail) only[push_cast,seval,vrl,if_pos,if_neg,e0,hiM,nb8 h1']
theorem dt1(hM:M.length≤9223372036854775807)(hMl: ∀r∈M,r.length≤9223372036854775807)(hl:l.length≤9223372036854775807):
 o24 W 49 [.agg (rFs q), .fz b (.sl nl 0 1 (ivs l)), .fz b' (.sl nl' 0 1 (lvs nr M)), .x (.int .i64 d)] []=some (.x (.int .i64 (if M.length=l.length then havE q d M else 6)),[],[]):=by
 obtain⟨p,m,g,t,u⟩:=k75 q
 have e:=fun ks=>z47 (b:=b') (nl:=nl') (nr:=nr) (d:=d) u hM hMl M.length 0 (by omega) ks
 simp only[Int.natCast_zero,List.drop_zero]at e
 have ht:=u.n
 have ho:=u.o
 rw[o10 rfl T49 rfl,u.e]
 unfold F49 c49
 by_cases h:M.length=l.length
 ·rw[if_pos h]
  simp(disch:=first|omega|fail) only[push_cast,seval,vrl,if_pos,if_neg,ht,h]
  rw[e]
  by_cases hz:havE q d M=0
  ·rw[if_pos hz,hz]
   simp(disch:=first|omega|fail) only[push_cast,seval,vrl,if_pos,if_neg]
  ·rw[if_neg hz]
 ·have h': ¬(M.length:Int)=(l.length:Int):=by omega
  rw[if_neg h]
  simp(disch:=first|omega|fail) only[push_cast,seval,vrl,if_pos,if_neg,ht,nb8 h']
theorem xl1(hM:M.length≤9223372036854775807)(hMl: ∀r∈M,r.length≤9223372036854775807): ∀(c i:Nat),i+c=M.length→ ∀ks,
 vgoL W ⟨h51,[.tmp 6, .tmp 7],0⟩ [0,1,2,41,42,43] c51L0 (.blk 0 [0,1,2]::ks) [(0, .fz b (plT e q N k d)),(1, .fz b2 (.sl nl2 0 1 (ivs l))),(2, .fz b' (.sl nl 0 1 (lvs nr M))),(41, .fz b' (.sl nl 0 1 (lvs nr M))),(42, .x (.int .i64 M.length)),(43, .x (.int .i64 i))] []=
  if havE q d (M.drop i)=0 then vgo W ⟨h51,[.tmp 6, .tmp 7],0⟩ ks (VFr.of [(0, .fz b (plT e q N k d)),(1, .fz b2 (.sl nl2 0 1 (ivs l))),(2, .fz b' (.sl nl 0 1 (lvs nr M)))]) []else some (.tup [.x (.slice none 0 0), .x (.int .i64 (havE q d (M.drop i)))],[],[])
 |0,i,hi,ks=>by
  rw[List.drop_eq_nil_of_le (by omega),show havE q d []=0 from rfl,if_pos rfl]
  unfold plT
  rw[sb5 c51L0.eq_def]
  simp(disch:=first|omega|fail) only[push_cast,seval,vrl,if_pos,if_neg]
 |c+1,i,hi,ks=>by
  have ih:=xl1 hM hMl c (i+1) (by omega) ks
  obtain⟨r,hr⟩:=ge6 (l:=M) (i:=i) (by omega)
  have hrl:=hMl r (List.mem_of_getElem? hr)
  have e0:=lat (nl:=nr) hr
  have hiM:i<M.length:=by omega
  have e1:=fun b b' nl e=>lt7 (q:=q) (n:=(N:Int)) (k:=k) (d:=d) (b:=b) (b':=b') (nl:=nl) (e:=e) (l:=r) hrl
  rw[i62 hr,havE]
  rw[Int.natCast_add,Int.natCast_one]at ih
  rw[sb5 c51L0.eq_def]
  unfold plT at*
  by_cases h1:r.length=d
  ·rw[if_pos h1]
   cases h2:r.any (fun v=> !fok q v)with
   |true=>
    rw[h2]at e1
    rw[if_pos (show true=true from rfl),if_neg (show¬(2:Int)=0 by decide)]
    simp(disch:=first|omega|fail) only[push_cast,seval,vrl,if_pos,if_neg,e0,h1,hiM,e1,Bool.not_true,Bool.not_false]
   |false=>
    rw[h2]at e1
    rw[if_neg Bool.false_ne_true,←ih]
    simp(disch:=first|omega|fail) only[push_cast,seval,vrl,if_pos,if_neg,e0,h1,hiM,e1,Bool.not_true,Bool.not_false]
  ·have h1': ¬(r.length:Int)=(d:Int):=by omega
   rw[if_neg h1,if_neg (show¬(6:Int)=0 by decide)]
   simp(disch:=first|omega|fail) only[push_cast,seval,vrl,if_pos,if_neg,e0,hiM,nb8 h1']
def ie4(q:Int)(N k d:Nat)(l:List Int)(M:List (List Int)):Int:=if nodE N k l=0 then(if M.length=l.length then havE q d M else 6)else nodE N k l
theorem qj9(h:PlanOK q N k d)(hl:l.length≤9223372036854775807)(hM:M.length≤9223372036854775807)(hMl: ∀r∈M,r.length≤9223372036854775807)(hE:ie4 q N k d l M≠0):
 o24 W 51 [.fz b (plT e q N k d), .fz b2 (.sl nl2 0 1 (ivs l)), .fz b' (.sl nl 0 1 (lvs nr M))] []=some (.tup [.x (.slice none 0 0), .x (.int .i64 (ie4 q N k d l M))],[],[]):=by
 have e1:=fun b b' nl e=>dx4 (q:=q) (n:=(N:Int)) (k:=k) (d:=d) (b:=b) (b':=b') (nl:=nl) (e:=e) (l:=l) (m:=k) hl (by have:=h.n16;have:=h.kd;have:=h.dn;omega)
 have hnE:(if l.length=k then aq0 N [] l else 6)=nodE N k l:=by
  unfold nodE
  by_cases hk:l.length=k
  ·rw[if_pos hk,if_pos (by omega)]
  ·rw[if_neg hk,if_neg (by omega)]
 simp only[hnE]at e1
 have e2:=fun b b2 b' nl nl2 nr e ks=>xl1 (q:=q) (k:=k) (d:=d) (N:=N) (b:=b) (b':=b') (b2:=b2) (nl:=nl) (nl2:=nl2) (nr:=nr) (e:=e) (l:=l) hM hMl M.length 0 (by omega) ks
 simp only[Int.natCast_zero,List.drop_zero]at e2
 unfold ie4 at hE⊢
 unfold plT at*
 rw[o10 rfl T51 rfl]
 unfold F51 c51
 by_cases h1:nodE N k l=0
 ·rw[if_pos h1]at hE⊢
  by_cases h2:M.length=l.length
  ·rw[if_pos h2]at hE⊢
   have h2':(M.length:Int)=(l.length:Int):=by omega
   simp(disch:=first|omega|fail) only[push_cast,seval,vrl,if_pos,if_neg,e1,h1,h2]
   rw[←h2,e2,if_neg hE]
  ·have h2': ¬(M.length:Int)=(l.length:Int):=by omega
   rw[if_neg h2]
   simp(disch:=first|omega|fail) only[push_cast,seval,vrl,if_pos,if_neg,e1,h1,nb8 h2']
 ·rw[if_neg h1]
  simp(disch:=first|omega|fail) only[push_cast,seval,vrl,if_pos,if_neg,e1,nb8 h1]
end
section
variable {q:Int} [IsFld q] {b b' b2:Bool} {nl nl' nl2 nr e:Nat} {k d N:Nat} {l:List Int} {M:List (List Int)} {Hs:List (List (El q))}
theorem l55(h:PlanOK q N k d)(hn:l.Nodup)(hlk:l.length=k)(hl: ∀v∈l,0≤v∧v<N)(hs:aq0 N [] l=0)(hHl:Hs.length=k)(hr: ∀r∈Hs,r.length=d)(hX:solR (h61 k d) (rdM q k d l) Hs.flatten=none):
 o24 W 51 [.fz b (plT e q N k d), .fz b2 (.sl nl2 0 1 (ivs l)), .fz b' (.sl nl 0 1 (lvs nr (Hs.map vs)))] []=some (.tup [.x (.slice none 0 0), .x (.int .i64 9)],[],[]):=by
 have h1:=h.n16
 have h2:=h.kd
 have h3:=h.dn
 have hsz:=size_le h
 have e1:=fun b b' nl e=>y15 (q:=q) (n:=(N:Int)) (k:=k) (d:=d) (b:=b) (b':=b') (nl:=nl) (e:=e) (l:=l) (m:=k) (by omega)
 simp only[if_pos hlk,hs]at e1
 have e2:=fun b b2 b' nl nl2 nr e ks=>v75 (q:=q) (k:=k) (d:=d) (N:=N) (b:=b) (b':=b') (b2:=b2) (nl:=nl) (nl2:=nl2) (nr:=nr) (e:=e) (l:=l) (Hs:=Hs) (by omega) hr (by omega) Hs.length 0 (by omega) ks
 have e3:=fun b b2 b' nl nl2 nr e ks=>ya9 (b:=b) (b':=b') (b2:=b2) (nl:=nl) (nl2:=nl2) (nr:=nr) (e:=e) h (l:=l) (Hs:=Hs) (by omega) (by omega) hr hl l.length 0 (by omega) ks
 simp only[Int.natCast_zero,List.take_zero,List.map_nil,x25,show(rdM q k d [])=[]from rfl,show vs ([]:List (List (El q))).flatten=[]from rfl,show ivs []=[]from rfl]at e2 e3
 have e4:=fun b e=>bm8 (b:=b) (e:=e) h
 have hlen:Hs.flatten.length=(rdM q k d l).length:=by rw[nf0 hr,dn4,hHl,hlk]
 have hb:l.length*d≤16*16:=Nat.mul_le_mul (by omega) (by omega)
 have hML:=dn4 (q:=q) (k:=k) (d:=d) l
 obtain⟨Y,ok,T1,T2,y1,e5⟩:=u53 (b:=true) (nm:=1) (nb:=1) (n:=h61 k d) (M0:=rdM q k d l) (B0:=Hs.flatten) kp3 hlen (by omega) (by omega) (b25 h hn hlk hl)
 obtain rfl:ok=false:=by
  cases ok with
  |true=>rw[if_pos rfl,hX]at y1;cases y1
  |false=>rfl
 have hHl2:(Hs.map vs).length=Hs.length:=List.length_map ..
 unfold plT at*
 generalize h61 k d=S at*
 generalize (rdM q k d l).map vs=Ps at*
 generalize vs Hs.flatten=Fs at*
 rw[o10 rfl T51 rfl]
 unfold F51 c51
 simp(disch:=first|omega|fail) only[push_cast,seval,vrl,if_pos,if_neg,e1,hlk,hHl,hHl2]
 rw[hHl]at e2
 rw[hlk]at e3
 rw[e2]
 simp(disch:=first|omega|fail) only[push_cast,seval,vrl,if_pos,if_neg,hlk]
 rw[e3]
 simp(disch:=first|omega|fail) only[push_cast,seval,vrl,if_pos,if_neg,e4,e5,Bool.not_true,Bool.not_false]
theorem n37(h:ie4 q N k d l M=0):l.length=k∧(∀v∈l,0≤v∧v<(N:Int))∧l.Nodup∧aq0 N [] l=0∧M.length=l.length∧ ∃H:List (List (El q)),M=H.map vs∧ ∀r∈H,r.length=d:=by
 unfold ie4 at h
 by_cases h1:nodE N k l=0
 ·rw[if_pos h1]at h
  by_cases h2:M.length=l.length
  ·rw[if_pos h2]at h
   unfold nodE at h1
   by_cases h3:(l.length:Int)=(k:Int)
   ·rw[if_pos h3]at h1
    obtain⟨a1,a2,_⟩:=dr0 l [] h1
    exact⟨by omega,a1,a2,h1,h2,b06 h⟩
   ·rw[if_neg h3]at h1;cases h1
  ·rw[if_neg h2]at h;cases h
 ·rw[if_neg h1]at h;exact absurd h h1
theorem wh1(h:PlanOK q N k d)(hl:l.length≤9223372036854775807)(hM:M.length≤9223372036854775807)(hMl: ∀r∈M,r.length≤9223372036854775807):
 o24 W 16 [.fz b (plT e q N k d), .agg (rFs q), .x (.int .i64 N), .x (.int .i64 k), .x (.int .i64 d), .fz b' (.sl nl 0 1 (ivs l)), .fz b2 (.sl nl2 0 1 (lvs nr M))] []=some (.x (.bool true),[],[]):=by
 have e1:=fun b nl=>iu8 (n:=(N:Int)) (b:=b) (nl:=nl) (kk:=(k:Int)) hl (by have:=h.n16;have:=h.kd;have:=h.dn;omega)
 have e2:=fun b nl b' nl' nr=>dt1 (q:=q) (b:=b) (nl:=nl) (b':=b') (nl':=nl') (nr:=nr) (d:=d) (l:=l) hM hMl hl
 obtain⟨p,m,g,t,u⟩:=k75 q
 have ht:=u.n
 have ho:=u.o
 by_cases hE:ie4 q N k d l M=0
 ·obtain⟨a1,a2,a3,a4,a5,H,rfl,a6⟩:=n37 hE
  have hHl:H.length=k:=by rw[List.length_map]at a5;omega
  have hHm:(H.map vs).length=l.length:=a5
  have hn0:nodE N k l=0:=by unfold nodE;rw[if_pos (by omega),a4]
  have hh0:havE q d (H.map vs)=0:=by unfold ie4 at hE;rw[if_pos hn0,if_pos a5]at hE;exact hE
  simp only[hn0]at e1
  simp only[if_pos hHm,hh0,u.e]at e2
  have e3:=fun b nl b' nl' nr=>sm9 (b:=b) (nl:=nl) (b':=b') (nl':=nl') (nr:=nr) h a3 a1 a2 hHl a6
  simp only[u.e]at e3
  rw[o10 rfl T16 rfl,u.e]
  unfold F16 c16
  by_cases hok:tg1 l N k d H
  ·simp only[if_pos hok]at e3
   have hsz:=size_le h
   have hGl:=oo6 (l:=l) (k:=k) (d:=d) (H:=H)
   have e4:=fun b b2 b' nl nl2 nr e=>x38 (q:=q) (b:=b) (b2:=b2) (b':=b') (nl:=nl) (nl2:=nl2) (nr:=nr) (e:=e) h a3 a1 a2 a4 hHl a6 (jf8 h a3 a1 a2 hok)
   have e5:=fun b nl b' nl'=>ea2 (b:=b) (nl:=nl) (b':=b') (nl':=nl') (l:=vs (n04 l k d H)) (k:=vs (n04 l k d H)) (e:=0) (f:=0) (by rw[fi2];omega)
   rw[if_pos rfl,decide_eq_true (rfl:(0:Int)=0),decide_eq_true (rfl:vs (n04 l k d H)=vs (n04 l k d H)),Bool.and_true]at e5
   unfold plT at*
   generalize vs (n04 l k d H)=G at*
   simp(disch:=first|omega|fail) only[push_cast,seval,vrl,if_pos,if_neg,ht,ho,e1,e2,e3,e4,e5,Bool.not_true,Bool.not_false]
  ·simp only[if_neg hok]at e3
   have e4:=fun b b2 b' nl nl2 nr e=>l55 (q:=q) (b:=b) (b2:=b2) (b':=b') (nl:=nl) (nl2:=nl2) (nr:=nr) (e:=e) h a3 a1 a2 a4 hHl a6 (k65 h a3 a1 a2 hHl a6 hok)
   have e5:=fun b nl b' nl'=>ea2 (b:=b) (nl:=nl) (b':=b') (nl':=nl') (l:=[]) (k:=[]) (e:=9) (f:=9) (by simp)
   rw[if_neg (by decide),decide_eq_true (rfl:(9:Int)=9),decide_eq_true (show([]:List Int).length=0 from rfl),Bool.and_true]at e5
   simp only[lz6]at e5
   unfold plT at*
   simp(disch:=first|omega|fail) only[push_cast,seval,vrl,if_pos,if_neg,ht,ho,e1,e2,e3,e4,e5,Bool.not_true,Bool.not_false]
 ·have e4:=fun b b2 b' nl nl2 nr e=>qj9 (q:=q) (b:=b) (b2:=b2) (b':=b') (nl:=nl) (nl2:=nl2) (nr:=nr) (e:=e) h hl hM hMl hE
  have e5:=fun b nl b' nl'=>ea2 (b:=b) (nl:=nl) (b':=b') (nl':=nl') (l:=[]) (k:=[]) (e:=ie4 q N k d l M) (f:=ie4 q N k d l M) (by simp)
  rw[if_neg hE,decide_eq_true (rfl:ie4 q N k d l M=ie4 q N k d l M),decide_eq_true (show([]:List Int).length=0 from rfl),Bool.and_true]at e5
  simp only[lz6]at e5
  have hE':=hE
  unfold ie4 at hE' e4 e5
  simp only[u.e]at e2
  unfold plT at*
  rw[o10 rfl T16 rfl,u.e]
  unfold F16 c16
  by_cases h1:nodE N k l=0
  ·simp only[if_pos h1]at hE' e4 e5
   simp only[h1]at e1
   simp(disch:=first|omega|fail) only[push_cast,seval,vrl,if_pos,if_neg,ht,ho,e1,e2,nb8 hE',e4,e5]
  ·simp only[if_neg h1]at e4 e5
   simp(disch:=first|omega|fail) only[push_cast,seval,vrl,if_pos,if_neg,ht,ho,e1,nb8 h1,e4,e5]
end
section
variable {q:Int} [IsFld q] {b b' b2:Bool} {nl nl' nl2 nr e:Nat} {k d N:Nat} {l hs one:List Int}
def io1(q:Int)(N d:Nat)(one:List Int)(lost:Int):Int:=if one.length=d then(if(one.any fun v=> !fok q v)=true then 2 else if lost<0∨(N:Int)≤lost then 10 else 0)else 6
theorem v19{lost:Int}(ho:one.length≤9223372036854775807)(hE:io1 q N d one lost≠0):
 o24 W 53 [.fz b (plT e q N k d), .fz b' (.sl nl 0 1 (ivs one)), .x (.int .i64 lost)] []=some (.tup [.x (.int .i64 0), .x (.int .i64 (io1 q N d one lost))],[],[]):=by
 have e1:=fun b b' nl e=>lt7 (q:=q) (n:=(N:Int)) (k:=k) (d:=d) (b:=b) (b':=b') (nl:=nl) (e:=e) (l:=one) ho
 unfold io1 at hE⊢
 unfold plT at*
 rw[o10 rfl T53 rfl]
 unfold F53 c53
 by_cases h1:one.length=d
 ·rw[if_pos h1]at hE⊢
  cases h2:one.any (fun v=> !fok q v)with
  |true=>
   rw[h2]at e1
   rw[if_pos (show true=true from rfl)]
   simp(disch:=first|omega|fail) only[push_cast,seval,vrl,if_pos,if_neg,h1,e1,Bool.not_true,Bool.not_false]
  |false=>
   rw[h2]at e1 hE
   rw[if_neg Bool.false_ne_true]at hE⊢
   by_cases h3:lost<0
   ·rw[if_pos (show lost<0∨(N:Int)≤lost from .inl h3)]
    simp(disch:=first|omega|fail) only[push_cast,seval,vrl,if_pos,if_neg,h1,e1,Bool.not_true,Bool.not_false,dec_lt h3]
   ·by_cases h4:(N:Int)≤lost
    ·rw[if_pos (show lost<0∨(N:Int)≤lost from .inr h4)]
     simp(disch:=first|omega|fail) only[push_cast,seval,vrl,if_pos,if_neg,h1,e1,Bool.not_true,Bool.not_false,cw6 (Int.not_lt.1 h3),nl4 h4]
    ·rw[if_neg (show¬(lost<0∨(N:Int)≤lost) by omega)]at hE
     exact absurd rfl hE
 ·have h1': ¬(one.length:Int)=(d:Int):=by omega
  rw[if_neg h1]
  simp(disch:=first|omega|fail) only[push_cast,seval,vrl,if_pos,if_neg,nb8 h1']
def gx7(q:Int)(N d:Nat)(lost:Int)(l hs:List Int):Int:=if lost<0∨(N:Int)≤lost then 10 else if nodE N d l=0 then(if(l.any fun y=>decide (lost=y))=true then 7 else if hs.length=d then(if(hs.any fun v=> !fok q v)=true then 2 else 0)else 6)else nodE N d l
theorem it7{n kk:Int}(h:nodE n kk l=0):(l.length:Int)=kk∧aq0 n [] l=0:=by
 unfold nodE at h
 by_cases h1:(l.length:Int)=kk
 ·rw[if_pos h1]at h;exact⟨h1,h⟩
 ·rw[if_neg h1]at h;cases h
theorem g30{lost:Int}(hd:d≤1000)(hl:l.length≤9223372036854775807)(hh:hs.length≤9223372036854775807)(hE:gx7 q N d lost l hs≠0):
 o24 W 57 [.fz b (plT e q N k d), .x (.int .i64 lost), .fz b' (.sl nl 0 1 (ivs l)), .fz b2 (.sl nl2 0 1 (ivs hs))] []=some (.tup [.x (.slice none 0 0), .x (.int .i64 (gx7 q N d lost l hs))],[],[]):=by
 have e1:=fun b b' nl e=>dx4 (q:=q) (n:=(N:Int)) (k:=k) (d:=d) (b:=b) (b':=b') (nl:=nl) (e:=e) (l:=l) (m:=d) hl hd
 have hnE:(if l.length=d then aq0 N [] l else 6)=nodE N d l:=by
  unfold nodE
  by_cases hk:l.length=d
  ·rw[if_pos hk,if_pos (by omega)]
  ·rw[if_neg hk,if_neg (by omega)]
 simp only[hnE]at e1
 have e2:=fun bl nl=>o94 (b:=bl) (nl:=nl) (x:=lost) (l:=l) (by omega)
 have e3:=fun b b' nl e=>lt7 (q:=q) (n:=(N:Int)) (k:=k) (d:=d) (b:=b) (b':=b') (nl:=nl) (e:=e) (l:=hs) hh
 unfold gx7 at hE⊢
 unfold plT at*
 rw[o10 rfl T57 rfl]
 unfold F57 c57
 by_cases h3:lost<0
 ·rw[if_pos (show lost<0∨(N:Int)≤lost from .inl h3)]
  simp(disch:=first|omega|fail) only[push_cast,seval,vrl,if_pos,if_neg,dec_lt h3]
 by_cases h4:(N:Int)≤lost
 ·rw[if_pos (show lost<0∨(N:Int)≤lost from .inr h4)]
  simp(disch:=first|omega|fail) only[push_cast,seval,vrl,if_pos,if_neg,cw6 (Int.not_lt.1 h3),nl4 h4]
 rw[if_neg (show¬(lost<0∨(N:Int)≤lost) by omega)]at hE⊢
 by_cases h5:nodE N d l=0
 ·rw[if_pos h5]at hE⊢
  obtain⟨hld,_⟩:=it7 h5
  rw[h5]at e1
  cases h6:l.any (fun y=>decide (lost=y))with
  |true=>
   rw[h6]at e2
   rw[if_pos (show true=true from rfl)]
   simp(disch:=first|omega|fail) only[push_cast,seval,vrl,if_pos,if_neg,cw6 (Int.not_lt.1 h3),qc6 (Int.not_le.1 h4),e1,e2]
  |false=>
   rw[h6]at e2 hE
   rw[if_neg Bool.false_ne_true]at hE⊢
   by_cases h7:hs.length=d
   ·rw[if_pos h7]at hE⊢
    have h7':(hs.length:Int)=(l.length:Int):=by omega
    cases h8:hs.any (fun v=> !fok q v)with
    |true=>
     rw[h8]at e3
     rw[if_pos (show true=true from rfl)]
     simp(disch:=first|omega|fail) only[push_cast,seval,vrl,if_pos,if_neg,cw6 (Int.not_lt.1 h3),qc6 (Int.not_le.1 h4),e1,e2,mr8 h7',e3,Bool.not_true,Bool.not_false]
    |false=>
     rw[h8,if_neg Bool.false_ne_true]at hE
     exact absurd rfl hE
   ·have h7': ¬(hs.length:Int)=(l.length:Int):=by omega
    rw[if_neg h7]
    simp(disch:=first|omega|fail) only[push_cast,seval,vrl,if_pos,if_neg,cw6 (Int.not_lt.1 h3),qc6 (Int.not_le.1 h4),e1,e2,nb8 h7']
 ·rw[if_neg h5]
  simp(disch:=first|omega|fail) only[push_cast,seval,vrl,if_pos,if_neg,cw6 (Int.not_lt.1 h3),qc6 (Int.not_le.1 h4),e1,nb8 h5]
theorem bu8{p m g:Int}{t:Tree}(u:RFo q p m g t)(hl:l.length=d)(hd:d≤100)(hl2: ∀v∈l,0≤v∧v<q){lost:Int}: ∀(c i:Nat),i+c=d→ ∀ks,
 vgoL W ⟨h17,[.tmp 16],0⟩ [0,3,4,6,7,9,18,23,24] c17L0 (.blk 1 [0,4,6,7,9,18,23]::ks) [(0, .fz b (plT e q N k d)),(3, .x (.int .i64 d)),(4, .fz b' (.sl nl 0 1 (ivs l))),(6, .x (.int .i64 lost)),(7, .fz b2 (.sl nl2 0 1 (ivs hs))),(9, .own 0 []),(18, .x (.int .i64 0)),(23, .own 1 []),(24, .x (.int .i64 i))] [.pt 31 [.v (.int .i64 q), .v (.int .i64 p), .v (.int .i64 m), .v (.int .i64 g), .fz t], .sl 1 22 1 (lls 2 ((psiL q (l.take i) d).map vs))]=
  vgo W ⟨h17,[.tmp 16],0⟩ ks (VFr.of [(0, .fz b (plT e q N k d)),(4, .fz b' (.sl nl 0 1 (ivs l))),(6, .x (.int .i64 lost)),(7, .fz b2 (.sl nl2 0 1 (ivs hs))),(9, .own 0 []),(18, .x (.int .i64 0)),(23, .own 1 [])]) [.pt 31 [.v (.int .i64 q), .v (.int .i64 p), .v (.int .i64 m), .v (.int .i64 g), .fz t], .sl 1 22 1 (lls 2 ((psiL q l d).map vs))]
 |0,i,hi,ks=>by
  obtain rfl:i=d:=by omega
  rw[List.take_of_length_le (by omega)]
  unfold plT
  rw[sb5 c17L0.eq_def]
  simp(disch:=first|omega|fail) only[push_cast,seval,vrl,if_pos,if_neg]
 |c+1,i,hi,ks=>by
  have ih:=bu8 u hl hd hl2 (lost:=lost) c (i+1) (by omega) ks
  obtain⟨v,hv⟩:=ge6 (l:=l) (i:=i) (by omega)
  have hvv:=ol8 (q:=q) (a:=v) (hl2 v (List.mem_of_getElem? hv))
  have e0:=iat hv
  have e1:=iy8 (q:=q) (x:=ndE q v) (n:=d) (by omega)
  rw[hvv,u.e]at e1
  have ht:=u.n
  have ho:=u.o
  have hll:((psiL q (l.take i) d).map vs).length≤100:=by unfold psiL;rw[List.length_map,List.length_map,List.length_take];omega
  have hsn:=ng3 2 ((psiL q (l.take i) d).map vs) (vs (pwL (ndE q v) d))
  have hss:(psiL q (l.take (i+1)) d).map vs=(psiL q (l.take i) d).map vs++[vs (pwL (ndE q v) d)]:=by unfold psiL;rw[List.take_add_one,hv,List.map_append,List.map_append];rfl
  rw[hss,Int.natCast_add,Int.natCast_one]at ih
  rw[←ih]
  unfold plT
  rw[sb5 c17L0.eq_def]
  generalize (psiL q (l.take i) d).map vs=Z at*
  generalize vs (pwL (ndE q v) d)=Y at*
  simp(disch:=first|omega|fail) only[push_cast,seval,vrl,if_pos,if_neg,e0,e1,ht,ho,hsn,hl]
end
section
variable {q:Int} [IsFld q] {p m g:Int} {t:Tree} {b b' b2 b3:Bool} {nl nl' nl2 nl3 nr e:Nat} {k d N:Nat} {l hs one:List Int} {lost:Int}
theorem zw7{y:List Int}(h:(y.any fun v=> !fok q v)=false): ∃a:List (El q),y=vs a:=n39 fun z hz=>by
 have:=List.any_eq_false.1 h z hz
 simpa using this
theorem r74(h:gx7 q N d lost l hs=0):0≤lost∧lost<N∧nodE N d l=0∧(l.any fun y=>decide (lost=y))=false∧hs.length=d∧(hs.any fun v=> !fok q v)=false:=by
 unfold gx7 at h
 by_cases h3:lost<0∨(N:Int)≤lost
 ·rw[if_pos h3]at h;cases h
 ·rw[if_neg h3]at h
  by_cases h5:nodE N d l=0
  ·rw[if_pos h5]at h
   cases h6:l.any (fun y=>decide (lost=y))with
   |true=>rw[h6,if_pos rfl]at h;cases h
   |false=>
    rw[h6,if_neg Bool.false_ne_true]at h
    by_cases h7:hs.length=d
    ·rw[if_pos h7]at h
     cases h8:hs.any (fun v=> !fok q v)with
     |true=>rw[h8,if_pos rfl]at h;cases h
     |false=>exact⟨by omega,by omega,h5,rfl,h7,rfl⟩
    ·rw[if_neg h7]at h;cases h
  ·rw[if_neg h5]at h;exact absurd h h5
theorem cc7(h:io1 q N d one lost=0):one.length=d∧(one.any fun v=> !fok q v)=false∧0≤lost∧lost<N:=by
 unfold io1 at h
 by_cases h1:one.length=d
 ·rw[if_pos h1]at h
  cases h2:one.any (fun v=> !fok q v)with
  |true=>rw[h2,if_pos rfl]at h;cases h
  |false=>
   rw[h2,if_neg Bool.false_ne_true]at h
   by_cases h3:lost<0∨(N:Int)≤lost
   ·rw[if_pos h3]at h;cases h
   ·exact⟨h1,rfl,by omega,by omega⟩
 ·rw[if_neg h1]at h;cases h
theorem t58{A:List (El q)}(hA:A.length=d){x:El q}:(sumN A.length fun j=>wf A j*wf (pwL x d) j)=hl6 A x d:=by
 unfold hl6
 rw[hA]
 exact rc1 fun j hj=>by unfold pwL;rw[dv2 hj]
theorem g61(u:RFo q p m g t)(h:PlanOK q N k d)(hl:l.length≤9223372036854775807)(ho1:one.length≤9223372036854775807)(hE:gx7 q N d lost l hs=0):
 vgo W ⟨h17,[.tmp 16],0⟩ [.code (seqR 5 c17)] (VFr.of [(0, .fz b (plT e q N k d)),(2, .x (.int .i64 N)),(3, .x (.int .i64 d)),(4, .fz b' (.sl nl 0 1 (ivs l))),(6, .x (.int .i64 lost)),(7, .fz b2 (.sl nl2 0 1 (ivs hs))),(9, .own 0 []),(17, .fz b3 (.sl nl3 0 1 (ivs one))),(18, .x (.int .i64 (io1 q N d one lost)))]) [.pt 31 [.v (.int .i64 q), .v (.int .i64 p), .v (.int .i64 m), .v (.int .i64 g), .fz t]]=some (.x (.bool true),[],[]):=by
 obtain⟨l0,l1,l2,l3,l4,l5⟩:=r74 hE
 obtain⟨hs',rfl⟩:=zw7 l5
 have hHl:hs'.length=d:=by rw[fi2]at l4;exact l4
 have h1:=h.n16
 have h2:=h.kd
 have h3:=h.dn
 have h4:=h.nq
 have h5:=h.k1
 obtain⟨hld,hse⟩:=it7 l2
 have hld':l.length=d:=by omega
 obtain⟨hlr,hln,_⟩:=dr0 l [] hse
 have hlq: ∀v∈l,0≤v∧v<q:=fun v hv=>by have:=hlr v hv;omega
 obtain⟨s1,s2,s3⟩:=gd4 (q:=q) hln hld' hlq (b:=hs') hHl
 have c1:=cw6 (Int.not_lt.1 (show¬lost<0 by omega))
 have c2:=qc6 (Int.not_le.1 (show¬(N:Int)≤lost by omega))
 have e1:=fun b nl=>iu8 (n:=(N:Int)) (b:=b) (nl:=nl) (kk:=(d:Int)) hl (by omega)
 simp only[l2]at e1
 have e2:=fun b nl=>cr7 (b:=b) (nl:=nl) (x:=lost) (l:=l) (by omega)
 simp only[z44,l3]at e2
 have e3:=fun b nl=>q18 (q:=q) (b:=b) (nl:=nl) (l:=vs hs') (by rw[fi2];omega)
 simp only[l5,u.e]at e3
 have e4:=fun b b' b2 nl nl2 e ks=>bu8 (b:=b) (b':=b') (b2:=b2) (nl:=nl) (nl2:=nl2) (e:=e) (k:=k) (N:=N) (hs:=vs hs') u hld' (by omega) hlq (lost:=lost) d 0 (by omega) ks
 simp only[Int.natCast_zero,List.take_zero,show(psiL q [] d).map vs=[]from rfl,x25]at e4
 have e5:=fun b nl b' nl' nr=>x97 (q:=q) (b:=b) (nl:=nl) (b':=b') (nl':=nl') (nr:=nr) (M:=psiL q l d) (y:=hs') (N:=d) (by rw[hHl,mo2,hld']) od8 (by rw[mo2];omega) (by rw[mo2];omega) (by omega)
 simp only[s1,u.e]at e5
 have e6:=fun b b' b2 nl nl2 e=>u14 (q:=q) (b:=b) (b':=b') (b2:=b2) (nl:=nl) (nl2:=nl2) (e:=e) h hld' hlr hse l0 l1 l3 hHl s1
 have e7:=fun b nl b' nl'=>ea2 (b:=b) (nl:=nl) (b':=b') (nl':=nl') (l:=vs (colS q l d hs')) (k:=vs (colS q l d hs')) (e:=0) (f:=0) (by rw[fi2];omega)
 rw[if_pos rfl,decide_eq_true (rfl:(0:Int)=0),decide_eq_true (rfl:vs (colS q l d hs')=vs (colS q l d hs')),Bool.and_true]at e7
 have e8:= @ib6
 have ht:=u.n
 have ho:=u.o
 have hHl2:(vs hs').length=d:=by rw[fi2,hHl]
 by_cases hz:io1 q N d one lost=0
 ·obtain⟨a1,a2,a3,a4⟩:=cc7 hz
  obtain⟨A,rfl⟩:=zw7 a2
  have hAl:A.length=d:=by rw[fi2]at a1;exact a1
  have hv:=ol8 (q:=q) (a:=lost) (by omega)
  have f1:=iy8 (q:=q) (x:=ndE q lost) (n:=d) (by omega)
  rw[hv,u.e]at f1
  have f2:=fun b nl b' nl'=>af6 (q:=q) (b:=b) (nl:=nl) (b':=b') (nl':=nl') (x:=A) (o:=pwL (ndE q lost) d) (by rw[hAl];exact gh0 ..) (by omega)
  simp only[t58 hAl,u.e]at f2
  have f3:=fun b b' nl e=>sl9 (b:=b) (b':=b') (nl:=nl) (e:=e) h hAl a3 a4
  have f4:=ib6 (l:=(hl6 A (ndE q lost) d).v) (k:=(hl6 A (ndE q lost) d).v) (e:=0) (f:=0)
  rw[if_pos rfl,decide_eq_true (rfl:(0:Int)=0),decide_eq_true (rfl:(hl6 A (ndE q lost) d).v=(hl6 A (ndE q lost) d).v),Bool.and_true]at f4
  rw[hz]
  unfold plT at*
  unfold c17
  simp only[seqR]
  generalize hl6 A (ndE q lost) d=HF at*
  generalize vs (pwL (ndE q lost) d)=PW at*
  generalize vs (colS q l d hs')=CS at*
  generalize (psiL q l d).map vs=Ps at*
  clear s3 hlq hlr hse hln
  simp(disch:=first|omega|fail) only[push_cast,seval,vrl,if_pos,if_neg,ht,ho,f1,f2,f3,f4,Bool.not_true,Bool.not_false,c1,c2,e1,e2,hHl2,hHl,e3]
  rw[e4]
  simp(disch:=first|omega|fail) only[push_cast,seval,vrl,if_pos,if_neg,ht,ho,e5,e6,e7]
 ·have f3:=fun b b' nl e=>v19 (q:=q) (b:=b) (b':=b') (nl:=nl) (e:=e) (k:=k) ho1 hz
  have f4:=ib6 (l:=0) (k:=0) (e:=io1 q N d one lost) (f:=io1 q N d one lost)
  rw[if_neg hz,decide_eq_true (rfl:io1 q N d one lost=io1 q N d one lost),decide_eq_true (rfl:(0:Int)=0),Bool.and_true]at f4
  generalize io1 q N d one lost=HE at*
  unfold plT at*
  unfold c17
  simp only[seqR]
  generalize vs (colS q l d hs')=CS at*
  generalize (psiL q l d).map vs=Ps at*
  clear s3 hlq hlr hse hln
  simp(disch:=first|omega|fail) only[push_cast,seval,vrl,if_pos,if_neg,ht,ho,nb8 hz,f3,f4,Bool.not_true,Bool.not_false,c1,c2,e1,e2,hHl2,hHl,e3]
  rw[e4]
  simp(disch:=first|omega|fail) only[push_cast,seval,vrl,if_pos,if_neg,ht,ho,e5,e6,e7]
end
section
variable {q:Int} [IsFld q] {p m g:Int} {t:Tree} {b b' b2 b3:Bool} {nl nl' nl2 nl3 nr e:Nat} {k d N:Nat} {l hs one:List Int} {lost:Int} {M:List (List Int)}
theorem xn9(u:RFo q p m g t)(h:PlanOK q N k d)(hl:l.length≤9223372036854775807)(hh:hs.length≤9223372036854775807)(ho1:one.length≤9223372036854775807)(hE:gx7 q N d lost l hs≠0)(hz:io1 q N d one lost=0):
 vgo W ⟨h17,[.tmp 16],0⟩ [.code (seqR 5 c17)] (VFr.of [(0, .fz b (plT e q N k d)),(2, .x (.int .i64 N)),(3, .x (.int .i64 d)),(4, .fz b' (.sl nl 0 1 (ivs l))),(6, .x (.int .i64 lost)),(7, .fz b2 (.sl nl2 0 1 (ivs hs))),(9, .own 0 []),(17, .fz b3 (.sl nl3 0 1 (ivs one))),(18, .x (.int .i64 (io1 q N d one lost)))]) [.pt 31 [.v (.int .i64 q), .v (.int .i64 p), .v (.int .i64 m), .v (.int .i64 g), .fz t]]=some (.x (.bool true),[],[]):=by
 have h1:=h.n16
 have h2:=h.kd
 have h3:=h.dn
 have h4:=h.nq
 have h5:=h.k1
 have e1:=fun b nl=>iu8 (n:=(N:Int)) (b:=b) (nl:=nl) (kk:=(d:Int)) hl (by omega)
 have e2:=fun(hx:l.length≤1000) b nl=>cr7 (b:=b) (nl:=nl) (x:=lost) (l:=l) (by omega)
 simp only[z44]at e2
 have e3:=fun b nl=>q18 (q:=q) (b:=b) (nl:=nl) (l:=hs) hh
 simp only[u.e]at e3
 have e6:=fun b b' b2 nl nl2 e=>g30 (q:=q) (b:=b) (b':=b') (b2:=b2) (nl:=nl) (nl2:=nl2) (e:=e) (k:=k) (show d≤1000 by omega) hl hh hE
 have e7:=fun b nl b' nl'=>ea2 (b:=b) (nl:=nl) (b':=b') (nl':=nl') (l:=[]) (k:=[]) (e:=gx7 q N d lost l hs) (f:=gx7 q N d lost l hs) (by simp)
 rw[if_neg hE,decide_eq_true (rfl:gx7 q N d lost l hs=gx7 q N d lost l hs),decide_eq_true (show([]:List Int).length=0 from rfl),Bool.and_true]at e7
 simp only[lz6]at e7
 have ht:=u.n
 have ho:=u.o
 obtain⟨a1,a2,a3,a4⟩:=cc7 hz
 obtain⟨A,rfl⟩:=zw7 a2
 have hAl:A.length=d:=by rw[fi2]at a1;exact a1
 have hv:=ol8 (q:=q) (a:=lost) (by omega)
 have f1:=iy8 (q:=q) (x:=ndE q lost) (n:=d) (by omega)
 rw[hv,u.e]at f1
 have f2:=fun b nl b' nl'=>af6 (q:=q) (b:=b) (nl:=nl) (b':=b') (nl':=nl') (x:=A) (o:=pwL (ndE q lost) d) (by rw[hAl];exact gh0 ..) (by omega)
 simp only[t58 hAl,u.e]at f2
 have f3:=fun b b' nl e=>sl9 (b:=b) (b':=b') (nl:=nl) (e:=e) h hAl a3 a4
 have f4:=ib6 (l:=(hl6 A (ndE q lost) d).v) (k:=(hl6 A (ndE q lost) d).v) (e:=0) (f:=0)
 rw[if_pos rfl,decide_eq_true (rfl:(0:Int)=0),decide_eq_true (rfl:(hl6 A (ndE q lost) d).v=(hl6 A (ndE q lost) d).v),Bool.and_true]at f4
 have c1:=cw6 (Int.not_lt.1 (show¬lost<0 by omega))
 have c2:=qc6 (Int.not_le.1 (show¬(N:Int)≤lost by omega))
 rw[hz]
 unfold gx7 at hE e6 e7
 rw[if_neg (show¬(lost<0∨(N:Int)≤lost) by omega)]at hE e7
 simp only[if_neg (show¬(lost<0∨(N:Int)≤lost) by omega)]at e6
 unfold plT at*
 unfold c17
 simp only[seqR]
 generalize hl6 A (ndE q lost) d=HF at*
 generalize vs (pwL (ndE q lost) d)=PW at*
 by_cases g1:nodE N d l=0
 ·have e2:=e2 (by have:=(it7 g1).1;omega)
  rw[if_pos g1]at hE e7
  simp only[if_pos g1]at e6
  simp only[g1]at e1
  cases g2:l.any (fun y=>decide (lost=y))with
  |true=>
   rw[g2,if_pos rfl]at e7
   simp only[g2,if_true]at e2 e6
   simp(disch:=first|omega|fail) only[push_cast,seval,vrl,if_pos,if_neg,ht,ho,f1,f2,f3,f4,Bool.not_true,Bool.not_false,c1,c2,e1,e2,e6,e7]
  |false=>
   rw[g2,if_neg Bool.false_ne_true]at e7 hE
   simp only[g2,if_neg Bool.false_ne_true]at e2 e6
   by_cases g3:hs.length=d
   ·rw[if_pos g3]at hE e7
    simp only[if_pos g3]at e6
    cases g4:hs.any (fun v=> !fok q v)with
    |true=>
     rw[g4,if_pos rfl]at e7
     simp only[g4,if_true]at e3 e6
     simp(disch:=first|omega|fail) only[push_cast,seval,vrl,if_pos,if_neg,ht,ho,f1,f2,f3,f4,Bool.not_true,Bool.not_false,c1,c2,e1,e2,g3,e3,e6,e7]
    |false=>
     rw[g4,if_neg Bool.false_ne_true]at hE
     exact absurd rfl hE
   ·have g3': ¬(hs.length:Int)=(d:Int):=by omega
    rw[if_neg g3]at e7
    simp only[if_neg g3]at e6
    simp(disch:=first|omega|fail) only[push_cast,seval,vrl,if_pos,if_neg,ht,ho,f1,f2,f3,f4,Bool.not_true,Bool.not_false,c1,c2,e1,e2,nb8 g3',e6,e7]
 ·rw[if_neg g1]at e7
  simp only[if_neg g1]at e6
  simp(disch:=first|omega|fail) only[push_cast,seval,vrl,if_pos,if_neg,ht,ho,f1,f2,f3,f4,Bool.not_true,Bool.not_false,c1,c2,e1,nb8 g1,e6,e7]
theorem su7(u:RFo q p m g t)(h:PlanOK q N k d)(hl:l.length≤9223372036854775807)(hh:hs.length≤9223372036854775807)(ho1:one.length≤9223372036854775807)(hE:gx7 q N d lost l hs≠0)(hz: ¬io1 q N d one lost=0):
 vgo W ⟨h17,[.tmp 16],0⟩ [.code (seqR 5 c17)] (VFr.of [(0, .fz b (plT e q N k d)),(2, .x (.int .i64 N)),(3, .x (.int .i64 d)),(4, .fz b' (.sl nl 0 1 (ivs l))),(6, .x (.int .i64 lost)),(7, .fz b2 (.sl nl2 0 1 (ivs hs))),(9, .own 0 []),(17, .fz b3 (.sl nl3 0 1 (ivs one))),(18, .x (.int .i64 (io1 q N d one lost)))]) [.pt 31 [.v (.int .i64 q), .v (.int .i64 p), .v (.int .i64 m), .v (.int .i64 g), .fz t]]=some (.x (.bool true),[],[]):=by
 have h1:=h.n16
 have h2:=h.kd
 have h3:=h.dn
 have h4:=h.nq
 have h5:=h.k1
 have e1:=fun b nl=>iu8 (n:=(N:Int)) (b:=b) (nl:=nl) (kk:=(d:Int)) hl (by omega)
 have e2:=fun(hx:l.length≤1000) b nl=>cr7 (b:=b) (nl:=nl) (x:=lost) (l:=l) (by omega)
 simp only[z44]at e2
 have e3:=fun b nl=>q18 (q:=q) (b:=b) (nl:=nl) (l:=hs) hh
 simp only[u.e]at e3
 have e6:=fun b b' b2 nl nl2 e=>g30 (q:=q) (b:=b) (b':=b') (b2:=b2) (nl:=nl) (nl2:=nl2) (e:=e) (k:=k) (show d≤1000 by omega) hl hh hE
 have e7:=fun b nl b' nl'=>ea2 (b:=b) (nl:=nl) (b':=b') (nl':=nl') (l:=[]) (k:=[]) (e:=gx7 q N d lost l hs) (f:=gx7 q N d lost l hs) (by simp)
 rw[if_neg hE,decide_eq_true (rfl:gx7 q N d lost l hs=gx7 q N d lost l hs),decide_eq_true (show([]:List Int).length=0 from rfl),Bool.and_true]at e7
 simp only[lz6]at e7
 have ht:=u.n
 have ho:=u.o
 have f3:=fun b b' nl e=>v19 (q:=q) (b:=b) (b':=b') (nl:=nl) (e:=e) (k:=k) ho1 hz
 have f4:=ib6 (l:=0) (k:=0) (e:=io1 q N d one lost) (f:=io1 q N d one lost)
 rw[if_neg hz,decide_eq_true (rfl:io1 q N d one lost=io1 q N d one lost),decide_eq_true (rfl:(0:Int)=0),Bool.and_true]at f4
 generalize io1 q N d one lost=HE at*
 unfold gx7 at hE e6 e7
 unfold plT at*
 unfold c17
 simp only[seqR]
 by_cases k1:lost<0
 ·rw[if_pos (show lost<0∨(N:Int)≤lost from .inl k1)]at e7
  simp only[if_pos (show lost<0∨(N:Int)≤lost from .inl k1)]at e6
  simp(disch:=first|omega|fail) only[push_cast,seval,vrl,if_pos,if_neg,ht,ho,nb8 hz,f3,f4,Bool.not_true,Bool.not_false,dec_lt k1,e6,e7]
 by_cases k2:(N:Int)≤lost
 ·rw[if_pos (show lost<0∨(N:Int)≤lost from .inr k2)]at e7
  simp only[if_pos (show lost<0∨(N:Int)≤lost from .inr k2)]at e6
  simp(disch:=first|omega|fail) only[push_cast,seval,vrl,if_pos,if_neg,ht,ho,nb8 hz,f3,f4,Bool.not_true,Bool.not_false,cw6 (Int.not_lt.1 k1),nl4 k2,e6,e7]
 have c1:=cw6 (Int.not_lt.1 k1)
 have c2:=qc6 (Int.not_le.1 k2)
 rw[if_neg (show¬(lost<0∨(N:Int)≤lost) by omega)]at hE e7
 simp only[if_neg (show¬(lost<0∨(N:Int)≤lost) by omega)]at e6
 by_cases g1:nodE N d l=0
 ·have e2:=e2 (by have:=(it7 g1).1;omega)
  rw[if_pos g1]at hE e7
  simp only[if_pos g1]at e6
  simp only[g1]at e1
  cases g2:l.any (fun y=>decide (lost=y))with
  |true=>
   rw[g2,if_pos rfl]at e7
   simp only[g2,if_true]at e2 e6
   simp(disch:=first|omega|fail) only[push_cast,seval,vrl,if_pos,if_neg,ht,ho,nb8 hz,f3,f4,Bool.not_true,Bool.not_false,c1,c2,e1,e2,e6,e7]
  |false=>
   rw[g2,if_neg Bool.false_ne_true]at e7 hE
   simp only[g2,if_neg Bool.false_ne_true]at e2 e6
   by_cases g3:hs.length=d
   ·rw[if_pos g3]at hE e7
    simp only[if_pos g3]at e6
    cases g4:hs.any (fun v=> !fok q v)with
    |true=>
     rw[g4,if_pos rfl]at e7
     simp only[g4,if_true]at e3 e6
     simp(disch:=first|omega|fail) only[push_cast,seval,vrl,if_pos,if_neg,ht,ho,nb8 hz,f3,f4,Bool.not_true,Bool.not_false,c1,c2,e1,e2,g3,e3,e6,e7]
    |false=>
     rw[g4,if_neg Bool.false_ne_true]at hE
     exact absurd rfl hE
   ·have g3': ¬(hs.length:Int)=(d:Int):=by omega
    rw[if_neg g3]at e7
    simp only[if_neg g3]at e6
    simp(disch:=first|omega|fail) only[push_cast,seval,vrl,if_pos,if_neg,ht,ho,nb8 hz,f3,f4,Bool.not_true,Bool.not_false,c1,c2,e1,e2,nb8 g3',e6,e7]
 ·rw[if_neg g1]at e7
  simp only[if_neg g1]at e6
  simp(disch:=first|omega|fail) only[push_cast,seval,vrl,if_pos,if_neg,ht,ho,nb8 hz,f3,f4,Bool.not_true,Bool.not_false,c1,c2,e1,nb8 g1,e6,e7]
theorem md6(u:RFo q p m g t)(h:PlanOK q N k d)(hl:l.length≤9223372036854775807)(hh:hs.length≤9223372036854775807)(ho1:([]:List Int).length≤9223372036854775807)(hE:gx7 q N d lost l hs≠0)(hz: ¬io1 q N d [] lost=0):
 vgo W ⟨h17,[.tmp 16],0⟩ [.code (seqR 5 c17)] (VFr.of [(0, .fz b (plT e q N k d)),(2, .x (.int .i64 N)),(3, .x (.int .i64 d)),(4, .fz b' (.sl nl 0 1 (ivs l))),(6, .x (.int .i64 lost)),(7, .fz b2 (.sl nl2 0 1 (ivs hs))),(9, .own 0 []),(17, .x (.slice none 0 0)),(18, .x (.int .i64 (io1 q N d [] lost)))]) [.pt 31 [.v (.int .i64 q), .v (.int .i64 p), .v (.int .i64 m), .v (.int .i64 g), .fz t]]=some (.x (.bool true),[],[]):=by
 have h1:=h.n16
 have h2:=h.kd
 have h3:=h.dn
 have h4:=h.nq
 have h5:=h.k1
 have e1:=fun b nl=>iu8 (n:=(N:Int)) (b:=b) (nl:=nl) (kk:=(d:Int)) hl (by omega)
 have e2:=fun(hx:l.length≤1000) b nl=>cr7 (b:=b) (nl:=nl) (x:=lost) (l:=l) (by omega)
 simp only[z44]at e2
 have e3:=fun b nl=>q18 (q:=q) (b:=b) (nl:=nl) (l:=hs) hh
 simp only[u.e]at e3
 have e6:=fun b b' b2 nl nl2 e=>g30 (q:=q) (b:=b) (b':=b') (b2:=b2) (nl:=nl) (nl2:=nl2) (e:=e) (k:=k) (show d≤1000 by omega) hl hh hE
 have e7:=fun b nl b' nl'=>ea2 (b:=b) (nl:=nl) (b':=b') (nl':=nl') (l:=[]) (k:=[]) (e:=gx7 q N d lost l hs) (f:=gx7 q N d lost l hs) (by simp)
 rw[if_neg hE,decide_eq_true (rfl:gx7 q N d lost l hs=gx7 q N d lost l hs),decide_eq_true (show([]:List Int).length=0 from rfl),Bool.and_true]at e7
 simp only[lz6]at e7
 have ht:=u.n
 have ho:=u.o
 have f3:=fun b b' nl e=>v19 (q:=q) (b:=b) (b':=b') (nl:=nl) (e:=e) (k:=k) ho1 hz
 have f4:=ib6 (l:=0) (k:=0) (e:=io1 q N d [] lost) (f:=io1 q N d [] lost)
 rw[if_neg hz,decide_eq_true (rfl:io1 q N d [] lost=io1 q N d [] lost),decide_eq_true (rfl:(0:Int)=0),Bool.and_true]at f4
 generalize io1 q N d [] lost=HE at*
 unfold gx7 at hE e6 e7
 unfold plT at*
 simp only[lz6]at f3
 unfold c17
 simp only[seqR]
 by_cases k1:lost<0
 ·rw[if_pos (show lost<0∨(N:Int)≤lost from .inl k1)]at e7
  simp only[if_pos (show lost<0∨(N:Int)≤lost from .inl k1)]at e6
  simp(disch:=first|omega|fail) only[push_cast,seval,vrl,if_pos,if_neg,ht,ho,nb8 hz,f3,f4,Bool.not_true,Bool.not_false,dec_lt k1,e6,e7]
 by_cases k2:(N:Int)≤lost
 ·rw[if_pos (show lost<0∨(N:Int)≤lost from .inr k2)]at e7
  simp only[if_pos (show lost<0∨(N:Int)≤lost from .inr k2)]at e6
  simp(disch:=first|omega|fail) only[push_cast,seval,vrl,if_pos,if_neg,ht,ho,nb8 hz,f3,f4,Bool.not_true,Bool.not_false,cw6 (Int.not_lt.1 k1),nl4 k2,e6,e7]
 have c1:=cw6 (Int.not_lt.1 k1)
 have c2:=qc6 (Int.not_le.1 k2)
 rw[if_neg (show¬(lost<0∨(N:Int)≤lost) by omega)]at hE e7
 simp only[if_neg (show¬(lost<0∨(N:Int)≤lost) by omega)]at e6
 by_cases g1:nodE N d l=0
 ·have e2:=e2 (by have:=(it7 g1).1;omega)
  rw[if_pos g1]at hE e7
  simp only[if_pos g1]at e6
  simp only[g1]at e1
  cases g2:l.any (fun y=>decide (lost=y))with
  |true=>
   rw[g2,if_pos rfl]at e7
   simp only[g2,if_true]at e2 e6
   simp(disch:=first|omega|fail) only[push_cast,seval,vrl,if_pos,if_neg,ht,ho,nb8 hz,f3,f4,Bool.not_true,Bool.not_false,c1,c2,e1,e2,e6,e7]
  |false=>
   rw[g2,if_neg Bool.false_ne_true]at e7 hE
   simp only[g2,if_neg Bool.false_ne_true]at e2 e6
   by_cases g3:hs.length=d
   ·rw[if_pos g3]at hE e7
    simp only[if_pos g3]at e6
    cases g4:hs.any (fun v=> !fok q v)with
    |true=>
     rw[g4,if_pos rfl]at e7
     simp only[g4,if_true]at e3 e6
     simp(disch:=first|omega|fail) only[push_cast,seval,vrl,if_pos,if_neg,ht,ho,nb8 hz,f3,f4,Bool.not_true,Bool.not_false,c1,c2,e1,e2,g3,e3,e6,e7]
    |false=>
     rw[g4,if_neg Bool.false_ne_true]at hE
     exact absurd rfl hE
   ·have g3': ¬(hs.length:Int)=(d:Int):=by omega
    rw[if_neg g3]at e7
    simp only[if_neg g3]at e6
    simp(disch:=first|omega|fail) only[push_cast,seval,vrl,if_pos,if_neg,ht,ho,nb8 hz,f3,f4,Bool.not_true,Bool.not_false,c1,c2,e1,e2,nb8 g3',e6,e7]
 ·rw[if_neg g1]at e7
  simp only[if_neg g1]at e6
  simp(disch:=first|omega|fail) only[push_cast,seval,vrl,if_pos,if_neg,ht,ho,nb8 hz,f3,f4,Bool.not_true,Bool.not_false,c1,c2,e1,nb8 g1,e6,e7]
theorem ks0(u:RFo q p m g t)(h:PlanOK q N k d)(hl:l.length≤9223372036854775807)(ho1:([]:List Int).length≤9223372036854775807)(hz: ¬io1 q N d [] lost=0)(hE:gx7 q N d lost l hs=0):
 vgo W ⟨h17,[.tmp 16],0⟩ [.code (seqR 5 c17)] (VFr.of [(0, .fz b (plT e q N k d)),(2, .x (.int .i64 N)),(3, .x (.int .i64 d)),(4, .fz b' (.sl nl 0 1 (ivs l))),(6, .x (.int .i64 lost)),(7, .fz b2 (.sl nl2 0 1 (ivs hs))),(9, .own 0 []),(17, .x (.slice none 0 0)),(18, .x (.int .i64 (io1 q N d [] lost)))]) [.pt 31 [.v (.int .i64 q), .v (.int .i64 p), .v (.int .i64 m), .v (.int .i64 g), .fz t]]=some (.x (.bool true),[],[]):=by
 obtain⟨l0,l1,l2,l3,l4,l5⟩:=r74 hE
 obtain⟨hs',rfl⟩:=zw7 l5
 have hHl:hs'.length=d:=by rw[fi2]at l4;exact l4
 have h1:=h.n16
 have h2:=h.kd
 have h3:=h.dn
 have h4:=h.nq
 have h5:=h.k1
 obtain⟨hld,hse⟩:=it7 l2
 have hld':l.length=d:=by omega
 obtain⟨hlr,hln,_⟩:=dr0 l [] hse
 have hlq: ∀v∈l,0≤v∧v<q:=fun v hv=>by have:=hlr v hv;omega
 obtain⟨s1,s2,s3⟩:=gd4 (q:=q) hln hld' hlq (b:=hs') hHl
 have c1:=cw6 (Int.not_lt.1 (show¬lost<0 by omega))
 have c2:=qc6 (Int.not_le.1 (show¬(N:Int)≤lost by omega))
 have e1:=fun b nl=>iu8 (n:=(N:Int)) (b:=b) (nl:=nl) (kk:=(d:Int)) hl (by omega)
 simp only[l2]at e1
 have e2:=fun b nl=>cr7 (b:=b) (nl:=nl) (x:=lost) (l:=l) (by omega)
 simp only[z44,l3]at e2
 have e3:=fun b nl=>q18 (q:=q) (b:=b) (nl:=nl) (l:=vs hs') (by rw[fi2];omega)
 simp only[l5,u.e]at e3
 have e4:=fun b b' b2 nl nl2 e ks=>bu8 (b:=b) (b':=b') (b2:=b2) (nl:=nl) (nl2:=nl2) (e:=e) (k:=k) (N:=N) (hs:=vs hs') u hld' (by omega) hlq (lost:=lost) d 0 (by omega) ks
 simp only[Int.natCast_zero,List.take_zero,show(psiL q [] d).map vs=[]from rfl,x25]at e4
 have e5:=fun b nl b' nl' nr=>x97 (q:=q) (b:=b) (nl:=nl) (b':=b') (nl':=nl') (nr:=nr) (M:=psiL q l d) (y:=hs') (N:=d) (by rw[hHl,mo2,hld']) od8 (by rw[mo2];omega) (by rw[mo2];omega) (by omega)
 simp only[s1,u.e]at e5
 have e6:=fun b b' b2 nl nl2 e=>u14 (q:=q) (b:=b) (b':=b') (b2:=b2) (nl:=nl) (nl2:=nl2) (e:=e) h hld' hlr hse l0 l1 l3 hHl s1
 have e7:=fun b nl b' nl'=>ea2 (b:=b) (nl:=nl) (b':=b') (nl':=nl') (l:=vs (colS q l d hs')) (k:=vs (colS q l d hs')) (e:=0) (f:=0) (by rw[fi2];omega)
 rw[if_pos rfl,decide_eq_true (rfl:(0:Int)=0),decide_eq_true (rfl:vs (colS q l d hs')=vs (colS q l d hs')),Bool.and_true]at e7
 have e8:= @ib6
 have ht:=u.n
 have ho:=u.o
 have hHl2:(vs hs').length=d:=by rw[fi2,hHl]
 have f3:=fun b b' nl e=>v19 (q:=q) (b:=b) (b':=b') (nl:=nl) (e:=e) (k:=k) ho1 hz
 have f4:=ib6 (l:=0) (k:=0) (e:=io1 q N d [] lost) (f:=io1 q N d [] lost)
 rw[if_neg hz,decide_eq_true (rfl:io1 q N d [] lost=io1 q N d [] lost),decide_eq_true (rfl:(0:Int)=0),Bool.and_true]at f4
 generalize io1 q N d [] lost=HE at*
 unfold plT at*
 simp only[lz6]at f3
 unfold c17
 simp only[seqR]
 generalize vs (colS q l d hs')=CS at*
 generalize (psiL q l d).map vs=Ps at*
 clear s3 hlq hlr hse hln
 simp(disch:=first|omega|fail) only[push_cast,seval,vrl,if_pos,if_neg,ht,ho,nb8 hz,f3,f4,Bool.not_true,Bool.not_false,c1,c2,e1,e2,hHl2,hHl,e3]
 rw[e4]
 simp(disch:=first|omega|fail) only[push_cast,seval,vrl,if_pos,if_neg,ht,ho,e5,e6,e7]
theorem kf7(h:PlanOK q N k d)(hl:l.length≤9223372036854775807)(hh:hs.length≤9223372036854775807)(hM:M.length≤9223372036854775807)(hMl: ∀r∈M,r.length≤9223372036854775807):
 o24 W 17 [.fz b (plT e q N k d), .agg (rFs q), .x (.int .i64 N), .x (.int .i64 d), .fz b' (.sl nl 0 1 (ivs l)), .fz b3 (.sl nl3 0 1 (lvs nr M)), .x (.int .i64 lost), .fz b2 (.sl nl2 0 1 (ivs hs))] []=some (.x (.bool true),[],[]):=by
 obtain⟨p,m,g,t,u⟩:=k75 q
 have ht:=u.n
 have ho:=u.o
 have h5:=h.k1
 have h6:=h.kd
 have tl: ∀(one:List Int),one.length≤9223372036854775807→ ∀b3 nl3,vgo W ⟨h17,[.tmp 16],0⟩ [.code (seqR 5 c17)] (VFr.of [(0, .fz b (plT e q N k d)),(2, .x (.int .i64 N)),(3, .x (.int .i64 d)),(4, .fz b' (.sl nl 0 1 (ivs l))),(6, .x (.int .i64 lost)),(7, .fz b2 (.sl nl2 0 1 (ivs hs))),(9, .own 0 []),(17, .fz b3 (.sl nl3 0 1 (ivs one))),(18, .x (.int .i64 (io1 q N d one lost)))]) [.pt 31 [.v (.int .i64 q), .v (.int .i64 p), .v (.int .i64 m), .v (.int .i64 g), .fz t]]=some (.x (.bool true),[],[]):=fun one ho1 b3 nl3=>by
  by_cases hE:gx7 q N d lost l hs=0
  ·exact g61 u h hl ho1 hE
  ·by_cases hz:io1 q N d one lost=0
   ·exact xn9 u h hl hh ho1 hE hz
   ·exact su7 u h hl hh ho1 hE hz
 obtain⟨rest,hr⟩: ∃rest,rest=seqR 5 c17:=⟨_,rfl⟩
 rw[←hr]at tl
 have hr':=hr
 unfold c17 at hr'
 simp only[seqR]at hr'
 rw[o10 rfl T17 rfl,u.e]
 unfold F17 c17
 rw[←hr']
 clear hr'
 cases M with
 |nil=>
  have hz6:io1 q N d [] lost=6:=by unfold io1;rw[if_neg (by simp;omega)]
  have hz: ¬io1 q N d [] lost=0:=by rw[hz6];decide
  have tl0:vgo W ⟨h17,[.tmp 16],0⟩ [.code (seqR 5 c17)] (VFr.of [(0, .fz b (plT e q N k d)),(2, .x (.int .i64 N)),(3, .x (.int .i64 d)),(4, .fz b' (.sl nl 0 1 (ivs l))),(6, .x (.int .i64 lost)),(7, .fz b2 (.sl nl2 0 1 (ivs hs))),(9, .own 0 []),(17, .x (.slice none 0 0)),(18, .x (.int .i64 (io1 q N d [] lost)))]) [.pt 31 [.v (.int .i64 q), .v (.int .i64 p), .v (.int .i64 m), .v (.int .i64 g), .fz t]]=some (.x (.bool true),[],[]):=by
   by_cases hE:gx7 q N d lost l hs=0
   ·exact ks0 u h hl (by simp) hz hE
   ·exact md6 u h hl hh (by simp) hE hz
  rw[hz6,←hr]at tl0
  clear hr
  have hd0: ¬(0:Int)=(d:Int):=by omega
  unfold plT at*
  simp(disch:=first|omega|fail) only[push_cast,seval,vrl,if_pos,if_neg,ht,ho,em1,nb8 hd0]
  exact tl0
 |cons one M=>
  clear hr
  have ho1:=hMl one (by simp)
  have tl1:=tl one ho1
  have e1:=fun b nl=>q18 (q:=q) (b:=b) (nl:=nl) (l:=one) ho1
  simp only[u.e]at e1
  have e0:(lvs nr (one::M))[0]? =some (.sl nr 0 1 (ivs one)):=rfl
  have hpos:(0:Int)<((one::M).length:Int):=by simp
  generalize one::M=MM at*
  unfold io1 at tl1
  unfold plT at*
  by_cases g1:one.length=d
  ·simp only[if_pos g1]at tl1
   cases g2:one.any (fun v=> !fok q v)with
   |true=>
    simp only[g2,if_true]at e1 tl1
    simp(disch:=first|omega|fail) only[push_cast,seval,vrl,if_pos,if_neg,ht,ho,dec_lt hpos,e0,g1,e1,Bool.not_true,Bool.not_false]
    exact tl1 _ _
   |false=>
    simp only[g2,if_neg Bool.false_ne_true]at e1 tl1
    by_cases g3:lost<0
    ·simp only[if_pos (show lost<0∨(N:Int)≤lost from .inl g3)]at tl1
     simp(disch:=first|omega|fail) only[push_cast,seval,vrl,if_pos,if_neg,ht,ho,dec_lt hpos,e0,g1,e1,Bool.not_true,Bool.not_false,dec_lt g3]
     exact tl1 _ _
    ·by_cases g4:(N:Int)≤lost
     ·simp only[if_pos (show lost<0∨(N:Int)≤lost from .inr g4)]at tl1
      simp(disch:=first|omega|fail) only[push_cast,seval,vrl,if_pos,if_neg,ht,ho,dec_lt hpos,e0,g1,e1,Bool.not_true,Bool.not_false,cw6 (Int.not_lt.1 g3),nl4 g4]
      exact tl1 _ _
     ·simp only[if_neg (show¬(lost<0∨(N:Int)≤lost) by omega)]at tl1
      simp(disch:=first|omega|fail) only[push_cast,seval,vrl,if_pos,if_neg,ht,ho,dec_lt hpos,e0,g1,e1,Bool.not_true,Bool.not_false,cw6 (Int.not_lt.1 g3),qc6 (Int.not_le.1 g4)]
      exact tl1 _ _
  ·have g1': ¬(one.length:Int)=(d:Int):=by omega
   simp only[if_neg g1]at tl1
   simp(disch:=first|omega|fail) only[push_cast,seval,vrl,if_pos,if_neg,ht,ho,dec_lt hpos,e0,nb8 g1']
   exact tl1 _ _
end
theorem ci7{q n k d:Int}:o24 W 7 [.x (.int .i64 q), .x (.int .i64 n), .x (.int .i64 k), .x (.int .i64 d)] []=some (.x (.int .i64 (dz3 q n k d)),[],[]):=by
 unfold dz3
 cases hn:fldN q.toNat with
 |none=>
  have e0:=fg0 hn
  rw[if_pos rfl,o10 rfl T7 rfl]
  unfold F7 c7
  simp(disch:=first|omega|fail) only[push_cast,seval,vrl,if_pos,if_neg,e0]
 |some x=>
  obtain⟨p0,m0,g0,mod⟩:=x
  haveI:IsFld q:=⟨⟨p0,m0,g0,mod,hn⟩⟩
  obtain⟨p,m,g,t,u⟩:=k75 q
  have e0:=uw8 (q:=q)
  rw[u.e]at e0
  have ht:=u.n
  have ho:=u.o
  rw[if_neg (show¬some (p0,m0,g0,mod)=none by simp)]
  rw[o10 rfl T7 rfl]
  unfold F7 c7
  by_cases h1:n<2∨q<n∨16<n
  ·rw[if_pos h1]
   by_cases c1:n<2
   ·simp(disch:=first|omega|fail) only[push_cast,seval,vrl,if_pos,if_neg,e0,ht,ho,dec_lt c1]
   ·by_cases c2:q<n
    ·simp(disch:=first|omega|fail) only[push_cast,seval,vrl,if_pos,if_neg,e0,ht,ho,cw6 (Int.not_lt.1 c1),dec_lt c2]
    ·have c3:16<n:=by omega
     simp(disch:=first|omega|fail) only[push_cast,seval,vrl,if_pos,if_neg,e0,ht,ho,cw6 (Int.not_lt.1 c1),cw6 (Int.not_lt.1 c2),dec_lt c3]
  ·have c1: ¬n<2:=by omega
   have c2: ¬q<n:=by omega
   have c3: ¬16<n:=by omega
   rw[if_neg h1]
   by_cases h2:k<1∨d<k∨n≤d
   ·rw[if_pos h2]
    by_cases c4:k<1
    ·simp(disch:=first|omega|fail) only[push_cast,seval,vrl,if_pos,if_neg,e0,ht,ho,cw6 (Int.not_lt.1 c1),cw6 (Int.not_lt.1 c2),cw6 (Int.not_lt.1 c3),dec_lt c4]
    ·by_cases c5:d<k
     ·simp(disch:=first|omega|fail) only[push_cast,seval,vrl,if_pos,if_neg,e0,ht,ho,cw6 (Int.not_lt.1 c1),cw6 (Int.not_lt.1 c2),cw6 (Int.not_lt.1 c3),cw6 (Int.not_lt.1 c4),dec_lt c5]
     ·have c6:n≤d:=by omega
      simp(disch:=first|omega|fail) only[push_cast,seval,vrl,if_pos,if_neg,e0,ht,ho,cw6 (Int.not_lt.1 c1),cw6 (Int.not_lt.1 c2),cw6 (Int.not_lt.1 c3),cw6 (Int.not_lt.1 c4),cw6 (Int.not_lt.1 c5),nl4 c6]
   ·have c4: ¬k<1:=by omega
    have c5: ¬d<k:=by omega
    have c6: ¬n≤d:=by omega
    rw[if_neg h2]
    simp(disch:=first|omega|fail) only[push_cast,seval,vrl,if_pos,if_neg,e0,ht,ho,cw6 (Int.not_lt.1 c1),cw6 (Int.not_lt.1 c2),cw6 (Int.not_lt.1 c3),cw6 (Int.not_lt.1 c4),cw6 (Int.not_lt.1 c5),qc6 (Int.not_le.1 c6)]
section
variable {q:Int} [IsFld q] {b b' b2 b3:Bool} {nl nl' nl2 nl3 nr e:Nat} {k d N:Nat} {F:List Int}
theorem gs5(h:PlanOK q N k d):o24 W 11 [.x (.int .i64 k), .x (.int .i64 d)] []=some (.x (.int .i64 (h61 k d:Nat)),[],[]):=by
 have h1:=h.n16
 have h2:=h.kd
 have h3:=h.dn
 have hk:k*(k+1)≤16*17:=Nat.mul_le_mul (by omega) (by omega)
 have hd:k*(d-k)≤16*16:=Nat.mul_le_mul (by omega) (by omega)
 have e1:(k:Int)*((k:Int)+1)=((k*(k+1):Nat):Int):=by rw[Int.natCast_mul];rfl
 have e2:(k:Int)*((d:Int)-(k:Int))=((k*(d-k):Nat):Int):=by rw[Int.natCast_mul,Int.ofNat_sub h2]
 have e3:((k*(k+1):Nat):Int).tdiv 2=((k*(k+1)/2:Nat):Int):=by rw[Int.tdiv_eq_ediv_of_nonneg (by omega)];omega
 unfold h61
 rw[o10 rfl T11 rfl]
 unfold F11 c11
 generalize k*(k+1)=A at*
 generalize k*(d-k)=B at*
 simp(disch:=first|omega|fail) only[push_cast,seval,vrl,if_pos,if_neg,e1,e2,e3]
def wrE(q:Int)(k d:Nat)(F:List Int):Int:=if F.length=h61 k d then(if(F.any fun v=> !fok q v)=true then 2 else 0)else 6
theorem sh6(h:PlanOK q N k d)(hF:F.length≤9223372036854775807)(hE:wrE q k d F≠0):
 o24 W 14 [.fz b (plT e q N k d), .fz b' (.sl nl 0 1 (ivs F))] []=some (.tup [.x (.slice none 0 0), .x (.int .i64 (wrE q k d F))],[],[]):=by
 have e1:=fun b e=>bm8 (b:=b) (e:=e) h
 have e2:=fun b b' nl e=>lt7 (q:=q) (n:=(N:Int)) (k:=k) (d:=d) (b:=b) (b':=b') (nl:=nl) (e:=e) (l:=F) hF
 unfold wrE at hE⊢
 unfold plT at*
 rw[o10 rfl T14 rfl]
 unfold F14 c14
 by_cases h1:F.length=h61 k d
 ·rw[if_pos h1]at hE⊢
  cases h2:F.any (fun v=> !fok q v)with
  |true=>
   rw[h2]at e2
   rw[if_pos (show true=true from rfl)]
   simp(disch:=first|omega|fail) only[push_cast,seval,vrl,if_pos,if_neg,e1,h1,e2,Bool.not_true,Bool.not_false]
  |false=>
   rw[h2,if_neg Bool.false_ne_true]at hE
   exact absurd rfl hE
 ·have h1': ¬(F.length:Int)=((h61 k d:Nat):Int):=by omega
  rw[if_neg h1]
  simp(disch:=first|omega|fail) only[push_cast,seval,vrl,if_pos,if_neg,e1,nb8 h1']
end
theorem in5{e:Nat}{cs:List Tree}{R:List Tree}:wb3 (.pt e cs::R) 1 (.own 0 [])=some false:=rfl
section
variable {l hs F:List Int} {M:List (List Int)} {b b' b2 b3:Bool} {nl nl' nl2 nl3 nr:Nat}
theorem ya5{q n k d lost:Int}(hF:F.length≤9223372036854775807)(hl:l.length≤9223372036854775807)(hM:M.length≤9223372036854775807)(hMl: ∀r∈M,r.length≤9223372036854775807)(hh:hs.length≤9223372036854775807):
 o24 W 3 [.x (.int .i64 q), .x (.int .i64 n), .x (.int .i64 k), .x (.int .i64 d), .fz b (.sl nl 0 1 (ivs F)), .fz b' (.sl nl' 0 1 (ivs l)), .fz b3 (.sl nl3 0 1 (lvs nr M)), .x (.int .i64 lost), .fz b2 (.sl nl2 0 1 (ivs hs))] []=some (.x (.bool true),[],[]):=by
 obtain⟨z,w0⟩:=tr6 hM
 have e1:=ci7 (q:=q) (n:=n) (k:=k) (d:=d)
 have e2:=tr7 (q:=q) (n:=n) (k:=k) (d:=d)
 rw[o10 rfl T3 rfl]
 unfold F3 c3
 by_cases g0:300<IntKind.wrap .i64 (IntKind.wrap .i64 ((F.length:Int)+(l.length:Int))+(hs.length:Int))
 ·simp(disch:=first|omega|fail) only[push_cast,seval,vrl,if_pos,if_neg,dec_lt g0]
 have g0':=cw6 (Int.not_lt.1 g0)
 cases z with
 |true=>simp(disch:=first|omega|fail) only[push_cast,seval,vrl,if_pos,if_neg,g0',w0]
 |false=>
 by_cases hp:dz3 q n k d=0
 ·have hf: ∃x,fldN q.toNat=some x:=by
   cases hx:fldN q.toNat with
   |none=>unfold dz3 at hp;rw[if_pos hx]at hp;cases hp
   |some x=>exact⟨x,rfl⟩
  obtain⟨⟨p0,m0,g0,mod⟩,hx⟩:=hf
  haveI:IsFld q:=⟨⟨p0,m0,g0,mod,hx⟩⟩
  have hr:2≤n∧n≤q∧n≤16∧1≤k∧k≤d∧d<n:=by
   unfold dz3 at hp
   rw[if_neg (by rw[hx];simp)]at hp
   by_cases h1:n<2∨q<n∨16<n
   ·rw[if_pos h1]at hp;cases hp
   ·rw[if_neg h1]at hp
    by_cases h2:k<1∨d<k∨n≤d
    ·rw[if_pos h2]at hp;cases hp
    ·omega
  obtain⟨N,rfl⟩: ∃N:Nat,n=N:=⟨n.toNat,by omega⟩
  obtain⟨K,rfl⟩: ∃K:Nat,k=K:=⟨k.toNat,by omega⟩
  obtain⟨D,rfl⟩: ∃D:Nat,d=D:=⟨d.toNat,by omega⟩
  have h:PlanOK q N K D:=⟨hr.1,hr.2.1,hr.2.2.1,by omega,by omega,by omega⟩
  rw[hp]at e1
  rw[if_pos hp]at e2
  obtain⟨p,m,g,t,u⟩:=k75 q
  have e0:=uw8 (q:=q)
  rw[u.e]at e0
  have ht:=u.n
  have ho:=u.o
  have e3:=fun b e=>bm8 (b:=b) (e:=e) h
  have e4:=gs5 h
  have e5:=fun b nl=>q18 (q:=q) (b:=b) (nl:=nl) (l:=F) hF
  simp only[u.e]at e5
  have e8:=fun b b' b2 nl nl2 nr e=>wh1 (q:=q) (b:=b) (b':=b') (b2:=b2) (nl:=nl) (nl2:=nl2) (nr:=nr) (e:=e) h hl hM hMl
  have e9:=fun b b' b2 b3 nl nl2 nl3 nr e=>kf7 (q:=q) (b:=b) (b':=b') (b2:=b2) (b3:=b3) (nl:=nl) (nl2:=nl2) (nl3:=nl3) (nr:=nr) (e:=e) (lost:=lost) h hl hh hM hMl
  simp only[u.e]at e8 e9
  by_cases hw:wrE q K D F=0
  ·have hw2:F.length=h61 K D∧(F.any fun v=> !fok q v)=false:=by
    unfold wrE at hw
    by_cases h1:F.length=h61 K D
    ·rw[if_pos h1]at hw
     cases h2:F.any (fun v=> !fok q v)with
     |true=>rw[h2,if_pos rfl]at hw;cases hw
     |false=>exact⟨h1,rfl⟩
    ·rw[if_neg h1]at hw;cases hw
   obtain⟨c1,c2⟩:=hw2
   obtain⟨G,rfl⟩:=zw7 c2
   have hGl:G.length=h61 K D:=by rw[fi2]at c1;exact c1
   have e6:=fun b nl=>ta9 (b:=b) (nl:=nl) h hGl
   simp only[u.e]at e6
   have e7:=fun b b' nl e=>vq8 (b:=b) (b':=b') (nl:=nl) (e:=e) h hGl
   have hal:(allF G N K D).length=N:=by unfold allF em6;rw[List.length_map];exact u35 ..
   have eL:=fun b nl nr b' nl' nr'=>dy0 (b:=b) (nl:=nl) (nr:=nr) (b':=b') (nl':=nl') (nr':=nr') (l:=(allF G N K D).map vs) (k:=(allF G N K D).map vs) (e:=0) (f:=0) (by rw[List.length_map,hal];omega) (fun r hr=>by
    obtain⟨r',hr',rfl⟩:=List.mem_map.1 hr
    obtain⟨i,hi⟩:=List.getElem?_of_mem hr'
    have hi2:=(List.getElem?_eq_some_iff.1 hi).1
    have:=xa0 (F:=G) (k:=K) (d:=D) (N:=N) (V:=i) (by omega)
    rw[this]at hi
    obtain rfl:=Option.some.inj hi
    rw[fi2,xh8 (by omega)];omega)
   rw[if_pos rfl,decide_eq_true (rfl:(0:Int)=0),decide_eq_true (rfl:(allF G N K D).map vs=(allF G N K D).map vs),Bool.and_true]at eL
   rw[c2]at e5
   have c1i:((vs G).length:Int)=((h61 K D:Nat):Int):=by rw[c1]
   clear c1
   unfold plT at*
   generalize (allF G N K D).map vs=AA at*
   generalize vs G=VG at*
   clear hx hp hr hw
   simp(disch:=first|omega|fail) only[push_cast,seval,vrl,if_pos,if_neg,g0',w0,e1,e2,in5,e0,ht,ho,e3,e4,mr8 c1i,e5,Bool.not_true,Bool.not_false,e6,e7,eL,e8,e9]
  ·have e7:=fun b b' nl e=>sh6 (q:=q) (b:=b) (b':=b') (nl:=nl) (e:=e) h hF hw
   have eL:=fun b nl b' nl'=>dy0 (b:=b) (nl:=nl) (nr:=0) (b':=b') (nl':=nl') (nr':=0) (l:=[]) (k:=[]) (e:=wrE q K D F) (f:=wrE q K D F) (by simp) (fun r hr=>by cases hr)
   rw[if_neg hw,decide_eq_true (rfl:wrE q K D F=wrE q K D F),decide_eq_true (show([]:List (List Int)).length=0 from rfl),Bool.and_true]at eL
   simp only[em1]at eL
   unfold wrE at hw e7 eL
   unfold plT at*
   clear hx hp hr
   by_cases c1:F.length=h61 K D
   ·simp only[if_pos c1]at hw e7 eL
    cases c2:F.any (fun v=> !fok q v)with
    |true=>
     simp only[c2,if_true]at e5 e7 eL
     have c1i:(F.length:Int)=((h61 K D:Nat):Int):=by rw[c1]
     simp(disch:=first|omega|fail) only[push_cast,seval,vrl,if_pos,if_neg,g0',w0,e1,e2,in5,e0,ht,ho,e3,e4,mr8 c1i,e5,Bool.not_true,Bool.not_false,e7,eL,e8,e9]
    |false=>
     rw[c2,if_neg Bool.false_ne_true]at hw
     exact absurd rfl hw
   ·have c1': ¬(F.length:Int)=((h61 K D:Nat):Int):=by omega
    simp only[if_neg c1]at e7 eL
    simp(disch:=first|omega|fail) only[push_cast,seval,vrl,if_pos,if_neg,g0',w0,e1,e2,in5,e0,ht,ho,e3,e4,nb8 c1',e7,eL,e8,e9]
 ·rw[if_neg hp]at e2
  simp(disch:=first|omega|fail) only[push_cast,seval,vrl,if_pos,if_neg,g0',w0,e1,e2,nb8 hp]
end
def u89(A:List (List Int))(S:List Int):List Tree:=(List.range A.length).map fun(i:Nat)=>if(i:Int)∈S then .fz (.sl 2 0 1 (ivs (nth A i)))else .sl 2 3 1 (ivs (nth A i))
theorem kt6(A:List (List Int)):u89 A []=lls 2 A:=by
 unfold u89 lls
 refine List.ext_getElem? fun i=> ?_
 rw[List.getElem?_map,List.getElem?_map]
 by_cases hi:i<A.length
 ·rw[List.getElem?_range hi,gu3 hi];rfl
 ·rw[List.getElem?_eq_none (by simp;omega),List.getElem?_eq_none (by omega)];rfl
theorem uq5(A:List (List Int))(S:List Int):(u89 A S).length=A.length:=by simp[u89]
theorem to3{A:List (List Int)}{S:List Int}{i:Nat}(hi:i<A.length):(u89 A S)[i]? =some (if(i:Int)∈S then .fz (.sl 2 0 1 (ivs (nth A i)))else .sl 2 3 1 (ivs (nth A i))):=by
 unfold u89;rw[List.getElem?_map,List.getElem?_range hi];rfl
theorem wn9{A:List (List Int)}{S:List Int}{i:Nat}(hi:i<A.length):(u89 A S).set i (.fz (.sl 2 0 1 (ivs (nth A i))))=u89 A (S++[(i:Int)]):=by
 refine List.ext_getElem? fun k=> ?_
 rw[List.getElem?_set]
 by_cases hk:i=k
 ·subst hk
  rw[if_pos rfl,if_pos (by rw[uq5];exact hi),to3 hi,if_pos (by simp)]
 ·rw[if_neg hk]
  by_cases hl:k<A.length
  ·rw[to3 hl,to3 hl]
   have:((k:Int)∈S++[(i:Int)])↔(k:Int)∈S:=by
    rw[List.mem_append,List.mem_singleton]
    constructor
    ·rintro(h|h)
     ·exact h
     ·exact absurd h (by omega)
    ·exact .inl
   simp only[this]
  ·rw[List.getElem?_eq_none (by rw[uq5];omega),List.getElem?_eq_none (by rw[uq5];omega)]
def gvT(B:List (List Int)):List Tree:=(lvs 2 B).map fzT
theorem n86(B:List (List Int)):(gvT B).length=B.length:=by simp[gvT,lvs]
theorem fi0(B:List (List Int))(r:List Int):gvT B++[.fz (.sl 2 0 1 (ivs r))]=gvT (B++[r]):=by unfold gvT lvs;rw[List.map_append,List.map_append];rfl
section
variable {A:List (List Int)} {L:List Int} {T0 T1:Tree}
end
section
variable {q:Int} [IsFld q] {k d N:Nat} {F:List (El q)} {L S:List Int}
theorem qr9{V:Nat}(hV:V<N):nth ((allF F N k d).map vs) V=vs (rowA F N k d V):=by
 have hl:(allF F N k d).length=N:=by unfold allF em6;rw[List.length_map];exact u35 ..
 rw[t70 (by rw[List.length_map];omega),List.getElem_map]
 congr 1
 exact(t70 (by omega)).symm
theorem xe2:((allF F N k d).map vs).length=N:=by
 rw[List.length_map]
 unfold allF em6
 rw[List.length_map];exact u35 ..
end
section
variable {q:Int} [IsFld q] {k d N:Nat} {F:List (El q)} {L:List Int}
theorem ti7: ∀B:List (List Int),jj5 (gvT B)=lvs 2 B
 | []=>rfl
 |l::m=>by
  have:=ti7 m
  rw[show lvs 2 (l::m)= .sl 2 0 1 (ivs l)::lvs 2 m from rfl,show gvT (l::m)= .fz (.sl 2 0 1 (ivs l))::gvT m from rfl,jj5,this];rfl
end
theorem o01{raw:List Int}(hrl:raw.length≤9223372036854775807){q:Nat}(hq:q≤1000): ∃L:List Int,L.Perm (pn (List.range q))∧ ∀(b:Bool) (nl:Nat),o24 W 20 [.fz b (.sl nl 0 1 (ivs raw)), .x (.int .i64 q), .x (.int .i64 q)] []=some (.own 0 [],[.sl 0 3 1 (ivs L)],[]):=by
 obtain⟨L',h1,h2⟩:=c70 hrl hq (Nat.le_refl q) q 0 (pn (List.range q)) (by omega) (List.Perm.refl _)
 have e1:=fun b nl ks=>mn8 (raw:=raw) (b:=b) (nl:=nl) (q:=q) (n:=q) hq q 0 (by omega) ks
 have hl:=h1.len
 refine⟨L',h1,fun b nl=> ?_⟩
 rw[show pn (List.range 0)++List.replicate (q-0) (0:Int)=List.replicate q 0 from rfl]at e1
 simp only[Int.natCast_zero]at e1 h2
 have ht:(ivs L').take q=ivs L':=List.take_of_length_le (by rw[gf1];omega)
 have ht2:L'.take q=L':=List.take_of_length_le (by omega)
 rw[o10 rfl T20 rfl]
 unfold F20 c20
 simp(disch:=first|omega|fail) only[push_cast,seval,vrl,if_pos,if_neg]
 rw[e1]
 simp(disch:=first|omega|fail) only[push_cast,seval,vrl,if_pos,if_neg]
 rw[h2]
 simp(disch:=first|omega|fail) only[push_cast,seval,vrl,if_pos,if_neg,hl,Int.sub_zero,ht,ht2]
def ndsL(N:Nat)(L:List Int):List Int:=L.filter fun v=>decide (v<N)
theorem m59{N q:Nat}(h:N≤q){L:List Int}(hL:L.Perm (pn (List.range q))):(ndsL N L).length=N∧(ndsL N L).Nodup∧ ∀v∈ndsL N L,0≤v∧v<N:=by
 have hp:(ndsL N L).Perm (pn (List.range N)):=by
  have h1:=hL.filter fun v=>decide (v<(N:Int))
  have h2:(pn (List.range q)).filter (fun v=>decide (v<(N:Int)))=pn (List.range N):=by
   clear hL h1
   induction q with
   |zero=>rw[show N=0 by omega];rfl
   |succ q ih=>
    unfold pn at ih⊢
    rw[List.range_succ,List.map_append,List.filter_append]
    by_cases hN:N=q+1
    ·subst hN
     have:((List.range q).map fun(i:Nat)=>(i:Int)).filter (fun v=>decide (v<((q+1:Nat):Int)))=(List.range q).map fun(i:Nat)=>(i:Int):=List.filter_eq_self.2 fun v hv=>by
      obtain⟨i,hi,rfl⟩:=List.mem_map.1 hv
      have:=List.mem_range.1 hi
      rw[decide_eq_true_eq];omega
     rw[this,List.range_succ,List.map_append]
     congr 1
     rw[List.map_cons,List.map_nil,List.filter_cons,if_pos (by rw[decide_eq_true_eq];omega)];rfl
    ·rw[ih (by omega)]
     rw[List.map_cons,List.map_nil,List.filter_cons,if_neg (by rw[decide_eq_true_eq];omega)];simp
  rw[h2]at h1
  exact h1
 refine⟨by rw[hp.length_eq,im5,List.length_range],hp.nodup_iff.2 (by
  unfold pn
  rw[List.nodup_iff_pairwise_ne,List.pairwise_map]
  exact List.nodup_range.imp fun h e=>h (by omega)),fun v hv=> ?_⟩
 have:=hp.mem_iff.1 hv
 unfold pn at this
 obtain⟨k,hk,rfl⟩:=List.mem_map.1 this
 have:=List.mem_range.1 hk
 omega
section
variable {q:Int} {p m g:Int} {t:Tree} {b:Bool} {nl:Nat} {raw:List Int} {T1 T2:Tree} {A:List (List Int)} {L S:List Int} {tu:Bool}
theorem cz2(hL:L.length=q)(hq:q≤1000)(hrl:raw.length≤9223372036854775807){N:Nat}{k d:Int}: ∀(c i:Nat),i+c=L.length→ ∀ks,
 vgoL W ⟨h4,[.tmp 14],0⟩ [0,1,2,3,4,6,16,18,19,20,21,22] c4L0 (.blk 0 [0,1,2,3,4,6,16,18,19,21]::ks) [(0, .fz b (.sl nl 0 1 (ivs raw))),(1, .x (.int .i64 q)),(2, .x (.int .i64 N)),(3, .x (.int .i64 k)),(4, .x (.int .i64 d)),(6, .x (.bool tu)),(16, .own 0 []),(18, .own 1 []),(19, .own 2 []),(20, .own 3 []),(21, .own 4 []),(22, .x (.int .i64 i))] [.pt 31 [.v (.int .i64 q), .v (.int .i64 p), .v (.int .i64 m), .v (.int .i64 g), .fz t],T1,T2, .sl 0 3 1 (ivs L), .sl 1 3 1 (ivs (ndsL N (L.take i)))]=
  vgo W ⟨h4,[.tmp 14],0⟩ ks (VFr.of [(0, .fz b (.sl nl 0 1 (ivs raw))),(1, .x (.int .i64 q)),(2, .x (.int .i64 N)),(3, .x (.int .i64 k)),(4, .x (.int .i64 d)),(6, .x (.bool tu)),(16, .own 0 []),(18, .own 1 []),(19, .own 2 []),(21, .own 4 [])]) [.pt 31 [.v (.int .i64 q), .v (.int .i64 p), .v (.int .i64 m), .v (.int .i64 g), .fz t],T1,T2, .sl 0 3 1 (ivs L), .sl 1 3 1 (ivs (ndsL N L))]
 |0,i,hi,ks=>by
  have c1: ¬(i:Int)<q:=by omega
  rw[List.take_of_length_le (by omega),sb5 c4L0.eq_def]
  simp(disch:=first|omega|fail) only[push_cast,seval,vrl,if_pos,if_neg,cw6 (Int.not_lt.1 c1)]
 |c+1,i,hi,ks=>by
  have ih:=cz2 hL hq hrl (N:=N) (k:=k) (d:=d) c (i+1) (by omega) ks
  obtain⟨v,hv⟩:=ge6 (l:=L) (i:=i) (by omega)
  have e0:=iat hv
  have hil:i<L.length:=by omega
  have c1:(i:Int)<q:=by omega
  have htk:ndsL N (L.take (i+1))=ndsL N (L.take i)++if v<N then [v]else []:=by
   unfold ndsL
   rw[List.take_add_one,hv,List.filter_append]
   congr 1
   by_cases h:v<N
   ·rw[if_pos h];simp[h]
   ·rw[if_neg h];simp[h]
  have hlen:(ndsL N (L.take i)).length≤1000:=by
   have h1:(ndsL N (L.take i)).length≤(L.take i).length:=List.length_filter_le _ _
   rw[List.length_take]at h1
   omega
  rw[htk,Int.natCast_add,Int.natCast_one]at ih
  rw[sb5 c4L0.eq_def]
  by_cases h:v<N
  ·rw[if_pos h]at ih
   rw[←ih]
   simp(disch:=first|omega|fail) only[push_cast,seval,vrl,if_pos,if_neg,dec_lt c1,e0,hil,dec_lt h]
  ·rw[if_neg h,List.append_nil]at ih
   rw[←ih]
   simp(disch:=first|omega|fail) only[push_cast,seval,vrl,if_pos,if_neg,dec_lt c1,e0,hil,cw6 (Int.not_lt.1 h)]
theorem tb0(hA:A.length≤1000)(hS: ∀v∈S,0≤v∧v<A.length)(hn:S.Nodup){k:Nat}(hk:k≤S.length)(hSl:S.length≤1000){n d lo:Int}: ∀(c i:Nat),i+c=k→ ∀ks,
 vgoL W ⟨h4,[.tmp 14],0⟩ [0,1,2,3,4,5,6,16,18,19,21,23,24] c4L1 (.blk 2 [0,1,2,3,4,5,6,16,18,19,21,23]::ks) [(0, .fz b (.sl nl 0 1 (ivs raw))),(1, .x (.int .i64 q)),(2, .x (.int .i64 n)),(3, .x (.int .i64 k)),(4, .x (.int .i64 d)),(5, .x (.int .i64 lo)),(6, .x (.bool tu)),(16, .own 0 []),(18, .own 1 []),(19, .own 2 []),(21, .own 3 []),(23, .own 4 []),(24, .x (.int .i64 i))] [.pt 31 [.v (.int .i64 q), .v (.int .i64 p), .v (.int .i64 m), .v (.int .i64 g), .fz t],T1, .sl 1 22 1 (u89 A (S.take i)), .sl 1 3 1 (ivs S), .sl 1 22 1 (gvT ((S.take i).map fun v=>nth A v.toNat))]=
  vgo W ⟨h4,[.tmp 14],0⟩ ks (VFr.of [(0, .fz b (.sl nl 0 1 (ivs raw))),(1, .x (.int .i64 q)),(2, .x (.int .i64 n)),(3, .x (.int .i64 k)),(4, .x (.int .i64 d)),(5, .x (.int .i64 lo)),(6, .x (.bool tu)),(16, .own 0 []),(18, .own 1 []),(19, .own 2 []),(21, .own 3 []),(23, .own 4 [])]) [.pt 31 [.v (.int .i64 q), .v (.int .i64 p), .v (.int .i64 m), .v (.int .i64 g), .fz t],T1, .sl 1 22 1 (u89 A (S.take k)), .sl 1 3 1 (ivs S), .sl 1 22 1 (gvT ((S.take k).map fun v=>nth A v.toNat))]
 |0,i,hi,ks=>by
  obtain rfl:i=k:=by omega
  rw[sb5 c4L1.eq_def]
  simp(disch:=first|omega|fail) only[push_cast,seval,vrl,if_pos,if_neg]
 |c+1,i,hi,ks=>by
  have ih:=tb0 hA hS hn hk hSl (n:=n) (d:=d) (lo:=lo) c (i+1) (by omega) ks
  obtain⟨v,hv⟩:=ge6 (l:=S) (i:=i) (by omega)
  obtain⟨h0,h1⟩:=hS v (List.mem_of_getElem? hv)
  obtain⟨V,rfl⟩: ∃V:Nat,v=V:=⟨v.toNat,by omega⟩
  have hmem: ¬(V:Int)∈S.take i:=fun hm=>by
   obtain⟨j,hj,e⟩:=List.getElem_of_mem hm
   rw[List.length_take]at hj
   have hL':S[j]? =some (V:Int):=by
    rw[List.getElem_take]at e
    rw[List.getElem?_eq_getElem (by omega),e]
   have hji:=(List.getElem?_inj (i:=j) (j:=i) (by omega) hn).1 (hL'.trans hv.symm)
   omega
  have e0:=iat hv
  have e1:=to3 (A:=A) (S:=S.take i) (i:=V) (by omega)
  rw[if_neg hmem]at e1
  have e2:=wn9 (A:=A) (S:=S.take i) (i:=V) (by omega)
  have e3:S.take (i+1)=S.take i++[(V:Int)]:=by rw[List.take_add_one,hv];rfl
  have e4:=fi0 ((S.take i).map fun v=>nth A v.toNat) (nth A V)
  have hl1:=uq5 A (S.take i)
  have hl2:(gvT ((S.take i).map fun v=>nth A v.toNat)).length=i:=by rw[n86,List.length_map,List.length_take];omega
  rw[e3,List.map_append,show [(V:Int)].map (fun v=>nth A v.toNat)=[nth A V]from rfl,←e2,←e4,Int.natCast_add,Int.natCast_one]at ih
  rw[←ih,sb5 c4L1.eq_def]
  generalize gvT ((S.take i).map fun v=>nth A v.toNat)=G at*
  generalize u89 A (S.take i)=B at*
  simp(disch:=first|omega|fail) only[push_cast,seval,vrl,if_pos,if_neg,e0,e1,hl1,hl2]
end
section
variable {q:Int} [IsFld q] {p m g:Int} {t:Tree} {b:Bool} {nl:Nat} {T1 T4:Tree} {S S':List Int} {F:List (El q)} {k d N:Nat}
theorem mc3(u:RFo q p m g t)(h:PlanOK q N k d)(hS: ∀v∈S,0≤v∧v<N)(hd:d≤S.length)(hSl:S.length≤1000){lost:Nat}(hlo:lost<N): ∀(c i:Nat),i+c=d→ ∀ks,
 vgoL W ⟨h4,[.tmp 14],0⟩ [1,2,3,4,5,16,18,19,21,23,25,26] c4L2 (.blk 4 [1,2,3,4,5,18,21,23,25]::ks) [(1, .x (.int .i64 q)),(2, .x (.int .i64 N)),(3, .x (.int .i64 k)),(4, .x (.int .i64 d)),(5, .x (.int .i64 lost)),(16, .own 0 []),(18, .own 1 []),(19, .own 2 []),(21, .own 3 []),(23, .own 4 []),(25, .own 5 []),(26, .x (.int .i64 i))] [.pt 31 [.v (.int .i64 q), .v (.int .i64 p), .v (.int .i64 m), .v (.int .i64 g), .fz t],T1, .sl 1 22 1 (u89 ((allF F N k d).map vs) S'), .sl 1 3 1 (ivs S),T4, .sl 1 3 1 (ivs (vs ((S.take i).map fun v=>hl6 (rowA F N k d v.toNat) (ndE q lost) d)))]=
  vgo W ⟨h4,[.tmp 14],0⟩ ks (VFr.of [(1, .x (.int .i64 q)),(2, .x (.int .i64 N)),(3, .x (.int .i64 k)),(4, .x (.int .i64 d)),(5, .x (.int .i64 lost)),(18, .own 1 []),(21, .own 3 []),(23, .own 4 []),(25, .own 5 [])]) [.pt 31 [.v (.int .i64 q), .v (.int .i64 p), .v (.int .i64 m), .v (.int .i64 g), .fz t],T1, .sl 1 22 1 (u89 ((allF F N k d).map vs) S'), .sl 1 3 1 (ivs S),T4, .sl 1 3 1 (ivs (vs ((S.take d).map fun v=>hl6 (rowA F N k d v.toNat) (ndE q lost) d)))]
 |0,i,hi,ks=>by
  obtain rfl:i=d:=by omega
  rw[sb5 c4L2.eq_def]
  simp(disch:=first|omega|fail) only[push_cast,seval,vrl,if_pos,if_neg]
 |c+1,i,hi,ks=>by
  have ih:=mc3 u h hS hd hSl hlo c (i+1) (by omega) ks
  have h1:=h.n16
  have h3:=h.dn
  have h4:=h.nq
  obtain⟨v,hv⟩:=ge6 (l:=S) (i:=i) (by omega)
  obtain⟨h0,h2⟩:=hS v (List.mem_of_getElem? hv)
  obtain⟨V,rfl⟩: ∃V:Nat,v=V:=⟨v.toNat,by omega⟩
  have e0:=iat hv
  have e1:=to3 (A:=(allF F N k d).map vs) (S:=S') (i:=V) (by rw[xe2];omega)
  rw[qr9 (by omega)]at e1
  have hl1:=uq5 ((allF F N k d).map vs) S'
  rw[xe2]at hl1
  have hrl:=xh8 (F:=F) (k:=k) (d:=d) (N:=N) (v:=V) (by omega)
  have hvv:=ol8 (q:=q) (a:=(lost:Int)) (by omega)
  have f1:=iy8 (q:=q) (x:=ndE q lost) (n:=d) (by omega)
  rw[hvv,u.e]at f1
  have f2:=fun b nl b' nl'=>af6 (q:=q) (b:=b) (nl:=nl) (b':=b') (nl':=nl') (x:=rowA F N k d V) (o:=pwL (ndE q lost) d) (by rw[hrl];exact gh0 ..) (by omega)
  simp only[t58 hrl,u.e]at f2
  have ht:=u.n
  have ho:=u.o
  have e3:S.take (i+1)=S.take i++[(V:Int)]:=by rw[List.take_add_one,hv];rfl
  have hl2:((S.take i).map fun v=>hl6 (rowA F N k d v.toNat) (ndE q lost) d).length=i:=by rw[List.length_map,List.length_take];omega
  have e4:vs (((S.take i).map fun v=>hl6 (rowA F N k d v.toNat) (ndE q lost) d)++[hl6 (rowA F N k d V) (ndE q lost) d])=vs ((S.take i).map fun v=>hl6 (rowA F N k d v.toNat) (ndE q lost) d)++[(hl6 (rowA F N k d V) (ndE q lost) d).v]:=by unfold vs;rw[List.map_append];rfl
  rw[e3,List.map_append,show [(V:Int)].map (fun v=>hl6 (rowA F N k d v.toNat) (ndE q lost) d)=[hl6 (rowA F N k d V) (ndE q lost) d]from rfl,e4,Int.natCast_add,Int.natCast_one]at ih
  rw[←ih,sb5 c4L2.eq_def]
  generalize ((S.take i).map fun v=>hl6 (rowA F N k d v.toNat) (ndE q lost) d)=G at*
  generalize hl6 (rowA F N k d V) (ndE q lost) d=HF at*
  generalize u89 ((allF F N k d).map vs) S'=B at*
  generalize vs (pwL (ndE q lost) d)=PW at*
  generalize vs (rowA F N k d V)=RW at*
  by_cases hm:(V:Int)∈S'
  ·rw[if_pos hm]at e1
   simp(disch:=first|omega|fail) only[push_cast,seval,vrl,if_pos,if_neg,e0,e1,hl1,hl2,f1,f2,ht,ho]
  ·rw[if_neg hm]at e1
   simp(disch:=first|omega|fail) only[push_cast,seval,vrl,if_pos,if_neg,e0,e1,hl1,hl2,f1,f2,ht,ho]
end
def mszL:List Tree:=[Tree.v (.int .i64 3),Tree.v (.int .i64 4),Tree.v (.int .i64 5),Tree.v (.int .i64 7),Tree.v (.int .i64 8),Tree.v (.int .i64 9),Tree.v (.int .i64 11),Tree.v (.int .i64 13),Tree.v (.int .i64 16)]
theorem bg8{j:Int}(h0:0≤j)(h1:j<9): ∃(i:Nat) (z:Int),j=(i:Int)∧i<9∧3≤z∧z≤64∧IsFld z∧mszL[i]? =some (Tree.v (.int .i64 z)):=by
 obtain⟨i,rfl⟩: ∃i:Nat,j=(i:Int):=⟨j.toNat,by omega⟩
 have:i=0∨i=1∨i=2∨i=3∨i=4∨i=5∨i=6∨i=7∨i=8:=by omega
 rcases this with rfl|rfl|rfl|rfl|rfl|rfl|rfl|rfl|rfl
 ·exact⟨0,3,rfl,by decide,by decide,by decide,(x14 (by decide)).2.2,rfl⟩
 ·exact⟨1,4,rfl,by decide,by decide,by decide,(x14 (by decide)).2.2,rfl⟩
 ·exact⟨2,5,rfl,by decide,by decide,by decide,(x14 (by decide)).2.2,rfl⟩
 ·exact⟨3,7,rfl,by decide,by decide,by decide,(x14 (by decide)).2.2,rfl⟩
 ·exact⟨4,8,rfl,by decide,by decide,by decide,(x14 (by decide)).2.2,rfl⟩
 ·exact⟨5,9,rfl,by decide,by decide,by decide,(x14 (by decide)).2.2,rfl⟩
 ·exact⟨6,11,rfl,by decide,by decide,by decide,(x14 (by decide)).2.2,rfl⟩
 ·exact⟨7,13,rfl,by decide,by decide,by decide,(x14 (by decide)).2.2,rfl⟩
 ·exact⟨8,16,rfl,by decide,by decide,by decide,(x14 (by decide)).2.2,rfl⟩
section
variable {q:Int} {p m g:Int} {t:Tree} {b:Bool} {nl:Nat} {raw S hs file:List Int} {B HV:List Tree} {M:List (List Int)} {k d N:Nat} {lo:Int}
theorem wh6(hSl:S.length≤1000)(hk:k≤S.length)(hd:d≤S.length)(hhs:hs.length≤1000)(hf:file.length≤100000)(hHV:jj5 HV=lvs 2 M)(hHl:HV.length=M.length)(hM:M.length≤1000)(hMl: ∀r∈M,r.length≤9223372036854775807):
 vgo W ⟨h4,[.tmp 14],0⟩ [.code (seqR 20 c4)] (VFr.of [(1, .x (.int .i64 q)),(2, .x (.int .i64 N)),(3, .x (.int .i64 k)),(4, .x (.int .i64 d)),(5, .x (.int .i64 lo)),(18, .own 1 []),(21, .own 3 []),(23, .own 4 []),(25, .own 5 [])]) [.pt 31 [.v (.int .i64 q), .v (.int .i64 p), .v (.int .i64 m), .v (.int .i64 g), .fz t], .sl 1 3 1 (ivs file), .sl 1 22 1 B, .sl 1 3 1 (ivs S), .sl 1 22 1 HV, .sl 1 3 1 (ivs hs)]=some (.x (.bool true),[],[]):=by
 have e1:=fun b b' b2 b3 nl nl' nl2 nl3 nr l (hl:l.length≤9223372036854775807)=>ya5 (b:=b) (b':=b') (b2:=b2) (b3:=b3) (nl:=nl) (nl':=nl') (nl2:=nl2) (nl3:=nl3) (nr:=nr) (F:=file) (l:=l) (M:=M) (hs:=hs) (q:=q) (n:=(N:Int)) (k:=(k:Int)) (d:=(d:Int)) (lost:=lo) (by omega) hl (by omega) hMl (by omega)
 have e2:=fun b b' b2 b3 nl nl' nl2 nl3 nr=>e1 b b' b2 b3 nl nl' nl2 nl3 nr (S.take k) (by rw[List.length_take];omega)
 have e3:=fun b b' b2 b3 nl nl' nl2 nl3 nr=>e1 b b' b2 b3 nl nl' nl2 nl3 nr (S.take d) (by rw[List.length_take];omega)
 have gk:((k:Int)-0).toNat=k:=by omega
 have gd:((d:Int)-0).toNat=d:=by omega
 clear e1
 unfold c4
 simp only[seqR]
 simp(disch:=first|omega|fail) only[push_cast,seval,vrl,if_pos,if_neg,gk,gd,hHV,e2,e3,Bool.not_true,Bool.not_false]
end
section
variable {q:Int} [IsFld q] {p m g:Int} {t:Tree} {b:Bool} {nl:Nat} {raw S:List Int} {F:List (El q)} {k d N:Nat} {tu:Bool}
theorem l12(h:PlanOK q N k d)(hS: ∀v∈S,0≤v∧v<N)(hkS:k≤S.length): ∃r0 rows,((S.take k).map fun v=>nth ((allF F N k d).map vs) v.toNat)=r0::rows∧rows.length+1=k∧ ∀r∈r0::rows,r.length≤9223372036854775807:=by
 have h4:=h.k1
 have h1:=h.n16
 have h3:=h.dn
 cases hx:((S.take k).map fun v=>nth ((allF F N k d).map vs) v.toNat)with
 |nil=>
  have:=congrArg List.length hx
  rw[List.length_map,List.length_take,List.length_nil]at this
  omega
 |cons r0 rows=>
  have hlen:=congrArg List.length hx
  rw[List.length_map,List.length_take,List.length_cons]at hlen
  refine⟨r0,rows,rfl,by omega,fun r hr=> ?_⟩
  rw[←hx]at hr
  obtain⟨v,hv,rfl⟩:=List.mem_map.1 hr
  have:=hS v (List.mem_of_mem_take hv)
  rw[qr9 (by omega),fi2,xh8 (by omega)];omega
theorem q91(u:RFo q p m g t)(hrl:raw.length≤9223372036854775807)(h:PlanOK q N k d)(hF:F.length=h61 k d)(hSN:S.length=N)(hS: ∀v∈S,0≤v∧v<N){lost:Nat}(hlo:lost<N):
 vgo W ⟨h4,[.tmp 14],0⟩ [.code (seqR 17 c4)] (VFr.of [(0, .fz b (.sl nl 0 1 (ivs raw))),(1, .x (.int .i64 q)),(2, .x (.int .i64 N)),(3, .x (.int .i64 k)),(4, .x (.int .i64 d)),(5, .x (.int .i64 lost)),(6, .x (.bool false)),(16, .own 0 []),(18, .own 1 []),(19, .own 2 []),(21, .own 3 []),(23, .own 4 [])]) [.pt 31 [.v (.int .i64 q), .v (.int .i64 p), .v (.int .i64 m), .v (.int .i64 g), .fz t], .sl 1 3 1 (ivs (vs F)), .sl 1 22 1 (u89 ((allF F N k d).map vs) (S.take k)), .sl 1 3 1 (ivs S), .sl 1 22 1 (gvT ((S.take k).map fun v=>nth ((allF F N k d).map vs) v.toNat))]=some (.x (.bool true),[],[]):=by
 have h1:=h.n16
 have h2:=h.kd
 have h3:=h.dn
 have h4:=h.k1
 have h5:=h.nq
 have hsz:=size_le h
 have q2:=aw0 (q:=q)
 have hfl:(vs F).length≤100000:=by rw[fi2];omega
 have hdS:d≤S.length:=by omega
 have hkS:k≤S.length:=by omega
 have hS1:S.length≤1000:=by omega
 have e3:=fun T4 ks=>mc3 (F:=F) (T1:= .sl 1 3 1 (ivs (vs F))) (T4:=T4) (S:=S) (S':=S.take k) u h hS hdS hS1 hlo d 0 (Nat.zero_add d) ks
 simp only[Int.natCast_zero,List.take_zero,List.map_nil,rp2,lz6]at e3
 have hhl:(vs ((S.take d).map fun v=>hl6 (rowA F N k d v.toNat) (ndE q lost) d)).length≤1000:=by rw[fi2,List.length_map,List.length_take];omega
 obtain⟨r0,rows,hrows,hlen,hrl2⟩:=l12 (F:=F) h hS hkS
 rw[hrows]
 have sg:=ti7 (r0::rows)
 have gl:=n86 (r0::rows)
 have hM:(r0::rows).length≤1000:=by rw[List.length_cons];omega
 have tl:=wh6 (p:=p) (m:=m) (g:=g) (t:=t) (q:=q) (N:=N) (k:=k) (d:=d) (lo:=(lost:Int)) (B:=u89 ((allF F N k d).map vs) (S.take k)) hS1 hkS hdS hhl hfl sg gl hM hrl2
 obtain⟨rest,hr⟩: ∃rest,rest=seqR 20 c4:=⟨_,rfl⟩
 rw[←hr]at tl
 have hr':=hr
 unfold c4 at hr'
 simp only[seqR]at hr'
 unfold c4
 simp only[seqR]
 rw[←hr']
 clear hr hr' hrl2 hrows
 have ht:=u.n
 have ho:=u.o
 generalize (vs ((S.take d).map fun v=>hl6 (rowA F N k d v.toNat) (ndE q lost) d))=HP at*
 generalize u89 ((allF F N k d).map vs) (S.take k)=B at*
 generalize vs F=VF at*
 generalize gvT (r0::rows)=G at*
 simp(disch:=first|omega|fail) only[push_cast,seval,vrl,if_pos,if_neg]
 rw[e3]
 exact tl
theorem up8(u:RFo q p m g t)(hrl:raw.length≤9223372036854775807)(h:PlanOK q N k d)(hF:F.length=h61 k d)(hSN:S.length=N)(hS: ∀v∈S,0≤v∧v<N){lost:Nat}(hlo:lost<N):
 vgo W ⟨h4,[.tmp 14],0⟩ [.code (seqR 17 c4)] (VFr.of [(0, .fz b (.sl nl 0 1 (ivs raw))),(1, .x (.int .i64 q)),(2, .x (.int .i64 N)),(3, .x (.int .i64 k)),(4, .x (.int .i64 d)),(5, .x (.int .i64 lost)),(6, .x (.bool true)),(16, .own 0 []),(18, .own 1 []),(19, .own 2 []),(21, .own 3 []),(23, .own 4 [])]) [.pt 31 [.v (.int .i64 q), .v (.int .i64 p), .v (.int .i64 m), .v (.int .i64 g), .fz t], .sl 1 3 1 (ivs (vs F)), .sl 1 22 1 (u89 ((allF F N k d).map vs) (S.take k)), .sl 1 3 1 (ivs S), .sl 1 22 1 (gvT ((S.take k).map fun v=>nth ((allF F N k d).map vs) v.toNat))]=some (.x (.bool true),[],[]):=by
 have h1:=h.n16
 have h2:=h.kd
 have h3:=h.dn
 have h4:=h.k1
 have h5:=h.nq
 have hsz:=size_le h
 have q2:=aw0 (q:=q)
 have hfl:(vs F).length≤100000:=by rw[fi2];omega
 have hdS:d≤S.length:=by omega
 have hkS:k≤S.length:=by omega
 have hS1:S.length≤1000:=by omega
 have e3:=fun T4 ks=>mc3 (F:=F) (T1:= .sl 1 3 1 (ivs (vs F))) (T4:=T4) (S:=S) (S':=S.take k) u h hS hdS hS1 hlo d 0 (Nat.zero_add d) ks
 simp only[Int.natCast_zero,List.take_zero,List.map_nil,rp2,lz6]at e3
 have hhl:(vs ((S.take d).map fun v=>hl6 (rowA F N k d v.toNat) (ndE q lost) d)).length≤1000:=by rw[fi2,List.length_map,List.length_take];omega
 obtain⟨r0,rows,hrows,hlen,hrl2⟩:=l12 (F:=F) h hS hkS
 rw[hrows]
 have hd16:d≤100000:=by omega
 have hq0:0<q:=by omega
 have e4:=fun b nl=>vv4 (b:=b) (nl:=nl) hrl (frm:=9) (q:=q) (by decide) (by decide) hq0 (N:=d) hd16
 have sg1:jj5 (.sl 2 3 1 (ivs (tv7 raw 9 q d))::gvT rows)=lvs 2 (tv7 raw 9 q d::rows):=by
  have:=ti7 rows
  rw[show lvs 2 (tv7 raw 9 q d::rows)= .sl 2 0 1 (ivs (tv7 raw 9 q d))::lvs 2 rows from rfl,jj5,this]
  congr 1
  show Tree.sl 2 0 1 (jj5 (ivs (tv7 raw 9 q d)))=_
  rw[ap3]
 have gl1:=n86 rows
 have gl2:(Tree.sl 2 3 1 (ivs (tv7 raw 9 q d))::gvT rows).length=(tv7 raw 9 q d::rows).length:=by rw[List.length_cons,gl1,List.length_cons]
 have hM:(tv7 raw 9 q d::rows).length≤1000:=by rw[List.length_cons];omega
 have hMl: ∀r∈tv7 raw 9 q d::rows,r.length≤9223372036854775807:=fun r hr=>by
  rcases List.mem_cons.1 hr with rfl|hr
  ·rw[jd5];omega
  ·exact hrl2 r (by simp[hr])
 have hg0:gvT (r0::rows)= .fz (.sl 2 0 1 (ivs r0))::gvT rows:=rfl
 have tl:=wh6 (p:=p) (m:=m) (g:=g) (t:=t) (q:=q) (N:=N) (k:=k) (d:=d) (lo:=(lost:Int)) (B:=u89 ((allF F N k d).map vs) (S.take k)) hS1 hkS hdS hhl hfl sg1 gl2 hM hMl
 obtain⟨rest,hr⟩: ∃rest,rest=seqR 20 c4:=⟨_,rfl⟩
 rw[←hr]at tl
 have hr':=hr
 unfold c4 at hr'
 simp only[seqR]at hr'
 unfold c4
 simp only[seqR]
 rw[←hr']
 clear hr hr' hrl2 hrows
 have ht:=u.n
 have ho:=u.o
 generalize (vs ((S.take d).map fun v=>hl6 (rowA F N k d v.toNat) (ndE q lost) d))=HP at*
 generalize u89 ((allF F N k d).map vs) (S.take k)=B at*
 generalize vs F=VF at*
 rw[hg0]
 generalize tv7 raw 9 q d=NV at*
 generalize gvT rows=G at*
 simp(disch:=first|omega|fail) only[push_cast,seval,vrl,if_pos,if_neg,e4,ht,ho]
 rw[e3]
 exact tl
theorem ey3(u:RFo q p m g t)(hrl:raw.length≤9223372036854775807)(h:PlanOK q N k d)(hF:F.length=h61 k d)(hSN:S.length=N)(hS: ∀v∈S,0≤v∧v<N){lost:Nat}(hlo:lost<N):
 vgo W ⟨h4,[.tmp 14],0⟩ [.code (seqR 17 c4)] (VFr.of [(0, .fz b (.sl nl 0 1 (ivs raw))),(1, .x (.int .i64 q)),(2, .x (.int .i64 N)),(3, .x (.int .i64 k)),(4, .x (.int .i64 d)),(5, .x (.int .i64 lost)),(6, .x (.bool tu)),(16, .own 0 []),(18, .own 1 []),(19, .own 2 []),(21, .own 3 []),(23, .own 4 [])]) [.pt 31 [.v (.int .i64 q), .v (.int .i64 p), .v (.int .i64 m), .v (.int .i64 g), .fz t], .sl 1 3 1 (ivs (vs F)), .sl 1 22 1 (u89 ((allF F N k d).map vs) (S.take k)), .sl 1 3 1 (ivs S), .sl 1 22 1 (gvT ((S.take k).map fun v=>nth ((allF F N k d).map vs) v.toNat))]=some (.x (.bool true),[],[]):=by
 cases tu with
 |false=>exact q91 u hrl h hF hSN hS hlo
 |true=>exact up8 u hrl h hF hSN hS hlo
end
theorem n03{raw:List Int}{b:Bool}{nl:Nat}(hl:raw.length≤9223372036854775807){q n k d lo:Int}{tu:Bool}(q1: -9223372036854775808≤q)(q2:q≤9223372036854775807)(n1: -9223372036854775808≤n)(n2:n≤9223372036854775807)(k1: -9223372036854775808≤k)(k2:k≤9223372036854775807)(d1: -9223372036854775808≤d)(d2:d≤9223372036854775807):
 o24 W 4 [.fz b (.sl nl 0 1 (ivs raw)), .x (.int .i64 q), .x (.int .i64 n), .x (.int .i64 k), .x (.int .i64 d), .x (.int .i64 lo), .x (.bool tu)] []=some (.x (.bool true),[],[]):=by
 by_cases h256:256<raw.length
 ·rw[o10 rfl T4 rfl]
  unfold F4 c4
  simp(disch:=first|omega|fail) only[push_cast,seval,vrl,if_pos,if_neg]
 ·have p0:=s88 q1 q2 (show(0:Int)<9 by omega)
  have hp0:=h59 (a:=q) (n:=9) (by omega)
  obtain⟨i,z,hj,hi,hz3,hz64,hfz,hat⟩:=bg8 hp0.1 hp0.2
  haveI:=hfz
  rw[hj]at p0
  unfold mszL at hat
  have w0:IntKind.wrap .i64 (z-1)=z-1:=wrap64 (by omega) (by omega)
  have p1:=s88 n1 n2 (show(0:Int)<z-1 by omega)
  have hp1:=h59 (a:=n) (n:=z-1) (by omega)
  have w1:IntKind.wrap .i64 (2+pkI n (z-1))=2+pkI n (z-1):=wrap64 (by omega) (by omega)
  obtain⟨zn,hzn⟩: ∃zn:Nat,z=(zn:Int):=⟨z.toNat,by omega⟩
  have fin: ∀(N:Nat),2≤N→N≤10→(N:Int)≤z→(if 10<2+pkI n (z-1)then 10 else 2+pkI n (z-1))=(N:Int)→o24 W 4 [.fz b (.sl nl 0 1 (ivs raw)), .x (.int .i64 q), .x (.int .i64 n), .x (.int .i64 k), .x (.int .i64 d), .x (.int .i64 lo), .x (.bool tu)] []=some (.x (.bool true),[],[]):=by
   intro N hN1 hN2 hNz hif
   have w2:IntKind.wrap .i64 ((N:Int)-1)=(N:Int)-1:=wrap64 (by omega) (by omega)
   have p2:=s88 d1 d2 (show(0:Int)<(N:Int)-1 by omega)
   have hp2:=h59 (a:=d) (n:=(N:Int)-1) (by omega)
   obtain⟨D,hD⟩: ∃D:Nat,(D:Int)=1+pkI d ((N:Int)-1):=⟨(1+pkI d ((N:Int)-1)).toNat,by omega⟩
   have w3:IntKind.wrap .i64 (1+pkI d ((N:Int)-1))=(D:Int):=by rw[wrap64 (by omega) (by omega)];omega
   have p3:=s88 k1 k2 (show(0:Int)<(D:Int) by omega)
   have hp3:=h59 (a:=k) (n:=(D:Int)) (by omega)
   obtain⟨K,hK⟩: ∃K:Nat,(K:Int)=1+pkI k (D:Int):=⟨(1+pkI k (D:Int)).toNat,by omega⟩
   have w4:IntKind.wrap .i64 (1+pkI k (D:Int))=(K:Int):=by rw[wrap64 (by omega) (by omega)];omega
   have hPO:PlanOK z (N:Int) K D:=⟨by omega,by omega,by omega,by omega,by omega,by omega⟩
   obtain⟨p,m,g,t,u⟩:=k75 z
   have e0:=uw8 (q:=z)
   rw[u.e]at e0
   have ht:=u.n
   have ho:=u.o
   have e2:=gs5 hPO
   have hsz:=size_le hPO
   obtain⟨F,hF,hFl⟩:=m61 (raw:=raw) (frm:=0) (q:=z) (n:=h61 K D) (by omega)
   have e3:=fun b nl=>vv4 (b:=b) (nl:=nl) hl (frm:=0) (q:=z) (by omega) (by omega) (by omega) (N:=h61 K D) (by omega)
   rw[hF]at e3
   have e4:=fun b nl=>ta9 (b:=b) (nl:=nl) hPO hFl
   simp only[u.e]at e4
   obtain⟨L,l1,e5⟩:=o01 hl (q:=zn) (by omega)
   rw[←hzn]at e5
   have lz:L.length=zn:=by rw[l1.length_eq,im5,List.length_range]
   obtain⟨s1,s2,s3⟩:=m59 (N:=N) (q:=zn) (by omega) l1
   have e6:=fun T1 T2 ks=>cz2 (q:=z) (p:=p) (m:=m) (g:=g) (t:=t) (b:=b) (nl:=nl) (tu:=tu) (T1:=T1) (T2:=T2) (L:=L) (by omega) (by omega) hl (N:=N) (k:=(K:Int)) (d:=(D:Int)) L.length 0 (by omega) ks
   simp only[Int.natCast_zero,List.take_zero,show ndsL N []=[]from rfl,lz6]at e6
   obtain⟨v,hv⟩:=ge6 (l:=ndsL N L) (i:=N-1) (by omega)
   obtain⟨v0,v1⟩:=s3 v (List.mem_of_getElem? hv)
   obtain⟨W0,rfl⟩: ∃W0:Nat,v=W0:=⟨v.toNat,by omega⟩
   have i0:=iat hv
   have hNm:((N:Int)-1).toNat=N-1:=by omega
   have hal:=xe2 (F:=F) (k:=K) (d:=D) (N:=N)
   have e7:=fun T1 ks=>tb0 (q:=z) (p:=p) (m:=m) (g:=g) (t:=t) (b:=b) (nl:=nl) (raw:=raw) (tu:=tu) (T1:=T1) (A:=(allF F N K D).map vs) (S:=ndsL N L) (by omega) (by rw[hal];exact s3) s2 (k:=K) (by omega) (by omega) (n:=(N:Int)) (d:=(D:Int)) (lo:=(W0:Int)) K 0 (by omega) ks
   simp only[Int.natCast_zero,List.take_zero,List.map_nil,kt6,show gvT []=[]from rfl]at e7
   have tail:=ey3 (F:=F) (b:=b) (nl:=nl) (tu:=tu) u hl hPO hFl s1 s3 (lost:=W0) (by omega)
   generalize hAA:(allF F N K D).map vs=AA at*
   generalize ndsL N L=NL at*
   generalize vs F=VF at*
   clear hj l1 s2 s3 hF
   rw[o10 rfl T4 rfl]
   unfold F4 c4
   by_cases hlt:10<2+pkI n (z-1)
   ·rw[if_pos hlt]at hif
    have hN12:(10:Int)=(N:Int):=by omega
    rw[hN12]at hlt
    simp(disch:=first|omega|fail) only[push_cast,seval,vrl,if_pos,if_neg,p0,hat,w0,p1,w1,hN12,dec_lt hlt,w2,p2,w3,p3,w4,e0,ht,ho,e2,e3,e4,e5]
    rw[e6]
    simp(disch:=first|omega|fail) only[push_cast,seval,vrl,if_pos,if_neg,s1,i0,hNm]
    rw[e7]
    exact tail
   ·rw[if_neg hlt]at hif
    replace w1:=w1.trans hif
    rw[hif]at hlt
    simp(disch:=first|omega|fail) only[push_cast,seval,vrl,if_pos,if_neg,p0,hat,w0,p1,w1,cw6 (Int.not_lt.1 hlt),w2,p2,w3,p3,w4,e0,ht,ho,e2,e3,e4,e5]
    rw[e6]
    simp(disch:=first|omega|fail) only[push_cast,seval,vrl,if_pos,if_neg,s1,i0,hNm]
    rw[e7]
    exact tail
  by_cases hlt:10<2+pkI n (z-1)
  ·exact fin 10 (by omega) (by omega) (by omega) (by rw[if_pos hlt];rfl)
  ·exact fin (2+pkI n (z-1)).toNat (by omega) (by omega) (by omega) (by rw[if_neg hlt];omega)
section
variable {h:H} {l:List AV} {ws:List Value}
theorem a23:Vm.VRL h [] (allZ h) (allZ h) [] []:=by rw[Vm.VRL]
theorem dp0(r:Vm.VRL h [] (allZ h) (allZ h) l ws)(v:Value):Vm.VRL h [] (allZ h) (allZ h) (.x v::l) (v::ws):=by
 rw[Vm.VRL];exact⟨v,ws,rfl,by rw[Vm.VR],r⟩
theorem qj4{sa:Option Addr}{c:Nat}{zs:List Int}(hr:RdI h sa c zs): ∀o,sa.map (·.block)=some o→allZ h o:=fun o ho=>by
 rcases hr with⟨rfl,_⟩|⟨_,o2,off,r2,rfl,h1,_⟩
 ·cases ho
 ·cases ho;exact h43 h1
theorem sk6(r:Vm.VRL h [] (allZ h) (allZ h) l ws){sa:Option Addr}{c:Nat}{zs:List Int}(hr:RdI h sa c zs):Vm.VRL h [] (allZ h) (allZ h) (.fz true (.sl 2 0 1 (ivs zs))::l) (.slice sa zs.length c::ws):=by
 rw[Vm.VRL];exact⟨_,ws,rfl,by rw[Vm.VR];exact pd9 hr (qj4 hr),r⟩
end
theorem ks9(h:H)(s0:Option Addr)(c0:Nat)(z0:List Int)(r0:RdI h s0 c0 z0)(_:ss4 h 1 s0=true)(_:z0.length≤9223372036854775807)(a1:Int)(_: -9223372036854775808≤a1)(_:a1≤9223372036854775807)(a2:Int)(_: -9223372036854775808≤a2)(_:a2≤9223372036854775807)(a3:Int)(_: -9223372036854775808≤a3)(_:a3≤9223372036854775807)(a4:Int)(_: -9223372036854775808≤a4)(_:a4≤9223372036854775807)(a5:Int)(_: -9223372036854775808≤a5)(_:a5≤9223372036854775807)(a6:Bool):
 ∃h',call T 4 [.slice s0 z0.length c0, .int .i64 a1, .int .i64 a2, .int .i64 a3, .int .i64 a4, .int .i64 a5, .bool a6] h=some (.bool true,h'):=
 vlaw lw2 (sk6 (dp0 (dp0 (dp0 (dp0 (dp0 (dp0 a23 _) _) _) _) _) _) r0) (by apply n03<;>assumption)
end Go.Proofs.YtmhbpecdpiapgaaGreat
