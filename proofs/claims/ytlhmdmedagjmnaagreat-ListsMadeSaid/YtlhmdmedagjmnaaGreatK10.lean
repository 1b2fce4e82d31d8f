/-
  The law of lists answers true, in the second machine. Conditions: arguments as Go has them.
  The law ListsMade answers true, in the second machine. Conditions: arguments as Go has them.
  A law's arguments in the second machine. No condition.
  ListsMade answers true, in the first machine. Conditions: arguments as memory has them.
-/
import Derived.Test.YtlhmdmedagjmnaaGreatK9
import Derived.Test.YtlhmdmedagjmnaaGreatK8
set_option linter.unusedVariables false
set_option linter.unusedSimpArgs false
set_option linter.unusedSectionVars false
set_option maxRecDepth 100000
namespace Go.Proofs.YtlhmdmedagjmnaaGreat
open Go.Am Go.Vm Go.Alg
section
variable {q:Int} [IsFld q]
theorem ua9(P:List (El q×El q))(r:Int){K:Nat}: ∀(n:Nat) (z:List (El q)) (acc:List (List (El q))),z.length=K→(∀a∈acc,a.length=K)→(nrL P r n z acc).length≤acc.length+n+1∧ ∀a∈nrL P r n z acc,a.length=K:=by
 have had: ∀(z:List (El q)) (acc:List (List (El q))),z.length=K→(∀a∈acc,a.length=K)→ ∀a∈adNr P r z acc,a.length=K:=fun z acc hz ha a h=>by
  unfold adNr at h
  split at h
  ·rcases List.mem_append.1 h with h|h
   ·exact ha a h
   ·rw[List.mem_singleton]at h
    subst h;exact hz
  ·exact ha a h
 intro n
 induction n with
 |zero=>
  intro z acc hz ha
  rw[nrL]
  exact⟨az7 ..,had z acc hz ha⟩
 |succ n IH=>
  intro z acc hz ha
  rw[nrL]
  obtain⟨h1,h2⟩:=IH (yv5 z) (adNr P r z acc) (by rw[l71,hz]) (had z acc hz ha)
  have:=az7 P r z acc
  exact⟨by omega,h2⟩
theorem o26{P:List (El q×El q)}{r:Int}{K:Nat}(hf:fewQ q K 1=true):(g06 P r K).length≤4097∧ ∀a∈g06 P r K,a.length=K:=by
 obtain⟨h1,h2⟩:=ua9 P r (q.toNat^K-1) (K:=K) (List.replicate K (0:El q)) [] (by simp) (fun a h=>by cases h)
 have:=d73 hf
 refine⟨?_,h2⟩
 unfold g06
 simp only[List.length_nil]at h1
 omega
theorem oy4(a:List (El q)): ∀(l:List (Nat×Nat)) (n:Nat) (G:List (List (El q))),(∀r∈G,r.length≤n)→(grpG a l n G).length≤G.length+l.length∧ ∀r∈grpG a l n G,r.length≤n+l.length
 | [],n,G,h=>⟨Nat.le_refl _,h⟩
 |p::l,n,G,h=>by
  rw[grpG]
  have hs:=cl3 G p.2 (wf a n)
  have hr: ∀r∈stepG G p.2 (wf a n),r.length≤n+1:=by
   intro r hr
   unfold stepG putG at hr
   have hH: ∀r∈(if p.2=G.length then G++[[]]else G),r.length≤n:=by
    intro r hr
    split at hr
    ·rcases List.mem_append.1 hr with h1|h1
     ·exact h r h1
     ·rw[List.mem_singleton]at h1
      subst h1;simp
    ·exact h r hr
   generalize (if p.2=G.length then G++[[]]else G)=H at*
   rcases List.mem_or_eq_of_mem_set hr with h1|h1
   ·have:=hH r h1;omega
   ·subst h1
    rw[List.length_append,List.length_singleton,List.getD_eq_getElem?_getD]
    cases hj:H[p.2]? with
    |none=>simp
    |some r0=>have:=hH r0 (List.mem_of_getElem? hj);simp;omega
  obtain⟨h1,h2⟩:=oy4 a l (n+1) _ hr
  rw[List.length_cons]
  refine⟨?_,fun r hr=>by have:=h2 r hr;omega⟩
  split at hs<;>omega
theorem dn4{X Y:List (El q)}{K t:Nat}{a:List (El q)}:(sudG X Y K t a).length≤64∧ ∀r∈sudG X Y K t a,r.length≤64:=by
 have hM:=da6 (K-1) t
 obtain⟨h1,h2⟩:=oy4 a (monL (K-1) t) 0 [] (fun r h=>by cases h)
 simp only[List.length_nil]at h1
 exact⟨by unfold sudG;omega,fun r hr=>by have:=h2 r hr;omega⟩
end
theorem gg8{q:Int}{N:List (List (El q))}{n:Nat}(hr: ∀r∈N,r.length=n)(hn:n≤100000): ∀r∈N.map vs,r.length≤9223372036854775807:=fun c hc=>by
 obtain⟨r,hr',rfl⟩:=List.mem_map.1 hc
 rw[fi2,hr r hr'];omega
theorem ou7{q:Int}{N:List (List (El q))}(hr: ∀r∈N,r.length≤64): ∀r∈N.map vs,r.length≤9223372036854775807:=fun c hc=>by
 obtain⟨r,hr',rfl⟩:=List.mem_map.1 hc
 have:=hr r hr'
 rw[fi2];omega
theorem m38{l:List (List Int)}{e:Int}(hl:l.length≤9223372036854775807)(hr: ∀r∈l,r.length≤9223372036854775807)(he:e≠0→l=[])(b b':Bool)(nl nl' nr nr':Nat):o24 W 53 [.fz b (.sl nl 0 1 (lvs nr l)), .x (.int .i64 e), .fz b' (.sl nl' 0 1 (lvs nr' l)), .x (.int .i64 e)] []=some (.x (.bool true),[],[]):=by
 rw[dy0 hl hr]
 by_cases h:e=0
 ·rw[if_pos h,decide_eq_true h,decide_eq_true rfl];rfl
 ·rw[if_neg h,decide_eq_true rfl,he h];rfl
section
variable {q k r t:Int} {b b':Bool} {nl nl':Nat} {xs w:List Int}
theorem n70(hx:xs.length≤9223372036854775807)(hw:w.length≤9223372036854775807)(h3: ¬200<IntKind.wrap .i64 ((xs.length:Int)+(w.length:Int)))(he:ky7 q xs k w=0)(hfw:fewQ q k.toNat 1=true):
 o24 W 58 [.x (.int .i64 q), .fz b (.sl nl 0 1 (ivs xs)), .x (.int .i64 k), .fz b' (.sl nl' 0 1 (ivs w)), .x (.int .i64 r), .x (.int .i64 t)] []=some (.x (.bool true),[],[]):=by
 have h3':=cw6 (Int.not_lt.1 h3)
 have e1:=fun b nl b' nl'=>ip4 (q:=q) (b:=b) (nl:=nl) (b':=b') (nl':=nl') (k:=k) hx hw
 have n9:=fun(e:Int) b b' nl nl'=>m38 (l:=[]) (e:=e) (by simp) (by simp) (fun _=>rfl) b b' nl nl' 0 0
 simp only[show lvs 0 []=[]from rfl]at n9
 rw[o10 rfl T58 rfl]
 unfold F58 c58
 simp(disch:=first|omega|fail) only[push_cast,seval,ui5,lu7,y81,bj9,wrap64,dec_lt,cw6,nl3,qc6,mr8,nb8,if_pos,if_neg,h3',e1]
 obtain⟨hf,X,Y,K,rfl,rfl,rfl,hn,hYX,hX,hK1,hK⟩:=dp1 he
 have hq:=aw0 (q:=q)
 have hqh:=q_hi (q:=q)
 have e2:=os1 (q:=q) (k:=K) (by omega) hqh (by omega)
 obtain⟨p,m,g,tr,u⟩:=k75 q
 have ht:=u.n
 have ho:=u.o
 have e0:o24 W 38 [.x (.int .i64 q)] []=_:=uw8
 rw[u.e]at e0
 rw[Int.toNat_natCast]at hfw
 rw[hfw]at e2
 have e3:=fun b nl b' nl'=>qn2 (b:=b) (nl:=nl) (b':=b') (nl':=nl') (r:=r) hYX hX (show K≤64 by omega) hfw
 rw[u.e]at e3
 have e4:=fun b nl b' nl'=>zt1 (b:=b) (nl:=nl) (b':=b') (nl':=nl') (r:=r) hn hYX hX hK1 hK hfw
 obtain⟨z1,z2⟩:=o26 (P:=X.zip Y) (r:=r) hfw
 have e5:=m38 (l:=(g06 (X.zip Y) r K).map vs) (e:=0) (by rw[List.length_map];omega) (gg8 z2 (by omega)) (fun h=>absurd rfl h)
 simp(disch:=first|omega|fail) only[push_cast,seval,ui5,lu7,y81,bj9,wrap64,dec_lt,cw6,nl3,qc6,mr8,nb8,if_pos,if_neg,he,e2,e0,ht,ho,e3,e4,e5]
 by_cases hc:(K:Int)<2∨t<1∨(X.length:Int)<t
 ·have hse:sudE q (vs X) K (vs Y) t=6:=by unfold sudE;rw[if_pos he,fi2,if_pos hc]
  have e6:=fun b nl b' nl'=>zb3 (b:=b) (nl:=nl) (b':=b') (nl':=nl') (q:=q) (xs:=vs X) (k:=K) (w:=vs Y) (t:=t) hx hw (by rw[hse];decide)
  rw[hse]at e6
  by_cases c1:(K:Int)<2
  ·simp(disch:=first|omega|fail) only[push_cast,seval,ui5,lu7,y81,bj9,wrap64,dec_lt,cw6,nl3,qc6,mr8,nb8,if_pos,if_neg,dec_lt c1,e6,n9]
  ·by_cases c2:t<1
   ·simp(disch:=first|omega|fail) only[push_cast,seval,ui5,lu7,y81,bj9,wrap64,dec_lt,cw6,nl3,qc6,mr8,nb8,if_pos,if_neg,cw6 (Int.not_lt.1 c1),dec_lt c2,e6,n9]
   ·have c3:(X.length:Int)<t:=by omega
    simp(disch:=first|omega|fail) only[push_cast,seval,ui5,lu7,y81,bj9,wrap64,dec_lt,cw6,nl3,qc6,mr8,nb8,if_pos,if_neg,cw6 (Int.not_lt.1 c1),cw6 (Int.not_lt.1 c2),dec_lt c3,e6,n9]
 ·obtain⟨t0,rfl⟩: ∃t0:Nat,t=(t0:Int):=⟨t.toNat,by omega⟩
  have c1: ¬(K:Int)<2:=by omega
  have c2: ¬(t0:Int)<1:=by omega
  have c3: ¬(X.length:Int)<(t0:Int):=by omega
  have e7:=fun b nl b' nl'=>dp9 (b:=b) (nl:=nl) (b':=b') (nl':=nl') (X:=X) (Y:=Y) (K:=K) (t:=t0) hYX hX hK (by omega) (by omega) (by omega)
  have e8:=fun b nl b' nl'=>mp7 (b:=b) (nl:=nl) (b':=b') (nl':=nl') (X:=X) (Y:=Y) (K:=K) (t:=t0) he hYX hX hK (by omega) (by omega) (by omega)
  rw[u.e]at e7
  cases hA:(sudA X Y K t0)[0]? with
  |none=>
   simp only[hA]at e7 e8
   simp(disch:=first|omega|fail) only[push_cast,seval,ui5,lu7,y81,bj9,wrap64,dec_lt,cw6,nl3,qc6,mr8,nb8,if_pos,if_neg,cw6 (Int.not_lt.1 c1),cw6 (Int.not_lt.1 c2),cw6 (Int.not_lt.1 c3),ht,ho,e7,e8,n9]
  |some a=>
   simp only[hA]at e7 e8
   obtain⟨y1,y2⟩:=dn4 (X:=X) (Y:=Y) (K:=K) (t:=t0) (a:=a.2)
   have e9:=m38 (l:=(sudG X Y K t0 a.2).map vs) (e:=0) (by rw[List.length_map];omega) (ou7 y2) (fun h=>absurd rfl h)
   simp(disch:=first|omega|fail) only[push_cast,seval,ui5,lu7,y81,bj9,wrap64,dec_lt,cw6,nl3,qc6,mr8,nb8,if_pos,if_neg,cw6 (Int.not_lt.1 c1),cw6 (Int.not_lt.1 c2),cw6 (Int.not_lt.1 c3),ht,ho,e7,e8,e9]
theorem u48(hx:xs.length≤9223372036854775807)(hw:w.length≤9223372036854775807)(h3: ¬200<IntKind.wrap .i64 ((xs.length:Int)+(w.length:Int)))(he:ky7 q xs k w=0)(hfw: ¬fewQ q k.toNat 1=true):
 o24 W 58 [.x (.int .i64 q), .fz b (.sl nl 0 1 (ivs xs)), .x (.int .i64 k), .fz b' (.sl nl' 0 1 (ivs w)), .x (.int .i64 r), .x (.int .i64 t)] []=some (.x (.bool true),[],[]):=by
 have h3':=cw6 (Int.not_lt.1 h3)
 have e1:=fun b nl b' nl'=>ip4 (q:=q) (b:=b) (nl:=nl) (b':=b') (nl':=nl') (k:=k) hx hw
 have n9:=fun(e:Int) b b' nl nl'=>m38 (l:=[]) (e:=e) (by simp) (by simp) (fun _=>rfl) b b' nl nl' 0 0
 simp only[show lvs 0 []=[]from rfl]at n9
 rw[o10 rfl T58 rfl]
 unfold F58 c58
 simp(disch:=first|omega|fail) only[push_cast,seval,ui5,lu7,y81,bj9,wrap64,dec_lt,cw6,nl3,qc6,mr8,nb8,if_pos,if_neg,h3',e1]
 obtain⟨hf,X,Y,K,rfl,rfl,rfl,hn,hYX,hX,hK1,hK⟩:=dp1 he
 have hq:=aw0 (q:=q)
 have hqh:=q_hi (q:=q)
 have e2:=os1 (q:=q) (k:=K) (by omega) hqh (by omega)
 obtain⟨p,m,g,tr,u⟩:=k75 q
 have ht:=u.n
 have ho:=u.o
 have e0:o24 W 38 [.x (.int .i64 q)] []=_:=uw8
 rw[u.e]at e0
 rw[Int.toNat_natCast]at hfw
 rw[Bool.not_eq_true]at hfw
 rw[hfw]at e2
 have hwe:ie2 q (vs X) K (vs Y)=4:=by unfold ie2;rw[if_pos he,Int.toNat_natCast,hfw];rfl
 have e4:=fun b nl b' nl'=>f69 (b:=b) (nl:=nl) (b':=b') (nl':=nl') (r:=r) (q:=q) (xs:=vs X) (k:=K) (w:=vs Y) hx hw (by rw[hwe];decide)
 rw[hwe]at e4
 simp(disch:=first|omega|fail) only[push_cast,seval,ui5,lu7,y81,bj9,wrap64,dec_lt,cw6,nl3,qc6,mr8,nb8,if_pos,if_neg,he,e2,e0,ht,ho,e4,n9]
 by_cases hc:(K:Int)<2∨t<1∨(X.length:Int)<t
 ·have hse:sudE q (vs X) K (vs Y) t=6:=by unfold sudE;rw[if_pos he,fi2,if_pos hc]
  have e6:=fun b nl b' nl'=>zb3 (b:=b) (nl:=nl) (b':=b') (nl':=nl') (q:=q) (xs:=vs X) (k:=K) (w:=vs Y) (t:=t) hx hw (by rw[hse];decide)
  rw[hse]at e6
  by_cases c1:(K:Int)<2
  ·simp(disch:=first|omega|fail) only[push_cast,seval,ui5,lu7,y81,bj9,wrap64,dec_lt,cw6,nl3,qc6,mr8,nb8,if_pos,if_neg,dec_lt c1,e6,n9]
  ·by_cases c2:t<1
   ·simp(disch:=first|omega|fail) only[push_cast,seval,ui5,lu7,y81,bj9,wrap64,dec_lt,cw6,nl3,qc6,mr8,nb8,if_pos,if_neg,cw6 (Int.not_lt.1 c1),dec_lt c2,e6,n9]
   ·have c3:(X.length:Int)<t:=by omega
    simp(disch:=first|omega|fail) only[push_cast,seval,ui5,lu7,y81,bj9,wrap64,dec_lt,cw6,nl3,qc6,mr8,nb8,if_pos,if_neg,cw6 (Int.not_lt.1 c1),cw6 (Int.not_lt.1 c2),dec_lt c3,e6,n9]
 ·obtain⟨t0,rfl⟩: ∃t0:Nat,t=(t0:Int):=⟨t.toNat,by omega⟩
  have c1: ¬(K:Int)<2:=by omega
  have c2: ¬(t0:Int)<1:=by omega
  have c3: ¬(X.length:Int)<(t0:Int):=by omega
  have e7:=fun b nl b' nl'=>dp9 (b:=b) (nl:=nl) (b':=b') (nl':=nl') (X:=X) (Y:=Y) (K:=K) (t:=t0) hYX hX hK (by omega) (by omega) (by omega)
  have e8:=fun b nl b' nl'=>mp7 (b:=b) (nl:=nl) (b':=b') (nl':=nl') (X:=X) (Y:=Y) (K:=K) (t:=t0) he hYX hX hK (by omega) (by omega) (by omega)
  rw[u.e]at e7
  cases hA:(sudA X Y K t0)[0]? with
  |none=>
   simp only[hA]at e7 e8
   simp(disch:=first|omega|fail) only[push_cast,seval,ui5,lu7,y81,bj9,wrap64,dec_lt,cw6,nl3,qc6,mr8,nb8,if_pos,if_neg,cw6 (Int.not_lt.1 c1),cw6 (Int.not_lt.1 c2),cw6 (Int.not_lt.1 c3),ht,ho,e7,e8,n9]
  |some a=>
   simp only[hA]at e7 e8
   obtain⟨y1,y2⟩:=dn4 (X:=X) (Y:=Y) (K:=K) (t:=t0) (a:=a.2)
   have e9:=m38 (l:=(sudG X Y K t0 a.2).map vs) (e:=0) (by rw[List.length_map];omega) (ou7 y2) (fun h=>absurd rfl h)
   simp(disch:=first|omega|fail) only[push_cast,seval,ui5,lu7,y81,bj9,wrap64,dec_lt,cw6,nl3,qc6,mr8,nb8,if_pos,if_neg,cw6 (Int.not_lt.1 c1),cw6 (Int.not_lt.1 c2),cw6 (Int.not_lt.1 c3),ht,ho,e7,e8,e9]
theorem as3(hx:xs.length≤9223372036854775807)(hw:w.length≤9223372036854775807)(h3: ¬200<IntKind.wrap .i64 ((xs.length:Int)+(w.length:Int)))(he: ¬ky7 q xs k w=0):
 o24 W 58 [.x (.int .i64 q), .fz b (.sl nl 0 1 (ivs xs)), .x (.int .i64 k), .fz b' (.sl nl' 0 1 (ivs w)), .x (.int .i64 r), .x (.int .i64 t)] []=some (.x (.bool true),[],[]):=by
 have h3':=cw6 (Int.not_lt.1 h3)
 have e1:=fun b nl b' nl'=>ip4 (q:=q) (b:=b) (nl:=nl) (b':=b') (nl':=nl') (k:=k) hx hw
 have n9:=fun(e:Int) b b' nl nl'=>m38 (l:=[]) (e:=e) (by simp) (by simp) (fun _=>rfl) b b' nl nl' 0 0
 simp only[show lvs 0 []=[]from rfl]at n9
 rw[o10 rfl T58 rfl]
 unfold F58 c58
 simp(disch:=first|omega|fail) only[push_cast,seval,ui5,lu7,y81,bj9,wrap64,dec_lt,cw6,nl3,qc6,mr8,nb8,if_pos,if_neg,h3',e1]
 have hwe:ie2 q xs k w=ky7 q xs k w:=by unfold ie2;rw[if_neg he]
 have hse:sudE q xs k w t=ky7 q xs k w:=by unfold sudE;rw[if_neg he]
 have e4:=fun b nl b' nl'=>f69 (b:=b) (nl:=nl) (b':=b') (nl':=nl') (r:=r) (q:=q) (xs:=xs) (k:=k) (w:=w) hx hw (by rw[hwe];exact he)
 have e6:=fun b nl b' nl'=>zb3 (b:=b) (nl:=nl) (b':=b') (nl':=nl') (q:=q) (xs:=xs) (k:=k) (w:=w) (t:=t) hx hw (by rw[hse];exact he)
 rw[hwe]at e4
 rw[hse]at e6
 cases hn:fldN q.toNat with
 |none=>
  have e0:=fg0 hn
  simp(disch:=first|omega|fail) only[push_cast,seval,ui5,lu7,y81,bj9,wrap64,dec_lt,cw6,nl3,qc6,mr8,nb8,if_pos,if_neg,nb8 he,e0,e4,e6,n9]
 |some x=>
  obtain⟨p0,m0,g0,mod⟩:=x
  haveI:IsFld q:=⟨⟨p0,m0,g0,mod,hn⟩⟩
  obtain⟨p,m,g,tr,u⟩:=k75 q
  have ht:=u.n
  have ho:=u.o
  have e0:o24 W 38 [.x (.int .i64 q)] []=_:=uw8
  rw[u.e]at e0
  simp(disch:=first|omega|fail) only[push_cast,seval,ui5,lu7,y81,bj9,wrap64,dec_lt,cw6,nl3,qc6,mr8,nb8,if_pos,if_neg,nb8 he,e0,ht,ho,e4,e6,n9]
theorem hz6(hx:xs.length≤9223372036854775807)(hw:w.length≤9223372036854775807):
 o24 W 58 [.x (.int .i64 q), .fz b (.sl nl 0 1 (ivs xs)), .x (.int .i64 k), .fz b' (.sl nl' 0 1 (ivs w)), .x (.int .i64 r), .x (.int .i64 t)] []=some (.x (.bool true),[],[]):=by
 by_cases h3:200<IntKind.wrap .i64 ((xs.length:Int)+(w.length:Int))
 ·rw[o10 rfl T58 rfl]
  unfold F58 c58
  simp(disch:=first|omega|fail) only[push_cast,seval,ui5,lu7,y81,bj9,wrap64,dec_lt,cw6,nl3,qc6,mr8,nb8,if_pos,if_neg,dec_lt h3]
 ·by_cases he:ky7 q xs k w=0
  ·by_cases hfw:fewQ q k.toNat 1=true
   ·exact n70 hx hw h3 he hfw
   ·exact u48 hx hw h3 he hfw
  ·exact as3 hx hw h3 he
end
end Go.Proofs.YtlhmdmedagjmnaaGreat
namespace Go.Proofs.YtlhmdmedagjmnaaGreat
open Go.Am Go.Vm Go.Alg
section
variable {raw:List Int} {b:Bool} {nl:Nat}
theorem c70{j:Int}(h0:0≤j)(h1:j<8): ∃(i:Nat) (z:Int),j=(i:Int)∧i<8∧3≤z∧z≤13∧[Tree.v (.int .i64 3),Tree.v (.int .i64 4),Tree.v (.int .i64 5),Tree.v (.int .i64 7),Tree.v (.int .i64 8),Tree.v (.int .i64 9),Tree.v (.int .i64 11),Tree.v (.int .i64 13)][i]? =some (Tree.v (.int .i64 z)):=by
 obtain⟨i,rfl⟩: ∃i:Nat,j=(i:Int):=⟨j.toNat,by omega⟩
 have:i=0∨i=1∨i=2∨i=3∨i=4∨i=5∨i=6∨i=7:=by omega
 rcases this with rfl|rfl|rfl|rfl|rfl|rfl|rfl|rfl
 ·exact⟨0,3,rfl,by decide,by decide,by decide,rfl⟩
 ·exact⟨1,4,rfl,by decide,by decide,by decide,rfl⟩
 ·exact⟨2,5,rfl,by decide,by decide,by decide,rfl⟩
 ·exact⟨3,7,rfl,by decide,by decide,by decide,rfl⟩
 ·exact⟨4,8,rfl,by decide,by decide,by decide,rfl⟩
 ·exact⟨5,9,rfl,by decide,by decide,by decide,rfl⟩
 ·exact⟨6,11,rfl,by decide,by decide,by decide,rfl⟩
 ·exact⟨7,13,rfl,by decide,by decide,by decide,rfl⟩
theorem xe0(hl:raw.length≤9223372036854775807){q n k r tu:Int}(q1: -9223372036854775808≤q)(q2:q≤9223372036854775807)(n1: -9223372036854775808≤n)(n2:n≤9223372036854775807)(k1: -9223372036854775808≤k)(k2:k≤9223372036854775807)(r1: -9223372036854775808≤r)(r2:r≤9223372036854775807)(t1: -9223372036854775808≤tu)(t2:tu≤9223372036854775807):
 o24 W 9 [.fz b (.sl nl 0 1 (ivs raw)), .x (.int .i64 q), .x (.int .i64 n), .x (.int .i64 k), .x (.int .i64 r), .x (.int .i64 tu)] []=some (.x (.bool true),[],[]):=by
 by_cases h256:256<raw.length
 ·rw[o10 rfl T9 rfl]
  unfold F9 c9
  simp(disch:=first|omega|fail) only[push_cast,seval,ui5,lu7,y81,bj9,wrap64,dec_lt,cw6,nl3,qc6,mr8,nb8,if_pos,if_neg]
 ·have p1:=s88 q1 q2 (show(0:Int)<8 by omega)
  have hp:=h59 (a:=q) (n:=8) (by omega)
  obtain⟨j,z,hj,hj8,z1,z2,hz⟩:=c70 hp.1 hp.2
  rw[hj]at p1
  have p2:=s88 n1 n2 (show(0:Int)<z-1 by omega)
  have hn:=h59 (a:=n) (n:=z-1) (by omega)
  obtain⟨N,hN⟩: ∃N:Nat,2+pkI n (z-1)=(N:Int):=⟨(2+pkI n (z-1)).toNat,by omega⟩
  have p3:=s88 k1 k2 (show(0:Int)<2 by omega)
  have hk:=h59 (a:=k) (n:=2) (by omega)
  have p4:=s88 r1 r2 (show(0:Int)<(N:Int) by omega)
  have p5:=s88 t1 t2 (show(0:Int)<(N:Int) by omega)
  have ht:=h59 (a:=tu) (n:=(N:Int)) (by omega)
  have s1:=fun b nl=>vv4 (b:=b) (nl:=nl) hl (frm:=3) (q:=z) (by omega) (by omega) (by omega) (N:=N) (by omega)
  have hnl:=jd5 raw 3 z N
  obtain⟨zn,hzn⟩: ∃zn:Nat,z=(zn:Int):=⟨z.toNat,by omega⟩
  obtain⟨X,g1,g2,g3,g4⟩:=mz4 hl (q:=zn) (n:=N) (by omega) (by omega)
  rw[←hzn]at g3 g4
  have e9:=fun b nl b' nl'=>hz6 (b:=b) (nl:=nl) (b':=b') (nl':=nl') (q:=z) (k:=1+pkI k 2) (r:=pkI r (N:Int)) (t:=1+pkI tu (N:Int)) (xs:=X) (w:=tv7 raw 3 z N) (by omega) (by omega)
  have h256': ¬256<(raw.length:Int):=by omega
  generalize pkI n (z-1)=A at*
  generalize pkI k 2=K at*
  generalize pkI tu (N:Int)=U at*
  generalize tv7 raw 3 z N=w at*
  have hkK:1+K≤2:=by omega
  have hUu:1+U≤N:=by omega
  rw[o10 rfl T9 rfl]
  unfold F9 c9
  simp(disch:=first|omega|fail) only[push_cast,seval,ui5,lu7,y81,bj9,wrap64,dec_lt,cw6,nl3,qc6,mr8,nb8,if_pos,if_neg,p1,hz,p2,hN,p3,p4,p5,s1,g4,e9]
end
end Go.Proofs.YtlhmdmedagjmnaaGreat
namespace Go.Proofs.YtlhmdmedagjmnaaGreat
open Go.Am Go.Vm Go.Alg
section
variable {h:H} {l:List AV} {ws:List Value}
theorem a23:Vm.VRL h [] (allZ h) (allZ h) [] []:=by rw[Vm.VRL]
theorem dp0(r:Vm.VRL h [] (allZ h) (allZ h) l ws)(v:Value):Vm.VRL h [] (allZ h) (allZ h) (.x v::l) (v::ws):=by
 rw[Vm.VRL];exact⟨v,ws,rfl,by rw[Vm.VR],r⟩
theorem qj4{sa:Option Addr}{c:Nat}{zs:List Int}(hr:RdI h sa c zs): ∀o,sa.map (·.block)=some o→allZ h o:=fun o ho=>by
 rcases hr with⟨rfl,_⟩|⟨_,o2,off,r2,rfl,h1,_⟩
 ·cases ho
 ·cases ho;exact h42 h1
theorem sk6(r:Vm.VRL h [] (allZ h) (allZ h) l ws){sa:Option Addr}{c:Nat}{zs:List Int}(hr:RdI h sa c zs):Vm.VRL h [] (allZ h) (allZ h) (.fz true (.sl 2 0 1 (ivs zs))::l) (.slice sa zs.length c::ws):=by
 rw[Vm.VRL];exact⟨_,ws,rfl,by rw[Vm.VR];exact pd9 hr (qj4 hr),r⟩
end
end Go.Proofs.YtlhmdmedagjmnaaGreat
namespace Go.Proofs.YtlhmdmedagjmnaaGreat
open Go.Am Go.Vm Go.Alg
theorem wt3(h:H)(s0:Option Addr)(c0:Nat)(z0:List Int)(r0:RdI h s0 c0 z0)(_:ss4 h 1 s0=true)(_:z0.length≤9223372036854775807)(a1:Int)(_: -9223372036854775808≤a1)(_:a1≤9223372036854775807)(a2:Int)(_: -9223372036854775808≤a2)(_:a2≤9223372036854775807)(a3:Int)(_: -9223372036854775808≤a3)(_:a3≤9223372036854775807)(a4:Int)(_: -9223372036854775808≤a4)(_:a4≤9223372036854775807)(a5:Int)(_: -9223372036854775808≤a5)(_:a5≤9223372036854775807):
 ∃h',call T 9 [.slice s0 z0.length c0, .int .i64 a1, .int .i64 a2, .int .i64 a3, .int .i64 a4, .int .i64 a5] h=some (.bool true,h'):=
 vlaw lw2 (sk6 (dp0 (dp0 (dp0 (dp0 (dp0 a23 _) _) _) _) _) r0) (by apply xe0<;>assumption)
end Go.Proofs.YtlhmdmedagjmnaaGreat
