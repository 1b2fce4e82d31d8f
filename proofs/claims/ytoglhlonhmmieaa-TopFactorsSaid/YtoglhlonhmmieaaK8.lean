/-
  A stable sort of rows that stand in order leaves them as they are; in the second machine: all of it. Conditions: those of each theorem. poly.Factors and poly.Irreducible in the second machine. Conditi ..
-/
import Derived.Test.YtoglhlonhmmieaaK7
set_option linter.unusedVariables false
set_option linter.unusedSimpArgs false
set_option linter.unusedSectionVars false
set_option maxRecDepth 100000
namespace Go.Proofs.Ytoglhlonhmmieaa
open Go.Am Go.Vm Go.Alg
set_option maxHeartbeats 4000000
section
variable {l:List (Nat×List Int)}
theorem pz4(h:0<l.length):(fzC l).all isV=false:=by
 cases l with
 |nil=>simp at h
 |cons p l=>rfl
theorem o38{no:Nat}{a:Nat}{C:List Tree}(ha:a≤1000)(ks):
 vgoL W ⟨hNo,[],1⟩ [0,10,13] c126L1 (.blk 2 []::ks) [(0, .own 0 []),(10, .x (.int .i64 ((a:Int)+1))),(13, .x (.int .i64 a))] [.sl no 22 1 C]=
  vgo W ⟨hNo,[],1⟩ ks (VFr.of []) [.sl no 22 1 C]:=by
 rw[sb5 c126L1.eq_def]
 simp(disch:=first|omega|fail) only[push_cast,seval,vrl,if_pos,if_neg]
theorem es3{no:Nat}{m:Nat}{C:List Tree}(ks):
 vgoL W ⟨hNo,[],1⟩ [0,14,17] c126L3 (.blk 6 []::ks) [(0, .own 0 []),(14, .x (.int .i64 m)),(17, .x (.int .i64 m))] [.sl no 22 1 C]=
  vgo W ⟨hNo,[],1⟩ ks (VFr.of []) [.sl no 22 1 C]:=by
 rw[sb5 c126L3.eq_def]
 simp(disch:=first|omega|fail) only[push_cast,seval,vrl,if_pos,if_neg]
theorem m98{no:Nat}(hs:SrtC l)(hl:l.length≤1000): ∀(n a m b:Nat),a<m→m<b→b≤l.length→b-a≤n→
 o24 W 126 [.own 0 [], .x (.int .i64 a), .x (.int .i64 m), .x (.int .i64 b), .fn 69 []] [.sl no 22 1 (fzC l)]=some (.tup [],[],[.sl no 22 1 (fzC l)])
 |0,a,m,b,h1,h2,h3,h4=>by omega
 |n+1,a,m,b,ham,hmb,hb,hn=>by
  have IH:=m98 (no:=no) hs hl n
  have hv:=pz4 (l:=l) (by omega)
  by_cases h1:m-a=1
  ·have hm1:(m:Int)-(a:Int)=1:=by omega
   have e1:=fun ks=>a77 (no:=no) hs hl ham (b-m) b (Nat.le_refl _) (by omega) hb ks
   have e2:=fun ks=>o38 (no:=no) (a:=a) (C:=fzC l) (by omega) ks
   have hm2:(m:Int)=(a:Int)+1:=by omega
   rw[hm2]at e1
   generalize fzC l=C at*
   rw[o10 rfl T126 rfl]
   unfold F126 c126
   rw[hm2]
   simp(disch:=first|omega|fail) only[push_cast,seval,vrl,if_pos,if_neg,show(a:Int)+1-(a:Int)=1 by omega]
   rw[e1]
   simp(disch:=first|omega|fail) only[push_cast,seval,vrl,if_pos,if_neg]
   rw[e2]
   simp(disch:=first|omega|fail) only[push_cast,seval,vrl,if_pos,if_neg]
  ·have hm1: ¬(m:Int)-(a:Int)=1:=by omega
   by_cases h2:b-m=1
   ·have hm2:(b:Int)-(m:Int)=1:=by omega
    have e1:=fun ks=>go6 (no:=no) hs hl (m:=m) (by omega) (m-a) a (Nat.le_refl _) (by omega) ks
    have e2:=fun ks=>es3 (no:=no) (m:=m) (C:=fzC l) ks
    generalize fzC l=C at*
    rw[o10 rfl T126 rfl]
    unfold F126 c126
    simp(disch:=first|omega|fail) only[push_cast,seval,vrl,if_pos,if_neg,nb8 hm1,hm2]
    rw[e1]
    simp(disch:=first|omega|fail) only[push_cast,seval,vrl,if_pos,if_neg]
    rw[e2]
    simp(disch:=first|omega|fail) only[push_cast,seval,vrl,if_pos,if_neg]
   ·have hm2: ¬(b:Int)-(m:Int)=1:=by omega
    obtain⟨mid,hmid⟩: ∃mid,mid=(a+b)/2:=⟨_,rfl⟩
    obtain⟨nn,hnn⟩: ∃nn,nn=mid+m:=⟨_,rfl⟩
    obtain⟨p,hp⟩: ∃p,p=nn-1:=⟨_,rfl⟩
    obtain⟨sab,hsab⟩: ∃sab,sab=a+b:=⟨_,rfl⟩
    obtain⟨u1,u2⟩:=bx4 (s:=sab) (by omega)
    have q1:(a:Int)+(b:Int)=(sab:Int):=by omega
    have q2:(mid:Int)+(m:Int)=(nn:Int):=by omega
    have q3:(nn:Int)-1=(p:Int):=by omega
    rw[show sab/2=mid by omega]at u2
    by_cases hmm:m>mid
    ·obtain⟨s0,hs0⟩: ∃s0,s0=nn-b:=⟨_,rfl⟩
     have q4:(nn:Int)-(b:Int)=(s0:Int):=by omega
     have q5:(nn:Int)-(mid:Int)=(m:Int):=by omega
     have e1:=fun ks=>u97 (no:=no) hs hl (a:=a) (m:=m) (b:=b) (mid:=mid) (nn:=nn) (p:=p) (r:=mid) (by omega) (by omega) (by omega) (mid-s0) s0 (Nat.le_refl _) (by omega) (by omega) ks
     have r1:=IH mid m b hmm hmb hb (by omega)
     generalize fzC l=C at*
     rw[o10 rfl T126 rfl]
     unfold F126 c126
     simp(disch:=first|omega|fail) only[push_cast,seval,vrl,if_pos,if_neg,nb8 hm1,nb8 hm2,q1,u1,u2,q2,q3,q4]
     rw[e1]
     simp(disch:=first|omega|fail) only[push_cast,seval,vrl,if_pos,if_neg,hv,q5,r1]
    ·have q5:(nn:Int)-(m:Int)=(mid:Int):=by omega
     have e1:=fun ks=>u97 (no:=no) hs hl (a:=a) (m:=m) (b:=b) (mid:=mid) (nn:=nn) (p:=p) (r:=m) (by omega) (by omega) (by omega) (m-a) a (Nat.le_refl _) (by omega) (by omega) ks
     by_cases hm3:m<mid
     ·have r1:=IH a m mid ham hm3 (by omega) (by omega)
      generalize fzC l=C at*
      rw[o10 rfl T126 rfl]
      unfold F126 c126
      simp(disch:=first|omega|fail) only[push_cast,seval,vrl,if_pos,if_neg,nb8 hm1,nb8 hm2,q1,u1,u2,q2,q3]
      rw[e1]
      simp(disch:=first|omega|fail) only[push_cast,seval,vrl,if_pos,if_neg,hv,q5,r1]
     ·generalize fzC l=C at*
      rw[o10 rfl T126 rfl]
      unfold F126 c126
      simp(disch:=first|omega|fail) only[push_cast,seval,vrl,if_pos,if_neg,nb8 hm1,nb8 hm2,q1,u1,u2,q2,q3]
      rw[e1]
      simp(disch:=first|omega|fail) only[push_cast,seval,vrl,if_pos,if_neg,q5]
theorem pb3{no:Nat}(hs:SrtC l)(hl:l.length≤1000): ∀(k a:Nat),l.length-a≤k→a≤l.length→ ∃a':Nat,a'≤l.length∧ ∀ks,
 vgoL W ⟨hNo,[],1⟩ [0,1,2,6,7,8] c109L0 (.blk 0 [0,1,2,6,7]::ks) [(0, .own 0 []),(1, .x (.int .i64 l.length)),(2, .fn 69 []),(6, .x (.int .i64 20)),(7, .x (.int .i64 a)),(8, .x (.int .i64 (a+20:Nat)))] [.sl no 22 1 (fzC l)]=
  vgo W ⟨hNo,[],1⟩ ks (VFr.of [(0, .own 0 []),(1, .x (.int .i64 l.length)),(2, .fn 69 []),(6, .x (.int .i64 20)),(7, .x (.int .i64 a'))]) [.sl no 22 1 (fzC l)]
 |0,a,hk,ha=>by
  refine⟨a,ha,fun ks=> ?_⟩
  rw[sb5 c109L0.eq_def]
  generalize fzC l=C at*
  generalize l.length=N at*
  generalize hA:a+20=A at*
  simp(disch:=first|omega|fail) only[push_cast,seval,vrl,if_pos,if_neg]
 |k+1,a,hk,ha=>by
  by_cases h:a+20≤l.length
  ·have hv:=pz4 (l:=l) (by omega)
   have e1:=dn5 (no:=no) hs hl (a:=a) (b:=a+20) h (by omega)
   obtain⟨a',h1,ih⟩:=pb3 (no:=no) hs hl k (a+20) (by omega) h
   refine⟨a',h1,fun ks=> ?_⟩
   have ih:=ih ks
   rw[←ih,sb5 c109L0.eq_def]
   generalize fzC l=C at*
   generalize l.length=N at*
   generalize hA:a+20=A at*
   have e2:(A:Int)+20=((A+20:Nat):Int):=by omega
   generalize A+20=B at*
   simp(disch:=first|omega|fail) only[push_cast,seval,vrl,if_pos,if_neg,hv,e1,e2]
  ·refine⟨a,ha,fun ks=> ?_⟩
   rw[sb5 c109L0.eq_def]
   generalize fzC l=C at*
   generalize l.length=N at*
   generalize hA:a+20=A at*
   simp(disch:=first|omega|fail) only[push_cast,seval,vrl,if_pos,if_neg]
theorem wg0{no:Nat}(hs:SrtC l)(hl:l.length≤1000){bs:Nat}(h1:1≤bs)(hbs:bs≤4000): ∀(k a:Nat),l.length-a≤k→a≤l.length→ ∃a':Nat,a'≤l.length∧ ∀ks,
 vgoL W ⟨hNo,[],1⟩ [0,1,2,6,7,8] c109L1 (.blk 4 [0,1,2,6,7]::ks) [(0, .own 0 []),(1, .x (.int .i64 l.length)),(2, .fn 69 []),(6, .x (.int .i64 bs)),(7, .x (.int .i64 a)),(8, .x (.int .i64 (a+2*bs:Nat)))] [.sl no 22 1 (fzC l)]=
  vgo W ⟨hNo,[],1⟩ ks (VFr.of [(0, .own 0 []),(1, .x (.int .i64 l.length)),(2, .fn 69 []),(6, .x (.int .i64 bs)),(7, .x (.int .i64 a'))]) [.sl no 22 1 (fzC l)]
 |0,a,hk,ha=>by
  refine⟨a,ha,fun ks=> ?_⟩
  have hA0:l.length<a+2*bs:=by omega
  rw[sb5 c109L1.eq_def]
  generalize fzC l=C at*
  generalize l.length=N at*
  generalize hA:a+2*bs=A at*
  simp(disch:=first|omega|fail) only[push_cast,seval,vrl,if_pos,if_neg]
 |k+1,a,hk,ha=>by
  by_cases h:a+2*bs≤l.length
  ·have hv:=pz4 (l:=l) (by omega)
   have e1:=m98 (no:=no) hs hl (2*bs) a (a+bs) (a+2*bs) (by omega) (by omega) h (by omega)
   obtain⟨a',h1',ih⟩:=wg0 (no:=no) hs hl h1 hbs k (a+2*bs) (by omega) h
   refine⟨a',h1',fun ks=> ?_⟩
   have ih:=ih ks
   rw[←ih,sb5 c109L1.eq_def]
   generalize fzC l=C at*
   generalize l.length=N at*
   have e3:(a:Int)+(bs:Int)=((a+bs:Nat):Int):=by omega
   have e4:((a+2*bs:Nat):Int)+2*(bs:Int)=((a+2*bs+2*bs:Nat):Int):=by omega
   generalize a+bs=D at*
   generalize hB:a+2*bs+2*bs=B at*
   generalize hA:a+2*bs=A at*
   simp(disch:=first|omega|fail) only[push_cast,seval,vrl,if_pos,if_neg,hv,e3,e1,e4]
  ·refine⟨a,ha,fun ks=> ?_⟩
   rw[sb5 c109L1.eq_def]
   generalize fzC l=C at*
   generalize l.length=N at*
   generalize hA:a+2*bs=A at*
   simp(disch:=first|omega|fail) only[push_cast,seval,vrl,if_pos,if_neg]
theorem xm5{no:Nat}(hs:SrtC l)(hl:l.length≤1000): ∀(k bs:Nat),l.length-bs≤k→1≤bs→bs≤2000→ ∀ks,
 vgoL W ⟨hNo,[],1⟩ [0,1,2,6] c109L2 (.blk 2 []::ks) [(0, .own 0 []),(1, .x (.int .i64 l.length)),(2, .fn 69 []),(6, .x (.int .i64 bs))] [.sl no 22 1 (fzC l)]=
  vgo W ⟨hNo,[],1⟩ ks (VFr.of []) [.sl no 22 1 (fzC l)]
 |0,bs,hk,h1,h2,ks=>by
  rw[sb5 c109L2.eq_def]
  generalize fzC l=C at*
  generalize l.length=N at*
  simp(disch:=first|omega|fail) only[push_cast,seval,vrl,if_pos,if_neg]
 |k+1,bs,hk,h1,h2,ks=>by
  by_cases h:bs<l.length
  ·obtain⟨a',ha',e1⟩:=wg0 (no:=no) hs hl h1 (by omega) l.length 0 (by omega) (Nat.zero_le _)
   rw[Nat.zero_add,Int.natCast_zero]at e1
   have ih:=xm5 (no:=no) hs hl k (2*bs) (by omega) (by omega) (by omega) ks
   have e2:2*(bs:Int)=((2*bs:Nat):Int):=by omega
   have hv:=pz4 (l:=l) (by omega)
   have e5:(bs:Int)*2=((2*bs:Nat):Int):=by omega
   have e3:(a':Int)+(bs:Int)=((a'+bs:Nat):Int):=by omega
   by_cases hc:a'+bs<l.length
   ·have e4:=m98 (no:=no) hs hl l.length a' (a'+bs) l.length (by omega) hc (Nat.le_refl _) (by omega)
    rw[←ih,sb5 c109L2.eq_def]
    generalize fzC l=C at*
    generalize l.length=N at*
    generalize 2*bs=B2 at*
    generalize a'+bs=D at*
    simp(disch:=first|omega|fail) only[push_cast,seval,vrl,if_pos,if_neg,e2]
    rw[e1]
    simp(disch:=first|omega|fail) only[push_cast,seval,vrl,if_pos,if_neg,hv,e3,e4,e5]
   ·rw[←ih,sb5 c109L2.eq_def]
    generalize fzC l=C at*
    generalize l.length=N at*
    generalize 2*bs=B2 at*
    generalize a'+bs=D at*
    simp(disch:=first|omega|fail) only[push_cast,seval,vrl,if_pos,if_neg,e2]
    rw[e1]
    simp(disch:=first|omega|fail) only[push_cast,seval,vrl,if_pos,if_neg,e3,e5]
  ·rw[sb5 c109L2.eq_def]
   generalize fzC l=C at*
   generalize l.length=N at*
   simp(disch:=first|omega|fail) only[push_cast,seval,vrl,if_pos,if_neg]
theorem eo7{no:Nat}(hs:SrtC l)(hl:l.length≤1000):
 o24 W 109 [.own 0 [], .x (.int .i64 l.length), .fn 69 []] [.sl no 22 1 (fzC l)]=some (.tup [],[],[.sl no 22 1 (fzC l)]):=by
 obtain⟨a',ha',e1⟩:=pb3 (no:=no) hs hl l.length 0 (by omega) (Nat.zero_le _)
 rw[Nat.zero_add,Int.natCast_zero]at e1
 have e2:=dn5 (no:=no) hs hl (a:=a') (b:=l.length) (Nat.le_refl _) (by omega)
 have e3:=fun ks=>xm5 (no:=no) hs hl l.length 20 (by omega) (by omega) (by omega) ks
 rw[show((20:Nat):Int)=20 from rfl]at e1 e3
 generalize fzC l=C at*
 generalize l.length=N at*
 cases hv:C.all isV with
 |true=>
  rw[o10 rfl T109 rfl]
  unfold F109 c109
  simp(disch:=first|omega|fail) only[push_cast,seval,vrl,if_pos,if_neg]
  rw[e1]
  simp(disch:=first|omega|fail) only[push_cast,seval,vrl,if_pos,if_neg,hv,e2]
  rw[e3]
  simp(disch:=first|omega|fail) only[push_cast,seval,vrl,if_pos,if_neg]
 |false=>
  rw[o10 rfl T109 rfl]
  unfold F109 c109
  simp(disch:=first|omega|fail) only[push_cast,seval,vrl,if_pos,if_neg]
  rw[e1]
  simp(disch:=first|omega|fail) only[push_cast,seval,vrl,if_pos,if_neg,hv,e2]
  rw[e3]
  simp(disch:=first|omega|fail) only[push_cast,seval,vrl,if_pos,if_neg]
theorem pm3{no:Nat}(hs:SrtC l)(hl:l.length≤1000):
 o24 W 68 [.own 0 [], .fn 69 []] [.sl no 22 1 (fzC l)]=some (.tup [],[],[.sl no 22 1 (fzC l)]):=by
 have e1:=eo7 (no:=no) hs hl
 have hlen:=ef7 l
 generalize fzC l=C at*
 rw[o10 rfl T68 rfl]
 unfold F68 c68
 simp(disch:=first|omega|fail) only[push_cast,seval,vrl,if_pos,if_neg,hlen,e1]
end
set_option maxHeartbeats 2000000
theorem ua2{p:Nat}: ∀(u w:List Int),digS p u→digS p w→u.length=w.length→valS p u≤valS p w→ ¬cmpE (w++[1]) (u++[1])<0
 | [],[],_,_,_,_=>by decide
 |a::u,c::w,hu,hw,hl,hv=>by
  have hl':u.length=w.length:=by simpa using hl
  have h1:=uc1 (l:=u) fun x hx=>hu x (by simp[hx])
  have h2:=uc1 (l:=w) fun x hx=>hw x (by simp[hx])
  have ha:=hu a (by simp)
  have hc:=hw c (by simp)
  rw[valS,valS,hl']at hv
  rw[hl']at h1
  generalize p^w.length=M at*
  have hac:a≤c:=by
   refine Classical.byContradiction fun h=> ?_
   have h5:(c.toNat+1)*M≤a.toNat*M:=Nat.mul_le_mul_right _ (by omega)
   rw[Nat.add_mul]at h5;omega
  rw[List.cons_append,List.cons_append,cmpE]
  by_cases h:c=a
  ·subst h
   rw[if_pos (by unfold cmpI;rw[if_neg (by omega),if_neg (by omega)])]
   exact ua2 u w (fun x hx=>hu x (by simp[hx])) (fun x hx=>hw x (by simp[hx])) hl' (by omega)
  ·have e:cmpI c a=1:=by unfold cmpI;rw[if_neg (by omega),if_pos (by omega)]
   rw[e,if_neg (by decide)]
   decide
section
variable {q:Int} [IsFld q]
theorem vg3{x y:List (El q)}(hx:Mon x)(hy:Mon y)(h:Le x y): ¬cmpF (vs y) (vs x)<0:=by
 unfold cmpF
 rw[fi2,fi2]
 rcases h with h|⟨h1,h2⟩
 ·rw[if_neg (by omega)];omega
 ·rw[if_pos h1.symm]
  have e: ∀{z:List (El q)},Mon z→vs z=vs z.dropLast++[1]:=fun{z} hz=>by
   conv=>lhs;rw[←k85 hz]
   unfold vs;rw[List.map_append];rfl
  rw[e hx,e hy]
  exact ua2 (p:=q.toNat) _ _ (by rw[bf6];exact oa6 _) (by rw[bf6];exact oa6 _) (by rw[fi2,fi2,List.length_dropLast,List.length_dropLast,h1]) h2
theorem oi0{L:List (List (El q))}(fl:List Nat)(hf:fl.length=L.length)(hm: ∀x∈L,Mon x∧x.length≤1000)(hp:L.Pairwise Le):SrtC (fl.zip (L.map vs)):=by
 have hat: ∀i,rowC (fl.zip (L.map vs)) i=vs (L.getD i []):=fun i=>by
  unfold rowC
  rw[List.getD_eq_getElem?_getD,List.getD_eq_getElem?_getD]
  by_cases h:i<L.length
  ·rw[List.getElem?_eq_getElem (by simp;omega),List.getElem?_eq_getElem h,Option.getD_some,Option.getD_some,List.getElem_zip,List.getElem_map]
  ·rw[List.getElem?_eq_none (by simp;omega),List.getElem?_eq_none (by omega)];rfl
 refine⟨fun i=> ?_,fun i j hij hj=> ?_⟩
 ·rw[hat,fi2,List.getD_eq_getElem?_getD]
  cases h:L[i]? with
  |none=>simp
  |some x=>exact(hm x (List.mem_of_getElem? h)).2
 ·rw[hat,hat]
  have hjl:j<L.length:=by simp at hj;omega
  have e: ∀{k:Nat} (hk:k<L.length),L.getD k []=L[k]:=fun{k} hk=>by rw[List.getD_eq_getElem?_getD,List.getElem?_eq_getElem hk];rfl
  rw[e hjl,e (by omega:i<L.length)]
  exact vg3 (hm _ (List.getElem_mem _)).1 (hm _ (List.getElem_mem _)).1 (List.pairwise_iff_getElem.1 hp i j (by omega) hjl hij)
theorem ei8{a:List (El q)}(ha:Trm a)(h0:a≠[]):Mon (monK a):=by
 have hp:0<a.length:=List.length_pos_iff.2 h0
 refine⟨fun e=> ?_, ?_⟩
 ·have:=r27 a;rw[e,List.length_nil]at this;omega
 ·rw[r27]
  unfold monK
  rw[qm4 (f:=fun x=>x*FK.inv (wf a (a.length-1))) (zero_mul _)]
  exact FK.mul_inv _ (ha (by omega))
theorem kd8{a0:List (El q)}: ∀(n d:Nat) (a:List (El q)) (L:List (List (El q))) (na no:Nat),d+n=130→1≤d→a.length≤128→L.length+a.length≤200→FacS a0 L a→(Low d 0 a∨Fin d a)→Mon a→
 ∃(a':List (El q)) (L':List (List (El q))) (na':Nat) (X:Rts),Fac a0 (L'++if 1<a'.length then [a']else [])∧Mon a'∧L'.length+a'.length≤L.length+a.length∧a'.length≤a.length∧ ∀ks,
 vgoL W ⟨h27,[.tmp 4, .tmp 5],0⟩ [0,1,6,9,10] c27L2 (.blk 0 [1,9]::ks) [(0, .x (.int .i64 q)),(1, .own 0 []),(6, .fz true (pF q)),(9, .own 1 []),(10, .x (.int .i64 d))] [.sl na 3 1 (ivs (vs a)), .sl no 22 1 (outT L)]=
  vgo W ⟨h27,[.tmp 4, .tmp 5],0⟩ ks (VFr.of [(1, .own 0 []),(9, .own 1 [])]) (.sl na' 3 1 (ivs (vs a')):: .sl no 22 1 (outT L')::X):=by
 intro n
 induction n with
 |zero=>
  intro d a L na no hd d1 h128 hL hS hP hm
  have hap:=hm.pos
  have w1:IntKind.wrap .i64 ((a.length:Int)-1)=((a.length-1:Nat):Int):=by rw[wrap64 (by omega) (by omega)];omega
  have hfin:Fin d a:=by
   rcases hP with h|h
   ·exact⟨d,_,Nat.le_refl _,h,by omega⟩
   ·exact h
  refine⟨a,L,na,[],hS.done hfin hm,hm,Nat.le_refl _,Nat.le_refl _,fun ks=> ?_⟩
  have c1: ¬2*(d:Int)≤((a.length-1:Nat):Int):=by omega
  rw[sb5 c27L2.eq_def]
  simp(disch:=first|omega|fail) only[push_cast,seval,vrl,if_pos,if_neg,w1,qc6 (Int.not_le.1 c1)]
 |succ n IH=>
  intro d a L na no hd d1 h128 hL hS hP hm
  have hap:=hm.pos
  have w1:IntKind.wrap .i64 ((a.length:Int)-1)=((a.length-1:Nat):Int):=by rw[wrap64 (by omega) (by omega)];omega
  by_cases ht:a.length<2*d+1
  ·have hfin:Fin d a:=by
    rcases hP with h|h
    ·exact⟨d,_,Nat.le_refl _,h,ht⟩
    ·exact h
   refine⟨a,L,na,[],hS.done hfin hm,hm,Nat.le_refl _,Nat.le_refl _,fun ks=> ?_⟩
   have c1: ¬2*(d:Int)≤((a.length-1:Nat):Int):=by omega
   rw[sb5 c27L2.eq_def]
   simp(disch:=first|omega|fail) only[push_cast,seval,vrl,if_pos,if_neg,w1,qc6 (Int.not_le.1 c1)]
  ·have c1:2*(d:Int)≤((a.length-1:Nat):Int):=by omega
   have hv0:valS q.toNat (vs (List.replicate d (0:El q)))=0:=by
    have h:=(Left.start (q:=q) (p:=q.toNat) bf6.symm d).h
    rw[List.length_replicate]at h
    have:0<q.toNat^d:=Nat.pow_pos (by have:=aw0 (q:=q);omega)
    omega
   obtain⟨a',L',na',X,r1,r2,r3,r4,r5,e2⟩:=jp0 (a0:=a0) (d:=d) d1 (by omega) (no:=no) _ (List.replicate d (0:El q)) a L na (Left.start bf6.symm d) (by simp) h128 hL hS (by rw[hv0];exact hP) hm
   obtain⟨a2,L2,na2,X2,s1,s2,s3,s4,ih⟩:=IH (d+1) a' L' na' no (by omega) (by omega) (by omega) (by omega) r1 r2 r3
   refine⟨a2,L2,na2,X2,s1,s2,by omega,by omega,fun ks=> ?_⟩
   have ih:=ih ks
   have e1:=fun b nl=>r52 (d:=d) (by omega) d1 b nl
   rw[show ivs [0]=[Tree.v (.int .i64 0)]from rfl]at e1
   have hz:List.replicate d (0:Int)=vs (List.replicate d (0:El q)):=by rw[←qj2];rfl
   rw[hz]at e1
   rw[Int.natCast_add,Int.natCast_one]at ih
   rw[←ih,sb5 c27L2.eq_def]
   simp(disch:=first|omega|fail) only[push_cast,seval,vrl,if_pos,if_neg,w1,nl3 c1,e1]
   rw[e2]
   simp(disch:=first|omega|fail) only[push_cast,seval,vrl,if_pos,if_neg]
theorem yw6{no:Nat}{l:List (Nat×List Int)}(hl:l.length≤1000)(hr: ∀i,(rowC l i).length≤1000): ∀(d i:Nat),i+d=l.length→ ∀ks,
 vgoL W ⟨h27,[.tmp 4, .tmp 5],0⟩ [9,90,91] c27L3 (.blk 4 [9]::ks) [(9, .own 0 []),(90, .x (.int .i64 l.length)),(91, .x (.int .i64 i))] [.sl no 22 1 (lls 2 ((l.take i).map Prod.snd)++fzC (l.drop i))]=
  vgo W ⟨h27,[.tmp 4, .tmp 5],0⟩ ks (VFr.of [(9, .own 0 [])]) [.sl no 22 1 (lls 2 (l.map Prod.snd))]
 |0,i,hi,ks=>by
  rw[oh9 (by omega),List.take_of_length_le (by omega),show fzC []=[]from rfl,List.append_nil,sb5 c27L3.eq_def]
  simp(disch:=first|omega|fail) only[push_cast,seval,vrl,if_pos,if_neg]
 |d+1,i,hi,ks=>by
  have ih:=yw6 (no:=no) hl hr d (i+1) (by omega) ks
  have hil:i<l.length:=by omega
  have hsnd:(l.map Prod.snd)[i]? =some (rowC l i):=by
   unfold rowC
   rw[List.getElem?_map,List.getD_eq_getElem?_getD,List.getElem?_eq_getElem hil];rfl
  obtain⟨C,hC⟩: ∃C,C=lls 2 ((l.take i).map Prod.snd)++fzC (l.drop i):=⟨_,rfl⟩
  have hpre:(lls 2 ((l.take i).map Prod.snd)).length=i:=by rw[qf0,List.length_map,List.length_take];omega
  have hlen:C.length=l.length:=by rw[hC,List.length_append,hpre,ef7,List.length_drop];omega
  have h1:C[i]? =some (.fz (.sl (flC l i) 0 1 (ivs (rowC l i)))):=by
   rw[hC,List.getElem?_append_right (by omega),hpre,Nat.sub_self,←q33 hil]
   unfold fzC
   rw[List.getElem?_map,List.getElem?_drop,Nat.add_zero,List.getElem?_map]
  have hset:C.set i (.sl 2 3 1 (ivs (rowC l i)))=lls 2 ((l.take (i+1)).map Prod.snd)++fzC (l.drop (i+1)):=by
   have hd:l.drop i=l[i]::l.drop (i+1):=List.drop_eq_getElem_cons hil
   have ht:l.take (i+1)=l.take i++[l[i]]:=by rw[List.take_add_one,List.getElem?_eq_getElem hil];rfl
   have hrow:rowC l i=l[i].2:=by unfold rowC;rw[List.getD_eq_getElem?_getD,List.getElem?_eq_getElem hil];rfl
   rw[hC,List.set_append_right _ _ (by omega),hpre,Nat.sub_self,hd,show fzC (l[i]::l.drop (i+1))= .fz (.sl l[i].1 0 1 (ivs l[i].2))::fzC (l.drop (i+1))from rfl,List.set_cons_zero,ht,List.map_append,hrow]
   unfold lls
   rw[List.map_append,List.append_assoc];rfl
  have e1:=fun b nl=>h18 (b:=b) (nl:=nl) (zs:=rowC l i) (by have:=hr i;omega)
  rw[←hset]at ih
  rw[←hC]
  rw[Int.natCast_add,Int.natCast_one]at ih
  have hj:(C.set i Tree.junk)[i]? =some Tree.junk:=List.getElem?_set_self (by omega)
  rw[←ih,sb5 c27L3.eq_def]
  generalize rowC l i=r at*
  generalize flC l i=f at*
  clear hC hset
  simp(disch:=first|omega|fail) only[push_cast,seval,vrl,if_pos,if_neg,h1,hlen,e1]
end
set_option maxHeartbeats 2000000
section
variable {q:Int} [IsFld q] {b:Bool} {nl:Nat}
theorem ep5{na:Nat}(L:List (List (El q)))(a:List (El q)):outT L++[.fz (.sl na 0 1 (ivs (vs a)))]=fzC (((List.replicate L.length 0)++[na]).zip ((L++[a]).map vs)):=by
 rw[List.map_append,List.zip_append (by simp)]
 unfold fzC outT
 rw[List.map_append]
 congr 1
 clear a
 induction L with
 |nil=>rfl
 |cons p L ih=>rw[List.map_cons,ih,List.length_cons,List.replicate_succ,List.map_cons,List.zip_cons_cons,List.map_cons]
theorem gy0(L:List (List (El q))):outT L=fzC ((List.replicate L.length 0).zip (L.map vs)):=by
 unfold fzC outT
 induction L with
 |nil=>rfl
 |cons p L ih=>rw[List.map_cons,ih,List.length_cons,List.replicate_succ,List.map_cons,List.zip_cons_cons,List.map_cons]
theorem sf7{A:List (El q)}(hA:A.length≤128)(h0:A≠[]):o24 W 62 [.x (.int .i64 q), .x (.int .i64 ((A.length-1:Nat):Int))] []=some (.x (.bool (fewQ q ((A.length-1)/2) 1)),[],[]):=
 p28 (by have:=aw0 (q:=q);omega) q_hi (by omega)
theorem kh8{a:List (El q)}(ha:a.length≤128)(h0:xa4 a≠[])(ht:fewQ q (((xa4 a).length-1)/2) 1=true): ∃L:List (List (El q)),Fac (monK (xa4 a)) L∧ ∀b nl,
 o24 W 27 [.x (.int .i64 q), .fz b (.sl nl 0 1 (ivs (vs a)))] []=some (.tup [.own 0 [], .x (.int .i64 0)],[.sl 1 22 1 (lls 2 (L.map vs))],[]):=by
 have e1:=fun b nl b' nl'=>ce8 (b:=b) (nl:=nl) (b':=b') (nl':=nl') ha (c:=([]:List (El q))) (by simp)
 simp only[n42,rp2,lz6]at e1
 have la:=tb1 a
 have htr:=ua7 a
 generalize xa4 a=A at*
 have hp:0<A.length:=List.length_pos_iff.2 h0
 have hz: ¬(A.length:Int)=0:=by omega
 have w1:IntKind.wrap .i64 ((A.length:Int)-1)=((A.length-1:Nat):Int):=by rw[wrap64 (by omega) (by omega)];omega
 have e2:=sf7 (q:=q) (A:=A) (by omega) h0
 rw[ht]at e2
 have e2':=e2
 rw[show((A.length-1:Nat):Int)=(A.length:Int)-1 by omega]at e2'
 have e3:=h65 (q:=q) (nl:=nlT A) htr h0 (by omega)
 have hmon:=ei8 htr h0
 have hml:=r27 A
 obtain⟨a',L',na',X,r1,r2,r3,r4,e4⟩:=kd8 (a0:=monK A) 129 1 (monK A) [] (nlT A) 1 (by omega) (by omega) (by omega) (by simp;omega) (FacS.start _) (.inl (Low.start _)) hmon
 rw[show outT ([]:List (List (El q)))=[]from rfl]at e4
 simp only[Int.natCast_one]at e4
 obtain⟨s1,s2⟩:=r1.sorted
 have hLl:=r1.len
 have hlen1: ∀x∈(L'++if 1<a'.length then [a']else []),x.length≤1000:=fun x hx=>by
  obtain⟨i1,i2,c,i3,i4,i5⟩:=s1 x hx
  have:=lk3 i3 i1.trm i4 i1.ne
  have:=List.length_pos_iff.2 i4
  rw[i5,hml]at*
  omega
 by_cases h1:1<a'.length
 ·rw[if_pos h1]at r1 s1 s2 hLl hlen1
  refine⟨L'++[a'],r1,fun b nl=> ?_⟩
  have hsrt:=oi0 (L:=L'++[a']) (List.replicate L'.length 0++[na']) (by simp) (fun x hx=>⟨(s1 x hx).1,hlen1 x hx⟩) s2
  have hzl:((List.replicate L'.length 0++[na']).zip ((L'++[a']).map vs)).length=L'.length+1:=by simp
  have e5:=pm3 (no:=1) hsrt (by rw[hzl];simp at hLl;omega)
  have e6:=fun ks=>yw6 (no:=1) (l:=(List.replicate L'.length 0++[na']).zip ((L'++[a']).map vs)) (by rw[hzl];simp at hLl;omega) hsrt.len (L'.length+1) 0 (by rw[hzl];omega) ks
  have hsn:((List.replicate L'.length 0++[na']).zip ((L'++[a']).map vs)).map Prod.snd=(L'++[a']).map vs:=List.map_snd_zip (by simp)
  rw[hsn,List.take_zero,List.drop_zero,show lls 2 (([]:List (Nat×List Int)).map Prod.snd)=[]from rfl,List.nil_append,hzl]at e6
  have hol:=ck0 L'
  have h1':(1:Int)<(a'.length:Int):=by omega
  have hLl2:L'.length≤200:=by simp at hLl;omega
  simp only[Int.natCast_zero,Int.natCast_add,Int.natCast_one]at e6
  have hall:(fzC ((List.replicate L'.length 0++[na']).zip ((L'++[a']).map vs))).all isV=false:=by rw[←ep5];simp[isV]
  have hcl:(fzC ((List.replicate L'.length 0++[na']).zip ((L'++[a']).map vs))).length=L'.length+1:=by rw[ef7,hzl]
  generalize lls 2 ((L'++[a']).map vs)=RR at*
  rw[o10 rfl T27 rfl]
  unfold F27 c27
  simp(disch:=first|omega|fail) only[push_cast,seval,vrl,if_pos,if_neg,e1,List.tail_cons,nb8 hz,w1,e2,e2',e3]
  rw[e4]
  have hsX: ∀(c t:Tree),(X++[c]).set X.length t=X++[t]:=fun c t=>by simp
  have hx2: ∀(c d:Tree),(X++[c]++[d])[X.length+1]? =some d:=fun c d=>by simp
  have hs2: ∀(c d t:Tree),(X++[c]++[d]).set (X.length+1) t=X++[c]++[t]:=fun c d t=>by simp
  simp(disch:=first|omega|fail) only[push_cast,seval,vrl,if_pos,if_neg,dec_lt h1',List.append_nil,List.getElem?_concat_length,hx2,hs2,hsX,ep5,hol,hLl2,e5,hall,hcl]
  rw[e6]
  simp(disch:=first|omega|fail) only[push_cast,seval,vrl,if_pos,if_neg]
 ·rw[if_neg h1,List.append_nil]at r1 s1 s2 hLl hlen1
  refine⟨L',r1,fun b nl=> ?_⟩
  have hsrt:=oi0 (L:=L') (List.replicate L'.length 0) (by simp) (fun x hx=>⟨(s1 x hx).1,hlen1 x hx⟩) s2
  have hzl:((List.replicate L'.length 0).zip (L'.map vs)).length=L'.length:=by simp
  have e5:=pm3 (no:=1) hsrt (by rw[hzl];omega)
  have e6:=fun ks=>yw6 (no:=1) (l:=(List.replicate L'.length 0).zip (L'.map vs)) (by rw[hzl];omega) hsrt.len L'.length 0 (by rw[hzl];omega) ks
  have hsn:((List.replicate L'.length 0).zip (L'.map vs)).map Prod.snd=L'.map vs:=List.map_snd_zip (by simp)
  rw[hsn,List.take_zero,List.drop_zero,show lls 2 (([]:List (Nat×List Int)).map Prod.snd)=[]from rfl,List.nil_append,hzl]at e6
  rw[←gy0]at e5 e6
  have hol:=ck0 L'
  have h1': ¬(1:Int)<(a'.length:Int):=by omega
  simp only[Int.natCast_zero]at e6
  generalize lls 2 (L'.map vs)=RR at*
  generalize outT L'=CC at*
  rw[o10 rfl T27 rfl]
  unfold F27 c27
  cases hall:CC.all isV with
  |true=>
   simp(disch:=first|omega|fail) only[push_cast,seval,vrl,if_pos,if_neg,e1,List.tail_cons,nb8 hz,w1,e2,e2',e3]
   rw[e4]
   simp(disch:=first|omega|fail) only[push_cast,seval,vrl,if_pos,if_neg,cw6 (Int.not_lt.1 h1'),hol,e5,hall]
   rw[e6]
   simp(disch:=first|omega|fail) only[push_cast,seval,vrl,if_pos,if_neg]
  |false=>
   simp(disch:=first|omega|fail) only[push_cast,seval,vrl,if_pos,if_neg,e1,List.tail_cons,nb8 hz,w1,e2,e2',e3]
   rw[e4]
   simp(disch:=first|omega|fail) only[push_cast,seval,vrl,if_pos,if_neg,cw6 (Int.not_lt.1 h1'),hol,e5,hall]
   rw[e6]
   simp(disch:=first|omega|fail) only[push_cast,seval,vrl,if_pos,if_neg]
end
section
variable {q:Int} {b:Bool} {nl:Nat}
end
section
variable {q:Int}
theorem k74{l:List Int}{L:List (List Int)}{e:Int}{no:Nat}(hL:L.length≤100000)(h: ∀b nl,o24 W 27 [.x (.int .i64 q), .fz b (.sl nl 0 1 (ivs l))] []=some (.tup [.own 0 [], .x (.int .i64 e)],[.sl no 22 1 (lls 2 L)],[]))(b:Bool)(nl:Nat):
 o24 W 28 [.x (.int .i64 q), .fz b (.sl nl 0 1 (ivs l))] []=some (.tup [.x (.bool (decide ((L.length:Int)=1))), .x (.int .i64 e)],[],[]):=by
 rw[o10 rfl T28 rfl]
 unfold F28 c28
 have hll:=qf0 2 L
 simp(disch:=first|omega|fail) only[push_cast,seval,vrl,if_pos,if_neg,h,hll]
end
section
variable {q:Int} [IsFld q]
def DvP(p w:List (El q)):Prop:= ∃c:List (El q),wf w=disc (wf c) (wf p)
theorem tq1{p a:List (El q)}(h:Dv p a):DvP p a:=by
 obtain⟨c,_,_,rfl⟩:=h
 exact⟨c,zu9 c p⟩
theorem jj2{p a:List (El q)}(ha:Trm a)(ha0:a≠[])(h:DvP p a):Dv p a:=by
 obtain⟨c,hc⟩:=h
 refine⟨xa4 c,ua7 c,fun e=>ha0 ?_,lz5 (ho6 _ _) ha (by rw[zu9,vb5,hc])⟩
 have hz:wf a=fun _=>0:=by
  rw[hc]
  funext k
  rw[←vb5 c,e,qt9,tt8]
 have:=vy9 hz
 rwa [ou7 ha]at this
theorem rf5{p y:List (El q)}(hp:Mon p)(hirr: ∀z,Mon z→2≤z.length→Dv z p→p.length≤z.length): ∀(n:Nat) (r:List (El q)),r.length≤n→r≠[]→Trm r→r.length<p.length→DvP p (mulK r y)→DvP p y
 |0,r,hn,h0,_,_,_=>absurd (List.eq_nil_of_length_eq_zero (by omega)) h0
 |n+1,r,hn,h0,ht,hl,⟨c,hc⟩=>by
  have hrp:0<r.length:=List.length_pos_iff.2 h0
  rw[zu9]at hc
  by_cases h1:r.length=1
  ·--a number
   obtain⟨u,rfl⟩: ∃u,r=[u]:=by
    cases r with
    |nil=>exact absurd rfl h0
    |cons u r=>cases r with
     |nil=>exact⟨u,rfl⟩
     |cons v r=>simp at h1
   have hu:u≠0:=ht (by simp)
   refine⟨c.map fun x=>FK.inv u*x, ?_⟩
   have e1:(wf (c.map fun x=>FK.inv u*x))=fun i=>FK.inv u*wf c i:=funext fun i=>qm4 (f:=fun x=>FK.inv u*x) (mul_zero _) c i
   funext k
   rw[e1,ks7,←hc]
   have e2:disc (wf [u]) (wf y) k=u*wf y k:=by
    rw[iu6]
    refine(o59 u (wf []) (wf y) k).trans ?_
    cases k with
    |zero=>exact FK.add_zero _
    |succ k=>show _+disc (wf []) _ k=_;rw[qt9,tt8,FK.add_zero]
   rw[e2,←FK.mul_assoc,FK.mul_comm (FK.inv u),FK.mul_inv u hu,FK.mul_comm,FK.mul_one]
  ·have hd:=h79 (a:=p) ht h0
   have htl:=hd.lt
   by_cases ht0:remP p r=[]
   ·--it goes into p
    exfalso
    have hm:=ei8 ht h0
    have hml:=r27 r
    have hdv:Dv (monK r) p:=by
     refine jj2 hp.trm hp.ne ⟨(quoP p r).map fun x=>wf r (r.length-1)*x, ?_⟩
     have hlast:wf r (r.length-1)≠0:=ht (by omega)
     have e1:wf ((quoP p r).map fun x=>wf r (r.length-1)*x)=fun i=>wf r (r.length-1)*wf (quoP p r) i:=funext fun i=>qm4 (f:=fun x=>wf r (r.length-1)*x) (mul_zero _) _ i
     have e2:wf (monK r)=fun i=>FK.inv (wf r (r.length-1))*wf r i:=funext fun i=>by
      unfold monK
      rw[qm4 (f:=fun x=>x*FK.inv (wf r (r.length-1))) (zero_mul _),FK.mul_comm]
     funext k
     rw[e1,e2,ks7,ck4,ks7,ck4,←FK.mul_assoc,FK.mul_inv _ hlast,FK.mul_comm,FK.mul_one]
     have:=hd.eq k
     rw[ht0,qt9,FK.add_zero]at this
     exact this
    have:=hirr _ hm (by omega) hdv
    omega
   ·refine rf5 hp hirr n (remP p r) (by omega) ht0 hd.r (by omega) ⟨addK y ((mulK (quoP p r) c).map fun x=> -x), ?_⟩
    have e1:wf ((mulK (quoP p r) c).map fun x=> -x)=fun i=> -wf (mulK (quoP p r) c) i:=funext fun i=>qm4 (f:=fun x=> -x) neg_zero _ i
    have e2:wf (remP p r)=fun i=>wf p i+ -disc (wf (quoP p r)) (wf r) i:=funext fun i=>by
     have:=hd.eq i
     rw[this,FK.add_comm (disc _ _ _),FK.add_assoc,FK.add_neg,FK.add_zero]
    rw[zu9,w62,e1,e2]
    funext k
    rw[bf5,bf5,fh4,fh4,ck4 (wf p)]
    congr 2
    refine(hi9 (wf r) (wf y) (quoP p r) k).trans ?_
    rw[show(fun i=>disc (wf r) (wf y) i)=fun i=>disc (wf c) (wf p) i from funext fun i=>congrFun hc i,zu9]
    exact(hi9 (wf c) (wf p) (quoP p r) k).symm
theorem n72{p a b:List (El q)}(hp:Mon p)(h2:2≤p.length)(hirr: ∀z,Mon z→2≤z.length→Dv z p→p.length≤z.length)(ha:Mon a)(hb:Mon b)(h:Dv p (mulK a b)):Dv p a∨Dv p b:=by
 by_cases hpa:Dv p a
 ·exact .inl hpa
 ·right
  have hd:=h79 (a:=a) hp.trm hp.ne
  obtain⟨k1,k2⟩:=dv6 ha.trm ha.ne hp.trm hp.ne
  have hr0:remP a p≠[]:=fun e=>hpa ⟨quoP a p,(k1 e).2.1,(k1 e).2.2,(k1 e).1⟩
  obtain⟨c,hc⟩:=tq1 h
  refine jj2 hb.trm hb.ne (rf5 hp hirr _ (remP a p) (Nat.le_refl _) hr0 hd.r hd.lt ⟨addK c ((mulK (quoP a p) b).map fun x=> -x), ?_⟩)
  have e1:wf ((mulK (quoP a p) b).map fun x=> -x)=fun i=> -wf (mulK (quoP a p) b) i:=funext fun i=>qm4 (f:=fun x=> -x) neg_zero _ i
  have e2:wf (remP a p)=fun i=>wf a i+ -disc (wf (quoP a p)) (wf p) i:=funext fun i=>by
   have:=hd.eq i
   rw[this,FK.add_comm (disc _ _ _),FK.add_assoc,FK.add_neg,FK.add_zero]
  rw[zu9]at hc⊢
  rw[w62,e1,e2]
  funext k
  rw[bf5,bf5,fh4,fh4,congrFun hc k]
  congr 2
  refine(hi9 (wf p) (wf b) (quoP a p) k).trans ?_
  rw[zu9]
  rw[show(fun i=>disc (wf p) (wf b) i)=fun i=>disc (wf b) (wf p) i from funext fun i=>ck4 _ _ _]
  exact(hi9 (wf b) (wf p) (quoP a p) k).symm
theorem z29{a b:List (El q)}(ha:Mon a)(hb:Mon b)(h:mulK a b=[1]):a=[1]∧b=[1]:=by
 have h1:=lk3 ha.trm hb.trm ha.ne hb.ne
 rw[h,List.length_singleton]at h1
 have h2:=ha.pos
 have h3:=hb.pos
 have e: ∀{z:List (El q)},Mon z→z.length=1→z=[1]:=fun{z} hz hl=>by
  have:=k85 hz
  rw[List.eq_nil_of_length_eq_zero (l:=z.dropLast) (by simp;omega)]at this
  exact this.symm
 exact⟨e ha (by omega),e hb (by omega)⟩
theorem ij5{c p:List (El q)}(h1:Mon p)(h3: ∀y,Mon y→2≤y.length→Dv y (mulK c p)→Le p y)(hc:Mon c): ∀z,Mon z→2≤z.length→Dv z p→p.length≤z.length:=fun z z1 z2 z3=>by
 rcases h3 z z1 z2 (z3.trans z1.trm z1.ne ⟨c,hc.trm,hc.ne,rfl⟩)with h|h
 ·omega
 ·omega
theorem Fac.parts{c:List (El q)}{L:List (List (El q))}(h:Fac c L): ∀{a b:List (El q)} {X Y:List (List (El q))},mulK a b=c→Fac a X→Fac b Y→L.Perm (X++Y):=by
 induction h with
 |one=>
  intro a b X Y e hX hY
  obtain⟨rfl,rfl⟩:=z29 hX.mon hY.mon e
  rw[hX.uniq .one,hY.uniq .one]
  exact .nil
 | @cons c p L h1 h2 h3 h4 h5 ih=>
   intro a b X Y e hX hY
   have ha:=hX.mon
   have hb:=hY.mon
   have hirr:=ij5 h1 h3 h4
   have hda: ∀y,Mon y→Dv y a→Dv y (mulK c p):=fun y y1 y2=>by
    rw[←e];exact y2.trans y1.trm y1.ne ⟨b,hb.trm,hb.ne,w46 _ _⟩
   have hdb: ∀y,Mon y→Dv y b→Dv y (mulK c p):=fun y y1 y2=>by
    rw[←e];exact y2.trans y1.trm y1.ne ⟨a,ha.trm,ha.ne,rfl⟩
   have take: ∀{a X},Fac a X→Dv p a→(∀y,Mon y→Dv y a→Dv y (mulK c p))→ ∃a' X',X=p::X'∧a=mulK a' p∧Fac a' X'∧Mon a':=fun{a X} hX hpa hda=>by
    cases hX with
    |one=>
     obtain⟨d,d1,d2,d3⟩:=hpa
     have:=lk3 d1 h1.trm d2 h1.ne
     rw[d3,List.length_singleton]at this
     have:=List.length_pos_iff.2 d2
     omega
    | @cons a' p' X' g1 g2 g3 g4 g5=>
      have k1:=h3 p' g1 g2 (hda p' g1 ⟨a',g4.trm,g4.ne,rfl⟩)
      have k2:=g3 p h1 h2 hpa
      obtain rfl:=Le.anti h1 g1 k1 k2
      exact⟨a',X',rfl,rfl,g5,g4⟩
   rcases n72 h1 h2 hirr ha hb (by rw[e];exact⟨c,h4.trm,h4.ne,rfl⟩)with hpa|hpb
   ·obtain⟨a',X',rfl,rfl,g5,g4⟩:=take hX hpa hda
    have e2:mulK a' b=c:=by
     refine fu2 (ho6 _ _) h4.trm h1.trm h1.ne ?_
     rw[←e,w11,w11,w46 b p]
    exact(ih e2 g5 hY).cons p
   ·obtain⟨b',Y',rfl,rfl,g5,g4⟩:=take hY hpb hdb
    have e2:mulK a b'=c:=by
     refine fu2 (ho6 _ _) h4.trm h1.trm h1.ne ?_
     rw[←e,w11]
    exact((ih e2 hX g5).cons p).trans List.perm_middle.symm
theorem Fac.self{c p:List (El q)}(h1:Mon p)(h2:2≤p.length)(h3: ∀z,Mon z→2≤z.length→Dv z p→p.length≤z.length):Fac p [p]:=by
 have hf:=Fac.cons (c:=[1]) (p:=p) (L:=[]) h1 h2 (fun y y1 y2 y3=> ?_) u94 .one
 ·rwa [kj1 h1.trm]at hf
 ·rw[kj1 h1.trm]at y3
  have hl:=h3 y y1 y2 y3
  obtain⟨d,d1,d2,d3⟩:=y3
  have ht:=lk3 d1 y1.trm d2 y1.ne
  rw[d3]at ht
  have hdl:=List.length_pos_iff.2 d2
  have hd1:d=[1]:=by
   have hdm:Mon d:=Mon.quo d1 d2 y1 (by rw[d3];exact h1)
   have:=k85 hdm
   rw[List.eq_nil_of_length_eq_zero (l:=d.dropLast) (by simp;omega)]at this
   exact this.symm
  rw[hd1,kj1 y1.trm]at d3
  rw[d3]
  exact .inr ⟨rfl,Nat.le_refl _⟩
theorem Fac.each{c:List (El q)}{L:List (List (El q))}(h:Fac c L): ∀x∈L,Fac x [x]:=by
 induction h with
 |one=>intro x hx;cases hx
 | @cons c p L h1 h2 h3 h4 h5 ih=>
   intro x hx
   rcases List.mem_cons.1 hx with rfl|hx
   ·exact Fac.self (c:=c) h1 h2 (ij5 h1 h3 h4)
   ·exact ih x hx
theorem Fac.one_of{c:List (El q)}(h:Fac c []):c=[1]:=by cases h;rfl
theorem Fac.cons_of{c x:List (El q)}{R:List (List (El q))}(h:Fac c (x::R)): ∃c'',Mon x∧2≤x.length∧Fac c'' R∧c=mulK c'' x:=by
 cases h with
 | @cons c'' p L h1 h2 h3 h4 h5=>exact⟨c'',h1,h2,h5,rfl⟩
theorem l09{a:List (El q)}(h:Mon a):monK a=a:=by
 unfold monK
 rw[h.top,inv_one]
 conv=>rhs;rw[←List.map_id a]
 exact List.map_congr_left fun x _=>FK.mul_one x
end
set_option maxHeartbeats 2000000
section
variable {q:Int} {ok:Bool} {x:List Int} {C P:Tree} {LL XX YY:List (List Int)} {i:Nat}
theorem vu9{α:Type}{l:List α}{k:Nat}{y:α}{R:List α}(h:l.drop k=y::R):l[k]? =some y∧l.drop (k+1)=R∧k<l.length:=by
 have h1:l[k]? =some y:=by
  have:=List.getElem?_drop (xs:=l) (i:=k) (j:=0)
  rw[h]at this
  simpa using this.symm
 refine⟨h1, ?_, ?_⟩
 ·rw[←List.drop_drop,h];rfl
 ·have:=congrArg List.length h
  rw[List.length_drop,List.length_cons]at this
  omega
theorem x64(hx:x.length≤1000)(hL:LL.length≤1000)(hi:LL[i]? =some x): ∀(R:List (List Int)) (k:Nat) (n:Int),LL.drop k=R→ -100000+R.length≤n→n+R.length≤100000→ ∀ks,
 vgoL W ⟨hNo,[.tmp 8],0⟩ [1,11,13,15,17,19,20,21,22,23,24] c5L0 (.blk 2 [1,11,13,15,17,19,20,21,22,23]::ks) [(1, .x (.int .i64 q)),(11, .own 0 []),(13, .own 1 []),(15, .own 2 []),(17, .own 3 []),(19, .own 4 []),(20, .x (.int .i64 i)),(21, .x (.bool ok)),(22, .x (.int .i64 0)),(23, .x (.int .i64 n)),(24, .x (.int .i64 k))] [C, .sl 1 22 1 (lls 2 LL), .sl 1 22 1 (lls 2 XX), .sl 1 22 1 (lls 2 YY),P]=
  vgo W ⟨hNo,[.tmp 8],0⟩ ks (VFr.of [(1, .x (.int .i64 q)),(11, .own 0 []),(13, .own 1 []),(15, .own 2 []),(17, .own 3 []),(19, .own 4 []),(20, .x (.int .i64 i)),(21, .x (.bool ok)),(22, .x (.int .i64 0)),(23, .x (.int .i64 (n+(R.countP (fun y=>decide (x=y)):Nat))))]) [C, .sl 1 22 1 (lls 2 LL), .sl 1 22 1 (lls 2 XX), .sl 1 22 1 (lls 2 YY),P]
 | [],k,n,hk,hn,hm,ks=>by
   have hlen:=qf0 2 LL
   have h1:=congrArg List.length hk
   rw[List.length_drop,List.length_nil]at h1
   have hk1: ¬(k:Int)<(LL.length:Int):=by omega
   rw[List.countP_nil,Int.natCast_zero,Int.add_zero,sb5 c5L0.eq_def]
   generalize lls 2 LL=D at*
   simp(disch:=first|omega|fail) only[push_cast,seval,vrl,if_pos,if_neg,hlen,cw6 (Int.not_lt.1 hk1)]
 |y::R,k,n,hk,hn,hm,ks=>by
  obtain⟨h1,h2,h3⟩:=vu9 hk
  rw[List.length_cons]at hn hm
  have hlen:=qf0 2 LL
  have l1:=th8 (nl:=2) hi
  have l2:=th8 (nl:=2) h1
  have hil:i<LL.length:=(List.getElem?_eq_some_iff.1 hi).1
  have e1:=fun b nl b' nl'=>nb2 (b:=b) (nl:=nl) (b':=b') (nl':=nl') (l:=x) (k:=y) (by omega)
  have hk1:(k:Int)<(LL.length:Int):=by omega
  by_cases h:x=y
  ·have ih:=x64 hx hL hi R (k+1) (n+1) h2 (by omega) (by omega) ks
   have w1:IntKind.wrap .i64 (n+1)=n+1:=wrap64 (by omega) (by omega)
   rw[List.countP_cons_of_pos (by simpa using h),Int.natCast_add,Int.natCast_one,show n+(((R.countP fun y=>decide (x=y)):Nat)+1:Int)=n+1+((R.countP fun y=>decide (x=y)):Nat) by omega]
   rw[Int.natCast_add,Int.natCast_one]at ih
   rw[decide_eq_true h]at e1
   rw[←ih,sb5 c5L0.eq_def]
   generalize lls 2 LL=D at*
   simp(disch:=first|omega|fail) only[push_cast,seval,vrl,if_pos,if_neg,hlen,dec_lt hk1,l1,l2,e1,w1]
  ·have ih:=x64 hx hL hi R (k+1) n h2 (by omega) (by omega) ks
   rw[List.countP_cons_of_neg (by simpa using h)]
   rw[Int.natCast_add,Int.natCast_one]at ih
   rw[decide_eq_false h]at e1
   rw[←ih,sb5 c5L0.eq_def]
   generalize lls 2 LL=D at*
   simp(disch:=first|omega|fail) only[push_cast,seval,vrl,if_pos,if_neg,hlen,dec_lt hk1,l1,l2,e1]
theorem hl6(hx:x.length≤1000)(hXX:XX.length≤1000)(hL:LL.length≤1000)(hi:LL[i]? =some x): ∀(R:List (List Int)) (k:Nat) (n:Int),XX.drop k=R→ -100000+R.length≤n→n+R.length≤100000→ ∀ks,
 vgoL W ⟨hNo,[.tmp 8],0⟩ [1,11,13,15,17,19,20,21,22,23,25] c5L1 (.blk 4 [1,11,13,15,17,19,20,21,22,23]::ks) [(1, .x (.int .i64 q)),(11, .own 0 []),(13, .own 1 []),(15, .own 2 []),(17, .own 3 []),(19, .own 4 []),(20, .x (.int .i64 i)),(21, .x (.bool ok)),(22, .x (.int .i64 0)),(23, .x (.int .i64 n)),(25, .x (.int .i64 k))] [C, .sl 1 22 1 (lls 2 LL), .sl 1 22 1 (lls 2 XX), .sl 1 22 1 (lls 2 YY),P]=
  vgo W ⟨hNo,[.tmp 8],0⟩ ks (VFr.of [(1, .x (.int .i64 q)),(11, .own 0 []),(13, .own 1 []),(15, .own 2 []),(17, .own 3 []),(19, .own 4 []),(20, .x (.int .i64 i)),(21, .x (.bool ok)),(22, .x (.int .i64 0)),(23, .x (.int .i64 (n-(R.countP (fun y=>decide (x=y)):Nat))))]) [C, .sl 1 22 1 (lls 2 LL), .sl 1 22 1 (lls 2 XX), .sl 1 22 1 (lls 2 YY),P]
 | [],k,n,hk,hn,hm,ks=>by
   have hlen:=qf0 2 XX
   have hlenL:=qf0 2 LL
   have h1:=congrArg List.length hk
   rw[List.length_drop,List.length_nil]at h1
   have hk1: ¬(k:Int)<(XX.length:Int):=by omega
   rw[List.countP_nil,Int.natCast_zero,Int.sub_zero,sb5 c5L1.eq_def]
   generalize lls 2 LL=D at*
   generalize lls 2 XX=D1 at*
   simp(disch:=first|omega|fail) only[push_cast,seval,vrl,if_pos,if_neg,hlen,hlenL,cw6 (Int.not_lt.1 hk1)]
 |y::R,k,n,hk,hn,hm,ks=>by
  obtain⟨h1,h2,h3⟩:=vu9 hk
  rw[List.length_cons]at hn hm
  have hlen:=qf0 2 XX
  have hlenL:=qf0 2 LL
  have l1:=th8 (nl:=2) hi
  have l2:=th8 (nl:=2) h1
  have hil:i<LL.length:=(List.getElem?_eq_some_iff.1 hi).1
  have e1:=fun b nl b' nl'=>nb2 (b:=b) (nl:=nl) (b':=b') (nl':=nl') (l:=x) (k:=y) (by omega)
  have hk1:(k:Int)<(XX.length:Int):=by omega
  by_cases h:x=y
  ·have ih:=hl6 hx hXX hL hi R (k+1) (n-1) h2 (by omega) (by omega) ks
   have w1:IntKind.wrap .i64 (n-1)=n-1:=wrap64 (by omega) (by omega)
   rw[List.countP_cons_of_pos (by simpa using h),Int.natCast_add,Int.natCast_one,show n-(((R.countP fun y=>decide (x=y)):Nat)+1:Int)=n-1-((R.countP fun y=>decide (x=y)):Nat) by omega]
   rw[Int.natCast_add,Int.natCast_one]at ih
   rw[decide_eq_true h]at e1
   rw[←ih,sb5 c5L1.eq_def]
   generalize lls 2 LL=D at*
   generalize lls 2 XX=D1 at*
   simp(disch:=first|omega|fail) only[push_cast,seval,vrl,if_pos,if_neg,hlen,hlenL,dec_lt hk1,l1,l2,e1,w1]
  ·have ih:=hl6 hx hXX hL hi R (k+1) n h2 (by omega) (by omega) ks
   rw[List.countP_cons_of_neg (by simpa using h)]
   rw[Int.natCast_add,Int.natCast_one]at ih
   rw[decide_eq_false h]at e1
   rw[←ih,sb5 c5L1.eq_def]
   generalize lls 2 LL=D at*
   generalize lls 2 XX=D1 at*
   simp(disch:=first|omega|fail) only[push_cast,seval,vrl,if_pos,if_neg,hlen,hlenL,dec_lt hk1,l1,l2,e1]
theorem k45(hx:x.length≤1000)(hYY:YY.length≤1000)(hL:LL.length≤1000)(hi:LL[i]? =some x): ∀(R:List (List Int)) (k:Nat) (n:Int),YY.drop k=R→ -100000+R.length≤n→n+R.length≤100000→ ∀ks,
 vgoL W ⟨hNo,[.tmp 8],0⟩ [1,11,13,15,17,19,20,21,22,23,26] c5L2 (.blk 6 [1,11,13,15,17,19,20,21,22,23]::ks) [(1, .x (.int .i64 q)),(11, .own 0 []),(13, .own 1 []),(15, .own 2 []),(17, .own 3 []),(19, .own 4 []),(20, .x (.int .i64 i)),(21, .x (.bool ok)),(22, .x (.int .i64 0)),(23, .x (.int .i64 n)),(26, .x (.int .i64 k))] [C, .sl 1 22 1 (lls 2 LL), .sl 1 22 1 (lls 2 XX), .sl 1 22 1 (lls 2 YY),P]=
  vgo W ⟨hNo,[.tmp 8],0⟩ ks (VFr.of [(1, .x (.int .i64 q)),(11, .own 0 []),(13, .own 1 []),(15, .own 2 []),(17, .own 3 []),(19, .own 4 []),(20, .x (.int .i64 i)),(21, .x (.bool ok)),(22, .x (.int .i64 0)),(23, .x (.int .i64 (n-(R.countP (fun y=>decide (x=y)):Nat))))]) [C, .sl 1 22 1 (lls 2 LL), .sl 1 22 1 (lls 2 XX), .sl 1 22 1 (lls 2 YY),P]
 | [],k,n,hk,hn,hm,ks=>by
   have hlen:=qf0 2 YY
   have hlenL:=qf0 2 LL
   have h1:=congrArg List.length hk
   rw[List.length_drop,List.length_nil]at h1
   have hk1: ¬(k:Int)<(YY.length:Int):=by omega
   rw[List.countP_nil,Int.natCast_zero,Int.sub_zero,sb5 c5L2.eq_def]
   generalize lls 2 LL=D at*
   generalize lls 2 YY=D1 at*
   simp(disch:=first|omega|fail) only[push_cast,seval,vrl,if_pos,if_neg,hlen,hlenL,cw6 (Int.not_lt.1 hk1)]
 |y::R,k,n,hk,hn,hm,ks=>by
  obtain⟨h1,h2,h3⟩:=vu9 hk
  rw[List.length_cons]at hn hm
  have hlen:=qf0 2 YY
  have hlenL:=qf0 2 LL
  have l1:=th8 (nl:=2) hi
  have l2:=th8 (nl:=2) h1
  have hil:i<LL.length:=(List.getElem?_eq_some_iff.1 hi).1
  have e1:=fun b nl b' nl'=>nb2 (b:=b) (nl:=nl) (b':=b') (nl':=nl') (l:=x) (k:=y) (by omega)
  have hk1:(k:Int)<(YY.length:Int):=by omega
  by_cases h:x=y
  ·have ih:=k45 hx hYY hL hi R (k+1) (n-1) h2 (by omega) (by omega) ks
   have w1:IntKind.wrap .i64 (n-1)=n-1:=wrap64 (by omega) (by omega)
   rw[List.countP_cons_of_pos (by simpa using h),Int.natCast_add,Int.natCast_one,show n-(((R.countP fun y=>decide (x=y)):Nat)+1:Int)=n-1-((R.countP fun y=>decide (x=y)):Nat) by omega]
   rw[Int.natCast_add,Int.natCast_one]at ih
   rw[decide_eq_true h]at e1
   rw[←ih,sb5 c5L2.eq_def]
   generalize lls 2 LL=D at*
   generalize lls 2 YY=D1 at*
   simp(disch:=first|omega|fail) only[push_cast,seval,vrl,if_pos,if_neg,hlen,hlenL,dec_lt hk1,l1,l2,e1,w1]
  ·have ih:=k45 hx hYY hL hi R (k+1) n h2 (by omega) (by omega) ks
   rw[List.countP_cons_of_neg (by simpa using h)]
   rw[Int.natCast_add,Int.natCast_one]at ih
   rw[decide_eq_false h]at e1
   rw[←ih,sb5 c5L2.eq_def]
   generalize lls 2 LL=D at*
   generalize lls 2 YY=D1 at*
   simp(disch:=first|omega|fail) only[push_cast,seval,vrl,if_pos,if_neg,hlen,hlenL,dec_lt hk1,l1,l2,e1]
end
section
variable {q:Int} [IsFld q]
theorem ui0(hq:q≤9){d:Nat}(hd:d≤3):fewQ q d 1=true:=by
 have q2:=aw0 (q:=q)
 have:q=2∨q=3∨q=4∨q=5∨q=6∨q=7∨q=8∨q=9:=by omega
 have hd2:d=0∨d=1∨d=2∨d=3:=by omega
 rcases this with h|h|h|h|h|h|h|h<;>rw[h]<;>rcases hd2 with rfl|rfl|rfl|rfl<;>rfl
theorem av7{a c:List (El q)}(h:(mulK a c).length≤128): ¬ca3 a c:=fun e=>by
 obtain⟨h1,h2,h3⟩:=e
 rw[←u69,lk3 (ua7 a) (ua7 c) (fun e=>h1 (by rw[e];rfl)) (fun e=>h2 (by rw[e];rfl))]at h
 omega
theorem jj6(hq:q≤9){x:List (El q)}(hx:x.length≤7)(hf:Fac x [x]): ∀b nl,o24 W 28 [.x (.int .i64 q), .fz b (.sl nl 0 1 (ivs (vs x)))] []=some (.tup [.x (.bool true), .x (.int .i64 0)],[],[]):=fun b nl=>by
 have hm:=hf.mon
 have ht:=ou7 hm.trm
 obtain⟨L,h1,h2⟩:=kh8 (a:=x) (by omega) (by rw[ht];exact hm.ne) (by rw[ht];exact ui0 hq (by omega))
 rw[ht,l09 hm]at h1
 rw[←hf.uniq h1]at h2
 exact k74 (by simp) h2 b nl
theorem nv7(hq:q≤9){c:List (El q)}(hc:c.length≤7){L X Y:List (List (El q))}(hL:Fac c L)(hp:L.Perm (X++Y)){T0:Tree}: ∀(R:List (List (El q))) (i:Nat) (p c':List (El q)) (n:Nat),L.drop i=R→Mon p→Fac c' R→mulK c' p=c→ ∃n',∀ks,
 vgoL W ⟨hNo,[.tmp 8],0⟩ [1,11,13,15,17,19,20] c5L3 (.blk 0 [11,19]::ks) [(1, .x (.int .i64 q)),(11, .own 0 []),(13, .own 1 []),(15, .own 2 []),(17, .own 3 []),(19, .own 4 []),(20, .x (.int .i64 i))] [T0, .sl 1 22 1 (lls 2 (L.map vs)), .sl 1 22 1 (lls 2 (X.map vs)), .sl 1 22 1 (lls 2 (Y.map vs)), .sl n 3 1 (ivs (vs p))]=
  vgo W ⟨hNo,[.tmp 8],0⟩ ks (VFr.of [(11, .own 0 []),(19, .own 4 [])]) [T0, .sl 1 22 1 (lls 2 (L.map vs)), .sl 1 22 1 (lls 2 (X.map vs)), .sl 1 22 1 (lls 2 (Y.map vs)), .sl n' 3 1 (ivs (vs c))]
 | [],i,p,c',n,hi,hm,hf,he=>by
   refine⟨n,fun ks=> ?_⟩
   have hlen:=qf0 2 (L.map vs)
   rw[List.length_map]at hlen
   have h1:=congrArg List.length hi
   rw[List.length_drop,List.length_nil]at h1
   have hk1: ¬(i:Int)<(L.length:Int):=by omega
   have hpc:p=c:=by
    rw[←he,Fac.one_of hf,kj1 hm.trm]
   rw[hpc,sb5 c5L3.eq_def]
   generalize lls 2 (L.map vs)=D at*
   simp(disch:=first|omega|fail) only[push_cast,seval,vrl,if_pos,if_neg,hlen,cw6 (Int.not_lt.1 hk1)]
 |x::R,i,p,c',n,hi,hm,hf,he=>by
  obtain⟨h1,h2,h3⟩:=vu9 hi
  obtain⟨c'',g1,g2,g3,rfl⟩:=Fac.cons_of hf
  have hxl:x∈L:=List.mem_of_getElem? h1
  have hlL:=hL.len
  have hpl:=hp.length_eq
  rw[List.length_append]at hpl
  have hcx:=lk3 g3.mon.trm g1.trm g3.mon.ne g1.ne
  have hmp:=Mon.mul g3.mon g1
  have hcp:=lk3 hmp.trm hm.trm hmp.ne hm.ne
  rw[he]at hcp
  have hpx:=lk3 hm.trm g1.trm hm.ne g1.ne
  have q1:=g1.pos
  have q2:=hm.pos
  have q3:=g3.mon.pos
  have hxlen:x.length≤7:=by omega
  have hplen:p.length≤7:=by omega
  have e1:=jj6 hq hxlen (hL.each x hxl)
  obtain⟨F,e2⟩:=sk4 fun b nl b' nl'=>h84 (b:=b) (nl:=nl) (b':=b') (nl':=nl') (a:=p) (c:=x) (by omega) (by omega) (av7 (by omega))
  have ih0:=fun n=>nv7 hq hc hL hp (T0:=T0) R (i+1) (mulK p x) c'' n h2 (Mon.mul hm g1) g3 (by rw[←he,w11,w46 p x])
  obtain⟨n',ih⟩:=ih0 (F false n false 2)
  refine⟨n',fun ks=> ?_⟩
  have ih:=ih ks
  have hxm:(L.map vs)[i]? =some (vs x):=by rw[List.getElem?_map,h1];rfl
  have l1:=th8 (nl:=2) hxm
  have hvx:(vs x).length≤1000:=by rw[fi2];omega
  have hLm:(L.map vs).length≤1000:=by rw[List.length_map];omega
  have hXm:(X.map vs).length≤1000:=by rw[List.length_map];omega
  have hYm:(Y.map vs).length≤1000:=by rw[List.length_map];omega
  have c0:=fun ks=>x64 (q:=q) (ok:=true) (C:=T0) (P:= .sl n 3 1 (ivs (vs p))) (XX:=X.map vs) (YY:=Y.map vs) hvx hLm hxm (L.map vs) 0 0 rfl (by omega) (by omega) ks
  have k0:=List.countP_le_length (p:=fun y=>decide (vs x=y)) (l:=L.map vs)
  have k1:=List.countP_le_length (p:=fun y=>decide (vs x=y)) (l:=X.map vs)
  have k2:=List.countP_le_length (p:=fun y=>decide (vs x=y)) (l:=Y.map vs)
  have kp:=(hp.map vs).countP_eq (fun y=>decide (vs x=y))
  rw[List.map_append,List.countP_append]at kp
  have c1:=fun n0 ha hb ks=>hl6 (q:=q) (ok:=true) (C:=T0) (P:= .sl n 3 1 (ivs (vs p))) (XX:=X.map vs) (YY:=Y.map vs) hvx hXm hLm hxm (X.map vs) 0 n0 rfl ha hb ks
  have c2:=fun n0 ha hb ks=>k45 (q:=q) (ok:=true) (C:=T0) (P:= .sl n 3 1 (ivs (vs p))) (XX:=X.map vs) (YY:=Y.map vs) hvx hYm hLm hxm (Y.map vs) 0 n0 rfl ha hb ks
  generalize (L.map vs).countP (fun y=>decide (vs x=y))=A at*
  generalize (X.map vs).countP (fun y=>decide (vs x=y))=B at*
  generalize (Y.map vs).countP (fun y=>decide (vs x=y))=E at*
  have c1:=c1 (A:Int) (by omega) (by omega)
  have c2:=c2 ((A:Int)-(B:Int)) (by omega) (by omega)
  have hz:(A:Int)-(B:Int)-(E:Int)=0:=by omega
  rw[hz]at c2
  have hlen:=qf0 2 (L.map vs)
  rw[List.length_map]at hlen
  simp only[Int.natCast_zero,Int.zero_add]at c0 c1 c2
  rw[Int.natCast_add,Int.natCast_one]at ih
  have hk1:(i:Int)<(L.length:Int):=by omega
  rw[←ih,sb5 c5L3.eq_def]
  generalize lls 2 (L.map vs)=D at*
  generalize lls 2 (X.map vs)=D1 at*
  generalize lls 2 (Y.map vs)=D2 at*
  simp(disch:=first|omega|fail) only[push_cast,seval,vrl,if_pos,if_neg,hlen,dec_lt hk1,l1,e1]
  rw[c0]
  simp(disch:=first|omega|fail) only[push_cast,seval,vrl,if_pos,if_neg]
  rw[c1]
  simp(disch:=first|omega|fail) only[push_cast,seval,vrl,if_pos,if_neg]
  rw[c2]
  simp(disch:=first|omega|fail) only[push_cast,seval,vrl,if_pos,if_neg,hlen,l1,e2]
end
section
theorem ok3{j:Int}(h0:0≤j)(h1:j<7): ∃z,([.v (.int .i64 2), .v (.int .i64 3), .v (.int .i64 4), .v (.int .i64 5), .v (.int .i64 7), .v (.int .i64 8), .v (.int .i64 9)]:List Tree)[j.toNat]? =some (.v (.int .i64 z))∧z≤9∧IsFld z:=by
 have:j=0∨j=1∨j=2∨j=3∨j=4∨j=5∨j=6:=by omega
 rcases this with rfl|rfl|rfl|rfl|rfl|rfl|rfl
 ·exact⟨2,rfl,by decide,(x14 (by decide)).2.2⟩
 ·exact⟨3,rfl,by decide,(x14 (by decide)).2.2⟩
 ·exact⟨4,rfl,by decide,(x14 (by decide)).2.2⟩
 ·exact⟨5,rfl,by decide,(x14 (by decide)).2.2⟩
 ·exact⟨7,rfl,by decide,(x14 (by decide)).2.2⟩
 ·exact⟨8,rfl,by decide,(x14 (by decide)).2.2⟩
 ·exact⟨9,rfl,by decide,(x14 (by decide)).2.2⟩
theorem o45{raw:List Int}{b:Bool}{nl:Nat}(hl:raw.length≤9223372036854775807){q n m:Int}(q1: -9223372036854775808≤q)(q2:q≤9223372036854775807)(n1: -9223372036854775808≤n)(n2:n≤9223372036854775807)(m1: -9223372036854775808≤m)(m2:m≤9223372036854775807):
 o24 W 5 [.fz b (.sl nl 0 1 (ivs raw)), .x (.int .i64 q), .x (.int .i64 n), .x (.int .i64 m)] []=some (.x (.bool true),[],[]):=by
 by_cases h64:64<(raw.length:Int)
 ·rw[o10 rfl T5 rfl]
  unfold F5 c5
  simp(disch:=first|omega|fail) only[push_cast,seval,vrl,if_pos,if_neg,dec_lt h64]
 ·have p0:=s88 q1 q2 (show(0:Int)<7 by omega)
  have hp0:=h58 (a:=q) (n:=7) (by omega)
  obtain⟨z,hz,hz9,hfz⟩:=ok3 hp0.1 hp0.2
  haveI:=hfz
  have z2:=aw0 (q:=z)
  have hp0a:=hp0.1
  have hp0b:=hp0.2
  have p1:=s88 n1 n2 (show(0:Int)<4 by omega)
  have p2:=s88 m1 m2 (show(0:Int)<4 by omega)
  have hp1:=h58 (a:=n) (n:=4) (by omega)
  have hp2:=h58 (a:=m) (n:=4) (by omega)
  obtain⟨n',hn'⟩: ∃n':Nat,pkI n 4=(n':Int):=⟨(pkI n 4).toNat,by omega⟩
  obtain⟨m',hm'⟩: ∃m':Nat,pkI m 4=(m':Int):=⟨(pkI m 4).toNat,by omega⟩
  rw[hn']at p1 hp1
  rw[hm']at p2 hp2
  obtain⟨a0,ha0,hal⟩:=m61 (raw:=raw) (frm:=0) (q:=z) (n:=n') (by omega)
  obtain⟨b0,hb0,hbl⟩:=m61 (raw:=raw) (frm:=5) (q:=z) (n:=m') (by omega)
  have s1:=fun b nl=>vv4 (b:=b) (nl:=nl) hl (frm:=0) (q:=z) (by omega) (by omega) (by omega) (N:=n') (by omega)
  have s2:=fun b nl=>vv4 (b:=b) (nl:=nl) hl (frm:=5) (q:=z) (by omega) (by omega) (by omega) (N:=m') (by omega)
  rw[ha0]at s1
  rw[hb0]at s2
  have v1:=uq1 a0
  have v2:=uq1 b0
  have ma:=yv4 a0
  have mb:=yv4 b0
  have la:(a0++[1]).length=n'+1:=by simp[hal]
  have lb:(b0++[1]).length=m'+1:=by simp[hbl]
  generalize a0++[1]=a at*
  generalize b0++[1]=bb at*
  have mc:=Mon.mul ma mb
  have lc:=lk3 ma.trm mb.trm ma.ne mb.ne
  obtain⟨F,e1⟩:=sk4 fun b nl b' nl'=>h84 (b:=b) (nl:=nl) (b':=b') (nl':=nl') (a:=a) (c:=bb) (by omega) (by omega) (av7 (by omega))
  have fac: ∀{y:List (El z)},Mon y→y.length≤7→ ∃L:List (List (El z)),Fac y L∧ ∀b nl,o24 W 27 [.x (.int .i64 z), .fz b (.sl nl 0 1 (ivs (vs y)))] []=some (.tup [.own 0 [], .x (.int .i64 0)],[.sl 1 22 1 (lls 2 (L.map vs))],[]):=fun{y} hm hy=>by
   have ht:=ou7 hm.trm
   obtain⟨L,h1,h2⟩:=kh8 (a:=y) (by omega) (by rw[ht];exact hm.ne) (by rw[ht];exact ui0 hz9 (by omega))
   rw[ht,l09 hm]at h1
   exact⟨L,h1,h2⟩
  obtain⟨L,fL,e2⟩:=fac mc (by omega)
  obtain⟨X,fX,e3⟩:=fac ma (by omega)
  obtain⟨Y,fY,e4⟩:=fac mb (by omega)
  have hp:=fL.parts rfl fX fY
  have hpl:=hp.length_eq
  rw[List.length_append]at hpl
  have hLn:=fL.len
  obtain⟨n2',e5⟩:=nv7 hz9 (by omega) fL hp (T0:= .sl (F false 1 false 1) 3 1 (ivs (vs (mulK a bb)))) L 0 [1] (mulK a bb) 0 rfl u94 fL (by rw[w46,kj1 mc.trm])
  have hone:ivs (vs ([1]:List (El z)))=[.v (.int .i64 1)]:=rfl
  rw[hone]at e5
  simp only[Int.natCast_zero]at e5
  have e6:=fun b nl b' nl'=>nb2 (b:=b) (nl:=nl) (b':=b') (nl':=nl') (l:=vs (mulK a bb)) (k:=vs (mulK a bb)) (by rw[fi2];omega)
  rw[decide_eq_true rfl]at e6
  have hLl:=qf0 2 (L.map vs)
  have hXl:=qf0 2 (X.map vs)
  have hYl:=qf0 2 (Y.map vs)
  rw[List.length_map]at hLl hXl hYl
  have w1:IntKind.wrap .i64 ((X.length:Int)+(Y.length:Int))=(L.length:Int):=by rw[wrap64 (by omega) (by omega)];omega
  generalize mulK a bb=c at*
  generalize lls 2 (L.map vs)=D at*
  generalize lls 2 (X.map vs)=D1 at*
  generalize lls 2 (Y.map vs)=D2 at*
  rw[o10 rfl T5 rfl]
  unfold F5 c5
  simp(disch:=first|omega|fail) only[push_cast,seval,vrl,if_pos,if_neg,cw6 (Int.not_lt.1 h64),p0,hz,p1,p2,s1,s2,←v1,←v2,e1,e2,e3,e4,hLl,hXl,hYl,w1]
  rw[e5]
  simp(disch:=first|omega|fail) only[push_cast,seval,vrl,if_pos,if_neg,e6]
end
section
variable {h:H} {l:List AV} {ws:List Value}
theorem a23:Vm.VRL h [] (allZ h) (allZ h) [] []:=by rw[Vm.VRL]
theorem dp0(r:Vm.VRL h [] (allZ h) (allZ h) l ws)(v:Value):Vm.VRL h [] (allZ h) (allZ h) (.x v::l) (v::ws):=by
 rw[Vm.VRL];exact⟨v,ws,rfl,by rw[Vm.VR],r⟩
theorem qj4{sa:Option Addr}{c:Nat}{zs:List Int}(hr:RdI h sa c zs): ∀o,sa.map (·.block)=some o→allZ h o:=fun o ho=>by
 rcases hr with⟨rfl,_⟩|⟨_,o2,off,r2,rfl,h1,_⟩
 ·cases ho
 ·cases ho;exact h42 h1
theorem sk6(r:Vm.VRL h [] (allZ h) (allZ h) l ws){sa:Option Addr}{c:Nat}{zs:List Int}(hr:RdI h sa c zs):Vm.VRL h [] (allZ h) (allZ h) (.fz true (.sl 2 0 1 (ivs zs))::l) (.slice sa zs.length c::ws):=by
 rw[Vm.VRL];exact⟨_,ws,rfl,by rw[Vm.VR];exact pd9 hr (qj4 hr),r⟩
end
theorem g35(h:H)(s0:Option Addr)(c0:Nat)(z0:List Int)(r0:RdI h s0 c0 z0)(_:ss4 h 1 s0=true)(_:z0.length≤9223372036854775807)(a1:Int)(_: -9223372036854775808≤a1)(_:a1≤9223372036854775807)(a2:Int)(_: -9223372036854775808≤a2)(_:a2≤9223372036854775807)(a3:Int)(_: -9223372036854775808≤a3)(_:a3≤9223372036854775807):
 ∃h',call T 5 [.slice s0 z0.length c0, .int .i64 a1, .int .i64 a2, .int .i64 a3] h=some (.bool true,h'):=
 vlaw lw2 (sk6 (dp0 (dp0 (dp0 a23 _) _) _) r0) (by apply o45<;>assumption)
end Go.Proofs.Ytoglhlonhmmieaa
