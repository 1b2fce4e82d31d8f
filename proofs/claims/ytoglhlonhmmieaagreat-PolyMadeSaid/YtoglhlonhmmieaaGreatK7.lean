/-
  What syndromeref's F.Mul, Neg, Add and Sub compute, as the table's numbers. Conditions: a field of the table. What syndromeref's F.Add and F.Sub compute. Conditions: a field of the table. What syndrom ..
-/
import Derived.Test.YtoglhlonhmmieaaGreatKFM0
import Derived.Test.YtoglhlonhmmieaaGreatKFM1
import Derived.Test.YtoglhlonhmmieaaGreatKFM2
import Derived.Test.YtoglhlonhmmieaaGreatKFM3
import Derived.Test.YtoglhlonhmmieaaGreatKFM4
import Derived.Test.YtoglhlonhmmieaaGreatK5
import Derived.Test.YtoglhlonhmmieaaGreatK6
import Derived.Test.YtoglhlonhmmieaaGreatK2
set_option linter.unusedVariables false
set_option linter.unusedSimpArgs false
set_option linter.unusedSectionVars false
set_option maxRecDepth 100000
namespace Go.Proofs.YtoglhlonhmmieaaGreat
open Go.Am
theorem gb8{n lo c:Nat}{p g:Int}{m:Nat}{mod:List Int}(hn:fldN n=some (p,m,g,mod))(h:j25 n lo c=true){a b:Nat}(ha:lo≤a)(ha2:a<lo+c)(hb:b<n):mulR n p m mod a b=fmul n a b:=by
 unfold j25 at h
 rw[hn]at h
 simp only[List.all_eq_true,List.mem_range,decide_eq_true_eq]at h
 have:=h (a-lo) (by omega) b hb
 rw[show a-lo+lo=a by omega]at this
 exact this
theorem f58{n:Nat}{p g:Int}{m:Nat}{mod:List Int}(hn:fldN n=some (p,m,g,mod))(h:y98 n=true){a b:Nat}(ha:a<n)(hb:b<n):mulR n p m mod a b=fmul n a b:=by
 unfold y98 at h
 rw[hn]at h
 simp only[List.all_eq_true,List.mem_range,decide_eq_true_eq]at h
 exact h a ha b hb
theorem wd3{n:Nat}{p g:Int}{m:Nat}{mod:List Int}(hn:fldN n=some (p,m,g,mod)){a b:Nat}(ha:a<n)(hb:b<n):mulR n p m mod a b=fmul n a b:=by
 obtain⟨h2,h64⟩:=ug0 hn
 by_cases c1:n<31
 ·have:=List.all_eq_true.1 yu4 (n-2) (List.mem_range.2 (by omega))
  rw[show n-2+2=n by omega]at this
  exact f58 hn this ha hb
 by_cases c2:n<48
 ·have:=List.all_eq_true.1 o38 (n-31) (List.mem_range.2 (by omega))
  rw[show n-31+31=n by omega]at this
  exact f58 hn this ha hb
 by_cases c3:n<63
 ·have:=List.all_eq_true.1 gf7 (n-48) (List.mem_range.2 (by omega))
  rw[show n-48+48=n by omega]at this
  exact f58 hn this ha hb
 by_cases c4:n=63
 ·subst c4;cases hn
 obtain rfl:n=64:=by omega
 by_cases d0:a<8
 ·exact gb8 hn fm2 (by omega) (by omega) hb
 by_cases d1:a<16
 ·exact gb8 hn f88 (by omega) (by omega) hb
 by_cases d2:a<24
 ·exact gb8 hn k92 (by omega) (by omega) hb
 by_cases d3:a<32
 ·exact gb8 hn ri8 (by omega) (by omega) hb
 by_cases d4:a<40
 ·exact gb8 hn ra0 (by omega) (by omega) hb
 by_cases d5:a<48
 ·exact gb8 hn gh5 (by omega) (by omega) hb
 by_cases d6:a<56
 ·exact gb8 hn fn7 (by omega) (by omega) hb
 ·exact gb8 hn qc8 (by omega) (by omega) hb
theorem el7{q p g:Int}{m:Nat}{mod:List Int}(hn:fldN q.toNat=some (p,m,g,mod))(a b:Int):mulR q p m mod a b=fmul q a b:=by
 obtain⟨h2,h64⟩:=ug0 hn
 by_cases ha:0≤a∧a<q
 rotate_left
 ·rw[mulR,if_neg ha,fmul,uh7 ha];rfl
 by_cases hb:0≤b∧b<q
 rotate_left
 ·rw[mulR,if_pos ha,if_neg hb,fmul,iy2 ha,uh7 hb];rfl
 have:=wd3 hn (a:=a.toNat) (b:=b.toNat) (by omega) (by omega)
 rw[show((q.toNat:Nat):Int)=q by omega,show((a.toNat:Nat):Int)=a by omega,show((b.toNat:Nat):Int)=b by omega]at this
 exact this
structure RUse (h:H) (q p:Int) (m:Nat) (g:Int) (mod:List Int) (om cm:Nat):Prop where
 hn:fldN q.toNat=some (p,m,g,mod)
 rm:RdI h (some ⟨om,0,none⟩) cm mod
theorem RUse.mono{h h':H}{q p:Int}{m:Nat}{g:Int}{mod:List Int}{om cm:Nat}(u:RUse h q p m g mod om cm)(hp:h<+:h'):RUse h' q p m g mod om cm:=⟨u.hn,u.rm.mono hp⟩
theorem RUse.ok{h:H}{q p:Int}{m:Nat}{g:Int}{mod:List Int}{om cm:Nat}(u:RUse h q p m g mod om cm):FOk q p m mod:=by
 obtain⟨h2,_⟩:=ug0 u.hn
 have:=(hj0 u.hn).1
 rw[show((q.toNat:Nat):Int)=q by omega]at this
 exact this
abbrev rv(q p:Int)(m:Nat)(g:Int)(mod:List Int)(om cm:Nat):Value:=fv q p m g (.slice (some ⟨om,0,none⟩) mod.length cm)
abbrev rvR(q p:Int)(m:Nat)(g:Int)(mod:List Int)(om cm:Nat):Ob:=fvR q p m g (.slice (some ⟨om,0,none⟩) mod.length cm)
section
variable {h:H} {q p:Int} {m:Nat} {g:Int} {mod:List Int} {om cm:Nat}
theorem pr2(a:Int):call T 25 [rv q p m g mod om cm, .int .i64 a] h=some (.bool (fok q a),h++[rvR q p m g mod om cm]):=cy0 q p m g a _ h
theorem ad1(u:RUse h q p m g mod om cm)(a b:Int): ∃h':H,h<+:h'∧call T 32 [rv q p m g mod om cm, .int .i64 a, .int .i64 b] h=some (.int .i64 (fmul q a b),h'):=by
 obtain⟨h',p1,e⟩:=u.ok.mul (g0:=g) h u.rm a b
 rw[el7 u.hn]at e
 exact⟨h',p1,e⟩
theorem mm1(p:Int): ∀(n:Nat) (a:Int),numb p ((digs p n a).map fun d=>(p-d)%p)=negN p n a
 |0,a=>rfl
 |n+1,a=>by rw[digs,List.map_cons,numb,negN,mm1 p n (a/p),Int.mul_comm];omega
theorem ce6(p:Int): ∀(n:Nat) (a b:Int),numb p (List.zipWith (fun x y=>(x+y)%p) (digs p n a) (digs p n b))=addN p n a b
 |0,a,b=>rfl
 |n+1,a,b=>by rw[digs,digs,List.zipWith_cons_cons,numb,addN,ce6 p n (a/p) (b/p),Int.mul_comm];omega
theorem u87{h1:H}{B o:Nat}{ms:Value}(hf:FOk q p m mod)(hB:h1.row B=some ⟨fvL q p m g ms,26,0,true⟩)(ho:h1.length≤o):
 ∀(n:Nat) (k:Int) (pre rest:List Int) (G:H),k=(pre.length:Int)→pre.length+n=m→rest.length=n→Dig p rest→h1<+:G→G.row o=some ⟨ints (pre++rest),3,1,true⟩→
 ∃G':H,h1<+:G'∧G'.row o=some ⟨ints (pre++rest.map fun d=>(p-d)%p),3,1,true⟩∧
  ∀ks,goL T [.tmp 4] [2,5,6] c62L0 (.blk 0 [2,5]::ks) [(2, .pointer (some ⟨B,0,none⟩)),(5, .slice (some ⟨o,0,none⟩) m m),(6, .int .i64 k)] G=
   go T [.tmp 4] ks (Fr.of [(2, .pointer (some ⟨B,0,none⟩)),(5, .slice (some ⟨o,0,none⟩) m m)]) G'
 |0,k,pre,rest,G,hk,hn,hl,hd,hp1,hr=>by
  subst hk
  obtain rfl:=List.eq_nil_of_length_eq_zero hl
  refine⟨G,hp1,hr,fun ks=> ?_⟩
  have b2:G.ld1 B 2=some (.int .i64 m):=s18 (cp5 hB hp1) rfl
  rw[ur1 c62L0.eq_def]
  simp(disch:=first|omega|(simp only[rl9,wi2,q89]<;>omega)|fail) only[push_cast,seval,cw6,b2]
 |n+1,k,pre,rest,G,hk,hn,hl,hd,hp1,hr=>by
  subst hk
  have hp:=hf.p2
  have hp64:=hf.p64
  have hm10:=hf.m10
  obtain⟨a,r,rfl⟩: ∃a r,rest=a::r:=ty5 (by omega)
  have b1:G.ld1 B 1=some (.int .i64 p):=s18 (cp5 hB hp1) rfl
  have b2:G.ld1 B 2=some (.int .i64 m):=s18 (cp5 hB hp1) rfl
  have ge:gi (pre++a::r) (pre.length:Int)=a:=z41 rfl
  have el:=i59 hr (i:=(pre.length:Int)) (by omega) (by simp;omega)
  rw[ge]at el
  have hi3:0≤(pre.length:Int)∧(pre.length:Int)<(m:Int):=by omega
  have ha:=hd a (by simp)
  obtain⟨v,hv⟩: ∃v,v=(p-a)%p:=⟨_,rfl⟩
  have es':=l45 hr (i:=(pre.length:Int)) (v:=v) (by omega) (by simp;omega)
  have hset:(pre++a::r).set ((pre.length:Int)).toNat v=pre++[v]++r:=by rw[pd0 (by omega)];simp
  have q1:(p-a).tmod p=v:=by rw[hv];exact Int.tmod_eq_emod_of_nonneg (by omega)
  rw[hset]at es'
  have hrow':H.row (G.set o (.row ⟨ints (pre++[v]++r),3,1,true⟩)) o=some ⟨ints (pre++[v]++r),3,1,true⟩:=tr3 (h44 hr)
  obtain⟨G',p',r',ih⟩:=u87 hf hB ho n ((pre.length:Int)+1) (pre++[v]) r _ (by simp) (by simp;omega) (by simpa using hl) (fun z hz=>hd z (by simp[hz])) (wc3 hp1 ho) hrow'
  have he:pre++(a::r).map (fun d=>(p-d)%p)=pre++[v]++r.map (fun d=>(p-d)%p):=by rw[List.map_cons,←hv];simp
  refine⟨G',p',by rw[he];exact r',fun ks=> ?_⟩
  rw[←ih ks,ur1 c62L0.eq_def]
  have hp0: ¬p=0:=by omega
  simp(disch:=first|omega|(simp only[rl9,wi2,q89]<;>omega)|fail) only[push_cast,seval,dec_lt,wrap64,b1,b2,el,hi3,hp0,q1,es']
theorem le6{p:Int}(hp:0<p)(l:List Int):Dig p (l.map fun d=>(p-d)%p):=fun z hz=>by
 obtain⟨d,_,rfl⟩:=List.mem_map.1 hz
 exact⟨Int.emod_nonneg _ (by omega),Int.emod_lt_of_pos _ hp⟩
theorem y97(u:RUse h q p m g mod om cm)(a:Int): ∃h':H,h<+:h'∧call T 62 [rv q p m g mod om cm, .int .i64 a] h=some (.int .i64 (fneg q a),h'):=by
 have hf:=u.ok
 have hp:=hf.p2
 have hp64:=hf.p64
 have hq64:=hf.q64
 have hm1:=hf.m1
 have hm10:=hf.m10
 obtain⟨hc,hdg⟩:=y65 u.hn
 obtain⟨ms,hms⟩: ∃ms,ms=Value.slice (some ⟨om,0,none⟩) mod.length cm:=⟨_,rfl⟩
 obtain⟨h1,eh1⟩: ∃h1:H,h1=h++[fvR q p m g ms]:=⟨_,rfl⟩
 have r1:h1.row h.length=some ⟨fvL q p m g ms,26,0,true⟩:=by rw[eh1];exact cv8
 have p1:h<+:h1:=by rw[eh1];exact List.prefix_append _ _
 have l1:=fq7 r1 (n:=5) rfl
 obtain⟨h2,eh2⟩: ∃h2:H,h2=h1++[fvR q p m g ms]:=⟨_,rfl⟩
 have p2:h1<+:h2:=by rw[eh2];exact List.prefix_append _ _
 have hasA:call T 25 [fv q p m g ms, .int .i64 a] h1=some (.bool (fok q a),h2):=by rw[eh2];exact cy0 q p m g a ms h1
 have e0:rv q p m g mod om cm=fv q p m g ms:=by rw[hms]
 rw[fneg,hc,hdg,e0]
 rcases pj4 q a with⟨ho,h0,ha1⟩|ho
 rotate_left
 ·rw[ho]at hasA⊢
  refine⟨h2,p1.trans p2, ?_⟩
  rw[wn8 T62 rfl]
  unfold F62 c62
  simp(disch:=first|omega|(simp only[rl9,wi2,q89]<;>omega)|fail) only[push_cast,seval,←eh1,l1,hasA]
 rw[ho]at hasA⊢
 have r2:=cp5 r1 p2
 have b1:h2.ld1 h.length 1=some (.int .i64 p):=s18 r2 rfl
 have b2:h2.ld1 h.length 2=some (.int .i64 m):=s18 r2 rfl
 obtain⟨sx,cx,h3,ex,p3,gx⟩:=h93 a p m h2 (by omega) (by omega) h0 (by omega)
 obtain⟨ds,hds⟩: ∃ds,ds=digs p m a:=⟨_,rfl⟩
 have hdl:ds.length=m:=by rw[hds];exact hn5 _ _ _
 rw[←hds]at gx
 obtain⟨o,rfl,hol,rfl,ro⟩: ∃o,sx=some ⟨o,0,none⟩∧h2.length≤o∧cx=ds.length∧h3.row o=some ⟨ints ds,3,1,true⟩:=by
  rcases gx with⟨_,_,h0⟩|h0
  ·rw[h0]at hdl;simp at hdl;omega
  ·exact h0
 rw[hdl]at ex
 obtain⟨h4,p4,r4,lo⟩:=u87 hf r2 hol m 0 [] ds h3 rfl (by simp) hdl (by rw[hds];exact Dig.digs (by omega) _ _) p3 ro
 simp only[List.nil_append]at r4
 obtain⟨z,hz⟩: ∃z,z=ds.map fun d=>(p-d)%p:=⟨_,rfl⟩
 rw[←hz]at r4
 have hzl:z.length=m:=by rw[hz];simpa using hdl
 have hzd:Dig p z:=by rw[hz];exact le6 (by omega) ds
 have rz:RdI h4 (some ⟨o,0,none⟩) m z:=by have:=RdI.ofRow r4 rfl;rw[hzl]at this;exact this
 have hb: ∀j,j≤z.length→0≤numb p (z.drop j)∧numb p (z.drop j)≤1000000:=by
  intro j hj
  have h1:=v51 (p:=p) (by omega) (l:=z.drop j) (fun x hx=>hzd x (List.mem_of_mem_drop hx))
  have h2:p^(z.drop j).length≤p^m:=tv0 (by omega) (by rw[List.length_drop];omega)
  rw[hf.pm]at h2
  omega
 have hnum:=f89 p z (some ⟨o,0,none⟩) m h4 rz (by omega) hp64 (fun x hx=>by have:=hzd x hx;omega) (by omega) (by omega) hb
 have hv:numb p z=negN p m a:=by rw[hz,hds];exact mm1 p m a
 rw[hzl,hv]at hnum
 have b14:h4.ld1 h.length 1=some (.int .i64 p):=s18 (cp5 r2 p4) rfl
 refine⟨h4,(p1.trans p2).trans p4, ?_⟩
 rw[wn8 T62 rfl]
 unfold F62 c62
 simp(disch:=first|omega|(simp only[rl9,wi2,q89]<;>omega)|fail) only[push_cast,seval,←eh1,l1,hasA,b1,b2,ex]
 rw[lo]
 simp(disch:=first|omega|(simp only[rl9,wi2,q89]<;>omega)|fail) only[push_cast,seval,b14,hnum]
end
def nw7(n:Nat):Bool:=match fldN n with
 |none=>true
 |some (p,m,_,_)=>bif decide (p=2)then(List.range n).all fun a=>(List.range n).all fun b=>decide (Go.bits .xor .i64 (a:Int) (b:Int)=addN 2 m a b)else true
theorem j52:((List.range 63).all fun n=>nw7 (n+2))=true:=by kernel_rfl
theorem x96{q g:Int}{m:Nat}{mod:List Int}(hn:fldN q.toNat=some (2,m,g,mod)){a b:Int}(ha:0≤a∧a<q)(hb:0≤b∧b<q):Go.bits .xor .i64 a b=addN 2 m a b:=by
 obtain⟨h2,h64⟩:=ug0 hn
 have h:=List.all_eq_true.1 j52 (q.toNat-2) (List.mem_range.2 (by omega))
 rw[show q.toNat-2+2=q.toNat by omega]at h
 unfold nw7 at h
 rw[hn]at h
 simp only[decide_true,cond_true,List.all_eq_true,List.mem_range,decide_eq_true_eq]at h
 have:=h a.toNat (by omega) b.toNat (by omega)
 rw[show((a.toNat:Nat):Int)=a by omega,show((b.toNat:Nat):Int)=b by omega]at this
 exact this
section
variable {h:H} {q p:Int} {m:Nat} {g:Int} {mod:List Int} {om cm:Nat}
theorem p80{h1:H}{B o oy fy cy:Nat}{ms:Value}{ys:List Int}(hf:FOk q p m mod)(hB:h1.row B=some ⟨fvL q p m g ms,26,0,true⟩)(ho:h1.length≤o)(hyl:ys.length=m)(hyd:Dig p ys):
 ∀(n:Nat) (k:Int) (pre rest:List Int) (G:H),k=(pre.length:Int)→pre.length+n=m→rest.length=n→Dig p rest→h1<+:G→G.row o=some ⟨ints (pre++rest),3,1,true⟩→
  (∀i:Int,0≤i→i<m→G.ld1 oy (fy+i.toNat)=some (.int .i64 (gi ys i)))→oy≠o→
 ∃G':H,h1<+:G'∧G'.row o=some ⟨ints (pre++List.zipWith (fun x y=>(x+y)%p) rest (ys.drop pre.length)),3,1,true⟩∧
  ∀ks,goL T [.tmp 6] [3,7,8,9] c31L0 (.blk 0 [3,7]::ks) [(3, .pointer (some ⟨B,0,none⟩)),(7, .slice (some ⟨o,0,none⟩) m m),(8, .slice (some ⟨oy,fy,none⟩) m cy),(9, .int .i64 k)] G=
   go T [.tmp 6] ks (Fr.of [(3, .pointer (some ⟨B,0,none⟩)),(7, .slice (some ⟨o,0,none⟩) m m)]) G'
 |0,k,pre,rest,G,hk,hn,hl,hd,hp1,hr,hy,hne=>by
  subst hk
  obtain rfl:=List.eq_nil_of_length_eq_zero hl
  refine⟨G,hp1,by rw[List.zipWith_nil_left];exact hr,fun ks=> ?_⟩
  have b2:G.ld1 B 2=some (.int .i64 m):=s18 (cp5 hB hp1) rfl
  rw[ur1 c31L0.eq_def]
  simp(disch:=first|omega|(simp only[rl9,wi2,q89]<;>omega)|fail) only[push_cast,seval,cw6,b2]
 |n+1,k,pre,rest,G,hk,hn,hl,hd,hp1,hr,hy,hne=>by
  subst hk
  have hp:=hf.p2
  have hp64:=hf.p64
  have hm10:=hf.m10
  obtain⟨a,r,rfl⟩: ∃a r,rest=a::r:=ty5 (by omega)
  have b1:G.ld1 B 1=some (.int .i64 p):=s18 (cp5 hB hp1) rfl
  have b2:G.ld1 B 2=some (.int .i64 m):=s18 (cp5 hB hp1) rfl
  have ge:gi (pre++a::r) (pre.length:Int)=a:=z41 rfl
  have el:=i59 hr (i:=(pre.length:Int)) (by omega) (by simp;omega)
  rw[ge]at el
  have ey:=hy (pre.length:Int) (by omega) (by omega)
  have hi3:0≤(pre.length:Int)∧(pre.length:Int)<(m:Int):=by omega
  have ha:=hd a (by simp)
  have hb:=x04 (p:=p) (by omega) hyd (pre.length:Int)
  obtain⟨v,hv⟩: ∃v,v=(a+gi ys (pre.length:Int))%p:=⟨_,rfl⟩
  have es':=l45 hr (i:=(pre.length:Int)) (v:=v) (by omega) (by simp;omega)
  have hset:(pre++a::r).set ((pre.length:Int)).toNat v=pre++[v]++r:=by rw[pd0 (by omega)];simp
  have q1:(a+gi ys (pre.length:Int)).tmod p=v:=by rw[hv];exact Int.tmod_eq_emod_of_nonneg (by omega)
  rw[hset]at es'
  have hrow':H.row (G.set o (.row ⟨ints (pre++[v]++r),3,1,true⟩)) o=some ⟨ints (pre++[v]++r),3,1,true⟩:=tr3 (h44 hr)
  obtain⟨G',p',r',ih⟩:=p80 (cy:=cy) hf hB ho hyl hyd n ((pre.length:Int)+1) (pre++[v]) r _ (by simp) (by simp;omega) (by simpa using hl) (fun z hz=>hd z (by simp[hz])) (wc3 hp1 ho) hrow'
   (fun i h0 hi=>by rw[m25 (fun e=>hne e.symm)];exact hy i h0 hi) hne
  have hpl:(pre++[v]).length=pre.length+1:=by simp
  have he:pre++List.zipWith (fun x y=>(x+y)%p) (a::r) (ys.drop pre.length)=pre++[v]++List.zipWith (fun x y=>(x+y)%p) r (ys.drop (pre++[v]).length):=by
   rw[gx6 (by omega),List.zipWith_cons_cons,←hv,hpl];simp
  refine⟨G',p',by rw[he];exact r',fun ks=> ?_⟩
  rw[←ih ks,ur1 c31L0.eq_def]
  have hp0: ¬p=0:=by omega
  simp(disch:=first|omega|(simp only[rl9,wi2,q89]<;>omega)|fail) only[push_cast,seval,dec_lt,wrap64,b1,b2,el,ey,hi3,hp0,q1,es']
theorem sg1(u:RUse h q p m g mod om cm)(a b:Int): ∃h':H,h<+:h'∧call T 31 [rv q p m g mod om cm, .int .i64 a, .int .i64 b] h=some (.int .i64 (fadd q a b),h'):=by
 have hf:=u.ok
 have hp:=hf.p2
 have hp64:=hf.p64
 have hq64:=hf.q64
 have hm1:=hf.m1
 have hm10:=hf.m10
 obtain⟨hc,hdg⟩:=y65 u.hn
 obtain⟨ms,hms⟩: ∃ms,ms=Value.slice (some ⟨om,0,none⟩) mod.length cm:=⟨_,rfl⟩
 have e0:rv q p m g mod om cm=fv q p m g ms:=by rw[hms]
 obtain⟨h1,eh1⟩: ∃h1:H,h1=h++[fvR q p m g ms]:=⟨_,rfl⟩
 have r1:h1.row h.length=some ⟨fvL q p m g ms,26,0,true⟩:=by rw[eh1];exact cv8
 have p1:h<+:h1:=by rw[eh1];exact List.prefix_append _ _
 have l1:=fq7 r1 (n:=5) rfl
 obtain⟨h2,eh2⟩: ∃h2:H,h2=h1++[fvR q p m g ms]:=⟨_,rfl⟩
 have p2:h1<+:h2:=by rw[eh2];exact List.prefix_append _ _
 have hasA:call T 25 [fv q p m g ms, .int .i64 a] h1=some (.bool (fok q a),h2):=by rw[eh2];exact cy0 q p m g a ms h1
 have r2:=cp5 r1 p2
 have l2:=fq7 r2 (n:=5) rfl
 obtain⟨h3,eh3⟩: ∃h3:H,h3=h2++[fvR q p m g ms]:=⟨_,rfl⟩
 have p3:h2<+:h3:=by rw[eh3];exact List.prefix_append _ _
 have hasB:call T 25 [fv q p m g ms, .int .i64 b] h2=some (.bool (fok q b),h3):=by rw[eh3];exact cy0 q p m g b ms h2
 have r3:=cp5 r2 p3
 rw[fadd,hc,hdg,e0]
 rcases pj4 q a with⟨ho,h0,ha1⟩|ho
 rotate_left
 ·rw[ho]at hasA⊢
  refine⟨h2,p1.trans p2, ?_⟩
  rw[wn8 T31 rfl]
  unfold F31 c31
  simp(disch:=first|omega|(simp only[rl9,wi2,q89]<;>omega)|fail) only[push_cast,seval,←eh1,l1,hasA]
 rw[ho]at hasA⊢
 rcases pj4 q b with⟨hob,h0b,hb1⟩|hob
 rotate_left
 ·rw[hob]at hasB⊢
  refine⟨h3,(p1.trans p2).trans p3, ?_⟩
  rw[wn8 T31 rfl]
  unfold F31 c31
  simp(disch:=first|omega|(simp only[rl9,wi2,q89]<;>omega)|fail) only[push_cast,seval,←eh1,l1,hasA,l2,hasB]
 rw[hob]at hasB⊢
 have b1:h3.ld1 h.length 1=some (.int .i64 p):=s18 r3 rfl
 have b2:h3.ld1 h.length 2=some (.int .i64 m):=s18 r3 rfl
 have hp0: ¬p=0:=by omega
 by_cases hone:m=1
 ·refine⟨h3,(p1.trans p2).trans p3, ?_⟩
  have hmi:(m:Int)=1:=by omega
  have q1:(a+b).tmod p=(a+b)%p:=Int.tmod_eq_emod_of_nonneg (by omega)
  have ev:addN p m a b=(a+b)%p:=by subst hone;rw[addN,addN,Int.mul_zero,Int.add_zero,←Int.add_emod]
  rw[ev,wn8 T31 rfl]
  unfold F31 c31
  simp(disch:=first|omega|(simp only[rl9,wi2,q89]<;>omega)|fail) only[push_cast,seval,←eh1,l1,hasA,l2,hasB,b1,b2,mr8 hmi,wrap64,hp0,q1]
 have hmi: ¬(m:Int)=1:=by omega
 by_cases htwo:p=2
 ·refine⟨h3,(p1.trans p2).trans p3, ?_⟩
  have hx:Go.bits .xor .i64 a b=addN p m a b:=by
   have hn:=u.hn
   rw[htwo]at hn⊢
   exact x96 hn ⟨h0,ha1⟩ ⟨h0b,hb1⟩
  rw[wn8 T31 rfl]
  unfold F31 c31
  simp(disch:=first|omega|(simp only[rl9,wi2,q89]<;>omega)|fail) only[push_cast,seval,←eh1,l1,hasA,l2,hasB,b1,b2,nb8 hmi,mr8 htwo,hx]
 obtain⟨sx,cx,h4,ex,p4,gx⟩:=h93 a p m h3 (by omega) (by omega) h0 (by omega)
 obtain⟨xs,hxs⟩: ∃ds,ds=digs p m a:=⟨_,rfl⟩
 have hxl:xs.length=m:=by rw[hxs];exact hn5 _ _ _
 have hxd:Dig p xs:=by rw[hxs];exact Dig.digs (by omega) _ _
 rw[←hxs]at gx
 obtain⟨o,rfl,hol,rfl,ro⟩: ∃o,sx=some ⟨o,0,none⟩∧h3.length≤o∧cx=xs.length∧h4.row o=some ⟨ints xs,3,1,true⟩:=by
  rcases gx with⟨_,_,h0⟩|h0
  ·rw[h0]at hxl;simp at hxl;omega
  ·exact h0
 rw[hxl]at ex
 have b14:h4.ld1 h.length 1=some (.int .i64 p):=ix6 b1 p4
 have b24:h4.ld1 h.length 2=some (.int .i64 m):=ix6 b2 p4
 obtain⟨sy,cy,h5,ey,p5,gy⟩:=h93 b p m h4 (by omega) (by omega) h0b (by omega)
 obtain⟨ys,hys⟩: ∃ds,ds=digs p m b:=⟨_,rfl⟩
 have hyl:ys.length=m:=by rw[hys];exact hn5 _ _ _
 have hyd:Dig p ys:=by rw[hys];exact Dig.digs (by omega) _ _
 rw[←hys]at gy
 obtain⟨oy,rfl,holy,rfl,roy⟩: ∃o,sy=some ⟨o,0,none⟩∧h4.length≤o∧cy=ys.length∧h5.row o=some ⟨ints ys,3,1,true⟩:=by
  rcases gy with⟨_,_,h0⟩|h0
  ·rw[h0]at hyl;simp at hyl;omega
  ·exact h0
 rw[hyl]at ey
 have hoo:o<h4.length:=h44 ro
 have hld: ∀i:Int,0≤i→i<m→h5.ld1 oy (0+i.toNat)=some (.int .i64 (gi ys i)):=fun i hi0 hi=>by rw[Nat.zero_add];exact i59 roy hi0 (by omega)
 obtain⟨h6,p6,r6,lo⟩:=p80 (oy:=oy) (fy:=0) (cy:=m) hf r3 hol hyl hyd m 0 [] xs h5 rfl (by simp) hxl hxd (p4.trans p5) (cp5 ro p5) hld (by omega)
 simp only[List.nil_append,List.length_nil,List.drop_zero]at r6
 obtain⟨z,hz⟩: ∃z,z=List.zipWith (fun x y=>(x+y)%p) xs ys:=⟨_,rfl⟩
 rw[←hz]at r6
 have hzl:z.length=m:=by rw[hz,List.length_zipWith];omega
 have hv:numb p z=addN p m a b:=by rw[hz,hxs,hys];exact ce6 p m a b
 have hzd:Dig p z:=by
  rw[hz]
  intro w hw
  rw[List.mem_iff_getElem?]at hw
  obtain⟨i,hi⟩:=hw
  rw[List.getElem?_zipWith]at hi
  cases hx:xs[i]? with
  |none=>rw[hx]at hi;cases hi
  |some x=>
   cases hy:ys[i]? with
   |none=>rw[hx,hy]at hi;cases hi
   |some y=>
    rw[hx,hy]at hi
    cases hi
    exact⟨Int.emod_nonneg _ hp0,Int.emod_lt_of_pos _ (by omega)⟩
 have rz:RdI h6 (some ⟨o,0,none⟩) m z:=by have:=RdI.ofRow r6 rfl;rw[hzl]at this;exact this
 have hb: ∀j,j≤z.length→0≤numb p (z.drop j)∧numb p (z.drop j)≤1000000:=by
  intro j hj
  have h1:=v51 (p:=p) (by omega) (l:=z.drop j) (fun x hx=>hzd x (List.mem_of_mem_drop hx))
  have h2:p^(z.drop j).length≤p^m:=tv0 (by omega) (by rw[List.length_drop];omega)
  rw[hf.pm]at h2
  omega
 have hnum:=f89 p z (some ⟨o,0,none⟩) m h6 rz (by omega) hp64 (fun x hx=>by have:=hzd x hx;omega) (by omega) (by omega) hb
 rw[hzl,hv]at hnum
 have b16:h6.ld1 h.length 1=some (.int .i64 p):=s18 (cp5 r3 p6) rfl
 refine⟨h6,((p1.trans p2).trans p3).trans p6, ?_⟩
 rw[wn8 T31 rfl]
 unfold F31 c31
 simp(disch:=first|omega|(simp only[rl9,wi2,q89]<;>omega)|fail) only[push_cast,seval,←eh1,l1,hasA,l2,hasB,b1,b2,nb8 hmi,nb8 htwo,ex,b14,b24,ey]
 rw[lo]
 simp(disch:=first|omega|(simp only[rl9,wi2,q89]<;>omega)|fail) only[push_cast,seval,b16,hnum]
theorem gm4(u:RUse h q p m g mod om cm)(a b:Int): ∃h':H,h<+:h'∧call T 36 [rv q p m g mod om cm, .int .i64 a, .int .i64 b] h=some (.int .i64 (fsub q a b),h'):=by
 obtain⟨ms,hms⟩: ∃ms,ms=Value.slice (some ⟨om,0,none⟩) mod.length cm:=⟨_,rfl⟩
 have e0:rv q p m g mod om cm=fv q p m g ms:=by rw[hms]
 obtain⟨h1,eh1⟩: ∃h1:H,h1=h++[fvR q p m g ms]:=⟨_,rfl⟩
 have r1:h1.row h.length=some ⟨fvL q p m g ms,26,0,true⟩:=by rw[eh1];exact cv8
 have p1:h<+:h1:=by rw[eh1];exact List.prefix_append _ _
 have l1:=fq7 r1 (n:=5) rfl
 obtain⟨h2,p2,en⟩:=y97 (u.mono p1) b
 have l2:=fq7 (cp5 r1 p2) (n:=5) rfl
 obtain⟨h3,p3,ea⟩:=sg1 (u.mono (p1.trans p2)) a (fneg q b)
 rw[e0]at en ea⊢
 refine⟨h3,(p1.trans p2).trans p3, ?_⟩
 rw[wn8 T36 rfl,fsub]
 unfold F36 c36
 simp(disch:=first|omega|(simp only[rl9,wi2,q89]<;>omega)|fail) only[push_cast,seval,←eh1,l1,en,l2,ea]
end
section
variable {q p g:Int} {m:Nat} {mod:List Int}
theorem js7(t:Tabs q g){a b:Int}(ha:1≤a∧a<q)(hb:1≤b∧b<q):fmul q a b=fexp q ((flog q a+flog q b)%(q-1)):=by
 rw[fmul,iy2 ⟨by omega,ha.2⟩,iy2 ⟨by omega,hb.2⟩,show(a==0)=false by simp;omega,show(b==0)=false by simp;omega];rfl
theorem zd3(t:Tabs q g)(hq:2≤q)(i:Int):1≤fexp q (i%(q-1))∧fexp q (i%(q-1))<q∧flog q (fexp q (i%(q-1)))=i%(q-1):=
 t.er _ (Int.emod_nonneg _ (by omega)) (Int.emod_lt_of_pos _ (by omega))
theorem aj3(t:Tabs q g){a:Int}(ha:1≤a∧a<q):finv q a=fexp q ((q-1-flog q a)%(q-1)):=by
 rw[finv,iy2 ⟨by omega,ha.2⟩,show(a==0)=false by simp;omega];rfl
theorem d12(t:Tabs q g)(hq:2≤q){a:Int}(ha:1≤a∧a<q):(1≤finv q a∧finv q a<q)∧fmul q a (finv q a)=1:=by
 have h1:=zd3 t hq (q-1-flog q a)
 rw[←aj3 t ha]at h1
 refine⟨⟨h1.1,h1.2.1⟩, ?_⟩
 rw[js7 t ha ⟨h1.1,h1.2.1⟩,h1.2.2,Int.add_emod_emod,show flog q a+(q-1-flog q a)=q-1 by omega,Int.emod_self]
 exact t.e0
theorem ga2(t:Tabs q g)(hq:2≤q){a b:Int}(ha:1≤a∧a<q)(hb:1≤b∧b<q)(h:fmul q a b=1):b=finv q a:=by
 rw[js7 t ha hb]at h
 have h1:=(zd3 t hq (flog q a+flog q b)).2.2
 have l1:=t.lr a ha.1 ha.2
 have l2:=t.lr b hb.1 hb.2
 have h0:=(t.er 0 (by omega) (by omega)).2.2
 rw[t.e0]at h0
 rw[h,h0]at h1
 --the places add up to a multiple of q-1
 have h2:flog q b=(q-1-flog q a)%(q-1):=by
  by_cases hz:flog q a=0
  ·rw[hz,Int.zero_add,Int.emod_eq_of_lt l2.1 l2.2.1]at h1
   rw[hz,Int.sub_zero,Int.emod_self];exact h1.symm
  ·rw[Int.emod_eq_of_lt (by omega) (by omega)]
   by_cases hlt:flog q a+flog q b<q-1
   ·rw[Int.emod_eq_of_lt (by omega) hlt]at h1;omega
   ·have h3:(flog q a+flog q b-(q-1))%(q-1)=0:=by rw[Int.sub_emod_right];exact h1.symm
    rw[Int.emod_eq_of_lt (by omega) (by omega)]at h3
    omega
 rw[aj3 t ha,←h2,l2.2.2]
theorem np3(t:Tabs q g)(hq:2≤q)(hg:1≤g∧g<q)(k:Int):fmul q (fexp q (k%(q-1))) g=fexp q ((k+1)%(q-1)):=by
 have h1:=zd3 t hq k
 rw[js7 t ⟨h1.1,h1.2.1⟩ hg,h1.2.2,t.lg,Int.emod_add_emod,Int.add_emod_emod]
end
section
variable {h:H} {q p:Int} {m:Nat} {g:Int} {mod:List Int} {om cm:Nat}
theorem RUse.tabs(u:RUse h q p m g mod om cm):Tabs q g:=cb4 u.hn
theorem oc6{h1:H}{B:Nat}(u:RUse h1 q p m g mod om cm)(hB:h1.row B=some ⟨fvL q p m g (.slice (some ⟨om,0,none⟩) mod.length cm),26,0,true⟩){a:Int}(ha:1≤a∧a<q):
 ∀(n:Nat) (b:Int) (G:H),b+n=finv q a→1≤b→h1<+:G→ ∃G':H,h1<+:G'∧
  ∀ks,goL T [.tmp 4] [1,2,5] c35L0 (.blk 0 []::ks) [(1, .int .i64 a),(2, .pointer (some ⟨B,0,none⟩)),(5, .int .i64 b)] G=some (.int .i64 (finv q a),G')
 |n,b,G,hb,hb1,hp=>by
  have hq2:=u.ok.q2
  have hq64:=u.ok.q64
  have hi:=d12 u.tabs hq2 ha
  have b0:G.ld1 B 0=some (.int .i64 q):=s18 (cp5 hB hp) rfl
  have lB:=fq7 (cp5 hB hp) (n:=5) rfl
  obtain⟨G1,p1,em⟩:=ad1 (u.mono hp) a b
  have hlt:b<q:=by omega
  match n,hb with
  |0,hb=>
   have hbe:b=finv q a:=by omega
   have he:fmul q a b=1:=by rw[hbe];exact hi.2
   refine⟨G1,hp.trans p1,fun ks=> ?_⟩
   rw[ur1 c35L0.eq_def,←hbe]
   simp(disch:=first|omega|(simp only[rl9,wi2,q89]<;>omega)|fail) only[push_cast,seval,dec_lt,b0,lB,em,mr8 he]
  |n+1,hb=>
   have hne: ¬fmul q a b=1:=fun e=>by have:=ga2 u.tabs hq2 ha ⟨hb1,hlt⟩ e;omega
   obtain⟨G2,p2,ih⟩:=oc6 u hB ha n (b+1) G1 (by omega) (by omega) (hp.trans p1)
   refine⟨G2,p2,fun ks=> ?_⟩
   rw[←ih ks,ur1 c35L0.eq_def]
   simp(disch:=first|omega|(simp only[rl9,wi2,q89]<;>omega)|fail) only[push_cast,seval,dec_lt,b0,lB,em,nb8 hne,wrap64]
theorem nd1(u:RUse h q p m g mod om cm)(a:Int): ∃h':H,h<+:h'∧call T 35 [rv q p m g mod om cm, .int .i64 a] h=some (.int .i64 (finv q a),h'):=by
 obtain⟨h1,eh1⟩: ∃h1:H,h1=h++[rvR q p m g mod om cm]:=⟨_,rfl⟩
 have r1:h1.row h.length=some ⟨fvL q p m g (.slice (some ⟨om,0,none⟩) mod.length cm),26,0,true⟩:=by rw[eh1];exact cv8
 have p1:h<+:h1:=by rw[eh1];exact List.prefix_append _ _
 have l1:=fq7 r1 (n:=5) rfl
 obtain⟨h2,eh2⟩: ∃h2:H,h2=h1++[rvR q p m g mod om cm]:=⟨_,rfl⟩
 have p2:h1<+:h2:=by rw[eh2];exact List.prefix_append _ _
 have hasA:call T 25 [rv q p m g mod om cm, .int .i64 a] h1=some (.bool (fok q a),h2):=by rw[eh2];exact pr2 a
 rcases pj4 q a with⟨ho,h0,ha1⟩|ho
 rotate_left
 ·rw[ho]at hasA
  refine⟨h2,p1.trans p2, ?_⟩
  rw[wn8 T35 rfl,finv,ho]
  unfold F35 c35
  simp(disch:=first|omega|(simp only[rl9,wi2,q89]<;>omega)|fail) only[push_cast,seval,←eh1,l1,hasA]
 rw[ho]at hasA
 by_cases hz:a=0
 ·refine⟨h2,p1.trans p2, ?_⟩
  rw[wn8 T35 rfl,finv,ho,show(a==0)=true by simpa using hz]
  unfold F35 c35
  simp(disch:=first|omega|(simp only[rl9,wi2,q89]<;>omega)|fail) only[push_cast,seval,←eh1,l1,hasA,mr8 hz]
 have hq2:=u.ok.q2
 have hi:=d12 u.tabs hq2 (a:=a) ⟨by omega,ha1⟩
 obtain⟨h3,p3,lo⟩:=oc6 (u.mono (p1.trans p2)) (cp5 r1 p2) (a:=a) ⟨by omega,ha1⟩ (finv q a-1).toNat 1 h2 (by omega) (by omega) (List.prefix_refl _)
 refine⟨h3,(p1.trans p2).trans p3, ?_⟩
 rw[wn8 T35 rfl]
 unfold F35 c35
 simp(disch:=first|omega|(simp only[rl9,wi2,q89]<;>omega)|fail) only[push_cast,seval,←eh1,l1,hasA,nb8 hz]
 rw[lo]
end
section
variable {h:H} {q p:Int} {m:Nat} {g:Int} {mod:List Int} {om cm:Nat}
end
section
variable {h:H} {q p:Int} {m:Nat} {g:Int} {mod:List Int} {om cm:Nat}
end
section
variable {h:H} {F:Nat} {q p:Int} {m:Nat} {g:Int} {mod:List Int} {E L om fm cm:Nat}
end
section
variable {h:H} {q p:Int} {m:Nat} {g:Int} {mod:List Int} {om cm:Nat}
end
section
variable {h:H} {F F':Nat} {q p:Int} {m:Nat} {g:Int} {mod:List Int} {E L om fm cm:Nat} {s p':Int} {m':Nat} {g':Int} {mod':List Int} {E' L' om' fm' cm':Nat}
end
end Go.Proofs.YtoglhlonhmmieaaGreat
namespace Go.Proofs.YtoglhlonhmmieaaGreat
open Go.Am Go.Vm
section
variable {h:H} {F:Nat} {q p:Int} {m:Nat} {g:Int} {mod:List Int} {E L om fm cm:Nat}
end
end Go.Proofs.YtoglhlonhmmieaaGreat
namespace Go.Alg
class FK (K:Type) extends Zero K,One K,Add K,Mul K,Neg K where
 inv:K→K
 deq:DecidableEq K
 add_assoc: ∀a b c:K,a+b+c=a+(b+c)
 add_comm: ∀a b:K,a+b=b+a
 add_zero: ∀a:K,a+0=a
 add_neg: ∀a:K,a+ -a=0
 mul_assoc: ∀a b c:K,a*b*c=a*(b*c)
 mul_comm: ∀a b:K,a*b=b*a
 mul_one: ∀a:K,a*1=a
 mul_add: ∀a b c:K,a*(b+c)=a*b+a*c
 mul_inv: ∀a:K,a≠0→a*inv a=1
 zero_ne:(0:K)≠1
instance {K:Type} [FK K]:DecidableEq K:=FK.deq
instance {K:Type} [FK K]:Sub K:=⟨fun a b=>a+ -b⟩
section
variable {K:Type} [FK K]
theorem sub_eq(a b:K):a-b=a+ -b:=rfl
theorem zero_add(a:K):0+a=a:=by rw[FK.add_comm,FK.add_zero]
theorem neg_add(a:K): -a+a=0:=by rw[FK.add_comm,FK.add_neg]
theorem one_mul(a:K):1*a=a:=by rw[FK.mul_comm,FK.mul_one]
theorem add_mul(a b c:K):(a+b)*c=a*c+b*c:=by rw[FK.mul_comm,FK.mul_add,FK.mul_comm c a,FK.mul_comm c b]
theorem g50{a b c:K}(h:a+b=a+c):b=c:=by
 have:=congrArg (fun x=> -a+x) h
 simpa only[←FK.add_assoc,neg_add,zero_add]using this
theorem mul_zero(a:K):a*0=0:=by
 have h:a*0+a*0=a*0+0:=by rw[←FK.mul_add,FK.add_zero,FK.add_zero]
 exact g50 h
theorem zero_mul(a:K):0*a=0:=by rw[FK.mul_comm,mul_zero]
theorem ut3{a b:K}(h:a+b=0):b= -a:=g50 (a:=a) (by rw[h,FK.add_neg])
theorem neg_zero: -(0:K)=0:=(ut3 (FK.add_zero (0:K))).symm
theorem neg_mul(a b:K): -a*b= -(a*b):=ut3 (by rw[←add_mul,FK.add_neg,zero_mul])
theorem mul_neg(a b:K):a* -b= -(a*b):=by rw[FK.mul_comm,neg_mul,FK.mul_comm]
theorem tp9(a b:K): -(a+b)= -a+ -b:=(ut3 (by rw[FK.add_assoc,←FK.add_assoc b,FK.add_comm b,FK.add_assoc (-a),FK.add_neg,FK.add_zero,FK.add_neg])).symm
theorem sub_self(a:K):a-a=0:=FK.add_neg a
theorem sub_zero(a:K):a-0=a:=by rw[sub_eq,neg_zero,FK.add_zero]
theorem fj9(a b:K):a-b+b=a:=by rw[sub_eq,FK.add_assoc,neg_add,FK.add_zero]
theorem sub_eq_zero{a b:K}:a-b=0↔a=b:=⟨fun h=>by rw[←fj9 a b,h,zero_add],fun h=>by rw[h,sub_self]⟩
theorem mul_sub(a b c:K):a*(b-c)=a*b-a*c:=by rw[sub_eq,sub_eq,FK.mul_add,mul_neg]
theorem sub_mul(a b c:K):(a-b)*c=a*c-b*c:=by rw[sub_eq,sub_eq,add_mul,neg_mul]
theorem ki7:(1:K)≠0:=fun h=>FK.zero_ne h.symm
theorem inv_mul{a:K}(h:a≠0):FK.inv a*a=1:=by rw[FK.mul_comm,FK.mul_inv a h]
theorem mul_left{a b c:K}(ha:a≠0)(h:a*b=a*c):b=c:=by
 have:=congrArg (fun x=>FK.inv a*x) h
 simpa only[←FK.mul_assoc,inv_mul ha,one_mul]using this
theorem mul_eq_zero{a b:K}(h:a*b=0):a=0∨b=0:=by
 by_cases ha:a=0
 ·exact .inl ha
 ·exact .inr (mul_left ha (by rw[h,mul_zero]))
theorem hl6{a b:K}(ha:a≠0)(hb:b≠0):a*b≠0:=fun h=>(mul_eq_zero h).elim ha hb
instance :Std.Associative (α:=K) (· + ·):=⟨FK.add_assoc⟩
instance :Std.Commutative (α:=K) (· + ·):=⟨FK.add_comm⟩
instance :Std.Associative (α:=K) (· * ·):=⟨FK.mul_assoc⟩
instance :Std.Commutative (α:=K) (· * ·):=⟨FK.mul_comm⟩
theorem add4(a b c d:K):(a+b)+(c+d)=(a+c)+(b+d):=by ac_rfl
def sumL{α:Type}(l:List α)(f:α→K):K:=l.foldr (fun a s=>f a+s) 0
variable {α β:Type}
theorem lh9(f:α→K):sumL [] f=0:=rfl
theorem gb6(a:α)(l:List α)(f:α→K):sumL (a::l) f=f a+sumL l f:=rfl
theorem up0(f:α→K): ∀l l':List α,sumL (l++l') f=sumL l f+sumL l' f
 | [],l'=>by rw[List.nil_append,lh9,zero_add]
 |a::l,l'=>by rw[List.cons_append,gb6,gb6,up0 f l l',FK.add_assoc]
theorem jl9(f g:α→K): ∀l:List α,sumL l (fun a=>f a+g a)=sumL l f+sumL l g
 | []=>by rw[lh9,lh9,lh9,FK.add_zero]
 |a::l=>by rw[gb6,gb6,gb6,jl9 f g l,add4]
theorem ro9(c:K)(f:α→K): ∀l:List α,sumL l (fun a=>c*f a)=c*sumL l f
 | []=>by rw[lh9,lh9,mul_zero]
 |a::l=>by rw[gb6,gb6,ro9 c f l,FK.mul_add]
theorem ue3(c:K)(f:α→K)(l:List α):sumL l (fun a=>f a*c)=sumL l f*c:=by
 rw[FK.mul_comm,←ro9]
 congr 1
 funext a
 rw[FK.mul_comm]
theorem eq0(f:α→K): ∀l:List α,sumL l (fun a=> -f a)= -sumL l f
 | []=>by rw[lh9,lh9,neg_zero]
 |a::l=>by rw[gb6,gb6,eq0 f l,tp9]
theorem b15(f g:α→K)(l:List α):sumL l (fun a=>f a-g a)=sumL l f-sumL l g:=by
 simp only[sub_eq]
 rw[jl9,eq0]
theorem ox7{f g:α→K}: ∀{l:List α},(∀a∈l,f a=g a)→sumL l f=sumL l g
 | [],_=>rfl
 |a::l,h=>by rw[gb6,gb6,h a (by simp),ox7 fun b hb=>h b (by simp[hb])]
theorem tx6{f:α→K}{l:List α}(h: ∀a∈l,f a=0):sumL l f=0:=by
 induction l with
 |nil=>rfl
 |cons a l ih=>rw[gb6,h a (by simp),ih fun b hb=>h b (by simp[hb]),FK.add_zero]
theorem l63(g:β→α)(f:α→K): ∀l:List β,sumL (l.map g) f=sumL l fun b=>f (g b)
 | []=>rfl
 |b::l=>by rw[List.map_cons,gb6,gb6,l63 g f l]
theorem j94 [DecidableEq α]{f:α→K}{s:α}: ∀{l:List α},l.Nodup→s∈l→(∀a∈l,a≠s→f a=0)→sumL l f=f s
 | [],_,h,_=>by cases h
 |a::l,hn,h,h0=>by
  rw[List.nodup_cons]at hn
  rw[gb6]
  by_cases ha:a=s
  ·subst ha
   rw[tx6 fun b hb=>h0 b (by simp[hb]) fun e=>hn.1 (e▸hb),FK.add_zero]
  ·rw[h0 a (by simp) ha,zero_add]
   refine j94 hn.2 ?_ fun b hb=>h0 b (by simp[hb])
   rcases List.mem_cons.1 h with h|h
   ·exact absurd h.symm ha
   ·exact h
def sumN(n:Nat)(f:Nat→K):K:=sumL (List.range n) f
theorem wr8(f:Nat→K):sumN 0 f=0:=rfl
theorem cp9(n:Nat)(f:Nat→K):sumN (n+1) f=sumN n f+f n:=by
 unfold sumN
 rw[List.range_succ,up0,gb6,lh9,FK.add_zero]
theorem da0(n:Nat)(f:Nat→K):sumN (n+1) f=f 0+sumN n fun i=>f (i+1):=by
 unfold sumN
 rw[List.range_succ_eq_map,gb6,l63]
theorem xq2{n s:Nat}{f:Nat→K}(hs:s<n)(h: ∀a,a<n→a≠s→f a=0):sumN n f=f s:=
 j94 List.nodup_range (List.mem_range.2 hs) fun a ha=>h a (List.mem_range.1 ha)
theorem rc1{n:Nat}{f g:Nat→K}(h: ∀a,a<n→f a=g a):sumN n f=sumN n g:=ox7 fun a ha=>h a (List.mem_range.1 ha)
theorem ja4{n:Nat}{f:Nat→K}(h: ∀a,a<n→f a=0):sumN n f=0:=tx6 fun a ha=>h a (List.mem_range.1 ha)
end
end Go.Alg
