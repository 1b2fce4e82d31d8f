/-
  What syndromeref's F.Mul, Neg, Add and Sub compute, as the table's numbers. Conditions: a field of the table. What syndromeref's F.Add and F.Sub compute. Conditions: a field of the table. What syndrom ..
-/
import Derived.Test.YtppbpgmdmiajcaaGreatK0
import Derived.Test.YtppbpgmdmiajcaaGreatKFM0
import Derived.Test.YtppbpgmdmiajcaaGreatKFM1
import Derived.Test.YtppbpgmdmiajcaaGreatKFM2
import Derived.Test.YtppbpgmdmiajcaaGreatKFM3
import Derived.Test.YtppbpgmdmiajcaaGreatKFM4
import Derived.Test.YtppbpgmdmiajcaaGreatK6
import Derived.Test.YtppbpgmdmiajcaaGreatKCode
import Derived.Test.YtppbpgmdmiajcaaGreatK2
set_option linter.unusedVariables false
set_option linter.unusedSimpArgs false
set_option linter.unusedSectionVars false
set_option maxRecDepth 100000
namespace Go.Proofs.YtppbpgmdmiajcaaGreat
open Go.Am
section
variable {h:H} {q p:Int} {m:Nat} {g:Int} {mod:List Int} {om cm:Nat}
end
section
variable {h:H} {q p:Int} {m:Nat} {g:Int} {mod:List Int} {om cm:Nat}
end
section
variable {q p g:Int} {m:Nat} {mod:List Int}
theorem js7(t:Tabs q g){a b:Int}(ha:1≤a∧a<q)(hb:1≤b∧b<q):fmul q a b=fexp q ((flog q a+flog q b)%(q-1)):=by
 rw[fmul,iy2 ⟨by omega,ha.2⟩,iy2 ⟨by omega,hb.2⟩,show(a==0)=false by simp;omega,show(b==0)=false by simp;omega];rfl
theorem zd3(t:Tabs q g)(hq:2≤q)(i:Int):1≤fexp q (i%(q-1))∧fexp q (i%(q-1))<q∧flog q (fexp q (i%(q-1)))=i%(q-1):=
 t.er _ (fc1 _ (by omega)) (do0 _ (by omega))
theorem aj3(t:Tabs q g){a:Int}(ha:1≤a∧a<q):finv q a=fexp q ((q-1-flog q a)%(q-1)):=by
 rw[finv,iy2 ⟨by omega,ha.2⟩,show(a==0)=false by simp;omega];rfl
theorem d12(t:Tabs q g)(hq:2≤q){a:Int}(ha:1≤a∧a<q):(1≤finv q a∧finv q a<q)∧fmul q a (finv q a)=1:=by
 have h1:=zd3 t hq (q-1-flog q a)
 rw[←aj3 t ha]at h1
 refine⟨⟨h1.1,h1.2.1⟩, ?_⟩
 rw[js7 t ha ⟨h1.1,h1.2.1⟩,h1.2.2,bk9,show flog q a+(q-1-flog q a)=q-1 by omega,Int.emod_self]
 exact t.e0
def powI(q a:Int):Nat→Int
 |0=>1
 |n+1=>fmul q (powI q a n) a
theorem mv9(t:Tabs q g)(hq:2≤q){a:Int}(ha:1≤a∧a<q): ∀n:Nat,powI q a n=fexp q (flog q a*n%(q-1))
 |0=>by rw[powI,vx9,Int.mul_zero,Int.zero_emod];exact t.e0.symm
 |n+1=>by
  have h1:=zd3 t hq (flog q a*n)
  rw[powI,mv9 t hq ha n,js7 t ⟨h1.1,h1.2.1⟩ ha,h1.2.2,Int.emod_add_emod]
  congr 2
  rw[e96,g71,Int.mul_add,Int.mul_one]
theorem a21(hq:2≤q): ∀n:Nat,powI q 0 (n+1)=0
 |0=>by
  rw[powI,powI,fmul,iy2 (a:=1) ⟨by omega,by omega⟩,iy2 (a:=0) ⟨by omega,by omega⟩];rfl
 |n+1=>by
  rw[powI,a21 hq n,fmul,iy2 (a:=0) ⟨by omega,by omega⟩];rfl
theorem v22(t:Tabs q g)(hq:2≤q){a:Int}(ha:0≤a∧a<q)(n:Nat)(hn:1≤n):powI q a n=fpow q a n:=by
 have hk: ¬(n:Int)<0:=by omega
 have hk0:((n:Int)==0)=false:=by simp;omega
 by_cases hz:a=0
 ·subst hz
  obtain⟨k,rfl⟩: ∃k,n=k+1:=⟨n-1,by omega⟩
  rw[a21 hq,fpow,iy2 ha,lx1 hk,hk0];rfl
 ·rw[mv9 t hq ⟨by omega,ha.2⟩,fpow,iy2 ha,show(a==0)=false by simpa using hz,hk0]
  show fexp q (flog q a*n%(q-1))=fexp q (flog q a*((n:Int)%(q-1))%(q-1))
  congr 1
  rw[mw3,mw3 (flog q a) ((n:Int)%(q-1)),Int.emod_emod_of_dvd _ (Int.dvd_refl _)]
theorem np3(t:Tabs q g)(hq:2≤q)(hg:1≤g∧g<q)(k:Int):fmul q (fexp q (k%(q-1))) g=fexp q ((k+1)%(q-1)):=by
 have h1:=zd3 t hq k
 rw[js7 t ⟨h1.1,h1.2.1⟩ hg,h1.2.2,t.lg,Int.emod_add_emod,bk9]
end
section
variable {h:H} {q p:Int} {m:Nat} {g:Int} {mod:List Int} {om cm:Nat}
end
section
variable {h:H} {q p:Int} {m:Nat} {g:Int} {mod:List Int} {om cm:Nat}
end
section
variable {h:H} {q p:Int} {m:Nat} {g:Int} {mod:List Int} {om cm:Nat}
end
def zo1(q x:Int):List Int→Int
 | []=>0
 |d::r=>fadd q (fmul q (zo1 q x r) x) d
section
variable {h:H} {F:Nat} {q p:Int} {m:Nat} {g:Int} {mod:List Int} {E L om fm cm:Nat}
theorem b93(hn:fldN q.toNat=some (p,m,g,mod))(u:PUse h F q p m g mod E L om fm cm)(hf:FOk q p m mod){zs:List Int}{o off c:Nat}(hr:RdI h (some ⟨o,off,none⟩) c zs)(hl:zs.length≤1000)(x:Int):
 ∀(k:Nat) (s i:Int),i+1=(k:Int)→k≤zs.length→s=zo1 q x (zs.drop k)→
 ∀ks,goL T [.tmp 6] [0,1,2,7,8] c116L0 (.blk 0 [7]::ks) [(0, .pointer (some ⟨F,0,none⟩)),(1, .slice (some ⟨o,off,none⟩) zs.length c),(2, .int .i64 x),(7, .int .i64 s),(8, .int .i64 i)] h=
  go T [.tmp 6] ks (Fr.of [(7, .int .i64 (zo1 q x zs))]) h
 |0,s,i,hi,hk,hs=>fun ks=>by
  rw[ur1 c116L0.eq_def]
  have:i= -1:=by omega
  subst this hs
  rw[sv4]
  simp(disch:=first|omega|(simp only[rl9,wi2,q89]<;>omega)|fail) only[push_cast,seval,qc6]
 |k+1,s,i,hi,hk,hs=>fun ks=>by
  obtain rfl:i=(k:Int):=by omega
  have e1:=hr.ld (i:=(k:Int)) (by omega) (by omega)
  have hi1:0≤(k:Int)∧(k:Int)<(zs.length:Int):=by omega
  have hd:zs.drop k=gi zs k::zs.drop (k+1):=gx6 (by omega)
  have em:=lb9 hn u s x
  have ea:=gl5 hn u hf (fmul q s x) (gi zs k)
  have hn':zo1 q x (zs.drop k)=fadd q (fmul q s x) (gi zs k):=by rw[hd,zo1,←hs]
  have hol:decide (o<h.length)=true:=by
   obtain⟨_,_,e,h1,_⟩:=hr.addr (by omega)
   cases e;exact ce5 h1
  rw[←b93 hn u hf hr hl x k (fadd q (fmul q s x) (gi zs k)) ((k:Int)-1) (by omega) (by omega) hn'.symm ks]
  rw[ur1 c116L0.eq_def]
  simp(disch:=first|omega|(simp only[rl9,wi2,q89]<;>omega)|fail) only[push_cast,seval,nl3,em,zy7 (je0 h),hi1,hol,e1,ea,wrap64]
theorem tf7(hn:fldN q.toNat=some (p,m,g,mod))(u:PUse h F q p m g mod E L om fm cm)(hf:FOk q p m mod){zs:List Int}{o off c:Nat}(hr:RdI h (some ⟨o,off,none⟩) c zs)(hl:zs.length≤1000)(x:Int):
 call T 116 [.pointer (some ⟨F,0,none⟩), .slice (some ⟨o,off,none⟩) zs.length c, .int .i64 x] h=some (.int .i64 (zo1 q x zs),h):=by
 have lo:=b93 hn u hf hr hl x zs.length 0 ((zs.length:Int)-1) (by omega) (jj6 _) (by rw[List.drop_length];rfl)
 rw[wn8 T116 rfl]
 unfold F116 c116
 simp(disch:=first|omega|(simp only[rl9,wi2,q89]<;>omega)|fail) only[push_cast,seval,wrap64]
 rw[lo]
 simp(disch:=first|omega|(simp only[rl9,wi2,q89]<;>omega)|fail) only[push_cast,seval]
end
section
variable {h:H} {q p:Int} {m:Nat} {g:Int} {mod:List Int} {om cm:Nat}
end
def ag6(q st:Int)(zs:List Int):Nat→Int→Option Int
 |0,_=>none
 |n+1,j=>bif decide (zo1 q (fexp q (j*st%(q-1))) zs=0)then some (fexp q (j*st%(q-1)))else ag6 q st zs n (j+1)
def r46(n s:Nat):Bool:=match fldN n,fldN s with
 |some (p,m,_,mod),some (p',m',_,_)=>bif decide (p=p')&&decide (m'%m=0)&&decide (1<m)then(ag6 s (((s:Int)-1)/((n:Int)-1)) mod 64 1).isSome else true
 |_,_=>true
theorem k53:((List.range 63).all fun n=>(List.range 63).all fun s=>r46 (n+2) (s+2))=true:=by kernel_rfl
theorem jw6{q s p p' g g':Int}{m m':Nat}{mod mod':List Int}(hn:fldN q.toNat=some (p,m,g,mod))(hs:fldN s.toNat=some (p',m',g',mod'))(hp:p=p')(hm:m'%m=0)(h1:1<m):
 ∃r,ag6 s ((s-1)/(q-1)) mod 64 1=some r:=by
 obtain⟨h2,h64⟩:=ug0 hn
 obtain⟨s2,s64⟩:=ug0 hs
 have h:=p92.1 (p92.1 k53 (q.toNat-2) (l16.2 (by omega))) (s.toNat-2) (l16.2 (by omega))
 rw[show q.toNat-2+2=q.toNat by omega,show s.toNat-2+2=s.toNat by omega]at h
 unfold r46 at h
 rw[hn,hs]at h
 simp only[ce5 hp,ce5 hm,ce5 h1,Bool.and_self,nj1]at h
 rw[show((q.toNat:Nat):Int)=q by omega,show((s.toNat:Nat):Int)=s by omega]at h
 exact Option.isSome_iff_exists.1 h
def embN(s r p:Int)(m:Nat):Nat→Nat→List Int
 |0,_=>[]
 |n+1,a=>zo1 s r (digs p m a)::embN s r p m n (a+1)
theorem ih4(s r p:Int)(m:Nat): ∀n a,(embN s r p m n a).length=n
 |0,_=>rfl
 |n+1,a=>by simp[embN,ih4 s r p m n]
def embR(q s:Int):Int:=match fldN q.toNat with
 |some (_,m,_,mod)=>bif decide (1<m)then(ag6 s ((s-1)/(q-1)) mod 64 1).getD 0 else 0
 |none=>0
def embP(q s:Int):Int×List Int:=match fldN q.toNat,fldN s.toNat with
 |some (p,m,_,_),some (p',m',_,_)=>bif decide (p=p')&&decide (m'%m=0)then(0,embN s (embR q s) p m q.toNat 0)else(3,[])
 |_,_=>(1,[])
section
variable {h:H} {F F':Nat} {q p:Int} {m:Nat} {g:Int} {mod:List Int} {E L om fm cm:Nat} {s p':Int} {m':Nat} {g':Int} {mod':List Int} {E' L' om' fm' cm':Nat}
theorem ht7(hn:fldN q.toNat=some (p,m,g,mod))(u:PUse h F q p m g mod E L om fm cm)(hs:fldN s.toNat=some (p',m',g',mod'))(v:PUse h F' s p' m' g' mod' E' L' om' fm' cm')(hf:FOk q p m mod)(hf':FOk s p' m' mod')(st:Int)(hst:1≤st∧st≤64):
 ∀(n:Nat) (j R r:Int),1≤j→j+n≤1000→(R=0∨ ¬zo1 s R mod=0)→ag6 s st mod n j=some r→
 ∀ks,goL T [.tmp 4, .tmp 5] [0,6,8,9,10,11] c59L0 (.blk 0 [0,6,8,9]::ks) [(0, .int .i64 q),(6, .pointer (some ⟨F,0,none⟩)),(8, .pointer (some ⟨F',0,none⟩)),(9, .int .i64 R),(10, .int .i64 st),(11, .int .i64 (j*st))] h=
  go T [.tmp 4, .tmp 5] ks (Fr.of [(0, .int .i64 q),(6, .pointer (some ⟨F,0,none⟩)),(8, .pointer (some ⟨F',0,none⟩)),(9, .int .i64 r)]) h
 |0,j,R,r,hj,hjn,hR,he=>by cases he
 |n+1,j,R,r,hj,hjn,hR,he=>fun ks=>by
  rw[ag6]at he
  have hml:=hf.ml
  have hm10:=hf.m10
  have s2:=hf'.q2
  have s64:=hf'.q64
  have hN0: ¬s-1=0:=by omega
  have f3:=u.f3
  have v0:=v.f0
  have v5:=v.f5
  have hjs:0≤j*st:=qc0 (by omega) (by omega)
  have hjs2:j*st≤1000*64:=ij6 (by omega) (by omega) (by omega) (by omega)
  obtain⟨i,hi⟩: ∃i,i=j*st%(s-1):=⟨_,rfl⟩
  have hi0:0≤i:=by rw[hi];exact fc1 _ hN0
  have hil:i<s-1:=by rw[hi];exact do0 _ (by omega)
  have q1:(j*st).tmod (s-1)=i:=by rw[hi];exact dl5 hjs
  have e3:=v.le i hi0 hil
  have hi3:0≤i∧i<(((s-1).toNat:Nat):Int):=by omega
  have hi4:i<max (s-1) 0:=by omega
  obtain⟨x,hx⟩: ∃x,x=fexp s i:=⟨_,rfl⟩
  have hxr:=(cb4 hs).er i hi0 hil
  rw[←hi,←hx]at he
  rw[←hx]at e3 hxr
  have ev:=tf7 hs v hf' u.rm (by omega) R
  have hstep:j*st+st=(j+1)*st:=by rw[Int.add_mul,vq0]
  --the head lets it in,the body sets the next one
  have hhead:goL T [.tmp 4, .tmp 5] [0,6,8,9,10,11] c59L0 (.blk 0 [0,6,8,9]::ks) [(0, .int .i64 q),(6, .pointer (some ⟨F,0,none⟩)),(8, .pointer (some ⟨F',0,none⟩)),(9, .int .i64 R),(10, .int .i64 st),(11, .int .i64 (j*st))] h=
   goL T [.tmp 4, .tmp 5] [0,6,8,9,10,11] c59L0 (.blk 0 [0,6,8,9]::ks) [(0, .int .i64 q),(6, .pointer (some ⟨F,0,none⟩)),(8, .pointer (some ⟨F',0,none⟩)),(9, .int .i64 x),(10, .int .i64 st),(11, .int .i64 ((j+1)*st))] h:=by
   rw[ur1 c59L0.eq_def]
   by_cases hz:R=0
   ·simp(disch:=first|omega|(simp only[rl9,wi2,q89]<;>omega)|fail) only[push_cast,seval,mr8 hz,v5,v0,wrap64,hN0,q1,hi3,hi4,e3,hstep]
   ·have hnv: ¬zo1 s R mod=0:=by rcases hR with h0|h0;exact absurd h0 hz;exact h0
    simp(disch:=first|omega|(simp only[rl9,wi2,q89]<;>omega)|fail) only[push_cast,seval,nb8 hz,f3,ev,nb8 hnv,v5,v0,wrap64,hN0,q1,hi3,hi4,e3,hstep]
  rw[hhead]
  have evx:=tf7 hs v hf' u.rm (by omega) x
  by_cases hv0:zo1 s x mod=0
  ·rw[ce5 hv0,nj1]at he
   cases he
   have hx0: ¬r=0:=by omega
   rw[ur1 c59L0.eq_def]
   simp(disch:=first|omega|(simp only[rl9,wi2,q89]<;>omega)|fail) only[push_cast,seval,nb8 hx0,f3,evx,mr8 hv0]
  ·rw[lx1 hv0,ey2]at he
   exact ht7 hn u hs v hf hf' st hst n (j+1) x r (by omega) (by omega) (.inr hv0) he ks
theorem ry2{h2:H}(hn:fldN q.toNat=some (p,m,g,mod))(u:PUse h2 F q p m g mod E L om fm cm)(hs:fldN s.toNat=some (p',m',g',mod'))(v:PUse h2 F' s p' m' g' mod' E' L' om' fm' cm')(hf:FOk q p m mod)(hf':FOk s p' m' mod')(r:Int):
 ∀(n a:Nat) (done:List Int) (G:H),(a:Int)+n=q→done.length=a→h2<+:G→G.row h2.length=some ⟨ints (done++List.replicate n 0),3,1,true⟩→
 ∃G':H,h2<+:G'∧G'.row h2.length=some ⟨ints (done++embN s r p m n a),3,1,true⟩∧
  ∀ks,goL T [.tmp 4, .tmp 5] [6,8,9,12,99,100] c59L1 (.blk 2 [12]::ks) [(6, .pointer (some ⟨F,0,none⟩)),(8, .pointer (some ⟨F',0,none⟩)),(9, .int .i64 r),(12, .slice (some ⟨h2.length,0,none⟩) q.toNat q.toNat),(99, .int .i64 q),(100, .int .i64 a)] G=
   go T [.tmp 4, .tmp 5] ks (Fr.of [(12, .slice (some ⟨h2.length,0,none⟩) q.toNat q.toNat)]) G'
 |0,a,done,G,ha,hd,hp,hr=>by
  refine⟨G,hp,by rw[embN];exact hr,fun ks=> ?_⟩
  rw[ur1 c59L1.eq_def]
  have:q≤(a:Int):=by omega
  simp(disch:=first|omega|(simp only[rl9,wi2,q89]<;>omega)|fail) only[push_cast,seval,cw6]
 |n+1,a,done,G,ha,hd,hp,hr=>by
  have q64:=hf.q64
  have hp2:=hf.p2
  have hm10:=hf.m10
  have hm1:=hf.m1
  have uG:=u.mono hp
  have vG:=v.mono hp
  have f1:=uG.f1
  have f2:=uG.f2
  have ed:=xy9 (a:Int) p m G (by omega) (by omega) (by omega) (by omega)
  obtain⟨G1,eG1⟩: ∃G1:H,G1=G++[.row ⟨ints (digs p m a),3,1,true⟩]:=⟨_,rfl⟩
  rw[←eG1]at ed
  have p1:G<+:G1:=by rw[eG1];exact w63 _ _
  have hdl:=hn5 p m (a:Int)
  have rd:RdI G1 (some ⟨G.length,0,none⟩) m (digs p m a):=by
   have:G1.row G.length=some ⟨ints (digs p m a),3,1,true⟩:=by rw[eG1];exact cv8
   have h2:=RdI.ofRow this rfl
   rw[hdl]at h2;exact h2
  have ev:=tf7 hs (vG.mono p1) hf' rd (by omega) r
  rw[hdl]at ev
  have r1:=cp5 hr p1
  have es:=l45 r1 (i:=(a:Int)) (v:=zo1 s r (digs p m a)) (by omega) (by simp;omega)
  have hset:(done++List.replicate (n+1) 0).set ((a:Int)).toNat (zo1 s r (digs p m a))=done++[zo1 s r (digs p m a)]++List.replicate n 0:=by
   rw[lg2,pd0 (by omega)];simp
  rw[hset]at es
  obtain⟨G2,eG2⟩: ∃G2:H,G2=G1.set h2.length (.row ⟨ints (done++[zo1 s r (digs p m a)]++List.replicate n 0),3,1,true⟩):=⟨_,rfl⟩
  rw[←eG2]at es
  have r2:G2.row h2.length=some ⟨ints (done++[zo1 s r (digs p m a)]++List.replicate n 0),3,1,true⟩:=by rw[eG2];exact tr3 (h44 r1)
  have p2:h2<+:G2:=by rw[eG2];exact wc3 (hp.trans p1) (jj6 _)
  obtain⟨G3,p3,r3,ih⟩:=ry2 hn u hs v hf hf' r n (a+1) (done++[zo1 s r (digs p m a)]) G2 (by omega) (by simp;omega) p2 r2
  have he:done++embN s r p m (n+1) a=done++[zo1 s r (digs p m a)]++embN s r p m n (a+1):=by rw[embN];simp
  refine⟨G3,p3,by rw[he];exact r3,fun ks=> ?_⟩
  have ih':=ih ks
  rw[e96,g71]at ih'
  have hi1:0≤(a:Int)∧(a:Int)<((q.toNat:Nat):Int):=by omega
  have hi2:(a:Int)<max q 0:=by omega
  have hi3:(a:Int)<q:=by omega
  rw[←ih',ur1 c59L1.eq_def]
  simp(disch:=first|omega|(simp only[rl9,wi2,q89]<;>omega)|fail) only[push_cast,seval,dec_lt,f1,f2,ed,ev,hi1,hi2,es,wrap64]
end
end Go.Proofs.YtppbpgmdmiajcaaGreat
namespace Go.Proofs.YtppbpgmdmiajcaaGreat
open Go.Am Go.Vm
section
variable {h:H} {F:Nat} {q p:Int} {m:Nat} {g:Int} {mod:List Int} {E L om fm cm:Nat}
end
theorem rd4(q s:Int)(h:H): ∃(sa:Option Addr) (c:Nat) (h':H),h<+:h'∧Grown h' sa c (embP q s).2 h.length∧call T 59 [.int .i64 q, .int .i64 s] h=some (.tuple #[.slice sa (embP q s).2.length c, .int .i64 (embP q s).1],h'):=by
 cases hn:fldN q.toNat with
 |none=>
  have he:embP q s=(1,[]):=by unfold embP;rw[hn]
  obtain⟨h1,p1,e1⟩:=e84 q hn h
  rw[he]
  refine⟨none,0,h1,p1, .nil, ?_⟩
  rw[wn8 T59 rfl]
  unfold F59 c59
  simp(disch:=first|omega|(simp only[rl9,wi2,q89]<;>omega)|fail) only[push_cast,seval,e1]
 |some x=>
  obtain⟨p,m,g,mod⟩:=x
  obtain⟨hl2,hl64⟩:=ug0 hn
  have hf:FOk q p m mod:=by have:=(hj0 hn).1;rw[show((q.toNat:Nat):Int)=q by omega]at this;exact this
  have hml:=hf.ml
  have hm10:=hf.m10
  have hm1:=hf.m1
  obtain⟨h1,F,p1,hPF,e1⟩:=uv0 q hn h
  cases hs:fldN s.toNat with
  |none=>
   have he:embP q s=(1,[]):=by unfold embP;rw[hn,hs]
   obtain⟨h2,p2,e2⟩:=e84 s hs h1
   rw[he]
   refine⟨none,0,h2,p1.trans p2, .nil, ?_⟩
   rw[wn8 T59 rfl]
   unfold F59 c59
   simp(disch:=first|omega|(simp only[rl9,wi2,q89]<;>omega)|fail) only[push_cast,seval,e1,e2]
  |some y=>
   obtain⟨p',m',g',mod'⟩:=y
   obtain⟨sl2,sl64⟩:=ug0 hs
   have hf':FOk s p' m' mod':=by have:=(hj0 hs).1;rw[show((s.toNat:Nat):Int)=s by omega]at this;exact this
   obtain⟨h2,F',p2,hPF',e2⟩:=uv0 s hs h1
   obtain⟨E,L,om,fm,cm,u⟩:=(hPF.mono p2).use hn
   obtain⟨E',L',om',fm',cm',v⟩:=hPF'.use hs
   have u1:=u.f1
   have u2:=u.f2
   have v1:=v.f1
   have v2:=v.f2
   have hm0: ¬(m:Int)=0:=by omega
   have q1:(m':Int).tmod (m:Int)=(m':Int)%(m:Int):=dl5 (by omega)
   have d1:decide (F<h2.length)=true:=by
    have:=u.f0
    unfold H.ld1 at this
    split at this
    ·exact ce5 (h44 ‹_›)
    ·cases this
   by_cases hpp:p=p'
   rotate_left
   ·have he:embP q s=(3,[]):=by unfold embP;rw[hn,hs];simp[hpp]
    rw[he]
    refine⟨none,0,h2,p1.trans p2, .nil, ?_⟩
    rw[wn8 T59 rfl]
    unfold F59 c59
    simp(disch:=first|omega|(simp only[rl9,wi2,q89]<;>omega)|fail) only[push_cast,seval,e1,e2,u1,v1,nb8 hpp]
   by_cases hmm:m'%m=0
   rotate_left
   ·have he:embP q s=(3,[]):=by unfold embP;rw[hn,hs];simp[hmm]
    have hmi: ¬(m':Int)%(m:Int)=0:=by rw[←Int.natCast_emod];omega
    rw[he]
    refine⟨none,0,h2,p1.trans p2, .nil, ?_⟩
    rw[wn8 T59 rfl]
    unfold F59 c59
    simp(disch:=first|omega|(simp only[rl9,wi2,q89]<;>omega)|fail) only[push_cast,seval,e1,e2,u1,v1,mr8 hpp,u2,v2,hm0,q1,nb8 hmi]
   have hmi:(m':Int)%(m:Int)=0:=by rw[←Int.natCast_emod];omega
   have he:embP q s=(0,embN s (embR q s) p m q.toNat 0):=by unfold embP;rw[hn,hs];simp[hmm,hpp]
   rw[he]
   obtain⟨r,hr⟩: ∃r,r=embR q s:=⟨_,rfl⟩
   rw[←hr]
   obtain⟨h3,eh3⟩: ∃h3:H,h3=h2++[.row ⟨ints ([]++List.replicate q.toNat 0),3,1,true⟩]:=⟨_,rfl⟩
   have p3:h2<+:h3:=by rw[eh3];exact w63 _ _
   obtain⟨h4,p4,r4,lo⟩:=ry2 hn u hs v hf hf' r q.toNat 0 [] h3 (by omega) rfl p3 (by rw[eh3];exact cv8)
   rw[m51]at r4 eh3
   have hel:=ih4 s r p m q.toNat 0
   have c1:0≤q∧q≤q∧q≤1099511627776∧q*8≤140737488355328:=by omega
   have hqn:((q.toNat:Nat):Int)=q:=by omega
   rw[show((0:Nat):Int)=0 from rfl]at lo
   have hGr:Grown h4 (some ⟨h2.length,0,none⟩) q.toNat (embN s r p m q.toNat 0) h.length:= .inr ⟨h2.length,rfl,(p1.trans p2).length_le,hel.symm,r4⟩
   refine⟨some ⟨h2.length,0,none⟩,q.toNat,h4,(p1.trans p2).trans p4,hGr, ?_⟩
   rw[wn8 T59 rfl]
   unfold F59 c59
   rw[hel]
   by_cases hm2:1<m
   ·have hmi2:(1:Int)<(m:Int):=by omega
    obtain⟨r',hr'⟩:=jw6 hn hs hpp hmm hm2
    have hrr:r=r':=by rw[hr];unfold embR;rw[hn];simp[hm2,hr']
    have hst0:q-1≤s-1:=by
     have h5:p^m≤p^m':=tv0 (by have:=hf.p2;omega) (Nat.le_of_dvd (by have:=hf'.m1;omega) (Nat.dvd_of_mod_eq_zero hmm))
     have h6:=hf'.pm
     rw[←hpp]at h6
     rw[hf.pm,h6]at h5
     omega
    have hst:1≤(s-1)/(q-1)∧(s-1)/(q-1)≤64:=by
     refine⟨Int.le_ediv_of_mul_le (by omega) (by omega), ?_⟩
     have:=fj2 (q-1) (show 0≤s-1 by omega)
     omega
    have pl:=ht7 hn u hs v hf hf' ((s-1)/(q-1)) hst 64 1 0 r' (by omega) (by omega) (.inl rfl) hr'
    rw[vq0,←hrr]at pl
    have q2:(s-1).tdiv (q-1)=(s-1)/(q-1):=zj0 (by omega)
    have hN: ¬q-1=0:=by omega
    have u0:=u.f0
    have v0:=v.f0
    simp(disch:=first|omega|(simp only[rl9,wi2,q89]<;>omega)|fail) only[push_cast,seval,e1,e2,u1,v1,mr8 hpp,u2,v2,hm0,q1,mr8 hmi,dec_lt hmi2,u0,v0,wrap64,hN,q2]
    rw[pl]
    simp(disch:=first|omega|(simp only[rl9,wi2,q89]<;>omega)|fail) only[push_cast,seval,c1,k78,←eh3,hqn]
    rw[lo]
    simp(disch:=first|omega|(simp only[rl9,wi2,q89]<;>omega)|fail) only[push_cast,seval]
   ·have hmi2: ¬(1:Int)<(m:Int):=by omega
    have hrr:r=0:=by rw[hr];unfold embR;rw[hn];simp[hm2]
    rw[hrr]at lo
    simp(disch:=first|omega|(simp only[rl9,wi2,q89]<;>omega)|fail) only[push_cast,seval,e1,e2,u1,v1,mr8 hpp,u2,v2,hm0,q1,mr8 hmi,cw6 (vk3.1 hmi2),c1,k78,←eh3,hqn]
    rw[lo]
    simp(disch:=first|omega|(simp only[rl9,wi2,q89]<;>omega)|fail) only[push_cast,seval]
theorem re9{h h':H}{Z Zp:Nat→Prop}{s':Option Addr}{c':Nat}{zs:List Int}(i:Inv h [] Z Zp)(p:h<+:h')(g:Grown h' s' c' zs h.length): ∃a:AT,Post h [] Zp 0 (.own 0 [],[.sl (nlT zs) 3 1 (ivs zs)],[]) (.slice s' zs.length c') h' [] [a] Z Zp:=by
 obtain⟨a,a1,a2,a3,a4⟩:=pr1 (Z:=Zp) g
 have hnew: ∀o∈a.fp,h.length≤o∧o<h'.length:=fun o ho=>by
  rcases a3 with a3|⟨x,a3,a5⟩
  ·rw[a3]at ho;cases ho
  ·rw[a3]at ho
   rw[q05.1 ho];exact a5
 have hfp:fpL ([]++[a])=a.fp:=by simp[fpL]
 refine⟨a,⟨?_,rfl,⟨by rw[m51,okL,okL];exact⟨a4,trivial⟩,fun x=> ?_,fun o ho=> ?_,fun o ho hz=> ?_,fun o ho=> ?_,i.zp⟩,⟨p.length_le,fun o ho _=>cb1 p ho,fun o ho=> .inr ?_,fun o ho=>ho,fun o ho=> .inl ho⟩, ?_,rfl,fun i a k h1=>by simp at h1⟩⟩
 ·rw[nf9,gw5,a2]
 ·rw[hfp]
  rcases a3 with a3|⟨x,a3,a5⟩
  ·rw[a3];simp
  ·rw[a3,List.count_singleton];split<;>omega
 ·rw[hfp]at ho;exact(hnew o ho).2
 ·rw[hfp]at ho;have:=i.zlt o hz;have:=hnew o ho;omega
 ·have:=i.zlt o ho;have:=p.length_le;omega
 ·rw[hfp]at ho;exact(hnew o ho).1
 ·rw[Vm.VR]
  refine⟨by simp,fun b hb _=> ?_⟩
  have hb:some a=some b:=hb
  cases hb
  exact a1
def pEmb:List AV→Rts→Option VRes
 | [.x (.int .i64 q), .x (.int .i64 s)],[]=>some (.tup [.own 0 [], .x (.int .i64 (embP q s).1)],[.sl (nlT (embP q s).2) 3 1 (ivs (embP q s).2)],[])
 |_,_=>none
theorem ev0{xs0:List AV}{C:Rts}{r:VRes}(he:pEmb xs0 C=some r):VOK T 59 xs0 C r:=by
 unfold pEmb at he
 split at he
 ·rename_i q s
  cases he
  intro h Ac Z Zp ws i hC hv hk
  obtain rfl:Ac=[]:=by cases Ac with
   |nil=>rfl
   |cons=>cases hC
  rw[Vm.VRL]at hv
  obtain⟨w,ws',rfl,h1,h2⟩:=hv
  rw[Vm.VRL]at h2
  obtain⟨w2,ws2,rfl,h3,h4⟩:=h2
  rw[Vm.VRL]at h4
  rw[Vm.VR]at h1 h3
  subst h1 h3 h4
  obtain⟨sa,c,h',p,g,e⟩:=rd4 q s h
  obtain⟨a,P⟩:=re9 i p g
  refine⟨_,h',[],[a],Z,Zp,e,⟨P.s,P.k,P.inv,P.ext, ?_,P.len,P.pin⟩⟩
  rw[Vm.VR]
  exact⟨[_,_],rfl, .cons P.v (.cons (by rw[Vm.VR]) .nil)⟩
 ·cases he
end Go.Proofs.YtppbpgmdmiajcaaGreat
namespace Go.Proofs.YtppbpgmdmiajcaaGreat
open Go.Am
section
variable {q p:Int} {m:Nat} {g:Int} {mod:List Int} {om cm:Nat} {s p':Int} {m':Nat} {g':Int} {mod':List Int} {om' cm':Nat} {B B':Nat} {h1:H}
end
end Go.Proofs.YtppbpgmdmiajcaaGreat
namespace Go.Proofs.YtppbpgmdmiajcaaGreat
open Go.Am Go.Vm
end Go.Proofs.YtppbpgmdmiajcaaGreat
namespace Go.Alg
class FK (K:Type) extends Zero K,One K,Add K,Mul K,Neg K where
 inv:K→K
 deq:DecidableEq K
 add_assoc: ∀a b c:K,a+b+c=a+(b+c)
 add_comm: ∀a b:K,a+b=b+a
 add_zero: ∀a:K,a+0=a
 add_neg: ∀a:K,a+ -a=0
 mul_assoc: ∀a b c:K,a*b*c=a*(b*c)
 mul_comm: ∀a b:K,a*b=b*a
 mul_one: ∀a:K,a*1=a
 mul_add: ∀a b c:K,a*(b+c)=a*b+a*c
 mul_inv: ∀a:K,a≠0→a*inv a=1
 zero_ne:(0:K)≠1
instance {K:Type} [FK K]:DecidableEq K:=FK.deq
instance {K:Type} [FK K]:Sub K:=⟨fun a b=>a+ -b⟩
section
variable {K:Type} [FK K]
theorem sub_eq(a b:K):a-b=a+ -b:=rfl
theorem zero_add(a:K):0+a=a:=by rw[FK.add_comm,FK.add_zero]
theorem neg_add(a:K): -a+a=0:=by rw[FK.add_comm,FK.add_neg]
theorem one_mul(a:K):1*a=a:=by rw[FK.mul_comm,FK.mul_one]
theorem add_mul(a b c:K):(a+b)*c=a*c+b*c:=by rw[FK.mul_comm,FK.mul_add,FK.mul_comm c a,FK.mul_comm c b]
theorem g50{a b c:K}(h:a+b=a+c):b=c:=by
 have:=congrArg (fun x=> -a+x) h
 simpa only[←FK.add_assoc,neg_add,zero_add]using this
theorem gb2{a b c:K}(h:b+a=c+a):b=c:=g50 (a:=a) (by rw[FK.add_comm a b,FK.add_comm a c,h])
theorem mul_zero(a:K):a*0=0:=by
 have h:a*0+a*0=a*0+0:=by rw[←FK.mul_add,FK.add_zero,FK.add_zero]
 exact g50 h
theorem zero_mul(a:K):0*a=0:=by rw[FK.mul_comm,mul_zero]
theorem ut3{a b:K}(h:a+b=0):b= -a:=g50 (a:=a) (by rw[h,FK.add_neg])
theorem neg_zero: -(0:K)=0:=(ut3 (FK.add_zero (0:K))).symm
theorem neg_mul(a b:K): -a*b= -(a*b):=ut3 (by rw[←add_mul,FK.add_neg,zero_mul])
theorem mul_neg(a b:K):a* -b= -(a*b):=by rw[FK.mul_comm,neg_mul,FK.mul_comm]
theorem tp9(a b:K): -(a+b)= -a+ -b:=(ut3 (by rw[FK.add_assoc,←FK.add_assoc b,FK.add_comm b,FK.add_assoc (-a),FK.add_neg,FK.add_zero,FK.add_neg])).symm
theorem sub_self(a:K):a-a=0:=FK.add_neg a
theorem sub_zero(a:K):a-0=a:=by rw[sub_eq,neg_zero,FK.add_zero]
theorem fj9(a b:K):a-b+b=a:=by rw[sub_eq,FK.add_assoc,neg_add,FK.add_zero]
theorem sub_eq_zero{a b:K}:a-b=0↔a=b:=⟨fun h=>by rw[←fj9 a b,h,zero_add],fun h=>by rw[h,sub_self]⟩
theorem mul_sub(a b c:K):a*(b-c)=a*b-a*c:=by rw[sub_eq,sub_eq,FK.mul_add,mul_neg]
theorem sub_mul(a b c:K):(a-b)*c=a*c-b*c:=by rw[sub_eq,sub_eq,add_mul,neg_mul]
theorem ki7:(1:K)≠0:=fun h=>FK.zero_ne h.symm
theorem inv_mul{a:K}(h:a≠0):FK.inv a*a=1:=by rw[FK.mul_comm,FK.mul_inv a h]
theorem mul_left{a b c:K}(ha:a≠0)(h:a*b=a*c):b=c:=by
 have:=congrArg (fun x=>FK.inv a*x) h
 simpa only[←FK.mul_assoc,inv_mul ha,one_mul]using this
theorem mul_eq_zero{a b:K}(h:a*b=0):a=0∨b=0:=by
 by_cases ha:a=0
 ·exact .inl ha
 ·exact .inr (mul_left ha (by rw[h,mul_zero]))
theorem hl6{a b:K}(ha:a≠0)(hb:b≠0):a*b≠0:=fun h=>(mul_eq_zero h).elim ha hb
instance :Std.Associative (α:=K) (· + ·):=⟨FK.add_assoc⟩
instance :Std.Commutative (α:=K) (· + ·):=⟨FK.add_comm⟩
instance :Std.Associative (α:=K) (· * ·):=⟨FK.mul_assoc⟩
instance :Std.Commutative (α:=K) (· * ·):=⟨FK.mul_comm⟩
theorem add4(a b c d:K):(a+b)+(c+d)=(a+c)+(b+d):=by ac_rfl
def sumL{α:Type}(l:List α)(f:α→K):K:=l.foldr (fun a s=>f a+s) 0
variable {α β:Type}
theorem lh9(f:α→K):sumL [] f=0:=rfl
theorem gb6(a:α)(l:List α)(f:α→K):sumL (a::l) f=f a+sumL l f:=rfl
theorem up0(f:α→K): ∀l l':List α,sumL (l++l') f=sumL l f+sumL l' f
 | [],l'=>by rw[m51,lh9,zero_add]
 |a::l,l'=>by rw[rs6,gb6,gb6,up0 f l l',FK.add_assoc]
theorem jl9(f g:α→K): ∀l:List α,sumL l (fun a=>f a+g a)=sumL l f+sumL l g
 | []=>by rw[lh9,lh9,lh9,FK.add_zero]
 |a::l=>by rw[gb6,gb6,gb6,jl9 f g l,add4]
theorem ro9(c:K)(f:α→K): ∀l:List α,sumL l (fun a=>c*f a)=c*sumL l f
 | []=>by rw[lh9,lh9,mul_zero]
 |a::l=>by rw[gb6,gb6,ro9 c f l,FK.mul_add]
theorem ue3(c:K)(f:α→K)(l:List α):sumL l (fun a=>f a*c)=sumL l f*c:=by
 rw[FK.mul_comm,←ro9]
 congr 1
 funext a
 rw[FK.mul_comm]
theorem eq0(f:α→K): ∀l:List α,sumL l (fun a=> -f a)= -sumL l f
 | []=>by rw[lh9,lh9,neg_zero]
 |a::l=>by rw[gb6,gb6,eq0 f l,tp9]
theorem b15(f g:α→K)(l:List α):sumL l (fun a=>f a-g a)=sumL l f-sumL l g:=by
 simp only[sub_eq]
 rw[jl9,eq0]
theorem ox7{f g:α→K}: ∀{l:List α},(∀a∈l,f a=g a)→sumL l f=sumL l g
 | [],_=>rfl
 |a::l,h=>by rw[gb6,gb6,h a (by simp),ox7 fun b hb=>h b (by simp[hb])]
theorem tx6{f:α→K}{l:List α}(h: ∀a∈l,f a=0):sumL l f=0:=by
 induction l with
 |nil=>rfl
 |cons a l ih=>rw[gb6,h a (by simp),ih fun b hb=>h b (by simp[hb]),FK.add_zero]
theorem j53(f:α→β→K)(l':List β): ∀l:List α,sumL l (fun a=>sumL l' (f a))=sumL l' (fun b=>sumL l (fun a=>f a b))
 | []=>by rw[lh9];exact(tx6 fun _ _=>rfl).symm
 |a::l=>by rw[gb6,j53 f l' l,←jl9];rfl
theorem l63(g:β→α)(f:α→K): ∀l:List β,sumL (l.map g) f=sumL l fun b=>f (g b)
 | []=>rfl
 |b::l=>by rw[nf9,gb6,gb6,l63 g f l]
theorem j94 [DecidableEq α]{f:α→K}{s:α}: ∀{l:List α},l.Nodup→s∈l→(∀a∈l,a≠s→f a=0)→sumL l f=f s
 | [],_,h,_=>by cases h
 |a::l,hn,h,h0=>by
  rw[y50]at hn
  rw[gb6]
  by_cases ha:a=s
  ·subst ha
   rw[tx6 fun b hb=>h0 b (by simp[hb]) fun e=>hn.1 (e▸hb),FK.add_zero]
  ·rw[h0 a (by simp) ha,zero_add]
   refine j94 hn.2 ?_ fun b hb=>h0 b (by simp[hb])
   rcases r04.1 h with h|h
   ·exact absurd h.symm ha
   ·exact h
def sumN(n:Nat)(f:Nat→K):K:=sumL (List.range n) f
theorem wr8(f:Nat→K):sumN 0 f=0:=rfl
theorem cp9(n:Nat)(f:Nat→K):sumN (n+1) f=sumN n f+f n:=by
 unfold sumN
 rw[List.range_succ,up0,gb6,lh9,FK.add_zero]
theorem c66(n:Nat)(f:Nat→K):sumN (n+1) f=f 0+sumN n fun i=>f (i+1):=by
 unfold sumN
 rw[List.range_succ_eq_map,gb6,l63]
theorem xq2{n s:Nat}{f:Nat→K}(hs:s<n)(h: ∀a,a<n→a≠s→f a=0):sumN n f=f s:=
 j94 s08 (l16.2 hs) fun a ha=>h a (l16.1 ha)
theorem rc1{n:Nat}{f g:Nat→K}(h: ∀a,a<n→f a=g a):sumN n f=sumN n g:=ox7 fun a ha=>h a (l16.1 ha)
theorem ja4{n:Nat}{f:Nat→K}(h: ∀a,a<n→f a=0):sumN n f=0:=tx6 fun a ha=>h a (l16.1 ha)
end
end Go.Alg
