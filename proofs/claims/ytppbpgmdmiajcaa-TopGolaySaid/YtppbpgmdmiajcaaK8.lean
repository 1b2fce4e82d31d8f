/-
  The fields of the table are fields. No condition. What is known of fields in the first machine, for the second. No condition. What rows span; their one form. No condition. Rows one by one into what th ..
-/
import Derived.Test.YtppbpgmdmiajcaaK0
import Derived.Test.YtppbpgmdmiajcaaK7
import Derived.Test.YtppbpgmdmiajcaaKAD
import Derived.Test.YtppbpgmdmiajcaaK6
import Derived.WalkKit
set_option linter.unusedVariables false
set_option linter.unusedSimpArgs false
set_option linter.unusedSectionVars false
set_option maxRecDepth 100000
namespace Go.Proofs.Ytppbpgmdmiajcaa
open Go.Am Go.Alg
theorem ej5{p d T:Int}(h0:0≤d)(h1:d<p):(d+p*T)%p=d∧(d+p*T)/p=T:=by
 constructor
 ·rw[Int.add_mul_emod_self_left,Int.emod_eq_of_lt h0 h1]
 ·rw[Int.add_mul_ediv_left _ _ (by omega),Int.ediv_eq_zero_of_lt h0 h1,Int.zero_add]
theorem ua0(p:Int): ∀(n:Nat) (a b:Int),addN p n a b=addN p n b a
 |0,_,_=>rfl
 |n+1,a,b=>by rw[addN,addN,ua0 p n,Int.add_comm (a%p)]
theorem mk9{p:Int}(hp:0<p): ∀(n:Nat) (a b c:Int),addN p n (addN p n a b) c=addN p n a (addN p n b c)
 |0,_,_,_=>rfl
 |n+1,a,b,c=>by
  have d1:=ej5 (T:=addN p n (a/p) (b/p)) (fc1 (a%p+b%p) (show p≠0 by omega)) (do0 (a%p+b%p) hp)
  have d2:=ej5 (T:=addN p n (b/p) (c/p)) (fc1 (b%p+c%p) (show p≠0 by omega)) (do0 (b%p+c%p) hp)
  have e0: ∀x y:Int,addN p (n+1) x y=(x%p+y%p)%p+p*addN p n (x/p) (y/p):=fun _ _=>rfl
  rw[e0 (addN p (n+1) a b) c,e0 a (addN p (n+1) b c),e0 a b,e0 b c,d1.1,d1.2,d2.1,d2.2,mk9 hp n]
  simp only[Int.emod_add_emod,bk9,Int.add_assoc]
theorem ns9{p:Int}(hp:0<p): ∀(n:Nat) (a:Int),0≤a→a<p^n→addN p n a 0=a
 |0,a,h0,h1=>by rw[Int.pow_zero]at h1;show(0:Int)=a;omega
 |n+1,a,h0,h1=>by
  rw[pi7]at h1
  rw[addN,Int.zero_emod,Int.zero_ediv,Int.add_zero,Int.emod_emod,ns9 hp n (a/p) (Int.ediv_nonneg h0 (by omega)) (Int.ediv_lt_of_lt_mul hp h1)]
  exact Int.emod_add_mul_ediv a p
theorem ju5{p:Int}(hp:0<p): ∀(n:Nat) (a:Int),addN p n a (negN p n a)=0
 |0,_=>rfl
 |n+1,a=>by
  have d1:=ej5 (T:=negN p n (a/p)) (fc1 (p-a%p) (show p≠0 by omega)) (do0 (p-a%p) hp)
  have e0: ∀x y:Int,addN p (n+1) x y=(x%p+y%p)%p+p*addN p n (x/p) (y/p):=fun _ _=>rfl
  have e1:negN p (n+1) a=(p-a%p)%p+p*negN p n (a/p):=rfl
  rw[e0,e1,d1.1,d1.2,ju5 hp n,bk9,show a%p+(p-a%p)=p by omega,Int.emod_self]
  omega
section
variable {q p g:Int} {m:Nat} {mod:List Int}
theorem c67(hn:fldN q.toNat=some (p,m,g,mod)){b c:Int}(hb:0≤b∧b<q)(hc:0≤c∧c<q):fmul q g (addN p m b c)=addN p m (fmul q g b) (fmul q g c):=by
 obtain⟨h2,h64⟩:=ug0 hn
 have h:=p92.1 hm8 (q.toNat-2) (l16.2 (by omega))
 rw[show q.toNat-2+2=q.toNat by omega]at h
 unfold ud5 at h
 rw[hn]at h
 simp only[p92,l16,jn8]at h
 have:=h b.toNat (by omega) c.toNat (by omega)
 rwa [show((q.toNat:Nat):Int)=q by omega,show((b.toNat:Nat):Int)=b by omega,show((c.toNat:Nat):Int)=c by omega]at this
end
class IsFld (q:Int):Prop where
 ok: ∃p m g mod,fldN q.toNat=some (p,m,g,mod)
structure El (q:Int) where
 v:Int
 lo:0≤v
 hi:v<q
theorem El.ext'{q:Int}{a b:El q}(h:a.v=b.v):a=b:=by
 obtain⟨a,h1,h2⟩:=a
 obtain⟨b,h3,h4⟩:=b
 cases h;rfl
instance {q:Int}:DecidableEq (El q):=fun a b=>if h:a.v=b.v then .isTrue (El.ext' h)else .isFalse fun e=>h (e▸rfl)
theorem jj8{q p g:Int}{m:Nat}{mod:List Int}(hn:fldN q.toNat=some (p,m,g,mod)):FOk q p m mod∧Tabs q g∧1≤g∧g<q:=by
 obtain⟨h2,h64⟩:=ug0 hn
 have h:=hi9 hn
 rw[show((q.toNat:Nat):Int)=q by omega]at h
 exact⟨h.1,cb4 hn,h.2.2.1,h.2.2.2.1⟩
theorem El.ok{q:Int}(a:El q):fok q a.v=true:=iy2 ⟨a.lo,a.hi⟩
theorem do9{q p g:Int}{m:Nat}{mod:List Int}(hn:fldN q.toNat=some (p,m,g,mod))(a b:El q):fadd q a.v b.v=addN p m a.v b.v:=by
 rw[fadd,a.ok,b.ok,(y65 hn).1,(y65 hn).2];rfl
theorem pu7{q p g:Int}{m:Nat}{mod:List Int}(hn:fldN q.toNat=some (p,m,g,mod))(a:El q):fneg q a.v=negN p m a.v:=by
 rw[fneg,a.ok,(y65 hn).1,(y65 hn).2];rfl
section
variable {q:Int} [hq:IsFld q]
theorem aw1:2≤q:=by
 obtain⟨p,m,g,mod,hn⟩:=hq.ok
 exact(jj8 hn).1.q2
theorem wg2(a b:El q):0≤fadd q a.v b.v∧fadd q a.v b.v<q:=by
 obtain⟨p,m,g,mod,hn⟩:=hq.ok
 have hf:=(jj8 hn).1
 have:=hf.p2
 have hb:=kq3 (p:=p) (by omega) m a.v b.v
 rw[hf.pm]at hb
 rw[do9 hn];exact hb
theorem ca9(a:El q):0≤fneg q a.v∧fneg q a.v<q:=by
 obtain⟨p,m,g,mod,hn⟩:=hq.ok
 have hf:=(jj8 hn).1
 have:=hf.p2
 have hb:=ul1 (p:=p) (by omega) m a.v
 rw[hf.pm]at hb
 rw[pu7 hn];exact hb
theorem jo8(a b:El q):0≤fmul q a.v b.v∧fmul q a.v b.v<q:=by
 obtain⟨p,m,g,mod,hn⟩:=hq.ok
 obtain⟨hf,t,_⟩:=jj8 hn
 have h2:=hf.q2
 rw[fmul,a.ok,b.ok]
 cases h0:(a.v==0)||(b.v==0)with
 |true=>exact⟨Int.le_refl _,by show(0:Int)<q;omega⟩
 |false=>
  have:=zd3 t h2 (flog q a.v+flog q b.v)
  exact⟨by show 0≤fexp q _;omega,this.2.1⟩
theorem bh9(a:El q)(h:a.v≠0):0≤finv q a.v∧finv q a.v<q:=by
 obtain⟨p,m,g,mod,hn⟩:=hq.ok
 obtain⟨hf,t,_⟩:=jj8 hn
 have:=(ea5 t hf.q2 (a:=a.v) ⟨by have:=a.lo;omega,a.hi⟩).1
 exact⟨by omega,this.2⟩
instance :Zero (El q):=⟨⟨0,Int.le_refl _,by have:=aw1 (q:=q);omega⟩⟩
instance :One (El q):=⟨⟨1,by omega,by have:=aw1 (q:=q);omega⟩⟩
instance :Add (El q):=⟨fun a b=>⟨fadd q a.v b.v,(wg2 a b).1,(wg2 a b).2⟩⟩
instance :Mul (El q):=⟨fun a b=>⟨fmul q a.v b.v,(jo8 a b).1,(jo8 a b).2⟩⟩
instance :Neg (El q):=⟨fun a=>⟨fneg q a.v,(ca9 a).1,(ca9 a).2⟩⟩
theorem hc8:(0:El q).v=0:=rfl
theorem wh3:(1:El q).v=1:=rfl
theorem on0(a b:El q):(a+b).v=fadd q a.v b.v:=rfl
theorem ym6(a b:El q):(a*b).v=fmul q a.v b.v:=rfl
theorem tg5(a:El q):(-a).v=fneg q a.v:=rfl
theorem r57{a:El q}:a.v=0↔a=0:=⟨fun h=>El.ext' h,fun h=>by rw[h];rfl⟩
theorem a60(a b:El q):a*b=b*a:=El.ext' (by
 rw[ym6,ym6,fmul,fmul,a.ok,b.ok,Bool.or_comm,Int.add_comm])
theorem qc3(a:El q):a*0=0:=El.ext' (by
 rw[ym6,fmul,a.ok,(0:El q).ok,hc8,show((0:Int)==0)=true from rfl,Bool.or_true];rfl)
theorem du6(a:El q):a*1=a:=El.ext' (by
 obtain⟨p,m,g,mod,hn⟩:=hq.ok
 obtain⟨hf,t,_⟩:=jj8 hn
 have h2:=hf.q2
 rw[ym6,wh3]
 by_cases h0:a.v=0
 ·rw[fmul,a.ok,show fok q 1=true from(1:El q).ok,h0];rfl
 ·have ha:1≤a.v∧a.v<q:=⟨by have:=a.lo;omega,a.hi⟩
  have h1:=(t.er 0 (by omega) (by omega)).2.2
  rw[t.e0]at h1
  have h3:=t.lr a.v ha.1 ha.2
  rw[js7 t ha ⟨by omega,by omega⟩,h1,Int.add_zero,Int.emod_eq_of_lt h3.1 h3.2.1,h3.2.2])
theorem wj9(a b c:El q):a*b*c=a*(b*c):=by
 by_cases ha:a=0
 ·rw[ha,a60 0 b,qc3,a60 0 c,qc3,a60 0,qc3]
 by_cases hb:b=0
 ·rw[hb,qc3,a60 0 c,qc3,qc3]
 by_cases hc:c=0
 ·rw[hc,qc3,qc3,qc3]
 refine El.ext' ?_
 obtain⟨p,m,g,mod,hn⟩:=hq.ok
 obtain⟨hf,t,_⟩:=jj8 hn
 have h2:=hf.q2
 have ne: ∀x:El q,x≠0→1≤x.v∧x.v<q:=fun x hx=>⟨by have:=x.lo;have:x.v≠0:=fun h=>hx (r57.1 h);omega,x.hi⟩
 have h1:=zd3 t h2 (flog q a.v+flog q b.v)
 have h3:=zd3 t h2 (flog q b.v+flog q c.v)
 rw[ym6,ym6,ym6,ym6,js7 t (ne a ha) (ne b hb),js7 t (ne b hb) (ne c hc),js7 t ⟨h1.1,h1.2.1⟩ (ne c hc),js7 t (ne a ha) ⟨h3.1,h3.2.1⟩,h1.2.2,h3.2.2,Int.emod_add_emod,bk9,Int.add_assoc]
theorem sd1(a b c:El q):a*(b+c)=a*b+a*c:=by
 obtain⟨p,m,g,mod,hn⟩:=hq.ok
 obtain⟨hf,t,hg1,hg2⟩:=jj8 hn
 have h2:=hf.q2
 have hG: ∀x y:El q,(⟨g,by omega,hg2⟩:El q)*(x+y)=⟨g,by omega,hg2⟩*x+⟨g,by omega,hg2⟩*y:=fun x y=>El.ext' (by
  rw[ym6,on0,do9 hn,on0,do9 hn]
  exact c67 hn ⟨x.lo,x.hi⟩ ⟨y.lo,y.hi⟩)
 have hP: ∀(k:Nat) (x y:El q) (h0:0≤fexp q ((k:Int)%(q-1))) (h1:fexp q ((k:Int)%(q-1))<q),(⟨_,h0,h1⟩:El q)*(x+y)=⟨_,h0,h1⟩*x+⟨_,h0,h1⟩*y:=by
  intro k
  induction k with
  |zero=>
   intro x y h0 h1
   have he:(⟨_,h0,h1⟩:El q)=1:=El.ext' (by show fexp q (((0:Nat):Int)%(q-1))=1;rw[vx9,Int.zero_emod];exact t.e0)
   rw[he,a60,du6,a60 1 x,du6,a60 1 y,du6]
  |succ k ih=>
   intro x y h0 h1
   have h3:=zd3 t h2 (k:Int)
   have he:(⟨_,h0,h1⟩:El q)=⟨fexp q ((k:Int)%(q-1)),by omega,h3.2.1⟩*⟨g,by omega,hg2⟩:=El.ext' (by
    show fexp q (((k+1:Nat):Int)%(q-1))=fmul q _ g
    rw[np3 t h2 ⟨hg1,hg2⟩,e96,g71])
   rw[he,wj9,hG,ih,wj9,wj9]
 by_cases ha:a=0
 ·rw[ha,a60,qc3,a60 0 b,qc3,a60 0 c,qc3]
  refine El.ext' ?_
  have:=hf.p2
  rw[on0,do9 hn]
  exact(ns9 (by omega) m 0 (Int.le_refl _) (Int.pow_pos (by omega))).symm
 ·have hav:a.v≠0:=fun h=>ha (r57.1 h)
  have h3:=t.lr a.v (by have:=a.lo;omega) a.hi
  have he:fexp q (((flog q a.v).toNat:Int)%(q-1))=a.v:=by
   rw[show(((flog q a.v).toNat:Nat):Int)=flog q a.v by omega,Int.emod_eq_of_lt h3.1 h3.2.1,h3.2.2]
  have h4:=hP (flog q a.v).toNat b c (by rw[he];exact a.lo) (by rw[he];exact a.hi)
  have h5:(⟨fexp q (((flog q a.v).toNat:Int)%(q-1)),by rw[he];exact a.lo,by rw[he];exact a.hi⟩:El q)=a:=El.ext' he
  rw[h5]at h4
  exact h4
instance elFK:FK (El q) where
 inv:=fun a=>if h:a.v=0 then 0 else⟨finv q a.v,(bh9 a h).1,(bh9 a h).2⟩
 deq:=inferInstance
 add_assoc:=fun a b c=>El.ext' (by
  obtain⟨p,m,g,mod,hn⟩:=hq.ok
  have hf:=(jj8 hn).1
  have:=hf.p2
  rw[on0 (a+b) c,on0 a (b+c),do9 hn (a+b) c,do9 hn a (b+c),on0 a b,on0 b c,do9 hn a b,do9 hn b c,mk9 (by omega)])
 add_comm:=fun a b=>El.ext' (by
  obtain⟨p,m,g,mod,hn⟩:=hq.ok
  rw[on0,on0,do9 hn,do9 hn,ua0])
 add_zero:=fun a=>El.ext' (by
  obtain⟨p,m,g,mod,hn⟩:=hq.ok
  have hf:=(jj8 hn).1
  have:=hf.p2
  rw[on0,do9 hn,hc8]
  exact ns9 (by omega) m a.v a.lo (by rw[hf.pm];exact a.hi))
 add_neg:=fun a=>El.ext' (by
  obtain⟨p,m,g,mod,hn⟩:=hq.ok
  have hf:=(jj8 hn).1
  have:=hf.p2
  rw[on0,do9 hn,tg5,pu7 hn]
  exact ju5 (by omega) m a.v)
 mul_assoc:=wj9
 mul_comm:=a60
 mul_one:=du6
 mul_add:=sd1
 mul_inv:=fun a ha=>El.ext' (by
  have h:a.v≠0:=fun h=>ha (r57.1 h)
  obtain⟨p,m,g,mod,hn⟩:=hq.ok
  obtain⟨hf,t,_⟩:=jj8 hn
  rw[dif_neg h]
  exact(ea5 t hf.q2 (a:=a.v) ⟨by have:=a.lo;omega,a.hi⟩).2)
 zero_ne:=fun h=>by
  have:=congrArg El.v h
  rw[hc8,wh3]at this
  omega
theorem rl7{a:El q}(h:a≠0):(FK.inv a).v=finv q a.v:=by
 show(if h:a.v=0 then(0:El q)else _).v=_
 rw[dif_neg fun e=>h (r57.1 e)]
theorem bq9(a b:El q):(a-b).v=fsub q a.v b.v:=rfl
end
def vs{q:Int}(l:List (El q)):List Int:=l.map El.v
def ge{K:Type} [FK K](l:List K)(i:Nat):K:=l.getD i 0
section
variable {q:Int}
theorem fi2(l:List (El q)):(vs l).length=l.length:=by simp[vs]
theorem rp2:vs ([]:List (El q))=[]:=rfl
theorem e55(a:El q)(l:List (El q)):vs (a::l)=a.v::vs l:=rfl
theorem gq8(l l':List (El q)):vs (l++l')=vs l++vs l':=by simp[vs]
theorem g52(l:List (El q))(i:Nat)(a:El q):(vs l).set i a.v=vs (l.set i a):=by unfold vs;rw[fx9]
theorem qj2(n:Nat)(a:El q):List.replicate n a.v=vs (List.replicate n a):=by unfold vs;rw[List.map_replicate]
theorem qa5: ∀{l l':List (El q)},vs l=vs l'→l=l'
 | [],[],_=>rfl
 | [],_::_,h=>by cases h
 |_::_,[],h=>by cases h
 |a::l,b::l',h=>by
  rw[e55,e55,il0]at h
  rw[El.ext' h.1,qa5 h.2]
theorem n43: ∀{l:List Int},(∀z∈l,fok q z=true)→ ∃a:List (El q),l=vs a
 | [],_=>⟨[],rfl⟩
 |z::l,h=>by
  obtain⟨a,ha⟩:=n43 (l:=l) fun z hz=>h z (by simp[hz])
  have hz:=gc0.1 (h z (by simp))
  exact⟨⟨z,hz.1,hz.2⟩::a,by rw[e55,←ha]⟩
theorem v86 [IsFld q](l:List (El q))(i:Nat):gi (vs l) i=(ge l i).v:=by
 unfold gi ge vs
 rw[ao0,os6,os6,us5]
 cases l[i]? <;>rfl
end
end Go.Proofs.Ytppbpgmdmiajcaa
namespace Go.Proofs.Ytppbpgmdmiajcaa
open Go.Am Go.Vm Go.Alg
theorem ea7{zs:List Int}{i:Nat}(hi:i<zs.length):(ints zs)[i]? =some (.int .i64 (gi zs (i:Int))):=by
 have:=c25 (zs:=zs) (i:=(i:Int)) (by omega) (by omega)
 rwa [ao0]at this
theorem zj7{h:H}{Z:Nat→Prop}{zs:List Int}{l:List Value}:RdL h Z (ivs zs) l↔l=ints zs:=by
 induction zs generalizing l with
 |nil=>exact⟨fun hr=>by rw[show ivs []=[]from rfl,RdL]at hr;exact hr,fun e=>by subst e;rw[show ivs []=[]from rfl,RdL];rfl⟩
 |cons z zs ih=>
  rw[show ivs (z::zs)= .v (.int .i64 z)::ivs zs from rfl,RdL]
  constructor
  ·rintro⟨w,l',rfl,h1,h2⟩
   rw[Rd]at h1
   rw[h1,ih.1 h2];rfl
  ·rintro rfl
   exact⟨_,_,rfl,by rw[Rd],ih.2 rfl⟩
theorem ex4{h:H}{Z:Nat→Prop}{zs:List Int}{l:List Value}:ExL h Z (ivs zs) l↔l=ints zs:=by
 induction zs generalizing l with
 |nil=>exact⟨fun hr=>by rw[show ivs []=[]from rfl,ExL]at hr;exact hr,fun e=>by subst e;rw[show ivs []=[]from rfl,ExL];rfl⟩
 |cons z zs ih=>
  rw[show ivs (z::zs)= .v (.int .i64 z)::ivs zs from rfl,ExL]
  constructor
  ·rintro⟨w,l',rfl,h1,h2⟩
   rw[Ex]at h1
   rw[h1,ih.1 h2];rfl
  ·rintro rfl
   exact⟨_,_,rfl,by rw[Ex],ih.2 rfl⟩
theorem fw0{h:H}{Z:Nat→Prop}{nl e:Nat}{zs:List Int}{w:Value}(hr:Rd h Z (.sl nl e 1 (ivs zs)) w): ∃sa c,w= .slice sa zs.length c∧RdI h sa c zs:=by
 rw[Rd]at hr
 rcases hr with⟨h0,_,_,rfl⟩|⟨o,off,n,c,r,rfl,h1,h2,h3,h4,h5,h6,h7,h8⟩
 ·have:zs=[]:=by cases zs with
   |nil=>rfl
   |cons=>cases h0
  subst this
  exact⟨none,0,rfl, .nil⟩
 ·rw[gf1,mp4]at h5
  subst h5
  have h9:=zj7.1 h8
  rw[gf1]at h9
  refine⟨_,c,rfl, .inr ⟨h6,o,off,r,rfl,h2,h3,fun i h0 hi=> ?_⟩⟩
  have h10:=c25 h0 hi
  rw[←h9,td4,if_pos (by omega),s96]at h10
  exact h10
theorem pd9{h:H}{Z:Nat→Prop}{e:Nat}{zs:List Int}{sa:Option Addr}{c:Nat}(hr:RdI h sa c zs)(hz: ∀o,sa.map (·.block)=some o→Z o):Rd h Z (.sl 2 e 1 (ivs zs)) (.slice sa zs.length c):=by
 rw[Rd]
 rcases hr with⟨rfl,rfl,rfl⟩|⟨h1,o,off,r,rfl,h2,h3,h4⟩
 ·exact .inl ⟨rfl,by decide,by decide,rfl⟩
 ·refine .inr ⟨o,off,_,c,r,rfl,hz o rfl,h2,h3,by decide,by rw[gf1,mp4],h1,fun h=>(by cases h),zj7.2 ?_⟩
  rw[gf1]
  refine v63 fun i=> ?_
  by_cases hi:i<zs.length
  ·rw[ea7 hi,td4,if_pos hi,s96]
   have:=h4 (i:Int) (by omega) (by omega)
   rwa [ao0]at this
  ·rw[pb5 (by rw[vb8];omega),pb5 (by rw[iq5];omega)]
def lvs(nl:Nat)(m:List (List Int)):List Tree:=m.map fun l=> .sl nl 0 1 (ivs l)
theorem nb9(nl:Nat)(m:List (List Int)):(lvs nl m).length=m.length:=by simp[lvs]
theorem li3{nl:Nat}{m:List (List Int)}{i:Nat}{l:List Int}(h:m[i]? =some l):(lvs nl m)[i]? =some (.sl nl 0 1 (ivs l)):=by
 unfold lvs;rw[us5,h];rfl
def allZ(h:H):Nat→Prop:=fun o=>o<h.length
theorem bh6(h:H):Inv h [] (allZ h) (allZ h):=⟨by rw[okL];trivial,fun x=>by simp[fpL],fun o ho=>by simp[fpL]at ho,fun o ho=>by simp[fpL]at ho,fun o ho=>ho,fun o ho=>ho⟩
theorem vlaw{W:VW}(hP: ∀f p vs C r,W.P f=some p→p vs C=some r→VOK W.T f vs C r){h:H}{f:FuncId}{xs0:List AV}{ws:List Value}(hv:VRL h [] (allZ h) (allZ h) xs0 ws){b:Bool}(e:o24 W f xs0 []=some (.x (.bool b),[],[])): ∃h',call W.T f ws h=some (.bool b,h'):=by
 obtain⟨w,h',K,S,Z',Zp',h1,P⟩:=lw9 hP e h [] _ _ ws (bh6 h) rfl hv fun k hk=>by cases hk
 have:=P.v
 rw[Vm.VR]at this
 subst this
 exact⟨h',h1⟩
theorem sk2{h h':H}{Z Zp:Nat→Prop}(i:Inv h [] Z Zp)(hp:h<+:h')(v:Value):Post h [] Zp 0 (.x v,[],[]) v h' [] [] Z Zp:=by
 refine⟨rfl,rfl,⟨by rw[m51,okL];trivial,fun x=>by simp[fpL],fun o ho=>by simp[fpL]at ho,fun o ho=>by simp[fpL]at ho,fun o ho=> ?_,i.zp⟩,⟨hp.length_le,fun o ho _=>cb1 hp ho,fun o ho=>by simp[fpL]at ho,fun o ho=>ho,fun o ho=> .inl ho⟩,by rw[Vm.VR],rfl,fun i a k h1=>by simp at h1⟩
 have:=i.zlt o ho;have:=hp.length_le;omega
def pFt(q p:Int)(m:Nat)(g:Int)(mod:List Int):Tree:= .ex (.pt 90 [.v (.int .i64 q), .v (.int .i64 p), .v (.int .i64 m), .fz (.sl 2 0 1 (ivs mod)), .v (.int .i64 g), .sl 0 3 1 (ivs (tabs q.toNat).1), .sl 0 3 1 (ivs (tabs q.toNat).2)])
def pF(q:Int):Tree:=match fldN q.toNat with
 |some (p,m,g,mod)=>pFt q p m g mod
 |none=> .junk
def bc2:Tree→Int
 | .ex (.pt _ (.v (.int .i64 q)::_))=>q
 |_=>0
theorem yz0{q:Int} [h:IsFld q]:bc2 (pF q)=q:=by
 obtain⟨p,m,g,mod,hn⟩:=h.ok
 unfold pF;rw[hn];rfl
theorem ki3{q p g:Int}{m:Nat}{mod:List Int}(hn:fldN q.toNat=some (p,m,g,mod)):(tabs q.toNat).1.length=(q-1).toNat∧(tabs q.toNat).2.length=q.toNat:=by
 obtain⟨h2,h64⟩:=ug0 hn
 have ht:=(cb4 hn).tab
 rw[ht]
 constructor<;>simp
theorem nx2{h:H}{Z:Nat→Prop}{q p g:Int}{m:Nat}{mod:List Int}(hn:fldN q.toNat=some (p,m,g,mod)){w:Value}(hr:Rd h Z (pF q) w): ∃F E L om fm cm,w= .pointer (some ⟨F,0,none⟩)∧PUse h F q p m g mod E L om fm cm:=by
 obtain⟨h2,h64⟩:=ug0 hn
 have ht:=(cb4 hn).tab
 obtain⟨l1,l2⟩:=ki3 hn
 unfold pF at hr
 rw[hn]at hr
 simp only[pFt]at hr
 rw[Rd,Ex]at hr
 obtain⟨F,r,rfl,h1,h3,h4,h5,h6,h7⟩:=hr
 rw[ExL]at h7
 obtain⟨w0,c0,e0,k0,h7⟩:=h7
 rw[ExL]at h7
 obtain⟨w1,c1,e1,k1,h7⟩:=h7
 rw[ExL]at h7
 obtain⟨w2,c2,e2,k2,h7⟩:=h7
 rw[ExL]at h7
 obtain⟨w3,c3,e3,k3,h7⟩:=h7
 rw[ExL]at h7
 obtain⟨w4,c4,e4,k4,h7⟩:=h7
 rw[ExL]at h7
 obtain⟨w5,c5,e5,k5,h7⟩:=h7
 rw[ExL]at h7
 obtain⟨w6,c6,e6,k6,h7⟩:=h7
 unfold Ex at k0 k1 k2 k3 k4 k5 k6
 subst e6 e5 e4 e3 e2 e1
 obtain⟨sa,cm,rfl,rm⟩:=fw0 k3
 obtain⟨E,nE,rE,rfl,_,hE,_,_,_,_,nE1,_,xE⟩:=k5
 obtain⟨L,nL,rL,rfl,_,hL,_,_,_,_,nL1,_,xL⟩:=k6
 rw[ex4]at xE xL
 rw[gf1,mp4,l1]at nE1
 rw[gf1,mp4,l2]at nL1
 subst nE1 nL1 k0 k1 k2 k4
 have hml:=(hi9 hn).1.ml
 have hm1:=(hi9 hn).1.m1
 obtain⟨om,fm,rfl⟩: ∃om fm,sa=some ⟨om,fm,none⟩:=by
  rcases rm with⟨_,_,h0⟩|⟨_,o,off,r,h0,_⟩
  ·rw[h0]at hml;simp at hml
  ·exact⟨o,off,h0⟩
 have cell: ∀{i:Nat} {v:Value},r.cells[i]? =some v→h.ld1 F i=some v:=fun{i v} hi=>by rw[ng1 h3];exact hi
 refine⟨F,E,L,om,fm,cm,rfl,by omega,by omega,cell (by rw[e0];rfl),cell (by rw[e0];rfl),cell (by rw[e0];rfl),cell (by rw[e0];rfl),cell (by rw[e0];rfl),cell (by rw[e0];rfl),cell (by rw[e0];rfl),fun i h0 hi=> ?_,fun a h0 ha=> ?_,rm⟩
 ·rw[ng1 hE,xE,c25 h0 (by rw[l1];omega)]
  congr 2
  rw[ht]
  unfold gi
  rw[os6,us5,iq9 (by omega)]
  show fexp q ((i.toNat:Nat):Int)=_
  rw[show((i.toNat:Nat):Int)=i by omega]
 ·rw[ng1 hL,xL,c25 h0 (by rw[l2];omega)]
  congr 2
  rw[ht]
  unfold gi
  rw[os6,us5,iq9 (by omega)]
  show flog q ((a.toNat:Nat):Int)=_
  rw[show((a.toNat:Nat):Int)=a by omega]
open Classical in
noncomputable def pOne (g:Int→Int→Value):List AV→Rts→Option VRes
 | [.fz b t, .x (.int .i64 a)],[]=>if IsFld (bc2 t)∧t=pF (bc2 t)then some (.x (g (bc2 t) a),[],[])else none
 |_,_=>none
open Classical in
noncomputable def pTwo (g:Int→Int→Int→Value):List AV→Rts→Option VRes
 | [.fz b t, .x (.int .i64 a), .x (.int .i64 a')],[]=>if IsFld (bc2 t)∧t=pF (bc2 t)then some (.x (g (bc2 t) a a'),[],[])else none
 |_,_=>none
theorem l79{g:Int→Int→Value}{q:Int} [h:IsFld q]{b:Bool}{a:Int}:pOne g [.fz b (pF q), .x (.int .i64 a)] []=some (.x (g q a),[],[]):=by
 unfold pOne;simp only[];rw[if_pos (by rw[yz0];exact⟨h,rfl⟩),yz0]
theorem pu4{g:Int→Int→Int→Value}{q:Int} [h:IsFld q]{b:Bool}{a a':Int}:pTwo g [.fz b (pF q), .x (.int .i64 a), .x (.int .i64 a')] []=some (.x (g q a a'),[],[]):=by
 unfold pTwo;simp only[];rw[if_pos (by rw[yz0];exact⟨h,rfl⟩),yz0]
abbrev r43(f:FuncId)(xs:List Value)(g:Int→Value):Prop:= ∀(h:H) (F:Nat) (q p:Int) (m:Nat) (ge:Int) (mod:List Int) (E L om fm cm:Nat),fldN q.toNat=some (p,m,ge,mod)→PUse h F q p m ge mod E L om fm cm→call T f (.pointer (some ⟨F,0,none⟩)::xs) h=some (g q,h)
theorem nh2{f:FuncId}{b:Bool}{t:Tree}{xs:List Value}{g:Int→Value}(H:r43 f xs g)(hf:IsFld (bc2 t))(ht:t=pF (bc2 t)):VOK T f (.fz b t::xs.map AV.x) [] (.x (g (bc2 t)),[],[]):=by
 intro h Ac Z Zp ws i hC hv hk
 obtain rfl:Ac=[]:=by cases Ac with
  |nil=>rfl
  |cons=>cases hC
 rw[Vm.VRL]at hv
 obtain⟨w,ws',rfl,h1,h2⟩:=hv
 rw[Vm.VR,ht]at h1
 have hxs:ws'=xs:=by
  clear H hk hC i h1
  induction xs generalizing ws' with
  |nil=>rw[gw5,VRL]at h2;exact h2
  |cons x xs ih=>
   rw[nf9,VRL]at h2
   obtain⟨w',ws'',rfl,k1,k2⟩:=h2
   rw[Vm.VR]at k1
   rw[k1,ih _ k2]
 subst hxs
 obtain⟨p,m,ge,mod,hn⟩:=hf.ok
 obtain⟨F,E,L,om,fm,cm,rfl,u⟩:=nx2 hn h1
 have e:=H h F (bc2 t) p m ge mod E L om fm cm hn u
 exact⟨_,h,[],[],Z,Zp,e,sk2 i (je0 _) _⟩
theorem ka9{f:FuncId}{g:Int→Int→Value}(H: ∀a,r43 f [.int .i64 a] fun q=>g q a){xs0:List AV}{C:Rts}{r:VRes}(he:pOne g xs0 C=some r):VOK T f xs0 C r:=by
 unfold pOne at he
 split at he
 ·split at he
  ·rename_i hc;cases he;exact nh2 (xs:=[_]) (H _) hc.1 hc.2
  ·cases he
 ·cases he
theorem sg0{f:FuncId}{g:Int→Int→Int→Value}(H: ∀a a',r43 f [.int .i64 a, .int .i64 a'] fun q=>g q a a'){xs0:List AV}{C:Rts}{r:VRes}(he:pTwo g xs0 C=some r):VOK T f xs0 C r:=by
 unfold pTwo at he
 split at he
 ·split at he
  ·rename_i hc;cases he;exact nh2 (xs:=[_,_]) (H _ _) hc.1 hc.2
  ·cases he
 ·cases he
def pNew:List AV→Rts→Option VRes
 | [.x (.int .i64 q)],[]=>match fldN q.toNat with
   |some _=>some (.tup [.fz true (pF q), .x (.int .i64 0)],[],[])
   |none=>some (.tup [.x (.pointer none), .x (.int .i64 1)],[],[])
 |_,_=>none
theorem a64{h h':H}{Z Zp:Nat→Prop}(i:Inv h [] Z Zp)(hp:h<+:h'){a:AV}{w:Value}(hv:Vm.VR h' [] (fun o=>h.length≤o∧o<h'.length) (fun o=>h.length≤o∧o<h'.length) a w): ∃Z' Zp',Post h [] Zp 0 (a,[],[]) w h' [] [] Z' Zp':=by
 refine⟨fun o=>Z o∨(h.length≤o∧o<h'.length),fun o=>Zp o∨(h.length≤o∧o<h'.length),rfl,rfl,⟨by rw[m51,okL];trivial,fun x=>by simp[fpL],fun o ho=>by simp[fpL]at ho,fun o ho=>by simp[fpL]at ho,fun o ho=> ?_,fun o ho=>ho.imp (i.zp o) id⟩,⟨hp.length_le,fun o ho _=>cb1 hp ho,fun o ho=>by simp[fpL]at ho,fun o ho=> .inl ho,fun o ho=>ho.imp id fun h=> .inr h.1⟩,Vm.VR.move (fun o ho=> .inr ho) (fun o ho=> .inr ho) (fun _ _=>rfl) (fun _ _=>rfl) (Stab.refl [] []) hv rfl,rfl,fun i a k h1=>by simp at h1⟩
 rcases ho with ho|ho
 ·have:=i.zlt o ho;have:=hp.length_le;omega
 ·exact ho.2
theorem lo5{xs0:List AV}{C:Rts}{r:VRes}(he:pNew xs0 C=some r):VOK T 29 xs0 C r:=by
 unfold pNew at he
 split at he
 ·rename_i q
  intro h Ac Z Zp ws i hC hv hk
  obtain rfl:Ac=[]:=by cases Ac with
   |nil=>rfl
   |cons=>cases hC
  rw[Vm.VRL]at hv
  obtain⟨w,ws',rfl,h1,h2⟩:=hv
  rw[Vm.VRL]at h2
  rw[Vm.VR]at h1
  subst h1 h2
  split at he
  ·rename_i x hn
   obtain⟨p,m,g,mod⟩:=x
   cases he
   obtain⟨h',F,hp,hF,⟨om,fm,cm,ho,hM,⟨E,L,q1,q2,hFr,hE,hL,q3,q4⟩⟩,e⟩:=e24 q hn h
   have hFl:=h42 hFr
   have hEl:=h42 hE
   have hLl:=h42 hL
   have hom:om<h'.length:=by
    rcases hM with⟨h0,_⟩|⟨_,o,off,r,h0,h1,_⟩
    ·cases h0
    ·cases h0;exact h42 h1
   have hzo: ∀o,(some (⟨om,fm,none⟩:Addr)).map (·.block)=some o→h.length≤o∧o<h'.length:=fun o ho'=>by
    have e1:om=o:=by simpa using ho'
    subst e1;exact⟨by omega,hom⟩
   have hrd:Rd h' (fun o=>h.length≤o∧o<h'.length) (pF q) (.pointer (some ⟨F,0,none⟩)):=by
    have hq2:=ug0 hn
    unfold pF
    rw[hn]
    simp only[pFt]
    rw[Rd,Ex]
    refine⟨F,_,rfl,⟨hF,hFl⟩,hFr,rfl,rfl,rfl, ?_⟩
    rw[ExL];refine⟨_,_,rfl,by unfold Ex;rfl, ?_⟩
    rw[ExL];refine⟨_,_,rfl,by unfold Ex;rfl, ?_⟩
    rw[ExL];refine⟨_,_,rfl,by unfold Ex;rfl, ?_⟩
    rw[ExL];refine⟨_,_,rfl,by unfold Ex;exact pd9 hM hzo, ?_⟩
    rw[ExL];refine⟨_,_,rfl,by unfold Ex;rfl, ?_⟩
    rw[ExL];refine⟨_,_,rfl,by unfold Ex;exact⟨E,_,_,rfl,⟨by omega,hEl⟩,hE,rfl,rfl,rfl,by decide,by rw[gf1,mp4,q3],fun h=>(by cases h),ex4.2 rfl⟩, ?_⟩
    rw[ExL];refine⟨_,_,rfl,by unfold Ex;exact⟨L,_,_,rfl,⟨by omega,hLl⟩,hL,rfl,rfl,rfl,by decide,by rw[gf1,mp4,q4],fun h=>(by cases h),ex4.2 rfl⟩, ?_⟩
    rw[ExL]
   obtain⟨Z',Zp',P⟩:=a64 (a:= .tup [.fz true (pF q), .x (.int .i64 0)]) (w:= .tuple #[.pointer (some ⟨F,0,none⟩), .int .i64 0]) i hp (by
    rw[Vm.VR]
    exact⟨[_,_],rfl, .cons (by rw[Vm.VR];exact hrd) (.cons (by rw[Vm.VR]) .nil)⟩)
   exact⟨_,h',[],[],Z',Zp',e,P⟩
  ·rename_i hn
   cases he
   obtain⟨h',hp,e⟩:=e84 q hn h
   obtain⟨Z',Zp',P⟩:=a64 (a:= .tup [.x (.pointer none), .x (.int .i64 1)]) (w:= .tuple #[.pointer none, .int .i64 1]) i hp (by
    rw[Vm.VR]
    exact⟨[_,_],rfl, .cons (by rw[Vm.VR]) (.cons (by rw[Vm.VR]) .nil)⟩)
   exact⟨_,h',[],[],Z',Zp',e,P⟩
 ·cases he
noncomputable def vP:FuncId→Option (List AV→Rts→Option VRes)
 |32=>some (pOne fun q a=> .bool (fok q a))
 |50=>some (pTwo fun q a b=> .int .i64 (fmul q a b))
 |49=>some (pTwo fun q a b=> .int .i64 (fadd q a b))
 |57=>some (pTwo fun q a b=> .int .i64 (fsub q a b))
 |42=>some (pOne fun q a=> .int .i64 (fneg q a))
 |63=>some (pOne fun q a=> .int .i64 (finv q a))
 |29=>some pNew
 |26=>some h90
 |_=>none
noncomputable def W:VW:=⟨T,vP,vH,vM,ct⟩
@[push_cast] theorem W_M(f:FuncId):W.M f=vM f:=rfl
@[push_cast] theorem W_H(f:FuncId):W.H f=vH f:=rfl
@[push_cast] theorem W_ct:W.ct=ct:=rfl
theorem lw2(f:FuncId)(p:List AV→Rts→Option VRes)(xs0:List AV)(C:Rts)(r:VRes)(hp:W.P f=some p)(he:p xs0 C=some r):VOK W.T f xs0 C r:=by
 have hp:vP f=some p:=hp
 show VOK T f xs0 C r
 unfold vP at hp
 split at hp
 ·cases hp;exact ka9 (f:=32) (fun a h F q p m ge mod E L om fm cm hn u=>qy4 u a) he
 ·cases hp;exact sg0 (f:=50) (fun a a' h F q p m ge mod E L om fm cm hn u=>lb9 hn u a a') he
 ·cases hp;exact sg0 (f:=49) (fun a a' h F q p m ge mod E L om fm cm hn u=>gl5 hn u (jj8 hn).1 a a') he
 ·cases hp;exact sg0 (f:=57) (fun a a' h F q p m ge mod E L om fm cm hn u=>eb1 hn u (jj8 hn).1 a a') he
 ·cases hp;exact ka9 (f:=42) (fun a h F q p m ge mod E L om fm cm hn u=>kb1 hn u (jj8 hn).1 a) he
 ·cases hp;exact ka9 (f:=63) (fun a h F q p m ge mod E L om fm cm hn u=>im8 hn u a) he
 ·cases hp;exact(fun _=>lo5 he) 29
 ·cases hp;exact(fun _=>x66 he) 26
 ·cases hp
section
variable {q:Int} [IsFld q] {b:Bool} {x y:Int}
@[push_cast] theorem ta8:o24 W 32 [.fz b (pF q), .x (.int .i64 x)] []=some (.x (.bool (fok q x)),[],[]):=(xr5 rfl).trans l79
@[push_cast] theorem gi0:o24 W 50 [.fz b (pF q), .x (.int .i64 x), .x (.int .i64 y)] []=some (.x (.int .i64 (fmul q x y)),[],[]):=(xr5 rfl).trans pu4
@[push_cast] theorem j43:o24 W 49 [.fz b (pF q), .x (.int .i64 x), .x (.int .i64 y)] []=some (.x (.int .i64 (fadd q x y)),[],[]):=(xr5 rfl).trans pu4
@[push_cast] theorem ze7:o24 W 57 [.fz b (pF q), .x (.int .i64 x), .x (.int .i64 y)] []=some (.x (.int .i64 (fsub q x y)),[],[]):=(xr5 rfl).trans pu4
@[push_cast] theorem e85:o24 W 42 [.fz b (pF q), .x (.int .i64 x)] []=some (.x (.int .i64 (fneg q x)),[],[]):=(xr5 rfl).trans l79
@[push_cast] theorem eb9:o24 W 63 [.fz b (pF q), .x (.int .i64 x)] []=some (.x (.int .i64 (finv q x)),[],[]):=(xr5 rfl).trans l79
theorem gh1: ∃d,fldN q.toNat=some d:=by
 obtain⟨p,m,g,mod,hn⟩:= ‹IsFld q›.ok
 exact⟨_,hn⟩
@[push_cast] theorem ev5:o24 W 29 [.x (.int .i64 q)] []=some (.tup [.fz true (pF q), .x (.int .i64 0)],[],[]):=(xr5 rfl).trans (by obtain⟨d,hd⟩:=gh1 (q:=q);unfold pNew;simp only[hd])
end
theorem ug9{q:Int}(hn:fldN q.toNat=none):o24 W 29 [.x (.int .i64 q)] []=some (.tup [.x (.pointer none), .x (.int .i64 1)],[],[]):=(xr5 rfl).trans (by unfold pNew;simp only[hn])
theorem h18{b:Bool}{nl:Nat}{zs:List Int}(hz:zs.length≤1000000):o24 W 26 [.fz b (.sl nl 0 1 (ivs zs))] []=some (.own 0 [],[.sl (nlT zs) 3 1 (ivs zs)],[]):=(xr5 rfl).trans (ol3 hz)
end Go.Proofs.Ytppbpgmdmiajcaa
namespace Go.Alg
section
variable {K:Type} [FK K]
def axp(c:K)(u w:Nat→K):Nat→K:=fun i=>u i+c*w i
inductive Span (R:List (Nat→K)):(Nat→K)→Prop
 |zero:Span R (fun _=>0)
 |step {u r:Nat→K} (c:K):Span R u→r∈R→Span R (axp c u r)
theorem Span.mem{R:List (Nat→K)}{r:Nat→K}(h:r∈R):Span R r:=by
 have:=Span.step 1 Span.zero h
 have he:axp 1 (fun _=>0) r=r:=by funext i;show 0+1*r i=r i;rw[one_mul,zero_add]
 rwa [he]at this
theorem Span.axp{R:List (Nat→K)}{u w:Nat→K}(hu:Span R u)(hw:Span R w)(c:K):Span R (axp c u w):=by
 induction hw generalizing c with
 |zero=>
  have he:Alg.axp c u (fun _=>0)=u:=by funext i;show u i+c*0=u i;rw[mul_zero,FK.add_zero]
  rw[he];exact hu
 | @step w r d _ hr ih=>
   have he:Alg.axp c u (Alg.axp d w r)=Alg.axp (c*d) (Alg.axp c u w) r:=by
    funext i;show u i+c*(w i+d*r i)=u i+c*w i+c*d*r i
    rw[FK.mul_add,FK.mul_assoc,FK.add_assoc]
   rw[he];exact .step _ (ih c) hr
theorem Span.smul{R:List (Nat→K)}{w:Nat→K}(hw:Span R w)(c:K):Span R (fun i=>c*w i):=by
 have:=Span.zero.axp hw c
 have he:Alg.axp c (fun _=>0) w=fun i=>c*w i:=by funext i;show 0+c*w i=_;rw[zero_add]
 rwa [he]at this
theorem Span.add{R:List (Nat→K)}{u w:Nat→K}(hu:Span R u)(hw:Span R w):Span R (fun i=>u i+w i):=by
 have:=hu.axp hw 1
 have he:Alg.axp 1 u w=fun i=>u i+w i:=by funext i;show u i+1*w i=_;rw[one_mul]
 rwa [he]at this
theorem Span.trans{R S:List (Nat→K)}(hRS: ∀r∈R,Span S r){w:Nat→K}(hw:Span R w):Span S w:=by
 induction hw with
 |zero=>exact .zero
 |step c _ hr ih=>exact ih.axp (hRS _ hr) c
theorem Span.mono{R S:List (Nat→K)}(h: ∀r∈R,r∈S){w:Nat→K}(hw:Span R w):Span S w:=hw.trans fun r hr=> .mem (h r hr)
theorem Span.sum{α:Type}{R:List (Nat→K)}{f:α→Nat→K}{g:α→K}: ∀{l:List α},(∀a∈l,Span R (f a))→Span R (fun k=>sumL l fun a=>g a*f a k)
 | [],_=> .zero
 |a::l,h=>by
  have:=((h a (by simp)).smul (g a)).add (Span.sum (g:=g) (l:=l) fun b hb=>h b (by simp[hb]))
  exact this
theorem Span.lin{R:List (Nat→K)}{w:Nat→K}(hw:Span R w){P:(Nat→K)→Prop}(h0:P fun _=>0)(hs: ∀u r c,P u→P r→P (Alg.axp c u r))(hr: ∀r∈R,P r):P w:=by
 induction hw with
 |zero=>exact h0
 |step c _ hm ih=>exact hs _ _ c ih (hr _ hm)
structure Rref (n:Nat) (A:List (Nat×(Nat→K))):Prop where
 up:A.Pairwise fun a b=>a.1<b.1
 one: ∀a∈A,a.2 a.1=1
 before: ∀a∈A,∀k,k<a.1→a.2 k=0
 lt: ∀a∈A,a.1<n
 out: ∀a∈A,∀k,n≤k→a.2 k=0
 zero: ∀a∈A,∀b∈A,a.1≠b.1→a.2 b.1=0
def rowsOf(A:List (Nat×(Nat→K))):List (Nat→K):=A.map Prod.snd
section
variable {n:Nat} {A B:List (Nat×(Nat→K))}
theorem Rref.nodup(h:Rref n A):A.Pairwise fun a b=>a.1≠b.1:=h.up.imp fun h=>by omega
theorem kr9{f:Nat×(Nat→K)→K}{c:Nat×(Nat→K)}: ∀{A:List (Nat×(Nat→K))},(A.Pairwise fun a b=>a.1≠b.1)→c∈A→(∀a∈A,a.1≠c.1→f a=0)→sumL A f=f c
 | [],_,h,_=>by cases h
 |a::A,hn,h,h0=>by
  rw[dk1]at hn
  rw[gb6]
  rcases r04.1 h with rfl|h
  ·rw[tx6 fun b hb=>h0 b (by simp[hb]) fun e=>hn.1 b hb e.symm,FK.add_zero]
  ·rw[h0 a (by simp) (hn.1 c h),zero_add]
   exact kr9 hn.2 h fun b hb=>h0 b (by simp[hb])
theorem Rref.told(h:Rref n A){w:Nat→K}(hw:Span (rowsOf A) w): ∀k,w k=sumL A fun a=>w a.1*a.2 k:=by
 refine hw.lin (P:=fun w=> ∀k,w k=sumL A fun a=>w a.1*a.2 k) (fun k=> ?_) (fun u r c hu hr k=> ?_) (fun r hr k=> ?_)
 ·exact(tx6 fun a _=>by rw[zero_mul]).symm
 ·show u k+c*r k=sumL A fun a=>(u a.1+c*r a.1)*a.2 k
  rw[hu k,hr k,←ro9,←jl9]
  refine ox7 fun a _=> ?_
  rw[add_mul,FK.mul_assoc]
 ·obtain⟨b,hb,rfl⟩:=vf1.1 hr
  rw[kr9 (c:=b) h.nodup hb fun a ha hne=>by rw[h.zero b hb a ha fun e=>hne e.symm,zero_mul],h.one b hb,one_mul]
theorem Rref.lead(h:Rref n A){w:Nat→K}(hw:Span (rowsOf A) w){p:Nat}(hp:w p≠0)(hb: ∀k,k<p→w k=0): ∃a∈A,a.1=p:=by
 refine ly6 fun hno=>hp ?_
 rw[h.told hw p]
 refine tx6 fun a ha=> ?_
 by_cases h1:a.1<p
 ·rw[hb _ h1,zero_mul]
 ·have h2:a.1≠p:=fun e=>hno ⟨a,ha,e⟩
  rw[h.before a ha p (by omega),mul_zero]
theorem wi1: ∀{l l':List Nat},l.Pairwise (· < ·)→l'.Pairwise (· < ·)→(∀x,x∈l↔x∈l')→l=l'
 | [],[],_,_,_=>rfl
 | [],b::l',_,_,h=>by have:=(h b).2 (by simp);cases this
 |a::l,[],_,_,h=>by have:=(h a).1 (by simp);cases this
 |a::l,b::l',h1,h2,h=>by
  rw[dk1]at h1 h2
  have hab:a=b:=by
   have ha:=(h a).1 (by simp)
   have hb:=(h b).2 (by simp)
   rcases r04.1 ha with e|ha
   ·exact e
   ·rcases r04.1 hb with e|hb
    ·exact e.symm
    ·have:=h2.1 a ha;have:=h1.1 b hb;omega
  subst hab
  congr 1
  refine wi1 h1.2 h2.2 fun x=>⟨fun hx=> ?_,fun hx=> ?_⟩
  ·rcases r04.1 ((h x).1 (by simp[hx]))with rfl|h
   ·exact absurd (h1.1 x hx) (a36 _)
   ·exact h
  ·rcases r04.1 ((h x).2 (by simp[hx]))with rfl|h
   ·exact absurd (h2.1 x hx) (a36 _)
   ·exact h
theorem Rref.uniq(h:Rref n A)(g:Rref n B)(hs: ∀w,Span (rowsOf A) w↔Span (rowsOf B) w):A=B:=by
 have hp: ∀{A B:List (Nat×(Nat→K))},Rref n A→Rref n B→(∀w,Span (rowsOf A) w→Span (rowsOf B) w)→ ∀a∈A,∃b∈B,b.1=a.1:=by
  intro A B h g hs a ha
  exact g.lead (hs _ (.mem (vf1.2 ⟨a,ha,rfl⟩))) (by rw[h.one a ha];exact ki7) (h.before a ha)
 have hsame:A.map Prod.fst=B.map Prod.fst:=by
  refine wi1 (o71.2 h.up) (o71.2 g.up) fun x=>⟨fun hx=> ?_,fun hx=> ?_⟩
  ·obtain⟨a,ha,rfl⟩:=vf1.1 hx
   obtain⟨b,hb,e⟩:=hp h g (fun w=>(hs w).1) a ha
   exact vf1.2 ⟨b,hb,e⟩
  ·obtain⟨a,ha,rfl⟩:=vf1.1 hx
   obtain⟨b,hb,e⟩:=hp g h (fun w=>(hs w).2) a ha
   exact vf1.2 ⟨b,hb,e⟩
 have hl:A.length=B.length:=by have:=congrArg List.length hsame;simpa using this
 refine List.ext_getElem hl fun i h1 h2=> ?_
 have e1:A[i].1=B[i].1:=by
  have:=congrArg (fun l=>l[i]?) hsame
  simpa [us5,wu3 h1,wu3 h2]using this
 have e2:A[i].2=B[i].2:=by
  have hA:=ws6 h1
  have hB:=ws6 h2
  have hw:Span (rowsOf B) A[i].2:=(hs _).1 (.mem (vf1.2 ⟨_,hA,rfl⟩))
  funext k
  rw[g.told hw k,kr9 (c:=B[i]) g.nodup hB fun b hb hne=> ?_,←e1,h.one _ hA,one_mul]
  --other beginnings are the first's too
  obtain⟨a,ha,e⟩:=hp g h (fun w=>(hs w).2) b hb
  rw[←e,h.zero _ hA a ha (by rw[e,e1];exact fun x=>hne x.symm),zero_mul]
 exact Prod.ext e1 e2
def wf(l:List K):Nat→K:=fun i=>l.getD i 0
theorem ez8{l:List K}{k:Nat}(h:l.length≤k):wf l k=0:=by unfold wf;rw[os6,pb5 h];rfl
theorem i67{l:List K}{k:Nat}(h:k<l.length):wf l k=l[k]:=by unfold wf;rw[os6,wu3 h];rfl
theorem ou8{l l':List K}(hl:l.length=l'.length)(h:wf l=wf l'):l=l':=by
 refine List.ext_getElem hl fun i h1 h2=> ?_
 rw[←i67 h1,←i67 h2,h]
def dx9(c:K)(r o:List K):List K:=List.zipWith (fun x y=>x-c*y) r o
theorem wx1{c:K}{r o:List K}(h:r.length=o.length):(dx9 c r o).length=r.length:=by simp[dx9,h]
theorem ub5{c:K}{r o:List K}(h:r.length=o.length):wf (dx9 c r o)=axp (-c) (wf r) (wf o):=by
 funext k
 show _=wf r k+ -c*wf o k
 by_cases hk:k<r.length
 ·have hk2:k<(dx9 c r o).length:=by rw[wx1 h];exact hk
  rw[i67 hk2,i67 hk,i67 (h▸hk),neg_mul,←sub_eq]
  simp only[dx9,List.getElem_zipWith]
 ·rw[ez8 (by rw[wx1 h];omega),ez8 (by omega),ez8 (by omega),mul_zero,FK.add_zero]
def xf5(c:K)(r:List K):List K:=r.map fun x=>x*c
theorem mc3(c:K)(r:List K):wf (xf5 c r)=fun k=>c*wf r k:=by
 funext k
 unfold wf xf5
 rw[os6,os6,us5]
 cases r[k]? with
 |none=>exact(mul_zero c).symm
 |some x=>exact FK.mul_comm x c
end
end
end Go.Alg
namespace Go.Alg
section
variable {α:Type}
def insR(p:Nat)(r:α):List (Nat×α)→List (Nat×α)
 | []=>[(p,r)]
 |a::A=>if a.1<p then a::insR p r A else(p,r)::a::A
theorem j41{p:Nat}{r:α}{x:Nat×α}: ∀{A:List (Nat×α)},x∈insR p r A↔x=(p,r)∨x∈A
 | []=>by simp[insR]
 |a::A=>by
  rw[insR]
  split
  ·rw[r04,j41 (A:=A),r04]
   constructor
   ·rintro(h|h|h)
    ·exact .inr (.inl h)
    ·exact .inl h
    ·exact .inr (.inr h)
   ·rintro(h|h|h)
    ·exact .inr (.inl h)
    ·exact .inl h
    ·exact .inr (.inr h)
  ·rw[r04]
theorem wu8{p:Nat}{r:α}: ∀{A:List (Nat×α)},A.Pairwise (fun a b=>a.1<b.1)→(∀a∈A,a.1≠p)→(insR p r A).Pairwise fun a b=>a.1<b.1
 | [],_,_=>by simp[insR]
 |a::A,h,hne=>by
  rw[dk1]at h
  have ha:=hne a (by simp)
  rw[insR]
  split
  ·rename_i hlt
   rw[dk1]
   refine⟨fun x hx=> ?_,wu8 h.2 fun b hb=>hne b (by simp[hb])⟩
   rcases j41.1 hx with rfl|hx
   ·exact hlt
   ·exact h.1 x hx
  ·rename_i hlt
   rw[dk1]
   refine⟨fun x hx=> ?_,dk1.2 h⟩
   rcases r04.1 hx with rfl|hx
   ·show p<x.1;omega
   ·have:=h.1 x hx;show p<x.1;omega
end
section
variable {K:Type} [FK K]
def uo6:List (Nat×List K)→List K→List K
 | [],r=>r
 |a::A,r=>uo6 A (dx9 (wf r a.1) r a.2)
def lv6:List K→Nat
 | []=>0
 |a::l=>if a=0 then lv6 l+1 else 0
def vp4(A:List (Nat×List K))(m:List K):List (Nat×List K):=
 if lv6 (uo6 A m)=(uo6 A m).length then A else
  insR (lv6 (uo6 A m)) (xf5 (FK.inv (wf (uo6 A m) (lv6 (uo6 A m)))) (uo6 A m))
   (A.map fun a=>(a.1,dx9 (wf a.2 (lv6 (uo6 A m))) a.2 (xf5 (FK.inv (wf (uo6 A m) (lv6 (uo6 A m)))) (uo6 A m))))
def redR(M:List (List K)):List (Nat×List K):=M.foldl vp4 []
def toF(A:List (Nat×List K)):List (Nat×(Nat→K)):=A.map fun a=>(a.1,wf a.2)
theorem sb2: ∀l:List K,lv6 l≤l.length
 | []=>jj6 _
 |a::l=>by
  have:=sb2 l
  rw[lv6,q90]
  split<;>omega
theorem ga3: ∀(l:List K) (k:Nat),k<lv6 l→wf l k=0
 | [],k,h=>by cases h
 |a::l,k,h=>by
  rw[lv6]at h
  split at h
  ·rename_i h0
   cases k with
   |zero=>rw[i67 (by simp)];exact h0
   |succ k=>exact ga3 l k (by omega)
  ·cases h
theorem aa0: ∀{l:List K},lv6 l<l.length→wf l (lv6 l)≠0
 | [],h=>by cases h
 |a::l,h=>by
  rw[lv6]at h⊢
  split at h
  ·rename_i h0
   rw[if_pos h0]
   exact aa0 (l:=l) (by simpa using h)
  ·rename_i h0
   rw[if_neg h0]
   exact h0
theorem ea8{l:List K}(h:lv6 l=l.length):wf l=fun _=>0:=by
 funext k
 by_cases hk:k<l.length
 ·exact ga3 l k (by omega)
 ·exact ez8 (by omega)
section
variable {n:Nat} {A:List (Nat×List K)}
theorem m12(hl: ∀a∈A,a.2.length=n): ∀(B:List (Nat×List K)) (r:List K),(∀b∈B,b∈A)→r.length=n→(uo6 B r).length=n
 | [],r,_,h=>h
 |b::B,r,hB,h=>m12 hl B _ (fun b hb=>hB b (by simp[hb])) (by rw[wx1 (by rw[h,hl b (hB b (by simp))]),h])
theorem rq0{c:K}{r o:List K}(h:r.length=o.length)(k:Nat):wf (dx9 c r o) k=wf r k-c*wf o k:=by
 rw[ub5 h]
 show wf r k+ -c*wf o k=_
 rw[neg_mul];rfl
theorem ez0(hr:Rref n (toF A))(hl: ∀a∈A,a.2.length=n): ∀(B:List (Nat×List K)) (r:List K),(∀b∈B,b∈A)→r.length=n→ ∀a∈A,(a∈B∨wf r a.1=0)→wf (uo6 B r) a.1=0
 | [],r,_,_,a,ha,h=>by
   rcases h with h|h
   ·cases h
   ·exact h
 |b::B,r,hB,hrl,a,ha,h=>by
  have hbA:=hB b (by simp)
  have hlen:r.length=b.2.length:=by rw[hrl,hl b hbA]
  refine ez0 hr hl B _ (fun b hb=>hB b (by simp[hb])) (by rw[wx1 hlen,hrl]) a ha ?_
  rw[rq0 hlen]
  have hone:wf b.2 b.1=1:=hr.one (b.1,wf b.2) (vf1.2 ⟨b,hbA,rfl⟩)
  by_cases he:a.1=b.1
  ·exact .inr (by rw[he,hone,FK.mul_one,sub_self])
  ·have hz:wf b.2 a.1=0:=hr.zero (b.1,wf b.2) (vf1.2 ⟨b,hbA,rfl⟩) (a.1,wf a.2) (vf1.2 ⟨a,ha,rfl⟩) fun e=>he e.symm
   rcases h with h|h
   ·rcases r04.1 h with h|h
    ·exact absurd (by rw[h]) he
    ·exact .inl h
   ·exact .inr (by rw[hz,mul_zero,sub_zero,h])
theorem e72(hl: ∀a∈A,a.2.length=n): ∀(B:List (Nat×List K)) (r:List K),(∀b∈B,b∈A)→r.length=n→Span (wf (uo6 B r)::rowsOf (toF A)) (wf r)∧Span (wf r::rowsOf (toF A)) (wf (uo6 B r))
 | [],r,_,_=>⟨.mem (by simp[uo6]), .mem (by simp[uo6])⟩
 |b::B,r,hB,hrl=>by
  have hbA:=hB b (by simp)
  have hlen:r.length=b.2.length:=by rw[hrl,hl b hbA]
  obtain⟨k1,k2⟩:=e72 hl B (dx9 (wf r b.1) r b.2) (fun b hb=>hB b (by simp[hb])) (by rw[wx1 hlen,hrl])
  have hmb:wf b.2∈rowsOf (toF A):=by
   unfold rowsOf toF;rw[uk6];exact vf1.2 ⟨b,hbA,rfl⟩
  refine⟨?_, ?_⟩
  ·have h1:=k1.axp (.mem (iz7 _ hmb)) (wf r b.1)
   have he:axp (wf r b.1) (wf (dx9 (wf r b.1) r b.2)) (wf b.2)=wf r:=by
    funext k
    show wf (dx9 (wf r b.1) r b.2) k+wf r b.1*wf b.2 k=_
    rw[rq0 hlen,fj9]
   rw[he]at h1
   exact h1
  ·refine k2.trans fun x hx=> ?_
   rcases r04.1 hx with rfl|hx
   ·rw[ub5 hlen]
    exact(Span.mem (by simp)).axp (.mem (iz7 _ hmb)) _
   ·exact .mem (iz7 _ hx)
theorem xe6{x:Nat×(Nat→K)}:x∈toF A↔ ∃a∈A,x=(a.1,wf a.2):=by
 unfold toF
 rw[vf1]
 exact⟨fun⟨a,h1,h2⟩=>⟨a,h1,h2.symm⟩,fun⟨a,h1,h2⟩=>⟨a,h1,h2.symm⟩⟩
theorem he1{x:Nat→K}:x∈rowsOf (toF A)↔ ∃a∈A,x=wf a.2:=by
 unfold rowsOf toF
 rw[uk6,vf1]
 exact⟨fun⟨a,h1,h2⟩=>⟨a,h1,h2.symm⟩,fun⟨a,h1,h2⟩=>⟨a,h1,h2.symm⟩⟩
theorem cj6(hr:Rref n (toF A))(hl: ∀a∈A,a.2.length=n){m:List K}(hm:m.length=n):
 Rref n (toF (vp4 A m))∧(∀a∈vp4 A m,a.2.length=n)∧(∀a∈A,Span (rowsOf (toF (vp4 A m))) (wf a.2))∧Span (rowsOf (toF (vp4 A m))) (wf m)∧ ∀a∈vp4 A m,Span (wf m::rowsOf (toF A)) (wf a.2):=by
 have hrl:=m12 hl A m (fun _ h=>h) hm
 have hz:=ez0 hr hl A m (fun _ h=>h) hm
 obtain⟨s1,s2⟩:=e72 hl A m (fun _ h=>h) hm
 unfold vp4
 generalize uo6 A m=r at hrl hz s1 s2⊢
 by_cases hfull:lv6 r=r.length
 ·rw[if_pos hfull]
  refine⟨hr,hl,fun a ha=> .mem (he1.2 ⟨a,ha,rfl⟩),s1.trans fun x hx=> ?_,fun a ha=> .mem (iz7 _ (he1.2 ⟨a,ha,rfl⟩))⟩
  rcases r04.1 hx with rfl|hx
  ·rw[ea8 hfull];exact .zero
  ·exact .mem hx
 ·rw[if_neg hfull]
  have hlt:lv6 r<r.length:=by have:=sb2 r;omega
  have hne:=aa0 hlt
  have hbef:=ga3 r
  generalize lv6 r=p at hlt hne hbef⊢
  have hsl:(xf5 (FK.inv (wf r p)) r).length=n:=by unfold xf5;rw[q11,hrl]
  have hsw:=mc3 (FK.inv (wf r p)) r
  generalize xf5 (FK.inv (wf r p)) r=s at hsl hsw⊢
  have hsk: ∀k,wf s k=FK.inv (wf r p)*wf r k:=fun k=>congrFun hsw k
  have hsp:wf s p=1:=by rw[hsk,inv_mul hne]
  have hsz: ∀k,wf r k=0→wf s k=0:=fun k h=>by rw[hsk,h,mul_zero]
  have hsA: ∀a∈A,wf s a.1=0:=fun a ha=>hsz _ (hz a ha (.inl ha))
  have hpA: ∀a∈A,a.1≠p:=fun a ha e=>by have:=hsA a ha;rw[e,hsp]at this;exact ki7 this
  have hA': ∀a∈A,∀k,wf (dx9 (wf a.2 p) a.2 s) k=wf a.2 k-wf a.2 p*wf s k:=fun a ha k=>rq0 (by rw[hl a ha,hsl]) k
  have hone: ∀a∈A,wf a.2 a.1=1:=fun a ha=>hr.one (a.1,wf a.2) (xe6.2 ⟨a,ha,rfl⟩)
  have hbefA: ∀a∈A,∀k,k<a.1→wf a.2 k=0:=fun a ha k hk=>hr.before (a.1,wf a.2) (xe6.2 ⟨a,ha,rfl⟩) k hk
  have hzA: ∀a∈A,∀b∈A,a.1≠b.1→wf a.2 b.1=0:=fun a ha b hb h=>hr.zero (a.1,wf a.2) (xe6.2 ⟨a,ha,rfl⟩) (b.1,wf b.2) (xe6.2 ⟨b,hb,rfl⟩) h
  have hltA: ∀a∈A,a.1<n:=fun a ha=>hr.lt (a.1,wf a.2) (xe6.2 ⟨a,ha,rfl⟩)
  have hmem: ∀{x:Nat×List K},x∈insR p s (A.map fun a=>(a.1,dx9 (wf a.2 p) a.2 s))→x=(p,s)∨ ∃a∈A,x=(a.1,dx9 (wf a.2 p) a.2 s):=fun{x} hx=>by
   rcases j41.1 hx with h|h
   ·exact .inl h
   ·obtain⟨a,ha,e⟩:=vf1.1 h
    exact .inr ⟨a,ha,e.symm⟩
  have hlen: ∀a∈insR p s (A.map fun a=>(a.1,dx9 (wf a.2 p) a.2 s)),a.2.length=n:=fun x hx=>by
   rcases hmem hx with rfl|⟨a,ha,rfl⟩
   ·exact hsl
   ·show(dx9 _ _ _).length=n
    rw[wx1 (by rw[hl a ha,hsl]),hl a ha]
  have hs_in:wf s∈rowsOf (toF (insR p s (A.map fun a=>(a.1,dx9 (wf a.2 p) a.2 s)))):=he1.2 ⟨(p,s),j41.2 (.inl rfl),rfl⟩
  have hs_old:Span (wf m::rowsOf (toF A)) (wf s):=by rw[hsw];exact s2.smul _
  refine⟨⟨?_, ?_, ?_, ?_, ?_, ?_⟩,hlen,fun a ha=> ?_, ?_,fun x hx=> ?_⟩
  ·unfold toF
   rw[o71]
   refine wu8 ?_ fun x hx=> ?_
   ·rw[o71]
    have:=hr.up
    unfold toF at this
    rw[o71]at this
    exact this
   ·obtain⟨a,ha,rfl⟩:=vf1.1 hx
    exact hpA a ha
  ·intro x hx
   obtain⟨y,hy,rfl⟩:=xe6.1 hx
   rcases hmem hy with rfl|⟨a,ha,rfl⟩
   ·exact hsp
   ·show wf (dx9 _ _ _) a.1=1
    rw[hA' a ha,hone a ha,hsA a ha,mul_zero,sub_zero]
  ·intro x hx k hk
   obtain⟨y,hy,rfl⟩:=xe6.1 hx
   rcases hmem hy with rfl|⟨a,ha,rfl⟩
   ·exact hsz _ (hbef k hk)
   ·show wf (dx9 _ _ _) k=0
    have hk:k<a.1:=hk
    rw[hA' a ha,hbefA a ha k hk]
    by_cases h1:p<a.1
    ·rw[hbefA a ha p h1,zero_mul,sub_self]
    ·have:k<p:=by omega
     rw[hsz _ (hbef k this),mul_zero,sub_self]
  ·intro x hx
   obtain⟨y,hy,rfl⟩:=xe6.1 hx
   rcases hmem hy with rfl|⟨a,ha,rfl⟩
   ·show p<n;omega
   ·exact hltA a ha
  ·intro x hx k hk
   obtain⟨y,hy,rfl⟩:=xe6.1 hx
   exact ez8 (by rw[hlen y hy];exact hk)
  ·intro x hx z hz' hne'
   obtain⟨y,hy,rfl⟩:=xe6.1 hx
   obtain⟨y',hy',rfl⟩:=xe6.1 hz'
   rcases hmem hy with rfl|⟨a,ha,rfl⟩
   ·rcases hmem hy' with rfl|⟨b,hb,rfl⟩
    ·exact absurd rfl hne'
    ·exact hsA b hb
   ·rcases hmem hy' with rfl|⟨b,hb,rfl⟩
    ·show wf (dx9 _ _ _) p=0
     rw[hA' a ha,hsp,FK.mul_one,sub_self]
    ·show wf (dx9 _ _ _) b.1=0
     rw[hA' a ha,hzA a ha b hb hne',hsA b hb,mul_zero,sub_self]
  ·have h1:Span (rowsOf (toF (insR p s (A.map fun a=>(a.1,dx9 (wf a.2 p) a.2 s))))) (wf (dx9 (wf a.2 p) a.2 s)):= .mem (he1.2 ⟨(a.1,dx9 (wf a.2 p) a.2 s),j41.2 (.inr (vf1.2 ⟨a,ha,rfl⟩)),rfl⟩)
   have h2:=h1.axp (.mem hs_in) (wf a.2 p)
   have he:axp (wf a.2 p) (wf (dx9 (wf a.2 p) a.2 s)) (wf s)=wf a.2:=by
    funext k
    show wf (dx9 (wf a.2 p) a.2 s) k+wf a.2 p*wf s k=_
    rw[hA' a ha,fj9]
   rw[he]at h2
   exact h2
  ·--what is left of m is a multiple of the new row;the others are spanned
   have hrs: ∀{R:List (Nat→K)},Span R (wf s)→Span R (wf r):=fun{R} h=>by
    have:=h.smul (wf r p)
    have he:(fun i=>wf r p*wf s i)=wf r:=by
     funext i
     rw[hsk,←FK.mul_assoc,FK.mul_inv _ hne,one_mul]
    rwa [he]at this
   refine s1.trans fun x hx=> ?_
   rcases r04.1 hx with rfl|hx
   ·exact hrs (.mem hs_in)
   ·obtain⟨a,ha,rfl⟩:=he1.1 hx
    have h1:Span (rowsOf (toF (insR p s (A.map fun a=>(a.1,dx9 (wf a.2 p) a.2 s))))) (wf (dx9 (wf a.2 p) a.2 s)):= .mem (he1.2 ⟨(a.1,dx9 (wf a.2 p) a.2 s),j41.2 (.inr (vf1.2 ⟨a,ha,rfl⟩)),rfl⟩)
    have h2:=h1.axp (.mem hs_in) (wf a.2 p)
    have he:axp (wf a.2 p) (wf (dx9 (wf a.2 p) a.2 s)) (wf s)=wf a.2:=by
     funext k
     show wf (dx9 (wf a.2 p) a.2 s) k+wf a.2 p*wf s k=_
     rw[hA' a ha,fj9]
    rw[he]at h2
    exact h2
  ·rcases hmem hx with rfl|⟨a,ha,rfl⟩
   ·exact hs_old
   ·show Span _ (wf (dx9 _ _ _))
    rw[ub5 (by rw[hl a ha,hsl])]
    exact(Span.mem (iz7 _ (he1.2 ⟨a,ha,rfl⟩))).axp hs_old _
end
theorem Rref.nil(n:Nat):Rref n (toF ([]:List (Nat×List K))):=⟨List.Pairwise.nil,fun a h=>(by cases h),fun a h=>(by cases h),fun a h=>(by cases h),fun a h=>(by cases h),fun a h=>(by cases h)⟩
theorem v73{n:Nat}: ∀(M:List (List K)) (A:List (Nat×List K)),(∀m∈M,m.length=n)→Rref n (toF A)→(∀a∈A,a.2.length=n)→
 Rref n (toF (M.foldl vp4 A))∧(∀a∈M.foldl vp4 A,a.2.length=n)∧(∀a∈A,Span (rowsOf (toF (M.foldl vp4 A))) (wf a.2))∧(∀m∈M,Span (rowsOf (toF (M.foldl vp4 A))) (wf m))∧ ∀a∈M.foldl vp4 A,Span (M.map wf++rowsOf (toF A)) (wf a.2)
 | [],A,_,hr,hl=>⟨hr,hl,fun a ha=> .mem (he1.2 ⟨a,ha,rfl⟩),fun m h=>(by cases h),fun a ha=> .mem (by simp only[gw5,m51];exact he1.2 ⟨a,ha,rfl⟩)⟩
 |m::M,A,hM,hr,hl=>by
  obtain⟨a1,a2,a3,a4,a5⟩:=cj6 hr hl (hM m (by simp))
  obtain⟨b1,b2,b3,b4,b5⟩:=v73 M (vp4 A m) (fun x hx=>hM x (by simp[hx])) a1 a2
  have hup: ∀{w:Nat→K},Span (rowsOf (toF (vp4 A m))) w→Span (rowsOf (toF (M.foldl vp4 (vp4 A m)))) w:=fun h=>h.trans fun x hx=>by
   obtain⟨a,ha,rfl⟩:=he1.1 hx
   exact b3 a ha
  refine⟨b1,b2,fun a ha=>hup (a3 a ha),fun x hx=> ?_,fun a ha=>(b5 a ha).trans fun x hx=> ?_⟩
  ·rcases r04.1 hx with rfl|hx
   ·exact hup a4
   ·exact b4 x hx
  ·rcases bk2.1 hx with hx|hx
   ·exact .mem (by simp[hx])
   ·obtain⟨y,hy,rfl⟩:=he1.1 hx
    refine(a5 y hy).mono fun z hz=> ?_
    rcases r04.1 hz with rfl|hz
    ·simp
    ·simp[hz]
theorem bi2{n:Nat}{M:List (List K)}(hM: ∀m∈M,m.length=n):Rref n (toF (redR M))∧(∀a∈redR M,a.2.length=n)∧ ∀w,Span (rowsOf (toF (redR M))) w↔Span (M.map wf) w:=by
 obtain⟨b1,b2,b3,b4,b5⟩:=v73 M [] hM (.nil n) (fun a h=>by cases h)
 refine⟨b1,b2,fun w=>⟨fun h=>h.trans fun x hx=> ?_,fun h=>h.trans fun x hx=> ?_⟩⟩
 ·obtain⟨a,ha,rfl⟩:=he1.1 hx
  have:=b5 a ha
  rwa [show rowsOf (toF ([]:List (Nat×List K)))=[]from rfl,nw0]at this
 ·obtain⟨m,hm,rfl⟩:=vf1.1 hx
  exact b4 m hm
theorem wf_set{x:List K}{i:Nat}{v:K}(hi:i<x.length)(k:Nat):wf (x.set i v) k=if k=i then v else wf x k:=by
 unfold wf
 rw[os6,os6,gy2]
 by_cases h:i=k
 ·subst h;rw[if_pos rfl,if_pos hi,if_pos rfl];rfl
 ·rw[if_neg h,if_neg fun e=>h e.symm]
end
end Go.Alg
namespace Go.Alg
section
variable {α:Type} {M:List (List α)} {P:List Nat}
def nth{α:Type}(M:List (List α))(k:Nat):List α:=M.getD k []
theorem ua4{α:Type}{M:List (List α)}{k:Nat}(h:k<M.length):nth M k=M[k]:=by unfold nth;rw[os6,wu3 h];rfl
theorem xr8{α:Type}{M:List (List α)}{k:Nat}{r:List α}(h:M[k]? =some r):nth M k=r:=by unfold nth;rw[os6,h];rfl
def outP(M:List (List α))(P:List Nat):List (Nat×List α):=P.zip (M.take P.length)
theorem k91(h:P.length≤M.length){a:Nat×List α}:a∈outP M P↔ ∃i,P[i]? =some a.1∧i<M.length∧a.2=nth M i:=by
 unfold outP
 constructor
 ·intro ha
  obtain⟨i,hi,rfl⟩:=zd4 ha
  rw[List.length_zip,vb8]at hi
  refine⟨i, ?_,by omega, ?_⟩
  ·rw[List.getElem_zip];exact wu3 (by omega)
  ·rw[List.getElem_zip,ua4 (by omega)];exact List.getElem_take
 ·rintro⟨i,h1,h2,h3⟩
  obtain⟨hi,he⟩:=ck5.1 h1
  have hl:i<(P.zip (M.take P.length)).length:=by rw[List.length_zip,vb8];omega
  have:(P.zip (M.take P.length))[i]=a:=by
   rw[List.getElem_zip]
   refine Prod.ext he ?_
   show(M.take P.length)[i]'_=a.2
   rw[h3,ua4 h2,List.getElem_take]
  rw[←this];exact ws6 hl
theorem ua6(h:P.length≤M.length):(outP M P).map Prod.fst=P:=List.map_fst_zip (by rw[vb8];omega)
theorem hn3(h:P.length≤M.length):(outP M P).map Prod.snd=M.take P.length:=List.map_snd_zip (by rw[vb8];omega)
end
section
variable {K:Type} [FK K]
theorem tj8{M:List (List K)}{x:Nat→K}:x∈M.map wf↔ ∃k,k<M.length∧x=wf (nth M k):=by
 rw[vf1]
 constructor
 ·rintro⟨r,hr,rfl⟩
  obtain⟨k,hk,rfl⟩:=zd4 hr
  exact⟨k,hk,by rw[ua4 hk]⟩
 ·rintro⟨k,hk,rfl⟩
  exact⟨M[k],ws6 hk,by rw[ua4 hk]⟩
theorem j42{M:List (List K)}{k:Nat}(h:k<M.length):Span (M.map wf) (wf (nth M k)):= .mem (tj8.2 ⟨k,h,rfl⟩)
structure RedI (n:Nat) (M0 M:List (List K)) (P:List Nat) (c:Nat):Prop where
 len:M.length=M0.length
 row: ∀r∈M,r.length=n
 pl:P.length≤M.length
 up:P.Pairwise (· < ·)
 lt: ∀p∈P,p<c
 cn:c≤n
 one: ∀i p,P[i]? =some p→ ∀k,k<M.length→wf (nth M k) p=if k=i then 1 else 0
 before: ∀i p,P[i]? =some p→ ∀j,j<p→wf (nth M i) j=0
 low: ∀k,P.length≤k→k<M.length→ ∀j,j<c→wf (nth M k) j=0
 span: ∀w,Span (M.map wf) w↔Span (M0.map wf) w
section
variable {n c:Nat} {M0 M:List (List K)} {P:List Nat}
theorem RedI.start(h: ∀r∈M0,r.length=n):RedI n M0 M0 [] 0:=
 ⟨rfl,h,ms7 _,List.Pairwise.nil,fun p h=>(by cases h),ms7 _,fun i p h=>(by cases h),fun i p h=>(by cases h),fun k _ _ j h=>(by cases h),fun _=>Iff.rfl⟩
theorem RedI.skip(h:RedI n M0 M P c)(hc:c<n)(h0: ∀k,P.length≤k→k<M.length→wf (nth M k) c=0):RedI n M0 M P (c+1):=
 ⟨h.len,h.row,h.pl,h.up,fun p hp=>by have:=h.lt p hp;omega,hc,h.one,h.before,fun k h1 h2 j hj=>by
   by_cases he:j=c
   ·rw[he];exact h0 k h1 h2
   ·exact h.low k h1 h2 j (by omega),h.span⟩
theorem RedI.len_nth(h:RedI n M0 M P c){k:Nat}(hk:k<M.length):(nth M k).length=n:=by rw[ua4 hk];exact h.row _ (ws6 hk)
theorem RedI.turn(h:RedI n M0 M P c)(hc:c<n){i:Nat}(hi:P.length≤i)(hi2:i<M.length)(hne:wf (nth M i) c≠0){N:List (List K)}(hNl:N.length=M.length)(hNr: ∀r∈N,r.length=n)
 (hat:wf (nth N P.length)=fun k=>FK.inv (wf (nth M i) c)*wf (nth M i) k)
 (hoth: ∀k,k<M.length→k≠P.length→wf (nth N k)=axp (-(wf (nth M (if k=i then P.length else k)) c)) (wf (nth M (if k=i then P.length else k))) (wf (nth N P.length))):RedI n M0 N (P++[c]) (c+1):=by
 obtain⟨s,hs⟩: ∃s,wf (nth N P.length)=s:=⟨_,rfl⟩
 rw[hs]at hat hoth
 have hsk: ∀k,s k=FK.inv (wf (nth M i) c)*wf (nth M i) k:=fun k=>by rw[hat]
 have hsc:s c=1:=by rw[hsk,inv_mul hne]
 have hslow: ∀j,j<c→s j=0:=fun j hj=>by rw[hsk,h.low i hi hi2 j hj,mul_zero]
 --the row that is taken from,for each k
 have hsrc: ∀k,k<M.length→k≠P.length→(if k=i then P.length else k)<M.length:=fun k hk _=>by split<;>omega
 have hN: ∀k,k<M.length→k≠P.length→ ∀j,wf (nth N k) j=wf (nth M (if k=i then P.length else k)) j-wf (nth M (if k=i then P.length else k)) c*s j:=fun k hk hne' j=>by
  rw[hoth k hk hne'];show _+ -_*s j=_;rw[neg_mul];rfl
 have hpi: ∀j p,P[j]? =some p→j<P.length:=fun j p hp=>(ck5.1 hp).1
 have hpl: ∀j p,P[j]? =some p→p<c:=fun j p hp=>h.lt p (vf6 hp)
 have hlt:P.length<M.length:=by omega
 have hget: ∀{j p},(P++[c])[j]? =some p→(j<P.length∧P[j]? =some p)∨(j=P.length∧p=c):=fun{j p} hp=>by
  by_cases hj:j<P.length
  ·rw[bu4 hj]at hp;exact .inl ⟨hj,hp⟩
  ·have:=(ck5.1 hp).1
   rw[j82,mj8]at this
   obtain rfl:j=P.length:=by omega
   rw[lp1 (jj6 _),ob6]at hp
   exact .inr ⟨rfl,by simpa using hp.symm⟩
 refine⟨by rw[hNl,h.len],hNr,by rw[j82,mj8,hNl];omega, ?_,fun p hp=> ?_,hc,fun j p hp k hk=> ?_,fun j p hp x hx=> ?_,fun k h1 h2 j hj=> ?_,fun w=> ?_⟩
 ·rw[List.pairwise_append]
  refine⟨h.up,by simp,fun a ha b hb=> ?_⟩
  rw[q05.1 hb];exact h.lt a ha
 ·rcases bk2.1 hp with hp|hp
  ·have:=h.lt p hp;omega
  ·rw[q05.1 hp];omega
 ·rw[hNl]at hk
  rcases hget hp with⟨hj,hp⟩|⟨rfl,rfl⟩
  ·have hsp:s p=0:=hslow p (hpl j p hp)
   by_cases hkP:k=P.length
   ·rw[hkP,hs,hsp,if_neg (by omega)]
   ·rw[hN k hk hkP,hsp,mul_zero,sub_zero,h.one j p hp _ (hsrc k hk hkP)]
    by_cases hki:k=i
    ·rw[if_pos hki,if_neg (by omega),if_neg (by omega)]
    ·rw[if_neg hki]
  ·by_cases hkP:k=P.length
   ·rw[hkP,hs,hsc,if_pos rfl]
   ·rw[hN k hk hkP,hsc,FK.mul_one,sub_self,if_neg hkP]
 ·rcases hget hp with⟨hj,hp⟩|⟨rfl,rfl⟩
  ·rw[hN j (by omega) (by omega),hslow x (by have:=hpl j p hp;omega),mul_zero,sub_zero,if_neg (by omega),h.before j p hp x hx]
  ·rw[hs];exact hslow x hx
 ·rw[j82,mj8]at h1
  rw[hNl]at h2
  have hsrc2:P.length≤(if k=i then P.length else k):=by split<;>omega
  rw[hN k h2 (by omega)]
  by_cases he:j=c
  ·rw[he,hsc,FK.mul_one,sub_self]
  ·rw[h.low _ hsrc2 (hsrc k h2 (by omega)) j (by omega),hslow j (by omega),mul_zero,sub_zero]
 ·rw[←h.span w]
  --s is a multiple of a row,and the row one of s
  have hs1:Span (M.map wf) s:=by rw[hat];exact(j42 hi2).smul _
  have hs2:Span (N.map wf) s:=by rw[←hs];exact j42 (by omega)
  have hmi:wf (nth M i)=fun k=>wf (nth M i) c*s k:=by
   funext k
   rw[hsk,←FK.mul_assoc,FK.mul_inv _ hne,one_mul]
  constructor
  ·refine fun hw=>hw.trans fun x hx=> ?_
   obtain⟨k,hk,rfl⟩:=tj8.1 hx
   rw[hNl]at hk
   by_cases hkP:k=P.length
   ·rw[hkP,hs];exact hs1
   ·rw[hoth k hk hkP]
    exact(j42 (hsrc k hk hkP)).axp hs1 _
  ·refine fun hw=>hw.trans fun x hx=> ?_
   obtain⟨k,hk,rfl⟩:=tj8.1 hx
   have back: ∀j,j<M.length→j≠P.length→Span (N.map wf) (wf (nth M (if j=i then P.length else j))):=fun j hj hjP=>by
    have h1:=(j42 (M:=N) (k:=j) (by omega)).axp hs2 (wf (nth M (if j=i then P.length else j)) c)
    have he:axp (wf (nth M (if j=i then P.length else j)) c) (wf (nth N j)) s=wf (nth M (if j=i then P.length else j)):=by
     funext x
     show wf (nth N j) x+_=_
     rw[hN j hj hjP,fj9]
    rwa [he]at h1
   by_cases hki:k=i
   ·rw[hki,hmi];exact hs2.smul _
   ·by_cases hkP:k=P.length
    ·have:=back i hi2 (by omega)
     rw[if_pos rfl]at this
     rw[hkP];exact this
    ·have:=back k hk hkP
     rwa [if_neg hki]at this
theorem RedI.form(h:RedI n M0 M P c):Rref n (toF (outP M P)):=by
 have hm: ∀{x},x∈toF (outP M P)→ ∃i p,P[i]? =some p∧i<M.length∧x=(p,wf (nth M i)):=fun{x} hx=>by
  obtain⟨a,ha,rfl⟩:=xe6.1 hx
  obtain⟨i,h1,h2,h3⟩:=(k91 h.pl).1 ha
  exact⟨i,a.1,h1,h2,by rw[h3]⟩
 refine⟨?_,fun x hx=> ?_,fun x hx k hk=> ?_,fun x hx=> ?_,fun x hx k hk=> ?_,fun x hx y hy hne=> ?_⟩
 ·unfold toF outP
  rw[o71]
  have h1:(P.zip (M.take P.length)).map Prod.fst=P:=List.map_fst_zip (by rw[vb8];have:=h.pl;omega)
  have h2:=h.up
  rw[←h1,o71]at h2
  exact h2
 ·obtain⟨i,p,h1,h2,rfl⟩:=hm hx
  show wf (nth M i) p=1
  rw[h.one i p h1 i h2,if_pos rfl]
 ·obtain⟨i,p,h1,h2,rfl⟩:=hm hx
  exact h.before i p h1 k hk
 ·obtain⟨i,p,h1,h2,rfl⟩:=hm hx
  have:=h.lt p (vf6 h1)
  have:=h.cn
  show p<n;omega
 ·obtain⟨i,p,h1,h2,rfl⟩:=hm hx
  exact ez8 (by rw[h.len_nth h2];exact hk)
 ·obtain⟨i,p,h1,h2,rfl⟩:=hm hx
  obtain⟨j,r,h3,h4,rfl⟩:=hm hy
  show wf (nth M i) r=0
  rw[h.one j r h3 i h2,if_neg]
  intro e
  subst e
  rw[h1]at h3
  cases h3
  exact hne rfl
theorem RedI.done(h:RedI n M0 M P c)(h0: ∀k,P.length≤k→k<M.length→wf (nth M k)=fun _=>0)(hM0: ∀r∈M0,r.length=n):outP M P=redR M0:=by
 obtain⟨r1,r2,r3⟩:=bi2 hM0
 have hsp: ∀w,Span (rowsOf (toF (outP M P))) w↔Span (M.map wf) w:=fun w=>by
  constructor
  ·refine fun hw=>hw.trans fun x hx=> ?_
   obtain⟨a,ha,rfl⟩:=he1.1 hx
   obtain⟨i,h1,h2,h3⟩:=(k91 h.pl).1 ha
   rw[h3];exact j42 h2
  ·refine fun hw=>hw.trans fun x hx=> ?_
   obtain⟨k,hk,rfl⟩:=tj8.1 hx
   by_cases hkP:P.length≤k
   ·rw[h0 k hkP hk];exact .zero
   ·refine .mem (he1.2 ⟨(P[k],nth M k),(k91 h.pl).2 ⟨k,wu3 (by omega),hk,rfl⟩,rfl⟩)
 have he:=h.form.uniq r1 fun w=>by rw[hsp,h.span,r3]
 --rows of one length are the same lists
 have hl:(outP M P).length=(redR M0).length:=by have:=congrArg List.length he;simpa [toF]using this
 refine List.ext_getElem hl fun i h1 h2=> ?_
 have hi:(toF (outP M P))[i]? =(toF (redR M0))[i]? :=by rw[he]
 unfold toF at hi
 rw[us5,us5,wu3 h1,wu3 h2]at hi
 simp only[eb5,hx3,br6]at hi
 refine Prod.ext hi.1 (ou8 ?_ hi.2)
 rw[r2 _ (ws6 h2)]
 obtain⟨k,h3,h4,h5⟩:=(k91 h.pl).1 (ws6 h1)
 rw[h5,h.len_nth h4]
theorem RedI.end'(h:RedI n M0 M P c)(hc:c=n∨P.length=M.length)(hM0: ∀r∈M0,r.length=n):outP M P=redR M0:=by
 refine h.done (fun k h1 h2=> ?_) hM0
 rcases hc with hc|hc
 ·funext j
  by_cases hj:j<c
  ·exact h.low k h1 h2 j hj
  ·exact ez8 (by rw[h.len_nth h2];omega)
 ·omega
end
end
end Go.Alg
namespace Go.Alg
section
variable {K:Type} [FK K]
def setN(c:Nat):List (Nat×List K)→List K→List K
 | [],x=>x
 |a::A,x=>setN c A (x.set a.1 (-(wf a.2 c)))
theorem ba7(c:Nat): ∀(A:List (Nat×List K)) (x:List K),(setN c A x).length=x.length
 | [],x=>rfl
 |a::A,x=>by rw[setN,ba7 c A,kb7]
def xRow(n c:Nat)(A:List (Nat×List K)):List K:=setN c A ((List.replicate n 0).set c 1)
theorem x22(n c:Nat)(A:List (Nat×List K)):(xRow n c A).length=n:=by rw[xRow,ba7,kb7,jv4]
def ez9(n:Nat)(A:List (Nat×List K)):Nat→Nat→List (List K)
 |0,_=>[]
 |d+1,c=>if(A.any fun a=>a.1==c)=true then ez9 n A d (c+1)else xRow n c A::ez9 n A d (c+1)
theorem to9(n:Nat)(A:List (Nat×List K)): ∀d c,(ez9 n A d c).length≤d
 |0,_=>jj6 _
 |d+1,c=>by
  have:=to9 n A d (c+1)
  rw[ez9]
  split
  ·omega
  ·rw[q90];omega
theorem sg4(n:Nat)(A:List (Nat×List K)): ∀d c,∀r∈ez9 n A d c,r.length=n
 |0,_,r,h=>by cases h
 |d+1,c,r,h=>by
  rw[ez9]at h
  split at h
  ·exact sg4 n A d (c+1) r h
  ·rcases r04.1 h with rfl|h
   ·exact x22 _ _ _
   ·exact sg4 n A d (c+1) r h
def zt5(n:Nat)(M:List (List K)):List (Nat×List K):=redR (ez9 n (redR M) n 0)
end
end Go.Alg
namespace Go.Proofs.Ytppbpgmdmiajcaa
theorem i62{α:Type}{l:List α}{i:Nat}{x:α}(h:l[i]? =some x):l.drop i=x::l.drop (i+1):=by
 obtain⟨hi,he⟩:=ck5.1 h
 rw[gw1 hi,he]
theorem oh9{α:Type}{l:List α}{i:Nat}(h:l.length≤i):l.drop i=[]:=jx3 h
theorem ge6{α:Type}{l:List α}{i:Nat}(h:i<l.length): ∃x,l[i]? =some x:=⟨_,wu3 h⟩
end Go.Proofs.Ytppbpgmdmiajcaa
namespace Go.Proofs.Ytppbpgmdmiajcaa
open Go.Am Go.Vm Go.Alg
def lls(nl:Nat)(m:List (List Int)):List Tree:=m.map fun l=> .sl nl 3 1 (ivs l)
theorem qf0(nl:Nat)(m:List (List Int)):(lls nl m).length=m.length:=by simp[lls]
theorem th8{nl:Nat}{m:List (List Int)}{i:Nat}{l:List Int}(h:m[i]? =some l):(lls nl m)[i]? =some (.sl nl 3 1 (ivs l)):=by
 unfold lls;rw[us5,h];rfl
theorem lg8(nl:Nat)(m:List (List Int)):jj5 (lls nl m)=lvs nl m:=by
 rw[gz0]
 unfold lls lvs
 rw[uk6]
 refine ny8 fun l _=> ?_
 show strip _=_
 rw[strip,ap3]
theorem lr8(nl:Nat)(m:List (List Int)):jj5 (lvs nl m)=lvs nl m:=by
 rw[gz0]
 unfold lvs
 rw[uk6]
 refine ny8 fun l _=> ?_
 show strip _=_
 rw[strip,ap3]
theorem ng3(nl:Nat)(m:List (List Int))(l:List Int):lls nl m++[.sl nl 3 1 (ivs l)]=lls nl (m++[l]):=by unfold lls;rw[hm3];rfl
theorem y81(nl:Nat)(m:List (List Int))(i:Nat)(l:List Int):(lls nl m).set i (.sl nl 3 1 (ivs l))=lls nl (m.set i l):=by unfold lls;rw[fx9]
theorem mm0(nl:Nat)(m:List (List Int))(n:Nat):(lls nl m).take n=lls nl (m.take n):=by unfold lls;rw[iw6]
theorem by3(nl:Nat)(m:List (List Int))(n:Nat):(lls nl m).drop n=lls nl (m.drop n):=by unfold lls;rw[gd3]
theorem rj0(nl:Nat)(m:List (List Int))(n:Nat):(lvs nl m).take n=lvs nl (m.take n):=by unfold lvs;rw[iw6]
theorem ff4(nl:Nat)(m:List (List Int))(n:Nat):(lvs nl m).drop n=lvs nl (m.drop n):=by unfold lvs;rw[gd3]
theorem lz6:ivs []=([]:List Tree):=rfl
theorem x25(nl:Nat):lls nl []=([]:List Tree):=rfl
theorem em1(nl:Nat):lvs nl []=([]:List Tree):=rfl
@[push_cast] theorem wf0{q:Int} [h:IsFld q]:isNode (pF q)=true:=by
 obtain⟨p,m,g,mod,hn⟩:=h.ok
 unfold pF;rw[hn];rfl
@[push_cast] theorem v60{q:Int} [h:IsFld q]{b:Bool}:ofz b (pF q)=some (.fz b (pF q)):=by
 obtain⟨p,m,g,mod,hn⟩:=h.ok
 unfold pF;rw[hn];rfl
theorem iva{q:Int} [IsFld q]{l:List (El q)}{i:Nat}(h:i<l.length):(ivs (vs l))[i]? =some (.v (.int .i64 (wf l i).v)):=by
 rw[ui5 (by rw[fi2];exact h),v86];rfl
theorem mva{q:Int}{nl:Nat}{M:List (List (El q))}{i:Nat}{r:List (El q)}(h:M[i]? =some r):(lvs nl (M.map vs))[i]? =some (.sl nl 0 1 (ivs (vs r))):=li3 (by rw[us5,h];rfl)
theorem mla{q:Int}{nl:Nat}{M:List (List (El q))}{i:Nat}{r:List (El q)}(h:M[i]? =some r):(lls nl (M.map vs))[i]? =some (.sl nl 3 1 (ivs (vs r))):=th8 (by rw[us5,h];rfl)
attribute [push_cast 50] List.isEmpty_nil List.isEmpty_cons nb9 qf0 lg8 lr8 ng3 mm0 by3 rj0 ff4 fi2 List.map_nil ite_self List.set_cons_zero List.set_cons_succ List.set_nil List.take_zero List.take_nil List.drop_zero List.drop_nil List.take_succ_cons List.drop_succ_cons List.take_length List.length_map List.flatMap_nil List.flatMap_cons gf1 pl3 l78 ap3 so0 nc5 yp5 u42 cs7 Int.natCast_add Int.natCast_one Int.natCast_zero Int.toNat_natCast Nat.div_one Nat.mul_one List.length_set List.all_cons List.all_nil List.length_append List.length_replicate List.length_take List.length_drop Int.zero_add
theorem vrl:(∀{zs:List Int} {i:Nat},i<zs.length→(ivs zs)[i]? =some (.v (.int .i64 (gi zs (i:Int)))))∧(∀(zs:List Int) (i:Nat) (x:Int),(ivs zs).set i (.v (.int .i64 x))=ivs (zs.set i x))∧(∀(nl:Nat) (m:List (List Int)) (i:Nat) (l:List Int),(lls nl m).set i (.sl nl 3 1 (ivs l))=lls nl (m.set i l))∧(∀{n b:Nat},n≤1000000→b≤1000→few n b=true)∧(∀{x:Int},-9223372036854775808≤x→x≤9223372036854775807→IntKind.wrap .i64 x=x)∧(∀{a b:Int},a<b→decide (a<b)=true)∧(∀{a b:Int},b≤a→decide (a<b)=false)∧(∀{a b:Int},a≤b→decide (a≤b)=true)∧(∀{a b:Int},b<a→decide (a≤b)=false)∧(∀{a b:Int},a=b→decide (a=b)=true)∧ ∀{a b:Int},¬a=b→decide (a=b)=false:=⟨ui5,lu7,y81,bj9,wrap64,dec_lt,cw6,nl3,qc6,mr8,nb8⟩
section
variable {q p m g:Int} [IsFld q] {t:Tree} {b b':Bool} {nl nl':Nat}
def mac{K:Type} [FK K](c:K)(w:List K):Nat→Nat→List K→List K
 |0,_,x=>x
 |d+1,j,x=>mac c w d (j+1) (x.set j (wf x j+c*wf w j))
theorem ev4{K:Type} [FK K](c:K)(w:List K): ∀(d j:Nat) (x:List K),(mac c w d j x).length=x.length
 |0,_,_=>rfl
 |d+1,j,x=>by rw[mac,ev4 c w d,kb7]
theorem ga7{K:Type} [FK K](c:K)(w:List K): ∀(d j:Nat) (x:List K) (i:Nat),j+d≤x.length→wf (mac c w d j x) i=if j≤i∧i<j+d then wf x i+c*wf w i else wf x i
 |0,j,x,i,_=>by rw[mac,if_neg (by omega)]
 |d+1,j,x,i,h=>by
  rw[mac,ga7 c w d (j+1) _ i (by rw[kb7];omega),wf_set (by omega)]
  by_cases h1:i=j
  ·subst h1
   rw[if_neg (by omega),if_pos rfl,if_pos (by omega)]
  ·rw[if_neg h1]
   by_cases h2:j+1≤i∧i<j+1+d
   ·rw[if_pos h2,if_pos (by omega)]
   ·rw[if_neg h2,if_neg (by omega)]
def prow{K:Type} [FK K](W:Nat)(a:List K):List (List K)→Nat→List K→List K
 | [],_,x=>x
 |w::Q,k,x=>prow W a Q (k+1) (mac (wf a k) w W 0 x)
theorem kv3{K:Type} [FK K](W:Nat)(a:List K): ∀(Q:List (List K)) (k:Nat) (x:List K),(prow W a Q k x).length=x.length
 | [],_,_=>rfl
 |w::Q,k,x=>by rw[prow,kv3 W a Q,ev4]
variable {N:Nat} {P Q:List (List (El q))} {nr nr':Nat}
end
theorem fz1{α:Type}{f:α→α}{l:List α}{j:Nat}{x:α}(hj:l[j]? =some x):((l.map f).take j++l.drop j).set j (f x)=(l.map f).take (j+1)++l.drop (j+1):=by
 obtain⟨h1,h2⟩:=ck5.1 hj
 have hl:((l.map f).take j).length=j:=by rw[vb8,q11];omega
 rw[v62 _ _ (by omega),hl,ob6,gw1 h1,List.take_succ_eq_append_getElem (by rw[q11];exact h1),List.getElem_map,h2]
 simp
theorem zw5{α:Type}{f:α→α}{l:List α}{j:Nat}(hj:j<l.length):((l.map f).take j++l.drop j)[j]? =l[j]? :=by
 rw[lp1 (by rw[vb8,q11];omega),vb8,q11,xp9 (by omega),ob6,s96,zy9]
theorem mh9{α:Type}(f:α→α)(l:List α)(j:Nat):((l.map f).take j++l.drop j).length=l.length:=by
 simp only[j82,vb8,h50,q11];omega
theorem l44{α:Type}(f:α→α)(l:List α):(l.map f).take l.length++l.drop l.length=l.map f:=by
 rw[List.drop_length,nw0,sp3 (by simp)]
def pvR{q:Int}(A:List (Nat×List (El q))):List (List Int):=A.map fun a=>vs a.2
def pvP{α:Type}(A:List (Nat×α)):List Int:=A.map fun a=>(a.1:Int)
theorem nu3{q:Int}(A:List (Nat×List (El q))):(pvR A).length=A.length:=by simp[pvR]
theorem ga9{α:Type}(A:List (Nat×α)):(pvP A).length=A.length:=by simp[pvP]
theorem x08{q:Int}{A:List (Nat×List (El q))}{k:Nat}{a:Nat×List (El q)}(h:A[k]? =some a):(lls 2 (pvR A))[k]? =some (.sl 2 3 1 (ivs (vs a.2))):=th8 (by unfold pvR;rw[us5,h];rfl)
theorem bx6{α:Type}{A:List (Nat×α)}{k:Nat}{a:Nat×α}(h:A[k]? =some a):(ivs (pvP A))[k]? =some (.v (.int .i64 a.1)):=by
 have hl:=(ck5.1 h).1
 rw[ui5 (by rw[ga9];exact hl)]
 unfold pvP gi
 rw[os6,ao0,us5,h];rfl
theorem iat{l:List Int}{i:Nat}{a:Int}(h:l[i]? =some a):(ivs l)[i]? =some (.v (.int .i64 a)):=by
 unfold ivs;rw[us5,h];rfl
theorem lat{nl:Nat}{m:List (List Int)}{i:Nat}{l:List Int}(h:m[i]? =some l):(lvs nl m)[i]? =some (.sl nl 0 1 (ivs l)):=li3 h
def jks(n:Nat):List Tree:=List.replicate n .junk
@[push_cast] theorem gc3(n:Nat):(jks n).length=n:=jv4 ..
def nl0:Nat→Nat
 |0=>1
 |_+1=>0
def nl1:Nat→Nat
 |0=>0
 |_+1=>1
@[push_cast] theorem o09(n:Nat):nl0 (n+1)=0:=rfl
@[push_cast] theorem m17(n:Nat):nl1 (n+1)=1:=rfl
@[push_cast] theorem vt2:nl0 0=1:=rfl
@[push_cast] theorem og7:nl1 0=0:=rfl
def rowE(q:Int)(n0:Nat)(r:List Int):Int:=if r.length≠n0∨r.length=0 then 3 else if 64<r.length then 4 else if(r.any fun v=> !fok q v)=true then 2 else 0
def wb9(q:Int)(n0:Nat):List (List Int)→Int
 | []=>0
 |r::M=>if rowE q n0 r=0 then wb9 q n0 M else rowE q n0 r
def matE(q:Int)(M:List (List Int)):Int:=match fldN q.toNat with
 |none=>1
 |some _=>if 64<M.length then 4 else wb9 q (nth M 0).length M
theorem kj7{q:Int}{n0:Nat}{r:List Int}{M:List (List Int)}{e:Int}(h:rowE q n0 r=e)(he:e≠0):wb9 q n0 (r::M)=e:=by rw[wb9,h,if_neg he]
theorem qf5{q:Int}{n0:Nat}{r:List Int}{M:List (List Int)}(h:rowE q n0 r=0):wb9 q n0 (r::M)=wb9 q n0 M:=by rw[wb9,if_pos h]
theorem kn4{q:Int}(N:List (List (El q)))(k:Nat):(nth (N.map vs) k).length=(nth N k).length:=by
 unfold nth
 rw[os6,os6,us5]
 cases N[k]? with
 |none=>rfl
 |some r=>exact fi2 r
section
variable {q p m g:Int} {t:Tree} {b:Bool} {nl nr:Nat} {M:List (List Int)}
end
section
variable {b:Bool} {nl:Nat} {l:List Int}
theorem xr6(hl:l.length≤1000000):o24 W 13 [.fz b (.sl nl 0 1 (ivs l))] []=some (.own 0 [],[.sl 0 3 1 (ivs l)],[]):=by
 rw[o10 rfl T13 rfl]
 unfold F13 c13
 simp(disch:=first|omega|fail) only[push_cast,seval,vrl,if_pos,if_neg,m51]
theorem u27(h0:0<l.length)(hl:l.length≤1000000):o24 W 26 [.fz b (.sl nl 0 1 (ivs l))] []=some (.own 0 [],[.sl 0 3 1 (ivs l)],[]):=by
 rw[h18 hl]
 cases l with
 |nil=>cases h0
 |cons=>rfl
def fidx{α:Type}(p:α→Bool):Nat→List α→Int
 |_,[]=> -1
 |i,a::l=>if p a=true then(i:Int)else fidx p (i+1) l
theorem tl6{α:Type}(p:α→Bool): ∀(i:Nat) (l:List α),decide (0≤fidx p i l)=l.any p
 |_,[]=>rfl
 |i,a::l=>by
  rw[fidx,List.any_cons]
  cases p a with
  |true=>rw[if_pos rfl,Bool.true_or];exact ce5 (by omega)
  |false=>rw[if_neg (by decide),Bool.false_or];exact tl6 p (i+1) l
theorem nu4{α:Type}(p:α→Bool): ∀(i:Nat) (l:List α),(fidx p i l= -1∧ ∀x∈l,p x=false)∨ ∃j x,fidx p i l=((i+j:Nat):Int)∧l[j]? =some x∧p x=true
 |_,[]=> .inl ⟨rfl,fun x hx=>by cases hx⟩
 |i,a::l=>by
  rw[fidx]
  cases ha:p a with
  |true=>exact .inr ⟨0,a,by rw[if_pos rfl,zy9],rfl,ha⟩
  |false=>
   simp only[o35,wj1]
   rcases nu4 p (i+1) l with⟨h1,h2⟩|⟨j,x,h1,h2,h3⟩
   ·refine .inl ⟨h1,fun x hx=> ?_⟩
    rcases r04.1 hx with rfl|hx
    ·exact ha
    ·exact h2 x hx
   ·exact .inr ⟨j+1,x,by rw[h1];congr 1;omega,by rw[ok0];exact h2,h3⟩
section
variable {k:FuncId} {t:Tree} {p:Int→Bool}
theorem k85(hk: ∀v,o24 W k [.x (.int .i64 v), .fz b t] []=some (.x (.bool (p v)),[],[]))(hM:vM k=[]){bl:Bool}(hl:l.length≤9223372036854775807): ∀(n i:Nat),i+n=l.length→ ∀ks,
 vgoL W ⟨hNo,[.tmp 4],0⟩ [0,1,7,8] c48L0 (.blk 0 []::ks) [(0, .fz bl (.sl nl 0 1 (ivs l))),(1, .fn k [.fz b t]),(7, .x (.int .i64 l.length)),(8, .x (.int .i64 i))] []=
  if fidx p i (l.drop i)= -1 then vgo W ⟨hNo,[.tmp 4],0⟩ ks (VFr.of []) []else some (.x (.int .i64 (fidx p i (l.drop i))),[],[])
 |0,i,hi,ks=>by
  rw[oh9 (by omega),fidx,if_pos rfl,sb5 c48L0.eq_def]
  simp(disch:=first|omega|fail) only[push_cast,seval,vrl,if_pos,if_neg]
 |n+1,i,hi,ks=>by
  have ih:=k85 hk hM (bl:=bl) hl n (i+1) (by omega) ks
  obtain⟨a,ha⟩:=ge6 (l:=l) (i:=i) (by omega)
  have h1:=iat ha
  rw[i62 ha,fidx]
  rw[e96,g71]at ih
  have hka:=hk a
  cases hp:p a with
  |true=>
   rw[hp]at hka
   rw[if_pos rfl,if_neg (by omega),sb5 c48L0.eq_def]
   simp(disch:=first|omega|fail) only[push_cast,seval,vrl,if_pos,if_neg,h1,hka,hM]
  |false=>
   rw[hp]at hka
   simp only[o35,wj1]
   rw[←ih,sb5 c48L0.eq_def]
   simp(disch:=first|omega|fail) only[push_cast,seval,vrl,if_pos,if_neg,h1,hka,hM]
theorem az6(hk: ∀v,o24 W k [.x (.int .i64 v), .fz b t] []=some (.x (.bool (p v)),[],[]))(hM:vM k=[]){bl:Bool}(hl:l.length≤9223372036854775807):
 o24 W 48 [.fz bl (.sl nl 0 1 (ivs l)), .fn k [.fz b t]] []=some (.x (.int .i64 (fidx p 0 l)),[],[]):=by
 have e:=fun ks=>k85 (nl:=nl) hk hM (bl:=bl) hl l.length 0 (by omega) ks
 simp only[vx9,si3,sv4,rp2,lz6,x25,gw5,fo5]at e
 rw[o10 rfl T48 rfl]
 unfold F48 c48
 simp(disch:=first|omega|fail) only[push_cast,seval,vrl,if_pos,if_neg]
 rw[e]
 by_cases h:fidx p 0 l= -1
 ·rw[if_pos h,h]
  simp(disch:=first|omega|fail) only[push_cast,seval,vrl,if_pos,if_neg]
 ·rw[if_neg h]
theorem eg0(hk: ∀v,o24 W k [.x (.int .i64 v), .fz b t] []=some (.x (.bool (p v)),[],[]))(hM:vM k=[]){bl:Bool}(hl:l.length≤9223372036854775807):
 o24 W 30 [.fz bl (.sl nl 0 1 (ivs l)), .fn k [.fz b t]] []=some (.x (.bool (l.any p)),[],[]):=by
 have e:=fun bl nl=>az6 (nl:=nl) hk hM (bl:=bl) hl
 rw[o10 rfl T30 rfl]
 unfold F30 c30
 rw[←tl6 p 0 l]
 simp(disch:=first|omega|fail) only[push_cast,seval,vrl,if_pos,if_neg,e]
end
section
variable {k:FuncId} {t:Tree} {p:List Int→Bool} {m:List (List Int)} {nr:Nat} {bl:Bool}
theorem rq1(hk: ∀r∈m,o24 W k [.fz bl (.sl nr 0 1 (ivs r)), .fz b t] []=some (.x (.bool (p r)),[],[]))(hM:vM k=[])(hl:m.length≤9223372036854775807): ∀(n i:Nat),i+n=m.length→ ∀ks,
 vgoL W ⟨hNo,[.tmp 4],0⟩ [0,1,7,8] c60L0 (.blk 0 []::ks) [(0, .fz bl (.sl nl 0 1 (lvs nr m))),(1, .fn k [.fz b t]),(7, .x (.int .i64 m.length)),(8, .x (.int .i64 i))] []=
  if fidx p i (m.drop i)= -1 then vgo W ⟨hNo,[.tmp 4],0⟩ ks (VFr.of []) []else some (.x (.int .i64 (fidx p i (m.drop i))),[],[])
 |0,i,hi,ks=>by
  rw[oh9 (by omega),fidx,if_pos rfl,sb5 c60L0.eq_def]
  simp(disch:=first|omega|fail) only[push_cast,seval,vrl,if_pos,if_neg]
 |n+1,i,hi,ks=>by
  have ih:=rq1 hk hM hl n (i+1) (by omega) ks
  obtain⟨a,ha⟩:=ge6 (l:=m) (i:=i) (by omega)
  have h1:=lat (nl:=nr) ha
  rw[i62 ha,fidx]
  rw[e96,g71]at ih
  have hka:=hk a (vf6 ha)
  cases hp:p a with
  |true=>
   rw[hp]at hka
   rw[if_pos rfl,if_neg (by omega),sb5 c60L0.eq_def]
   simp(disch:=first|omega|fail) only[push_cast,seval,vrl,if_pos,if_neg,h1,hka,hM]
  |false=>
   rw[hp]at hka
   simp only[o35,wj1]
   rw[←ih,sb5 c60L0.eq_def]
   simp(disch:=first|omega|fail) only[push_cast,seval,vrl,if_pos,if_neg,h1,hka,hM]
theorem aj5(hk: ∀r∈m,o24 W k [.fz bl (.sl nr 0 1 (ivs r)), .fz b t] []=some (.x (.bool (p r)),[],[]))(hM:vM k=[])(hl:m.length≤9223372036854775807):
 o24 W 60 [.fz bl (.sl nl 0 1 (lvs nr m)), .fn k [.fz b t]] []=some (.x (.int .i64 (fidx p 0 m)),[],[]):=by
 have e:=fun ks=>rq1 (nl:=nl) hk hM hl m.length 0 (by omega) ks
 simp only[vx9,si3,sv4,rp2,lz6,x25,gw5,fo5]at e
 rw[o10 rfl T60 rfl]
 unfold F60 c60
 simp(disch:=first|omega|fail) only[push_cast,seval,vrl,if_pos,if_neg]
 rw[e]
 by_cases h:fidx p 0 m= -1
 ·rw[if_pos h,h]
  simp(disch:=first|omega|fail) only[push_cast,seval,vrl,if_pos,if_neg]
 ·rw[if_neg h]
end
end
section
variable {q:Int} {b:Bool} {nl nr e:Nat} {M:List (List Int)}
theorem g07 [IsFld q](v:Int):o24 W 74 [.x (.int .i64 v), .fz b (.pt e [pF q])] []=some (.x (.bool (!fok q v)),[],[]):=by
 rw[o10 rfl T74 rfl]
 unfold F74 c74
 simp(disch:=first|omega|fail) only[push_cast,seval,vrl,if_pos,if_neg]
theorem bc0 [IsFld q](hMl:M.length≤64){n0:Nat}(hn0:n0=(nth M 0).length): ∀(d i:Nat),i+d=M.length→ ∀ks,
 vgoL W ⟨hNo,[.tmp 4],0⟩ [1,5,20,21,22] c58L0 (.blk 0 []::ks) [(1, .fz b (.sl nl 0 1 (lvs nr M))),(5, .own 0 []),(20, .fz b (.sl nl 0 1 (lvs nr M))),(21, .x (.int .i64 M.length)),(22, .x (.int .i64 i))] [.pt 54 [.fz (pF q)]]=
  if wb9 q n0 (M.drop i)=0 then vgo W ⟨hNo,[.tmp 4],0⟩ ks (VFr.of []) [.pt 54 [.fz (pF q)]]else some (.x (.int .i64 (wb9 q n0 (M.drop i))),[],[])
 |0,i,hi,ks=>by
  rw[oh9 (by omega),wb9,if_pos rfl,sb5 c58L0.eq_def]
  simp(disch:=first|omega|fail) only[push_cast,seval,vrl,if_pos,if_neg]
 |d+1,i,hi,ks=>by
  obtain⟨r,hr⟩:=ge6 (l:=M) (i:=i) (by omega)
  obtain⟨r0,hr0⟩:=ge6 (l:=M) (i:=0) (by omega)
  have hr0l:r0.length=n0:=by rw[hn0,xr8 hr0]
  have h0:=lat (nl:=nr) hr
  have h1:=lat (nl:=nr) hr0
  have ih:=bc0 hMl hn0 d (i+1) (by omega) ks
  rw[e96,g71]at ih
  rw[i62 hr]
  by_cases hne:r.length=n0
  ·by_cases hz:r.length=0
   ·have hrow:rowE q n0 r=3:=by unfold rowE;rw[if_pos (.inr hz)]
    rw[kj7 hrow (by decide),if_neg (by decide),sb5 c58L0.eq_def]
    simp(disch:=first|omega|fail) only[push_cast,seval,vrl,if_pos,if_neg,h0,h1,hr0l]
   ·by_cases h64:64<r.length
    ·have hrow:rowE q n0 r=4:=by unfold rowE;rw[if_neg (by omega),if_pos h64]
     rw[kj7 hrow (by decide),if_neg (by decide),sb5 c58L0.eq_def]
     simp(disch:=first|omega|fail) only[push_cast,seval,vrl,if_pos,if_neg,h0,h1,hr0l]
    ·have hf:=fun bl nl b e=>eg0 (nl:=nl) (l:=r) (bl:=bl) (k:=74) (b:=b) (t:= .pt e [pF q]) g07 rfl (by omega)
     cases hany:(r.any fun v=> !fok q v)with
     |true=>
      have hrow:rowE q n0 r=2:=by unfold rowE;rw[if_neg (by omega),if_neg h64,if_pos hany]
      rw[hany]at hf
      rw[kj7 hrow (by decide),if_neg (by decide),sb5 c58L0.eq_def]
      simp(disch:=first|omega|fail) only[push_cast,seval,vrl,if_pos,if_neg,h0,h1,hr0l,hf]
     |false=>
      have hrow:rowE q n0 r=0:=by unfold rowE;rw[if_neg (by omega),if_neg h64,if_neg (by rw[hany];decide)]
      rw[hany]at hf
      rw[qf5 hrow,←ih,sb5 c58L0.eq_def]
      simp(disch:=first|omega|fail) only[push_cast,seval,vrl,if_pos,if_neg,h0,h1,hr0l,hf]
  ·have hrow:rowE q n0 r=3:=by unfold rowE;rw[if_pos (.inl hne)]
   have hne': ¬(r.length:Int)=(n0:Int):=by omega
   rw[kj7 hrow (by decide),if_neg (by decide),sb5 c58L0.eq_def]
   simp(disch:=first|omega|fail) only[push_cast,seval,vrl,if_pos,if_neg,h0,h1,hr0l,nb8 hne']
theorem or9:o24 W 58 [.x (.int .i64 q), .fz b (.sl nl 0 1 (lvs nr M))] []=some (.x (.int .i64 (matE q M)),[],[]):=by
 unfold matE
 cases hn:fldN q.toNat with
 |none=>
  have e1:=ug9 hn
  rw[o10 rfl T58 rfl]
  unfold F58 c58
  simp(disch:=first|omega|fail) only[push_cast,seval,vrl,if_pos,if_neg,e1]
 |some x=>
  obtain⟨p0,m0,g0,mod⟩:=x
  haveI:IsFld q:=⟨⟨p0,m0,g0,mod,hn⟩⟩
  simp only
  by_cases h64:64<M.length
  ·rw[if_pos h64,o10 rfl T58 rfl]
   unfold F58 c58
   simp(disch:=first|omega|fail) only[push_cast,seval,vrl,if_pos,if_neg]
  ·have e:=fun ks=>bc0 (q:=q) (M:=M) (b:=b) (nl:=nl) (nr:=nr) (by omega) rfl M.length 0 (by omega) ks
   rw[if_neg h64,o10 rfl T58 rfl]
   simp only[vx9,si3,sv4,rp2,lz6,x25,gw5,fo5]at e
   unfold F58 c58
   simp(disch:=first|omega|fail) only[push_cast,seval,vrl,if_pos,if_neg]
   rw[e]
   by_cases hr:wb9 q (nth M 0).length M=0
   ·rw[if_pos hr,hr]
    simp(disch:=first|omega|fail) only[push_cast,seval,vrl,if_pos,if_neg]
   ·rw[if_neg hr]
end
def gi9(q n:Int)(M:List (List Int)):Int:=match fldN q.toNat with
 |none=>1
 |some _=>if n<1∨64<n then 4 else if matE q M=0 then(if 0<M.length∧((nth M 0).length:Int)≠n then 3 else 0)else matE q M
theorem tc0{q:Int} [IsFld q]{N:List (List (El q))}{k:Nat}(h0:0<k)(hk:k≤64)(hl:N.length≤64)(hr: ∀r∈N,r.length=k)(hm:matE q (N.map vs)=0):gi9 q k (N.map vs)=0:=by
 obtain⟨p0,m0,g0,mod,hn⟩:= ‹IsFld q›.ok
 unfold gi9
 rw[hn]
 simp only
 rw[if_neg (by omega),if_pos hm,if_neg fun h=> ?_]
 obtain⟨h1,h2⟩:=h
 rw[q11]at h1
 rw[kn4,ua4 h1]at h2
 exact h2 (by rw[hr _ (ws6 h1)])
section
variable {q n:Int} {nl nr:Nat} {M:List (List Int)}
theorem um1:o24 W 39 [.agg [.x (.int .i64 q), .x (.int .i64 n), .fz true (.sl nl 0 1 (lvs nr M))]] []=some (.x (.int .i64 (gi9 q n M)),[],[]):=by
 unfold gi9
 cases hn:fldN q.toNat with
 |none=>
  have e0:=ug9 hn
  rw[o10 rfl T39 rfl]
  unfold F39 c39
  simp(disch:=first|omega|fail) only[push_cast,seval,vrl,if_pos,if_neg,e0]
 |some x=>
  obtain⟨p0,m0,g0,mod⟩:=x
  haveI:IsFld q:=⟨⟨p0,m0,g0,mod,hn⟩⟩
  have e1:=fun b nl nr=>or9 (q:=q) (M:=M) (b:=b) (nl:=nl) (nr:=nr)
  simp only
  by_cases h1:n<1∨64<n
  ·rw[if_pos h1,o10 rfl T39 rfl]
   unfold F39 c39
   by_cases h2:n<1
   ·simp(disch:=first|omega|fail) only[push_cast,seval,vrl,if_pos,if_neg,dec_lt h2]
   ·simp(disch:=first|omega|fail) only[push_cast,seval,vrl,if_pos,if_neg,vk3.1 h2]
  ·rw[if_neg h1]
   by_cases h2:matE q M=0
   ·rw[if_pos h2]
    rw[h2]at e1
    cases hM:M with
    |nil=>
     rw[hM]at e1
     rw[if_neg fun h=>absurd h.1 (by simp),o10 rfl T39 rfl]
     unfold F39 c39
     simp(disch:=first|omega|fail) only[push_cast,seval,vrl,if_pos,if_neg,e1,fo5]
    |cons r0 M'=>
     rw[hM]at e1
     have h3:(lvs nr (r0::M'))[0]? =some (.sl nr 0 1 (ivs r0)):=rfl
     have h4:(nth (r0::M') 0).length=r0.length:=rfl
     have h5:0<(r0::M').length:=by simp
     rw[h4]
     by_cases h6:(r0.length:Int)=n
     ·rw[if_neg fun h=>h.2 h6,o10 rfl T39 rfl]
      unfold F39 c39
      simp(disch:=first|omega|fail) only[push_cast,seval,vrl,if_pos,if_neg,e1,h3,h5,mr8 h6,h6]
     ·rw[if_pos ⟨h5,h6⟩,o10 rfl T39 rfl]
      unfold F39 c39
      simp(disch:=first|omega|fail) only[push_cast,seval,vrl,if_pos,if_neg,e1,h3,h5,nb8 h6]
   ·rw[if_neg h2,o10 rfl T39 rfl]
    unfold F39 c39
    simp(disch:=first|omega|fail) only[push_cast,seval,vrl,if_pos,if_neg,e1,nb8 h2]
end
section
variable {q p m g:Int} [IsFld q] {t:Tree} {b:Bool} {nl nr n6 n7 n9:Nat} {M:List (List (El q))} {A:List (Nat×List (El q))} {w:Nat} {i8:Nat}
end
section
variable {q p m g:Int} [IsFld q] {t:Tree} {b b':Bool} {nl nl' nr n7 n8:Nat} {M:List (List (El q))} {A:List (Nat×List (El q))} {N:Nat}
theorem tc4{α:Type}(A:List (Nat×α))(c:Nat):((pvP A).any fun y=>decide (y=(c:Int)))=A.any fun a=>a.1==c:=by
 unfold pvP
 rw[List.any_map]
 congr 1
 funext a
 show decide ((a.1:Int)=(c:Int))=(a.1==c)
 by_cases h:a.1=c
 ·rw[h,ce5 rfl];simp
 ·rw[lx1 (by omega)];symm;simpa using h
end
def pn(P:List Nat):List Int:=P.map fun n:Nat=>(n:Int)
theorem im5(P:List Nat):(pn P).length=P.length:=by simp[pn]
theorem mg7{α:Type}{M:List (List α)}{i:Nat}{x:List α}(hi:i<M.length)(k:Nat):nth (M.set i x) k=if k=i then x else nth M k:=by
 unfold nth
 rw[os6,os6,gy2]
 by_cases h:i=k
 ·subst h;rw[if_pos rfl,if_pos hi,if_pos rfl];rfl
 ·rw[if_neg h,if_neg fun e=>h e.symm]
theorem gu3{α:Type}{M:List (List α)}{k:Nat}(h:k<M.length):M[k]? =some (nth M k):=by rw[ua4 h];exact wu3 h
theorem vt1{K:Type} [FK K]{r o:List K}(h:r.length=o.length):dx9 0 r o=r:=by
 refine ou8 (wx1 h) ?_
 funext k
 rw[rq0 h,zero_mul,sub_zero]
def clrM{q:Int} [IsFld q](M:List (List (El q)))(at' c:Nat):List (List (El q)):=(List.range M.length).map fun k=>if k=at' then nth M k else dx9 (wf (nth M k) c) (nth M k) (nth M at')
theorem wq1{q:Int} [IsFld q](M:List (List (El q)))(at' c:Nat):(clrM M at' c).length=M.length:=by simp[clrM]
theorem kc5{q:Int} [IsFld q]{M:List (List (El q))}{at' c k:Nat}(hk:k<M.length):(clrM M at' c)[k]? =some (if k=at' then nth M k else dx9 (wf (nth M k) c) (nth M k) (nth M at')):=by
 unfold clrM;rw[us5,iq9 hk];rfl
section
variable {α:Type} {n i at':Nat} {M:List (List α)}
def swpM(M:List (List α))(at' i:Nat):List (List α):=(M.set at' (nth M i)).set i (nth M at')
theorem p58:(swpM M at' i).length=M.length:=by simp[swpM]
theorem fj6(ha:at'<M.length)(hi:i<M.length):nth (swpM M at' i) at'=nth M i:=by
 unfold swpM
 rw[mg7 (by simpa using hi),mg7 ha,if_pos rfl]
 by_cases h:at'=i
 ·rw[if_pos h,h]
 ·rw[if_neg h]
theorem cd8{N:List (List α)}(h: ∀k,k<N.length→(nth N k).length=n): ∀r∈N,r.length=n:=by
 intro r hr
 obtain⟨k,hk,rfl⟩:=zd4 hr
 rw[←ua4 hk];exact h k hk
end
section
variable {q:Int} [IsFld q] {n c i at':Nat} {M:List (List (El q))}
def sclM(M:List (List (El q)))(at' i c:Nat):List (List (El q)):=(swpM M at' i).set at' (xf5 (FK.inv (wf (nth M i) c)) (nth M i))
theorem np1:(sclM M at' i c).length=M.length:=by simp[sclM,p58]
theorem ht1(ha:at'<M.length)(hi:i<M.length):nth (sclM M at' i c) at'=xf5 (FK.inv (wf (nth M i) c)) (nth M i):=by
 unfold sclM;rw[mg7 (by rw[p58];exact ha),if_pos rfl]
theorem j81(ha:at'<M.length)(hi:i<M.length){k:Nat}(hk:k≠at'):nth (sclM M at' i c) k=nth M (if k=i then at' else k):=by
 unfold sclM swpM
 rw[mg7 (by simpa using ha),if_neg hk,mg7 (by simpa using hi),mg7 ha,if_neg hk]
 by_cases h:k=i
 ·rw[if_pos h,if_pos h]
 ·rw[if_neg h,if_neg h]
theorem k39(hrow: ∀k,k<M.length→(nth M k).length=n)(ha:at'<M.length)(hi:i<M.length): ∀k,k<M.length→(nth (sclM M at' i c) k).length=n:=by
 intro k hk
 by_cases h:k=at'
 ·rw[h,ht1 ha hi];unfold xf5;rw[q11,hrow i hi]
 ·rw[j81 ha hi h];exact hrow _ (by split<;>omega)
theorem qt5{M0:List (List (El q))}{P:List Nat}(h:RedI n M0 M P c)(hc:c<n)(hi:P.length≤i)(hi2:i<M.length)(hne:wf (nth M i) c≠0):RedI n M0 (clrM (sclM M P.length i c) P.length c) (P++[c]) (c+1):=by
 have ha:P.length<M.length:=by omega
 have hrow: ∀k,k<M.length→(nth M k).length=n:=fun k hk=>h.len_nth hk
 have hrs:=k39 (c:=c) hrow ha hi2
 have hN: ∀k,k<M.length→nth (clrM (sclM M P.length i c) P.length c) k=if k=P.length then nth (sclM M P.length i c) k else dx9 (wf (nth (sclM M P.length i c) k) c) (nth (sclM M P.length i c) k) (nth (sclM M P.length i c) P.length):=fun k hk=>xr8 (kc5 (by rw[np1];exact hk))
 refine h.turn hc hi hi2 hne (by rw[wq1,np1]) (cd8 fun k hk=> ?_) ?_ fun k hk hne'=> ?_
 ·rw[wq1,np1]at hk
  rw[hN k hk]
  split
  ·exact hrs k hk
  ·rw[wx1 (by rw[hrs k hk,hrs _ ha]),hrs k hk]
 ·rw[hN _ ha,if_pos rfl,ht1 ha hi2,mc3]
 ·rw[hN k hk,if_neg hne',hN _ ha,if_pos rfl,ub5 (by rw[hrs k hk,hrs _ ha]),j81 ha hi2 hne']
end
section
variable {q:Int} [IsFld q] {b b':Bool} {nl nl' nr:Nat} {c:El q}
theorem eh8{r:List (El q)}(hW:r.length≤100000): ∀(n j:Nat),j+n=r.length→ ∀ks,
 vgoL W ⟨hNo,[],1⟩ [0,1,2,8,9] c62L0 (.blk 0 []::ks) [(0, .fz b (pF q)),(1, .own 0 []),(2, .x (.int .i64 c.v)),(8, .x (.int .i64 r.length)),(9, .x (.int .i64 j))] [.sl nl 3 1 (ivs (vs ((xf5 c r).take j++r.drop j)))]=
  vgo W ⟨hNo,[],1⟩ ks (VFr.of []) [.sl nl 3 1 (ivs (vs (xf5 c r)))]
 |0,j,hj,ks=>by
  obtain rfl:j=r.length:=by omega
  unfold xf5
  rw[l44,sb5 c62L0.eq_def]
  simp(disch:=first|omega|fail) only[push_cast,seval,vrl,if_pos,if_neg]
 |n+1,j,hj,ks=>by
  have ih:=eh8 hW n (j+1) (by omega) ks
  obtain⟨a,ha⟩:=ge6 (l:=r) (i:=j) (by omega)
  have hcl:=mh9 (fun x=>x*c) r j
  have hat:=zw5 (f:=fun x=>x*c) (l:=r) (j:=j) (by omega)
  have hset:=fz1 (f:=fun x=>x*c) ha
  have hsc: ∀x:List (El q),xf5 c x=x.map fun x=>x*c:=fun _=>rfl
  rw[hsc,←hset]at ih
  rw[hsc]
  generalize hy:(r.map fun x=>x*c).take j++r.drop j=y at ih hcl hat hset
  have hwy:wf y j=a:=by
   unfold wf;rw[os6,hat,ha];rfl
  have h1:=iva (l:=y) (i:=j) (by omega)
  rw[hwy]at h1
  have hs:=g52 y j (a*c)
  rw[ym6]at hs
  rw[e96,g71]at ih
  rw[←ih,sb5 c62L0.eq_def]
  simp(disch:=first|omega|fail) only[push_cast,seval,vrl,if_pos,if_neg,h1,hs]
theorem em7{r:List (El q)}(hW:r.length≤100000):
 o24 W 62 [.fz b (pF q), .own 0 [], .x (.int .i64 c.v)] [.sl nl 3 1 (ivs (vs r))]=some (.tup [],[],[.sl nl 3 1 (ivs (vs (xf5 c r)))]):=by
 have e:=fun ks=>eh8 (b:=b) (nl:=nl) (c:=c) (r:=r) hW r.length 0 (by omega) ks
 rw[si3,m51,sv4]at e
 simp only[vx9]at e
 rw[o10 rfl T62 rfl]
 unfold F62 c62
 simp(disch:=first|omega|fail) only[push_cast,seval,vrl,if_pos,if_neg]
 rw[e]
 simp(disch:=first|omega|fail) only[push_cast,seval,vrl,if_pos,if_neg]
theorem jh0{r o:List (El q)}(hl:o.length=r.length)(hW:r.length≤100000): ∀(n j:Nat),j+n=r.length→ ∀ks,
 vgoL W ⟨hNo,[],1⟩ [0,1,2,3,10,11] c64L0 (.blk 0 []::ks) [(0, .fz b (pF q)),(1, .own 0 []),(2, .fz b' (.sl nl' 0 1 (ivs (vs o)))),(3, .x (.int .i64 c.v)),(10, .x (.int .i64 r.length)),(11, .x (.int .i64 j))] [.sl nl 3 1 (ivs (vs ((dx9 c r o).take j++r.drop j)))]=
  vgo W ⟨hNo,[],1⟩ ks (VFr.of []) [.sl nl 3 1 (ivs (vs (dx9 c r o)))]
 |0,j,hj,ks=>by
  have hll:(dx9 c r o).length=r.length:=wx1 hl.symm
  rw[oh9 (by omega),nw0,sp3 (by omega),sb5 c64L0.eq_def]
  simp(disch:=first|omega|fail) only[push_cast,seval,vrl,if_pos,if_neg]
 |n+1,j,hj,ks=>by
  have ih:=jh0 hl hW n (j+1) (by omega) ks
  have hll:(dx9 c r o).length=r.length:=wx1 hl.symm
  have hy:((dx9 c r o).take j++r.drop j).set j (wf r j-c*wf o j)=(dx9 c r o).take (j+1)++r.drop (j+1):=by
   rw[List.take_succ_eq_append_getElem (by omega),←i67 (by omega),rq0 hl.symm,v62 _ _ (by rw[vb8];omega),vb8,xp9 (by omega),ob6,gw1 (by omega:j<r.length),kv0,eh9];rfl
  have hyl:((dx9 c r o).take j++r.drop j).length=r.length:=by simp only[j82,vb8,h50];omega
  have hyw:wf ((dx9 c r o).take j++r.drop j) j=wf r j:=by
   unfold wf
   rw[os6,os6,lp1 (by rw[vb8];omega),vb8,xp9 (by omega),ob6,s96,zy9]
  rw[←hy]at ih
  generalize (dx9 c r o).take j++r.drop j=y at ih hyl hyw
  have h1:=iva (l:=y) (i:=j) (by omega)
  have h2:=iva (l:=o) (i:=j) (by omega)
  rw[hyw]at h1
  have hs:=g52 y j (wf r j-c*wf o j)
  rw[bq9,ym6]at hs
  rw[e96,g71]at ih
  rw[←ih,sb5 c64L0.eq_def]
  simp(disch:=first|omega|fail) only[push_cast,seval,vrl,if_pos,if_neg,h1,h2,hs]
theorem nq1{r o:List (El q)}(hl:o.length=r.length)(hW:r.length≤100000):
 o24 W 64 [.fz b (pF q), .own 0 [], .fz b' (.sl nl' 0 1 (ivs (vs o))), .x (.int .i64 c.v)] [.sl nl 3 1 (ivs (vs r))]=some (.tup [],[],[.sl nl 3 1 (ivs (vs (dx9 c r o)))]):=by
 have e:=fun ks=>jh0 (b:=b) (b':=b') (nl:=nl) (nl':=nl') (c:=c) hl hW r.length 0 (by omega) ks
 rw[si3,m51,sv4]at e
 simp only[vx9]at e
 rw[o10 rfl T64 rfl]
 unfold F64 c64
 simp(disch:=first|omega|fail) only[push_cast,seval,vrl,if_pos,if_neg]
 rw[e]
 simp(disch:=first|omega|fail) only[push_cast,seval,vrl,if_pos,if_neg]
end
theorem fc2(n:Nat):repT [Tree.sl 2 3 1 []] n=lls 2 (List.replicate n []):=by
 induction n with
 |zero=>rfl
 |succ n ih=>rw[repT,ih];rfl
theorem l52{M:List (List Int)}{i n:Nat}{r:List Int}(hr:M[i]? =some r):(M.take i++List.replicate (n+1) []).set i r=M.take (i+1)++List.replicate n []:=by
 have hi:=(ck5.1 hr).1
 rw[v62 _ _ (by rw[vb8];omega),vb8,xp9 (by omega),ob6,lg2,kv0,da3,hr,eh9];rfl
section
variable {b:Bool} {nl nr:Nat} {M:List (List Int)}
theorem ma1(h0: ∀r∈M,0<r.length∧r.length≤1000000)(hM:M.length≤1000000): ∀(n i:Nat),i+n=M.length→ ∀ks,
 vgoL W ⟨hNo,[.tmp 2],0⟩ [3,9,10,11] c59L0 (.blk 0 [3]::ks) [(3, .own 0 []),(9, .fz b (.sl nl 0 1 (lvs nr M))),(10, .x (.int .i64 M.length)),(11, .x (.int .i64 i))] [.sl 0 22 1 (lls 2 (M.take i++List.replicate n []))]=
  vgo W ⟨hNo,[.tmp 2],0⟩ ks (VFr.of [(3, .own 0 [])]) [.sl 0 22 1 (lls 2 M)]
 |0,i,hi,ks=>by
  rw[List.replicate_zero,nw0,sp3 (by omega),sb5 c59L0.eq_def]
  simp(disch:=first|omega|fail) only[push_cast,seval,vrl,if_pos,if_neg]
 |n+1,i,hi,ks=>by
  obtain⟨r,hr⟩:=ge6 (l:=M) (i:=i) (by omega)
  have ih:=ma1 h0 hM n (i+1) (by omega) ks
  have hn:=l52 (n:=n) hr
  rw[←hn]at ih
  have hl:(M.take i++List.replicate (n+1) []).length=M.length:=by simp only[j82,vb8,jv4];omega
  generalize M.take i++List.replicate (n+1) []=Y at ih hl
  have h1:=lat (nl:=nr) hr
  have hc:=fun b nl=>u27 (b:=b) (nl:=nl) (h0 r (vf6 hr)).1 (h0 r (vf6 hr)).2
  rw[e96,g71]at ih
  rw[←ih,sb5 c59L0.eq_def]
  simp(disch:=first|omega|fail) only[push_cast,seval,vrl,if_pos,if_neg,h1,hc,hl]
theorem y80(h0: ∀r∈M,0<r.length∧r.length≤1000000)(hM:M.length≤1000000):
 o24 W 59 [.fz b (.sl nl 0 1 (lvs nr M))] []=some (.own 0 [],[.sl 0 22 1 (lls 2 M)],[]):=by
 have e:=fun ks=>ma1 (b:=b) (nl:=nl) (nr:=nr) h0 hM M.length 0 (by omega) ks
 rw[si3,m51]at e
 simp only[vx9]at e
 have hz:=fc2 M.length
 rw[o10 rfl T59 rfl]
 unfold F59 c59
 simp(disch:=first|omega|fail) only[push_cast,seval,vrl,if_pos,if_neg,hz]
 rw[e]
 simp(disch:=first|omega|fail) only[push_cast,seval,vrl,if_pos,if_neg]
end
theorem em2{α:Type}{l:List α}{i:Nat}{x:α}(h:l[i]? =some x):l.set i x=l:=by
 obtain⟨h1,h2⟩:=ck5.1 h
 rw[←h2];exact List.set_getElem_self h1
section
variable {q:Int} [IsFld q] {T5:Tree} {M:List (List (El q))} {R n c at':Nat}
theorem e53(hR:M.length=R)(hR2:R≤1000)(hn2:n≤1000)(hrow: ∀k,k<R→(nth M k).length=n)(hc:c<n)(hat:at'<R):
 ∀(d k:Nat),k+d=R→ ∀ks,
  vgoL W ⟨h40,[.tmp 4, .tmp 5, .tmp 6],0⟩ [1,5,8,10,11,90,91] c40L0 (.blk 2 [1,5,8,10]::ks) [(1, .own 0 []),(5, .own 1 []),(8, .fz true (pF q)),(10, .own 2 []),(11, .x (.int .i64 at')),(90, .x (.int .i64 R)),(91, .x (.int .i64 k))] [.sl 0 22 1 (lls 2 (((clrM M at' c).take k++M.drop k).map vs)),T5, .pt 3 [.v (.int .i64 c)]]=
   vgo W ⟨h40,[.tmp 4, .tmp 5, .tmp 6],0⟩ ks (VFr.of [(1, .own 0 []),(5, .own 1 []),(8, .fz true (pF q)),(10, .own 2 [])]) [.sl 0 22 1 (lls 2 ((clrM M at' c).map vs)),T5, .pt 3 [.v (.int .i64 c)]]
 |0,k,hk,ks=>by
  have hcl:=wq1 M at' c
  rw[oh9 (by omega),nw0,sp3 (by omega),sb5 c40L0.eq_def]
  simp(disch:=first|omega|fail) only[push_cast,seval,vrl,if_pos,if_neg]
 |d+1,k,hk,ks=>by
  have ih:=e53 hR hR2 hn2 hrow hc hat d (k+1) (by omega) ks
  have hcl:=wq1 M at' c
  have hck:=kc5 (M:=M) (at':=at') (c:=c) (k:=k) (by omega)
  have hY:((clrM M at' c).take k++M.drop k).length=R:=by simp only[j82,vb8,h50];omega
  have hYk:((clrM M at' c).take k++M.drop k)[k]? =some (nth M k):=by
   rw[lp1 (by rw[vb8];omega),vb8,xp9 (by omega),ob6,s96,zy9,gu3 (by omega)]
  have hYa:((clrM M at' c).take k++M.drop k)[at']? =some (nth M at'):=by
   by_cases h:at'<k
   ·rw[bu4 (by rw[vb8];omega),td4,if_pos h,kc5 (by omega),if_pos rfl]
   ·rw[lp1 (by rw[vb8];omega),vb8,xp9 (by omega),s96,show k+(at'-k)=at' by omega,gu3 (by omega)]
  have hYn:((clrM M at' c).take k++M.drop k).set k (if k=at' then nth M k else dx9 (wf (nth M k) c) (nth M k) (nth M at'))=(clrM M at' c).take (k+1)++M.drop (k+1):=by
   rw[v62 _ _ (by rw[vb8];omega),vb8,xp9 (by omega),ob6,gw1 (by omega:k<M.length),kv0,da3,hck,eh9];rfl
  rw[←hYn]at ih
  generalize (clrM M at' c).take k++M.drop k=Y at ih hY hYk hYa
  rw[e96,g71]at ih
  have h1:=mla (nl:=2) hYk
  have h2:=mla (nl:=2) hYa
  have h3:=iva (l:=nth M k) (i:=c) (by rw[hrow k (by omega)];exact hc)
  have hsame:Y.set k (nth M k)=Y:=em2 hYk
  have hlk:=hrow k (by omega)
  have hla:=hrow at' hat
  by_cases hka:k=at'
  ·rw[if_pos hka,hsame]at ih
   rw[←ih,sb5 c40L0.eq_def]
   simp(disch:=first|omega|fail) only[push_cast,seval,vrl,if_pos,if_neg,h1,h2,h3,hY,hlk]
  ·rw[if_neg hka]at ih
   by_cases hz:(wf (nth M k) c).v=0
   ·have hz0:wf (nth M k) c=0:=r57.1 hz
    rw[hz0,vt1 (by rw[hrow k (by omega),hrow at' hat]),hsame]at ih
    rw[←ih,sb5 c40L0.eq_def]
    simp(disch:=first|omega|fail) only[push_cast,seval,vrl,if_pos,if_neg,h1,h2,h3,hY,hlk,mr8 hz]
   ·have hl:=fun b b' nl nl'=>nq1 (b:=b) (b':=b') (nl:=nl) (nl':=nl') (c:=wf (nth M k) c) (r:=nth M k) (o:=nth M at') (by rw[hrow k (by omega),hrow at' hat]) (by rw[hrow k (by omega)];omega)
    have hs:(lls 2 (Y.map vs)).set k (.sl 2 3 1 (ivs (vs (dx9 (wf (nth M k) c) (nth M k) (nth M at')))))=lls 2 ((Y.set k (dx9 (wf (nth M k) c) (nth M k) (nth M at'))).map vs):=by rw[y81,fx9]
    have hj:((lls 2 (Y.map vs)).set k Tree.junk)[k]? =some Tree.junk:=j13 (by rw[qf0,q11];omega)
    rw[←ih,sb5 c40L0.eq_def]
    simp(disch:=first|omega|fail) only[push_cast,seval,vrl,if_pos,if_neg,h1,h2,h3,hY,hlk,nb8 hz,hl,hj,b17,List.set_set,hs]
theorem rb5{b b':Bool}{nl e:Nat}{r:List (El q)}{c:Nat}(hc:c<r.length)(hl:r.length≤1000):o24 W 61 [.fz b (.sl nl 0 1 (ivs (vs r))), .fz b' (.pt e [.v (.int .i64 c)])] []=some (.x (.bool (decide ((wf r c).v≠0))),[],[]):=by
 have h1:=iva (l:=r) (i:=c) hc
 rw[o10 rfl T61 rfl]
 unfold F61 c61
 simp(disch:=first|omega|fail) only[push_cast,seval,vrl,if_pos,if_neg,h1]
 by_cases h:(wf r c).v=0
 ·rw[ce5 h,lx1 (by simpa using h)];rfl
 ·rw[lx1 h,ce5 h];rfl
theorem aw7(P:List Nat)(c:Nat):pn P++[(c:Int)]=pn (P++[c]):=by unfold pn;rw[hm3];rfl
end
section
variable {q:Int} [IsFld q] {n R:Nat}
theorem x17{M0:List (List (El q))}(hR:M0.length=R)(hR0:0<R)(hR2:R≤1000)(hn2:n≤1000):
 ∀(d c:Nat) (M:List (List (El q))) (P:List Nat),c+d=n→RedI n M0 M P c→ ∃(M':List (List (El q))) (P':List Nat) (c':Nat),RedI n M0 M' P' c'∧(c'=n∨P'.length=M'.length)∧ ∀ks,
  vgoL W ⟨h40,[.tmp 4, .tmp 5, .tmp 6],0⟩ [1,5,8,10] c40L1 (.blk 0 [1,5]::ks) [(1, .own 0 []),(5, .own 1 []),(8, .fz true (pF q)),(10, .own 2 [])] [.sl 0 22 1 (lls 2 (M.map vs)), .sl 1 3 1 (ivs (pn P)), .pt 3 [.v (.int .i64 c)]]=
   vgo W ⟨h40,[.tmp 4, .tmp 5, .tmp 6],0⟩ ks (VFr.of [(1, .own 0 []),(5, .own 1 [])]) [.sl 0 22 1 (lls 2 (M'.map vs)), .sl 1 3 1 (ivs (pn P')), .pt 3 [.v (.int .i64 c')]]
 |0,c,M,P,hd,I=>by
  have hcn:c=n:=by omega
  have hMl:M.length=R:=by rw[I.len,hR]
  have h0:=mla (nl:=2) (M:=M) (i:=0) (gu3 (by omega))
  have h1:=I.len_nth (k:=0) (by omega)
  refine⟨M,P,c,I, .inl hcn,fun ks=> ?_⟩
  rw[sb5 c40L1.eq_def]
  simp(disch:=first|omega|fail) only[push_cast,seval,vrl,if_pos,if_neg,h0,h1]
 |d+1,c,M,P,hd,I=>by
  have hMl:M.length=R:=by rw[I.len,hR]
  have h0:=mla (nl:=2) (M:=M) (i:=0) (gu3 (by omega))
  have h1:=I.len_nth (k:=0) (by omega)
  have hpl:=I.pl
  have hpn:=im5 P
  by_cases hfull:P.length=M.length
  ·refine⟨M,P,c,I, .inr hfull,fun ks=> ?_⟩
   rw[sb5 c40L1.eq_def]
   simp(disch:=first|omega|fail) only[push_cast,seval,vrl,if_pos,if_neg,h0,h1,hpn]
  ·have IH:=x17 hR hR0 hR2 hn2 d (c+1)
   obtain⟨at',hat'⟩: ∃a,a=P.length:=⟨_,rfl⟩
   have hrow: ∀k,k<R→(nth M k).length=n:=fun k hk=>I.len_nth (by omega)
   obtain⟨m,hm⟩: ∃m,m=List.take (R-at') (List.drop at' (List.map vs M)):=⟨_,rfl⟩
   have hmm: ∀{j:Nat} {x:List Int},m[j]? =some x→at'+j<R∧x=vs (nth M (at'+j)):=fun{j x} h=>by
    have hj:=(ck5.1 h).1
    rw[hm,vb8,h50,q11]at hj
    rw[hm,td4,if_pos (by omega),s96,us5,gu3 (by omega)]at h
    exact⟨by omega,(pk4 h).symm⟩
   have hml:m.length=R-at':=by rw[hm,vb8,h50,q11];omega
   have hk: ∀(bl b:Bool) (e:Nat),∀r∈m,o24 W 61 [.fz bl (.sl 2 0 1 (ivs r)), .fz b (.pt e [.v (.int .i64 c)])] []=some (.x (.bool (decide (gi r c≠0))),[],[]):=fun bl b e r hr=>by
    obtain⟨j,hj⟩:=es9 hr
    obtain⟨h2,rfl⟩:=hmm hj
    have:=hrow (at'+j) h2
    rw[rb5 (by omega) (by omega),v86];rfl
   have hix:=fun bl nl b e=>aj5 (bl:=bl) (nl:=nl) (nr:=2) (m:=m) (k:=61) (b:=b) (t:= .pt e [.v (.int .i64 c)]) (p:=fun r=>decide (gi r c≠0)) (hk bl b e) rfl (by omega)
   rcases nu4 (fun r=>decide (gi r c≠0)) 0 m with⟨f1,f2⟩|⟨j,x,f1,f2,f3⟩
   ·rw[f1,hm]at hix
    have I':=I.skip (by omega) (fun k h1 h2=>by
     have hmk:vs (nth M k)∈m:=by
      refine vf6 (i:=k-at') ?_
      rw[hm,td4,if_pos (by omega),s96,us5,gu3 (by omega),show at'+(k-at')=k by omega];rfl
     have:=f2 _ hmk
     rw[v86]at this
     have h3:(ge (nth M k) c).v=0:=by simpa using this
     exact r57.1 h3)
    obtain⟨M',P',c',r1,r2,r3⟩:=IH M P (by omega) I'
    refine⟨M',P',c',r1,r2,fun ks=> ?_⟩
    have ih:=r3 ks
    rw[e96,g71]at ih
    rw[←hat']at hpn
    have hnn:((M.length:Int)-(at':Int)).toNat=R-at':=by omega
    rw[←ih,sb5 c40L1.eq_def]
    simp(disch:=first|omega|fail) only[push_cast,seval,vrl,if_pos,if_neg,h0,h1,hpn,hnn,hix]
   ·--there is one
    have hj:=(ck5.1 f2).1
    obtain⟨hR1,rfl⟩:=hmm f2
    rw[f1,e03,hm]at hix
    obtain⟨i,hi⟩: ∃i,i=at'+j:=⟨_,rfl⟩
    rw[←hi]at f3 hR1
    have hne:wf (nth M i) c≠0:=fun e=>by
     have h3:gi (vs (nth M i)) c≠0:=by simpa using f3
     rw[v86]at h3
     exact h3 (r57.2 e)
    have I':=qt5 I (by omega) (i:=i) (by omega) (by omega) hne
    rw[←hat']at I'
    have hscl:(sclM M at' i c).length=M.length:=np1
    have hsrow:=k39 (c:=c) (M:=M) (fun k hk=>hrow k (by omega)) (at':=at') (i:=i) (by omega) (by omega)
    have hin:=e53 (T5:= .sl 1 3 1 (ivs (pn P))) (M:=sclM M at' i c) (R:=R) (n:=n) (c:=c) (at':=at') (by omega) hR2 hn2 (fun k hk=>hsrow k (by omega)) (by omega) (by omega) R 0 (by omega)
    obtain⟨M',P',c',r1,r2,r3⟩:=IH (clrM (sclM M at' i c) at' c) (P++[c]) (by omega) I'
    refine⟨M',P',c',r1,r2,fun ks=> ?_⟩
    have ih:=r3 ks
    rw[e96,g71]at ih
    rw[←hat']at hpn
    have hia:(at':Int)+(j:Int)=(i:Int):=by omega
    have hnn:((M.length:Int)-(at':Int)).toNat=R-at':=by omega
    have hla:=hrow i (by omega)
    have hlb:=hrow at' (by omega)
    have h2:=mla (nl:=2) (M:=M) (i:=i) (gu3 (by omega))
    have h3:=mla (nl:=2) (M:=M) (i:=at') (gu3 (by omega))
    have hsw:(swpM M at' i).map vs=((M.map vs).set at' (vs (nth M i))).set i (vs (nth M at')):=by unfold swpM;rw[fx9,fx9]
    have hswl:(swpM M at' i).length=M.length:=p58
    have h4:=mla (nl:=2) (M:=swpM M at' i) (i:=at') (r:=nth M i) (by rw[gu3 (by omega),fj6 (by omega) (by omega)])
    have h5:=iva (l:=nth M i) (i:=c) (by omega)
    have e2:=rl7 hne
    have hsc:=fun b nl=>em7 (b:=b) (nl:=nl) (c:=FK.inv (wf (nth M i) c)) (r:=nth M i) (by omega)
    have hs2:(lls 2 ((swpM M at' i).map vs)).set at' (.sl 2 3 1 (ivs (vs (xf5 (FK.inv (wf (nth M i) c)) (nth M i)))))=lls 2 ((sclM M at' i c).map vs):=by unfold sclM;rw[y81,fx9]
    have hL:(lls 2 (M.map vs)).length=R:=by rw[qf0,q11];exact hMl
    simp only[e2]at hsc
    rw[si3,m51,sv4]at hin
    simp only[vx9]at hin
    have hpush:=aw7 P c
    have k3:((lls 2 ((swpM M at' i).map vs)).set at' Tree.junk)[at']? =some Tree.junk:=j13 (by rw[qf0,q11];omega)
    by_cases hii:i=at'
    ·have k1:((lls 2 (M.map vs)).set at' Tree.junk)[at']? =some Tree.junk:=j13 (by omega)
     subst hii
     have k2:(lls 2 (M.map vs)).set i (.sl 2 3 1 (ivs (vs (nth M i))))=lls 2 ((swpM M i i).map vs):=by
      rw[y81,hsw,List.set_set]
     rw[←ih,sb5 c40L1.eq_def]
     simp(disch:=first|omega|fail) only[push_cast,seval,vrl,if_pos,if_neg,h0,h1,hpn,hnn,hix,hia,h3,k1,List.set_set,k2,k3,h4,h5,hsc,hs2,hscl]
     rw[hMl,hin]
     simp(disch:=first|omega|fail) only[push_cast,seval,vrl,if_pos,if_neg,hpn,hpush]
    ·have k1:((lls 2 (M.map vs)).set at' Tree.junk)[i]? =some (.sl 2 3 1 (ivs (vs (nth M i)))):=by rw[b17 (by omega)];exact h2
     have k2:((((lls 2 (M.map vs)).set at' Tree.junk).set i Tree.junk).set at' (.sl 2 3 1 (ivs (vs (nth M i))))).set i (.sl 2 3 1 (ivs (vs (nth M at'))))=lls 2 ((swpM M at' i).map vs):=by
      rw[hsw,←y81,←y81]
      refine v63 fun k=> ?_
      simp only[gy2,kb7]
      by_cases c1:i=k<;>by_cases c2:at'=k<;>simp[c1,c2]
     rw[←ih,sb5 c40L1.eq_def]
     simp(disch:=first|omega|fail) only[push_cast,seval,vrl,if_pos,if_neg,h0,h1,hpn,hnn,hix,hia,h2,h3,k1,k2,k3,h4,h5,hsc,hs2,hscl,List.set_set]
     rw[hMl,hin]
     simp(disch:=first|omega|fail) only[push_cast,seval,vrl,if_pos,if_neg,hpn,hpush]
end
end Go.Proofs.Ytppbpgmdmiajcaa
namespace Go.Alg
section
variable {K:Type} [FK K]
theorem y46{α β:Type}(f:α×β→K): ∀(l:List α) (l':List β),l.length=l'.length→ ∀l2 l2',sumL ((l++l2).zip (l'++l2')) f=sumL (l.zip l') f+sumL (l2.zip l2') f:=fun l l' h l2 l2'=>by
 rw[List.zip_append h,up0]
theorem uj4{α β γ:Type}(g:β→γ)(f:α×γ→K): ∀(l:List α) (l':List β),sumL (l.zip (l'.map g)) f=sumL (l.zip l') (fun p=>f (p.1,g p.2))
 | [],_=>rfl
 |_::_,[]=>rfl
 |a::l,b::l'=>by rw[nf9,wl8,wl8,gb6,gb6,uj4 g f l l']
theorem hom: ∀(r:Nat) (S:List (Nat→K)),r<S.length→ ∃y:List K,y.length=S.length∧(∃a∈y,a≠0)∧ ∀j,j<r→sumL (y.zip S) (fun p=>p.1*p.2 j)=0
 |0,S,h=>by
  refine⟨List.replicate S.length 1,jv4,⟨1,List.mem_replicate.2 ⟨by omega,rfl⟩,ki7⟩,fun j hj=>absurd hj (Nat.not_lt_zero j)⟩
 |r+1,S,h=>by
  by_cases hs: ∃s∈S,s r≠0
  ·obtain⟨s,hs,hne⟩:=hs
   obtain⟨S1,S2,rfl⟩:=List.append_of_mem hs
   have hl:r<((S1++S2).map (fun(t:Nat→K) j=>t j-t r*FK.inv (s r)*s j)).length:=by
    simp only[q11,j82,q90]at h⊢;omega
   obtain⟨y,y1,⟨a,y2,y3⟩,y4⟩:=hom r _ hl
   rw[q11,j82]at y1
   have hsp:y=y.take S1.length++y.drop S1.length:=(qr5 _ _).symm
   have h1:(y.take S1.length).length=S1.length:=by rw[vb8];omega
   have h2:(y.drop S1.length).length=S2.length:=by rw[h50];omega
   generalize y.take S1.length=u at hsp h1
   generalize y.drop S1.length=w at hsp h2
   subst hsp
   have hsum: ∀(c:K) j,sumL ((u++c::w).zip (S1++s::S2)) (fun p=>p.1*p.2 j)=sumL ((u++w).zip (S1++S2)) (fun p=>p.1*p.2 j)+c*s j:=fun c j=>by
    rw[y46 _ _ _ h1,y46 _ _ _ h1,wl8,gb6,FK.add_assoc,FK.add_comm (sumL (w.zip S2) _)]
   refine⟨u++ -(sumL ((u++w).zip (S1++S2)) (fun p=>p.1*p.2 r)*FK.inv (s r))::w, ?_,⟨a, ?_,y3⟩,fun j hj=> ?_⟩
   ·simp only[j82,q90,h1,h2]
   ·simp only[bk2,r04]at y2⊢
    rcases y2 with y2|y2
    ·exact .inl y2
    ·exact .inr (.inr y2)
   ·rw[hsum]
    by_cases hjr:j=r
    ·subst hjr
     rw[neg_mul,FK.mul_assoc,inv_mul hne,FK.mul_one,FK.add_neg]
    ·have h3:=y4 j (by omega)
     rw[uj4]at h3
     have h4:sumL ((u++w).zip (S1++S2)) (fun p=>p.1*(p.2 j-p.2 r*FK.inv (s r)*s j))=sumL ((u++w).zip (S1++S2)) (fun p=>p.1*p.2 j)-sumL ((u++w).zip (S1++S2)) (fun p=>p.1*p.2 r)*FK.inv (s r)*s j:=by
      rw[←ue3,←ue3,←b15]
      refine ox7 fun p _=> ?_
      rw[mul_sub,←FK.mul_assoc,←FK.mul_assoc]
     have h3:sumL ((u++w).zip (S1++S2)) (fun p=>p.1*(p.2 j-p.2 r*FK.inv (s r)*s j))=0:=h3
     rw[h4]at h3
     rw[neg_mul,←sub_eq,h3]
  ·obtain⟨y,y1,y2,y3⟩:=hom r S (by omega)
   refine⟨y,y1,y2,fun j hj=> ?_⟩
   by_cases hjr:j=r
   ·subst hjr
    refine tx6 fun p hp=> ?_
    have:p.2 j=0:=ly6 fun hne=>hs ⟨p.2,(bn6 hp).2,hne⟩
    rw[this,mul_zero]
   ·exact y3 j (by omega)
def wu9(S:List (Nat→K)):Prop:= ∀y:List K,y.length=S.length→(∀k,sumL (y.zip S) (fun p=>p.1*p.2 k)=0)→ ∀a∈y,a=0
theorem tw2{R:List (Nat→K)}{w:Nat→K}(h:Span R w): ∃c:Nat→K,w=fun k=>sumN R.length fun j=>c j*(R.getD j fun _=>0) k:=by
 refine h.lin (P:=fun w=> ∃c:Nat→K,w=fun k=>sumN R.length fun j=>c j*(R.getD j fun _=>0) k) ?_ ?_ ?_
 ·exact⟨fun _=>0,by funext k;exact(ja4 fun j _=>zero_mul _).symm⟩
 ·rintro _ _ c ⟨c1,rfl⟩ ⟨c2,rfl⟩
  refine⟨fun j=>c1 j+c*c2 j, ?_⟩
  funext k
  show sumN _ _+c*sumN _ _=_
  unfold sumN
  rw[←ro9,←jl9]
  refine ox7 fun j _=> ?_
  rw[add_mul,FK.mul_assoc]
 ·intro r hr
  obtain⟨i,hi,rfl⟩:=zd4 hr
  refine⟨fun j=>if j=i then 1 else 0, ?_⟩
  funext k
  rw[xq2 hi fun j hj hne=>by show(if j=i then(1:K)else 0)*_=0;rw[if_neg hne,zero_mul]]
  show _=(if i=i then(1:K)else 0)*_
  rw[if_pos rfl,one_mul,os6,wu3 hi];rfl
theorem c82{R S:List (Nat→K)}(hS: ∀s∈S,Span R s)(hi:wu9 S):S.length≤R.length:=by
 refine ly6 fun hlt=> ?_
 have hc: ∀s:{s//s∈S},∃c:Nat→K,s.1=fun k=>sumN R.length fun j=>c j*(R.getD j fun _=>0) k:=fun s=>tw2 (hS s.1 s.2)
 obtain⟨C,hC⟩:=Classical.axiomOfChoice hc
 obtain⟨y,y1,⟨a,y2,y3⟩,y4⟩:=hom R.length (S.attach.map C) (by rw[q11,List.length_attach];omega)
 rw[q11,List.length_attach]at y1
 refine y3 (hi y y1 (fun k=> ?_) a y2)
 have h1:sumL (y.zip S) (fun p=>p.1*p.2 k)=sumL (y.zip S.attach) (fun p=>p.1*p.2.1 k):=by
  have h0:S=S.attach.map Subtype.val:=(List.attach_map_subtype_val S).symm
  conv=>lhs;rw[h0]
  rw[uj4]
 rw[h1]
 have h2: ∀p∈y.zip S.attach,p.1*p.2.1 k=sumN R.length fun j=>p.1*(C p.2 j*(R.getD j fun _=>0) k):=fun p _=>by
  have:=congrFun (hC p.2) k
  rw[this]
  unfold sumN
  rw[ro9]
 rw[ox7 h2]
 unfold sumN
 rw[j53]
 refine tx6 fun j hj=> ?_
 have h3:=y4 j (l16.1 hj)
 rw[uj4]at h3
 have h4:sumL (y.zip S.attach) (fun p=>p.1*(C p.2 j*(R.getD j fun _=>0) k))=sumL (y.zip S.attach) (fun p=>p.1*C p.2 j)*(R.getD j fun _=>0) k:=by
  rw[←ue3]
  exact ox7 fun p _=>(FK.mul_assoc _ _ _).symm
 have h3:sumL (y.zip S.attach) (fun p=>p.1*C p.2 j)=0:=h3
 rw[h4,h3,zero_mul]
theorem nu5{α β:Type}(f:α×β→K)(da:α)(db:β): ∀(l:List α) (l':List β),l.length=l'.length→sumL (l.zip l') f=sumN l.length fun i=>f (l.getD i da,l'.getD i db)
 | [],_,_=>rfl
 |a::l,b::l',h=>by
  rw[wl8,gb6,q90,c81,nu5 f da db l l' (by simpa using h)];rfl
theorem wx6{S:List (Nat→K)}(P:Nat→Nat)(h: ∀i j,i<S.length→j<S.length→(S.getD i fun _=>0) (P j)=if i=j then 1 else 0):wu9 S:=by
 intro y hy h0 a ha
 obtain⟨j,hj,rfl⟩:=zd4 ha
 have h1:=h0 (P j)
 rw[nu5 _ 0 (fun _=>0) y S hy,xq2 hj (fun i hi hne=>by show y.getD i 0*(S.getD i fun _=>0) (P j)=0;rw[h i j (by omega) (by omega),if_neg hne,mul_zero])]at h1
 have h1:y.getD j 0*(S.getD j fun _=>0) (P j)=0:=h1
 rw[h j j (by omega) (by omega),if_pos rfl,FK.mul_one,os6,wu3 hj]at h1
 exact h1
theorem Rref.indep{n:Nat}{A:List (Nat×(Nat→K))}(h:Rref n A):wu9 (rowsOf A):=by
 have hl:(rowsOf A).length=A.length:=by unfold rowsOf;rw[q11]
 refine wx6 (fun j=>(A.getD j (0,fun _=>0)).1) fun i j hi hj=> ?_
 rw[hl]at hi hj
 have h1:(rowsOf A).getD i (fun _=>0)=A[i].2:=by unfold rowsOf;rw[os6,us5,wu3 hi];rfl
 have h2:A.getD j (0,fun _=>0)=A[j]:=by rw[os6,wu3 hj];rfl
 rw[h1,h2]
 by_cases he:i=j
 ·subst he;rw[if_pos rfl];exact h.one _ (ws6 hi)
 ·rw[if_neg he]
  refine h.zero _ (ws6 hi) _ (ws6 hj) fun e=> ?_
  have:=List.pairwise_iff_getElem.1 h.nodup
  rcases Nat.lt_or_gt_of_ne he with hlt|hlt
  ·exact this i j hi hj hlt e
  ·exact this j i hj hi hlt e.symm
theorem Rref.le{n:Nat}{A:List (Nat×(Nat→K))}(h:Rref n A){R:List (Nat→K)}(hs: ∀w,Span (rowsOf A) w→Span R w):A.length≤R.length:=by
 have:=c82 (S:=rowsOf A) (R:=R) (fun s hs'=>hs s (.mem hs')) h.indep
 unfold rowsOf at this
 rwa [q11]at this
theorem Rref.ge{n:Nat}{A:List (Nat×(Nat→K))}(h:Rref n A){S:List (Nat→K)}(hi:wu9 S)(hs: ∀w∈S,Span (rowsOf A) w):S.length≤A.length:=by
 have:=c82 hs hi
 unfold rowsOf at this
 rwa [q11]at this
end
section
variable {K:Type} [FK K] {n:Nat}
def sk9(n:Nat)(A:List (Nat×List K)):List Nat:=(List.range n).filter fun c=> !(A.any fun a=>a.1==c)
theorem c77(n:Nat)(A:List (Nat×List K)): ∀d c,ez9 n A d c=((List.range' c d).filter fun c=> !(A.any fun a=>a.1==c)).map fun c=>xRow n c A
 |0,_=>rfl
 |d+1,c=>by
  rw[ez9,List.range'_succ,List.filter_cons,c77 n A d (c+1)]
  cases (A.any fun a=>a.1==c)<;>rfl
theorem pv1(n:Nat)(A:List (Nat×List K)):ez9 n A n 0=(sk9 n A).map fun c=>xRow n c A:=by
 rw[c77];unfold sk9;rw[List.range_eq_range']
section
variable {A:List (Nat×List K)} (hr:Rref n (toF A))
include hr
end
theorem dz5{A:List (Nat×(Nat→K))}(h:Rref n A){S:List (Nat→K)}(hs: ∀w,Span (rowsOf A) w→Span S w)(hl:S.length≤A.length):wu9 S:=by
 intro y hy h0 a ha
 refine ly6 fun hne=> ?_
 obtain⟨i,hi,rfl⟩:=zd4 ha
 have hsp:y=y.take i++y[i]::y.drop (i+1):=by rw[←gw1 hi,qr5]
 have hsS:S=S.take i++S[i]::S.drop (i+1):=by rw[←gw1 (by omega),qr5]
 have h1:(y.take i).length=(S.take i).length:=by rw[vb8,vb8,hy]
 generalize y.take i=y1 at hsp h1
 generalize y.drop (i+1)=y2 at hsp
 generalize y[i]=c at hsp hne
 generalize S.take i=S1 at hsS h1
 generalize S.drop (i+1)=S2 at hsS
 generalize S[i]=s at hsS
 subst hsp hsS
 have hsm:Span (S1++S2) s:=by
  have h2:s=fun k=>sumL ((y1++y2).zip (S1++S2)) fun p=>(-(FK.inv c)*p.1)*p.2 k:=by
   funext k
   have h3:=h0 k
   rw[y46 _ _ _ h1,wl8,gb6,←FK.add_assoc,FK.add_comm (sumL (y1.zip S1) _),FK.add_assoc,←y46 _ _ _ h1,FK.add_comm]at h3
   have h3:c*s k= -(sumL ((y1++y2).zip (S1++S2)) fun p=>p.1*p.2 k):=ut3 h3
   have h4:sumL ((y1++y2).zip (S1++S2)) (fun p=>(-(FK.inv c)*p.1)*p.2 k)=FK.inv c* -(sumL ((y1++y2).zip (S1++S2)) fun p=>p.1*p.2 k):=by
    rw[mul_neg,←neg_mul,←ro9]
    exact ox7 fun p _=>FK.mul_assoc _ _ _
   rw[h4,←h3,←FK.mul_assoc,inv_mul hne,one_mul]
  rw[h2]
  exact Span.sum (f:=fun p:K×(Nat→K)=>p.2) fun p hp=> .mem (bn6 hp).2
 have:=h.le (R:=S1++S2) fun w hw=>(hs w hw).trans fun r hr=>by
  rcases bk2.1 hr with hr|hr
  ·exact .mem (bk2.2 (.inl hr))
  ·rcases r04.1 hr with rfl|hr
   ·exact hsm
   ·exact .mem (bk2.2 (.inr hr))
 simp only[j82,q90]at this hl
 omega
theorem ew4{M:List (List K)}(hM: ∀m∈M,m.length=n):(redR M).length≤M.length:=by
 obtain⟨r1,r2,r3⟩:=bi2 hM
 have:=r1.le fun w hw=>(r3 w).1 hw
 unfold toF at this
 simpa using this
theorem p53{M:List (List K)}(hM: ∀m∈M,m.length=n)(h:(redR M).length=M.length):wu9 (M.map wf):=by
 obtain⟨r1,r2,r3⟩:=bi2 hM
 exact dz5 r1 (fun w hw=>(r3 w).1 hw) (by unfold toF;simp[h])
theorem ee0{M:List (List K)}(hM: ∀m∈M,m.length=n)(h:wu9 (M.map wf)):M.length≤(redR M).length:=by
 obtain⟨r1,r2,r3⟩:=bi2 hM
 have:=r1.ge h fun w hw=>(r3 w).2 (.mem hw)
 unfold toF at this
 simpa using this
theorem n97(l:List K)(x:K)(k:Nat):wf (l++[x]) k=if k=l.length then x else wf l k:=by
 unfold wf
 rw[os6,os6]
 by_cases h:k<l.length
 ·rw[bu4 h,if_neg (by omega)]
 ·rw[lp1 (by omega)]
  by_cases he:k=l.length
  ·rw[if_pos he,he,ob6];rfl
  ·rw[if_neg he,pb5 (by simp;omega),pb5 (by omega)]
def f05(n k:Nat):List K:=(List.replicate n 0).set k 1
theorem sm5(n k:Nat):(f05 n k:List K).length=n:=by unfold f05;simp
theorem ez3{n k:Nat}(hk:k<n)(i:Nat):wf (f05 n k:List K) i=if i=k then 1 else 0:=by
 unfold f05
 rw[wf_set (by simpa using hk)]
 congr 1
 unfold wf
 rw[os6,List.getElem?_replicate]
 split<;>rfl
end
end Go.Alg
namespace Go.Proofs.Ytppbpgmdmiajcaa
open Go.Am Go.Vm Go.Alg
section
variable {q:Int} {b:Bool} {nl nr:Nat}
theorem e58(he:matE q []=0):o24 W 40 [.x (.int .i64 q), .fz b (.sl nl 0 1 [])] []=some (.tup [.x (.slice none 0 0), .own 0 [], .x (.int .i64 0)],[.sl 1 3 1 []],[]):=by
 have e1:=fun b nl=>or9 (q:=q) (M:=[]) (b:=b) (nl:=nl) (nr:=0)
 simp only[em1,he]at e1
 rw[o10 rfl T40 rfl]
 unfold F40 c40
 simp(disch:=first|omega|fail) only[push_cast,seval,vrl,if_pos,if_neg,e1]
theorem ru4 [IsFld q]{N:List (List (El q))}{n:Nat}(hr: ∀r∈N,r.length=n): ∀r∈N.map vs,r.length=n:=fun c hc=>by
 obtain⟨r,hr',rfl⟩:=vf1.1 hc
 rw[fi2,hr r hr']
theorem sy6 [IsFld q]{N:List (List (El q))}{n:Nat}(hl:N.length≤64)(hr: ∀r∈N,r.length=n)(h0:0<n)(hn:n≤64):matE q (N.map vs)=0:=by
 obtain⟨d,hd⟩:=gh1 (q:=q)
 unfold matE
 rw[hd]
 show(if 64<(N.map vs).length then 4 else _)=(0:Int)
 rw[if_neg (by rw[q11];omega),kn4]
 have: ∀L:List (List (El q)),(∀r∈L,r∈N)→wb9 q (nth N 0).length (L.map vs)=0:=by
  intro L
  induction L with
  |nil=>intro _;rfl
  |cons r L ih=>
   intro h
   have h1:r∈N:=h r (by simp)
   have h2:(nth N 0).length=n:=by
    cases N with
    |nil=>cases h1
    |cons a N=>exact hr a (by simp)
   rw[nf9,wb9,if_pos,ih fun x hx=>h x (by simp[hx])]
   unfold rowE
   rw[fi2,hr r h1,h2,if_neg (by omega),if_neg (by omega),if_neg]
   intro h3
   obtain⟨z,hz,h4⟩:=List.any_eq_true.1 h3
   obtain⟨x,hx,rfl⟩:=vf1.1 hz
   rw[x.ok]at h4
   cases h4
 exact this N fun r h=>h
theorem lq3 [IsFld q]{N:List (List (El q))}{n:Nat}(h0:0<N.length)(hl:N.length≤64)(hr: ∀r∈N,r.length=n)(hn0:0<n)(hn:n≤64):
 o24 W 40 [.x (.int .i64 q), .fz b (.sl nl 0 1 (lvs nr (N.map vs)))] []=some (.tup [.own 0 [], .own 1 [], .x (.int .i64 0)],[.sl 0 22 1 (lls 2 (pvR (redR N))), .sl 1 3 1 (ivs (pvP (redR N)))],[]):=by
 have he:=sy6 hl hr hn0 hn
 have hrv:=ru4 hr
 have e1:=fun b nl nr=>or9 (q:=q) (M:=N.map vs) (b:=b) (nl:=nl) (nr:=nr)
 simp only[he]at e1
 have e2:=fun b nl nr=>y80 (b:=b) (nl:=nl) (nr:=nr) (M:=N.map vs) (fun r hr'=>by have:=hrv r hr';omega) (by rw[q11];omega)
 obtain⟨M',P',c',I,hd,e3⟩:=x17 (M0:=N) (n:=n) (R:=N.length) rfl h0 (by omega) (by omega) n 0 N [] (by omega) (RedI.start hr)
 have hout:=I.end' hd hr
 have hpl:=I.pl
 have hfst:=ua6 hpl
 have hsnd:=hn3 hpl
 rw[hout]at hfst hsnd
 have hP:pn P'=pvP (redR N):=by rw[←hfst];unfold pn pvP;rw[uk6];rfl
 have hPl:P'.length=(redR N).length:=by rw[←hfst,q11]
 have hR:(M'.map vs).take (redR N).length=pvR (redR N):=by
  rw[←hPl,←iw6,←hsnd];unfold pvR;rw[uk6];rfl
 have hMl:M'.length=N.length:=I.len
 rw[hP]at e3
 have hpl2:=ga9 (redR N)
 have hnil:ivs (pn [])=[]:=rfl
 rw[hnil]at e3
 simp only[vx9]at e3
 have htk:(lls 2 (M'.map vs)).take (redR N).length=lls 2 (pvR (redR N)):=by rw[mm0,hR]
 rw[o10 rfl T40 rfl]
 unfold F40 c40
 simp(disch:=first|omega|fail) only[push_cast,seval,vrl,if_pos,if_neg,e1,e2]
 rw[e3]
 simp(disch:=first|omega|fail) only[push_cast,seval,vrl,if_pos,if_neg,hpl2,htk]
end
section
variable {l:List Int} {nl:Nat} {b:Bool} {x:Int}
theorem a02(hl:l.length≤9223372036854775807): ∀(n i:Nat),i+n=l.length→ ∀ks,
 vgoL W ⟨hNo,[.tmp 4],0⟩ [0,1,7,8] c65L0 (.blk 0 []::ks) [(0, .fz b (.sl nl 0 1 (ivs l))),(1, .x (.int .i64 x)),(7, .x (.int .i64 l.length)),(8, .x (.int .i64 i))] []=
  if fidx (fun y=>decide (x=y)) i (l.drop i)= -1 then vgo W ⟨hNo,[.tmp 4],0⟩ ks (VFr.of []) []else some (.x (.int .i64 (fidx (fun y=>decide (x=y)) i (l.drop i))),[],[])
 |0,i,hi,ks=>by
  rw[oh9 (by omega),fidx,if_pos rfl,sb5 c65L0.eq_def]
  simp(disch:=first|omega|fail) only[push_cast,seval,vrl,if_pos,if_neg]
 |n+1,i,hi,ks=>by
  have ih:=a02 hl n (i+1) (by omega) ks
  obtain⟨a,ha⟩:=ge6 (l:=l) (i:=i) (by omega)
  have h1:=iat ha
  rw[i62 ha,fidx]
  rw[e96,g71]at ih
  by_cases hp:x=a
  ·rw[if_pos (ce5 hp),if_neg (by omega),sb5 c65L0.eq_def]
   simp(disch:=first|omega|fail) only[push_cast,seval,vrl,if_pos,if_neg,h1,mr8 hp]
  ·simp only[lx1 hp,o35,wj1]
   rw[←ih,sb5 c65L0.eq_def]
   simp(disch:=first|omega|fail) only[push_cast,seval,vrl,if_pos,if_neg,h1,nb8 hp]
theorem bd9(hl:l.length≤9223372036854775807):
 o24 W 65 [.fz b (.sl nl 0 1 (ivs l)), .x (.int .i64 x)] []=some (.x (.int .i64 (fidx (fun y=>decide (x=y)) 0 l)),[],[]):=by
 have e:=fun ks=>a02 (nl:=nl) (b:=b) (x:=x) hl l.length 0 (by omega) ks
 simp only[vx9,si3,sv4,rp2,lz6,x25,gw5,fo5]at e
 rw[o10 rfl T65 rfl]
 unfold F65 c65
 simp(disch:=first|omega|fail) only[push_cast,seval,vrl,if_pos,if_neg]
 rw[e]
 by_cases h:fidx (fun y=>decide (x=y)) 0 l= -1
 ·rw[if_pos h,h]
  simp(disch:=first|omega|fail) only[push_cast,seval,vrl,if_pos,if_neg]
 ·rw[if_neg h]
theorem o94(hl:l.length≤9223372036854775807):
 o24 W 41 [.fz b (.sl nl 0 1 (ivs l)), .x (.int .i64 x)] []=some (.x (.bool (l.any fun y=>decide (x=y))),[],[]):=by
 have e:=fun b nl=>bd9 (nl:=nl) (b:=b) (x:=x) hl
 rw[o10 rfl T41 rfl]
 unfold F41 c41
 rw[←tl6 _ 0 l]
 simp(disch:=first|omega|fail) only[push_cast,seval,vrl,if_pos,if_neg,e]
end
section
variable {q:Int} {b:Bool} {nl nr n6 n7:Nat}
section
variable [IsFld q] {A:List (Nat×List (El q))} {N:Nat} {K:List (List Int)}
theorem up4(hA: ∀a∈A,a.2.length=N∧a.1<N)(hAl:A.length≤1000)(hN:N≤900){c:Nat}(hc:c<N){T9:Tree}:
 ∀(n k:Nat) (x:List (El q)),k+n=A.length→x.length=N→ ∀ks,
  vgoL W ⟨h20,[.tmp 4, .tmp 5],0⟩ [0,1,6,7,9,11,12,13,39,40,54,55,56] c20L0 (.blk 2 [0,1,6,7,9,11,13,39,40]::ks) [(0, .x (.int .i64 q)),(1, .fz b (.sl nl 0 1 (lvs nr K))),(6, .own 0 []),(7, .own 1 []),(9, .fz true (pF q)),(11, .own 2 []),(12, .x (.int .i64 c)),(13, .own 3 []),(39, .x (.int .i64 N)),(40, .x (.int .i64 c)),(54, .own 1 []),(55, .x (.int .i64 A.length)),(56, .x (.int .i64 k))] [.sl n6 22 1 (lls 2 (pvR A)), .sl n7 3 1 (ivs (pvP A)),T9, .sl 0 3 1 (ivs (vs x))]=
   vgo W ⟨h20,[.tmp 4, .tmp 5],0⟩ ks (VFr.of [(0, .x (.int .i64 q)),(1, .fz b (.sl nl 0 1 (lvs nr K))),(6, .own 0 []),(7, .own 1 []),(9, .fz true (pF q)),(11, .own 2 []),(13, .own 3 []),(39, .x (.int .i64 N)),(40, .x (.int .i64 c))]) [.sl n6 22 1 (lls 2 (pvR A)), .sl n7 3 1 (ivs (pvP A)),T9, .sl 0 3 1 (ivs (vs (setN c (A.drop k) x)))]
 |0,k,x,hk,hx,ks=>by
  have h1:=nu3 A
  rw[oh9 (by omega),setN,sb5 c20L0.eq_def]
  simp(disch:=first|omega|fail) only[push_cast,seval,vrl,if_pos,if_neg,h1]
 |n+1,k,x,hk,hx,ks=>by
  obtain⟨a,ha⟩:=ge6 (l:=A) (i:=k) (by omega)
  obtain⟨hal,hap⟩:=hA a (vf6 ha)
  have ih:=up4 hA hAl hN hc (T9:=T9) n (k+1) (x.set a.1 (-wf a.2 c)) (by omega) (by rw[kb7];exact hx) ks
  have h1:=nu3 A
  have h2:=ga9 A
  have h3:=x08 ha
  have h4:=bx6 ha
  have h5:=iva (l:=a.2) (i:=c) (by omega)
  have hs:=g52 x a.1 (-wf a.2 c)
  rw[tg5]at hs
  rw[e96,g71]at ih
  rw[i62 ha,setN,←ih,sb5 c20L0.eq_def]
  simp(disch:=first|omega|fail) only[push_cast,seval,vrl,if_pos,if_neg,h1,h2,h3,h4,h5,hs]
theorem lu0{α:Type}(A:List (Nat×α))(c:Nat):((pvP A).any fun y=>decide ((c:Int)=y))=A.any fun a=>a.1==c:=by
 rw[←tc4]
 congr 1
 funext y
 exact decide_eq_decide.2 eq_comm
theorem xl7(hA: ∀a∈A,a.2.length=N∧a.1<N)(hAl:A.length≤1000)(hN:N≤900)(hK:0<K.length)(hK0:(nth K 0).length=N):
 ∀(d c:Nat) (L:List (List (El q))),c+d=N→L.length≤c→ ∀ks,
  vgoL W ⟨h20,[.tmp 4, .tmp 5],0⟩ [0,1,6,7,9,11,39,40] c20L1 (.blk 0 [0,11]::ks) [(0, .x (.int .i64 q)),(1, .fz b (.sl nl 0 1 (lvs nr K))),(6, .own 0 []),(7, .own 1 []),(9, .fz true (pF q)),(11, .own 2 []),(39, .x (.int .i64 N)),(40, .x (.int .i64 c))] [.sl n6 22 1 (lls 2 (pvR A)), .sl n7 3 1 (ivs (pvP A)), .sl 1 22 1 (lls 2 (L.map vs))]=
   vgo W ⟨h20,[.tmp 4, .tmp 5],0⟩ ks (VFr.of [(0, .x (.int .i64 q)),(11, .own 2 [])]) [.sl n6 22 1 (lls 2 (pvR A)), .sl n7 3 1 (ivs (pvP A)), .sl 1 22 1 (lls 2 ((L++ez9 N A d c).map vs))]
 |0,c,L,hc,hL,ks=>by
  rw[ez9,nw0,sb5 c20L1.eq_def]
  simp(disch:=first|omega|fail) only[push_cast,seval,vrl,if_pos,if_neg]
 |d+1,c,L,hc,hL,ks=>by
  have IH:=xl7 hA hAl hN hK hK0 d (c+1)
  have h1:=nu3 A
  have h2:=ga9 A
  have e1:=fun b nl=>o94 (b:=b) (nl:=nl) (l:=pvP A) (x:=(c:Int)) (by omega)
  rw[lu0]at e1
  rw[ez9]
  by_cases hin:(A.any fun a=>a.1==c)=true
  ·rw[if_pos hin]
   rw[hin]at e1
   have ih:=IH L (by omega) (by omega) ks
   rw[e96,g71]at ih
   rw[←ih,sb5 c20L1.eq_def]
   simp(disch:=first|omega|fail) only[push_cast,seval,vrl,if_pos,if_neg,e1]
  ·rw[if_neg hin]
   have hin':(A.any fun a=>a.1==c)=false:=Bool.eq_false_iff.mpr hin
   rw[hin']at e1
   have ih:=IH (L++[xRow N c A]) (by omega) (by simp;omega) ks
   rw[eh9,ii2,hm3,e96,g71]at ih
   obtain⟨k0,hk0⟩:=ge6 (l:=K) (i:=0) hK
   have h3:=lat (nl:=nr) hk0
   have h4:=xr8 hk0
   rw[h4]at hK0
   have e:=fun T9 ks=>up4 (K:=K) (b:=b) (nl:=nl) (nr:=nr) (n6:=n6) (n7:=n7) (T9:=T9) hA hAl hN (c:=c) (by omega) A.length 0 ((List.replicate N (0:El q)).set c 1) (by omega) (by simp) ks
   have hz:(List.replicate N (0:Int)).set c 1=vs ((List.replicate N (0:El q)).set c 1):=by rw[←g52,←qj2];rfl
   simp only[vx9,si3,sv4,rp2,lz6,x25,gw5,fo5]at e
   have hx:setN c A ((List.replicate N (0:El q)).set c 1)=xRow N c A:=rfl
   rw[hx]at e
   rw[←ih,sb5 c20L1.eq_def]
   simp(disch:=first|omega|fail) only[push_cast,seval,vrl,if_pos,if_neg,e1,h2,h3,hK0,hz]
   rw[e]
   simp(disch:=first|omega|fail) only[push_cast,seval,vrl,if_pos,if_neg]
end
theorem ss9 [IsFld q]{N:List (List (El q))}{n:Nat}(h0:0<N.length)(hl:N.length≤64)(hr: ∀r∈N,r.length=n)(hn0:0<n)(hn:n≤64):
 o24 W 20 [.x (.int .i64 q), .fz b (.sl nl 0 1 (lvs nr (N.map vs)))] []=some (.tup [.own 0 [], .x (.int .i64 0)],[.sl (if ez9 n (redR N) n 0=[]then 1 else 0) 22 1 (lls 2 (pvR (zt5 n N)))],[]):=by
 have e1:=fun b nl nr=>lq3 (b:=b) (nl:=nl) (nr:=nr) h0 hl hr hn0 hn
 obtain⟨r1,r2,r3⟩:=bi2 hr
 have hAA: ∀a∈redR N,a.2.length=n∧a.1<n:=fun a ha=>⟨r2 a ha,r1.lt (a.1,wf a.2) (xe6.2 ⟨a,ha,rfl⟩)⟩
 have hAl:(redR N).length≤1000:=by have:=ew4 hr;omega
 obtain⟨k0,hk0⟩:=ge6 (l:=N) (i:=0) h0
 have h3:=mva (nl:=nr) hk0
 have hk0l:=hr k0 (vf6 hk0)
 have e2:=fun n6 n7 ks=>xl7 (K:=N.map vs) (b:=b) (nl:=nl) (nr:=nr) (n6:=n6) (n7:=n7) hAA hAl (by omega) (by rw[q11];exact h0) (by rw[kn4,xr8 hk0];exact hk0l) n 0 [] (by omega) (by simp) ks
 simp only[m51]at e2
 simp only[vx9,si3,sv4,rp2,lz6,x25,gw5,fo5]at e2
 have hnl:=to9 n (redR N) n 0
 rw[o10 rfl T20 rfl]
 unfold F20 c20
 simp(disch:=first|omega|fail) only[push_cast,seval,vrl,if_pos,if_neg,e1,h3,hk0l]
 rw[e2]
 by_cases hT:ez9 n (redR N) n 0=[]
 ·have e3:=fun b nl=>e58 (q:=q) (b:=b) (nl:=nl) (by have:=sy6 (q:=q) (N:=[]) (n:=n) (by simp) (by simp) hn0 hn;exact this)
  have h0:zt5 n N=[]:=by unfold zt5;rw[hT];rfl
  rw[if_pos hT,hT,h0,gw5,x25]
  simp(disch:=first|omega|fail) only[push_cast,seval,vrl,if_pos,if_neg,e3]
  rfl
 ·have hT0:0<(ez9 n (redR N) n 0).length:=py7.2 hT
  have e3:=fun b nl nr=>lq3 (b:=b) (nl:=nl) (nr:=nr) hT0 (by omega) (sg4 n (redR N) n 0) hn0 hn
  rw[if_neg hT]
  simp(disch:=first|omega|fail) only[push_cast,seval,vrl,if_pos,if_neg,e3]
  rfl
end
end Go.Proofs.Ytppbpgmdmiajcaa
namespace Go.Alg
section
variable {K:Type} [FK K] {n:Nat}
def p78(A:List (Nat×List K)):List (List K):=A.map Prod.snd
theorem ol1(A:List (Nat×List K)):(p78 A).length=A.length:=by simp[p78]
theorem z42(A:List (Nat×List K)):(p78 A).map wf=rowsOf (toF A):=by
 unfold p78 rowsOf toF;rw[uk6,uk6];rfl
theorem zu4{A:List (Nat×List K)}(h: ∀a∈A,a.2.length=n): ∀r∈p78 A,r.length=n:=fun r hr=>by
 obtain⟨a,ha,rfl⟩:=vf1.1 hr
 exact h a ha
theorem ej4: ∀{A B:List (Nat×List K)},(∀a∈A,a.2.length=n)→(∀a∈B,a.2.length=n)→toF A=toF B→A=B
 | [],[],_,_,_=>rfl
 | [],b::B,_,_,h=>by cases h
 |a::A,[],_,_,h=>by cases h
 |a::A,b::B,hA,hB,h=>by
  unfold toF at h
  rw[nf9,nf9,il0,br6]at h
  have h1:a=b:=Prod.ext h.1.1 (ou8 (by rw[hA a (by simp),hB b (by simp)]) h.1.2)
  rw[h1,ej4 (fun c hc=>hA c (by simp[hc])) (fun c hc=>hB c (by simp[hc])) h.2]
theorem rp5{M N:List (List K)}(hM: ∀m∈M,m.length=n)(hN: ∀m∈N,m.length=n)(h: ∀w,Span (M.map wf) w↔Span (N.map wf) w):redR M=redR N:=by
 obtain⟨a1,a2,a3⟩:=bi2 hM
 obtain⟨b1,b2,b3⟩:=bi2 hN
 exact ej4 a2 b2 (a1.uniq b1 fun w=>by rw[a3,b3,h])
theorem jr2{A:List (Nat×List K)}(h:Rref n (toF A))(hl: ∀a∈A,a.2.length=n):redR (p78 A)=A:=by
 obtain⟨b1,b2,b3⟩:=bi2 (zu4 hl)
 exact ej4 b2 hl (b1.uniq h fun w=>by rw[b3,z42])
theorem gz7{M:List (List K)}(hM: ∀m∈M,m.length=n):redR (p78 (redR M))=redR M:=by
 obtain⟨a1,a2,_⟩:=bi2 hM
 exact jr2 a1 a2
theorem cx8{M:List (List K)}(hM: ∀m∈M,m.length=n):zt5 n (p78 (redR M))=zt5 n M:=by
 unfold zt5;rw[gz7 hM]
def pn7(n:Nat):List (Nat×List K):=(List.range n).map fun c=>(c,f05 n c)
theorem um5:Rref n (toF (pn7 n:List (Nat×List K))):=by
 have hm: ∀x∈toF (pn7 n:List (Nat×List K)),∃c,c<n∧x=(c,wf (f05 n c)):=fun x hx=>by
  obtain⟨a,ha,rfl⟩:=xe6.1 hx
  obtain⟨c,hc,rfl⟩:=vf1.1 ha
  exact⟨c,l16.1 hc,rfl⟩
 refine⟨?_,fun x hx=> ?_,fun x hx k hk=> ?_,fun x hx=> ?_,fun x hx k hk=> ?_,fun x hx y hy h=> ?_⟩
 ·unfold toF pn7
  rw[uk6,o71]
  exact List.pairwise_lt_range
 ·obtain⟨c,hc,rfl⟩:=hm x hx
  show wf (f05 n c:List K) c=1
  rw[ez3 hc,if_pos rfl]
 ·obtain⟨c,hc,rfl⟩:=hm x hx
  show wf (f05 n c:List K) k=0
  have hk':k<c:=hk
  rw[ez3 hc,if_neg (by omega)]
 ·obtain⟨c,hc,rfl⟩:=hm x hx
  exact hc
 ·obtain⟨c,hc,rfl⟩:=hm x hx
  exact ez8 (by rw[sm5];exact hk)
 ·obtain⟨c,hc,rfl⟩:=hm x hx
  obtain⟨d,hd,rfl⟩:=hm y hy
  show wf (f05 n c:List K) d=0
  have h':c≠d:=h
  rw[ez3 hc,if_neg fun e=>h' e.symm]
theorem xt7{M:List (List K)}(h:redR M=[]):zt5 n M=pn7 n:=by
 have h1:ez9 n ([]:List (Nat×List K)) n 0=p78 (pn7 n):=by
  rw[pv1]
  unfold sk9 p78 pn7
  rw[uk6]
  have:(List.range n).filter (fun c=> !(([]:List (Nat×List K)).any fun a=>a.1==c))=List.range n:=by
   rw[List.filter_eq_self];intro c _;rfl
  rw[this]
  refine ny8 fun c _=> ?_
  show xRow n c []=f05 n c
  unfold xRow setN f05
  rfl
 unfold zt5
 rw[h,h1]
 exact jr2 um5 fun a ha=>by
  obtain⟨c,_,rfl⟩:=vf1.1 ha
  exact sm5 n c
end
end Go.Alg
namespace Go.Proofs.Ytppbpgmdmiajcaa
open Go.Am Go.Vm Go.Alg
theorem lo1{q:Int}(A:List (Nat×List (El q))):pvR A=(p78 A).map vs:=by unfold pvR p78;rw[uk6];rfl
theorem gb0{q:Int}{A:List (Nat×List (El q))}:(p78 A).length=A.length:=by unfold p78;rw[q11]
section
variable {q n:Int} {nl nr:Nat} {M:List (List Int)}
end
section
variable {q:Int} [IsFld q] {k nl nr:Nat} {N:List (List (El q))}
theorem z60{q n:Int}{M:List (List Int)}(h:gi9 q n M=0):matE q M=0:=by
 unfold gi9 at h
 split at h
 ·cases h
 ·split at h
  ·cases h
  ·split at h
   ·rename_i h2;exact h2
   ·rename_i h2;exact absurd h h2
theorem ob1(he:gi9 q k (N.map vs)=0)(h0:0<k)(hk:k≤64)(hl:N.length≤64)(hr: ∀r∈N,r.length=k):
 o24 W 19 [.agg [.x (.int .i64 q), .x (.int .i64 k), .fz true (.sl nl 0 1 (lvs nr (N.map vs)))]] []=some (.tup [.agg [.x (.int .i64 q), .x (.int .i64 k), .own 0 []], .x (.int .i64 0)],[.sl 2 22 1 (lls 2 (pvR (redR N)))],[]):=by
 have e1:=fun nl nr=>um1 (q:=q) (n:=k) (M:=N.map vs) (nl:=nl) (nr:=nr)
 simp only[he]at e1
 by_cases hN:N=[]
 ·subst hN
  have e1:=fun nl=>e1 nl 0
  have e2:=fun b nl=>e58 (b:=b) (nl:=nl) (z60 he)
  simp only[gw5,em1]at e1
  rw[gw5,em1,o10 rfl T19 rfl]
  unfold F19 c19
  simp(disch:=first|omega|fail) only[push_cast,seval,vrl,if_pos,if_neg,e1,e2]
  rfl
 ·have e2:=fun b nl nr=>lq3 (b:=b) (nl:=nl) (nr:=nr) (py7.2 hN) hl hr h0 hk
  rw[o10 rfl T19 rfl]
  unfold F19 c19
  simp(disch:=first|omega|fail) only[push_cast,seval,vrl,if_pos,if_neg,e1,e2]
theorem r52(h0:0<k)(hk:k≤64){T:Tree}: ∀(d i:Nat),i+d=k→ ∀ks,
 vgoL W ⟨hNo,[(.cell 2 true 3), .tmp 3],0⟩ [1,2,23,24] c6L0 (.blk 0 [1,2]::ks) [(1, .own 0 []),(2, .own 1 []),(23, .x (.int .i64 k)),(24, .x (.int .i64 i))] [.pt 25 [.v (.int .i64 q), .v (.int .i64 k), .sl 2 22 1 (lls 2 ((p78 (pn7 k:List (Nat×List (El q)))).map vs|>.take i))],T]=
  vgo W ⟨hNo,[(.cell 2 true 3), .tmp 3],0⟩ ks (VFr.of [(1, .own 0 []),(2, .own 1 [])]) [.pt 25 [.v (.int .i64 q), .v (.int .i64 k), .sl 2 22 1 (lls 2 ((p78 (pn7 k:List (Nat×List (El q)))).map vs))],T]
 |0,i,hi,ks=>by
  rw[sp3 (by rw[q11,gb0];unfold pn7;simp;omega),sb5 c6L0.eq_def]
  simp(disch:=first|omega|fail) only[push_cast,seval,vrl,if_pos,if_neg]
 |d+1,i,hi,ks=>by
  have ih:=r52 h0 hk (T:=T) d (i+1) (by omega) ks
  have hg:((p78 (pn7 k:List (Nat×List (El q)))).map vs)[i]? =some (vs (f05 k i:List (El q))):=by
   unfold p78 pn7
   rw[uk6,uk6,us5,iq9 (by omega)];rfl
  have hu:(List.replicate k (0:Int)).set i 1=vs (f05 k i:List (El q)):=by unfold f05;rw[←g52,←qj2];rfl
  have hl:((p78 (pn7 k:List (Nat×List (El q)))).map vs).length=k:=by rw[q11,gb0];unfold pn7;simp
  rw[e96,g71,da3,hg,Option.toList_some]at ih
  rw[←ih,sb5 c6L0.eq_def]
  simp(disch:=first|omega|fail) only[push_cast,seval,vrl,if_pos,if_neg,hu,hl]
theorem x92(he:gi9 q k (N.map vs)=0)(h0:0<k)(hk:k≤64)(hl:N.length≤64)(hr: ∀r∈N,r.length=k):
 o24 W 6 [.agg [.x (.int .i64 q), .x (.int .i64 k), .fz true (.sl nl 0 1 (lvs nr (N.map vs)))]] []=some (.tup [.agg [.x (.int .i64 q), .x (.int .i64 k), .own 0 []], .x (.int .i64 0)],[.sl 2 22 1 (lls 2 (pvR (zt5 k N)))],[]):=by
 have e1:=fun nl nr=>ob1 (nl:=nl) (nr:=nr) he h0 hk hl hr
 have h1:=nu3 (redR N)
 by_cases hz:redR N=[]
 ·have e2:=fun T ks=>r52 (q:=q) (k:=k) h0 hk (T:=T) k 0 (by omega) ks
  rw[si3]at e2
  simp only[vx9]at e2
  rw[hz,show pvR ([]:List (Nat×List (El q)))=[]from rfl]at e1
  rw[lo1,xt7 hz,o10 rfl T6 rfl]
  unfold F6 c6
  simp(disch:=first|omega|fail) only[push_cast,seval,vrl,if_pos,if_neg,e1]
  rw[e2]
  simp(disch:=first|omega|fail) only[push_cast,seval,vrl,if_pos,if_neg]
 ·have hp:0<(redR N).length:=py7.2 hz
  obtain⟨r1,r2,_⟩:=bi2 hr
  have hle:=ew4 hr
  have e2:=fun b nl nr=>ss9 (b:=b) (nl:=nl) (nr:=nr) (N:=p78 (redR N)) (n:=k) (by rw[gb0];exact hp) (by rw[gb0];omega) (zu4 r2) h0 hk
  rw[cx8 hr,←lo1]at e2
  rw[o10 rfl T6 rfl]
  unfold F6 c6
  simp(disch:=first|omega|fail) only[push_cast,seval,vrl,if_pos,if_neg,e1,h1,e2]
end
section
variable {b b':Bool} {nl nl' nr nr':Nat}
theorem ft0{l k:List Int}(hl:l.length≤9223372036854775807)(hk:k.length=l.length): ∀(d i:Nat),i+d=l.length→ ∀ks,
 vgoL W ⟨hNo,[.tmp 4],0⟩ [0,1,5] c16L0 (.blk 0 []::ks) [(0, .fz b (.sl nl 0 1 (ivs l))),(1, .fz b' (.sl nl' 0 1 (ivs k))),(5, .x (.int .i64 i))] []=
  if l.drop i=k.drop i then vgo W ⟨hNo,[.tmp 4],0⟩ ks (VFr.of []) []else some (.x (.bool false),[],[])
 |0,i,hi,ks=>by
  rw[oh9 (by omega),oh9 (by omega),if_pos rfl,sb5 c16L0.eq_def]
  simp(disch:=first|omega|fail) only[push_cast,seval,vrl,if_pos,if_neg]
 |d+1,i,hi,ks=>by
  have ih:=ft0 hl hk d (i+1) (by omega) ks
  obtain⟨a,ha⟩:=ge6 (l:=l) (i:=i) (by omega)
  obtain⟨c,hc⟩:=ge6 (l:=k) (i:=i) (by omega)
  have h1:=iat ha
  have h2:=iat hc
  rw[i62 ha,i62 hc]
  rw[e96,g71]at ih
  by_cases h:a=c
  ·have hiff:(a::l.drop (i+1)=c::k.drop (i+1))=(l.drop (i+1)=k.drop (i+1)):=by rw[h];simp
   simp only[hiff]
   rw[←ih,sb5 c16L0.eq_def]
   simp(disch:=first|omega|fail) only[push_cast,seval,vrl,if_pos,if_neg,h1,h2,h]
  ·rw[if_neg (by intro e;exact h (List.cons.inj e).1),sb5 c16L0.eq_def]
   simp(disch:=first|omega|fail) only[push_cast,seval,vrl,if_pos,if_neg,h1,h2,nb8 h]
theorem nb2{l k:List Int}(hl:l.length≤9223372036854775807):o24 W 16 [.fz b (.sl nl 0 1 (ivs l)), .fz b' (.sl nl' 0 1 (ivs k))] []=some (.x (.bool (decide (l=k))),[],[]):=by
 by_cases hk:k.length=l.length
 ·have e:=fun ks=>ft0 (b:=b) (b':=b') (nl:=nl) (nl':=nl') hl hk l.length 0 (by omega) ks
  simp only[vx9,si3,sv4,rp2,lz6,x25,gw5,fo5]at e
  rw[o10 rfl T16 rfl]
  unfold F16 c16
  simp(disch:=first|omega|fail) only[push_cast,seval,vrl,if_pos,if_neg,hk]
  rw[e]
  by_cases h:l=k
  ·rw[if_pos h,ce5 h]
   simp(disch:=first|omega|fail) only[push_cast,seval,vrl,if_pos,if_neg]
  ·rw[if_neg h,lx1 h]
 ·have h: ¬l=k:=fun e=>hk (by rw[e])
  have h8: ¬(l.length:Int)=(k.length:Int):=by omega
  rw[lx1 h,o10 rfl T16 rfl]
  unfold F16 c16
  simp(disch:=first|omega|fail) only[push_cast,seval,vrl,if_pos,if_neg,nb8 h8]
theorem h39{l k:List (List Int)}(hl:l.length≤9223372036854775807)(he: ∀r∈l,r.length≤9223372036854775807)(hk:k.length=l.length)(hx:21=21): ∀(d i:Nat),i+d=l.length→ ∀ks,
 vgoL W ⟨hNo,[.tmp 4],0⟩ [0,1,5] c21L0 (.blk 0 []::ks) [(0, .fz b (.sl nl 0 1 (lvs nr l))),(1, .fz b' (.sl nl' 0 1 (lvs nr' k))),(5, .x (.int .i64 i))] []=
  if l.drop i=k.drop i then vgo W ⟨hNo,[.tmp 4],0⟩ ks (VFr.of []) []else some (.x (.bool false),[],[])
 |0,i,hi,ks=>by
  rw[oh9 (by omega),oh9 (by omega),if_pos rfl,sb5 c21L0.eq_def]
  simp(disch:=first|omega|fail) only[push_cast,seval,vrl,if_pos,if_neg]
 |d+1,i,hi,ks=>by
  have ih:=h39 hl he hk hx d (i+1) (by omega) ks
  obtain⟨a,ha⟩:=ge6 (l:=l) (i:=i) (by omega)
  obtain⟨c,hc⟩:=ge6 (l:=k) (i:=i) (by omega)
  have h1:=lat (nl:=nr) ha
  have h2:=lat (nl:=nr') hc
  have e:=fun b b' nl nl'=>nb2 (b:=b) (b':=b') (nl:=nl) (nl':=nl') (l:=a) (k:=c) (he a (vf6 ha))
  rw[i62 ha,i62 hc]
  rw[e96,g71]at ih
  by_cases h:a=c
  ·have hiff:(a::l.drop (i+1)=c::k.drop (i+1))=(l.drop (i+1)=k.drop (i+1)):=by rw[h];simp
   simp only[ce5 h]at e
   simp only[hiff]
   rw[←ih,sb5 c21L0.eq_def]
   simp(disch:=first|omega|fail) only[push_cast,seval,vrl,if_pos,if_neg,h1,h2,e]
  ·simp only[lx1 h]at e
   rw[if_neg (by intro e;exact h (List.cons.inj e).1),sb5 c21L0.eq_def]
   simp(disch:=first|omega|fail) only[push_cast,seval,vrl,if_pos,if_neg,h1,h2,e]
theorem us3{l k:List (List Int)}(hl:l.length≤9223372036854775807)(he: ∀r∈l,r.length≤9223372036854775807):o24 W 21 [.fz b (.sl nl 0 1 (lvs nr l)), .fz b' (.sl nl' 0 1 (lvs nr' k))] []=some (.x (.bool (decide (l=k))),[],[]):=by
 by_cases hk:k.length=l.length
 ·have e:=fun ks=>h39 (b:=b) (b':=b') (nl:=nl) (nl':=nl') (nr:=nr) (nr':=nr') hl he hk rfl l.length 0 (by omega) ks
  simp only[vx9,si3,sv4,rp2,lz6,x25,gw5,fo5]at e
  rw[o10 rfl T21 rfl]
  unfold F21 c21
  simp(disch:=first|omega|fail) only[push_cast,seval,vrl,if_pos,if_neg,hk]
  rw[e]
  by_cases h:l=k
  ·rw[if_pos h,ce5 h]
   simp(disch:=first|omega|fail) only[push_cast,seval,vrl,if_pos,if_neg]
  ·rw[if_neg h,lx1 h]
 ·have h: ¬l=k:=fun e=>hk (by rw[e])
  have h8: ¬(l.length:Int)=(k.length:Int):=by omega
  rw[lx1 h,o10 rfl T21 rfl]
  unfold F21 c21
  simp(disch:=first|omega|fail) only[push_cast,seval,vrl,if_pos,if_neg,nb8 h8]
section
variable {q:Int} [IsFld q]
end
end
section
variable {q n q' n' e:Int} {nl nr nl' nr':Nat} {M M':List (List Int)}
theorem uh7(hl:M.length≤9223372036854775807)(hr: ∀r∈M,r.length≤9223372036854775807):
 o24 W 7 [.agg [.x (.int .i64 q), .x (.int .i64 n), .fz true (.sl nl 0 1 (lvs nr M))], .agg [.x (.int .i64 q'), .x (.int .i64 n'), .fz true (.sl nl' 0 1 (lvs nr' M'))]] []=some (.x (.bool (decide (q=q')&&(decide (n=n')&&decide (M=M')))),[],[]):=by
 have e1:=fun b b' nl nl' nr nr'=>us3 (b:=b) (b':=b') (nl:=nl) (nl':=nl') (nr:=nr) (nr':=nr') (l:=M) (k:=M') hl hr
 rw[o10 rfl T7 rfl]
 unfold F7 c7
 by_cases h1:q=q'
 ·by_cases h2:n=n'
  ·rw[ce5 h1,ce5 h2,ed0,ed0]
   simp(disch:=first|omega|fail) only[push_cast,seval,vrl,if_pos,if_neg,mr8 h1,mr8 h2,e1]
  ·rw[ce5 h1,lx1 h2,ed0,Bool.false_and]
   simp(disch:=first|omega|fail) only[push_cast,seval,vrl,if_pos,if_neg,mr8 h1,nb8 h2]
 ·rw[lx1 h1,Bool.false_and]
  simp(disch:=first|omega|fail) only[push_cast,seval,vrl,if_pos,if_neg,nb8 h1]
end
section
variable {q:Int} [IsFld q] {k nl nr nl2:Nat} {b:Bool} {N:List (List (El q))} {M:List (List Int)} {w:List Int}
def hk8(q:Int)(k:Nat)(w:List Int):Int:=if w.length≠k then 6 else if(w.any fun v=> !fok q v)=true then 2 else 0
theorem vf9(a:List (El q)):((vs a).any fun v=> !fok q v)=false:=qb7.2 fun z hz=>by
 obtain⟨x,_,rfl⟩:=vf1.1 hz
 rw[x.ok];decide
theorem op4{a:List (El q)}(h:a.length=k):hk8 q k (vs a)=0:=by
 unfold hk8
 rw[fi2,if_neg (by simpa using h),vf9,if_neg (by decide)]
theorem vcwf{e:Nat}(v:Int):o24 W 51 [.x (.int .i64 v), .fz b (.pt e [pF q])] []=some (.x (.bool (!fok q v)),[],[]):=by
 rw[o10 rfl T51 rfl]
 unfold F51 c51
 simp(disch:=first|omega|fail) only[push_cast,seval,vrl,if_pos,if_neg]
theorem gd1(hw:w.length≤9223372036854775807):o24 W 35 [.agg [.x (.int .i64 q), .x (.int .i64 k), .fz true (.sl nl 0 1 (lvs nr M))], .fz b (.sl nl2 0 1 (ivs w))] []=some (.x (.int .i64 (hk8 q k w)),[],[]):=by
 have hf:=fun bl nl b e=>eg0 (nl:=nl) (l:=w) (bl:=bl) (k:=51) (b:=b) (t:= .pt e [pF q]) vcwf rfl hw
 unfold hk8
 rw[o10 rfl T35 rfl]
 unfold F35 c35
 by_cases h1:w.length=k
 ·rw[if_neg (by simpa using h1)]
  cases hany:(w.any fun v=> !fok q v)with
  |true=>
   rw[hany]at hf
   rw[if_pos rfl]
   simp(disch:=first|omega|fail) only[push_cast,seval,vrl,if_pos,if_neg,h1,hf]
  |false=>
   rw[hany]at hf
   rw[if_neg (by decide)]
   simp(disch:=first|omega|fail) only[push_cast,seval,vrl,if_pos,if_neg,h1,hf]
 ·rw[if_pos h1]
  have h2: ¬(w.length:Int)=(k:Int):=by omega
  simp(disch:=first|omega|fail) only[push_cast,seval,vrl,if_pos,if_neg,nb8 h2]
def encL(k:Nat)(m:List (El q))(R:List (List (El q))):List (El q):=prow k m R 0 (List.replicate k 0)
theorem b87(m:List (El q))(R:List (List (El q))):(encL k m R).length=k:=by unfold encL;rw[kv3];simp
theorem h23{n:Int}{i:Nat}{m:List (El q)}{r:List (El q)}(hm:m.length≤1000)(hr:r.length=k)(hk:k≤1000){T:Tree}: ∀(d j:Nat) (x:List (El q)),j+d=k→x.length=k→ ∀ks,
 vgoL W ⟨hNo,[.tmp 6],0⟩ [0,4,7,9,15,16,17,26,27,28] c33L0 (.blk 2 [0,4,7,15,16,17]::ks) [(0, .fz true (pF q)),(4, .own 0 []),(7, .own 1 []),(9, .x (.int .i64 ((wf m i).v))),(15, .fz b (.sl nl2 0 1 (ivs (vs m)))),(16, .x (.int .i64 m.length)),(17, .x (.int .i64 i)),(26, .fz true (.sl nr 0 1 (ivs (vs r)))),(27, .x (.int .i64 k)),(28, .x (.int .i64 j))] [T, .sl 0 3 1 (ivs (vs x))]=
  vgo W ⟨hNo,[.tmp 6],0⟩ ks (VFr.of [(0, .fz true (pF q)),(4, .own 0 []),(7, .own 1 []),(15, .fz b (.sl nl2 0 1 (ivs (vs m)))),(16, .x (.int .i64 m.length)),(17, .x (.int .i64 i))]) [T, .sl 0 3 1 (ivs (vs (mac (wf m i) r d j x)))]
 |0,j,x,hj,hx,ks=>by
  rw[mac,sb5 c33L0.eq_def]
  simp(disch:=first|omega|fail) only[push_cast,seval,vrl,if_pos,if_neg]
 |d+1,j,x,hj,hx,ks=>by
  have ih:=h23 (n:=n) (i:=i) (m:=m) hm hr hk (T:=T) d (j+1) (x.set j (wf x j+wf m i*wf r j)) (by omega) (by rw[kb7];exact hx) ks
  have h2:=iva (l:=r) (i:=j) (by omega)
  have h3:=iva (l:=x) (i:=j) (by omega)
  rw[e96,g71,←g52,on0,ym6]at ih
  rw[mac,←ih,sb5 c33L0.eq_def]
  simp(disch:=first|omega|fail) only[push_cast,seval,vrl,if_pos,if_neg,h2,h3]
theorem ib4{n:Int}{m:List (El q)}{R:List (List (El q))}(hm:m.length=R.length)(hmk:m.length≤1000)(hR: ∀r∈R,r.length=k)(hk:k≤1000): ∀(d i:Nat) (x:List (El q)),i+d=m.length→x.length=k→ ∀ks,
 vgoL W ⟨hNo,[.tmp 6],0⟩ [0,4,7,15,16,17] c33L1 (.blk 0 [7]::ks) [(0, .fz true (pF q)),(4, .own 0 []),(7, .own 1 []),(15, .fz b (.sl nl2 0 1 (ivs (vs m)))),(16, .x (.int .i64 m.length)),(17, .x (.int .i64 i))] [.pt 25 [.v (.int .i64 q), .v (.int .i64 n), .fz (.sl nl 0 1 (lvs nr (R.map vs)))], .sl 0 3 1 (ivs (vs x))]=
  vgo W ⟨hNo,[.tmp 6],0⟩ ks (VFr.of [(7, .own 1 [])]) [.pt 25 [.v (.int .i64 q), .v (.int .i64 n), .fz (.sl nl 0 1 (lvs nr (R.map vs)))], .sl 0 3 1 (ivs (vs (prow k m (R.drop i) i x)))]
 |0,i,x,hi,hx,ks=>by
  rw[jx3 (by omega),prow,sb5 c33L1.eq_def]
  simp(disch:=first|omega|fail) only[push_cast,seval,vrl,if_pos,if_neg]
 |d+1,i,x,hi,hx,ks=>by
  obtain⟨r,hr⟩:=ge6 (l:=R) (i:=i) (by omega)
  have hrl:=hR r (vf6 hr)
  have ih:=ib4 (n:=n) hm hmk hR hk d (i+1) (mac (wf m i) r k 0 x) (by omega) (by rw[ev4];exact hx) ks
  have e:=fun T ks=>h23 (n:=n) (b:=b) (nr:=nr) (nl2:=nl2) (i:=i) (m:=m) hmk hrl hk (T:=T) k 0 x (by omega) hx ks
  simp only[vx9,si3,sv4,rp2,lz6,x25,gw5,fo5]at e
  have h1:=iva (l:=m) (i:=i) (by omega)
  have h2:=mva (nl:=nr) hr
  rw[e96,g71]at ih
  rw[i62 hr,prow,←ih,sb5 c33L1.eq_def]
  simp(disch:=first|omega|fail) only[push_cast,seval,vrl,if_pos,if_neg,h1,h2,hrl]
  rw[e]
  simp(disch:=first|omega|fail) only[push_cast,seval,vrl,if_pos,if_neg]
theorem gm8{m:List (El q)}{R:List (List (El q))}(hm:m.length=R.length)(hmk:m.length≤1000)(hR: ∀r∈R,r.length=k)(hk:k≤1000):
 o24 W 33 [.fz true (pF q), .agg [.x (.int .i64 q), .x (.int .i64 k), .fz true (.sl nl 0 1 (lvs nr (R.map vs)))], .fz b (.sl nl2 0 1 (ivs (vs m)))] []=some (.own 0 [],[.sl 0 3 1 (ivs (vs (encL k m R)))],[]):=by
 have e:=fun ks=>ib4 (q:=q) (b:=b) (nl:=nl) (nr:=nr) (nl2:=nl2) (n:=k) hm hmk hR hk m.length 0 (List.replicate k 0) (by omega) (by simp) ks
 have hz:List.replicate k (0:Int)=vs (List.replicate k (0:El q)):=by rw[←qj2];rfl
 simp only[vx9,si3,sv4,rp2,lz6,x25,gw5,fo5]at e
 unfold encL
 rw[o10 rfl T33 rfl]
 unfold F33 c33
 simp(disch:=first|omega|fail) only[push_cast,seval,vrl,if_pos,if_neg,hz]
 rw[e]
 simp(disch:=first|omega|fail) only[push_cast,seval,vrl,if_pos,if_neg]
theorem nn3{e:Nat}(v:Int):o24 W 31 [.x (.int .i64 v), .fz b (.pt e [pF q])] []=some (.x (.bool (!fok q v)),[],[]):=by
 rw[o10 rfl T31 rfl]
 unfold F31 c31
 simp(disch:=first|omega|fail) only[push_cast,seval,vrl,if_pos,if_neg]
theorem wc4(he:gi9 q k (N.map vs)=0)(h0:0<k)(hk:k≤64)(hl:N.length≤64)(hr: ∀r∈N,r.length=k){m:List (El q)}(hm:m.length=(redR N).length):
 o24 W 11 [.agg [.x (.int .i64 q), .x (.int .i64 k), .fz true (.sl nl 0 1 (lvs nr (N.map vs)))], .fz b (.sl nl2 0 1 (ivs (vs m)))] []=some (.tup [.own 0 [], .x (.int .i64 0)],[.sl 0 3 1 (ivs (vs (encL k m (p78 (redR N)))))],[]):=by
 have e1:=fun nl nr=>ob1 (nl:=nl) (nr:=nr) he h0 hk hl hr
 obtain⟨r1,r2,_⟩:=bi2 hr
 have hle:=ew4 hr
 have hf:=fun bl nl b e=>eg0 (nl:=nl) (l:=vs m) (bl:=bl) (k:=31) (b:=b) (t:= .pt e [pF q]) nn3 rfl (by rw[fi2];omega)
 simp only[vf9]at hf
 have e2:=fun b nl nr nl2=>gm8 (q:=q) (b:=b) (nl:=nl) (nr:=nr) (nl2:=nl2) (m:=m) (R:=p78 (redR N)) (by rw[gb0,hm]) (by omega) (zu4 r2) (by omega)
 rw[←lo1]at e2
 have h1:=nu3 (redR N)
 rw[o10 rfl T11 rfl]
 unfold F11 c11
 simp(disch:=first|omega|fail) only[push_cast,seval,vrl,if_pos,if_neg,e1,h1,hm,hf,e2]
end
end Go.Proofs.Ytppbpgmdmiajcaa
namespace Go.Alg
section
variable {K:Type} [FK K] {n:Nat}
theorem mr3{M:List (List K)}(hM: ∀m∈M,m.length=n)(w:Nat→K):Span ((p78 (redR M)).map wf) w↔Span (M.map wf) w:=by
 rw[z42];exact(bi2 hM).2.2 w
end
end Go.Alg
namespace Go.Proofs.Ytppbpgmdmiajcaa
open Go.Am Go.Vm Go.Alg
section
variable {q n q' n':Int} {nl nr nl' nr':Nat} {M M':List (List Int)}
end
section
variable {q:Int} [IsFld q] {k nl nr nl' nr':Nat} {M B N:List (List (El q))}
theorem df0(M:List (List (El q)))(b:List (El q)):lls 2 (M.map vs)++[Tree.sl 2 3 1 (ivs (vs b))]=lls 2 ((M++[b]).map vs):=by
 rw[ng3,hm3];rfl
end
end Go.Proofs.Ytppbpgmdmiajcaa
namespace Go.Proofs.Ytppbpgmdmiajcaa
open Go.Am Go.Vm
section
variable {zs:List Int} {I J nl:Nat}
@[push_cast] theorem gi2:vM 25=[.own 3 1, .bor 0, .bor 0]:=rfl
@[push_cast] theorem xx2:vH 25=hNo:=rfl
theorem qj7(hl:zs.length≤1099511627776): ∀(d k:Nat),k+d=zs.length→ ∀ks,
 vgoL W ⟨hNo,[.tmp 7],1⟩ [0,1,2,3,4] bDel (.blk 0 [0,1,2,3,4]::ks) [(0, .own 0 []),(1, .x (.int .i64 I)),(2, .x (.int .i64 J)),(3, .x (.int .i64 k)),(4, .x (.int .i64 zs.length))] [.sl nl 3 1 (ivs zs)]=
  vgo W ⟨hNo,[.tmp 7],1⟩ ks (VFr.of [(0, .own 0 []),(1, .x (.int .i64 I)),(2, .x (.int .i64 J)),(3, .x (.int .i64 zs.length)),(4, .x (.int .i64 zs.length))]) [.sl nl 3 1 (ivs zs)]
 |0,k,hk,ks=>by
  obtain rfl:k=zs.length:=by omega
  rw[sb5 bDel.eq_def]
  unfold rDel
  simp(disch:=first|omega|fail) only[push_cast,seval,vrl,if_pos,if_neg]
 |d+1,k,hk,ks=>by
  have ih:=qj7 hl d (k+1) (by omega) ks
  obtain⟨a,ha⟩:=ge6 (l:=zs) (i:=k) (by omega)
  have h1:=iat ha
  rw[e96,g71]at ih
  rw[←ih,sb5 bDel.eq_def]
  unfold rDel
  simp(disch:=first|omega|fail) only[push_cast,seval,vrl,if_pos,if_neg,h1]
theorem bc7(hij:I<J)(hJ:J≤zs.length)(hl:zs.length≤1000000):
 o24 W 25 [.own 0 [], .x (.int .i64 I), .x (.int .i64 J)] [.sl nl 3 1 (ivs zs)]=some (.own 0 [],[.sl (if nl=0 then 0 else 2) 3 1 (ivs (zs.take I++zs.drop J))],[.junk]):=by
 have e:=fun ks=>qj7 (nl:=nl) (I:=I) (J:=J) (zs:=zs) (by omega) zs.length 0 (by omega) ks
 simp only[vx9,si3,sv4,rp2,lz6,x25,gw5,fo5]at e
 rw[o10 rfl T25 rfl]
 unfold FDel cDel sDel
 simp(disch:=first|omega|fail) only[push_cast,seval,vrl,if_pos,if_neg,dec_lt (show(I:Int)<J by omega)]
 rw[e]
 unfold eDel
 simp(disch:=first|omega|fail) only[push_cast,seval,vrl,if_pos,if_neg]
 rw[show((I:Int)-0).toNat=I by omega,show((zs.length:Int)-J).toNat=zs.length-J by omega,sp3 (Nat.le_of_eq (h50)),Vm.tl5]
end
end Go.Proofs.Ytppbpgmdmiajcaa
namespace Go.Alg
section
variable {K:Type} [FK K] {n a:Nat}
def nsum(r:List K):K:=r.foldl (fun s v=>s-v) 0
theorem wa6: ∀(r:List K) (s:K),r.foldl (fun s v=>s-v) s=s+ -(sumN r.length (wf r))
 | [],s=>by rw[List.foldl_nil,fo5,wr8,neg_zero,FK.add_zero]
 |v::r,s=>by
  rw[h08,wa6 r,q90,c81,sub_eq,tp9,FK.add_assoc]
  rfl
theorem ks3(r:List K):nsum r= -(sumN r.length (wf r)):=by unfold nsum;rw[wa6,zero_add]
def extL(r:List K):List K:=r++[nsum r]
def extF(n:Nat)(w:Nat→K):Nat→K:=fun i=>if i=n then-(sumN n w)else w i
theorem x19(r:List K):(extL r).length=r.length+1:=by unfold extL;simp
theorem hn4{r:List K}(h:r.length=n):wf (extL r)=extF n (wf r):=by
 funext i
 unfold extL extF
 rw[n97,h,ks3,h]
theorem z95(c:K)(u w:Nat→K):sumN n (axp c u w)=sumN n u+c*sumN n w:=by
 unfold sumN
 rw[←ro9,←jl9];rfl
theorem k59(c:K)(u w:Nat→K):extF n (axp c u w)=axp c (extF n u) (extF n w):=by
 funext i
 unfold extF
 show(if i=n then-(sumN n (axp c u w))else u i+c*w i)=(if i=n then-(sumN n u)else u i)+c*(if i=n then-(sumN n w)else w i)
 by_cases h:i=n
 ·rw[if_pos h,if_pos h,if_pos h,z95,tp9,mul_neg]
 ·rw[if_neg h,if_neg h,if_neg h]
theorem um4:extF n (fun _=>(0:K))=fun _=>0:=by
 funext i
 unfold extF
 rw[ja4 fun _ _=>rfl,neg_zero]
 split<;>rfl
theorem i12{f:(Nat→K)→Nat→K}{g:List K→List K}(h0:f (fun _=>0)=fun _=>0)(ha: ∀c u w,f (axp c u w)=axp c (f u) (f w)){M N:List (List K)}(hg: ∀r∈M,wf (g r)=f (wf r))(hg2: ∀r∈N,wf (g r)=f (wf r))(hs: ∀r∈M,Span (N.map wf) (wf r)){w:Nat→K}(h:Span ((M.map g).map wf) w):Span ((N.map g).map wf) w:=by
 refine h.trans fun r hr=> ?_
 obtain⟨y,hy,rfl⟩:=vf1.1 hr
 obtain⟨x,hx,rfl⟩:=vf1.1 hy
 rw[hg x hx]
 refine(hs x hx).lin (P:=fun z=>Span ((N.map g).map wf) (f z)) (by rw[h0];exact .zero) (fun u r c h1 h2=>by rw[ha];exact h1.axp h2 c) fun r hr=> ?_
 obtain⟨z,hz,rfl⟩:=vf1.1 hr
 rw[←hg2 z hz]
 exact .mem (vf1.2 ⟨_,vf1.2 ⟨z,hz,rfl⟩,rfl⟩)
theorem x62{M:List (List K)}(hM: ∀m∈M,m.length=n):redR ((p78 (redR M)).map extL)=redR (M.map extL):=by
 obtain⟨a1,a2,a3⟩:=bi2 hM
 have hR:=zu4 a2
 have e: ∀{N:List (List K)},(∀m∈N,m.length=n)→ ∀m∈N.map extL,m.length=n+1:=fun hN m hm=>by
  obtain⟨x,hx,rfl⟩:=vf1.1 hm
  rw[x19,hN x hx]
 refine rp5 (e hR) (e hM) fun w=>⟨fun h=> ?_,fun h=> ?_⟩
 ·exact i12 (f:=extF n) um4 k59 (fun r hr=>hn4 (hR r hr)) (fun r hr=>hn4 (hM r hr)) (fun r hr=>(mr3 hM _).1 (.mem (vf1.2 ⟨r,hr,rfl⟩))) h
 ·exact i12 (f:=extF n) um4 k59 (fun r hr=>hn4 (hM r hr)) (fun r hr=>hn4 (hR r hr)) (fun r hr=>(mr3 hM _).2 (.mem (vf1.2 ⟨r,hr,rfl⟩))) h
end
end Go.Alg
