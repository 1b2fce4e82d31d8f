/-
  The fields of the table are fields. No condition. What is known of fields in the first machine, for the second. No condition. What rows span; their one form. No condition. Rows one by one into what th ..
-/
import Derived.Test.YtoglhlonhmmieaaGreatK7
import Derived.Test.YtoglhlonhmmieaaGreatKAD
import Derived.Test.YtoglhlonhmmieaaGreatK5
import Derived.Test.YtoglhlonhmmieaaGreatK6
import Derived.WalkKit
set_option linter.unusedVariables false
set_option linter.unusedSimpArgs false
set_option linter.unusedSectionVars false
set_option maxRecDepth 100000
namespace Go.Proofs.YtoglhlonhmmieaaGreat
open Go.Am Go.Alg
theorem ej5{p d T:Int}(h0:0≤d)(h1:d<p):(d+p*T)%p=d∧(d+p*T)/p=T:=by
 constructor
 ·rw[Int.add_mul_emod_self_left,Int.emod_eq_of_lt h0 h1]
 ·rw[Int.add_mul_ediv_left _ _ (by omega),Int.ediv_eq_zero_of_lt h0 h1,Int.zero_add]
theorem t47(p:Int): ∀(n:Nat) (a b:Int),addN p n a b=addN p n b a
 |0,_,_=>rfl
 |n+1,a,b=>by rw[addN,addN,t47 p n,Int.add_comm (a%p)]
theorem mk9{p:Int}(hp:0<p): ∀(n:Nat) (a b c:Int),addN p n (addN p n a b) c=addN p n a (addN p n b c)
 |0,_,_,_=>rfl
 |n+1,a,b,c=>by
  have d1:=ej5 (T:=addN p n (a/p) (b/p)) (Int.emod_nonneg (a%p+b%p) (show p≠0 by omega)) (Int.emod_lt_of_pos (a%p+b%p) hp)
  have d2:=ej5 (T:=addN p n (b/p) (c/p)) (Int.emod_nonneg (b%p+c%p) (show p≠0 by omega)) (Int.emod_lt_of_pos (b%p+c%p) hp)
  have e0: ∀x y:Int,addN p (n+1) x y=(x%p+y%p)%p+p*addN p n (x/p) (y/p):=fun _ _=>rfl
  rw[e0 (addN p (n+1) a b) c,e0 a (addN p (n+1) b c),e0 a b,e0 b c,d1.1,d1.2,d2.1,d2.2,mk9 hp n]
  simp only[Int.emod_add_emod,Int.add_emod_emod,Int.add_assoc]
theorem ns9{p:Int}(hp:0<p): ∀(n:Nat) (a:Int),0≤a→a<p^n→addN p n a 0=a
 |0,a,h0,h1=>by rw[Int.pow_zero]at h1;show(0:Int)=a;omega
 |n+1,a,h0,h1=>by
  rw[Int.pow_succ]at h1
  rw[addN,Int.zero_emod,Int.zero_ediv,Int.add_zero,Int.emod_emod,ns9 hp n (a/p) (Int.ediv_nonneg h0 (by omega)) (Int.ediv_lt_of_lt_mul hp h1)]
  exact Int.emod_add_mul_ediv a p
theorem ju5{p:Int}(hp:0<p): ∀(n:Nat) (a:Int),addN p n a (negN p n a)=0
 |0,_=>rfl
 |n+1,a=>by
  have d1:=ej5 (T:=negN p n (a/p)) (Int.emod_nonneg (p-a%p) (show p≠0 by omega)) (Int.emod_lt_of_pos (p-a%p) hp)
  have e0: ∀x y:Int,addN p (n+1) x y=(x%p+y%p)%p+p*addN p n (x/p) (y/p):=fun _ _=>rfl
  have e1:negN p (n+1) a=(p-a%p)%p+p*negN p n (a/p):=rfl
  rw[e0,e1,d1.1,d1.2,ju5 hp n,Int.add_emod_emod,show a%p+(p-a%p)=p by omega,Int.emod_self]
  omega
section
variable {q p g:Int} {m:Nat} {mod:List Int}
theorem c80(hn:fldN q.toNat=some (p,m,g,mod)){b c:Int}(hb:0≤b∧b<q)(hc:0≤c∧c<q):fmul q g (addN p m b c)=addN p m (fmul q g b) (fmul q g c):=by
 obtain⟨h2,h64⟩:=ug0 hn
 have h:=List.all_eq_true.1 hm8 (q.toNat-2) (List.mem_range.2 (by omega))
 rw[show q.toNat-2+2=q.toNat by omega]at h
 unfold ud5 at h
 rw[hn]at h
 simp only[List.all_eq_true,List.mem_range,decide_eq_true_eq]at h
 have:=h b.toNat (by omega) c.toNat (by omega)
 rwa [show((q.toNat:Nat):Int)=q by omega,show((b.toNat:Nat):Int)=b by omega,show((c.toNat:Nat):Int)=c by omega]at this
end
class IsFld (q:Int):Prop where
 ok: ∃p m g mod,fldN q.toNat=some (p,m,g,mod)
structure El (q:Int) where
 v:Int
 lo:0≤v
 hi:v<q
theorem El.ext'{q:Int}{a b:El q}(h:a.v=b.v):a=b:=by
 obtain⟨a,h1,h2⟩:=a
 obtain⟨b,h3,h4⟩:=b
 cases h;rfl
instance {q:Int}:DecidableEq (El q):=fun a b=>if h:a.v=b.v then .isTrue (El.ext' h)else .isFalse fun e=>h (e▸rfl)
theorem jj8{q p g:Int}{m:Nat}{mod:List Int}(hn:fldN q.toNat=some (p,m,g,mod)):FOk q p m mod∧Tabs q g∧1≤g∧g<q:=by
 obtain⟨h2,h64⟩:=ug0 hn
 have h:=hj0 hn
 rw[show((q.toNat:Nat):Int)=q by omega]at h
 exact⟨h.1,cb4 hn,h.2.2.1,h.2.2.2.1⟩
theorem El.ok{q:Int}(a:El q):fok q a.v=true:=iy2 ⟨a.lo,a.hi⟩
theorem do9{q p g:Int}{m:Nat}{mod:List Int}(hn:fldN q.toNat=some (p,m,g,mod))(a b:El q):fadd q a.v b.v=addN p m a.v b.v:=by
 rw[fadd,a.ok,b.ok,(y65 hn).1,(y65 hn).2];rfl
theorem pu7{q p g:Int}{m:Nat}{mod:List Int}(hn:fldN q.toNat=some (p,m,g,mod))(a:El q):fneg q a.v=negN p m a.v:=by
 rw[fneg,a.ok,(y65 hn).1,(y65 hn).2];rfl
section
variable {q:Int} [hq:IsFld q]
theorem aw0:2≤q:=by
 obtain⟨p,m,g,mod,hn⟩:=hq.ok
 exact(jj8 hn).1.q2
theorem wg2(a b:El q):0≤fadd q a.v b.v∧fadd q a.v b.v<q:=by
 obtain⟨p,m,g,mod,hn⟩:=hq.ok
 have hf:=(jj8 hn).1
 have:=hf.p2
 have hb:=kq3 (p:=p) (by omega) m a.v b.v
 rw[hf.pm]at hb
 rw[do9 hn];exact hb
theorem ca9(a:El q):0≤fneg q a.v∧fneg q a.v<q:=by
 obtain⟨p,m,g,mod,hn⟩:=hq.ok
 have hf:=(jj8 hn).1
 have:=hf.p2
 have hb:=ul1 (p:=p) (by omega) m a.v
 rw[hf.pm]at hb
 rw[pu7 hn];exact hb
theorem jo8(a b:El q):0≤fmul q a.v b.v∧fmul q a.v b.v<q:=by
 obtain⟨p,m,g,mod,hn⟩:=hq.ok
 obtain⟨hf,t,_⟩:=jj8 hn
 have h2:=hf.q2
 rw[fmul,a.ok,b.ok]
 cases h0:(a.v==0)||(b.v==0)with
 |true=>exact⟨Int.le_refl _,by show(0:Int)<q;omega⟩
 |false=>
  have:=zd3 t h2 (flog q a.v+flog q b.v)
  exact⟨by show 0≤fexp q _;omega,this.2.1⟩
theorem bh9(a:El q)(h:a.v≠0):0≤finv q a.v∧finv q a.v<q:=by
 obtain⟨p,m,g,mod,hn⟩:=hq.ok
 obtain⟨hf,t,_⟩:=jj8 hn
 have:=(d12 t hf.q2 (a:=a.v) ⟨by have:=a.lo;omega,a.hi⟩).1
 exact⟨by omega,this.2⟩
instance :Zero (El q):=⟨⟨0,Int.le_refl _,by have:=aw0 (q:=q);omega⟩⟩
instance :One (El q):=⟨⟨1,by omega,by have:=aw0 (q:=q);omega⟩⟩
instance :Add (El q):=⟨fun a b=>⟨fadd q a.v b.v,(wg2 a b).1,(wg2 a b).2⟩⟩
instance :Mul (El q):=⟨fun a b=>⟨fmul q a.v b.v,(jo8 a b).1,(jo8 a b).2⟩⟩
instance :Neg (El q):=⟨fun a=>⟨fneg q a.v,(ca9 a).1,(ca9 a).2⟩⟩
theorem hc8:(0:El q).v=0:=rfl
theorem wh3:(1:El q).v=1:=rfl
theorem on0(a b:El q):(a+b).v=fadd q a.v b.v:=rfl
theorem ym6(a b:El q):(a*b).v=fmul q a.v b.v:=rfl
theorem tg5(a:El q):(-a).v=fneg q a.v:=rfl
theorem r57{a:El q}:a.v=0↔a=0:=⟨fun h=>El.ext' h,fun h=>by rw[h];rfl⟩
theorem a59(a b:El q):a*b=b*a:=El.ext' (by
 rw[ym6,ym6,fmul,fmul,a.ok,b.ok,Bool.or_comm,Int.add_comm])
theorem qc3(a:El q):a*0=0:=El.ext' (by
 rw[ym6,fmul,a.ok,(0:El q).ok,hc8,show((0:Int)==0)=true from rfl,Bool.or_true];rfl)
theorem du6(a:El q):a*1=a:=El.ext' (by
 obtain⟨p,m,g,mod,hn⟩:=hq.ok
 obtain⟨hf,t,_⟩:=jj8 hn
 have h2:=hf.q2
 rw[ym6,wh3]
 by_cases h0:a.v=0
 ·rw[fmul,a.ok,show fok q 1=true from(1:El q).ok,h0];rfl
 ·have ha:1≤a.v∧a.v<q:=⟨by have:=a.lo;omega,a.hi⟩
  have h1:=(t.er 0 (by omega) (by omega)).2.2
  rw[t.e0]at h1
  have h3:=t.lr a.v ha.1 ha.2
  rw[js7 t ha ⟨by omega,by omega⟩,h1,Int.add_zero,Int.emod_eq_of_lt h3.1 h3.2.1,h3.2.2])
theorem wj9(a b c:El q):a*b*c=a*(b*c):=by
 by_cases ha:a=0
 ·rw[ha,a59 0 b,qc3,a59 0 c,qc3,a59 0,qc3]
 by_cases hb:b=0
 ·rw[hb,qc3,a59 0 c,qc3,qc3]
 by_cases hc:c=0
 ·rw[hc,qc3,qc3,qc3]
 refine El.ext' ?_
 obtain⟨p,m,g,mod,hn⟩:=hq.ok
 obtain⟨hf,t,_⟩:=jj8 hn
 have h2:=hf.q2
 have ne: ∀x:El q,x≠0→1≤x.v∧x.v<q:=fun x hx=>⟨by have:=x.lo;have:x.v≠0:=fun h=>hx (r57.1 h);omega,x.hi⟩
 have h1:=zd3 t h2 (flog q a.v+flog q b.v)
 have h3:=zd3 t h2 (flog q b.v+flog q c.v)
 rw[ym6,ym6,ym6,ym6,js7 t (ne a ha) (ne b hb),js7 t (ne b hb) (ne c hc),js7 t ⟨h1.1,h1.2.1⟩ (ne c hc),js7 t (ne a ha) ⟨h3.1,h3.2.1⟩,h1.2.2,h3.2.2,Int.emod_add_emod,Int.add_emod_emod,Int.add_assoc]
theorem sd1(a b c:El q):a*(b+c)=a*b+a*c:=by
 obtain⟨p,m,g,mod,hn⟩:=hq.ok
 obtain⟨hf,t,hg1,hg2⟩:=jj8 hn
 have h2:=hf.q2
 have hG: ∀x y:El q,(⟨g,by omega,hg2⟩:El q)*(x+y)=⟨g,by omega,hg2⟩*x+⟨g,by omega,hg2⟩*y:=fun x y=>El.ext' (by
  rw[ym6,on0,do9 hn,on0,do9 hn]
  exact c80 hn ⟨x.lo,x.hi⟩ ⟨y.lo,y.hi⟩)
 have hP: ∀(k:Nat) (x y:El q) (h0:0≤fexp q ((k:Int)%(q-1))) (h1:fexp q ((k:Int)%(q-1))<q),(⟨_,h0,h1⟩:El q)*(x+y)=⟨_,h0,h1⟩*x+⟨_,h0,h1⟩*y:=by
  intro k
  induction k with
  |zero=>
   intro x y h0 h1
   have he:(⟨_,h0,h1⟩:El q)=1:=El.ext' (by show fexp q (((0:Nat):Int)%(q-1))=1;rw[Int.natCast_zero,Int.zero_emod];exact t.e0)
   rw[he,a59,du6,a59 1 x,du6,a59 1 y,du6]
  |succ k ih=>
   intro x y h0 h1
   have h3:=zd3 t h2 (k:Int)
   have he:(⟨_,h0,h1⟩:El q)=⟨fexp q ((k:Int)%(q-1)),by omega,h3.2.1⟩*⟨g,by omega,hg2⟩:=El.ext' (by
    show fexp q (((k+1:Nat):Int)%(q-1))=fmul q _ g
    rw[np3 t h2 ⟨hg1,hg2⟩,Int.natCast_add,Int.natCast_one])
   rw[he,wj9,hG,ih,wj9,wj9]
 by_cases ha:a=0
 ·rw[ha,a59,qc3,a59 0 b,qc3,a59 0 c,qc3]
  refine El.ext' ?_
  have:=hf.p2
  rw[on0,do9 hn]
  exact(ns9 (by omega) m 0 (Int.le_refl _) (Int.pow_pos (by omega))).symm
 ·have hav:a.v≠0:=fun h=>ha (r57.1 h)
  have h3:=t.lr a.v (by have:=a.lo;omega) a.hi
  have he:fexp q (((flog q a.v).toNat:Int)%(q-1))=a.v:=by
   rw[show(((flog q a.v).toNat:Nat):Int)=flog q a.v by omega,Int.emod_eq_of_lt h3.1 h3.2.1,h3.2.2]
  have h4:=hP (flog q a.v).toNat b c (by rw[he];exact a.lo) (by rw[he];exact a.hi)
  have h5:(⟨fexp q (((flog q a.v).toNat:Int)%(q-1)),by rw[he];exact a.lo,by rw[he];exact a.hi⟩:El q)=a:=El.ext' he
  rw[h5]at h4
  exact h4
instance elFK:FK (El q) where
 inv:=fun a=>if h:a.v=0 then 0 else⟨finv q a.v,(bh9 a h).1,(bh9 a h).2⟩
 deq:=inferInstance
 add_assoc:=fun a b c=>El.ext' (by
  obtain⟨p,m,g,mod,hn⟩:=hq.ok
  have hf:=(jj8 hn).1
  have:=hf.p2
  rw[on0 (a+b) c,on0 a (b+c),do9 hn (a+b) c,do9 hn a (b+c),on0 a b,on0 b c,do9 hn a b,do9 hn b c,mk9 (by omega)])
 add_comm:=fun a b=>El.ext' (by
  obtain⟨p,m,g,mod,hn⟩:=hq.ok
  rw[on0,on0,do9 hn,do9 hn,t47])
 add_zero:=fun a=>El.ext' (by
  obtain⟨p,m,g,mod,hn⟩:=hq.ok
  have hf:=(jj8 hn).1
  have:=hf.p2
  rw[on0,do9 hn,hc8]
  exact ns9 (by omega) m a.v a.lo (by rw[hf.pm];exact a.hi))
 add_neg:=fun a=>El.ext' (by
  obtain⟨p,m,g,mod,hn⟩:=hq.ok
  have hf:=(jj8 hn).1
  have:=hf.p2
  rw[on0,do9 hn,tg5,pu7 hn]
  exact ju5 (by omega) m a.v)
 mul_assoc:=wj9
 mul_comm:=a59
 mul_one:=du6
 mul_add:=sd1
 mul_inv:=fun a ha=>El.ext' (by
  have h:a.v≠0:=fun h=>ha (r57.1 h)
  obtain⟨p,m,g,mod,hn⟩:=hq.ok
  obtain⟨hf,t,_⟩:=jj8 hn
  rw[dif_neg h]
  exact(d12 t hf.q2 (a:=a.v) ⟨by have:=a.lo;omega,a.hi⟩).2)
 zero_ne:=fun h=>by
  have:=congrArg El.v h
  rw[hc8,wh3]at this
  omega
theorem rl7{a:El q}(h:a≠0):(FK.inv a).v=finv q a.v:=by
 show(if h:a.v=0 then(0:El q)else _).v=_
 rw[dif_neg fun e=>h (r57.1 e)]
theorem bq9(a b:El q):(a-b).v=fsub q a.v b.v:=rfl
end
def vs{q:Int}(l:List (El q)):List Int:=l.map El.v
def ge{K:Type} [FK K](l:List K)(i:Nat):K:=l.getD i 0
section
variable {q:Int}
theorem fi2(l:List (El q)):(vs l).length=l.length:=by simp[vs]
theorem rp2:vs ([]:List (El q))=[]:=rfl
theorem e55(a:El q)(l:List (El q)):vs (a::l)=a.v::vs l:=rfl
theorem g52(l:List (El q))(i:Nat)(a:El q):(vs l).set i a.v=vs (l.set i a):=by unfold vs;rw[List.map_set]
theorem qj2(n:Nat)(a:El q):List.replicate n a.v=vs (List.replicate n a):=by unfold vs;rw[List.map_replicate]
theorem qa5: ∀{l l':List (El q)},vs l=vs l'→l=l'
 | [],[],_=>rfl
 | [],_::_,h=>by cases h
 |_::_,[],h=>by cases h
 |a::l,b::l',h=>by
  rw[e55,e55,List.cons.injEq]at h
  rw[El.ext' h.1,qa5 h.2]
theorem n39: ∀{l:List Int},(∀z∈l,fok q z=true)→ ∃a:List (El q),l=vs a
 | [],_=>⟨[],rfl⟩
 |z::l,h=>by
  obtain⟨a,ha⟩:=n39 (l:=l) fun z hz=>h z (by simp[hz])
  have hz:=gc0.1 (h z (by simp))
  exact⟨⟨z,hz.1,hz.2⟩::a,by rw[e55,←ha]⟩
theorem v86 [IsFld q](l:List (El q))(i:Nat):gi (vs l) i=(ge l i).v:=by
 unfold gi ge vs
 rw[Int.toNat_natCast,List.getD_eq_getElem?_getD,List.getD_eq_getElem?_getD,List.getElem?_map]
 cases l[i]? <;>rfl
end
end Go.Proofs.YtoglhlonhmmieaaGreat
namespace Go.Proofs.YtoglhlonhmmieaaGreat
open Go.Am Go.Vm Go.Alg
theorem d40{zs:List Int}{i:Nat}(hi:i<zs.length):(ints zs)[i]? =some (.int .i64 (gi zs (i:Int))):=by
 have:=c88 (zs:=zs) (i:=(i:Int)) (by omega) (by omega)
 rwa [Int.toNat_natCast]at this
theorem zj7{h:H}{Z:Nat→Prop}{zs:List Int}{l:List Value}:RdL h Z (ivs zs) l↔l=ints zs:=by
 induction zs generalizing l with
 |nil=>exact⟨fun hr=>by rw[show ivs []=[]from rfl,RdL]at hr;exact hr,fun e=>by subst e;rw[show ivs []=[]from rfl,RdL];rfl⟩
 |cons z zs ih=>
  rw[show ivs (z::zs)= .v (.int .i64 z)::ivs zs from rfl,RdL]
  constructor
  ·rintro⟨w,l',rfl,h1,h2⟩
   rw[Rd]at h1
   rw[h1,ih.1 h2];rfl
  ·rintro rfl
   exact⟨_,_,rfl,by rw[Rd],ih.2 rfl⟩
theorem ex4{h:H}{Z:Nat→Prop}{zs:List Int}{l:List Value}:ExL h Z (ivs zs) l↔l=ints zs:=by
 induction zs generalizing l with
 |nil=>exact⟨fun hr=>by rw[show ivs []=[]from rfl,ExL]at hr;exact hr,fun e=>by subst e;rw[show ivs []=[]from rfl,ExL];rfl⟩
 |cons z zs ih=>
  rw[show ivs (z::zs)= .v (.int .i64 z)::ivs zs from rfl,ExL]
  constructor
  ·rintro⟨w,l',rfl,h1,h2⟩
   rw[Ex]at h1
   rw[h1,ih.1 h2];rfl
  ·rintro rfl
   exact⟨_,_,rfl,by rw[Ex],ih.2 rfl⟩
theorem fw0{h:H}{Z:Nat→Prop}{nl e:Nat}{zs:List Int}{w:Value}(hr:Rd h Z (.sl nl e 1 (ivs zs)) w): ∃sa c,w= .slice sa zs.length c∧RdI h sa c zs:=by
 rw[Rd]at hr
 rcases hr with⟨h0,_,_,rfl⟩|⟨o,off,n,c,r,rfl,h1,h2,h3,h4,h5,h6,h7,h8⟩
 ·have:zs=[]:=by cases zs with
   |nil=>rfl
   |cons=>cases h0
  subst this
  exact⟨none,0,rfl, .nil⟩
 ·rw[gf1,Nat.mul_one]at h5
  subst h5
  have h9:=zj7.1 h8
  rw[gf1]at h9
  refine⟨_,c,rfl, .inr ⟨h6,o,off,r,rfl,h2,h3,fun i h0 hi=> ?_⟩⟩
  have h10:=c88 h0 hi
  rw[←h9,List.getElem?_take,if_pos (by omega),List.getElem?_drop]at h10
  exact h10
theorem pd9{h:H}{Z:Nat→Prop}{e:Nat}{zs:List Int}{sa:Option Addr}{c:Nat}(hr:RdI h sa c zs)(hz: ∀o,sa.map (·.block)=some o→Z o):Rd h Z (.sl 2 e 1 (ivs zs)) (.slice sa zs.length c):=by
 rw[Rd]
 rcases hr with⟨rfl,rfl,rfl⟩|⟨h1,o,off,r,rfl,h2,h3,h4⟩
 ·exact .inl ⟨rfl,by decide,by decide,rfl⟩
 ·refine .inr ⟨o,off,_,c,r,rfl,hz o rfl,h2,h3,by decide,by rw[gf1,Nat.mul_one],h1,fun h=>(by cases h),zj7.2 ?_⟩
  rw[gf1]
  refine List.ext_getElem? fun i=> ?_
  by_cases hi:i<zs.length
  ·rw[d40 hi,List.getElem?_take,if_pos hi,List.getElem?_drop]
   have:=h4 (i:Int) (by omega) (by omega)
   rwa [Int.toNat_natCast]at this
  ·rw[List.getElem?_eq_none (by rw[List.length_take];omega),List.getElem?_eq_none (by rw[iq5];omega)]
def lvs(nl:Nat)(m:List (List Int)):List Tree:=m.map fun l=> .sl nl 0 1 (ivs l)
theorem nb9(nl:Nat)(m:List (List Int)):(lvs nl m).length=m.length:=by simp[lvs]
theorem li3{nl:Nat}{m:List (List Int)}{i:Nat}{l:List Int}(h:m[i]? =some l):(lvs nl m)[i]? =some (.sl nl 0 1 (ivs l)):=by
 unfold lvs;rw[List.getElem?_map,h];rfl
def allZ(h:H):Nat→Prop:=fun o=>o<h.length
theorem bh6(h:H):Inv h [] (allZ h) (allZ h):=⟨by rw[okL];trivial,fun x=>by simp[fpL],fun o ho=>by simp[fpL]at ho,fun o ho=>by simp[fpL]at ho,fun o ho=>ho,fun o ho=>ho⟩
theorem vlaw{W:VW}(hP: ∀f p vs C r,W.P f=some p→p vs C=some r→VOK W.T f vs C r){h:H}{f:FuncId}{xs0:List AV}{ws:List Value}(hv:VRL h [] (allZ h) (allZ h) xs0 ws){b:Bool}(e:o25 W f xs0 []=some (.x (.bool b),[],[])): ∃h',call W.T f ws h=some (.bool b,h'):=by
 obtain⟨w,h',K,S,Z',Zp',h1,P⟩:=lw9 hP e h [] _ _ ws (bh6 h) rfl hv fun k hk=>by cases hk
 have:=P.v
 rw[Vm.VR]at this
 subst this
 exact⟨h',h1⟩
theorem sk2{h h':H}{Z Zp:Nat→Prop}(i:Inv h [] Z Zp)(hp:h<+:h')(v:Value):Post h [] Zp 0 (.x v,[],[]) v h' [] [] Z Zp:=by
 refine⟨rfl,rfl,⟨by rw[List.nil_append,okL];trivial,fun x=>by simp[fpL],fun o ho=>by simp[fpL]at ho,fun o ho=>by simp[fpL]at ho,fun o ho=> ?_,i.zp⟩,⟨hp.length_le,fun o ho _=>cb1 hp ho,fun o ho=>by simp[fpL]at ho,fun o ho=>ho,fun o ho=> .inl ho⟩,by rw[Vm.VR],rfl,fun i a k h1=>by simp at h1⟩
 have:=i.zlt o ho;have:=hp.length_le;omega
def pFt(q p:Int)(m:Nat)(g:Int)(mod:List Int):Tree:= .ex (.pt 98 [.v (.int .i64 q), .v (.int .i64 p), .v (.int .i64 m), .fz (.sl 2 0 1 (ivs mod)), .v (.int .i64 g), .sl 0 3 1 (ivs (tabs q.toNat).1), .sl 0 3 1 (ivs (tabs q.toNat).2)])
def pF(q:Int):Tree:=match fldN q.toNat with
 |some (p,m,g,mod)=>pFt q p m g mod
 |none=> .junk
def bc2:Tree→Int
 | .ex (.pt _ (.v (.int .i64 q)::_))=>q
 |_=>0
theorem yz0{q:Int} [h:IsFld q]:bc2 (pF q)=q:=by
 obtain⟨p,m,g,mod,hn⟩:=h.ok
 unfold pF;rw[hn];rfl
theorem ki3{q p g:Int}{m:Nat}{mod:List Int}(hn:fldN q.toNat=some (p,m,g,mod)):(tabs q.toNat).1.length=(q-1).toNat∧(tabs q.toNat).2.length=q.toNat:=by
 obtain⟨h2,h64⟩:=ug0 hn
 have ht:=(cb4 hn).tab
 rw[ht]
 constructor<;>simp
theorem nx2{h:H}{Z:Nat→Prop}{q p g:Int}{m:Nat}{mod:List Int}(hn:fldN q.toNat=some (p,m,g,mod)){w:Value}(hr:Rd h Z (pF q) w): ∃F E L om fm cm,w= .pointer (some ⟨F,0,none⟩)∧PUse h F q p m g mod E L om fm cm:=by
 obtain⟨h2,h64⟩:=ug0 hn
 have ht:=(cb4 hn).tab
 obtain⟨l1,l2⟩:=ki3 hn
 unfold pF at hr
 rw[hn]at hr
 simp only[pFt]at hr
 rw[Rd,Ex]at hr
 obtain⟨F,r,rfl,h1,h3,h4,h5,h6,h7⟩:=hr
 rw[ExL]at h7
 obtain⟨w0,c0,e0,k0,h7⟩:=h7
 rw[ExL]at h7
 obtain⟨w1,c1,e1,k1,h7⟩:=h7
 rw[ExL]at h7
 obtain⟨w2,c2,e2,k2,h7⟩:=h7
 rw[ExL]at h7
 obtain⟨w3,c3,e3,k3,h7⟩:=h7
 rw[ExL]at h7
 obtain⟨w4,c4,e4,k4,h7⟩:=h7
 rw[ExL]at h7
 obtain⟨w5,c5,e5,k5,h7⟩:=h7
 rw[ExL]at h7
 obtain⟨w6,c6,e6,k6,h7⟩:=h7
 unfold Ex at k0 k1 k2 k3 k4 k5 k6
 subst e6 e5 e4 e3 e2 e1
 obtain⟨sa,cm,rfl,rm⟩:=fw0 k3
 obtain⟨E,nE,rE,rfl,_,hE,_,_,_,_,nE1,_,xE⟩:=k5
 obtain⟨L,nL,rL,rfl,_,hL,_,_,_,_,nL1,_,xL⟩:=k6
 rw[ex4]at xE xL
 rw[gf1,Nat.mul_one,l1]at nE1
 rw[gf1,Nat.mul_one,l2]at nL1
 subst nE1 nL1 k0 k1 k2 k4
 have hml:=(hj0 hn).1.ml
 have hm1:=(hj0 hn).1.m1
 obtain⟨om,fm,rfl⟩: ∃om fm,sa=some ⟨om,fm,none⟩:=by
  rcases rm with⟨_,_,h0⟩|⟨_,o,off,r,h0,_⟩
  ·rw[h0]at hml;simp at hml
  ·exact⟨o,off,h0⟩
 have cell: ∀{i:Nat} {v:Value},r.cells[i]? =some v→h.ld1 F i=some v:=fun{i v} hi=>by rw[ng1 h3];exact hi
 refine⟨F,E,L,om,fm,cm,rfl,by omega,by omega,cell (by rw[e0];rfl),cell (by rw[e0];rfl),cell (by rw[e0];rfl),cell (by rw[e0];rfl),cell (by rw[e0];rfl),cell (by rw[e0];rfl),cell (by rw[e0];rfl),fun i h0 hi=> ?_,fun a h0 ha=> ?_,rm⟩
 ·rw[ng1 hE,xE,c88 h0 (by rw[l1];omega)]
  congr 2
  rw[ht]
  unfold gi
  rw[List.getD_eq_getElem?_getD,List.getElem?_map,List.getElem?_range (by omega)]
  show fexp q ((i.toNat:Nat):Int)=_
  rw[show((i.toNat:Nat):Int)=i by omega]
 ·rw[ng1 hL,xL,c88 h0 (by rw[l2];omega)]
  congr 2
  rw[ht]
  unfold gi
  rw[List.getD_eq_getElem?_getD,List.getElem?_map,List.getElem?_range (by omega)]
  show flog q ((a.toNat:Nat):Int)=_
  rw[show((a.toNat:Nat):Int)=a by omega]
open Classical in
noncomputable def it3 (g:Int→Value):List AV→Rts→Option VRes
 | [.fz b t],[]=>if IsFld (bc2 t)∧t=pF (bc2 t)then some (.x (g (bc2 t)),[],[])else none
 |_,_=>none
open Classical in
noncomputable def pOne (g:Int→Int→Value):List AV→Rts→Option VRes
 | [.fz b t, .x (.int .i64 a)],[]=>if IsFld (bc2 t)∧t=pF (bc2 t)then some (.x (g (bc2 t) a),[],[])else none
 |_,_=>none
open Classical in
noncomputable def pTwo (g:Int→Int→Int→Value):List AV→Rts→Option VRes
 | [.fz b t, .x (.int .i64 a), .x (.int .i64 a')],[]=>if IsFld (bc2 t)∧t=pF (bc2 t)then some (.x (g (bc2 t) a a'),[],[])else none
 |_,_=>none
theorem jm7{g:Int→Value}{q:Int} [h:IsFld q]{b:Bool}:it3 g [.fz b (pF q)] []=some (.x (g q),[],[]):=by
 unfold it3;simp only[];rw[if_pos (by rw[yz0];exact⟨h,rfl⟩),yz0]
theorem l79{g:Int→Int→Value}{q:Int} [h:IsFld q]{b:Bool}{a:Int}:pOne g [.fz b (pF q), .x (.int .i64 a)] []=some (.x (g q a),[],[]):=by
 unfold pOne;simp only[];rw[if_pos (by rw[yz0];exact⟨h,rfl⟩),yz0]
theorem pu4{g:Int→Int→Int→Value}{q:Int} [h:IsFld q]{b:Bool}{a a':Int}:pTwo g [.fz b (pF q), .x (.int .i64 a), .x (.int .i64 a')] []=some (.x (g q a a'),[],[]):=by
 unfold pTwo;simp only[];rw[if_pos (by rw[yz0];exact⟨h,rfl⟩),yz0]
abbrev r43(f:FuncId)(xs:List Value)(g:Int→Value):Prop:= ∀(h:H) (F:Nat) (q p:Int) (m:Nat) (ge:Int) (mod:List Int) (E L om fm cm:Nat),fldN q.toNat=some (p,m,ge,mod)→PUse h F q p m ge mod E L om fm cm→call T f (.pointer (some ⟨F,0,none⟩)::xs) h=some (g q,h)
theorem nh2{f:FuncId}{b:Bool}{t:Tree}{xs:List Value}{g:Int→Value}(H:r43 f xs g)(hf:IsFld (bc2 t))(ht:t=pF (bc2 t)):VOK T f (.fz b t::xs.map AV.x) [] (.x (g (bc2 t)),[],[]):=by
 intro h Ac Z Zp ws i hC hv hk
 obtain rfl:Ac=[]:=by cases Ac with
  |nil=>rfl
  |cons=>cases hC
 rw[Vm.VRL]at hv
 obtain⟨w,ws',rfl,h1,h2⟩:=hv
 rw[Vm.VR,ht]at h1
 have hxs:ws'=xs:=by
  clear H hk hC i h1
  induction xs generalizing ws' with
  |nil=>rw[List.map_nil,VRL]at h2;exact h2
  |cons x xs ih=>
   rw[List.map_cons,VRL]at h2
   obtain⟨w',ws'',rfl,k1,k2⟩:=h2
   rw[Vm.VR]at k1
   rw[k1,ih _ k2]
 subst hxs
 obtain⟨p,m,ge,mod,hn⟩:=hf.ok
 obtain⟨F,E,L,om,fm,cm,rfl,u⟩:=nx2 hn h1
 have e:=H h F (bc2 t) p m ge mod E L om fm cm hn u
 exact⟨_,h,[],[],Z,Zp,e,sk2 i (List.prefix_refl _) _⟩
theorem o24{f:FuncId}{g:Int→Value}(H:r43 f [] g){xs0:List AV}{C:Rts}{r:VRes}(he:it3 g xs0 C=some r):VOK T f xs0 C r:=by
 unfold it3 at he
 split at he
 ·split at he
  ·rename_i hc;cases he;exact nh2 (xs:=[]) (g:=g) H hc.1 hc.2
  ·cases he
 ·cases he
theorem ka9{f:FuncId}{g:Int→Int→Value}(H: ∀a,r43 f [.int .i64 a] fun q=>g q a){xs0:List AV}{C:Rts}{r:VRes}(he:pOne g xs0 C=some r):VOK T f xs0 C r:=by
 unfold pOne at he
 split at he
 ·split at he
  ·rename_i hc;cases he;exact nh2 (xs:=[_]) (H _) hc.1 hc.2
  ·cases he
 ·cases he
theorem sg0{f:FuncId}{g:Int→Int→Int→Value}(H: ∀a a',r43 f [.int .i64 a, .int .i64 a'] fun q=>g q a a'){xs0:List AV}{C:Rts}{r:VRes}(he:pTwo g xs0 C=some r):VOK T f xs0 C r:=by
 unfold pTwo at he
 split at he
 ·split at he
  ·rename_i hc;cases he;exact nh2 (xs:=[_,_]) (H _ _) hc.1 hc.2
  ·cases he
 ·cases he
def rFl(q p:Int)(m:Nat)(g:Int)(mod:List Int):List AV:=[.x (.int .i64 q), .x (.int .i64 p), .x (.int .i64 m), .x (.int .i64 g), .fz true (.ex (.sl 1 3 1 (ivs mod)))]
def rFs(q:Int):List AV:=match fldN q.toNat with
 |some (p,m,g,mod)=>rFl q p m g mod
 |none=>[]
def mk3:List AV→Int
 | .x (.int .i64 q)::_=>q
 |_=>0
theorem v85{q:Int} [h:IsFld q]:mk3 (rFs q)=q:=by
 obtain⟨p,m,g,mod,hn⟩:=h.ok
 unfold rFs;rw[hn];rfl
theorem d21{h:H}{A:List AT}{Z Zp:Nat→Prop}{q p g:Int}{m:Nat}{mod:List Int}(hn:fldN q.toNat=some (p,m,g,mod)){w:Value}(hr:Vm.VR h A Z Zp (.agg (rFs q)) w): ∃om cm,w=rv q p m g mod om cm∧RUse h q p m g mod om cm:=by
 unfold rFs at hr
 rw[hn]at hr
 simp only[rFl]at hr
 rw[Vm.VR]at hr
 obtain⟨ws,rfl,h1⟩:=hr
 rw[Vm.VRL]at h1
 obtain⟨w0,ws0,rfl,k0,h1⟩:=h1
 rw[Vm.VRL]at h1
 obtain⟨w1,ws1,rfl,k1,h1⟩:=h1
 rw[Vm.VRL]at h1
 obtain⟨w2,ws2,rfl,k2,h1⟩:=h1
 rw[Vm.VRL]at h1
 obtain⟨w3,ws3,rfl,k3,h1⟩:=h1
 rw[Vm.VRL]at h1
 obtain⟨w4,ws4,rfl,k4,h1⟩:=h1
 rw[Vm.VRL]at h1
 unfold Vm.VR at k0 k1 k2 k3 k4
 subst k0 k1 k2 k3 h1
 rw[Rd,Ex]at k4
 obtain⟨om,n,r,rfl,_,h2,h3,h4,h5,h6,h7,h8,h9⟩:=k4
 rw[gf1,Nat.mul_one]at h7
 subst h7
 rw[ex4]at h9
 exact⟨om,mod.length,rfl,hn,RdI.ofRow h2 h9 fun _=>h5⟩
open Classical in
noncomputable def rOne (g:Int→Int→Value):List AV→Rts→Option VRes
 | [.agg l, .x (.int .i64 a)],[]=>if IsFld (mk3 l)∧l=rFs (mk3 l)then some (.x (g (mk3 l) a),[],[])else none
 |_,_=>none
open Classical in
noncomputable def rTwo (g:Int→Int→Int→Value):List AV→Rts→Option VRes
 | [.agg l, .x (.int .i64 a), .x (.int .i64 a')],[]=>if IsFld (mk3 l)∧l=rFs (mk3 l)then some (.x (g (mk3 l) a a'),[],[])else none
 |_,_=>none
theorem jy8{g:Int→Int→Value}{q:Int} [h:IsFld q]{a:Int}:rOne g [.agg (rFs q), .x (.int .i64 a)] []=some (.x (g q a),[],[]):=by
 unfold rOne;simp only[];rw[if_pos (by rw[v85];exact⟨h,rfl⟩),v85]
theorem fk5{g:Int→Int→Int→Value}{q:Int} [h:IsFld q]{a a':Int}:rTwo g [.agg (rFs q), .x (.int .i64 a), .x (.int .i64 a')] []=some (.x (g q a a'),[],[]):=by
 unfold rTwo;simp only[];rw[if_pos (by rw[v85];exact⟨h,rfl⟩),v85]
abbrev rw9(f:FuncId)(xs:List Value)(g:Int→Value):Prop:= ∀(h:H) (q p:Int) (m:Nat) (ge:Int) (mod:List Int) (om cm:Nat),RUse h q p m ge mod om cm→ ∃h':H,h<+:h'∧call T f (rv q p m ge mod om cm::xs) h=some (g q,h')
theorem fz3{f:FuncId}{l:List AV}{xs:List Value}{g:Int→Value}(H:rw9 f xs g)(hf:IsFld (mk3 l))(ht:l=rFs (mk3 l)):VOK T f (.agg l::xs.map AV.x) [] (.x (g (mk3 l)),[],[]):=by
 intro h Ac Z Zp ws i hC hv hk
 obtain rfl:Ac=[]:=by cases Ac with
  |nil=>rfl
  |cons=>cases hC
 rw[Vm.VRL]at hv
 obtain⟨w,ws',rfl,h1,h2⟩:=hv
 rw[ht]at h1
 have hxs:ws'=xs:=by
  clear H hk hC i h1
  induction xs generalizing ws' with
  |nil=>rw[List.map_nil,VRL]at h2;exact h2
  |cons x xs ih=>
   rw[List.map_cons,VRL]at h2
   obtain⟨w',ws'',rfl,k1,k2⟩:=h2
   rw[Vm.VR]at k1
   rw[k1,ih _ k2]
 subst hxs
 obtain⟨p,m,ge,mod,hn⟩:=hf.ok
 obtain⟨om,cm,rfl,u⟩:=d21 hn h1
 obtain⟨h',hp,e⟩:=H h (mk3 l) p m ge mod om cm u
 exact⟨_,h',[],[],Z,Zp,e,sk2 i hp _⟩
theorem wn0{f:FuncId}{g:Int→Int→Value}(H: ∀a,rw9 f [.int .i64 a] fun q=>g q a){xs0:List AV}{C:Rts}{r:VRes}(he:rOne g xs0 C=some r):VOK T f xs0 C r:=by
 unfold rOne at he
 split at he
 ·split at he
  ·rename_i hc;cases he;exact fz3 (xs:=[_]) (H _) hc.1 hc.2
  ·cases he
 ·cases he
theorem zg3{f:FuncId}{g:Int→Int→Int→Value}(H: ∀a a',rw9 f [.int .i64 a, .int .i64 a'] fun q=>g q a a'){xs0:List AV}{C:Rts}{r:VRes}(he:rTwo g xs0 C=some r):VOK T f xs0 C r:=by
 unfold rTwo at he
 split at he
 ·split at he
  ·rename_i hc;cases he;exact fz3 (xs:=[_,_]) (H _ _) hc.1 hc.2
  ·cases he
 ·cases he
def pNew:List AV→Rts→Option VRes
 | [.x (.int .i64 q)],[]=>match fldN q.toNat with
   |some _=>some (.tup [.fz true (pF q), .x (.int .i64 0)],[],[])
   |none=>some (.tup [.x (.pointer none), .x (.int .i64 1)],[],[])
 |_,_=>none
def kb3:List AV→Rts→Option VRes
 | [.x (.int .i64 q)],[]=>match fldN q.toNat with
   |some _=>some (.tup [.agg (rFs q), .x (.int .i64 0)],[],[])
   |none=>some (.tup [.agg [.x (.int .i64 0), .x (.int .i64 0), .x (.int .i64 0), .x (.int .i64 0), .x (.slice none 0 0)], .x (.int .i64 1)],[],[])
 |_,_=>none
theorem a64{h h':H}{Z Zp:Nat→Prop}(i:Inv h [] Z Zp)(hp:h<+:h'){a:AV}{w:Value}(hv:Vm.VR h' [] (fun o=>h.length≤o∧o<h'.length) (fun o=>h.length≤o∧o<h'.length) a w): ∃Z' Zp',Post h [] Zp 0 (a,[],[]) w h' [] [] Z' Zp':=by
 refine⟨fun o=>Z o∨(h.length≤o∧o<h'.length),fun o=>Zp o∨(h.length≤o∧o<h'.length),rfl,rfl,⟨by rw[List.nil_append,okL];trivial,fun x=>by simp[fpL],fun o ho=>by simp[fpL]at ho,fun o ho=>by simp[fpL]at ho,fun o ho=> ?_,fun o ho=>ho.imp (i.zp o) id⟩,⟨hp.length_le,fun o ho _=>cb1 hp ho,fun o ho=>by simp[fpL]at ho,fun o ho=> .inl ho,fun o ho=>ho.imp id fun h=> .inr h.1⟩,Vm.VR.move (fun o ho=> .inr ho) (fun o ho=> .inr ho) (fun _ _=>rfl) (fun _ _=>rfl) (Stab.refl [] []) hv rfl,rfl,fun i a k h1=>by simp at h1⟩
 rcases ho with ho|ho
 ·have:=i.zlt o ho;have:=hp.length_le;omega
 ·exact ho.2
theorem lo5{xs0:List AV}{C:Rts}{r:VRes}(he:pNew xs0 C=some r):VOK T 26 xs0 C r:=by
 unfold pNew at he
 split at he
 ·rename_i q
  intro h Ac Z Zp ws i hC hv hk
  obtain rfl:Ac=[]:=by cases Ac with
   |nil=>rfl
   |cons=>cases hC
  rw[Vm.VRL]at hv
  obtain⟨w,ws',rfl,h1,h2⟩:=hv
  rw[Vm.VRL]at h2
  rw[Vm.VR]at h1
  subst h1 h2
  split at he
  ·rename_i x hn
   obtain⟨p,m,g,mod⟩:=x
   cases he
   obtain⟨h',F,hp,hF,⟨om,fm,cm,ho,hM,⟨E,L,q1,q2,hFr,hE,hL,q3,q4⟩⟩,e⟩:=e24 q hn h
   have hFl:=h44 hFr
   have hEl:=h44 hE
   have hLl:=h44 hL
   have hom:om<h'.length:=by
    rcases hM with⟨h0,_⟩|⟨_,o,off,r,h0,h1,_⟩
    ·cases h0
    ·cases h0;exact h44 h1
   have hzo: ∀o,(some (⟨om,fm,none⟩:Addr)).map (·.block)=some o→h.length≤o∧o<h'.length:=fun o ho'=>by
    have e1:om=o:=by simpa using ho'
    subst e1;exact⟨by omega,hom⟩
   have hrd:Rd h' (fun o=>h.length≤o∧o<h'.length) (pF q) (.pointer (some ⟨F,0,none⟩)):=by
    have hq2:=ug0 hn
    unfold pF
    rw[hn]
    simp only[pFt]
    rw[Rd,Ex]
    refine⟨F,_,rfl,⟨hF,hFl⟩,hFr,rfl,rfl,rfl, ?_⟩
    rw[ExL];refine⟨_,_,rfl,by unfold Ex;rfl, ?_⟩
    rw[ExL];refine⟨_,_,rfl,by unfold Ex;rfl, ?_⟩
    rw[ExL];refine⟨_,_,rfl,by unfold Ex;rfl, ?_⟩
    rw[ExL];refine⟨_,_,rfl,by unfold Ex;exact pd9 hM hzo, ?_⟩
    rw[ExL];refine⟨_,_,rfl,by unfold Ex;rfl, ?_⟩
    rw[ExL];refine⟨_,_,rfl,by unfold Ex;exact⟨E,_,_,rfl,⟨by omega,hEl⟩,hE,rfl,rfl,rfl,by decide,by rw[gf1,Nat.mul_one,q3],fun h=>(by cases h),ex4.2 rfl⟩, ?_⟩
    rw[ExL];refine⟨_,_,rfl,by unfold Ex;exact⟨L,_,_,rfl,⟨by omega,hLl⟩,hL,rfl,rfl,rfl,by decide,by rw[gf1,Nat.mul_one,q4],fun h=>(by cases h),ex4.2 rfl⟩, ?_⟩
    rw[ExL]
   obtain⟨Z',Zp',P⟩:=a64 (a:= .tup [.fz true (pF q), .x (.int .i64 0)]) (w:= .tuple #[.pointer (some ⟨F,0,none⟩), .int .i64 0]) i hp (by
    rw[Vm.VR]
    exact⟨[_,_],rfl, .cons (by rw[Vm.VR];exact hrd) (.cons (by rw[Vm.VR]) .nil)⟩)
   exact⟨_,h',[],[],Z',Zp',e,P⟩
  ·rename_i hn
   cases he
   obtain⟨h',hp,e⟩:=e84 q hn h
   obtain⟨Z',Zp',P⟩:=a64 (a:= .tup [.x (.pointer none), .x (.int .i64 1)]) (w:= .tuple #[.pointer none, .int .i64 1]) i hp (by
    rw[Vm.VR]
    exact⟨[_,_],rfl, .cons (by rw[Vm.VR]) (.cons (by rw[Vm.VR]) .nil)⟩)
   exact⟨_,h',[],[],Z',Zp',e,P⟩
 ·cases he
theorem l07{xs0:List AV}{C:Rts}{r:VRes}(he:kb3 xs0 C=some r):VOK T 7 xs0 C r:=by
 unfold kb3 at he
 split at he
 ·rename_i q
  intro h Ac Z Zp ws i hC hv hk
  obtain rfl:Ac=[]:=by cases Ac with
   |nil=>rfl
   |cons=>cases hC
  rw[Vm.VRL]at hv
  obtain⟨w,ws',rfl,h1,h2⟩:=hv
  rw[Vm.VRL]at h2
  rw[Vm.VR]at h1
  subst h1 h2
  split at he
  ·rename_i x hn
   obtain⟨p,m,g,mod⟩:=x
   cases he
   obtain⟨h',om,cm,hp,⟨ho,rfl,hr⟩,e⟩:=yl2 q hn h
   obtain⟨Z',Zp',P⟩:=a64 (a:= .tup [.agg (rFs q), .x (.int .i64 0)]) (w:= .tuple #[fv q p m g (.slice (some ⟨om,0,none⟩) mod.length mod.length), .int .i64 0]) i hp (by
    have hml:=(hj0 hn).1.ml
    rw[Vm.VR]
    refine⟨[_,_],rfl, .cons ?_ (.cons (by rw[Vm.VR]) .nil)⟩
    unfold rFs
    rw[hn]
    simp only[rFl]
    rw[Vm.VR]
    refine⟨[_,_,_,_,_],rfl, .cons (by rw[Vm.VR]) (.cons (by rw[Vm.VR]) (.cons (by rw[Vm.VR]) (.cons (by rw[Vm.VR]) (.cons ?_ .nil))))⟩
    rw[Vm.VR,Rd,Ex]
    refine⟨om,_,_,rfl,⟨ho,h44 hr⟩,hr,rfl,rfl,rfl,by decide,by rw[gf1,Nat.mul_one],fun _ h0=> ?_,ex4.2 rfl⟩
    have:=congrArg List.length h0
    rw[gf1,hml]at this
    simp at this)
   exact⟨_,h',[],[],Z',Zp',e,P⟩
  ·rename_i hn
   cases he
   obtain⟨h',hp,e⟩:=wb8 q hn h
   obtain⟨Z',Zp',P⟩:=a64 (a:= .tup [.agg [.x (.int .i64 0), .x (.int .i64 0), .x (.int .i64 0), .x (.int .i64 0), .x (.slice none 0 0)], .x (.int .i64 1)]) (w:= .tuple #[fv 0 0 0 0 (.slice none 0 0), .int .i64 1]) i hp (by
    rw[Vm.VR]
    refine⟨[_,_],rfl, .cons ?_ (.cons (by rw[Vm.VR]) .nil)⟩
    rw[Vm.VR]
    exact⟨[_,_,_,_,_],rfl, .cons (by rw[Vm.VR]) (.cons (by rw[Vm.VR]) (.cons (by rw[Vm.VR]) (.cons (by rw[Vm.VR]) (.cons (by rw[Vm.VR]) .nil))))⟩)
   exact⟨_,h',[],[],Z',Zp',e,P⟩
 ·cases he
noncomputable def vP:FuncId→Option (List AV→Rts→Option VRes)
 |27=>some (pOne fun q a=> .bool (fok q a))
 |70=>some (it3 fun q=> .int .i64 q)
 |64=>some (pTwo fun q a b=> .int .i64 (fmul q a b))
 |38=>some (pTwo fun q a b=> .int .i64 (fadd q a b))
 |66=>some (pTwo fun q a b=> .int .i64 (fsub q a b))
 |78=>some (pOne fun q a=> .int .i64 (fneg q a))
 |65=>some (pOne fun q a=> .int .i64 (finv q a))
 |25=>some (rOne fun q a=> .bool (fok q a))
 |32=>some (rTwo fun q a b=> .int .i64 (fmul q a b))
 |31=>some (rTwo fun q a b=> .int .i64 (fadd q a b))
 |36=>some (rTwo fun q a b=> .int .i64 (fsub q a b))
 |35=>some (rOne fun q a=> .int .i64 (finv q a))
 |26=>some pNew
 |7=>some kb3
 |63=>some h90
 |_=>none
noncomputable def W:VW:=⟨T,vP,vH,vM,ct⟩
@[push_cast] theorem W_M(f:FuncId):W.M f=vM f:=rfl
@[push_cast] theorem W_H(f:FuncId):W.H f=vH f:=rfl
@[push_cast] theorem W_ct:W.ct=ct:=rfl
theorem lw2(f:FuncId)(p:List AV→Rts→Option VRes)(xs0:List AV)(C:Rts)(r:VRes)(hp:W.P f=some p)(he:p xs0 C=some r):VOK W.T f xs0 C r:=by
 have hp:vP f=some p:=hp
 show VOK T f xs0 C r
 unfold vP at hp
 split at hp
 ·cases hp;exact ka9 (f:=27) (fun a h F q p m ge mod E L om fm cm hn u=>qy4 u a) he
 ·cases hp;exact o24 (f:=70) (fun h F q p m ge mod E L om fm cm hn u=>ts1 u) he
 ·cases hp;exact sg0 (f:=64) (fun a a' h F q p m ge mod E L om fm cm hn u=>lb9 hn u a a') he
 ·cases hp;exact sg0 (f:=38) (fun a a' h F q p m ge mod E L om fm cm hn u=>gl5 hn u (jj8 hn).1 a a') he
 ·cases hp;exact sg0 (f:=66) (fun a a' h F q p m ge mod E L om fm cm hn u=>eb1 hn u (jj8 hn).1 a a') he
 ·cases hp;exact ka9 (f:=78) (fun a h F q p m ge mod E L om fm cm hn u=>kb1 hn u (jj8 hn).1 a) he
 ·cases hp;exact ka9 (f:=65) (fun a h F q p m ge mod E L om fm cm hn u=>im8 hn u a) he
 ·cases hp;exact wn0 (f:=25) (fun a h q p m ge mod om cm u=>⟨_,List.prefix_append _ _,pr2 a⟩) he
 ·cases hp;exact zg3 (f:=32) (fun a a' h q p m ge mod om cm u=>ad1 u a a') he
 ·cases hp;exact zg3 (f:=31) (fun a a' h q p m ge mod om cm u=>sg1 u a a') he
 ·cases hp;exact zg3 (f:=36) (fun a a' h q p m ge mod om cm u=>gm4 u a a') he
 ·cases hp;exact wn0 (f:=35) (fun a h q p m ge mod om cm u=>nd1 u a) he
 ·cases hp;exact(fun _=>lo5 he) 26
 ·cases hp;exact(fun _=>l07 he) 7
 ·cases hp;exact(fun _=>x66 he) 63
 ·cases hp
section
variable {q:Int} [IsFld q] {b:Bool} {x y:Int}
@[push_cast] theorem ta8:o25 W 27 [.fz b (pF q), .x (.int .i64 x)] []=some (.x (.bool (fok q x)),[],[]):=(xr5 rfl).trans l79
@[push_cast] theorem l09:o25 W 70 [.fz b (pF q)] []=some (.x (.int .i64 q),[],[]):=(xr5 rfl).trans jm7
@[push_cast] theorem gi0:o25 W 64 [.fz b (pF q), .x (.int .i64 x), .x (.int .i64 y)] []=some (.x (.int .i64 (fmul q x y)),[],[]):=(xr5 rfl).trans pu4
@[push_cast] theorem j43:o25 W 38 [.fz b (pF q), .x (.int .i64 x), .x (.int .i64 y)] []=some (.x (.int .i64 (fadd q x y)),[],[]):=(xr5 rfl).trans pu4
@[push_cast] theorem ze7:o25 W 66 [.fz b (pF q), .x (.int .i64 x), .x (.int .i64 y)] []=some (.x (.int .i64 (fsub q x y)),[],[]):=(xr5 rfl).trans pu4
@[push_cast] theorem e86:o25 W 78 [.fz b (pF q), .x (.int .i64 x)] []=some (.x (.int .i64 (fneg q x)),[],[]):=(xr5 rfl).trans l79
@[push_cast] theorem eb9:o25 W 65 [.fz b (pF q), .x (.int .i64 x)] []=some (.x (.int .i64 (finv q x)),[],[]):=(xr5 rfl).trans l79
@[push_cast] theorem xb9:o25 W 25 [.agg (rFs q), .x (.int .i64 x)] []=some (.x (.bool (fok q x)),[],[]):=(xr5 rfl).trans jy8
@[push_cast] theorem n06:o25 W 32 [.agg (rFs q), .x (.int .i64 x), .x (.int .i64 y)] []=some (.x (.int .i64 (fmul q x y)),[],[]):=(xr5 rfl).trans fk5
@[push_cast] theorem ze0:o25 W 31 [.agg (rFs q), .x (.int .i64 x), .x (.int .i64 y)] []=some (.x (.int .i64 (fadd q x y)),[],[]):=(xr5 rfl).trans fk5
@[push_cast] theorem br1:o25 W 36 [.agg (rFs q), .x (.int .i64 x), .x (.int .i64 y)] []=some (.x (.int .i64 (fsub q x y)),[],[]):=(xr5 rfl).trans fk5
@[push_cast] theorem dy2:o25 W 35 [.agg (rFs q), .x (.int .i64 x)] []=some (.x (.int .i64 (finv q x)),[],[]):=(xr5 rfl).trans jy8
theorem gh1: ∃d,fldN q.toNat=some d:=by
 obtain⟨p,m,g,mod,hn⟩:= ‹IsFld q›.ok
 exact⟨_,hn⟩
@[push_cast] theorem ev4:o25 W 26 [.x (.int .i64 q)] []=some (.tup [.fz true (pF q), .x (.int .i64 0)],[],[]):=(xr5 rfl).trans (by obtain⟨d,hd⟩:=gh1 (q:=q);unfold pNew;simp only[hd])
@[push_cast] theorem uw8:o25 W 7 [.x (.int .i64 q)] []=some (.tup [.agg (rFs q), .x (.int .i64 0)],[],[]):=(xr5 rfl).trans (by obtain⟨d,hd⟩:=gh1 (q:=q);unfold kb3;simp only[hd])
end
theorem ug9{q:Int}(hn:fldN q.toNat=none):o25 W 26 [.x (.int .i64 q)] []=some (.tup [.x (.pointer none), .x (.int .i64 1)],[],[]):=(xr5 rfl).trans (by unfold pNew;simp only[hn])
theorem fg0{q:Int}(hn:fldN q.toNat=none):o25 W 7 [.x (.int .i64 q)] []=some (.tup [.agg [.x (.int .i64 0), .x (.int .i64 0), .x (.int .i64 0), .x (.int .i64 0), .x (.slice none 0 0)], .x (.int .i64 1)],[],[]):=(xr5 rfl).trans (by unfold kb3;simp only[hn])
theorem h20{b:Bool}{nl:Nat}{zs:List Int}(hz:zs.length≤1000000):o25 W 63 [.fz b (.sl nl 0 1 (ivs zs))] []=some (.own 0 [],[.sl (nlT zs) 3 1 (ivs zs)],[]):=(xr5 rfl).trans (ol3 hz)
end Go.Proofs.YtoglhlonhmmieaaGreat
namespace Go.Alg
section
variable {K:Type} [FK K]
structure Rref (n:Nat) (A:List (Nat×(Nat→K))):Prop where
 up:A.Pairwise fun a b=>a.1<b.1
 one: ∀a∈A,a.2 a.1=1
 before: ∀a∈A,∀k,k<a.1→a.2 k=0
 lt: ∀a∈A,a.1<n
 out: ∀a∈A,∀k,n≤k→a.2 k=0
 zero: ∀a∈A,∀b∈A,a.1≠b.1→a.2 b.1=0
section
variable {n:Nat} {A B:List (Nat×(Nat→K))}
def wf(l:List K):Nat→K:=fun i=>l.getD i 0
theorem ez8{l:List K}{k:Nat}(h:l.length≤k):wf l k=0:=by unfold wf;rw[List.getD_eq_getElem?_getD,List.getElem?_eq_none h];rfl
theorem i67{l:List K}{k:Nat}(h:k<l.length):wf l k=l[k]:=by unfold wf;rw[List.getD_eq_getElem?_getD,List.getElem?_eq_getElem h];rfl
theorem ou8{l l':List K}(hl:l.length=l'.length)(h:wf l=wf l'):l=l':=by
 refine List.ext_getElem hl fun i h1 h2=> ?_
 rw[←i67 h1,←i67 h2,h]
end
end
end Go.Alg
namespace Go.Alg
section
variable {α:Type}
end
section
variable {K:Type} [FK K]
def toF(A:List (Nat×List K)):List (Nat×(Nat→K)):=A.map fun a=>(a.1,wf a.2)
section
variable {n:Nat} {A:List (Nat×List K)}
end
theorem wf_set{x:List K}{i:Nat}{v:K}(hi:i<x.length)(k:Nat):wf (x.set i v) k=if k=i then v else wf x k:=by
 unfold wf
 rw[List.getD_eq_getElem?_getD,List.getD_eq_getElem?_getD,List.getElem?_set]
 by_cases h:i=k
 ·subst h;rw[if_pos rfl,if_pos hi,if_pos rfl];rfl
 ·rw[if_neg h,if_neg fun e=>h e.symm]
end
end Go.Alg
namespace Go.Alg
section
variable {α:Type} {M:List (List α)} {P:List Nat}
def nth{α:Type}(M:List (List α))(k:Nat):List α:=M.getD k []
theorem t70{α:Type}{M:List (List α)}{k:Nat}(h:k<M.length):nth M k=M[k]:=by unfold nth;rw[List.getD_eq_getElem?_getD,List.getElem?_eq_getElem h];rfl
end
section
variable {K:Type} [FK K]
section
variable {n c:Nat} {M0 M:List (List K)} {P:List Nat}
end
end
end Go.Alg
namespace Go.Alg
section
variable {K:Type} [FK K]
end
end Go.Alg
namespace Go.Proofs.YtoglhlonhmmieaaGreat
theorem i62{α:Type}{l:List α}{i:Nat}{x:α}(h:l[i]? =some x):l.drop i=x::l.drop (i+1):=by
 obtain⟨hi,he⟩:=List.getElem?_eq_some_iff.1 h
 rw[List.drop_eq_getElem_cons hi,he]
theorem oh9{α:Type}{l:List α}{i:Nat}(h:l.length≤i):l.drop i=[]:=List.drop_eq_nil_of_le h
theorem ge6{α:Type}{l:List α}{i:Nat}(h:i<l.length): ∃x,l[i]? =some x:=⟨_,List.getElem?_eq_getElem h⟩
end Go.Proofs.YtoglhlonhmmieaaGreat
namespace Go.Proofs.YtoglhlonhmmieaaGreat
open Go.Am Go.Vm Go.Alg
def lls(nl:Nat)(m:List (List Int)):List Tree:=m.map fun l=> .sl nl 3 1 (ivs l)
theorem qf0(nl:Nat)(m:List (List Int)):(lls nl m).length=m.length:=by simp[lls]
theorem th8{nl:Nat}{m:List (List Int)}{i:Nat}{l:List Int}(h:m[i]? =some l):(lls nl m)[i]? =some (.sl nl 3 1 (ivs l)):=by
 unfold lls;rw[List.getElem?_map,h];rfl
theorem lg8(nl:Nat)(m:List (List Int)):jj5 (lls nl m)=lvs nl m:=by
 rw[gz0]
 unfold lls lvs
 rw[List.map_map]
 refine List.map_congr_left fun l _=> ?_
 show strip _=_
 rw[strip,ap3]
theorem lr8(nl:Nat)(m:List (List Int)):jj5 (lvs nl m)=lvs nl m:=by
 rw[gz0]
 unfold lvs
 rw[List.map_map]
 refine List.map_congr_left fun l _=> ?_
 show strip _=_
 rw[strip,ap3]
theorem ng3(nl:Nat)(m:List (List Int))(l:List Int):lls nl m++[.sl nl 3 1 (ivs l)]=lls nl (m++[l]):=by unfold lls;rw[List.map_append];rfl
theorem y81(nl:Nat)(m:List (List Int))(i:Nat)(l:List Int):(lls nl m).set i (.sl nl 3 1 (ivs l))=lls nl (m.set i l):=by unfold lls;rw[List.map_set]
theorem mm0(nl:Nat)(m:List (List Int))(n:Nat):(lls nl m).take n=lls nl (m.take n):=by unfold lls;rw[List.map_take]
theorem by3(nl:Nat)(m:List (List Int))(n:Nat):(lls nl m).drop n=lls nl (m.drop n):=by unfold lls;rw[List.map_drop]
theorem rj0(nl:Nat)(m:List (List Int))(n:Nat):(lvs nl m).take n=lvs nl (m.take n):=by unfold lvs;rw[List.map_take]
theorem ff4(nl:Nat)(m:List (List Int))(n:Nat):(lvs nl m).drop n=lvs nl (m.drop n):=by unfold lvs;rw[List.map_drop]
theorem lz6:ivs []=([]:List Tree):=rfl
theorem x25(nl:Nat):lls nl []=([]:List Tree):=rfl
structure RFo (q p m g:Int) (t:Tree):Prop where
 e:rFs q=[.x (.int .i64 q), .x (.int .i64 p), .x (.int .i64 m), .x (.int .i64 g), .fz true t]
 n:isNode t=true
 o:ofz true t=some (.fz true t)
theorem k75(q:Int) [h:IsFld q]: ∃(p m g:Int) (t:Tree),RFo q p m g t:=by
 obtain⟨p,m,g,mod,hn⟩:=h.ok
 exact⟨p,m,g, .ex (.sl 1 3 1 (ivs mod)),by unfold rFs;rw[hn];rfl,rfl,rfl⟩
@[push_cast] theorem wf0{q:Int} [h:IsFld q]:isNode (pF q)=true:=by
 obtain⟨p,m,g,mod,hn⟩:=h.ok
 unfold pF;rw[hn];rfl
@[push_cast] theorem v59{q:Int} [h:IsFld q]{b:Bool}:ofz b (pF q)=some (.fz b (pF q)):=by
 obtain⟨p,m,g,mod,hn⟩:=h.ok
 unfold pF;rw[hn];rfl
theorem iva{q:Int} [IsFld q]{l:List (El q)}{i:Nat}(h:i<l.length):(ivs (vs l))[i]? =some (.v (.int .i64 (wf l i).v)):=by
 rw[ui5 (by rw[fi2];exact h),v86];rfl
attribute [push_cast 50] List.isEmpty_nil List.isEmpty_cons nb9 qf0 lg8 lr8 ng3 mm0 by3 rj0 ff4 fi2 List.map_nil ite_self List.set_cons_zero List.set_cons_succ List.set_nil List.take_zero List.take_nil List.drop_zero List.drop_nil List.take_succ_cons List.drop_succ_cons List.take_length List.length_map List.flatMap_nil List.flatMap_cons gf1 pl3 l78 ap3 so0 nc5 yp5 u42 cs7 Int.natCast_add Int.natCast_one Int.natCast_zero Int.toNat_natCast Nat.div_one Nat.mul_one List.length_set List.all_cons List.all_nil List.length_append List.length_replicate List.length_take List.length_drop Int.zero_add
theorem vrl:(∀{zs:List Int} {i:Nat},i<zs.length→(ivs zs)[i]? =some (.v (.int .i64 (gi zs (i:Int)))))∧(∀(zs:List Int) (i:Nat) (x:Int),(ivs zs).set i (.v (.int .i64 x))=ivs (zs.set i x))∧(∀(nl:Nat) (m:List (List Int)) (i:Nat) (l:List Int),(lls nl m).set i (.sl nl 3 1 (ivs l))=lls nl (m.set i l))∧(∀{n b:Nat},n≤1000000→b≤1000→few n b=true)∧(∀{x:Int},-9223372036854775808≤x→x≤9223372036854775807→IntKind.wrap .i64 x=x)∧(∀{a b:Int},a<b→decide (a<b)=true)∧(∀{a b:Int},b≤a→decide (a<b)=false)∧(∀{a b:Int},a≤b→decide (a≤b)=true)∧(∀{a b:Int},b<a→decide (a≤b)=false)∧(∀{a b:Int},a=b→decide (a=b)=true)∧ ∀{a b:Int},¬a=b→decide (a=b)=false:=⟨ui5,lu7,y81,bj9,wrap64,dec_lt,cw6,nl3,qc6,mr8,nb8⟩
section
variable {q p m g:Int} [IsFld q] {t:Tree} {b b':Bool} {nl nl':Nat}
variable {N:Nat} {P Q:List (List (El q))} {nr nr':Nat}
end
theorem iat{l:List Int}{i:Nat}{a:Int}(h:l[i]? =some a):(ivs l)[i]? =some (.v (.int .i64 a)):=by
 unfold ivs;rw[List.getElem?_map,h];rfl
theorem lat{nl:Nat}{m:List (List Int)}{i:Nat}{l:List Int}(h:m[i]? =some l):(lvs nl m)[i]? =some (.sl nl 0 1 (ivs l)):=li3 h
def jks(n:Nat):List Tree:=List.replicate n .junk
@[push_cast] theorem gc3(n:Nat):(jks n).length=n:=List.length_replicate ..
def nl0:Nat→Nat
 |0=>1
 |_+1=>0
def nl1:Nat→Nat
 |0=>0
 |_+1=>1
@[push_cast] theorem o09(n:Nat):nl0 (n+1)=0:=rfl
@[push_cast] theorem m17(n:Nat):nl1 (n+1)=1:=rfl
@[push_cast] theorem vt2:nl0 0=1:=rfl
@[push_cast] theorem og7:nl1 0=0:=rfl
section
variable {b:Bool} {nl:Nat} {l:List Int}
theorem xr6(hl:l.length≤1000000):o25 W 34 [.fz b (.sl nl 0 1 (ivs l))] []=some (.own 0 [],[.sl 0 3 1 (ivs l)],[]):=by
 rw[o10 rfl T34 rfl]
 unfold F34 c34
 simp(disch:=first|omega|fail) only[push_cast,seval,vrl,if_pos,if_neg,List.nil_append]
theorem z00{x:Int}(hl:l.length≤1000000): ∀(n i:Nat),i+n=l.length→ ∀ks,
 vgoL W ⟨hNo,[.tmp 4],0⟩ [0,1,5] c54L0 (.blk 0 []::ks) [(0, .x (.int .i64 x)),(1, .fz b (.sl nl 0 1 (ivs l))),(5, .x (.int .i64 i))] []=if(l.drop i).any (fun y=>decide (y=x))=true then some (.x (.bool true),[],[])else vgo W ⟨hNo,[.tmp 4],0⟩ ks (VFr.of []) []
 |0,i,hi,ks=>by
  rw[oh9 (by omega),if_neg (by simp),sb5 c54L0.eq_def]
  simp(disch:=first|omega|fail) only[push_cast,seval,vrl,if_pos,if_neg]
 |n+1,i,hi,ks=>by
  have ih:=z00 (x:=x) hl n (i+1) (by omega) ks
  obtain⟨a,ha⟩:=ge6 (l:=l) (i:=i) (by omega)
  have h1:=iat ha
  rw[i62 ha,List.any_cons]
  rw[Int.natCast_add,Int.natCast_one]at ih
  by_cases hx:a=x
  ·rw[if_pos (by rw[decide_eq_true hx,Bool.true_or]),sb5 c54L0.eq_def]
   simp(disch:=first|omega|fail) only[push_cast,seval,vrl,if_pos,if_neg,h1,mr8 hx]
  ·rw[decide_eq_false hx,Bool.false_or,←ih,sb5 c54L0.eq_def]
   simp(disch:=first|omega|fail) only[push_cast,seval,vrl,if_pos,if_neg,h1,nb8 hx]
theorem cr7{x:Int}(hl:l.length≤1000000):o25 W 54 [.x (.int .i64 x), .fz b (.sl nl 0 1 (ivs l))] []=some (.x (.bool (l.any fun y=>decide (y=x))),[],[]):=by
 have e:=fun ks=>z00 (b:=b) (nl:=nl) (x:=x) hl l.length 0 (by omega) ks
 simp only[Int.natCast_zero,List.take_zero,List.drop_zero,rp2,lz6,x25,List.map_nil,List.length_nil]at e
 rw[o10 rfl T54 rfl]
 unfold F54 c54
 simp(disch:=first|omega|fail) only[push_cast,seval,vrl,if_pos,if_neg]
 rw[e]
 by_cases h:(l.any fun y=>decide (y=x))=true
 ·rw[if_pos h,h]
 ·rw[if_neg h,Bool.eq_false_iff.2 h]
  simp(disch:=first|omega|fail) only[push_cast,seval,vrl,if_pos,if_neg]
section
variable {k:FuncId} {t:Tree} {p:Int→Bool}
end
section
variable {k:FuncId} {t:Tree} {p:List Int→Bool} {m:List (List Int)} {nr:Nat} {bl:Bool}
end
end
def pn(P:List Nat):List Int:=P.map fun n:Nat=>(n:Int)
theorem im5(P:List Nat):(pn P).length=P.length:=by simp[pn]
theorem gu3{α:Type}{M:List (List α)}{k:Nat}(h:k<M.length):M[k]? =some (nth M k):=by rw[t70 h];exact List.getElem?_eq_getElem h
section
variable {α:Type} {n i at':Nat} {M:List (List α)}
end
section
variable {q:Int} [IsFld q] {n c i at':Nat} {M:List (List (El q))}
end
end Go.Proofs.YtoglhlonhmmieaaGreat
namespace Go.Alg
section
variable {K:Type} [FK K]
def disc(C s:Nat→K)(j:Nat):K:=sumN (j+1) fun k=>C k*s (j-k)
def shift(g:Nat)(B:Nat→K)(k:Nat):K:=if k<g then 0 else B (k-g)
end
end Go.Alg
namespace Go.Alg
section
variable {K:Type} [FK K]
theorem pv3(n:Nat)(f g:Nat→K):sumN n (fun i=>f i+g i)=sumN n f+sumN n g:=jl9 _ _ _
theorem x18(c:K)(n:Nat)(f:Nat→K):sumN n (fun i=>c*f i)=c*sumN n f:=ro9 _ _ _
theorem z09(n:Nat)(f:Nat→K):sumN n (fun i=> -f i)= -sumN n f:=eq0 _ _
def ofF(n:Nat)(f:Nat→K):List K:=(List.range n).map f
theorem gh0(n:Nat)(f:Nat→K):(ofF n f).length=n:=by simp[ofF]
theorem b43(n:Nat)(f:Nat→K)(k:Nat):wf (ofF n f) k=if k<n then f k else 0:=by
 by_cases h:k<n
 ·rw[if_pos h,i67 (by rw[gh0];exact h)]
  simp[ofF]
 ·rw[if_neg h,ez8 (by rw[gh0];omega)]
theorem ot8{n:Nat}{f:Nat→K}(h: ∀k,n≤k→f k=0):wf (ofF n f)=f:=by
 funext k
 rw[b43]
 split
 ·rfl
 ·exact(h k (by omega)).symm
theorem qt9:wf ([]:List K)=fun _=>0:=rfl
theorem g29(l:List K)(n k:Nat):wf (l.take n) k=if k<n then wf l k else 0:=by
 unfold wf
 rw[List.getD_eq_getElem?_getD,List.getD_eq_getElem?_getD,List.getElem?_take]
 split<;>rfl
theorem nz0(l l':List K)(k:Nat):wf (l++l') k=if k<l.length then wf l k else wf l' (k-l.length):=by
 unfold wf
 rw[List.getD_eq_getElem?_getD,List.getD_eq_getElem?_getD,List.getD_eq_getElem?_getD]
 split
 ·rename_i h;rw[List.getElem?_append_left h]
 ·rename_i h;rw[List.getElem?_append_right (by omega)]
theorem m12(n:Nat)(k:Nat):wf (List.replicate n (0:K)) k=0:=by
 by_cases h:k<n
 ·rw[i67 (by simpa using h),List.getElem_replicate]
 ·rw[ez8 (by simp;omega)]
theorem rb9(n:Nat):wf (List.replicate n (0:K))=fun _=>0:=funext fun k=>m12 n k
def tN(l:List K):Nat→Nat
 |0=>0
 |n+1=>if wf l n=0 then tN l n else n+1
def xa4(l:List K):List K:=l.take (tN l l.length)
theorem vv2(l:List K): ∀n,tN l n≤n
 |0=>Nat.le_refl _
 |n+1=>by have:=vv2 l n;rw[tN];split<;>omega
theorem z24(l:List K): ∀(n i:Nat),tN l n≤i→i<n→wf l i=0
 |0,i,_,h=>by omega
 |n+1,i,h1,h2=>by
  rw[tN]at h1
  split at h1
  ·by_cases he:i=n
   ·subst he;assumption
   ·exact z24 l n i h1 (by omega)
  ·omega
theorem uv7(l:List K): ∀n,tN l n≠0→wf l (tN l n-1)≠0
 |0,h=>absurd rfl h
 |n+1,h=>by
  rw[tN]at h⊢
  split
  ·rename_i h0
   rw[if_pos h0]at h
   exact uv7 l n h
  ·rw[Nat.add_sub_cancel];assumption
theorem kf0(l:List K):(xa4 l).length=tN l l.length:=by
 unfold xa4;rw[List.length_take];have:=vv2 l l.length;omega
theorem tb1(l:List K):(xa4 l).length≤l.length:=by rw[kf0];exact vv2 _ _
theorem vb5(l:List K):wf (xa4 l)=wf l:=by
 funext k
 unfold xa4
 rw[g29]
 split
 ·rfl
 ·by_cases h2:k<l.length
  ·exact(z24 l l.length k (by omega) h2).symm
  ·exact(ez8 (by omega)).symm
theorem n18:xa4 ([]:List K)=[]:=rfl
def Trm(l:List K):Prop:=l.length≠0→wf l (l.length-1)≠0
theorem t12(l:List K):Trm (xa4 l):=by
 intro h
 rw[vb5,kf0]
 rw[kf0]at h
 exact uv7 l l.length h
theorem kf6{a:List K}(ha:Trm a){n:Nat}(h: ∀k,n≤k→wf a k=0):a.length≤n:=by
 by_cases hl:a.length≤n
 ·exact hl
 ·exact absurd (h (a.length-1) (by omega)) (ha (by omega))
theorem lz5{a b:List K}(ha:Trm a)(hb:Trm b)(h:wf a=wf b):a=b:=by
 have key: ∀{a b:List K},Trm a→wf a=wf b→a.length≤b.length:=fun ha h=>kf6 ha fun k hk=>by rw[h,ez8 hk]
 exact ou8 (Nat.le_antisymm (key ha h) (key hb h.symm)) h
theorem ou7{a:List K}(h:Trm a):xa4 a=a:=lz5 (t12 a) h (vb5 a)
theorem df7{a:List K}{n:Nat}(h: ∀k,n≤k→wf a k=0):(xa4 a).length≤n:=kf6 (t12 a) fun k hk=>by rw[vb5];exact h k hk
theorem wg5:Trm ([]:List K):=fun h=>absurd rfl h
theorem vy9{a:List K}(h:wf a=fun _=>0):xa4 a=[]:=List.eq_nil_of_length_eq_zero (Nat.le_zero.1 (df7 (n:=0) fun k _=>by rw[h]))
theorem rj1{a:List K}:xa4 a=[]↔wf a=fun _=>0:=⟨fun h=>by rw[←vb5 a,h];rfl,vy9⟩
def addK(a b:List K):List K:=xa4 (ofF (max a.length b.length) fun k=>wf a k+wf b k)
theorem w62(a b:List K):wf (addK a b)=fun k=>wf a k+wf b k:=by
 unfold addK
 rw[vb5]
 exact ot8 fun k hk=>by rw[ez8 (by omega),ez8 (by omega),FK.add_zero]
theorem y42(a b:List K):Trm (addK a b):=t12 _
theorem mk8(a b:List K):(addK a b).length≤max a.length b.length:=df7 fun k hk=>by rw[b43,if_neg (by omega)]
theorem tt8(g:Nat→K)(k:Nat):disc (fun _=>0) g k=0:=ja4 fun _ _=>zero_mul _
theorem o59(c:K)(f g:Nat→K)(k:Nat):disc (fun i=>match i with|0=>c|i+1=>f i) g k=c*g k+(match k with|0=>0|k+1=>disc f g k):=by
 unfold disc
 rw[da0]
 cases k with
 |zero=>rfl
 |succ k=>
  refine congrArg _ (rc1 fun i hi=> ?_)
  rw[show k+1-(i+1)=k-i by omega]
theorem iu6(c:K)(l:List K):wf (c::l)=fun i=>match i with|0=>c|i+1=>wf l i:=by
 funext i
 cases i<;>rfl
theorem hr9{f g:Nat→K}{n m k:Nat}(hf: ∀i,n≤i→f i=0)(hg: ∀i,m≤i→g i=0)(hk:n+m≤k+1):disc f g k=0:=ja4 fun i hi=>by
 by_cases h:n≤i
 ·rw[hf i h,zero_mul]
 ·rw[hg (k-i) (by omega),mul_zero]
theorem b30{f g:Nat→K}{n m:Nat}(hf: ∀i,n<i→f i=0)(hg: ∀i,m<i→g i=0):disc f g (n+m)=f n*g m:=by
 unfold disc
 rw[xq2 (s:=n) (by omega) fun i hi hne=> ?_]
 ·rw[show n+m-n=m by omega]
 ·by_cases h:n<i
  ·rw[hf i h,zero_mul]
  ·rw[hg _ (by omega),mul_zero]
theorem ck4(f g:Nat→K)(k:Nat):disc f g k=disc g f k:=by
 unfold disc
 have: ∀(n:Nat) (h:Nat→K),sumN n h=sumN n fun i=>h (n-1-i):=by
  intro n
  induction n with
  |zero=>intro h;rfl
  |succ n ih=>
   intro h
   rw[da0,ih,cp9,FK.add_comm]
   refine congr (congrArg _ (rc1 fun i hi=> ?_)) ?_
   ·rw[show n+1-1-i=n-1-i+1 by omega]
   ·rw[show n+1-1-n=0 by omega]
 rw[this]
 refine rc1 fun i hi=> ?_
 rw[show k+1-1-i=k-i by omega,show k-(k-i)=i by omega,FK.mul_comm]
theorem d58{f g h:Nat→K}{k:Nat}:disc f (fun i=>g i+h i) k=disc f g k+disc f h k:=
 (rc1 fun i _=>FK.mul_add _ _ _).trans (pv3 _ _ _)
theorem bf5{f g h:Nat→K}{k:Nat}:disc (fun i=>f i+g i) h k=disc f h k+disc g h k:=by
 rw[ck4,d58,ck4 h f,ck4 h g]
theorem bq0{f g:Nat→K}{k:Nat}:disc f (fun i=> -g i) k= -disc f g k:=
 (rc1 fun i _=>mul_neg _ _).trans (z09 _ _)
theorem fh4{f g:Nat→K}{k:Nat}:disc (fun i=> -f i) g k= -disc f g k:=by rw[ck4,bq0,ck4]
theorem ks7{c:K}{f g:Nat→K}{k:Nat}:disc (fun i=>c*f i) g k=c*disc f g k:=
 (rc1 fun i _=>FK.mul_assoc _ _ _).trans (x18 _ _ _)
def mulK(a b:List K):List K:=if a.length=0∨b.length=0 then []else xa4 (ofF (a.length+b.length-1) (disc (wf a) (wf b)))
theorem zu9(a b:List K):wf (mulK a b)=disc (wf a) (wf b):=by
 unfold mulK
 split
 ·rename_i h
  funext k
  rcases h with h|h
  ·rw[List.eq_nil_of_length_eq_zero h,qt9,tt8]
  ·rw[List.eq_nil_of_length_eq_zero h,ck4,qt9,tt8]
 ·rw[vb5]
  exact ot8 fun k hk=>hr9 (n:=a.length) (m:=b.length) (fun i hi=>ez8 hi) (fun i hi=>ez8 hi) (by omega)
theorem ho7(a b:List K):Trm (mulK a b):=by
 unfold mulK
 split
 ·exact wg5
 ·exact t12 _
theorem bx5(a b:List K):(mulK a b).length≤a.length+b.length-1:=by
 unfold mulK
 split
 ·exact Nat.zero_le _
 ·exact df7 fun k hk=>by rw[b43,if_neg (by omega)]
theorem lk3{a b:List K}(ha:Trm a)(hb:Trm b)(h1:a≠[])(h2:b≠[]):(mulK a b).length=a.length+b.length-1:=by
 have l1:0<a.length:=List.length_pos_iff.2 h1
 have l2:0<b.length:=List.length_pos_iff.2 h2
 refine Nat.le_antisymm (bx5 a b) (Classical.byContradiction fun h=> ?_)
 have h3:disc (wf a) (wf b) (a.length-1+(b.length-1))=0:=by rw[←zu9,ez8 (by omega)]
 rw[b30 (fun i hi=>ez8 (by omega)) (fun i hi=>ez8 (by omega))]at h3
 exact hl6 (ha (by omega)) (hb (by omega)) h3
def pw(x:K):Nat→K
 |0=>1
 |n+1=>pw x n*x
def ev:List K→K→K
 | [],_=>0
 |a::l,x=>a+x*ev l x
theorem tf2: ∀(l:List K) (x:K) (n:Nat),l.length≤n→ev l x=sumN n fun i=>wf l i*pw x i
 | [],x,n,_=>(ja4 fun i _=>zero_mul _).symm
 |a::l,x,n,h=>by
  obtain⟨n,rfl⟩: ∃m,n=m+1:=⟨n-1,by simp at h;omega⟩
  rw[ev,tf2 l x n (by simpa using h),da0]
  refine congr (congrArg _ (FK.mul_one a).symm) ?_
  rw[←x18]
  refine rc1 fun i _=> ?_
  show x*(wf l i*pw x i)=wf l i*(pw x i*x)
  ac_rfl
theorem ma4{a b:List K}(h:wf a=wf b)(x:K):ev a x=ev b x:=by
 rw[tf2 a x (max a.length b.length) (by omega),tf2 b x (max a.length b.length) (by omega),h]
theorem hd5(a:List K)(x:K):ev (xa4 a) x=ev a x:=ma4 (vb5 a) x
theorem er0{a:List K}{f:Nat→K}{n:Nat}(h:wf a=f)(hn:a.length≤n)(x:K):ev a x=sumN n fun i=>f i*pw x i:=by rw[tf2 a x n hn,h]
theorem k99(a b:List K)(x:K):ev (addK a b) x=ev a x+ev b x:=by
 have hl:=mk8 a b
 rw[er0 (w62 a b) hl,tf2 a x (max a.length b.length) (by omega),tf2 b x (max a.length b.length) (by omega),←pv3]
 exact rc1 fun i _=>add_mul _ _ _
theorem tn9(b:List K)(x:K): ∀(a:List K) (N:Nat),a.length+b.length≤N→sumN N (fun i=>disc (wf a) (wf b) i*pw x i)=ev a x*ev b x
 | [],N,h=>by
   rw[ev,zero_mul]
   exact ja4 fun i _=>by rw[qt9,tt8,zero_mul]
 |c::l,N,h=>by
  obtain⟨N,rfl⟩: ∃m,N=m+1:=⟨N-1,by simp at h;omega⟩
  have ih:=tn9 b x l N (by simp at h;omega)
  have e1: ∀i,disc (wf (c::l)) (wf b) i*pw x i=c*(wf b i*pw x i)+(match i with|0=>0|i+1=>x*(disc (wf l) (wf b) i*pw x i)):=fun i=>by
   rw[iu6,o59,add_mul,FK.mul_assoc]
   cases i with
   |zero=>rw[zero_mul]
   |succ i=>
    refine congrArg _ ?_
    show disc (wf l) (wf b) i*(pw x i*x)=x*(disc (wf l) (wf b) i*pw x i)
    ac_rfl
  rw[rc1 fun i _=>e1 i,pv3,x18,←tf2 b x (N+1) (by simp at h;omega),da0]
  show c*ev b x+(0+sumN N fun i=>x*(disc (wf l) (wf b) i*pw x i))=_
  rw[zero_add,x18,ih,ev,add_mul,FK.mul_assoc]
theorem jo3(a b:List K)(x:K):ev (mulK a b) x=ev a x*ev b x:=by
 rw[er0 (zu9 a b) (n:=a.length+b.length) (by have:=bx5 a b;omega),tn9 b x a _ (Nat.le_refl _)]
theorem qm4{f:K→K}(h0:f 0=0)(a:List K)(k:Nat):wf (a.map f) k=f (wf a k):=by
 by_cases h:k<a.length
 ·rw[i67 (by simpa using h),i67 h,List.getElem_map]
 ·rw[ez8 (by simp;omega),ez8 (by omega),h0]
theorem hi7(c:K)(a:List K)(x:K):ev (a.map fun v=>v*c) x=ev a x*c:=by
 induction a with
 |nil=>exact(zero_mul c).symm
 |cons v l ih=>rw[List.map_cons,ev,ev,ih,add_mul,FK.mul_assoc]
def sd(x0:K):List K→List K×K
 | []=>([],0)
 | [a]=>([],a)
 |a::b::l=>((sd x0 (b::l)).2::(sd x0 (b::l)).1,a+x0*(sd x0 (b::l)).2)
theorem w89(x0:K): ∀l:List K,(sd x0 l).1.length=l.length-1
 | []=>rfl
 | [a]=>rfl
 |a::b::l=>by
  rw[sd]
  show(sd x0 (b::l)).1.length+1=_
  rw[w89 x0 (b::l)];simp
theorem n68(x0 y:K): ∀l:List K,ev l y=(y-x0)*ev (sd x0 l).1 y+(sd x0 l).2
 | []=>by rw[sd,ev,mul_zero,FK.add_zero]
 | [a]=>by
   show a+y*0=(y-x0)*0+a
   rw[mul_zero,mul_zero,FK.add_zero,zero_add]
 |a::b::l=>by
  rw[ev,n68 x0 y (b::l),sd]
  show a+y*((y-x0)*ev (sd x0 (b::l)).1 y+(sd x0 (b::l)).2)=(y-x0)*((sd x0 (b::l)).2+y*ev (sd x0 (b::l)).1 y)+(a+x0*(sd x0 (b::l)).2)
  generalize (sd x0 (b::l)).2=r
  generalize ev (sd x0 (b::l)).1 y=e
  rw[FK.mul_add,FK.mul_add,sub_mul y x0 r]
  have h1:y*((y-x0)*e)=(y-x0)*(y*e):=by ac_rfl
  rw[h1,sub_eq (y*r)]
  have h2:y*r+ -(x0*r)+(y-x0)*(y*e)+(a+x0*r)=a+((y-x0)*(y*e)+y*r)+(-(x0*r)+x0*r):=by ac_rfl
  rw[h2,neg_add,FK.add_zero]
theorem cz6(x0:K)(l:List K):(sd x0 l).2=ev l x0:=by
 have:=n68 x0 x0 l
 rw[sub_self,zero_mul,zero_add]at this
 exact this.symm
theorem rj2(x0:K): ∀l:List K,(∀c∈(sd x0 l).1,c=0)→(sd x0 l).2=0→ ∀c∈l,c=0
 | [],_,_,c,hc=>by cases hc
 | [a],_,h,c,hc=>by
   rw[List.mem_singleton.1 hc];exact h
 |a::b::l,h1,h2,c,hc=>by
  rw[sd]at h1 h2
  have hr:(sd x0 (b::l)).2=0:=h1 _ (by simp)
  have ih:=rj2 x0 (b::l) (fun c hc=>h1 c (by simp[hc])) hr
  rcases List.mem_cons.1 hc with rfl|hc
  ·rw[hr,mul_zero,FK.add_zero]at h2;exact h2
  ·exact ih c hc
theorem roots: ∀(xs:List K) (f:List K),xs.Nodup→f.length≤xs.length→(∀x∈xs,ev f x=0)→ ∀c∈f,c=0
 | [],f,_,hl,_=>by
   intro c hc
   rw[List.eq_nil_of_length_eq_zero (Nat.le_zero.1 hl)]at hc;cases hc
 |x0::xs,f,hn,hl,hx=>by
  rw[List.nodup_cons]at hn
  have h0:=hx x0 (by simp)
  rw[←cz6]at h0
  have hl2:=w89 x0 f
  rw[List.length_cons]at hl
  refine rj2 x0 f (roots xs _ hn.2 (by omega) fun y hy=> ?_) h0
  have h1:=n68 x0 y f
  rw[hx y (by simp[hy]),h0,FK.add_zero]at h1
  rcases mul_eq_zero h1.symm with h2|h2
  ·exact absurd (by rw[←sub_eq_zero.1 h2];exact hy) hn.1
  ·exact h2
end
end Go.Alg
namespace Go.Alg
section
variable {K:Type} [FK K]
theorem op2{f:Nat→K}{n:Nat}(hf: ∀k,n≤k→f k=0)(hne:f≠fun _=>0): ∃m,f m≠0∧ ∀k,m<k→f k=0:=by
 have h1:wf (ofF n f)=f:=ot8 hf
 have h2:xa4 (ofF n f)≠[]:=fun h=>hne (by rw[←h1];exact rj1.1 h)
 have h3:0<(xa4 (ofF n f)).length:=List.length_pos_iff.2 h2
 refine⟨(xa4 (ofF n f)).length-1, ?_,fun k hk=> ?_⟩
 ·have:=t12 (ofF n f) (by omega)
  rwa [vb5,h1]at this
 ·rw[←h1,←vb5]
  exact ez8 (by omega)
theorem fq3{f g:Nat→K}{n m:Nat}(hf: ∀k,n≤k→f k=0)(hg: ∀k,m≤k→g k=0)(h1:f≠fun _=>0)(h2:g≠fun _=>0): ∃i j,f i≠0∧(∀k,i<k→f k=0)∧g j≠0∧(∀k,j<k→g k=0)∧disc f g (i+j)≠0:=by
 obtain⟨i,i1,i2⟩:=op2 hf h1
 obtain⟨j,j1,j2⟩:=op2 hg h2
 exact⟨i,j,i1,i2,j1,j2,by rw[b30 i2 j2];exact hl6 i1 j1⟩
structure IsDiv (a b Q R:List K):Prop where
 q:Trm Q
 r:Trm R
 lt:R.length<b.length
 eq: ∀k,wf a k=disc (wf Q) (wf b) k+wf R k
theorem IsDiv.uniq{a b Q R Q' R':List K}(hb:Trm b)(h:IsDiv a b Q R)(h':IsDiv a b Q' R'):Q=Q'∧R=R':=by
 have hbl:0<b.length:=by have:=h.lt;omega
 have hq:wf Q=wf Q':=by
  refine Classical.byContradiction fun hne=> ?_
  have hD:(fun k=>wf Q k+ -wf Q' k)≠fun _=>0:=fun e=>hne (funext fun k=>sub_eq_zero.1 (congrFun e k))
  have hB:wf b≠fun _=>0:=fun e=>hb (by omega) (congrFun e _)
  obtain⟨i,j,i1,i2,j1,j2,h1⟩:=fq3 (n:=max Q.length Q'.length) (m:=b.length) (fun k hk=>by rw[ez8 (by omega),ez8 (by omega),neg_zero,FK.add_zero]) (fun k hk=>ez8 hk) hD hB
  have hj:j=b.length-1:=by
   have h2:=hb (by omega)
   rcases Nat.lt_trichotomy j (b.length-1)with h|h|h
   ·exact absurd (j2 _ h) h2
   ·exact h
   ·exact absurd (ez8 (by omega)) j1
  apply h1
  rw[bf5,fh4]
  have e1:=h.eq (i+j)
  have e2:=h'.eq (i+j)
  rw[ez8 (l:=R) (by have:=h.lt;omega),FK.add_zero]at e1
  rw[ez8 (l:=R') (by have:=h'.lt;omega),FK.add_zero]at e2
  rw[←e1,←e2,FK.add_neg]
 have hQ:=lz5 h.q h'.q hq
 refine⟨hQ,lz5 h.r h'.r (funext fun k=> ?_)⟩
 have e1:=h.eq k
 rw[h'.eq k,hQ]at e1
 exact(g50 e1).symm
theorem uj8(c:K)(k:Nat)(g:Nat→K)(j:Nat):disc (fun i=>if i=k then c else 0) g j=c*shift k g j:=by
 unfold shift
 split
 ·rename_i h
  rw[mul_zero]
  exact ja4 fun i hi=>by
   show(if i=k then c else 0)*_=_
   rw[if_neg (by omega),zero_mul]
 ·rename_i h
  unfold disc
  rw[xq2 (s:=k) (by omega) fun i _ hne=>by
   show(if i=k then c else 0)*_=_
   rw[if_neg hne,zero_mul]]
  show(if k=k then c else 0)*_=_
  rw[if_pos rfl]
structure DivI (a b:List K) (k:Nat) (Q R:List K):Prop where
 eq: ∀j,wf a j=disc (wf Q) (wf b) j+wf R j
 up: ∀j,k+b.length≤j+1→wf R j=0
 low: ∀j,j<k→wf Q j=0
theorem DivI.step{a b:List K}{k:Nat}{Q R Q' R':List K}(hb:0<b.length)(hb0:wf b (b.length-1)≠0)(h:DivI a b (k+1) Q R){c:K}(hc:c=wf R (k+b.length-1)*FK.inv (wf b (b.length-1)))
 (hQ: ∀j,wf Q' j=if j=k then c else wf Q j) (hR: ∀j,wf R' j=wf R j-c*shift k (wf b) j):DivI a b k Q' R':=by
 have hQf:wf Q'=fun j=>wf Q j+(if j=k then c else 0):=funext fun j=>by
  rw[hQ]
  split
  ·rename_i e;rw[e,h.low k (by omega),zero_add]
  ·rw[FK.add_zero]
 refine⟨fun j=> ?_,fun j hj=> ?_,fun j hj=> ?_⟩
 ·rw[h.eq j,hQf,bf5,uj8,hR,FK.add_assoc,FK.add_comm (c*_),fj9]
 ·rw[hR]
  by_cases he:j+1=k+b.length
  ·rw[show k+b.length-1=j by omega]at hc
   unfold shift
   rw[if_neg (by omega),show j-k=b.length-1 by omega,hc,FK.mul_assoc,inv_mul hb0,FK.mul_one,sub_self]
  ·rw[h.up j (by omega)]
   unfold shift
   rw[if_neg (by omega),ez8 (by omega),mul_zero,sub_zero]
 ·rw[hQ,if_neg (by omega),h.low j (by omega)]
theorem DivI.done{a b Q R:List K}(h:DivI a b 0 Q R)(hb:0<b.length):IsDiv a b (xa4 Q) (xa4 R):=by
 refine⟨t12 _,t12 _, ?_,fun k=>by rw[vb5,vb5];exact h.eq k⟩
 have:=df7 (a:=R) (n:=b.length-1) fun k hk=>h.up k (by omega)
 omega
theorem DivI.start{a b:List K}{n k:Nat}(hk:a.length≤k+b.length-1):DivI a b k (List.replicate n 0) a:=
 ⟨fun j=>by rw[rb9,tt8,zero_add],fun j hj=>ez8 (by omega),fun j _=>m12 n j⟩
def subR(c:K)(b:List K)(k:Nat):Nat→Nat→List K→List K
 |0,_,R=>R
 |n+1,i,R=>subR c b k n (i+1) (R.set (k+i) (wf R (k+i)-c*wf b i))
theorem xs2(c:K)(b:List K)(k:Nat): ∀(n i:Nat) (R:List K),(subR c b k n i R).length=R.length
 |0,_,_=>rfl
 |n+1,i,R=>by rw[subR,xs2 c b k n,List.length_set]
theorem je9(c:K)(b:List K)(k:Nat): ∀(n i:Nat) (R:List K),k+i+n≤R.length→ ∀j,wf (subR c b k n i R) j=if k+i≤j∧j<k+i+n then wf R j-c*wf b (j-k)else wf R j
 |0,i,R,_,j=>by rw[subR,if_neg (by omega)]
 |n+1,i,R,h,j=>by
  rw[subR,je9 c b k n (i+1) _ (by rw[List.length_set];omega),wf_set (by omega)]
  by_cases h1:j=k+i
  ·subst h1
   rw[if_neg (by omega),if_pos rfl,if_pos (by omega),Nat.add_sub_cancel_left]
  ·rw[if_neg h1]
   by_cases h2:k+(i+1)≤j∧j<k+(i+1)+n
   ·rw[if_pos h2,if_pos (by omega)]
   ·rw[if_neg h2,if_neg (by omega)]
theorem fn3(c:K)(b:List K)(k:Nat)(R:List K)(h:k+b.length≤R.length)(j:Nat):wf (subR c b k b.length 0 R) j=wf R j-c*shift k (wf b) j:=by
 rw[je9 c b k _ _ _ (by omega)]
 unfold shift
 by_cases h1:j<k
 ·rw[if_neg (by omega),if_pos h1,mul_zero,sub_zero]
 ·rw[if_neg h1]
  by_cases h2:j<k+b.length
  ·rw[if_pos (by omega)]
  ·rw[if_neg (by omega),ez8 (l:=b) (by omega),mul_zero,sub_zero]
theorem bg8{a b:List K}(hb:0<b.length)(hb0:wf b (b.length-1)≠0): ∀(k:Nat) (Q R:List K),DivI a b k Q R→k≤Q.length→k+b.length≤R.length+1→ ∃Q' R',DivI a b 0 Q' R'
 |0,Q,R,h,_,_=>⟨Q,R,h⟩
 |k+1,Q,R,h,hq,hr=>bg8 hb hb0 k (Q.set k (wf R (k+b.length-1)*FK.inv (wf b (b.length-1)))) (subR (wf R (k+b.length-1)*FK.inv (wf b (b.length-1))) b k b.length 0 R)
   (h.step hb hb0 rfl (fun j=>wf_set (by omega) j) (fn3 _ b k R (by omega))) (by rw[List.length_set];omega) (by rw[xs2];omega)
theorem uj1{a b:List K}(hb:Trm b)(hb0:b≠[]): ∃Q R,IsDiv a b Q R:=by
 have h1:0<b.length:=List.length_pos_iff.2 hb0
 obtain⟨Q,R,h⟩:=bg8 (a:=a) h1 (hb (by omega)) (a.length+1-b.length) (List.replicate (a.length+1-b.length) 0) (a++List.replicate b.length 0)
  (by
    have e:wf (a++List.replicate b.length 0)=wf a:=funext fun k=>by
     rw[nz0]
     split
     ·rfl
     ·rw[m12,ez8 (by omega)]
    have:=DivI.start (a:=a) (b:=b) (n:=a.length+1-b.length) (k:=a.length+1-b.length) (by omega)
    exact⟨fun j=>by rw[e];exact this.eq j,fun j hj=>by rw[e];exact this.up j hj,this.low⟩) (by simp) (by simp;omega)
 exact⟨_,_,h.done h1⟩
theorem IsDiv.len{a b Q R:List K}(h:IsDiv a b Q R)(ha:Trm a)(hb:Trm b)(hl:b.length≤a.length):Q.length=a.length-b.length+1∧Q≠[]:=by
 have hb0:0<b.length:=by have:=h.lt;omega
 have hne:Q≠[]:=fun e=>by
  have h1:=h.eq (a.length-1)
  rw[e,qt9,tt8,zero_add,ez8 (l:=R) (by have:=h.lt;omega)]at h1
  exact ha (by omega) h1
 have hq:0<Q.length:=List.length_pos_iff.2 hne
 have hlen:=lk3 h.q hb hne (fun e=>by rw[e]at hb0;exact absurd hb0 (by simp))
 have key:mulK Q b≠[]:=fun e=>by rw[e]at hlen;simp at hlen;omega
 refine⟨?_,hne⟩
 rcases Nat.lt_trichotomy (Q.length+b.length-1) a.length with h1|h1|h1
 ·have h2:=h.eq (a.length-1)
  rw[hr9 (n:=Q.length) (m:=b.length) (fun i hi=>ez8 hi) (fun i hi=>ez8 hi) (by omega),ez8 (l:=R) (by have:=h.lt;omega),FK.add_zero]at h2
  exact absurd h2 (ha (by omega))
 ·omega
 ·have h2:=h.eq (Q.length+b.length-2)
  rw[ez8 (by omega),ez8 (l:=R) (by have:=h.lt;omega),FK.add_zero,show Q.length+b.length-2=(Q.length-1)+(b.length-1) by omega,b30 (fun i hi=>ez8 (by omega)) (fun i hi=>ez8 (by omega))]at h2
  exact absurd h2.symm (hl6 (h.q (by omega)) (hb (by omega)))
theorem IsDiv.of_mul{a b Q:List K}(hb:Trm b)(hb0:b≠[])(h:wf a=disc (wf Q) (wf b)):IsDiv a b (xa4 Q) []:=
 ⟨t12 _,wg5,List.length_pos_iff.2 hb0,fun k=>by rw[vb5,h,qt9,FK.add_zero]⟩
end
end Go.Alg
namespace Go.Proofs.YtoglhlonhmmieaaGreat
open Go.Am Go.Vm Go.Alg
def polE(q:Int)(a:List Int):Int:=match fldN q.toNat with
 |none=>1
 |some _=>if 128<a.length then 4 else if(a.any fun v=> !fok q v)=true then 2 else 0
theorem rm0{q:Int}{l:List Int}(h:polE q l=0):IsFld q∧l.length≤128∧ ∃a:List (El q),l=vs a:=by
 unfold polE at h
 split at h
 ·cases h
 ·rename_i x hn
  obtain⟨p0,m0,g0,mod⟩:=x
  split at h
  ·cases h
  ·split at h
   ·cases h
   ·rename_i h1 h2
    refine⟨⟨⟨p0,m0,g0,mod,hn⟩⟩,by omega,n39 fun z hz=> ?_⟩
    refine Classical.byContradiction fun h3=>h2 (List.any_eq_true.2 ⟨z,hz, ?_⟩)
    rw[Bool.not_eq_true]at h3
    rw[h3];rfl
theorem i69{q:Int}(a:List (El q)):((vs a).any fun v=> !fok q v)=false:=List.any_eq_false.2 fun z hz=>by
 obtain⟨x,_,rfl⟩:=List.mem_map.1 hz
 rw[x.ok];decide
theorem i31{q:Int} [h:IsFld q]{a:List (El q)}(hl:a.length≤128):polE q (vs a)=0:=by
 obtain⟨p,m,g,mod,hn⟩:=h.ok
 unfold polE
 rw[hn]
 simp only
 rw[if_neg (by rw[fi2];omega),i69,if_neg (by decide)]
section
variable {q:Int} {b:Bool} {nl:Nat} {l:List Int}
theorem kj6 [IsFld q](hl:l.length≤9223372036854775807): ∀(n i:Nat),i+n=l.length→ ∀ks,
 vgoL W ⟨hNo,[.tmp 4],0⟩ [5,20,21,22] c6L0 (.blk 0 []::ks) [(5, .fz true (pF q)),(20, .fz b (.sl nl 0 1 (ivs l))),(21, .x (.int .i64 l.length)),(22, .x (.int .i64 i))] []=if((l.drop i).any fun v=> !fok q v)=true then some (.x (.int .i64 2),[],[])else vgo W ⟨hNo,[.tmp 4],0⟩ ks (VFr.of []) []
 |0,i,hi,ks=>by
  rw[oh9 (by omega),if_neg (by simp),sb5 c6L0.eq_def]
  simp(disch:=first|omega|fail) only[push_cast,seval,vrl,if_pos,if_neg]
 |n+1,i,hi,ks=>by
  have ih:=kj6 hl n (i+1) (by omega) ks
  obtain⟨a,ha⟩:=ge6 (l:=l) (i:=i) (by omega)
  have h1:=iat ha
  rw[i62 ha,List.any_cons]
  rw[Int.natCast_add,Int.natCast_one]at ih
  cases hk:fok q a with
  |false=>
   rw[if_pos (by rfl),sb5 c6L0.eq_def]
   simp(disch:=first|omega|fail) only[push_cast,seval,vrl,if_pos,if_neg,h1,hk]
  |true=>
   rw[Bool.not_true,Bool.false_or,←ih,sb5 c6L0.eq_def]
   simp(disch:=first|omega|fail) only[push_cast,seval,vrl,if_pos,if_neg,h1,hk]
theorem bw7(hl:l.length≤9223372036854775807):o25 W 6 [.x (.int .i64 q), .fz b (.sl nl 0 1 (ivs l))] []=some (.x (.int .i64 (polE q l)),[],[]):=by
 unfold polE
 cases hn:fldN q.toNat with
 |none=>
  have e0:=ug9 hn
  rw[o10 rfl T6 rfl]
  unfold F6 c6
  simp(disch:=first|omega|fail) only[push_cast,seval,vrl,if_pos,if_neg,e0]
 |some x=>
  obtain⟨p0,m0,g0,mod⟩:=x
  haveI:IsFld q:=⟨⟨p0,m0,g0,mod,hn⟩⟩
  simp only
  by_cases h1:128<l.length
  ·rw[if_pos h1,o10 rfl T6 rfl]
   unfold F6 c6
   simp(disch:=first|omega|fail) only[push_cast,seval,vrl,if_pos,if_neg]
  ·rw[if_neg h1]
   have e:=fun ks=>kj6 (q:=q) hl (b:=b) (nl:=nl) l.length 0 (by omega) ks
   simp only[Int.natCast_zero,List.take_zero,List.drop_zero,rp2,lz6,x25,List.map_nil,List.length_nil]at e
   rw[o10 rfl T6 rfl]
   unfold F6 c6
   simp(disch:=first|omega|fail) only[push_cast,seval,vrl,if_pos,if_neg]
   rw[e]
   by_cases h2:(l.any fun v=> !fok q v)=true
   ·rw[if_pos h2,if_pos h2]
   ·rw[if_neg h2,if_neg h2]
    simp(disch:=first|omega|fail) only[push_cast,seval,vrl,if_pos,if_neg]
end
section
variable {q:Int} [IsFld q] {b:Bool} {nl:Nat} {a:List (El q)}
theorem ee1(a:List (El q))(n:Nat):(vs a).take n=vs (a.take n):=by unfold vs;rw[List.map_take]
theorem ks8(a:List (El q)):nlT (vs a)=nlT a:=b99 _ _
theorem yc2(hl:a.length≤1000000): ∀(n:Nat),n≤a.length→ ∀ks,
 vgoL W ⟨hNo,[.tmp 2],0⟩ [0,3] c39L0 (.blk 0 [0,3]::ks) [(0, .fz b (.sl nl 0 1 (ivs (vs a)))),(3, .x (.int .i64 n))] []=vgo W ⟨hNo,[.tmp 2],0⟩ ks (VFr.of [(0, .fz b (.sl nl 0 1 (ivs (vs a)))),(3, .x (.int .i64 (tN a n:Nat)))]) []
 |0,hn,ks=>by
  rw[sb5 c39L0.eq_def,tN]
  simp(disch:=first|omega|fail) only[push_cast,seval,vrl,if_pos,if_neg]
 |n+1,hn,ks=>by
  have ih:=yc2 hl n (by omega) ks
  have h1:=iva (l:=a) (i:=n) (by omega)
  have w1:IntKind.wrap .i64 (((n+1:Nat):Int)-1)=(n:Int):=by rw[wrap64 (by omega) (by omega)];omega
  rw[Int.natCast_add,Int.natCast_one]at w1
  rw[sb5 c39L0.eq_def,tN]
  by_cases h0:wf a n=0
  ·rw[if_pos h0,←ih]
   have h2:(wf a n).v=0:=r57.2 h0
   simp(disch:=first|omega|fail) only[push_cast,seval,vrl,if_pos,if_neg,w1,h1,h2]
  ·rw[if_neg h0]
   have h2: ¬(wf a n).v=0:=fun e=>h0 (r57.1 e)
   simp(disch:=first|omega|fail) only[push_cast,seval,vrl,if_pos,if_neg,w1,h1,nb8 h2]
theorem di3(hl:a.length≤1000000):o25 W 39 [.fz b (.sl nl 0 1 (ivs (vs a)))] []=some (.own 0 [],[.sl (nlT (xa4 a)) 3 1 (ivs (vs (xa4 a)))],[]):=by
 have hle:=vv2 a a.length
 have e:=fun ks=>yc2 (b:=b) (nl:=nl) hl a.length (Nat.le_refl _) ks
 have htk:(vs a).take (tN a a.length)=vs (xa4 a):=ee1 _ _
 have hlt:=tb1 a
 have e1:=fun b nl=>h20 (b:=b) (nl:=nl) (zs:=vs (xa4 a)) (by rw[fi2];omega)
 simp only[ks8]at e1
 rw[o10 rfl T39 rfl]
 unfold F39 c39
 simp(disch:=first|omega|fail) only[push_cast,seval,vrl,if_pos,if_neg]
 rw[e]
 simp(disch:=first|omega|fail) only[push_cast,seval,vrl,if_pos,if_neg,htk,e1,Int.sub_zero]
end
end Go.Proofs.YtoglhlonhmmieaaGreat
namespace Go.Alg
section
variable {K:Type} [FK K]
def addT(y:List K):Nat→Nat→List K→List K
 |0,_,z=>z
 |n+1,i,z=>addT y n (i+1) (z.set i (wf z i+wf y i))
theorem tl9(y:List K): ∀(n i:Nat) (z:List K),(addT y n i z).length=z.length
 |0,_,_=>rfl
 |n+1,i,z=>by rw[addT,tl9 y n,List.length_set]
theorem e73(y:List K): ∀(n i:Nat) (z:List K),i+n≤z.length→ ∀j,wf (addT y n i z) j=if i≤j∧j<i+n then wf z j+wf y j else wf z j
 |0,i,z,_,j=>by rw[addT,if_neg (by omega)]
 |n+1,i,z,h,j=>by
  rw[addT,e73 y n (i+1) _ (by rw[List.length_set];omega),wf_set (by omega)]
  by_cases h1:j=i
  ·subst h1
   rw[if_neg (by omega),if_pos rfl,if_pos (by omega)]
  ·rw[if_neg h1]
   by_cases h2:i+1≤j∧j<i+1+n
   ·rw[if_pos h2,if_pos (by omega)]
   ·rw[if_neg h2,if_neg (by omega)]
theorem ip0{x y:List K}(h:y.length≤x.length):xa4 (addT y y.length 0 x)=addK x y:=by
 refine lz5 (t12 _) (y42 _ _) ?_
 rw[vb5,w62]
 funext j
 rw[e73 _ _ _ _ (by omega)]
 split
 ·rfl
 ·rw[ez8 (l:=y) (by omega),FK.add_zero]
theorem c89(a b:List K):addK a b=addK b a:=lz5 (y42 _ _) (y42 _ _) (by
 rw[w62,w62]
 funext j
 exact FK.add_comm _ _)
theorem zy5(a b:List K):addK (xa4 a) (xa4 b)=addK a b:=lz5 (y42 _ _) (y42 _ _) (by rw[w62,w62,vb5,vb5])
def je7(v:K)(b:List K)(i:Nat):Nat→Nat→List K→List K
 |0,_,z=>z
 |n+1,k,z=>je7 v b i n (k+1) (z.set (i+k) (wf z (i+k)+v*wf b k))
def yc0(a b:List K):Nat→Nat→List K→List K
 |0,_,z=>z
 |n+1,i,z=>yc0 a b n (i+1) (je7 (wf a i) b i b.length 0 z)
theorem qo8(v:K)(b:List K)(i:Nat): ∀(n k:Nat) (z:List K),(je7 v b i n k z).length=z.length
 |0,_,_=>rfl
 |n+1,k,z=>by rw[je7,qo8 v b i n,List.length_set]
theorem th9(a b:List K): ∀(n i:Nat) (z:List K),(yc0 a b n i z).length=z.length
 |0,_,_=>rfl
 |n+1,i,z=>by rw[yc0,th9 a b n,qo8]
theorem h43(v:K)(b:List K)(i:Nat): ∀(n k:Nat) (z:List K),i+k+n≤z.length→ ∀j,wf (je7 v b i n k z) j=if i+k≤j∧j<i+k+n then wf z j+v*wf b (j-i)else wf z j
 |0,k,z,_,j=>by rw[je7,if_neg (by omega)]
 |n+1,k,z,h,j=>by
  rw[je7,h43 v b i n (k+1) _ (by rw[List.length_set];omega),wf_set (by omega)]
  by_cases h1:j=i+k
  ·subst h1
   rw[if_neg (by omega),if_pos rfl,if_pos (by omega),Nat.add_sub_cancel_left]
  ·rw[if_neg h1]
   by_cases h2:i+(k+1)≤j∧j<i+(k+1)+n
   ·rw[if_pos h2,if_pos (by omega)]
   ·rw[if_neg h2,if_neg (by omega)]
theorem sj6(v:K)(b:List K)(i:Nat)(z:List K)(h:i+b.length≤z.length)(j:Nat):wf (je7 v b i b.length 0 z) j=wf z j+v*shift i (wf b) j:=by
 rw[h43 v b i _ _ _ (by omega)]
 unfold shift
 by_cases h1:j<i
 ·rw[if_neg (by omega),if_pos h1,mul_zero,FK.add_zero]
 ·rw[if_neg h1]
  by_cases h2:j<i+b.length
  ·rw[if_pos (by omega)]
  ·rw[if_neg (by omega),ez8 (l:=b) (by omega),mul_zero,FK.add_zero]
theorem ok7(a b:List K): ∀(n i:Nat) (z:List K),i+n=a.length→a.length+b.length≤z.length+1→(∀j,wf z j=disc (fun k=>if k<i then wf a k else 0) (wf b) j)→ ∀j,wf (yc0 a b n i z) j=disc (wf a) (wf b) j
 |0,i,z,hi,hz,h,j=>by
  rw[yc0,h]
  congr 1
  funext k
  split
  ·rfl
  ·exact(ez8 (by omega)).symm
 |n+1,i,z,hi,hz,h,j=>by
  rw[yc0]
  refine ok7 a b n (i+1) _ (by omega) (by rw[qo8];exact hz) (fun k=> ?_) j
  rw[sj6 _ _ _ _ (by omega),h,←uj8,←bf5]
  congr 1
  funext l
  by_cases h1:l=i
  ·subst h1;rw[if_neg (by omega),if_pos rfl,if_pos (by omega),zero_add]
  ·by_cases h2:l<i
   ·rw[if_pos h2,if_neg h1,if_pos (by omega),FK.add_zero]
   ·rw[if_neg h2,if_neg h1,if_neg (by omega),FK.add_zero]
theorem cf5{a b:List K}(ha:a.length≠0)(hb:b.length≠0):xa4 (yc0 a b a.length 0 (List.replicate (a.length+b.length-1) 0))=mulK a b:=by
 refine lz5 (t12 _) (ho7 _ _) ?_
 rw[vb5,zu9]
 funext j
 exact ok7 a b _ _ _ (by omega) (by rw[List.length_replicate];omega) (fun j=>by
  rw[m12]
  exact(ja4 fun k _=>by
   show(if k<0 then wf a k else 0)*_=_
   rw[if_neg (by omega),zero_mul]).symm) j
theorem u69(a b:List K):mulK (xa4 a) (xa4 b)=mulK a b:=lz5 (ho7 _ _) (ho7 _ _) (by rw[zu9,zu9,vb5,vb5])
theorem hz3{a b:List K}(h:a.length=0∨b.length=0):mulK a b=[]:=by unfold mulK;rw[if_pos h]
theorem w46(a b:List K):mulK a b=mulK b a:=lz5 (ho7 _ _) (ho7 _ _) (by
 rw[zu9,zu9]
 funext j
 exact ck4 _ _ _)
def divT(b:List K)(top:K):Nat→List K→List K→List K×List K
 |0,Q,R=>(Q,R)
 |k+1,Q,R=>divT b top k (Q.set k (wf R (k+b.length-1)*top)) (subR (wf R (k+b.length-1)*top) b k b.length 0 R)
theorem w81(b:List K)(top:K): ∀(k:Nat) (Q R:List K),(divT b top k Q R).1.length=Q.length∧(divT b top k Q R).2.length=R.length
 |0,_,_=>⟨rfl,rfl⟩
 |k+1,Q,R=>by
  have:=w81 b top k (Q.set k (wf R (k+b.length-1)*top)) (subR (wf R (k+b.length-1)*top) b k b.length 0 R)
  rw[List.length_set,xs2]at this
  rw[divT];exact this
theorem ch2{a b:List K}(hb:0<b.length)(hb0:wf b (b.length-1)≠0): ∀(k:Nat) (Q R:List K),DivI a b k Q R→k≤Q.length→k+b.length≤R.length+1→DivI a b 0 (divT b (FK.inv (wf b (b.length-1))) k Q R).1 (divT b (FK.inv (wf b (b.length-1))) k Q R).2
 |0,Q,R,h,_,_=>h
 |k+1,Q,R,h,hq,hr=>by
  rw[divT]
  exact ch2 hb hb0 k _ _ (h.step hb hb0 rfl (fun j=>wf_set (by omega) j) (fn3 _ b k R (by omega))) (by rw[List.length_set];omega) (by rw[xs2];omega)
open Classical in
noncomputable def quoP (a b:List K):List K:=if h: ∃p:List K×List K,IsDiv a b p.1 p.2 then(Classical.choose h).1 else []
open Classical in
noncomputable def remP (a b:List K):List K:=if h: ∃p:List K×List K,IsDiv a b p.1 p.2 then(Classical.choose h).2 else []
theorem h79{a b:List K}(hb:Trm b)(hb0:b≠[]):IsDiv a b (quoP a b) (remP a b):=by
 obtain⟨Q,R,h⟩:=uj1 (a:=a) hb hb0
 have hx: ∃p:List K×List K,IsDiv a b p.1 p.2:=⟨(Q,R),h⟩
 unfold quoP remP
 rw[dif_pos hx,dif_pos hx]
 exact Classical.choose_spec hx
theorem div_eq{a b Q R:List K}(hb:Trm b)(h:IsDiv a b Q R):quoP a b=Q∧remP a b=R:=by
 have hb0:b≠[]:=fun e=>by have:=h.lt;rw[e]at this;simp at this
 exact(h79 hb hb0).uniq hb h
theorem kj5{a b:List K}(ha:Trm a)(hb:Trm b)(hb0:b≠[])(hl:b.length≤a.length):(divT b (FK.inv (wf b (b.length-1))) (a.length-b.length+1) (List.replicate (a.length-b.length+1) 0) a).1=quoP a b∧xa4 (divT b (FK.inv (wf b (b.length-1))) (a.length-b.length+1) (List.replicate (a.length-b.length+1) 0) a).2=remP a b:=by
 have h1:0<b.length:=List.length_pos_iff.2 hb0
 have h:=(ch2 (a:=a) h1 (hb (by omega)) (a.length-b.length+1) (List.replicate (a.length-b.length+1) 0) a (DivI.start (by omega)) (by simp) (by omega)).done h1
 have hl1:=(w81 b (FK.inv (wf b (b.length-1))) (a.length-b.length+1) (List.replicate (a.length-b.length+1) 0) a).1
 rw[List.length_replicate]at hl1
 generalize divT b (FK.inv (wf b (b.length-1))) (a.length-b.length+1) (List.replicate (a.length-b.length+1) 0) a=D at h hl1⊢
 obtain⟨e1,e2⟩:=div_eq hb h
 have hq:=(h.len ha hb hl).1
 refine⟨?_,e2.symm⟩
 rw[e1]
 exact ou8 (by rw[hl1,hq]) (vb5 _).symm
theorem i84{a b:List K}(ha:Trm a)(hb:Trm b)(hl:a.length<b.length):quoP a b=[]∧remP a b=a:=div_eq hb ⟨wg5,ha,hl,fun k=>by rw[qt9,tt8,zero_add]⟩
def evT(l:List K)(x:K):Nat→K→K
 |0,v=>v
 |n+1,v=>evT l x n (v*x+wf l n)
theorem av1(l:List K)(x:K): ∀(n:Nat) (v:K),evT l x n v=v*pw x n+sumN n fun i=>wf l i*pw x i
 |0,v=>by rw[evT,wr8,FK.add_zero];exact(FK.mul_one v).symm
 |n+1,v=>by
  rw[evT,av1 l x n,cp9,add_mul,FK.add_assoc,FK.add_comm (wf l n*pw x n)]
  congr 1
  show v*x*pw x n=v*(pw x n*x)
  ac_rfl
theorem gr6(l:List K)(x:K):evT l x l.length 0=ev l x:=by
 rw[av1,zero_mul,zero_add,←tf2 l x l.length (Nat.le_refl _)]
end
end Go.Alg
namespace Go.Proofs.YtoglhlonhmmieaaGreat
open Go.Am Go.Vm Go.Alg
def tc9(q:Int)(a c:List Int):Int:=if polE q a=0 then polE q c else polE q a
theorem ju9{q:Int}{a c:List Int}(h:tc9 q a c=0):polE q a=0∧polE q c=0:=by
 unfold tc9 at h
 split at h
 ·exact⟨‹_›,h⟩
 ·exact absurd h ‹_›
section
variable {q:Int} {b b':Bool} {nl nl':Nat}
theorem qh9{a c:List Int}(ha:a.length≤9223372036854775807)(hc:c.length≤9223372036854775807)(he:tc9 q a c≠0):
 o25 W 37 [.x (.int .i64 q), .fz b (.sl nl 0 1 (ivs a)), .fz b' (.sl nl' 0 1 (ivs c))] []=some (.tup [.x (.pointer none), .x (.slice none 0 0), .x (.slice none 0 0), .x (.int .i64 (tc9 q a c))],[],[]):=by
 have e1:=fun b nl=>bw7 (q:=q) (b:=b) (nl:=nl) ha
 have e2:=fun b nl=>bw7 (q:=q) (b:=b) (nl:=nl) hc
 unfold tc9 at he⊢
 rw[o10 rfl T37 rfl]
 unfold F37 c37
 by_cases h0:polE q a=0
 ·rw[if_pos h0]at he⊢
  rw[h0]at e1
  simp(disch:=first|omega|fail) only[push_cast,seval,vrl,if_pos,if_neg,e1,e2,nb8 he]
 ·rw[if_neg h0]
  simp(disch:=first|omega|fail) only[push_cast,seval,vrl,if_pos,if_neg,e1,nb8 h0]
theorem ce8 [IsFld q]{a c:List (El q)}(ha:a.length≤128)(hc:c.length≤128):
 o25 W 37 [.x (.int .i64 q), .fz b (.sl nl 0 1 (ivs (vs a))), .fz b' (.sl nl' 0 1 (ivs (vs c)))] []=some (.tup [.fz true (pF q), .own 0 [], .own 1 [], .x (.int .i64 0)],[.sl (nlT (xa4 a)) 3 1 (ivs (vs (xa4 a))), .sl (nlT (xa4 c)) 3 1 (ivs (vs (xa4 c)))],[]):=by
 have e1:=fun b nl=>bw7 (q:=q) (b:=b) (nl:=nl) (l:=vs a) (by rw[fi2];omega)
 have e2:=fun b nl=>bw7 (q:=q) (b:=b) (nl:=nl) (l:=vs c) (by rw[fi2];omega)
 simp only[i31 ha]at e1
 simp only[i31 hc]at e2
 have e3:=fun b nl=>di3 (b:=b) (nl:=nl) (a:=a) (by omega)
 have e4:=fun b nl=>di3 (b:=b) (nl:=nl) (a:=c) (by omega)
 rw[o10 rfl T37 rfl]
 unfold F37 c37
 simp(disch:=first|omega|fail) only[push_cast,seval,vrl,if_pos,if_neg,e1,e2,e3,e4]
theorem b87{a c:List Int}(ha:a.length≤9223372036854775807)(hc:c.length≤9223372036854775807)(he:tc9 q a c≠0):
 o25 W 13 [.x (.int .i64 q), .fz b (.sl nl 0 1 (ivs a)), .fz b' (.sl nl' 0 1 (ivs c))] []=some (.tup [.own 0 [], .x (.int .i64 (tc9 q a c))],[.sl 1 3 1 (ivs [])],[]):=by
 have e1:=fun b nl b' nl'=>qh9 (q:=q) (b:=b) (nl:=nl) (b':=b') (nl':=nl') ha hc he
 rw[o10 rfl T13 rfl]
 unfold F13 c13
 simp(disch:=first|omega|fail) only[push_cast,seval,vrl,if_pos,if_neg,e1,nb8 he]
 rfl
theorem ae4 [IsFld q]{y:List (El q)}(hy:y.length≤1000): ∀(n i:Nat) (z:List (El q)),i+n=y.length→y.length≤z.length→ ∀ks,
 vgoL W ⟨h13,[.tmp 6, .tmp 7],0⟩ [1,8,31,32,33] c13L0 (.blk 0 [1]::ks) [(1, .own 0 []),(8, .fz true (pF q)),(31, .own 1 []),(32, .x (.int .i64 y.length)),(33, .x (.int .i64 i))] [.sl nl 3 1 (ivs (vs z)), .sl nl' 3 1 (ivs (vs y))]=
  vgo W ⟨h13,[.tmp 6, .tmp 7],0⟩ ks (VFr.of [(1, .own 0 [])]) [.sl nl 3 1 (ivs (vs (addT y n i z))), .sl nl' 3 1 (ivs (vs y))]
 |0,i,z,hi,hz,ks=>by
  rw[addT,sb5 c13L0.eq_def]
  simp(disch:=first|omega|fail) only[push_cast,seval,vrl,if_pos,if_neg]
 |n+1,i,z,hi,hz,ks=>by
  have ih:=ae4 hy n (i+1) (z.set i (wf z i+wf y i)) (by omega) (by rw[List.length_set];exact hz) ks
  have h1:=iva (l:=y) (i:=i) (by omega)
  have h2:=iva (l:=z) (i:=i) (by omega)
  rw[Int.natCast_add,Int.natCast_one,←g52,on0]at ih
  rw[addT,←ih,sb5 c13L0.eq_def]
  simp(disch:=first|omega|fail) only[push_cast,seval,vrl,if_pos,if_neg,h1,h2]
theorem wa2 [IsFld q]{a c:List (El q)}(ha:a.length≤128)(hc:c.length≤128):
 o25 W 13 [.x (.int .i64 q), .fz b (.sl nl 0 1 (ivs (vs a))), .fz b' (.sl nl' 0 1 (ivs (vs c)))] []=some (.tup [.own 0 [], .x (.int .i64 0)],[.sl (nlT (addK a c)) 3 1 (ivs (vs (addK a c)))],[]):=by
 have e1:=fun b nl b' nl'=>ce8 (b:=b) (nl:=nl) (b':=b') (nl':=nl') ha hc
 have la:=tb1 a
 have lc:=tb1 c
 have hs:=zy5 a c
 by_cases hl:(xa4 a).length<(xa4 c).length
 ·have e2:=fun nl nl' ks=>ae4 (q:=q) (nl:=nl) (nl':=nl') (y:=xa4 a) (by omega) (xa4 a).length 0 (xa4 c) (by omega) (by omega) ks
  have ht:=ip0 (x:=xa4 c) (y:=xa4 a) (by omega)
  rw[c89,hs]at ht
  have e3:=fun b nl=>di3 (b:=b) (nl:=nl) (a:=addT (xa4 a) (xa4 a).length 0 (xa4 c)) (by rw[tl9];omega)
  simp only[ht]at e3
  generalize addT (xa4 a) (xa4 a).length 0 (xa4 c)=Z at*
  generalize xa4 a=A at*
  generalize xa4 c=C at*
  simp only[Int.natCast_zero,List.take_zero,List.drop_zero,rp2,lz6,x25,List.map_nil,List.length_nil]at e2
  rw[o10 rfl T13 rfl]
  unfold F13 c13
  simp(disch:=first|omega|fail) only[push_cast,seval,vrl,if_pos,if_neg,e1]
  rw[e2]
  simp(disch:=first|omega|fail) only[push_cast,seval,vrl,if_pos,if_neg,e3]
 ·have e2:=fun nl nl' ks=>ae4 (q:=q) (nl:=nl) (nl':=nl') (y:=xa4 c) (by omega) (xa4 c).length 0 (xa4 a) (by omega) (by omega) ks
  have ht:=ip0 (x:=xa4 a) (y:=xa4 c) (by omega)
  rw[hs]at ht
  have e3:=fun b nl=>di3 (b:=b) (nl:=nl) (a:=addT (xa4 c) (xa4 c).length 0 (xa4 a)) (by rw[tl9];omega)
  simp only[ht]at e3
  generalize addT (xa4 c) (xa4 c).length 0 (xa4 a)=Z at*
  generalize xa4 a=A at*
  generalize xa4 c=C at*
  simp only[Int.natCast_zero,List.take_zero,List.drop_zero,rp2,lz6,x25,List.map_nil,List.length_nil]at e2
  rw[o10 rfl T13 rfl]
  unfold F13 c13
  simp(disch:=first|omega|fail) only[push_cast,seval,vrl,if_pos,if_neg,e1]
  rw[e2]
  simp(disch:=first|omega|fail) only[push_cast,seval,vrl,if_pos,if_neg,e3]
theorem n82 [IsFld q]{a c:List (El q)}{i:Nat}{v:El q}(hc:c.length≤1000)(hi:i≤1000){A:List (El q)}{iA:Int}: ∀(n k:Nat) (z:List (El q)),k+n=c.length→i+c.length≤z.length→ ∀ks,
 vgoL W ⟨h40,[.tmp 6],0⟩ [0,2,7,8,9,27,28,29,34,35,36] c40L0 (.blk 2 [0,2,7,27,28,29]::ks) [(0, .fz true (pF q)),(2, .fz b' (.sl nl' 0 1 (ivs (vs c)))),(7, .own 0 []),(8, .x (.int .i64 i)),(9, .x (.int .i64 v.v)),(27, .fz b (.sl nl 0 1 (ivs (vs a)))),(28, .x (.int .i64 iA)),(29, .x (.int .i64 i)),(34, .fz b' (.sl nl' 0 1 (ivs (vs c)))),(35, .x (.int .i64 c.length)),(36, .x (.int .i64 k))] [.sl 0 3 1 (ivs (vs z))]=
  vgo W ⟨h40,[.tmp 6],0⟩ ks (VFr.of [(0, .fz true (pF q)),(2, .fz b' (.sl nl' 0 1 (ivs (vs c)))),(7, .own 0 []),(27, .fz b (.sl nl 0 1 (ivs (vs a)))),(28, .x (.int .i64 iA)),(29, .x (.int .i64 i))]) [.sl 0 3 1 (ivs (vs (je7 v c i n k z)))]
 |0,k,z,hk,hz,ks=>by
  rw[je7,sb5 c40L0.eq_def]
  simp(disch:=first|omega|fail) only[push_cast,seval,vrl,if_pos,if_neg]
 |n+1,k,z,hk,hz,ks=>by
  have ih:=n82 (a:=a) (v:=v) hc hi (A:=A) (iA:=iA) n (k+1) (z.set (i+k) (wf z (i+k)+v*wf c k)) (by omega) (by rw[List.length_set];exact hz) ks
  have h1:=iva (l:=c) (i:=k) (by omega)
  have h2:=iva (l:=z) (i:=i+k) (by omega)
  have w1:IntKind.wrap .i64 ((i:Int)+(k:Int))=((i+k:Nat):Int):=by rw[wrap64 (by omega) (by omega)];omega
  rw[Int.natCast_add,Int.natCast_one,←g52,on0,ym6]at ih
  rw[je7,←ih,sb5 c40L0.eq_def]
  generalize hG:i+k=ik at*
  simp(disch:=first|omega|fail) only[push_cast,seval,vrl,if_pos,if_neg,h1,w1,h2]
theorem e41 [IsFld q]{a c:List (El q)}(ha:a.length≤900)(hc:c.length≤1000): ∀(n i:Nat) (z:List (El q)),i+n=a.length→a.length+c.length≤z.length+1→ ∀ks,
 vgoL W ⟨h40,[.tmp 6],0⟩ [0,2,7,27,28,29] c40L1 (.blk 0 [7]::ks) [(0, .fz true (pF q)),(2, .fz b' (.sl nl' 0 1 (ivs (vs c)))),(7, .own 0 []),(27, .fz b (.sl nl 0 1 (ivs (vs a)))),(28, .x (.int .i64 a.length)),(29, .x (.int .i64 i))] [.sl 0 3 1 (ivs (vs z))]=
  vgo W ⟨h40,[.tmp 6],0⟩ ks (VFr.of [(7, .own 0 [])]) [.sl 0 3 1 (ivs (vs (yc0 a c n i z)))]
 |0,i,z,hi,hz,ks=>by
  rw[yc0,sb5 c40L1.eq_def]
  simp(disch:=first|omega|fail) only[push_cast,seval,vrl,if_pos,if_neg]
 |n+1,i,z,hi,hz,ks=>by
  have ih:=e41 ha hc n (i+1) (je7 (wf a i) c i c.length 0 z) (by omega) (by rw[qo8];exact hz) ks
  have h1:=iva (l:=a) (i:=i) (by omega)
  have e:=fun iA ks=>n82 (b:=b) (nl:=nl) (b':=b') (nl':=nl') (a:=a) (c:=c) (i:=i) (v:=wf a i) hc (by omega) (A:=a) (iA:=iA) c.length 0 z (by omega) (by omega) ks
  simp only[Int.natCast_zero,List.take_zero,List.drop_zero,rp2,lz6,x25,List.map_nil,List.length_nil]at e
  rw[Int.natCast_add,Int.natCast_one]at ih
  rw[yc0,←ih,sb5 c40L1.eq_def]
  simp(disch:=first|omega|fail) only[push_cast,seval,vrl,if_pos,if_neg,h1]
  rw[e]
  simp(disch:=first|omega|fail) only[push_cast,seval,vrl,if_pos,if_neg]
theorem td8 [IsFld q]{a c:List (El q)}(ha:a.length≤500)(hc:c.length≤500): ∃n,o25 W 40 [.fz true (pF q), .fz b (.sl nl 0 1 (ivs (vs a))), .fz b' (.sl nl' 0 1 (ivs (vs c)))] []=some (.own 0 [],[.sl n 3 1 (ivs (vs (mulK a c)))],[]):=by
 by_cases h0:a.length=0∨c.length=0
 ·refine⟨1, ?_⟩
  rw[hz3 h0,o10 rfl T40 rfl]
  unfold F40 c40
  by_cases h1:a.length=0
  ·simp(disch:=first|omega|fail) only[push_cast,seval,vrl,if_pos,if_neg,h1]
   rfl
  ·have h2:c.length=0:=by omega
   simp(disch:=first|omega|fail) only[push_cast,seval,vrl,if_pos,if_neg,h2]
   rfl
 ·refine⟨nlT (mulK a c), ?_⟩
  have hp:=cf5 (a:=a) (b:=c) (by omega) (by omega)
  have e:=fun ks=>e41 (q:=q) (b:=b) (nl:=nl) (b':=b') (nl':=nl') (a:=a) (c:=c) (by omega) (by omega) a.length 0 (List.replicate (a.length+c.length-1) 0) (by omega) (by rw[List.length_replicate];omega) ks
  have e3:=fun b nl=>di3 (b:=b) (nl:=nl) (a:=yc0 a c a.length 0 (List.replicate (a.length+c.length-1) 0)) (by rw[th9,List.length_replicate];omega)
  simp only[hp]at e3
  have hz:List.replicate (a.length+c.length-1) (0:Int)=vs (List.replicate (a.length+c.length-1) (0:El q)):=by rw[←qj2];rfl
  generalize yc0 a c a.length 0 (List.replicate (a.length+c.length-1) 0)=Z at*
  simp only[Int.natCast_zero,List.take_zero,List.drop_zero,rp2,lz6,x25,List.map_nil,List.length_nil]at e
  have w1:IntKind.wrap .i64 (((a.length:Nat):Int)+((c.length:Nat):Int)-1)=((a.length+c.length-1:Nat):Int):=by rw[wrap64 (by omega) (by omega)];omega
  generalize hk:a.length+c.length-1=k at*
  rw[o10 rfl T40 rfl]
  unfold F40 c40
  simp(disch:=first|omega|fail) only[push_cast,seval,vrl,if_pos,if_neg,w1,hz]
  rw[e]
  simp(disch:=first|omega|fail) only[push_cast,seval,vrl,if_pos,if_neg,e3]
theorem ga3{a c:List Int}(ha:a.length≤9223372036854775807)(hc:c.length≤9223372036854775807)(he:tc9 q a c≠0):
 o25 W 14 [.x (.int .i64 q), .fz b (.sl nl 0 1 (ivs a)), .fz b' (.sl nl' 0 1 (ivs c))] []=some (.tup [.own 0 [], .x (.int .i64 (tc9 q a c))],[.sl 1 3 1 (ivs [])],[]):=by
 have e1:=fun b nl b' nl'=>qh9 (q:=q) (b:=b) (nl:=nl) (b':=b') (nl':=nl') ha hc he
 rw[o10 rfl T14 rfl]
 unfold F14 c14
 simp(disch:=first|omega|fail) only[push_cast,seval,vrl,if_pos,if_neg,e1,nb8 he]
 rfl
def ca3{q:Int} [IsFld q](a c:List (El q)):Prop:=(xa4 a).length≠0∧(xa4 c).length≠0∧128<(xa4 a).length+(xa4 c).length-1
theorem iy1 [IsFld q]{a c:List (El q)}(ha:a.length≤128)(hc:c.length≤128)(h:ca3 a c):
 o25 W 14 [.x (.int .i64 q), .fz b (.sl nl 0 1 (ivs (vs a))), .fz b' (.sl nl' 0 1 (ivs (vs c)))] []=some (.tup [.own 0 [], .x (.int .i64 4)],[.sl 1 3 1 (ivs [])],[]):=by
 have e1:=fun b nl b' nl'=>ce8 (b:=b) (nl:=nl) (b':=b') (nl':=nl') ha hc
 obtain⟨h1,h2,h3⟩:=h
 have la:=tb1 a
 have lc:=tb1 c
 generalize xa4 a=A at*
 generalize xa4 c=C at*
 have h1': ¬(A.length:Int)=0:=by omega
 have h2': ¬(C.length:Int)=0:=by omega
 rw[o10 rfl T14 rfl]
 unfold F14 c14
 simp(disch:=first|omega|fail) only[push_cast,seval,vrl,if_pos,if_neg,e1,nb8 h1',nb8 h2']
 rfl
theorem h84 [IsFld q]{a c:List (El q)}(ha:a.length≤128)(hc:c.length≤128)(h: ¬ca3 a c):
 ∃n,o25 W 14 [.x (.int .i64 q), .fz b (.sl nl 0 1 (ivs (vs a))), .fz b' (.sl nl' 0 1 (ivs (vs c)))] []=some (.tup [.own 0 [], .x (.int .i64 0)],[.sl n 3 1 (ivs (vs (mulK a c)))],[]):=by
 have e1:=fun b nl b' nl'=>ce8 (b:=b) (nl:=nl) (b':=b') (nl':=nl') ha hc
 have la:=tb1 a
 have lc:=tb1 c
 have hm:=u69 a c
 unfold ca3 at h
 obtain⟨n,e2⟩:=td8 (b:=false) (nl:=nlT (xa4 a)) (b':=false) (nl':=nlT (xa4 c)) (a:=xa4 a) (c:=xa4 c) (by omega) (by omega)
 rw[hm]at e2
 by_cases h0:(xa4 a).length=0∨(xa4 c).length=0
 ·rw[hz3 h0]at hm
  refine⟨1, ?_⟩
  rw[←hm]
  generalize xa4 a=A at*
  generalize xa4 c=C at*
  rw[o10 rfl T14 rfl]
  unfold F14 c14
  by_cases h1:A.length=0
  ·simp(disch:=first|omega|fail) only[push_cast,seval,vrl,if_pos,if_neg,e1,h1]
   rfl
  ·have h2:C.length=0:=by omega
   have h1': ¬(A.length:Int)=0:=by omega
   simp(disch:=first|omega|fail) only[push_cast,seval,vrl,if_pos,if_neg,e1,nb8 h1',h2]
   rfl
 ·refine⟨n, ?_⟩
  generalize mulK a c=Z at*
  generalize xa4 a=A at*
  generalize xa4 c=C at*
  have h1': ¬(A.length:Int)=0:=by omega
  have h2': ¬(C.length:Int)=0:=by omega
  rw[o10 rfl T14 rfl]
  unfold F14 c14
  simp(disch:=first|omega|fail) only[push_cast,seval,vrl,if_pos,if_neg,e1,nb8 h1',nb8 h2',e2]
end
section
variable {q:Int} {b b':Bool} {nl nl':Nat}
theorem xl6 [IsFld q]{c:List (El q)}{k:Nat}{v:El q}{top:Int}(hc:c.length≤1000)(hk:k≤1000){T:Tree}{nr:Nat}: ∀(n i:Nat) (R:List (El q)),i+n=c.length→k+c.length≤R.length→ ∀ks,
 vgoL W ⟨h41,[.tmp 6, .tmp 7],0⟩ [0,2,6,7,8,9,10,57,58,59] c41L0 (.blk 2 [0,2,6,7,8,9]::ks) [(0, .fz true (pF q)),(2, .fz b' (.sl nl' 0 1 (ivs (vs c)))),(6, .own 0 []),(7, .own 1 []),(8, .x (.int .i64 top)),(9, .x (.int .i64 k)),(10, .x (.int .i64 v.v)),(57, .fz b' (.sl nl' 0 1 (ivs (vs c)))),(58, .x (.int .i64 c.length)),(59, .x (.int .i64 i))] [T, .sl nr 3 1 (ivs (vs R))]=
  vgo W ⟨h41,[.tmp 6, .tmp 7],0⟩ ks (VFr.of [(0, .fz true (pF q)),(2, .fz b' (.sl nl' 0 1 (ivs (vs c)))),(6, .own 0 []),(7, .own 1 []),(8, .x (.int .i64 top)),(9, .x (.int .i64 k))]) [T, .sl nr 3 1 (ivs (vs (subR v c k n i R)))]
 |0,i,R,hi,hR,ks=>by
  rw[subR,sb5 c41L0.eq_def]
  simp(disch:=first|omega|fail) only[push_cast,seval,vrl,if_pos,if_neg]
 |n+1,i,R,hi,hR,ks=>by
  have ih:=xl6 (v:=v) (top:=top) hc hk (T:=T) (nr:=nr) n (i+1) (R.set (k+i) (wf R (k+i)-v*wf c i)) (by omega) (by rw[List.length_set];exact hR) ks
  have h1:=iva (l:=c) (i:=i) (by omega)
  have h2:=iva (l:=R) (i:=k+i) (by omega)
  have w1:IntKind.wrap .i64 ((k:Int)+(i:Int))=((k+i:Nat):Int):=by rw[wrap64 (by omega) (by omega)];omega
  rw[Int.natCast_add,Int.natCast_one,←g52,bq9,ym6]at ih
  rw[subR,←ih,sb5 c41L0.eq_def]
  generalize hG:k+i=ki at*
  simp(disch:=first|omega|fail) only[push_cast,seval,vrl,if_pos,if_neg,h1,w1,h2]
theorem xy4 [IsFld q]{c:List (El q)}{top:El q}(hc:c.length≤900)(hc0:0<c.length){nq nr:Nat}: ∀(k:Nat) (Q R:List (El q)),k≤1000→k≤Q.length→(0<k→k+c.length≤R.length+1)→ ∀ks,
 vgoL W ⟨h41,[.tmp 6, .tmp 7],0⟩ [0,2,6,7,8,9] c41L1 (.blk 0 [6,7]::ks) [(0, .fz true (pF q)),(2, .fz b' (.sl nl' 0 1 (ivs (vs c)))),(6, .own 0 []),(7, .own 1 []),(8, .x (.int .i64 top.v)),(9, .x (.int .i64 ((k:Int)-1)))] [.sl nq 3 1 (ivs (vs Q)), .sl nr 3 1 (ivs (vs R))]=
  vgo W ⟨h41,[.tmp 6, .tmp 7],0⟩ ks (VFr.of [(6, .own 0 []),(7, .own 1 [])]) [.sl nq 3 1 (ivs (vs (divT c top k Q R).1)), .sl nr 3 1 (ivs (vs (divT c top k Q R).2))]
 |0,Q,R,h1,h2,h3,ks=>by
  rw[divT,sb5 c41L1.eq_def]
  simp(disch:=first|omega|fail) only[push_cast,seval,vrl,if_pos,if_neg]
 |k+1,Q,R,h1,h2,h3,ks=>by
  have h3:=h3 (by omega)
  have ih:=xy4 (top:=top) hc hc0 (nq:=nq) (nr:=nr) k (Q.set k (wf R (k+c.length-1)*top)) (subR (wf R (k+c.length-1)*top) c k c.length 0 R) (by omega) (by rw[List.length_set];omega) (fun _=>by rw[xs2];omega) ks
  have e:=fun T ks=>xl6 (b':=b') (nl':=nl') (c:=c) (k:=k) (v:=wf R (k+c.length-1)*top) (top:=top.v) (by omega) (by omega) (T:=T) (nr:=nr) c.length 0 R (by omega) (by omega) ks
  simp only[Int.natCast_zero,List.take_zero,List.drop_zero,rp2,lz6,x25,List.map_nil,List.length_nil]at e
  have l1:=iva (l:=R) (i:=k+c.length-1) (by omega)
  have w1:IntKind.wrap .i64 ((k:Int)+(c.length:Int)-1)=((k+c.length-1:Nat):Int):=by rw[wrap64 (by omega) (by omega)];omega
  have e9:((k+1:Nat):Int)-1=(k:Int):=by omega
  have hm:=ym6 (wf R (k+c.length-1)) top
  rw[←g52,hm]at ih
  rw[hm]at e
  rw[divT,←ih,e9,sb5 c41L1.eq_def]
  generalize hG:k+c.length-1=kc at*
  simp(disch:=first|omega|fail) only[push_cast,seval,vrl,if_pos,if_neg,l1,w1]
  rw[e]
  simp(disch:=first|omega|fail) only[push_cast,seval,vrl,if_pos,if_neg]
theorem ag0 [IsFld q]{a c:List (El q)}(ha:Trm a)(hc:Trm c)(hc0:c≠[])(hal:a.length≤500)(hcl:c.length≤500):
 ∃n,o25 W 41 [.fz true (pF q), .fz b (.sl nl 0 1 (ivs (vs a))), .fz b' (.sl nl' 0 1 (ivs (vs c)))] []=some (.tup [.own 0 [], .own 1 []],[.sl n 3 1 (ivs (vs (quoP a c))), .sl (nlT (remP a c)) 3 1 (ivs (vs (remP a c)))],[]):=by
 have h0:0<c.length:=List.length_pos_iff.2 hc0
 have hlast:wf c (c.length-1)≠0:=hc (by omega)
 have e1:=fun b nl=>h20 (b:=b) (nl:=nl) (zs:=vs a) (by rw[fi2];omega)
 simp only[ks8]at e1
 have l1:=iva (l:=c) (i:=c.length-1) (by omega)
 have w1:IntKind.wrap .i64 ((c.length:Int)-1)=((c.length-1:Nat):Int):=by rw[wrap64 (by omega) (by omega)];omega
 have hinv:=rl7 hlast
 by_cases hl:c.length≤a.length
 ·refine⟨0, ?_⟩
  obtain⟨d1,d2⟩:=kj5 ha hc hc0 hl
  have dl:=w81 c (FK.inv (wf c (c.length-1))) (a.length-c.length+1) (List.replicate (a.length-c.length+1) 0) a
  have e2:=fun nq nr ks=>xy4 (b':=b') (nl':=nl') (c:=c) (top:=FK.inv (wf c (c.length-1))) (by omega) h0 (nq:=nq) (nr:=nr) (a.length-c.length+1) (List.replicate (a.length-c.length+1) 0) a (by omega) (by simp) (fun _=>by omega) ks
  have e3:=fun b nl=>di3 (b:=b) (nl:=nl) (a:=(divT c (FK.inv (wf c (c.length-1))) (a.length-c.length+1) (List.replicate (a.length-c.length+1) 0) a).2) (by rw[dl.2];omega)
  simp only[d2]at e3
  rw[←d1]
  generalize divT c (FK.inv (wf c (c.length-1))) (a.length-c.length+1) (List.replicate (a.length-c.length+1) 0) a=D at*
  have hz:List.replicate (a.length-c.length+1) (0:Int)=vs (List.replicate (a.length-c.length+1) (0:El q)):=by rw[←qj2];rfl
  have w3:IntKind.wrap .i64 ((a.length:Int)-(c.length:Int)+1)=((a.length-c.length+1:Nat):Int):=by rw[wrap64 (by omega) (by omega)];omega
  have hkl:a.length-c.length+1≤600:=by omega
  rw[hinv]at e2
  generalize a.length-c.length+1=k at*
  generalize hG:c.length-1=c1 at*
  rw[o10 rfl T41 rfl]
  unfold F41 c41
  simp(disch:=first|omega|fail) only[push_cast,seval,vrl,if_pos,if_neg,e1,w1,l1,w3,hz]
  rw[e2]
  simp(disch:=first|omega|fail) only[push_cast,seval,vrl,if_pos,if_neg,e3]
 ·refine⟨1, ?_⟩
  obtain⟨d1,d2⟩:=i84 ha hc (show a.length<c.length by omega)
  rw[d1,d2]
  have e2:=fun nq nr ks=>xy4 (b':=b') (nl':=nl') (c:=c) (top:=FK.inv (wf c (c.length-1))) (by omega) h0 (nq:=nq) (nr:=nr) 0 [] a (by omega) (by simp) (fun h=>absurd h (by omega)) ks
  have e3:=fun b nl=>di3 (b:=b) (nl:=nl) (a:=a) (by omega)
  simp only[ou7 ha]at e3
  simp only[divT,Int.natCast_zero,Int.zero_sub,rp2,lz6]at e2
  have hl':(a.length:Int)<(c.length:Int):=by omega
  rw[hinv]at e2
  generalize hG:c.length-1=c1 at*
  rw[o10 rfl T41 rfl]
  unfold F41 c41
  simp(disch:=first|omega|fail) only[push_cast,seval,vrl,if_pos,if_neg,e1,w1,l1]
  rw[e2]
  simp(disch:=first|omega|fail) only[push_cast,seval,vrl,if_pos,if_neg,e3]
  rfl
theorem ec8{a c:List Int}(ha:a.length≤9223372036854775807)(hc:c.length≤9223372036854775807)(he:tc9 q a c≠0):
 o25 W 17 [.x (.int .i64 q), .fz b (.sl nl 0 1 (ivs a)), .fz b' (.sl nl' 0 1 (ivs c))] []=some (.tup [.own 0 [], .own 1 [], .x (.int .i64 (tc9 q a c))],[.sl 1 3 1 (ivs []), .sl 1 3 1 (ivs [])],[]):=by
 have e1:=fun b nl b' nl'=>qh9 (q:=q) (b:=b) (nl:=nl) (b':=b') (nl':=nl') ha hc he
 rw[o10 rfl T17 rfl]
 unfold F17 c17
 simp(disch:=first|omega|fail) only[push_cast,seval,vrl,if_pos,if_neg,e1,nb8 he]
 rfl
theorem ws6 [IsFld q]{a c:List (El q)}(ha:a.length≤128)(hc:c.length≤128)(h:xa4 c=[]):
 o25 W 17 [.x (.int .i64 q), .fz b (.sl nl 0 1 (ivs (vs a))), .fz b' (.sl nl' 0 1 (ivs (vs c)))] []=some (.tup [.own 0 [], .own 1 [], .x (.int .i64 5)],[.sl 1 3 1 (ivs []), .sl 1 3 1 (ivs [])],[]):=by
 have e1:=fun b nl b' nl'=>ce8 (b:=b) (nl:=nl) (b':=b') (nl':=nl') ha hc
 simp only[h,rp2,lz6]at e1
 rw[o10 rfl T17 rfl]
 unfold F17 c17
 simp(disch:=first|omega|fail) only[push_cast,seval,vrl,if_pos,if_neg,e1]
 rfl
theorem pl2 [IsFld q]{a c:List (El q)}(ha:a.length≤128)(hc:c.length≤128)(h:xa4 c≠[]):
 ∃n,o25 W 17 [.x (.int .i64 q), .fz b (.sl nl 0 1 (ivs (vs a))), .fz b' (.sl nl' 0 1 (ivs (vs c)))] []=some (.tup [.own 0 [], .own 1 [], .x (.int .i64 0)],[.sl n 3 1 (ivs (vs (quoP (xa4 a) (xa4 c)))), .sl (nlT (remP (xa4 a) (xa4 c))) 3 1 (ivs (vs (remP (xa4 a) (xa4 c))))],[]):=by
 have e1:=fun b nl b' nl'=>ce8 (b:=b) (nl:=nl) (b':=b') (nl':=nl') ha hc
 have la:=tb1 a
 have lc:=tb1 c
 have h0:0<(xa4 c).length:=List.length_pos_iff.2 h
 obtain⟨n,e2⟩:=ag0 (b:=false) (nl:=nlT (xa4 a)) (b':=false) (nl':=nlT (xa4 c)) (t12 a) (t12 c) h (by omega) (by omega)
 refine⟨n, ?_⟩
 generalize xa4 a=A at*
 generalize xa4 c=C at*
 have h0': ¬(C.length:Int)=0:=by omega
 rw[o10 rfl T17 rfl]
 unfold F17 c17
 simp(disch:=first|omega|fail) only[push_cast,seval,vrl,if_pos,if_neg,e1,nb8 h0',e2]
theorem tu0 [IsFld q]{a:List (El q)}{x:El q}(hl:a.length≤1000): ∀(n:Nat) (v:El q),n≤a.length→ ∀ks,
 vgoL W ⟨hNo,[.tmp 6, .tmp 7],0⟩ [1,2,8,11,12] c45L0 (.blk 0 [11]::ks) [(1, .own 0 []),(2, .x (.int .i64 x.v)),(8, .fz true (pF q)),(11, .x (.int .i64 v.v)),(12, .x (.int .i64 ((n:Int)-1)))] [.sl nl 3 1 (ivs (vs a))]=
  vgo W ⟨hNo,[.tmp 6, .tmp 7],0⟩ ks (VFr.of [(11, .x (.int .i64 ((evT a x n v).v)))]) [.sl nl 3 1 (ivs (vs a))]
 |0,v,hn,ks=>by
  rw[evT,sb5 c45L0.eq_def]
  simp(disch:=first|omega|fail) only[push_cast,seval,vrl,if_pos,if_neg]
 |n+1,v,hn,ks=>by
  have ih:=tu0 (x:=x) hl n (v*x+wf a n) (by omega) ks
  have l1:=iva (l:=a) (i:=n) (by omega)
  have e9:((n+1:Nat):Int)-1=(n:Int):=by omega
  rw[on0,ym6]at ih
  rw[evT,←ih,e9,sb5 c45L0.eq_def]
  simp(disch:=first|omega|fail) only[push_cast,seval,vrl,if_pos,if_neg,l1]
theorem jo2{a:List Int}{x:Int}(ha:a.length≤9223372036854775807)(he:tc9 q a [x]≠0):
 o25 W 45 [.x (.int .i64 q), .fz b (.sl nl 0 1 (ivs a)), .x (.int .i64 x)] []=some (.tup [.x (.int .i64 0), .x (.int .i64 (tc9 q a [x]))],[],[]):=by
 have e1:=fun b nl b' nl'=>qh9 (q:=q) (b:=b) (nl:=nl) (b':=b') (nl':=nl') ha (by simp) he
 rw[show ivs [x]=[Tree.v (.int .i64 x)]from rfl]at e1
 rw[o10 rfl T45 rfl]
 unfold F45 c45
 simp(disch:=first|omega|fail) only[push_cast,seval,vrl,if_pos,if_neg,e1,nb8 he]
theorem yu6 [IsFld q]{a:List (El q)}{x:El q}(ha:a.length≤128):
 o25 W 45 [.x (.int .i64 q), .fz b (.sl nl 0 1 (ivs (vs a))), .x (.int .i64 x.v)] []=some (.tup [.x (.int .i64 (ev a x).v), .x (.int .i64 0)],[],[]):=by
 have e1:=fun b nl b' nl'=>ce8 (b:=b) (nl:=nl) (b':=b') (nl':=nl') (c:=[x]) ha (by simp)
 rw[show ivs (vs [x])=[Tree.v (.int .i64 x.v)]from rfl]at e1
 have la:=tb1 a
 have e2:=fun nl ks=>tu0 (nl:=nl) (x:=x) (a:=xa4 a) (by omega) (xa4 a).length 0 (Nat.le_refl _) ks
 rw[gr6,hd5,hc8]at e2
 have w1:IntKind.wrap .i64 (((xa4 a).length:Int)-1)=((xa4 a).length:Int)-1:=wrap64 (by omega) (by omega)
 generalize xa4 a=A at*
 generalize xa4 [x]=C at*
 rw[o10 rfl T45 rfl]
 unfold F45 c45
 simp(disch:=first|omega|fail) only[push_cast,seval,vrl,if_pos,if_neg,e1,w1]
 rw[e2]
 simp(disch:=first|omega|fail) only[push_cast,seval,vrl,if_pos,if_neg]
end
def pkI(a n:Int):Int:=(if a<0 then-(a+1)else a).tmod n
theorem h58{a n:Int}(hn:0<n):0≤pkI a n∧pkI a n<n:=by
 unfold pkI
 split
 ·exact⟨Int.tmod_nonneg _ (by omega),Int.tmod_lt_of_pos _ hn⟩
 ·exact⟨Int.tmod_nonneg _ (by omega),Int.tmod_lt_of_pos _ hn⟩
def rwI(l:List Int)(i:Int):Int:=if l.length=0 then i else IntKind.wrap .i64 (gi l (i.tmod l.length)+IntKind.wrap .i64 (IntKind.wrap .i64 (i.tdiv l.length)*7919))
theorem ti9(x:Int): -9223372036854775808≤IntKind.wrap .i64 x∧IntKind.wrap .i64 x≤9223372036854775807:=by rw[IntKind.wrap_i64];omega
theorem bd0{l:List Int}{i:Int}(h0:0≤i)(h1:i≤9223372036854775807): -9223372036854775808≤rwI l i∧rwI l i≤9223372036854775807:=by
 unfold rwI
 split
 ·omega
 ·exact ti9 _
theorem cl0{l:List Int}{i:Int}(h0:0≤i)(h1:i<l.length):(ivs l)[i.toNat]? =some (.v (.int .i64 (gi l i))):=by
 have e:(ivs l)[i.toNat]? =some (.v (.int .i64 (gi l ((i.toNat:Nat):Int)))):=ui5 (by omega)
 rwa [Int.toNat_of_nonneg h0]at e
theorem o99{x:Int}(h0:0≤x){n:Int}(h:x<n): ∃k:Nat,x=(k:Int)∧(k:Int)<n:=⟨x.toNat,by omega,by omega⟩
section
variable {b:Bool} {nl:Nat} {raw:List Int}
theorem s89{a n:Int}(h1: -9223372036854775808≤a)(h2:a≤9223372036854775807)(hn:0<n):o25 W 22 [.x (.int .i64 a), .x (.int .i64 n)] []=some (.x (.int .i64 (pkI a n)),[],[]):=by
 have hz: ¬n=0:=by omega
 rw[o10 rfl T22 rfl]
 unfold F22 c22 pkI
 by_cases h0:a<0
 ·rw[if_pos h0]
  simp(disch:=first|omega|fail) only[push_cast,seval,vrl,if_pos,if_neg,nb8 hz,hz]
  rw[show(0:Int)-(a+1)= -(a+1) by omega]
 ·rw[if_neg h0]
  simp(disch:=first|omega|fail) only[push_cast,seval,vrl,if_pos,if_neg,nb8 hz,hz]
theorem yc3{i:Int}(hi:0≤i)(hl:raw.length≤9223372036854775807):o25 W 57 [.fz b (.sl nl 0 1 (ivs raw)), .x (.int .i64 i)] []=some (.x (.int .i64 (rwI raw i)),[],[]):=by
 rw[o10 rfl T57 rfl]
 unfold F57 c57 rwI
 by_cases h0:raw.length=0
 ·rw[if_pos h0]
  have h0':(raw.length:Int)=0:=by omega
  simp(disch:=first|omega|fail) only[push_cast,seval,vrl,if_pos,if_neg,h0']
 ·rw[if_neg h0]
  have hz: ¬(raw.length:Int)=0:=by omega
  have b1:0≤i.tmod raw.length:=Int.tmod_nonneg _ hi
  have b2:i.tmod raw.length<raw.length:=Int.tmod_lt_of_pos _ (by omega)
  have e:=cl0 b1 b2
  simp(disch:=first|omega|fail) only[push_cast,seval,vrl,if_pos,if_neg,hz,nb8 hz,e]
def numV(raw:List Int)(frm q:Int)(k:Nat):Int:=pkI (rwI raw (frm+k)) q
def tv7(raw:List Int)(frm q:Int)(n:Nat):List Int:=(List.range n).map (numV raw frm q)
theorem jd5(raw:List Int)(frm q:Int)(n:Nat):(tv7 raw frm q n).length=n:=by simp[tv7]
theorem ce7(raw:List Int)(frm q:Int)(n:Nat):tv7 raw frm q (n+1)=tv7 raw frm q n++[numV raw frm q n]:=by unfold tv7;rw[List.range_succ,List.map_append];rfl
theorem dm5{raw:List Int}{frm q:Int}{n:Nat}(hq:0<q): ∀z∈tv7 raw frm q n,fok q z=true:=fun z hz=>by
 obtain⟨k,_,rfl⟩:=List.mem_map.1 hz
 have:=h58 (a:=rwI raw (frm+k)) hq
 unfold numV fok
 rw[decide_eq_true this.1,decide_eq_true this.2];rfl
theorem m61{raw:List Int}{frm q:Int}{n:Nat}(hq:0<q): ∃l:List (El q),tv7 raw frm q n=vs l∧l.length=n:=by
 obtain⟨l,hl⟩:=n39 (dm5 (raw:=raw) (frm:=frm) (n:=n) hq)
 exact⟨l,hl,by rw[←fi2,←hl,jd5]⟩
theorem yq2(hrl:raw.length≤9223372036854775807){frm q:Int}(hf0:0≤frm)(hf1:frm≤1000000000)(hq0:0<q){N:Nat}(hN:N≤100000): ∀(d i:Nat),i+d=N→ ∀ks,
 vgoL W ⟨h23,[.tmp 8],0⟩ [0,1,2,3,9,10] c23L0 (.blk 0 [9]::ks) [(0, .fz b (.sl nl 0 1 (ivs raw))),(1, .x (.int .i64 frm)),(2, .x (.int .i64 q)),(3, .x (.int .i64 N)),(9, .own 0 []),(10, .x (.int .i64 i))] [.sl 1 3 1 (ivs (tv7 raw frm q i))]=
  vgo W ⟨h23,[.tmp 8],0⟩ ks (VFr.of [(9, .own 0 [])]) [.sl 1 3 1 (ivs (tv7 raw frm q N))]
 |0,i,hi,ks=>by
  obtain rfl:i=N:=by omega
  rw[sb5 c23L0.eq_def]
  simp(disch:=first|omega|fail) only[push_cast,seval,vrl,if_pos,if_neg]
 |d+1,i,hi,ks=>by
  have ih:=yq2 hrl hf0 hf1 hq0 hN d (i+1) (by omega) ks
  have e1:=fun b nl=>yc3 (b:=b) (nl:=nl) (raw:=raw) (i:=frm+i) (by omega) hrl
  have hri:=bd0 (l:=raw) (i:=frm+i) (by omega) (by omega)
  have e2:=s89 (n:=q) hri.1 hri.2 hq0
  have hl:=jd5 raw frm q i
  rw[Int.natCast_add,Int.natCast_one,ce7,numV]at ih
  rw[←ih,sb5 c23L0.eq_def]
  simp(disch:=first|omega|fail) only[push_cast,seval,vrl,if_pos,if_neg,e1,e2,hl]
theorem vv4(hrl:raw.length≤9223372036854775807){frm q:Int}(hf0:0≤frm)(hf1:frm≤1000000000)(hq0:0<q){N:Nat}(hN:N≤100000):o25 W 23 [.fz b (.sl nl 0 1 (ivs raw)), .x (.int .i64 frm), .x (.int .i64 q), .x (.int .i64 N)] []=some (.own 0 [],[.sl 1 3 1 (ivs (tv7 raw frm q N))],[]):=by
 have e:=fun ks=>yq2 (b:=b) (nl:=nl) hrl hf0 hf1 hq0 hN N 0 (by omega) ks
 rw[show tv7 raw frm q 0=[]from rfl]at e
 simp only[Int.natCast_zero,List.take_zero,List.drop_zero,rp2,lz6,x25,List.map_nil,List.length_nil]at e
 rw[o10 rfl T23 rfl]
 unfold F23 c23
 simp(disch:=first|omega|fail) only[push_cast,seval,vrl,if_pos,if_neg]
 rw[e]
 simp(disch:=first|omega|fail) only[push_cast,seval,vrl,if_pos,if_neg]
end
theorem hl9(p:Int)(hp:2≤p∧p≤64): ∀(n:Nat) (q m q' m':Int),1≤q→q≤64→0≤m→m+n≤100→dvdN n q p m=some (q',m')→
 (1≤q'∧q'≤64)∧ ∀ks,vgoL W ⟨hNo,[.tmp 2, .tmp 3],0⟩ [0,4,5] c28L0 (.blk 2 [0,4,5]::ks) [(0, .x (.int .i64 q)),(4, .x (.int .i64 p)),(5, .x (.int .i64 m))] []=vgo W ⟨hNo,[.tmp 2, .tmp 3],0⟩ ks (VFr.of [(0, .x (.int .i64 q')),(4, .x (.int .i64 p)),(5, .x (.int .i64 m'))]) []
 |0,q,m,q',m',h1,h2,h3,h4,he=>by cases he
 |n+1,q,m,q',m',h1,h2,h3,h4,he=>by
  rw[dvdN]at he
  have hp0: ¬p=0:=by omega
  have q1:q.tmod p=q%p:=Int.tmod_eq_emod_of_nonneg (by omega)
  have q2:q.tdiv p=q/p:=Int.tdiv_eq_ediv_of_nonneg (by omega)
  by_cases hz:q%p=0
  ·rw[show(q%p==0)=true by simpa using hz,cond_true]at he
   have hd:1≤q/p:=by
    rcases Int.lt_or_le (q/p) 1 with h|h
    ·have h5:0≤q/p:=Int.ediv_nonneg (by omega) (by omega)
     have h6:q/p=0:=by omega
     have:=Int.emod_add_mul_ediv q p
     rw[h6,hz]at this;omega
    ·exact h
   have hd2:q/p≤q:=Int.ediv_le_self _ (by omega)
   obtain⟨hb,ih⟩:=hl9 p hp n (q/p) (m+1) q' m' hd (by omega) (by omega) (by omega) he
   refine⟨hb,fun ks=> ?_⟩
   rw[←ih ks,sb5 c28L0.eq_def]
   simp(disch:=first|omega|fail) only[push_cast,seval,vrl,if_pos,if_neg,hp0,q1,q2,mr8 hz]
  ·rw[show(q%p==0)=false by simpa using hz,cond_false]at he
   cases he
   refine⟨⟨h1,h2⟩,fun ks=> ?_⟩
   rw[sb5 c28L0.eq_def]
   simp(disch:=first|omega|fail) only[push_cast,seval,vrl,if_pos,if_neg,hp0,q1,nb8 hz]
theorem ra6(q:Int)(hq:2≤q∧q≤64): ∀(n:Nat) (p:Int) (r:Int×Int),2≤p→p≤64→outN n q p=some r→
 ∀ks,vgoL W ⟨hNo,[.tmp 2, .tmp 3],0⟩ [0,4] c28L1 (.blk 0 []::ks) [(0, .x (.int .i64 q)),(4, .x (.int .i64 p))] []=some (.tup [.x (.int .i64 r.1), .x (.int .i64 r.2)],[],[])
 |0,p,r,h1,h2,he=>by cases he
 |n+1,p,r,h1,h2,he=>fun ks=>by
  rw[outN]at he
  by_cases hl:q<p
  ·rw[decide_eq_true hl,cond_true]at he;cases he
  rw[decide_eq_false hl,cond_false]at he
  have hp0: ¬p=0:=by omega
  have q1:q.tmod p=q%p:=Int.tmod_eq_emod_of_nonneg (by omega)
  by_cases hz:q%p=0
  ·rw[show(q%p==0)=true by simpa using hz,cond_true]at he
   cases hd:dvdN 64 q p 0 with
   |none=>rw[hd]at he;cases he
   |some x=>
    obtain⟨q',m'⟩:=x
    rw[hd]at he
    simp only[Option.some.injEq]at he
    obtain⟨hb,hin⟩:=hl9 p ⟨h1,h2⟩ 64 q 0 q' m' (by omega) (by omega) (by omega) (by omega) hd
    rw[sb5 c28L1.eq_def]
    simp(disch:=first|omega|fail) only[push_cast,seval,vrl,if_pos,if_neg,hp0,q1,mr8 hz]
    rw[hin]
    by_cases ho:q'=1
    ·rw[show(q'==1)=true by simpa using ho,cond_true]at he
     rw[←he]
     simp(disch:=first|omega|fail) only[push_cast,seval,vrl,if_pos,if_neg,mr8 ho]
    ·rw[show(q'==1)=false by simpa using ho,cond_false]at he
     rw[←he]
     simp(disch:=first|omega|fail) only[push_cast,seval,vrl,if_pos,if_neg,nb8 ho]
  ·rw[show(q%p==0)=false by simpa using hz,cond_false]at he
   by_cases hp64:p=64
   ·subst hp64;omega
   have ih:=ra6 q hq n (p+1) r (by omega) (by omega) he ks
   rw[←ih,sb5 c28L1.eq_def]
   simp(disch:=first|omega|fail) only[push_cast,seval,vrl,if_pos,if_neg,hp0,q1,nb8 hz]
theorem fh8{q:Int}(hq:2≤q∧q≤64){r:Int×Int}(he:outN 64 q 2=some r):o25 W 28 [.x (.int .i64 q)] []=some (.tup [.x (.int .i64 r.1), .x (.int .i64 r.2)],[],[]):=by
 rw[o10 rfl T28 rfl]
 unfold F28 c28
 simp(disch:=first|omega|fail) only[push_cast,seval,vrl,if_pos,if_neg]
 rw[ra6 q hq 64 2 r (by omega) (by omega) he]
def szN:Nat→Nat→List Int
 |0,_=>[]
 |n+1,q=>bif (fldN q).isSome then(q:Int)::szN n (q+1)else szN n (q+1)
def szL:List Int:=szN 63 2
theorem pb4:szL.length=27:=by kernel_rfl
theorem ho9:(szL.all fun z=>decide (2≤z)&&decide (z≤64)&&(fldN z.toNat).isSome)=true:=by kernel_rfl
theorem x14{z:Int}(hz:z∈szL):2≤z∧z≤64∧IsFld z:=by
 have:=List.all_eq_true.1 ho9 z hz
 simp only[Bool.and_eq_true,decide_eq_true_eq]at this
 obtain⟨⟨h1,h2⟩,h3⟩:=this
 obtain⟨⟨p,m,g,mod⟩,hx⟩:=Option.isSome_iff_exists.1 h3
 exact⟨h1,h2,⟨p,m,g,mod,hx⟩⟩
theorem jl0: ∀(n q:Nat) (zs:List Int),q+n=65→2≤q→zs.length≤q→ ∀ks,
 vgoL W ⟨h56,[.tmp 0],0⟩ [1,2] c56L0 (.blk 0 [1]::ks) [(1, .own 0 []),(2, .x (.int .i64 q))] [.sl 1 3 1 (ivs zs)]=vgo W ⟨h56,[.tmp 0],0⟩ ks (VFr.of [(1, .own 0 [])]) [.sl 1 3 1 (ivs (zs++szN n q))]
 |0,q,zs,hq,hq2,hz,ks=>by
  rw[szN,List.append_nil,sb5 c56L0.eq_def]
  simp(disch:=first|omega|fail) only[push_cast,seval,vrl,if_pos,if_neg]
 |n+1,q,zs,hq,hq2,hz,ks=>by
  have hle:(q:Int)≤64:=by omega
  cases hs:fldN q with
  |none=>
   have ho:=wd5 (n:=q) hq2 (by omega) hs
   have ep:=fh8 (q:=(q:Int)) (by omega) ho
   have ih:=jl0 n (q+1) zs (by omega) (by omega) (by omega) ks
   have hw:zs++szN (n+1) q=zs++szN n (q+1):=by rw[szN,hs];rfl
   rw[Int.natCast_add,Int.natCast_one]at ih
   rw[hw,←ih,sb5 c56L0.eq_def]
   simp(disch:=first|omega|fail) only[push_cast,seval,vrl,if_pos,if_neg,ep,decide_false,Int.lt_irrefl]
  |some x=>
   obtain⟨p,m,g,mod⟩:=x
   obtain⟨hf,ho,_⟩:=hj0 hs
   have hp2:=hf.p2
   have hpp:0<p:=by omega
   have ep:=fh8 (q:=(q:Int)) (by omega) ho
   have ih:=jl0 n (q+1) (zs++[(q:Int)]) (by omega) (by omega) (by simp;omega) ks
   have hw:zs++szN (n+1) q=zs++[(q:Int)]++szN n (q+1):=by rw[szN,hs];simp
   rw[Int.natCast_add,Int.natCast_one]at ih
   rw[hw,←ih,sb5 c56L0.eq_def]
   simp(disch:=first|omega|fail) only[push_cast,seval,vrl,if_pos,if_neg,ep,dec_lt hpp]
theorem n63:o25 W 56 [] []=some (.own 0 [],[.sl 1 3 1 (ivs szL)],[]):=by
 have e:=fun ks=>jl0 63 2 [] rfl (by omega) (by simp) ks
 rw[List.nil_append,show((2:Nat):Int)=2 from rfl]at e
 simp only[Int.natCast_zero,List.take_zero,List.drop_zero,rp2,lz6,x25,List.map_nil,List.length_nil]at e
 rw[o10 rfl T56 rfl]
 unfold F56 c56
 simp(disch:=first|omega|fail) only[push_cast,seval,vrl,if_pos,if_neg]
 rw[e]
 simp(disch:=first|omega|fail) only[push_cast,seval,vrl,if_pos,if_neg]
 rfl
theorem hl8{i:Int}(h0:0≤i)(h1:i<27):gi szL i∈szL∧(ivs szL)[i.toNat]? =some (.v (.int .i64 (gi szL i))):=by
 have hl:=pb4
 have h2:=cl0 (l:=szL) h0 (by omega)
 refine⟨?_,h2⟩
 have h3:i.toNat<szL.length:=by omega
 have:gi szL i=szL[i.toNat]:=by
  rw[show(ivs szL)[i.toNat]? =some (.v (.int .i64 (szL[i.toNat])))from by unfold ivs;rw[List.getElem?_map,List.getElem?_eq_getElem h3];rfl]at h2
  simpa using h2.symm
 rw[this]
 exact List.getElem_mem h3
theorem jx7(c:Int)(h1: -9223372036854775808≤c)(h2:c≤9223372036854775807): ∃z,z∈szL∧o25 W 21 [.x (.int .i64 c)] []=some (.x (.int .i64 z),[],[]):=by
 have e1:=n63
 have hl:=pb4
 have e2:=s89 (a:=c) (n:=100) h1 h2 (by omega)
 have r1:=h58 (a:=c) (n:=100) (by omega)
 generalize pkI c 100=k at e2 r1
 by_cases hk:k<60
 ·have r2:0≤k.tmod 7∧k.tmod 7<7:=⟨Int.tmod_nonneg _ r1.1,Int.tmod_lt_of_pos _ (by decide)⟩
  have a1:=hl8 (i:=k.tmod 7) r2.1 (by omega)
  refine⟨_,a1.1, ?_⟩
  have a2:=a1.2
  rw[o10 rfl T21 rfl]
  unfold F21 c21
  simp(disch:=first|omega|fail) only[push_cast,seval,vrl,if_pos,if_neg,e1,e2,hl,a2]
 ·have r3: -9223372036854775808≤c.tdiv 100∧c.tdiv 100≤9223372036854775807:=by
   rcases Int.le_total 0 c with h|h
   ·rw[Int.tdiv_eq_ediv_of_nonneg h];omega
   ·have:c.tdiv 100= -((-c).tdiv 100):=by rw[Int.neg_tdiv,Int.neg_neg]
    rw[this,Int.tdiv_eq_ediv_of_nonneg (by omega)];omega
  have e3:=s89 (a:=c.tdiv 100) (n:=27) r3.1 r3.2 (by omega)
  have r4:=h58 (a:=c.tdiv 100) (n:=27) (by omega)
  have a1:=hl8 (i:=pkI (c.tdiv 100) 27) r4.1 r4.2
  refine⟨_,a1.1, ?_⟩
  have a2:=a1.2
  rw[o10 rfl T21 rfl]
  unfold F21 c21
  simp(disch:=first|omega|fail) only[push_cast,seval,vrl,if_pos,if_neg,e1,e2,hl,e3,a2]
section
variable {l:List Int} {nl:Nat} {b:Bool} {x:Int}
end
end Go.Proofs.YtoglhlonhmmieaaGreat
namespace Go.Alg
section
variable {K:Type} [FK K]
theorem y46{α β:Type}(f:α×β→K): ∀(l:List α) (l':List β),l.length=l'.length→ ∀l2 l2',sumL ((l++l2).zip (l'++l2')) f=sumL (l.zip l') f+sumL (l2.zip l2') f:=fun l l' h l2 l2'=>by
 rw[List.zip_append h,up0]
theorem uj4{α β γ:Type}(g:β→γ)(f:α×γ→K): ∀(l:List α) (l':List β),sumL (l.zip (l'.map g)) f=sumL (l.zip l') (fun p=>f (p.1,g p.2))
 | [],_=>rfl
 |_::_,[]=>rfl
 |a::l,b::l'=>by rw[List.map_cons,List.zip_cons_cons,List.zip_cons_cons,gb6,gb6,uj4 g f l l']
theorem hom: ∀(r:Nat) (S:List (Nat→K)),r<S.length→ ∃y:List K,y.length=S.length∧(∃a∈y,a≠0)∧ ∀j,j<r→sumL (y.zip S) (fun p=>p.1*p.2 j)=0
 |0,S,h=>by
  refine⟨List.replicate S.length 1,List.length_replicate,⟨1,List.mem_replicate.2 ⟨by omega,rfl⟩,ki7⟩,fun j hj=>absurd hj (Nat.not_lt_zero j)⟩
 |r+1,S,h=>by
  by_cases hs: ∃s∈S,s r≠0
  ·obtain⟨s,hs,hne⟩:=hs
   obtain⟨S1,S2,rfl⟩:=List.append_of_mem hs
   have hl:r<((S1++S2).map (fun(t:Nat→K) j=>t j-t r*FK.inv (s r)*s j)).length:=by
    simp only[List.length_map,List.length_append,List.length_cons]at h⊢;omega
   obtain⟨y,y1,⟨a,y2,y3⟩,y4⟩:=hom r _ hl
   rw[List.length_map,List.length_append]at y1
   have hsp:y=y.take S1.length++y.drop S1.length:=(List.take_append_drop _ _).symm
   have h1:(y.take S1.length).length=S1.length:=by rw[List.length_take];omega
   have h2:(y.drop S1.length).length=S2.length:=by rw[List.length_drop];omega
   generalize y.take S1.length=u at hsp h1
   generalize y.drop S1.length=w at hsp h2
   subst hsp
   have hsum: ∀(c:K) j,sumL ((u++c::w).zip (S1++s::S2)) (fun p=>p.1*p.2 j)=sumL ((u++w).zip (S1++S2)) (fun p=>p.1*p.2 j)+c*s j:=fun c j=>by
    rw[y46 _ _ _ h1,y46 _ _ _ h1,List.zip_cons_cons,gb6,FK.add_assoc,FK.add_comm (sumL (w.zip S2) _)]
   refine⟨u++ -(sumL ((u++w).zip (S1++S2)) (fun p=>p.1*p.2 r)*FK.inv (s r))::w, ?_,⟨a, ?_,y3⟩,fun j hj=> ?_⟩
   ·simp only[List.length_append,List.length_cons,h1,h2]
   ·simp only[List.mem_append,List.mem_cons]at y2⊢
    rcases y2 with y2|y2
    ·exact .inl y2
    ·exact .inr (.inr y2)
   ·rw[hsum]
    by_cases hjr:j=r
    ·subst hjr
     rw[neg_mul,FK.mul_assoc,inv_mul hne,FK.mul_one,FK.add_neg]
    ·have h3:=y4 j (by omega)
     rw[uj4]at h3
     have h4:sumL ((u++w).zip (S1++S2)) (fun p=>p.1*(p.2 j-p.2 r*FK.inv (s r)*s j))=sumL ((u++w).zip (S1++S2)) (fun p=>p.1*p.2 j)-sumL ((u++w).zip (S1++S2)) (fun p=>p.1*p.2 r)*FK.inv (s r)*s j:=by
      rw[←ue3,←ue3,←b15]
      refine ox7 fun p _=> ?_
      rw[mul_sub,←FK.mul_assoc,←FK.mul_assoc]
     have h3:sumL ((u++w).zip (S1++S2)) (fun p=>p.1*(p.2 j-p.2 r*FK.inv (s r)*s j))=0:=h3
     rw[h4]at h3
     rw[neg_mul,←sub_eq,h3]
  ·obtain⟨y,y1,y2,y3⟩:=hom r S (by omega)
   refine⟨y,y1,y2,fun j hj=> ?_⟩
   by_cases hjr:j=r
   ·subst hjr
    refine tx6 fun p hp=> ?_
    have:p.2 j=0:=Classical.byContradiction fun hne=>hs ⟨p.2,(List.of_mem_zip hp).2,hne⟩
    rw[this,mul_zero]
   ·exact y3 j (by omega)
end
section
variable {K:Type} [FK K] {n:Nat}
section
variable {A:List (Nat×List K)} (hr:Rref n (toF A))
include hr
end
end
end Go.Alg
namespace Go.Alg
section
variable {K:Type} [FK K]
theorem tt9(x y:K):ev [-x,1] y=y-x:=by
 rw[ev,ev,ev,mul_zero,FK.add_zero,FK.mul_one,FK.add_comm];rfl
theorem pe7{f g h:Nat→K}{n m:Nat}(hf: ∀k,n≤k→f k=0)(hg: ∀k,n≤k→g k=0)(hh: ∀k,m≤k→h k=0)(hne:h≠fun _=>0)(e:disc f h=disc g h):f=g:=by
 refine Classical.byContradiction fun hfg=> ?_
 have hD:(fun k=>f k+ -g k)≠fun _=>0:=fun e=>hfg (funext fun k=>sub_eq_zero.1 (congrFun e k))
 obtain⟨i,j,_,_,_,_,h1⟩:=fq3 (n:=n) (m:=m) (fun k hk=>by rw[hf k hk,hg k hk,neg_zero,FK.add_zero]) hh hD hne
 apply h1
 rw[bf5,fh4,e,FK.add_neg]
open Classical in
end
end Go.Alg
namespace Go.Alg
section
variable {K:Type} [FK K] {n:Nat}
end
end Go.Alg
namespace Go.Alg
section
variable {K:Type} [FK K]
end
end Go.Alg
namespace Go.Proofs.YtoglhlonhmmieaaGreat
open Go.Am Go.Vm Go.Alg
def AllB(q:Nat)(L:List Int):Prop:=L.Perm (pn (List.range q))
theorem AllB.len{q:Nat}{L:List Int}(h:AllB q L):L.length=q:=by rw[h.length_eq,im5,List.length_range]
theorem swap_perm{α:Type} [DecidableEq α]{l:List α}{i j:Nat}{x y:α}(hi:l[i]? =some x)(hj:l[j]? =some y):((l.set i y).set j x).Perm l:=by
 obtain⟨h1,e1⟩:=List.getElem?_eq_some_iff.1 hi
 obtain⟨h2,e2⟩:=List.getElem?_eq_some_iff.1 hj
 refine List.perm_iff_count.2 fun a=> ?_
 by_cases hij:i=j
 ·subst hij
  rw[List.set_set,←e1,List.set_getElem_self]
 ·rw[List.count_set (by simpa using h2),List.count_set h1,List.getElem_set_ne hij]
  subst e1 e2
  have c1:l[i]∈l:=List.getElem_mem h1
  have c2:l[j]∈l:=List.getElem_mem h2
  have p1:=List.count_pos_iff.2 c1
  have p2:=List.count_pos_iff.2 c2
  by_cases ha:l[i]=a<;>by_cases hb:l[j]=a<;>simp[ha,hb]<;>(try subst ha)<;>(try subst hb)<;>omega
section
variable {raw:List Int} {b:Bool} {nl:Nat}
theorem mn8{q n:Nat}(hq:q≤1000): ∀(d i:Nat),i+d=q→ ∀ks,
 vgoL W ⟨hNo,[.tmp 6],0⟩ [0,1,2,7,8] c24L0 (.blk 0 [0,1,2,7]::ks) [(0, .fz b (.sl nl 0 1 (ivs raw))),(1, .x (.int .i64 q)),(2, .x (.int .i64 n)),(7, .own 0 []),(8, .x (.int .i64 i))] [.sl 0 3 1 (ivs (pn (List.range i)++List.replicate (q-i) 0))]=
  vgo W ⟨hNo,[.tmp 6],0⟩ ks (VFr.of [(0, .fz b (.sl nl 0 1 (ivs raw))),(1, .x (.int .i64 q)),(2, .x (.int .i64 n)),(7, .own 0 [])]) [.sl 0 3 1 (ivs (pn (List.range q)))]
 |0,i,hi,ks=>by
  obtain rfl:i=q:=by omega
  rw[Nat.sub_self,List.replicate_zero,List.append_nil,sb5 c24L0.eq_def]
  simp(disch:=first|omega|fail) only[push_cast,seval,vrl,if_pos,if_neg]
 |d+1,i,hi,ks=>by
  have ih:=mn8 hq (n:=n) d (i+1) (by omega) ks
  have hl:(pn (List.range i)++List.replicate (q-i) (0:Int)).length=q:=by
   rw[List.length_append,im5,List.length_range,List.length_replicate];omega
  have hs:(pn (List.range i)++List.replicate (q-i) (0:Int)).set i (i:Int)=pn (List.range (i+1))++List.replicate (q-(i+1)) 0:=by
   rw[List.set_append_right _ _ (by rw[im5,List.length_range];omega),im5,List.length_range,Nat.sub_self,show q-i=(q-(i+1))+1 by omega,List.replicate_succ,List.set_cons_zero,List.range_succ]
   unfold pn
   rw[List.map_append]
   simp
  rw[Int.natCast_add,Int.natCast_one,←hs]at ih
  generalize pn (List.range i)++List.replicate (q-i) (0:Int)=L at*
  rw[←ih,sb5 c24L0.eq_def]
  simp(disch:=first|omega|fail) only[push_cast,seval,vrl,if_pos,if_neg,hl]
theorem da5(hrl:raw.length≤9223372036854775807){q n:Nat}(hq:q≤1000)(hn:n≤q): ∀(d i:Nat) (L:List Int),i+d=n→AllB q L→ ∃L',AllB q L'∧ ∀(b:Bool) (nl:Nat),∀ks,
 vgoL W ⟨hNo,[.tmp 6],0⟩ [0,1,2,7,9] c24L1 (.blk 2 [2,7]::ks) [(0, .fz b (.sl nl 0 1 (ivs raw))),(1, .x (.int .i64 q)),(2, .x (.int .i64 n)),(7, .own 0 []),(9, .x (.int .i64 i))] [.sl 0 3 1 (ivs L)]=
  vgo W ⟨hNo,[.tmp 6],0⟩ ks (VFr.of [(2, .x (.int .i64 n)),(7, .own 0 [])]) [.sl 0 3 1 (ivs L')]
 |0,i,L,hi,hL=>by
  refine⟨L,hL,fun b nl ks=> ?_⟩
  rw[sb5 c24L1.eq_def]
  simp(disch:=first|omega|fail) only[push_cast,seval,vrl,if_pos,if_neg]
 |d+1,i,L,hi,hL=>by
  have hl:=hL.len
  have hr:=bd0 (l:=raw) (i:=(i:Int)) (by omega) (by omega)
  have e1:=fun b nl=>yc3 (b:=b) (nl:=nl) (raw:=raw) (i:=(i:Int)) (by omega) hrl
  have hpos:(0:Int)<(q:Int)-(i:Int):=by omega
  have e2:=s89 (a:=rwI raw (i:Int)) (n:=(q:Int)-(i:Int)) hr.1 hr.2 hpos
  have hk:=h58 (a:=rwI raw (i:Int)) (n:=(q:Int)-(i:Int)) hpos
  obtain⟨k,hk1,hk2⟩:=o99 hk.1 hk.2
  rw[hk1]at e2
  obtain⟨x,hx⟩:=ge6 (l:=L) (i:=i) (by omega)
  obtain⟨y,hy⟩:=ge6 (l:=L) (i:=i+k) (by omega)
  obtain⟨L',h1,h2⟩:=da5 hrl hq hn d (i+1) ((L.set i y).set (i+k) x) (by omega) ((swap_perm hx hy).trans hL)
  refine⟨L',h1,fun b nl ks=> ?_⟩
  have ih:=h2 b nl ks
  have l1:=iat hx
  have l2:=iat hy
  have w1:IntKind.wrap .i64 ((i:Int)+(k:Int))=((i+k:Nat):Int):=by rw[wrap64 (by omega) (by omega)];omega
  have l3:(L.set i y).length=q:=by rw[List.length_set,hl]
  have l4:((L.set i y).set (i+k) x).length=q:=by rw[List.length_set,l3]
  rw[Int.natCast_add,Int.natCast_one]at ih
  rw[←ih,sb5 c24L1.eq_def]
  have hik:i+k<q:=by omega
  generalize i+k=j at*
  simp(disch:=first|omega|fail) only[push_cast,seval,vrl,if_pos,if_neg,e1,e2,w1,l1,l2,hl,l3]
theorem mz4(hrl:raw.length≤9223372036854775807){q n:Nat}(hq:q≤1000)(hn:n≤q): ∃L:List Int,L.length=n∧L.Nodup∧(∀z∈L,0≤z∧z<q)∧ ∀(b:Bool) (nl:Nat),o25 W 24 [.fz b (.sl nl 0 1 (ivs raw)), .x (.int .i64 q), .x (.int .i64 n)] []=some (.own 0 [],[.sl 0 3 1 (ivs L)],[]):=by
 obtain⟨L',h1,h2⟩:=da5 hrl hq hn n 0 (pn (List.range q)) (by omega) (List.Perm.refl _)
 have e1:=fun b nl ks=>mn8 (raw:=raw) (b:=b) (nl:=nl) (q:=q) (n:=n) hq q 0 (by omega) ks
 have hl:=h1.len
 have hnd:L'.Nodup:=h1.nodup_iff.2 (by
  unfold pn
  rw[List.nodup_iff_pairwise_ne,List.pairwise_map]
  exact List.nodup_range.imp fun h e=>h (by omega))
 have hmem: ∀z∈L',0≤z∧z<q:=fun z hz=>by
  have:=h1.mem_iff.1 hz
  unfold pn at this
  obtain⟨k,hk,rfl⟩:=List.mem_map.1 this
  have:=List.mem_range.1 hk
  omega
 refine⟨L'.take n,by rw[List.length_take];omega,hnd.sublist (List.take_sublist _ _),fun z hz=>hmem z (List.mem_of_mem_take hz),fun b nl=> ?_⟩
 rw[show pn (List.range 0)++List.replicate (q-0) (0:Int)=List.replicate q 0 from rfl]at e1
 simp only[Int.natCast_zero]at e1 h2
 rw[o10 rfl T24 rfl]
 unfold F24 c24
 simp(disch:=first|omega|fail) only[push_cast,seval,vrl,if_pos,if_neg]
 rw[e1]
 simp(disch:=first|omega|fail) only[push_cast,seval,vrl,if_pos,if_neg]
 rw[h2]
 simp(disch:=first|omega|fail) only[push_cast,seval,vrl,if_pos,if_neg,hl,Int.sub_zero]
end
theorem ax8{q:Int}{L:List Int}(h: ∀z∈L,0≤z∧z<q)(hn:L.Nodup): ∃X:List (El q),L=vs X∧X.Nodup:=by
 obtain⟨X,rfl⟩:=n39 (q:=q) (l:=L) fun z hz=>iy2 (h z hz)
 refine⟨X,rfl, ?_⟩
 unfold vs at hn
 rw[List.nodup_iff_pairwise_ne,List.pairwise_map]at hn
 exact hn.imp fun h e=>h (by rw[e])
section
variable {a c:List Int} {b b':Bool} {nl nl':Nat}
end
section
variable {q:Int} {b:Bool} {nl:Nat} {xs:List Int} {k:Int}
end
section
variable {q:Int} [hq:IsFld q]
variable {b b':Bool} {nl nl':Nat} {X m:List (El q)}
end
section
variable {q:Int}
def oV:Option (El q)→Int
 |none=> -1
 |some x=>x.v
def ws(W:List (Option (El q))):List Int:=W.map oV
end
section
variable {q:Int} {b b':Bool} {nl nl':Nat}
end
section
variable {q:Int} {b:Bool} {nl nr e:Nat} {M:List (List Int)}
end
section
variable {q:Int} [IsFld q] {b b':Bool} {nl nl' nr:Nat} {c:El q}
end
section
variable {b:Bool} {nl nr:Nat} {M:List (List Int)}
end
section
variable {q:Int} [IsFld q] {T5:Tree} {M:List (List (El q))} {R n c at':Nat}
end
section
variable {q:Int} [IsFld q] {n R:Nat}
end
section
variable {q:Int} {b:Bool} {nl nr:Nat}
end
section
variable {q p m g:Int} [IsFld q] {t:Tree} {b:Bool} {nl nr n6 n7 n9:Nat} {M:List (List (El q))} {A:List (Nat×List (El q))} {w:Nat} {i8:Nat}
end
section
variable {q p m g:Int} [IsFld q] {t:Tree} {b b':Bool} {nl nl' nr n7 n8:Nat} {M:List (List (El q))} {A:List (Nat×List (El q))} {N:Nat}
end
section
variable {q:Int} [IsFld q] {b b':Bool} {nl nl' nr:Nat} {M:List (List (El q))} {y:List (El q)} {n R:Nat}
section
variable {T5:Tree} {c at' n0:Nat}
end
end
section
variable {q:Int} {b b':Bool} {nl nl' nr e:Nat}
end
section
variable {α:Type} {n:Nat}
end
section
variable {q:Int} [IsFld q] {b b':Bool} {nl nl' nr:Nat} {M:List (List (El q))} {n:Nat}
end
section
variable {q:Int} {b b':Bool} {nl nl' nr e:Nat}
end
end Go.Proofs.YtoglhlonhmmieaaGreat
namespace Go.Alg
section
variable {K:Type} [FK K]
end
end Go.Alg
namespace Go.Proofs.YtoglhlonhmmieaaGreat
open Go.Am Go.Vm Go.Alg
section
variable {q:Int} [h:IsFld q]
end
theorem sk4{A:Bool→Nat→Bool→Nat→Nat→Prop}(h: ∀b nl b' nl',∃n,A b nl b' nl' n): ∃F:Bool→Nat→Bool→Nat→Nat,∀b nl b' nl',A b nl b' nl' (F b nl b' nl'):=
 ⟨fun b nl b' nl'=>Classical.choose (h b nl b' nl'),fun b nl b' nl'=>Classical.choose_spec (h b nl b' nl')⟩
section
variable {q:Int} [IsFld q] {b b':Bool} {nl nl':Nat} {P:List (El q×El q)} {k:Nat}
end
end Go.Proofs.YtoglhlonhmmieaaGreat
namespace Go.Alg
section
variable {K:Type} [FK K]
def scT(c:K):Nat→Nat→List K→List K
 |0,k,z=>z
 |n+1,k,z=>scT c n (k+1) (z.set k (wf z k*c))
theorem m70(c:K): ∀(n k:Nat) (z:List K),k+n=z.length→scT c n k z=z.take k++(z.drop k).map fun x=>x*c
 |0,k,z,h=>by rw[scT,List.drop_of_length_le (by omega),List.take_of_length_le (by omega)];simp
 |n+1,k,z,h=>by
  have hk:k<z.length:=by omega
  rw[scT,m70 c n (k+1) _ (by rw[List.length_set];omega)]
  rw[List.take_add_one,List.getElem?_set_self hk,List.take_set_of_le (Nat.le_refl _),List.drop_set_of_lt (Nat.lt_succ_self _),List.drop_eq_getElem_cons hk,List.map_cons,i67 hk]
  simp
theorem ou4(c:K)(z:List K):scT c z.length 0 z=z.map fun x=>x*c:=by
 rw[m70 c _ _ _ (by omega)];simp
end
end Go.Alg
namespace Go.Proofs.YtoglhlonhmmieaaGreat
open Go.Am Go.Vm Go.Alg
theorem ef8{α:Type}{l:List α}(h:l≠[]):nlT l=0:=by
 cases l with
 |nil=>exact absurd rfl h
 |cons a l=>rfl
section
variable {q:Int} [IsFld q] {b:Bool} {nl:Nat} {s:List (El q)}
end
end Go.Proofs.YtoglhlonhmmieaaGreat
namespace Go.Alg
section
variable {K:Type} [FK K]
theorem ty2{a d:K}(h:d≠0):d*(a*FK.inv d)=a:=by
 rw[FK.mul_comm a,←FK.mul_assoc,FK.mul_inv d h,one_mul]
structure ThrI (P R:List (K×K)) (out all:List K):Prop where
 tr:Trm out
 lo:out.length≤P.length
 la:all.length≤P.length+1
 ok: ∀p∈P,ev out p.1=p.2
 z: ∀p∈P,ev all p.1=0
 nz: ∀p∈R,ev all p.1≠0
theorem ThrI.start(R:List (K×K)):ThrI [] R [] [1]:=⟨wg5,Nat.le_refl _,Nat.le_refl _,fun p h=>(by cases h),fun p h=>(by cases h),fun p h e=>ki7 (by
 have:ev [1] p.1=(1:K):=by rw[ev,ev,mul_zero,FK.add_zero]
 rw[←this,e])⟩
theorem ThrI.out{P R:List (K×K)}{out all:List K}{p:K×K}(h:ThrI P (p::R) out all):
 Trm (addK out (all.map fun c=>c*((p.2-ev out p.1)*FK.inv (ev all p.1))))∧(addK out (all.map fun c=>c*((p.2-ev out p.1)*FK.inv (ev all p.1)))).length≤P.length+1∧ ∀r∈P++[p],ev (addK out (all.map fun c=>c*((p.2-ev out p.1)*FK.inv (ev all p.1)))) r.1=r.2:=by
 refine⟨y42 _ _, ?_,fun r hr=> ?_⟩
 ·have h1:=mk8 out (all.map fun c=>c*((p.2-ev out p.1)*FK.inv (ev all p.1)))
  rw[List.length_map]at h1
  have h2:=h.lo
  have h3:=h.la
  omega
 ·rw[k99,hi7]
  rcases List.mem_append.1 hr with hr|hr
  ·rw[h.z r hr,zero_mul,FK.add_zero,h.ok r hr]
  ·rw[List.mem_singleton.1 hr,ty2 (h.nz p (by simp)),FK.add_comm,fj9]
theorem ThrI.step{P R:List (K×K)}{out all:List K}{p:K×K}(hn: ∀r∈R,r.1≠p.1)(h:ThrI P (p::R) out all):
 ThrI (P++[p]) R (addK out (all.map fun c=>c*((p.2-ev out p.1)*FK.inv (ev all p.1)))) (mulK all [-p.1,1]):=by
 obtain⟨h1,h2,h3⟩:=h.out
 refine⟨h1,by rw[List.length_append];exact h2, ?_,h3,fun r hr=> ?_,fun r hr e=> ?_⟩
 ·have h4:=bx5 all [-p.1,1]
  have h5:=h.la
  simp only[List.length_cons,List.length_nil,List.length_append]at h4⊢
  omega
 ·rw[jo3,tt9]
  rcases List.mem_append.1 hr with hr|hr
  ·rw[h.z r hr,zero_mul]
  ·rw[List.mem_singleton.1 hr,sub_eq,FK.add_neg,mul_zero]
 ·rw[jo3,tt9]at e
  rcases mul_eq_zero e with e|e
  ·exact h.nz r (by simp[hr]) e
  ·exact hn r hr (by rw[←fj9 r.1 p.1,e,zero_add])
theorem ThrI.ne{P R:List (K×K)}{out all:List K}{p:K×K}(h:ThrI P (p::R) out all):all≠[]:=by
 rintro rfl
 exact h.nz p (by simp) rfl
end
end Go.Alg
namespace Go.Proofs.YtoglhlonhmmieaaGreat
open Go.Am Go.Vm Go.Alg
section
variable {q:Int} [IsFld q] {b b':Bool} {nl nl':Nat} {P:List (El q×El q)}
theorem ga4{c:El q}{T0 T1:Tree}{i:Nat}{L:Int}{x:Int}: ∀(n k:Nat) (z:List (El q)),k+n=z.length→z.length≤1000→ ∀ks,
 vgoL W ⟨h53,[.tmp 6, .tmp 7],0⟩ [0,1,2,8,12,13,14,15,20,21,41,42,43,79,80] c53L0 (.blk 2 [0,1,2,8,12,13,14,15,21,41,42,43]::ks) [(0, .x (.int .i64 q)),(1, .fz b (.sl nl 0 1 (ivs (vs (P.map Prod.fst))))),(2, .fz b' (.sl nl' 0 1 (ivs (vs (P.map Prod.snd))))),(8, .fz true (pF q)),(12, .own 0 []),(13, .own 1 []),(14, .x (.int .i64 i)),(15, .x (.int .i64 x)),(20, .x (.int .i64 c.v)),(21, .own 2 []),(41, .fz b (.sl nl 0 1 (ivs (vs (P.map Prod.fst))))),(42, .x (.int .i64 L)),(43, .x (.int .i64 i)),(79, .x (.int .i64 z.length)),(80, .x (.int .i64 k))] [T0,T1, .sl 0 3 1 (ivs (vs z))]=
  vgo W ⟨h53,[.tmp 6, .tmp 7],0⟩ ks (VFr.of [(0, .x (.int .i64 q)),(1, .fz b (.sl nl 0 1 (ivs (vs (P.map Prod.fst))))),(2, .fz b' (.sl nl' 0 1 (ivs (vs (P.map Prod.snd))))),(8, .fz true (pF q)),(12, .own 0 []),(13, .own 1 []),(14, .x (.int .i64 i)),(15, .x (.int .i64 x)),(21, .own 2 []),(41, .fz b (.sl nl 0 1 (ivs (vs (P.map Prod.fst))))),(42, .x (.int .i64 L)),(43, .x (.int .i64 i))]) [T0,T1, .sl 0 3 1 (ivs (vs (scT c n k z)))]
 |0,k,z,hk,hz,ks=>by
  rw[scT,sb5 c53L0.eq_def]
  simp(disch:=first|omega|fail) only[push_cast,seval,vrl,if_pos,if_neg]
 |n+1,k,z,hk,hz,ks=>by
  have ih:=ga4 (c:=c) (T0:=T0) (T1:=T1) (i:=i) (L:=L) (x:=x) n (k+1) (z.set k (wf z k*c)) (by rw[List.length_set];omega) (by rw[List.length_set];omega) ks
  have h1:=iva (l:=z) (i:=k) (by omega)
  rw[Int.natCast_add,Int.natCast_one,←g52,ym6,List.length_set]at ih
  rw[scT,←ih,sb5 c53L0.eq_def]
  simp(disch:=first|omega|fail) only[push_cast,seval,vrl,if_pos,if_neg,h1]
theorem yz4{nf:Nat}{out:List (El q)}{T:Tree}(ks):
 vgoL W ⟨h53,[.tmp 6, .tmp 7],0⟩ [0,1,2,8,12,13,41,42,43] c53L1 (.blk 0 [12]::ks) [(0, .x (.int .i64 q)),(1, .fz b (.sl nl 0 1 (ivs (vs (P.map Prod.fst))))),(2, .fz b' (.sl nl' 0 1 (ivs (vs (P.map Prod.snd))))),(8, .fz true (pF q)),(12, .own 0 []),(13, .own 1 []),(41, .fz b (.sl nl 0 1 (ivs (vs (P.map Prod.fst))))),(42, .x (.int .i64 P.length)),(43, .x (.int .i64 P.length))] [.sl nf 3 1 (ivs (vs out)),T]=
  vgo W ⟨h53,[.tmp 6, .tmp 7],0⟩ ks (VFr.of [(12, .own 0 [])]) [.sl nf 3 1 (ivs (vs out)),T]:=by
 rw[sb5 c53L1.eq_def]
 simp(disch:=first|omega|fail) only[push_cast,seval,vrl,if_pos,if_neg]
theorem za0(hP:P.length≤64)(hn:(P.map Prod.fst).Nodup): ∀(R A:List (El q×El q)) (p:El q×El q) (out all:List (El q)),A++p::R=P→ThrI A (p::R) out all→ ∃out',Trm out'∧out'.length≤P.length∧(∀p∈P,ev out' p.1=p.2)∧ ∀(b:Bool) (nl:Nat) (b':Bool) (nl' nf na:Nat),∃n1 T,∀ks,
 vgoL W ⟨h53,[.tmp 6, .tmp 7],0⟩ [0,1,2,8,12,13,41,42,43] c53L1 (.blk 0 [12]::ks) [(0, .x (.int .i64 q)),(1, .fz b (.sl nl 0 1 (ivs (vs (P.map Prod.fst))))),(2, .fz b' (.sl nl' 0 1 (ivs (vs (P.map Prod.snd))))),(8, .fz true (pF q)),(12, .own 0 []),(13, .own 1 []),(41, .fz b (.sl nl 0 1 (ivs (vs (P.map Prod.fst))))),(42, .x (.int .i64 P.length)),(43, .x (.int .i64 A.length))] [.sl nf 3 1 (ivs (vs out)), .sl na 3 1 (ivs (vs all))]=
  vgo W ⟨h53,[.tmp 6, .tmp 7],0⟩ ks (VFr.of [(12, .own 0 [])]) [.sl n1 3 1 (ivs (vs out')),T]:=by
 intro R
 induction R with
 |nil=>
  intro A p out all hA h
  obtain⟨o1,o2,o3⟩:=h.out
  have hAl:A.length+1=P.length:=by rw[←hA];simp
  have hla:=h.la
  have hlo:=h.lo
  have hane:=h.ne
  have hnz:=h.nz p (by simp)
  refine⟨_,o1,by omega,by rw[←hA];exact o3,fun b nl b' nl' nf na=> ?_⟩
  have hp:P[A.length]? =some p:=by rw[←hA];simp
  have h1:=iat (show(vs (P.map Prod.fst))[A.length]? =some p.1.v by unfold vs;rw[List.getElem?_map,List.getElem?_map,hp];rfl)
  have h2:=iat (show(vs (P.map Prod.snd))[A.length]? =some p.2.v by unfold vs;rw[List.getElem?_map,List.getElem?_map,hp];rfl)
  have e1:=fun b nl=>yu6 (b:=b) (nl:=nl) (a:=all) (x:=p.1) (by omega)
  have e2:=fun b nl=>yu6 (b:=b) (nl:=nl) (a:=out) (x:=p.1) (by omega)
  have hat: ¬(ev all p.1).v=0:=fun e=>hnz (El.ext' e)
  have hinv:=rl7 hnz
  have e3:=fun b nl=>h20 (b:=b) (nl:=nl) (zs:=vs all) (by rw[fi2];omega)
  simp only[ks8,ef8 hane]at e3
  obtain⟨c,hc⟩: ∃c,(p.2-ev out p.1)*FK.inv (ev all p.1)=c:=⟨_,rfl⟩
  have hcv:fmul q (fsub q p.2.v (ev out p.1).v) (finv q (ev all p.1).v)=c.v:=by rw[←hc,←hinv];rfl
  rw[hc]
  have e4:=fun b nl b' nl' T0 T1 i L x ks=>ga4 (b:=b) (nl:=nl) (b':=b') (nl':=nl') (P:=P) (c:=c) (T0:=T0) (T1:=T1) (i:=i) (L:=L) (x:=x) all.length 0 all (by omega) (by omega) ks
  rw[ou4]at e4
  simp only[Int.natCast_zero]at e4
  have e5:=fun b nl b' nl'=>wa2 (b:=b) (nl:=nl) (b':=b') (nl':=nl') (a:=out) (c:=all.map fun x=>x*c) (by omega) (by rw[List.length_map];omega)
  have e6:=fun b nl b' nl' nf T ks=>yz4 (b:=b) (nl:=nl) (b':=b') (nl':=nl') (P:=P) (nf:=nf) (out:=addK out (all.map fun x=>x*c)) (T:=T) ks
  rw[←hAl,Int.natCast_add,Int.natCast_one]at e6
  refine⟨nlT (addK out (all.map fun x=>x*c)), .sl na 3 1 (ivs (vs all)),fun ks=> ?_⟩
  rw[←e6 b nl b' nl' (nlT (addK out (all.map fun x=>x*c))) (.sl na 3 1 (ivs (vs all))) ks,sb5 c53L1.eq_def,←hAl,Int.natCast_add,Int.natCast_one]
  simp(disch:=first|omega|fail) only[push_cast,seval,vrl,if_pos,if_neg,h1,h2,e1,e2,nb8 hat,hcv,e3,List.length_map,hAl]
  rw[e4]
  simp(disch:=first|omega|fail) only[push_cast,seval,vrl,if_pos,if_neg,e5,List.length_map,hAl]
 |cons p2 R ih=>
  intro A p out all hA h
  have hne: ∀r∈p2::R,r.1≠p.1:=fun r hr e=>by
   rw[←hA,List.map_append,List.map_cons]at hn
   have h1:=(List.nodup_cons.1 (List.nodup_append.1 hn).2.1).1
   exact h1 (List.mem_map.2 ⟨r,hr,e⟩)
  have hs:=h.step hne
  have hAl:A.length+2≤P.length:=by rw[←hA,List.length_append,List.length_cons,List.length_cons];omega
  have hla:=h.la
  have hlo:=h.lo
  have hane:=h.ne
  have hnz:=h.nz p (by simp)
  have hp:P[A.length]? =some p:=by rw[←hA];simp
  have h1:=iat (show(vs (P.map Prod.fst))[A.length]? =some p.1.v by unfold vs;rw[List.getElem?_map,List.getElem?_map,hp];rfl)
  have h2:=iat (show(vs (P.map Prod.snd))[A.length]? =some p.2.v by unfold vs;rw[List.getElem?_map,List.getElem?_map,hp];rfl)
  have e1:=fun b nl=>yu6 (b:=b) (nl:=nl) (a:=all) (x:=p.1) (by omega)
  have e2:=fun b nl=>yu6 (b:=b) (nl:=nl) (a:=out) (x:=p.1) (by omega)
  have hat: ¬(ev all p.1).v=0:=fun e=>hnz (El.ext' e)
  have hinv:=rl7 hnz
  have e3:=fun b nl=>h20 (b:=b) (nl:=nl) (zs:=vs all) (by rw[fi2];omega)
  simp only[ks8,ef8 hane]at e3
  obtain⟨c,hc⟩: ∃c,(p.2-ev out p.1)*FK.inv (ev all p.1)=c:=⟨_,rfl⟩
  have hcv:fmul q (fsub q p.2.v (ev out p.1).v) (finv q (ev all p.1).v)=c.v:=by rw[←hc,←hinv];rfl
  rw[hc]at hs
  obtain⟨out',o1,o2,o3,o4⟩:=ih (A++[p]) p2 _ _ (by rw[List.append_assoc];exact hA) hs
  refine⟨out',o1,o2,o3,fun b nl b' nl' nf na=> ?_⟩
  have e4:=fun b nl b' nl' T0 T1 i L x ks=>ga4 (b:=b) (nl:=nl) (b':=b') (nl':=nl') (P:=P) (c:=c) (T0:=T0) (T1:=T1) (i:=i) (L:=L) (x:=x) all.length 0 all (by omega) (by omega) ks
  rw[ou4]at e4
  simp only[Int.natCast_zero]at e4
  have e5:=fun b nl b' nl'=>wa2 (b:=b) (nl:=nl) (b':=b') (nl':=nl') (a:=out) (c:=all.map fun x=>x*c) (by omega) (by rw[List.length_map];omega)
  obtain⟨F,e6⟩:=sk4 fun b nl b' nl'=>td8 (b:=b) (nl:=nl) (b':=b') (nl':=nl') (a:=all) (c:=[-p.1,1]) (by omega) (by simp)
  rw[show ivs (vs [-p.1,1])=[Tree.v (.int .i64 (fneg q p.1.v)),Tree.v (.int .i64 1)]from rfl]at e6
  obtain⟨n1,T,hfin⟩:=o4 b nl b' nl' (nlT (addK out (all.map fun x=>x*c))) (F false na false 0)
  refine⟨n1,T,fun ks=> ?_⟩
  have ih2:=hfin ks
  have hlt:(A.length:Int)+1<(P.length:Int):=by omega
  rw[List.length_append,List.length_singleton,Int.natCast_add,Int.natCast_one]at ih2
  rw[←ih2,sb5 c53L1.eq_def]
  simp(disch:=first|omega|fail) only[push_cast,seval,vrl,if_pos,if_neg,h1,h2,e1,e2,nb8 hat,hcv,e3,List.length_map]
  rw[e4]
  simp(disch:=first|omega|fail) only[push_cast,seval,vrl,if_pos,if_neg,e5,List.length_map,dec_lt hlt,e6]
theorem jx5(hP0:P≠[])(hP:P.length≤64)(hn:(P.map Prod.fst).Nodup): ∃out:List (El q),Trm out∧out.length≤P.length∧(∀p∈P,ev out p.1=p.2)∧ ∀(b:Bool) (nl:Nat) (b':Bool) (nl':Nat),∃n,
 o25 W 53 [.x (.int .i64 q), .fz b (.sl nl 0 1 (ivs (vs (P.map Prod.fst)))), .fz b' (.sl nl' 0 1 (ivs (vs (P.map Prod.snd))))] []=some (.tup [.own 0 [], .x (.int .i64 0)],[.sl n 3 1 (ivs (vs out))],[]):=by
 cases hPc:P with
 |nil=>exact absurd hPc hP0
 |cons p R=>
  obtain⟨out,o1,o2,o3,o4⟩:=za0 hP hn R [] p [] [1] hPc.symm (ThrI.start _)
  rw[←hPc]
  refine⟨out,o1,o2,o3,fun b nl b' nl'=> ?_⟩
  obtain⟨n1,T,e2⟩:=o4 b nl b' nl' 1 0
  rw[show ivs (vs [(1:El q)])=[Tree.v (.int .i64 1)]from rfl]at e2
  simp only[rp2,lz6,List.length_nil,Int.natCast_zero]at e2
  have e1:=fun b nl b' nl'=>ce8 (b:=b) (nl:=nl) (b':=b') (nl':=nl') (a:=P.map Prod.fst) (c:=P.map Prod.snd) (by rw[List.length_map];omega) (by rw[List.length_map];omega)
  refine⟨n1, ?_⟩
  rw[o10 rfl T53 rfl]
  unfold F53 c53
  simp(disch:=first|omega|fail) only[push_cast,seval,vrl,if_pos,if_neg,e1,List.length_map]
  rw[e2]
  simp(disch:=first|omega|fail) only[push_cast,seval,vrl,if_pos,if_neg]
end
section
variable {q p m g:Int} {t:Tree} {b:Bool} {nl nr:Nat} {M:List (List Int)}
end
section
variable {q n:Int} {nl nr:Nat} {M:List (List Int)}
end
section
variable {q p m g:Int} [IsFld q] {t:Tree} {b b':Bool} {nl nl' nr n7 n8:Nat} {M:List (List (El q))} {A:List (Nat×List (El q))} {N:Nat}
end
section
variable {q:Int} {b:Bool} {nl nr n6 n7:Nat}
section
variable [IsFld q] {A:List (Nat×List (El q))} {N:Nat} {K:List (List Int)}
end
end
section
variable {q n:Int} {nl nr:Nat} {M:List (List Int)}
end
section
variable {q:Int} [IsFld q] {k nl nr:Nat} {N:List (List (El q))}
end
section
variable {b b':Bool} {nl nl' nr nr':Nat}
theorem ft0{l k:List Int}(hl:l.length≤9223372036854775807)(hk:k.length=l.length): ∀(d i:Nat),i+d=l.length→ ∀ks,
 vgoL W ⟨hNo,[.tmp 4],0⟩ [0,1,5] c43L0 (.blk 0 []::ks) [(0, .fz b (.sl nl 0 1 (ivs l))),(1, .fz b' (.sl nl' 0 1 (ivs k))),(5, .x (.int .i64 i))] []=
  if l.drop i=k.drop i then vgo W ⟨hNo,[.tmp 4],0⟩ ks (VFr.of []) []else some (.x (.bool false),[],[])
 |0,i,hi,ks=>by
  rw[oh9 (by omega),oh9 (by omega),if_pos rfl,sb5 c43L0.eq_def]
  simp(disch:=first|omega|fail) only[push_cast,seval,vrl,if_pos,if_neg]
 |d+1,i,hi,ks=>by
  have ih:=ft0 hl hk d (i+1) (by omega) ks
  obtain⟨a,ha⟩:=ge6 (l:=l) (i:=i) (by omega)
  obtain⟨c,hc⟩:=ge6 (l:=k) (i:=i) (by omega)
  have h1:=iat ha
  have h2:=iat hc
  rw[i62 ha,i62 hc]
  rw[Int.natCast_add,Int.natCast_one]at ih
  by_cases h:a=c
  ·have hiff:(a::l.drop (i+1)=c::k.drop (i+1))=(l.drop (i+1)=k.drop (i+1)):=by rw[h];simp
   simp only[hiff]
   rw[←ih,sb5 c43L0.eq_def]
   simp(disch:=first|omega|fail) only[push_cast,seval,vrl,if_pos,if_neg,h1,h2,h]
  ·rw[if_neg (by intro e;exact h (List.cons.inj e).1),sb5 c43L0.eq_def]
   simp(disch:=first|omega|fail) only[push_cast,seval,vrl,if_pos,if_neg,h1,h2,nb8 h]
theorem nb2{l k:List Int}(hl:l.length≤9223372036854775807):o25 W 43 [.fz b (.sl nl 0 1 (ivs l)), .fz b' (.sl nl' 0 1 (ivs k))] []=some (.x (.bool (decide (l=k))),[],[]):=by
 by_cases hk:k.length=l.length
 ·have e:=fun ks=>ft0 (b:=b) (b':=b') (nl:=nl) (nl':=nl') hl hk l.length 0 (by omega) ks
  simp only[Int.natCast_zero,List.take_zero,List.drop_zero,rp2,lz6,x25,List.map_nil,List.length_nil]at e
  rw[o10 rfl T43 rfl]
  unfold F43 c43
  simp(disch:=first|omega|fail) only[push_cast,seval,vrl,if_pos,if_neg,hk]
  rw[e]
  by_cases h:l=k
  ·rw[if_pos h,decide_eq_true h]
   simp(disch:=first|omega|fail) only[push_cast,seval,vrl,if_pos,if_neg]
  ·rw[if_neg h,decide_eq_false h]
 ·have h: ¬l=k:=fun e=>hk (by rw[e])
  have h8: ¬(l.length:Int)=(k.length:Int):=by omega
  rw[decide_eq_false h,o10 rfl T43 rfl]
  unfold F43 c43
  simp(disch:=first|omega|fail) only[push_cast,seval,vrl,if_pos,if_neg,nb8 h8]
theorem h39{l k:List (List Int)}(hl:l.length≤9223372036854775807)(he: ∀r∈l,r.length≤9223372036854775807)(hk:k.length=l.length)(hx:77=77): ∀(d i:Nat),i+d=l.length→ ∀ks,
 vgoL W ⟨hNo,[.tmp 4],0⟩ [0,1,5] c77L0 (.blk 0 []::ks) [(0, .fz b (.sl nl 0 1 (lvs nr l))),(1, .fz b' (.sl nl' 0 1 (lvs nr' k))),(5, .x (.int .i64 i))] []=
  if l.drop i=k.drop i then vgo W ⟨hNo,[.tmp 4],0⟩ ks (VFr.of []) []else some (.x (.bool false),[],[])
 |0,i,hi,ks=>by
  rw[oh9 (by omega),oh9 (by omega),if_pos rfl,sb5 c77L0.eq_def]
  simp(disch:=first|omega|fail) only[push_cast,seval,vrl,if_pos,if_neg]
 |d+1,i,hi,ks=>by
  have ih:=h39 hl he hk hx d (i+1) (by omega) ks
  obtain⟨a,ha⟩:=ge6 (l:=l) (i:=i) (by omega)
  obtain⟨c,hc⟩:=ge6 (l:=k) (i:=i) (by omega)
  have h1:=lat (nl:=nr) ha
  have h2:=lat (nl:=nr') hc
  have e:=fun b b' nl nl'=>nb2 (b:=b) (b':=b') (nl:=nl) (nl':=nl') (l:=a) (k:=c) (he a (List.mem_of_getElem? ha))
  rw[i62 ha,i62 hc]
  rw[Int.natCast_add,Int.natCast_one]at ih
  by_cases h:a=c
  ·have hiff:(a::l.drop (i+1)=c::k.drop (i+1))=(l.drop (i+1)=k.drop (i+1)):=by rw[h];simp
   simp only[decide_eq_true h]at e
   simp only[hiff]
   rw[←ih,sb5 c77L0.eq_def]
   simp(disch:=first|omega|fail) only[push_cast,seval,vrl,if_pos,if_neg,h1,h2,e]
  ·simp only[decide_eq_false h]at e
   rw[if_neg (by intro e;exact h (List.cons.inj e).1),sb5 c77L0.eq_def]
   simp(disch:=first|omega|fail) only[push_cast,seval,vrl,if_pos,if_neg,h1,h2,e]
theorem us3{l k:List (List Int)}(hl:l.length≤9223372036854775807)(he: ∀r∈l,r.length≤9223372036854775807):o25 W 77 [.fz b (.sl nl 0 1 (lvs nr l)), .fz b' (.sl nl' 0 1 (lvs nr' k))] []=some (.x (.bool (decide (l=k))),[],[]):=by
 by_cases hk:k.length=l.length
 ·have e:=fun ks=>h39 (b:=b) (b':=b') (nl:=nl) (nl':=nl') (nr:=nr) (nr':=nr') hl he hk rfl l.length 0 (by omega) ks
  simp only[Int.natCast_zero,List.take_zero,List.drop_zero,rp2,lz6,x25,List.map_nil,List.length_nil]at e
  rw[o10 rfl T77 rfl]
  unfold F77 c77
  simp(disch:=first|omega|fail) only[push_cast,seval,vrl,if_pos,if_neg,hk]
  rw[e]
  by_cases h:l=k
  ·rw[if_pos h,decide_eq_true h]
   simp(disch:=first|omega|fail) only[push_cast,seval,vrl,if_pos,if_neg]
  ·rw[if_neg h,decide_eq_false h]
 ·have h: ¬l=k:=fun e=>hk (by rw[e])
  have h8: ¬(l.length:Int)=(k.length:Int):=by omega
  rw[decide_eq_false h,o10 rfl T77 rfl]
  unfold F77 c77
  simp(disch:=first|omega|fail) only[push_cast,seval,vrl,if_pos,if_neg,nb8 h8]
theorem dy0{l k:List (List Int)}{e f:Int}(hl:l.length≤9223372036854775807)(he: ∀r∈l,r.length≤9223372036854775807):o25 W 52 [.fz b (.sl nl 0 1 (lvs nr l)), .x (.int .i64 e), .fz b' (.sl nl' 0 1 (lvs nr' k)), .x (.int .i64 f)] []=some (.x (.bool (if f=0 then decide (e=0)&&decide (l=k)else decide (e=f)&&decide (l.length=0))),[],[]):=by
 have h1:=fun b b' nl nl' nr nr'=>us3 (b:=b) (b':=b') (nl:=nl) (nl':=nl') (nr:=nr) (nr':=nr') (k:=k) hl he
 by_cases hf:f=0
 ·rw[if_pos hf]
  by_cases h0:e=0
  ·rw[decide_eq_true h0,Bool.true_and,o10 rfl T52 rfl]
   unfold F52 c52
   simp(disch:=first|omega|fail) only[push_cast,seval,vrl,if_pos,if_neg,hf,h0,h1]
  ·rw[decide_eq_false h0,Bool.false_and,o10 rfl T52 rfl]
   unfold F52 c52
   simp(disch:=first|omega|fail) only[push_cast,seval,vrl,if_pos,if_neg,hf,nb8 h0]
 ·rw[if_neg hf]
  by_cases h0:e=f
  ·subst h0
   have h8:((l.length:Int)=0)=(l.length=0):=by simp only[eq_iff_iff];omega
   rw[decide_eq_true rfl,Bool.true_and,o10 rfl T52 rfl]
   unfold F52 c52
   by_cases hz:l.length=0
   ·rw[decide_eq_true hz]
    simp(disch:=first|omega|fail) only[push_cast,seval,vrl,if_pos,if_neg,nb8 hf,hz]
   ·rw[decide_eq_false hz]
    simp(disch:=first|omega|fail) only[push_cast,seval,vrl,if_pos,if_neg,nb8 hf]
  ·rw[decide_eq_false h0,Bool.false_and,o10 rfl T52 rfl]
   unfold F52 c52
   simp(disch:=first|omega|fail) only[push_cast,seval,vrl,if_pos,if_neg,nb8 hf,nb8 h0]
theorem ea2{l k:List Int}{e f:Int}(hl:l.length≤9223372036854775807):o25 W 16 [.fz b (.sl nl 0 1 (ivs l)), .x (.int .i64 e), .fz b' (.sl nl' 0 1 (ivs k)), .x (.int .i64 f)] []=some (.x (.bool (if f=0 then decide (e=0)&&decide (l=k)else decide (e=f)&&decide (l.length=0))),[],[]):=by
 have h1:=fun b b' nl nl'=>nb2 (b:=b) (b':=b') (nl:=nl) (nl':=nl') (k:=k) hl
 by_cases hf:f=0
 ·rw[if_pos hf]
  by_cases h0:e=0
  ·rw[decide_eq_true h0,Bool.true_and,o10 rfl T16 rfl]
   unfold F16 c16
   simp(disch:=first|omega|fail) only[push_cast,seval,vrl,if_pos,if_neg,hf,h0,h1]
  ·rw[decide_eq_false h0,Bool.false_and,o10 rfl T16 rfl]
   unfold F16 c16
   simp(disch:=first|omega|fail) only[push_cast,seval,vrl,if_pos,if_neg,hf,nb8 h0]
 ·rw[if_neg hf]
  by_cases h0:e=f
  ·subst h0
   rw[decide_eq_true rfl,Bool.true_and,o10 rfl T16 rfl]
   unfold F16 c16
   by_cases hz:l.length=0
   ·rw[decide_eq_true hz]
    simp(disch:=first|omega|fail) only[push_cast,seval,vrl,if_pos,if_neg,nb8 hf,hz]
   ·rw[decide_eq_false hz]
    simp(disch:=first|omega|fail) only[push_cast,seval,vrl,if_pos,if_neg,nb8 hf]
  ·rw[decide_eq_false h0,Bool.false_and,o10 rfl T16 rfl]
   unfold F16 c16
   simp(disch:=first|omega|fail) only[push_cast,seval,vrl,if_pos,if_neg,nb8 hf,nb8 h0]
theorem ib6{l k:Int}{e f:Int}:o25 W 46 [.x (.int .i64 l), .x (.int .i64 e), .x (.int .i64 k), .x (.int .i64 f)] []=some (.x (.bool (if f=0 then decide (e=0)&&decide (l=k)else decide (e=f)&&decide (l=0))),[],[]):=by
 by_cases hf:f=0
 ·rw[if_pos hf]
  by_cases h0:e=0
  ·rw[decide_eq_true h0,Bool.true_and,o10 rfl T46 rfl]
   unfold F46 c46
   simp(disch:=first|omega|fail) only[push_cast,seval,vrl,if_pos,if_neg,hf,h0]
  ·rw[decide_eq_false h0,Bool.false_and,o10 rfl T46 rfl]
   unfold F46 c46
   simp(disch:=first|omega|fail) only[push_cast,seval,vrl,if_pos,if_neg,hf,nb8 h0]
 ·rw[if_neg hf]
  by_cases h0:e=f
  ·subst h0
   rw[decide_eq_true rfl,Bool.true_and,o10 rfl T46 rfl]
   unfold F46 c46
   simp(disch:=first|omega|fail) only[push_cast,seval,vrl,if_pos,if_neg,nb8 hf]
  ·rw[decide_eq_false h0,Bool.false_and,o10 rfl T46 rfl]
   unfold F46 c46
   simp(disch:=first|omega|fail) only[push_cast,seval,vrl,if_pos,if_neg,nb8 hf,nb8 h0]
section
variable {q:Int} [IsFld q]
theorem e85{p m g:Int}{t:Tree}(u:RFo q p m g t){l:List Int}(hl:l.length≤9223372036854775807): ∀(d i:Nat),i+d=l.length→ ∀ks,
 vgoL W ⟨hNo,[.tmp 4],0⟩ [1,2,5] c55L0 (.blk 0 []::ks) [(1, .fz b (.sl nl 0 1 (ivs l))),(2, .own 0 []),(5, .x (.int .i64 i))] [.pt 26 [.v (.int .i64 q), .v (.int .i64 p), .v (.int .i64 m), .v (.int .i64 g), .fz t]]=
  if((l.drop i).any fun v=> !fok q v)=true then some (.x (.bool false),[],[])else vgo W ⟨hNo,[.tmp 4],0⟩ ks (VFr.of []) [.pt 26 [.v (.int .i64 q), .v (.int .i64 p), .v (.int .i64 m), .v (.int .i64 g), .fz t]]
 |0,i,hi,ks=>by
  rw[oh9 (by omega),if_neg (by simp),sb5 c55L0.eq_def]
  simp(disch:=first|omega|fail) only[push_cast,seval,vrl,if_pos,if_neg]
 |d+1,i,hi,ks=>by
  have ih:=e85 u hl d (i+1) (by omega) ks
  obtain⟨a,ha⟩:=ge6 (l:=l) (i:=i) (by omega)
  have h1:=iat ha
  rw[Int.natCast_add,Int.natCast_one]at ih
  have ht:=u.n
  have ho:=u.o
  have vhas:=fun x:Int=>xb9 (q:=q) (x:=x)
  rw[u.e]at vhas
  rw[i62 ha,List.any_cons]
  cases h:fok q a with
  |true=>
   simp only[h,Bool.not_true,Bool.false_or]
   rw[←ih,sb5 c55L0.eq_def]
   simp(disch:=first|omega|fail) only[push_cast,seval,vrl,if_pos,if_neg,h1,vhas,ht,ho,h]
  |false=>
   simp only[h,Bool.not_false,Bool.true_or,if_true]
   rw[sb5 c55L0.eq_def]
   simp(disch:=first|omega|fail) only[push_cast,seval,vrl,if_pos,if_neg,h1,vhas,ht,ho,h]
theorem q18{l:List Int}(hl:l.length≤9223372036854775807):o25 W 55 [.agg (rFs q), .fz b (.sl nl 0 1 (ivs l))] []=some (.x (.bool (!(l.any fun v=> !fok q v))),[],[]):=by
 obtain⟨p,m,g,t,u⟩:=k75 q
 have e:=fun ks=>e85 (b:=b) (nl:=nl) u hl l.length 0 (by omega) ks
 simp only[Int.natCast_zero,List.take_zero,List.drop_zero,rp2,lz6,x25,List.map_nil,List.length_nil]at e
 have ht:=u.n
 rw[o10 rfl T55 rfl,u.e]
 unfold F55 c55
 simp(disch:=first|omega|fail) only[push_cast,seval,vrl,if_pos,if_neg,ht]
 rw[e]
 cases (l.any fun v=> !fok q v)with
 |true=>rw[if_pos rfl];rfl
 |false=>
  rw[if_neg (by decide)]
  simp(disch:=first|omega|fail) only[push_cast,seval,vrl,if_pos,if_neg]
end
end
section
variable {q n q' n' e:Int} {nl nr nl' nr':Nat} {M M':List (List Int)}
end
section
variable {q:Int} [IsFld q] {k nl nr nl2:Nat} {b:Bool} {N:List (List (El q))} {M:List (List Int)} {w:List Int}
end
section
variable {k:FuncId} {p:Int→Bool} {l:List Int} {nl:Nat}
end
section
variable {q:Int} [IsFld q] {k nl nr nl2:Nat} {b:Bool} {N:List (List (El q))}
end
def fewQ(q:Int):Nat→Int→Bool
 |0,_=>true
 |d+1,n=>if 4096<n*q then false else fewQ q d (n*q)
end Go.Proofs.YtoglhlonhmmieaaGreat
